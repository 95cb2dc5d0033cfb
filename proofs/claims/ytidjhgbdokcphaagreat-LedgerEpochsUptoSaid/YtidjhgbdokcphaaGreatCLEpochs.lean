/- Own work, some of it printed by program, texts that were built one by one and are laid one behind the other here: package ledger: Cut, Install, Compact: walked. | parts of slices; a ledger that is being made. | package ledger: renew, Compact, Install: walked. | scripts of law 09: plain. | LedgerMarks: walked. | a formatted ledger, and what opens behind a crash: plain. | pick, text, does; LedgerEpochs: walked. | from what a call is given to the atoms of SlCore, and back to what a statement asks. | strings and rows of strings as arguments. | nested arguments decoded: slices of structs, and what the row says of their weight. | arguments of a bounded bulk (the second form's bound), decoded. | arguments of law 09, decoded with their weights. | scripts of law 09, decoded. | ledgerEpochs: the walk, brought to the given second form and its card. -/
import Derived.Test.YtidjhgbdokcphaaGreatCLEpochsP3
import Derived.Test.YtidjhgbdokcphaaGreatCLEpochsP0
import Derived.Test.YtidjhgbdokcphaaGreatRows
import Derived.WalkKit
import Derived.ProofKit
import Derived.OpenShut
import Derived.JoinedCond
import Derived.Carry
import Derived.Deep.Grids
import Derived.Handed
import Derived.Deep.Strs
set_option linter.unusedSimpArgs false
set_option linter.unusedVariables false
/- Own work, by program: package ledger: Cut, Install, Compact: walked. -/
namespace Go.Proofs.YtidjhgbdokcphaaGreat
open Go
set_option maxRecDepth 100000 in
theorem cloneI_spec (v : Value) (n : Nat) (xs : List Value) (p : HP) (hr : ∀ h : Hp, p h → rdS 1 h v n xs) (hc : ∀ y ∈ xs, isCell y = true) (hb : n ≤ 4294967296) : Fn Tryz.prog 181 #[v] [p] fun u L => (∃ a c, u = .slice a n c) ∧ L = [slR 3 1 u n xs, p] := by
 refine Fn.intro (vs := [v]) Tryz.func181 rfl rfl ?_
 intro F W
 refine G.rdAny (p := p) hr (by (repeat' constructor)) fun aa ca e hlen => ?_
 subst e
 refine G.seq (G.region (G.q (Quiet.assign rfl) rfl (G.nil (G.then_n (G.seq (G.seq (G.region (G.q (Quiet.move rfl) rfl ?_))))))))
 rcases aa with _ | aa
 ·refine G.q (Quiet.sleq rfl rfl Tryz.underlying31) rfl (G.nil (G.then_n (G.condT rfl (G.seq (G.region (G.q (Quiet.assign rfl) rfl (G.nil (G.then_n (G.ret (G.then_r ?_))))))))))
  refine G.nilEmpty (p := p) hr (by (repeat' constructor)) fun e1 e2 => ?_
  subst e1; subst e2
  refine G.add (slR_nil 3 1) ?_
  exact G.done (l := [.tmp 2]) rfl rfl ⟨⟨_, _, rfl⟩, rfl⟩ (by (repeat' constructor)) (by (repeat' constructor))
 ·refine G.q (Quiet.sleq rfl rfl Tryz.underlying31) rfl (G.nil (G.then_n (G.condF rfl (G.skip (G.then_n (G.seq (G.region ?_)))))))
  refine G.op (OpSpec.buildSlice1 (vs := []) el_31 ze_3 rfl rfl rfl rfl rfl (by decide)) (by (repeat' constructor)) rfl ?nx6
  rintro v L' ⟨b0, rfl, rfl⟩
  refine G.q (Quiet.move rfl) rfl ?_
  refine G.slMake (n := 0) (c := 0) (xs := []) (b := b0) (by (repeat' constructor)) (Nat.le_refl _) (Nat.zero_le _) rfl ?_
  refine G.op (OpSpec.append (n := 0) (m := n) (xs := []) (ys := xs) (p := p) rfl rfl rfl el_31 (.inl ⟨_, Tryz.underlying31⟩) ze_3 rfl rfl ?hc9 ?hr10 ?hb11 (by decide)) (by (repeat' constructor)) rfl ?nx12
  case hc9 => exact hc
  case hr10 => exact hr
  case hb11 => omega
  rintro v L' ⟨⟨a1, c1, rfl⟩, rfl⟩; rw [Nat.zero_add, List.nil_append]
  refine G.q (Quiet.assign rfl) rfl (G.nil (G.then_n (G.ret ?_)))
  exact G.done (l := [.tmp 2]) rfl rfl ⟨⟨_, _, rfl⟩, rfl⟩ (by (repeat' constructor)) (by (repeat' constructor))

set_option maxRecDepth 100000 in
theorem snan_spec (a : Int) : Fn Tryz.prog 175 #[vint a] [] fun v L => v = .bool false ∧ L = [] := by
 refine Fn.intro (vs := [vint a]) Tryz.func175 rfl rfl ?_
 intro F W
 refine G.seq (G.region (G.q (Quiet.assign rfl) rfl (G.nil (G.then_n (G.seq (G.region (G.q (Quiet.move rfl) rfl (G.q (Quiet.move rfl) rfl ?_))))))))
 refine G.q (Quiet.as (v' := .bool false) (by simp) (Quiet.int rfl rfl rfl)) rfl ?_
 refine G.q (Quiet.assign rfl) rfl (G.nil (G.then_n (G.ret ?_)))
 exact G.done (l := [.tmp 2]) rfl rfl ⟨rfl, rfl⟩ (by (repeat' constructor)) (by (repeat' constructor))

set_option maxRecDepth 100000 in
theorem cnan_spec (a : Int) : Fn Tryz.prog 201 #[vint a] [] fun v L => v = .bool false ∧ L = [] := by
 refine Fn.intro (vs := [vint a]) Tryz.func201 rfl rfl ?_
 intro F W
 refine G.seq (G.region (G.q (Quiet.assign rfl) rfl (G.nil (G.then_n (G.seq (G.region (G.q (Quiet.move rfl) rfl (G.q (Quiet.move rfl) rfl ?_))))))))
 refine G.q (Quiet.as (v' := .bool false) (by simp) (Quiet.int rfl rfl rfl)) rfl ?_
 refine G.q (Quiet.assign rfl) rfl (G.nil (G.then_n (G.ret ?_)))
 exact G.done (l := [.tmp 2]) rfl rfl ⟨rfl, rfl⟩ (by (repeat' constructor)) (by (repeat' constructor))

set_option maxRecDepth 100000 in
theorem less_spec (a b : Int) : Fn Tryz.prog 174 #[vint a, vint b] [] fun v L => v = .bool (decide (a < b)) ∧ L = [] := by
 refine Fn.intro (vs := [vint a, vint b]) Tryz.func174 rfl rfl ?_
 intro F W
 refine G.seq (G.region (G.q (Quiet.assign rfl) rfl (G.nil (G.then_n (G.seq (G.region (G.q (Quiet.move rfl) rfl ?_)))))))
 refine G.op (OpSpec.call Tryz.func201 rfl rfl (vs := [_]) rfl (cnan_spec a)) (by (repeat' constructor)) rfl ?nx3
 rintro v L' ⟨rfl, rfl⟩
 refine G.q (Quiet.move rfl) rfl (G.gskip (t := 7) rfl rfl rfl rfl (G.gskip (t := 7) rfl rfl rfl rfl (G.gskip (t := 7) rfl rfl rfl rfl (G.q (Quiet.pickF rfl rfl) rfl (G.q (Quiet.move rfl) rfl (G.grun (t := 12) rfl rfl rfl (G.q (Quiet.move rfl) rfl (G.grun (t := 12) rfl rfl rfl (G.q (Quiet.move rfl) rfl (G.grun (t := 12) rfl rfl rfl (G.q (Quiet.int rfl rfl rfl) rfl (G.q (Quiet.pickF rfl rfl) rfl (G.q (Quiet.assign rfl) rfl (G.nil (G.then_n (G.ret ?_))))))))))))))))
 exact G.done (l := [.tmp 4]) rfl rfl ⟨rfl, rfl⟩ (by (repeat' constructor)) (by (repeat' constructor))

theorem bs_in {zs : List Int} {z : Int} {i : Nat} (hs : zs.Pairwise (· < ·)) (hi : i < zs.length) (h : zs.getD i 0 = z) : z ∈ zs ∧ i = zs.idxOf z := by
  have e : zs[i] = z := by simpa [List.getD_eq_getElem?_getD, hi] using h
  have hn : zs.Nodup := hs.imp (fun h => by omega)
  refine ⟨e ▸ List.getElem_mem hi, ?_⟩
  have hl := List.idxOf_lt_length_of_mem (e ▸ List.getElem_mem hi : z ∈ zs)
  have h1 : zs[zs.idxOf z] = z := List.getElem_idxOf hl
  exact (List.getElem_inj hn).1 (e.trans h1.symm)
theorem bs_out {zs : List Int} {z : Int} {i : Nat} (hs : zs.Pairwise (· < ·)) (h1 : ∀ k, k < i → zs.getD k 0 < z) (h2 : ∀ k, i ≤ k → k < zs.length → z ≤ zs.getD k 0) (h : ¬ (i < zs.length ∧ zs.getD i 0 = z)) : ¬ z ∈ zs := by
  intro hm
  obtain ⟨k, hk, hz⟩ := List.mem_iff_getElem.1 hm
  have e : zs.getD k 0 = z := by simpa [List.getD_eq_getElem?_getD, hk] using hz
  rcases Nat.lt_or_ge k i with g | g
  · have := h1 k g; omega
  · have hi : i < zs.length := by omega
    have h3 := h2 i (Nat.le_refl _) hi
    rcases Nat.eq_or_lt_of_le g with g | g
    · subst g; exact h ⟨hi, e⟩
    · have := List.pairwise_iff_getElem.1 hs i k hi hk g
      have e1 : zs.getD i 0 = zs[i] := by simp [List.getD_eq_getElem?_getD, hi]
      exact h ⟨hi, by omega⟩
theorem half_conv (a b : Nat) (h : a + b ≤ 8589934592) : Value.int .i64 (IntKind.i64.wrap ((IntKind.u64.wrap ((a : Int) + b)).fdiv (2 ^ min (1 : Int).toNat IntKind.u64.bits))) = vint (((a + b) / 2 : Nat) : Int) := by
  have e1 : IntKind.u64.wrap ((a : Int) + b) = ((a + b : Nat) : Int) := by
    simp [IntKind.wrap, IntKind.bits, IntKind.signed]; omega
  rw [e1]
  have e2 : ((a + b : Nat) : Int).fdiv (2 ^ min (1 : Int).toNat IntKind.u64.bits) = (((a + b) / 2 : Nat) : Int) := by
    show ((a + b : Nat) : Int).fdiv 2 = _
    rw [Int.fdiv_eq_ediv_of_nonneg _ (by decide)]; omega
  rw [e2]
  have e3 : IntKind.i64.wrap (((a + b) / 2 : Nat) : Int) = (((a + b) / 2 : Nat) : Int) := by
    rw [wrap64]; omega
  rw [e3]
theorem up_at {zs : List Int} (hs : zs.Pairwise (· < ·)) {a b : Nat} (h : a < b) (hb : b < zs.length) : zs.getD a 0 < zs.getD b 0 := by
  have := List.pairwise_iff_getElem.1 hs a b (by omega) hb h
  simpa [List.getD_eq_getElem?_getD, hb, show a < zs.length by omega] using this
theorem up_lt {zs : List Int} (hs : zs.Pairwise (· < ·)) {a b : Nat} {z : Int} (hb : b < zs.length) (h : a < b) (hz : zs.getD b 0 < z) : zs.getD a 0 < z := by
  have := up_at hs h hb; omega
theorem up_ge {zs : List Int} (hs : zs.Pairwise (· < ·)) {a b : Nat} {z : Int} (h : b ≤ a) (ha : a < zs.length) (hz : ¬ zs.getD b 0 < z) : z ≤ zs.getD a 0 := by
  rcases Nat.eq_or_lt_of_le h with g | g
  · subst g; omega
  · have := up_at hs g ha; omega
set_option maxRecDepth 100000 in
theorem bsearch_spec (va : Value) (zs : List Int) (z : Int) (p : HP) (hr : ∀ h : Hp, p h → rdS 1 h va zs.length (ints zs)) (hs : zs.Pairwise (· < ·)) (hl : zs.length ≤ 4294967296) : Fn Tryz.prog 133 #[va, vint z] [p] fun v L => (∃ i : Nat, v = .tuple #[vint i, .bool (decide (z ∈ zs))] ∧ (z ∈ zs → i = zs.idxOf z)) ∧ L = [p] := by
 refine Fn.intro (vs := [va, vint z]) Tryz.func133 rfl rfl ?_
 intro F W
 refine G.rdAny (p := p) hr (by (repeat' constructor)) fun aa ca e0 _ => ?_
 subst e0
 refine G.seq (G.region (G.q (Quiet.assign rfl) rfl (G.q (Quiet.assign rfl) rfl (G.nil (G.then_n (G.seq (G.region (G.q (Quiet.move rfl) rfl (G.q (Quiet.slen rfl Tryz.underlying31 rfl) rfl (G.q (Quiet.assign rfl) rfl (G.nil (G.then_n (G.seq (G.region (G.q (Quiet.move rfl) rfl (G.q (Quiet.assign rfl) rfl (G.q (Quiet.assign rfl) rfl (G.nil (G.then_n (G.seq (G.block ?_)))))))))))))))))))))
 refine G.loopK (ι := Nat × Nat) (fun q E => (7, vint q.1) :: (8, vint q.2) :: E) (fun q => []) (fun q => q.1 ≤ q.2 ∧ q.2 ≤ zs.length ∧ (∀ k, k < q.1 → zs.getD k 0 < z) ∧ ∀ k, q.2 ≤ k → k < zs.length → z ≤ zs.getD k 0) (fun q => q.2 - q.1) (0, zs.length) (ts := [0, 1, 4, 5, 6]) (.cons rfl (.cons rfl (.cons rfl (.cons rfl (.cons rfl (.nil)))))) (⟨Nat.zero_le _, Nat.le_refl _, fun k hk => absurd hk (Nat.not_lt_zero k), fun k h1 h2 => absurd h2 (Nat.not_lt.2 h1)⟩) ⟨rfl, rfl, rfl, rfl, rfl, rfl, rfl, trivial⟩ (by (repeat' constructor)) ?_
 rintro ⟨i, j⟩ ⟨hij, hj, hlo, hhi⟩
 dsimp only
 dsimp only at hij hj hlo hhi
 refine G.seq (G.seq (G.region (G.q (Quiet.move rfl) rfl (G.q (Quiet.move rfl) rfl (G.q (Quiet.int rfl rfl rfl) rfl (G.nil (G.then_n ?_)))))))
 refine G.condD rfl (fun h15 => ?_) (fun h15 => ?_)
 ·have hm : (i + j) / 2 < zs.length := by omega
  refine G.rdShape (p := p) hr (by (repeat' constructor)) (by omega) fun ba oa e => ?_
  subst e
  refine G.skip (G.then_n (G.block (G.seq (G.region (G.q (Quiet.move rfl) rfl (G.q (Quiet.move rfl) rfl ?_))))))
  refine G.q (Quiet.add rfl rfl (by omega)) rfl ?_
  refine G.q (Quiet.conv rfl Tryz.underlying3 Tryz.underlying39) rfl ?_
  refine G.q (Quiet.shr rfl rfl (by first | decide | omega)) rfl ?_
  refine G.q (Quiet.as (v' := vint (((i + j) / 2 : Nat) : Int)) (by exact half_conv i j (by omega)) (Quiet.conv rfl Tryz.underlying39 Tryz.underlying3)) rfl ?_
  refine G.q (Quiet.assign rfl) rfl (G.nil (G.then_n (G.seq (G.region (G.q (Quiet.move rfl) rfl (G.q (Quiet.move rfl) rfl ?_))))))
  refine G.q (Quiet.indexAddr rfl rfl el_31 (by omega)) rfl ?_
  refine G.q (Quiet.loadEl (p := p) (i := ((i + j) / 2) * 1) (v := vint (zs.getD ((i + j) / 2) 0)) rfl ag_3 (by (repeat' constructor)) hr (by have hil : (i + j) / 2 < zs.length := (by omega); simp [ints, List.getD_eq_getElem?_getD, hil])) rfl ?_
  refine G.q (Quiet.move rfl) rfl ?_
  refine G.op (OpSpec.call Tryz.func174 rfl rfl (vs := [_, _]) rfl (less_spec _ z)) (by (repeat' constructor)) rfl ?nx19
  rintro v L' ⟨rfl, rfl⟩
  refine G.nil (G.then_n ?_)
  refine G.condD rfl (fun h27 => ?_) (fun h27 => ?_)
  ·refine G.region (G.q (Quiet.move rfl) rfl ?_)
   refine G.q (Quiet.add rfl rfl (by omega)) rfl ?_
   refine G.q (Quiet.assign rfl) rfl (G.nil (G.blk_n (G.then_n ?_)))
   exact G.roundK (((i + j) / 2 + 1, j)) (⟨by dsimp only; omega, hj, fun k hk => by rcases Nat.lt_or_ge k ((i + j) / 2) with g | g; exact up_lt hs (by omega) g h27; obtain rfl : k = (i + j) / 2 := (by dsimp only at hk; omega); exact h27, hhi⟩) (by dsimp only; omega) ⟨rfl, rfl, rfl, rfl, rfl, rfl, rfl, trivial⟩ (by (repeat' constructor)) (by ((repeat (apply Have.cons; (repeat (first | exact Pick.here | apply Pick.there)))); apply Have.base; repeat' constructor))
  ·refine G.region (G.q (Quiet.move rfl) rfl (G.q (Quiet.assign rfl) rfl (G.nil (G.blk_n (G.then_n ?_)))))
   exact G.roundK ((i, (i + j) / 2)) (⟨by dsimp only; omega, by dsimp only; omega, hlo, fun k h1 h2 => up_ge hs h1 h2 h27⟩) (by dsimp only; omega) ⟨rfl, rfl, rfl, rfl, rfl, rfl, rfl, trivial⟩ (by (repeat' constructor)) (by ((repeat (apply Have.cons; (repeat (first | exact Pick.here | apply Pick.there)))); apply Have.base; repeat' constructor))
 ·refine G.exit (G.then_e (G.then_e (G.blk_e (G.then_n (G.seq (G.region (G.q (Quiet.move rfl) rfl (G.q (Quiet.move rfl) rfl (G.q (Quiet.move rfl) rfl (G.q (Quiet.int rfl rfl rfl) rfl (G.q (Quiet.move rfl) rfl ?_)))))))))))
  refine G.dec (t := 35) rfl (fun h8_35 => ?_) (fun h8_35 => ?_)
  ·refine G.rdShape (p := p) hr (by (repeat' constructor)) (by omega) fun ba oa e => ?_
   subst e
   refine G.kDT (t := 34) rfl h8_35 (G.grun (t := 35) rfl rfl rfl (G.q (Quiet.move rfl) rfl (G.grun (t := 35) rfl rfl rfl (G.q (Quiet.move rfl) rfl (G.grun (t := 35) rfl rfl rfl ?_)))))
   refine G.q (Quiet.indexAddr rfl rfl el_31 (by omega)) rfl ?_
   refine G.grun (t := 35) rfl rfl rfl ?_
   refine G.q (Quiet.loadEl (p := p) (i := (i) * 1) (v := vint (zs.getD (i) 0)) rfl ag_3 (by (repeat' constructor)) hr (by have hil : i < zs.length := (by omega); simp [ints, List.getD_eq_getElem?_getD, hil])) rfl ?_
   refine G.grun (t := 35) rfl rfl rfl (G.q (Quiet.move rfl) rfl (G.grun (t := 35) rfl rfl rfl (G.q (Quiet.int rfl rfl rfl) rfl (G.grun (t := 35) rfl rfl rfl (G.q (Quiet.move rfl) rfl ?_)))))
   refine G.dec (t := 42) rfl (fun h8_42 => ?_) (fun h8_42 => ?_)
   ·refine G.kDT (t := 41) rfl h8_42 (G.gskip (t := 42) rfl rfl rfl rfl (G.gskip (t := 42) rfl rfl rfl rfl (G.gskip (t := 42) rfl rfl rfl rfl (G.gskip (t := 42) rfl rfl rfl rfl (G.gskip (t := 42) rfl rfl rfl rfl (G.gskip (t := 42) rfl rfl rfl rfl (G.gskipU (t := 48) rfl rfl rfl (G.gskipU (t := 48) rfl rfl rfl (G.gskip (t := 42) rfl rfl rfl rfl (G.grun (t := 35) rfl rfl rfl (G.q (Quiet.pickT rfl rfl) rfl (G.q (Quiet.pickT rfl rfl) rfl (G.q (Quiet.assign rfl) rfl (G.q (Quiet.assign rfl) rfl (G.nil (G.then_n (G.ret ?_)))))))))))))))))
    have hji : j = i := by omega
    subst hji
    exact G.done (l := [.tmp 4, .tmp 5]) rfl rfl ⟨⟨_, by rw [decide_eq_true (bs_in hs (by omega) h8_42).1], fun _ => (bs_in hs (by omega) h8_42).2⟩, rfl⟩ (by (repeat' constructor)) (by (repeat' constructor))
   ·refine G.kDF (t := 41) rfl h8_42 (G.grun (t := 42) rfl rfl rfl (G.q (Quiet.move rfl) rfl (G.grun (t := 42) rfl rfl rfl (G.q (Quiet.move rfl) rfl (G.grun (t := 42) rfl rfl rfl ?_)))))
    refine G.q (Quiet.indexAddr rfl rfl el_31 (by omega)) rfl ?_
    refine G.grun (t := 42) rfl rfl rfl ?_
    refine G.q (Quiet.loadEl (p := p) (i := (i) * 1) (v := vint (zs.getD (i) 0)) rfl ag_3 (by (repeat' constructor)) hr (by have hil : i < zs.length := (by omega); simp [ints, List.getD_eq_getElem?_getD, hil])) rfl ?_
    refine G.grun (t := 42) rfl rfl rfl ?_
    refine G.op (OpSpec.call Tryz.func175 rfl rfl (vs := [_]) rfl (snan_spec _)) (by (repeat' constructor)) rfl ?nx37
    rintro v L' ⟨rfl, rfl⟩
    refine G.grun (t := 42) rfl rfl rfl (G.q (Quiet.move rfl) rfl (G.gskip (t := 48) rfl rfl rfl rfl (G.gskip (t := 48) rfl rfl rfl rfl (G.grun (t := 42) rfl rfl rfl (G.q (Quiet.pickF rfl rfl) rfl (G.grun (t := 35) rfl rfl rfl (G.q (Quiet.pickF rfl rfl) rfl (G.q (Quiet.pickT rfl rfl) rfl (G.q (Quiet.assign rfl) rfl (G.q (Quiet.assign rfl) rfl (G.nil (G.then_n (G.ret ?_)))))))))))))
    have hji : j = i := by omega
    subst hji
    exact G.done (l := [.tmp 4, .tmp 5]) rfl rfl ⟨⟨_, by rw [decide_eq_false (bs_out hs hlo hhi (fun g => h8_42 g.2))], fun h => absurd h (bs_out hs hlo hhi (fun g => h8_42 g.2))⟩, rfl⟩ (by (repeat' constructor)) (by (repeat' constructor))
  ·refine G.kDF (t := 34) rfl h8_35 (G.gskip (t := 35) rfl rfl rfl rfl (G.gskip (t := 35) rfl rfl rfl rfl (G.gskip (t := 35) rfl rfl rfl rfl (G.gskip (t := 35) rfl rfl rfl rfl (G.gskip (t := 35) rfl rfl rfl rfl (G.gskip (t := 35) rfl rfl rfl rfl (G.gskip (t := 35) rfl rfl rfl rfl (G.gskipU (t := 42) rfl rfl rfl (G.gskipU (t := 42) rfl rfl rfl (G.gskipU (t := 42) rfl rfl rfl (G.gskipU (t := 42) rfl rfl rfl (G.gskipU (t := 42) rfl rfl rfl (G.gskipU (t := 42) rfl rfl rfl (G.gskipU (t := 48) rfl rfl rfl (G.gskipU (t := 48) rfl rfl rfl (G.gskipU (t := 42) rfl rfl rfl (G.gskip (t := 35) rfl rfl rfl rfl (G.q (Quiet.pickF rfl rfl) rfl (G.q (Quiet.assign rfl) rfl (G.q (Quiet.assign rfl) rfl (G.nil (G.then_n (G.ret ?_)))))))))))))))))))))))
   have hji : j = i := by omega
   subst hji
   exact G.done (l := [.tmp 4, .tmp 5]) rfl rfl ⟨⟨_, by rw [decide_eq_false (bs_out hs hlo hhi (fun g => by omega))], fun h => absurd h (bs_out hs hlo hhi (fun g => by omega))⟩, rfl⟩ (by (repeat' constructor)) (by (repeat' constructor))

set_option maxRecDepth 100000 in
theorem lupto_spec (g x : Nat) (Λ : Lg) (z : Int) (hΛ : LgI Λ) (hs : Λ.zxs.Pairwise (· < ·)) : Fn Tryz.prog 74 #[vptr g, vint z] [lgR g x Λ] fun v L => v = .tuple #[vint ((placeZ Λ z).getD 0 : Nat), .bool (placeZ Λ z).isSome] ∧ L = [lgR g x Λ] := by
 refine Fn.intro (vs := [vptr g, vint z]) Tryz.func74 rfl rfl ?_
 intro F W
 refine G.lgOpen (by (repeat' constructor)) fun ea ec za zc => ?_
 have h1 := hΛ.ents
 have h2 := hΛ.same
 refine G.seq (G.region (G.q (Quiet.assign rfl) rfl (G.q (Quiet.assign rfl) rfl (G.nil (G.then_n (G.seq (G.region (G.q (Quiet.move rfl) rfl (G.q (Quiet.nilp rfl) rfl (G.q (Quiet.fieldAddr rfl fo_79_5) rfl ?_))))))))))
 refine G.q (Quiet.load rfl ag_31 (by (repeat' constructor)) (rfl)) rfl ?_
 refine G.q (Quiet.move rfl) rfl ?_
 refine G.op (OpSpec.call Tryz.func133 rfl rfl (vs := [_, _]) rfl (bsearch_spec _ Λ.zxs z (intR (.slice za Λ.zxs.length zc) Λ.zxs) (fun h hp => slR_rd hp) hs (by omega))) (by (repeat' constructor)) rfl ?nx8
 rintro v L' ⟨⟨i, rfl, hix⟩, rfl⟩
 refine G.q (Quiet.move rfl) rfl (G.q (Quiet.extract rfl rfl) rfl (G.q (Quiet.extract rfl rfl) rfl (G.q (Quiet.assign rfl) rfl (G.q (Quiet.assign rfl) rfl (G.nil (G.then_n (G.seq (G.seq (G.region (G.q (Quiet.move rfl) rfl (G.nil (G.then_n ?_))))))))))))
 refine G.condD rfl (fun h17 => ?_) (fun h17 => ?_)
 ·have hil := List.idxOf_lt_length_of_mem h17
  have hi := hix h17
  refine G.seq (G.region (G.q (Quiet.move rfl) rfl ?_))
  refine G.q (Quiet.add rfl rfl (by omega)) rfl ?_
  refine G.q (Quiet.assign rfl) rfl (G.q (Quiet.assign rfl) rfl (G.nil (G.then_n (G.ret (G.then_r ?_)))))
  refine G.lgFold (g := g) (x := x) (ea := ea) (ec := ec) (za := za) (zc := zc) (m := Λ.ents.length) (k := Λ.zxs.length) Λ (by (repeat' constructor)) (by exact rfl) (by first | rfl | simp [Lg.keep]) (by first | rfl | simp [Lg.keep]) (by first | rfl | simp [Lg.keep]) (by first | rfl | simp [Lg.keep]) ?_
  have hp : placeZ Λ z = some (Λ.zxs.idxOf z + 1) := by unfold placeZ; rw [if_pos h17]
  rw [hp, hi]
  exact G.done (l := [.tmp 4, .tmp 5]) rfl rfl ⟨by simp, rfl⟩ (by (repeat' constructor)) (by (repeat' constructor))
 ·refine G.skip (G.then_n (G.seq ?_))
  refine G.draw [] [[0, 1, 2, 3, 4, 5, 6, 7]] mixed (by kernel_rfl) ?_
  refine Phases.go [] (by (repeat' constructor)) ?_
  refine D.qw [5, 7] rfl (by kernel_rfl) (Quiet.move rfl) ?_
  refine D.qw [2, 3, 4, 5, 7] rfl (by kernel_rfl) (Quiet.move rfl) ?_
  refine D.qw [3, 4, 5, 7] rfl (by kernel_rfl) (Quiet.nilp rfl) ?_
  refine D.qw [4, 5, 7] rfl (by kernel_rfl) (Quiet.fieldAddr rfl fo_79_2) ?_
  refine D.qw [5, 7] rfl (by kernel_rfl) (Quiet.load rfl ag_3 (by (repeat' constructor)) (rfl)) ?_
  refine D.qw [7] rfl (by kernel_rfl) (Quiet.int rfl rfl rfl) ?_
  refine D.qw [7] rfl (by kernel_rfl) (Quiet.assign rfl) ?_
  refine D.qw [] rfl (by kernel_rfl) (Quiet.assign rfl) ?_
  refine D.ph (Phases.fin (G.then_n (G.ret ?_)))
  refine G.lgFold (g := g) (x := x) (ea := ea) (ec := ec) (za := za) (zc := zc) (m := Λ.ents.length) (k := Λ.zxs.length) Λ (by (repeat' constructor)) (by exact rfl) (by first | rfl | simp [Lg.keep]) (by first | rfl | simp [Lg.keep]) (by first | rfl | simp [Lg.keep]) (by first | rfl | simp [Lg.keep]) ?_
  have hp : placeZ Λ z = if z = Λ.base then some 0 else none := by unfold placeZ; rw [if_neg h17]
  rw [hp]
  exact G.done (l := [.tmp 4, .tmp 5]) rfl rfl ⟨by by_cases hz : z = Λ.base <;> simp [hz], rfl⟩ (by (repeat' constructor)) (by (repeat' constructor))

set_option maxRecDepth 100000 in
theorem lmetC_spec (g x : Nat) (Λ : Lg) (e : Int) (ea : Option Addr) (ec : Nat) (za : Option Addr) (zc : Nat) : Fn Tryz.prog 50 #[vptr g, vint e] [ptc g [vint Λ.acc, vint Λ.cur, vptr x, vint Λ.base, vstr Λ.snap, .slice ea Λ.ents.length ec, .slice za Λ.zxs.length zc, .bool Λ.doubt] 79] fun v L => v = vint (metE e) ∧ L = [ptc g [vint Λ.acc, vint Λ.cur, vptr x, vint Λ.base, vstr Λ.snap, .slice ea Λ.ents.length ec, .slice za Λ.zxs.length zc, .bool (Λ.met e).doubt] 79] := by
 refine Fn.intro (vs := [vptr g, vint e]) Tryz.func50 rfl rfl ?_
 intro F W
 refine G.seq (G.region (G.q (Quiet.assign rfl) rfl (G.nil (G.then_n (G.seq (G.seq (G.region (G.q (Quiet.move rfl) rfl (G.nil (G.then_n (G.block (G.seq (G.region (G.q (Quiet.int rfl rfl rfl) rfl (G.q (Quiet.assign rfl) rfl (G.nil (G.then_n ?_)))))))))))))))))
 refine G.condD rfl (fun h6 => ?_) (fun h6 => ?_)
 ·refine G.region (G.q (Quiet.move rfl) rfl (G.q (Quiet.nilp rfl) rfl (G.q (Quiet.fieldAddr rfl fo_79_6) rfl ?_)))
  refine G.op (OpSpec.store rfl rfl rfl sz_4 ?c7 ?c8) (by (repeat' constructor)) rfl ?nx9
  case c7 => first | decide | (simp; omega) | simp
  case c8 => exact nfz0 _ _
  rintro v L' rfl
  refine G.nil (G.blk_n (G.then_n (G.seq (G.region (G.q (Quiet.move rfl) rfl (G.q (Quiet.assign rfl) rfl (G.nil (G.then_n (G.ret ?_)))))))))
  have hm : (Λ.met e).doubt = true := by unfold Lg.met; rw [if_pos h6]
  have he : metE e = e := by unfold metE; rw [if_neg (by omega)]
  rw [hm, he]
  exact G.done (l := [.tmp 4]) rfl rfl ⟨rfl, rfl⟩ (by (repeat' constructor)) (by (repeat' constructor))
 ·refine G.seq (G.seq (G.region (G.q (Quiet.int rfl rfl rfl) rfl (G.q (Quiet.assign rfl) rfl (G.nil (G.then_n ?_))))))
  refine G.dec (t := 11) rfl (fun h11 => ?_) (fun h11 => ?_)
  ·refine G.condT rfl (G.skip (G.then_n (G.condT rfl (G.seq (G.region (G.q (Quiet.assign rfl) rfl (G.nil (G.then_n (G.ret (G.blk_r (G.then_r ?_)))))))))))
   have hm : (Λ.met e).doubt = Λ.doubt := by unfold Lg.met; rw [if_neg h6]
   have he : metE e = 83 := by unfold metE; rw [if_pos (by omega)]
   rw [hm, he]
   exact G.done (l := [.tmp 4]) rfl rfl ⟨rfl, rfl⟩ (by (repeat' constructor)) (by (repeat' constructor))
  ·refine G.condF rfl (G.region (G.q (Quiet.int rfl rfl rfl) rfl (G.q (Quiet.assign rfl) rfl (G.nil (G.then_n ?_)))))
   refine G.dec (t := 11) rfl (fun h11 => ?_) (fun h11 => ?_)
   ·refine G.condT rfl (G.seq (G.region (G.q (Quiet.assign rfl) rfl (G.nil (G.then_n (G.ret (G.blk_r (G.then_r ?_))))))))
    have hm : (Λ.met e).doubt = Λ.doubt := by unfold Lg.met; rw [if_neg h6]
    have he : metE e = 83 := by unfold metE; rw [if_pos (by omega)]
    rw [hm, he]
    exact G.done (l := [.tmp 4]) rfl rfl ⟨rfl, rfl⟩ (by (repeat' constructor)) (by (repeat' constructor))
   ·refine G.condF rfl (G.skip (G.blk_n (G.then_n (G.seq (G.region (G.q (Quiet.move rfl) rfl (G.q (Quiet.assign rfl) rfl (G.nil (G.then_n (G.ret ?_))))))))))
    have hm : (Λ.met e).doubt = Λ.doubt := by unfold Lg.met; rw [if_neg h6]
    have he : metE e = e := by unfold metE; rw [if_neg (by omega)]
    rw [hm, he]
    exact G.done (l := [.tmp 4]) rfl rfl ⟨rfl, rfl⟩ (by (repeat' constructor)) (by (repeat' constructor))

theorem met_acc {Λ : Lg} {e : Int} : (Λ.met e).acc = Λ.acc := by unfold Lg.met; split <;> rfl
theorem met_cur {Λ : Lg} {e : Int} : (Λ.met e).cur = Λ.cur := by unfold Lg.met; split <;> rfl
theorem met_base {Λ : Lg} {e : Int} : (Λ.met e).base = Λ.base := by unfold Lg.met; split <;> rfl
theorem met_snap {Λ : Lg} {e : Int} : (Λ.met e).snap = Λ.snap := by unfold Lg.met; split <;> rfl
theorem met_ents {Λ : Lg} {e : Int} : (Λ.met e).ents = Λ.ents := by unfold Lg.met; split <;> rfl
theorem met_zxs {Λ : Lg} {e : Int} : (Λ.met e).zxs = Λ.zxs := by unfold Lg.met; split <;> rfl
theorem doubt_of {Λ : Lg} {e : Int} (h : metE e = 0) : (Λ.met e).doubt = Λ.doubt := by
  unfold Lg.met
  rw [if_neg]
  intro g; rw [g] at h; exact absurd h (by decide)
set_option maxRecDepth 100000 in
theorem lcut_spec (g x d : Nat) (δ : Dk) (ω : Wl) (Λ : Lg) (z : Int) (hI : WlI δ ω) (hΛ : LgI Λ) (hs : Λ.zxs.Pairwise (· < ·)) (hsn : Λ.snap.length ≤ 65536) : Fn Tryz.prog 27 #[vptr g, vint z] [lgR g x Λ, wlR x d ω, dkR d δ] fun v L => v = vint (lgCut ⟨δ, ω, Λ⟩ z).2 ∧ L = [lgR g x (lgCut ⟨δ, ω, Λ⟩ z).1.Λ, wlR x d (lgCut ⟨δ, ω, Λ⟩ z).1.ω, dkR d (lgCut ⟨δ, ω, Λ⟩ z).1.δ] := by
 refine Fn.intro (vs := [vptr g, vint z]) Tryz.func27 rfl rfl ?_
 intro F W
 refine G.lgOpen (by (repeat' constructor)) fun ea ec za zc => ?_
 have h1 := hΛ.ents
 have h2 := hΛ.same
 have h0 := headL_len Λ.base Λ.snap hsn
 refine G.seq (G.region (G.q (Quiet.assign rfl) rfl (G.nil (G.then_n (G.seq (G.seq (G.region (G.q (Quiet.move rfl) rfl (G.q (Quiet.nilp rfl) rfl (G.q (Quiet.fieldAddr rfl fo_79_6) rfl ?_))))))))))
 refine G.q (Quiet.load rfl ag_4 (by (repeat' constructor)) (rfl)) rfl ?_
 refine G.nil (G.then_n ?_)
 refine G.condB rfl (fun h11 => ?_) (fun h11 => ?_)
 ·refine G.seq (G.region (G.q (Quiet.assign rfl) rfl (G.nil (G.then_n (G.ret (G.then_r ?_))))))
  have hr : lgCut ⟨δ, ω, Λ⟩ z = (⟨δ, ω, Λ⟩, 2) := by unfold lgCut; dsimp only; rw [if_pos h11]
  rw [hr]
  try dsimp only
  refine G.lgFold (g := g) (x := x) Λ (by (repeat' constructor)) (by exact rfl) (by first | rfl | simp [Lg.keep]) (by first | rfl | simp [Lg.keep]) (by first | rfl | simp [Lg.keep]) (by first | rfl | simp [Lg.keep]) ?_
  exact G.done (l := [.tmp 4]) rfl rfl ⟨rfl, rfl⟩ (by (repeat' constructor)) (by (repeat' constructor))
 ·refine G.skip (G.then_n (G.seq ?_))
  refine G.lgFold (g := g) (x := x) Λ (by (repeat' constructor)) (by exact rfl) (by first | rfl | simp [Lg.keep]) (by first | rfl | simp [Lg.keep]) (by first | rfl | simp [Lg.keep]) (by first | rfl | simp [Lg.keep]) ?_
  refine G.region (G.q (Quiet.move rfl) rfl (G.q (Quiet.move rfl) rfl ?_))
  refine G.op (OpSpec.call Tryz.func74 rfl rfl (vs := [_, _]) rfl (lupto_spec g x Λ z hΛ hs)) (by (repeat' constructor)) rfl ?nx9
  rintro v L' ⟨rfl, rfl⟩
  refine G.q (Quiet.move rfl) rfl (G.q (Quiet.extract rfl rfl) rfl (G.q (Quiet.extract rfl rfl) rfl (G.q (Quiet.assign rfl) rfl (G.q (Quiet.assign rfl) rfl (G.nil (G.then_n (G.seq (G.seq (G.region ?_)))))))))
  rcases hpl : placeZ Λ z with _ | n
  ·refine G.q (Quiet.move rfl) rfl (G.q (Quiet.not rfl) rfl (G.nil (G.then_n (G.condT rfl (G.seq (G.region (G.q (Quiet.assign rfl) rfl (G.nil (G.then_n (G.ret (G.then_r ?_)))))))))))
   have hr : lgCut ⟨δ, ω, Λ⟩ z = (⟨δ, ω, Λ⟩, 81) := by unfold lgCut; dsimp only; rw [if_neg (by rw [h11]; decide), hpl]
   rw [hr]
   try dsimp only
   exact G.done (l := [.tmp 4]) rfl rfl ⟨rfl, rfl⟩ (by (repeat' constructor)) (by (repeat' constructor))
  ·simp only [Option.getD_some]
   have hpe := (place_le hpl).1
   refine G.q (Quiet.move rfl) rfl (G.q (Quiet.not rfl) rfl (G.nil (G.then_n (G.condF rfl (G.skip (G.then_n (G.seq ?_)))))))
   refine G.lgOpen (by (repeat' constructor)) fun ea ec za zc => ?_
   refine G.slAddr (a := ea) (c := ec) (by (repeat' constructor)) fun hcap1 hadea => ?_
   refine G.slAddr (a := za) (c := zc) (by (repeat' constructor)) fun hcap2 hadza => ?_
   refine G.draw [4, 8, 12, 13, 17, 18] [[0, 1, 2, 3, 5, 6, 7, 9, 10, 11, 15, 8, 12, 13, 14, 16, 4, 17], [18], [19]] mixed (by kernel_rfl) ?_
   refine Phases.go [] (by (repeat' constructor)) ?_
   refine D.q rfl (by kernel_rfl) (Quiet.move rfl) ?_
   refine D.q rfl (by kernel_rfl) (Quiet.move rfl) ?_
   refine D.q rfl (by kernel_rfl) (Quiet.nilp rfl) ?_
   refine D.q rfl (by kernel_rfl) (Quiet.fieldAddr rfl fo_79_1) ?_
   refine D.q rfl (by kernel_rfl) (Quiet.move rfl) ?_
   refine D.q rfl (by kernel_rfl) (Quiet.nilp rfl) ?_
   refine D.q rfl (by kernel_rfl) (Quiet.fieldAddr rfl fo_79_2) ?_
   refine D.q rfl (by kernel_rfl) (Quiet.move rfl) ?_
   refine D.q rfl (by kernel_rfl) (Quiet.nilp rfl) ?_
   refine D.q rfl (by kernel_rfl) (Quiet.fieldAddr rfl fo_79_3) ?_
   refine D.q rfl (by kernel_rfl) (Quiet.move rfl) ?_
   refine D.h3 (k := 12) (l := 4) rfl rfl rfl (by kernel_rfl) rfl rfl (Quiet.spec (L := [ptc g [vint Λ.acc, vint Λ.cur, vptr x, vint Λ.base, vstr Λ.snap, .slice ea Λ.ents.length ec, .slice za Λ.zxs.length zc, .bool Λ.doubt] 79]) (Quiet.load rfl ag_3 (by (repeat' constructor)) rfl)) (by (repeat' constructor)) (Quiet.spec (L := [ptc g [vint Λ.acc, vint Λ.cur, vptr x, vint Λ.base, vstr Λ.snap, .slice ea Λ.ents.length ec, .slice za Λ.zxs.length zc, .bool Λ.doubt] 79]) (Quiet.load rfl ag_9 (by (repeat' constructor)) rfl)) (by (repeat' constructor)) (Quiet.spec (L := [ptc g [vint Λ.acc, vint Λ.cur, vptr x, vint Λ.base, vstr Λ.snap, .slice ea Λ.ents.length ec, .slice za Λ.zxs.length zc, .bool Λ.doubt] 79]) (Quiet.load rfl ag_77 (by (repeat' constructor)) rfl)) (by (repeat' constructor)) ?nx26 ?nx27 ?nx28
   ·rintro v L' ⟨rfl, rfl⟩
    refine D.h2 (k := 4) rfl rfl (by kernel_rfl) rfl (Quiet.spec (L := [ptc g [vint Λ.acc, vint Λ.cur, vptr x, vint Λ.base, vstr Λ.snap, .slice ea Λ.ents.length ec, .slice za Λ.zxs.length zc, .bool Λ.doubt] 79]) (Quiet.load rfl ag_9 (by (repeat' constructor)) rfl)) (by (repeat' constructor)) (Quiet.spec (L := [ptc g [vint Λ.acc, vint Λ.cur, vptr x, vint Λ.base, vstr Λ.snap, .slice ea Λ.ents.length ec, .slice za Λ.zxs.length zc, .bool Λ.doubt] 79]) (Quiet.load rfl ag_77 (by (repeat' constructor)) rfl)) (by (repeat' constructor)) ?nx30 ?nx31
    ·rintro v L' ⟨rfl, rfl⟩
     refine D.h2 (k := 4) rfl rfl (by kernel_rfl) rfl (OpSpec.call Tryz.func46 rfl rfl (vs := [_, _]) rfl (lahead_spec Λ.base Λ.snap hΛ.base (by omega))) (by (repeat' constructor)) (Quiet.spec (L := [ptc g [vint Λ.acc, vint Λ.cur, vptr x, vint Λ.base, vstr Λ.snap, .slice ea Λ.ents.length ec, .slice za Λ.zxs.length zc, .bool Λ.doubt] 79]) (Quiet.load rfl ag_77 (by (repeat' constructor)) rfl)) (by (repeat' constructor)) ?nx33 ?nx34
     ·rintro v L' ⟨bh, ch, rfl, rfl⟩
      refine D.q rfl (by kernel_rfl) (Quiet.slen rfl Tryz.underlying46 rfl) ?_
      refine D.q rfl (by kernel_rfl) (Quiet.as (v' := vint (((headL Λ.base Λ.snap).length + n : Nat) : Int)) (by simp) (Quiet.add rfl rfl (by omega))) ?_
      refine D.h rfl (by kernel_rfl) (Quiet.spec (L := [ptc g [vint Λ.acc, vint Λ.cur, vptr x, vint Λ.base, vstr Λ.snap, .slice ea Λ.ents.length ec, .slice za Λ.zxs.length zc, .bool Λ.doubt] 79]) (Quiet.load rfl ag_77 (by (repeat' constructor)) rfl)) (by (repeat' constructor)) ?nx38
      rintro v L' ⟨rfl, rfl⟩
      refine D.h rfl (by kernel_rfl) (OpSpec.call Tryz.func75 rfl rfl (vs := [_, _]) rfl (wcut_spec x d ω δ (((headL Λ.base Λ.snap).length + n : Nat) : Int) hI)) (by (repeat' constructor)) ?nx40
      rintro v L' ⟨rfl, rfl⟩
      refine D.ph ?_
      refine Phases.go [] (by (repeat' constructor)) ?_
      refine D.h rfl (by kernel_rfl) (OpSpec.call Tryz.func50 rfl rfl (vs := [_, _]) rfl (lmetC_spec g x Λ _ ea ec za zc)) (by (repeat' constructor)) ?nx42
      rintro v L' ⟨rfl, rfl⟩
      refine D.ph ?_
      refine Phases.go [] (by (repeat' constructor)) ?_
      refine D.qw [] rfl (by kernel_rfl) (Quiet.assign rfl) ?_
      refine D.ph (Phases.fin (G.then_n (G.seq (G.seq (G.region (G.q (Quiet.move rfl) rfl (G.q (Quiet.int rfl rfl rfl) rfl (G.nil (G.then_n ?_)))))))))
      refine G.condD rfl (fun h40 => ?_) (fun h40 => ?_)
      ·refine G.draw [16, 19] [[0, 1, 2, 3, 4, 5, 6, 7, 8, 9, 10, 11, 12, 13, 14, 15, 16], [17, 18, 19]] mixed (by kernel_rfl) ?_
       refine Phases.go [] (by (repeat' constructor)) ?_
       refine D.qw [14, 15, 16] rfl (by kernel_rfl) (Quiet.move rfl) ?_
       refine D.q rfl (by kernel_rfl) (Quiet.move rfl) ?_
       refine D.qw [3, 4, 5, 7, 14, 15, 16] rfl (by kernel_rfl) (Quiet.move rfl) ?_
       refine D.qw [4, 5, 7, 14, 15, 16] rfl (by kernel_rfl) (Quiet.nilp rfl) ?_
       refine D.qw [5, 7, 14, 15, 16] rfl (by kernel_rfl) (Quiet.fieldAddr rfl fo_79_4) ?_
       refine D.qw [7, 14, 15, 16] rfl (by kernel_rfl) (Quiet.load rfl ag_46 (by (repeat' constructor)) (rfl)) ?_
       refine D.qw [7, 14, 15, 16] rfl (by kernel_rfl) (Quiet.move rfl) ?_
       refine D.qw [14, 15, 16] rfl (by kernel_rfl) (Quiet.to (v' := .slice ea n ec) (Quiet.slTo (j := (n : Int)) rfl el_46 rfl (by omega) hadea) (by rw [Int.toNat_natCast])) ?_
       refine D.qw [9, 10, 11, 13, 14, 15, 16] rfl (by kernel_rfl) (Quiet.move rfl) ?_
       refine D.qw [10, 11, 13, 14, 15, 16] rfl (by kernel_rfl) (Quiet.nilp rfl) ?_
       refine D.qw [11, 13, 14, 15, 16] rfl (by kernel_rfl) (Quiet.fieldAddr rfl fo_79_5) ?_
       refine D.qw [13, 14, 15, 16] rfl (by kernel_rfl) (Quiet.load rfl ag_31 (by (repeat' constructor)) (rfl)) ?_
       refine D.q rfl (by kernel_rfl) (Quiet.move rfl) ?_
       refine D.q rfl (by kernel_rfl) (Quiet.to (v' := .slice za n zc) (Quiet.slTo (j := (n : Int)) rfl el_31 rfl (by omega) hadza) (by rw [Int.toNat_natCast])) ?_
       refine D.qw [15, 16] rfl (by kernel_rfl) (Quiet.nilp rfl) ?_
       refine D.qw [16] rfl (by kernel_rfl) (Quiet.fieldAddr rfl fo_79_4) ?_
       refine D.h rfl (by kernel_rfl) (OpSpec.store rfl rfl rfl sz_46 ?c59 ?c60) (by (repeat' constructor)) ?nx61
       case c59 => first | decide | (simp; omega) | simp
       case c60 => exact nfz0 _ _
       rintro v L' rfl
       refine D.ph ?_
       refine Phases.go [] (by (repeat' constructor)) ?_
       refine D.qw [18, 19] rfl (by kernel_rfl) (Quiet.nilp rfl) ?_
       refine D.qw [19] rfl (by kernel_rfl) (Quiet.fieldAddr rfl fo_79_5) ?_
       refine D.h rfl (by kernel_rfl) (OpSpec.store rfl rfl rfl sz_31 ?c64 ?c65) (by (repeat' constructor)) ?nx66
       case c64 => first | decide | (simp; omega) | simp
       case c65 => exact nfz0 _ _
       rintro v L' rfl
       refine D.ph (Phases.fin (G.then_n (G.seq (G.region (G.q (Quiet.move rfl) rfl (G.q (Quiet.assign rfl) rfl (G.nil (G.then_n (G.ret ?_)))))))))
       have hr : lgCut ⟨δ, ω, Λ⟩ z = lgCut2 ⟨δ, ω, Λ⟩ n := by unfold lgCut; dsimp only; rw [if_neg (by rw [h11]; decide), hpl]
       rw [hr]
       have hr2 : lgCut2 ⟨δ, ω, Λ⟩ n = (⟨(cutZ δ ω (((headL Λ.base Λ.snap).length + n : Nat) : Int)).1, (cutZ δ ω (((headL Λ.base Λ.snap).length + n : Nat) : Int)).2.1, ⟨Λ.acc, Λ.cur, Λ.base, Λ.snap, Λ.ents.take n, Λ.zxs.take n, Λ.doubt⟩⟩, 0) := by unfold lgCut2; dsimp only; rw [if_pos (show (metL Λ (cutZ δ ω (((headL Λ.base Λ.snap).length + n : Nat) : Int))).2 = 0 from h40)]
       rw [hr2, h40]
       try dsimp only
       refine G.slTo (a := ea) (c := ec) (m := Λ.ents.length) (k := n) (by omega) (by (repeat' constructor)) ?_
       refine G.slTo (a := za) (c := zc) (m := Λ.zxs.length) (k := n) (by omega) (by (repeat' constructor)) ?_
       have hmd : (Λ.met (cutZ δ ω (((headL Λ.base Λ.snap).length + n : Nat) : Int)).2.2).doubt = Λ.doubt := by unfold Lg.met; rw [if_neg (fun g2 => by rw [g2] at h40; exact absurd h40 (by decide))]
       rw [hmd]
       refine G.lgFold (g := g) (x := x) (ea := ea) (ec := ec) (za := za) (zc := zc) (m := n) (k := n) (⟨Λ.acc, Λ.cur, Λ.base, Λ.snap, Λ.ents.take n, Λ.zxs.take n, Λ.doubt⟩ : Lg) (by (repeat' constructor)) rfl (by simp; omega) (by simp; omega) (by simp [strs, List.map_take]) (by simp [ints, List.map_take]) ?_
       exact G.done (l := [.tmp 4]) rfl rfl ⟨rfl, rfl⟩ (by (repeat' constructor)) (by (repeat' constructor))
      ·refine G.skip (G.then_n (G.seq (G.region (G.q (Quiet.move rfl) rfl (G.q (Quiet.assign rfl) rfl (G.nil (G.then_n (G.ret ?_))))))))
       have hr : lgCut ⟨δ, ω, Λ⟩ z = lgCut2 ⟨δ, ω, Λ⟩ n := by unfold lgCut; dsimp only; rw [if_neg (by rw [h11]; decide), hpl]
       rw [hr]
       have hr2 : lgCut2 ⟨δ, ω, Λ⟩ n = metL Λ (cutZ δ ω (((headL Λ.base Λ.snap).length + n : Nat) : Int)) := by unfold lgCut2; dsimp only; rw [if_neg (show ¬ (metL Λ (cutZ δ ω (((headL Λ.base Λ.snap).length + n : Nat) : Int))).2 = 0 from h40)]
       rw [hr2]
       try dsimp only
       refine G.lgFold (g := g) (x := x) (ea := ea) (ec := ec) (za := za) (zc := zc) (m := Λ.ents.length) (k := Λ.zxs.length) (Λ.met (cutZ δ ω (((headL Λ.base Λ.snap).length + n : Nat) : Int)).2.2) (by (repeat' constructor)) (by rw [met_acc, met_cur, met_base, met_snap]) (by rw [met_ents]) (by rw [met_zxs]) (by rw [met_ents]) (by rw [met_zxs]) ?_
       exact G.done (l := [.tmp 4]) rfl rfl ⟨rfl, rfl⟩ (by (repeat' constructor)) (by (repeat' constructor))
     ·rintro v L' ⟨rfl, rfl⟩
      refine D.h rfl (by kernel_rfl) (OpSpec.call Tryz.func46 rfl rfl (vs := [_, _]) rfl (lahead_spec Λ.base Λ.snap hΛ.base (by omega))) (by (repeat' constructor)) ?nx68
      rintro v L' ⟨bh, ch, rfl, rfl⟩
      refine D.qw [16, 17] rfl (by kernel_rfl) (Quiet.slen rfl Tryz.underlying46 rfl) ?_
      refine D.qw [17] rfl (by kernel_rfl) (Quiet.as (v' := vint (((headL Λ.base Λ.snap).length + n : Nat) : Int)) (by simp) (Quiet.add rfl rfl (by omega))) ?_
      refine D.h rfl (by kernel_rfl) (OpSpec.call Tryz.func75 rfl rfl (vs := [_, _]) rfl (wcut_spec x d ω δ (((headL Λ.base Λ.snap).length + n : Nat) : Int) hI)) (by (repeat' constructor)) ?nx72
      rintro v L' ⟨rfl, rfl⟩
      refine D.ph ?_
      refine Phases.go [] (by (repeat' constructor)) ?_
      refine D.h rfl (by kernel_rfl) (OpSpec.call Tryz.func50 rfl rfl (vs := [_, _]) rfl (lmetC_spec g x Λ _ ea ec za zc)) (by (repeat' constructor)) ?nx74
      rintro v L' ⟨rfl, rfl⟩
      refine D.ph ?_
      refine Phases.go [] (by (repeat' constructor)) ?_
      refine D.qw [] rfl (by kernel_rfl) (Quiet.assign rfl) ?_
      refine D.ph (Phases.fin (G.then_n (G.seq (G.seq (G.region (G.q (Quiet.move rfl) rfl (G.q (Quiet.int rfl rfl rfl) rfl (G.nil (G.then_n ?_)))))))))
      refine G.condD rfl (fun h40 => ?_) (fun h40 => ?_)
      ·refine G.draw [16, 19] [[0, 1, 2, 3, 4, 5, 6, 7, 8, 9, 10, 11, 12, 13, 14, 15, 16], [17, 18, 19]] mixed (by kernel_rfl) ?_
       refine Phases.go [] (by (repeat' constructor)) ?_
       refine D.qw [14, 15, 16] rfl (by kernel_rfl) (Quiet.move rfl) ?_
       refine D.q rfl (by kernel_rfl) (Quiet.move rfl) ?_
       refine D.qw [3, 4, 5, 7, 14, 15, 16] rfl (by kernel_rfl) (Quiet.move rfl) ?_
       refine D.qw [4, 5, 7, 14, 15, 16] rfl (by kernel_rfl) (Quiet.nilp rfl) ?_
       refine D.qw [5, 7, 14, 15, 16] rfl (by kernel_rfl) (Quiet.fieldAddr rfl fo_79_4) ?_
       refine D.qw [7, 14, 15, 16] rfl (by kernel_rfl) (Quiet.load rfl ag_46 (by (repeat' constructor)) (rfl)) ?_
       refine D.qw [7, 14, 15, 16] rfl (by kernel_rfl) (Quiet.move rfl) ?_
       refine D.qw [14, 15, 16] rfl (by kernel_rfl) (Quiet.to (v' := .slice ea n ec) (Quiet.slTo (j := (n : Int)) rfl el_46 rfl (by omega) hadea) (by rw [Int.toNat_natCast])) ?_
       refine D.qw [9, 10, 11, 13, 14, 15, 16] rfl (by kernel_rfl) (Quiet.move rfl) ?_
       refine D.qw [10, 11, 13, 14, 15, 16] rfl (by kernel_rfl) (Quiet.nilp rfl) ?_
       refine D.qw [11, 13, 14, 15, 16] rfl (by kernel_rfl) (Quiet.fieldAddr rfl fo_79_5) ?_
       refine D.qw [13, 14, 15, 16] rfl (by kernel_rfl) (Quiet.load rfl ag_31 (by (repeat' constructor)) (rfl)) ?_
       refine D.q rfl (by kernel_rfl) (Quiet.move rfl) ?_
       refine D.q rfl (by kernel_rfl) (Quiet.to (v' := .slice za n zc) (Quiet.slTo (j := (n : Int)) rfl el_31 rfl (by omega) hadza) (by rw [Int.toNat_natCast])) ?_
       refine D.qw [15, 16] rfl (by kernel_rfl) (Quiet.nilp rfl) ?_
       refine D.qw [16] rfl (by kernel_rfl) (Quiet.fieldAddr rfl fo_79_4) ?_
       refine D.h rfl (by kernel_rfl) (OpSpec.store rfl rfl rfl sz_46 ?c91 ?c92) (by (repeat' constructor)) ?nx93
       case c91 => first | decide | (simp; omega) | simp
       case c92 => exact nfz0 _ _
       rintro v L' rfl
       refine D.ph ?_
       refine Phases.go [] (by (repeat' constructor)) ?_
       refine D.qw [18, 19] rfl (by kernel_rfl) (Quiet.nilp rfl) ?_
       refine D.qw [19] rfl (by kernel_rfl) (Quiet.fieldAddr rfl fo_79_5) ?_
       refine D.h rfl (by kernel_rfl) (OpSpec.store rfl rfl rfl sz_31 ?c96 ?c97) (by (repeat' constructor)) ?nx98
       case c96 => first | decide | (simp; omega) | simp
       case c97 => exact nfz0 _ _
       rintro v L' rfl
       refine D.ph (Phases.fin (G.then_n (G.seq (G.region (G.q (Quiet.move rfl) rfl (G.q (Quiet.assign rfl) rfl (G.nil (G.then_n (G.ret ?_)))))))))
       have hr : lgCut ⟨δ, ω, Λ⟩ z = lgCut2 ⟨δ, ω, Λ⟩ n := by unfold lgCut; dsimp only; rw [if_neg (by rw [h11]; decide), hpl]
       rw [hr]
       have hr2 : lgCut2 ⟨δ, ω, Λ⟩ n = (⟨(cutZ δ ω (((headL Λ.base Λ.snap).length + n : Nat) : Int)).1, (cutZ δ ω (((headL Λ.base Λ.snap).length + n : Nat) : Int)).2.1, ⟨Λ.acc, Λ.cur, Λ.base, Λ.snap, Λ.ents.take n, Λ.zxs.take n, Λ.doubt⟩⟩, 0) := by unfold lgCut2; dsimp only; rw [if_pos (show (metL Λ (cutZ δ ω (((headL Λ.base Λ.snap).length + n : Nat) : Int))).2 = 0 from h40)]
       rw [hr2, h40]
       try dsimp only
       refine G.slTo (a := ea) (c := ec) (m := Λ.ents.length) (k := n) (by omega) (by (repeat' constructor)) ?_
       refine G.slTo (a := za) (c := zc) (m := Λ.zxs.length) (k := n) (by omega) (by (repeat' constructor)) ?_
       have hmd : (Λ.met (cutZ δ ω (((headL Λ.base Λ.snap).length + n : Nat) : Int)).2.2).doubt = Λ.doubt := by unfold Lg.met; rw [if_neg (fun g2 => by rw [g2] at h40; exact absurd h40 (by decide))]
       rw [hmd]
       refine G.lgFold (g := g) (x := x) (ea := ea) (ec := ec) (za := za) (zc := zc) (m := n) (k := n) (⟨Λ.acc, Λ.cur, Λ.base, Λ.snap, Λ.ents.take n, Λ.zxs.take n, Λ.doubt⟩ : Lg) (by (repeat' constructor)) rfl (by simp; omega) (by simp; omega) (by simp [strs, List.map_take]) (by simp [ints, List.map_take]) ?_
       exact G.done (l := [.tmp 4]) rfl rfl ⟨rfl, rfl⟩ (by (repeat' constructor)) (by (repeat' constructor))
      ·refine G.skip (G.then_n (G.seq (G.region (G.q (Quiet.move rfl) rfl (G.q (Quiet.assign rfl) rfl (G.nil (G.then_n (G.ret ?_))))))))
       have hr : lgCut ⟨δ, ω, Λ⟩ z = lgCut2 ⟨δ, ω, Λ⟩ n := by unfold lgCut; dsimp only; rw [if_neg (by rw [h11]; decide), hpl]
       rw [hr]
       have hr2 : lgCut2 ⟨δ, ω, Λ⟩ n = metL Λ (cutZ δ ω (((headL Λ.base Λ.snap).length + n : Nat) : Int)) := by unfold lgCut2; dsimp only; rw [if_neg (show ¬ (metL Λ (cutZ δ ω (((headL Λ.base Λ.snap).length + n : Nat) : Int))).2 = 0 from h40)]
       rw [hr2]
       try dsimp only
       refine G.lgFold (g := g) (x := x) (ea := ea) (ec := ec) (za := za) (zc := zc) (m := Λ.ents.length) (k := Λ.zxs.length) (Λ.met (cutZ δ ω (((headL Λ.base Λ.snap).length + n : Nat) : Int)).2.2) (by (repeat' constructor)) (by rw [met_acc, met_cur, met_base, met_snap]) (by rw [met_ents]) (by rw [met_zxs]) (by rw [met_ents]) (by rw [met_zxs]) ?_
       exact G.done (l := [.tmp 4]) rfl rfl ⟨rfl, rfl⟩ (by (repeat' constructor)) (by (repeat' constructor))
    ·rintro v L' ⟨rfl, rfl⟩
     refine D.h rfl (by kernel_rfl) (Quiet.spec (L := [ptc g [vint Λ.acc, vint Λ.cur, vptr x, vint Λ.base, vstr Λ.snap, .slice ea Λ.ents.length ec, .slice za Λ.zxs.length zc, .bool Λ.doubt] 79]) (Quiet.load rfl ag_9 (by (repeat' constructor)) rfl)) (by (repeat' constructor)) ?nx100
     rintro v L' ⟨rfl, rfl⟩
     refine D.h rfl (by kernel_rfl) (OpSpec.call Tryz.func46 rfl rfl (vs := [_, _]) rfl (lahead_spec Λ.base Λ.snap hΛ.base (by omega))) (by (repeat' constructor)) ?nx102
     rintro v L' ⟨bh, ch, rfl, rfl⟩
     refine D.qw [16, 17] rfl (by kernel_rfl) (Quiet.slen rfl Tryz.underlying46 rfl) ?_
     refine D.qw [17] rfl (by kernel_rfl) (Quiet.as (v' := vint (((headL Λ.base Λ.snap).length + n : Nat) : Int)) (by simp) (Quiet.add rfl rfl (by omega))) ?_
     refine D.h rfl (by kernel_rfl) (OpSpec.call Tryz.func75 rfl rfl (vs := [_, _]) rfl (wcut_spec x d ω δ (((headL Λ.base Λ.snap).length + n : Nat) : Int) hI)) (by (repeat' constructor)) ?nx106
     rintro v L' ⟨rfl, rfl⟩
     refine D.ph ?_
     refine Phases.go [] (by (repeat' constructor)) ?_
     refine D.h rfl (by kernel_rfl) (OpSpec.call Tryz.func50 rfl rfl (vs := [_, _]) rfl (lmetC_spec g x Λ _ ea ec za zc)) (by (repeat' constructor)) ?nx108
     rintro v L' ⟨rfl, rfl⟩
     refine D.ph ?_
     refine Phases.go [] (by (repeat' constructor)) ?_
     refine D.qw [] rfl (by kernel_rfl) (Quiet.assign rfl) ?_
     refine D.ph (Phases.fin (G.then_n (G.seq (G.seq (G.region (G.q (Quiet.move rfl) rfl (G.q (Quiet.int rfl rfl rfl) rfl (G.nil (G.then_n ?_)))))))))
     refine G.condD rfl (fun h40 => ?_) (fun h40 => ?_)
     ·refine G.draw [16, 19] [[0, 1, 2, 3, 4, 5, 6, 7, 8, 9, 10, 11, 12, 13, 14, 15, 16], [17, 18, 19]] mixed (by kernel_rfl) ?_
      refine Phases.go [] (by (repeat' constructor)) ?_
      refine D.qw [14, 15, 16] rfl (by kernel_rfl) (Quiet.move rfl) ?_
      refine D.q rfl (by kernel_rfl) (Quiet.move rfl) ?_
      refine D.qw [3, 4, 5, 7, 14, 15, 16] rfl (by kernel_rfl) (Quiet.move rfl) ?_
      refine D.qw [4, 5, 7, 14, 15, 16] rfl (by kernel_rfl) (Quiet.nilp rfl) ?_
      refine D.qw [5, 7, 14, 15, 16] rfl (by kernel_rfl) (Quiet.fieldAddr rfl fo_79_4) ?_
      refine D.qw [7, 14, 15, 16] rfl (by kernel_rfl) (Quiet.load rfl ag_46 (by (repeat' constructor)) (rfl)) ?_
      refine D.qw [7, 14, 15, 16] rfl (by kernel_rfl) (Quiet.move rfl) ?_
      refine D.qw [14, 15, 16] rfl (by kernel_rfl) (Quiet.to (v' := .slice ea n ec) (Quiet.slTo (j := (n : Int)) rfl el_46 rfl (by omega) hadea) (by rw [Int.toNat_natCast])) ?_
      refine D.qw [9, 10, 11, 13, 14, 15, 16] rfl (by kernel_rfl) (Quiet.move rfl) ?_
      refine D.qw [10, 11, 13, 14, 15, 16] rfl (by kernel_rfl) (Quiet.nilp rfl) ?_
      refine D.qw [11, 13, 14, 15, 16] rfl (by kernel_rfl) (Quiet.fieldAddr rfl fo_79_5) ?_
      refine D.qw [13, 14, 15, 16] rfl (by kernel_rfl) (Quiet.load rfl ag_31 (by (repeat' constructor)) (rfl)) ?_
      refine D.q rfl (by kernel_rfl) (Quiet.move rfl) ?_
      refine D.q rfl (by kernel_rfl) (Quiet.to (v' := .slice za n zc) (Quiet.slTo (j := (n : Int)) rfl el_31 rfl (by omega) hadza) (by rw [Int.toNat_natCast])) ?_
      refine D.qw [15, 16] rfl (by kernel_rfl) (Quiet.nilp rfl) ?_
      refine D.qw [16] rfl (by kernel_rfl) (Quiet.fieldAddr rfl fo_79_4) ?_
      refine D.h rfl (by kernel_rfl) (OpSpec.store rfl rfl rfl sz_46 ?c125 ?c126) (by (repeat' constructor)) ?nx127
      case c125 => first | decide | (simp; omega) | simp
      case c126 => exact nfz0 _ _
      rintro v L' rfl
      refine D.ph ?_
      refine Phases.go [] (by (repeat' constructor)) ?_
      refine D.qw [18, 19] rfl (by kernel_rfl) (Quiet.nilp rfl) ?_
      refine D.qw [19] rfl (by kernel_rfl) (Quiet.fieldAddr rfl fo_79_5) ?_
      refine D.h rfl (by kernel_rfl) (OpSpec.store rfl rfl rfl sz_31 ?c130 ?c131) (by (repeat' constructor)) ?nx132
      case c130 => first | decide | (simp; omega) | simp
      case c131 => exact nfz0 _ _
      rintro v L' rfl
      refine D.ph (Phases.fin (G.then_n (G.seq (G.region (G.q (Quiet.move rfl) rfl (G.q (Quiet.assign rfl) rfl (G.nil (G.then_n (G.ret ?_)))))))))
      have hr : lgCut ⟨δ, ω, Λ⟩ z = lgCut2 ⟨δ, ω, Λ⟩ n := by unfold lgCut; dsimp only; rw [if_neg (by rw [h11]; decide), hpl]
      rw [hr]
      have hr2 : lgCut2 ⟨δ, ω, Λ⟩ n = (⟨(cutZ δ ω (((headL Λ.base Λ.snap).length + n : Nat) : Int)).1, (cutZ δ ω (((headL Λ.base Λ.snap).length + n : Nat) : Int)).2.1, ⟨Λ.acc, Λ.cur, Λ.base, Λ.snap, Λ.ents.take n, Λ.zxs.take n, Λ.doubt⟩⟩, 0) := by unfold lgCut2; dsimp only; rw [if_pos (show (metL Λ (cutZ δ ω (((headL Λ.base Λ.snap).length + n : Nat) : Int))).2 = 0 from h40)]
      rw [hr2, h40]
      try dsimp only
      refine G.slTo (a := ea) (c := ec) (m := Λ.ents.length) (k := n) (by omega) (by (repeat' constructor)) ?_
      refine G.slTo (a := za) (c := zc) (m := Λ.zxs.length) (k := n) (by omega) (by (repeat' constructor)) ?_
      have hmd : (Λ.met (cutZ δ ω (((headL Λ.base Λ.snap).length + n : Nat) : Int)).2.2).doubt = Λ.doubt := by unfold Lg.met; rw [if_neg (fun g2 => by rw [g2] at h40; exact absurd h40 (by decide))]
      rw [hmd]
      refine G.lgFold (g := g) (x := x) (ea := ea) (ec := ec) (za := za) (zc := zc) (m := n) (k := n) (⟨Λ.acc, Λ.cur, Λ.base, Λ.snap, Λ.ents.take n, Λ.zxs.take n, Λ.doubt⟩ : Lg) (by (repeat' constructor)) rfl (by simp; omega) (by simp; omega) (by simp [strs, List.map_take]) (by simp [ints, List.map_take]) ?_
      exact G.done (l := [.tmp 4]) rfl rfl ⟨rfl, rfl⟩ (by (repeat' constructor)) (by (repeat' constructor))
     ·refine G.skip (G.then_n (G.seq (G.region (G.q (Quiet.move rfl) rfl (G.q (Quiet.assign rfl) rfl (G.nil (G.then_n (G.ret ?_))))))))
      have hr : lgCut ⟨δ, ω, Λ⟩ z = lgCut2 ⟨δ, ω, Λ⟩ n := by unfold lgCut; dsimp only; rw [if_neg (by rw [h11]; decide), hpl]
      rw [hr]
      have hr2 : lgCut2 ⟨δ, ω, Λ⟩ n = metL Λ (cutZ δ ω (((headL Λ.base Λ.snap).length + n : Nat) : Int)) := by unfold lgCut2; dsimp only; rw [if_neg (show ¬ (metL Λ (cutZ δ ω (((headL Λ.base Λ.snap).length + n : Nat) : Int))).2 = 0 from h40)]
      rw [hr2]
      try dsimp only
      refine G.lgFold (g := g) (x := x) (ea := ea) (ec := ec) (za := za) (zc := zc) (m := Λ.ents.length) (k := Λ.zxs.length) (Λ.met (cutZ δ ω (((headL Λ.base Λ.snap).length + n : Nat) : Int)).2.2) (by (repeat' constructor)) (by rw [met_acc, met_cur, met_base, met_snap]) (by rw [met_ents]) (by rw [met_zxs]) (by rw [met_ents]) (by rw [met_zxs]) ?_
      exact G.done (l := [.tmp 4]) rfl rfl ⟨rfl, rfl⟩ (by (repeat' constructor)) (by (repeat' constructor))
   ·rintro v L' ⟨rfl, rfl⟩
    refine D.h2 (k := 4) rfl rfl (by kernel_rfl) rfl (Quiet.spec (L := [ptc g [vint Λ.acc, vint Λ.cur, vptr x, vint Λ.base, vstr Λ.snap, .slice ea Λ.ents.length ec, .slice za Λ.zxs.length zc, .bool Λ.doubt] 79]) (Quiet.load rfl ag_3 (by (repeat' constructor)) rfl)) (by (repeat' constructor)) (Quiet.spec (L := [ptc g [vint Λ.acc, vint Λ.cur, vptr x, vint Λ.base, vstr Λ.snap, .slice ea Λ.ents.length ec, .slice za Λ.zxs.length zc, .bool Λ.doubt] 79]) (Quiet.load rfl ag_77 (by (repeat' constructor)) rfl)) (by (repeat' constructor)) ?nx134 ?nx135
    ·rintro v L' ⟨rfl, rfl⟩
     refine D.h2 (k := 4) rfl rfl (by kernel_rfl) rfl (OpSpec.call Tryz.func46 rfl rfl (vs := [_, _]) rfl (lahead_spec Λ.base Λ.snap hΛ.base (by omega))) (by (repeat' constructor)) (Quiet.spec (L := [ptc g [vint Λ.acc, vint Λ.cur, vptr x, vint Λ.base, vstr Λ.snap, .slice ea Λ.ents.length ec, .slice za Λ.zxs.length zc, .bool Λ.doubt] 79]) (Quiet.load rfl ag_77 (by (repeat' constructor)) rfl)) (by (repeat' constructor)) ?nx137 ?nx138
     ·rintro v L' ⟨bh, ch, rfl, rfl⟩
      refine D.q rfl (by kernel_rfl) (Quiet.slen rfl Tryz.underlying46 rfl) ?_
      refine D.q rfl (by kernel_rfl) (Quiet.as (v' := vint (((headL Λ.base Λ.snap).length + n : Nat) : Int)) (by simp) (Quiet.add rfl rfl (by omega))) ?_
      refine D.h rfl (by kernel_rfl) (Quiet.spec (L := [ptc g [vint Λ.acc, vint Λ.cur, vptr x, vint Λ.base, vstr Λ.snap, .slice ea Λ.ents.length ec, .slice za Λ.zxs.length zc, .bool Λ.doubt] 79]) (Quiet.load rfl ag_77 (by (repeat' constructor)) rfl)) (by (repeat' constructor)) ?nx142
      rintro v L' ⟨rfl, rfl⟩
      refine D.h rfl (by kernel_rfl) (OpSpec.call Tryz.func75 rfl rfl (vs := [_, _]) rfl (wcut_spec x d ω δ (((headL Λ.base Λ.snap).length + n : Nat) : Int) hI)) (by (repeat' constructor)) ?nx144
      rintro v L' ⟨rfl, rfl⟩
      refine D.ph ?_
      refine Phases.go [] (by (repeat' constructor)) ?_
      refine D.h rfl (by kernel_rfl) (OpSpec.call Tryz.func50 rfl rfl (vs := [_, _]) rfl (lmetC_spec g x Λ _ ea ec za zc)) (by (repeat' constructor)) ?nx146
      rintro v L' ⟨rfl, rfl⟩
      refine D.ph ?_
      refine Phases.go [] (by (repeat' constructor)) ?_
      refine D.qw [] rfl (by kernel_rfl) (Quiet.assign rfl) ?_
      refine D.ph (Phases.fin (G.then_n (G.seq (G.seq (G.region (G.q (Quiet.move rfl) rfl (G.q (Quiet.int rfl rfl rfl) rfl (G.nil (G.then_n ?_)))))))))
      refine G.condD rfl (fun h40 => ?_) (fun h40 => ?_)
      ·refine G.draw [16, 19] [[0, 1, 2, 3, 4, 5, 6, 7, 8, 9, 10, 11, 12, 13, 14, 15, 16], [17, 18, 19]] mixed (by kernel_rfl) ?_
       refine Phases.go [] (by (repeat' constructor)) ?_
       refine D.qw [14, 15, 16] rfl (by kernel_rfl) (Quiet.move rfl) ?_
       refine D.q rfl (by kernel_rfl) (Quiet.move rfl) ?_
       refine D.qw [3, 4, 5, 7, 14, 15, 16] rfl (by kernel_rfl) (Quiet.move rfl) ?_
       refine D.qw [4, 5, 7, 14, 15, 16] rfl (by kernel_rfl) (Quiet.nilp rfl) ?_
       refine D.qw [5, 7, 14, 15, 16] rfl (by kernel_rfl) (Quiet.fieldAddr rfl fo_79_4) ?_
       refine D.qw [7, 14, 15, 16] rfl (by kernel_rfl) (Quiet.load rfl ag_46 (by (repeat' constructor)) (rfl)) ?_
       refine D.qw [7, 14, 15, 16] rfl (by kernel_rfl) (Quiet.move rfl) ?_
       refine D.qw [14, 15, 16] rfl (by kernel_rfl) (Quiet.to (v' := .slice ea n ec) (Quiet.slTo (j := (n : Int)) rfl el_46 rfl (by omega) hadea) (by rw [Int.toNat_natCast])) ?_
       refine D.qw [9, 10, 11, 13, 14, 15, 16] rfl (by kernel_rfl) (Quiet.move rfl) ?_
       refine D.qw [10, 11, 13, 14, 15, 16] rfl (by kernel_rfl) (Quiet.nilp rfl) ?_
       refine D.qw [11, 13, 14, 15, 16] rfl (by kernel_rfl) (Quiet.fieldAddr rfl fo_79_5) ?_
       refine D.qw [13, 14, 15, 16] rfl (by kernel_rfl) (Quiet.load rfl ag_31 (by (repeat' constructor)) (rfl)) ?_
       refine D.q rfl (by kernel_rfl) (Quiet.move rfl) ?_
       refine D.q rfl (by kernel_rfl) (Quiet.to (v' := .slice za n zc) (Quiet.slTo (j := (n : Int)) rfl el_31 rfl (by omega) hadza) (by rw [Int.toNat_natCast])) ?_
       refine D.qw [15, 16] rfl (by kernel_rfl) (Quiet.nilp rfl) ?_
       refine D.qw [16] rfl (by kernel_rfl) (Quiet.fieldAddr rfl fo_79_4) ?_
       refine D.h rfl (by kernel_rfl) (OpSpec.store rfl rfl rfl sz_46 ?c163 ?c164) (by (repeat' constructor)) ?nx165
       case c163 => first | decide | (simp; omega) | simp
       case c164 => exact nfz0 _ _
       rintro v L' rfl
       refine D.ph ?_
       refine Phases.go [] (by (repeat' constructor)) ?_
       refine D.qw [18, 19] rfl (by kernel_rfl) (Quiet.nilp rfl) ?_
       refine D.qw [19] rfl (by kernel_rfl) (Quiet.fieldAddr rfl fo_79_5) ?_
       refine D.h rfl (by kernel_rfl) (OpSpec.store rfl rfl rfl sz_31 ?c168 ?c169) (by (repeat' constructor)) ?nx170
       case c168 => first | decide | (simp; omega) | simp
       case c169 => exact nfz0 _ _
       rintro v L' rfl
       refine D.ph (Phases.fin (G.then_n (G.seq (G.region (G.q (Quiet.move rfl) rfl (G.q (Quiet.assign rfl) rfl (G.nil (G.then_n (G.ret ?_)))))))))
       have hr : lgCut ⟨δ, ω, Λ⟩ z = lgCut2 ⟨δ, ω, Λ⟩ n := by unfold lgCut; dsimp only; rw [if_neg (by rw [h11]; decide), hpl]
       rw [hr]
       have hr2 : lgCut2 ⟨δ, ω, Λ⟩ n = (⟨(cutZ δ ω (((headL Λ.base Λ.snap).length + n : Nat) : Int)).1, (cutZ δ ω (((headL Λ.base Λ.snap).length + n : Nat) : Int)).2.1, ⟨Λ.acc, Λ.cur, Λ.base, Λ.snap, Λ.ents.take n, Λ.zxs.take n, Λ.doubt⟩⟩, 0) := by unfold lgCut2; dsimp only; rw [if_pos (show (metL Λ (cutZ δ ω (((headL Λ.base Λ.snap).length + n : Nat) : Int))).2 = 0 from h40)]
       rw [hr2, h40]
       try dsimp only
       refine G.slTo (a := ea) (c := ec) (m := Λ.ents.length) (k := n) (by omega) (by (repeat' constructor)) ?_
       refine G.slTo (a := za) (c := zc) (m := Λ.zxs.length) (k := n) (by omega) (by (repeat' constructor)) ?_
       have hmd : (Λ.met (cutZ δ ω (((headL Λ.base Λ.snap).length + n : Nat) : Int)).2.2).doubt = Λ.doubt := by unfold Lg.met; rw [if_neg (fun g2 => by rw [g2] at h40; exact absurd h40 (by decide))]
       rw [hmd]
       refine G.lgFold (g := g) (x := x) (ea := ea) (ec := ec) (za := za) (zc := zc) (m := n) (k := n) (⟨Λ.acc, Λ.cur, Λ.base, Λ.snap, Λ.ents.take n, Λ.zxs.take n, Λ.doubt⟩ : Lg) (by (repeat' constructor)) rfl (by simp; omega) (by simp; omega) (by simp [strs, List.map_take]) (by simp [ints, List.map_take]) ?_
       exact G.done (l := [.tmp 4]) rfl rfl ⟨rfl, rfl⟩ (by (repeat' constructor)) (by (repeat' constructor))
      ·refine G.skip (G.then_n (G.seq (G.region (G.q (Quiet.move rfl) rfl (G.q (Quiet.assign rfl) rfl (G.nil (G.then_n (G.ret ?_))))))))
       have hr : lgCut ⟨δ, ω, Λ⟩ z = lgCut2 ⟨δ, ω, Λ⟩ n := by unfold lgCut; dsimp only; rw [if_neg (by rw [h11]; decide), hpl]
       rw [hr]
       have hr2 : lgCut2 ⟨δ, ω, Λ⟩ n = metL Λ (cutZ δ ω (((headL Λ.base Λ.snap).length + n : Nat) : Int)) := by unfold lgCut2; dsimp only; rw [if_neg (show ¬ (metL Λ (cutZ δ ω (((headL Λ.base Λ.snap).length + n : Nat) : Int))).2 = 0 from h40)]
       rw [hr2]
       try dsimp only
       refine G.lgFold (g := g) (x := x) (ea := ea) (ec := ec) (za := za) (zc := zc) (m := Λ.ents.length) (k := Λ.zxs.length) (Λ.met (cutZ δ ω (((headL Λ.base Λ.snap).length + n : Nat) : Int)).2.2) (by (repeat' constructor)) (by rw [met_acc, met_cur, met_base, met_snap]) (by rw [met_ents]) (by rw [met_zxs]) (by rw [met_ents]) (by rw [met_zxs]) ?_
       exact G.done (l := [.tmp 4]) rfl rfl ⟨rfl, rfl⟩ (by (repeat' constructor)) (by (repeat' constructor))
     ·rintro v L' ⟨rfl, rfl⟩
      refine D.h rfl (by kernel_rfl) (OpSpec.call Tryz.func46 rfl rfl (vs := [_, _]) rfl (lahead_spec Λ.base Λ.snap hΛ.base (by omega))) (by (repeat' constructor)) ?nx172
      rintro v L' ⟨bh, ch, rfl, rfl⟩
      refine D.qw [16, 17] rfl (by kernel_rfl) (Quiet.slen rfl Tryz.underlying46 rfl) ?_
      refine D.qw [17] rfl (by kernel_rfl) (Quiet.as (v' := vint (((headL Λ.base Λ.snap).length + n : Nat) : Int)) (by simp) (Quiet.add rfl rfl (by omega))) ?_
      refine D.h rfl (by kernel_rfl) (OpSpec.call Tryz.func75 rfl rfl (vs := [_, _]) rfl (wcut_spec x d ω δ (((headL Λ.base Λ.snap).length + n : Nat) : Int) hI)) (by (repeat' constructor)) ?nx176
      rintro v L' ⟨rfl, rfl⟩
      refine D.ph ?_
      refine Phases.go [] (by (repeat' constructor)) ?_
      refine D.h rfl (by kernel_rfl) (OpSpec.call Tryz.func50 rfl rfl (vs := [_, _]) rfl (lmetC_spec g x Λ _ ea ec za zc)) (by (repeat' constructor)) ?nx178
      rintro v L' ⟨rfl, rfl⟩
      refine D.ph ?_
      refine Phases.go [] (by (repeat' constructor)) ?_
      refine D.qw [] rfl (by kernel_rfl) (Quiet.assign rfl) ?_
      refine D.ph (Phases.fin (G.then_n (G.seq (G.seq (G.region (G.q (Quiet.move rfl) rfl (G.q (Quiet.int rfl rfl rfl) rfl (G.nil (G.then_n ?_)))))))))
      refine G.condD rfl (fun h40 => ?_) (fun h40 => ?_)
      ·refine G.draw [16, 19] [[0, 1, 2, 3, 4, 5, 6, 7, 8, 9, 10, 11, 12, 13, 14, 15, 16], [17, 18, 19]] mixed (by kernel_rfl) ?_
       refine Phases.go [] (by (repeat' constructor)) ?_
       refine D.qw [14, 15, 16] rfl (by kernel_rfl) (Quiet.move rfl) ?_
       refine D.q rfl (by kernel_rfl) (Quiet.move rfl) ?_
       refine D.qw [3, 4, 5, 7, 14, 15, 16] rfl (by kernel_rfl) (Quiet.move rfl) ?_
       refine D.qw [4, 5, 7, 14, 15, 16] rfl (by kernel_rfl) (Quiet.nilp rfl) ?_
       refine D.qw [5, 7, 14, 15, 16] rfl (by kernel_rfl) (Quiet.fieldAddr rfl fo_79_4) ?_
       refine D.qw [7, 14, 15, 16] rfl (by kernel_rfl) (Quiet.load rfl ag_46 (by (repeat' constructor)) (rfl)) ?_
       refine D.qw [7, 14, 15, 16] rfl (by kernel_rfl) (Quiet.move rfl) ?_
       refine D.qw [14, 15, 16] rfl (by kernel_rfl) (Quiet.to (v' := .slice ea n ec) (Quiet.slTo (j := (n : Int)) rfl el_46 rfl (by omega) hadea) (by rw [Int.toNat_natCast])) ?_
       refine D.qw [9, 10, 11, 13, 14, 15, 16] rfl (by kernel_rfl) (Quiet.move rfl) ?_
       refine D.qw [10, 11, 13, 14, 15, 16] rfl (by kernel_rfl) (Quiet.nilp rfl) ?_
       refine D.qw [11, 13, 14, 15, 16] rfl (by kernel_rfl) (Quiet.fieldAddr rfl fo_79_5) ?_
       refine D.qw [13, 14, 15, 16] rfl (by kernel_rfl) (Quiet.load rfl ag_31 (by (repeat' constructor)) (rfl)) ?_
       refine D.q rfl (by kernel_rfl) (Quiet.move rfl) ?_
       refine D.q rfl (by kernel_rfl) (Quiet.to (v' := .slice za n zc) (Quiet.slTo (j := (n : Int)) rfl el_31 rfl (by omega) hadza) (by rw [Int.toNat_natCast])) ?_
       refine D.qw [15, 16] rfl (by kernel_rfl) (Quiet.nilp rfl) ?_
       refine D.qw [16] rfl (by kernel_rfl) (Quiet.fieldAddr rfl fo_79_4) ?_
       refine D.h rfl (by kernel_rfl) (OpSpec.store rfl rfl rfl sz_46 ?c195 ?c196) (by (repeat' constructor)) ?nx197
       case c195 => first | decide | (simp; omega) | simp
       case c196 => exact nfz0 _ _
       rintro v L' rfl
       refine D.ph ?_
       refine Phases.go [] (by (repeat' constructor)) ?_
       refine D.qw [18, 19] rfl (by kernel_rfl) (Quiet.nilp rfl) ?_
       refine D.qw [19] rfl (by kernel_rfl) (Quiet.fieldAddr rfl fo_79_5) ?_
       refine D.h rfl (by kernel_rfl) (OpSpec.store rfl rfl rfl sz_31 ?c200 ?c201) (by (repeat' constructor)) ?nx202
       case c200 => first | decide | (simp; omega) | simp
       case c201 => exact nfz0 _ _
       rintro v L' rfl
       refine D.ph (Phases.fin (G.then_n (G.seq (G.region (G.q (Quiet.move rfl) rfl (G.q (Quiet.assign rfl) rfl (G.nil (G.then_n (G.ret ?_)))))))))
       have hr : lgCut ⟨δ, ω, Λ⟩ z = lgCut2 ⟨δ, ω, Λ⟩ n := by unfold lgCut; dsimp only; rw [if_neg (by rw [h11]; decide), hpl]
       rw [hr]
       have hr2 : lgCut2 ⟨δ, ω, Λ⟩ n = (⟨(cutZ δ ω (((headL Λ.base Λ.snap).length + n : Nat) : Int)).1, (cutZ δ ω (((headL Λ.base Λ.snap).length + n : Nat) : Int)).2.1, ⟨Λ.acc, Λ.cur, Λ.base, Λ.snap, Λ.ents.take n, Λ.zxs.take n, Λ.doubt⟩⟩, 0) := by unfold lgCut2; dsimp only; rw [if_pos (show (metL Λ (cutZ δ ω (((headL Λ.base Λ.snap).length + n : Nat) : Int))).2 = 0 from h40)]
       rw [hr2, h40]
       try dsimp only
       refine G.slTo (a := ea) (c := ec) (m := Λ.ents.length) (k := n) (by omega) (by (repeat' constructor)) ?_
       refine G.slTo (a := za) (c := zc) (m := Λ.zxs.length) (k := n) (by omega) (by (repeat' constructor)) ?_
       have hmd : (Λ.met (cutZ δ ω (((headL Λ.base Λ.snap).length + n : Nat) : Int)).2.2).doubt = Λ.doubt := by unfold Lg.met; rw [if_neg (fun g2 => by rw [g2] at h40; exact absurd h40 (by decide))]
       rw [hmd]
       refine G.lgFold (g := g) (x := x) (ea := ea) (ec := ec) (za := za) (zc := zc) (m := n) (k := n) (⟨Λ.acc, Λ.cur, Λ.base, Λ.snap, Λ.ents.take n, Λ.zxs.take n, Λ.doubt⟩ : Lg) (by (repeat' constructor)) rfl (by simp; omega) (by simp; omega) (by simp [strs, List.map_take]) (by simp [ints, List.map_take]) ?_
       exact G.done (l := [.tmp 4]) rfl rfl ⟨rfl, rfl⟩ (by (repeat' constructor)) (by (repeat' constructor))
      ·refine G.skip (G.then_n (G.seq (G.region (G.q (Quiet.move rfl) rfl (G.q (Quiet.assign rfl) rfl (G.nil (G.then_n (G.ret ?_))))))))
       have hr : lgCut ⟨δ, ω, Λ⟩ z = lgCut2 ⟨δ, ω, Λ⟩ n := by unfold lgCut; dsimp only; rw [if_neg (by rw [h11]; decide), hpl]
       rw [hr]
       have hr2 : lgCut2 ⟨δ, ω, Λ⟩ n = metL Λ (cutZ δ ω (((headL Λ.base Λ.snap).length + n : Nat) : Int)) := by unfold lgCut2; dsimp only; rw [if_neg (show ¬ (metL Λ (cutZ δ ω (((headL Λ.base Λ.snap).length + n : Nat) : Int))).2 = 0 from h40)]
       rw [hr2]
       try dsimp only
       refine G.lgFold (g := g) (x := x) (ea := ea) (ec := ec) (za := za) (zc := zc) (m := Λ.ents.length) (k := Λ.zxs.length) (Λ.met (cutZ δ ω (((headL Λ.base Λ.snap).length + n : Nat) : Int)).2.2) (by (repeat' constructor)) (by rw [met_acc, met_cur, met_base, met_snap]) (by rw [met_ents]) (by rw [met_zxs]) (by rw [met_ents]) (by rw [met_zxs]) ?_
       exact G.done (l := [.tmp 4]) rfl rfl ⟨rfl, rfl⟩ (by (repeat' constructor)) (by (repeat' constructor))
    ·rintro v L' ⟨rfl, rfl⟩
     refine D.h rfl (by kernel_rfl) (Quiet.spec (L := [ptc g [vint Λ.acc, vint Λ.cur, vptr x, vint Λ.base, vstr Λ.snap, .slice ea Λ.ents.length ec, .slice za Λ.zxs.length zc, .bool Λ.doubt] 79]) (Quiet.load rfl ag_3 (by (repeat' constructor)) rfl)) (by (repeat' constructor)) ?nx204
     rintro v L' ⟨rfl, rfl⟩
     refine D.h rfl (by kernel_rfl) (OpSpec.call Tryz.func46 rfl rfl (vs := [_, _]) rfl (lahead_spec Λ.base Λ.snap hΛ.base (by omega))) (by (repeat' constructor)) ?nx206
     rintro v L' ⟨bh, ch, rfl, rfl⟩
     refine D.qw [16, 17] rfl (by kernel_rfl) (Quiet.slen rfl Tryz.underlying46 rfl) ?_
     refine D.qw [17] rfl (by kernel_rfl) (Quiet.as (v' := vint (((headL Λ.base Λ.snap).length + n : Nat) : Int)) (by simp) (Quiet.add rfl rfl (by omega))) ?_
     refine D.h rfl (by kernel_rfl) (OpSpec.call Tryz.func75 rfl rfl (vs := [_, _]) rfl (wcut_spec x d ω δ (((headL Λ.base Λ.snap).length + n : Nat) : Int) hI)) (by (repeat' constructor)) ?nx210
     rintro v L' ⟨rfl, rfl⟩
     refine D.ph ?_
     refine Phases.go [] (by (repeat' constructor)) ?_
     refine D.h rfl (by kernel_rfl) (OpSpec.call Tryz.func50 rfl rfl (vs := [_, _]) rfl (lmetC_spec g x Λ _ ea ec za zc)) (by (repeat' constructor)) ?nx212
     rintro v L' ⟨rfl, rfl⟩
     refine D.ph ?_
     refine Phases.go [] (by (repeat' constructor)) ?_
     refine D.qw [] rfl (by kernel_rfl) (Quiet.assign rfl) ?_
     refine D.ph (Phases.fin (G.then_n (G.seq (G.seq (G.region (G.q (Quiet.move rfl) rfl (G.q (Quiet.int rfl rfl rfl) rfl (G.nil (G.then_n ?_)))))))))
     refine G.condD rfl (fun h40 => ?_) (fun h40 => ?_)
     ·refine G.draw [16, 19] [[0, 1, 2, 3, 4, 5, 6, 7, 8, 9, 10, 11, 12, 13, 14, 15, 16], [17, 18, 19]] mixed (by kernel_rfl) ?_
      refine Phases.go [] (by (repeat' constructor)) ?_
      refine D.qw [14, 15, 16] rfl (by kernel_rfl) (Quiet.move rfl) ?_
      refine D.q rfl (by kernel_rfl) (Quiet.move rfl) ?_
      refine D.qw [3, 4, 5, 7, 14, 15, 16] rfl (by kernel_rfl) (Quiet.move rfl) ?_
      refine D.qw [4, 5, 7, 14, 15, 16] rfl (by kernel_rfl) (Quiet.nilp rfl) ?_
      refine D.qw [5, 7, 14, 15, 16] rfl (by kernel_rfl) (Quiet.fieldAddr rfl fo_79_4) ?_
      refine D.qw [7, 14, 15, 16] rfl (by kernel_rfl) (Quiet.load rfl ag_46 (by (repeat' constructor)) (rfl)) ?_
      refine D.qw [7, 14, 15, 16] rfl (by kernel_rfl) (Quiet.move rfl) ?_
      refine D.qw [14, 15, 16] rfl (by kernel_rfl) (Quiet.to (v' := .slice ea n ec) (Quiet.slTo (j := (n : Int)) rfl el_46 rfl (by omega) hadea) (by rw [Int.toNat_natCast])) ?_
      refine D.qw [9, 10, 11, 13, 14, 15, 16] rfl (by kernel_rfl) (Quiet.move rfl) ?_
      refine D.qw [10, 11, 13, 14, 15, 16] rfl (by kernel_rfl) (Quiet.nilp rfl) ?_
      refine D.qw [11, 13, 14, 15, 16] rfl (by kernel_rfl) (Quiet.fieldAddr rfl fo_79_5) ?_
      refine D.qw [13, 14, 15, 16] rfl (by kernel_rfl) (Quiet.load rfl ag_31 (by (repeat' constructor)) (rfl)) ?_
      refine D.q rfl (by kernel_rfl) (Quiet.move rfl) ?_
      refine D.q rfl (by kernel_rfl) (Quiet.to (v' := .slice za n zc) (Quiet.slTo (j := (n : Int)) rfl el_31 rfl (by omega) hadza) (by rw [Int.toNat_natCast])) ?_
      refine D.qw [15, 16] rfl (by kernel_rfl) (Quiet.nilp rfl) ?_
      refine D.qw [16] rfl (by kernel_rfl) (Quiet.fieldAddr rfl fo_79_4) ?_
      refine D.h rfl (by kernel_rfl) (OpSpec.store rfl rfl rfl sz_46 ?c229 ?c230) (by (repeat' constructor)) ?nx231
      case c229 => first | decide | (simp; omega) | simp
      case c230 => exact nfz0 _ _
      rintro v L' rfl
      refine D.ph ?_
      refine Phases.go [] (by (repeat' constructor)) ?_
      refine D.qw [18, 19] rfl (by kernel_rfl) (Quiet.nilp rfl) ?_
      refine D.qw [19] rfl (by kernel_rfl) (Quiet.fieldAddr rfl fo_79_5) ?_
      refine D.h rfl (by kernel_rfl) (OpSpec.store rfl rfl rfl sz_31 ?c234 ?c235) (by (repeat' constructor)) ?nx236
      case c234 => first | decide | (simp; omega) | simp
      case c235 => exact nfz0 _ _
      rintro v L' rfl
      refine D.ph (Phases.fin (G.then_n (G.seq (G.region (G.q (Quiet.move rfl) rfl (G.q (Quiet.assign rfl) rfl (G.nil (G.then_n (G.ret ?_)))))))))
      have hr : lgCut ⟨δ, ω, Λ⟩ z = lgCut2 ⟨δ, ω, Λ⟩ n := by unfold lgCut; dsimp only; rw [if_neg (by rw [h11]; decide), hpl]
      rw [hr]
      have hr2 : lgCut2 ⟨δ, ω, Λ⟩ n = (⟨(cutZ δ ω (((headL Λ.base Λ.snap).length + n : Nat) : Int)).1, (cutZ δ ω (((headL Λ.base Λ.snap).length + n : Nat) : Int)).2.1, ⟨Λ.acc, Λ.cur, Λ.base, Λ.snap, Λ.ents.take n, Λ.zxs.take n, Λ.doubt⟩⟩, 0) := by unfold lgCut2; dsimp only; rw [if_pos (show (metL Λ (cutZ δ ω (((headL Λ.base Λ.snap).length + n : Nat) : Int))).2 = 0 from h40)]
      rw [hr2, h40]
      try dsimp only
      refine G.slTo (a := ea) (c := ec) (m := Λ.ents.length) (k := n) (by omega) (by (repeat' constructor)) ?_
      refine G.slTo (a := za) (c := zc) (m := Λ.zxs.length) (k := n) (by omega) (by (repeat' constructor)) ?_
      have hmd : (Λ.met (cutZ δ ω (((headL Λ.base Λ.snap).length + n : Nat) : Int)).2.2).doubt = Λ.doubt := by unfold Lg.met; rw [if_neg (fun g2 => by rw [g2] at h40; exact absurd h40 (by decide))]
      rw [hmd]
      refine G.lgFold (g := g) (x := x) (ea := ea) (ec := ec) (za := za) (zc := zc) (m := n) (k := n) (⟨Λ.acc, Λ.cur, Λ.base, Λ.snap, Λ.ents.take n, Λ.zxs.take n, Λ.doubt⟩ : Lg) (by (repeat' constructor)) rfl (by simp; omega) (by simp; omega) (by simp [strs, List.map_take]) (by simp [ints, List.map_take]) ?_
      exact G.done (l := [.tmp 4]) rfl rfl ⟨rfl, rfl⟩ (by (repeat' constructor)) (by (repeat' constructor))
     ·refine G.skip (G.then_n (G.seq (G.region (G.q (Quiet.move rfl) rfl (G.q (Quiet.assign rfl) rfl (G.nil (G.then_n (G.ret ?_))))))))
      have hr : lgCut ⟨δ, ω, Λ⟩ z = lgCut2 ⟨δ, ω, Λ⟩ n := by unfold lgCut; dsimp only; rw [if_neg (by rw [h11]; decide), hpl]
      rw [hr]
      have hr2 : lgCut2 ⟨δ, ω, Λ⟩ n = metL Λ (cutZ δ ω (((headL Λ.base Λ.snap).length + n : Nat) : Int)) := by unfold lgCut2; dsimp only; rw [if_neg (show ¬ (metL Λ (cutZ δ ω (((headL Λ.base Λ.snap).length + n : Nat) : Int))).2 = 0 from h40)]
      rw [hr2]
      try dsimp only
      refine G.lgFold (g := g) (x := x) (ea := ea) (ec := ec) (za := za) (zc := zc) (m := Λ.ents.length) (k := Λ.zxs.length) (Λ.met (cutZ δ ω (((headL Λ.base Λ.snap).length + n : Nat) : Int)).2.2) (by (repeat' constructor)) (by rw [met_acc, met_cur, met_base, met_snap]) (by rw [met_ents]) (by rw [met_zxs]) (by rw [met_ents]) (by rw [met_zxs]) ?_
      exact G.done (l := [.tmp 4]) rfl rfl ⟨rfl, rfl⟩ (by (repeat' constructor)) (by (repeat' constructor))
   ·rintro v L' ⟨rfl, rfl⟩
    refine D.h2 (k := 12) rfl rfl (by kernel_rfl) rfl (Quiet.spec (L := [ptc g [vint Λ.acc, vint Λ.cur, vptr x, vint Λ.base, vstr Λ.snap, .slice ea Λ.ents.length ec, .slice za Λ.zxs.length zc, .bool Λ.doubt] 79]) (Quiet.load rfl ag_3 (by (repeat' constructor)) rfl)) (by (repeat' constructor)) (Quiet.spec (L := [ptc g [vint Λ.acc, vint Λ.cur, vptr x, vint Λ.base, vstr Λ.snap, .slice ea Λ.ents.length ec, .slice za Λ.zxs.length zc, .bool Λ.doubt] 79]) (Quiet.load rfl ag_9 (by (repeat' constructor)) rfl)) (by (repeat' constructor)) ?nx238 ?nx239
    ·rintro v L' ⟨rfl, rfl⟩
     refine D.h rfl (by kernel_rfl) (Quiet.spec (L := [ptc g [vint Λ.acc, vint Λ.cur, vptr x, vint Λ.base, vstr Λ.snap, .slice ea Λ.ents.length ec, .slice za Λ.zxs.length zc, .bool Λ.doubt] 79]) (Quiet.load rfl ag_9 (by (repeat' constructor)) rfl)) (by (repeat' constructor)) ?nx241
     rintro v L' ⟨rfl, rfl⟩
     refine D.h rfl (by kernel_rfl) (OpSpec.call Tryz.func46 rfl rfl (vs := [_, _]) rfl (lahead_spec Λ.base Λ.snap hΛ.base (by omega))) (by (repeat' constructor)) ?nx243
     rintro v L' ⟨bh, ch, rfl, rfl⟩
     refine D.qw [16, 17] rfl (by kernel_rfl) (Quiet.slen rfl Tryz.underlying46 rfl) ?_
     refine D.qw [17] rfl (by kernel_rfl) (Quiet.as (v' := vint (((headL Λ.base Λ.snap).length + n : Nat) : Int)) (by simp) (Quiet.add rfl rfl (by omega))) ?_
     refine D.h rfl (by kernel_rfl) (OpSpec.call Tryz.func75 rfl rfl (vs := [_, _]) rfl (wcut_spec x d ω δ (((headL Λ.base Λ.snap).length + n : Nat) : Int) hI)) (by (repeat' constructor)) ?nx247
     rintro v L' ⟨rfl, rfl⟩
     refine D.ph ?_
     refine Phases.go [] (by (repeat' constructor)) ?_
     refine D.h rfl (by kernel_rfl) (OpSpec.call Tryz.func50 rfl rfl (vs := [_, _]) rfl (lmetC_spec g x Λ _ ea ec za zc)) (by (repeat' constructor)) ?nx249
     rintro v L' ⟨rfl, rfl⟩
     refine D.ph ?_
     refine Phases.go [] (by (repeat' constructor)) ?_
     refine D.qw [] rfl (by kernel_rfl) (Quiet.assign rfl) ?_
     refine D.ph (Phases.fin (G.then_n (G.seq (G.seq (G.region (G.q (Quiet.move rfl) rfl (G.q (Quiet.int rfl rfl rfl) rfl (G.nil (G.then_n ?_)))))))))
     refine G.condD rfl (fun h40 => ?_) (fun h40 => ?_)
     ·refine G.draw [16, 19] [[0, 1, 2, 3, 4, 5, 6, 7, 8, 9, 10, 11, 12, 13, 14, 15, 16], [17, 18, 19]] mixed (by kernel_rfl) ?_
      refine Phases.go [] (by (repeat' constructor)) ?_
      refine D.qw [14, 15, 16] rfl (by kernel_rfl) (Quiet.move rfl) ?_
      refine D.q rfl (by kernel_rfl) (Quiet.move rfl) ?_
      refine D.qw [3, 4, 5, 7, 14, 15, 16] rfl (by kernel_rfl) (Quiet.move rfl) ?_
      refine D.qw [4, 5, 7, 14, 15, 16] rfl (by kernel_rfl) (Quiet.nilp rfl) ?_
      refine D.qw [5, 7, 14, 15, 16] rfl (by kernel_rfl) (Quiet.fieldAddr rfl fo_79_4) ?_
      refine D.qw [7, 14, 15, 16] rfl (by kernel_rfl) (Quiet.load rfl ag_46 (by (repeat' constructor)) (rfl)) ?_
      refine D.qw [7, 14, 15, 16] rfl (by kernel_rfl) (Quiet.move rfl) ?_
      refine D.qw [14, 15, 16] rfl (by kernel_rfl) (Quiet.to (v' := .slice ea n ec) (Quiet.slTo (j := (n : Int)) rfl el_46 rfl (by omega) hadea) (by rw [Int.toNat_natCast])) ?_
      refine D.qw [9, 10, 11, 13, 14, 15, 16] rfl (by kernel_rfl) (Quiet.move rfl) ?_
      refine D.qw [10, 11, 13, 14, 15, 16] rfl (by kernel_rfl) (Quiet.nilp rfl) ?_
      refine D.qw [11, 13, 14, 15, 16] rfl (by kernel_rfl) (Quiet.fieldAddr rfl fo_79_5) ?_
      refine D.qw [13, 14, 15, 16] rfl (by kernel_rfl) (Quiet.load rfl ag_31 (by (repeat' constructor)) (rfl)) ?_
      refine D.q rfl (by kernel_rfl) (Quiet.move rfl) ?_
      refine D.q rfl (by kernel_rfl) (Quiet.to (v' := .slice za n zc) (Quiet.slTo (j := (n : Int)) rfl el_31 rfl (by omega) hadza) (by rw [Int.toNat_natCast])) ?_
      refine D.qw [15, 16] rfl (by kernel_rfl) (Quiet.nilp rfl) ?_
      refine D.qw [16] rfl (by kernel_rfl) (Quiet.fieldAddr rfl fo_79_4) ?_
      refine D.h rfl (by kernel_rfl) (OpSpec.store rfl rfl rfl sz_46 ?c266 ?c267) (by (repeat' constructor)) ?nx268
      case c266 => first | decide | (simp; omega) | simp
      case c267 => exact nfz0 _ _
      rintro v L' rfl
      refine D.ph ?_
      refine Phases.go [] (by (repeat' constructor)) ?_
      refine D.qw [18, 19] rfl (by kernel_rfl) (Quiet.nilp rfl) ?_
      refine D.qw [19] rfl (by kernel_rfl) (Quiet.fieldAddr rfl fo_79_5) ?_
      refine D.h rfl (by kernel_rfl) (OpSpec.store rfl rfl rfl sz_31 ?c271 ?c272) (by (repeat' constructor)) ?nx273
      case c271 => first | decide | (simp; omega) | simp
      case c272 => exact nfz0 _ _
      rintro v L' rfl
      refine D.ph (Phases.fin (G.then_n (G.seq (G.region (G.q (Quiet.move rfl) rfl (G.q (Quiet.assign rfl) rfl (G.nil (G.then_n (G.ret ?_)))))))))
      have hr : lgCut ⟨δ, ω, Λ⟩ z = lgCut2 ⟨δ, ω, Λ⟩ n := by unfold lgCut; dsimp only; rw [if_neg (by rw [h11]; decide), hpl]
      rw [hr]
      have hr2 : lgCut2 ⟨δ, ω, Λ⟩ n = (⟨(cutZ δ ω (((headL Λ.base Λ.snap).length + n : Nat) : Int)).1, (cutZ δ ω (((headL Λ.base Λ.snap).length + n : Nat) : Int)).2.1, ⟨Λ.acc, Λ.cur, Λ.base, Λ.snap, Λ.ents.take n, Λ.zxs.take n, Λ.doubt⟩⟩, 0) := by unfold lgCut2; dsimp only; rw [if_pos (show (metL Λ (cutZ δ ω (((headL Λ.base Λ.snap).length + n : Nat) : Int))).2 = 0 from h40)]
      rw [hr2, h40]
      try dsimp only
      refine G.slTo (a := ea) (c := ec) (m := Λ.ents.length) (k := n) (by omega) (by (repeat' constructor)) ?_
      refine G.slTo (a := za) (c := zc) (m := Λ.zxs.length) (k := n) (by omega) (by (repeat' constructor)) ?_
      have hmd : (Λ.met (cutZ δ ω (((headL Λ.base Λ.snap).length + n : Nat) : Int)).2.2).doubt = Λ.doubt := by unfold Lg.met; rw [if_neg (fun g2 => by rw [g2] at h40; exact absurd h40 (by decide))]
      rw [hmd]
      refine G.lgFold (g := g) (x := x) (ea := ea) (ec := ec) (za := za) (zc := zc) (m := n) (k := n) (⟨Λ.acc, Λ.cur, Λ.base, Λ.snap, Λ.ents.take n, Λ.zxs.take n, Λ.doubt⟩ : Lg) (by (repeat' constructor)) rfl (by simp; omega) (by simp; omega) (by simp [strs, List.map_take]) (by simp [ints, List.map_take]) ?_
      exact G.done (l := [.tmp 4]) rfl rfl ⟨rfl, rfl⟩ (by (repeat' constructor)) (by (repeat' constructor))
     ·refine G.skip (G.then_n (G.seq (G.region (G.q (Quiet.move rfl) rfl (G.q (Quiet.assign rfl) rfl (G.nil (G.then_n (G.ret ?_))))))))
      have hr : lgCut ⟨δ, ω, Λ⟩ z = lgCut2 ⟨δ, ω, Λ⟩ n := by unfold lgCut; dsimp only; rw [if_neg (by rw [h11]; decide), hpl]
      rw [hr]
      have hr2 : lgCut2 ⟨δ, ω, Λ⟩ n = metL Λ (cutZ δ ω (((headL Λ.base Λ.snap).length + n : Nat) : Int)) := by unfold lgCut2; dsimp only; rw [if_neg (show ¬ (metL Λ (cutZ δ ω (((headL Λ.base Λ.snap).length + n : Nat) : Int))).2 = 0 from h40)]
      rw [hr2]
      try dsimp only
      refine G.lgFold (g := g) (x := x) (ea := ea) (ec := ec) (za := za) (zc := zc) (m := Λ.ents.length) (k := Λ.zxs.length) (Λ.met (cutZ δ ω (((headL Λ.base Λ.snap).length + n : Nat) : Int)).2.2) (by (repeat' constructor)) (by rw [met_acc, met_cur, met_base, met_snap]) (by rw [met_ents]) (by rw [met_zxs]) (by rw [met_ents]) (by rw [met_zxs]) ?_
      exact G.done (l := [.tmp 4]) rfl rfl ⟨rfl, rfl⟩ (by (repeat' constructor)) (by (repeat' constructor))
    ·rintro v L' ⟨rfl, rfl⟩
     refine D.h rfl (by kernel_rfl) (Quiet.spec (L := [ptc g [vint Λ.acc, vint Λ.cur, vptr x, vint Λ.base, vstr Λ.snap, .slice ea Λ.ents.length ec, .slice za Λ.zxs.length zc, .bool Λ.doubt] 79]) (Quiet.load rfl ag_3 (by (repeat' constructor)) rfl)) (by (repeat' constructor)) ?nx275
     rintro v L' ⟨rfl, rfl⟩
     refine D.h rfl (by kernel_rfl) (OpSpec.call Tryz.func46 rfl rfl (vs := [_, _]) rfl (lahead_spec Λ.base Λ.snap hΛ.base (by omega))) (by (repeat' constructor)) ?nx277
     rintro v L' ⟨bh, ch, rfl, rfl⟩
     refine D.qw [16, 17] rfl (by kernel_rfl) (Quiet.slen rfl Tryz.underlying46 rfl) ?_
     refine D.qw [17] rfl (by kernel_rfl) (Quiet.as (v' := vint (((headL Λ.base Λ.snap).length + n : Nat) : Int)) (by simp) (Quiet.add rfl rfl (by omega))) ?_
     refine D.h rfl (by kernel_rfl) (OpSpec.call Tryz.func75 rfl rfl (vs := [_, _]) rfl (wcut_spec x d ω δ (((headL Λ.base Λ.snap).length + n : Nat) : Int) hI)) (by (repeat' constructor)) ?nx281
     rintro v L' ⟨rfl, rfl⟩
     refine D.ph ?_
     refine Phases.go [] (by (repeat' constructor)) ?_
     refine D.h rfl (by kernel_rfl) (OpSpec.call Tryz.func50 rfl rfl (vs := [_, _]) rfl (lmetC_spec g x Λ _ ea ec za zc)) (by (repeat' constructor)) ?nx283
     rintro v L' ⟨rfl, rfl⟩
     refine D.ph ?_
     refine Phases.go [] (by (repeat' constructor)) ?_
     refine D.qw [] rfl (by kernel_rfl) (Quiet.assign rfl) ?_
     refine D.ph (Phases.fin (G.then_n (G.seq (G.seq (G.region (G.q (Quiet.move rfl) rfl (G.q (Quiet.int rfl rfl rfl) rfl (G.nil (G.then_n ?_)))))))))
     refine G.condD rfl (fun h40 => ?_) (fun h40 => ?_)
     ·refine G.draw [16, 19] [[0, 1, 2, 3, 4, 5, 6, 7, 8, 9, 10, 11, 12, 13, 14, 15, 16], [17, 18, 19]] mixed (by kernel_rfl) ?_
      refine Phases.go [] (by (repeat' constructor)) ?_
      refine D.qw [14, 15, 16] rfl (by kernel_rfl) (Quiet.move rfl) ?_
      refine D.q rfl (by kernel_rfl) (Quiet.move rfl) ?_
      refine D.qw [3, 4, 5, 7, 14, 15, 16] rfl (by kernel_rfl) (Quiet.move rfl) ?_
      refine D.qw [4, 5, 7, 14, 15, 16] rfl (by kernel_rfl) (Quiet.nilp rfl) ?_
      refine D.qw [5, 7, 14, 15, 16] rfl (by kernel_rfl) (Quiet.fieldAddr rfl fo_79_4) ?_
      refine D.qw [7, 14, 15, 16] rfl (by kernel_rfl) (Quiet.load rfl ag_46 (by (repeat' constructor)) (rfl)) ?_
      refine D.qw [7, 14, 15, 16] rfl (by kernel_rfl) (Quiet.move rfl) ?_
      refine D.qw [14, 15, 16] rfl (by kernel_rfl) (Quiet.to (v' := .slice ea n ec) (Quiet.slTo (j := (n : Int)) rfl el_46 rfl (by omega) hadea) (by rw [Int.toNat_natCast])) ?_
      refine D.qw [9, 10, 11, 13, 14, 15, 16] rfl (by kernel_rfl) (Quiet.move rfl) ?_
      refine D.qw [10, 11, 13, 14, 15, 16] rfl (by kernel_rfl) (Quiet.nilp rfl) ?_
      refine D.qw [11, 13, 14, 15, 16] rfl (by kernel_rfl) (Quiet.fieldAddr rfl fo_79_5) ?_
      refine D.qw [13, 14, 15, 16] rfl (by kernel_rfl) (Quiet.load rfl ag_31 (by (repeat' constructor)) (rfl)) ?_
      refine D.q rfl (by kernel_rfl) (Quiet.move rfl) ?_
      refine D.q rfl (by kernel_rfl) (Quiet.to (v' := .slice za n zc) (Quiet.slTo (j := (n : Int)) rfl el_31 rfl (by omega) hadza) (by rw [Int.toNat_natCast])) ?_
      refine D.qw [15, 16] rfl (by kernel_rfl) (Quiet.nilp rfl) ?_
      refine D.qw [16] rfl (by kernel_rfl) (Quiet.fieldAddr rfl fo_79_4) ?_
      refine D.h rfl (by kernel_rfl) (OpSpec.store rfl rfl rfl sz_46 ?c300 ?c301) (by (repeat' constructor)) ?nx302
      case c300 => first | decide | (simp; omega) | simp
      case c301 => exact nfz0 _ _
      rintro v L' rfl
      refine D.ph ?_
      refine Phases.go [] (by (repeat' constructor)) ?_
      refine D.qw [18, 19] rfl (by kernel_rfl) (Quiet.nilp rfl) ?_
      refine D.qw [19] rfl (by kernel_rfl) (Quiet.fieldAddr rfl fo_79_5) ?_
      refine D.h rfl (by kernel_rfl) (OpSpec.store rfl rfl rfl sz_31 ?c305 ?c306) (by (repeat' constructor)) ?nx307
      case c305 => first | decide | (simp; omega) | simp
      case c306 => exact nfz0 _ _
      rintro v L' rfl
      refine D.ph (Phases.fin (G.then_n (G.seq (G.region (G.q (Quiet.move rfl) rfl (G.q (Quiet.assign rfl) rfl (G.nil (G.then_n (G.ret ?_)))))))))
      have hr : lgCut ⟨δ, ω, Λ⟩ z = lgCut2 ⟨δ, ω, Λ⟩ n := by unfold lgCut; dsimp only; rw [if_neg (by rw [h11]; decide), hpl]
      rw [hr]
      have hr2 : lgCut2 ⟨δ, ω, Λ⟩ n = (⟨(cutZ δ ω (((headL Λ.base Λ.snap).length + n : Nat) : Int)).1, (cutZ δ ω (((headL Λ.base Λ.snap).length + n : Nat) : Int)).2.1, ⟨Λ.acc, Λ.cur, Λ.base, Λ.snap, Λ.ents.take n, Λ.zxs.take n, Λ.doubt⟩⟩, 0) := by unfold lgCut2; dsimp only; rw [if_pos (show (metL Λ (cutZ δ ω (((headL Λ.base Λ.snap).length + n : Nat) : Int))).2 = 0 from h40)]
      rw [hr2, h40]
      try dsimp only
      refine G.slTo (a := ea) (c := ec) (m := Λ.ents.length) (k := n) (by omega) (by (repeat' constructor)) ?_
      refine G.slTo (a := za) (c := zc) (m := Λ.zxs.length) (k := n) (by omega) (by (repeat' constructor)) ?_
      have hmd : (Λ.met (cutZ δ ω (((headL Λ.base Λ.snap).length + n : Nat) : Int)).2.2).doubt = Λ.doubt := by unfold Lg.met; rw [if_neg (fun g2 => by rw [g2] at h40; exact absurd h40 (by decide))]
      rw [hmd]
      refine G.lgFold (g := g) (x := x) (ea := ea) (ec := ec) (za := za) (zc := zc) (m := n) (k := n) (⟨Λ.acc, Λ.cur, Λ.base, Λ.snap, Λ.ents.take n, Λ.zxs.take n, Λ.doubt⟩ : Lg) (by (repeat' constructor)) rfl (by simp; omega) (by simp; omega) (by simp [strs, List.map_take]) (by simp [ints, List.map_take]) ?_
      exact G.done (l := [.tmp 4]) rfl rfl ⟨rfl, rfl⟩ (by (repeat' constructor)) (by (repeat' constructor))
     ·refine G.skip (G.then_n (G.seq (G.region (G.q (Quiet.move rfl) rfl (G.q (Quiet.assign rfl) rfl (G.nil (G.then_n (G.ret ?_))))))))
      have hr : lgCut ⟨δ, ω, Λ⟩ z = lgCut2 ⟨δ, ω, Λ⟩ n := by unfold lgCut; dsimp only; rw [if_neg (by rw [h11]; decide), hpl]
      rw [hr]
      have hr2 : lgCut2 ⟨δ, ω, Λ⟩ n = metL Λ (cutZ δ ω (((headL Λ.base Λ.snap).length + n : Nat) : Int)) := by unfold lgCut2; dsimp only; rw [if_neg (show ¬ (metL Λ (cutZ δ ω (((headL Λ.base Λ.snap).length + n : Nat) : Int))).2 = 0 from h40)]
      rw [hr2]
      try dsimp only
      refine G.lgFold (g := g) (x := x) (ea := ea) (ec := ec) (za := za) (zc := zc) (m := Λ.ents.length) (k := Λ.zxs.length) (Λ.met (cutZ δ ω (((headL Λ.base Λ.snap).length + n : Nat) : Int)).2.2) (by (repeat' constructor)) (by rw [met_acc, met_cur, met_base, met_snap]) (by rw [met_ents]) (by rw [met_zxs]) (by rw [met_ents]) (by rw [met_zxs]) ?_
      exact G.done (l := [.tmp 4]) rfl rfl ⟨rfl, rfl⟩ (by (repeat' constructor)) (by (repeat' constructor))

end Go.Proofs.YtidjhgbdokcphaaGreat

/- Own work: parts of slices; a ledger that is being made. -/

namespace Go.Proofs.YtidjhgbdokcphaaGreat
open Go

def cutG (a : Option Addr) (c i sz : Nat) : Option Addr := if c = i then a else a.map (·.add (i * sz))
def cutS (a : Option Addr) (c i : Nat) : Option Addr := cutG a c i 1
theorem Quiet.slFromG {P : Program} {E : Env} {L : List HP} {ty : TypeId} {t : TypeId} {x y : Operand} {a : Option Addr} {n c e sz by' : Nat} {i : Int} (hx : ev E x = some (.slice a n c)) (ht : elemOf' P t = some (e, sz, by')) (hy : ev E y = some (.int .i64 i)) (hb : 0 ≤ i ∧ i ≤ n ∧ n ≤ c) :
    Quiet P ⟨none, .slice t x (some y) none none, ty, "", #[], none⟩ E L (.slice (cutG a c i.toNat sz) (n - i.toNat) (c - i.toNat)) := by
  intro ρ w ha _
  unfold elemOf' at ht
  split at ht <;> (try cases ht)
  rename_i e' hu
  split at ht <;> (try cases ht)
  rename_i inf hin
  refine run_v ?_
  show (Instr.sliceAt t (ρ x) (some (ρ y)) none none).run P w = _
  rw [ha x _ hx, ha y _ hy]
  unfold Instr.sliceAt
  rw [run_bind (run_underlying hu)]
  show (Instr.slice t (.slice a n c) (some (.int .i64 i)) none none).run P w = _
  unfold Instr.slice
  rw [run_bind (run_underlying hu)]
  show (do let (l, h, m) ← Instr.sliceBounds true n c (some (.int .i64 i)) none none; let size ← sizeOf e; pure (.slice (if m = l then a else a.map (·.add (l * size))) (h - l) (m - l)) : Sem Value).run P w = _
  rw [run_bind (run_sliceBounds (i := i) (j := n) (.inl rfl) (.inr ⟨rfl, rfl⟩) ⟨hb.1, by omega, by omega⟩)]
  show (do let size ← sizeOf e; pure (.slice (if c = i.toNat then a else a.map (·.add (i.toNat * size))) ((n : Int).toNat - i.toNat) (c - i.toNat)) : Sem Value).run P w = _
  rw [run_bind (run_sizeOf (k := inf.size) (by simp [sizeOf', hin]))]
  rw [Int.toNat_natCast]; rfl
theorem Quiet.slFromS {P : Program} {E : Env} {L : List HP} {ty : TypeId} {t : TypeId} {x y : Operand} {a : Option Addr} {n c e by' : Nat} {i : Int} (hx : ev E x = some (.slice a n c)) (ht : elemOf' P t = some (e, 1, by')) (hy : ev E y = some (.int .i64 i)) (hb : 0 ≤ i ∧ i ≤ n ∧ n ≤ c) :
    Quiet P ⟨none, .slice t x (some y) none none, ty, "", #[], none⟩ E L (.slice (cutS a c i.toNat) (n - i.toNat) (c - i.toNat)) := Quiet.slFromG hx ht hy hb
theorem slR_from {T : TypeId} {m c n : Nat} {a : Option Addr} {xs : List Value} {h : Hp} (hn : n ≤ m) (hp : slR T 1 (.slice a m c) m xs h) : rdS 1 h (.slice (cutS a c n) (m - n) (c - n)) (m - n) (xs.drop n) := by
  have hl := slR_length hp
  rcases Nat.lt_or_ge n m with g | g
  · rcases hp with ⟨-, h2, -⟩ | ⟨b, cap, rest, fr, hv, hb, h1, h2, h3, h4⟩
    · omega
    · simp only [Value.slice.injEq] at hv
      obtain ⟨rfl, -, rfl⟩ := hv
      have h9 : slR T 1 (.slice (some ⟨b, 0, none⟩) m c) m xs h := .inr ⟨b, c, rest, fr, rfl, hb, h1, h2, h3, h4⟩
      have := rdS_drop (k := n) (slR_rd h9) g
      unfold cutS cutG
      rw [if_neg (by omega)]
      simp only [Option.map_some, Addr.add_eq, Nat.mul_one] at this ⊢
      exact this
  · obtain rfl : n = m := by omega
    refine .inl ⟨by omega, List.drop_eq_nil_of_le (by omega), _, _, by rw [Nat.sub_self]⟩
/-- A ledger that is being made: no log yet. -/
def lgNR (b : Nat) (base : Int) (snap : Bs) (es : List Bs) (zs : List Int) : HP := fun h => ∃ y : (Option Addr × Nat) × (Option Addr × Nat), True ∧ sep [ptc b [vint 0, vint 0, .pointer none, vint base, vstr snap, .slice y.1.1 es.length y.1.2, .slice y.2.1 zs.length y.2.2, .bool false] 79,
  strR (.slice y.1.1 es.length y.1.2) es, intR (.slice y.2.1 zs.length y.2.2) zs] h
section
variable {W : World} {n : Nat} {ds : List Deferred} {E : Env} {L R : List HP} {X : Act → World → Prop}
theorem G.lgNOpen {b : Nat} {base : Int} {snap : Bs} {es : List Bs} {zs : List Int} (hL : Pick (lgNR b base snap es zs) L R) (h : ∀ ea ec za zc, G W n ds E (ptc b [vint 0, vint 0, .pointer none, vint base, vstr snap, .slice ea es.length ec, .slice za zs.length zc, .bool false] 79 :: strR (.slice ea es.length ec) es :: intR (.slice za zs.length zc) zs :: R) X) : G W n ds E L X :=
  G.focus hL (G.open (q := fun y : (Option Addr × Nat) × (Option Addr × Nat) => [ptc b [vint 0, vint 0, .pointer none, vint base, vstr snap, .slice y.1.1 es.length y.1.2, .slice y.2.1 zs.length y.2.2, .bool false] 79, strR (.slice y.1.1 es.length y.1.2) es, intR (.slice y.2.1 zs.length y.2.2) zs]) (φ := fun _ => True) (fun _ hp => hp) fun y _ => h y.1.1 y.1.2 y.2.1 y.2.2)
theorem G.lgNFold {b : Nat} (base : Int) (snap : Bs) (es : List Bs) (zs : List Int) {l xs ys : List Value} {ea za : Option Addr} {ec zc m k : Nat} (hL : Picks [ptc b l 79, slR 9 1 (.slice ea m ec) m xs, slR 3 1 (.slice za k zc) k ys] L R)
    (hl : l = [vint 0, vint 0, .pointer none, vint base, vstr snap, .slice ea m ec, .slice za k zc, .bool false]) (hm : m = es.length) (hk : k = zs.length) (he : xs = strs es) (hz : ys = ints zs) (h : G W n ds E (lgNR b base snap es zs :: R) X) : G W n ds E L X := by
  subst hl; subst hm; subst hk; subst he; subst hz
  exact G.fold hL (fun _ hp => ⟨((ea, ec), (za, zc)), trivial, hp⟩) h
end
theorem recZ_len' (s : Bs) : (recZ s).length = s.length + 6 := by rw [recZ_len]
theorem laid_few : ∀ {l : List Bs}, (∀ s ∈ l, s.length ≤ 4000) → (laidZ l).length ≤ l.length * 4006
  | [], _ => by simp [laidZ]
  | s :: l, h => by
    have h1 := laid_few (l := l) (fun x hx => h x (List.mem_cons_of_mem _ hx))
    have h2 := h s (List.mem_cons_self ..)
    have e : laidZ (s :: l) = recZ s ++ laidZ l := by simp [laidZ]
    rw [e, List.length_append, recZ_len', List.length_cons]
    omega
theorem renew_bound {base : Int} {snap : Bs} {es : List Bs} (hs : snap.length ≤ 65536) (he : es.length ≤ 200) (h : ((headL base snap ++ es).any fun s => decide (s.length > 4000)) = false) : (laidZ (headL base snap ++ es)).length ≤ 3000000 := by
  have h1 := headL_len base snap hs
  have h2 := laid_few (l := headL base snap ++ es) (fun s hs => by
    have := List.any_eq_false.1 h s hs
    simpa using this)
  rw [List.length_append] at h2
  omega
theorem renew_bad {s : Ld} {base : Int} {snap : Bs} {es : List Bs} {zs : List Int} (h : (lgRenew s base snap es zs).2 ≠ 0) : ∃ e, (lgRenew s base snap es zs).1.Λ = s.Λ.met e := by
  unfold lgRenew at h ⊢
  split
  · exact ⟨0, rfl⟩
  · rename_i g
    rw [if_neg g] at h
    split
    · rename_i g2; rw [if_pos g2] at h; exact absurd rfl h
    · exact ⟨_, rfl⟩
end Go.Proofs.YtidjhgbdokcphaaGreat

/- Own work, by program: package ledger: renew, Compact, Install: walked. -/

namespace Go.Proofs.YtidjhgbdokcphaaGreat
open Go
set_option maxRecDepth 100000 in
theorem lrenew_spec (g x d : Nat) (δ : Dk) (ω : Wl) (Λ : Lg) (base : Int) (snap : Bs) (ve vz : Value) (es : List Bs) (zs : List Int) (ea : Option Addr) (ec : Nat) (za : Option Addr) (zc : Nat) (p : HP) (hI : WlI δ ω) (hb : I64 base) (hsn : snap.length ≤ 65536) (hre : ∀ h : Hp, p h → rdS 1 h ve es.length (strs es)) (hrz : ∀ h : Hp, p h → rdS 1 h vz zs.length (ints zs)) (hel : es.length ≤ 4294967296) (hzl : zs.length = es.length) :
    Fn Tryz.prog 139 #[vptr g, .agg [vint 0, vint 0, .pointer none, vint base, vstr snap, ve, vz, .bool false].toArray] [ptc g [vint Λ.acc, vint Λ.cur, vptr x, vint Λ.base, vstr Λ.snap, .slice ea Λ.ents.length ec, .slice za Λ.zxs.length zc, .bool Λ.doubt] 79, wlR x d ω, dkR d δ, p] fun v L => v = vint (lgRenew ⟨δ, ω, Λ⟩ base snap es zs).2 ∧ (((lgRenew ⟨δ, ω, Λ⟩ base snap es zs).2 = 0 ∧ L = [lgR g x (lgRenew ⟨δ, ω, Λ⟩ base snap es zs).1.Λ, wlR x d (lgRenew ⟨δ, ω, Λ⟩ base snap es zs).1.ω, dkR d (lgRenew ⟨δ, ω, Λ⟩ base snap es zs).1.δ, p]) ∨ ((lgRenew ⟨δ, ω, Λ⟩ base snap es zs).2 ≠ 0 ∧ L = [ptc g [vint Λ.acc, vint Λ.cur, vptr x, vint Λ.base, vstr Λ.snap, .slice ea Λ.ents.length ec, .slice za Λ.zxs.length zc, .bool (lgRenew ⟨δ, ω, Λ⟩ base snap es zs).1.Λ.doubt] 79, wlR x d (lgRenew ⟨δ, ω, Λ⟩ base snap es zs).1.ω, dkR d (lgRenew ⟨δ, ω, Λ⟩ base snap es zs).1.δ, p])) := by
 refine Fn.intro (vs := [vptr g, .agg [vint 0, vint 0, .pointer none, vint base, vstr snap, ve, vz, .bool false].toArray]) Tryz.func139 rfl rfl ?_
 intro F W
 refine G.rdAny (p := p) hre (by (repeat' constructor)) fun ae ce e _ => ?_
 subst e
 refine G.rdAny (p := p) hrz (by (repeat' constructor)) fun az cz e _ => ?_
 subst e
 have h0 := headL_len base snap hsn
 refine G.seq (G.region ?_)
 refine G.op (OpSpec.box rfl) (by (repeat' constructor)) rfl ?nx1
 rintro v L' ⟨b3, rfl, rfl⟩
 refine G.q (Quiet.assign rfl) rfl (G.nil ?_)
 refine G.ptCast (b := b3) (l' := [vint 0, vint 0, .pointer none, vint base, vstr snap, .slice ae es.length ce, .slice az zs.length cz, .bool false]) (by (repeat' constructor)) rfl ?_
 refine G.then_n (G.seq (G.seq (G.region (G.q (Quiet.fieldAddr rfl fo_79_4) rfl ?_))))
 refine G.q (Quiet.load rfl ag_46 (by (repeat' constructor)) (rfl)) rfl ?_
 refine G.q (Quiet.slen rfl Tryz.underlying46 rfl) rfl (G.q (Quiet.int rfl rfl rfl) rfl (G.nil (G.then_n ?_)))
 refine G.condD rfl (fun h9 => ?_) (fun h9 => ?_)
 ·refine G.seq (G.region (G.q (Quiet.assign rfl) rfl (G.nil (G.then_n (G.ret (G.then_r ?_))))))
  have hr : lgRenew ⟨δ, ω, Λ⟩ base snap es zs = (⟨δ, ω, Λ⟩, 83) := by unfold lgRenew; rw [if_pos (by omega)]
  rw [hr]
  exact G.done (l := [.tmp 4]) rfl rfl ⟨rfl, .inr ⟨show (83 : Int) ≠ 0 by decide, rfl⟩⟩ (by (repeat' constructor)) (by (repeat' constructor))
 ·refine G.skip (G.then_n (G.seq ?_))
  refine G.draw [4, 9, 12, 13, 14] [[0, 1, 2, 3, 5, 6, 7, 8, 10, 11, 9, 12, 4, 13], [14], [15]] mixed (by kernel_rfl) ?_
  refine Phases.go [ptc b3 _ _] (by (repeat' constructor)) ?_
  refine D.q rfl (by kernel_rfl) (Quiet.move rfl) ?_
  refine D.q rfl (by kernel_rfl) (Quiet.move rfl) ?_
  refine D.q rfl (by kernel_rfl) (Quiet.nilp rfl) ?_
  refine D.q rfl (by kernel_rfl) (Quiet.fieldAddr rfl fo_79_1) ?_
  refine D.q rfl (by kernel_rfl) (Quiet.fieldAddr rfl fo_79_2) ?_
  refine D.q rfl (by kernel_rfl) (Quiet.load rfl ag_3 (by (repeat' constructor)) (rfl)) ?_
  refine D.q rfl (by kernel_rfl) (Quiet.fieldAddr rfl fo_79_3) ?_
  refine D.q rfl (by kernel_rfl) (Quiet.load rfl ag_9 (by (repeat' constructor)) (rfl)) ?_
  refine D.q rfl (by kernel_rfl) (Quiet.fieldAddr rfl fo_79_4) ?_
  refine D.q rfl (by kernel_rfl) (Quiet.load rfl ag_46 (by (repeat' constructor)) (rfl)) ?_
  refine D.h2 (k := 4) rfl rfl (by kernel_rfl) rfl (OpSpec.call Tryz.func46 rfl rfl (vs := [_, _]) rfl (lahead_spec base snap hb (by omega))) (by (repeat' constructor)) (Quiet.spec (L := [ptc g [vint Λ.acc, vint Λ.cur, vptr x, vint Λ.base, vstr Λ.snap, .slice ea Λ.ents.length ec, .slice za Λ.zxs.length zc, .bool Λ.doubt] 79]) (Quiet.load rfl ag_77 (by (repeat' constructor)) rfl)) (by (repeat' constructor)) ?nx19 ?nx20
  ·rintro v L' ⟨bh, ch, rfl, rfl⟩
   refine D.h2 (k := 4) rfl rfl (by kernel_rfl) rfl (OpSpec.append (n := (headL base snap).length) (m := es.length) (xs := strs (headL base snap)) (ys := strs es) (p := p) rfl rfl rfl el_46 (.inl ⟨_, Tryz.underlying46⟩) ze_9 rfl rfl ?hc22 hre ?hb23 (by decide)) (by (repeat' constructor)) (Quiet.spec (L := [ptc g [vint Λ.acc, vint Λ.cur, vptr x, vint Λ.base, vstr Λ.snap, .slice ea Λ.ents.length ec, .slice za Λ.zxs.length zc, .bool Λ.doubt] 79]) (Quiet.load rfl ag_77 (by (repeat' constructor)) rfl)) (by (repeat' constructor)) ?nx24 ?nx25
   case hc22 => intro y hy; obtain ⟨z, -, rfl⟩ := List.mem_map.1 hy; rfl
   case hb23 => omega
   ·rintro v L' ⟨⟨a12, c12, rfl⟩, rfl⟩
    refine D.h rfl (by kernel_rfl) (Quiet.spec (L := [ptc g [vint Λ.acc, vint Λ.cur, vptr x, vint Λ.base, vstr Λ.snap, .slice ea Λ.ents.length ec, .slice za Λ.zxs.length zc, .bool Λ.doubt] 79]) (Quiet.load rfl ag_77 (by (repeat' constructor)) rfl)) (by (repeat' constructor)) ?nx27
    rintro v L' ⟨rfl, rfl⟩
    refine D.h rfl (by kernel_rfl) (OpSpec.call Tryz.func180 rfl rfl (vs := [_, _]) rfl (wrenew2_spec x d ω δ (.slice a12 ((headL base snap).length + es.length) c12) (headL base snap ++ es) (slR 9 1 (.slice a12 ((headL base snap).length + es.length) c12) ((headL base snap).length + es.length) (strs (headL base snap) ++ strs es)) hI ?hr29 ?hln30 ?hlb31)) (by (repeat' constructor)) ?nx32
    case hr29 => exact fun h hp => (by rw [List.length_append, show strs (headL base snap ++ es) = strs (headL base snap) ++ strs es from List.map_append]; exact slR_rd hp)
    case hln30 => rw [List.length_append]; omega
    case hlb31 => exact renew_bound hsn (by omega)
    rintro v L' ⟨rfl, rfl⟩
    refine D.ph ?_
    refine Phases.go [] (by (repeat' constructor)) ?_
    refine D.h rfl (by kernel_rfl) (OpSpec.call Tryz.func50 rfl rfl (vs := [_, _]) rfl (lmetC_spec g x Λ _ ea ec za zc)) (by (repeat' constructor)) ?nx34
    rintro v L' ⟨rfl, rfl⟩
    refine D.ph ?_
    refine Phases.go [] (by (repeat' constructor)) ?_
    refine D.qw [] rfl (by kernel_rfl) (Quiet.assign rfl) ?_
    refine D.ph (Phases.fin (G.then_n (G.seq (G.seq (G.region (G.q (Quiet.move rfl) rfl (G.q (Quiet.int rfl rfl rfl) rfl (G.nil (G.then_n ?_)))))))))
    refine G.condD rfl (fun h26 => ?_) (fun h26 => ?_)
    ·refine G.draw [10, 13, 16, 19, 22, 25] [[0, 1, 2, 3, 4, 5, 6, 7, 8, 9, 11, 12, 10, 13, 14, 15, 16, 17, 18, 19, 20, 21, 22], [23, 24, 25]] mixed (by kernel_rfl) ?_
     refine Phases.go [ptc b3 _ _] (by (repeat' constructor)) ?_
     refine D.q rfl (by kernel_rfl) (Quiet.move rfl) ?_
     refine D.q rfl (by kernel_rfl) (Quiet.move rfl) ?_
     refine D.q rfl (by kernel_rfl) (Quiet.move rfl) ?_
     refine D.q rfl (by kernel_rfl) (Quiet.move rfl) ?_
     refine D.q rfl (by kernel_rfl) (Quiet.fieldAddr rfl fo_79_2) ?_
     refine D.q rfl (by kernel_rfl) (Quiet.load rfl ag_3 (by (repeat' constructor)) (rfl)) ?_
     refine D.q rfl (by kernel_rfl) (Quiet.fieldAddr rfl fo_79_3) ?_
     refine D.q rfl (by kernel_rfl) (Quiet.load rfl ag_9 (by (repeat' constructor)) (rfl)) ?_
     refine D.qw [9, 10, 13, 14, 15, 16, 17, 18, 19, 20, 21, 22] rfl (by kernel_rfl) (Quiet.fieldAddr rfl fo_79_4) ?_
     refine D.qw [10, 13, 14, 15, 16, 17, 18, 19, 20, 21, 22] rfl (by kernel_rfl) (Quiet.load rfl ag_46 (by (repeat' constructor)) (rfl)) ?_
     refine D.q rfl (by kernel_rfl) (Quiet.fieldAddr rfl fo_79_5) ?_
     refine D.q rfl (by kernel_rfl) (Quiet.load rfl ag_31 (by (repeat' constructor)) (rfl)) ?_
     refine D.h rfl (by kernel_rfl) (OpSpec.call Tryz.func116 rfl rfl (vs := [_]) rfl (cloneT_spec _ es.length (strs es) p hre ?hc49 ?hb50)) (by (repeat' constructor)) ?nx51
     case hc49 => intro y hy; obtain ⟨z, -, rfl⟩ := List.mem_map.1 hy; rfl
     case hb50 => omega
     rintro v L' ⟨⟨a10, c10, rfl⟩, rfl⟩
     refine D.h rfl (by kernel_rfl) (OpSpec.call Tryz.func181 rfl rfl (vs := [_]) rfl (cloneI_spec _ zs.length (ints zs) p hrz ?hc53 ?hb54)) (by (repeat' constructor)) ?nx55
     case hc53 => intro y hy; obtain ⟨z, -, rfl⟩ := List.mem_map.1 hy; rfl
     case hb54 => omega
     rintro v L' ⟨⟨a13, c13, rfl⟩, rfl⟩
     refine D.qw [15, 16, 17, 18, 19, 20, 21, 22] rfl (by kernel_rfl) (Quiet.nilp rfl) ?_
     refine D.qw [16, 17, 18, 19, 20, 21, 22] rfl (by kernel_rfl) (Quiet.fieldAddr rfl fo_79_2) ?_
     refine D.h rfl (by kernel_rfl) (OpSpec.store rfl rfl rfl sz_3 ?c59 ?c60) (by (repeat' constructor)) ?nx61
     case c59 => first | decide | (simp; omega) | simp
     case c60 => exact nfz0 _ _
     rintro v L' rfl
     refine D.qw [18, 19, 20, 21, 22] rfl (by kernel_rfl) (Quiet.nilp rfl) ?_
     refine D.qw [19, 20, 21, 22] rfl (by kernel_rfl) (Quiet.fieldAddr rfl fo_79_3) ?_
     refine D.h rfl (by kernel_rfl) (OpSpec.store rfl rfl rfl sz_9 ?c64 ?c65) (by (repeat' constructor)) ?nx66
     case c64 => first | decide | (simp; omega) | simp
     case c65 => exact nfz0 _ _
     rintro v L' rfl
     refine D.qw [21, 22] rfl (by kernel_rfl) (Quiet.nilp rfl) ?_
     refine D.qw [22] rfl (by kernel_rfl) (Quiet.fieldAddr rfl fo_79_4) ?_
     refine D.h rfl (by kernel_rfl) (OpSpec.store rfl rfl rfl sz_46 ?c69 ?c70) (by (repeat' constructor)) ?nx71
     case c69 => first | decide | (simp; omega) | simp
     case c70 => exact nfz0 _ _
     rintro v L' rfl
     refine D.ph ?_
     refine Phases.go [] (by (repeat' constructor)) ?_
     refine D.qw [24, 25] rfl (by kernel_rfl) (Quiet.nilp rfl) ?_
     refine D.qw [25] rfl (by kernel_rfl) (Quiet.fieldAddr rfl fo_79_5) ?_
     refine D.h rfl (by kernel_rfl) (OpSpec.store rfl rfl rfl sz_31 ?c74 ?c75) (by (repeat' constructor)) ?nx76
     case c74 => first | decide | (simp; omega) | simp
     case c75 => exact nfz0 _ _
     rintro v L' rfl
     refine D.ph (Phases.fin (G.then_n (G.seq (G.region (G.q (Quiet.move rfl) rfl (G.q (Quiet.assign rfl) rfl (G.nil (G.then_n (G.ret ?_)))))))))
     have hr : lgRenew ⟨δ, ω, Λ⟩ base snap es zs = (⟨(renewZ δ ω (headL base snap ++ es)).1, (renewZ δ ω (headL base snap ++ es)).2.1, ⟨Λ.acc, Λ.cur, base, snap, es, zs, Λ.doubt⟩⟩, 0) := by unfold lgRenew; dsimp only; rw [if_neg (by omega), if_pos (show (metL Λ (renewZ δ ω (headL base snap ++ es))).2 = 0 from h26)]
     rw [hr, h26]
     dsimp only
     rw [doubt_of h26]
     refine G.lgFold (g := g) (x := x) (ea := a10) (ec := c10) (za := a13) (zc := c13) (m := es.length) (k := zs.length) (⟨Λ.acc, Λ.cur, base, snap, es, zs, Λ.doubt⟩ : Lg) (by (repeat' constructor)) rfl rfl rfl rfl rfl ?_
     exact G.done (l := [.tmp 4]) rfl rfl ⟨rfl, .inl ⟨rfl, rfl⟩⟩ (by (repeat' constructor)) (by (repeat' constructor))
    ·refine G.skip (G.then_n (G.seq (G.region (G.q (Quiet.move rfl) rfl (G.q (Quiet.assign rfl) rfl (G.nil (G.then_n (G.ret ?_))))))))
     have hr : lgRenew ⟨δ, ω, Λ⟩ base snap es zs = metL Λ (renewZ δ ω (headL base snap ++ es)) := by unfold lgRenew; dsimp only; rw [if_neg (by omega), if_neg (show ¬ (metL Λ (renewZ δ ω (headL base snap ++ es))).2 = 0 from h26)]
     rw [hr]
     exact G.done (l := [.tmp 4]) rfl rfl ⟨rfl, .inr ⟨h26, rfl⟩⟩ (by (repeat' constructor)) (by (repeat' constructor))
   ·rintro v L' ⟨rfl, rfl⟩
    refine D.h rfl (by kernel_rfl) (OpSpec.append (n := (headL base snap).length) (m := es.length) (xs := strs (headL base snap)) (ys := strs es) (p := p) rfl rfl rfl el_46 (.inl ⟨_, Tryz.underlying46⟩) ze_9 rfl rfl ?hc78 hre ?hb79 (by decide)) (by (repeat' constructor)) ?nx80
    case hc78 => intro y hy; obtain ⟨z, -, rfl⟩ := List.mem_map.1 hy; rfl
    case hb79 => omega
    rintro v L' ⟨⟨a12, c12, rfl⟩, rfl⟩
    refine D.h rfl (by kernel_rfl) (OpSpec.call Tryz.func180 rfl rfl (vs := [_, _]) rfl (wrenew2_spec x d ω δ (.slice a12 ((headL base snap).length + es.length) c12) (headL base snap ++ es) (slR 9 1 (.slice a12 ((headL base snap).length + es.length) c12) ((headL base snap).length + es.length) (strs (headL base snap) ++ strs es)) hI ?hr82 ?hln83 ?hlb84)) (by (repeat' constructor)) ?nx85
    case hr82 => exact fun h hp => (by rw [List.length_append, show strs (headL base snap ++ es) = strs (headL base snap) ++ strs es from List.map_append]; exact slR_rd hp)
    case hln83 => rw [List.length_append]; omega
    case hlb84 => exact renew_bound hsn (by omega)
    rintro v L' ⟨rfl, rfl⟩
    refine D.ph ?_
    refine Phases.go [] (by (repeat' constructor)) ?_
    refine D.h rfl (by kernel_rfl) (OpSpec.call Tryz.func50 rfl rfl (vs := [_, _]) rfl (lmetC_spec g x Λ _ ea ec za zc)) (by (repeat' constructor)) ?nx87
    rintro v L' ⟨rfl, rfl⟩
    refine D.ph ?_
    refine Phases.go [] (by (repeat' constructor)) ?_
    refine D.qw [] rfl (by kernel_rfl) (Quiet.assign rfl) ?_
    refine D.ph (Phases.fin (G.then_n (G.seq (G.seq (G.region (G.q (Quiet.move rfl) rfl (G.q (Quiet.int rfl rfl rfl) rfl (G.nil (G.then_n ?_)))))))))
    refine G.condD rfl (fun h26 => ?_) (fun h26 => ?_)
    ·refine G.draw [10, 13, 16, 19, 22, 25] [[0, 1, 2, 3, 4, 5, 6, 7, 8, 9, 11, 12, 10, 13, 14, 15, 16, 17, 18, 19, 20, 21, 22], [23, 24, 25]] mixed (by kernel_rfl) ?_
     refine Phases.go [ptc b3 _ _] (by (repeat' constructor)) ?_
     refine D.q rfl (by kernel_rfl) (Quiet.move rfl) ?_
     refine D.q rfl (by kernel_rfl) (Quiet.move rfl) ?_
     refine D.q rfl (by kernel_rfl) (Quiet.move rfl) ?_
     refine D.q rfl (by kernel_rfl) (Quiet.move rfl) ?_
     refine D.q rfl (by kernel_rfl) (Quiet.fieldAddr rfl fo_79_2) ?_
     refine D.q rfl (by kernel_rfl) (Quiet.load rfl ag_3 (by (repeat' constructor)) (rfl)) ?_
     refine D.q rfl (by kernel_rfl) (Quiet.fieldAddr rfl fo_79_3) ?_
     refine D.q rfl (by kernel_rfl) (Quiet.load rfl ag_9 (by (repeat' constructor)) (rfl)) ?_
     refine D.qw [9, 10, 13, 14, 15, 16, 17, 18, 19, 20, 21, 22] rfl (by kernel_rfl) (Quiet.fieldAddr rfl fo_79_4) ?_
     refine D.qw [10, 13, 14, 15, 16, 17, 18, 19, 20, 21, 22] rfl (by kernel_rfl) (Quiet.load rfl ag_46 (by (repeat' constructor)) (rfl)) ?_
     refine D.q rfl (by kernel_rfl) (Quiet.fieldAddr rfl fo_79_5) ?_
     refine D.q rfl (by kernel_rfl) (Quiet.load rfl ag_31 (by (repeat' constructor)) (rfl)) ?_
     refine D.h rfl (by kernel_rfl) (OpSpec.call Tryz.func116 rfl rfl (vs := [_]) rfl (cloneT_spec _ es.length (strs es) p hre ?hc102 ?hb103)) (by (repeat' constructor)) ?nx104
     case hc102 => intro y hy; obtain ⟨z, -, rfl⟩ := List.mem_map.1 hy; rfl
     case hb103 => omega
     rintro v L' ⟨⟨a10, c10, rfl⟩, rfl⟩
     refine D.h rfl (by kernel_rfl) (OpSpec.call Tryz.func181 rfl rfl (vs := [_]) rfl (cloneI_spec _ zs.length (ints zs) p hrz ?hc106 ?hb107)) (by (repeat' constructor)) ?nx108
     case hc106 => intro y hy; obtain ⟨z, -, rfl⟩ := List.mem_map.1 hy; rfl
     case hb107 => omega
     rintro v L' ⟨⟨a13, c13, rfl⟩, rfl⟩
     refine D.qw [15, 16, 17, 18, 19, 20, 21, 22] rfl (by kernel_rfl) (Quiet.nilp rfl) ?_
     refine D.qw [16, 17, 18, 19, 20, 21, 22] rfl (by kernel_rfl) (Quiet.fieldAddr rfl fo_79_2) ?_
     refine D.h rfl (by kernel_rfl) (OpSpec.store rfl rfl rfl sz_3 ?c112 ?c113) (by (repeat' constructor)) ?nx114
     case c112 => first | decide | (simp; omega) | simp
     case c113 => exact nfz0 _ _
     rintro v L' rfl
     refine D.qw [18, 19, 20, 21, 22] rfl (by kernel_rfl) (Quiet.nilp rfl) ?_
     refine D.qw [19, 20, 21, 22] rfl (by kernel_rfl) (Quiet.fieldAddr rfl fo_79_3) ?_
     refine D.h rfl (by kernel_rfl) (OpSpec.store rfl rfl rfl sz_9 ?c117 ?c118) (by (repeat' constructor)) ?nx119
     case c117 => first | decide | (simp; omega) | simp
     case c118 => exact nfz0 _ _
     rintro v L' rfl
     refine D.qw [21, 22] rfl (by kernel_rfl) (Quiet.nilp rfl) ?_
     refine D.qw [22] rfl (by kernel_rfl) (Quiet.fieldAddr rfl fo_79_4) ?_
     refine D.h rfl (by kernel_rfl) (OpSpec.store rfl rfl rfl sz_46 ?c122 ?c123) (by (repeat' constructor)) ?nx124
     case c122 => first | decide | (simp; omega) | simp
     case c123 => exact nfz0 _ _
     rintro v L' rfl
     refine D.ph ?_
     refine Phases.go [] (by (repeat' constructor)) ?_
     refine D.qw [24, 25] rfl (by kernel_rfl) (Quiet.nilp rfl) ?_
     refine D.qw [25] rfl (by kernel_rfl) (Quiet.fieldAddr rfl fo_79_5) ?_
     refine D.h rfl (by kernel_rfl) (OpSpec.store rfl rfl rfl sz_31 ?c127 ?c128) (by (repeat' constructor)) ?nx129
     case c127 => first | decide | (simp; omega) | simp
     case c128 => exact nfz0 _ _
     rintro v L' rfl
     refine D.ph (Phases.fin (G.then_n (G.seq (G.region (G.q (Quiet.move rfl) rfl (G.q (Quiet.assign rfl) rfl (G.nil (G.then_n (G.ret ?_)))))))))
     have hr : lgRenew ⟨δ, ω, Λ⟩ base snap es zs = (⟨(renewZ δ ω (headL base snap ++ es)).1, (renewZ δ ω (headL base snap ++ es)).2.1, ⟨Λ.acc, Λ.cur, base, snap, es, zs, Λ.doubt⟩⟩, 0) := by unfold lgRenew; dsimp only; rw [if_neg (by omega), if_pos (show (metL Λ (renewZ δ ω (headL base snap ++ es))).2 = 0 from h26)]
     rw [hr, h26]
     dsimp only
     rw [doubt_of h26]
     refine G.lgFold (g := g) (x := x) (ea := a10) (ec := c10) (za := a13) (zc := c13) (m := es.length) (k := zs.length) (⟨Λ.acc, Λ.cur, base, snap, es, zs, Λ.doubt⟩ : Lg) (by (repeat' constructor)) rfl rfl rfl rfl rfl ?_
     exact G.done (l := [.tmp 4]) rfl rfl ⟨rfl, .inl ⟨rfl, rfl⟩⟩ (by (repeat' constructor)) (by (repeat' constructor))
    ·refine G.skip (G.then_n (G.seq (G.region (G.q (Quiet.move rfl) rfl (G.q (Quiet.assign rfl) rfl (G.nil (G.then_n (G.ret ?_))))))))
     have hr : lgRenew ⟨δ, ω, Λ⟩ base snap es zs = metL Λ (renewZ δ ω (headL base snap ++ es)) := by unfold lgRenew; dsimp only; rw [if_neg (by omega), if_neg (show ¬ (metL Λ (renewZ δ ω (headL base snap ++ es))).2 = 0 from h26)]
     rw [hr]
     exact G.done (l := [.tmp 4]) rfl rfl ⟨rfl, .inr ⟨h26, rfl⟩⟩ (by (repeat' constructor)) (by (repeat' constructor))
  ·rintro v L' ⟨rfl, rfl⟩
   refine D.h rfl (by kernel_rfl) (OpSpec.call Tryz.func46 rfl rfl (vs := [_, _]) rfl (lahead_spec base snap hb (by omega))) (by (repeat' constructor)) ?nx131
   rintro v L' ⟨bh, ch, rfl, rfl⟩
   refine D.h rfl (by kernel_rfl) (OpSpec.append (n := (headL base snap).length) (m := es.length) (xs := strs (headL base snap)) (ys := strs es) (p := p) rfl rfl rfl el_46 (.inl ⟨_, Tryz.underlying46⟩) ze_9 rfl rfl ?hc133 hre ?hb134 (by decide)) (by (repeat' constructor)) ?nx135
   case hc133 => intro y hy; obtain ⟨z, -, rfl⟩ := List.mem_map.1 hy; rfl
   case hb134 => omega
   rintro v L' ⟨⟨a12, c12, rfl⟩, rfl⟩
   refine D.h rfl (by kernel_rfl) (OpSpec.call Tryz.func180 rfl rfl (vs := [_, _]) rfl (wrenew2_spec x d ω δ (.slice a12 ((headL base snap).length + es.length) c12) (headL base snap ++ es) (slR 9 1 (.slice a12 ((headL base snap).length + es.length) c12) ((headL base snap).length + es.length) (strs (headL base snap) ++ strs es)) hI ?hr137 ?hln138 ?hlb139)) (by (repeat' constructor)) ?nx140
   case hr137 => exact fun h hp => (by rw [List.length_append, show strs (headL base snap ++ es) = strs (headL base snap) ++ strs es from List.map_append]; exact slR_rd hp)
   case hln138 => rw [List.length_append]; omega
   case hlb139 => exact renew_bound hsn (by omega)
   rintro v L' ⟨rfl, rfl⟩
   refine D.ph ?_
   refine Phases.go [] (by (repeat' constructor)) ?_
   refine D.h rfl (by kernel_rfl) (OpSpec.call Tryz.func50 rfl rfl (vs := [_, _]) rfl (lmetC_spec g x Λ _ ea ec za zc)) (by (repeat' constructor)) ?nx142
   rintro v L' ⟨rfl, rfl⟩
   refine D.ph ?_
   refine Phases.go [] (by (repeat' constructor)) ?_
   refine D.qw [] rfl (by kernel_rfl) (Quiet.assign rfl) ?_
   refine D.ph (Phases.fin (G.then_n (G.seq (G.seq (G.region (G.q (Quiet.move rfl) rfl (G.q (Quiet.int rfl rfl rfl) rfl (G.nil (G.then_n ?_)))))))))
   refine G.condD rfl (fun h26 => ?_) (fun h26 => ?_)
   ·refine G.draw [10, 13, 16, 19, 22, 25] [[0, 1, 2, 3, 4, 5, 6, 7, 8, 9, 11, 12, 10, 13, 14, 15, 16, 17, 18, 19, 20, 21, 22], [23, 24, 25]] mixed (by kernel_rfl) ?_
    refine Phases.go [ptc b3 _ _] (by (repeat' constructor)) ?_
    refine D.q rfl (by kernel_rfl) (Quiet.move rfl) ?_
    refine D.q rfl (by kernel_rfl) (Quiet.move rfl) ?_
    refine D.q rfl (by kernel_rfl) (Quiet.move rfl) ?_
    refine D.q rfl (by kernel_rfl) (Quiet.move rfl) ?_
    refine D.q rfl (by kernel_rfl) (Quiet.fieldAddr rfl fo_79_2) ?_
    refine D.q rfl (by kernel_rfl) (Quiet.load rfl ag_3 (by (repeat' constructor)) (rfl)) ?_
    refine D.q rfl (by kernel_rfl) (Quiet.fieldAddr rfl fo_79_3) ?_
    refine D.q rfl (by kernel_rfl) (Quiet.load rfl ag_9 (by (repeat' constructor)) (rfl)) ?_
    refine D.qw [9, 10, 13, 14, 15, 16, 17, 18, 19, 20, 21, 22] rfl (by kernel_rfl) (Quiet.fieldAddr rfl fo_79_4) ?_
    refine D.qw [10, 13, 14, 15, 16, 17, 18, 19, 20, 21, 22] rfl (by kernel_rfl) (Quiet.load rfl ag_46 (by (repeat' constructor)) (rfl)) ?_
    refine D.q rfl (by kernel_rfl) (Quiet.fieldAddr rfl fo_79_5) ?_
    refine D.q rfl (by kernel_rfl) (Quiet.load rfl ag_31 (by (repeat' constructor)) (rfl)) ?_
    refine D.h rfl (by kernel_rfl) (OpSpec.call Tryz.func116 rfl rfl (vs := [_]) rfl (cloneT_spec _ es.length (strs es) p hre ?hc157 ?hb158)) (by (repeat' constructor)) ?nx159
    case hc157 => intro y hy; obtain ⟨z, -, rfl⟩ := List.mem_map.1 hy; rfl
    case hb158 => omega
    rintro v L' ⟨⟨a10, c10, rfl⟩, rfl⟩
    refine D.h rfl (by kernel_rfl) (OpSpec.call Tryz.func181 rfl rfl (vs := [_]) rfl (cloneI_spec _ zs.length (ints zs) p hrz ?hc161 ?hb162)) (by (repeat' constructor)) ?nx163
    case hc161 => intro y hy; obtain ⟨z, -, rfl⟩ := List.mem_map.1 hy; rfl
    case hb162 => omega
    rintro v L' ⟨⟨a13, c13, rfl⟩, rfl⟩
    refine D.qw [15, 16, 17, 18, 19, 20, 21, 22] rfl (by kernel_rfl) (Quiet.nilp rfl) ?_
    refine D.qw [16, 17, 18, 19, 20, 21, 22] rfl (by kernel_rfl) (Quiet.fieldAddr rfl fo_79_2) ?_
    refine D.h rfl (by kernel_rfl) (OpSpec.store rfl rfl rfl sz_3 ?c167 ?c168) (by (repeat' constructor)) ?nx169
    case c167 => first | decide | (simp; omega) | simp
    case c168 => exact nfz0 _ _
    rintro v L' rfl
    refine D.qw [18, 19, 20, 21, 22] rfl (by kernel_rfl) (Quiet.nilp rfl) ?_
    refine D.qw [19, 20, 21, 22] rfl (by kernel_rfl) (Quiet.fieldAddr rfl fo_79_3) ?_
    refine D.h rfl (by kernel_rfl) (OpSpec.store rfl rfl rfl sz_9 ?c172 ?c173) (by (repeat' constructor)) ?nx174
    case c172 => first | decide | (simp; omega) | simp
    case c173 => exact nfz0 _ _
    rintro v L' rfl
    refine D.qw [21, 22] rfl (by kernel_rfl) (Quiet.nilp rfl) ?_
    refine D.qw [22] rfl (by kernel_rfl) (Quiet.fieldAddr rfl fo_79_4) ?_
    refine D.h rfl (by kernel_rfl) (OpSpec.store rfl rfl rfl sz_46 ?c177 ?c178) (by (repeat' constructor)) ?nx179
    case c177 => first | decide | (simp; omega) | simp
    case c178 => exact nfz0 _ _
    rintro v L' rfl
    refine D.ph ?_
    refine Phases.go [] (by (repeat' constructor)) ?_
    refine D.qw [24, 25] rfl (by kernel_rfl) (Quiet.nilp rfl) ?_
    refine D.qw [25] rfl (by kernel_rfl) (Quiet.fieldAddr rfl fo_79_5) ?_
    refine D.h rfl (by kernel_rfl) (OpSpec.store rfl rfl rfl sz_31 ?c182 ?c183) (by (repeat' constructor)) ?nx184
    case c182 => first | decide | (simp; omega) | simp
    case c183 => exact nfz0 _ _
    rintro v L' rfl
    refine D.ph (Phases.fin (G.then_n (G.seq (G.region (G.q (Quiet.move rfl) rfl (G.q (Quiet.assign rfl) rfl (G.nil (G.then_n (G.ret ?_)))))))))
    have hr : lgRenew ⟨δ, ω, Λ⟩ base snap es zs = (⟨(renewZ δ ω (headL base snap ++ es)).1, (renewZ δ ω (headL base snap ++ es)).2.1, ⟨Λ.acc, Λ.cur, base, snap, es, zs, Λ.doubt⟩⟩, 0) := by unfold lgRenew; dsimp only; rw [if_neg (by omega), if_pos (show (metL Λ (renewZ δ ω (headL base snap ++ es))).2 = 0 from h26)]
    rw [hr, h26]
    dsimp only
    rw [doubt_of h26]
    refine G.lgFold (g := g) (x := x) (ea := a10) (ec := c10) (za := a13) (zc := c13) (m := es.length) (k := zs.length) (⟨Λ.acc, Λ.cur, base, snap, es, zs, Λ.doubt⟩ : Lg) (by (repeat' constructor)) rfl rfl rfl rfl rfl ?_
    exact G.done (l := [.tmp 4]) rfl rfl ⟨rfl, .inl ⟨rfl, rfl⟩⟩ (by (repeat' constructor)) (by (repeat' constructor))
   ·refine G.skip (G.then_n (G.seq (G.region (G.q (Quiet.move rfl) rfl (G.q (Quiet.assign rfl) rfl (G.nil (G.then_n (G.ret ?_))))))))
    have hr : lgRenew ⟨δ, ω, Λ⟩ base snap es zs = metL Λ (renewZ δ ω (headL base snap ++ es)) := by unfold lgRenew; dsimp only; rw [if_neg (by omega), if_neg (show ¬ (metL Λ (renewZ δ ω (headL base snap ++ es))).2 = 0 from h26)]
    rw [hr]
    exact G.done (l := [.tmp 4]) rfl rfl ⟨rfl, .inr ⟨h26, rfl⟩⟩ (by (repeat' constructor)) (by (repeat' constructor))

theorem sep_hd {p : HP} {h : Hp} (hp : sep [p] h) : ∀ {sz n : Nat} {v : Value} {ys : List Value}, (∀ h, p h → rdS sz h v n ys) → rdS sz h v n ys := by
  obtain ⟨g1, g2, -, le1, le2, q1, q2⟩ := hp
  intro sz n v ys hr
  exact rdS_mono (hr _ q1) le1
set_option maxRecDepth 100000 in
theorem lcompact_spec (g x d : Nat) (δ : Dk) (ω : Wl) (Λ : Lg) (z : Int) (snap : Bs) (hI : WlI δ ω) (hΛ : LgI Λ) (hs : Λ.zxs.Pairwise (· < ·)) (hz : I64 z) : Fn Tryz.prog 80 #[vptr g, vint z, vstr snap] [lgR g x Λ, wlR x d ω, dkR d δ] fun v L => v = vint (lgCompact ⟨δ, ω, Λ⟩ z snap).2 ∧ L = [lgR g x (lgCompact ⟨δ, ω, Λ⟩ z snap).1.Λ, wlR x d (lgCompact ⟨δ, ω, Λ⟩ z snap).1.ω, dkR d (lgCompact ⟨δ, ω, Λ⟩ z snap).1.δ] := by
 refine Fn.intro (vs := [vptr g, vint z, vstr snap]) Tryz.func80 rfl rfl ?_
 intro F W
 refine G.lgOpen (by (repeat' constructor)) fun ea ec za zc => ?_
 have h1 := hΛ.ents
 have h2 := hΛ.same
 refine G.seq (G.region (G.q (Quiet.assign rfl) rfl (G.nil (G.then_n (G.seq (G.block (G.seq (G.region (G.q (Quiet.move rfl) rfl (G.q (Quiet.nilp rfl) rfl (G.q (Quiet.fieldAddr rfl fo_79_6) rfl ?_)))))))))))
 refine G.q (Quiet.load rfl ag_4 (by (repeat' constructor)) (rfl)) rfl ?_
 refine G.q (Quiet.assign rfl) rfl (G.nil (G.then_n ?_))
 refine G.condB rfl (fun h9 => ?_) (fun h9 => ?_)
 ·refine G.seq (G.region (G.q (Quiet.assign rfl) rfl (G.nil (G.then_n (G.ret (G.blk_r (G.then_r ?_)))))))
  have hr : lgCompact ⟨δ, ω, Λ⟩ z snap = (⟨δ, ω, Λ⟩, 2) := by unfold lgCompact; dsimp only; rw [if_pos h9]
  rw [hr]
  try dsimp only
  refine G.lgFold (g := g) (x := x) Λ (by (repeat' constructor)) (by exact rfl) (by first | rfl | simp [Lg.keep]) (by first | rfl | simp [Lg.keep]) (by first | rfl | simp [Lg.keep]) (by first | rfl | simp [Lg.keep]) ?_
  exact G.done (l := [.tmp 6]) rfl rfl ⟨rfl, rfl⟩ (by (repeat' constructor)) (by (repeat' constructor))
 ·refine G.seq (G.region (G.q (Quiet.move rfl) rfl (G.q (Quiet.strlen rfl Tryz.underlying9 rfl) rfl (G.q (Quiet.int rfl rfl rfl) rfl (G.q (Quiet.assign rfl) rfl (G.nil (G.then_n ?_)))))))
  refine G.condD rfl (fun h14 => ?_) (fun h14 => ?_)
  ·refine G.seq (G.region (G.q (Quiet.assign rfl) rfl (G.nil (G.then_n (G.ret (G.blk_r (G.then_r ?_)))))))
   have hr : lgCompact ⟨δ, ω, Λ⟩ z snap = (⟨δ, ω, Λ⟩, 1) := by unfold lgCompact; dsimp only; rw [if_neg (by rw [h9]; decide), if_pos (by omega)]
   rw [hr]
   try dsimp only
   refine G.lgFold (g := g) (x := x) Λ (by (repeat' constructor)) (by exact rfl) (by first | rfl | simp [Lg.keep]) (by first | rfl | simp [Lg.keep]) (by first | rfl | simp [Lg.keep]) (by first | rfl | simp [Lg.keep]) ?_
   exact G.done (l := [.tmp 6]) rfl rfl ⟨rfl, rfl⟩ (by (repeat' constructor)) (by (repeat' constructor))
  ·refine G.skip (G.blk_n (G.then_n (G.seq ?_)))
   refine G.lgFold (g := g) (x := x) Λ (by (repeat' constructor)) (by exact rfl) (by first | rfl | simp [Lg.keep]) (by first | rfl | simp [Lg.keep]) (by first | rfl | simp [Lg.keep]) (by first | rfl | simp [Lg.keep]) ?_
   refine G.region (G.q (Quiet.move rfl) rfl (G.q (Quiet.move rfl) rfl ?_))
   refine G.op (OpSpec.call Tryz.func74 rfl rfl (vs := [_, _]) rfl (lupto_spec g x Λ z hΛ hs)) (by (repeat' constructor)) rfl ?nx13
   rintro v L' ⟨rfl, rfl⟩
   refine G.q (Quiet.move rfl) rfl (G.q (Quiet.extract rfl rfl) rfl (G.q (Quiet.extract rfl rfl) rfl (G.q (Quiet.assign rfl) rfl (G.q (Quiet.assign rfl) rfl (G.nil (G.then_n (G.seq (G.seq (G.region ?_)))))))))
   rcases hpl : placeZ Λ z with _ | n
   ·refine G.q (Quiet.move rfl) rfl (G.q (Quiet.not rfl) rfl (G.nil (G.then_n (G.condT rfl (G.seq (G.region (G.q (Quiet.assign rfl) rfl (G.nil (G.then_n (G.ret (G.then_r ?_)))))))))))
    have hr : lgCompact ⟨δ, ω, Λ⟩ z snap = (⟨δ, ω, Λ⟩, 81) := by unfold lgCompact; dsimp only; rw [if_neg (by rw [h9]; decide), if_neg (by omega), hpl]
    rw [hr]
    try dsimp only
    exact G.done (l := [.tmp 6]) rfl rfl ⟨rfl, rfl⟩ (by (repeat' constructor)) (by (repeat' constructor))
   ·simp only [Option.getD_some]
    have hpe := (place_le hpl).1
    refine G.q (Quiet.move rfl) rfl (G.q (Quiet.not rfl) rfl (G.nil (G.then_n (G.condF rfl (G.skip (G.then_n (G.seq ?_)))))))
    refine G.lgOpen (by (repeat' constructor)) fun ea ec za zc => ?_
    refine G.slAddr (a := ea) (c := ec) (by (repeat' constructor)) fun hcap1 _ => ?_
    refine G.slAddr (a := za) (c := zc) (by (repeat' constructor)) fun hcap2 _ => ?_
    refine G.fold (p := sep [strR (.slice ea Λ.ents.length ec) Λ.ents, intR (.slice za Λ.zxs.length zc) Λ.zxs]) (q := [strR (.slice ea Λ.ents.length ec) Λ.ents, intR (.slice za Λ.zxs.length zc) Λ.zxs]) (by (repeat' constructor)) (fun _ hp => hp) ?_
    refine G.draw [16] [[0, 1, 2, 3, 4, 5, 6, 7, 8, 9, 10, 11, 12, 13, 14, 15, 16], [17]] mixed (by kernel_rfl) ?_
    refine Phases.go [] (by (repeat' constructor)) ?_
    refine D.qw [16] rfl (by kernel_rfl) (Quiet.move rfl) ?_
    refine D.qw [15, 16] rfl (by kernel_rfl) (Quiet.move rfl) ?_
    refine D.qw [15, 16] rfl (by kernel_rfl) (Quiet.move rfl) ?_
    refine D.qw [4, 5, 6, 8, 15, 16] rfl (by kernel_rfl) (Quiet.move rfl) ?_
    refine D.qw [5, 6, 8, 15, 16] rfl (by kernel_rfl) (Quiet.nilp rfl) ?_
    refine D.qw [6, 8, 15, 16] rfl (by kernel_rfl) (Quiet.fieldAddr rfl fo_79_4) ?_
    refine D.qw [8, 15, 16] rfl (by kernel_rfl) (Quiet.load rfl ag_46 (by (repeat' constructor)) (rfl)) ?_
    refine D.qw [8, 15, 16] rfl (by kernel_rfl) (Quiet.move rfl) ?_
    refine D.qw [15, 16] rfl (by kernel_rfl) (Quiet.to (v' := (.slice (cutS ea ec n) (Λ.ents.length - n) (ec - n))) (Quiet.slFromS (i := (n : Int)) rfl el_46 rfl (by omega)) (by rw [Int.toNat_natCast])) ?_
    refine D.qw [10, 11, 12, 14, 15, 16] rfl (by kernel_rfl) (Quiet.move rfl) ?_
    refine D.qw [11, 12, 14, 15, 16] rfl (by kernel_rfl) (Quiet.nilp rfl) ?_
    refine D.qw [12, 14, 15, 16] rfl (by kernel_rfl) (Quiet.fieldAddr rfl fo_79_5) ?_
    refine D.qw [14, 15, 16] rfl (by kernel_rfl) (Quiet.load rfl ag_31 (by (repeat' constructor)) (rfl)) ?_
    refine D.qw [14, 15, 16] rfl (by kernel_rfl) (Quiet.move rfl) ?_
    refine D.qw [15, 16] rfl (by kernel_rfl) (Quiet.to (v' := (.slice (cutS za zc n) (Λ.zxs.length - n) (zc - n))) (Quiet.slFromS (i := (n : Int)) rfl el_31 rfl (by omega)) (by rw [Int.toNat_natCast])) ?_
    refine D.qw [16] rfl (by kernel_rfl) (Quiet.buildN (pl := [(0, 2), (2, 1), (3, 1), (4, 1), (5, 1), (6, 1), (7, 1)]) (us := [(2, _), (3, _), (4, _), (5, _)]) (cells := [vint 0, vint 0, .pointer none, vint z, vstr snap, (.slice (cutS ea ec n) (Λ.ents.length - n) (ec - n)), (.slice (cutS za zc n) (Λ.zxs.length - n) (zc - n)), .bool false]) Tryz.underlying79 (by kernel_rfl) ze_79 rfl rfl) ?_
    refine D.h rfl (by kernel_rfl) (OpSpec.call Tryz.func139 rfl rfl (vs := [_, _]) rfl (lrenew_spec g x d δ ω Λ z snap (.slice (cutS ea ec n) (Λ.ents.length - n) (ec - n)) (.slice (cutS za zc n) (Λ.zxs.length - n) (zc - n)) (Λ.ents.drop n) (Λ.zxs.drop n) ea ec za zc (sep [strR (.slice ea Λ.ents.length ec) Λ.ents, intR (.slice za Λ.zxs.length zc) Λ.zxs]) hI ?hb34 ?hsn35 ?hre36 ?hrz37 ?hel38 ?hzl39)) (by (repeat' constructor)) ?nx40
    case hb34 => exact hz
    case hsn35 => omega
    case hre36 => intro h hp; obtain ⟨g1, g2, -, le1, le2, q1, q2⟩ := hp; rw [List.length_drop, show strs (Λ.ents.drop n) = (strs Λ.ents).drop n from List.map_drop]; exact rdS_mono (slR_from (by omega) q1) le1
    case hrz37 => intro h hp; obtain ⟨g1, g2, -, le1, le2, q1, q2⟩ := hp; rw [List.length_drop, show ints (Λ.zxs.drop n) = (ints Λ.zxs).drop n from List.map_drop]; exact rdS_mono (sep_hd q2 (fun _ q => slR_from (by omega) q)) le2
    case hel38 => rw [List.length_drop]; omega
    case hzl39 => rw [List.length_drop, List.length_drop]; omega
    rintro v L' ⟨rfl, ⟨hf0, rfl⟩ | ⟨hf1, rfl⟩⟩
    ·refine D.ph ?_
     refine Phases.go [] (by (repeat' constructor)) ?_
     refine D.qw [] rfl (by kernel_rfl) (Quiet.assign rfl) ?_
     refine D.ph (Phases.fin (G.then_n (G.ret ?_)))
     have hr : lgCompact ⟨δ, ω, Λ⟩ z snap = lgRenew ⟨δ, ω, Λ⟩ z snap (Λ.ents.drop n) (Λ.zxs.drop n) := by unfold lgCompact; dsimp only; rw [if_neg (by rw [h9]; decide), if_neg (by omega), hpl]
     rw [hr]
     exact G.done (l := [.tmp 6]) rfl rfl ⟨rfl, rfl⟩ (by (repeat' constructor)) (by (repeat' constructor))
    ·refine D.ph ?_
     refine Phases.go [] (by (repeat' constructor)) ?_
     refine D.qw [] rfl (by kernel_rfl) (Quiet.assign rfl) ?_
     refine D.ph (Phases.fin (G.then_n (G.ret ?_)))
     have hr : lgCompact ⟨δ, ω, Λ⟩ z snap = lgRenew ⟨δ, ω, Λ⟩ z snap (Λ.ents.drop n) (Λ.zxs.drop n) := by unfold lgCompact; dsimp only; rw [if_neg (by rw [h9]; decide), if_neg (by omega), hpl]
     rw [hr]
     refine G.focus (p := sep [strR (.slice ea Λ.ents.length ec) Λ.ents, intR (.slice za Λ.zxs.length zc) Λ.zxs]) (by (repeat' constructor)) (G.unfold (q := [strR (.slice ea Λ.ents.length ec) Λ.ents, intR (.slice za Λ.zxs.length zc) Λ.zxs]) (fun _ hp => hp) ?_)
     simp only [List.cons_append, List.nil_append]
     obtain ⟨e9, he9⟩ := renew_bad hf1
     rw [he9]
     dsimp only
     refine G.lgFold (g := g) (x := x) (ea := ea) (ec := ec) (za := za) (zc := zc) (m := Λ.ents.length) (k := Λ.zxs.length) (Λ.met e9) (by (repeat' constructor)) (by rw [met_acc, met_cur, met_base, met_snap]) (by rw [met_ents]) (by rw [met_zxs]) (by rw [met_ents]) (by rw [met_zxs]) ?_
     exact G.done (l := [.tmp 6]) rfl rfl ⟨rfl, rfl⟩ (by (repeat' constructor)) (by (repeat' constructor))

set_option maxRecDepth 100000 in
theorem lkeepN_spec (b : Nat) (base : Int) (snap : Bs) (es : List Bs) (zs : List Int) (s : Bs) (z : Int) (hl : es.length ≤ 4294967296) (hm : zs.length ≤ 4294967296) : Fn Tryz.prog 51 #[vptr b, vstr s, vint z] [lgNR b base snap es zs] fun v L => v = .tuple #[] ∧ L = [lgNR b base snap (es ++ [s]) (zs ++ [z])] := by
 refine Fn.intro (vs := [vptr b, vstr s, vint z]) Tryz.func51 rfl rfl ?_
 intro F W
 refine G.lgNOpen (by (repeat' constructor)) fun ea ec za zc => ?_
 refine G.seq (G.region (G.q (Quiet.move rfl) rfl (G.q (Quiet.move rfl) rfl (G.q (Quiet.nilp rfl) rfl (G.q (Quiet.fieldAddr rfl fo_79_4) rfl ?_)))))
 refine G.q (Quiet.load rfl ag_46 (by (repeat' constructor)) (rfl)) rfl ?_
 refine G.q (Quiet.move rfl) rfl ?_
 refine G.op (OpSpec.buildSlice1 (vs := [_]) el_46 ze_9 rfl rfl rfl rfl rfl (by decide)) (by (repeat' constructor)) rfl ?nx7
 rintro v L' ⟨b0, rfl, rfl⟩
 refine G.op (OpSpec.append1 rfl rfl rfl el_46 ze_9 rfl rfl ?c9 ?c10 (Nat.le_refl _) ?c11 (by decide)) (by (repeat' constructor)) rfl ?nx12
 case c9 => (first | (simp [isCell]; done) | (simp [isCell, setAll, Value.cells]; done))
 case c10 => rfl
 case c11 => omega
 rintro v L' ⟨⟨a0, c0, rfl⟩, rfl⟩
 refine G.q (Quiet.nilp rfl) rfl (G.q (Quiet.fieldAddr rfl fo_79_4) rfl ?_)
 refine G.op (OpSpec.store rfl rfl rfl sz_46 ?c16 ?c17) (by (repeat' constructor)) rfl ?nx18
 case c16 => first | decide | (simp; omega) | simp
 case c17 => exact nfz0 _ _
 rintro v L' rfl
 refine G.nil (G.then_n (G.region (G.q (Quiet.move rfl) rfl (G.q (Quiet.move rfl) rfl (G.q (Quiet.nilp rfl) rfl (G.q (Quiet.fieldAddr rfl fo_79_5) rfl ?_))))))
 refine G.q (Quiet.load rfl ag_31 (by (repeat' constructor)) (rfl)) rfl ?_
 refine G.q (Quiet.move rfl) rfl ?_
 refine G.op (OpSpec.buildSlice1 (vs := [_]) el_31 ze_3 rfl rfl rfl rfl rfl (by decide)) (by (repeat' constructor)) rfl ?nx25
 rintro v L' ⟨b1, rfl, rfl⟩
 refine G.op (OpSpec.append1 rfl rfl rfl el_31 ze_3 rfl rfl ?c27 ?c28 (Nat.le_refl _) ?c29 (by decide)) (by (repeat' constructor)) rfl ?nx30
 case c27 => (first | (simp [isCell]; done) | (simp [isCell, setAll, Value.cells]; done))
 case c28 => rfl
 case c29 => omega
 rintro v L' ⟨⟨a1, c1, rfl⟩, rfl⟩
 refine G.q (Quiet.nilp rfl) rfl (G.q (Quiet.fieldAddr rfl fo_79_5) rfl ?_)
 refine G.op (OpSpec.store rfl rfl rfl sz_31 ?c34 ?c35) (by (repeat' constructor)) rfl ?nx36
 case c34 => first | decide | (simp; omega) | simp
 case c35 => exact nfz0 _ _
 rintro v L' rfl
 refine G.nil (G.done_n ?_)
 refine G.lgNFold (b := b) base snap (es ++ [s]) (zs ++ [z]) (by (repeat' constructor)) rfl (by simp) (by simp) (by simp [strs, Value.cells]) (by simp [ints, Value.cells]) ?_
 exact G.done (l := []) rfl rfl ⟨rfl, rfl⟩ (by (repeat' constructor)) (by (repeat' constructor))

theorem ints_at' {zs : List Int} {i : Nat} (h : i < zs.length) : (ints zs)[i * 1]? = some (vint (zs.getD i 0)) := by
  rw [Nat.mul_one]; simp [ints, List.getD_eq_getElem?_getD, h]
theorem all_fits_bad {l : List En} {j : Nat} (h : j < l.length) (hf : fitsE l[j] = false) : l.all fitsE = false := by
  rw [List.all_eq_false]; exact ⟨l[j], List.getElem_mem h, by rw [hf]; decide⟩
theorem all_fits {l : List En} (h : ∀ j (hj : j < l.length), fitsE l[j] = true) : l.all fitsE = true := by
  rw [List.all_eq_true]; intro e he
  obtain ⟨j, hj, rfl⟩ := List.mem_iff_getElem.1 he
  exact h j hj
theorem take_map {β : Type} {f : En → β} {l : List En} {j : Nat} (h : j < l.length) : (l.take j).map f ++ [f l[j]] = (l.take (j + 1)).map f := by
  rw [List.take_succ_eq_append_getElem h, List.map_append]; rfl
set_option maxRecDepth 100000 in
theorem linstall_spec (g x d : Nat) (δ : Dk) (ω : Wl) (Λ : Lg) (z : Int) (snap : Bs) (va : Value) (l : List En) (p : HP) (hI : WlI δ ω) (hz : I64 z) (hcells : ∀ h : Hp, p h → rdS 11 h va l.length (l.flatMap enC)) (hll : l.length ≤ 1073741824) (hx : ∀ e ∈ l, EnX p e) : Fn Tryz.prog 78 #[vptr g, vint z, vstr snap, va] [lgR g x Λ, wlR x d ω, dkR d δ, p] fun v L => v = vint (lgInstall ⟨δ, ω, Λ⟩ z snap l).2 ∧ L = [lgR g x (lgInstall ⟨δ, ω, Λ⟩ z snap l).1.Λ, wlR x d (lgInstall ⟨δ, ω, Λ⟩ z snap l).1.ω, dkR d (lgInstall ⟨δ, ω, Λ⟩ z snap l).1.δ, p] := by
 refine Fn.intro (vs := [vptr g, vint z, vstr snap, va]) Tryz.func78 rfl rfl ?_
 intro F W
 refine G.lgOpen (by (repeat' constructor)) fun ea ec za zc => ?_
 refine G.rdAny (p := p) hcells (by (repeat' constructor)) fun a0 c0 e _ => ?_
 subst e
 refine G.seq (G.region (G.q (Quiet.assign rfl) rfl (G.nil (G.then_n (G.seq (G.block (G.seq (G.region (G.q (Quiet.move rfl) rfl (G.q (Quiet.nilp rfl) rfl (G.q (Quiet.fieldAddr rfl fo_79_6) rfl ?_)))))))))))
 refine G.q (Quiet.load rfl ag_4 (by (repeat' constructor)) (rfl)) rfl ?_
 refine G.q (Quiet.assign rfl) rfl (G.nil (G.then_n ?_))
 refine G.condB rfl (fun h16 => ?_) (fun h16 => ?_)
 ·refine G.seq (G.region (G.q (Quiet.assign rfl) rfl (G.nil (G.then_n (G.ret (G.blk_r (G.then_r ?_)))))))
  have hr : lgInstall ⟨δ, ω, Λ⟩ z snap l = (⟨δ, ω, Λ⟩, 2) := by unfold lgInstall; dsimp only; rw [if_pos h16]
  rw [hr]
  try dsimp only
  refine G.lgFold (g := g) (x := x) Λ (by (repeat' constructor)) (by exact rfl) (by first | rfl | simp [Lg.keep]) (by first | rfl | simp [Lg.keep]) (by first | rfl | simp [Lg.keep]) (by first | rfl | simp [Lg.keep]) ?_
  exact G.done (l := [.tmp 8]) rfl rfl ⟨rfl, rfl⟩ (by (repeat' constructor)) (by (repeat' constructor))
 ·refine G.seq (G.region (G.q (Quiet.move rfl) rfl (G.q (Quiet.int rfl rfl rfl) rfl (G.q (Quiet.move rfl) rfl ?_))))
  refine G.dec (t := 24) rfl (fun h3_24 => ?_) (fun h3_24 => ?_)
  ·refine G.kDT (t := 23) rfl h3_24 (G.gskip (t := 24) rfl rfl rfl rfl (G.gskip (t := 24) rfl rfl rfl rfl (G.gskip (t := 24) rfl rfl rfl rfl (G.q (Quiet.pickT rfl rfl) rfl (G.q (Quiet.assign rfl) rfl (G.nil (G.then_n (G.condT rfl (G.seq (G.region (G.q (Quiet.assign rfl) rfl (G.nil (G.then_n (G.ret (G.blk_r (G.then_r ?_))))))))))))))))
   have hr : lgInstall ⟨δ, ω, Λ⟩ z snap l = (⟨δ, ω, Λ⟩, 1) := by unfold lgInstall; dsimp only; rw [if_neg (by rw [h16]; decide), if_pos (by first | exact .inl h3_24 | exact .inr (by omega))]
   rw [hr]
   try dsimp only
   refine G.lgFold (g := g) (x := x) (ea := ea) (ec := ec) (za := za) (zc := zc) (m := Λ.ents.length) (k := Λ.zxs.length) Λ (by (repeat' constructor)) (by exact rfl) (by first | rfl | simp [Lg.keep]) (by first | rfl | simp [Lg.keep]) (by first | rfl | simp [Lg.keep]) (by first | rfl | simp [Lg.keep]) ?_
   exact G.done (l := [.tmp 8]) rfl rfl ⟨rfl, rfl⟩ (by (repeat' constructor)) (by (repeat' constructor))
  ·refine G.kDF (t := 23) rfl h3_24 (G.grun (t := 24) rfl rfl rfl (G.q (Quiet.move rfl) rfl (G.grun (t := 24) rfl rfl rfl (G.q (Quiet.strlen rfl Tryz.underlying9 rfl) rfl (G.grun (t := 24) rfl rfl rfl (G.q (Quiet.int rfl rfl rfl) rfl (G.q (Quiet.pickF rfl rfl) rfl (G.q (Quiet.assign rfl) rfl (G.nil (G.then_n ?_))))))))))
   refine G.condD rfl (fun h21 => ?_) (fun h21 => ?_)
   ·refine G.seq (G.region (G.q (Quiet.assign rfl) rfl (G.nil (G.then_n (G.ret (G.blk_r (G.then_r ?_)))))))
    have hr : lgInstall ⟨δ, ω, Λ⟩ z snap l = (⟨δ, ω, Λ⟩, 1) := by unfold lgInstall; dsimp only; rw [if_neg (by rw [h16]; decide), if_pos (by first | exact .inl h3_24 | exact .inr (by omega))]
    rw [hr]
    try dsimp only
    refine G.lgFold (g := g) (x := x) (ea := ea) (ec := ec) (za := za) (zc := zc) (m := Λ.ents.length) (k := Λ.zxs.length) Λ (by (repeat' constructor)) (by exact rfl) (by first | rfl | simp [Lg.keep]) (by first | rfl | simp [Lg.keep]) (by first | rfl | simp [Lg.keep]) (by first | rfl | simp [Lg.keep]) ?_
    exact G.done (l := [.tmp 8]) rfl rfl ⟨rfl, rfl⟩ (by (repeat' constructor)) (by (repeat' constructor))
   ·refine G.skip (G.blk_n (G.then_n (G.seq (G.region (G.q (Quiet.move rfl) rfl (G.q (Quiet.move rfl) rfl ?_))))))
    refine G.q (Quiet.buildN (pl := [(0, 2), (2, 1), (3, 1), (4, 1), (5, 1), (6, 1), (7, 1)]) (us := [(2, _), (3, _)]) (cells := [vint 0, vint 0, .pointer none, vint z, vstr snap, .slice none 0 0, .slice none 0 0, .bool false]) Tryz.underlying79 (by kernel_rfl) ze_79 rfl rfl) rfl ?_
    refine G.op (OpSpec.allocA ze_79) (by (repeat' constructor)) rfl ?nx18
    rintro v L' ⟨b9, rfl, rfl⟩
    refine G.op (OpSpec.storeA rfl rfl ?c20 sz_79 ?c23 ?c21 ?c22) (by (repeat' constructor)) rfl ?nx24
    case c20 => simp [isCell]
    case c23 => rfl
    case c21 => simp
    case c22 => exact nfz0 _ _
    rintro v L' rfl
    refine G.nil ?_
    refine G.ptCast (b := b9) (l' := [vint 0, vint 0, .pointer none, vint z, vstr snap, .slice none 0 0, .slice none 0 0, .bool false]) (by (repeat' constructor)) rfl ?_
    refine G.add (slR_nil 9 1) (G.add (slR_nil 3 1) ?_)
    refine G.lgNFold (b := b9) (ea := none) (ec := 0) (za := none) (zc := 0) (m := 0) (k := 0) (xs := []) (ys := []) z snap ((l.take 0).map enB) ((l.take 0).map (·.zx)) (by (repeat' constructor)) rfl rfl rfl rfl rfl ?_
    refine G.then_n (G.seq (G.seq (G.region (G.q (Quiet.move rfl) rfl (G.q (Quiet.slen rfl Tryz.underlying22 rfl) rfl (G.q (Quiet.move rfl) rfl (G.nil (G.then_n (G.block ?_)))))))))
    refine G.loopK (ι := Nat) (fun q E => (34, vint q) :: E) (fun q => [lgNR b9 z snap ((l.take q).map enB) ((l.take q).map (·.zx))]) (fun q => q ≤ l.length ∧ ∀ i (hi : i < q) (hl : i < l.length), fitsE l[i] = true) (fun q => l.length - q) (0) (ts := [0, 1, 9, 32, 33]) (.cons rfl (.cons rfl (.cons rfl (.cons rfl (.cons rfl (.nil)))))) (⟨Nat.zero_le _, fun i hi => by omega⟩) ⟨rfl, rfl, rfl, rfl, rfl, rfl, trivial⟩ (by (repeat' constructor)) ?_
    rintro j ⟨hj, hft⟩
    refine G.seq (G.region (G.q (Quiet.int rfl rfl rfl) rfl (G.nil (G.then_n (G.seq ?_)))))
    refine G.condD rfl (fun h35 => ?_) (fun h35 => ?_)
    ·have hj2 : j < l.length := by omega
     refine G.rdShape (p := p) hcells (by (repeat' constructor)) (by omega) fun ba oa e => ?_
     subst e
     have hX := hx _ (List.getElem_mem hj2)
     refine G.skip (G.then_n (G.seq (G.block (G.seq (G.region ?_)))))
     refine G.q (Quiet.indexAddr rfl rfl el_22 (by omega)) rfl ?_
     refine G.q (Quiet.loadRdA (sz := 11) (j := j * 11) (k := 11) (p := p) (vs := enC l[j]) rfl ag_38 (by (repeat' constructor)) hcells (by simp) (by omega) (by omega) (flatMap_at (f := enC) (sz := 11) (fun _ _ => rfl) hj2)) rfl ?_
     refine G.op (OpSpec.allocA ze_38) (by (repeat' constructor)) rfl ?nx31
     rintro v L' ⟨b11, rfl, rfl⟩
     refine G.op (OpSpec.storeA rfl rfl ?c33 sz_38 ?c36 ?c34 ?c35) (by (repeat' constructor)) rfl ?nx37
     case c33 => exact hX.l.cells
     case c36 => rfl
     case c34 => simp [enC, ptC]
     case c35 => exact nfz0 _ _
     rintro v L' rfl
     refine G.nil ?_
     refine G.ptCast (b := b11) (l' := enC l[j]) (by (repeat' constructor)) (by exact rfl) ?_
     refine G.then_n (G.seq (G.region ?_))
     refine G.q (Quiet.loadAs (vs := enC l[j]) rfl ag_38 (by (repeat' constructor)) (by simp [enC, ptC]) rfl) rfl ?_
     refine G.op (OpSpec.call Tryz.func48 rfl rfl (vs := [_]) rfl (llaid_spec l[j] p hX)) (by (repeat' constructor)) rfl ?nx39
     rintro v L' ⟨s1, hs1, rfl, rfl⟩
     refine G.q (Quiet.move rfl) rfl (G.q (Quiet.extract rfl rfl) rfl (G.q (Quiet.extract rfl rfl) rfl (G.q (Quiet.assign rfl) rfl (G.q (Quiet.assign rfl) rfl (G.nil (G.then_n (G.seq (G.seq (G.region (G.q (Quiet.move rfl) rfl (G.q (Quiet.not rfl) rfl (G.nil (G.then_n ?_)))))))))))))
     refine G.condB rfl (fun h44 => ?_) (fun h44 => ?_)
     ·refine G.seq (G.region (G.q (Quiet.assign rfl) rfl (G.nil (G.then_n (G.ret (G.then_r (G.blk_r (G.then_r (G.then_r (G.blk_r (G.then_r ?_)))))))))))
      have hr : lgInstall ⟨δ, ω, Λ⟩ z snap l = (⟨δ, ω, Λ⟩, 1) := by unfold lgInstall; dsimp only; rw [if_neg (by rw [h16]; decide), if_neg (by rintro (g1 | g1); exact h3_24 g1; omega), if_pos (all_fits_bad hj2 (by simpa using h44))]
      rw [hr]
      try dsimp only
      refine G.lgFold (g := g) (x := x) (ea := ea) (ec := ec) (za := za) (zc := zc) (m := Λ.ents.length) (k := Λ.zxs.length) Λ (by (repeat' constructor)) (by exact rfl) (by first | rfl | simp [Lg.keep]) (by first | rfl | simp [Lg.keep]) (by first | rfl | simp [Lg.keep]) (by first | rfl | simp [Lg.keep]) ?_
      exact G.done (l := [.tmp 8]) rfl rfl ⟨rfl, rfl⟩ (by (repeat' constructor)) (by (repeat' constructor))
     ·have hfj : fitsE l[j] = true := by simpa using h44
      have hse := hs1 hfj
      subst hse
      refine G.skip (G.then_n (G.region (G.q (Quiet.move rfl) rfl (G.q (Quiet.fieldAddr rfl fo_38_0) rfl ?_))))
      refine G.q (Quiet.load rfl ag_3 (by (repeat' constructor)) (rfl)) rfl ?_
      refine G.op (OpSpec.call Tryz.func51 rfl rfl (vs := [_, _, _]) rfl (lkeepN_spec b9 z snap ((l.take j).map enB) ((l.take j).map (·.zx)) (enB l[j]) l[j].zx ?h147 ?h248)) (by (repeat' constructor)) rfl ?nx49
      case h147 => rw [List.length_map, List.length_take]; omega
      case h248 => rw [List.length_map, List.length_take]; omega
      rintro v L' ⟨rfl, rfl⟩; rw [take_map hj2, take_map hj2]
      refine G.nil (G.blk_n (G.then_n (G.region ?_)))
      refine G.q (Quiet.add rfl rfl (by omega)) rfl ?_
      refine G.q (Quiet.move rfl) rfl (G.nil (G.then_n ?_))
      exact G.roundK (j + 1) (⟨by omega, fun i hi hl2 => by rcases Nat.lt_or_ge i j with g1 | g1; exact hft i g1 hl2; obtain rfl : i = j := (by omega); exact hfj⟩) (by omega) ⟨rfl, rfl, rfl, rfl, rfl, rfl, trivial⟩ (by (repeat' constructor)) (by ((repeat (apply Have.cons; (repeat (first | exact Pick.here | apply Pick.there)))); apply Have.base; repeat' constructor))
    ·have hje : j = l.length := by omega
     subst hje
     rw [List.take_length]
     have hall := all_fits (fun i hi => hft i hi hi)
     refine G.lgNOpen (by (repeat' constructor)) fun na nc nz nd => ?_
     have hzl : (l.map (·.zx)).length = l.length := List.length_map _
     refine G.exit (G.then_e (G.then_e (G.blk_e (G.then_n (G.seq (G.seq (G.region (G.q (Quiet.fieldAddr rfl fo_79_5) rfl ?_))))))))
     refine G.q (Quiet.load rfl ag_31 (by (repeat' constructor)) (rfl)) rfl ?_
     refine G.q (Quiet.slen rfl Tryz.underlying31 rfl) rfl (G.q (Quiet.move rfl) rfl (G.nil (G.then_n (G.block ?_))))
     refine G.loopK (ι := Nat) (fun q E => (53, vint q) :: E) (fun q => []) (fun q => q ≤ (l.map (·.zx)).length ∧ ∀ k, k < q → z < ((l.map (·.zx))).getD k 0 ∧ (0 < k → ((l.map (·.zx))).getD (k - 1) 0 < ((l.map (·.zx))).getD k 0)) (fun q => (l.map (·.zx)).length - q) (0) (ts := [0, 1, 9, 51, 52]) (.cons rfl (.cons rfl (.cons rfl (.cons rfl (.cons rfl (.nil)))))) (⟨Nat.zero_le _, fun k hk => by omega⟩) ⟨rfl, rfl, rfl, rfl, rfl, rfl, trivial⟩ (by (repeat' constructor)) ?_
     rintro i ⟨hi, hgood⟩
     refine G.seq (G.region (G.q (Quiet.int rfl rfl rfl) rfl (G.nil (G.then_n (G.seq ?_)))))
     refine G.condD rfl (fun h54 => ?_) (fun h54 => ?_)
     ·refine G.slShape (v := .slice nz _ nd) (xs := ints (l.map (·.zx))) (by (repeat' constructor)) (by omega) fun bn cq e0 mq _ => ?_
      simp only [Value.slice.injEq, true_and] at e0
      obtain ⟨rfl, rfl⟩ := e0
      refine G.skip (G.then_n (G.seq (G.block (G.seq (G.region (G.q (Quiet.move rfl) rfl ?_))))))
      refine G.q (Quiet.indexAddr rfl rfl el_31 (by omega)) rfl ?_
      refine G.q (Quiet.loadEl (p := intR (.slice (some ⟨bn, 0, none⟩) (l.map (·.zx)).length nd) (l.map (·.zx))) (i := (i) * 1) (v := vint (((l.map (·.zx))).getD (i) 0)) rfl ag_3 (by (repeat' constructor)) (fun h hp => slR_rd hp) (ints_at' (by omega))) rfl ?_
      refine G.q (Quiet.assign rfl) rfl (G.q (Quiet.assign rfl) rfl (G.nil (G.then_n (G.seq (G.region (G.q (Quiet.move rfl) rfl (G.q (Quiet.move rfl) rfl (G.q (Quiet.int rfl rfl rfl) rfl (G.q (Quiet.move rfl) rfl ?_)))))))))
      refine G.dec (t := 61) rfl (fun h17_61 => ?_) (fun h17_61 => ?_)
      ·refine G.kDT (t := 60) rfl h17_61 (G.gskip (t := 61) rfl rfl rfl rfl (G.gskip (t := 61) rfl rfl rfl rfl (G.gskip (t := 61) rfl rfl rfl rfl (G.gskipU (t := 64) rfl rfl rfl (G.gskipU (t := 64) rfl rfl rfl (G.gskipU (t := 64) rfl rfl rfl (G.gskipU (t := 64) rfl rfl rfl (G.gskipU (t := 64) rfl rfl rfl (G.gskipU (t := 64) rfl rfl rfl (G.gskipU (t := 64) rfl rfl rfl (G.gskipU (t := 64) rfl rfl rfl (G.gskip (t := 61) rfl rfl rfl rfl (G.q (Quiet.pickT rfl rfl) rfl (G.nil (G.then_n (G.condT rfl (G.seq (G.region (G.q (Quiet.assign rfl) rfl (G.nil (G.then_n (G.ret (G.blk_r (G.then_r (G.then_r (G.blk_r (G.then_r ?_)))))))))))))))))))))))))))
       have hr : lgInstall ⟨δ, ω, Λ⟩ z snap l = (⟨δ, ω, Λ⟩, 81) := by unfold lgInstall; dsimp only; rw [if_neg (by rw [h16]; decide), if_neg (by rintro (g1 | g1); exact h3_24 g1; omega), if_neg (by rw [hall]; decide), if_pos (fun hR => by have hRi := hR i (by omega); exact absurd hRi.1 (by omega))]
       rw [hr]
       try dsimp only
       refine G.lgFold (g := g) (x := x) (ea := ea) (ec := ec) (za := za) (zc := zc) (m := Λ.ents.length) (k := Λ.zxs.length) Λ (by (repeat' constructor)) (by exact rfl) (by first | rfl | simp [Lg.keep]) (by first | rfl | simp [Lg.keep]) (by first | rfl | simp [Lg.keep]) (by first | rfl | simp [Lg.keep]) ?_
       exact G.done (l := [.tmp 8]) rfl rfl ⟨rfl, rfl⟩ (by (repeat' constructor)) (by (repeat' constructor))
      ·refine G.kDF (t := 60) rfl h17_61 (G.grun (t := 61) rfl rfl rfl (G.q (Quiet.move rfl) rfl (G.grun (t := 61) rfl rfl rfl (G.q (Quiet.int rfl rfl rfl) rfl (G.grun (t := 61) rfl rfl rfl (G.q (Quiet.move rfl) rfl ?_))))))
       refine G.dec (t := 64) rfl (fun h17_64 => ?_) (fun h17_64 => ?_)
       ·refine G.kDT (t := 63) rfl h17_64 (G.grun (t := 64) rfl rfl rfl (G.q (Quiet.move rfl) rfl (G.grun (t := 64) rfl rfl rfl (G.q (Quiet.fieldAddr rfl fo_79_5) rfl (G.grun (t := 64) rfl rfl rfl ?_)))))
        refine G.q (Quiet.load rfl ag_31 (by (repeat' constructor)) (rfl)) rfl ?_
        refine G.grun (t := 64) rfl rfl rfl (G.q (Quiet.move rfl) rfl (G.grun (t := 64) rfl rfl rfl ?_))
        refine G.q (Quiet.as (v' := vint ((i - 1 : Nat) : Int)) (by congr 1; omega) (Quiet.sub rfl rfl (by omega))) rfl ?_
        refine G.grun (t := 64) rfl rfl rfl ?_
        refine G.q (Quiet.indexAddr rfl rfl el_31 (by omega)) rfl ?_
        refine G.grun (t := 64) rfl rfl rfl ?_
        refine G.q (Quiet.loadEl (p := intR (.slice (some ⟨bn, 0, none⟩) (l.map (·.zx)).length nd) (l.map (·.zx))) (i := (i - 1) * 1) (v := vint (((l.map (·.zx))).getD (i - 1) 0)) rfl ag_3 (by (repeat' constructor)) (fun h hp => slR_rd hp) (ints_at' (by omega))) rfl ?_
        refine G.grun (t := 64) rfl rfl rfl (G.q (Quiet.int rfl rfl rfl) rfl (G.grun (t := 61) rfl rfl rfl (G.q (Quiet.pickT rfl rfl) rfl (G.q (Quiet.pickF rfl rfl) rfl (G.nil (G.then_n ?_))))))
        refine G.condD rfl (fun h74 => ?_) (fun h74 => ?_)
        ·refine G.seq (G.region (G.q (Quiet.assign rfl) rfl (G.nil (G.then_n (G.ret (G.blk_r (G.then_r (G.then_r (G.blk_r (G.then_r ?_))))))))))
         have hr : lgInstall ⟨δ, ω, Λ⟩ z snap l = (⟨δ, ω, Λ⟩, 81) := by unfold lgInstall; dsimp only; rw [if_neg (by rw [h16]; decide), if_neg (by rintro (g1 | g1); exact h3_24 g1; omega), if_neg (by rw [hall]; decide), if_pos (fun hR => by have hRi := hR i (by omega); have := hRi.2 (by omega); omega)]
         rw [hr]
         try dsimp only
         refine G.lgFold (g := g) (x := x) (ea := ea) (ec := ec) (za := za) (zc := zc) (m := Λ.ents.length) (k := Λ.zxs.length) Λ (by (repeat' constructor)) (by exact rfl) (by first | rfl | simp [Lg.keep]) (by first | rfl | simp [Lg.keep]) (by first | rfl | simp [Lg.keep]) (by first | rfl | simp [Lg.keep]) ?_
         exact G.done (l := [.tmp 8]) rfl rfl ⟨rfl, rfl⟩ (by (repeat' constructor)) (by (repeat' constructor))
        ·refine G.skip (G.blk_n (G.then_n (G.region ?_)))
         refine G.q (Quiet.add rfl rfl (by omega)) rfl ?_
         refine G.q (Quiet.move rfl) rfl (G.nil (G.then_n ?_))
         exact G.roundK (i + 1) (⟨by omega, fun k hk => by rcases Nat.lt_or_ge k i with g1 | g1; exact hgood k g1; obtain rfl : k = i := (by omega); exact ⟨by omega, fun h0k => by first | omega | exact absurd h0k (by omega)⟩⟩) (by omega) ⟨rfl, rfl, rfl, rfl, rfl, rfl, trivial⟩ (by (repeat' constructor)) (by ((repeat (apply Have.cons; (repeat (first | exact Pick.here | apply Pick.there)))); apply Have.base; repeat' constructor))
       ·refine G.kDF (t := 63) rfl h17_64 (G.gskip (t := 64) rfl rfl rfl rfl (G.gskip (t := 64) rfl rfl rfl rfl (G.gskip (t := 64) rfl rfl rfl rfl (G.gskip (t := 64) rfl rfl rfl rfl (G.gskip (t := 64) rfl rfl rfl rfl (G.gskip (t := 64) rfl rfl rfl rfl (G.gskip (t := 64) rfl rfl rfl rfl (G.gskip (t := 64) rfl rfl rfl rfl (G.grun (t := 61) rfl rfl rfl (G.q (Quiet.pickF rfl rfl) rfl (G.q (Quiet.pickF rfl rfl) rfl (G.nil (G.then_n (G.condF rfl (G.skip (G.blk_n (G.then_n (G.region ?_))))))))))))))))))
        refine G.q (Quiet.add rfl rfl (by omega)) rfl ?_
        refine G.q (Quiet.move rfl) rfl (G.nil (G.then_n ?_))
        exact G.roundK (i + 1) (⟨by omega, fun k hk => by rcases Nat.lt_or_ge k i with g1 | g1; exact hgood k g1; obtain rfl : k = i := (by omega); exact ⟨by omega, fun h0k => by first | omega | exact absurd h0k (by omega)⟩⟩) (by omega) ⟨rfl, rfl, rfl, rfl, rfl, rfl, trivial⟩ (by (repeat' constructor)) (by ((repeat (apply Have.cons; (repeat (first | exact Pick.here | apply Pick.there)))); apply Have.base; repeat' constructor))
     ·have hR : Rises z (l.map (·.zx)) := fun k hk => hgood k (by omega)
      refine G.fold (p := sep [strR (.slice na (l.map enB).length nc) (l.map enB), intR (.slice nz (l.map (·.zx)).length nd) (l.map (·.zx))]) (q := [strR (.slice na (l.map enB).length nc) (l.map enB), intR (.slice nz (l.map (·.zx)).length nd) (l.map (·.zx))]) (by (repeat' constructor)) (fun _ hp => hp) ?_
      refine G.exit (G.then_e (G.then_e (G.blk_e (G.then_n (G.seq (G.region (G.q (Quiet.move rfl) rfl ?_)))))))
      refine G.q (Quiet.loadAs (vs := [vint 0, vint 0, .pointer none, vint z, vstr snap, .slice na (l.map enB).length nc, .slice nz (l.map (·.zx)).length nd, .bool false]) rfl ag_79 (by (repeat' constructor)) (by simp) rfl) rfl ?_
      have hsp := lrenew_spec g x d δ ω Λ z snap (.slice na (l.map enB).length nc) (.slice nz (l.map (·.zx)).length nd) (l.map enB) (l.map (·.zx)) ea ec za zc (sep [strR (.slice na (l.map enB).length nc) (l.map enB), intR (.slice nz (l.map (·.zx)).length nd) (l.map (·.zx))]) hI hz (by omega) (fun h hp => (by obtain ⟨g1, g2, -, le1, le2, q1, q2⟩ := hp; exact rdS_mono (slR_rd q1) le1)) (fun h hp => (by obtain ⟨g1, g2, -, le1, le2, q1, q2⟩ := hp; exact rdS_mono (sep_hd q2 (fun _ q => slR_rd q)) le2)) (by rw [List.length_map]; omega) (by rw [List.length_map, List.length_map])
      refine G.op (OpSpec.call Tryz.func139 rfl rfl (vs := [_, _]) rfl (hsp)) (by (repeat' constructor)) rfl ?nx77
      rintro v L' ⟨rfl, ⟨hf0, rfl⟩ | ⟨hf1, rfl⟩⟩
      ·refine G.q (Quiet.assign rfl) rfl (G.nil (G.then_n (G.ret ?_)))
       have hr : lgInstall ⟨δ, ω, Λ⟩ z snap l = lgRenew ⟨δ, ω, Λ⟩ z snap (l.map enB) (l.map (·.zx)) := by unfold lgInstall; dsimp only; rw [if_neg (by rw [h16]; decide), if_neg (by rintro (g1 | g1); exact h3_24 g1; omega), if_neg (by rw [hall]; decide), if_neg (fun g => g hR)]
       rw [hr]
       exact G.done (l := [.tmp 8]) rfl rfl ⟨rfl, rfl⟩ (by (repeat' constructor)) (by (repeat' constructor))
      ·refine G.q (Quiet.assign rfl) rfl (G.nil (G.then_n (G.ret ?_)))
       have hr : lgInstall ⟨δ, ω, Λ⟩ z snap l = lgRenew ⟨δ, ω, Λ⟩ z snap (l.map enB) (l.map (·.zx)) := by unfold lgInstall; dsimp only; rw [if_neg (by rw [h16]; decide), if_neg (by rintro (g1 | g1); exact h3_24 g1; omega), if_neg (by rw [hall]; decide), if_neg (fun g => g hR)]
       rw [hr]
       obtain ⟨e9, he9⟩ := renew_bad hf1
       rw [he9]
       dsimp only
       refine G.lgFold (g := g) (x := x) (ea := ea) (ec := ec) (za := za) (zc := zc) (m := Λ.ents.length) (k := Λ.zxs.length) (Λ.met e9) (by (repeat' constructor)) (by rw [met_acc, met_cur, met_base, met_snap]) (by rw [met_ents]) (by rw [met_zxs]) (by rw [met_ents]) (by rw [met_zxs]) ?_
       exact G.done (l := [.tmp 8]) rfl rfl ⟨rfl, rfl⟩ (by (repeat' constructor)) (by (repeat' constructor))

end Go.Proofs.YtidjhgbdokcphaaGreat

/- Own work: scripts of law 09: plain. -/

namespace Go.Proofs.YtidjhgbdokcphaaGreat
open Go

structure Op9 where
  k : Int
  n : Int
  size : Int
  e : En
  lv : Value
  l : List En
  text : Bs
  hv : Value
  how : List Int
def op9K (o : Op9) (k : Int) : List Value := [vint k, vint o.n, vint o.size] ++ enC o.e ++ [o.lv, vstr o.text, o.hv]
def op9C (o : Op9) : List Value := op9K o o.k
structure Op9A (p : HP) (o : Op9) : Prop where
  k : I64 o.k
  n : I64 o.n
  size : I64 o.size
  e : EnX p o.e
  l : ∀ h : Hp, p h → rdS 11 h o.lv o.l.length (o.l.flatMap enC)
  len : o.l.length ≤ 1048576
  x : ∀ e ∈ o.l, EnX p e
  text : o.text.length ≤ 1048576
  how : ∀ h : Hp, p h → rdS 1 h o.hv o.how.length (ints o.how)
  hows : ∀ z ∈ o.how, I64 z
  lc : isCell o.lv = true
  hc : isCell o.hv = true
structure Ops9 (p : HP) (v : Value) (xs : List Op9) : Prop where
  cells : ∀ h : Hp, p h → rdS 17 h v xs.length (xs.flatMap op9C)
  len : xs.length ≤ 1048576
  each : ∀ o ∈ xs, Op9A p o
theorem op9K_cells {p : HP} {o : Op9} (h : Op9A p o) (k : Int) : ∀ v ∈ op9K o k, isCell v = true := by
  intro v hv
  unfold op9K at hv
  rcases List.mem_append.1 hv with hv | hv
  · rcases List.mem_append.1 hv with hv | hv
    · simp at hv; rcases hv with rfl | rfl | rfl <;> rfl
    · exact h.e.l.cells v hv
  · simp at hv
    rcases hv with rfl | rfl | rfl
    · exact h.lc
    · rfl
    · exact h.hc
def textF : Nat → Bs → Int → Bs
  | 0, s, _ => s
  | f + 1, s, n => if s ≠ [] ∧ (s.length : Int) < n then textF f (s ++ s) n else s
def cutT (s : Bs) (n : Int) : Bs := if (s.length : Int) > n ∧ n > 0 then s.take n.toNat else s
def textZ (o : Op9) : Bs := cutT (textF 66001 o.text (min o.size 66000)) (min o.size 66000)
theorem textF_stop {f : Nat} {s : Bs} {n : Int} (h : ¬ (s ≠ [] ∧ (s.length : Int) < n)) : textF f s n = s := by
  cases f with
  | zero => rfl
  | succ f => show (if _ then _ else _) = _; rw [if_neg h]
theorem textF_go {f : Nat} {s : Bs} {n : Int} (h : s ≠ [] ∧ (s.length : Int) < n) : textF (f + 1) s n = textF f (s ++ s) n := by
  show (if _ then _ else _) = _; rw [if_pos h]
def lgDoes (s : Ld) (o : Op9) (k : Int) : Ld × Int :=
  if k = 1 then lgAppend s o.e else if k = 2 then lgSync s else if k = 3 then lgAccept s o.n else if k = 4 then lgAdopt s o.n else if k = 5 then lgCut s o.n else if k = 6 then lgInstall s o.n (textZ o) o.l else lgCompact s o.n (textZ o)
theorem lr_cut {s : Ld} {N : Int} (h : LLv s N) (z : Int) : LRes s N (lgCut s z) (lgCut s.calm z) (fun L => ∃ n, placeZ s.Λ z = some n ∧ L = cutL s.Λ n) := by
  have hd : s.Λ.doubt = false := h.lw.live
  rcases hp : placeZ s.Λ z with _ | n
  · have e : ∀ t : Ld, t.Λ = s.Λ → lgCut t z = (t, 81) := fun t ht => by unfold lgCut; rw [ht, if_neg (by rw [hd]; decide), hp]
    rw [e s rfl, e s.calm rfl]
    exact LRes.same h (fun g => absurd g (by decide)) rfl
  · have e : ∀ t : Ld, t.Λ = s.Λ → lgCut t z = lgCut2 t n := fun t ht => by unfold lgCut; rw [ht, if_neg (by rw [hd]; decide), hp]
    rw [e s rfl, e s.calm rfl]
    have hl := h.lw.w.rows.len
    exact (lr_cut2 h (n := n) (by have := (place_le hp).1; rw [show s.Λ.ents.length = s.Λ.zxs.length from hl.symm]; exact this)).mono (fun L hL => ⟨n, rfl, hL⟩)
theorem lr_install {s : Ld} {N : Int} (h : LLv s N) {z : Int} (hz : z ≤ 9223372036854775807) (snap : Bs) {l : List En} (hi : ∀ e ∈ l, EnI e) : LRes s N (lgInstall s z snap l) (lgInstall s.calm z snap l) (fun L => L = newL s.Λ z snap (l.map enB) (l.map (·.zx))) := by
  have hd : s.Λ.doubt = false := h.lw.live
  by_cases h1 : z < 0 ∨ snap.length > 65536
  · have e : ∀ t : Ld, t.Λ = s.Λ → lgInstall t z snap l = (t, 1) := fun t ht => by unfold lgInstall; rw [ht, if_neg (by rw [hd]; decide), if_pos h1]
    rw [e s rfl, e s.calm rfl]; exact LRes.same h (fun g => absurd g (by decide)) rfl
  by_cases h2 : l.all fitsE = false
  · have e : ∀ t : Ld, t.Λ = s.Λ → lgInstall t z snap l = (t, 1) := fun t ht => by unfold lgInstall; rw [ht, if_neg (by rw [hd]; decide), if_neg h1, if_pos h2]
    rw [e s rfl, e s.calm rfl]; exact LRes.same h (fun g => absurd g (by decide)) rfl
  by_cases h3 : ¬ Rises z (l.map (·.zx))
  · have e : ∀ t : Ld, t.Λ = s.Λ → lgInstall t z snap l = (t, 81) := fun t ht => by unfold lgInstall; rw [ht, if_neg (by rw [hd]; decide), if_neg h1, if_neg h2, if_pos h3]
    rw [e s rfl, e s.calm rfl]; exact LRes.same h (fun g => absurd g (by decide)) rfl
  have e : ∀ t : Ld, t.Λ = s.Λ → lgInstall t z snap l = lgRenew t z snap (l.map enB) (l.map (·.zx)) := fun t ht => by unfold lgInstall; rw [ht, if_neg (by rw [hd]; decide), if_neg h1, if_neg h2, if_neg h3]
  rw [e s rfl, e s.calm rfl]
  exact (lr_renew h (by omega) (by omega) (rises_rows l z hi (by simpa using h2) (by simpa using h3))).mono (fun L hL => hL.1)
theorem place_ok {Λ : Lg} (h : LgW Λ) {z : Int} {n : Nat} (hn : placeZ Λ z = some n) : (0 ≤ z ∧ z ≤ 9223372036854775807) ∧ RowsI z (Λ.ents.drop n) (Λ.zxs.drop n) := by
  obtain ⟨p1, p2⟩ := place_le hn
  have hb := h.base
  have hd := h.rows.drop n p1
  rw [p2] at hd
  refine ⟨?_, hd⟩
  unfold placeZ at hn
  split at hn
  · rename_i hm
    have := h.rows.gt z hm
    have := (h.rows.i64 z hm).2
    omega
  · split at hn
    · rename_i g; rw [g]; exact hb
    · cases hn
theorem lr_compact {s : Ld} {N : Int} (h : LLv s N) (z : Int) (snap : Bs) : LRes s N (lgCompact s z snap) (lgCompact s.calm z snap) (fun L => ∃ n, placeZ s.Λ z = some n ∧ L = newL s.Λ z snap (s.Λ.ents.drop n) (s.Λ.zxs.drop n)) := by
  have hd : s.Λ.doubt = false := h.lw.live
  by_cases h1 : snap.length > 65536
  · have e : ∀ t : Ld, t.Λ = s.Λ → lgCompact t z snap = (t, 1) := fun t ht => by unfold lgCompact; rw [ht, if_neg (by rw [hd]; decide), if_pos h1]
    rw [e s rfl, e s.calm rfl]; exact LRes.same h (fun g => absurd g (by decide)) rfl
  rcases hp : placeZ s.Λ z with _ | n
  · have e : ∀ t : Ld, t.Λ = s.Λ → lgCompact t z snap = (t, 81) := fun t ht => by unfold lgCompact; rw [ht, if_neg (by rw [hd]; decide), if_neg h1, hp]
    rw [e s rfl, e s.calm rfl]
    exact LRes.same h (fun g => absurd g (by decide)) rfl
  · have e : ∀ t : Ld, t.Λ = s.Λ → lgCompact t z snap = lgRenew t z snap (s.Λ.ents.drop n) (s.Λ.zxs.drop n) := fun t ht => by unfold lgCompact; rw [ht, if_neg (by rw [hd]; decide), if_neg h1, hp]
    rw [e s rfl, e s.calm rfl]
    obtain ⟨hz, hr⟩ := place_ok h.lw.w hp
    exact (lr_renew h hz (by omega) hr).mono (fun L hL => ⟨n, rfl, hL.1⟩)
/-- No epoch falls. -/
def QE (Λ L : Lg) : Prop := Λ.acc ≤ L.acc ∧ Λ.cur ≤ L.cur
theorem lr_does {p : HP} {s : Ld} {N : Int} (h : LLv s N) {o : Op9} (ho : Op9A p o) (k : Int) : LRes s (N + 4000000) (lgDoes s o k) (lgDoes s.calm o k) (QE s.Λ) := by
  unfold lgDoes
  split
  · exact ((lr_append h ho.e.l.w.i).mono (fun L hL => hL.elim)).more (by omega)
  split
  · exact ((lr_sync h).mono (fun L hL => by rw [hL]; exact ⟨Int.le_refl _, Int.le_refl _⟩)).more (by omega)
  split
  · exact ((lr_accept h o.n).mono (fun L hL => by rw [hL.2]; exact ⟨by show s.Λ.acc ≤ o.n; omega, Int.le_refl _⟩)).more (by omega)
  split
  · exact (lr_adopt h o.n).mono (fun L hL => by
      rcases hL.2.2 with q | q <;> rw [q]
      · exact ⟨Int.le_refl _, Int.le_refl _⟩
      · exact ⟨Int.le_refl _, hL.1⟩)
  split
  · exact ((lr_cut h o.n).mono (fun L hL => by obtain ⟨n, -, q⟩ := hL; rw [q]; exact ⟨Int.le_refl _, Int.le_refl _⟩)).more (by omega)
  split
  · exact ((lr_install h ho.n.2 _ (fun e he => (ho.x e he).l.w.i)).mono (fun L hL => by rw [hL]; exact ⟨Int.le_refl _, Int.le_refl _⟩)).more (by omega)
  · exact ((lr_compact h o.n _).mono (fun L hL => by obtain ⟨n, -, q⟩ := hL; rw [q]; exact ⟨Int.le_refl _, Int.le_refl _⟩)).more (by omega)
theorem endL_eps {Λ : Lg} {f : Lg → Lg} (hf : ∀ e, QE Λ (f (Λ.met e))) (r : Dk × Wl × Int) : QE Λ (endL Λ f r).1.Λ := by
  have hm : ∀ e, QE Λ (Λ.met e) := fun e => by unfold Lg.met; split <;> exact ⟨Int.le_refl _, Int.le_refl _⟩
  unfold endL
  split
  · exact hf _
  · exact hm _
theorem qe_refl (Λ : Lg) : QE Λ Λ := ⟨Int.le_refl _, Int.le_refl _⟩
theorem qe_renew (s : Ld) (b : Int) (sn : Bs) (es : List Bs) (zs : List Int) : QE s.Λ (lgRenew s b sn es zs).1.Λ := by
  obtain ⟨δ, ω, Λ⟩ := s
  by_cases h : es.length > 200
  · unfold lgRenew; rw [if_pos h]; exact qe_refl _
  · rw [ren_end _ _ h]; exact endL_eps (fun e => qe_refl Λ) _
theorem qe_does (s : Ld) (o : Op9) (k : Int) : QE s.Λ (lgDoes s o k).1.Λ := by
  obtain ⟨δ, ω, Λ⟩ := s
  have hme : ∀ e, (Λ.met e).acc = Λ.acc ∧ (Λ.met e).cur = Λ.cur := fun e => by unfold Lg.met; split <;> exact ⟨rfl, rfl⟩
  unfold lgDoes
  split
  · rcases app_end δ ω Λ o.e with ⟨z, h1, -⟩ | h1
    · rw [h1 δ rfl]; exact qe_refl _
    · rw [h1 δ rfl]; exact endL_eps (fun e => ⟨by show Λ.acc ≤ (Λ.met e).acc; rw [(hme e).1]; exact Int.le_refl _, by show Λ.cur ≤ (Λ.met e).cur; rw [(hme e).2]; exact Int.le_refl _⟩) _
  split
  · by_cases hd : Λ.doubt = true
    · unfold lgSync; rw [if_pos hd]; exact qe_refl _
    · rw [sync_end ω Λ (by simpa using hd)]; exact endL_eps (fun e => ⟨by show Λ.acc ≤ (Λ.met e).acc; rw [(hme e).1]; exact Int.le_refl _, by show Λ.cur ≤ (Λ.met e).cur; rw [(hme e).2]; exact Int.le_refl _⟩) _
  split
  · rcases acc_end ω Λ o.n with ⟨z, h1, -⟩ | ⟨n1, -, h1⟩
    · rw [h1]; exact qe_refl _
    · rw [h1]; exact endL_eps (fun e => ⟨by show Λ.acc ≤ o.n; omega, by show Λ.cur ≤ (Λ.met e).cur; rw [(hme e).2]; exact Int.le_refl _⟩) _
  split
  · show QE Λ (lgAdopt ⟨δ, ω, Λ⟩ o.n).1.Λ
    have hsy : QE Λ (lgSync ⟨δ, ω, Λ⟩).1.Λ := by
      by_cases hd : Λ.doubt = true
      · unfold lgSync; rw [if_pos hd]; exact qe_refl _
      · rw [sync_end ω Λ (by simpa using hd)]; exact endL_eps (fun e => ⟨by show Λ.acc ≤ (Λ.met e).acc; rw [(hme e).1]; exact Int.le_refl _, by show Λ.cur ≤ (Λ.met e).cur; rw [(hme e).2]; exact Int.le_refl _⟩) _
    have hcur : (lgSync ⟨δ, ω, Λ⟩).1.Λ.cur = Λ.cur := by
      by_cases hd : Λ.doubt = true
      · unfold lgSync; rw [if_pos hd]
      · unfold lgSync; rw [if_neg hd]; exact (hme _).2
    unfold lgAdopt
    split
    · exact qe_refl _
    split
    · exact qe_refl _
    split
    · exact hsy
    rename_i h1 h2 h3
    have h2' : ¬ (o.n < Λ.cur ∨ o.n > Λ.acc) := h2
    obtain ⟨⟨δ1, ω1, Λ1⟩, hs⟩ : ∃ x, (lgSync ⟨δ, ω, Λ⟩).1 = x := ⟨_, rfl⟩
    rw [hs] at hsy hcur ⊢
    rw [ado_end]
    have hA : QE Λ1 (endL Λ1 (fun L => L.setCur o.n) (setmZ δ1 ω1 Λ1.acc o.n)).1.Λ := endL_eps (fun e => by
      have hm1 : (Λ1.met e).acc = Λ1.acc := by unfold Lg.met; split <;> rfl
      exact ⟨by show Λ1.acc ≤ (Λ1.met e).acc; rw [hm1]; exact Int.le_refl _, by show Λ1.cur ≤ o.n; rw [show Λ1.cur = Λ.cur from hcur]; omega⟩) _
    exact ⟨Int.le_trans hsy.1 hA.1, Int.le_trans hsy.2 hA.2⟩
  split
  · show QE Λ (lgCut ⟨δ, ω, Λ⟩ o.n).1.Λ
    unfold lgCut
    split
    · exact qe_refl _
    · split
      · exact qe_refl _
      · rw [cut_end]; exact endL_eps (fun e => qe_refl Λ) _
  split
  · show QE Λ (lgInstall ⟨δ, ω, Λ⟩ o.n _ o.l).1.Λ
    unfold lgInstall
    split
    · exact qe_refl _
    split
    · exact qe_refl _
    split
    · exact qe_refl _
    split
    · exact qe_refl _
    · exact qe_renew _ _ _ _ _
  · show QE Λ (lgCompact ⟨δ, ω, Λ⟩ o.n _).1.Λ
    unfold lgCompact
    split
    · exact qe_refl _
    split
    · exact qe_refl _
    split
    · exact qe_refl _
    · exact qe_renew _ _ _ _ _
theorem sync_I {δ : Dk} {ω : Wl} (h : WlI δ ω) (ha : δ.acts ≤ 1000000000000) : WlI (syncZ δ ω).1 (syncZ δ ω).2.1 := by
  unfold syncZ
  split
  · exact h
  split
  · exact h
  split
  · exact h
  rename_i h1 h2 h3
  have sk := sync_keeps δ
  have hc := h.count
  have hsl : ∀ m : Wl, m = ω ∨ m = { ω with recs := ω.recs, synced := ω.recs.length, area := ω.area, count := ω.count + 1 } → ∀ σ : Dk, σ.now.length = δ.now.length → σ.acts ≤ δ.acts + 10 → WlI σ m := by
    intro m hm σ hl hac
    rcases hm with rfl | rfl
    · exact ⟨by rw [hl]; exact h.size, by omega, h.area, h.count, h.synced, by rw [halfZ_of hl]; exact h.fits⟩
    · exact ⟨by rw [hl]; exact h.size, by omega, h.area, by dsimp only; omega, by dsimp only; omega, by rw [halfZ_of hl]; exact h.fits⟩
  have hseal : ∃ σ m e, sealZ δ ω ω.area ω.recs = (σ, m, e) ∧ σ.now.length = δ.now.length ∧ σ.acts ≤ δ.acts + 10 ∧ (m = ω ∨ m = { ω with recs := ω.recs, synced := ω.recs.length, area := ω.area, count := ω.count + 1 }) := by
    have nk := nextZ_keeps δ.sync.1 (ω.mark ω.area ω.recs ω.a ω.b)
    unfold sealZ
    split
    · exact ⟨_, _, _, rfl, by rw [sk.1], by omega, .inl rfl⟩
    have sl : δ.sync.1.now.length = δ.now.length := by rw [sk.1]
    split
    · exact ⟨_, _, _, rfl, by omega, by omega, .inl rfl⟩
    · exact ⟨_, _, _, rfl, by omega, by omega, .inr rfl⟩
  obtain ⟨σ, m, e, hq, q1, q2, q3⟩ := hseal
  have hw := hsl m q3 σ q1 q2
  rw [hq]
  unfold dbt
  split
  · exact ⟨hw.size, hw.acts, hw.area, hw.count, hw.synced, hw.fits⟩
  · exact hw
end Go.Proofs.YtidjhgbdokcphaaGreat

/- Own work, by program: LedgerMarks: walked. -/
namespace Go.Proofs.YtidjhgbdokcphaaGreat
open Go
end Go.Proofs.YtidjhgbdokcphaaGreat

/- Own work: a formatted ledger, and what opens behind a crash: plain. -/
namespace Go.Proofs.YtidjhgbdokcphaaGreat
open Go

theorem lgFormat_ok {δ : Dk} {ω : Wl} (h : (lgFormat δ).2 = some ω) : (lgF1 δ).2.2 = 0 ∧ (lgF2 δ).2.2 = 0 ∧ ω = (lgF2 δ).2.1 ∧ (lgFormat δ).1 = (lgF2 δ).1 := by
  unfold lgFormat at h ⊢
  split at h
  · cases h
  split at h
  · cases h
  split at h
  · cases h
  · rename_i h1 h2 h3
    cases h
    rw [if_neg h1, if_neg h2, if_neg h3]
    exact ⟨by simpa using h2, by simpa using h3, rfl, rfl⟩
theorem calm_of {δ : Dk} (h : Al δ) : δ.calm = δ := by
  obtain ⟨n, o, a, l, d⟩ := δ
  have : l = 0 := h.left
  subst this; rfl
theorem format_llv {n : Int} (h : 16 ≤ n ∧ n ≤ 32768) : ∃ ω, (lgFormat (Dk.new n)).2 = some ω ∧ LLv ⟨(lgFormat (Dk.new n)).1, ω, lg0⟩ 4000003 ∧ Well (formatZ (Dk.new n)).1 newW 3 ∧ Well (lgF1 (Dk.new n)).1 (lgF1 (Dk.new n)).2.1 2000003 := by
  obtain ⟨ω, f1, f2, -, f4, f5⟩ := format_lwell h
  obtain ⟨e1, e2, e3, e4⟩ := lgFormat_ok f1
  have v1 : Lv (lgF1 (Dk.new n)).1 (lgF1 (Dk.new n)).2.1 (3 + 2000000) := (append_res (lv_new h) (headB 0 0) (B := ([], 0, 0))).live (by show (lgF1 (Dk.new n)).2.2 ≠ 2; rw [e1]; decide)
  have v2 : Lv (lgF2 (Dk.new n)).1 (lgF2 (Dk.new n)).2.1 (3 + 2000000 + 2000000) := (sync_res v1 (k := 2)).live (by show (lgF2 (Dk.new n)).2.2 ≠ 2; rw [e2]; decide)
  refine ⟨ω, f1, ⟨by rw [e3]; dsimp only; rw [e4]; exact v2, ?_, ?_⟩, f4, f5⟩
  · show LWell ⟨(lgFormat (Dk.new n)).1.calm, ω, lg0⟩ 4000003
    rw [calm_of f2.well.al]; exact f2
  · show ((headL 0 []).length : Int) ≤ ω.synced
    have hs : (lgF2 (Dk.new n)).2.1.synced = (lgF2 (Dk.new n)).2.1.recs.length := by
      rcases (well_sync f5).2.2 with ⟨c, g⟩ | g
      · show (syncZ (lgF1 (Dk.new n)).1 (lgF1 (Dk.new n)).2.1).2.1.synced = (syncZ (lgF1 (Dk.new n)).1 (lgF1 (Dk.new n)).2.1).2.1.recs.length
        rw [g]
      · have : (lgF2 (Dk.new n)).2.2 = 30 := by show (syncZ _ _).2.2 = 30; rw [g]
        rw [e2] at this; cases this
    have hr : ω.recs = headL 0 [] ++ [] := f2.recs
    rw [e3, hs, ← e3, hr]; simp
theorem LLv.opened {σ : Dk} {ω : Wl} {Λ : Lg} {N : Int} (h : LLv ⟨σ, ω, Λ⟩ N) : ω.doubt = false ∧ ω.recs.length ≤ 1048576 ∧ ∀ s ∈ ω.recs, s.length ≤ 1073741824 := by
  have h1 := headL_len Λ.base Λ.snap h.lw.w.snap
  have h2 : Λ.ents.length ≤ 200 := h.lw.w.few
  have hr : ω.recs = headL Λ.base Λ.snap ++ Λ.ents := h.lw.recs
  refine ⟨h.lw.well.doubt, by rw [hr, List.length_append]; omega, fun s hs => ?_⟩
  have : s.length ≤ 4000 := h.lv.kp.long s hs
  omega
/-- Behind a crash of a disk that lives. -/
theorem back_live {s : Ld} {N : Int} (h : LLv s N) (hok : s.δ.Ok) (how : List Int) : Back (s.δ.crash how) N s.syn := by
  obtain ⟨ω', w1, w2, w3⟩ := lv_end h.lv hok how
  exact back_syn h w1 w2 w3
theorem op9_at {xs : List Op9} {i : Nat} (h : i < xs.length) : ((xs.flatMap op9C).drop (i * 17)).take 17 = op9C xs[i] := flatMap_at (f := op9C) (sz := 17) (fun _ _ => rfl) h
theorem llv_arm {s : Ld} {N : Int} (h : LLv s N) {n : Int} (hn : 0 ≤ n) : (s.δ.arm n).2 = 0 ∧ LLv ⟨(s.δ.arm n).1, s.ω, s.Λ⟩ N := by
  obtain ⟨a1, a2⟩ := lv_arm h.lv hn
  have e : s.δ.arm n = ({ s.δ with left := n }, 0) := by unfold Dk.arm; rw [if_neg (by rw [h.lv.dead]; decide), if_neg (by omega)]
  refine ⟨a1, a2, ?_, h.head⟩
  rw [e]; exact h.lw
end Go.Proofs.YtidjhgbdokcphaaGreat

/- Own work, by program: pick, text, does; LedgerEpochs: walked. -/

namespace Go.Proofs.YtidjhgbdokcphaaGreat
open Go
set_option maxRecDepth 100000 in
theorem pick9_spec  (c n : Int) (hc : -9223372036854775808 ≤ c ∧ c ≤ 9223372036854775807) (hn : 0 < n) : Fn Tryz.prog 26 #[vint c, vint n] [] fun v L => v = vint (pickZ c n) ∧ L = [] := by
 refine Fn.intro (vs := [vint c, vint n]) Tryz.func26 rfl rfl ?_
 intro F W
 refine G.seq (G.region (G.q (Quiet.assign rfl) rfl (G.nil (G.then_n (G.seq (G.seq (G.region (G.q (Quiet.move rfl) rfl (G.q (Quiet.int rfl rfl rfl) rfl (G.nil (G.then_n ?_)))))))))))
 refine G.condD rfl (fun h6 => ?_) (fun h6 => ?_)
 ·refine G.region (G.q (Quiet.move rfl) rfl ?_)
  refine G.q (Quiet.add rfl rfl (by omega)) rfl ?_
  refine G.q (Quiet.neg rfl (by omega)) rfl ?_
  refine G.q (Quiet.assign rfl) rfl (G.nil (G.then_n (G.seq (G.region (G.q (Quiet.move rfl) rfl (G.q (Quiet.move rfl) rfl ?_))))))
  refine G.q (Quiet.remE rfl rfl (by omega) (by omega)) rfl ?_
  refine G.q (Quiet.assign rfl) rfl (G.nil (G.then_n (G.ret ?_)))
  have e : pickZ c n = (-(c + 1)) % n := by unfold pickZ; rw [if_pos h6]
  rw [e]
  exact G.done (l := [.tmp 4]) rfl rfl ⟨rfl, rfl⟩ (by (repeat' constructor)) (by (repeat' constructor))
 ·refine G.skip (G.then_n (G.seq (G.region (G.q (Quiet.move rfl) rfl (G.q (Quiet.move rfl) rfl ?_)))))
  refine G.q (Quiet.remE rfl rfl (by omega) (by omega)) rfl ?_
  refine G.q (Quiet.assign rfl) rfl (G.nil (G.then_n (G.ret ?_)))
  have e : pickZ c n = (c) % n := by unfold pickZ; rw [if_neg h6]
  rw [e]
  exact G.done (l := [.tmp 4]) rfl rfl ⟨rfl, rfl⟩ (by (repeat' constructor)) (by (repeat' constructor))

set_option maxRecDepth 100000 in
theorem text9_spec (o : Op9) (k : Int) (ht : o.text.length ≤ 1048576) : Fn Tryz.prog 79 #[.agg (op9K o k).toArray] [] fun v L => v = vstr (textZ o) ∧ L = [] := by
 refine Fn.intro (vs := [.agg (op9K o k).toArray]) Tryz.func79 rfl rfl ?_
 intro F W
 refine G.seq (G.region ?_)
 refine G.op (OpSpec.box rfl) (by (repeat' constructor)) rfl ?nx1
 rintro v L' ⟨b1, rfl, rfl⟩
 refine G.q (Quiet.assign rfl) rfl (G.nil ?_)
 refine G.ptCast (b := b1) (l' := op9K o k) (by (repeat' constructor)) (by exact rfl) ?_
 refine G.then_n (G.seq (G.region (G.q (Quiet.fieldAddr rfl fo_73_5) rfl ?_)))
 refine G.q (Quiet.load rfl ag_9 (by (repeat' constructor)) (rfl)) rfl ?_
 refine G.q (Quiet.assign rfl) rfl (G.nil (G.then_n (G.seq (G.region (G.q (Quiet.fieldAddr rfl fo_73_2) rfl ?_)))))
 refine G.q (Quiet.load rfl ag_3 (by (repeat' constructor)) (rfl)) rfl ?_
 refine G.q (Quiet.min2 rfl rfl) rfl (G.q (Quiet.assign rfl) rfl (G.nil (G.then_n (G.seq (G.block ?_)))))
 refine G.loopK (ι := Nat × Bs) (fun q E => (3, vstr q.2) :: E) (fun q => []) (fun q => textF q.1 q.2 (min o.size 66000) = textF 66001 o.text (min o.size 66000) ∧ q.2.length ≤ 2097152 ∧ (min o.size 66000) - q.2.length ≤ q.1) (fun q => q.1) (66001, o.text) (ts := [2, 4]) (.cons rfl (.cons rfl (.nil))) (⟨rfl, by dsimp only; omega, by dsimp only; omega⟩) ⟨rfl, rfl, rfl, trivial⟩ (by (repeat' constructor)) ?_
 rintro ⟨f, s⟩ ⟨hf, hsl, hfu⟩
 dsimp only
 dsimp only at hf hsl hfu
 refine G.seq (G.seq (G.region (G.q (Quiet.move rfl) rfl (G.q (Quiet.strne rfl rfl) rfl (G.q (Quiet.move rfl) rfl ?_)))))
 refine G.ndec (t := 12) rfl (fun h3_12 => ?_) (fun h3_12 => ?_)
 ·refine G.kNT (t := 11) rfl h3_12 (G.grun (t := 12) rfl rfl rfl (G.q (Quiet.move rfl) rfl (G.grun (t := 12) rfl rfl rfl (G.q (Quiet.strlen rfl Tryz.underlying9 rfl) rfl (G.grun (t := 12) rfl rfl rfl (G.q (Quiet.move rfl) rfl (G.grun (t := 12) rfl rfl rfl (G.q (Quiet.int rfl rfl rfl) rfl (G.q (Quiet.pickT rfl rfl) rfl (G.nil (G.then_n ?_)))))))))))
  refine G.condD rfl (fun h17 => ?_) (fun h17 => ?_)
  ·have hs0 : 0 < s.length := List.length_pos_iff.2 h3_12
   obtain ⟨f1, rfl⟩ : ∃ f1, f = f1 + 1 := ⟨f - 1, by omega⟩
   refine G.skip (G.then_n (G.block (G.region (G.q (Quiet.move rfl) rfl (G.q (Quiet.move rfl) rfl ?_)))))
   refine G.q (Quiet.concat rfl rfl (by omega)) rfl ?_
   refine G.q (Quiet.assign rfl) rfl (G.nil (G.blk_n (G.then_n ?_)))
   exact G.roundK ((f1, s ++ s)) (⟨by dsimp only; rw [← textF_go ⟨h3_12, h17⟩]; exact hf, by dsimp only; rw [List.length_append]; omega, by dsimp only; rw [List.length_append]; omega⟩) (by dsimp only; omega) ⟨rfl, rfl, rfl, trivial⟩ (by (repeat' constructor)) (by ((repeat (apply Have.cons; (repeat (first | exact Pick.here | apply Pick.there)))); apply Have.base; repeat' constructor))
  ·refine G.exit (G.then_e (G.then_e (G.blk_e (G.then_n (G.seq (G.seq ?_))))))
   have hT : textF 66001 o.text (min o.size 66000) = s := by rw [← hf]; exact textF_stop (fun g => h17 g.2)
   refine G.region (G.q (Quiet.move rfl) rfl (G.q (Quiet.strlen rfl Tryz.underlying9 rfl) rfl (G.q (Quiet.move rfl) rfl (G.q (Quiet.int rfl rfl rfl) rfl (G.q (Quiet.move rfl) rfl ?_)))))
   refine G.dec (t := 25) rfl (fun h5_25 => ?_) (fun h5_25 => ?_)
   ·refine G.kDT (t := 24) rfl h5_25 (G.grun (t := 25) rfl rfl rfl (G.q (Quiet.move rfl) rfl (G.grun (t := 25) rfl rfl rfl (G.q (Quiet.int rfl rfl rfl) rfl (G.q (Quiet.pickT rfl rfl) rfl (G.nil (G.then_n ?_)))))))
    refine G.condD rfl (fun h28 => ?_) (fun h28 => ?_)
    ·refine G.region (G.q (Quiet.move rfl) rfl (G.q (Quiet.move rfl) rfl ?_))
     refine G.q (Quiet.to (v' := vstr (s.take (min o.size 66000).toNat)) (Quiet.strTo rfl rfl Tryz.underlying9 (by omega)) rfl) rfl ?_
     refine G.q (Quiet.assign rfl) rfl (G.nil (G.then_n (G.seq (G.region (G.q (Quiet.move rfl) rfl (G.q (Quiet.assign rfl) rfl (G.nil (G.then_n (G.ret ?_)))))))))
     have hr : textZ o = s.take (min o.size 66000).toNat := by unfold textZ cutT; rw [hT, if_pos ⟨h5_25, h28⟩]
     rw [hr]
     exact G.done (l := [.tmp 2]) rfl rfl ⟨rfl, rfl⟩ (by (repeat' constructor)) (by (repeat' constructor))
    ·refine G.skip (G.then_n (G.seq (G.region (G.q (Quiet.move rfl) rfl (G.q (Quiet.assign rfl) rfl (G.nil (G.then_n (G.ret ?_))))))))
     have hr : textZ o = s := by unfold textZ cutT; rw [hT, if_neg (fun g => h28 g.2)]
     rw [hr]
     exact G.done (l := [.tmp 2]) rfl rfl ⟨rfl, rfl⟩ (by (repeat' constructor)) (by (repeat' constructor))
   ·refine G.kDF (t := 24) rfl h5_25 (G.gskip (t := 25) rfl rfl rfl rfl (G.gskip (t := 25) rfl rfl rfl rfl (G.q (Quiet.pickF rfl rfl) rfl (G.nil (G.then_n (G.condF rfl (G.skip (G.then_n (G.seq (G.region (G.q (Quiet.move rfl) rfl (G.q (Quiet.assign rfl) rfl (G.nil (G.then_n (G.ret ?_)))))))))))))))
    have hr : textZ o = s := by unfold textZ cutT; rw [hT, if_neg (fun g => h5_25 g.1)]
    rw [hr]
    exact G.done (l := [.tmp 2]) rfl rfl ⟨rfl, rfl⟩ (by (repeat' constructor)) (by (repeat' constructor))
 ·refine G.kNF (t := 11) rfl h3_12 (G.gskip (t := 12) rfl rfl rfl rfl (G.gskip (t := 12) rfl rfl rfl rfl (G.gskip (t := 12) rfl rfl rfl rfl (G.gskip (t := 12) rfl rfl rfl rfl (G.q (Quiet.pickF rfl rfl) rfl (G.nil (G.then_n (G.condF rfl (G.exit (G.then_e (G.then_e (G.blk_e (G.then_n (G.seq (G.seq ?_)))))))))))))))
  have hT : textF 66001 o.text (min o.size 66000) = s := by rw [← hf]; exact textF_stop (fun g => g.1 h3_12)
  refine G.region (G.q (Quiet.move rfl) rfl (G.q (Quiet.strlen rfl Tryz.underlying9 rfl) rfl (G.q (Quiet.move rfl) rfl (G.q (Quiet.int rfl rfl rfl) rfl (G.q (Quiet.move rfl) rfl ?_)))))
  refine G.dec (t := 25) rfl (fun h5_25 => ?_) (fun h5_25 => ?_)
  ·refine G.kDT (t := 24) rfl h5_25 (G.grun (t := 25) rfl rfl rfl (G.q (Quiet.move rfl) rfl (G.grun (t := 25) rfl rfl rfl (G.q (Quiet.int rfl rfl rfl) rfl (G.q (Quiet.pickT rfl rfl) rfl (G.nil (G.then_n ?_)))))))
   refine G.condD rfl (fun h28 => ?_) (fun h28 => ?_)
   ·refine G.region (G.q (Quiet.move rfl) rfl (G.q (Quiet.move rfl) rfl ?_))
    refine G.q (Quiet.to (v' := vstr (s.take (min o.size 66000).toNat)) (Quiet.strTo rfl rfl Tryz.underlying9 (by omega)) rfl) rfl ?_
    refine G.q (Quiet.assign rfl) rfl (G.nil (G.then_n (G.seq (G.region (G.q (Quiet.move rfl) rfl (G.q (Quiet.assign rfl) rfl (G.nil (G.then_n (G.ret ?_)))))))))
    have hr : textZ o = s.take (min o.size 66000).toNat := by unfold textZ cutT; rw [hT, if_pos ⟨h5_25, h28⟩]
    rw [hr]
    exact G.done (l := [.tmp 2]) rfl rfl ⟨rfl, rfl⟩ (by (repeat' constructor)) (by (repeat' constructor))
   ·refine G.skip (G.then_n (G.seq (G.region (G.q (Quiet.move rfl) rfl (G.q (Quiet.assign rfl) rfl (G.nil (G.then_n (G.ret ?_))))))))
    have hr : textZ o = s := by unfold textZ cutT; rw [hT, if_neg (fun g => h28 g.2)]
    rw [hr]
    exact G.done (l := [.tmp 2]) rfl rfl ⟨rfl, rfl⟩ (by (repeat' constructor)) (by (repeat' constructor))
  ·refine G.kDF (t := 24) rfl h5_25 (G.gskip (t := 25) rfl rfl rfl rfl (G.gskip (t := 25) rfl rfl rfl rfl (G.q (Quiet.pickF rfl rfl) rfl (G.nil (G.then_n (G.condF rfl (G.skip (G.then_n (G.seq (G.region (G.q (Quiet.move rfl) rfl (G.q (Quiet.assign rfl) rfl (G.nil (G.then_n (G.ret ?_)))))))))))))))
   have hr : textZ o = s := by unfold textZ cutT; rw [hT, if_neg (fun g => h5_25 g.1)]
   rw [hr]
   exact G.done (l := [.tmp 2]) rfl rfl ⟨rfl, rfl⟩ (by (repeat' constructor)) (by (repeat' constructor))

set_option maxRecDepth 100000 in
theorem does9_spec (g x d : Nat) (δ : Dk) (ω : Wl) (Λ : Lg) (o : Op9) (k : Int) (p : HP) (N : Int) (h : LLv ⟨δ, ω, Λ⟩ N) (hN : N ≤ 1000000000000) (ho : Op9A p o) : Fn Tryz.prog 32 #[vptr g, .agg (op9K o k).toArray] [lgR g x Λ, wlR x d ω, dkR d δ, p] fun v L => v = vint (lgDoes ⟨δ, ω, Λ⟩ o k).2 ∧ L = [lgR g x (lgDoes ⟨δ, ω, Λ⟩ o k).1.Λ, wlR x d (lgDoes ⟨δ, ω, Λ⟩ o k).1.ω, dkR d (lgDoes ⟨δ, ω, Λ⟩ o k).1.δ, p] := by
 refine Fn.intro (vs := [vptr g, .agg (op9K o k).toArray]) Tryz.func32 rfl rfl ?_
 intro F W
 have hI : WlI δ ω := h.lv.i hN
 have hLI : LgI Λ := h.lw.w.i
 have hup : Λ.zxs.Pairwise (· < ·) := (List.pairwise_cons.1 h.lw.w.rows.up).2
 have hsn : Λ.snap.length ≤ 65536 := h.lw.w.snap
 have hacts : δ.acts ≤ N := h.lv.well.acts
 have hI1 : WlI (lgSync ⟨δ, ω, Λ⟩).1.δ (lgSync ⟨δ, ω, Λ⟩).1.ω := by rw [sync_end ω Λ h.lw.live, (endL_err _ _ _).2.1, (endL_err _ _ _).2.2]; exact sync_I hI (by omega)
 refine G.seq (G.region ?_)
 refine G.op (OpSpec.box rfl) (by (repeat' constructor)) rfl ?nx1
 rintro v L' ⟨b3, rfl, rfl⟩
 refine G.q (Quiet.assign rfl) rfl (G.nil ?_)
 refine G.ptCast (b := b3) (l' := op9K o k) (by (repeat' constructor)) (by exact rfl) ?_
 refine G.then_n (G.seq (G.seq (G.region (G.q (Quiet.fieldAddr rfl fo_73_0) rfl ?_))))
 refine G.q (Quiet.load rfl ag_3 (by (repeat' constructor)) (rfl)) rfl ?_
 refine G.nil (G.then_n (G.block (G.seq (G.region (G.q (Quiet.int rfl rfl rfl) rfl (G.q (Quiet.assign rfl) rfl (G.nil (G.then_n ?_))))))))
 refine G.condD rfl (fun h7 => ?_) (fun h7 => ?_)
 ·refine G.seq (G.region (G.q (Quiet.move rfl) rfl (G.q (Quiet.fieldAddr rfl fo_73_3) rfl ?_)))
  refine G.q (Quiet.loadAs (vs := enC o.e) rfl ag_38 (by (repeat' constructor)) (by simp [op9K, op9C, enC, ptC]) rfl) rfl ?_
  refine G.op (OpSpec.call Tryz.func13 rfl rfl (vs := [_, _]) rfl (lappend_spec g x d δ ω Λ o.e p ho.e hI hLI)) (by (repeat' constructor)) rfl ?nx10
  rintro v L' ⟨rfl, rfl⟩
  refine G.q (Quiet.assign rfl) rfl (G.nil (G.then_n (G.ret (G.blk_r (G.then_r ?_)))))
  have hr : lgDoes ⟨δ, ω, Λ⟩ o k = lgAppend ⟨δ, ω, Λ⟩ o.e := by unfold lgDoes; rw [if_pos h7]
  rw [hr]
  exact G.done (l := [.tmp 4]) rfl rfl ⟨rfl, rfl⟩ (by (repeat' constructor)) (by (repeat' constructor))
 ·refine G.seq (G.region (G.q (Quiet.int rfl rfl rfl) rfl (G.q (Quiet.assign rfl) rfl (G.nil (G.then_n ?_)))))
  refine G.condD rfl (fun h13 => ?_) (fun h13 => ?_)
  ·refine G.seq (G.region (G.q (Quiet.move rfl) rfl ?_))
   refine G.op (OpSpec.call Tryz.func28 rfl rfl (vs := [_]) rfl (lsync_spec g x d δ ω Λ hI)) (by (repeat' constructor)) rfl ?nx14
   rintro v L' ⟨rfl, rfl⟩
   refine G.q (Quiet.assign rfl) rfl (G.nil (G.then_n (G.ret (G.blk_r (G.then_r ?_)))))
   have hr : lgDoes ⟨δ, ω, Λ⟩ o k = lgSync ⟨δ, ω, Λ⟩ := by unfold lgDoes; rw [if_neg h7, if_pos h13]
   rw [hr]
   exact G.done (l := [.tmp 4]) rfl rfl ⟨rfl, rfl⟩ (by (repeat' constructor)) (by (repeat' constructor))
  ·refine G.seq (G.region (G.q (Quiet.int rfl rfl rfl) rfl (G.q (Quiet.assign rfl) rfl (G.nil (G.then_n ?_)))))
   refine G.condD rfl (fun h17 => ?_) (fun h17 => ?_)
   ·refine G.seq (G.region (G.q (Quiet.move rfl) rfl (G.q (Quiet.fieldAddr rfl fo_73_1) rfl ?_)))
    refine G.q (Quiet.load rfl ag_3 (by (repeat' constructor)) (rfl)) rfl ?_
    refine G.op (OpSpec.call Tryz.func39 rfl rfl (vs := [_, _]) rfl (laccept_spec g x d δ ω Λ o.n hI)) (by (repeat' constructor)) rfl ?nx20
    rintro v L' ⟨rfl, rfl⟩
    refine G.q (Quiet.assign rfl) rfl (G.nil (G.then_n (G.ret (G.blk_r (G.then_r ?_)))))
    have hr : lgDoes ⟨δ, ω, Λ⟩ o k = lgAccept ⟨δ, ω, Λ⟩ o.n := by unfold lgDoes; rw [if_neg h7, if_neg h13, if_pos h17]
    rw [hr]
    exact G.done (l := [.tmp 4]) rfl rfl ⟨rfl, rfl⟩ (by (repeat' constructor)) (by (repeat' constructor))
   ·refine G.seq (G.region (G.q (Quiet.int rfl rfl rfl) rfl (G.q (Quiet.assign rfl) rfl (G.nil (G.then_n ?_)))))
    refine G.condD rfl (fun h23 => ?_) (fun h23 => ?_)
    ·refine G.seq (G.region (G.q (Quiet.move rfl) rfl (G.q (Quiet.fieldAddr rfl fo_73_1) rfl ?_)))
     refine G.q (Quiet.load rfl ag_3 (by (repeat' constructor)) (rfl)) rfl ?_
     refine G.op (OpSpec.call Tryz.func43 rfl rfl (vs := [_, _]) rfl (ladopt_spec g x d δ ω Λ o.n hI hI1)) (by (repeat' constructor)) rfl ?nx26
     rintro v L' ⟨rfl, rfl⟩
     refine G.q (Quiet.assign rfl) rfl (G.nil (G.then_n (G.ret (G.blk_r (G.then_r ?_)))))
     have hr : lgDoes ⟨δ, ω, Λ⟩ o k = lgAdopt ⟨δ, ω, Λ⟩ o.n := by unfold lgDoes; rw [if_neg h7, if_neg h13, if_neg h17, if_pos h23]
     rw [hr]
     exact G.done (l := [.tmp 4]) rfl rfl ⟨rfl, rfl⟩ (by (repeat' constructor)) (by (repeat' constructor))
    ·refine G.seq (G.region (G.q (Quiet.int rfl rfl rfl) rfl (G.q (Quiet.assign rfl) rfl (G.nil (G.then_n ?_)))))
     refine G.condD rfl (fun h29 => ?_) (fun h29 => ?_)
     ·refine G.seq (G.region (G.q (Quiet.move rfl) rfl (G.q (Quiet.fieldAddr rfl fo_73_1) rfl ?_)))
      refine G.q (Quiet.load rfl ag_3 (by (repeat' constructor)) (rfl)) rfl ?_
      refine G.op (OpSpec.call Tryz.func27 rfl rfl (vs := [_, _]) rfl (lcut_spec g x d δ ω Λ o.n hI hLI hup hsn)) (by (repeat' constructor)) rfl ?nx32
      rintro v L' ⟨rfl, rfl⟩
      refine G.q (Quiet.assign rfl) rfl (G.nil (G.then_n (G.ret (G.blk_r (G.then_r ?_)))))
      have hr : lgDoes ⟨δ, ω, Λ⟩ o k = lgCut ⟨δ, ω, Λ⟩ o.n := by unfold lgDoes; rw [if_neg h7, if_neg h13, if_neg h17, if_neg h23, if_pos h29]
      rw [hr]
      exact G.done (l := [.tmp 4]) rfl rfl ⟨rfl, rfl⟩ (by (repeat' constructor)) (by (repeat' constructor))
     ·refine G.seq (G.region (G.q (Quiet.int rfl rfl rfl) rfl (G.q (Quiet.assign rfl) rfl (G.nil (G.then_n ?_)))))
      refine G.condD rfl (fun h35 => ?_) (fun h35 => ?_)
      ·refine G.seq ?_
       refine G.draw [7] [[0, 1, 2, 3, 4, 5, 6, 7], [8]] mixed (by kernel_rfl) ?_
       refine Phases.go [ptc b3 _ _] (by (repeat' constructor)) ?_
       refine D.qw [7] rfl (by kernel_rfl) (Quiet.move rfl) ?_
       refine D.qw [2, 7] rfl (by kernel_rfl) (Quiet.fieldAddr rfl fo_73_1) ?_
       refine D.qw [7] rfl (by kernel_rfl) (Quiet.load rfl ag_3 (by (repeat' constructor)) (rfl)) ?_
       refine D.qw [4, 7] rfl (by kernel_rfl) (Quiet.loadAs (vs := op9K o k) rfl ag_73 (by (repeat' constructor)) (by simp [op9K, op9C, enC, ptC]) rfl) ?_
       refine D.m rfl (by kernel_rfl) (OpSpec.call Tryz.func79 rfl rfl (vs := [_]) rfl (text9_spec o k ho.text)) (by (repeat' constructor)) ?nx39
       refine D.qw [6, 7] rfl (by kernel_rfl) (Quiet.fieldAddr rfl fo_73_4) ?_
       refine D.qw [7] rfl (by kernel_rfl) (Quiet.load rfl ag_22 (by (repeat' constructor)) (rfl)) ?_
       refine D.h rfl (by kernel_rfl) (OpSpec.call Tryz.func78 rfl rfl (vs := [_, _, _, _]) rfl (linstall_spec g x d δ ω Λ o.n (textZ o) o.lv o.l p hI ho.n ho.l (by have := ho.len; omega) ho.x)) (by (repeat' constructor)) ?nx43
       rintro v L' ⟨rfl, rfl⟩
       refine D.ph ?_
       refine Phases.go [] (by (repeat' constructor)) ?_
       refine D.qw [] rfl (by kernel_rfl) (Quiet.assign rfl) ?_
       refine D.ph (Phases.fin (G.then_n (G.ret (G.blk_r (G.then_r ?_)))))
       have hr : lgDoes ⟨δ, ω, Λ⟩ o k = lgInstall ⟨δ, ω, Λ⟩ o.n (textZ o) o.l := by unfold lgDoes; rw [if_neg h7, if_neg h13, if_neg h17, if_neg h23, if_neg h29, if_pos h35]
       rw [hr]
       exact G.done (l := [.tmp 4]) rfl rfl ⟨rfl, rfl⟩ (by (repeat' constructor)) (by (repeat' constructor))
      ·refine G.skip (G.blk_n (G.then_n (G.seq ?_)))
       refine G.draw [5] [[0, 1, 2, 3, 4, 5], [6]] mixed (by kernel_rfl) ?_
       refine Phases.go [ptc b3 _ _] (by (repeat' constructor)) ?_
       refine D.qw [5] rfl (by kernel_rfl) (Quiet.move rfl) ?_
       refine D.qw [2, 5] rfl (by kernel_rfl) (Quiet.fieldAddr rfl fo_73_1) ?_
       refine D.qw [5] rfl (by kernel_rfl) (Quiet.load rfl ag_3 (by (repeat' constructor)) (rfl)) ?_
       refine D.qw [4, 5] rfl (by kernel_rfl) (Quiet.loadAs (vs := op9K o k) rfl ag_73 (by (repeat' constructor)) (by simp [op9K, op9C, enC, ptC]) rfl) ?_
       refine D.m rfl (by kernel_rfl) (OpSpec.call Tryz.func79 rfl rfl (vs := [_]) rfl (text9_spec o k ho.text)) (by (repeat' constructor)) ?nx49
       refine D.h rfl (by kernel_rfl) (OpSpec.call Tryz.func80 rfl rfl (vs := [_, _, _]) rfl (lcompact_spec g x d δ ω Λ o.n (textZ o) hI hLI hup ho.n)) (by (repeat' constructor)) ?nx51
       rintro v L' ⟨rfl, rfl⟩
       refine D.ph ?_
       refine Phases.go [] (by (repeat' constructor)) ?_
       refine D.qw [] rfl (by kernel_rfl) (Quiet.assign rfl) ?_
       refine D.ph (Phases.fin (G.then_n (G.ret ?_)))
       have hr : lgDoes ⟨δ, ω, Λ⟩ o k = lgCompact ⟨δ, ω, Λ⟩ o.n (textZ o) := by unfold lgDoes; rw [if_neg h7, if_neg h13, if_neg h17, if_neg h23, if_neg h29, if_neg h35]
       rw [hr]
       exact G.done (l := [.tmp 4]) rfl rfl ⟨rfl, rfl⟩ (by (repeat' constructor)) (by (repeat' constructor))

set_option maxRecDepth 100000 in
theorem ledgerEpochs_spec (v0 v1 : Value) (xs : List Op9) (how : List Int) (p : HP) (hx : Ops9 p v0 xs) (hhow : ∀ h : Hp, p h → rdS 1 h v1 how.length (ints how)) (hhows : ∀ z ∈ how, I64 z) : Fn Tryz.prog 6 #[v0, v1] [p] fun v L => v = .bool true ∧ L = [p] := by
 refine Fn.intro (vs := [v0, v1]) Tryz.func6 rfl rfl ?_
 intro F W
 have hcells := hx.cells
 have hel := hx.len
 refine G.rdAny (p := p) hcells (by (repeat' constructor)) fun a0 c0 e _ => ?_
 subst e
 refine G.rdAny (p := p) hhow (by (repeat' constructor)) fun a1 c1 e _ => ?_
 subst e
 obtain ⟨ω0, hf1, hf2, hf3, hf4⟩ := format_llv (n := 1024) (by decide)
 refine G.seq (G.region (G.q (Quiet.assign rfl) rfl (G.nil (G.then_n (G.seq (G.region ?_))))))
 refine G.op (OpSpec.call Tryz.func10 rfl rfl (vs := []) rfl (awake9_spec)) (by (repeat' constructor)) rfl ?nx2
 rintro v L' ⟨rfl, rfl⟩
 refine G.q (Quiet.assign rfl) rfl (G.nil (G.then_n (G.seq (G.region ?_))))
 refine G.op (OpSpec.call Tryz.func11 rfl rfl (vs := [_]) rfl (new_spec 1024)) (by (repeat' constructor)) rfl ?nx4
 rintro v L' (⟨h, -, -⟩ | ⟨-, d, rfl, rfl⟩); · omega
 refine G.q (Quiet.move rfl) rfl (G.q (Quiet.extract rfl rfl) rfl (G.q (Quiet.extract rfl rfl) rfl (G.q (Quiet.assign rfl) rfl (G.q (Quiet.assign rfl) rfl (G.nil (G.then_n (G.seq (G.region (G.q (Quiet.move rfl) rfl ?_)))))))))
 refine G.op (OpSpec.call Tryz.func12 rfl rfl (vs := [_]) rfl (lformat_spec d (Dk.new 1024) (by decide) (hf3.i (by decide)) (hf4.i (by decide)))) (by (repeat' constructor)) rfl ?nx8
 rintro v L' (⟨h, -, -⟩ | ⟨ω1, g0, x0, hw1, rfl, rfl⟩); · rw [hf1] at h; cases h
 rw [hf1] at hw1; cases hw1
 refine G.q (Quiet.move rfl) rfl (G.q (Quiet.extract rfl rfl) rfl (G.q (Quiet.extract rfl rfl) rfl (G.q (Quiet.assign rfl) rfl (G.q (Quiet.assign rfl) rfl (G.nil (G.then_n (G.seq (G.seq (G.region (G.q (Quiet.move rfl) rfl (G.q (Quiet.not rfl) rfl (G.q (Quiet.move rfl) rfl (G.grun (t := 28) rfl rfl rfl (G.q (Quiet.move rfl) rfl (G.grun (t := 28) rfl rfl rfl (G.q (Quiet.ptreq rfl rfl Tryz.underlying28) rfl (G.q (Quiet.pickF rfl rfl) rfl (G.q (Quiet.move rfl) rfl (G.grun (t := 32) rfl rfl rfl (G.q (Quiet.move rfl) rfl (G.grun (t := 32) rfl rfl rfl ?_)))))))))))))))))))))
 refine G.q (Quiet.as (v' := .bool false) (by rfl) (Quiet.int rfl rfl rfl)) rfl ?_
 refine G.q (Quiet.pickF rfl rfl) rfl (G.q (Quiet.move rfl) rfl (G.grun (t := 36) rfl rfl rfl (G.q (Quiet.move rfl) rfl (G.grun (t := 36) rfl rfl rfl ?_))))
 refine G.q (Quiet.as (v' := .bool false) (by rfl) (Quiet.int rfl rfl rfl)) rfl ?_
 refine G.q (Quiet.pickF rfl rfl) rfl (G.nil (G.then_n (G.condF rfl (G.skip (G.then_n (G.seq (G.region (G.q (Quiet.assign rfl) rfl (G.nil (G.then_n (G.seq (G.region (G.q (Quiet.assign rfl) rfl (G.nil (G.then_n (G.seq (G.seq (G.region (G.q (Quiet.assign rfl) rfl (G.nil (G.then_n (G.block ?_))))))))))))))))))))))
 refine G.loopK (ι := Nat × Ld × Nat × Nat) (fun q E => (12, vint q.1) :: (8, vptr q.2.2.1) :: (10, vint q.2.1.Λ.acc) :: (11, vint q.2.1.Λ.cur) :: E) (fun q => [lgR q.2.2.1 q.2.2.2 q.2.1.Λ, wlR q.2.2.2 d q.2.1.ω, dkR d q.2.1.δ]) (fun q => q.1 ≤ xs.length ∧ q.1 ≤ 120 ∧ LLv q.2.1 (8000003 + q.1 * 8000000)) (fun q => xs.length - q.1) (0, ⟨(lgFormat (Dk.new 1024)).1, ω0, lg0⟩, g0, x0) (ts := [0, 1, 6]) (.cons rfl (.cons rfl (.cons rfl (.nil)))) (⟨Nat.zero_le _, Nat.zero_le _, hf2.more (by dsimp only; omega)⟩) ⟨rfl, rfl, rfl, rfl, rfl, rfl, rfl, trivial⟩ (by (repeat' constructor)) ?_
 rintro ⟨i, s, g, x⟩ ⟨hi, hi1, hL⟩
 dsimp only
 dsimp only at hi hi1 hL
 refine G.seq (G.seq (G.region (G.q (Quiet.move rfl) rfl (G.q (Quiet.move rfl) rfl (G.q (Quiet.slen rfl Tryz.underlying71 rfl) rfl (G.q (Quiet.int rfl rfl rfl) rfl (G.q (Quiet.move rfl) rfl ?_)))))))
 refine G.dec (t := 44) rfl (fun h9_44 => ?_) (fun h9_44 => ?_)
 ·refine G.kDT (t := 43) rfl h9_44 (G.grun (t := 44) rfl rfl rfl (G.q (Quiet.move rfl) rfl (G.grun (t := 44) rfl rfl rfl (G.q (Quiet.int rfl rfl rfl) rfl (G.q (Quiet.pickT rfl rfl) rfl (G.nil (G.then_n ?_)))))))
  refine G.condD rfl (fun h47 => ?_) (fun h47 => ?_)
  ·have hi2 : i < xs.length := by omega
   refine G.rdShape (p := p) hcells (by (repeat' constructor)) (by omega) fun ba oa e => ?_
   subst e
   have ho := hx.each _ (List.getElem_mem hi2)
   have hpk := pickZ_range xs[i].k (n := 9) (by decide)
   have hpk2 := pickZ_range xs[i].n (n := 12) (by decide)
   refine G.skip (G.then_n (G.seq (G.block (G.seq (G.region (G.q (Quiet.move rfl) rfl (G.q (Quiet.move rfl) rfl ?_)))))))
   refine G.q (Quiet.indexAddr rfl rfl el_71 (by omega)) rfl ?_
   refine G.q (Quiet.loadRdA (sz := 17) (j := i * 17) (k := 17) (p := p) (vs := op9C xs[i]) rfl ag_73 (by (repeat' constructor)) hcells (by simp) (by omega) (by omega) (op9_at hi2)) rfl ?_
   refine G.op (OpSpec.allocA ze_73) (by (repeat' constructor)) rfl ?nx29
   rintro v L' ⟨bo, rfl, rfl⟩
   refine G.op (OpSpec.storeA rfl rfl ?c31 sz_73 ?c34 ?c32 ?c33) (by (repeat' constructor)) rfl ?nx35
   case c31 => exact op9K_cells ho _
   case c34 => rfl
   case c32 => simp [op9K, op9C, enC, ptC]
   case c33 => exact nfz0 _ _
   rintro v L' rfl
   refine G.nil ?_
   refine G.ptCast (b := bo) (l' := op9K xs[i] xs[i].k) (by (repeat' constructor)) (by exact rfl) ?_
   refine G.then_n (G.seq (G.region (G.q (Quiet.fieldAddr rfl fo_73_0) rfl ?_)))
   refine G.q (Quiet.load rfl ag_3 (by (repeat' constructor)) (rfl)) rfl ?_
   refine G.op (OpSpec.call Tryz.func26 rfl rfl (vs := [_, _]) rfl (pick9_spec xs[i].k 9 ho.k (by decide))) (by (repeat' constructor)) rfl ?nx38
   rintro v L' ⟨rfl, rfl⟩
   refine G.q (Quiet.add rfl rfl (by omega)) rfl ?_
   refine G.q (Quiet.fieldAddr rfl fo_73_0) rfl ?_
   refine G.op (OpSpec.store rfl rfl rfl sz_3 ?c42 ?c43) (by (repeat' constructor)) rfl ?nx44
   case c42 => simp [op9K, op9C, enC, ptC]
   case c43 => exact nfz0 _ _
   rintro v L' rfl
   refine G.nil ?_
   refine G.ptCast (b := bo) (l' := op9K xs[i] (1 + pickZ xs[i].k 9)) (by (repeat' constructor)) (by exact rfl) ?_
   refine G.then_n (G.seq (G.block (G.seq (G.region (G.q (Quiet.fieldAddr rfl fo_73_0) rfl ?_)))))
   refine G.q (Quiet.load rfl ag_3 (by (repeat' constructor)) (rfl)) rfl ?_
   refine G.q (Quiet.int rfl rfl rfl) rfl (G.q (Quiet.assign rfl) rfl (G.nil (G.then_n ?_)))
   refine G.condD rfl (fun h59 => ?_) (fun h59 => ?_)
   ·refine G.seq (G.region (G.q (Quiet.move rfl) rfl (G.q (Quiet.fieldAddr rfl fo_73_1) rfl ?_)))
    refine G.q (Quiet.load rfl ag_3 (by (repeat' constructor)) (rfl)) rfl ?_
    refine G.op (OpSpec.call Tryz.func26 rfl rfl (vs := [_, _]) rfl (pick9_spec xs[i].n 12 ho.n (by decide))) (by (repeat' constructor)) rfl ?nx51
    rintro v L' ⟨rfl, rfl⟩
    refine G.op (OpSpec.call Tryz.func31 rfl rfl (vs := [_, _]) rfl (arm_spec d s.δ (pickZ xs[i].n 12) (by omega))) (by (repeat' constructor)) rfl ?nx53
    rintro v L' ⟨rfl, rfl⟩
    refine G.nil (G.then_n (G.exit (G.blk_o rfl (G.then_e (G.blk_e (G.then_n (G.region (G.q (Quiet.move rfl) rfl ?_))))))))
    refine G.q (Quiet.add rfl rfl (by omega)) rfl ?_
    refine G.q (Quiet.assign rfl) rfl (G.nil (G.then_n ?_))
    exact G.roundK ((i + 1, ⟨(s.δ.arm (pickZ xs[i].n 12)).1, s.ω, s.Λ⟩, g, x)) (⟨by dsimp only; omega, by dsimp only; omega, (llv_arm hL (pickZ_range xs[i].n (n := 12) (by decide)).1).2.more (by dsimp only; omega)⟩) (by dsimp only; omega) ⟨rfl, rfl, rfl, rfl, rfl, rfl, rfl, trivial⟩ (by (repeat' constructor)) (by ((repeat (apply Have.cons; (repeat (first | exact Pick.here | apply Pick.there)))); apply Have.base; repeat' constructor))
   ·refine G.seq (G.region (G.q (Quiet.fieldAddr rfl fo_73_0) rfl ?_))
    refine G.q (Quiet.load rfl ag_3 (by (repeat' constructor)) (rfl)) rfl ?_
    refine G.q (Quiet.int rfl rfl rfl) rfl (G.q (Quiet.move rfl) rfl ?_)
    refine G.dec (t := 72) rfl (fun h15_72 => ?_) (fun h15_72 => ?_)
    ·refine G.kDT (t := 71) rfl h15_72 (G.gskip (t := 72) rfl rfl rfl rfl (G.gskip (t := 72) rfl rfl rfl rfl (G.gskip (t := 72) rfl rfl rfl rfl (G.gskip (t := 72) rfl rfl rfl rfl (G.q (Quiet.pickT rfl rfl) rfl (G.q (Quiet.assign rfl) rfl (G.nil (G.then_n (G.condT rfl (G.seq ?_))))))))))
     refine G.dkOk (by (repeat' constructor)) fun hok => ?_
     refine G.region (G.q (Quiet.move rfl) rfl (G.q (Quiet.move rfl) rfl ?_))
     refine G.op (OpSpec.call Tryz.func29 rfl rfl (vs := [_, _]) rfl (crash_spec d s.δ _ how p hhow hhows)) (by (repeat' constructor)) rfl ?nx63
     rintro v L' ⟨rfl, rfl⟩
     refine G.nil (G.then_n (G.seq ?_))
     obtain ⟨Λ2, hB2, hQ2⟩ : ∃ Λ2, Back (s.δ.crash how) (8000003 + ((i : Int) + 1) * 8000000) Λ2 ∧ QE s.Λ Λ2 := ⟨s.syn, (back_live hL hok how).more (by omega), ⟨Int.le_refl _, Int.le_refl _⟩⟩
     obtain ⟨ω2, o1, o2, o3, o4⟩ := hB2.open_
     have hsz2 := o3.lv.well.size
     have hdd2 := o3.lv.dead
     refine G.dkOk (by (repeat' constructor)) fun hok2 => ?_
     obtain ⟨σ, hσ⟩ : ∃ σ, s.δ.crash how = σ := ⟨_, rfl⟩
     rw [hσ] at o1 o3 hok2 hsz2 hdd2 ⊢
     refine G.region (G.q (Quiet.move rfl) rfl ?_)
     refine G.op (OpSpec.call Tryz.func18 rfl rfl (vs := [_]) rfl (lopen_spec d σ hsz2 hok2 (fun ω9 h9 => by rw [o1] at h9; cases h9; exact o3.opened))) (by (repeat' constructor)) rfl ?nx66
     rintro v L' (⟨h, -, -⟩ | ⟨-, h, -, -⟩ | ⟨-, ω9, h9, ⟨h, -, -⟩ | ⟨Λ9, m, y, hl9, rfl, rfl⟩⟩); · rw [hdd2] at h; cases h
     · rw [o1] at h; cases h
     · rw [o1] at h9; cases h9; rw [o2] at h; cases h
     rw [o1] at h9; cases h9; rw [o2] at hl9; cases hl9
     refine G.q (Quiet.move rfl) rfl (G.q (Quiet.extract rfl rfl) rfl (G.q (Quiet.extract rfl rfl) rfl (G.q (Quiet.assign rfl) rfl (G.q (Quiet.assign rfl) rfl (G.nil (G.then_n (G.seq (G.seq (G.region (G.q (Quiet.move rfl) rfl (G.q (Quiet.ptreq rfl rfl Tryz.underlying28) rfl (G.q (Quiet.move rfl) rfl (G.grun (t := 88) rfl rfl rfl (G.q (Quiet.move rfl) rfl (G.grun (t := 88) rfl rfl rfl ?_)))))))))))))))
     refine G.q (Quiet.as (v' := .bool false) (by rfl) (Quiet.int rfl rfl rfl)) rfl ?_
     refine G.q (Quiet.pickF rfl rfl) rfl (G.nil (G.then_n (G.condF rfl (G.skip (G.then_n (G.region (G.q (Quiet.move rfl) rfl (G.q (Quiet.assign rfl) rfl (G.nil (G.blk_n (G.then_n (G.seq (G.seq ?_)))))))))))))
     have heps := o3.lw.w.eps
     have hqq := hQ2
     refine G.draw [] [[0, 1, 2, 3, 4, 5, 6, 7, 8, 9, 10, 11, 12, 13, 14, 15, 16, 17, 18, 19, 20, 21, 22, 23, 24]] mixed (by kernel_rfl) ?_
     refine Phases.go [lgR m y Λ2] (by (repeat' constructor)) ?_
     refine D.qw [1, 2, 3, 5, 6, 7, 8, 9, 10, 11, 12, 13, 14, 15, 16, 17, 18, 19, 20, 21, 22, 23, 24] rfl (by kernel_rfl) (Quiet.move rfl) ?_
     refine D.qw [2, 3, 5, 6, 7, 8, 9, 10, 11, 12, 13, 14, 15, 16, 17, 18, 19, 20, 21, 22, 23, 24] rfl (by kernel_rfl) (Quiet.nilp rfl) ?_
     refine D.qw [3, 5, 6, 7, 8, 9, 10, 11, 12, 13, 14, 15, 16, 17, 18, 19, 20, 21, 22, 23, 24] rfl (by kernel_rfl) (Quiet.fieldAddr rfl fo_79_0) ?_
     refine D.m rfl (by kernel_rfl) (OpSpec.call Tryz.func33 rfl rfl (vs := [_]) rfl (lacc_spec m y Λ2)) (by (repeat' constructor)) ?nx74
     refine D.qw [5, 6, 7, 8, 9, 10, 11, 12, 13, 14, 15, 16, 17, 18, 19, 20, 21, 22, 23, 24] rfl (by kernel_rfl) (Quiet.move rfl) ?_
     refine D.qw [6, 7, 8, 9, 10, 11, 12, 13, 14, 15, 16, 17, 18, 19, 20, 21, 22, 23, 24] rfl (by kernel_rfl) (Quiet.as (v' := .bool false) (by exact congrArg Value.bool (decide_eq_false (Int.not_lt.2 hqq.1))) (Quiet.int rfl rfl rfl)) ?_
     refine D.qw [7, 8, 9, 10, 11, 12, 13, 14, 15, 16, 17, 18, 19, 20, 21, 22, 23, 24] rfl (by kernel_rfl) (Quiet.move rfl) ?_
     refine D.gqw [8, 9, 10, 12, 13, 14, 15, 16, 17, 18, 19, 20, 21, 22, 23, 24] (t := 99) rfl rfl rfl (by kernel_rfl) (Quiet.move rfl) ?_
     refine D.gqw [9, 10, 12, 13, 14, 15, 16, 17, 18, 19, 20, 21, 22, 23, 24] (t := 99) rfl rfl rfl (by kernel_rfl) (Quiet.nilp rfl) ?_
     refine D.gqw [10, 12, 13, 14, 15, 16, 17, 18, 19, 20, 21, 22, 23, 24] (t := 99) rfl rfl rfl (by kernel_rfl) (Quiet.fieldAddr rfl fo_79_0) ?_
     refine D.gm (t := 99) rfl rfl rfl (by kernel_rfl) (OpSpec.call Tryz.func34 rfl rfl (vs := [_]) rfl (lcur_spec m y Λ2)) (by (repeat' constructor)) ?nx80
     refine D.gqw [12, 13, 14, 15, 16, 17, 18, 19, 20, 21, 22, 23, 24] (t := 99) rfl rfl rfl (by kernel_rfl) (Quiet.move rfl) ?_
     refine D.gqw [13, 14, 15, 16, 17, 18, 19, 20, 21, 22, 23, 24] (t := 99) rfl rfl rfl (by kernel_rfl) (Quiet.as (v' := .bool false) (by exact congrArg Value.bool (decide_eq_false (Int.not_lt.2 hqq.2))) (Quiet.int rfl rfl rfl)) ?_
     refine D.qw [14, 15, 16, 17, 18, 19, 20, 21, 22, 23, 24] rfl (by kernel_rfl) (Quiet.pickF rfl rfl) ?_
     refine D.qw [15, 16, 17, 18, 19, 20, 21, 22, 23, 24] rfl (by kernel_rfl) (Quiet.move rfl) ?_
     refine D.gqw [16, 17, 18, 22, 23, 24] (t := 107) rfl rfl rfl (by kernel_rfl) (Quiet.move rfl) ?_
     refine D.gqw [17, 18, 22, 23, 24] (t := 107) rfl rfl rfl (by kernel_rfl) (Quiet.nilp rfl) ?_
     refine D.gqw [18, 22, 23, 24] (t := 107) rfl rfl rfl (by kernel_rfl) (Quiet.fieldAddr rfl fo_79_0) ?_
     refine D.gm (t := 107) rfl rfl rfl (by kernel_rfl) (OpSpec.call Tryz.func34 rfl rfl (vs := [_]) rfl (lcur_spec m y Λ2)) (by (repeat' constructor)) ?nx86
     refine D.gqw [20, 21, 22, 23, 24] (t := 107) rfl rfl rfl (by kernel_rfl) (Quiet.move rfl) ?_
     refine D.gqw [21, 22, 23, 24] (t := 107) rfl rfl rfl (by kernel_rfl) (Quiet.nilp rfl) ?_
     refine D.gqw [22, 23, 24] (t := 107) rfl rfl rfl (by kernel_rfl) (Quiet.fieldAddr rfl fo_79_0) ?_
     refine D.gm (t := 107) rfl rfl rfl (by kernel_rfl) (OpSpec.call Tryz.func33 rfl rfl (vs := [_]) rfl (lacc_spec m y Λ2)) (by (repeat' constructor)) ?nx90
     refine D.gqw [24] (t := 107) rfl rfl rfl (by kernel_rfl) (Quiet.as (v' := .bool false) (by exact congrArg Value.bool (decide_eq_false (Int.not_lt.2 heps.2.1))) (Quiet.int rfl rfl rfl)) ?_
     refine D.qw [] rfl (by kernel_rfl) (Quiet.pickF rfl rfl) ?_
     refine D.ph (Phases.fin (G.then_n (G.condF rfl (G.skip (G.then_n (G.seq (G.region (G.q (Quiet.move rfl) rfl (G.q (Quiet.nilp rfl) rfl (G.q (Quiet.fieldAddr rfl fo_79_0) rfl ?_))))))))))
     refine G.op (OpSpec.call Tryz.func33 rfl rfl (vs := [_]) rfl (lacc_spec m y Λ2)) (by (repeat' constructor)) rfl ?nx95
     rintro v L' ⟨rfl, rfl⟩
     refine G.q (Quiet.assign rfl) rfl (G.nil (G.then_n (G.region (G.q (Quiet.move rfl) rfl (G.q (Quiet.nilp rfl) rfl (G.q (Quiet.fieldAddr rfl fo_79_0) rfl ?_))))))
     refine G.op (OpSpec.call Tryz.func34 rfl rfl (vs := [_]) rfl (lcur_spec m y Λ2)) (by (repeat' constructor)) rfl ?nx99
     rintro v L' ⟨rfl, rfl⟩
     refine G.q (Quiet.assign rfl) rfl (G.nil (G.blk_n (G.then_n (G.region (G.q (Quiet.move rfl) rfl ?_)))))
     refine G.q (Quiet.add rfl rfl (by omega)) rfl ?_
     refine G.q (Quiet.assign rfl) rfl (G.nil (G.then_n ?_))
     exact G.roundK ((i + 1, ⟨σ, ω2, Λ2⟩, m, y)) (⟨by dsimp only; omega, by dsimp only; omega, o3.more (by dsimp only; omega)⟩) (by dsimp only; omega) ⟨rfl, rfl, rfl, rfl, rfl, rfl, rfl, trivial⟩ (by (repeat' constructor)) (by ((repeat (apply Have.cons; (repeat (first | exact Pick.here | apply Pick.there)))); apply Have.base; repeat' constructor))
    ·refine G.kDF (t := 71) rfl h15_72 (G.grun (t := 72) rfl rfl rfl (G.q (Quiet.move rfl) rfl (G.grun (t := 72) rfl rfl rfl ?_)))
     refine G.q (Quiet.loadAs (vs := op9K xs[i] (1 + pickZ xs[i].k 9)) rfl ag_73 (by (repeat' constructor)) (by simp [op9K, op9C, enC, ptC]) rfl) rfl ?_
     refine G.grun (t := 72) rfl rfl rfl ?_
     refine G.op (OpSpec.call Tryz.func32 rfl rfl (vs := [_, _]) rfl (does9_spec g x d s.δ s.ω s.Λ xs[i] (1 + pickZ xs[i].k 9) p (8000003 + i * 8000000) hL (by omega) ho)) (by (repeat' constructor)) rfl ?nx105
     rintro v L' ⟨rfl, rfl⟩; have hres := lr_does hL ho (1 + pickZ xs[i].k 9); have hqe := qe_does s xs[i] (1 + pickZ xs[i].k 9); obtain ⟨r, hr⟩ : ∃ r, lgDoes ⟨s.δ, s.ω, s.Λ⟩ xs[i] (1 + pickZ xs[i].k 9) = r := ⟨_, rfl⟩; rw [hr]; rw [show lgDoes s xs[i] (1 + pickZ xs[i].k 9) = r from hr] at hres hqe
     refine G.grun (t := 72) rfl rfl rfl (G.q (Quiet.int rfl rfl rfl) rfl (G.q (Quiet.pickF rfl rfl) rfl (G.q (Quiet.assign rfl) rfl (G.nil (G.then_n ?_)))))
     refine G.condD rfl (fun h68 => ?_) (fun h68 => ?_)
     ·refine G.seq ?_
      refine G.dkOk (by (repeat' constructor)) fun hok => ?_
      refine G.region (G.q (Quiet.move rfl) rfl (G.q (Quiet.move rfl) rfl ?_))
      refine G.op (OpSpec.call Tryz.func29 rfl rfl (vs := [_, _]) rfl (crash_spec d r.1.δ _ how p hhow hhows)) (by (repeat' constructor)) rfl ?nx110
      rintro v L' ⟨rfl, rfl⟩
      refine G.nil (G.then_n (G.seq ?_))
      obtain ⟨Λ2, hB2, hQ2⟩ : ∃ Λ2, Back (r.1.δ.crash how) (8000003 + ((i : Int) + 1) * 8000000) Λ2 ∧ QE s.Λ Λ2 := (by obtain ⟨Λ9, q1, q2⟩ := hres.dead h68 hok how; exact ⟨Λ9, q1.more (by omega), by rcases q2 with q2 | q2; rw [q2]; exact ⟨Int.le_refl _, Int.le_refl _⟩; exact q2⟩)
      obtain ⟨ω2, o1, o2, o3, o4⟩ := hB2.open_
      have hsz2 := o3.lv.well.size
      have hdd2 := o3.lv.dead
      refine G.dkOk (by (repeat' constructor)) fun hok2 => ?_
      obtain ⟨σ, hσ⟩ : ∃ σ, r.1.δ.crash how = σ := ⟨_, rfl⟩
      rw [hσ] at o1 o3 hok2 hsz2 hdd2 ⊢
      refine G.region (G.q (Quiet.move rfl) rfl ?_)
      refine G.op (OpSpec.call Tryz.func18 rfl rfl (vs := [_]) rfl (lopen_spec d σ hsz2 hok2 (fun ω9 h9 => by rw [o1] at h9; cases h9; exact o3.opened))) (by (repeat' constructor)) rfl ?nx113
      rintro v L' (⟨h, -, -⟩ | ⟨-, h, -, -⟩ | ⟨-, ω9, h9, ⟨h, -, -⟩ | ⟨Λ9, m, y, hl9, rfl, rfl⟩⟩); · rw [hdd2] at h; cases h
      · rw [o1] at h; cases h
      · rw [o1] at h9; cases h9; rw [o2] at h; cases h
      rw [o1] at h9; cases h9; rw [o2] at hl9; cases hl9
      refine G.q (Quiet.move rfl) rfl (G.q (Quiet.extract rfl rfl) rfl (G.q (Quiet.extract rfl rfl) rfl (G.q (Quiet.assign rfl) rfl (G.q (Quiet.assign rfl) rfl (G.nil (G.then_n (G.seq (G.seq (G.region (G.q (Quiet.move rfl) rfl (G.q (Quiet.ptreq rfl rfl Tryz.underlying28) rfl (G.q (Quiet.move rfl) rfl (G.grun (t := 88) rfl rfl rfl (G.q (Quiet.move rfl) rfl (G.grun (t := 88) rfl rfl rfl ?_)))))))))))))))
      refine G.q (Quiet.as (v' := .bool false) (by rfl) (Quiet.int rfl rfl rfl)) rfl ?_
      refine G.q (Quiet.pickF rfl rfl) rfl (G.nil (G.then_n (G.condF rfl (G.skip (G.then_n (G.region (G.q (Quiet.move rfl) rfl (G.q (Quiet.assign rfl) rfl (G.nil (G.blk_n (G.then_n (G.seq (G.seq ?_)))))))))))))
      have heps := o3.lw.w.eps
      have hqq := hQ2
      refine G.draw [] [[0, 1, 2, 3, 4, 5, 6, 7, 8, 9, 10, 11, 12, 13, 14, 15, 16, 17, 18, 19, 20, 21, 22, 23, 24]] mixed (by kernel_rfl) ?_
      refine Phases.go [lgR m y Λ2] (by (repeat' constructor)) ?_
      refine D.qw [1, 2, 3, 5, 6, 7, 8, 9, 10, 11, 12, 13, 14, 15, 16, 17, 18, 19, 20, 21, 22, 23, 24] rfl (by kernel_rfl) (Quiet.move rfl) ?_
      refine D.qw [2, 3, 5, 6, 7, 8, 9, 10, 11, 12, 13, 14, 15, 16, 17, 18, 19, 20, 21, 22, 23, 24] rfl (by kernel_rfl) (Quiet.nilp rfl) ?_
      refine D.qw [3, 5, 6, 7, 8, 9, 10, 11, 12, 13, 14, 15, 16, 17, 18, 19, 20, 21, 22, 23, 24] rfl (by kernel_rfl) (Quiet.fieldAddr rfl fo_79_0) ?_
      refine D.m rfl (by kernel_rfl) (OpSpec.call Tryz.func33 rfl rfl (vs := [_]) rfl (lacc_spec m y Λ2)) (by (repeat' constructor)) ?nx121
      refine D.qw [5, 6, 7, 8, 9, 10, 11, 12, 13, 14, 15, 16, 17, 18, 19, 20, 21, 22, 23, 24] rfl (by kernel_rfl) (Quiet.move rfl) ?_
      refine D.qw [6, 7, 8, 9, 10, 11, 12, 13, 14, 15, 16, 17, 18, 19, 20, 21, 22, 23, 24] rfl (by kernel_rfl) (Quiet.as (v' := .bool false) (by exact congrArg Value.bool (decide_eq_false (Int.not_lt.2 hqq.1))) (Quiet.int rfl rfl rfl)) ?_
      refine D.qw [7, 8, 9, 10, 11, 12, 13, 14, 15, 16, 17, 18, 19, 20, 21, 22, 23, 24] rfl (by kernel_rfl) (Quiet.move rfl) ?_
      refine D.gqw [8, 9, 10, 12, 13, 14, 15, 16, 17, 18, 19, 20, 21, 22, 23, 24] (t := 99) rfl rfl rfl (by kernel_rfl) (Quiet.move rfl) ?_
      refine D.gqw [9, 10, 12, 13, 14, 15, 16, 17, 18, 19, 20, 21, 22, 23, 24] (t := 99) rfl rfl rfl (by kernel_rfl) (Quiet.nilp rfl) ?_
      refine D.gqw [10, 12, 13, 14, 15, 16, 17, 18, 19, 20, 21, 22, 23, 24] (t := 99) rfl rfl rfl (by kernel_rfl) (Quiet.fieldAddr rfl fo_79_0) ?_
      refine D.gm (t := 99) rfl rfl rfl (by kernel_rfl) (OpSpec.call Tryz.func34 rfl rfl (vs := [_]) rfl (lcur_spec m y Λ2)) (by (repeat' constructor)) ?nx127
      refine D.gqw [12, 13, 14, 15, 16, 17, 18, 19, 20, 21, 22, 23, 24] (t := 99) rfl rfl rfl (by kernel_rfl) (Quiet.move rfl) ?_
      refine D.gqw [13, 14, 15, 16, 17, 18, 19, 20, 21, 22, 23, 24] (t := 99) rfl rfl rfl (by kernel_rfl) (Quiet.as (v' := .bool false) (by exact congrArg Value.bool (decide_eq_false (Int.not_lt.2 hqq.2))) (Quiet.int rfl rfl rfl)) ?_
      refine D.qw [14, 15, 16, 17, 18, 19, 20, 21, 22, 23, 24] rfl (by kernel_rfl) (Quiet.pickF rfl rfl) ?_
      refine D.qw [15, 16, 17, 18, 19, 20, 21, 22, 23, 24] rfl (by kernel_rfl) (Quiet.move rfl) ?_
      refine D.gqw [16, 17, 18, 22, 23, 24] (t := 107) rfl rfl rfl (by kernel_rfl) (Quiet.move rfl) ?_
      refine D.gqw [17, 18, 22, 23, 24] (t := 107) rfl rfl rfl (by kernel_rfl) (Quiet.nilp rfl) ?_
      refine D.gqw [18, 22, 23, 24] (t := 107) rfl rfl rfl (by kernel_rfl) (Quiet.fieldAddr rfl fo_79_0) ?_
      refine D.gm (t := 107) rfl rfl rfl (by kernel_rfl) (OpSpec.call Tryz.func34 rfl rfl (vs := [_]) rfl (lcur_spec m y Λ2)) (by (repeat' constructor)) ?nx133
      refine D.gqw [20, 21, 22, 23, 24] (t := 107) rfl rfl rfl (by kernel_rfl) (Quiet.move rfl) ?_
      refine D.gqw [21, 22, 23, 24] (t := 107) rfl rfl rfl (by kernel_rfl) (Quiet.nilp rfl) ?_
      refine D.gqw [22, 23, 24] (t := 107) rfl rfl rfl (by kernel_rfl) (Quiet.fieldAddr rfl fo_79_0) ?_
      refine D.gm (t := 107) rfl rfl rfl (by kernel_rfl) (OpSpec.call Tryz.func33 rfl rfl (vs := [_]) rfl (lacc_spec m y Λ2)) (by (repeat' constructor)) ?nx137
      refine D.gqw [24] (t := 107) rfl rfl rfl (by kernel_rfl) (Quiet.as (v' := .bool false) (by exact congrArg Value.bool (decide_eq_false (Int.not_lt.2 heps.2.1))) (Quiet.int rfl rfl rfl)) ?_
      refine D.qw [] rfl (by kernel_rfl) (Quiet.pickF rfl rfl) ?_
      refine D.ph (Phases.fin (G.then_n (G.condF rfl (G.skip (G.then_n (G.seq (G.region (G.q (Quiet.move rfl) rfl (G.q (Quiet.nilp rfl) rfl (G.q (Quiet.fieldAddr rfl fo_79_0) rfl ?_))))))))))
      refine G.op (OpSpec.call Tryz.func33 rfl rfl (vs := [_]) rfl (lacc_spec m y Λ2)) (by (repeat' constructor)) rfl ?nx142
      rintro v L' ⟨rfl, rfl⟩
      refine G.q (Quiet.assign rfl) rfl (G.nil (G.then_n (G.region (G.q (Quiet.move rfl) rfl (G.q (Quiet.nilp rfl) rfl (G.q (Quiet.fieldAddr rfl fo_79_0) rfl ?_))))))
      refine G.op (OpSpec.call Tryz.func34 rfl rfl (vs := [_]) rfl (lcur_spec m y Λ2)) (by (repeat' constructor)) rfl ?nx146
      rintro v L' ⟨rfl, rfl⟩
      refine G.q (Quiet.assign rfl) rfl (G.nil (G.blk_n (G.then_n (G.region (G.q (Quiet.move rfl) rfl ?_)))))
      refine G.q (Quiet.add rfl rfl (by omega)) rfl ?_
      refine G.q (Quiet.assign rfl) rfl (G.nil (G.then_n ?_))
      exact G.roundK ((i + 1, ⟨σ, ω2, Λ2⟩, m, y)) (⟨by dsimp only; omega, by dsimp only; omega, o3.more (by dsimp only; omega)⟩) (by dsimp only; omega) ⟨rfl, rfl, rfl, rfl, rfl, rfl, rfl, trivial⟩ (by (repeat' constructor)) (by ((repeat (apply Have.cons; (repeat (first | exact Pick.here | apply Pick.there)))); apply Have.base; repeat' constructor))
     ·refine G.skip (G.blk_n (G.then_n (G.seq (G.seq ?_))))
      have heps := (hres.live h68).1.lw.w.eps
      have hqq := hqe
      refine G.draw [] [[0, 1, 2, 3, 4, 5, 6, 7, 8, 9, 10, 11, 12, 13, 14, 15, 16, 17, 18, 19, 20, 21, 22, 23, 24]] mixed (by kernel_rfl) ?_
      refine Phases.go [lgR g x r.1.Λ] (by (repeat' constructor)) ?_
      refine D.qw [1, 2, 3, 5, 6, 7, 8, 9, 10, 11, 12, 13, 14, 15, 16, 17, 18, 19, 20, 21, 22, 23, 24] rfl (by kernel_rfl) (Quiet.move rfl) ?_
      refine D.qw [2, 3, 5, 6, 7, 8, 9, 10, 11, 12, 13, 14, 15, 16, 17, 18, 19, 20, 21, 22, 23, 24] rfl (by kernel_rfl) (Quiet.nilp rfl) ?_
      refine D.qw [3, 5, 6, 7, 8, 9, 10, 11, 12, 13, 14, 15, 16, 17, 18, 19, 20, 21, 22, 23, 24] rfl (by kernel_rfl) (Quiet.fieldAddr rfl fo_79_0) ?_
      refine D.m rfl (by kernel_rfl) (OpSpec.call Tryz.func33 rfl rfl (vs := [_]) rfl (lacc_spec g x r.1.Λ)) (by (repeat' constructor)) ?nx153
      refine D.qw [5, 6, 7, 8, 9, 10, 11, 12, 13, 14, 15, 16, 17, 18, 19, 20, 21, 22, 23, 24] rfl (by kernel_rfl) (Quiet.move rfl) ?_
      refine D.qw [6, 7, 8, 9, 10, 11, 12, 13, 14, 15, 16, 17, 18, 19, 20, 21, 22, 23, 24] rfl (by kernel_rfl) (Quiet.as (v' := .bool false) (by exact congrArg Value.bool (decide_eq_false (Int.not_lt.2 hqq.1))) (Quiet.int rfl rfl rfl)) ?_
      refine D.qw [7, 8, 9, 10, 11, 12, 13, 14, 15, 16, 17, 18, 19, 20, 21, 22, 23, 24] rfl (by kernel_rfl) (Quiet.move rfl) ?_
      refine D.gqw [8, 9, 10, 12, 13, 14, 15, 16, 17, 18, 19, 20, 21, 22, 23, 24] (t := 99) rfl rfl rfl (by kernel_rfl) (Quiet.move rfl) ?_
      refine D.gqw [9, 10, 12, 13, 14, 15, 16, 17, 18, 19, 20, 21, 22, 23, 24] (t := 99) rfl rfl rfl (by kernel_rfl) (Quiet.nilp rfl) ?_
      refine D.gqw [10, 12, 13, 14, 15, 16, 17, 18, 19, 20, 21, 22, 23, 24] (t := 99) rfl rfl rfl (by kernel_rfl) (Quiet.fieldAddr rfl fo_79_0) ?_
      refine D.gm (t := 99) rfl rfl rfl (by kernel_rfl) (OpSpec.call Tryz.func34 rfl rfl (vs := [_]) rfl (lcur_spec g x r.1.Λ)) (by (repeat' constructor)) ?nx160
      refine D.gqw [12, 13, 14, 15, 16, 17, 18, 19, 20, 21, 22, 23, 24] (t := 99) rfl rfl rfl (by kernel_rfl) (Quiet.move rfl) ?_
      refine D.gqw [13, 14, 15, 16, 17, 18, 19, 20, 21, 22, 23, 24] (t := 99) rfl rfl rfl (by kernel_rfl) (Quiet.as (v' := .bool false) (by exact congrArg Value.bool (decide_eq_false (Int.not_lt.2 hqq.2))) (Quiet.int rfl rfl rfl)) ?_
      refine D.qw [14, 15, 16, 17, 18, 19, 20, 21, 22, 23, 24] rfl (by kernel_rfl) (Quiet.pickF rfl rfl) ?_
      refine D.qw [15, 16, 17, 18, 19, 20, 21, 22, 23, 24] rfl (by kernel_rfl) (Quiet.move rfl) ?_
      refine D.gqw [16, 17, 18, 22, 23, 24] (t := 107) rfl rfl rfl (by kernel_rfl) (Quiet.move rfl) ?_
      refine D.gqw [17, 18, 22, 23, 24] (t := 107) rfl rfl rfl (by kernel_rfl) (Quiet.nilp rfl) ?_
      refine D.gqw [18, 22, 23, 24] (t := 107) rfl rfl rfl (by kernel_rfl) (Quiet.fieldAddr rfl fo_79_0) ?_
      refine D.gm (t := 107) rfl rfl rfl (by kernel_rfl) (OpSpec.call Tryz.func34 rfl rfl (vs := [_]) rfl (lcur_spec g x r.1.Λ)) (by (repeat' constructor)) ?nx167
      refine D.gqw [20, 21, 22, 23, 24] (t := 107) rfl rfl rfl (by kernel_rfl) (Quiet.move rfl) ?_
      refine D.gqw [21, 22, 23, 24] (t := 107) rfl rfl rfl (by kernel_rfl) (Quiet.nilp rfl) ?_
      refine D.gqw [22, 23, 24] (t := 107) rfl rfl rfl (by kernel_rfl) (Quiet.fieldAddr rfl fo_79_0) ?_
      refine D.gm (t := 107) rfl rfl rfl (by kernel_rfl) (OpSpec.call Tryz.func33 rfl rfl (vs := [_]) rfl (lacc_spec g x r.1.Λ)) (by (repeat' constructor)) ?nx172
      refine D.gqw [24] (t := 107) rfl rfl rfl (by kernel_rfl) (Quiet.as (v' := .bool false) (by exact congrArg Value.bool (decide_eq_false (Int.not_lt.2 heps.2.1))) (Quiet.int rfl rfl rfl)) ?_
      refine D.qw [] rfl (by kernel_rfl) (Quiet.pickF rfl rfl) ?_
      refine D.ph (Phases.fin (G.then_n (G.condF rfl (G.skip (G.then_n (G.seq (G.region (G.q (Quiet.move rfl) rfl (G.q (Quiet.nilp rfl) rfl (G.q (Quiet.fieldAddr rfl fo_79_0) rfl ?_))))))))))
      refine G.op (OpSpec.call Tryz.func33 rfl rfl (vs := [_]) rfl (lacc_spec g x r.1.Λ)) (by (repeat' constructor)) rfl ?nx178
      rintro v L' ⟨rfl, rfl⟩
      refine G.q (Quiet.assign rfl) rfl (G.nil (G.then_n (G.region (G.q (Quiet.move rfl) rfl (G.q (Quiet.nilp rfl) rfl (G.q (Quiet.fieldAddr rfl fo_79_0) rfl ?_))))))
      refine G.op (OpSpec.call Tryz.func34 rfl rfl (vs := [_]) rfl (lcur_spec g x r.1.Λ)) (by (repeat' constructor)) rfl ?nx183
      rintro v L' ⟨rfl, rfl⟩
      refine G.q (Quiet.assign rfl) rfl (G.nil (G.blk_n (G.then_n (G.region (G.q (Quiet.move rfl) rfl ?_)))))
      refine G.q (Quiet.add rfl rfl (by omega)) rfl ?_
      refine G.q (Quiet.assign rfl) rfl (G.nil (G.then_n ?_))
      exact G.roundK ((i + 1, r.1, g, x)) (⟨by dsimp only; omega, by dsimp only; omega, (hres.live h68).1.more (by dsimp only; omega)⟩) (by dsimp only; omega) ⟨rfl, rfl, rfl, rfl, rfl, rfl, rfl, trivial⟩ (by (repeat' constructor)) (by ((repeat (apply Have.cons; (repeat (first | exact Pick.here | apply Pick.there)))); apply Have.base; repeat' constructor))
  ·refine G.exit (G.then_e (G.then_e (G.blk_e (G.then_n (G.seq (G.region (G.q (Quiet.assign rfl) rfl (G.nil (G.then_n (G.ret ?_))))))))))
   exact G.done (l := [.tmp 4]) rfl rfl ⟨rfl, rfl⟩ (by (repeat' constructor)) (by (repeat' constructor))
 ·refine G.kDF (t := 43) rfl h9_44 (G.gskip (t := 44) rfl rfl rfl rfl (G.gskip (t := 44) rfl rfl rfl rfl (G.q (Quiet.pickF rfl rfl) rfl (G.nil (G.then_n (G.condF rfl (G.exit (G.then_e (G.then_e (G.blk_e (G.then_n (G.seq (G.region (G.q (Quiet.assign rfl) rfl (G.nil (G.then_n (G.ret ?_)))))))))))))))))
  exact G.done (l := [.tmp 4]) rfl rfl ⟨rfl, rfl⟩ (by (repeat' constructor)) (by (repeat' constructor))

end Go.Proofs.YtidjhgbdokcphaaGreat

/- Own work: from what a call is given to the atoms of SlCore, and back to what a statement asks. -/

namespace Go.Proofs.YtidjhgbdokcphaaGreat
open Go Go.ChangeShapes Go.WideShapes Go.ChangeAt Go.RowKit

section
variable {H : Type} {enc : TypeId × Value → H} {P : Program} {W W' : World}
theorem trodAll_old (hl : laidOutB P = true) (hb : Below W.heap.size W W') (sp : Nat → Bool) : ∀ (ts : List TypeId) (vs : List Value) (ds : List (DataW H)) (p : List MemPlace), (∀ t ∈ ts, P.readableRec t = true ∧ t < P.types.size) →
    DataW.TrodAll enc P W 0 (fun _ => true) true ts vs ds p → (∀ x ∈ p, x.block < W.heap.size) → (∀ x ∈ p, sp x.block = true) → DataW.TrodAll enc P W' 0 sp true ts vs ds p
  | [], vs, ds, p, _, h, _, _ => by
    obtain ⟨rfl, rfl, rfl⟩ := trodAll_nil h
    exact h
  | t :: ts, vs, ds, p, hr, h, hlt, hsp => by
    obtain ⟨v, vs1, d, ds1, a, b, rfl, rfl, rfl, h1, h2⟩ := trodAll_cons h
    have r := hr t (by simp)
    refine ⟨a, b, WideElems.Trod_stays hl r.1 r.2 h1 (fun x hx => hb.same (hlt x (by simp [hx]))) (fun x hx => hsp x (by simp [hx])), ?_, rfl⟩
    exact trodAll_old hl hb sp ts vs1 ds1 b (fun t ht => hr t (by simp [ht])) h2 (fun x hx => hlt x (by simp [hx])) (fun x hx => hsp x (by simp [hx]))
theorem settled {fn : Func} {s : ChangeSpec} {apart fresh handsOn again : Bool} {args : Array Value} {ds gs : List (DataW H)} {before : List MemPlace} {tb : TypeId}
    (hW : DataW.Whole enc P fn.params.toList s.vars apart W args.toList ds gs before) (hvars : s.vars = []) (hspec : ∀ gs', gs' = [] → s.fn H (ds ++ gs') = { results := [.lit (.bool true)], args := ds })
    (hres : fn.resultTypes = #[tb]) (htb : P.underlying tb = some .bool) (hl : laidOutB P = true) (hr : ∀ t ∈ fn.params.toList, P.readableRec t = true ∧ t < P.types.size) (hb : Below W.heap.size W W') :
    s.post enc P fn apart fresh handsOn again W args (.bool true) W' := by
  have hW' := hW
  have hlt := hW.lt
  obtain ⟨p, q, hA, hV, rfl, hfz, hnd⟩ := hW
  rw [hvars] at hV
  obtain ⟨rfl, rfl⟩ := trodVars_none hV
  have hs := hspec [] rfl
  have hargs : ∀ sp : Nat → Bool, (∀ x ∈ p, sp x.block = true) → DataW.TrodAll enc P W' 0 sp true fn.params.toList args.toList ds p := fun sp hsp =>
    trodAll_old hl hb sp _ _ _ _ hr hA (fun x hx => hlt x (by simp [hx])) hsp
  have hbool : ∀ (b : Nat) (sp : Nat → Bool) (hd : Bool), DataW.TrodAll enc P W' b sp hd fn.resultTypes.toList ((Value.bool true).resultList fn.resultTypes.size) [.lit (.bool true)] [] := by
    intro b sp hd
    rw [hres]
    exact trodAll_cons_mk (shut_bool htb _) trodAll_mk0
  refine ⟨ds, [], p ++ [], [], p, [], hW', ?_, ?_, ?_, hb.frame _, fun _ => ⟨ok_one hres rfl (okWide_bool_mk htb _), [.lit (.bool true)] ++ ds, [], p, ⟨p, [], ?_, ?_, by simp, ?_, ?_⟩, ?_⟩⟩
  · rw [hs]; exact hbool _ _ _
  · rw [hs]; exact hargs _ (fun x hx => by simpa using hlt x (by simp [hx]))
  · rw [hs, hvars]; exact hV
  · exact trodAll_append (hargs _ (fun _ _ => rfl)) (hbool _ _ _)
  · rw [hvars]; exact hV
  · intro b off hp
    rw [hb.frozen (p := ⟨b, off, none⟩) (hlt (.cell b off) (by simp [hp]))]
    exact hfz b off (by simp [hp])
  · intro ha
    have := hnd ha
    simpa using this
  · intro x hx _
    simp [hx]
theorem old_calls {f : FuncId} {args : Array Value} (h : Fn P f args [Old W] fun v L => v = .bool true ∧ L = [Old W]) :
    Calls P f args W fun e W' => e = .returned (.bool true) ∧ Below W.heap.size W W' := by
  have h0 : St [Old W] W := ⟨fun b => W.heap[b]?, fun _ => none, fun _ => .inr rfl, fun b o h => h, fun b o h => (by cases h), fun b hb => rfl, trivial⟩
  refine (h [] W h0).mono ?_
  rintro e W' ⟨v, L, ⟨rfl, rfl⟩, rfl, hs, hk⟩
  refine ⟨rfl, hk.os, hk.tape, hk.output, hk.size, fun k hk' => ?_⟩
  obtain ⟨h1, a1, hp⟩ := sep_head hs
  have e1 := hp k hk'
  have : ∃ o, W.heap[k]? = some o := ⟨_, Array.getElem?_eq_getElem hk'⟩
  obtain ⟨o, ho⟩ := this
  rw [ho] at e1 ⊢
  exact a1 _ _ e1
theorem old_rd {a : Addr} {len cap : Nat} {V : Nat → Value} (hc : ∀ i, i < len → W.cell? (a.add i) = some (V i)) (hle : len ≤ cap) : ∀ h : Hp, Old W h → rdS 1 h (.slice (some a) len cap) len ((List.range len).map V) := by
  intro h hold
  rcases Nat.eq_zero_or_pos len with rfl | hpos
  · exact .inl ⟨rfl, rfl, some a, cap, rfl⟩
  · obtain ⟨b, off, spot⟩ := a
    have h0 := hc 0 hpos
    have e0 : (⟨b, off, spot⟩ : Addr).add 0 = ⟨b, off, spot⟩ := by simp [Addr.add]
    rw [e0] at h0
    simp only [World.cell?] at h0
    rcases hw : W.heap[b]? with _ | o
    · rw [hw] at h0; cases h0
    · cases o with
      | cells c T fr =>
        rw [hw] at h0
        dsimp only at h0
        split at h0
        · cases h0
        · rename_i hsp
          have hspot : spot = none := by simpa using hsp
          subst hspot
          have hc' : ∀ i, i < len → c[off + i]? = some (V i) := by
            intro i hi
            have := hc i hi
            have e1 : (⟨b, off, none⟩ : Addr).add i = ⟨b, off + i, none⟩ := by
              simp only [Addr.add]; split
              · rename_i h0; simp [h0]
              · rfl
            rw [e1] at this
            simp only [World.cell?, hw] at this
            simpa using this
          have hlt : b < W.heap.size := by
            rcases Nat.lt_or_ge b W.heap.size with h' | h'
            · exact h'
            · rw [Array.getElem?_eq_none h'] at hw; cases hw
          have hlen : off + len ≤ c.size := by
            have := hc' (len - 1) (by omega)
            rcases Nat.lt_or_ge (off + (len - 1)) c.size with h' | h'
            · omega
            · rw [Array.getElem?_eq_none h'] at this; cases this
          refine .inr ⟨b, off, cap, c.toList, T, fr, rfl, by rw [hold b hlt, hw], ?_, by simpa using hlen, hle⟩
          apply List.ext_getElem?
          intro i
          rw [Nat.mul_one, List.getElem?_take, List.getElem?_map, List.getElem?_drop]
          split
          · rename_i hi
            rw [List.getElem?_range hi]
            simpa using hc' i hi
          · rename_i hi
            rw [List.getElem?_eq_none (by simpa using hi)]; rfl
      | _ => rw [hw] at h0; cases h0
end
end Go.Proofs.YtidjhgbdokcphaaGreat

/- Own work: strings and rows of strings as arguments. -/
namespace Go.Proofs.YtidjhgbdokcphaaGreat
open Go Go.ChangeShapes Go.WideShapes Go.ChangeAt Go.RowKit

section
variable {H : Type} {enc : TypeId × Value → H} {P : Program} {W : World}
theorem string_vstr (s : ByteArray) : Value.string s = vstr s.data.toList := by cases s; rfl
end
end Go.Proofs.YtidjhgbdokcphaaGreat

/- Own work: nested arguments decoded: slices of structs, and what the row says of their weight. -/

namespace Go.Proofs.YtidjhgbdokcphaaGreat
open Go Go.ChangeShapes Go.WideShapes Go.ChangeAt Go.RowKit

section
variable {H : Type} {enc : TypeId × Value → H} {P : Program} {W : World}
/-- No slice and no string in this datum weighs more than the row's reach. -/
def Light (P : Program) (t : TypeId) (d : DataW H) : Prop := ∀ n ∈ d.weights P t, n ≤ reachBytes
theorem flat_at {α : Type} {sz : Nat} (f : Nat → List α) : ∀ n, (∀ i, i < n → (f i).length = sz) → ∀ j, j < n * sz → ((List.range n).flatMap f)[j]? = (f (j / sz))[j % sz]? ∧ ((List.range n).flatMap f).length = n * sz := by
  intro n
  induction n with
  | zero => intro _ j hj; omega
  | succ n ih =>
    intro hf j hj
    have hn := hf n (by omega)
    have hlen : ((List.range n).flatMap f).length = n * sz := by
      rcases Nat.eq_zero_or_pos (n * sz) with h0 | h0
      · rcases Nat.eq_zero_or_pos n with h1 | h1
        · subst h1; simp
        · have : sz = 0 := by
            rcases Nat.eq_zero_or_pos sz with h2 | h2
            · exact h2
            · have := Nat.mul_pos h1 h2; omega
          subst this; omega
      · exact (ih (fun i hi => hf i (by omega)) 0 h0).2
    have e : (List.range (n + 1)).flatMap f = (List.range n).flatMap f ++ f n := by simp [List.range_succ]
    have hm : (n + 1) * sz = n * sz + sz := by rw [Nat.add_mul, Nat.one_mul]
    rw [e]
    refine ⟨?_, by rw [List.length_append, hlen, hn, hm]⟩
    rcases Nat.lt_or_ge j (n * sz) with h | h
    · rw [List.getElem?_append_left (by omega)]
      exact (ih (fun i hi => hf i (by omega)) j h).1
    · rw [List.getElem?_append_right (by omega), hlen]
      have hs : 0 < sz := by omega
      have h1 : j / sz = n := by
        have : j < (n + 1) * sz := hj
        have a := Nat.div_lt_of_lt_mul (show j < sz * (n + 1) by rw [Nat.mul_comm]; exact this)
        have b := (Nat.le_div_iff_mul_le hs).2 h
        omega
      have h2 : j % sz = j - n * sz := by
        have := Nat.div_add_mod j sz
        rw [h1, Nat.mul_comm] at this; omega
      rw [h1, h2]
theorem rdS_regroup {sz n c c1 : Nat} {a : Option Addr} {ys : List Value} {h : Hp} (hr : rdS 1 h (.slice a (n * sz) c1) (n * sz) ys) (hc : n ≤ c) (hs : 0 < sz) : rdS sz h (.slice a n c) n ys := by
  rcases hr with ⟨h1, h2, -⟩ | ⟨b, off, cap, l, T, fr, hv, hb, h1, h2, h3⟩
  · have : n = 0 := by
      rcases Nat.eq_zero_or_pos n with h0 | h0
      · exact h0
      · have := Nat.mul_pos h0 hs; omega
    subst this
    exact .inl ⟨rfl, h2, a, c, rfl⟩
  · simp only [Value.slice.injEq] at hv
    obtain ⟨rfl, -, -⟩ := hv
    exact .inr ⟨b, off, c, l, T, fr, rfl, hb, by rw [← h1, Nat.mul_one], by rw [Nat.mul_one] at h2; exact h2, hc⟩
abbrev Reads (enc : TypeId × Value → H) (P : Program) (W : World) (fuel : Nat) (t : TypeId) (cs : List Value) (x : DataW H × List MemPlace) : Prop := DataW.trod enc P W 0 (fun _ => true) true fuel t cs = some x
theorem dec_int {t : TypeId} {fuel : Nat} {cs : List Value} {x : DataW H × List MemPlace} (ht : P.underlying t = some (.int .i64)) (h : Reads enc P W fuel t cs x) : ∃ n : Int, cs = [vint n] ∧ -9223372036854775808 ≤ n ∧ n ≤ 9223372036854775807 := by
  obtain ⟨n, rfl, -, hwf⟩ := DataW.trod_int ht h
  exact ⟨n, rfl, bounds_i64 hwf⟩
end
end Go.Proofs.YtidjhgbdokcphaaGreat

/- Own work: arguments of a bounded bulk (the second form's bound), decoded. -/
namespace Go.Proofs.YtidjhgbdokcphaaGreat
open Go Go.ChangeShapes Go.WideShapes Go.ChangeAt Go.RowKit

theorem bulk_pos {H : Type} (d : DataW H) : 1 ≤ Rows.uptoBulk d := by
  cases d with
  | lit l => cases l <;> simp [Rows.uptoBulk]
  | _ => simp [Rows.uptoBulk]
theorem bulk_part {H : Type} {d : DataW H} : ∀ {l : List (DataW H)}, d ∈ l → Rows.uptoBulk d ≤ Rows.uptoBulkAll l
  | x :: l, h => by
    unfold Rows.uptoBulkAll
    rcases List.mem_cons.1 h with rfl | h
    · omega
    · have := bulk_part h; omega
theorem bulk_count {H : Type} : ∀ l : List (DataW H), l.length ≤ Rows.uptoBulkAll l
  | [] => by simp
  | x :: l => by
    have h1 := bulk_pos x
    have h2 := bulk_count l
    unfold Rows.uptoBulkAll
    rw [List.length_cons]; omega
theorem bulk_sum {H : Type} : ∀ l : List (DataW H), (l.map Rows.uptoBulk).sum ≤ Rows.uptoBulkAll l
  | [] => by simp
  | x :: l => by
    have h2 := bulk_sum l
    unfold Rows.uptoBulkAll
    rw [List.map_cons, List.sum_cons]; omega
theorem bulk_small {H : Type} {l : List (DataW H)} (h : Rows.uptoSmall H l = true) {d : DataW H} (hd : d ∈ l) : Rows.uptoBulk d ≤ 1048576 :=
  Nat.le_trans (bulk_part hd) (of_decide_eq_true h)
instance : Inhabited Value := ⟨.bool false⟩
section
variable {H : Type} {enc : TypeId × Value → H} {P : Program} {W : World} {N : Nat}
theorem dec_int' {t : TypeId} {fuel : Nat} {cs : List Value} {x : DataW H × List MemPlace} (ht : P.underlying t = some (.int .i64)) (h : Reads enc P W fuel t cs x) : ∃ n : Int, cs = [vint n] ∧ (-9223372036854775808 ≤ n ∧ n ≤ 9223372036854775807) := by
  obtain ⟨n, h1, h2⟩ := dec_int ht h; exact ⟨n, h1, h2⟩
/-- The same, with each element's own bulk, and their sum. -/
theorem dec_sliceQV {Z : Type} [Inhabited Z] (toC : Z → List Value) (Q : Nat → Z → Prop) {t e : TypeId} {sz : Nat} {fuel : Nat} {cs : List Value} {x : DataW H × List MemPlace} (ht : P.underlying t = some (.slice e)) (hc : P.cellsOf e = sz) (hs : 0 < sz)
    (hdec : ∀ (n : Nat) (cs : List Value) (y : DataW H × List MemPlace), Reads enc P W n e cs y → ∃ z, cs = toC z ∧ Q (Rows.uptoBulk y.1) z) (h : Reads enc P W fuel t cs x) (hb : Rows.uptoBulk x.1 ≤ N + 1) :
    ∃ (z : Value × List Z) (ws : List Nat), cs = [z.1] ∧ (∀ h : Hp, Old W h → rdS sz h z.1 z.2.length (z.2.flatMap toC)) ∧ z.2.length ≤ N ∧ ws.length = z.2.length ∧ ws.sum ≤ N ∧ (∀ w ∈ ws, 1 ≤ w) ∧ ∀ i (h1 : i < z.2.length) (h2 : i < ws.length), Q ws[i] z.2[i] := by
  subst hc
  rcases Go.Deep.open_slice ht h with ⟨rfl, rfl⟩ | ⟨a, len, cap, m, n, Dd, Pl, rfl, -, hl, hm, hmm, rfl, hx⟩
  · exact ⟨(_, []), [], rfl, fun h _ => .inl ⟨rfl, rfl, none, 0, rfl⟩, by simp, rfl, by simp, (fun _ h => by cases h), (fun i h1 _ => by simp at h1)⟩
  · simp only [if_true] at hmm
    subst hmm
    have hbl : len ≤ N := by
      have := bulk_count ((List.range len).map Dd)
      simp only [Rows.uptoBulk] at hb
      rw [List.length_map, List.length_range] at this
      omega
    have hall : ((List.range len).map fun i => Rows.uptoBulk (Dd i)).sum ≤ N := by
      have := bulk_sum ((List.range len).map Dd)
      rw [List.map_map] at this
      simp only [Rows.uptoBulk] at hb
      have e : ((List.range len).map fun i => Rows.uptoBulk (Dd i)) = (List.range len).map (Rows.uptoBulk ∘ Dd) := rfl
      rw [e]; omega
    obtain ⟨Zf, hZ⟩ := Go.Deep.choose_lt (α := Z) (p := fun i z => W.cells? 0 (a.add (i * P.cellsOf e)) (P.cellsOf e) = some (toC z) ∧ Q (Rows.uptoBulk (Dd i)) z) (n := len) (fun i hi => by
      obtain ⟨cs', h1, h2⟩ := hx i (by omega)
      obtain ⟨z, rfl, h3⟩ := hdec _ _ _ h2
      exact ⟨z, h1, h3⟩)
    have hlenf : ∀ i, i < len → (toC (Zf i)).length = P.cellsOf e := fun i hi => (World.cells?_some (hZ i hi).1).2.1
    have hflat := flat_at (fun i => toC (Zf i)) len hlenf
    refine ⟨(_, (List.range len).map Zf), (List.range len).map fun i => Rows.uptoBulk (Dd i), rfl, ?_, ?_, by simp, hall, ?_, ?_⟩
    · intro h hold
      dsimp only
      rw [List.length_map, List.length_range]
      refine rdS_regroup (c1 := len * P.cellsOf e) ?_ hl hs
      have e1 : ((List.range len).map Zf).flatMap toC = (List.range (len * P.cellsOf e)).map (fun j => ((List.range len).flatMap fun i => toC (Zf i)).getD j (.bool false)) := by
        rw [List.flatMap_map]
        apply List.ext_getElem?
        intro j
        rcases Nat.lt_or_ge j (len * P.cellsOf e) with hj | hj
        · rw [List.getElem?_map, List.getElem?_range hj]
          have := (hflat j hj).2
          have hjl : j < ((List.range len).flatMap fun i => toC (Zf i)).length := by omega
          simp only [Option.map_some, List.getD_eq_getElem?_getD, List.getElem?_eq_getElem hjl, Option.getD_some]
        · have : ((List.range len).flatMap fun i => toC (Zf i)).length = len * P.cellsOf e := by
            rcases Nat.eq_zero_or_pos (len * P.cellsOf e) with h0 | h0
            · have : len = 0 := by
                rcases Nat.eq_zero_or_pos len with h1 | h1
                · exact h1
                · have := Nat.mul_pos h1 hs; omega
              subst this; simp
            · exact (hflat 0 h0).2
          rw [List.getElem?_eq_none (by omega), List.getElem?_eq_none (by simpa using hj)]
      rw [e1]
      refine old_rd (W := W) (fun j hj => ?_) (Nat.le_refl _) h hold
      have hi : j / P.cellsOf e < len := Nat.div_lt_of_lt_mul (by rw [Nat.mul_comm]; exact hj)
      have hcell := (World.cells?_some (hZ (j / P.cellsOf e) hi).1).2.2 (j % P.cellsOf e) (Nat.mod_lt _ hs)
      rw [Addr.add_add, Nat.mul_comm, Nat.div_add_mod] at hcell
      rw [hcell]
      obtain ⟨f1, f2⟩ := hflat j hj
      rw [List.getD_eq_getElem?_getD, f1]
      have : j % P.cellsOf e < (toC (Zf (j / P.cellsOf e))).length := by rw [hlenf _ hi]; exact Nat.mod_lt _ hs
      simp [this]
    · dsimp only; rw [List.length_map, List.length_range]; exact hbl
    · intro w hw
      obtain ⟨i, -, rfl⟩ := List.mem_map.1 hw
      exact bulk_pos _
    · intro i h1 h2
      simp only [List.getElem_map, List.getElem_range]
      exact (hZ i (by simpa using h1)).2
/-! ### With weights: what is read weighs no more than its bulk -/
theorem dec_strW {t : TypeId} {fuel : Nat} {cs : List Value} {x : DataW H × List MemPlace} (ht : P.underlying t = some .string) (h : Reads enc P W fuel t cs x) : ∃ s : List UInt8, cs = [vstr s] ∧ s.length + 1 ≤ Rows.uptoBulk x.1 := by
  obtain ⟨s, rfl, rfl, -⟩ := DataW.trod_string ht h
  exact ⟨s.data.toList, by rw [string_vstr], by simp [Rows.uptoBulk]⟩
theorem dec_intW {t : TypeId} {fuel : Nat} {cs : List Value} {x : DataW H × List MemPlace} (ht : P.underlying t = some (.int .i64)) (h : Reads enc P W fuel t cs x) : ∃ n : Int, cs = [vint n] ∧ (-9223372036854775808 ≤ n ∧ n ≤ 9223372036854775807) ∧ 1 ≤ Rows.uptoBulk x.1 := by
  obtain ⟨n, h1, h2⟩ := dec_int' ht h; exact ⟨n, h1, h2, bulk_pos _⟩
theorem slice_shape {t e : TypeId} {fuel : Nat} {v : Value} {x : DataW H × List MemPlace} (ht : P.underlying t = some (.slice e)) (h : Reads enc P W fuel t [v] x) : ∃ a n c, v = .slice a n c := by
  rcases Go.Deep.open_slice ht h with ⟨hv, -⟩ | ⟨a, len, cap, m, n, Dd, Pl, hv, -⟩
  · rw [List.cons.injEq] at hv; rw [hv.1]; exact ⟨_, _, _, rfl⟩
  · rw [List.cons.injEq] at hv; rw [hv.1]; exact ⟨_, _, _, rfl⟩
theorem sum_le {Z : Type} {m : Z → Nat} : ∀ {l : List Z} {ws : List Nat}, ws.length = l.length → (∀ i (h1 : i < l.length) (h2 : i < ws.length), m l[i] ≤ ws[i]) → (l.map m).sum ≤ ws.sum
  | [], _, _, _ => by simp
  | z :: l, [], h, _ => by simp at h
  | z :: l, w :: ws, h, hq => by
    have h0 := hq 0 (by simp) (by simp)
    have h1 := sum_le (l := l) (ws := ws) (m := m) (by simpa using h) (fun i h1 h2 => hq (i + 1) (by simpa using h1) (by simpa using h2))
    rw [List.map_cons, List.sum_cons, List.sum_cons]
    have h0' : m z ≤ w := h0
    omega
theorem dec_sliceW {Z : Type} [Inhabited Z] (toC : Z → List Value) (Q : Z → Prop) (m : Z → Nat) {t e : TypeId} {sz : Nat} {fuel : Nat} {cs : List Value} {x : DataW H × List MemPlace} (ht : P.underlying t = some (.slice e)) (hc : P.cellsOf e = sz) (hs : 0 < sz)
    (hdec : ∀ (n : Nat) (cs : List Value) (y : DataW H × List MemPlace), Reads enc P W n e cs y → ∃ z, cs = toC z ∧ Q z ∧ m z ≤ Rows.uptoBulk y.1) (h : Reads enc P W fuel t cs x) :
    ∃ z : Value × List Z, cs = [z.1] ∧ (∀ h : Hp, Old W h → rdS sz h z.1 z.2.length (z.2.flatMap toC)) ∧ (∀ y ∈ z.2, Q y) ∧ z.2.length + 1 ≤ Rows.uptoBulk x.1 ∧ 1 + (z.2.map m).sum ≤ Rows.uptoBulk x.1 := by
  have hp := bulk_pos x.1
  obtain ⟨z, ws, h1, h2, h3, h4, h5, -, h7⟩ := dec_sliceQV (N := Rows.uptoBulk x.1 - 1) toC (fun B z => Q z ∧ m z ≤ B) ht hc hs hdec h (by omega)
  refine ⟨z, h1, h2, fun y hy => ?_, by omega, ?_⟩
  · obtain ⟨i, hi, rfl⟩ := List.mem_iff_getElem.1 hy
    exact (h7 i hi (by omega)).1
  · have := sum_le (m := m) h4 (fun i g1 g2 => (h7 i g1 g2).2)
    omega
theorem rd_shape {sz n : Nat} {v : Value} {ys : List Value} (hr : ∀ h : Hp, Old W h → rdS sz h v n ys) : ∃ a c, v = .slice a n c := by
  have h := hr (fun b => if b < W.heap.size then W.heap[b]? else none) (fun b hb => if_pos hb)
  rcases h with ⟨rfl, -, a, c, rfl⟩ | ⟨b, off, cap, l, T, fr, rfl, -⟩
  · exact ⟨_, _, rfl⟩
  · exact ⟨_, _, rfl⟩
end
end Go.Proofs.YtidjhgbdokcphaaGreat

/- Own work, by program: arguments of law 09, decoded with their weights. -/
namespace Go.Proofs.YtidjhgbdokcphaaGreat
open Go Go.ChangeShapes Go.WideShapes Go.ChangeAt Go.RowKit
def mAc (a : Ac) : Nat := 3 + a.2.length
def mPt (y : Pt) : Nat := 9 + y.path.length + y.data.length + (y.acl.map mAc).sum
def mEn (e : En) : Nat := mPt e.x + (e.subs.map mPt).sum
structure PtQ (p : HP) (y : Pt) : Prop where
  kind : I64 y.kind
  own : I64 y.own
  num : I64 y.num
  err : I64 y.err
  acl : ∀ h : Hp, p h → rdS 2 h y.aclV y.acl.length (y.acl.flatMap acC)
  ash : ∃ a n c, y.aclV = .slice a n c
  ssh : ∃ a n c, y.subsV = .slice a n c
  each : ∀ a ∈ y.acl, I64 a.1
structure EnQ (p : HP) (e : En) : Prop where
  zx : I64 e.zx
  ses : I64 e.ses
  xid : I64 e.xid
  x : PtQ p e.x
  subs : ∀ h : Hp, p h → rdS 8 h e.x.subsV e.subs.length (e.subs.flatMap ptC)
  each : ∀ y ∈ e.subs, PtQ p y
theorem sum_mem {α : Type} {m : α → Nat} : ∀ {l : List α} {x : α}, x ∈ l → m x ≤ (l.map m).sum
  | y :: l, x, h => by
    rw [List.map_cons, List.sum_cons]
    rcases List.mem_cons.1 h with rfl | h
    · omega
    · have := sum_mem (m := m) h; omega
theorem sum_many {α : Type} {m : α → Nat} (hm : ∀ x, 1 ≤ m x) : ∀ l : List α, l.length ≤ (l.map m).sum
  | [] => by simp
  | y :: l => by have := sum_many hm l; have := hm y; rw [List.map_cons, List.sum_cons, List.length_cons]; omega
theorem fm_weigh {α : Type} {f : α → Bs} {m : α → Nat} : ∀ {l : List α}, (∀ x ∈ l, (f x).length ≤ 20 * m x) → (l.flatMap f).length ≤ 20 * (l.map m).sum
  | [], _ => by simp
  | y :: l, h => by
    have h1 := h y (List.mem_cons_self ..)
    have h2 := fm_weigh (l := l) (m := m) (f := f) (fun x hx => h x (List.mem_cons_of_mem _ hx))
    rw [List.flatMap_cons, List.length_append, List.map_cons, List.sum_cons]; omega
theorem cntB_len {n : Nat} (h : n < U64) : (cntB n).length ≤ 10 := sev_len10 h
theorem acB_weigh {a : Ac} (h : AcI a) : (acB a).length ≤ 20 * mAc a := by
  have h1 := numB_len h.n
  have h2 := cntB_len h.s
  unfold acB txtB mAc
  rw [List.length_append, List.length_append]; omega
theorem PtQ.i {p : HP} {y : Pt} (h : PtQ p y) (hm : mPt y ≤ 1048576) : PtI y := by
  unfold mPt at hm
  have hl := sum_many (m := mAc) (fun a => by unfold mAc; omega) y.acl
  have hu : (1048576 : Nat) < U64 := by decide
  refine ⟨h.kind, h.own, h.num, h.err, by omega, by omega, by omega, fun a ha => ⟨h.each a ha, ?_⟩⟩
  have h1 := sum_mem (m := mAc) ha
  have h2 : mAc a = 3 + a.2.length := rfl
  omega
theorem ptB_weigh {p : HP} {y : Pt} (h : PtQ p y) (hm : mPt y ≤ 1048576) : (ptB y).length ≤ 20 * mPt y := by
  have hi := h.i hm
  have h1 := numB_len h.kind
  have h2 := cntB_len hi.path
  have h3 := cntB_len hi.data
  have h4 := cntB_len hi.many
  have h5 := numB_len h.own
  have h6 := numB_len h.num
  have h7 := numB_len h.err
  have h8 := fm_weigh (f := acB) (m := mAc) (l := y.acl) (fun a ha => acB_weigh (hi.acl a ha))
  rw [ptB_len]
  unfold aclB mPt
  rw [List.length_append]
  simp only [List.flatMap_cons, List.flatMap_nil, List.length_append, List.length_nil]
  omega
theorem EnQ.X {p : HP} {e : En} (h : EnQ p e) (hm : mEn e ≤ 1048576) : EnX p e := by
  unfold mEn at hm
  have hx : mPt e.x ≤ 1048576 := by omega
  have hs : ∀ y ∈ e.subs, mPt y ≤ 1048576 := fun y hy => by have := sum_mem (m := mPt) hy; omega
  have hl := sum_many (m := mPt) (fun a => by unfold mPt; omega) e.subs
  have hu : (1048576 : Nat) < U64 := by decide
  have hal : ∀ y : Pt, mPt y ≤ 1048576 → y.acl.length ≤ 1048576 := fun y hy => by
    have := sum_many (m := mAc) (fun a => by unfold mAc; omega) y.acl
    unfold mPt at hy; omega
  have hc : ∀ y, PtQ p y → isCell y.aclV = true ∧ isCell y.subsV = true := fun y hy => by
    obtain ⟨a, n, c, g⟩ := hy.ash
    obtain ⟨a', n', c', g'⟩ := hy.ssh
    rw [g, g']; exact ⟨rfl, rfl⟩
  refine ⟨⟨⟨⟨h.zx, h.ses, h.xid, h.x.i hx, by omega, fun y hy => (h.each y hy).i (hs y hy)⟩, h.x.acl, h.subs, fun y hy => (h.each y hy).acl⟩, ?_, ⟨by omega, hal _ hx, fun y hy => hal y (hs y hy)⟩, hc _ h.x, fun y hy => hc y (h.each y hy)⟩, fun y hy => (h.each y hy).ssh⟩
  have h1 := numB_len h.zx
  have h2 := numB_len h.ses
  have h3 := numB_len h.xid
  have h4 := ptB_weigh h.x hx
  have h5 := fm_weigh (f := ptB) (m := mPt) (l := e.subs) (fun y hy => ptB_weigh (h.each y hy) (hs y hy))
  have h6 := cntB_len (n := e.subs.length) (by omega)
  rw [enB_len]
  unfold subsB
  rw [List.length_append]
  simp only [List.flatMap_cons, List.flatMap_nil, List.length_append, List.length_nil]
  omega
instance : Inhabited Pt := ⟨pt0⟩
instance : Inhabited En := ⟨en0⟩
set_option maxRecDepth 100000 in
theorem decAc {H : Type} {enc : TypeId × Value → H} {W : World} (n : Nat) (cs : List Value) (y : DataW H × List MemPlace) (h : Reads enc Tryz.prog W n 210 cs y) : ∃ a : Ac, cs = acC a ∧ I64 a.1 ∧ mAc a ≤ Rows.uptoBulk y.1 := by
  obtain ⟨xs, m, -, rfl, hlen, hxs, hf⟩ := DataW.trod_struct Tryz.underlying210 h
  rw [show Tryz.prog.cellsOf 210 = 2 by kernel_rfl] at hlen
  obtain ⟨a0, a1, rfl⟩ : ∃ a0 a1, cs = [a0, a1] := by
    match cs, hlen with
    | [a0, a1], _ => exact ⟨a0, a1, rfl⟩
  obtain ⟨y0, y1, rfl⟩ : ∃ y0 y1, xs = [y0, y1] := by
    match xs, hxs with
    | [y0, y1], _ => exact ⟨y0, y1, rfl⟩
  simp only [Rows.uptoBulk, Rows.uptoBulkAll, List.map_cons, List.map_nil]
  have g0 : Reads enc Tryz.prog W m 3 (([a0, a1] : List Value).drop 0 |>.take (Tryz.prog.cellsOf 3)) y0 := hf 0 _ rfl
  rw [show Tryz.prog.cellsOf 3 = 1 by kernel_rfl] at g0
  have p0 := bulk_pos y0.1
  obtain ⟨z0, e0, q0, r0⟩ := dec_intW Tryz.underlying3 g0
  try simp at e0
  have g1 : Reads enc Tryz.prog W m 9 (([a0, a1] : List Value).drop 1 |>.take (Tryz.prog.cellsOf 9)) y1 := hf 1 _ rfl
  rw [show Tryz.prog.cellsOf 9 = 1 by kernel_rfl] at g1
  have p1 := bulk_pos y1.1
  obtain ⟨z1, e1, r1⟩ := dec_strW Tryz.underlying9 g1
  try simp at e1
  subst e0
  subst e1
  exact ⟨(z0, z1), rfl, q0, by unfold mAc; dsimp only; omega⟩
set_option maxRecDepth 100000 in
theorem decPt {H : Type} {enc : TypeId × Value → H} {W : World} (n : Nat) (cs : List Value) (y : DataW H × List MemPlace) (h : Reads enc Tryz.prog W n 36 cs y) : ∃ y0 : Pt, cs = ptC y0 ∧ PtQ (Old W) y0 ∧ mPt y0 ≤ Rows.uptoBulk y.1 := by
  obtain ⟨xs, m, -, rfl, hlen, hxs, hf⟩ := DataW.trod_struct Tryz.underlying36 h
  rw [show Tryz.prog.cellsOf 36 = 8 by kernel_rfl] at hlen
  obtain ⟨a0, a1, a2, a3, a4, a5, a6, a7, rfl⟩ : ∃ a0 a1 a2 a3 a4 a5 a6 a7, cs = [a0, a1, a2, a3, a4, a5, a6, a7] := by
    match cs, hlen with
    | [a0, a1, a2, a3, a4, a5, a6, a7], _ => exact ⟨a0, a1, a2, a3, a4, a5, a6, a7, rfl⟩
  obtain ⟨y0, y1, y2, y3, y4, y5, y6, y7, rfl⟩ : ∃ y0 y1 y2 y3 y4 y5 y6 y7, xs = [y0, y1, y2, y3, y4, y5, y6, y7] := by
    match xs, hxs with
    | [y0, y1, y2, y3, y4, y5, y6, y7], _ => exact ⟨y0, y1, y2, y3, y4, y5, y6, y7, rfl⟩
  simp only [Rows.uptoBulk, Rows.uptoBulkAll, List.map_cons, List.map_nil]
  have g0 : Reads enc Tryz.prog W m 3 (([a0, a1, a2, a3, a4, a5, a6, a7] : List Value).drop 0 |>.take (Tryz.prog.cellsOf 3)) y0 := hf 0 _ rfl
  rw [show Tryz.prog.cellsOf 3 = 1 by kernel_rfl] at g0
  have p0 := bulk_pos y0.1
  obtain ⟨z0, e0, q0, r0⟩ := dec_intW Tryz.underlying3 g0
  try simp at e0
  have g1 : Reads enc Tryz.prog W m 9 (([a0, a1, a2, a3, a4, a5, a6, a7] : List Value).drop 1 |>.take (Tryz.prog.cellsOf 9)) y1 := hf 1 _ rfl
  rw [show Tryz.prog.cellsOf 9 = 1 by kernel_rfl] at g1
  have p1 := bulk_pos y1.1
  obtain ⟨z1, e1, r1⟩ := dec_strW Tryz.underlying9 g1
  try simp at e1
  have g2 : Reads enc Tryz.prog W m 9 (([a0, a1, a2, a3, a4, a5, a6, a7] : List Value).drop 2 |>.take (Tryz.prog.cellsOf 9)) y2 := hf 2 _ rfl
  rw [show Tryz.prog.cellsOf 9 = 1 by kernel_rfl] at g2
  have p2 := bulk_pos y2.1
  obtain ⟨z2, e2, r2⟩ := dec_strW Tryz.underlying9 g2
  try simp at e2
  have g3 : Reads enc Tryz.prog W m 33 (([a0, a1, a2, a3, a4, a5, a6, a7] : List Value).drop 3 |>.take (Tryz.prog.cellsOf 33)) y3 := hf 3 _ rfl
  rw [show Tryz.prog.cellsOf 33 = 1 by kernel_rfl] at g3
  have p3 := bulk_pos y3.1
  obtain ⟨⟨v3, l3⟩, e3, k3, q3, c3, r3⟩ := dec_sliceW acC (fun a => I64 a.1) mAc Tryz.underlying33 (show Tryz.prog.cellsOf 210 = 2 by kernel_rfl) (by decide) (fun n cs y h => decAc n cs y h) g3
  dsimp only at e3 k3 q3 c3 r3
  obtain ⟨sa3, sc3, hs3⟩ := rd_shape k3
  have sh3 : ∃ a n c, v3 = .slice a n c := ⟨_, _, _, hs3⟩
  try simp at e3
  have g4 : Reads enc Tryz.prog W m 3 (([a0, a1, a2, a3, a4, a5, a6, a7] : List Value).drop 4 |>.take (Tryz.prog.cellsOf 3)) y4 := hf 4 _ rfl
  rw [show Tryz.prog.cellsOf 3 = 1 by kernel_rfl] at g4
  have p4 := bulk_pos y4.1
  obtain ⟨z4, e4, q4, r4⟩ := dec_intW Tryz.underlying3 g4
  try simp at e4
  have g5 : Reads enc Tryz.prog W m 3 (([a0, a1, a2, a3, a4, a5, a6, a7] : List Value).drop 5 |>.take (Tryz.prog.cellsOf 3)) y5 := hf 5 _ rfl
  rw [show Tryz.prog.cellsOf 3 = 1 by kernel_rfl] at g5
  have p5 := bulk_pos y5.1
  obtain ⟨z5, e5, q5, r5⟩ := dec_intW Tryz.underlying3 g5
  try simp at e5
  have g6 : Reads enc Tryz.prog W m 25 (([a0, a1, a2, a3, a4, a5, a6, a7] : List Value).drop 6 |>.take (Tryz.prog.cellsOf 25)) y6 := hf 6 _ rfl
  rw [show Tryz.prog.cellsOf 25 = 1 by kernel_rfl] at g6
  have p6 := bulk_pos y6.1
  obtain ⟨z6, e6, q6, r6⟩ := dec_intW Tryz.underlying25 g6
  try simp at e6
  have g7 : Reads enc Tryz.prog W m 34 (([a0, a1, a2, a3, a4, a5, a6, a7] : List Value).drop 7 |>.take (Tryz.prog.cellsOf 34)) y7 := hf 7 _ rfl
  rw [show Tryz.prog.cellsOf 34 = 1 by kernel_rfl] at g7
  have p7 := bulk_pos y7.1
  obtain ⟨z7, e7, s7⟩ : ∃ z : Value, a7 = z ∧ ∃ a n c, z = .slice a n c := ⟨_, rfl, slice_shape Tryz.underlying34 g7⟩
  try simp at e7
  subst e0
  subst e1
  subst e2
  subst e3
  subst e4
  subst e5
  subst e6
  subst e7
  exact ⟨⟨z0, z1, z2, a3, l3, z4, z5, z6, a7⟩, rfl, ⟨q0, q4, q5, q6, k3, sh3, s7, q3⟩, by unfold mPt; dsimp only; omega⟩
set_option maxRecDepth 100000 in
theorem decPtD {H : Type} {enc : TypeId × Value → H} {W : World} (n : Nat) (cs : List Value) (y : DataW H × List MemPlace) (h : Reads enc Tryz.prog W n 36 cs y) : ∃ (y0 : Pt) (l : List Pt), cs = ptC y0 ∧ PtQ (Old W) y0 ∧ (∀ h : Hp, Old W h → rdS 8 h y0.subsV l.length (l.flatMap ptC)) ∧ (∀ q ∈ l, PtQ (Old W) q) ∧ mPt y0 + (l.map mPt).sum ≤ Rows.uptoBulk y.1 := by
  obtain ⟨xs, m, -, rfl, hlen, hxs, hf⟩ := DataW.trod_struct Tryz.underlying36 h
  rw [show Tryz.prog.cellsOf 36 = 8 by kernel_rfl] at hlen
  obtain ⟨a0, a1, a2, a3, a4, a5, a6, a7, rfl⟩ : ∃ a0 a1 a2 a3 a4 a5 a6 a7, cs = [a0, a1, a2, a3, a4, a5, a6, a7] := by
    match cs, hlen with
    | [a0, a1, a2, a3, a4, a5, a6, a7], _ => exact ⟨a0, a1, a2, a3, a4, a5, a6, a7, rfl⟩
  obtain ⟨y0, y1, y2, y3, y4, y5, y6, y7, rfl⟩ : ∃ y0 y1 y2 y3 y4 y5 y6 y7, xs = [y0, y1, y2, y3, y4, y5, y6, y7] := by
    match xs, hxs with
    | [y0, y1, y2, y3, y4, y5, y6, y7], _ => exact ⟨y0, y1, y2, y3, y4, y5, y6, y7, rfl⟩
  simp only [Rows.uptoBulk, Rows.uptoBulkAll, List.map_cons, List.map_nil]
  have g0 : Reads enc Tryz.prog W m 3 (([a0, a1, a2, a3, a4, a5, a6, a7] : List Value).drop 0 |>.take (Tryz.prog.cellsOf 3)) y0 := hf 0 _ rfl
  rw [show Tryz.prog.cellsOf 3 = 1 by kernel_rfl] at g0
  have p0 := bulk_pos y0.1
  obtain ⟨z0, e0, q0, r0⟩ := dec_intW Tryz.underlying3 g0
  try simp at e0
  have g1 : Reads enc Tryz.prog W m 9 (([a0, a1, a2, a3, a4, a5, a6, a7] : List Value).drop 1 |>.take (Tryz.prog.cellsOf 9)) y1 := hf 1 _ rfl
  rw [show Tryz.prog.cellsOf 9 = 1 by kernel_rfl] at g1
  have p1 := bulk_pos y1.1
  obtain ⟨z1, e1, r1⟩ := dec_strW Tryz.underlying9 g1
  try simp at e1
  have g2 : Reads enc Tryz.prog W m 9 (([a0, a1, a2, a3, a4, a5, a6, a7] : List Value).drop 2 |>.take (Tryz.prog.cellsOf 9)) y2 := hf 2 _ rfl
  rw [show Tryz.prog.cellsOf 9 = 1 by kernel_rfl] at g2
  have p2 := bulk_pos y2.1
  obtain ⟨z2, e2, r2⟩ := dec_strW Tryz.underlying9 g2
  try simp at e2
  have g3 : Reads enc Tryz.prog W m 33 (([a0, a1, a2, a3, a4, a5, a6, a7] : List Value).drop 3 |>.take (Tryz.prog.cellsOf 33)) y3 := hf 3 _ rfl
  rw [show Tryz.prog.cellsOf 33 = 1 by kernel_rfl] at g3
  have p3 := bulk_pos y3.1
  obtain ⟨⟨v3, l3⟩, e3, k3, q3, c3, r3⟩ := dec_sliceW acC (fun a => I64 a.1) mAc Tryz.underlying33 (show Tryz.prog.cellsOf 210 = 2 by kernel_rfl) (by decide) (fun n cs y h => decAc n cs y h) g3
  dsimp only at e3 k3 q3 c3 r3
  obtain ⟨sa3, sc3, hs3⟩ := rd_shape k3
  have sh3 : ∃ a n c, v3 = .slice a n c := ⟨_, _, _, hs3⟩
  try simp at e3
  have g4 : Reads enc Tryz.prog W m 3 (([a0, a1, a2, a3, a4, a5, a6, a7] : List Value).drop 4 |>.take (Tryz.prog.cellsOf 3)) y4 := hf 4 _ rfl
  rw [show Tryz.prog.cellsOf 3 = 1 by kernel_rfl] at g4
  have p4 := bulk_pos y4.1
  obtain ⟨z4, e4, q4, r4⟩ := dec_intW Tryz.underlying3 g4
  try simp at e4
  have g5 : Reads enc Tryz.prog W m 3 (([a0, a1, a2, a3, a4, a5, a6, a7] : List Value).drop 5 |>.take (Tryz.prog.cellsOf 3)) y5 := hf 5 _ rfl
  rw [show Tryz.prog.cellsOf 3 = 1 by kernel_rfl] at g5
  have p5 := bulk_pos y5.1
  obtain ⟨z5, e5, q5, r5⟩ := dec_intW Tryz.underlying3 g5
  try simp at e5
  have g6 : Reads enc Tryz.prog W m 25 (([a0, a1, a2, a3, a4, a5, a6, a7] : List Value).drop 6 |>.take (Tryz.prog.cellsOf 25)) y6 := hf 6 _ rfl
  rw [show Tryz.prog.cellsOf 25 = 1 by kernel_rfl] at g6
  have p6 := bulk_pos y6.1
  obtain ⟨z6, e6, q6, r6⟩ := dec_intW Tryz.underlying25 g6
  try simp at e6
  have g7 : Reads enc Tryz.prog W m 34 (([a0, a1, a2, a3, a4, a5, a6, a7] : List Value).drop 7 |>.take (Tryz.prog.cellsOf 34)) y7 := hf 7 _ rfl
  rw [show Tryz.prog.cellsOf 34 = 1 by kernel_rfl] at g7
  have p7 := bulk_pos y7.1
  obtain ⟨⟨v7, l7⟩, e7, k7, q7, c7, r7⟩ := dec_sliceW ptC (fun q => PtQ (Old W) q) mPt Tryz.underlying34 (show Tryz.prog.cellsOf 36 = 8 by kernel_rfl) (by decide) (fun n cs y h => decPt n cs y h) g7
  dsimp only at e7 k7 q7 c7 r7
  obtain ⟨sa7, sc7, hs7⟩ := rd_shape k7
  have sh7 : ∃ a n c, v7 = .slice a n c := ⟨_, _, _, hs7⟩
  try simp at e7
  subst e0
  subst e1
  subst e2
  subst e3
  subst e4
  subst e5
  subst e6
  subst e7
  exact ⟨⟨z0, z1, z2, a3, l3, z4, z5, z6, a7⟩, l7, rfl, ⟨q0, q4, q5, q6, k3, sh3, sh7, q3⟩, k7, q7, by unfold mPt; dsimp only; unfold mPt at r7; omega⟩
set_option maxRecDepth 100000 in
theorem decEn {H : Type} {enc : TypeId × Value → H} {W : World} (n : Nat) (cs : List Value) (y : DataW H × List MemPlace) (h : Reads enc Tryz.prog W n 38 cs y) : ∃ e : En, cs = enC e ∧ EnQ (Old W) e ∧ mEn e ≤ Rows.uptoBulk y.1 := by
  obtain ⟨xs, m, -, rfl, hlen, hxs, hf⟩ := DataW.trod_struct Tryz.underlying38 h
  rw [show Tryz.prog.cellsOf 38 = 11 by kernel_rfl] at hlen
  obtain ⟨a0, a1, a2, a3, a4, a5, a6, a7, a8, a9, a10, rfl⟩ : ∃ a0 a1 a2 a3 a4 a5 a6 a7 a8 a9 a10, cs = [a0, a1, a2, a3, a4, a5, a6, a7, a8, a9, a10] := by
    match cs, hlen with
    | [a0, a1, a2, a3, a4, a5, a6, a7, a8, a9, a10], _ => exact ⟨a0, a1, a2, a3, a4, a5, a6, a7, a8, a9, a10, rfl⟩
  obtain ⟨y0, y1, y2, y3, rfl⟩ : ∃ y0 y1 y2 y3, xs = [y0, y1, y2, y3] := by
    match xs, hxs with
    | [y0, y1, y2, y3], _ => exact ⟨y0, y1, y2, y3, rfl⟩
  simp only [Rows.uptoBulk, Rows.uptoBulkAll, List.map_cons, List.map_nil]
  have g0 : Reads enc Tryz.prog W m 3 (([a0, a1, a2, a3, a4, a5, a6, a7, a8, a9, a10] : List Value).drop 0 |>.take (Tryz.prog.cellsOf 3)) y0 := hf 0 _ rfl
  rw [show Tryz.prog.cellsOf 3 = 1 by kernel_rfl] at g0
  have p0 := bulk_pos y0.1
  obtain ⟨z0, e0, q0, r0⟩ := dec_intW Tryz.underlying3 g0
  try simp at e0
  have g1 : Reads enc Tryz.prog W m 3 (([a0, a1, a2, a3, a4, a5, a6, a7, a8, a9, a10] : List Value).drop 1 |>.take (Tryz.prog.cellsOf 3)) y1 := hf 1 _ rfl
  rw [show Tryz.prog.cellsOf 3 = 1 by kernel_rfl] at g1
  have p1 := bulk_pos y1.1
  obtain ⟨z1, e1, q1, r1⟩ := dec_intW Tryz.underlying3 g1
  try simp at e1
  have g2 : Reads enc Tryz.prog W m 3 (([a0, a1, a2, a3, a4, a5, a6, a7, a8, a9, a10] : List Value).drop 2 |>.take (Tryz.prog.cellsOf 3)) y2 := hf 2 _ rfl
  rw [show Tryz.prog.cellsOf 3 = 1 by kernel_rfl] at g2
  have p2 := bulk_pos y2.1
  obtain ⟨z2, e2, q2, r2⟩ := dec_intW Tryz.underlying3 g2
  try simp at e2
  have g3 : Reads enc Tryz.prog W m 36 (([a0, a1, a2, a3, a4, a5, a6, a7, a8, a9, a10] : List Value).drop 3 |>.take (Tryz.prog.cellsOf 36)) y3 := hf 3 _ rfl
  rw [show Tryz.prog.cellsOf 36 = 8 by kernel_rfl] at g3
  have p3 := bulk_pos y3.1
  obtain ⟨z3, l3, e3, q3, k3, s3, r3⟩ := decPtD _ _ _ g3
  try simp [ptC, enC] at e3
  subst e0
  subst e1
  subst e2
  obtain ⟨rfl, rfl, rfl, rfl, rfl, rfl, rfl, rfl⟩ := e3
  exact ⟨⟨z0, z1, z2, z3, l3⟩, rfl, ⟨q0, q1, q2, q3, k3, s3⟩, by unfold mEn; dsimp only; omega⟩
end Go.Proofs.YtidjhgbdokcphaaGreat

/- Own work, by program: scripts of law 09, decoded. -/
namespace Go.Proofs.YtidjhgbdokcphaaGreat
open Go Go.ChangeShapes Go.WideShapes Go.ChangeAt Go.RowKit
def Ints9 (p : HP) (v : Value) (l : List Int) : Prop := (∀ h : Hp, p h → rdS 1 h v l.length (ints l)) ∧ (∀ z ∈ l, I64 z) ∧ l.length ≤ 1048576
theorem fm_ints (l : List Int) : (l.flatMap fun z => [vint z]) = ints l := by
  induction l with
  | nil => rfl
  | cons z l ih => rw [List.flatMap_cons, ih]; rfl
theorem dec_ints9 {H : Type} {enc : TypeId × Value → H} {W : World} {fuel : Nat} {cs : List Value} {x : DataW H × List MemPlace} (h : Reads enc Tryz.prog W fuel 31 cs x) (hb : Rows.uptoBulk x.1 ≤ 1048576) : ∃ (v : Value) (l : List Int), cs = [v] ∧ Ints9 (Old W) v l := by
  obtain ⟨⟨v, l⟩, h1, h2, h3, h4, h5⟩ := dec_sliceW (fun z => [vint z]) (fun z => I64 z) (fun _ => 1) Tryz.underlying31 (show Tryz.prog.cellsOf 3 = 1 by kernel_rfl) (by decide) (fun n cs y h => dec_intW Tryz.underlying3 h) h
  dsimp only at h1 h2 h3 h4 h5
  exact ⟨v, l, h1, fun h hp => by rw [← fm_ints]; exact h2 h hp, h3, by omega⟩
instance : Inhabited Op9 := ⟨⟨0, 0, 0, en0, nilV, [], [], nilV, []⟩⟩
set_option maxRecDepth 100000 in
theorem decOp {H : Type} {enc : TypeId × Value → H} {W : World} (n : Nat) (cs : List Value) (y : DataW H × List MemPlace) (h : Reads enc Tryz.prog W n 73 cs y) : ∃ o : Op9, cs = op9C o ∧ (Rows.uptoBulk y.1 ≤ 1048576 → Op9A (Old W) o) := by
  obtain ⟨xs, m, -, rfl, hlen, hxs, hf⟩ := DataW.trod_struct Tryz.underlying73 h
  rw [show Tryz.prog.cellsOf 73 = 17 by kernel_rfl] at hlen
  obtain ⟨a0, a1, a2, a3, a4, a5, a6, a7, a8, a9, a10, a11, a12, a13, a14, a15, a16, rfl⟩ : ∃ a0 a1 a2 a3 a4 a5 a6 a7 a8 a9 a10 a11 a12 a13 a14 a15 a16, cs = [a0, a1, a2, a3, a4, a5, a6, a7, a8, a9, a10, a11, a12, a13, a14, a15, a16] := by
    match cs, hlen with
    | [a0, a1, a2, a3, a4, a5, a6, a7, a8, a9, a10, a11, a12, a13, a14, a15, a16], _ => exact ⟨a0, a1, a2, a3, a4, a5, a6, a7, a8, a9, a10, a11, a12, a13, a14, a15, a16, rfl⟩
  obtain ⟨y0, y1, y2, y3, y4, y5, y6, rfl⟩ : ∃ y0 y1 y2 y3 y4 y5 y6, xs = [y0, y1, y2, y3, y4, y5, y6] := by
    match xs, hxs with
    | [y0, y1, y2, y3, y4, y5, y6], _ => exact ⟨y0, y1, y2, y3, y4, y5, y6, rfl⟩
  simp only [Rows.uptoBulk, Rows.uptoBulkAll, List.map_cons, List.map_nil]
  have g0 : Reads enc Tryz.prog W m 3 (([a0, a1, a2, a3, a4, a5, a6, a7, a8, a9, a10, a11, a12, a13, a14, a15, a16] : List Value).drop 0 |>.take (Tryz.prog.cellsOf 3)) y0 := hf 0 _ rfl
  rw [show Tryz.prog.cellsOf 3 = 1 by kernel_rfl] at g0
  have p0 := bulk_pos y0.1
  obtain ⟨z0, e0, q0, r0⟩ := dec_intW Tryz.underlying3 g0
  try simp at e0
  have g1 : Reads enc Tryz.prog W m 3 (([a0, a1, a2, a3, a4, a5, a6, a7, a8, a9, a10, a11, a12, a13, a14, a15, a16] : List Value).drop 1 |>.take (Tryz.prog.cellsOf 3)) y1 := hf 1 _ rfl
  rw [show Tryz.prog.cellsOf 3 = 1 by kernel_rfl] at g1
  have p1 := bulk_pos y1.1
  obtain ⟨z1, e1, q1, r1⟩ := dec_intW Tryz.underlying3 g1
  try simp at e1
  have g2 : Reads enc Tryz.prog W m 3 (([a0, a1, a2, a3, a4, a5, a6, a7, a8, a9, a10, a11, a12, a13, a14, a15, a16] : List Value).drop 2 |>.take (Tryz.prog.cellsOf 3)) y2 := hf 2 _ rfl
  rw [show Tryz.prog.cellsOf 3 = 1 by kernel_rfl] at g2
  have p2 := bulk_pos y2.1
  obtain ⟨z2, e2, q2, r2⟩ := dec_intW Tryz.underlying3 g2
  try simp at e2
  have g3 : Reads enc Tryz.prog W m 38 (([a0, a1, a2, a3, a4, a5, a6, a7, a8, a9, a10, a11, a12, a13, a14, a15, a16] : List Value).drop 3 |>.take (Tryz.prog.cellsOf 38)) y3 := hf 3 _ rfl
  rw [show Tryz.prog.cellsOf 38 = 11 by kernel_rfl] at g3
  have p3 := bulk_pos y3.1
  obtain ⟨z3, e3, q3, r3⟩ := decEn _ _ _ g3
  try simp [ptC, enC] at e3
  have g4 : Reads enc Tryz.prog W m 22 (([a0, a1, a2, a3, a4, a5, a6, a7, a8, a9, a10, a11, a12, a13, a14, a15, a16] : List Value).drop 14 |>.take (Tryz.prog.cellsOf 22)) y4 := hf 4 _ rfl
  rw [show Tryz.prog.cellsOf 22 = 1 by kernel_rfl] at g4
  have p4 := bulk_pos y4.1
  obtain ⟨⟨v4, l4⟩, e4, k4, q4, c4, r4⟩ := dec_sliceW enC (fun e => EnQ (Old W) e) mEn Tryz.underlying22 (show Tryz.prog.cellsOf 38 = 11 by kernel_rfl) (by decide) (fun n cs y h => decEn n cs y h) g4
  dsimp only at e4 k4 q4 c4 r4
  have ck4 : isCell v4 = true := by obtain ⟨sa, sc, hs⟩ := rd_shape k4; rw [hs]; rfl
  try simp at e4
  have g5 : Reads enc Tryz.prog W m 9 (([a0, a1, a2, a3, a4, a5, a6, a7, a8, a9, a10, a11, a12, a13, a14, a15, a16] : List Value).drop 15 |>.take (Tryz.prog.cellsOf 9)) y5 := hf 5 _ rfl
  rw [show Tryz.prog.cellsOf 9 = 1 by kernel_rfl] at g5
  have p5 := bulk_pos y5.1
  obtain ⟨z5, e5, r5⟩ := dec_strW Tryz.underlying9 g5
  try simp at e5
  have g6 : Reads enc Tryz.prog W m 31 (([a0, a1, a2, a3, a4, a5, a6, a7, a8, a9, a10, a11, a12, a13, a14, a15, a16] : List Value).drop 16 |>.take (Tryz.prog.cellsOf 31)) y6 := hf 6 _ rfl
  rw [show Tryz.prog.cellsOf 31 = 1 by kernel_rfl] at g6
  have p6 := bulk_pos y6.1
  obtain ⟨⟨v6, l6⟩, e6, k6, q6, c6, r6⟩ := dec_sliceW (fun z => [vint z]) (fun z => I64 z) (fun _ => 1) Tryz.underlying31 (show Tryz.prog.cellsOf 3 = 1 by kernel_rfl) (by decide) (fun n cs y h => dec_intW Tryz.underlying3 h) g6
  dsimp only at e6 k6 q6 c6 r6
  have ck6 : isCell v6 = true := by obtain ⟨sa, sc, hs⟩ := rd_shape k6; rw [hs]; rfl
  try simp at e6
  subst e0
  subst e1
  subst e2
  obtain ⟨rfl, rfl, rfl, rfl, rfl, rfl, rfl, rfl, rfl, rfl, rfl⟩ := e3
  subst e4
  subst e5
  subst e6
  exact ⟨⟨z0, z1, z2, z3, a14, l4, z5, a16, l6⟩, rfl, fun hb => ⟨q0, q1, q2, q3.X (by omega), k4, by dsimp only; omega, fun e he => (q4 e he).X (by have := sum_mem (m := mEn) (l := l4) he; omega), by dsimp only; omega, fun h hp => by rw [← fm_ints]; exact k6 h hp, q6, ck4, ck6⟩⟩
theorem sum_at {l : List Nat} {i : Nat} (h : i < l.length) : l[i] ≤ l.sum := by
  have := sum_mem (m := id) (l := l) (List.getElem_mem h)
  simpa using this
theorem dec_ops9 {H : Type} {enc : TypeId × Value → H} {W : World} {fuel : Nat} {cs : List Value} {x : DataW H × List MemPlace} (h : Reads enc Tryz.prog W fuel 71 cs x) (hb : Rows.uptoBulk x.1 ≤ 1048576) : ∃ (v : Value) (xs : List Op9), cs = [v] ∧ Ops9 (Old W) v xs := by
  obtain ⟨⟨v, xs⟩, ws, h1, h2, h3, h4, h5, -, h7⟩ := dec_sliceQV (N := 1048576) op9C (fun B o => B ≤ 1048576 → Op9A (Old W) o) Tryz.underlying71 (show Tryz.prog.cellsOf 73 = 17 by kernel_rfl) (by decide) (fun n cs y h => decOp n cs y h) h (by omega)
  dsimp only at h1 h2 h3 h4 h7
  refine ⟨v, xs, h1, h2, h3, fun o ho => ?_⟩
  obtain ⟨i, hi, rfl⟩ := List.mem_iff_getElem.1 ho
  have hw : i < ws.length := by omega
  exact h7 i hi hw (Nat.le_trans (sum_at hw) h5)
end Go.Proofs.YtidjhgbdokcphaaGreat

/- Own work: ledgerEpochs: the walk, brought to the given second form and its card. -/

namespace Go.Proofs.YtidjhgbdokcphaaGreat.ledgerEpochs
open Go Go.ChangeShapes Go.WideShapes Go.ChangeAt Go.RowKit
theorem own : ownKnob Tryz.prog.godebug = none := by kernel_rfl
theorem laid : laidOutB Tryz.prog = true := by kernel_rfl
theorem readable : ∀ t ∈ Tryz.f6.params.toList, Tryz.prog.readableRec t = true ∧ t < Tryz.prog.types.size := by
  have h : (Tryz.f6.params.toList.all fun t => Tryz.prog.readableRec t && decide (t < Tryz.prog.types.size)) = true := by kernel_rfl
  intro t ht
  simpa using List.all_eq_true.1 h t ht
set_option maxRecDepth 100000 in
theorem contract (H : Type) (enc : TypeId × Value → H) (W : World) (base : Nat) (args : Array Value) (ds gs : List (DataW H)) (before : List MemPlace)
    (hval : ∀ (j : Nat) t v, Tryz.f6.params[j]? = some t → args[j]? = some v → Value.okWide Tryz.prog W .any base t v)
    (hW : DataW.Whole enc Tryz.prog Tryz.f6.params.toList Rows.ledgerEpochsSpec.vars false W args.toList ds gs before) (hk : Rows.uptoSmall H (ds ++ gs) = true) :
    Calls Tryz.prog 6 args W fun e W' => ∃ v, e = .returned v ∧ Rows.ledgerEpochsSpec.post enc Tryz.prog Tryz.f6 false true false false W args v W' := by
  have hW' := hW
  obtain ⟨p, q, hA, hV, rfl, hfz, hnd⟩ := hW
  obtain ⟨rfl, -⟩ := trodVars_none hV
  rw [List.append_nil] at hk
  have hpar : Tryz.f6.params = #[71, 31] := Tryz.params6
  rw [hpar] at hval
  have hA' := hA
  rw [hpar] at hA'
  obtain ⟨v0, vs0, d0, ds0, p0, r0, ha0, rfl, rfl, h0, t0⟩ := trodAll_cons hA'
  obtain ⟨v1, vs1, d1, ds1, p1, r1, ha1, rfl, rfl, h1, t1⟩ := trodAll_cons t0
  obtain ⟨hv, rfl, rfl⟩ := trodAll_nil t1
  obtain rfl : args = #[v0, v1] := by
    have e : args.toList = [v0, v1] := by rw [ha0, ha1, hv]
    cases args; simp_all
  have b0 := bulk_small hk (d := d0) (by simp)
  obtain ⟨ad0, nn0, cp0, rfl⟩ := okWide_slice Tryz.underlying71 (hval 0 _ _ rfl rfl)
  obtain ⟨fu0, g0⟩ := h0
  obtain ⟨v0, xs0, e0, q0⟩ := dec_ops9 g0 b0
  simp [Value.cells] at e0
  subst e0
  have b1 := bulk_small hk (d := d1) (by simp)
  obtain ⟨ad1, nn1, cp1, rfl⟩ := okWide_slice Tryz.underlying31 (hval 1 _ _ rfl rfl)
  obtain ⟨fu1, g1⟩ := h1
  obtain ⟨v1, xs1, e1, q1⟩ := dec_ints9 g1 b1
  simp [Value.cells] at e1
  subst e1
  refine (old_calls (ledgerEpochs_spec _ _ xs0 xs1 (Old W) q0 q1.1 q1.2.1)).mono fun e W' ⟨he, hb⟩ => ⟨_, he, ?_⟩
  exact settled hW' rfl (fun gs' h => by subst h; rfl) rfl Tryz.underlying4 laid readable hb
set_option maxRecDepth 100000 in
theorem lifted (os : Os) (started : os.Started) (H : Type) (enc : TypeId × Value → H) (F : Stop.Interp) :
    ReturnsInHanded {} Tryz.checked os 6 .any ((Rows.OpenSpec.upto Rows.ledgerEpochsSpec).pre6 enc Tryz.prog Tryz.f6 Rows.ledgerEpochsUptoRow.domain false) (((Rows.OpenSpec.upto Rows.ledgerEpochsSpec).at F).post enc Tryz.prog Tryz.f6 false true false false) := by
  refine returnsInHanded_of_cond (C := Tryz.checked) (s := Rows.OpenSpec.upto Rows.ledgerEpochsSpec) (k := Rows.uptoSmall) rfl own started (by kernel_rfl) Tryz.func6
    (OpenSpec.witness (enc := enc) (C := Tryz.checked) (s := Rows.OpenSpec.upto Rows.ledgerEpochsSpec) (k := Rows.uptoSmall) rfl false ⟨#[], #[.slice none 0 0, .slice none 0 0], []⟩ 8 (by kernel_rfl) (by kernel_rfl) (by kernel_rfl)
      (x := ([.nil, .nil], [], [])) (by kernel_rfl) rfl (by kernel_rfl)) ?_
  intro W base args ds gs before hval hW _ hk _
  exact contract H enc W base args ds gs before hval hW hk
theorem proved : Rows.LedgerEpochsUptoSaid :=
  OpenClaim.holds_of_cond 6 Tryz.f6 rfl rfl rfl rfl rfl rfl rfl ⟨rfl, rfl, rfl, rfl, rfl⟩ rfl rfl rfl rfl rfl (by kernel_rfl) Tryz.func6 (by kernel_rfl)
    (of_decide_eq_true (by kernel_rfl)) (by unfold Func.isWrapper; first | (rw [if_pos (by decide +kernel)]; kernel_rfl) | (rw [if_neg (by decide +kernel)]; exact ⟨rfl, rfl⟩))
    (fun os started H enc _ F => lifted os started H enc F)
end Go.Proofs.YtidjhgbdokcphaaGreat.ledgerEpochs

