/- Own work, some of it printed by program, texts that were built one by one and are laid one behind the other here: package ledger: Cut, Install, Compact: walked. | parts of slices; a ledger that is being made. | package ledger: renew, Compact, Install: walked. | scripts of law 09: plain. | LedgerMarks: walked. | a formatted ledger, and what opens behind a crash: plain. | what a ledger tells, in memory: plain. | same, told, equal: walked. | pick, text, does; LedgerEpochs: walked. | scripts on a disk that lives; how marks are counted: plain. | LedgerCuts: plain. | LedgerLasts: what dies, what lasts: plain. | LedgerLasts: what a call that was answered lets last: plain. | LedgerLasts: what is told behind a crash: plain. -/
import Derived.Test.YtidjhgbdokcphaaGreatCLLastsP3
set_option linter.unusedSimpArgs false
set_option linter.unusedVariables false
set_option maxRecDepth 100000
/- Own work, by program: package ledger: Cut, Install, Compact: walked. -/
namespace Go.Proofs.YtidjhgbdokcphaaGreat
open Go
theorem cloneI_spec (v : Value) (n : Nat) (xs : List Value) (p : HP) (hr : ∀ h : Hp, p h → rdS 1 h v n xs) (hc : ∀ y ∈ xs, isCell y = true) (hb : n ≤ 4294967296) : Fn Tryz.prog 181 #[v] [p] fun u L => (∃ a c, u = .slice a n c) ∧ L = [slR 3 1 u n xs, p] := by
 refine Fn.intro (vs := [v]) Tryz.func181 rfl rfl ?_
 intro F W
 refine G.rdAny (p := p) hr (by (repeat' constructor)) fun aa ca e hlen => ?_
 subst e
 refine G.seq (G.region (G.ag rfl rfl (G.nil (G.then_n (G.seq (G.seq (G.region (G.mv rfl rfl ?_))))))))
 rcases aa with _ | aa
 ·refine G.q (Quiet.sleq rfl rfl Tryz.underlying31) rfl (G.nil (G.then_n (G.condT rfl (G.seq (G.region (G.ag rfl rfl (G.nil (G.then_n (G.ret (G.then_r ?_))))))))))
  refine G.nilEmpty (p := p) hr (by (repeat' constructor)) fun e1 e2 => ?_
  subst e1; subst e2
  refine G.add (slR_nil 3 1) ?_
  exact G.dn (l := [.tmp 2]) rfl rfl ⟨⟨_, _, rfl⟩, rfl⟩
 ·refine G.q (Quiet.sleq rfl rfl Tryz.underlying31) rfl (G.nil (G.then_n (G.condF rfl (G.skip (G.then_n (G.seq (G.region ?_)))))))
  refine G.oq (OpSpec.buildSlice1 (vs := []) el_31 ze_3 rfl rfl rfl rfl rfl (by decide)) ?nx6
  rintro v L' ⟨b0, rfl, rfl⟩
  refine G.mv rfl rfl ?_
  refine G.slMake (n := 0) (c := 0) (xs := []) (b := b0) (by (repeat' constructor)) (Nat.le_refl _) (Nat.zero_le _) rfl ?_
  refine G.oq (OpSpec.append (n := 0) (m := n) (xs := []) (ys := xs) (p := p) rfl rfl rfl el_31 (.inl ⟨_, Tryz.underlying31⟩) ze_3 rfl rfl ?hc9 ?hr10 ?hb11 (by decide)) ?nx12
  case hc9 => exact hc
  case hr10 => exact hr
  case hb11 => omega
  rintro v L' ⟨⟨a1, c1, rfl⟩, rfl⟩; rw [Nat.zero_add, List.nil_append]
  refine G.ag rfl rfl (G.nil (G.then_n (G.ret ?_)))
  exact G.dn (l := [.tmp 2]) rfl rfl ⟨⟨_, _, rfl⟩, rfl⟩

theorem snan_spec (a : Int) : Fn Tryz.prog 175 #[vint a] [] fun v L => v = .bool false ∧ L = [] := by
 refine Fn.intro (vs := [vint a]) Tryz.func175 rfl rfl ?_
 intro F W
 refine G.seq (G.region (G.ag rfl rfl (G.nil (G.then_n (G.seq (G.region (G.mv rfl rfl (G.mv rfl rfl ?_))))))))
 refine G.q (Quiet.as (v' := .bool false) (by simp) (Quiet.int rfl rfl rfl)) rfl ?_
 refine G.ag rfl rfl (G.nil (G.then_n (G.ret ?_)))
 exact G.dn (l := [.tmp 2]) rfl rfl ⟨rfl, rfl⟩

theorem cnan_spec (a : Int) : Fn Tryz.prog 201 #[vint a] [] fun v L => v = .bool false ∧ L = [] := by
 refine Fn.intro (vs := [vint a]) Tryz.func201 rfl rfl ?_
 intro F W
 refine G.seq (G.region (G.ag rfl rfl (G.nil (G.then_n (G.seq (G.region (G.mv rfl rfl (G.mv rfl rfl ?_))))))))
 refine G.q (Quiet.as (v' := .bool false) (by simp) (Quiet.int rfl rfl rfl)) rfl ?_
 refine G.ag rfl rfl (G.nil (G.then_n (G.ret ?_)))
 exact G.dn (l := [.tmp 2]) rfl rfl ⟨rfl, rfl⟩

theorem less_spec (a b : Int) : Fn Tryz.prog 174 #[vint a, vint b] [] fun v L => v = .bool (decide (a < b)) ∧ L = [] := by
 refine Fn.intro (vs := [vint a, vint b]) Tryz.func174 rfl rfl ?_
 intro F W
 refine G.seq (G.region (G.ag rfl rfl (G.nil (G.then_n (G.seq (G.region (G.mv rfl rfl ?_)))))))
 refine G.oq (OpSpec.call Tryz.func201 rfl rfl (vs := [_]) rfl (cnan_spec a)) ?nx3
 rintro v L' ⟨rfl, rfl⟩
 refine G.mv rfl rfl (G.gskip (t := 7) rfl rfl rfl rfl (G.gskip (t := 7) rfl rfl rfl rfl (G.gskip (t := 7) rfl rfl rfl rfl (G.q (Quiet.pickF rfl rfl) rfl (G.mv rfl rfl (G.grun (t := 12) rfl rfl rfl (G.mv rfl rfl (G.grun (t := 12) rfl rfl rfl (G.mv rfl rfl (G.grun (t := 12) rfl rfl rfl (G.q (Quiet.int rfl rfl rfl) rfl (G.q (Quiet.pickF rfl rfl) rfl (G.ag rfl rfl (G.nil (G.then_n (G.ret ?_))))))))))))))))
 exact G.dn (l := [.tmp 4]) rfl rfl ⟨rfl, rfl⟩

theorem bs_in {zs : List Int} {z : Int} {i : Nat} (hs : zs.Pairwise (· < ·)) (hi : i < zs.length) (h : zs.getD i 0 = z) : z ∈ zs ∧ i = zs.idxOf z := by
  have e : zs[i] = z := by simpa [List.getD_eq_getElem?_getD, hi] using h
  have hn : zs.Nodup := hs.imp (fun h => by omega)
  refine ⟨e ▸ List.getElem_mem hi, ?_⟩
  have hl := List.idxOf_lt_length_of_mem (e ▸ List.getElem_mem hi : z ∈ zs)
  have h1 : zs[zs.idxOf z] = z := List.getElem_idxOf hl
  exact (List.getElem_inj hn).1 (e.trans h1.symm)
theorem bs_out {zs : List Int} {z : Int} {i : Nat} (hs : zs.Pairwise (· < ·)) (h1 : ∀ k, k < i → zs.getD k 0 < z) (h2 : ∀ k, i ≤ k → k < zs.length → z ≤ zs.getD k 0) (h : ¬ (i < zs.length ∧ zs.getD i 0 = z)) : ¬ z ∈ zs := by
  intro hm
  obtain ⟨k, hk, hz⟩ := List.mem_iff_getElem.1 hm
  have e : zs.getD k 0 = z := by simpa [List.getD_eq_getElem?_getD, hk] using hz
  rcases Nat.lt_or_ge k i with g | g
  · have := h1 k g; omega
  · have hi : i < zs.length := by omega
    have h3 := h2 i (Nat.le_refl _) hi
    rcases Nat.eq_or_lt_of_le g with g | g
    · subst g; exact h ⟨hi, e⟩
    · have := List.pairwise_iff_getElem.1 hs i k hi hk g
      have e1 : zs.getD i 0 = zs[i] := by simp [List.getD_eq_getElem?_getD, hi]
      exact h ⟨hi, by omega⟩
theorem half_conv (a b : Nat) (h : a + b ≤ 8589934592) : Value.int .i64 (IntKind.i64.wrap ((IntKind.u64.wrap ((a : Int) + b)).fdiv (2 ^ min (1 : Int).toNat IntKind.u64.bits))) = vint (((a + b) / 2 : Nat) : Int) := by
  have e1 : IntKind.u64.wrap ((a : Int) + b) = ((a + b : Nat) : Int) := by
    simp [IntKind.wrap, IntKind.bits, IntKind.signed]; omega
  rw [e1]
  have e2 : ((a + b : Nat) : Int).fdiv (2 ^ min (1 : Int).toNat IntKind.u64.bits) = (((a + b) / 2 : Nat) : Int) := by
    show ((a + b : Nat) : Int).fdiv 2 = _
    rw [Int.fdiv_eq_ediv_of_nonneg _ (by decide)]; omega
  rw [e2]
  have e3 : IntKind.i64.wrap (((a + b) / 2 : Nat) : Int) = (((a + b) / 2 : Nat) : Int) := by
    rw [wrap64]; omega
  rw [e3]
theorem up_at {zs : List Int} (hs : zs.Pairwise (· < ·)) {a b : Nat} (h : a < b) (hb : b < zs.length) : zs.getD a 0 < zs.getD b 0 := by
  have := List.pairwise_iff_getElem.1 hs a b (by omega) hb h
  simpa [List.getD_eq_getElem?_getD, hb, show a < zs.length by omega] using this
theorem up_lt {zs : List Int} (hs : zs.Pairwise (· < ·)) {a b : Nat} {z : Int} (hb : b < zs.length) (h : a < b) (hz : zs.getD b 0 < z) : zs.getD a 0 < z := by
  have := up_at hs h hb; omega
theorem up_ge {zs : List Int} (hs : zs.Pairwise (· < ·)) {a b : Nat} {z : Int} (h : b ≤ a) (ha : a < zs.length) (hz : ¬ zs.getD b 0 < z) : z ≤ zs.getD a 0 := by
  rcases Nat.eq_or_lt_of_le h with g | g
  · subst g; omega
  · have := up_at hs g ha; omega
theorem bsearch_spec (va : Value) (zs : List Int) (z : Int) (p : HP) (hr : ∀ h : Hp, p h → rdS 1 h va zs.length (ints zs)) (hs : zs.Pairwise (· < ·)) (hl : zs.length ≤ 4294967296) : Fn Tryz.prog 133 #[va, vint z] [p] fun v L => (∃ i : Nat, v = .tuple #[vint i, .bool (decide (z ∈ zs))] ∧ (z ∈ zs → i = zs.idxOf z)) ∧ L = [p] := by
 refine Fn.intro (vs := [va, vint z]) Tryz.func133 rfl rfl ?_
 intro F W
 refine G.rdAny (p := p) hr (by (repeat' constructor)) fun aa ca e0 _ => ?_
 subst e0
 refine G.seq (G.region (G.ag rfl rfl (G.ag rfl rfl (G.nil (G.then_n (G.seq (G.region (G.mv rfl rfl (G.q (Quiet.slen rfl Tryz.underlying31 rfl) rfl (G.ag rfl rfl (G.nil (G.then_n (G.seq (G.region (G.mv rfl rfl (G.ag rfl rfl (G.ag rfl rfl (G.nil (G.then_n (G.seq (G.block ?_)))))))))))))))))))))
 refine G.loopK (ι := Nat × Nat) (fun q E => (7, vint q.1) :: (8, vint q.2) :: E) (fun q => []) (fun q => q.1 ≤ q.2 ∧ q.2 ≤ zs.length ∧ (∀ k, k < q.1 → zs.getD k 0 < z) ∧ ∀ k, q.2 ≤ k → k < zs.length → z ≤ zs.getD k 0) (fun q => q.2 - q.1) (0, zs.length) (ts := [0, 1, 4, 5, 6]) (.cons rfl (.cons rfl (.cons rfl (.cons rfl (.cons rfl (.nil)))))) (⟨Nat.zero_le _, Nat.le_refl _, fun k hk => absurd hk (Nat.not_lt_zero k), fun k h1 h2 => absurd h2 (Nat.not_lt.2 h1)⟩) ⟨rfl, rfl, rfl, rfl, rfl, rfl, rfl, trivial⟩ (by (repeat' constructor)) ?_
 rintro ⟨i, j⟩ ⟨hij, hj, hlo, hhi⟩
 dsimp only
 dsimp only at hij hj hlo hhi
 refine G.seq (G.seq (G.region (G.mv rfl rfl (G.mv rfl rfl (G.q (Quiet.int rfl rfl rfl) rfl (G.nil (G.then_n ?_)))))))
 refine G.condD rfl (fun h15 => ?_) (fun h15 => ?_)
 ·have hm : (i + j) / 2 < zs.length := by omega
  refine G.rdShape (p := p) hr (by (repeat' constructor)) (by omega) fun ba oa e => ?_
  subst e
  refine G.skip (G.then_n (G.block (G.seq (G.region (G.mv rfl rfl (G.mv rfl rfl ?_))))))
  refine G.q (Quiet.add rfl rfl (by omega)) rfl ?_
  refine G.q (Quiet.conv rfl Tryz.underlying3 Tryz.underlying39) rfl ?_
  refine G.q (Quiet.shr rfl rfl (by first | decide | omega)) rfl ?_
  refine G.q (Quiet.as (v' := vint (((i + j) / 2 : Nat) : Int)) (by exact half_conv i j (by omega)) (Quiet.conv rfl Tryz.underlying39 Tryz.underlying3)) rfl ?_
  refine G.ag rfl rfl (G.nil (G.then_n (G.seq (G.region (G.mv rfl rfl (G.mv rfl rfl ?_))))))
  refine G.q (Quiet.indexAddr rfl rfl el_31 (by omega)) rfl ?_
  refine G.q (Quiet.loadEl (p := p) (i := ((i + j) / 2) * 1) (v := vint (zs.getD ((i + j) / 2) 0)) rfl ag_3 (by (repeat' constructor)) hr (by have hil : (i + j) / 2 < zs.length := (by omega); simp [ints, List.getD_eq_getElem?_getD, hil])) rfl ?_
  refine G.mv rfl rfl ?_
  refine G.oq (OpSpec.call Tryz.func174 rfl rfl (vs := [_, _]) rfl (less_spec _ z)) ?nx19
  rintro v L' ⟨rfl, rfl⟩
  refine G.nil (G.then_n ?_)
  refine G.condD rfl (fun h27 => ?_) (fun h27 => ?_)
  ·refine G.region (G.mv rfl rfl ?_)
   refine G.q (Quiet.add rfl rfl (by omega)) rfl ?_
   refine G.ag rfl rfl (G.nil (G.blk_n (G.then_n ?_)))
   exact G.roundK (((i + j) / 2 + 1, j)) (⟨by dsimp only; omega, hj, fun k hk => by rcases Nat.lt_or_ge k ((i + j) / 2) with g | g; exact up_lt hs (by omega) g h27; obtain rfl : k = (i + j) / 2 := (by dsimp only at hk; omega); exact h27, hhi⟩) (by dsimp only; omega) ⟨rfl, rfl, rfl, rfl, rfl, rfl, rfl, trivial⟩ (by (repeat' constructor)) (by ((repeat (apply Have.cons; (repeat (first | exact Pick.here | apply Pick.there)))); apply Have.base; repeat' constructor))
  ·refine G.region (G.mv rfl rfl (G.ag rfl rfl (G.nil (G.blk_n (G.then_n ?_)))))
   exact G.roundK ((i, (i + j) / 2)) (⟨by dsimp only; omega, by dsimp only; omega, hlo, fun k h1 h2 => up_ge hs h1 h2 h27⟩) (by dsimp only; omega) ⟨rfl, rfl, rfl, rfl, rfl, rfl, rfl, trivial⟩ (by (repeat' constructor)) (by ((repeat (apply Have.cons; (repeat (first | exact Pick.here | apply Pick.there)))); apply Have.base; repeat' constructor))
 ·refine G.exit (G.then_e (G.then_e (G.blk_e (G.then_n (G.seq (G.region (G.mv rfl rfl (G.mv rfl rfl (G.mv rfl rfl (G.q (Quiet.int rfl rfl rfl) rfl (G.mv rfl rfl ?_)))))))))))
  refine G.dec (t := 35) rfl (fun h8_35 => ?_) (fun h8_35 => ?_)
  ·refine G.rdShape (p := p) hr (by (repeat' constructor)) (by omega) fun ba oa e => ?_
   subst e
   refine G.kDT (t := 34) rfl h8_35 (G.grun (t := 35) rfl rfl rfl (G.mv rfl rfl (G.grun (t := 35) rfl rfl rfl (G.mv rfl rfl (G.grun (t := 35) rfl rfl rfl ?_)))))
   refine G.q (Quiet.indexAddr rfl rfl el_31 (by omega)) rfl ?_
   refine G.grun (t := 35) rfl rfl rfl ?_
   refine G.q (Quiet.loadEl (p := p) (i := (i) * 1) (v := vint (zs.getD (i) 0)) rfl ag_3 (by (repeat' constructor)) hr (by have hil : i < zs.length := (by omega); simp [ints, List.getD_eq_getElem?_getD, hil])) rfl ?_
   refine G.grun (t := 35) rfl rfl rfl (G.mv rfl rfl (G.grun (t := 35) rfl rfl rfl (G.q (Quiet.int rfl rfl rfl) rfl (G.grun (t := 35) rfl rfl rfl (G.mv rfl rfl ?_)))))
   refine G.dec (t := 42) rfl (fun h8_42 => ?_) (fun h8_42 => ?_)
   ·refine G.kDT (t := 41) rfl h8_42 (G.gskip (t := 42) rfl rfl rfl rfl (G.gskip (t := 42) rfl rfl rfl rfl (G.gskip (t := 42) rfl rfl rfl rfl (G.gskip (t := 42) rfl rfl rfl rfl (G.gskip (t := 42) rfl rfl rfl rfl (G.gskip (t := 42) rfl rfl rfl rfl (G.gskipU (t := 48) rfl rfl rfl (G.gskipU (t := 48) rfl rfl rfl (G.gskip (t := 42) rfl rfl rfl rfl (G.grun (t := 35) rfl rfl rfl (G.q (Quiet.pickT rfl rfl) rfl (G.q (Quiet.pickT rfl rfl) rfl (G.ag rfl rfl (G.ag rfl rfl (G.nil (G.then_n (G.ret ?_)))))))))))))))))
    have hji : j = i := by omega
    subst hji
    exact G.dn (l := [.tmp 4, .tmp 5]) rfl rfl ⟨⟨_, by rw [decide_eq_true (bs_in hs (by omega) h8_42).1], fun _ => (bs_in hs (by omega) h8_42).2⟩, rfl⟩
   ·refine G.kDF (t := 41) rfl h8_42 (G.grun (t := 42) rfl rfl rfl (G.mv rfl rfl (G.grun (t := 42) rfl rfl rfl (G.mv rfl rfl (G.grun (t := 42) rfl rfl rfl ?_)))))
    refine G.q (Quiet.indexAddr rfl rfl el_31 (by omega)) rfl ?_
    refine G.grun (t := 42) rfl rfl rfl ?_
    refine G.q (Quiet.loadEl (p := p) (i := (i) * 1) (v := vint (zs.getD (i) 0)) rfl ag_3 (by (repeat' constructor)) hr (by have hil : i < zs.length := (by omega); simp [ints, List.getD_eq_getElem?_getD, hil])) rfl ?_
    refine G.grun (t := 42) rfl rfl rfl ?_
    refine G.oq (OpSpec.call Tryz.func175 rfl rfl (vs := [_]) rfl (snan_spec _)) ?nx37
    rintro v L' ⟨rfl, rfl⟩
    refine G.grun (t := 42) rfl rfl rfl (G.mv rfl rfl (G.gskip (t := 48) rfl rfl rfl rfl (G.gskip (t := 48) rfl rfl rfl rfl (G.grun (t := 42) rfl rfl rfl (G.q (Quiet.pickF rfl rfl) rfl (G.grun (t := 35) rfl rfl rfl (G.q (Quiet.pickF rfl rfl) rfl (G.q (Quiet.pickT rfl rfl) rfl (G.ag rfl rfl (G.ag rfl rfl (G.nil (G.then_n (G.ret ?_)))))))))))))
    have hji : j = i := by omega
    subst hji
    exact G.dn (l := [.tmp 4, .tmp 5]) rfl rfl ⟨⟨_, by rw [decide_eq_false (bs_out hs hlo hhi (fun g => h8_42 g.2))], fun h => absurd h (bs_out hs hlo hhi (fun g => h8_42 g.2))⟩, rfl⟩
  ·refine G.kDF (t := 34) rfl h8_35 (G.gskip (t := 35) rfl rfl rfl rfl (G.gskip (t := 35) rfl rfl rfl rfl (G.gskip (t := 35) rfl rfl rfl rfl (G.gskip (t := 35) rfl rfl rfl rfl (G.gskip (t := 35) rfl rfl rfl rfl (G.gskip (t := 35) rfl rfl rfl rfl (G.gskip (t := 35) rfl rfl rfl rfl (G.gskipU (t := 42) rfl rfl rfl (G.gskipU (t := 42) rfl rfl rfl (G.gskipU (t := 42) rfl rfl rfl (G.gskipU (t := 42) rfl rfl rfl (G.gskipU (t := 42) rfl rfl rfl (G.gskipU (t := 42) rfl rfl rfl (G.gskipU (t := 48) rfl rfl rfl (G.gskipU (t := 48) rfl rfl rfl (G.gskipU (t := 42) rfl rfl rfl (G.gskip (t := 35) rfl rfl rfl rfl (G.q (Quiet.pickF rfl rfl) rfl (G.ag rfl rfl (G.ag rfl rfl (G.nil (G.then_n (G.ret ?_)))))))))))))))))))))))
   have hji : j = i := by omega
   subst hji
   exact G.dn (l := [.tmp 4, .tmp 5]) rfl rfl ⟨⟨_, by rw [decide_eq_false (bs_out hs hlo hhi (fun g => by omega))], fun h => absurd h (bs_out hs hlo hhi (fun g => by omega))⟩, rfl⟩

theorem lupto_spec (g x : Nat) (Λ : Lg) (z : Int) (hΛ : LgI Λ) (hs : Λ.zxs.Pairwise (· < ·)) : Fn Tryz.prog 74 #[vptr g, vint z] [lgR g x Λ] fun v L => v = .tuple #[vint ((placeZ Λ z).getD 0 : Nat), .bool (placeZ Λ z).isSome] ∧ L = [lgR g x Λ] := by
 refine Fn.intro (vs := [vptr g, vint z]) Tryz.func74 rfl rfl ?_
 intro F W
 refine G.lgOpen (by (repeat' constructor)) fun ea ec za zc => ?_
 have h1 := hΛ.ents
 have h2 := hΛ.same
 refine G.seq (G.region (G.ag rfl rfl (G.ag rfl rfl (G.nil (G.then_n (G.seq (G.region (G.mv rfl rfl (G.q (Quiet.nilp rfl) rfl (G.q (Quiet.fieldAddr rfl fo_79_5) rfl ?_))))))))))
 refine G.q (Quiet.ld rfl ag_31) rfl ?_
 refine G.mv rfl rfl ?_
 refine G.oq (OpSpec.call Tryz.func133 rfl rfl (vs := [_, _]) rfl (bsearch_spec _ Λ.zxs z (intR (.slice za Λ.zxs.length zc) Λ.zxs) (fun h hp => slR_rd hp) hs (by omega))) ?nx8
 rintro v L' ⟨⟨i, rfl, hix⟩, rfl⟩
 refine G.mv rfl rfl (G.q (Quiet.extract rfl rfl) rfl (G.q (Quiet.extract rfl rfl) rfl (G.ag rfl rfl (G.ag rfl rfl (G.nil (G.then_n (G.seq (G.seq (G.region (G.mv rfl rfl (G.nil (G.then_n ?_))))))))))))
 refine G.condD rfl (fun h17 => ?_) (fun h17 => ?_)
 ·have hil := List.idxOf_lt_length_of_mem h17
  have hi := hix h17
  refine G.seq (G.region (G.mv rfl rfl ?_))
  refine G.q (Quiet.add rfl rfl (by omega)) rfl ?_
  refine G.ag rfl rfl (G.ag rfl rfl (G.nil (G.then_n (G.ret (G.then_r ?_)))))
  refine G.lgFold (g := g) (x := x) (ea := ea) (ec := ec) (za := za) (zc := zc) (m := Λ.ents.length) (k := Λ.zxs.length) Λ (by (repeat' constructor)) (by exact rfl) (by first | rfl | simp [Lg.keep]) (by first | rfl | simp [Lg.keep]) (by first | rfl | simp [Lg.keep]) (by first | rfl | simp [Lg.keep]) ?_
  have hp : placeZ Λ z = some (Λ.zxs.idxOf z + 1) := by unfold placeZ; rw [if_pos h17]
  rw [hp, hi]
  exact G.dn (l := [.tmp 4, .tmp 5]) rfl rfl ⟨by simp, rfl⟩
 ·refine G.skip (G.then_n (G.seq ?_))
  refine G.draw [] [[0, 1, 2, 3, 4, 5, 6, 7]] mixed (by kernel_rfl) ?_
  refine Phases.go [] (by (repeat' constructor)) ?_
  refine D.kw [5, 7] rfl (Quiet.move rfl) ?_
  refine D.kw [2, 3, 4, 5, 7] rfl (Quiet.move rfl) ?_
  refine D.kw [3, 4, 5, 7] rfl (Quiet.nilp rfl) ?_
  refine D.kw [4, 5, 7] rfl (Quiet.fieldAddr rfl fo_79_2) ?_
  refine D.kw [5, 7] rfl (Quiet.ld rfl ag_3) ?_
  refine D.kw [7] rfl (Quiet.int rfl rfl rfl) ?_
  refine D.kw [7] rfl (Quiet.assign rfl) ?_
  refine D.kw [] rfl (Quiet.assign rfl) ?_
  refine D.ph (Phases.fin (G.then_n (G.ret ?_)))
  refine G.lgFold (g := g) (x := x) (ea := ea) (ec := ec) (za := za) (zc := zc) (m := Λ.ents.length) (k := Λ.zxs.length) Λ (by (repeat' constructor)) (by exact rfl) (by first | rfl | simp [Lg.keep]) (by first | rfl | simp [Lg.keep]) (by first | rfl | simp [Lg.keep]) (by first | rfl | simp [Lg.keep]) ?_
  have hp : placeZ Λ z = if z = Λ.base then some 0 else none := by unfold placeZ; rw [if_neg h17]
  rw [hp]
  exact G.dn (l := [.tmp 4, .tmp 5]) rfl rfl ⟨by by_cases hz : z = Λ.base <;> simp [hz], rfl⟩

theorem lmetC_spec (g x : Nat) (Λ : Lg) (e : Int) (ea : Option Addr) (ec : Nat) (za : Option Addr) (zc : Nat) : Fn Tryz.prog 50 #[vptr g, vint e] [ptc g [vint Λ.acc, vint Λ.cur, vptr x, vint Λ.base, vstr Λ.snap, .slice ea Λ.ents.length ec, .slice za Λ.zxs.length zc, .bool Λ.doubt] 79] fun v L => v = vint (metE e) ∧ L = [ptc g [vint Λ.acc, vint Λ.cur, vptr x, vint Λ.base, vstr Λ.snap, .slice ea Λ.ents.length ec, .slice za Λ.zxs.length zc, .bool (Λ.met e).doubt] 79] := by
 refine Fn.intro (vs := [vptr g, vint e]) Tryz.func50 rfl rfl ?_
 intro F W
 refine G.seq (G.region (G.ag rfl rfl (G.nil (G.then_n (G.seq (G.seq (G.region (G.mv rfl rfl (G.nil (G.then_n (G.block (G.seq (G.region (G.q (Quiet.int rfl rfl rfl) rfl (G.ag rfl rfl (G.nil (G.then_n ?_)))))))))))))))))
 refine G.condD rfl (fun h6 => ?_) (fun h6 => ?_)
 ·refine G.region (G.mv rfl rfl (G.q (Quiet.nilp rfl) rfl (G.q (Quiet.fieldAddr rfl fo_79_6) rfl ?_)))
  refine G.oq (OpSpec.store rfl rfl rfl sz_4 ?c7 ?c8) ?nx9
  case c7 => first | decide | (simp; omega) | simp
  case c8 => exact nfz0 _ _
  rintro v L' rfl
  refine G.nil (G.blk_n (G.then_n (G.seq (G.region (G.mv rfl rfl (G.ag rfl rfl (G.nil (G.then_n (G.ret ?_)))))))))
  have hm : (Λ.met e).doubt = true := by unfold Lg.met; rw [if_pos h6]
  have he : metE e = e := by unfold metE; rw [if_neg (by omega)]
  rw [hm, he]
  exact G.dn (l := [.tmp 4]) rfl rfl ⟨rfl, rfl⟩
 ·refine G.seq (G.seq (G.region (G.q (Quiet.int rfl rfl rfl) rfl (G.ag rfl rfl (G.nil (G.then_n ?_))))))
  refine G.dec (t := 11) rfl (fun h11 => ?_) (fun h11 => ?_)
  ·refine G.condT rfl (G.skip (G.then_n (G.condT rfl (G.seq (G.region (G.ag rfl rfl (G.nil (G.then_n (G.ret (G.blk_r (G.then_r ?_)))))))))))
   have hm : (Λ.met e).doubt = Λ.doubt := by unfold Lg.met; rw [if_neg h6]
   have he : metE e = 83 := by unfold metE; rw [if_pos (by omega)]
   rw [hm, he]
   exact G.dn (l := [.tmp 4]) rfl rfl ⟨rfl, rfl⟩
  ·refine G.condF rfl (G.region (G.q (Quiet.int rfl rfl rfl) rfl (G.ag rfl rfl (G.nil (G.then_n ?_)))))
   refine G.dec (t := 11) rfl (fun h11 => ?_) (fun h11 => ?_)
   ·refine G.condT rfl (G.seq (G.region (G.ag rfl rfl (G.nil (G.then_n (G.ret (G.blk_r (G.then_r ?_))))))))
    have hm : (Λ.met e).doubt = Λ.doubt := by unfold Lg.met; rw [if_neg h6]
    have he : metE e = 83 := by unfold metE; rw [if_pos (by omega)]
    rw [hm, he]
    exact G.dn (l := [.tmp 4]) rfl rfl ⟨rfl, rfl⟩
   ·refine G.condF rfl (G.skip (G.blk_n (G.then_n (G.seq (G.region (G.mv rfl rfl (G.ag rfl rfl (G.nil (G.then_n (G.ret ?_))))))))))
    have hm : (Λ.met e).doubt = Λ.doubt := by unfold Lg.met; rw [if_neg h6]
    have he : metE e = e := by unfold metE; rw [if_neg (by omega)]
    rw [hm, he]
    exact G.dn (l := [.tmp 4]) rfl rfl ⟨rfl, rfl⟩

theorem met_acc {Λ : Lg} {e : Int} : (Λ.met e).acc = Λ.acc := by unfold Lg.met; split <;> rfl
theorem met_cur {Λ : Lg} {e : Int} : (Λ.met e).cur = Λ.cur := by unfold Lg.met; split <;> rfl
theorem met_base {Λ : Lg} {e : Int} : (Λ.met e).base = Λ.base := by unfold Lg.met; split <;> rfl
theorem met_snap {Λ : Lg} {e : Int} : (Λ.met e).snap = Λ.snap := by unfold Lg.met; split <;> rfl
theorem met_ents {Λ : Lg} {e : Int} : (Λ.met e).ents = Λ.ents := by unfold Lg.met; split <;> rfl
theorem met_zxs {Λ : Lg} {e : Int} : (Λ.met e).zxs = Λ.zxs := by unfold Lg.met; split <;> rfl
theorem doubt_of {Λ : Lg} {e : Int} (h : metE e = 0) : (Λ.met e).doubt = Λ.doubt := by
  unfold Lg.met
  rw [if_neg]
  intro g; rw [g] at h; exact absurd h (by decide)
theorem lcut_spec (g x d : Nat) (δ : Dk) (ω : Wl) (Λ : Lg) (z : Int) (hI : WlI δ ω) (hΛ : LgI Λ) (hs : Λ.zxs.Pairwise (· < ·)) (hsn : Λ.snap.length ≤ 65536) : Fn Tryz.prog 27 #[vptr g, vint z] [lgR g x Λ, wlR x d ω, dkR d δ] fun v L => v = vint (lgCut ⟨δ, ω, Λ⟩ z).2 ∧ L = [lgR g x (lgCut ⟨δ, ω, Λ⟩ z).1.Λ, wlR x d (lgCut ⟨δ, ω, Λ⟩ z).1.ω, dkR d (lgCut ⟨δ, ω, Λ⟩ z).1.δ] := by
 refine Fn.intro (vs := [vptr g, vint z]) Tryz.func27 rfl rfl ?_
 intro F W
 refine G.lgOpen (by (repeat' constructor)) fun ea ec za zc => ?_
 have h1 := hΛ.ents
 have h2 := hΛ.same
 have h0 := headL_len Λ.base Λ.snap hsn
 refine G.seq (G.region (G.ag rfl rfl (G.nil (G.then_n (G.seq (G.seq (G.region (G.mv rfl rfl (G.q (Quiet.nilp rfl) rfl (G.q (Quiet.fieldAddr rfl fo_79_6) rfl ?_))))))))))
 refine G.q (Quiet.ld rfl ag_4) rfl ?_
 refine G.nil (G.then_n ?_)
 refine G.condB rfl (fun h11 => ?_) (fun h11 => ?_)
 ·refine G.seq (G.region (G.ag rfl rfl (G.nil (G.then_n (G.ret (G.then_r ?_))))))
  have hr : lgCut ⟨δ, ω, Λ⟩ z = (⟨δ, ω, Λ⟩, 2) := by unfold lgCut; dsimp only; rw [if_pos h11]
  rw [hr]
  try dsimp only
  refine G.lgFold (g := g) (x := x) Λ (by (repeat' constructor)) (by exact rfl) (by first | rfl | simp [Lg.keep]) (by first | rfl | simp [Lg.keep]) (by first | rfl | simp [Lg.keep]) (by first | rfl | simp [Lg.keep]) ?_
  exact G.dn (l := [.tmp 4]) rfl rfl ⟨rfl, rfl⟩
 ·refine G.skip (G.then_n (G.seq ?_))
  refine G.lgFold (g := g) (x := x) Λ (by (repeat' constructor)) (by exact rfl) (by first | rfl | simp [Lg.keep]) (by first | rfl | simp [Lg.keep]) (by first | rfl | simp [Lg.keep]) (by first | rfl | simp [Lg.keep]) ?_
  refine G.region (G.mv rfl rfl (G.mv rfl rfl ?_))
  refine G.oq (OpSpec.call Tryz.func74 rfl rfl (vs := [_, _]) rfl (lupto_spec g x Λ z hΛ hs)) ?nx9
  rintro v L' ⟨rfl, rfl⟩
  refine G.mv rfl rfl (G.q (Quiet.extract rfl rfl) rfl (G.q (Quiet.extract rfl rfl) rfl (G.ag rfl rfl (G.ag rfl rfl (G.nil (G.then_n (G.seq (G.seq (G.region ?_)))))))))
  rcases hpl : placeZ Λ z with _ | n
  ·refine G.mv rfl rfl (G.q (Quiet.not rfl) rfl (G.nil (G.then_n (G.condT rfl (G.seq (G.region (G.ag rfl rfl (G.nil (G.then_n (G.ret (G.then_r ?_)))))))))))
   have hr : lgCut ⟨δ, ω, Λ⟩ z = (⟨δ, ω, Λ⟩, 81) := by unfold lgCut; dsimp only; rw [if_neg (by rw [h11]; decide), hpl]
   rw [hr]
   try dsimp only
   exact G.dn (l := [.tmp 4]) rfl rfl ⟨rfl, rfl⟩
  ·simp only [Option.getD_some]
   have hpe := (place_le hpl).1
   refine G.mv rfl rfl (G.q (Quiet.not rfl) rfl (G.nil (G.then_n (G.condF rfl (G.skip (G.then_n (G.seq ?_)))))))
   refine G.lgOpen (by (repeat' constructor)) fun ea ec za zc => ?_
   refine G.slAddr (a := ea) (c := ec) (by (repeat' constructor)) fun hcap1 hadea => ?_
   refine G.slAddr (a := za) (c := zc) (by (repeat' constructor)) fun hcap2 hadza => ?_
   refine G.draw [4, 8, 12, 13, 17, 18] [[0, 1, 2, 3, 5, 6, 7, 9, 10, 11, 15, 8, 12, 13, 14, 16, 4, 17], [18], [19]] mixed (by kernel_rfl) ?_
   refine Phases.go [] (by (repeat' constructor)) ?_
   refine D.k rfl (Quiet.move rfl) ?_
   refine D.k rfl (Quiet.move rfl) ?_
   refine D.k rfl (Quiet.nilp rfl) ?_
   refine D.k rfl (Quiet.fieldAddr rfl fo_79_1) ?_
   refine D.k rfl (Quiet.move rfl) ?_
   refine D.k rfl (Quiet.nilp rfl) ?_
   refine D.k rfl (Quiet.fieldAddr rfl fo_79_2) ?_
   refine D.k rfl (Quiet.move rfl) ?_
   refine D.k rfl (Quiet.nilp rfl) ?_
   refine D.k rfl (Quiet.fieldAddr rfl fo_79_3) ?_
   refine D.k rfl (Quiet.move rfl) ?_
   refine D.h3 (k := 12) (l := 4) rfl rfl rfl (by kernel_rfl) rfl rfl (Quiet.spec (L := [ptc g [vint Λ.acc, vint Λ.cur, vptr x, vint Λ.base, vstr Λ.snap, .slice ea Λ.ents.length ec, .slice za Λ.zxs.length zc, .bool Λ.doubt] 79]) (Quiet.load rfl ag_3 (by (repeat' constructor)) rfl)) (by (repeat' constructor)) (Quiet.spec (L := [ptc g [vint Λ.acc, vint Λ.cur, vptr x, vint Λ.base, vstr Λ.snap, .slice ea Λ.ents.length ec, .slice za Λ.zxs.length zc, .bool Λ.doubt] 79]) (Quiet.load rfl ag_9 (by (repeat' constructor)) rfl)) (by (repeat' constructor)) (Quiet.spec (L := [ptc g [vint Λ.acc, vint Λ.cur, vptr x, vint Λ.base, vstr Λ.snap, .slice ea Λ.ents.length ec, .slice za Λ.zxs.length zc, .bool Λ.doubt] 79]) (Quiet.load rfl ag_77 (by (repeat' constructor)) rfl)) (by (repeat' constructor)) ?nx26 ?nx27 ?nx28
   ·rintro v L' ⟨rfl, rfl⟩
    refine D.h2 (k := 4) rfl rfl (by kernel_rfl) rfl (Quiet.spec (L := [ptc g [vint Λ.acc, vint Λ.cur, vptr x, vint Λ.base, vstr Λ.snap, .slice ea Λ.ents.length ec, .slice za Λ.zxs.length zc, .bool Λ.doubt] 79]) (Quiet.load rfl ag_9 (by (repeat' constructor)) rfl)) (by (repeat' constructor)) (Quiet.spec (L := [ptc g [vint Λ.acc, vint Λ.cur, vptr x, vint Λ.base, vstr Λ.snap, .slice ea Λ.ents.length ec, .slice za Λ.zxs.length zc, .bool Λ.doubt] 79]) (Quiet.load rfl ag_77 (by (repeat' constructor)) rfl)) (by (repeat' constructor)) ?nx30 ?nx31
    ·rintro v L' ⟨rfl, rfl⟩
     refine D.h2 (k := 4) rfl rfl (by kernel_rfl) rfl (OpSpec.call Tryz.func46 rfl rfl (vs := [_, _]) rfl (lahead_spec Λ.base Λ.snap hΛ.base (by omega))) (by (repeat' constructor)) (Quiet.spec (L := [ptc g [vint Λ.acc, vint Λ.cur, vptr x, vint Λ.base, vstr Λ.snap, .slice ea Λ.ents.length ec, .slice za Λ.zxs.length zc, .bool Λ.doubt] 79]) (Quiet.load rfl ag_77 (by (repeat' constructor)) rfl)) (by (repeat' constructor)) ?nx33 ?nx34
     ·rintro v L' ⟨bh, ch, rfl, rfl⟩
      refine D.k rfl (Quiet.slen rfl Tryz.underlying46 rfl) ?_
      refine D.k rfl (Quiet.as (v' := vint (((headL Λ.base Λ.snap).length + n : Nat) : Int)) (by simp) (Quiet.add rfl rfl (by omega))) ?_
      refine D.h rfl (by kernel_rfl) (Quiet.spec (L := [ptc g [vint Λ.acc, vint Λ.cur, vptr x, vint Λ.base, vstr Λ.snap, .slice ea Λ.ents.length ec, .slice za Λ.zxs.length zc, .bool Λ.doubt] 79]) (Quiet.load rfl ag_77 (by (repeat' constructor)) rfl)) (by (repeat' constructor)) ?nx38
      rintro v L' ⟨rfl, rfl⟩
      refine D.h rfl (by kernel_rfl) (OpSpec.call Tryz.func75 rfl rfl (vs := [_, _]) rfl (wcut_spec x d ω δ (((headL Λ.base Λ.snap).length + n : Nat) : Int) hI)) (by (repeat' constructor)) ?nx40
      rintro v L' ⟨rfl, rfl⟩
      refine D.ph ?_
      refine Phases.go [] (by (repeat' constructor)) ?_
      refine D.h rfl (by kernel_rfl) (OpSpec.call Tryz.func50 rfl rfl (vs := [_, _]) rfl (lmetC_spec g x Λ _ ea ec za zc)) (by (repeat' constructor)) ?nx42
      rintro v L' ⟨rfl, rfl⟩
      refine D.ph ?_
      refine Phases.go [] (by (repeat' constructor)) ?_
      refine D.kw [] rfl (Quiet.assign rfl) ?_
      refine D.ph (Phases.fin (G.then_n (G.seq (G.seq (G.region (G.mv rfl rfl (G.q (Quiet.int rfl rfl rfl) rfl (G.nil (G.then_n ?_)))))))))
      refine G.condD rfl (fun h40 => ?_) (fun h40 => ?_)
      ·refine G.draw [16, 19] [[0, 1, 2, 3, 4, 5, 6, 7, 8, 9, 10, 11, 12, 13, 14, 15, 16], [17, 18, 19]] mixed (by kernel_rfl) ?_
       refine Phases.go [] (by (repeat' constructor)) ?_
       refine D.kw [14, 15, 16] rfl (Quiet.move rfl) ?_
       refine D.k rfl (Quiet.move rfl) ?_
       refine D.kw [3, 4, 5, 7, 14, 15, 16] rfl (Quiet.move rfl) ?_
       refine D.kw [4, 5, 7, 14, 15, 16] rfl (Quiet.nilp rfl) ?_
       refine D.kw [5, 7, 14, 15, 16] rfl (Quiet.fieldAddr rfl fo_79_4) ?_
       refine D.kw [7, 14, 15, 16] rfl (Quiet.ld rfl ag_46) ?_
       refine D.kw [7, 14, 15, 16] rfl (Quiet.move rfl) ?_
       refine D.kw [14, 15, 16] rfl (Quiet.to (v' := .slice ea n ec) (Quiet.slTo (j := (n : Int)) rfl el_46 rfl (by omega) hadea) (by rw [Int.toNat_natCast])) ?_
       refine D.kw [9, 10, 11, 13, 14, 15, 16] rfl (Quiet.move rfl) ?_
       refine D.kw [10, 11, 13, 14, 15, 16] rfl (Quiet.nilp rfl) ?_
       refine D.kw [11, 13, 14, 15, 16] rfl (Quiet.fieldAddr rfl fo_79_5) ?_
       refine D.kw [13, 14, 15, 16] rfl (Quiet.ld rfl ag_31) ?_
       refine D.k rfl (Quiet.move rfl) ?_
       refine D.k rfl (Quiet.to (v' := .slice za n zc) (Quiet.slTo (j := (n : Int)) rfl el_31 rfl (by omega) hadza) (by rw [Int.toNat_natCast])) ?_
       refine D.kw [15, 16] rfl (Quiet.nilp rfl) ?_
       refine D.kw [16] rfl (Quiet.fieldAddr rfl fo_79_4) ?_
       refine D.h rfl (by kernel_rfl) (OpSpec.store rfl rfl rfl sz_46 ?c59 ?c60) (by (repeat' constructor)) ?nx61
       case c59 => first | decide | (simp; omega) | simp
       case c60 => exact nfz0 _ _
       rintro v L' rfl
       refine D.ph ?_
       refine Phases.go [] (by (repeat' constructor)) ?_
       refine D.kw [18, 19] rfl (Quiet.nilp rfl) ?_
       refine D.kw [19] rfl (Quiet.fieldAddr rfl fo_79_5) ?_
       refine D.h rfl (by kernel_rfl) (OpSpec.store rfl rfl rfl sz_31 ?c64 ?c65) (by (repeat' constructor)) ?nx66
       case c64 => first | decide | (simp; omega) | simp
       case c65 => exact nfz0 _ _
       rintro v L' rfl
       refine D.ph (Phases.fin (G.then_n (G.seq (G.region (G.mv rfl rfl (G.ag rfl rfl (G.nil (G.then_n (G.ret ?_)))))))))
       have hr : lgCut ⟨δ, ω, Λ⟩ z = lgCut2 ⟨δ, ω, Λ⟩ n := by unfold lgCut; dsimp only; rw [if_neg (by rw [h11]; decide), hpl]
       rw [hr]
       have hr2 : lgCut2 ⟨δ, ω, Λ⟩ n = (⟨(cutZ δ ω (((headL Λ.base Λ.snap).length + n : Nat) : Int)).1, (cutZ δ ω (((headL Λ.base Λ.snap).length + n : Nat) : Int)).2.1, ⟨Λ.acc, Λ.cur, Λ.base, Λ.snap, Λ.ents.take n, Λ.zxs.take n, Λ.doubt⟩⟩, 0) := by unfold lgCut2; dsimp only; rw [if_pos (show (metL Λ (cutZ δ ω (((headL Λ.base Λ.snap).length + n : Nat) : Int))).2 = 0 from h40)]
       rw [hr2, h40]
       try dsimp only
       refine G.slTo (a := ea) (c := ec) (m := Λ.ents.length) (k := n) (by omega) (by (repeat' constructor)) ?_
       refine G.slTo (a := za) (c := zc) (m := Λ.zxs.length) (k := n) (by omega) (by (repeat' constructor)) ?_
       have hmd : (Λ.met (cutZ δ ω (((headL Λ.base Λ.snap).length + n : Nat) : Int)).2.2).doubt = Λ.doubt := by unfold Lg.met; rw [if_neg (fun g2 => by rw [g2] at h40; exact absurd h40 (by decide))]
       rw [hmd]
       refine G.lgFold (g := g) (x := x) (ea := ea) (ec := ec) (za := za) (zc := zc) (m := n) (k := n) (⟨Λ.acc, Λ.cur, Λ.base, Λ.snap, Λ.ents.take n, Λ.zxs.take n, Λ.doubt⟩ : Lg) (by (repeat' constructor)) rfl (by simp; omega) (by simp; omega) (by simp [strs, List.map_take]) (by simp [ints, List.map_take]) ?_
       exact G.dn (l := [.tmp 4]) rfl rfl ⟨rfl, rfl⟩
      ·refine G.skip (G.then_n (G.seq (G.region (G.mv rfl rfl (G.ag rfl rfl (G.nil (G.then_n (G.ret ?_))))))))
       have hr : lgCut ⟨δ, ω, Λ⟩ z = lgCut2 ⟨δ, ω, Λ⟩ n := by unfold lgCut; dsimp only; rw [if_neg (by rw [h11]; decide), hpl]
       rw [hr]
       have hr2 : lgCut2 ⟨δ, ω, Λ⟩ n = metL Λ (cutZ δ ω (((headL Λ.base Λ.snap).length + n : Nat) : Int)) := by unfold lgCut2; dsimp only; rw [if_neg (show ¬ (metL Λ (cutZ δ ω (((headL Λ.base Λ.snap).length + n : Nat) : Int))).2 = 0 from h40)]
       rw [hr2]
       try dsimp only
       refine G.lgFold (g := g) (x := x) (ea := ea) (ec := ec) (za := za) (zc := zc) (m := Λ.ents.length) (k := Λ.zxs.length) (Λ.met (cutZ δ ω (((headL Λ.base Λ.snap).length + n : Nat) : Int)).2.2) (by (repeat' constructor)) (by rw [met_acc, met_cur, met_base, met_snap]) (by rw [met_ents]) (by rw [met_zxs]) (by rw [met_ents]) (by rw [met_zxs]) ?_
       exact G.dn (l := [.tmp 4]) rfl rfl ⟨rfl, rfl⟩
     ·rintro v L' ⟨rfl, rfl⟩
      refine D.h rfl (by kernel_rfl) (OpSpec.call Tryz.func46 rfl rfl (vs := [_, _]) rfl (lahead_spec Λ.base Λ.snap hΛ.base (by omega))) (by (repeat' constructor)) ?nx68
      rintro v L' ⟨bh, ch, rfl, rfl⟩
      refine D.kw [16, 17] rfl (Quiet.slen rfl Tryz.underlying46 rfl) ?_
      refine D.kw [17] rfl (Quiet.as (v' := vint (((headL Λ.base Λ.snap).length + n : Nat) : Int)) (by simp) (Quiet.add rfl rfl (by omega))) ?_
      refine D.h rfl (by kernel_rfl) (OpSpec.call Tryz.func75 rfl rfl (vs := [_, _]) rfl (wcut_spec x d ω δ (((headL Λ.base Λ.snap).length + n : Nat) : Int) hI)) (by (repeat' constructor)) ?nx72
      rintro v L' ⟨rfl, rfl⟩
      refine D.ph ?_
      refine Phases.go [] (by (repeat' constructor)) ?_
      refine D.h rfl (by kernel_rfl) (OpSpec.call Tryz.func50 rfl rfl (vs := [_, _]) rfl (lmetC_spec g x Λ _ ea ec za zc)) (by (repeat' constructor)) ?nx74
      rintro v L' ⟨rfl, rfl⟩
      refine D.ph ?_
      refine Phases.go [] (by (repeat' constructor)) ?_
      refine D.kw [] rfl (Quiet.assign rfl) ?_
      refine D.ph (Phases.fin (G.then_n (G.seq (G.seq (G.region (G.mv rfl rfl (G.q (Quiet.int rfl rfl rfl) rfl (G.nil (G.then_n ?_)))))))))
      refine G.condD rfl (fun h40 => ?_) (fun h40 => ?_)
      ·refine G.draw [16, 19] [[0, 1, 2, 3, 4, 5, 6, 7, 8, 9, 10, 11, 12, 13, 14, 15, 16], [17, 18, 19]] mixed (by kernel_rfl) ?_
       refine Phases.go [] (by (repeat' constructor)) ?_
       refine D.kw [14, 15, 16] rfl (Quiet.move rfl) ?_
       refine D.k rfl (Quiet.move rfl) ?_
       refine D.kw [3, 4, 5, 7, 14, 15, 16] rfl (Quiet.move rfl) ?_
       refine D.kw [4, 5, 7, 14, 15, 16] rfl (Quiet.nilp rfl) ?_
       refine D.kw [5, 7, 14, 15, 16] rfl (Quiet.fieldAddr rfl fo_79_4) ?_
       refine D.kw [7, 14, 15, 16] rfl (Quiet.ld rfl ag_46) ?_
       refine D.kw [7, 14, 15, 16] rfl (Quiet.move rfl) ?_
       refine D.kw [14, 15, 16] rfl (Quiet.to (v' := .slice ea n ec) (Quiet.slTo (j := (n : Int)) rfl el_46 rfl (by omega) hadea) (by rw [Int.toNat_natCast])) ?_
       refine D.kw [9, 10, 11, 13, 14, 15, 16] rfl (Quiet.move rfl) ?_
       refine D.kw [10, 11, 13, 14, 15, 16] rfl (Quiet.nilp rfl) ?_
       refine D.kw [11, 13, 14, 15, 16] rfl (Quiet.fieldAddr rfl fo_79_5) ?_
       refine D.kw [13, 14, 15, 16] rfl (Quiet.ld rfl ag_31) ?_
       refine D.k rfl (Quiet.move rfl) ?_
       refine D.k rfl (Quiet.to (v' := .slice za n zc) (Quiet.slTo (j := (n : Int)) rfl el_31 rfl (by omega) hadza) (by rw [Int.toNat_natCast])) ?_
       refine D.kw [15, 16] rfl (Quiet.nilp rfl) ?_
       refine D.kw [16] rfl (Quiet.fieldAddr rfl fo_79_4) ?_
       refine D.h rfl (by kernel_rfl) (OpSpec.store rfl rfl rfl sz_46 ?c91 ?c92) (by (repeat' constructor)) ?nx93
       case c91 => first | decide | (simp; omega) | simp
       case c92 => exact nfz0 _ _
       rintro v L' rfl
       refine D.ph ?_
       refine Phases.go [] (by (repeat' constructor)) ?_
       refine D.kw [18, 19] rfl (Quiet.nilp rfl) ?_
       refine D.kw [19] rfl (Quiet.fieldAddr rfl fo_79_5) ?_
       refine D.h rfl (by kernel_rfl) (OpSpec.store rfl rfl rfl sz_31 ?c96 ?c97) (by (repeat' constructor)) ?nx98
       case c96 => first | decide | (simp; omega) | simp
       case c97 => exact nfz0 _ _
       rintro v L' rfl
       refine D.ph (Phases.fin (G.then_n (G.seq (G.region (G.mv rfl rfl (G.ag rfl rfl (G.nil (G.then_n (G.ret ?_)))))))))
       have hr : lgCut ⟨δ, ω, Λ⟩ z = lgCut2 ⟨δ, ω, Λ⟩ n := by unfold lgCut; dsimp only; rw [if_neg (by rw [h11]; decide), hpl]
       rw [hr]
       have hr2 : lgCut2 ⟨δ, ω, Λ⟩ n = (⟨(cutZ δ ω (((headL Λ.base Λ.snap).length + n : Nat) : Int)).1, (cutZ δ ω (((headL Λ.base Λ.snap).length + n : Nat) : Int)).2.1, ⟨Λ.acc, Λ.cur, Λ.base, Λ.snap, Λ.ents.take n, Λ.zxs.take n, Λ.doubt⟩⟩, 0) := by unfold lgCut2; dsimp only; rw [if_pos (show (metL Λ (cutZ δ ω (((headL Λ.base Λ.snap).length + n : Nat) : Int))).2 = 0 from h40)]
       rw [hr2, h40]
       try dsimp only
       refine G.slTo (a := ea) (c := ec) (m := Λ.ents.length) (k := n) (by omega) (by (repeat' constructor)) ?_
       refine G.slTo (a := za) (c := zc) (m := Λ.zxs.length) (k := n) (by omega) (by (repeat' constructor)) ?_
       have hmd : (Λ.met (cutZ δ ω (((headL Λ.base Λ.snap).length + n : Nat) : Int)).2.2).doubt = Λ.doubt := by unfold Lg.met; rw [if_neg (fun g2 => by rw [g2] at h40; exact absurd h40 (by decide))]
       rw [hmd]
       refine G.lgFold (g := g) (x := x) (ea := ea) (ec := ec) (za := za) (zc := zc) (m := n) (k := n) (⟨Λ.acc, Λ.cur, Λ.base, Λ.snap, Λ.ents.take n, Λ.zxs.take n, Λ.doubt⟩ : Lg) (by (repeat' constructor)) rfl (by simp; omega) (by simp; omega) (by simp [strs, List.map_take]) (by simp [ints, List.map_take]) ?_
       exact G.dn (l := [.tmp 4]) rfl rfl ⟨rfl, rfl⟩
      ·refine G.skip (G.then_n (G.seq (G.region (G.mv rfl rfl (G.ag rfl rfl (G.nil (G.then_n (G.ret ?_))))))))
       have hr : lgCut ⟨δ, ω, Λ⟩ z = lgCut2 ⟨δ, ω, Λ⟩ n := by unfold lgCut; dsimp only; rw [if_neg (by rw [h11]; decide), hpl]
       rw [hr]
       have hr2 : lgCut2 ⟨δ, ω, Λ⟩ n = metL Λ (cutZ δ ω (((headL Λ.base Λ.snap).length + n : Nat) : Int)) := by unfold lgCut2; dsimp only; rw [if_neg (show ¬ (metL Λ (cutZ δ ω (((headL Λ.base Λ.snap).length + n : Nat) : Int))).2 = 0 from h40)]
       rw [hr2]
       try dsimp only
       refine G.lgFold (g := g) (x := x) (ea := ea) (ec := ec) (za := za) (zc := zc) (m := Λ.ents.length) (k := Λ.zxs.length) (Λ.met (cutZ δ ω (((headL Λ.base Λ.snap).length + n : Nat) : Int)).2.2) (by (repeat' constructor)) (by rw [met_acc, met_cur, met_base, met_snap]) (by rw [met_ents]) (by rw [met_zxs]) (by rw [met_ents]) (by rw [met_zxs]) ?_
       exact G.dn (l := [.tmp 4]) rfl rfl ⟨rfl, rfl⟩
    ·rintro v L' ⟨rfl, rfl⟩
     refine D.h rfl (by kernel_rfl) (Quiet.spec (L := [ptc g [vint Λ.acc, vint Λ.cur, vptr x, vint Λ.base, vstr Λ.snap, .slice ea Λ.ents.length ec, .slice za Λ.zxs.length zc, .bool Λ.doubt] 79]) (Quiet.load rfl ag_9 (by (repeat' constructor)) rfl)) (by (repeat' constructor)) ?nx100
     rintro v L' ⟨rfl, rfl⟩
     refine D.h rfl (by kernel_rfl) (OpSpec.call Tryz.func46 rfl rfl (vs := [_, _]) rfl (lahead_spec Λ.base Λ.snap hΛ.base (by omega))) (by (repeat' constructor)) ?nx102
     rintro v L' ⟨bh, ch, rfl, rfl⟩
     refine D.kw [16, 17] rfl (Quiet.slen rfl Tryz.underlying46 rfl) ?_
     refine D.kw [17] rfl (Quiet.as (v' := vint (((headL Λ.base Λ.snap).length + n : Nat) : Int)) (by simp) (Quiet.add rfl rfl (by omega))) ?_
     refine D.h rfl (by kernel_rfl) (OpSpec.call Tryz.func75 rfl rfl (vs := [_, _]) rfl (wcut_spec x d ω δ (((headL Λ.base Λ.snap).length + n : Nat) : Int) hI)) (by (repeat' constructor)) ?nx106
     rintro v L' ⟨rfl, rfl⟩
     refine D.ph ?_
     refine Phases.go [] (by (repeat' constructor)) ?_
     refine D.h rfl (by kernel_rfl) (OpSpec.call Tryz.func50 rfl rfl (vs := [_, _]) rfl (lmetC_spec g x Λ _ ea ec za zc)) (by (repeat' constructor)) ?nx108
     rintro v L' ⟨rfl, rfl⟩
     refine D.ph ?_
     refine Phases.go [] (by (repeat' constructor)) ?_
     refine D.kw [] rfl (Quiet.assign rfl) ?_
     refine D.ph (Phases.fin (G.then_n (G.seq (G.seq (G.region (G.mv rfl rfl (G.q (Quiet.int rfl rfl rfl) rfl (G.nil (G.then_n ?_)))))))))
     refine G.condD rfl (fun h40 => ?_) (fun h40 => ?_)
     ·refine G.draw [16, 19] [[0, 1, 2, 3, 4, 5, 6, 7, 8, 9, 10, 11, 12, 13, 14, 15, 16], [17, 18, 19]] mixed (by kernel_rfl) ?_
      refine Phases.go [] (by (repeat' constructor)) ?_
      refine D.kw [14, 15, 16] rfl (Quiet.move rfl) ?_
      refine D.k rfl (Quiet.move rfl) ?_
      refine D.kw [3, 4, 5, 7, 14, 15, 16] rfl (Quiet.move rfl) ?_
      refine D.kw [4, 5, 7, 14, 15, 16] rfl (Quiet.nilp rfl) ?_
      refine D.kw [5, 7, 14, 15, 16] rfl (Quiet.fieldAddr rfl fo_79_4) ?_
      refine D.kw [7, 14, 15, 16] rfl (Quiet.ld rfl ag_46) ?_
      refine D.kw [7, 14, 15, 16] rfl (Quiet.move rfl) ?_
      refine D.kw [14, 15, 16] rfl (Quiet.to (v' := .slice ea n ec) (Quiet.slTo (j := (n : Int)) rfl el_46 rfl (by omega) hadea) (by rw [Int.toNat_natCast])) ?_
      refine D.kw [9, 10, 11, 13, 14, 15, 16] rfl (Quiet.move rfl) ?_
      refine D.kw [10, 11, 13, 14, 15, 16] rfl (Quiet.nilp rfl) ?_
      refine D.kw [11, 13, 14, 15, 16] rfl (Quiet.fieldAddr rfl fo_79_5) ?_
      refine D.kw [13, 14, 15, 16] rfl (Quiet.ld rfl ag_31) ?_
      refine D.k rfl (Quiet.move rfl) ?_
      refine D.k rfl (Quiet.to (v' := .slice za n zc) (Quiet.slTo (j := (n : Int)) rfl el_31 rfl (by omega) hadza) (by rw [Int.toNat_natCast])) ?_
      refine D.kw [15, 16] rfl (Quiet.nilp rfl) ?_
      refine D.kw [16] rfl (Quiet.fieldAddr rfl fo_79_4) ?_
      refine D.h rfl (by kernel_rfl) (OpSpec.store rfl rfl rfl sz_46 ?c125 ?c126) (by (repeat' constructor)) ?nx127
      case c125 => first | decide | (simp; omega) | simp
      case c126 => exact nfz0 _ _
      rintro v L' rfl
      refine D.ph ?_
      refine Phases.go [] (by (repeat' constructor)) ?_
      refine D.kw [18, 19] rfl (Quiet.nilp rfl) ?_
      refine D.kw [19] rfl (Quiet.fieldAddr rfl fo_79_5) ?_
      refine D.h rfl (by kernel_rfl) (OpSpec.store rfl rfl rfl sz_31 ?c130 ?c131) (by (repeat' constructor)) ?nx132
      case c130 => first | decide | (simp; omega) | simp
      case c131 => exact nfz0 _ _
      rintro v L' rfl
      refine D.ph (Phases.fin (G.then_n (G.seq (G.region (G.mv rfl rfl (G.ag rfl rfl (G.nil (G.then_n (G.ret ?_)))))))))
      have hr : lgCut ⟨δ, ω, Λ⟩ z = lgCut2 ⟨δ, ω, Λ⟩ n := by unfold lgCut; dsimp only; rw [if_neg (by rw [h11]; decide), hpl]
      rw [hr]
      have hr2 : lgCut2 ⟨δ, ω, Λ⟩ n = (⟨(cutZ δ ω (((headL Λ.base Λ.snap).length + n : Nat) : Int)).1, (cutZ δ ω (((headL Λ.base Λ.snap).length + n : Nat) : Int)).2.1, ⟨Λ.acc, Λ.cur, Λ.base, Λ.snap, Λ.ents.take n, Λ.zxs.take n, Λ.doubt⟩⟩, 0) := by unfold lgCut2; dsimp only; rw [if_pos (show (metL Λ (cutZ δ ω (((headL Λ.base Λ.snap).length + n : Nat) : Int))).2 = 0 from h40)]
      rw [hr2, h40]
      try dsimp only
      refine G.slTo (a := ea) (c := ec) (m := Λ.ents.length) (k := n) (by omega) (by (repeat' constructor)) ?_
      refine G.slTo (a := za) (c := zc) (m := Λ.zxs.length) (k := n) (by omega) (by (repeat' constructor)) ?_
      have hmd : (Λ.met (cutZ δ ω (((headL Λ.base Λ.snap).length + n : Nat) : Int)).2.2).doubt = Λ.doubt := by unfold Lg.met; rw [if_neg (fun g2 => by rw [g2] at h40; exact absurd h40 (by decide))]
      rw [hmd]
      refine G.lgFold (g := g) (x := x) (ea := ea) (ec := ec) (za := za) (zc := zc) (m := n) (k := n) (⟨Λ.acc, Λ.cur, Λ.base, Λ.snap, Λ.ents.take n, Λ.zxs.take n, Λ.doubt⟩ : Lg) (by (repeat' constructor)) rfl (by simp; omega) (by simp; omega) (by simp [strs, List.map_take]) (by simp [ints, List.map_take]) ?_
      exact G.dn (l := [.tmp 4]) rfl rfl ⟨rfl, rfl⟩
     ·refine G.skip (G.then_n (G.seq (G.region (G.mv rfl rfl (G.ag rfl rfl (G.nil (G.then_n (G.ret ?_))))))))
      have hr : lgCut ⟨δ, ω, Λ⟩ z = lgCut2 ⟨δ, ω, Λ⟩ n := by unfold lgCut; dsimp only; rw [if_neg (by rw [h11]; decide), hpl]
      rw [hr]
      have hr2 : lgCut2 ⟨δ, ω, Λ⟩ n = metL Λ (cutZ δ ω (((headL Λ.base Λ.snap).length + n : Nat) : Int)) := by unfold lgCut2; dsimp only; rw [if_neg (show ¬ (metL Λ (cutZ δ ω (((headL Λ.base Λ.snap).length + n : Nat) : Int))).2 = 0 from h40)]
      rw [hr2]
      try dsimp only
      refine G.lgFold (g := g) (x := x) (ea := ea) (ec := ec) (za := za) (zc := zc) (m := Λ.ents.length) (k := Λ.zxs.length) (Λ.met (cutZ δ ω (((headL Λ.base Λ.snap).length + n : Nat) : Int)).2.2) (by (repeat' constructor)) (by rw [met_acc, met_cur, met_base, met_snap]) (by rw [met_ents]) (by rw [met_zxs]) (by rw [met_ents]) (by rw [met_zxs]) ?_
      exact G.dn (l := [.tmp 4]) rfl rfl ⟨rfl, rfl⟩
   ·rintro v L' ⟨rfl, rfl⟩
    refine D.h2 (k := 4) rfl rfl (by kernel_rfl) rfl (Quiet.spec (L := [ptc g [vint Λ.acc, vint Λ.cur, vptr x, vint Λ.base, vstr Λ.snap, .slice ea Λ.ents.length ec, .slice za Λ.zxs.length zc, .bool Λ.doubt] 79]) (Quiet.load rfl ag_3 (by (repeat' constructor)) rfl)) (by (repeat' constructor)) (Quiet.spec (L := [ptc g [vint Λ.acc, vint Λ.cur, vptr x, vint Λ.base, vstr Λ.snap, .slice ea Λ.ents.length ec, .slice za Λ.zxs.length zc, .bool Λ.doubt] 79]) (Quiet.load rfl ag_77 (by (repeat' constructor)) rfl)) (by (repeat' constructor)) ?nx134 ?nx135
    ·rintro v L' ⟨rfl, rfl⟩
     refine D.h2 (k := 4) rfl rfl (by kernel_rfl) rfl (OpSpec.call Tryz.func46 rfl rfl (vs := [_, _]) rfl (lahead_spec Λ.base Λ.snap hΛ.base (by omega))) (by (repeat' constructor)) (Quiet.spec (L := [ptc g [vint Λ.acc, vint Λ.cur, vptr x, vint Λ.base, vstr Λ.snap, .slice ea Λ.ents.length ec, .slice za Λ.zxs.length zc, .bool Λ.doubt] 79]) (Quiet.load rfl ag_77 (by (repeat' constructor)) rfl)) (by (repeat' constructor)) ?nx137 ?nx138
     ·rintro v L' ⟨bh, ch, rfl, rfl⟩
      refine D.k rfl (Quiet.slen rfl Tryz.underlying46 rfl) ?_
      refine D.k rfl (Quiet.as (v' := vint (((headL Λ.base Λ.snap).length + n : Nat) : Int)) (by simp) (Quiet.add rfl rfl (by omega))) ?_
      refine D.h rfl (by kernel_rfl) (Quiet.spec (L := [ptc g [vint Λ.acc, vint Λ.cur, vptr x, vint Λ.base, vstr Λ.snap, .slice ea Λ.ents.length ec, .slice za Λ.zxs.length zc, .bool Λ.doubt] 79]) (Quiet.load rfl ag_77 (by (repeat' constructor)) rfl)) (by (repeat' constructor)) ?nx142
      rintro v L' ⟨rfl, rfl⟩
      refine D.h rfl (by kernel_rfl) (OpSpec.call Tryz.func75 rfl rfl (vs := [_, _]) rfl (wcut_spec x d ω δ (((headL Λ.base Λ.snap).length + n : Nat) : Int) hI)) (by (repeat' constructor)) ?nx144
      rintro v L' ⟨rfl, rfl⟩
      refine D.ph ?_
      refine Phases.go [] (by (repeat' constructor)) ?_
      refine D.h rfl (by kernel_rfl) (OpSpec.call Tryz.func50 rfl rfl (vs := [_, _]) rfl (lmetC_spec g x Λ _ ea ec za zc)) (by (repeat' constructor)) ?nx146
      rintro v L' ⟨rfl, rfl⟩
      refine D.ph ?_
      refine Phases.go [] (by (repeat' constructor)) ?_
      refine D.kw [] rfl (Quiet.assign rfl) ?_
      refine D.ph (Phases.fin (G.then_n (G.seq (G.seq (G.region (G.mv rfl rfl (G.q (Quiet.int rfl rfl rfl) rfl (G.nil (G.then_n ?_)))))))))
      refine G.condD rfl (fun h40 => ?_) (fun h40 => ?_)
      ·refine G.draw [16, 19] [[0, 1, 2, 3, 4, 5, 6, 7, 8, 9, 10, 11, 12, 13, 14, 15, 16], [17, 18, 19]] mixed (by kernel_rfl) ?_
       refine Phases.go [] (by (repeat' constructor)) ?_
       refine D.kw [14, 15, 16] rfl (Quiet.move rfl) ?_
       refine D.k rfl (Quiet.move rfl) ?_
       refine D.kw [3, 4, 5, 7, 14, 15, 16] rfl (Quiet.move rfl) ?_
       refine D.kw [4, 5, 7, 14, 15, 16] rfl (Quiet.nilp rfl) ?_
       refine D.kw [5, 7, 14, 15, 16] rfl (Quiet.fieldAddr rfl fo_79_4) ?_
       refine D.kw [7, 14, 15, 16] rfl (Quiet.ld rfl ag_46) ?_
       refine D.kw [7, 14, 15, 16] rfl (Quiet.move rfl) ?_
       refine D.kw [14, 15, 16] rfl (Quiet.to (v' := .slice ea n ec) (Quiet.slTo (j := (n : Int)) rfl el_46 rfl (by omega) hadea) (by rw [Int.toNat_natCast])) ?_
       refine D.kw [9, 10, 11, 13, 14, 15, 16] rfl (Quiet.move rfl) ?_
       refine D.kw [10, 11, 13, 14, 15, 16] rfl (Quiet.nilp rfl) ?_
       refine D.kw [11, 13, 14, 15, 16] rfl (Quiet.fieldAddr rfl fo_79_5) ?_
       refine D.kw [13, 14, 15, 16] rfl (Quiet.ld rfl ag_31) ?_
       refine D.k rfl (Quiet.move rfl) ?_
       refine D.k rfl (Quiet.to (v' := .slice za n zc) (Quiet.slTo (j := (n : Int)) rfl el_31 rfl (by omega) hadza) (by rw [Int.toNat_natCast])) ?_
       refine D.kw [15, 16] rfl (Quiet.nilp rfl) ?_
       refine D.kw [16] rfl (Quiet.fieldAddr rfl fo_79_4) ?_
       refine D.h rfl (by kernel_rfl) (OpSpec.store rfl rfl rfl sz_46 ?c163 ?c164) (by (repeat' constructor)) ?nx165
       case c163 => first | decide | (simp; omega) | simp
       case c164 => exact nfz0 _ _
       rintro v L' rfl
       refine D.ph ?_
       refine Phases.go [] (by (repeat' constructor)) ?_
       refine D.kw [18, 19] rfl (Quiet.nilp rfl) ?_
       refine D.kw [19] rfl (Quiet.fieldAddr rfl fo_79_5) ?_
       refine D.h rfl (by kernel_rfl) (OpSpec.store rfl rfl rfl sz_31 ?c168 ?c169) (by (repeat' constructor)) ?nx170
       case c168 => first | decide | (simp; omega) | simp
       case c169 => exact nfz0 _ _
       rintro v L' rfl
       refine D.ph (Phases.fin (G.then_n (G.seq (G.region (G.mv rfl rfl (G.ag rfl rfl (G.nil (G.then_n (G.ret ?_)))))))))
       have hr : lgCut ⟨δ, ω, Λ⟩ z = lgCut2 ⟨δ, ω, Λ⟩ n := by unfold lgCut; dsimp only; rw [if_neg (by rw [h11]; decide), hpl]
       rw [hr]
       have hr2 : lgCut2 ⟨δ, ω, Λ⟩ n = (⟨(cutZ δ ω (((headL Λ.base Λ.snap).length + n : Nat) : Int)).1, (cutZ δ ω (((headL Λ.base Λ.snap).length + n : Nat) : Int)).2.1, ⟨Λ.acc, Λ.cur, Λ.base, Λ.snap, Λ.ents.take n, Λ.zxs.take n, Λ.doubt⟩⟩, 0) := by unfold lgCut2; dsimp only; rw [if_pos (show (metL Λ (cutZ δ ω (((headL Λ.base Λ.snap).length + n : Nat) : Int))).2 = 0 from h40)]
       rw [hr2, h40]
       try dsimp only
       refine G.slTo (a := ea) (c := ec) (m := Λ.ents.length) (k := n) (by omega) (by (repeat' constructor)) ?_
       refine G.slTo (a := za) (c := zc) (m := Λ.zxs.length) (k := n) (by omega) (by (repeat' constructor)) ?_
       have hmd : (Λ.met (cutZ δ ω (((headL Λ.base Λ.snap).length + n : Nat) : Int)).2.2).doubt = Λ.doubt := by unfold Lg.met; rw [if_neg (fun g2 => by rw [g2] at h40; exact absurd h40 (by decide))]
       rw [hmd]
       refine G.lgFold (g := g) (x := x) (ea := ea) (ec := ec) (za := za) (zc := zc) (m := n) (k := n) (⟨Λ.acc, Λ.cur, Λ.base, Λ.snap, Λ.ents.take n, Λ.zxs.take n, Λ.doubt⟩ : Lg) (by (repeat' constructor)) rfl (by simp; omega) (by simp; omega) (by simp [strs, List.map_take]) (by simp [ints, List.map_take]) ?_
       exact G.dn (l := [.tmp 4]) rfl rfl ⟨rfl, rfl⟩
      ·refine G.skip (G.then_n (G.seq (G.region (G.mv rfl rfl (G.ag rfl rfl (G.nil (G.then_n (G.ret ?_))))))))
       have hr : lgCut ⟨δ, ω, Λ⟩ z = lgCut2 ⟨δ, ω, Λ⟩ n := by unfold lgCut; dsimp only; rw [if_neg (by rw [h11]; decide), hpl]
       rw [hr]
       have hr2 : lgCut2 ⟨δ, ω, Λ⟩ n = metL Λ (cutZ δ ω (((headL Λ.base Λ.snap).length + n : Nat) : Int)) := by unfold lgCut2; dsimp only; rw [if_neg (show ¬ (metL Λ (cutZ δ ω (((headL Λ.base Λ.snap).length + n : Nat) : Int))).2 = 0 from h40)]
       rw [hr2]
       try dsimp only
       refine G.lgFold (g := g) (x := x) (ea := ea) (ec := ec) (za := za) (zc := zc) (m := Λ.ents.length) (k := Λ.zxs.length) (Λ.met (cutZ δ ω (((headL Λ.base Λ.snap).length + n : Nat) : Int)).2.2) (by (repeat' constructor)) (by rw [met_acc, met_cur, met_base, met_snap]) (by rw [met_ents]) (by rw [met_zxs]) (by rw [met_ents]) (by rw [met_zxs]) ?_
       exact G.dn (l := [.tmp 4]) rfl rfl ⟨rfl, rfl⟩
     ·rintro v L' ⟨rfl, rfl⟩
      refine D.h rfl (by kernel_rfl) (OpSpec.call Tryz.func46 rfl rfl (vs := [_, _]) rfl (lahead_spec Λ.base Λ.snap hΛ.base (by omega))) (by (repeat' constructor)) ?nx172
      rintro v L' ⟨bh, ch, rfl, rfl⟩
      refine D.kw [16, 17] rfl (Quiet.slen rfl Tryz.underlying46 rfl) ?_
      refine D.kw [17] rfl (Quiet.as (v' := vint (((headL Λ.base Λ.snap).length + n : Nat) : Int)) (by simp) (Quiet.add rfl rfl (by omega))) ?_
      refine D.h rfl (by kernel_rfl) (OpSpec.call Tryz.func75 rfl rfl (vs := [_, _]) rfl (wcut_spec x d ω δ (((headL Λ.base Λ.snap).length + n : Nat) : Int) hI)) (by (repeat' constructor)) ?nx176
      rintro v L' ⟨rfl, rfl⟩
      refine D.ph ?_
      refine Phases.go [] (by (repeat' constructor)) ?_
      refine D.h rfl (by kernel_rfl) (OpSpec.call Tryz.func50 rfl rfl (vs := [_, _]) rfl (lmetC_spec g x Λ _ ea ec za zc)) (by (repeat' constructor)) ?nx178
      rintro v L' ⟨rfl, rfl⟩
      refine D.ph ?_
      refine Phases.go [] (by (repeat' constructor)) ?_
      refine D.kw [] rfl (Quiet.assign rfl) ?_
      refine D.ph (Phases.fin (G.then_n (G.seq (G.seq (G.region (G.mv rfl rfl (G.q (Quiet.int rfl rfl rfl) rfl (G.nil (G.then_n ?_)))))))))
      refine G.condD rfl (fun h40 => ?_) (fun h40 => ?_)
      ·refine G.draw [16, 19] [[0, 1, 2, 3, 4, 5, 6, 7, 8, 9, 10, 11, 12, 13, 14, 15, 16], [17, 18, 19]] mixed (by kernel_rfl) ?_
       refine Phases.go [] (by (repeat' constructor)) ?_
       refine D.kw [14, 15, 16] rfl (Quiet.move rfl) ?_
       refine D.k rfl (Quiet.move rfl) ?_
       refine D.kw [3, 4, 5, 7, 14, 15, 16] rfl (Quiet.move rfl) ?_
       refine D.kw [4, 5, 7, 14, 15, 16] rfl (Quiet.nilp rfl) ?_
       refine D.kw [5, 7, 14, 15, 16] rfl (Quiet.fieldAddr rfl fo_79_4) ?_
       refine D.kw [7, 14, 15, 16] rfl (Quiet.ld rfl ag_46) ?_
       refine D.kw [7, 14, 15, 16] rfl (Quiet.move rfl) ?_
       refine D.kw [14, 15, 16] rfl (Quiet.to (v' := .slice ea n ec) (Quiet.slTo (j := (n : Int)) rfl el_46 rfl (by omega) hadea) (by rw [Int.toNat_natCast])) ?_
       refine D.kw [9, 10, 11, 13, 14, 15, 16] rfl (Quiet.move rfl) ?_
       refine D.kw [10, 11, 13, 14, 15, 16] rfl (Quiet.nilp rfl) ?_
       refine D.kw [11, 13, 14, 15, 16] rfl (Quiet.fieldAddr rfl fo_79_5) ?_
       refine D.kw [13, 14, 15, 16] rfl (Quiet.ld rfl ag_31) ?_
       refine D.k rfl (Quiet.move rfl) ?_
       refine D.k rfl (Quiet.to (v' := .slice za n zc) (Quiet.slTo (j := (n : Int)) rfl el_31 rfl (by omega) hadza) (by rw [Int.toNat_natCast])) ?_
       refine D.kw [15, 16] rfl (Quiet.nilp rfl) ?_
       refine D.kw [16] rfl (Quiet.fieldAddr rfl fo_79_4) ?_
       refine D.h rfl (by kernel_rfl) (OpSpec.store rfl rfl rfl sz_46 ?c195 ?c196) (by (repeat' constructor)) ?nx197
       case c195 => first | decide | (simp; omega) | simp
       case c196 => exact nfz0 _ _
       rintro v L' rfl
       refine D.ph ?_
       refine Phases.go [] (by (repeat' constructor)) ?_
       refine D.kw [18, 19] rfl (Quiet.nilp rfl) ?_
       refine D.kw [19] rfl (Quiet.fieldAddr rfl fo_79_5) ?_
       refine D.h rfl (by kernel_rfl) (OpSpec.store rfl rfl rfl sz_31 ?c200 ?c201) (by (repeat' constructor)) ?nx202
       case c200 => first | decide | (simp; omega) | simp
       case c201 => exact nfz0 _ _
       rintro v L' rfl
       refine D.ph (Phases.fin (G.then_n (G.seq (G.region (G.mv rfl rfl (G.ag rfl rfl (G.nil (G.then_n (G.ret ?_)))))))))
       have hr : lgCut ⟨δ, ω, Λ⟩ z = lgCut2 ⟨δ, ω, Λ⟩ n := by unfold lgCut; dsimp only; rw [if_neg (by rw [h11]; decide), hpl]
       rw [hr]
       have hr2 : lgCut2 ⟨δ, ω, Λ⟩ n = (⟨(cutZ δ ω (((headL Λ.base Λ.snap).length + n : Nat) : Int)).1, (cutZ δ ω (((headL Λ.base Λ.snap).length + n : Nat) : Int)).2.1, ⟨Λ.acc, Λ.cur, Λ.base, Λ.snap, Λ.ents.take n, Λ.zxs.take n, Λ.doubt⟩⟩, 0) := by unfold lgCut2; dsimp only; rw [if_pos (show (metL Λ (cutZ δ ω (((headL Λ.base Λ.snap).length + n : Nat) : Int))).2 = 0 from h40)]
       rw [hr2, h40]
       try dsimp only
       refine G.slTo (a := ea) (c := ec) (m := Λ.ents.length) (k := n) (by omega) (by (repeat' constructor)) ?_
       refine G.slTo (a := za) (c := zc) (m := Λ.zxs.length) (k := n) (by omega) (by (repeat' constructor)) ?_
       have hmd : (Λ.met (cutZ δ ω (((headL Λ.base Λ.snap).length + n : Nat) : Int)).2.2).doubt = Λ.doubt := by unfold Lg.met; rw [if_neg (fun g2 => by rw [g2] at h40; exact absurd h40 (by decide))]
       rw [hmd]
       refine G.lgFold (g := g) (x := x) (ea := ea) (ec := ec) (za := za) (zc := zc) (m := n) (k := n) (⟨Λ.acc, Λ.cur, Λ.base, Λ.snap, Λ.ents.take n, Λ.zxs.take n, Λ.doubt⟩ : Lg) (by (repeat' constructor)) rfl (by simp; omega) (by simp; omega) (by simp [strs, List.map_take]) (by simp [ints, List.map_take]) ?_
       exact G.dn (l := [.tmp 4]) rfl rfl ⟨rfl, rfl⟩
      ·refine G.skip (G.then_n (G.seq (G.region (G.mv rfl rfl (G.ag rfl rfl (G.nil (G.then_n (G.ret ?_))))))))
       have hr : lgCut ⟨δ, ω, Λ⟩ z = lgCut2 ⟨δ, ω, Λ⟩ n := by unfold lgCut; dsimp only; rw [if_neg (by rw [h11]; decide), hpl]
       rw [hr]
       have hr2 : lgCut2 ⟨δ, ω, Λ⟩ n = metL Λ (cutZ δ ω (((headL Λ.base Λ.snap).length + n : Nat) : Int)) := by unfold lgCut2; dsimp only; rw [if_neg (show ¬ (metL Λ (cutZ δ ω (((headL Λ.base Λ.snap).length + n : Nat) : Int))).2 = 0 from h40)]
       rw [hr2]
       try dsimp only
       refine G.lgFold (g := g) (x := x) (ea := ea) (ec := ec) (za := za) (zc := zc) (m := Λ.ents.length) (k := Λ.zxs.length) (Λ.met (cutZ δ ω (((headL Λ.base Λ.snap).length + n : Nat) : Int)).2.2) (by (repeat' constructor)) (by rw [met_acc, met_cur, met_base, met_snap]) (by rw [met_ents]) (by rw [met_zxs]) (by rw [met_ents]) (by rw [met_zxs]) ?_
       exact G.dn (l := [.tmp 4]) rfl rfl ⟨rfl, rfl⟩
    ·rintro v L' ⟨rfl, rfl⟩
     refine D.h rfl (by kernel_rfl) (Quiet.spec (L := [ptc g [vint Λ.acc, vint Λ.cur, vptr x, vint Λ.base, vstr Λ.snap, .slice ea Λ.ents.length ec, .slice za Λ.zxs.length zc, .bool Λ.doubt] 79]) (Quiet.load rfl ag_3 (by (repeat' constructor)) rfl)) (by (repeat' constructor)) ?nx204
     rintro v L' ⟨rfl, rfl⟩
     refine D.h rfl (by kernel_rfl) (OpSpec.call Tryz.func46 rfl rfl (vs := [_, _]) rfl (lahead_spec Λ.base Λ.snap hΛ.base (by omega))) (by (repeat' constructor)) ?nx206
     rintro v L' ⟨bh, ch, rfl, rfl⟩
     refine D.kw [16, 17] rfl (Quiet.slen rfl Tryz.underlying46 rfl) ?_
     refine D.kw [17] rfl (Quiet.as (v' := vint (((headL Λ.base Λ.snap).length + n : Nat) : Int)) (by simp) (Quiet.add rfl rfl (by omega))) ?_
     refine D.h rfl (by kernel_rfl) (OpSpec.call Tryz.func75 rfl rfl (vs := [_, _]) rfl (wcut_spec x d ω δ (((headL Λ.base Λ.snap).length + n : Nat) : Int) hI)) (by (repeat' constructor)) ?nx210
     rintro v L' ⟨rfl, rfl⟩
     refine D.ph ?_
     refine Phases.go [] (by (repeat' constructor)) ?_
     refine D.h rfl (by kernel_rfl) (OpSpec.call Tryz.func50 rfl rfl (vs := [_, _]) rfl (lmetC_spec g x Λ _ ea ec za zc)) (by (repeat' constructor)) ?nx212
     rintro v L' ⟨rfl, rfl⟩
     refine D.ph ?_
     refine Phases.go [] (by (repeat' constructor)) ?_
     refine D.kw [] rfl (Quiet.assign rfl) ?_
     refine D.ph (Phases.fin (G.then_n (G.seq (G.seq (G.region (G.mv rfl rfl (G.q (Quiet.int rfl rfl rfl) rfl (G.nil (G.then_n ?_)))))))))
     refine G.condD rfl (fun h40 => ?_) (fun h40 => ?_)
     ·refine G.draw [16, 19] [[0, 1, 2, 3, 4, 5, 6, 7, 8, 9, 10, 11, 12, 13, 14, 15, 16], [17, 18, 19]] mixed (by kernel_rfl) ?_
      refine Phases.go [] (by (repeat' constructor)) ?_
      refine D.kw [14, 15, 16] rfl (Quiet.move rfl) ?_
      refine D.k rfl (Quiet.move rfl) ?_
      refine D.kw [3, 4, 5, 7, 14, 15, 16] rfl (Quiet.move rfl) ?_
      refine D.kw [4, 5, 7, 14, 15, 16] rfl (Quiet.nilp rfl) ?_
      refine D.kw [5, 7, 14, 15, 16] rfl (Quiet.fieldAddr rfl fo_79_4) ?_
      refine D.kw [7, 14, 15, 16] rfl (Quiet.ld rfl ag_46) ?_
      refine D.kw [7, 14, 15, 16] rfl (Quiet.move rfl) ?_
      refine D.kw [14, 15, 16] rfl (Quiet.to (v' := .slice ea n ec) (Quiet.slTo (j := (n : Int)) rfl el_46 rfl (by omega) hadea) (by rw [Int.toNat_natCast])) ?_
      refine D.kw [9, 10, 11, 13, 14, 15, 16] rfl (Quiet.move rfl) ?_
      refine D.kw [10, 11, 13, 14, 15, 16] rfl (Quiet.nilp rfl) ?_
      refine D.kw [11, 13, 14, 15, 16] rfl (Quiet.fieldAddr rfl fo_79_5) ?_
      refine D.kw [13, 14, 15, 16] rfl (Quiet.ld rfl ag_31) ?_
      refine D.k rfl (Quiet.move rfl) ?_
      refine D.k rfl (Quiet.to (v' := .slice za n zc) (Quiet.slTo (j := (n : Int)) rfl el_31 rfl (by omega) hadza) (by rw [Int.toNat_natCast])) ?_
      refine D.kw [15, 16] rfl (Quiet.nilp rfl) ?_
      refine D.kw [16] rfl (Quiet.fieldAddr rfl fo_79_4) ?_
      refine D.h rfl (by kernel_rfl) (OpSpec.store rfl rfl rfl sz_46 ?c229 ?c230) (by (repeat' constructor)) ?nx231
      case c229 => first | decide | (simp; omega) | simp
      case c230 => exact nfz0 _ _
      rintro v L' rfl
      refine D.ph ?_
      refine Phases.go [] (by (repeat' constructor)) ?_
      refine D.kw [18, 19] rfl (Quiet.nilp rfl) ?_
      refine D.kw [19] rfl (Quiet.fieldAddr rfl fo_79_5) ?_
      refine D.h rfl (by kernel_rfl) (OpSpec.store rfl rfl rfl sz_31 ?c234 ?c235) (by (repeat' constructor)) ?nx236
      case c234 => first | decide | (simp; omega) | simp
      case c235 => exact nfz0 _ _
      rintro v L' rfl
      refine D.ph (Phases.fin (G.then_n (G.seq (G.region (G.mv rfl rfl (G.ag rfl rfl (G.nil (G.then_n (G.ret ?_)))))))))
      have hr : lgCut ⟨δ, ω, Λ⟩ z = lgCut2 ⟨δ, ω, Λ⟩ n := by unfold lgCut; dsimp only; rw [if_neg (by rw [h11]; decide), hpl]
      rw [hr]
      have hr2 : lgCut2 ⟨δ, ω, Λ⟩ n = (⟨(cutZ δ ω (((headL Λ.base Λ.snap).length + n : Nat) : Int)).1, (cutZ δ ω (((headL Λ.base Λ.snap).length + n : Nat) : Int)).2.1, ⟨Λ.acc, Λ.cur, Λ.base, Λ.snap, Λ.ents.take n, Λ.zxs.take n, Λ.doubt⟩⟩, 0) := by unfold lgCut2; dsimp only; rw [if_pos (show (metL Λ (cutZ δ ω (((headL Λ.base Λ.snap).length + n : Nat) : Int))).2 = 0 from h40)]
      rw [hr2, h40]
      try dsimp only
      refine G.slTo (a := ea) (c := ec) (m := Λ.ents.length) (k := n) (by omega) (by (repeat' constructor)) ?_
      refine G.slTo (a := za) (c := zc) (m := Λ.zxs.length) (k := n) (by omega) (by (repeat' constructor)) ?_
      have hmd : (Λ.met (cutZ δ ω (((headL Λ.base Λ.snap).length + n : Nat) : Int)).2.2).doubt = Λ.doubt := by unfold Lg.met; rw [if_neg (fun g2 => by rw [g2] at h40; exact absurd h40 (by decide))]
      rw [hmd]
      refine G.lgFold (g := g) (x := x) (ea := ea) (ec := ec) (za := za) (zc := zc) (m := n) (k := n) (⟨Λ.acc, Λ.cur, Λ.base, Λ.snap, Λ.ents.take n, Λ.zxs.take n, Λ.doubt⟩ : Lg) (by (repeat' constructor)) rfl (by simp; omega) (by simp; omega) (by simp [strs, List.map_take]) (by simp [ints, List.map_take]) ?_
      exact G.dn (l := [.tmp 4]) rfl rfl ⟨rfl, rfl⟩
     ·refine G.skip (G.then_n (G.seq (G.region (G.mv rfl rfl (G.ag rfl rfl (G.nil (G.then_n (G.ret ?_))))))))
      have hr : lgCut ⟨δ, ω, Λ⟩ z = lgCut2 ⟨δ, ω, Λ⟩ n := by unfold lgCut; dsimp only; rw [if_neg (by rw [h11]; decide), hpl]
      rw [hr]
      have hr2 : lgCut2 ⟨δ, ω, Λ⟩ n = metL Λ (cutZ δ ω (((headL Λ.base Λ.snap).length + n : Nat) : Int)) := by unfold lgCut2; dsimp only; rw [if_neg (show ¬ (metL Λ (cutZ δ ω (((headL Λ.base Λ.snap).length + n : Nat) : Int))).2 = 0 from h40)]
      rw [hr2]
      try dsimp only
      refine G.lgFold (g := g) (x := x) (ea := ea) (ec := ec) (za := za) (zc := zc) (m := Λ.ents.length) (k := Λ.zxs.length) (Λ.met (cutZ δ ω (((headL Λ.base Λ.snap).length + n : Nat) : Int)).2.2) (by (repeat' constructor)) (by rw [met_acc, met_cur, met_base, met_snap]) (by rw [met_ents]) (by rw [met_zxs]) (by rw [met_ents]) (by rw [met_zxs]) ?_
      exact G.dn (l := [.tmp 4]) rfl rfl ⟨rfl, rfl⟩
   ·rintro v L' ⟨rfl, rfl⟩
    refine D.h2 (k := 12) rfl rfl (by kernel_rfl) rfl (Quiet.spec (L := [ptc g [vint Λ.acc, vint Λ.cur, vptr x, vint Λ.base, vstr Λ.snap, .slice ea Λ.ents.length ec, .slice za Λ.zxs.length zc, .bool Λ.doubt] 79]) (Quiet.load rfl ag_3 (by (repeat' constructor)) rfl)) (by (repeat' constructor)) (Quiet.spec (L := [ptc g [vint Λ.acc, vint Λ.cur, vptr x, vint Λ.base, vstr Λ.snap, .slice ea Λ.ents.length ec, .slice za Λ.zxs.length zc, .bool Λ.doubt] 79]) (Quiet.load rfl ag_9 (by (repeat' constructor)) rfl)) (by (repeat' constructor)) ?nx238 ?nx239
    ·rintro v L' ⟨rfl, rfl⟩
     refine D.h rfl (by kernel_rfl) (Quiet.spec (L := [ptc g [vint Λ.acc, vint Λ.cur, vptr x, vint Λ.base, vstr Λ.snap, .slice ea Λ.ents.length ec, .slice za Λ.zxs.length zc, .bool Λ.doubt] 79]) (Quiet.load rfl ag_9 (by (repeat' constructor)) rfl)) (by (repeat' constructor)) ?nx241
     rintro v L' ⟨rfl, rfl⟩
     refine D.h rfl (by kernel_rfl) (OpSpec.call Tryz.func46 rfl rfl (vs := [_, _]) rfl (lahead_spec Λ.base Λ.snap hΛ.base (by omega))) (by (repeat' constructor)) ?nx243
     rintro v L' ⟨bh, ch, rfl, rfl⟩
     refine D.kw [16, 17] rfl (Quiet.slen rfl Tryz.underlying46 rfl) ?_
     refine D.kw [17] rfl (Quiet.as (v' := vint (((headL Λ.base Λ.snap).length + n : Nat) : Int)) (by simp) (Quiet.add rfl rfl (by omega))) ?_
     refine D.h rfl (by kernel_rfl) (OpSpec.call Tryz.func75 rfl rfl (vs := [_, _]) rfl (wcut_spec x d ω δ (((headL Λ.base Λ.snap).length + n : Nat) : Int) hI)) (by (repeat' constructor)) ?nx247
     rintro v L' ⟨rfl, rfl⟩
     refine D.ph ?_
     refine Phases.go [] (by (repeat' constructor)) ?_
     refine D.h rfl (by kernel_rfl) (OpSpec.call Tryz.func50 rfl rfl (vs := [_, _]) rfl (lmetC_spec g x Λ _ ea ec za zc)) (by (repeat' constructor)) ?nx249
     rintro v L' ⟨rfl, rfl⟩
     refine D.ph ?_
     refine Phases.go [] (by (repeat' constructor)) ?_
     refine D.kw [] rfl (Quiet.assign rfl) ?_
     refine D.ph (Phases.fin (G.then_n (G.seq (G.seq (G.region (G.mv rfl rfl (G.q (Quiet.int rfl rfl rfl) rfl (G.nil (G.then_n ?_)))))))))
     refine G.condD rfl (fun h40 => ?_) (fun h40 => ?_)
     ·refine G.draw [16, 19] [[0, 1, 2, 3, 4, 5, 6, 7, 8, 9, 10, 11, 12, 13, 14, 15, 16], [17, 18, 19]] mixed (by kernel_rfl) ?_
      refine Phases.go [] (by (repeat' constructor)) ?_
      refine D.kw [14, 15, 16] rfl (Quiet.move rfl) ?_
      refine D.k rfl (Quiet.move rfl) ?_
      refine D.kw [3, 4, 5, 7, 14, 15, 16] rfl (Quiet.move rfl) ?_
      refine D.kw [4, 5, 7, 14, 15, 16] rfl (Quiet.nilp rfl) ?_
      refine D.kw [5, 7, 14, 15, 16] rfl (Quiet.fieldAddr rfl fo_79_4) ?_
      refine D.kw [7, 14, 15, 16] rfl (Quiet.ld rfl ag_46) ?_
      refine D.kw [7, 14, 15, 16] rfl (Quiet.move rfl) ?_
      refine D.kw [14, 15, 16] rfl (Quiet.to (v' := .slice ea n ec) (Quiet.slTo (j := (n : Int)) rfl el_46 rfl (by omega) hadea) (by rw [Int.toNat_natCast])) ?_
      refine D.kw [9, 10, 11, 13, 14, 15, 16] rfl (Quiet.move rfl) ?_
      refine D.kw [10, 11, 13, 14, 15, 16] rfl (Quiet.nilp rfl) ?_
      refine D.kw [11, 13, 14, 15, 16] rfl (Quiet.fieldAddr rfl fo_79_5) ?_
      refine D.kw [13, 14, 15, 16] rfl (Quiet.ld rfl ag_31) ?_
      refine D.k rfl (Quiet.move rfl) ?_
      refine D.k rfl (Quiet.to (v' := .slice za n zc) (Quiet.slTo (j := (n : Int)) rfl el_31 rfl (by omega) hadza) (by rw [Int.toNat_natCast])) ?_
      refine D.kw [15, 16] rfl (Quiet.nilp rfl) ?_
      refine D.kw [16] rfl (Quiet.fieldAddr rfl fo_79_4) ?_
      refine D.h rfl (by kernel_rfl) (OpSpec.store rfl rfl rfl sz_46 ?c266 ?c267) (by (repeat' constructor)) ?nx268
      case c266 => first | decide | (simp; omega) | simp
      case c267 => exact nfz0 _ _
      rintro v L' rfl
      refine D.ph ?_
      refine Phases.go [] (by (repeat' constructor)) ?_
      refine D.kw [18, 19] rfl (Quiet.nilp rfl) ?_
      refine D.kw [19] rfl (Quiet.fieldAddr rfl fo_79_5) ?_
      refine D.h rfl (by kernel_rfl) (OpSpec.store rfl rfl rfl sz_31 ?c271 ?c272) (by (repeat' constructor)) ?nx273
      case c271 => first | decide | (simp; omega) | simp
      case c272 => exact nfz0 _ _
      rintro v L' rfl
      refine D.ph (Phases.fin (G.then_n (G.seq (G.region (G.mv rfl rfl (G.ag rfl rfl (G.nil (G.then_n (G.ret ?_)))))))))
      have hr : lgCut ⟨δ, ω, Λ⟩ z = lgCut2 ⟨δ, ω, Λ⟩ n := by unfold lgCut; dsimp only; rw [if_neg (by rw [h11]; decide), hpl]
      rw [hr]
      have hr2 : lgCut2 ⟨δ, ω, Λ⟩ n = (⟨(cutZ δ ω (((headL Λ.base Λ.snap).length + n : Nat) : Int)).1, (cutZ δ ω (((headL Λ.base Λ.snap).length + n : Nat) : Int)).2.1, ⟨Λ.acc, Λ.cur, Λ.base, Λ.snap, Λ.ents.take n, Λ.zxs.take n, Λ.doubt⟩⟩, 0) := by unfold lgCut2; dsimp only; rw [if_pos (show (metL Λ (cutZ δ ω (((headL Λ.base Λ.snap).length + n : Nat) : Int))).2 = 0 from h40)]
      rw [hr2, h40]
      try dsimp only
      refine G.slTo (a := ea) (c := ec) (m := Λ.ents.length) (k := n) (by omega) (by (repeat' constructor)) ?_
      refine G.slTo (a := za) (c := zc) (m := Λ.zxs.length) (k := n) (by omega) (by (repeat' constructor)) ?_
      have hmd : (Λ.met (cutZ δ ω (((headL Λ.base Λ.snap).length + n : Nat) : Int)).2.2).doubt = Λ.doubt := by unfold Lg.met; rw [if_neg (fun g2 => by rw [g2] at h40; exact absurd h40 (by decide))]
      rw [hmd]
      refine G.lgFold (g := g) (x := x) (ea := ea) (ec := ec) (za := za) (zc := zc) (m := n) (k := n) (⟨Λ.acc, Λ.cur, Λ.base, Λ.snap, Λ.ents.take n, Λ.zxs.take n, Λ.doubt⟩ : Lg) (by (repeat' constructor)) rfl (by simp; omega) (by simp; omega) (by simp [strs, List.map_take]) (by simp [ints, List.map_take]) ?_
      exact G.dn (l := [.tmp 4]) rfl rfl ⟨rfl, rfl⟩
     ·refine G.skip (G.then_n (G.seq (G.region (G.mv rfl rfl (G.ag rfl rfl (G.nil (G.then_n (G.ret ?_))))))))
      have hr : lgCut ⟨δ, ω, Λ⟩ z = lgCut2 ⟨δ, ω, Λ⟩ n := by unfold lgCut; dsimp only; rw [if_neg (by rw [h11]; decide), hpl]
      rw [hr]
      have hr2 : lgCut2 ⟨δ, ω, Λ⟩ n = metL Λ (cutZ δ ω (((headL Λ.base Λ.snap).length + n : Nat) : Int)) := by unfold lgCut2; dsimp only; rw [if_neg (show ¬ (metL Λ (cutZ δ ω (((headL Λ.base Λ.snap).length + n : Nat) : Int))).2 = 0 from h40)]
      rw [hr2]
      try dsimp only
      refine G.lgFold (g := g) (x := x) (ea := ea) (ec := ec) (za := za) (zc := zc) (m := Λ.ents.length) (k := Λ.zxs.length) (Λ.met (cutZ δ ω (((headL Λ.base Λ.snap).length + n : Nat) : Int)).2.2) (by (repeat' constructor)) (by rw [met_acc, met_cur, met_base, met_snap]) (by rw [met_ents]) (by rw [met_zxs]) (by rw [met_ents]) (by rw [met_zxs]) ?_
      exact G.dn (l := [.tmp 4]) rfl rfl ⟨rfl, rfl⟩
    ·rintro v L' ⟨rfl, rfl⟩
     refine D.h rfl (by kernel_rfl) (Quiet.spec (L := [ptc g [vint Λ.acc, vint Λ.cur, vptr x, vint Λ.base, vstr Λ.snap, .slice ea Λ.ents.length ec, .slice za Λ.zxs.length zc, .bool Λ.doubt] 79]) (Quiet.load rfl ag_3 (by (repeat' constructor)) rfl)) (by (repeat' constructor)) ?nx275
     rintro v L' ⟨rfl, rfl⟩
     refine D.h rfl (by kernel_rfl) (OpSpec.call Tryz.func46 rfl rfl (vs := [_, _]) rfl (lahead_spec Λ.base Λ.snap hΛ.base (by omega))) (by (repeat' constructor)) ?nx277
     rintro v L' ⟨bh, ch, rfl, rfl⟩
     refine D.kw [16, 17] rfl (Quiet.slen rfl Tryz.underlying46 rfl) ?_
     refine D.kw [17] rfl (Quiet.as (v' := vint (((headL Λ.base Λ.snap).length + n : Nat) : Int)) (by simp) (Quiet.add rfl rfl (by omega))) ?_
     refine D.h rfl (by kernel_rfl) (OpSpec.call Tryz.func75 rfl rfl (vs := [_, _]) rfl (wcut_spec x d ω δ (((headL Λ.base Λ.snap).length + n : Nat) : Int) hI)) (by (repeat' constructor)) ?nx281
     rintro v L' ⟨rfl, rfl⟩
     refine D.ph ?_
     refine Phases.go [] (by (repeat' constructor)) ?_
     refine D.h rfl (by kernel_rfl) (OpSpec.call Tryz.func50 rfl rfl (vs := [_, _]) rfl (lmetC_spec g x Λ _ ea ec za zc)) (by (repeat' constructor)) ?nx283
     rintro v L' ⟨rfl, rfl⟩
     refine D.ph ?_
     refine Phases.go [] (by (repeat' constructor)) ?_
     refine D.kw [] rfl (Quiet.assign rfl) ?_
     refine D.ph (Phases.fin (G.then_n (G.seq (G.seq (G.region (G.mv rfl rfl (G.q (Quiet.int rfl rfl rfl) rfl (G.nil (G.then_n ?_)))))))))
     refine G.condD rfl (fun h40 => ?_) (fun h40 => ?_)
     ·refine G.draw [16, 19] [[0, 1, 2, 3, 4, 5, 6, 7, 8, 9, 10, 11, 12, 13, 14, 15, 16], [17, 18, 19]] mixed (by kernel_rfl) ?_
      refine Phases.go [] (by (repeat' constructor)) ?_
      refine D.kw [14, 15, 16] rfl (Quiet.move rfl) ?_
      refine D.k rfl (Quiet.move rfl) ?_
      refine D.kw [3, 4, 5, 7, 14, 15, 16] rfl (Quiet.move rfl) ?_
      refine D.kw [4, 5, 7, 14, 15, 16] rfl (Quiet.nilp rfl) ?_
      refine D.kw [5, 7, 14, 15, 16] rfl (Quiet.fieldAddr rfl fo_79_4) ?_
      refine D.kw [7, 14, 15, 16] rfl (Quiet.ld rfl ag_46) ?_
      refine D.kw [7, 14, 15, 16] rfl (Quiet.move rfl) ?_
      refine D.kw [14, 15, 16] rfl (Quiet.to (v' := .slice ea n ec) (Quiet.slTo (j := (n : Int)) rfl el_46 rfl (by omega) hadea) (by rw [Int.toNat_natCast])) ?_
      refine D.kw [9, 10, 11, 13, 14, 15, 16] rfl (Quiet.move rfl) ?_
      refine D.kw [10, 11, 13, 14, 15, 16] rfl (Quiet.nilp rfl) ?_
      refine D.kw [11, 13, 14, 15, 16] rfl (Quiet.fieldAddr rfl fo_79_5) ?_
      refine D.kw [13, 14, 15, 16] rfl (Quiet.ld rfl ag_31) ?_
      refine D.k rfl (Quiet.move rfl) ?_
      refine D.k rfl (Quiet.to (v' := .slice za n zc) (Quiet.slTo (j := (n : Int)) rfl el_31 rfl (by omega) hadza) (by rw [Int.toNat_natCast])) ?_
      refine D.kw [15, 16] rfl (Quiet.nilp rfl) ?_
      refine D.kw [16] rfl (Quiet.fieldAddr rfl fo_79_4) ?_
      refine D.h rfl (by kernel_rfl) (OpSpec.store rfl rfl rfl sz_46 ?c300 ?c301) (by (repeat' constructor)) ?nx302
      case c300 => first | decide | (simp; omega) | simp
      case c301 => exact nfz0 _ _
      rintro v L' rfl
      refine D.ph ?_
      refine Phases.go [] (by (repeat' constructor)) ?_
      refine D.kw [18, 19] rfl (Quiet.nilp rfl) ?_
      refine D.kw [19] rfl (Quiet.fieldAddr rfl fo_79_5) ?_
      refine D.h rfl (by kernel_rfl) (OpSpec.store rfl rfl rfl sz_31 ?c305 ?c306) (by (repeat' constructor)) ?nx307
      case c305 => first | decide | (simp; omega) | simp
      case c306 => exact nfz0 _ _
      rintro v L' rfl
      refine D.ph (Phases.fin (G.then_n (G.seq (G.region (G.mv rfl rfl (G.ag rfl rfl (G.nil (G.then_n (G.ret ?_)))))))))
      have hr : lgCut ⟨δ, ω, Λ⟩ z = lgCut2 ⟨δ, ω, Λ⟩ n := by unfold lgCut; dsimp only; rw [if_neg (by rw [h11]; decide), hpl]
      rw [hr]
      have hr2 : lgCut2 ⟨δ, ω, Λ⟩ n = (⟨(cutZ δ ω (((headL Λ.base Λ.snap).length + n : Nat) : Int)).1, (cutZ δ ω (((headL Λ.base Λ.snap).length + n : Nat) : Int)).2.1, ⟨Λ.acc, Λ.cur, Λ.base, Λ.snap, Λ.ents.take n, Λ.zxs.take n, Λ.doubt⟩⟩, 0) := by unfold lgCut2; dsimp only; rw [if_pos (show (metL Λ (cutZ δ ω (((headL Λ.base Λ.snap).length + n : Nat) : Int))).2 = 0 from h40)]
      rw [hr2, h40]
      try dsimp only
      refine G.slTo (a := ea) (c := ec) (m := Λ.ents.length) (k := n) (by omega) (by (repeat' constructor)) ?_
      refine G.slTo (a := za) (c := zc) (m := Λ.zxs.length) (k := n) (by omega) (by (repeat' constructor)) ?_
      have hmd : (Λ.met (cutZ δ ω (((headL Λ.base Λ.snap).length + n : Nat) : Int)).2.2).doubt = Λ.doubt := by unfold Lg.met; rw [if_neg (fun g2 => by rw [g2] at h40; exact absurd h40 (by decide))]
      rw [hmd]
      refine G.lgFold (g := g) (x := x) (ea := ea) (ec := ec) (za := za) (zc := zc) (m := n) (k := n) (⟨Λ.acc, Λ.cur, Λ.base, Λ.snap, Λ.ents.take n, Λ.zxs.take n, Λ.doubt⟩ : Lg) (by (repeat' constructor)) rfl (by simp; omega) (by simp; omega) (by simp [strs, List.map_take]) (by simp [ints, List.map_take]) ?_
      exact G.dn (l := [.tmp 4]) rfl rfl ⟨rfl, rfl⟩
     ·refine G.skip (G.then_n (G.seq (G.region (G.mv rfl rfl (G.ag rfl rfl (G.nil (G.then_n (G.ret ?_))))))))
      have hr : lgCut ⟨δ, ω, Λ⟩ z = lgCut2 ⟨δ, ω, Λ⟩ n := by unfold lgCut; dsimp only; rw [if_neg (by rw [h11]; decide), hpl]
      rw [hr]
      have hr2 : lgCut2 ⟨δ, ω, Λ⟩ n = metL Λ (cutZ δ ω (((headL Λ.base Λ.snap).length + n : Nat) : Int)) := by unfold lgCut2; dsimp only; rw [if_neg (show ¬ (metL Λ (cutZ δ ω (((headL Λ.base Λ.snap).length + n : Nat) : Int))).2 = 0 from h40)]
      rw [hr2]
      try dsimp only
      refine G.lgFold (g := g) (x := x) (ea := ea) (ec := ec) (za := za) (zc := zc) (m := Λ.ents.length) (k := Λ.zxs.length) (Λ.met (cutZ δ ω (((headL Λ.base Λ.snap).length + n : Nat) : Int)).2.2) (by (repeat' constructor)) (by rw [met_acc, met_cur, met_base, met_snap]) (by rw [met_ents]) (by rw [met_zxs]) (by rw [met_ents]) (by rw [met_zxs]) ?_
      exact G.dn (l := [.tmp 4]) rfl rfl ⟨rfl, rfl⟩

end Go.Proofs.YtidjhgbdokcphaaGreat

/- Own work: parts of slices; a ledger that is being made. -/

namespace Go.Proofs.YtidjhgbdokcphaaGreat
open Go

def cutG (a : Option Addr) (c i sz : Nat) : Option Addr := if c = i then a else a.map (·.add (i * sz))
def cutS (a : Option Addr) (c i : Nat) : Option Addr := cutG a c i 1
theorem Quiet.slFromG {P : Program} {E : Env} {L : List HP} {ty : TypeId} {t : TypeId} {x y : Operand} {a : Option Addr} {n c e sz by' : Nat} {i : Int} (hx : ev E x = some (.slice a n c)) (ht : elemOf' P t = some (e, sz, by')) (hy : ev E y = some (.int .i64 i)) (hb : 0 ≤ i ∧ i ≤ n ∧ n ≤ c) :
    Quiet P ⟨none, .slice t x (some y) none none, ty, "", #[], none⟩ E L (.slice (cutG a c i.toNat sz) (n - i.toNat) (c - i.toNat)) := by
  intro ρ w ha _
  unfold elemOf' at ht
  split at ht <;> (try cases ht)
  rename_i e' hu
  split at ht <;> (try cases ht)
  rename_i inf hin
  refine run_v ?_
  show (Instr.sliceAt t (ρ x) (some (ρ y)) none none).run P w = _
  rw [ha x _ hx, ha y _ hy]
  unfold Instr.sliceAt
  rw [run_bind (run_underlying hu)]
  show (Instr.slice t (.slice a n c) (some (.int .i64 i)) none none).run P w = _
  unfold Instr.slice
  rw [run_bind (run_underlying hu)]
  show (do let (l, h, m) ← Instr.sliceBounds true n c (some (.int .i64 i)) none none; let size ← sizeOf e; pure (.slice (if m = l then a else a.map (·.add (l * size))) (h - l) (m - l)) : Sem Value).run P w = _
  rw [run_bind (run_sliceBounds (i := i) (j := n) (.inl rfl) (.inr ⟨rfl, rfl⟩) ⟨hb.1, by omega, by omega⟩)]
  show (do let size ← sizeOf e; pure (.slice (if c = i.toNat then a else a.map (·.add (i.toNat * size))) ((n : Int).toNat - i.toNat) (c - i.toNat)) : Sem Value).run P w = _
  rw [run_bind (run_sizeOf (k := inf.size) (by simp [sizeOf', hin]))]
  rw [Int.toNat_natCast]; rfl
theorem Quiet.slFromS {P : Program} {E : Env} {L : List HP} {ty : TypeId} {t : TypeId} {x y : Operand} {a : Option Addr} {n c e by' : Nat} {i : Int} (hx : ev E x = some (.slice a n c)) (ht : elemOf' P t = some (e, 1, by')) (hy : ev E y = some (.int .i64 i)) (hb : 0 ≤ i ∧ i ≤ n ∧ n ≤ c) :
    Quiet P ⟨none, .slice t x (some y) none none, ty, "", #[], none⟩ E L (.slice (cutS a c i.toNat) (n - i.toNat) (c - i.toNat)) := Quiet.slFromG hx ht hy hb
theorem slR_from {T : TypeId} {m c n : Nat} {a : Option Addr} {xs : List Value} {h : Hp} (hn : n ≤ m) (hp : slR T 1 (.slice a m c) m xs h) : rdS 1 h (.slice (cutS a c n) (m - n) (c - n)) (m - n) (xs.drop n) := by
  have hl := slR_length hp
  rcases Nat.lt_or_ge n m with g | g
  · rcases hp with ⟨-, h2, -⟩ | ⟨b, cap, rest, fr, hv, hb, h1, h2, h3, h4⟩
    · omega
    · simp only [Value.slice.injEq] at hv
      obtain ⟨rfl, -, rfl⟩ := hv
      have h9 : slR T 1 (.slice (some ⟨b, 0, none⟩) m c) m xs h := .inr ⟨b, c, rest, fr, rfl, hb, h1, h2, h3, h4⟩
      have := rdS_drop (k := n) (slR_rd h9) g
      unfold cutS cutG
      rw [if_neg (by omega)]
      simp only [Option.map_some, Addr.add_eq, Nat.mul_one] at this ⊢
      exact this
  · obtain rfl : n = m := by omega
    refine .inl ⟨by omega, List.drop_eq_nil_of_le (by omega), _, _, by rw [Nat.sub_self]⟩
def lgNR (b : Nat) (base : Int) (snap : Bs) (es : List Bs) (zs : List Int) : HP := fun h => ∃ y : (Option Addr × Nat) × (Option Addr × Nat), True ∧ sep [ptc b [vint 0, vint 0, .pointer none, vint base, vstr snap, .slice y.1.1 es.length y.1.2, .slice y.2.1 zs.length y.2.2, .bool false] 79,
  strR (.slice y.1.1 es.length y.1.2) es, intR (.slice y.2.1 zs.length y.2.2) zs] h
section
variable {W : World} {n : Nat} {ds : List Deferred} {E : Env} {L R : List HP} {X : Act → World → Prop}
theorem G.lgNOpen {b : Nat} {base : Int} {snap : Bs} {es : List Bs} {zs : List Int} (hL : Pick (lgNR b base snap es zs) L R) (h : ∀ ea ec za zc, G W n ds E (ptc b [vint 0, vint 0, .pointer none, vint base, vstr snap, .slice ea es.length ec, .slice za zs.length zc, .bool false] 79 :: strR (.slice ea es.length ec) es :: intR (.slice za zs.length zc) zs :: R) X) : G W n ds E L X :=
  G.focus hL (G.open (q := fun y : (Option Addr × Nat) × (Option Addr × Nat) => [ptc b [vint 0, vint 0, .pointer none, vint base, vstr snap, .slice y.1.1 es.length y.1.2, .slice y.2.1 zs.length y.2.2, .bool false] 79, strR (.slice y.1.1 es.length y.1.2) es, intR (.slice y.2.1 zs.length y.2.2) zs]) (φ := fun _ => True) (fun _ hp => hp) fun y _ => h y.1.1 y.1.2 y.2.1 y.2.2)
theorem G.lgNFold {b : Nat} (base : Int) (snap : Bs) (es : List Bs) (zs : List Int) {l xs ys : List Value} {ea za : Option Addr} {ec zc m k : Nat} (hL : Picks [ptc b l 79, slR 9 1 (.slice ea m ec) m xs, slR 3 1 (.slice za k zc) k ys] L R)
    (hl : l = [vint 0, vint 0, .pointer none, vint base, vstr snap, .slice ea m ec, .slice za k zc, .bool false]) (hm : m = es.length) (hk : k = zs.length) (he : xs = strs es) (hz : ys = ints zs) (h : G W n ds E (lgNR b base snap es zs :: R) X) : G W n ds E L X := by
  subst hl; subst hm; subst hk; subst he; subst hz
  exact G.fold hL (fun _ hp => ⟨((ea, ec), (za, zc)), trivial, hp⟩) h
end
theorem recZ_len' (s : Bs) : (recZ s).length = s.length + 6 := by rw [recZ_len]
theorem laid_few : ∀ {l : List Bs}, (∀ s ∈ l, s.length ≤ 4000) → (laidZ l).length ≤ l.length * 4006
  | [], _ => by simp [laidZ]
  | s :: l, h => by
    have h1 := laid_few (l := l) (fun x hx => h x (List.mem_cons_of_mem _ hx))
    have h2 := h s (List.mem_cons_self ..)
    have e : laidZ (s :: l) = recZ s ++ laidZ l := by simp [laidZ]
    rw [e, List.length_append, recZ_len', List.length_cons]
    omega
theorem renew_bound {base : Int} {snap : Bs} {es : List Bs} (hs : snap.length ≤ 65536) (he : es.length ≤ 200) (h : ((headL base snap ++ es).any fun s => decide (s.length > 4000)) = false) : (laidZ (headL base snap ++ es)).length ≤ 3000000 := by
  have h1 := headL_len base snap hs
  have h2 := laid_few (l := headL base snap ++ es) (fun s hs => by
    have := List.any_eq_false.1 h s hs
    simpa using this)
  rw [List.length_append] at h2
  omega
theorem renew_bad {s : Ld} {base : Int} {snap : Bs} {es : List Bs} {zs : List Int} (h : (lgRenew s base snap es zs).2 ≠ 0) : ∃ e, (lgRenew s base snap es zs).1.Λ = s.Λ.met e := by
  unfold lgRenew at h ⊢
  split
  · exact ⟨0, rfl⟩
  · rename_i g
    rw [if_neg g] at h
    split
    · rename_i g2; rw [if_pos g2] at h; exact absurd rfl h
    · exact ⟨_, rfl⟩
end Go.Proofs.YtidjhgbdokcphaaGreat

/- Own work, by program: package ledger: renew, Compact, Install: walked. -/

namespace Go.Proofs.YtidjhgbdokcphaaGreat
open Go
theorem lrenew_spec (g x d : Nat) (δ : Dk) (ω : Wl) (Λ : Lg) (base : Int) (snap : Bs) (ve vz : Value) (es : List Bs) (zs : List Int) (ea : Option Addr) (ec : Nat) (za : Option Addr) (zc : Nat) (p : HP) (hI : WlI δ ω) (hb : I64 base) (hsn : snap.length ≤ 65536) (hre : ∀ h : Hp, p h → rdS 1 h ve es.length (strs es)) (hrz : ∀ h : Hp, p h → rdS 1 h vz zs.length (ints zs)) (hel : es.length ≤ 4294967296) (hzl : zs.length = es.length) :
    Fn Tryz.prog 139 #[vptr g, .agg [vint 0, vint 0, .pointer none, vint base, vstr snap, ve, vz, .bool false].toArray] [ptc g [vint Λ.acc, vint Λ.cur, vptr x, vint Λ.base, vstr Λ.snap, .slice ea Λ.ents.length ec, .slice za Λ.zxs.length zc, .bool Λ.doubt] 79, wlR x d ω, dkR d δ, p] fun v L => v = vint (lgRenew ⟨δ, ω, Λ⟩ base snap es zs).2 ∧ (((lgRenew ⟨δ, ω, Λ⟩ base snap es zs).2 = 0 ∧ L = [lgR g x (lgRenew ⟨δ, ω, Λ⟩ base snap es zs).1.Λ, wlR x d (lgRenew ⟨δ, ω, Λ⟩ base snap es zs).1.ω, dkR d (lgRenew ⟨δ, ω, Λ⟩ base snap es zs).1.δ, p]) ∨ ((lgRenew ⟨δ, ω, Λ⟩ base snap es zs).2 ≠ 0 ∧ L = [ptc g [vint Λ.acc, vint Λ.cur, vptr x, vint Λ.base, vstr Λ.snap, .slice ea Λ.ents.length ec, .slice za Λ.zxs.length zc, .bool (lgRenew ⟨δ, ω, Λ⟩ base snap es zs).1.Λ.doubt] 79, wlR x d (lgRenew ⟨δ, ω, Λ⟩ base snap es zs).1.ω, dkR d (lgRenew ⟨δ, ω, Λ⟩ base snap es zs).1.δ, p])) := by
 refine Fn.intro (vs := [vptr g, .agg [vint 0, vint 0, .pointer none, vint base, vstr snap, ve, vz, .bool false].toArray]) Tryz.func139 rfl rfl ?_
 intro F W
 refine G.rdAny (p := p) hre (by (repeat' constructor)) fun ae ce e _ => ?_
 subst e
 refine G.rdAny (p := p) hrz (by (repeat' constructor)) fun az cz e _ => ?_
 subst e
 have h0 := headL_len base snap hsn
 refine G.seq (G.region ?_)
 refine G.oq (OpSpec.box rfl) ?nx1
 rintro v L' ⟨b3, rfl, rfl⟩
 refine G.ag rfl rfl (G.nil ?_)
 refine G.ptCast (b := b3) (l' := [vint 0, vint 0, .pointer none, vint base, vstr snap, .slice ae es.length ce, .slice az zs.length cz, .bool false]) (by (repeat' constructor)) rfl ?_
 refine G.then_n (G.seq (G.seq (G.region (G.q (Quiet.fieldAddr rfl fo_79_4) rfl ?_))))
 refine G.q (Quiet.ld rfl ag_46) rfl ?_
 refine G.q (Quiet.slen rfl Tryz.underlying46 rfl) rfl (G.q (Quiet.int rfl rfl rfl) rfl (G.nil (G.then_n ?_)))
 refine G.condD rfl (fun h9 => ?_) (fun h9 => ?_)
 ·refine G.seq (G.region (G.ag rfl rfl (G.nil (G.then_n (G.ret (G.then_r ?_))))))
  have hr : lgRenew ⟨δ, ω, Λ⟩ base snap es zs = (⟨δ, ω, Λ⟩, 83) := by unfold lgRenew; rw [if_pos (by omega)]
  rw [hr]
  exact G.dn (l := [.tmp 4]) rfl rfl ⟨rfl, .inr ⟨show (83 : Int) ≠ 0 by decide, rfl⟩⟩
 ·refine G.skip (G.then_n (G.seq ?_))
  refine G.draw [4, 9, 12, 13, 14] [[0, 1, 2, 3, 5, 6, 7, 8, 10, 11, 9, 12, 4, 13], [14], [15]] mixed (by kernel_rfl) ?_
  refine Phases.go [ptc b3 _ _] (by (repeat' constructor)) ?_
  refine D.k rfl (Quiet.move rfl) ?_
  refine D.k rfl (Quiet.move rfl) ?_
  refine D.k rfl (Quiet.nilp rfl) ?_
  refine D.k rfl (Quiet.fieldAddr rfl fo_79_1) ?_
  refine D.k rfl (Quiet.fieldAddr rfl fo_79_2) ?_
  refine D.k rfl (Quiet.ld rfl ag_3) ?_
  refine D.k rfl (Quiet.fieldAddr rfl fo_79_3) ?_
  refine D.k rfl (Quiet.ld rfl ag_9) ?_
  refine D.k rfl (Quiet.fieldAddr rfl fo_79_4) ?_
  refine D.k rfl (Quiet.ld rfl ag_46) ?_
  refine D.h2 (k := 4) rfl rfl (by kernel_rfl) rfl (OpSpec.call Tryz.func46 rfl rfl (vs := [_, _]) rfl (lahead_spec base snap hb (by omega))) (by (repeat' constructor)) (Quiet.spec (L := [ptc g [vint Λ.acc, vint Λ.cur, vptr x, vint Λ.base, vstr Λ.snap, .slice ea Λ.ents.length ec, .slice za Λ.zxs.length zc, .bool Λ.doubt] 79]) (Quiet.load rfl ag_77 (by (repeat' constructor)) rfl)) (by (repeat' constructor)) ?nx19 ?nx20
  ·rintro v L' ⟨bh, ch, rfl, rfl⟩
   refine D.h2 (k := 4) rfl rfl (by kernel_rfl) rfl (OpSpec.append (n := (headL base snap).length) (m := es.length) (xs := strs (headL base snap)) (ys := strs es) (p := p) rfl rfl rfl el_46 (.inl ⟨_, Tryz.underlying46⟩) ze_9 rfl rfl ?hc22 hre ?hb23 (by decide)) (by (repeat' constructor)) (Quiet.spec (L := [ptc g [vint Λ.acc, vint Λ.cur, vptr x, vint Λ.base, vstr Λ.snap, .slice ea Λ.ents.length ec, .slice za Λ.zxs.length zc, .bool Λ.doubt] 79]) (Quiet.load rfl ag_77 (by (repeat' constructor)) rfl)) (by (repeat' constructor)) ?nx24 ?nx25
   case hc22 => intro y hy; obtain ⟨z, -, rfl⟩ := List.mem_map.1 hy; rfl
   case hb23 => omega
   ·rintro v L' ⟨⟨a12, c12, rfl⟩, rfl⟩
    refine D.h rfl (by kernel_rfl) (Quiet.spec (L := [ptc g [vint Λ.acc, vint Λ.cur, vptr x, vint Λ.base, vstr Λ.snap, .slice ea Λ.ents.length ec, .slice za Λ.zxs.length zc, .bool Λ.doubt] 79]) (Quiet.load rfl ag_77 (by (repeat' constructor)) rfl)) (by (repeat' constructor)) ?nx27
    rintro v L' ⟨rfl, rfl⟩
    refine D.h rfl (by kernel_rfl) (OpSpec.call Tryz.func180 rfl rfl (vs := [_, _]) rfl (wrenew2_spec x d ω δ (.slice a12 ((headL base snap).length + es.length) c12) (headL base snap ++ es) (slR 9 1 (.slice a12 ((headL base snap).length + es.length) c12) ((headL base snap).length + es.length) (strs (headL base snap) ++ strs es)) hI ?hr29 ?hln30 ?hlb31)) (by (repeat' constructor)) ?nx32
    case hr29 => exact fun h hp => (by rw [List.length_append, show strs (headL base snap ++ es) = strs (headL base snap) ++ strs es from List.map_append]; exact slR_rd hp)
    case hln30 => rw [List.length_append]; omega
    case hlb31 => exact renew_bound hsn (by omega)
    rintro v L' ⟨rfl, rfl⟩
    refine D.ph ?_
    refine Phases.go [] (by (repeat' constructor)) ?_
    refine D.h rfl (by kernel_rfl) (OpSpec.call Tryz.func50 rfl rfl (vs := [_, _]) rfl (lmetC_spec g x Λ _ ea ec za zc)) (by (repeat' constructor)) ?nx34
    rintro v L' ⟨rfl, rfl⟩
    refine D.ph ?_
    refine Phases.go [] (by (repeat' constructor)) ?_
    refine D.kw [] rfl (Quiet.assign rfl) ?_
    refine D.ph (Phases.fin (G.then_n (G.seq (G.seq (G.region (G.mv rfl rfl (G.q (Quiet.int rfl rfl rfl) rfl (G.nil (G.then_n ?_)))))))))
    refine G.condD rfl (fun h26 => ?_) (fun h26 => ?_)
    ·refine G.draw [10, 13, 16, 19, 22, 25] [[0, 1, 2, 3, 4, 5, 6, 7, 8, 9, 11, 12, 10, 13, 14, 15, 16, 17, 18, 19, 20, 21, 22], [23, 24, 25]] mixed (by kernel_rfl) ?_
     refine Phases.go [ptc b3 _ _] (by (repeat' constructor)) ?_
     refine D.k rfl (Quiet.move rfl) ?_
     refine D.k rfl (Quiet.move rfl) ?_
     refine D.k rfl (Quiet.move rfl) ?_
     refine D.k rfl (Quiet.move rfl) ?_
     refine D.k rfl (Quiet.fieldAddr rfl fo_79_2) ?_
     refine D.k rfl (Quiet.ld rfl ag_3) ?_
     refine D.k rfl (Quiet.fieldAddr rfl fo_79_3) ?_
     refine D.k rfl (Quiet.ld rfl ag_9) ?_
     refine D.kw [9, 10, 13, 14, 15, 16, 17, 18, 19, 20, 21, 22] rfl (Quiet.fieldAddr rfl fo_79_4) ?_
     refine D.kw [10, 13, 14, 15, 16, 17, 18, 19, 20, 21, 22] rfl (Quiet.ld rfl ag_46) ?_
     refine D.k rfl (Quiet.fieldAddr rfl fo_79_5) ?_
     refine D.k rfl (Quiet.ld rfl ag_31) ?_
     refine D.h rfl (by kernel_rfl) (OpSpec.call Tryz.func116 rfl rfl (vs := [_]) rfl (cloneT_spec _ es.length (strs es) p hre ?hc49 ?hb50)) (by (repeat' constructor)) ?nx51
     case hc49 => intro y hy; obtain ⟨z, -, rfl⟩ := List.mem_map.1 hy; rfl
     case hb50 => omega
     rintro v L' ⟨⟨a10, c10, rfl⟩, rfl⟩
     refine D.h rfl (by kernel_rfl) (OpSpec.call Tryz.func181 rfl rfl (vs := [_]) rfl (cloneI_spec _ zs.length (ints zs) p hrz ?hc53 ?hb54)) (by (repeat' constructor)) ?nx55
     case hc53 => intro y hy; obtain ⟨z, -, rfl⟩ := List.mem_map.1 hy; rfl
     case hb54 => omega
     rintro v L' ⟨⟨a13, c13, rfl⟩, rfl⟩
     refine D.kw [15, 16, 17, 18, 19, 20, 21, 22] rfl (Quiet.nilp rfl) ?_
     refine D.kw [16, 17, 18, 19, 20, 21, 22] rfl (Quiet.fieldAddr rfl fo_79_2) ?_
     refine D.h rfl (by kernel_rfl) (OpSpec.store rfl rfl rfl sz_3 ?c59 ?c60) (by (repeat' constructor)) ?nx61
     case c59 => first | decide | (simp; omega) | simp
     case c60 => exact nfz0 _ _
     rintro v L' rfl
     refine D.kw [18, 19, 20, 21, 22] rfl (Quiet.nilp rfl) ?_
     refine D.kw [19, 20, 21, 22] rfl (Quiet.fieldAddr rfl fo_79_3) ?_
     refine D.h rfl (by kernel_rfl) (OpSpec.store rfl rfl rfl sz_9 ?c64 ?c65) (by (repeat' constructor)) ?nx66
     case c64 => first | decide | (simp; omega) | simp
     case c65 => exact nfz0 _ _
     rintro v L' rfl
     refine D.kw [21, 22] rfl (Quiet.nilp rfl) ?_
     refine D.kw [22] rfl (Quiet.fieldAddr rfl fo_79_4) ?_
     refine D.h rfl (by kernel_rfl) (OpSpec.store rfl rfl rfl sz_46 ?c69 ?c70) (by (repeat' constructor)) ?nx71
     case c69 => first | decide | (simp; omega) | simp
     case c70 => exact nfz0 _ _
     rintro v L' rfl
     refine D.ph ?_
     refine Phases.go [] (by (repeat' constructor)) ?_
     refine D.kw [24, 25] rfl (Quiet.nilp rfl) ?_
     refine D.kw [25] rfl (Quiet.fieldAddr rfl fo_79_5) ?_
     refine D.h rfl (by kernel_rfl) (OpSpec.store rfl rfl rfl sz_31 ?c74 ?c75) (by (repeat' constructor)) ?nx76
     case c74 => first | decide | (simp; omega) | simp
     case c75 => exact nfz0 _ _
     rintro v L' rfl
     refine D.ph (Phases.fin (G.then_n (G.seq (G.region (G.mv rfl rfl (G.ag rfl rfl (G.nil (G.then_n (G.ret ?_)))))))))
     have hr : lgRenew ⟨δ, ω, Λ⟩ base snap es zs = (⟨(renewZ δ ω (headL base snap ++ es)).1, (renewZ δ ω (headL base snap ++ es)).2.1, ⟨Λ.acc, Λ.cur, base, snap, es, zs, Λ.doubt⟩⟩, 0) := by unfold lgRenew; dsimp only; rw [if_neg (by omega), if_pos (show (metL Λ (renewZ δ ω (headL base snap ++ es))).2 = 0 from h26)]
     rw [hr, h26]
     dsimp only
     rw [doubt_of h26]
     refine G.lgFold (g := g) (x := x) (ea := a10) (ec := c10) (za := a13) (zc := c13) (m := es.length) (k := zs.length) (⟨Λ.acc, Λ.cur, base, snap, es, zs, Λ.doubt⟩ : Lg) (by (repeat' constructor)) rfl rfl rfl rfl rfl ?_
     exact G.dn (l := [.tmp 4]) rfl rfl ⟨rfl, .inl ⟨rfl, rfl⟩⟩
    ·refine G.skip (G.then_n (G.seq (G.region (G.mv rfl rfl (G.ag rfl rfl (G.nil (G.then_n (G.ret ?_))))))))
     have hr : lgRenew ⟨δ, ω, Λ⟩ base snap es zs = metL Λ (renewZ δ ω (headL base snap ++ es)) := by unfold lgRenew; dsimp only; rw [if_neg (by omega), if_neg (show ¬ (metL Λ (renewZ δ ω (headL base snap ++ es))).2 = 0 from h26)]
     rw [hr]
     exact G.dn (l := [.tmp 4]) rfl rfl ⟨rfl, .inr ⟨h26, rfl⟩⟩
   ·rintro v L' ⟨rfl, rfl⟩
    refine D.h rfl (by kernel_rfl) (OpSpec.append (n := (headL base snap).length) (m := es.length) (xs := strs (headL base snap)) (ys := strs es) (p := p) rfl rfl rfl el_46 (.inl ⟨_, Tryz.underlying46⟩) ze_9 rfl rfl ?hc78 hre ?hb79 (by decide)) (by (repeat' constructor)) ?nx80
    case hc78 => intro y hy; obtain ⟨z, -, rfl⟩ := List.mem_map.1 hy; rfl
    case hb79 => omega
    rintro v L' ⟨⟨a12, c12, rfl⟩, rfl⟩
    refine D.h rfl (by kernel_rfl) (OpSpec.call Tryz.func180 rfl rfl (vs := [_, _]) rfl (wrenew2_spec x d ω δ (.slice a12 ((headL base snap).length + es.length) c12) (headL base snap ++ es) (slR 9 1 (.slice a12 ((headL base snap).length + es.length) c12) ((headL base snap).length + es.length) (strs (headL base snap) ++ strs es)) hI ?hr82 ?hln83 ?hlb84)) (by (repeat' constructor)) ?nx85
    case hr82 => exact fun h hp => (by rw [List.length_append, show strs (headL base snap ++ es) = strs (headL base snap) ++ strs es from List.map_append]; exact slR_rd hp)
    case hln83 => rw [List.length_append]; omega
    case hlb84 => exact renew_bound hsn (by omega)
    rintro v L' ⟨rfl, rfl⟩
    refine D.ph ?_
    refine Phases.go [] (by (repeat' constructor)) ?_
    refine D.h rfl (by kernel_rfl) (OpSpec.call Tryz.func50 rfl rfl (vs := [_, _]) rfl (lmetC_spec g x Λ _ ea ec za zc)) (by (repeat' constructor)) ?nx87
    rintro v L' ⟨rfl, rfl⟩
    refine D.ph ?_
    refine Phases.go [] (by (repeat' constructor)) ?_
    refine D.kw [] rfl (Quiet.assign rfl) ?_
    refine D.ph (Phases.fin (G.then_n (G.seq (G.seq (G.region (G.mv rfl rfl (G.q (Quiet.int rfl rfl rfl) rfl (G.nil (G.then_n ?_)))))))))
    refine G.condD rfl (fun h26 => ?_) (fun h26 => ?_)
    ·refine G.draw [10, 13, 16, 19, 22, 25] [[0, 1, 2, 3, 4, 5, 6, 7, 8, 9, 11, 12, 10, 13, 14, 15, 16, 17, 18, 19, 20, 21, 22], [23, 24, 25]] mixed (by kernel_rfl) ?_
     refine Phases.go [ptc b3 _ _] (by (repeat' constructor)) ?_
     refine D.k rfl (Quiet.move rfl) ?_
     refine D.k rfl (Quiet.move rfl) ?_
     refine D.k rfl (Quiet.move rfl) ?_
     refine D.k rfl (Quiet.move rfl) ?_
     refine D.k rfl (Quiet.fieldAddr rfl fo_79_2) ?_
     refine D.k rfl (Quiet.ld rfl ag_3) ?_
     refine D.k rfl (Quiet.fieldAddr rfl fo_79_3) ?_
     refine D.k rfl (Quiet.ld rfl ag_9) ?_
     refine D.kw [9, 10, 13, 14, 15, 16, 17, 18, 19, 20, 21, 22] rfl (Quiet.fieldAddr rfl fo_79_4) ?_
     refine D.kw [10, 13, 14, 15, 16, 17, 18, 19, 20, 21, 22] rfl (Quiet.ld rfl ag_46) ?_
     refine D.k rfl (Quiet.fieldAddr rfl fo_79_5) ?_
     refine D.k rfl (Quiet.ld rfl ag_31) ?_
     refine D.h rfl (by kernel_rfl) (OpSpec.call Tryz.func116 rfl rfl (vs := [_]) rfl (cloneT_spec _ es.length (strs es) p hre ?hc102 ?hb103)) (by (repeat' constructor)) ?nx104
     case hc102 => intro y hy; obtain ⟨z, -, rfl⟩ := List.mem_map.1 hy; rfl
     case hb103 => omega
     rintro v L' ⟨⟨a10, c10, rfl⟩, rfl⟩
     refine D.h rfl (by kernel_rfl) (OpSpec.call Tryz.func181 rfl rfl (vs := [_]) rfl (cloneI_spec _ zs.length (ints zs) p hrz ?hc106 ?hb107)) (by (repeat' constructor)) ?nx108
     case hc106 => intro y hy; obtain ⟨z, -, rfl⟩ := List.mem_map.1 hy; rfl
     case hb107 => omega
     rintro v L' ⟨⟨a13, c13, rfl⟩, rfl⟩
     refine D.kw [15, 16, 17, 18, 19, 20, 21, 22] rfl (Quiet.nilp rfl) ?_
     refine D.kw [16, 17, 18, 19, 20, 21, 22] rfl (Quiet.fieldAddr rfl fo_79_2) ?_
     refine D.h rfl (by kernel_rfl) (OpSpec.store rfl rfl rfl sz_3 ?c112 ?c113) (by (repeat' constructor)) ?nx114
     case c112 => first | decide | (simp; omega) | simp
     case c113 => exact nfz0 _ _
     rintro v L' rfl
     refine D.kw [18, 19, 20, 21, 22] rfl (Quiet.nilp rfl) ?_
     refine D.kw [19, 20, 21, 22] rfl (Quiet.fieldAddr rfl fo_79_3) ?_
     refine D.h rfl (by kernel_rfl) (OpSpec.store rfl rfl rfl sz_9 ?c117 ?c118) (by (repeat' constructor)) ?nx119
     case c117 => first | decide | (simp; omega) | simp
     case c118 => exact nfz0 _ _
     rintro v L' rfl
     refine D.kw [21, 22] rfl (Quiet.nilp rfl) ?_
     refine D.kw [22] rfl (Quiet.fieldAddr rfl fo_79_4) ?_
     refine D.h rfl (by kernel_rfl) (OpSpec.store rfl rfl rfl sz_46 ?c122 ?c123) (by (repeat' constructor)) ?nx124
     case c122 => first | decide | (simp; omega) | simp
     case c123 => exact nfz0 _ _
     rintro v L' rfl
     refine D.ph ?_
     refine Phases.go [] (by (repeat' constructor)) ?_
     refine D.kw [24, 25] rfl (Quiet.nilp rfl) ?_
     refine D.kw [25] rfl (Quiet.fieldAddr rfl fo_79_5) ?_
     refine D.h rfl (by kernel_rfl) (OpSpec.store rfl rfl rfl sz_31 ?c127 ?c128) (by (repeat' constructor)) ?nx129
     case c127 => first | decide | (simp; omega) | simp
     case c128 => exact nfz0 _ _
     rintro v L' rfl
     refine D.ph (Phases.fin (G.then_n (G.seq (G.region (G.mv rfl rfl (G.ag rfl rfl (G.nil (G.then_n (G.ret ?_)))))))))
     have hr : lgRenew ⟨δ, ω, Λ⟩ base snap es zs = (⟨(renewZ δ ω (headL base snap ++ es)).1, (renewZ δ ω (headL base snap ++ es)).2.1, ⟨Λ.acc, Λ.cur, base, snap, es, zs, Λ.doubt⟩⟩, 0) := by unfold lgRenew; dsimp only; rw [if_neg (by omega), if_pos (show (metL Λ (renewZ δ ω (headL base snap ++ es))).2 = 0 from h26)]
     rw [hr, h26]
     dsimp only
     rw [doubt_of h26]
     refine G.lgFold (g := g) (x := x) (ea := a10) (ec := c10) (za := a13) (zc := c13) (m := es.length) (k := zs.length) (⟨Λ.acc, Λ.cur, base, snap, es, zs, Λ.doubt⟩ : Lg) (by (repeat' constructor)) rfl rfl rfl rfl rfl ?_
     exact G.dn (l := [.tmp 4]) rfl rfl ⟨rfl, .inl ⟨rfl, rfl⟩⟩
    ·refine G.skip (G.then_n (G.seq (G.region (G.mv rfl rfl (G.ag rfl rfl (G.nil (G.then_n (G.ret ?_))))))))
     have hr : lgRenew ⟨δ, ω, Λ⟩ base snap es zs = metL Λ (renewZ δ ω (headL base snap ++ es)) := by unfold lgRenew; dsimp only; rw [if_neg (by omega), if_neg (show ¬ (metL Λ (renewZ δ ω (headL base snap ++ es))).2 = 0 from h26)]
     rw [hr]
     exact G.dn (l := [.tmp 4]) rfl rfl ⟨rfl, .inr ⟨h26, rfl⟩⟩
  ·rintro v L' ⟨rfl, rfl⟩
   refine D.h rfl (by kernel_rfl) (OpSpec.call Tryz.func46 rfl rfl (vs := [_, _]) rfl (lahead_spec base snap hb (by omega))) (by (repeat' constructor)) ?nx131
   rintro v L' ⟨bh, ch, rfl, rfl⟩
   refine D.h rfl (by kernel_rfl) (OpSpec.append (n := (headL base snap).length) (m := es.length) (xs := strs (headL base snap)) (ys := strs es) (p := p) rfl rfl rfl el_46 (.inl ⟨_, Tryz.underlying46⟩) ze_9 rfl rfl ?hc133 hre ?hb134 (by decide)) (by (repeat' constructor)) ?nx135
   case hc133 => intro y hy; obtain ⟨z, -, rfl⟩ := List.mem_map.1 hy; rfl
   case hb134 => omega
   rintro v L' ⟨⟨a12, c12, rfl⟩, rfl⟩
   refine D.h rfl (by kernel_rfl) (OpSpec.call Tryz.func180 rfl rfl (vs := [_, _]) rfl (wrenew2_spec x d ω δ (.slice a12 ((headL base snap).length + es.length) c12) (headL base snap ++ es) (slR 9 1 (.slice a12 ((headL base snap).length + es.length) c12) ((headL base snap).length + es.length) (strs (headL base snap) ++ strs es)) hI ?hr137 ?hln138 ?hlb139)) (by (repeat' constructor)) ?nx140
   case hr137 => exact fun h hp => (by rw [List.length_append, show strs (headL base snap ++ es) = strs (headL base snap) ++ strs es from List.map_append]; exact slR_rd hp)
   case hln138 => rw [List.length_append]; omega
   case hlb139 => exact renew_bound hsn (by omega)
   rintro v L' ⟨rfl, rfl⟩
   refine D.ph ?_
   refine Phases.go [] (by (repeat' constructor)) ?_
   refine D.h rfl (by kernel_rfl) (OpSpec.call Tryz.func50 rfl rfl (vs := [_, _]) rfl (lmetC_spec g x Λ _ ea ec za zc)) (by (repeat' constructor)) ?nx142
   rintro v L' ⟨rfl, rfl⟩
   refine D.ph ?_
   refine Phases.go [] (by (repeat' constructor)) ?_
   refine D.kw [] rfl (Quiet.assign rfl) ?_
   refine D.ph (Phases.fin (G.then_n (G.seq (G.seq (G.region (G.mv rfl rfl (G.q (Quiet.int rfl rfl rfl) rfl (G.nil (G.then_n ?_)))))))))
   refine G.condD rfl (fun h26 => ?_) (fun h26 => ?_)
   ·refine G.draw [10, 13, 16, 19, 22, 25] [[0, 1, 2, 3, 4, 5, 6, 7, 8, 9, 11, 12, 10, 13, 14, 15, 16, 17, 18, 19, 20, 21, 22], [23, 24, 25]] mixed (by kernel_rfl) ?_
    refine Phases.go [ptc b3 _ _] (by (repeat' constructor)) ?_
    refine D.k rfl (Quiet.move rfl) ?_
    refine D.k rfl (Quiet.move rfl) ?_
    refine D.k rfl (Quiet.move rfl) ?_
    refine D.k rfl (Quiet.move rfl) ?_
    refine D.k rfl (Quiet.fieldAddr rfl fo_79_2) ?_
    refine D.k rfl (Quiet.ld rfl ag_3) ?_
    refine D.k rfl (Quiet.fieldAddr rfl fo_79_3) ?_
    refine D.k rfl (Quiet.ld rfl ag_9) ?_
    refine D.kw [9, 10, 13, 14, 15, 16, 17, 18, 19, 20, 21, 22] rfl (Quiet.fieldAddr rfl fo_79_4) ?_
    refine D.kw [10, 13, 14, 15, 16, 17, 18, 19, 20, 21, 22] rfl (Quiet.ld rfl ag_46) ?_
    refine D.k rfl (Quiet.fieldAddr rfl fo_79_5) ?_
    refine D.k rfl (Quiet.ld rfl ag_31) ?_
    refine D.h rfl (by kernel_rfl) (OpSpec.call Tryz.func116 rfl rfl (vs := [_]) rfl (cloneT_spec _ es.length (strs es) p hre ?hc157 ?hb158)) (by (repeat' constructor)) ?nx159
    case hc157 => intro y hy; obtain ⟨z, -, rfl⟩ := List.mem_map.1 hy; rfl
    case hb158 => omega
    rintro v L' ⟨⟨a10, c10, rfl⟩, rfl⟩
    refine D.h rfl (by kernel_rfl) (OpSpec.call Tryz.func181 rfl rfl (vs := [_]) rfl (cloneI_spec _ zs.length (ints zs) p hrz ?hc161 ?hb162)) (by (repeat' constructor)) ?nx163
    case hc161 => intro y hy; obtain ⟨z, -, rfl⟩ := List.mem_map.1 hy; rfl
    case hb162 => omega
    rintro v L' ⟨⟨a13, c13, rfl⟩, rfl⟩
    refine D.kw [15, 16, 17, 18, 19, 20, 21, 22] rfl (Quiet.nilp rfl) ?_
    refine D.kw [16, 17, 18, 19, 20, 21, 22] rfl (Quiet.fieldAddr rfl fo_79_2) ?_
    refine D.h rfl (by kernel_rfl) (OpSpec.store rfl rfl rfl sz_3 ?c167 ?c168) (by (repeat' constructor)) ?nx169
    case c167 => first | decide | (simp; omega) | simp
    case c168 => exact nfz0 _ _
    rintro v L' rfl
    refine D.kw [18, 19, 20, 21, 22] rfl (Quiet.nilp rfl) ?_
    refine D.kw [19, 20, 21, 22] rfl (Quiet.fieldAddr rfl fo_79_3) ?_
    refine D.h rfl (by kernel_rfl) (OpSpec.store rfl rfl rfl sz_9 ?c172 ?c173) (by (repeat' constructor)) ?nx174
    case c172 => first | decide | (simp; omega) | simp
    case c173 => exact nfz0 _ _
    rintro v L' rfl
    refine D.kw [21, 22] rfl (Quiet.nilp rfl) ?_
    refine D.kw [22] rfl (Quiet.fieldAddr rfl fo_79_4) ?_
    refine D.h rfl (by kernel_rfl) (OpSpec.store rfl rfl rfl sz_46 ?c177 ?c178) (by (repeat' constructor)) ?nx179
    case c177 => first | decide | (simp; omega) | simp
    case c178 => exact nfz0 _ _
    rintro v L' rfl
    refine D.ph ?_
    refine Phases.go [] (by (repeat' constructor)) ?_
    refine D.kw [24, 25] rfl (Quiet.nilp rfl) ?_
    refine D.kw [25] rfl (Quiet.fieldAddr rfl fo_79_5) ?_
    refine D.h rfl (by kernel_rfl) (OpSpec.store rfl rfl rfl sz_31 ?c182 ?c183) (by (repeat' constructor)) ?nx184
    case c182 => first | decide | (simp; omega) | simp
    case c183 => exact nfz0 _ _
    rintro v L' rfl
    refine D.ph (Phases.fin (G.then_n (G.seq (G.region (G.mv rfl rfl (G.ag rfl rfl (G.nil (G.then_n (G.ret ?_)))))))))
    have hr : lgRenew ⟨δ, ω, Λ⟩ base snap es zs = (⟨(renewZ δ ω (headL base snap ++ es)).1, (renewZ δ ω (headL base snap ++ es)).2.1, ⟨Λ.acc, Λ.cur, base, snap, es, zs, Λ.doubt⟩⟩, 0) := by unfold lgRenew; dsimp only; rw [if_neg (by omega), if_pos (show (metL Λ (renewZ δ ω (headL base snap ++ es))).2 = 0 from h26)]
    rw [hr, h26]
    dsimp only
    rw [doubt_of h26]
    refine G.lgFold (g := g) (x := x) (ea := a10) (ec := c10) (za := a13) (zc := c13) (m := es.length) (k := zs.length) (⟨Λ.acc, Λ.cur, base, snap, es, zs, Λ.doubt⟩ : Lg) (by (repeat' constructor)) rfl rfl rfl rfl rfl ?_
    exact G.dn (l := [.tmp 4]) rfl rfl ⟨rfl, .inl ⟨rfl, rfl⟩⟩
   ·refine G.skip (G.then_n (G.seq (G.region (G.mv rfl rfl (G.ag rfl rfl (G.nil (G.then_n (G.ret ?_))))))))
    have hr : lgRenew ⟨δ, ω, Λ⟩ base snap es zs = metL Λ (renewZ δ ω (headL base snap ++ es)) := by unfold lgRenew; dsimp only; rw [if_neg (by omega), if_neg (show ¬ (metL Λ (renewZ δ ω (headL base snap ++ es))).2 = 0 from h26)]
    rw [hr]
    exact G.dn (l := [.tmp 4]) rfl rfl ⟨rfl, .inr ⟨h26, rfl⟩⟩

theorem sep_hd {p : HP} {h : Hp} (hp : sep [p] h) : ∀ {sz n : Nat} {v : Value} {ys : List Value}, (∀ h, p h → rdS sz h v n ys) → rdS sz h v n ys := by
  obtain ⟨g1, g2, -, le1, le2, q1, q2⟩ := hp
  intro sz n v ys hr
  exact rdS_mono (hr _ q1) le1
theorem lcompact_spec (g x d : Nat) (δ : Dk) (ω : Wl) (Λ : Lg) (z : Int) (snap : Bs) (hI : WlI δ ω) (hΛ : LgI Λ) (hs : Λ.zxs.Pairwise (· < ·)) (hz : I64 z) : Fn Tryz.prog 80 #[vptr g, vint z, vstr snap] [lgR g x Λ, wlR x d ω, dkR d δ] fun v L => v = vint (lgCompact ⟨δ, ω, Λ⟩ z snap).2 ∧ L = [lgR g x (lgCompact ⟨δ, ω, Λ⟩ z snap).1.Λ, wlR x d (lgCompact ⟨δ, ω, Λ⟩ z snap).1.ω, dkR d (lgCompact ⟨δ, ω, Λ⟩ z snap).1.δ] := by
 refine Fn.intro (vs := [vptr g, vint z, vstr snap]) Tryz.func80 rfl rfl ?_
 intro F W
 refine G.lgOpen (by (repeat' constructor)) fun ea ec za zc => ?_
 have h1 := hΛ.ents
 have h2 := hΛ.same
 refine G.seq (G.region (G.ag rfl rfl (G.nil (G.then_n (G.seq (G.block (G.seq (G.region (G.mv rfl rfl (G.q (Quiet.nilp rfl) rfl (G.q (Quiet.fieldAddr rfl fo_79_6) rfl ?_)))))))))))
 refine G.q (Quiet.ld rfl ag_4) rfl ?_
 refine G.ag rfl rfl (G.nil (G.then_n ?_))
 refine G.condB rfl (fun h9 => ?_) (fun h9 => ?_)
 ·refine G.seq (G.region (G.ag rfl rfl (G.nil (G.then_n (G.ret (G.blk_r (G.then_r ?_)))))))
  have hr : lgCompact ⟨δ, ω, Λ⟩ z snap = (⟨δ, ω, Λ⟩, 2) := by unfold lgCompact; dsimp only; rw [if_pos h9]
  rw [hr]
  try dsimp only
  refine G.lgFold (g := g) (x := x) Λ (by (repeat' constructor)) (by exact rfl) (by first | rfl | simp [Lg.keep]) (by first | rfl | simp [Lg.keep]) (by first | rfl | simp [Lg.keep]) (by first | rfl | simp [Lg.keep]) ?_
  exact G.dn (l := [.tmp 6]) rfl rfl ⟨rfl, rfl⟩
 ·refine G.seq (G.region (G.mv rfl rfl (G.q (Quiet.strlen rfl Tryz.underlying9 rfl) rfl (G.q (Quiet.int rfl rfl rfl) rfl (G.ag rfl rfl (G.nil (G.then_n ?_)))))))
  refine G.condD rfl (fun h14 => ?_) (fun h14 => ?_)
  ·refine G.seq (G.region (G.ag rfl rfl (G.nil (G.then_n (G.ret (G.blk_r (G.then_r ?_)))))))
   have hr : lgCompact ⟨δ, ω, Λ⟩ z snap = (⟨δ, ω, Λ⟩, 1) := by unfold lgCompact; dsimp only; rw [if_neg (by rw [h9]; decide), if_pos (by omega)]
   rw [hr]
   try dsimp only
   refine G.lgFold (g := g) (x := x) Λ (by (repeat' constructor)) (by exact rfl) (by first | rfl | simp [Lg.keep]) (by first | rfl | simp [Lg.keep]) (by first | rfl | simp [Lg.keep]) (by first | rfl | simp [Lg.keep]) ?_
   exact G.dn (l := [.tmp 6]) rfl rfl ⟨rfl, rfl⟩
  ·refine G.skip (G.blk_n (G.then_n (G.seq ?_)))
   refine G.lgFold (g := g) (x := x) Λ (by (repeat' constructor)) (by exact rfl) (by first | rfl | simp [Lg.keep]) (by first | rfl | simp [Lg.keep]) (by first | rfl | simp [Lg.keep]) (by first | rfl | simp [Lg.keep]) ?_
   refine G.region (G.mv rfl rfl (G.mv rfl rfl ?_))
   refine G.oq (OpSpec.call Tryz.func74 rfl rfl (vs := [_, _]) rfl (lupto_spec g x Λ z hΛ hs)) ?nx13
   rintro v L' ⟨rfl, rfl⟩
   refine G.mv rfl rfl (G.q (Quiet.extract rfl rfl) rfl (G.q (Quiet.extract rfl rfl) rfl (G.ag rfl rfl (G.ag rfl rfl (G.nil (G.then_n (G.seq (G.seq (G.region ?_)))))))))
   rcases hpl : placeZ Λ z with _ | n
   ·refine G.mv rfl rfl (G.q (Quiet.not rfl) rfl (G.nil (G.then_n (G.condT rfl (G.seq (G.region (G.ag rfl rfl (G.nil (G.then_n (G.ret (G.then_r ?_)))))))))))
    have hr : lgCompact ⟨δ, ω, Λ⟩ z snap = (⟨δ, ω, Λ⟩, 81) := by unfold lgCompact; dsimp only; rw [if_neg (by rw [h9]; decide), if_neg (by omega), hpl]
    rw [hr]
    try dsimp only
    exact G.dn (l := [.tmp 6]) rfl rfl ⟨rfl, rfl⟩
   ·simp only [Option.getD_some]
    have hpe := (place_le hpl).1
    refine G.mv rfl rfl (G.q (Quiet.not rfl) rfl (G.nil (G.then_n (G.condF rfl (G.skip (G.then_n (G.seq ?_)))))))
    refine G.lgOpen (by (repeat' constructor)) fun ea ec za zc => ?_
    refine G.slAddr (a := ea) (c := ec) (by (repeat' constructor)) fun hcap1 _ => ?_
    refine G.slAddr (a := za) (c := zc) (by (repeat' constructor)) fun hcap2 _ => ?_
    refine G.fold (p := sep [strR (.slice ea Λ.ents.length ec) Λ.ents, intR (.slice za Λ.zxs.length zc) Λ.zxs]) (q := [strR (.slice ea Λ.ents.length ec) Λ.ents, intR (.slice za Λ.zxs.length zc) Λ.zxs]) (by (repeat' constructor)) (fun _ hp => hp) ?_
    refine G.draw [16] [[0, 1, 2, 3, 4, 5, 6, 7, 8, 9, 10, 11, 12, 13, 14, 15, 16], [17]] mixed (by kernel_rfl) ?_
    refine Phases.go [] (by (repeat' constructor)) ?_
    refine D.kw [16] rfl (Quiet.move rfl) ?_
    refine D.kw [15, 16] rfl (Quiet.move rfl) ?_
    refine D.kw [15, 16] rfl (Quiet.move rfl) ?_
    refine D.kw [4, 5, 6, 8, 15, 16] rfl (Quiet.move rfl) ?_
    refine D.kw [5, 6, 8, 15, 16] rfl (Quiet.nilp rfl) ?_
    refine D.kw [6, 8, 15, 16] rfl (Quiet.fieldAddr rfl fo_79_4) ?_
    refine D.kw [8, 15, 16] rfl (Quiet.ld rfl ag_46) ?_
    refine D.kw [8, 15, 16] rfl (Quiet.move rfl) ?_
    refine D.kw [15, 16] rfl (Quiet.to (v' := (.slice (cutS ea ec n) (Λ.ents.length - n) (ec - n))) (Quiet.slFromS (i := (n : Int)) rfl el_46 rfl (by omega)) (by rw [Int.toNat_natCast])) ?_
    refine D.kw [10, 11, 12, 14, 15, 16] rfl (Quiet.move rfl) ?_
    refine D.kw [11, 12, 14, 15, 16] rfl (Quiet.nilp rfl) ?_
    refine D.kw [12, 14, 15, 16] rfl (Quiet.fieldAddr rfl fo_79_5) ?_
    refine D.kw [14, 15, 16] rfl (Quiet.ld rfl ag_31) ?_
    refine D.kw [14, 15, 16] rfl (Quiet.move rfl) ?_
    refine D.kw [15, 16] rfl (Quiet.to (v' := (.slice (cutS za zc n) (Λ.zxs.length - n) (zc - n))) (Quiet.slFromS (i := (n : Int)) rfl el_31 rfl (by omega)) (by rw [Int.toNat_natCast])) ?_
    refine D.kw [16] rfl (Quiet.buildN (pl := [(0, 2), (2, 1), (3, 1), (4, 1), (5, 1), (6, 1), (7, 1)]) (us := [(2, _), (3, _), (4, _), (5, _)]) (cells := [vint 0, vint 0, .pointer none, vint z, vstr snap, (.slice (cutS ea ec n) (Λ.ents.length - n) (ec - n)), (.slice (cutS za zc n) (Λ.zxs.length - n) (zc - n)), .bool false]) Tryz.underlying79 (by kernel_rfl) ze_79 rfl rfl) ?_
    refine D.h rfl (by kernel_rfl) (OpSpec.call Tryz.func139 rfl rfl (vs := [_, _]) rfl (lrenew_spec g x d δ ω Λ z snap (.slice (cutS ea ec n) (Λ.ents.length - n) (ec - n)) (.slice (cutS za zc n) (Λ.zxs.length - n) (zc - n)) (Λ.ents.drop n) (Λ.zxs.drop n) ea ec za zc (sep [strR (.slice ea Λ.ents.length ec) Λ.ents, intR (.slice za Λ.zxs.length zc) Λ.zxs]) hI ?hb34 ?hsn35 ?hre36 ?hrz37 ?hel38 ?hzl39)) (by (repeat' constructor)) ?nx40
    case hb34 => exact hz
    case hsn35 => omega
    case hre36 => intro h hp; obtain ⟨g1, g2, -, le1, le2, q1, q2⟩ := hp; rw [List.length_drop, show strs (Λ.ents.drop n) = (strs Λ.ents).drop n from List.map_drop]; exact rdS_mono (slR_from (by omega) q1) le1
    case hrz37 => intro h hp; obtain ⟨g1, g2, -, le1, le2, q1, q2⟩ := hp; rw [List.length_drop, show ints (Λ.zxs.drop n) = (ints Λ.zxs).drop n from List.map_drop]; exact rdS_mono (sep_hd q2 (fun _ q => slR_from (by omega) q)) le2
    case hel38 => rw [List.length_drop]; omega
    case hzl39 => rw [List.length_drop, List.length_drop]; omega
    rintro v L' ⟨rfl, ⟨hf0, rfl⟩ | ⟨hf1, rfl⟩⟩
    ·refine D.ph ?_
     refine Phases.go [] (by (repeat' constructor)) ?_
     refine D.kw [] rfl (Quiet.assign rfl) ?_
     refine D.ph (Phases.fin (G.then_n (G.ret ?_)))
     have hr : lgCompact ⟨δ, ω, Λ⟩ z snap = lgRenew ⟨δ, ω, Λ⟩ z snap (Λ.ents.drop n) (Λ.zxs.drop n) := by unfold lgCompact; dsimp only; rw [if_neg (by rw [h9]; decide), if_neg (by omega), hpl]
     rw [hr]
     exact G.dn (l := [.tmp 6]) rfl rfl ⟨rfl, rfl⟩
    ·refine D.ph ?_
     refine Phases.go [] (by (repeat' constructor)) ?_
     refine D.kw [] rfl (Quiet.assign rfl) ?_
     refine D.ph (Phases.fin (G.then_n (G.ret ?_)))
     have hr : lgCompact ⟨δ, ω, Λ⟩ z snap = lgRenew ⟨δ, ω, Λ⟩ z snap (Λ.ents.drop n) (Λ.zxs.drop n) := by unfold lgCompact; dsimp only; rw [if_neg (by rw [h9]; decide), if_neg (by omega), hpl]
     rw [hr]
     refine G.focus (p := sep [strR (.slice ea Λ.ents.length ec) Λ.ents, intR (.slice za Λ.zxs.length zc) Λ.zxs]) (by (repeat' constructor)) (G.unfold (q := [strR (.slice ea Λ.ents.length ec) Λ.ents, intR (.slice za Λ.zxs.length zc) Λ.zxs]) (fun _ hp => hp) ?_)
     simp only [List.cons_append, List.nil_append]
     obtain ⟨e9, he9⟩ := renew_bad hf1
     rw [he9]
     dsimp only
     refine G.lgFold (g := g) (x := x) (ea := ea) (ec := ec) (za := za) (zc := zc) (m := Λ.ents.length) (k := Λ.zxs.length) (Λ.met e9) (by (repeat' constructor)) (by rw [met_acc, met_cur, met_base, met_snap]) (by rw [met_ents]) (by rw [met_zxs]) (by rw [met_ents]) (by rw [met_zxs]) ?_
     exact G.dn (l := [.tmp 6]) rfl rfl ⟨rfl, rfl⟩

theorem lkeepN_spec (b : Nat) (base : Int) (snap : Bs) (es : List Bs) (zs : List Int) (s : Bs) (z : Int) (hl : es.length ≤ 4294967296) (hm : zs.length ≤ 4294967296) : Fn Tryz.prog 51 #[vptr b, vstr s, vint z] [lgNR b base snap es zs] fun v L => v = .tuple #[] ∧ L = [lgNR b base snap (es ++ [s]) (zs ++ [z])] := by
 refine Fn.intro (vs := [vptr b, vstr s, vint z]) Tryz.func51 rfl rfl ?_
 intro F W
 refine G.lgNOpen (by (repeat' constructor)) fun ea ec za zc => ?_
 refine G.seq (G.region (G.mv rfl rfl (G.mv rfl rfl (G.q (Quiet.nilp rfl) rfl (G.q (Quiet.fieldAddr rfl fo_79_4) rfl ?_)))))
 refine G.q (Quiet.ld rfl ag_46) rfl ?_
 refine G.mv rfl rfl ?_
 refine G.oq (OpSpec.buildSlice1 (vs := [_]) el_46 ze_9 rfl rfl rfl rfl rfl (by decide)) ?nx7
 rintro v L' ⟨b0, rfl, rfl⟩
 refine G.oq (OpSpec.append1 rfl rfl rfl el_46 ze_9 rfl rfl ?c9 ?c10 (Nat.le_refl _) ?c11 (by decide)) ?nx12
 case c9 => (first | (simp [isCell]; done) | (simp [isCell, setAll, Value.cells]; done))
 case c10 => rfl
 case c11 => omega
 rintro v L' ⟨⟨a0, c0, rfl⟩, rfl⟩
 refine G.q (Quiet.nilp rfl) rfl (G.q (Quiet.fieldAddr rfl fo_79_4) rfl ?_)
 refine G.oq (OpSpec.store rfl rfl rfl sz_46 ?c16 ?c17) ?nx18
 case c16 => first | decide | (simp; omega) | simp
 case c17 => exact nfz0 _ _
 rintro v L' rfl
 refine G.nil (G.then_n (G.region (G.mv rfl rfl (G.mv rfl rfl (G.q (Quiet.nilp rfl) rfl (G.q (Quiet.fieldAddr rfl fo_79_5) rfl ?_))))))
 refine G.q (Quiet.ld rfl ag_31) rfl ?_
 refine G.mv rfl rfl ?_
 refine G.oq (OpSpec.buildSlice1 (vs := [_]) el_31 ze_3 rfl rfl rfl rfl rfl (by decide)) ?nx25
 rintro v L' ⟨b1, rfl, rfl⟩
 refine G.oq (OpSpec.append1 rfl rfl rfl el_31 ze_3 rfl rfl ?c27 ?c28 (Nat.le_refl _) ?c29 (by decide)) ?nx30
 case c27 => (first | (simp [isCell]; done) | (simp [isCell, setAll, Value.cells]; done))
 case c28 => rfl
 case c29 => omega
 rintro v L' ⟨⟨a1, c1, rfl⟩, rfl⟩
 refine G.q (Quiet.nilp rfl) rfl (G.q (Quiet.fieldAddr rfl fo_79_5) rfl ?_)
 refine G.oq (OpSpec.store rfl rfl rfl sz_31 ?c34 ?c35) ?nx36
 case c34 => first | decide | (simp; omega) | simp
 case c35 => exact nfz0 _ _
 rintro v L' rfl
 refine G.nil (G.done_n ?_)
 refine G.lgNFold (b := b) base snap (es ++ [s]) (zs ++ [z]) (by (repeat' constructor)) rfl (by simp) (by simp) (by simp [strs, Value.cells]) (by simp [ints, Value.cells]) ?_
 exact G.dn (l := []) rfl rfl ⟨rfl, rfl⟩

theorem ints_at' {zs : List Int} {i : Nat} (h : i < zs.length) : (ints zs)[i * 1]? = some (vint (zs.getD i 0)) := by
  rw [Nat.mul_one]; simp [ints, List.getD_eq_getElem?_getD, h]
theorem all_fits_bad {l : List En} {j : Nat} (h : j < l.length) (hf : fitsE l[j] = false) : l.all fitsE = false := by
  rw [List.all_eq_false]; exact ⟨l[j], List.getElem_mem h, by rw [hf]; decide⟩
theorem all_fits {l : List En} (h : ∀ j (hj : j < l.length), fitsE l[j] = true) : l.all fitsE = true := by
  rw [List.all_eq_true]; intro e he
  obtain ⟨j, hj, rfl⟩ := List.mem_iff_getElem.1 he
  exact h j hj
theorem take_map {β : Type} {f : En → β} {l : List En} {j : Nat} (h : j < l.length) : (l.take j).map f ++ [f l[j]] = (l.take (j + 1)).map f := by
  rw [List.take_succ_eq_append_getElem h, List.map_append]; rfl
theorem linstall_spec (g x d : Nat) (δ : Dk) (ω : Wl) (Λ : Lg) (z : Int) (snap : Bs) (va : Value) (l : List En) (p : HP) (hI : WlI δ ω) (hz : I64 z) (hcells : ∀ h : Hp, p h → rdS 11 h va l.length (l.flatMap enC)) (hll : l.length ≤ 1073741824) (hx : ∀ e ∈ l, EnX p e) : Fn Tryz.prog 78 #[vptr g, vint z, vstr snap, va] [lgR g x Λ, wlR x d ω, dkR d δ, p] fun v L => v = vint (lgInstall ⟨δ, ω, Λ⟩ z snap l).2 ∧ L = [lgR g x (lgInstall ⟨δ, ω, Λ⟩ z snap l).1.Λ, wlR x d (lgInstall ⟨δ, ω, Λ⟩ z snap l).1.ω, dkR d (lgInstall ⟨δ, ω, Λ⟩ z snap l).1.δ, p] := by
 refine Fn.intro (vs := [vptr g, vint z, vstr snap, va]) Tryz.func78 rfl rfl ?_
 intro F W
 refine G.lgOpen (by (repeat' constructor)) fun ea ec za zc => ?_
 refine G.rdAny (p := p) hcells (by (repeat' constructor)) fun a0 c0 e _ => ?_
 subst e
 refine G.seq (G.region (G.ag rfl rfl (G.nil (G.then_n (G.seq (G.block (G.seq (G.region (G.mv rfl rfl (G.q (Quiet.nilp rfl) rfl (G.q (Quiet.fieldAddr rfl fo_79_6) rfl ?_)))))))))))
 refine G.q (Quiet.ld rfl ag_4) rfl ?_
 refine G.ag rfl rfl (G.nil (G.then_n ?_))
 refine G.condB rfl (fun h16 => ?_) (fun h16 => ?_)
 ·refine G.seq (G.region (G.ag rfl rfl (G.nil (G.then_n (G.ret (G.blk_r (G.then_r ?_)))))))
  have hr : lgInstall ⟨δ, ω, Λ⟩ z snap l = (⟨δ, ω, Λ⟩, 2) := by unfold lgInstall; dsimp only; rw [if_pos h16]
  rw [hr]
  try dsimp only
  refine G.lgFold (g := g) (x := x) Λ (by (repeat' constructor)) (by exact rfl) (by first | rfl | simp [Lg.keep]) (by first | rfl | simp [Lg.keep]) (by first | rfl | simp [Lg.keep]) (by first | rfl | simp [Lg.keep]) ?_
  exact G.dn (l := [.tmp 8]) rfl rfl ⟨rfl, rfl⟩
 ·refine G.seq (G.region (G.mv rfl rfl (G.q (Quiet.int rfl rfl rfl) rfl (G.mv rfl rfl ?_))))
  refine G.dec (t := 24) rfl (fun h3_24 => ?_) (fun h3_24 => ?_)
  ·refine G.kDT (t := 23) rfl h3_24 (G.gskip (t := 24) rfl rfl rfl rfl (G.gskip (t := 24) rfl rfl rfl rfl (G.gskip (t := 24) rfl rfl rfl rfl (G.q (Quiet.pickT rfl rfl) rfl (G.ag rfl rfl (G.nil (G.then_n (G.condT rfl (G.seq (G.region (G.ag rfl rfl (G.nil (G.then_n (G.ret (G.blk_r (G.then_r ?_))))))))))))))))
   have hr : lgInstall ⟨δ, ω, Λ⟩ z snap l = (⟨δ, ω, Λ⟩, 1) := by unfold lgInstall; dsimp only; rw [if_neg (by rw [h16]; decide), if_pos (by first | exact .inl h3_24 | exact .inr (by omega))]
   rw [hr]
   try dsimp only
   refine G.lgFold (g := g) (x := x) (ea := ea) (ec := ec) (za := za) (zc := zc) (m := Λ.ents.length) (k := Λ.zxs.length) Λ (by (repeat' constructor)) (by exact rfl) (by first | rfl | simp [Lg.keep]) (by first | rfl | simp [Lg.keep]) (by first | rfl | simp [Lg.keep]) (by first | rfl | simp [Lg.keep]) ?_
   exact G.dn (l := [.tmp 8]) rfl rfl ⟨rfl, rfl⟩
  ·refine G.kDF (t := 23) rfl h3_24 (G.grun (t := 24) rfl rfl rfl (G.mv rfl rfl (G.grun (t := 24) rfl rfl rfl (G.q (Quiet.strlen rfl Tryz.underlying9 rfl) rfl (G.grun (t := 24) rfl rfl rfl (G.q (Quiet.int rfl rfl rfl) rfl (G.q (Quiet.pickF rfl rfl) rfl (G.ag rfl rfl (G.nil (G.then_n ?_))))))))))
   refine G.condD rfl (fun h21 => ?_) (fun h21 => ?_)
   ·refine G.seq (G.region (G.ag rfl rfl (G.nil (G.then_n (G.ret (G.blk_r (G.then_r ?_)))))))
    have hr : lgInstall ⟨δ, ω, Λ⟩ z snap l = (⟨δ, ω, Λ⟩, 1) := by unfold lgInstall; dsimp only; rw [if_neg (by rw [h16]; decide), if_pos (by first | exact .inl h3_24 | exact .inr (by omega))]
    rw [hr]
    try dsimp only
    refine G.lgFold (g := g) (x := x) (ea := ea) (ec := ec) (za := za) (zc := zc) (m := Λ.ents.length) (k := Λ.zxs.length) Λ (by (repeat' constructor)) (by exact rfl) (by first | rfl | simp [Lg.keep]) (by first | rfl | simp [Lg.keep]) (by first | rfl | simp [Lg.keep]) (by first | rfl | simp [Lg.keep]) ?_
    exact G.dn (l := [.tmp 8]) rfl rfl ⟨rfl, rfl⟩
   ·refine G.skip (G.blk_n (G.then_n (G.seq (G.region (G.mv rfl rfl (G.mv rfl rfl ?_))))))
    refine G.q (Quiet.buildN (pl := [(0, 2), (2, 1), (3, 1), (4, 1), (5, 1), (6, 1), (7, 1)]) (us := [(2, _), (3, _)]) (cells := [vint 0, vint 0, .pointer none, vint z, vstr snap, .slice none 0 0, .slice none 0 0, .bool false]) Tryz.underlying79 (by kernel_rfl) ze_79 rfl rfl) rfl ?_
    refine G.oq (OpSpec.allocA ze_79) ?nx18
    rintro v L' ⟨b9, rfl, rfl⟩
    refine G.oq (OpSpec.storeA rfl rfl ?c20 sz_79 ?c23 ?c21 ?c22) ?nx24
    case c20 => simp [isCell]
    case c23 => rfl
    case c21 => simp
    case c22 => exact nfz0 _ _
    rintro v L' rfl
    refine G.nil ?_
    refine G.ptCast (b := b9) (l' := [vint 0, vint 0, .pointer none, vint z, vstr snap, .slice none 0 0, .slice none 0 0, .bool false]) (by (repeat' constructor)) rfl ?_
    refine G.add (slR_nil 9 1) (G.add (slR_nil 3 1) ?_)
    refine G.lgNFold (b := b9) (ea := none) (ec := 0) (za := none) (zc := 0) (m := 0) (k := 0) (xs := []) (ys := []) z snap ((l.take 0).map enB) ((l.take 0).map (·.zx)) (by (repeat' constructor)) rfl rfl rfl rfl rfl ?_
    refine G.then_n (G.seq (G.seq (G.region (G.mv rfl rfl (G.q (Quiet.slen rfl Tryz.underlying22 rfl) rfl (G.mv rfl rfl (G.nil (G.then_n (G.block ?_)))))))))
    refine G.loopK (ι := Nat) (fun q E => (34, vint q) :: E) (fun q => [lgNR b9 z snap ((l.take q).map enB) ((l.take q).map (·.zx))]) (fun q => q ≤ l.length ∧ ∀ i (hi : i < q) (hl : i < l.length), fitsE l[i] = true) (fun q => l.length - q) (0) (ts := [0, 1, 9, 32, 33]) (.cons rfl (.cons rfl (.cons rfl (.cons rfl (.cons rfl (.nil)))))) (⟨Nat.zero_le _, fun i hi => by omega⟩) ⟨rfl, rfl, rfl, rfl, rfl, rfl, trivial⟩ (by (repeat' constructor)) ?_
    rintro j ⟨hj, hft⟩
    refine G.seq (G.region (G.q (Quiet.int rfl rfl rfl) rfl (G.nil (G.then_n (G.seq ?_)))))
    refine G.condD rfl (fun h35 => ?_) (fun h35 => ?_)
    ·have hj2 : j < l.length := by omega
     refine G.rdShape (p := p) hcells (by (repeat' constructor)) (by omega) fun ba oa e => ?_
     subst e
     have hX := hx _ (List.getElem_mem hj2)
     refine G.skip (G.then_n (G.seq (G.block (G.seq (G.region ?_)))))
     refine G.q (Quiet.indexAddr rfl rfl el_22 (by omega)) rfl ?_
     refine G.q (Quiet.loadRdA (sz := 11) (j := j * 11) (k := 11) (p := p) (vs := enC l[j]) rfl ag_38 (by (repeat' constructor)) hcells (by simp) (by omega) (by omega) (flatMap_at (f := enC) (sz := 11) (fun _ _ => rfl) hj2)) rfl ?_
     refine G.oq (OpSpec.allocA ze_38) ?nx31
     rintro v L' ⟨b11, rfl, rfl⟩
     refine G.oq (OpSpec.storeA rfl rfl ?c33 sz_38 ?c36 ?c34 ?c35) ?nx37
     case c33 => exact hX.l.cells
     case c36 => rfl
     case c34 => simp [enC, ptC]
     case c35 => exact nfz0 _ _
     rintro v L' rfl
     refine G.nil ?_
     refine G.ptCast (b := b11) (l' := enC l[j]) (by (repeat' constructor)) (by exact rfl) ?_
     refine G.then_n (G.seq (G.region ?_))
     refine G.q (Quiet.loadAs (vs := enC l[j]) rfl ag_38 (by (repeat' constructor)) (by simp [enC, ptC]) rfl) rfl ?_
     refine G.oq (OpSpec.call Tryz.func48 rfl rfl (vs := [_]) rfl (llaid_spec l[j] p hX)) ?nx39
     rintro v L' ⟨s1, hs1, rfl, rfl⟩
     refine G.mv rfl rfl (G.q (Quiet.extract rfl rfl) rfl (G.q (Quiet.extract rfl rfl) rfl (G.ag rfl rfl (G.ag rfl rfl (G.nil (G.then_n (G.seq (G.seq (G.region (G.mv rfl rfl (G.q (Quiet.not rfl) rfl (G.nil (G.then_n ?_)))))))))))))
     refine G.condB rfl (fun h44 => ?_) (fun h44 => ?_)
     ·refine G.seq (G.region (G.ag rfl rfl (G.nil (G.then_n (G.ret (G.then_r (G.blk_r (G.then_r (G.then_r (G.blk_r (G.then_r ?_)))))))))))
      have hr : lgInstall ⟨δ, ω, Λ⟩ z snap l = (⟨δ, ω, Λ⟩, 1) := by unfold lgInstall; dsimp only; rw [if_neg (by rw [h16]; decide), if_neg (by rintro (g1 | g1); exact h3_24 g1; omega), if_pos (all_fits_bad hj2 (by simpa using h44))]
      rw [hr]
      try dsimp only
      refine G.lgFold (g := g) (x := x) (ea := ea) (ec := ec) (za := za) (zc := zc) (m := Λ.ents.length) (k := Λ.zxs.length) Λ (by (repeat' constructor)) (by exact rfl) (by first | rfl | simp [Lg.keep]) (by first | rfl | simp [Lg.keep]) (by first | rfl | simp [Lg.keep]) (by first | rfl | simp [Lg.keep]) ?_
      exact G.dn (l := [.tmp 8]) rfl rfl ⟨rfl, rfl⟩
     ·have hfj : fitsE l[j] = true := by simpa using h44
      have hse := hs1 hfj
      subst hse
      refine G.skip (G.then_n (G.region (G.mv rfl rfl (G.q (Quiet.fieldAddr rfl fo_38_0) rfl ?_))))
      refine G.q (Quiet.ld rfl ag_3) rfl ?_
      refine G.oq (OpSpec.call Tryz.func51 rfl rfl (vs := [_, _, _]) rfl (lkeepN_spec b9 z snap ((l.take j).map enB) ((l.take j).map (·.zx)) (enB l[j]) l[j].zx ?h147 ?h248)) ?nx49
      case h147 => rw [List.length_map, List.length_take]; omega
      case h248 => rw [List.length_map, List.length_take]; omega
      rintro v L' ⟨rfl, rfl⟩; rw [take_map hj2, take_map hj2]
      refine G.nil (G.blk_n (G.then_n (G.region ?_)))
      refine G.q (Quiet.add rfl rfl (by omega)) rfl ?_
      refine G.mv rfl rfl (G.nil (G.then_n ?_))
      exact G.roundK (j + 1) (⟨by omega, fun i hi hl2 => by rcases Nat.lt_or_ge i j with g1 | g1; exact hft i g1 hl2; obtain rfl : i = j := (by omega); exact hfj⟩) (by omega) ⟨rfl, rfl, rfl, rfl, rfl, rfl, trivial⟩ (by (repeat' constructor)) (by ((repeat (apply Have.cons; (repeat (first | exact Pick.here | apply Pick.there)))); apply Have.base; repeat' constructor))
    ·have hje : j = l.length := by omega
     subst hje
     rw [List.take_length]
     have hall := all_fits (fun i hi => hft i hi hi)
     refine G.lgNOpen (by (repeat' constructor)) fun na nc nz nd => ?_
     have hzl : (l.map (·.zx)).length = l.length := List.length_map _
     refine G.exit (G.then_e (G.then_e (G.blk_e (G.then_n (G.seq (G.seq (G.region (G.q (Quiet.fieldAddr rfl fo_79_5) rfl ?_))))))))
     refine G.q (Quiet.ld rfl ag_31) rfl ?_
     refine G.q (Quiet.slen rfl Tryz.underlying31 rfl) rfl (G.mv rfl rfl (G.nil (G.then_n (G.block ?_))))
     refine G.loopK (ι := Nat) (fun q E => (53, vint q) :: E) (fun q => []) (fun q => q ≤ (l.map (·.zx)).length ∧ ∀ k, k < q → z < ((l.map (·.zx))).getD k 0 ∧ (0 < k → ((l.map (·.zx))).getD (k - 1) 0 < ((l.map (·.zx))).getD k 0)) (fun q => (l.map (·.zx)).length - q) (0) (ts := [0, 1, 9, 51, 52]) (.cons rfl (.cons rfl (.cons rfl (.cons rfl (.cons rfl (.nil)))))) (⟨Nat.zero_le _, fun k hk => by omega⟩) ⟨rfl, rfl, rfl, rfl, rfl, rfl, trivial⟩ (by (repeat' constructor)) ?_
     rintro i ⟨hi, hgood⟩
     refine G.seq (G.region (G.q (Quiet.int rfl rfl rfl) rfl (G.nil (G.then_n (G.seq ?_)))))
     refine G.condD rfl (fun h54 => ?_) (fun h54 => ?_)
     ·refine G.slShape (v := .slice nz _ nd) (xs := ints (l.map (·.zx))) (by (repeat' constructor)) (by omega) fun bn cq e0 mq _ => ?_
      simp only [Value.slice.injEq, true_and] at e0
      obtain ⟨rfl, rfl⟩ := e0
      refine G.skip (G.then_n (G.seq (G.block (G.seq (G.region (G.mv rfl rfl ?_))))))
      refine G.q (Quiet.indexAddr rfl rfl el_31 (by omega)) rfl ?_
      refine G.q (Quiet.loadEl (p := intR (.slice (some ⟨bn, 0, none⟩) (l.map (·.zx)).length nd) (l.map (·.zx))) (i := (i) * 1) (v := vint (((l.map (·.zx))).getD (i) 0)) rfl ag_3 (by (repeat' constructor)) (fun h hp => slR_rd hp) (ints_at' (by omega))) rfl ?_
      refine G.ag rfl rfl (G.ag rfl rfl (G.nil (G.then_n (G.seq (G.region (G.mv rfl rfl (G.mv rfl rfl (G.q (Quiet.int rfl rfl rfl) rfl (G.mv rfl rfl ?_)))))))))
      refine G.dec (t := 61) rfl (fun h17_61 => ?_) (fun h17_61 => ?_)
      ·refine G.kDT (t := 60) rfl h17_61 (G.gskip (t := 61) rfl rfl rfl rfl (G.gskip (t := 61) rfl rfl rfl rfl (G.gskip (t := 61) rfl rfl rfl rfl (G.gskipU (t := 64) rfl rfl rfl (G.gskipU (t := 64) rfl rfl rfl (G.gskipU (t := 64) rfl rfl rfl (G.gskipU (t := 64) rfl rfl rfl (G.gskipU (t := 64) rfl rfl rfl (G.gskipU (t := 64) rfl rfl rfl (G.gskipU (t := 64) rfl rfl rfl (G.gskipU (t := 64) rfl rfl rfl (G.gskip (t := 61) rfl rfl rfl rfl (G.q (Quiet.pickT rfl rfl) rfl (G.nil (G.then_n (G.condT rfl (G.seq (G.region (G.ag rfl rfl (G.nil (G.then_n (G.ret (G.blk_r (G.then_r (G.then_r (G.blk_r (G.then_r ?_)))))))))))))))))))))))))))
       have hr : lgInstall ⟨δ, ω, Λ⟩ z snap l = (⟨δ, ω, Λ⟩, 81) := by unfold lgInstall; dsimp only; rw [if_neg (by rw [h16]; decide), if_neg (by rintro (g1 | g1); exact h3_24 g1; omega), if_neg (by rw [hall]; decide), if_pos (fun hR => by have hRi := hR i (by omega); exact absurd hRi.1 (by omega))]
       rw [hr]
       try dsimp only
       refine G.lgFold (g := g) (x := x) (ea := ea) (ec := ec) (za := za) (zc := zc) (m := Λ.ents.length) (k := Λ.zxs.length) Λ (by (repeat' constructor)) (by exact rfl) (by first | rfl | simp [Lg.keep]) (by first | rfl | simp [Lg.keep]) (by first | rfl | simp [Lg.keep]) (by first | rfl | simp [Lg.keep]) ?_
       exact G.dn (l := [.tmp 8]) rfl rfl ⟨rfl, rfl⟩
      ·refine G.kDF (t := 60) rfl h17_61 (G.grun (t := 61) rfl rfl rfl (G.mv rfl rfl (G.grun (t := 61) rfl rfl rfl (G.q (Quiet.int rfl rfl rfl) rfl (G.grun (t := 61) rfl rfl rfl (G.mv rfl rfl ?_))))))
       refine G.dec (t := 64) rfl (fun h17_64 => ?_) (fun h17_64 => ?_)
       ·refine G.kDT (t := 63) rfl h17_64 (G.grun (t := 64) rfl rfl rfl (G.mv rfl rfl (G.grun (t := 64) rfl rfl rfl (G.q (Quiet.fieldAddr rfl fo_79_5) rfl (G.grun (t := 64) rfl rfl rfl ?_)))))
        refine G.q (Quiet.ld rfl ag_31) rfl ?_
        refine G.grun (t := 64) rfl rfl rfl (G.mv rfl rfl (G.grun (t := 64) rfl rfl rfl ?_))
        refine G.q (Quiet.as (v' := vint ((i - 1 : Nat) : Int)) (by congr 1; omega) (Quiet.sub rfl rfl (by omega))) rfl ?_
        refine G.grun (t := 64) rfl rfl rfl ?_
        refine G.q (Quiet.indexAddr rfl rfl el_31 (by omega)) rfl ?_
        refine G.grun (t := 64) rfl rfl rfl ?_
        refine G.q (Quiet.loadEl (p := intR (.slice (some ⟨bn, 0, none⟩) (l.map (·.zx)).length nd) (l.map (·.zx))) (i := (i - 1) * 1) (v := vint (((l.map (·.zx))).getD (i - 1) 0)) rfl ag_3 (by (repeat' constructor)) (fun h hp => slR_rd hp) (ints_at' (by omega))) rfl ?_
        refine G.grun (t := 64) rfl rfl rfl (G.q (Quiet.int rfl rfl rfl) rfl (G.grun (t := 61) rfl rfl rfl (G.q (Quiet.pickT rfl rfl) rfl (G.q (Quiet.pickF rfl rfl) rfl (G.nil (G.then_n ?_))))))
        refine G.condD rfl (fun h74 => ?_) (fun h74 => ?_)
        ·refine G.seq (G.region (G.ag rfl rfl (G.nil (G.then_n (G.ret (G.blk_r (G.then_r (G.then_r (G.blk_r (G.then_r ?_))))))))))
         have hr : lgInstall ⟨δ, ω, Λ⟩ z snap l = (⟨δ, ω, Λ⟩, 81) := by unfold lgInstall; dsimp only; rw [if_neg (by rw [h16]; decide), if_neg (by rintro (g1 | g1); exact h3_24 g1; omega), if_neg (by rw [hall]; decide), if_pos (fun hR => by have hRi := hR i (by omega); have := hRi.2 (by omega); omega)]
         rw [hr]
         try dsimp only
         refine G.lgFold (g := g) (x := x) (ea := ea) (ec := ec) (za := za) (zc := zc) (m := Λ.ents.length) (k := Λ.zxs.length) Λ (by (repeat' constructor)) (by exact rfl) (by first | rfl | simp [Lg.keep]) (by first | rfl | simp [Lg.keep]) (by first | rfl | simp [Lg.keep]) (by first | rfl | simp [Lg.keep]) ?_
         exact G.dn (l := [.tmp 8]) rfl rfl ⟨rfl, rfl⟩
        ·refine G.skip (G.blk_n (G.then_n (G.region ?_)))
         refine G.q (Quiet.add rfl rfl (by omega)) rfl ?_
         refine G.mv rfl rfl (G.nil (G.then_n ?_))
         exact G.roundK (i + 1) (⟨by omega, fun k hk => by rcases Nat.lt_or_ge k i with g1 | g1; exact hgood k g1; obtain rfl : k = i := (by omega); exact ⟨by omega, fun h0k => by first | omega | exact absurd h0k (by omega)⟩⟩) (by omega) ⟨rfl, rfl, rfl, rfl, rfl, rfl, trivial⟩ (by (repeat' constructor)) (by ((repeat (apply Have.cons; (repeat (first | exact Pick.here | apply Pick.there)))); apply Have.base; repeat' constructor))
       ·refine G.kDF (t := 63) rfl h17_64 (G.gskip (t := 64) rfl rfl rfl rfl (G.gskip (t := 64) rfl rfl rfl rfl (G.gskip (t := 64) rfl rfl rfl rfl (G.gskip (t := 64) rfl rfl rfl rfl (G.gskip (t := 64) rfl rfl rfl rfl (G.gskip (t := 64) rfl rfl rfl rfl (G.gskip (t := 64) rfl rfl rfl rfl (G.gskip (t := 64) rfl rfl rfl rfl (G.grun (t := 61) rfl rfl rfl (G.q (Quiet.pickF rfl rfl) rfl (G.q (Quiet.pickF rfl rfl) rfl (G.nil (G.then_n (G.condF rfl (G.skip (G.blk_n (G.then_n (G.region ?_))))))))))))))))))
        refine G.q (Quiet.add rfl rfl (by omega)) rfl ?_
        refine G.mv rfl rfl (G.nil (G.then_n ?_))
        exact G.roundK (i + 1) (⟨by omega, fun k hk => by rcases Nat.lt_or_ge k i with g1 | g1; exact hgood k g1; obtain rfl : k = i := (by omega); exact ⟨by omega, fun h0k => by first | omega | exact absurd h0k (by omega)⟩⟩) (by omega) ⟨rfl, rfl, rfl, rfl, rfl, rfl, trivial⟩ (by (repeat' constructor)) (by ((repeat (apply Have.cons; (repeat (first | exact Pick.here | apply Pick.there)))); apply Have.base; repeat' constructor))
     ·have hR : Rises z (l.map (·.zx)) := fun k hk => hgood k (by omega)
      refine G.fold (p := sep [strR (.slice na (l.map enB).length nc) (l.map enB), intR (.slice nz (l.map (·.zx)).length nd) (l.map (·.zx))]) (q := [strR (.slice na (l.map enB).length nc) (l.map enB), intR (.slice nz (l.map (·.zx)).length nd) (l.map (·.zx))]) (by (repeat' constructor)) (fun _ hp => hp) ?_
      refine G.exit (G.then_e (G.then_e (G.blk_e (G.then_n (G.seq (G.region (G.mv rfl rfl ?_)))))))
      refine G.q (Quiet.loadAs (vs := [vint 0, vint 0, .pointer none, vint z, vstr snap, .slice na (l.map enB).length nc, .slice nz (l.map (·.zx)).length nd, .bool false]) rfl ag_79 (by (repeat' constructor)) (by simp) rfl) rfl ?_
      have hsp := lrenew_spec g x d δ ω Λ z snap (.slice na (l.map enB).length nc) (.slice nz (l.map (·.zx)).length nd) (l.map enB) (l.map (·.zx)) ea ec za zc (sep [strR (.slice na (l.map enB).length nc) (l.map enB), intR (.slice nz (l.map (·.zx)).length nd) (l.map (·.zx))]) hI hz (by omega) (fun h hp => (by obtain ⟨g1, g2, -, le1, le2, q1, q2⟩ := hp; exact rdS_mono (slR_rd q1) le1)) (fun h hp => (by obtain ⟨g1, g2, -, le1, le2, q1, q2⟩ := hp; exact rdS_mono (sep_hd q2 (fun _ q => slR_rd q)) le2)) (by rw [List.length_map]; omega) (by rw [List.length_map, List.length_map])
      refine G.oq (OpSpec.call Tryz.func139 rfl rfl (vs := [_, _]) rfl (hsp)) ?nx77
      rintro v L' ⟨rfl, ⟨hf0, rfl⟩ | ⟨hf1, rfl⟩⟩
      ·refine G.ag rfl rfl (G.nil (G.then_n (G.ret ?_)))
       have hr : lgInstall ⟨δ, ω, Λ⟩ z snap l = lgRenew ⟨δ, ω, Λ⟩ z snap (l.map enB) (l.map (·.zx)) := by unfold lgInstall; dsimp only; rw [if_neg (by rw [h16]; decide), if_neg (by rintro (g1 | g1); exact h3_24 g1; omega), if_neg (by rw [hall]; decide), if_neg (fun g => g hR)]
       rw [hr]
       exact G.dn (l := [.tmp 8]) rfl rfl ⟨rfl, rfl⟩
      ·refine G.ag rfl rfl (G.nil (G.then_n (G.ret ?_)))
       have hr : lgInstall ⟨δ, ω, Λ⟩ z snap l = lgRenew ⟨δ, ω, Λ⟩ z snap (l.map enB) (l.map (·.zx)) := by unfold lgInstall; dsimp only; rw [if_neg (by rw [h16]; decide), if_neg (by rintro (g1 | g1); exact h3_24 g1; omega), if_neg (by rw [hall]; decide), if_neg (fun g => g hR)]
       rw [hr]
       obtain ⟨e9, he9⟩ := renew_bad hf1
       rw [he9]
       dsimp only
       refine G.lgFold (g := g) (x := x) (ea := ea) (ec := ec) (za := za) (zc := zc) (m := Λ.ents.length) (k := Λ.zxs.length) (Λ.met e9) (by (repeat' constructor)) (by rw [met_acc, met_cur, met_base, met_snap]) (by rw [met_ents]) (by rw [met_zxs]) (by rw [met_ents]) (by rw [met_zxs]) ?_
       exact G.dn (l := [.tmp 8]) rfl rfl ⟨rfl, rfl⟩

end Go.Proofs.YtidjhgbdokcphaaGreat

/- Own work: scripts of law 09: plain. -/

namespace Go.Proofs.YtidjhgbdokcphaaGreat
open Go

structure Op9 where
  k : Int
  n : Int
  size : Int
  e : En
  lv : Value
  l : List En
  text : Bs
  hv : Value
  how : List Int
def op9K (o : Op9) (k : Int) : List Value := [vint k, vint o.n, vint o.size] ++ enC o.e ++ [o.lv, vstr o.text, o.hv]
def op9C (o : Op9) : List Value := op9K o o.k
structure Op9A (p : HP) (o : Op9) : Prop where
  k : I64 o.k
  n : I64 o.n
  size : I64 o.size
  e : EnX p o.e
  l : ∀ h : Hp, p h → rdS 11 h o.lv o.l.length (o.l.flatMap enC)
  len : o.l.length ≤ 1048576
  x : ∀ e ∈ o.l, EnX p e
  text : o.text.length ≤ 1048576
  how : ∀ h : Hp, p h → rdS 1 h o.hv o.how.length (ints o.how)
  hows : ∀ z ∈ o.how, I64 z
  lc : isCell o.lv = true
  hc : isCell o.hv = true
structure Ops9 (p : HP) (v : Value) (xs : List Op9) : Prop where
  cells : ∀ h : Hp, p h → rdS 17 h v xs.length (xs.flatMap op9C)
  len : xs.length ≤ 1048576
  each : ∀ o ∈ xs, Op9A p o
theorem op9K_cells {p : HP} {o : Op9} (h : Op9A p o) (k : Int) : ∀ v ∈ op9K o k, isCell v = true := by
  intro v hv
  unfold op9K at hv
  rcases List.mem_append.1 hv with hv | hv
  · rcases List.mem_append.1 hv with hv | hv
    · simp at hv; rcases hv with rfl | rfl | rfl <;> rfl
    · exact h.e.l.cells v hv
  · simp at hv
    rcases hv with rfl | rfl | rfl
    · exact h.lc
    · rfl
    · exact h.hc
def textF : Nat → Bs → Int → Bs
  | 0, s, _ => s
  | f + 1, s, n => if s ≠ [] ∧ (s.length : Int) < n then textF f (s ++ s) n else s
def cutT (s : Bs) (n : Int) : Bs := if (s.length : Int) > n ∧ n > 0 then s.take n.toNat else s
def textZ (o : Op9) : Bs := cutT (textF 66001 o.text (min o.size 66000)) (min o.size 66000)
theorem textF_stop {f : Nat} {s : Bs} {n : Int} (h : ¬ (s ≠ [] ∧ (s.length : Int) < n)) : textF f s n = s := by
  cases f with
  | zero => rfl
  | succ f => show (if _ then _ else _) = _; rw [if_neg h]
theorem textF_go {f : Nat} {s : Bs} {n : Int} (h : s ≠ [] ∧ (s.length : Int) < n) : textF (f + 1) s n = textF f (s ++ s) n := by
  show (if _ then _ else _) = _; rw [if_pos h]
def lgDoes (s : Ld) (o : Op9) (k : Int) : Ld × Int :=
  if k = 1 then lgAppend s o.e else if k = 2 then lgSync s else if k = 3 then lgAccept s o.n else if k = 4 then lgAdopt s o.n else if k = 5 then lgCut s o.n else if k = 6 then lgInstall s o.n (textZ o) o.l else lgCompact s o.n (textZ o)
theorem lr_cut {s : Ld} {N : Int} (h : LLv s N) (z : Int) : LRes s N (lgCut s z) (lgCut s.calm z) (fun L => ∃ n, placeZ s.Λ z = some n ∧ L = cutL s.Λ n) := by
  have hd : s.Λ.doubt = false := h.lw.live
  rcases hp : placeZ s.Λ z with _ | n
  · have e : ∀ t : Ld, t.Λ = s.Λ → lgCut t z = (t, 81) := fun t ht => by unfold lgCut; rw [ht, if_neg (by rw [hd]; decide), hp]
    rw [e s rfl, e s.calm rfl]
    exact LRes.same h (fun g => absurd g (by decide)) rfl
  · have e : ∀ t : Ld, t.Λ = s.Λ → lgCut t z = lgCut2 t n := fun t ht => by unfold lgCut; rw [ht, if_neg (by rw [hd]; decide), hp]
    rw [e s rfl, e s.calm rfl]
    have hl := h.lw.w.rows.len
    exact (lr_cut2 h (n := n) (by have := (place_le hp).1; rw [show s.Λ.ents.length = s.Λ.zxs.length from hl.symm]; exact this)).mono (fun L hL => ⟨n, rfl, hL⟩)
theorem lr_install {s : Ld} {N : Int} (h : LLv s N) {z : Int} (hz : z ≤ 9223372036854775807) (snap : Bs) {l : List En} (hi : ∀ e ∈ l, EnI e) : LRes s N (lgInstall s z snap l) (lgInstall s.calm z snap l) (fun L => L = newL s.Λ z snap (l.map enB) (l.map (·.zx))) := by
  have hd : s.Λ.doubt = false := h.lw.live
  by_cases h1 : z < 0 ∨ snap.length > 65536
  · have e : ∀ t : Ld, t.Λ = s.Λ → lgInstall t z snap l = (t, 1) := fun t ht => by unfold lgInstall; rw [ht, if_neg (by rw [hd]; decide), if_pos h1]
    rw [e s rfl, e s.calm rfl]; exact LRes.same h (fun g => absurd g (by decide)) rfl
  by_cases h2 : l.all fitsE = false
  · have e : ∀ t : Ld, t.Λ = s.Λ → lgInstall t z snap l = (t, 1) := fun t ht => by unfold lgInstall; rw [ht, if_neg (by rw [hd]; decide), if_neg h1, if_pos h2]
    rw [e s rfl, e s.calm rfl]; exact LRes.same h (fun g => absurd g (by decide)) rfl
  by_cases h3 : ¬ Rises z (l.map (·.zx))
  · have e : ∀ t : Ld, t.Λ = s.Λ → lgInstall t z snap l = (t, 81) := fun t ht => by unfold lgInstall; rw [ht, if_neg (by rw [hd]; decide), if_neg h1, if_neg h2, if_pos h3]
    rw [e s rfl, e s.calm rfl]; exact LRes.same h (fun g => absurd g (by decide)) rfl
  have e : ∀ t : Ld, t.Λ = s.Λ → lgInstall t z snap l = lgRenew t z snap (l.map enB) (l.map (·.zx)) := fun t ht => by unfold lgInstall; rw [ht, if_neg (by rw [hd]; decide), if_neg h1, if_neg h2, if_neg h3]
  rw [e s rfl, e s.calm rfl]
  exact (lr_renew h (by omega) (by omega) (rises_rows l z hi (by simpa using h2) (by simpa using h3))).mono (fun L hL => hL.1)
theorem place_ok {Λ : Lg} (h : LgW Λ) {z : Int} {n : Nat} (hn : placeZ Λ z = some n) : (0 ≤ z ∧ z ≤ 9223372036854775807) ∧ RowsI z (Λ.ents.drop n) (Λ.zxs.drop n) := by
  obtain ⟨p1, p2⟩ := place_le hn
  have hb := h.base
  have hd := h.rows.drop n p1
  rw [p2] at hd
  refine ⟨?_, hd⟩
  unfold placeZ at hn
  split at hn
  · rename_i hm
    have := h.rows.gt z hm
    have := (h.rows.i64 z hm).2
    omega
  · split at hn
    · rename_i g; rw [g]; exact hb
    · cases hn
theorem lr_compact {s : Ld} {N : Int} (h : LLv s N) (z : Int) (snap : Bs) : LRes s N (lgCompact s z snap) (lgCompact s.calm z snap) (fun L => ∃ n, placeZ s.Λ z = some n ∧ L = newL s.Λ z snap (s.Λ.ents.drop n) (s.Λ.zxs.drop n)) := by
  have hd : s.Λ.doubt = false := h.lw.live
  by_cases h1 : snap.length > 65536
  · have e : ∀ t : Ld, t.Λ = s.Λ → lgCompact t z snap = (t, 1) := fun t ht => by unfold lgCompact; rw [ht, if_neg (by rw [hd]; decide), if_pos h1]
    rw [e s rfl, e s.calm rfl]; exact LRes.same h (fun g => absurd g (by decide)) rfl
  rcases hp : placeZ s.Λ z with _ | n
  · have e : ∀ t : Ld, t.Λ = s.Λ → lgCompact t z snap = (t, 81) := fun t ht => by unfold lgCompact; rw [ht, if_neg (by rw [hd]; decide), if_neg h1, hp]
    rw [e s rfl, e s.calm rfl]
    exact LRes.same h (fun g => absurd g (by decide)) rfl
  · have e : ∀ t : Ld, t.Λ = s.Λ → lgCompact t z snap = lgRenew t z snap (s.Λ.ents.drop n) (s.Λ.zxs.drop n) := fun t ht => by unfold lgCompact; rw [ht, if_neg (by rw [hd]; decide), if_neg h1, hp]
    rw [e s rfl, e s.calm rfl]
    obtain ⟨hz, hr⟩ := place_ok h.lw.w hp
    exact (lr_renew h hz (by omega) hr).mono (fun L hL => ⟨n, rfl, hL.1⟩)
def QE (Λ L : Lg) : Prop := Λ.acc ≤ L.acc ∧ Λ.cur ≤ L.cur
theorem lr_does {p : HP} {s : Ld} {N : Int} (h : LLv s N) {o : Op9} (ho : Op9A p o) (k : Int) : LRes s (N + 4000000) (lgDoes s o k) (lgDoes s.calm o k) (QE s.Λ) := by
  unfold lgDoes
  split
  · exact ((lr_append h ho.e.l.w.i).mono (fun L hL => hL.elim)).more (by omega)
  split
  · exact ((lr_sync h).mono (fun L hL => by rw [hL]; exact ⟨Int.le_refl _, Int.le_refl _⟩)).more (by omega)
  split
  · exact ((lr_accept h o.n).mono (fun L hL => by rw [hL.2]; exact ⟨by show s.Λ.acc ≤ o.n; omega, Int.le_refl _⟩)).more (by omega)
  split
  · exact (lr_adopt h o.n).mono (fun L hL => by
      rcases hL.2.2 with q | q <;> rw [q]
      · exact ⟨Int.le_refl _, Int.le_refl _⟩
      · exact ⟨Int.le_refl _, hL.1⟩)
  split
  · exact ((lr_cut h o.n).mono (fun L hL => by obtain ⟨n, -, q⟩ := hL; rw [q]; exact ⟨Int.le_refl _, Int.le_refl _⟩)).more (by omega)
  split
  · exact ((lr_install h ho.n.2 _ (fun e he => (ho.x e he).l.w.i)).mono (fun L hL => by rw [hL]; exact ⟨Int.le_refl _, Int.le_refl _⟩)).more (by omega)
  · exact ((lr_compact h o.n _).mono (fun L hL => by obtain ⟨n, -, q⟩ := hL; rw [q]; exact ⟨Int.le_refl _, Int.le_refl _⟩)).more (by omega)
theorem sync_I {δ : Dk} {ω : Wl} (h : WlI δ ω) (ha : δ.acts ≤ 1000000000000) : WlI (syncZ δ ω).1 (syncZ δ ω).2.1 := by
  unfold syncZ
  split
  · exact h
  split
  · exact h
  split
  · exact h
  rename_i h1 h2 h3
  have sk := sync_keeps δ
  have hc := h.count
  have hsl : ∀ m : Wl, m = ω ∨ m = { ω with recs := ω.recs, synced := ω.recs.length, area := ω.area, count := ω.count + 1 } → ∀ σ : Dk, σ.now.length = δ.now.length → σ.acts ≤ δ.acts + 10 → WlI σ m := by
    intro m hm σ hl hac
    rcases hm with rfl | rfl
    · exact ⟨by rw [hl]; exact h.size, by omega, h.area, h.count, h.synced, by rw [halfZ_of hl]; exact h.fits⟩
    · exact ⟨by rw [hl]; exact h.size, by omega, h.area, by dsimp only; omega, by dsimp only; omega, by rw [halfZ_of hl]; exact h.fits⟩
  have hseal : ∃ σ m e, sealZ δ ω ω.area ω.recs = (σ, m, e) ∧ σ.now.length = δ.now.length ∧ σ.acts ≤ δ.acts + 10 ∧ (m = ω ∨ m = { ω with recs := ω.recs, synced := ω.recs.length, area := ω.area, count := ω.count + 1 }) := by
    have nk := nextZ_keeps δ.sync.1 (ω.mark ω.area ω.recs ω.a ω.b)
    unfold sealZ
    split
    · exact ⟨_, _, _, rfl, by rw [sk.1], by omega, .inl rfl⟩
    have sl : δ.sync.1.now.length = δ.now.length := by rw [sk.1]
    split
    · exact ⟨_, _, _, rfl, by omega, by omega, .inl rfl⟩
    · exact ⟨_, _, _, rfl, by omega, by omega, .inr rfl⟩
  obtain ⟨σ, m, e, hq, q1, q2, q3⟩ := hseal
  have hw := hsl m q3 σ q1 q2
  rw [hq]
  unfold dbt
  split
  · exact ⟨hw.size, hw.acts, hw.area, hw.count, hw.synced, hw.fits⟩
  · exact hw
end Go.Proofs.YtidjhgbdokcphaaGreat

/- Own work, by program: LedgerMarks: walked. -/
namespace Go.Proofs.YtidjhgbdokcphaaGreat
open Go
end Go.Proofs.YtidjhgbdokcphaaGreat

/- Own work: a formatted ledger, and what opens behind a crash: plain. -/
namespace Go.Proofs.YtidjhgbdokcphaaGreat
open Go

theorem lgFormat_ok {δ : Dk} {ω : Wl} (h : (lgFormat δ).2 = some ω) : (lgF1 δ).2.2 = 0 ∧ (lgF2 δ).2.2 = 0 ∧ ω = (lgF2 δ).2.1 ∧ (lgFormat δ).1 = (lgF2 δ).1 := by
  unfold lgFormat at h ⊢
  split at h
  · cases h
  split at h
  · cases h
  split at h
  · cases h
  · rename_i h1 h2 h3
    cases h
    rw [if_neg h1, if_neg h2, if_neg h3]
    exact ⟨by simpa using h2, by simpa using h3, rfl, rfl⟩
theorem calm_of {δ : Dk} (h : Al δ) : δ.calm = δ := by
  obtain ⟨n, o, a, l, d⟩ := δ
  have : l = 0 := h.left
  subst this; rfl
theorem format_llv {n : Int} (h : 16 ≤ n ∧ n ≤ 32768) : ∃ ω, (lgFormat (Dk.new n)).2 = some ω ∧ LLv ⟨(lgFormat (Dk.new n)).1, ω, lg0⟩ 4000003 ∧ Well (formatZ (Dk.new n)).1 newW 3 ∧ Well (lgF1 (Dk.new n)).1 (lgF1 (Dk.new n)).2.1 2000003 := by
  obtain ⟨ω, f1, f2, -, f4, f5⟩ := format_lwell h
  obtain ⟨e1, e2, e3, e4⟩ := lgFormat_ok f1
  have v1 : Lv (lgF1 (Dk.new n)).1 (lgF1 (Dk.new n)).2.1 (3 + 2000000) := (append_res (lv_new h) (headB 0 0) (B := ([], 0, 0))).live (by show (lgF1 (Dk.new n)).2.2 ≠ 2; rw [e1]; decide)
  have v2 : Lv (lgF2 (Dk.new n)).1 (lgF2 (Dk.new n)).2.1 (3 + 2000000 + 2000000) := (sync_res v1 (k := 2)).live (by show (lgF2 (Dk.new n)).2.2 ≠ 2; rw [e2]; decide)
  refine ⟨ω, f1, ⟨by rw [e3]; dsimp only; rw [e4]; exact v2, ?_, ?_⟩, f4, f5⟩
  · show LWell ⟨(lgFormat (Dk.new n)).1.calm, ω, lg0⟩ 4000003
    rw [calm_of f2.well.al]; exact f2
  · show ((headL 0 []).length : Int) ≤ ω.synced
    have hs : (lgF2 (Dk.new n)).2.1.synced = (lgF2 (Dk.new n)).2.1.recs.length := by
      rcases (well_sync f5).2.2 with ⟨c, g⟩ | g
      · show (syncZ (lgF1 (Dk.new n)).1 (lgF1 (Dk.new n)).2.1).2.1.synced = (syncZ (lgF1 (Dk.new n)).1 (lgF1 (Dk.new n)).2.1).2.1.recs.length
        rw [g]
      · have : (lgF2 (Dk.new n)).2.2 = 30 := by show (syncZ _ _).2.2 = 30; rw [g]
        rw [e2] at this; cases this
    have hr : ω.recs = headL 0 [] ++ [] := f2.recs
    rw [e3, hs, ← e3, hr]; simp
theorem LLv.opened {σ : Dk} {ω : Wl} {Λ : Lg} {N : Int} (h : LLv ⟨σ, ω, Λ⟩ N) : ω.doubt = false ∧ ω.recs.length ≤ 1048576 ∧ ∀ s ∈ ω.recs, s.length ≤ 1073741824 := by
  have h1 := headL_len Λ.base Λ.snap h.lw.w.snap
  have h2 : Λ.ents.length ≤ 200 := h.lw.w.few
  have hr : ω.recs = headL Λ.base Λ.snap ++ Λ.ents := h.lw.recs
  refine ⟨h.lw.well.doubt, by rw [hr, List.length_append]; omega, fun s hs => ?_⟩
  have : s.length ≤ 4000 := h.lv.kp.long s hs
  omega
theorem back_live {s : Ld} {N : Int} (h : LLv s N) (hok : s.δ.Ok) (how : List Int) : Back (s.δ.crash how) N s.syn := by
  obtain ⟨ω', w1, w2, w3⟩ := lv_end h.lv hok how
  exact back_syn h w1 w2 w3
theorem op9_at {xs : List Op9} {i : Nat} (h : i < xs.length) : ((xs.flatMap op9C).drop (i * 17)).take 17 = op9C xs[i] := flatMap_at (f := op9C) (sz := 17) (fun _ _ => rfl) h
theorem llv_arm {s : Ld} {N : Int} (h : LLv s N) {n : Int} (hn : 0 ≤ n) : (s.δ.arm n).2 = 0 ∧ LLv ⟨(s.δ.arm n).1, s.ω, s.Λ⟩ N := by
  obtain ⟨a1, a2⟩ := lv_arm h.lv hn
  have e : s.δ.arm n = ({ s.δ with left := n }, 0) := by unfold Dk.arm; rw [if_neg (by rw [h.lv.dead]; decide), if_neg (by omega)]
  refine ⟨a1, a2, ?_, h.head⟩
  rw [e]; exact h.lw
end Go.Proofs.YtidjhgbdokcphaaGreat

/- Own work: what a ledger tells, in memory: plain. -/
namespace Go.Proofs.YtidjhgbdokcphaaGreat
open Go

theorem txtR_le (st : Rs) : (txtR st).1.length ≤ 4096 := by
  unfold txtR runP
  split
  · exact Nat.zero_le _
  · split
    · rename_i x hx; exact (txt_form hx).2
    · exact Nat.zero_le _
theorem many_all {α : Type} {f : Rn α} {Q : α → Prop} (h : ∀ st, Q (f st).1) : ∀ (n : Nat) (st : Rs), ∀ x ∈ (manyR f n st).1, Q x
  | 0, _, x, hx => by cases hx
  | n + 1, st, x, hx => by
    rcases List.mem_append.1 (show x ∈ (manyR f n st).1 ++ [(f (manyR f n st).2).1] from hx) with hx | hx
    · exact many_all h n st x hx
    · rw [List.mem_singleton] at hx; subst hx; exact h _
theorem rows_all {α : Type} {f : Rn α} {Q : α → Prop} (h : ∀ st, Q (f st).1) (st : Rs) : (rowsR f st).1.length ≤ 256 ∧ ∀ x ∈ (rowsR f st).1, Q x := by
  refine ⟨?_, many_all h _ _⟩
  show (manyR f (cntR st).1 (cntR st).2).1.length ≤ 256
  rw [many_len]; exact cntR_le st
def AcG (a : Ac) : Prop := I64 a.1 ∧ a.2.length ≤ 4096
structure PtG (y : Pt) : Prop where
  kind : I64 y.kind
  own : I64 y.own
  num : I64 y.num
  err : I64 y.err
  path : y.path.length ≤ 4096
  data : y.data.length ≤ 4096
  many : y.acl.length ≤ 256
  acl : ∀ a ∈ y.acl, AcG a
structure EnG (e : En) : Prop where
  zx : I64 e.zx
  ses : I64 e.ses
  xid : I64 e.xid
  x : PtG e.x
  many : e.subs.length ≤ 256
  subs : ∀ y ∈ e.subs, PtG y
theorem acR_G (st : Rs) : AcG (acR st).1 := ⟨numR_i64 _, txtR_le _⟩
theorem ptR_G (st : Rs) : PtG (ptR st).1 :=
  ⟨numR_i64 _, numR_i64 _, numR_i64 _, numR_i64 _, txtR_le _, txtR_le _, (rows_all acR_G _).1, (rows_all acR_G _).2⟩
theorem enR_G (st : Rs) : EnG (enR st).1 := ⟨numR_i64 _, numR_i64 _, numR_i64 _, ptR_G _, (rows_all ptR_G _).1, (rows_all ptR_G _).2⟩
theorem getZ_G {s : Bs} {e : En} (h : getZ s = some e) : EnG e := by
  unfold getZ getR at h
  split at h
  · rename_i q hq; cases h
    have := enR_G (some s)
    rw [hq] at this; exact this
  · cases h
theorem PtG.of {y : Pt} (h : PtG y.pl) : PtG y := ⟨h.kind, h.own, h.num, h.err, h.path, h.data, h.many, h.acl⟩
theorem EnG.of {e : En} (h : EnG e.pl) : EnG e := by
  refine ⟨h.zx, h.ses, h.xid, h.x.of, by have := h.many; unfold En.pl at this; rw [List.length_map] at this; exact this, fun y hy => (h.subs y.pl ?_).of⟩
  show y.pl ∈ e.subs.map Pt.pl
  exact List.mem_map_of_mem hy
theorem PtG.i {y : Pt} (h : PtG y) : PtI y := by
  have hu : U64 = 18446744073709551616 := rfl
  refine ⟨h.kind, h.own, h.num, h.err, ?_, ?_, ?_, fun a ha => ⟨(h.acl a ha).1, ?_⟩⟩
  · have := h.path; omega
  · have := h.data; omega
  · have := h.many; omega
  · have := (h.acl a ha).2; omega
theorem EnG.i {e : En} (h : EnG e) : EnI e := by
  have hu : U64 = 18446744073709551616 := rfl
  exact ⟨h.zx, h.ses, h.xid, h.x.i, by have := h.many; omega, fun y hy => (h.subs y hy).i⟩
theorem fm_most {α : Type} {f : α → Bs} {c : Nat} : ∀ {l : List α}, (∀ x ∈ l, (f x).length ≤ c) → (l.flatMap f).length ≤ l.length * c
  | [], _ => by simp
  | y :: l, h => by
    have h1 := h y (List.mem_cons_self ..)
    have h2 := fm_most (l := l) (f := f) (fun x hx => h x (List.mem_cons_of_mem _ hx))
    rw [List.flatMap_cons, List.length_append, List.length_cons, Nat.add_mul]; omega
theorem cnt10 {n : Nat} (h : n ≤ 65536) : (cntB n).length ≤ 10 := sev_len10 (by have hu : U64 = 18446744073709551616 := rfl; omega)
theorem ptB_most {y : Pt} (h : PtG y) : (ptB y).length ≤ 1061966 := by
  have h1 := numB_len h.kind
  have h2 := cnt10 (n := y.path.length) (by have := h.path; omega)
  have h3 := cnt10 (n := y.data.length) (by have := h.data; omega)
  have h4 := cnt10 (n := y.acl.length) (by have := h.many; omega)
  have h5 := numB_len h.own
  have h6 := numB_len h.num
  have h7 := numB_len h.err
  have h8 := fm_most (f := acB) (c := 4116) (l := y.acl) (fun a ha => by
    have g1 := numB_len (h.acl a ha).1
    have g2 := (h.acl a ha).2
    have g3 := cnt10 (n := a.2.length) (by omega)
    unfold acB txtB; rw [List.length_append, List.length_append]; omega)
  have h9 := h.path
  have h10 := h.data
  have h11 : y.acl.length * 4116 ≤ 256 * 4116 := Nat.mul_le_mul_right _ h.many
  rw [ptB_len]
  unfold aclB
  rw [List.length_append]
  simp only [List.flatMap_cons, List.flatMap_nil, List.length_append, List.length_nil]
  omega
theorem enB_most {e : En} (h : EnG e) : (enB e).length ≤ 1073741824 := by
  have h1 := numB_len h.zx
  have h2 := numB_len h.ses
  have h3 := numB_len h.xid
  have h4 := ptB_most h.x
  have h5 := fm_most (f := ptB) (c := 1061966) (l := e.subs) (fun y hy => ptB_most (h.subs y hy))
  have h6 := cnt10 (n := e.subs.length) (by have := h.many; omega)
  have h7 : e.subs.length * 1061966 ≤ 256 * 1061966 := Nat.mul_le_mul_right _ h.many
  rw [enB_len]
  unfold subsB
  rw [List.length_append]
  simp only [List.flatMap_cons, List.flatMap_nil, List.length_append, List.length_nil]
  omega
theorem big_get {α : Type} {f : α → HP} : ∀ {l : List α} {x : α} {h : Hp}, x ∈ l → bigR f l h → ∃ h1, (∀ b o, h1 b = some o → h b = some o) ∧ f x h1
  | y :: l, x, h, hx, hp => by
    have hq := big_cons hp
    rcases List.mem_cons.1 hx with rfl | hx
    · exact sep_head hq
    · obtain ⟨h1, a1, q1⟩ := sep_head (sep_perm (List.Perm.swap _ _ _) hq)
      obtain ⟨h2, a2, q2⟩ := big_get hx q1
      exact ⟨h2, fun b o hb => a1 b o (a2 b o hb), q2⟩
  | [], _, _, hx, _ => by cases hx
theorem ent_acl {e : En} {h : Hp} (hp : entR e h) : rdS 2 h e.x.aclV e.x.acl.length (e.x.acl.flatMap acC) := by
  obtain ⟨h1, a1, q1⟩ := sep_head hp
  exact rdS_mono (slR_rd q1) a1
theorem ent_subs {e : En} {h : Hp} (hp : entR e h) : rdS 8 h e.x.subsV e.subs.length (e.subs.flatMap ptC) := by
  obtain ⟨h1, a1, q1⟩ := sep_head (sep_perm (List.Perm.swap _ _ _) hp)
  exact rdS_mono (slR_rd q1) a1
theorem ent_each {e : En} {h : Hp} (hp : entR e h) {y : Pt} (hy : y ∈ e.subs) : rdS 2 h y.aclV y.acl.length (y.acl.flatMap acC) := by
  have hq : sep [bigR aclR e.subs, aclR e.x, subsR e] h := sep_perm (by
    refine List.Perm.trans (List.Perm.cons _ (List.Perm.swap _ _ _)) (List.Perm.swap _ _ _)) hp
  obtain ⟨h1, a1, q1⟩ := sep_head hq
  obtain ⟨h2, a2, q2⟩ := big_get hy q1
  exact rdS_mono (slR_rd q2) (fun b o hb => a1 b o (a2 b o hb))
theorem entL {es : List En} {e : En} (he : e ∈ es) (hk : EnK e) (hg : EnG e) : EnL (bigR entR es) e := by
  have hr : ∀ {h : Hp}, bigR entR es h → ∃ h1, (∀ b o, h1 b = some o → h b = some o) ∧ entR e h1 := fun hp => big_get he hp
  have h256 : ∀ {n : Nat}, n ≤ 256 → n ≤ 1048576 := fun h => Nat.le_trans h (by decide)
  refine ⟨⟨hg.i, fun h hp => ?_, fun h hp => ?_, fun y hy h hp => ?_⟩, enB_most hg, ⟨h256 hg.many, h256 hg.x.many, fun y hy => h256 (hg.subs y hy).many⟩, hk.x, fun y hy => ⟨(hk.subs y hy).1, by rw [(hk.subs y hy).2]; rfl⟩⟩
  · obtain ⟨h1, a1, q1⟩ := hr hp; exact rdS_mono (ent_acl q1) a1
  · obtain ⟨h1, a1, q1⟩ := hr hp; exact rdS_mono (ent_subs q1) a1
  · obtain ⟨h1, a1, q1⟩ := hr hp; exact rdS_mono (ent_each q1 hy) a1
def toldR (sl : Value) (l : List Bs) : HP := fun h => ∃ y : (Option Addr × Nat) × List En, (sl = .slice y.1.1 y.2.length y.1.2 ∧ y.2.map enB = l ∧ y.2.length ≤ 1048576 ∧ ∀ e ∈ y.2, EnK e ∧ EnG e) ∧ sep [slR 38 11 sl y.2.length (y.2.flatMap enC), bigR entR y.2] h
section
variable {W : World} {n : Nat} {ds : List Deferred} {E : Env} {L R : List HP} {X : Act → World → Prop}
theorem G.toldOpen {sl : Value} {l : List Bs} (hL : Pick (toldR sl l) L R) (h : ∀ (a : Option Addr) (c : Nat) (es : List En), sl = .slice a es.length c → es.map enB = l → es.length ≤ 1048576 → (∀ e ∈ es, EnK e ∧ EnG e) → G W n ds E (slR 38 11 sl es.length (es.flatMap enC) :: bigR entR es :: R) X) : G W n ds E L X :=
  G.focus hL (G.open (q := fun y : (Option Addr × Nat) × List En => [slR 38 11 sl y.2.length (y.2.flatMap enC), bigR entR y.2]) (φ := fun (y : (Option Addr × Nat) × List En) => sl = .slice y.1.1 y.2.length y.1.2 ∧ y.2.map enB = l ∧ y.2.length ≤ 1048576 ∧ ∀ e ∈ y.2, EnK e ∧ EnG e) (fun _ hp => hp) fun y hy => h y.1.1 y.1.2 y.2 hy.1 hy.2.1 hy.2.2.1 hy.2.2.2)
theorem G.toldFold {a : Option Addr} {c m : Nat} {es : List En} {xs : List Value} (sl : Value) (l : List Bs) (hL : Picks [slR 38 11 (.slice a m c) m xs, bigR entR es] L R) (hs : sl = .slice a m c) (hm : m = es.length) (hx : xs = es.flatMap enC) (hl : es.map enB = l) (hn : es.length ≤ 1048576) (hk : ∀ e ∈ es, EnK e ∧ EnG e) (h : G W n ds E (toldR sl l :: R) X) : G W n ds E L X := by
  subst hs; subst hm; subst hx
  exact G.fold hL (fun _ hp => ⟨((a, c), es), ⟨rfl, hl, hn, hk⟩, hp⟩) h
end
theorem get_enB {s : Bs} {e : En} (h : getZ s = some e.pl) : enB e = s := by
  rw [← enB_pl]; exact (get_form h).1.symm
def behindB (Λ : Lg) (z : Int) : List Bs := ((Λ.ents.zip Λ.zxs).filter fun q => decide (q.2 > z)).map (·.1)
theorem rowsI_some : ∀ {es : List Bs} {zs : List Int} {b : Int}, RowsI b es zs → ∀ q ∈ es.zip zs, ∃ e, getZ q.1 = some e ∧ e.zx = q.2
  | [], [], _, _, q, hq => by cases hq
  | s :: t, z :: u, _, h, q, hq => by
    rw [List.zip_cons_cons] at hq
    rcases List.mem_cons.1 hq with rfl | hq
    · exact h.1
    · exact rowsI_some h.2.2.2 q hq
  | [], _ :: _, _, h, _, _ => h.elim
  | _ :: _, [], _, h, _, _ => h.elim
theorem behind_B {Λ : Lg} (h : LgW Λ) {z : Int} {es : List En} (he : es.map En.pl = behindL Λ z) : es.map enB = behindB Λ z ∧ ∀ e ∈ es, EnG e := by
  have key : ∀ {l : List (Bs × Int)} {es : List En}, (∀ q ∈ l, ∃ e, getZ q.1 = some e ∧ e.zx = q.2) → es.map En.pl = l.map entAt → es.map enB = l.map (·.1) ∧ ∀ e ∈ es, EnG e := by
    intro l
    induction l with
    | nil => intro es _ h; cases es with
      | nil => exact ⟨rfl, fun _ h => by cases h⟩
      | cons e es => simp at h
    | cons q l ih =>
      intro es hq h
      cases es with
      | nil => simp at h
      | cons e es =>
        rw [List.map_cons, List.map_cons, List.cons.injEq] at h
        obtain ⟨i1, i2⟩ := ih (fun x hx => hq x (List.mem_cons_of_mem _ hx)) h.2
        obtain ⟨g, hg, -⟩ := hq q (List.mem_cons_self ..)
        have hpl : getZ q.1 = some e.pl := by rw [h.1]; unfold entAt; rw [hg]; rfl
        refine ⟨by rw [List.map_cons, List.map_cons, i1, get_enB hpl], fun x hx => ?_⟩
        rcases List.mem_cons.1 hx with rfl | hx
        · exact (getZ_G hpl).of
        · exact i2 x hx
  exact key (fun q hq => rowsI_some h.rows q ((List.mem_filter.1 hq).1)) he
theorem zip_fst : ∀ {es : List Bs} {zs : List Int}, zs.length = es.length → (es.zip zs).map (·.1) = es
  | [], [], _ => rfl
  | s :: t, z :: u, h => by rw [List.zip_cons_cons, List.map_cons, zip_fst (by simpa using h)]
  | [], _ :: _, h => by simp at h
  | _ :: _, [], h => by simp at h
theorem behind_all {Λ : Lg} (h : LgW Λ) {z : Int} (hz : z ≤ Λ.base) : behindB Λ z = Λ.ents := by
  unfold behindB
  rw [List.filter_eq_self.2 (fun q hq => ?_), zip_fst h.rows.len]
  have := h.rows.gt q.2 (List.of_mem_zip hq).2
  simpa using (by omega : q.2 > z)
end Go.Proofs.YtidjhgbdokcphaaGreat

/- Own work, by program: same, told, equal: walked. -/

namespace Go.Proofs.YtidjhgbdokcphaaGreat
open Go
theorem same_step {a b : List En} {i : Nat} (h1 : i < a.length) (h2 : i < b.length) (h : (a.take i).map enB = (b.take i).map enB) (he : enB a[i] = enB b[i]) : (a.take (i + 1)).map enB = (b.take (i + 1)).map enB := by
  rw [List.take_succ_eq_append_getElem h1, List.take_succ_eq_append_getElem h2, List.map_append, List.map_append, h]
  simp [he]
theorem same_bad {a b : List En} {i : Nat} (h1 : i < a.length) (h2 : i < b.length) (he : ¬ enB a[i] = enB b[i]) : ¬ a.map enB = b.map enB := by
  intro h
  have h3 : (a.map enB)[i]? = (b.map enB)[i]? := by rw [h]
  simp [h1, h2] at h3
  exact he h3
theorem same9_spec (va vb : Value) (a b : List En) (pa pe qa qe : HP) (ha : ∀ h : Hp, pa h → rdS 11 h va a.length (a.flatMap enC)) (hae : ∀ e ∈ a, EnL pe e) (hb : ∀ h : Hp, qa h → rdS 11 h vb b.length (b.flatMap enC)) (hbe : ∀ e ∈ b, EnL qe e) (hl : a.length ≤ 4294967296) (hm : b.length ≤ 4294967296) : Fn Tryz.prog 30 #[va, vb] [pa, pe, qa, qe] fun v L => v = .bool (decide (a.map enB = b.map enB)) ∧ L = [pa, pe, qa, qe] := by
 refine Fn.intro (vs := [va, vb]) Tryz.func30 rfl rfl ?_
 intro F W
 refine G.rdAny (p := pa) ha (by (repeat' constructor)) fun aa ca e _ => ?_
 subst e
 refine G.rdAny (p := qa) hb (by (repeat' constructor)) fun ab cb e _ => ?_
 subst e
 refine G.seq (G.region (G.ag rfl rfl (G.nil (G.then_n (G.seq (G.seq (G.region (G.mv rfl rfl (G.q (Quiet.slen rfl Tryz.underlying22 rfl) rfl (G.mv rfl rfl (G.q (Quiet.slen rfl Tryz.underlying22 rfl) rfl (G.q (Quiet.int rfl rfl rfl) rfl (G.nil (G.then_n ?_))))))))))))))
 refine G.condN rfl (fun h10 => ?_) (fun h10 => ?_)
 ·refine G.seq (G.region (G.ag rfl rfl (G.nil (G.then_n (G.ret (G.then_r ?_))))))
  exact G.dn (l := [.tmp 4]) rfl rfl ⟨congrArg Value.bool (decide_eq_false (fun h => by have h2 := congrArg List.length h; rw [List.length_map, List.length_map] at h2; omega)).symm, rfl⟩
 ·have hlen : a.length = b.length := by omega
  refine G.skip (G.then_n (G.seq (G.seq (G.region (G.ag rfl rfl (G.nil (G.then_n (G.block ?_))))))))
  refine G.loopK (ι := Nat) (fun q E => (5, vint q) :: E) (fun q => []) (fun q => q ≤ a.length ∧ (a.take q).map enB = (b.take q).map enB) (fun q => a.length - q) (0) (ts := [0, 1]) (.cons rfl (.cons rfl (.nil))) (⟨Nat.zero_le _, rfl⟩) ⟨rfl, rfl, rfl, trivial⟩ (by (repeat' constructor)) ?_
  rintro i ⟨hi, ht⟩
  refine G.seq (G.seq (G.region (G.mv rfl rfl (G.mv rfl rfl (G.q (Quiet.slen rfl Tryz.underlying22 rfl) rfl (G.q (Quiet.int rfl rfl rfl) rfl (G.nil (G.then_n ?_))))))))
  refine G.condD rfl (fun h14 => ?_) (fun h14 => ?_)
  ·have hi2 : i < a.length := by omega
   have hi3 : i < b.length := by omega
   have hea := hae _ (List.getElem_mem hi2)
   have heb := hbe _ (List.getElem_mem hi3)
   refine G.rdShape (p := pa) ha (by (repeat' constructor)) (by omega) fun ba oa e => ?_
   subst e
   refine G.rdShape (p := qa) hb (by (repeat' constructor)) (by omega) fun bb ob e => ?_
   subst e
   refine G.skip (G.then_n (G.seq (G.block (G.seq ?_))))
   refine G.draw [] [[0, 1, 2, 3, 4, 5, 6, 7, 8, 9, 10]] mixed (by kernel_rfl) ?_
   refine Phases.go [pa, pe, qa, qe] (by (repeat' constructor)) ?_
   refine D.kw [2, 3, 4, 9, 10] rfl (Quiet.move rfl) ?_
   refine D.kw [2, 3, 4, 9, 10] rfl (Quiet.move rfl) ?_
   refine D.kw [3, 4, 9, 10] rfl (Quiet.indexAddr rfl rfl el_22 (by omega)) ?_
   refine D.kw [4, 9, 10] rfl (Quiet.loadRdA (sz := 11) (j := i * 11) (k := 11) (p := pa) (vs := enC a[i]) rfl ag_38 (by (repeat' constructor)) ha (by simp) (by omega) (by omega) (flatMap_at (f := enC) (sz := 11) (fun _ _ => rfl) (by omega))) ?_
   refine D.m rfl (by kernel_rfl) (OpSpec.call Tryz.func77 rfl rfl (vs := [_]) rfl (r2put_spec a[i] pe hea)) (by (repeat' constructor)) ?nx17
   refine D.kw [7, 8, 9, 10] rfl (Quiet.move rfl) ?_
   refine D.kw [7, 8, 9, 10] rfl (Quiet.move rfl) ?_
   refine D.kw [8, 9, 10] rfl (Quiet.indexAddr rfl rfl el_22 (by omega)) ?_
   refine D.kw [9, 10] rfl (Quiet.loadRdA (sz := 11) (j := i * 11) (k := 11) (p := qa) (vs := enC b[i]) rfl ag_38 (by (repeat' constructor)) hb (by simp) (by omega) (by omega) (flatMap_at (f := enC) (sz := 11) (fun _ _ => rfl) (by omega))) ?_
   refine D.m rfl (by kernel_rfl) (OpSpec.call Tryz.func77 rfl rfl (vs := [_]) rfl (r2put_spec b[i] qe heb)) (by (repeat' constructor)) ?nx23
   refine D.kw [] rfl (Quiet.strne rfl rfl) ?_
   refine D.ph (Phases.fin (G.then_n ?_))
   refine G.condN rfl (fun h27 => ?_) (fun h27 => ?_)
   ·refine G.seq (G.region (G.ag rfl rfl (G.nil (G.then_n (G.ret (G.blk_r (G.then_r (G.then_r (G.blk_r (G.then_r ?_))))))))))
    exact G.dn (l := [.tmp 4]) rfl rfl ⟨congrArg Value.bool (decide_eq_false (same_bad hi2 hi3 (by simpa using h27))).symm, rfl⟩
   ·refine G.skip (G.blk_n (G.then_n (G.region (G.mv rfl rfl ?_))))
    refine G.q (Quiet.add rfl rfl (by omega)) rfl ?_
    refine G.ag rfl rfl (G.nil (G.then_n ?_))
    exact G.roundK (i + 1) (⟨by omega, same_step hi2 hi3 ht (by simpa using h27)⟩) (by omega) ⟨rfl, rfl, rfl, trivial⟩ (by (repeat' constructor)) (by ((repeat (apply Have.cons; (repeat (first | exact Pick.here | apply Pick.there)))); apply Have.base; repeat' constructor))
  ·refine G.exit (G.then_e (G.then_e (G.blk_e (G.then_n (G.seq (G.region (G.ag rfl rfl (G.nil (G.then_n (G.ret ?_))))))))))
   exact G.dn (l := [.tmp 4]) rfl rfl ⟨congrArg Value.bool (decide_eq_true (by have hie : i = a.length := (by omega); rw [hie, List.take_length, hlen, List.take_length] at ht; exact ht)).symm, rfl⟩

theorem told9_spec (g x : Nat) (Λ : Lg) (h : LgW Λ) : Fn Tryz.prog 35 #[vptr g] [lgR g x Λ] fun v L => ∃ sl, v = .agg [vint Λ.base, vstr Λ.snap, sl, vint Λ.acc, vint Λ.cur].toArray ∧ L = [lgR g x Λ, toldR sl Λ.ents] := by
 refine Fn.intro (vs := [vptr g]) Tryz.func35 rfl rfl ?_
 intro F W
 have hI := h.i
 refine G.seq (G.region ?_)
 refine G.oq (OpSpec.allocA ze_82) ?nx1
 rintro v L' ⟨b2, rfl, rfl⟩
 refine G.nil (G.then_n (G.seq (G.region (G.mv rfl rfl (G.mv rfl rfl ?_)))))
 refine G.oq (OpSpec.call Tryz.func81 rfl rfl (vs := [_]) rfl (lbase_spec g x Λ)) ?nx5
 rintro v L' ⟨rfl, rfl⟩
 refine G.oq (OpSpec.call Tryz.func16 rfl rfl (vs := [_, _]) rfl (lentries_spec g x Λ Λ.base hI)) ?nx7
 rintro v L' (⟨h9, -, -⟩ | ⟨-, es, hes, hek, ae, ce, rfl, rfl⟩); · omega
 obtain ⟨hB, hG⟩ := behind_B h hes
 rw [behind_all h (Int.le_refl _)] at hB
 have hel : es.length ≤ 1048576 := by have h8 := congrArg List.length hB; rw [List.length_map] at h8; have := h.few; omega
 refine G.mv rfl rfl (G.q (Quiet.extract rfl rfl) rfl (G.q (Quiet.extract rfl rfl) rfl (G.ag rfl rfl (G.ag rfl rfl (G.nil (G.then_n (G.seq ?_)))))))
 refine G.draw [14] [[0, 1, 2, 3, 4, 5, 6, 7, 8, 9, 10, 11, 12, 13, 14]] mixed (by kernel_rfl) ?_
 refine Phases.go [lgR g x Λ] (by (repeat' constructor)) ?_
 refine D.kw [1, 3, 8, 12, 13, 14] rfl (Quiet.move rfl) ?_
 refine D.m rfl (by kernel_rfl) (OpSpec.call Tryz.func81 rfl rfl (vs := [_]) rfl (lbase_spec g x Λ)) (by (repeat' constructor)) ?nx12
 refine D.kw [3, 8, 12, 13, 14] rfl (Quiet.move rfl) ?_
 refine D.m rfl (by kernel_rfl) (OpSpec.call Tryz.func82 rfl rfl (vs := [_]) rfl (lsnap_spec g x Λ)) (by (repeat' constructor)) ?nx15
 refine D.kw [13, 14] rfl (Quiet.move rfl) ?_
 refine D.kw [6, 7, 8, 12, 13, 14] rfl (Quiet.move rfl) ?_
 refine D.kw [7, 8, 12, 13, 14] rfl (Quiet.nilp rfl) ?_
 refine D.kw [8, 12, 13, 14] rfl (Quiet.fieldAddr rfl fo_79_0) ?_
 refine D.m rfl (by kernel_rfl) (OpSpec.call Tryz.func33 rfl rfl (vs := [_]) rfl (lacc_spec g x Λ)) (by (repeat' constructor)) ?nx20
 refine D.kw [10, 11, 12, 13, 14] rfl (Quiet.move rfl) ?_
 refine D.kw [11, 12, 13, 14] rfl (Quiet.nilp rfl) ?_
 refine D.kw [12, 13, 14] rfl (Quiet.fieldAddr rfl fo_79_0) ?_
 refine D.m rfl (by kernel_rfl) (OpSpec.call Tryz.func34 rfl rfl (vs := [_]) rfl (lcur_spec g x Λ)) (by (repeat' constructor)) ?nx25
 refine D.kw [14] rfl (Quiet.to (v' := .agg [vint Λ.base, vstr Λ.snap, .slice ae es.length ce, vint Λ.acc, vint Λ.cur].toArray) (Quiet.build (us := [(0, _), (1, _), (2, _), (3, _), (4, _)]) fl_82 ze_82 rfl rfl (by simp [isCell])) rfl) ?_
 refine D.h rfl (by kernel_rfl) (OpSpec.storeA rfl rfl ?c28 sz_82 ?c31 ?c29 ?c30) (by (repeat' constructor)) ?nx32
 case c28 => simp [isCell]
 case c31 => rfl
 case c29 => simp
 case c30 => exact nfz0 _ _
 rintro v L' rfl
 refine D.ph (Phases.fin (G.then_n (G.ret ?_)))
 refine G.ptCast (b := b2) (l' := [vint Λ.base, vstr Λ.snap, .slice ae es.length ce, vint Λ.acc, vint Λ.cur]) (by (repeat' constructor)) (by exact rfl) ?_
 refine G.toldFold (a := ae) (c := ce) (m := es.length) (es := es) (.slice ae es.length ce) Λ.ents (by (repeat' constructor)) rfl rfl rfl hB hel (fun e he => ⟨hek e he, hG e he⟩) ?_
 exact G.done1 rfl (.cellA rfl ag_82 (by (repeat' constructor)) (by simp) rfl) ⟨.slice ae es.length ce, rfl, rfl⟩ (by (repeat' constructor)) (by (repeat' constructor))

theorem equal9_spec (b1 c1 a1 b2 c2 a2 : Int) (s1 s2 : Bs) (l1 l2 : Value) (u1 u2 : List Bs) : Fn Tryz.prog 37 #[.agg [vint b1, vstr s1, l1, vint a1, vint c1].toArray, .agg [vint b2, vstr s2, l2, vint a2, vint c2].toArray] [toldR l1 u1, toldR l2 u2] fun v L => v = .bool (decide (u1 = u2 ∧ b1 = b2 ∧ s1 = s2 ∧ a1 = a2 ∧ c1 = c2)) ∧ L = [toldR l1 u1, toldR l2 u2] := by
 refine Fn.intro (vs := [.agg [vint b1, vstr s1, l1, vint a1, vint c1].toArray, .agg [vint b2, vstr s2, l2, vint a2, vint c2].toArray]) Tryz.func37 rfl rfl ?_
 intro F W
 refine G.seq (G.region ?_)
 refine G.oq (OpSpec.box rfl) ?nx1
 rintro v L' ⟨m1, rfl, rfl⟩
 refine G.oq (OpSpec.box rfl) ?nx3
 rintro v L' ⟨m2, rfl, rfl⟩
 refine G.ag rfl rfl (G.nil ?_)
 refine G.ptCast (b := m1) (l' := [vint b1, vstr s1, l1, vint a1, vint c1]) (by (repeat' constructor)) (by exact rfl) ?_
 refine G.ptCast (b := m2) (l' := [vint b2, vstr s2, l2, vint a2, vint c2]) (by (repeat' constructor)) (by exact rfl) ?_
 refine G.toldOpen (sl := l1) (by (repeat' constructor)) fun x1 y1 e1 hs1 hm1 hn1 hk1 => ?_
 subst hs1
 refine G.toldOpen (sl := l2) (by (repeat' constructor)) fun x2 y2 e2 hs2 hm2 hn2 hk2 => ?_
 subst hs2
 refine G.then_n (G.seq (G.region (G.q (Quiet.fieldAddr rfl fo_82_2) rfl ?_)))
 refine G.q (Quiet.ld rfl ag_22) rfl ?_
 refine G.q (Quiet.fieldAddr rfl fo_82_2) rfl ?_
 refine G.q (Quiet.ld rfl ag_22) rfl ?_
 refine G.oq (OpSpec.call Tryz.func30 rfl rfl (vs := [_, _]) rfl (same9_spec _ _ e1 e2 (slR 38 11 (.slice x1 e1.length y1) e1.length (e1.flatMap enC)) (bigR entR e1) (slR 38 11 (.slice x2 e2.length y2) e2.length (e2.flatMap enC)) (bigR entR e2) (fun h hp => slR_rd hp) (fun e he => entL he (hk1 e he).1 (hk1 e he).2) (fun h hp => slR_rd hp) (fun e he => entL he (hk2 e he).1 (hk2 e he).2) (by omega) (by omega))) ?nx10
 rintro v L' ⟨rfl, rfl⟩; rw [hm1, hm2]
 refine G.ag rfl rfl (G.nil (G.then_n (G.seq (G.region (G.mv rfl rfl (G.mv rfl rfl ?_))))))
 refine G.dec (t := 12) rfl (fun h2_12 => ?_) (fun h2_12 => ?_)
 ·refine G.kDT (t := 10) rfl h2_12 (G.kDT (t := 5) rfl h2_12 (G.kDT (t := 11) rfl h2_12 (G.grun (t := 12) rfl rfl rfl (G.q (Quiet.fieldAddr rfl fo_82_0) rfl (G.grun (t := 12) rfl rfl rfl ?_)))))
  refine G.q (Quiet.ld rfl ag_3) rfl ?_
  refine G.grun (t := 12) rfl rfl rfl (G.q (Quiet.fieldAddr rfl fo_82_0) rfl (G.grun (t := 12) rfl rfl rfl ?_))
  refine G.q (Quiet.ld rfl ag_3) rfl ?_
  refine G.grun (t := 12) rfl rfl rfl (G.q (Quiet.int rfl rfl rfl) rfl (G.q (Quiet.pickT rfl rfl) rfl (G.mv rfl rfl ?_)))
  refine G.dec (t := 19) rfl (fun h2_19 => ?_) (fun h2_19 => ?_)
  ·refine G.kDT (t := 17) rfl h2_19 (G.kDT (t := 18) rfl h2_19 (G.grun (t := 19) rfl rfl rfl (G.q (Quiet.fieldAddr rfl fo_82_1) rfl (G.grun (t := 19) rfl rfl rfl ?_))))
   refine G.q (Quiet.ld rfl ag_9) rfl ?_
   refine G.grun (t := 19) rfl rfl rfl (G.q (Quiet.fieldAddr rfl fo_82_1) rfl (G.grun (t := 19) rfl rfl rfl ?_))
   refine G.q (Quiet.ld rfl ag_9) rfl ?_
   refine G.grun (t := 19) rfl rfl rfl (G.q (Quiet.streq rfl rfl) rfl (G.q (Quiet.pickT rfl rfl) rfl (G.mv rfl rfl ?_)))
   refine G.dec (t := 26) rfl (fun h2_26 => ?_) (fun h2_26 => ?_)
   ·refine G.kDT (t := 24) rfl h2_26 (G.kDT (t := 25) rfl h2_26 (G.grun (t := 26) rfl rfl rfl (G.q (Quiet.fieldAddr rfl fo_82_3) rfl (G.grun (t := 26) rfl rfl rfl ?_))))
    refine G.q (Quiet.ld rfl ag_3) rfl ?_
    refine G.grun (t := 26) rfl rfl rfl (G.q (Quiet.fieldAddr rfl fo_82_3) rfl (G.grun (t := 26) rfl rfl rfl ?_))
    refine G.q (Quiet.ld rfl ag_3) rfl ?_
    refine G.grun (t := 26) rfl rfl rfl (G.q (Quiet.int rfl rfl rfl) rfl (G.q (Quiet.pickT rfl rfl) rfl (G.mv rfl rfl ?_)))
    refine G.dec (t := 33) rfl (fun h2_33 => ?_) (fun h2_33 => ?_)
    ·refine G.kDT (t := 31) rfl h2_33 (G.kDT (t := 32) rfl h2_33 (G.grun (t := 33) rfl rfl rfl (G.q (Quiet.fieldAddr rfl fo_82_4) rfl (G.grun (t := 33) rfl rfl rfl ?_))))
     refine G.q (Quiet.ld rfl ag_3) rfl ?_
     refine G.grun (t := 33) rfl rfl rfl (G.q (Quiet.fieldAddr rfl fo_82_4) rfl (G.grun (t := 33) rfl rfl rfl ?_))
     refine G.q (Quiet.ld rfl ag_3) rfl ?_
     refine G.grun (t := 33) rfl rfl rfl (G.q (Quiet.int rfl rfl rfl) rfl (G.q (Quiet.pickT rfl rfl) rfl (G.ag rfl rfl (G.nil (G.then_n (G.ret ?_))))))
     refine G.toldFold (a := x2) (c := y2) (m := e2.length) (es := e2) (.slice x2 e2.length y2) u2 (by (repeat' constructor)) rfl rfl rfl hm2 hn2 hk2 ?_
     refine G.toldFold (a := x1) (c := y1) (m := e1.length) (es := e1) (.slice x1 e1.length y1) u1 (by (repeat' constructor)) rfl rfl rfl hm1 hn1 hk1 ?_
     exact G.dn (l := [.tmp 4]) rfl rfl ⟨congrArg Value.bool (decide_eq_decide.2 ⟨fun h5 => ⟨h2_12, h2_19, h2_26, h2_33, h5⟩, fun h => h.2.2.2.2⟩), rfl⟩
    ·refine G.kDF (t := 31) rfl h2_33 (G.kDF (t := 32) rfl h2_33 (G.gskip (t := 33) rfl rfl rfl rfl (G.gskip (t := 33) rfl rfl rfl rfl (G.gskip (t := 33) rfl rfl rfl rfl (G.gskip (t := 33) rfl rfl rfl rfl (G.gskip (t := 33) rfl rfl rfl rfl (G.q (Quiet.pickF rfl rfl) rfl (G.ag rfl rfl (G.nil (G.then_n (G.ret ?_)))))))))))
     refine G.toldFold (a := x2) (c := y2) (m := e2.length) (es := e2) (.slice x2 e2.length y2) u2 (by (repeat' constructor)) rfl rfl rfl hm2 hn2 hk2 ?_
     refine G.toldFold (a := x1) (c := y1) (m := e1.length) (es := e1) (.slice x1 e1.length y1) u1 (by (repeat' constructor)) rfl rfl rfl hm1 hn1 hk1 ?_
     exact G.dn (l := [.tmp 4]) rfl rfl ⟨congrArg Value.bool (decide_eq_false (fun h => h2_33 h.2.2.2.1)).symm, rfl⟩
   ·refine G.kDF (t := 24) rfl h2_26 (G.kDF (t := 25) rfl h2_26 (G.gskip (t := 26) rfl rfl rfl rfl (G.gskip (t := 26) rfl rfl rfl rfl (G.gskip (t := 26) rfl rfl rfl rfl (G.gskip (t := 26) rfl rfl rfl rfl (G.gskip (t := 26) rfl rfl rfl rfl (G.q (Quiet.pickF rfl rfl) rfl (G.mv rfl rfl (G.gskip (t := 33) rfl rfl rfl rfl (G.gskip (t := 33) rfl rfl rfl rfl (G.gskip (t := 33) rfl rfl rfl rfl (G.gskip (t := 33) rfl rfl rfl rfl (G.gskip (t := 33) rfl rfl rfl rfl (G.q (Quiet.pickF rfl rfl) rfl (G.ag rfl rfl (G.nil (G.then_n (G.ret ?_))))))))))))))))))
    refine G.toldFold (a := x2) (c := y2) (m := e2.length) (es := e2) (.slice x2 e2.length y2) u2 (by (repeat' constructor)) rfl rfl rfl hm2 hn2 hk2 ?_
    refine G.toldFold (a := x1) (c := y1) (m := e1.length) (es := e1) (.slice x1 e1.length y1) u1 (by (repeat' constructor)) rfl rfl rfl hm1 hn1 hk1 ?_
    exact G.dn (l := [.tmp 4]) rfl rfl ⟨congrArg Value.bool (decide_eq_false (fun h => h2_26 h.2.2.1)).symm, rfl⟩
  ·refine G.kDF (t := 17) rfl h2_19 (G.kDF (t := 18) rfl h2_19 (G.gskip (t := 19) rfl rfl rfl rfl (G.gskip (t := 19) rfl rfl rfl rfl (G.gskip (t := 19) rfl rfl rfl rfl (G.gskip (t := 19) rfl rfl rfl rfl (G.gskip (t := 19) rfl rfl rfl rfl (G.q (Quiet.pickF rfl rfl) rfl (G.mv rfl rfl (G.gskip (t := 26) rfl rfl rfl rfl (G.gskip (t := 26) rfl rfl rfl rfl (G.gskip (t := 26) rfl rfl rfl rfl (G.gskip (t := 26) rfl rfl rfl rfl (G.gskip (t := 26) rfl rfl rfl rfl (G.q (Quiet.pickF rfl rfl) rfl (G.mv rfl rfl (G.gskip (t := 33) rfl rfl rfl rfl (G.gskip (t := 33) rfl rfl rfl rfl (G.gskip (t := 33) rfl rfl rfl rfl (G.gskip (t := 33) rfl rfl rfl rfl (G.gskip (t := 33) rfl rfl rfl rfl (G.q (Quiet.pickF rfl rfl) rfl (G.ag rfl rfl (G.nil (G.then_n (G.ret ?_)))))))))))))))))))))))))
   refine G.toldFold (a := x2) (c := y2) (m := e2.length) (es := e2) (.slice x2 e2.length y2) u2 (by (repeat' constructor)) rfl rfl rfl hm2 hn2 hk2 ?_
   refine G.toldFold (a := x1) (c := y1) (m := e1.length) (es := e1) (.slice x1 e1.length y1) u1 (by (repeat' constructor)) rfl rfl rfl hm1 hn1 hk1 ?_
   exact G.dn (l := [.tmp 4]) rfl rfl ⟨congrArg Value.bool (decide_eq_false (fun h => h2_19 h.2.1)).symm, rfl⟩
 ·refine G.kDF (t := 10) rfl h2_12 (G.kDF (t := 5) rfl h2_12 (G.kDF (t := 11) rfl h2_12 (G.gskip (t := 12) rfl rfl rfl rfl (G.gskip (t := 12) rfl rfl rfl rfl (G.gskip (t := 12) rfl rfl rfl rfl (G.gskip (t := 12) rfl rfl rfl rfl (G.gskip (t := 12) rfl rfl rfl rfl (G.q (Quiet.pickF rfl rfl) rfl (G.mv rfl rfl (G.gskip (t := 19) rfl rfl rfl rfl (G.gskip (t := 19) rfl rfl rfl rfl (G.gskip (t := 19) rfl rfl rfl rfl (G.gskip (t := 19) rfl rfl rfl rfl (G.gskip (t := 19) rfl rfl rfl rfl (G.q (Quiet.pickF rfl rfl) rfl (G.mv rfl rfl (G.gskip (t := 26) rfl rfl rfl rfl (G.gskip (t := 26) rfl rfl rfl rfl (G.gskip (t := 26) rfl rfl rfl rfl (G.gskip (t := 26) rfl rfl rfl rfl (G.gskip (t := 26) rfl rfl rfl rfl (G.q (Quiet.pickF rfl rfl) rfl (G.mv rfl rfl (G.gskip (t := 33) rfl rfl rfl rfl (G.gskip (t := 33) rfl rfl rfl rfl (G.gskip (t := 33) rfl rfl rfl rfl (G.gskip (t := 33) rfl rfl rfl rfl (G.gskip (t := 33) rfl rfl rfl rfl (G.q (Quiet.pickF rfl rfl) rfl (G.ag rfl rfl (G.nil (G.then_n (G.ret ?_)))))))))))))))))))))))))))))))))
  refine G.toldFold (a := x2) (c := y2) (m := e2.length) (es := e2) (.slice x2 e2.length y2) u2 (by (repeat' constructor)) rfl rfl rfl hm2 hn2 hk2 ?_
  refine G.toldFold (a := x1) (c := y1) (m := e1.length) (es := e1) (.slice x1 e1.length y1) u1 (by (repeat' constructor)) rfl rfl rfl hm1 hn1 hk1 ?_
  exact G.dn (l := [.tmp 4]) rfl rfl ⟨congrArg Value.bool (decide_eq_false (fun h => h2_12 h.1)).symm, rfl⟩

end Go.Proofs.YtidjhgbdokcphaaGreat

/- Own work, by program: pick, text, does; LedgerEpochs: walked. -/

namespace Go.Proofs.YtidjhgbdokcphaaGreat
open Go
theorem pick9_spec  (c n : Int) (hc : -9223372036854775808 ≤ c ∧ c ≤ 9223372036854775807) (hn : 0 < n) : Fn Tryz.prog 26 #[vint c, vint n] [] fun v L => v = vint (pickZ c n) ∧ L = [] := by
 refine Fn.intro (vs := [vint c, vint n]) Tryz.func26 rfl rfl ?_
 intro F W
 refine G.seq (G.region (G.ag rfl rfl (G.nil (G.then_n (G.seq (G.seq (G.region (G.mv rfl rfl (G.q (Quiet.int rfl rfl rfl) rfl (G.nil (G.then_n ?_)))))))))))
 refine G.condD rfl (fun h6 => ?_) (fun h6 => ?_)
 ·refine G.region (G.mv rfl rfl ?_)
  refine G.q (Quiet.add rfl rfl (by omega)) rfl ?_
  refine G.q (Quiet.neg rfl (by omega)) rfl ?_
  refine G.ag rfl rfl (G.nil (G.then_n (G.seq (G.region (G.mv rfl rfl (G.mv rfl rfl ?_))))))
  refine G.q (Quiet.remE rfl rfl (by omega) (by omega)) rfl ?_
  refine G.ag rfl rfl (G.nil (G.then_n (G.ret ?_)))
  have e : pickZ c n = (-(c + 1)) % n := by unfold pickZ; rw [if_pos h6]
  rw [e]
  exact G.dn (l := [.tmp 4]) rfl rfl ⟨rfl, rfl⟩
 ·refine G.skip (G.then_n (G.seq (G.region (G.mv rfl rfl (G.mv rfl rfl ?_)))))
  refine G.q (Quiet.remE rfl rfl (by omega) (by omega)) rfl ?_
  refine G.ag rfl rfl (G.nil (G.then_n (G.ret ?_)))
  have e : pickZ c n = (c) % n := by unfold pickZ; rw [if_neg h6]
  rw [e]
  exact G.dn (l := [.tmp 4]) rfl rfl ⟨rfl, rfl⟩

theorem text9_spec (o : Op9) (k : Int) (ht : o.text.length ≤ 1048576) : Fn Tryz.prog 79 #[.agg (op9K o k).toArray] [] fun v L => v = vstr (textZ o) ∧ L = [] := by
 refine Fn.intro (vs := [.agg (op9K o k).toArray]) Tryz.func79 rfl rfl ?_
 intro F W
 refine G.seq (G.region ?_)
 refine G.oq (OpSpec.box rfl) ?nx1
 rintro v L' ⟨b1, rfl, rfl⟩
 refine G.ag rfl rfl (G.nil ?_)
 refine G.ptCast (b := b1) (l' := op9K o k) (by (repeat' constructor)) (by exact rfl) ?_
 refine G.then_n (G.seq (G.region (G.q (Quiet.fieldAddr rfl fo_73_5) rfl ?_)))
 refine G.q (Quiet.ld rfl ag_9) rfl ?_
 refine G.ag rfl rfl (G.nil (G.then_n (G.seq (G.region (G.q (Quiet.fieldAddr rfl fo_73_2) rfl ?_)))))
 refine G.q (Quiet.ld rfl ag_3) rfl ?_
 refine G.q (Quiet.min2 rfl rfl) rfl (G.ag rfl rfl (G.nil (G.then_n (G.seq (G.block ?_)))))
 refine G.loopK (ι := Nat × Bs) (fun q E => (3, vstr q.2) :: E) (fun q => []) (fun q => textF q.1 q.2 (min o.size 66000) = textF 66001 o.text (min o.size 66000) ∧ q.2.length ≤ 2097152 ∧ (min o.size 66000) - q.2.length ≤ q.1) (fun q => q.1) (66001, o.text) (ts := [2, 4]) (.cons rfl (.cons rfl (.nil))) (⟨rfl, by dsimp only; omega, by dsimp only; omega⟩) ⟨rfl, rfl, rfl, trivial⟩ (by (repeat' constructor)) ?_
 rintro ⟨f, s⟩ ⟨hf, hsl, hfu⟩
 dsimp only
 dsimp only at hf hsl hfu
 refine G.seq (G.seq (G.region (G.mv rfl rfl (G.q (Quiet.strne rfl rfl) rfl (G.mv rfl rfl ?_)))))
 refine G.ndec (t := 12) rfl (fun h3_12 => ?_) (fun h3_12 => ?_)
 ·refine G.kNT (t := 11) rfl h3_12 (G.grun (t := 12) rfl rfl rfl (G.mv rfl rfl (G.grun (t := 12) rfl rfl rfl (G.q (Quiet.strlen rfl Tryz.underlying9 rfl) rfl (G.grun (t := 12) rfl rfl rfl (G.mv rfl rfl (G.grun (t := 12) rfl rfl rfl (G.q (Quiet.int rfl rfl rfl) rfl (G.q (Quiet.pickT rfl rfl) rfl (G.nil (G.then_n ?_)))))))))))
  refine G.condD rfl (fun h17 => ?_) (fun h17 => ?_)
  ·have hs0 : 0 < s.length := List.length_pos_iff.2 h3_12
   obtain ⟨f1, rfl⟩ : ∃ f1, f = f1 + 1 := ⟨f - 1, by omega⟩
   refine G.skip (G.then_n (G.block (G.region (G.mv rfl rfl (G.mv rfl rfl ?_)))))
   refine G.q (Quiet.concat rfl rfl (by omega)) rfl ?_
   refine G.ag rfl rfl (G.nil (G.blk_n (G.then_n ?_)))
   exact G.roundK ((f1, s ++ s)) (⟨by dsimp only; rw [← textF_go ⟨h3_12, h17⟩]; exact hf, by dsimp only; rw [List.length_append]; omega, by dsimp only; rw [List.length_append]; omega⟩) (by dsimp only; omega) ⟨rfl, rfl, rfl, trivial⟩ (by (repeat' constructor)) (by ((repeat (apply Have.cons; (repeat (first | exact Pick.here | apply Pick.there)))); apply Have.base; repeat' constructor))
  ·refine G.exit (G.then_e (G.then_e (G.blk_e (G.then_n (G.seq (G.seq ?_))))))
   have hT : textF 66001 o.text (min o.size 66000) = s := by rw [← hf]; exact textF_stop (fun g => h17 g.2)
   refine G.region (G.mv rfl rfl (G.q (Quiet.strlen rfl Tryz.underlying9 rfl) rfl (G.mv rfl rfl (G.q (Quiet.int rfl rfl rfl) rfl (G.mv rfl rfl ?_)))))
   refine G.dec (t := 25) rfl (fun h5_25 => ?_) (fun h5_25 => ?_)
   ·refine G.kDT (t := 24) rfl h5_25 (G.grun (t := 25) rfl rfl rfl (G.mv rfl rfl (G.grun (t := 25) rfl rfl rfl (G.q (Quiet.int rfl rfl rfl) rfl (G.q (Quiet.pickT rfl rfl) rfl (G.nil (G.then_n ?_)))))))
    refine G.condD rfl (fun h28 => ?_) (fun h28 => ?_)
    ·refine G.region (G.mv rfl rfl (G.mv rfl rfl ?_))
     refine G.q (Quiet.to (v' := vstr (s.take (min o.size 66000).toNat)) (Quiet.strTo rfl rfl Tryz.underlying9 (by omega)) rfl) rfl ?_
     refine G.ag rfl rfl (G.nil (G.then_n (G.seq (G.region (G.mv rfl rfl (G.ag rfl rfl (G.nil (G.then_n (G.ret ?_)))))))))
     have hr : textZ o = s.take (min o.size 66000).toNat := by unfold textZ cutT; rw [hT, if_pos ⟨h5_25, h28⟩]
     rw [hr]
     exact G.dn (l := [.tmp 2]) rfl rfl ⟨rfl, rfl⟩
    ·refine G.skip (G.then_n (G.seq (G.region (G.mv rfl rfl (G.ag rfl rfl (G.nil (G.then_n (G.ret ?_))))))))
     have hr : textZ o = s := by unfold textZ cutT; rw [hT, if_neg (fun g => h28 g.2)]
     rw [hr]
     exact G.dn (l := [.tmp 2]) rfl rfl ⟨rfl, rfl⟩
   ·refine G.kDF (t := 24) rfl h5_25 (G.gskip (t := 25) rfl rfl rfl rfl (G.gskip (t := 25) rfl rfl rfl rfl (G.q (Quiet.pickF rfl rfl) rfl (G.nil (G.then_n (G.condF rfl (G.skip (G.then_n (G.seq (G.region (G.mv rfl rfl (G.ag rfl rfl (G.nil (G.then_n (G.ret ?_)))))))))))))))
    have hr : textZ o = s := by unfold textZ cutT; rw [hT, if_neg (fun g => h5_25 g.1)]
    rw [hr]
    exact G.dn (l := [.tmp 2]) rfl rfl ⟨rfl, rfl⟩
 ·refine G.kNF (t := 11) rfl h3_12 (G.gskip (t := 12) rfl rfl rfl rfl (G.gskip (t := 12) rfl rfl rfl rfl (G.gskip (t := 12) rfl rfl rfl rfl (G.gskip (t := 12) rfl rfl rfl rfl (G.q (Quiet.pickF rfl rfl) rfl (G.nil (G.then_n (G.condF rfl (G.exit (G.then_e (G.then_e (G.blk_e (G.then_n (G.seq (G.seq ?_)))))))))))))))
  have hT : textF 66001 o.text (min o.size 66000) = s := by rw [← hf]; exact textF_stop (fun g => g.1 h3_12)
  refine G.region (G.mv rfl rfl (G.q (Quiet.strlen rfl Tryz.underlying9 rfl) rfl (G.mv rfl rfl (G.q (Quiet.int rfl rfl rfl) rfl (G.mv rfl rfl ?_)))))
  refine G.dec (t := 25) rfl (fun h5_25 => ?_) (fun h5_25 => ?_)
  ·refine G.kDT (t := 24) rfl h5_25 (G.grun (t := 25) rfl rfl rfl (G.mv rfl rfl (G.grun (t := 25) rfl rfl rfl (G.q (Quiet.int rfl rfl rfl) rfl (G.q (Quiet.pickT rfl rfl) rfl (G.nil (G.then_n ?_)))))))
   refine G.condD rfl (fun h28 => ?_) (fun h28 => ?_)
   ·refine G.region (G.mv rfl rfl (G.mv rfl rfl ?_))
    refine G.q (Quiet.to (v' := vstr (s.take (min o.size 66000).toNat)) (Quiet.strTo rfl rfl Tryz.underlying9 (by omega)) rfl) rfl ?_
    refine G.ag rfl rfl (G.nil (G.then_n (G.seq (G.region (G.mv rfl rfl (G.ag rfl rfl (G.nil (G.then_n (G.ret ?_)))))))))
    have hr : textZ o = s.take (min o.size 66000).toNat := by unfold textZ cutT; rw [hT, if_pos ⟨h5_25, h28⟩]
    rw [hr]
    exact G.dn (l := [.tmp 2]) rfl rfl ⟨rfl, rfl⟩
   ·refine G.skip (G.then_n (G.seq (G.region (G.mv rfl rfl (G.ag rfl rfl (G.nil (G.then_n (G.ret ?_))))))))
    have hr : textZ o = s := by unfold textZ cutT; rw [hT, if_neg (fun g => h28 g.2)]
    rw [hr]
    exact G.dn (l := [.tmp 2]) rfl rfl ⟨rfl, rfl⟩
  ·refine G.kDF (t := 24) rfl h5_25 (G.gskip (t := 25) rfl rfl rfl rfl (G.gskip (t := 25) rfl rfl rfl rfl (G.q (Quiet.pickF rfl rfl) rfl (G.nil (G.then_n (G.condF rfl (G.skip (G.then_n (G.seq (G.region (G.mv rfl rfl (G.ag rfl rfl (G.nil (G.then_n (G.ret ?_)))))))))))))))
   have hr : textZ o = s := by unfold textZ cutT; rw [hT, if_neg (fun g => h5_25 g.1)]
   rw [hr]
   exact G.dn (l := [.tmp 2]) rfl rfl ⟨rfl, rfl⟩

theorem does9_spec (g x d : Nat) (δ : Dk) (ω : Wl) (Λ : Lg) (o : Op9) (k : Int) (p : HP) (N : Int) (h : LLv ⟨δ, ω, Λ⟩ N) (hN : N ≤ 1000000000000) (ho : Op9A p o) : Fn Tryz.prog 32 #[vptr g, .agg (op9K o k).toArray] [lgR g x Λ, wlR x d ω, dkR d δ, p] fun v L => v = vint (lgDoes ⟨δ, ω, Λ⟩ o k).2 ∧ L = [lgR g x (lgDoes ⟨δ, ω, Λ⟩ o k).1.Λ, wlR x d (lgDoes ⟨δ, ω, Λ⟩ o k).1.ω, dkR d (lgDoes ⟨δ, ω, Λ⟩ o k).1.δ, p] := by
 refine Fn.intro (vs := [vptr g, .agg (op9K o k).toArray]) Tryz.func32 rfl rfl ?_
 intro F W
 have hI : WlI δ ω := h.lv.i hN
 have hLI : LgI Λ := h.lw.w.i
 have hup : Λ.zxs.Pairwise (· < ·) := (List.pairwise_cons.1 h.lw.w.rows.up).2
 have hsn : Λ.snap.length ≤ 65536 := h.lw.w.snap
 have hacts : δ.acts ≤ N := h.lv.well.acts
 have hI1 : WlI (lgSync ⟨δ, ω, Λ⟩).1.δ (lgSync ⟨δ, ω, Λ⟩).1.ω := by rw [sync_end ω Λ h.lw.live, (endL_err _ _ _).2.1, (endL_err _ _ _).2.2]; exact sync_I hI (by omega)
 refine G.seq (G.region ?_)
 refine G.oq (OpSpec.box rfl) ?nx1
 rintro v L' ⟨b3, rfl, rfl⟩
 refine G.ag rfl rfl (G.nil ?_)
 refine G.ptCast (b := b3) (l' := op9K o k) (by (repeat' constructor)) (by exact rfl) ?_
 refine G.then_n (G.seq (G.seq (G.region (G.q (Quiet.fieldAddr rfl fo_73_0) rfl ?_))))
 refine G.q (Quiet.ld rfl ag_3) rfl ?_
 refine G.nil (G.then_n (G.block (G.seq (G.region (G.q (Quiet.int rfl rfl rfl) rfl (G.ag rfl rfl (G.nil (G.then_n ?_))))))))
 refine G.condD rfl (fun h7 => ?_) (fun h7 => ?_)
 ·refine G.seq (G.region (G.mv rfl rfl (G.q (Quiet.fieldAddr rfl fo_73_3) rfl ?_)))
  refine G.q (Quiet.loadAs (vs := enC o.e) rfl ag_38 (by (repeat' constructor)) (by simp [op9K, op9C, enC, ptC]) rfl) rfl ?_
  refine G.oq (OpSpec.call Tryz.func13 rfl rfl (vs := [_, _]) rfl (lappend_spec g x d δ ω Λ o.e p ho.e hI hLI)) ?nx10
  rintro v L' ⟨rfl, rfl⟩
  refine G.ag rfl rfl (G.nil (G.then_n (G.ret (G.blk_r (G.then_r ?_)))))
  have hr : lgDoes ⟨δ, ω, Λ⟩ o k = lgAppend ⟨δ, ω, Λ⟩ o.e := by unfold lgDoes; rw [if_pos h7]
  rw [hr]
  exact G.dn (l := [.tmp 4]) rfl rfl ⟨rfl, rfl⟩
 ·refine G.seq (G.region (G.q (Quiet.int rfl rfl rfl) rfl (G.ag rfl rfl (G.nil (G.then_n ?_)))))
  refine G.condD rfl (fun h13 => ?_) (fun h13 => ?_)
  ·refine G.seq (G.region (G.mv rfl rfl ?_))
   refine G.oq (OpSpec.call Tryz.func28 rfl rfl (vs := [_]) rfl (lsync_spec g x d δ ω Λ hI)) ?nx14
   rintro v L' ⟨rfl, rfl⟩
   refine G.ag rfl rfl (G.nil (G.then_n (G.ret (G.blk_r (G.then_r ?_)))))
   have hr : lgDoes ⟨δ, ω, Λ⟩ o k = lgSync ⟨δ, ω, Λ⟩ := by unfold lgDoes; rw [if_neg h7, if_pos h13]
   rw [hr]
   exact G.dn (l := [.tmp 4]) rfl rfl ⟨rfl, rfl⟩
  ·refine G.seq (G.region (G.q (Quiet.int rfl rfl rfl) rfl (G.ag rfl rfl (G.nil (G.then_n ?_)))))
   refine G.condD rfl (fun h17 => ?_) (fun h17 => ?_)
   ·refine G.seq (G.region (G.mv rfl rfl (G.q (Quiet.fieldAddr rfl fo_73_1) rfl ?_)))
    refine G.q (Quiet.ld rfl ag_3) rfl ?_
    refine G.oq (OpSpec.call Tryz.func39 rfl rfl (vs := [_, _]) rfl (laccept_spec g x d δ ω Λ o.n hI)) ?nx20
    rintro v L' ⟨rfl, rfl⟩
    refine G.ag rfl rfl (G.nil (G.then_n (G.ret (G.blk_r (G.then_r ?_)))))
    have hr : lgDoes ⟨δ, ω, Λ⟩ o k = lgAccept ⟨δ, ω, Λ⟩ o.n := by unfold lgDoes; rw [if_neg h7, if_neg h13, if_pos h17]
    rw [hr]
    exact G.dn (l := [.tmp 4]) rfl rfl ⟨rfl, rfl⟩
   ·refine G.seq (G.region (G.q (Quiet.int rfl rfl rfl) rfl (G.ag rfl rfl (G.nil (G.then_n ?_)))))
    refine G.condD rfl (fun h23 => ?_) (fun h23 => ?_)
    ·refine G.seq (G.region (G.mv rfl rfl (G.q (Quiet.fieldAddr rfl fo_73_1) rfl ?_)))
     refine G.q (Quiet.ld rfl ag_3) rfl ?_
     refine G.oq (OpSpec.call Tryz.func43 rfl rfl (vs := [_, _]) rfl (ladopt_spec g x d δ ω Λ o.n hI hI1)) ?nx26
     rintro v L' ⟨rfl, rfl⟩
     refine G.ag rfl rfl (G.nil (G.then_n (G.ret (G.blk_r (G.then_r ?_)))))
     have hr : lgDoes ⟨δ, ω, Λ⟩ o k = lgAdopt ⟨δ, ω, Λ⟩ o.n := by unfold lgDoes; rw [if_neg h7, if_neg h13, if_neg h17, if_pos h23]
     rw [hr]
     exact G.dn (l := [.tmp 4]) rfl rfl ⟨rfl, rfl⟩
    ·refine G.seq (G.region (G.q (Quiet.int rfl rfl rfl) rfl (G.ag rfl rfl (G.nil (G.then_n ?_)))))
     refine G.condD rfl (fun h29 => ?_) (fun h29 => ?_)
     ·refine G.seq (G.region (G.mv rfl rfl (G.q (Quiet.fieldAddr rfl fo_73_1) rfl ?_)))
      refine G.q (Quiet.ld rfl ag_3) rfl ?_
      refine G.oq (OpSpec.call Tryz.func27 rfl rfl (vs := [_, _]) rfl (lcut_spec g x d δ ω Λ o.n hI hLI hup hsn)) ?nx32
      rintro v L' ⟨rfl, rfl⟩
      refine G.ag rfl rfl (G.nil (G.then_n (G.ret (G.blk_r (G.then_r ?_)))))
      have hr : lgDoes ⟨δ, ω, Λ⟩ o k = lgCut ⟨δ, ω, Λ⟩ o.n := by unfold lgDoes; rw [if_neg h7, if_neg h13, if_neg h17, if_neg h23, if_pos h29]
      rw [hr]
      exact G.dn (l := [.tmp 4]) rfl rfl ⟨rfl, rfl⟩
     ·refine G.seq (G.region (G.q (Quiet.int rfl rfl rfl) rfl (G.ag rfl rfl (G.nil (G.then_n ?_)))))
      refine G.condD rfl (fun h35 => ?_) (fun h35 => ?_)
      ·refine G.seq ?_
       refine G.draw [7] [[0, 1, 2, 3, 4, 5, 6, 7], [8]] mixed (by kernel_rfl) ?_
       refine Phases.go [ptc b3 _ _] (by (repeat' constructor)) ?_
       refine D.kw [7] rfl (Quiet.move rfl) ?_
       refine D.kw [2, 7] rfl (Quiet.fieldAddr rfl fo_73_1) ?_
       refine D.kw [7] rfl (Quiet.ld rfl ag_3) ?_
       refine D.kw [4, 7] rfl (Quiet.loadAs (vs := op9K o k) rfl ag_73 (by (repeat' constructor)) (by simp [op9K, op9C, enC, ptC]) rfl) ?_
       refine D.m rfl (by kernel_rfl) (OpSpec.call Tryz.func79 rfl rfl (vs := [_]) rfl (text9_spec o k ho.text)) (by (repeat' constructor)) ?nx39
       refine D.kw [6, 7] rfl (Quiet.fieldAddr rfl fo_73_4) ?_
       refine D.kw [7] rfl (Quiet.ld rfl ag_22) ?_
       refine D.h rfl (by kernel_rfl) (OpSpec.call Tryz.func78 rfl rfl (vs := [_, _, _, _]) rfl (linstall_spec g x d δ ω Λ o.n (textZ o) o.lv o.l p hI ho.n ho.l (by have := ho.len; omega) ho.x)) (by (repeat' constructor)) ?nx43
       rintro v L' ⟨rfl, rfl⟩
       refine D.ph ?_
       refine Phases.go [] (by (repeat' constructor)) ?_
       refine D.kw [] rfl (Quiet.assign rfl) ?_
       refine D.ph (Phases.fin (G.then_n (G.ret (G.blk_r (G.then_r ?_)))))
       have hr : lgDoes ⟨δ, ω, Λ⟩ o k = lgInstall ⟨δ, ω, Λ⟩ o.n (textZ o) o.l := by unfold lgDoes; rw [if_neg h7, if_neg h13, if_neg h17, if_neg h23, if_neg h29, if_pos h35]
       rw [hr]
       exact G.dn (l := [.tmp 4]) rfl rfl ⟨rfl, rfl⟩
      ·refine G.skip (G.blk_n (G.then_n (G.seq ?_)))
       refine G.draw [5] [[0, 1, 2, 3, 4, 5], [6]] mixed (by kernel_rfl) ?_
       refine Phases.go [ptc b3 _ _] (by (repeat' constructor)) ?_
       refine D.kw [5] rfl (Quiet.move rfl) ?_
       refine D.kw [2, 5] rfl (Quiet.fieldAddr rfl fo_73_1) ?_
       refine D.kw [5] rfl (Quiet.ld rfl ag_3) ?_
       refine D.kw [4, 5] rfl (Quiet.loadAs (vs := op9K o k) rfl ag_73 (by (repeat' constructor)) (by simp [op9K, op9C, enC, ptC]) rfl) ?_
       refine D.m rfl (by kernel_rfl) (OpSpec.call Tryz.func79 rfl rfl (vs := [_]) rfl (text9_spec o k ho.text)) (by (repeat' constructor)) ?nx49
       refine D.h rfl (by kernel_rfl) (OpSpec.call Tryz.func80 rfl rfl (vs := [_, _, _]) rfl (lcompact_spec g x d δ ω Λ o.n (textZ o) hI hLI hup ho.n)) (by (repeat' constructor)) ?nx51
       rintro v L' ⟨rfl, rfl⟩
       refine D.ph ?_
       refine Phases.go [] (by (repeat' constructor)) ?_
       refine D.kw [] rfl (Quiet.assign rfl) ?_
       refine D.ph (Phases.fin (G.then_n (G.ret ?_)))
       have hr : lgDoes ⟨δ, ω, Λ⟩ o k = lgCompact ⟨δ, ω, Λ⟩ o.n (textZ o) := by unfold lgDoes; rw [if_neg h7, if_neg h13, if_neg h17, if_neg h23, if_neg h29, if_neg h35]
       rw [hr]
       exact G.dn (l := [.tmp 4]) rfl rfl ⟨rfl, rfl⟩

end Go.Proofs.YtidjhgbdokcphaaGreat

/- Own work: scripts on a disk that lives; how marks are counted: plain. -/
namespace Go.Proofs.YtidjhgbdokcphaaGreat
open Go

theorem dbt_count (r : Dk × Wl × Int) : (dbt r).2.1.count = r.2.1.count := by unfold dbt; split <;> rfl
theorem seal_count (δ : Dk) (ω : Wl) (ar : Int) (l : List Bs) : (sealZ δ ω ar l).2.1.count ≤ ω.count + 1 := by
  unfold sealZ
  repeat' split
  all_goals (dsimp only; omega)
theorem append_count (δ : Dk) (ω : Wl) (s : Bs) : (appendZ δ ω s).2.1.count ≤ ω.count + 1 := by
  unfold appendZ
  repeat' split
  all_goals first | (rw [dbt_count]; dsimp only; omega) | (dsimp only; omega)
theorem sync_count (δ : Dk) (ω : Wl) : (syncZ δ ω).2.1.count ≤ ω.count + 1 := by
  unfold syncZ
  repeat' split
  all_goals first | (rw [dbt_count]; exact seal_count _ _ _ _) | (dsimp only; omega)
theorem cut_count (δ : Dk) (ω : Wl) (n : Int) : (cutZ δ ω n).2.1.count ≤ ω.count + 1 := by
  unfold cutZ
  repeat' split
  all_goals first | (rw [dbt_count]; exact seal_count _ _ _ _) | (dsimp only; omega)
theorem renew_count (δ : Dk) (ω : Wl) (l : List Bs) : (renewZ δ ω l).2.1.count ≤ ω.count + 1 := by
  unfold renewZ
  repeat' split
  all_goals first | (rw [dbt_count]; exact seal_count _ _ _ _) | (rw [dbt_count]; dsimp only; omega) | (dsimp only; omega)
theorem setm_count (δ : Dk) (ω : Wl) (a b : Int) : (setmZ δ ω a b).2.1.count ≤ ω.count + 1 := by
  unfold setmZ
  repeat' split
  all_goals first | (rw [dbt_count]; dsimp only; omega) | (dsimp only; omega)
theorem lsync_count (s : Ld) : (lgSync s).1.ω.count ≤ s.ω.count + 1 := by
  unfold lgSync
  split
  · show s.ω.count ≤ _; omega
  · exact sync_count _ _
theorem lrenew_count (s : Ld) (b : Int) (sn : Bs) (es : List Bs) (zs : List Int) : (lgRenew s b sn es zs).1.ω.count ≤ s.ω.count + 1 := by
  unfold lgRenew
  split
  · dsimp only; omega
  · split <;> exact renew_count _ _ _
theorem does_count (s : Ld) (o : Op9) (k : Int) : (lgDoes s o k).1.ω.count ≤ s.ω.count + 2 := by
  unfold lgDoes
  split
  · have h := append_count s.δ s.ω (enB o.e)
    unfold lgAppend
    repeat' split
    all_goals first | (dsimp only; omega) | (show (appendZ s.δ s.ω (enB o.e)).2.1.count ≤ _; omega)
  split
  · have := lsync_count s; omega
  split
  · have h := setm_count s.δ s.ω o.n s.Λ.cur
    unfold lgAccept
    repeat' split
    all_goals first | (dsimp only; omega) | (show (setmZ s.δ s.ω o.n s.Λ.cur).2.1.count ≤ _; omega)
  split
  · have h := lsync_count s
    have h2 := setm_count (lgSync s).1.δ (lgSync s).1.ω (lgSync s).1.Λ.acc o.n
    unfold lgAdopt
    repeat' split
    all_goals first | (dsimp only; omega) | omega | skip
    unfold lgAdopt2
    split
    · show (setmZ _ _ _ _).2.1.count ≤ _; omega
    · show (setmZ _ _ _ _).2.1.count ≤ _; omega
  split
  · unfold lgCut
    repeat' split
    all_goals first | (dsimp only; omega) | skip
    rename_i n _
    have h := cut_count s.δ s.ω (((headL s.Λ.base s.Λ.snap).length + n : Nat) : Int)
    unfold lgCut2
    split
    · show (cutZ _ _ _).2.1.count ≤ _; omega
    · show (cutZ _ _ _).2.1.count ≤ _; omega
  split
  · unfold lgInstall
    repeat' split
    all_goals first | (dsimp only; omega) | skip
    have := lrenew_count s o.n (textZ o) (o.l.map enB) (o.l.map (·.zx)); omega
  · unfold lgCompact
    repeat' split
    all_goals first | (dsimp only; omega) | skip
    rename_i n _
    have := lrenew_count s o.n (textZ o) (s.Λ.ents.drop n) (s.Λ.zxs.drop n); omega
theorem lk_does {p : HP} {s : Ld} {N : Int} (h : LWell s N) {o : Op9} (ho : Op9A p o) (k : Int) : (lgDoes s o k).2 ≠ 2 := by
  unfold lgDoes
  split
  · exact (lk_append h ho.e.l.w.i).live
  split
  · exact (lk_sync h).2.2.2.1
  split
  · exact (lk_accept h o.n).1.live
  split
  · exact (lk_adopt h o.n).1.live
  split
  · exact (lk_cut h o.n).live
  split
  · exact (lk_install h ho.n.2 _ (fun e he => (ho.x e he).l.w.i)).live
  · exact (lk_compact h o.n _).live
structure Live (s : Ld) (N : Int) (c : Int) : Prop where
  l : LLv s N
  calm : s.calm = s
  count : s.ω.count ≤ c
theorem Live.w {s : Ld} {N c : Int} (h : Live s N c) : LWell s N := by have := h.l.lw; rw [h.calm] at this; exact this
theorem live_does {p : HP} {s : Ld} {N c : Int} (h : Live s N c) {o : Op9} (ho : Op9A p o) (k : Int) : Live (lgDoes s o k).1 (N + 8000000) (c + 2) ∧ (lgDoes s o k).2 ≠ 2 := by
  have h2 := lk_does h.w ho k
  obtain ⟨q1, q2⟩ := (lr_does h.l ho k).live h2
  rw [h.calm] at q2
  refine ⟨⟨q1.more (by omega), ?_, by have := does_count s o k; have := h.count; omega⟩, h2⟩
  exact (congrArg Prod.fst q2).symm
theorem format_live {n : Int} (h : 16 ≤ n ∧ n ≤ 32768) : ∃ ω, (lgFormat (Dk.new n)).2 = some ω ∧ Live ⟨(lgFormat (Dk.new n)).1, ω, lg0⟩ 4000003 3 ∧ Well (formatZ (Dk.new n)).1 newW 3 ∧ Well (lgF1 (Dk.new n)).1 (lgF1 (Dk.new n)).2.1 2000003 := by
  obtain ⟨ω, f1, f2, f4, f5⟩ := format_llv h
  obtain ⟨ω', g1, g2, -⟩ := format_lwell h
  rw [f1] at g1; cases g1
  refine ⟨ω, f1, ⟨f2, ?_, ?_⟩, f4, f5⟩
  · show (⟨(lgFormat (Dk.new n)).1.calm, ω, lg0⟩ : Ld) = _
    rw [calm_of g2.well.al]
  · show ω.count ≤ 3
    rw [(lgFormat_ok f1).2.2.1]
    have h1 := sync_count (lgF1 (Dk.new n)).1 (lgF1 (Dk.new n)).2.1
    have h2 := append_count (formatZ (Dk.new n)).1 newW (headB 0 0)
    have h3 : newW.count = 1 := rfl
    show (syncZ _ _).2.1.count ≤ 3
    have h4 : (lgF1 (Dk.new n)).2.1.count = (appendZ (formatZ (Dk.new n)).1 newW (headB 0 0)).2.1.count := rfl
    omega
end Go.Proofs.YtidjhgbdokcphaaGreat

/- Own work: LedgerCuts: plain. -/

namespace Go.Proofs.YtidjhgbdokcphaaGreat
open Go

/-! ### Numbers from 1 -/
end Go.Proofs.YtidjhgbdokcphaaGreat

/- Own work: LedgerLasts: what dies, what lasts: plain. -/

namespace Go.Proofs.YtidjhgbdokcphaaGreat
open Go

theorem act_dead {δ : Dk} (h : δ.act.2 ≠ 0) : δ.act.1.dead = true := by
  simp only [Dk.act, actE, actD] at h ⊢
  split at h
  · exact absurd rfl h
  · rename_i h1
    rw [if_neg h1]
    split at h
    · exact absurd rfl h
    · rename_i h2; rw [if_neg h2]
theorem write_dead' {δ : Dk} (hd : δ.dead = false) {n : Int} {s : Bs} (hn : 0 ≤ n ∧ n < δ.now.length) (hs : s.length = 64) (h : (δ.write n s).2 ≠ 0) : (δ.write n s).1.dead = true := by
  have hh : δ.has n = true := by simp [Dk.has, hn.1, hn.2]
  rw [write_eq hd, if_neg (by rw [hh]; simp [hs])] at h ⊢
  exact act_dead h
theorem write_live' {δ : Dk} (hd : δ.dead = false) {n : Int} {s : Bs} (h : (δ.write n s).2 = 0) : (δ.write n s).1.dead = false := (calm_write hd h).2
theorem sync_dead' {δ : Dk} (hd : δ.dead = false) (h : δ.sync.2 ≠ 0) : δ.sync.1.dead = true := by
  rw [sync_eq hd] at h ⊢
  split at h
  · exact absurd rfl h
  · rename_i h1; rw [if_neg h1]; exact act_dead h1
theorem lay_dead' : ∀ (f : Nat) (δ : Dk) (area : Int) (all : Bs) (i : Nat), δ.dead = false → 0 ≤ area ∧ area ≤ 1 → 2 ≤ δ.now.length → (all.length : Int) ≤ 64 * halfZ δ → (layF f δ area all i).2 ≠ 0 → (layF f δ area all i).1.dead = true := by
  intro f
  induction f with
  | zero => intro δ area all i h _ _ _ g; exact absurd rfl g
  | succ f ih =>
    intro δ area all i hd ha hn hl
    simp only [layF]
    split
    · rename_i hi
      have hr := lay_in ha hn hl hi
      have hlen : (δ.write (2 + area * halfZ δ + i) (laySec all i)).1.now.length = δ.now.length := (write_keeps _ _ _).1
      split
      · rename_i h1; intro _; exact write_dead' hd ⟨by omega, hr.2⟩ (laySec_len _ _) h1
      · rename_i h1
        exact ih _ _ _ _ (write_live' hd (by simpa using h1)) ha (by rw [hlen]; exact hn) (by rw [halfZ_of hlen]; exact hl)
    · intro g; exact absurd rfl g
theorem next_dead' {δ : Dk} {m : Mk} (hd : δ.dead = false) (hn : 2 ≤ δ.now.length) (h : (nextZ δ m).2 ≠ 0) : (nextZ δ m).1.dead = true := by
  unfold nextZ at h ⊢
  split
  · rename_i h1; exact write_dead' hd ⟨by omega, by omega⟩ (sec_len4 _) h1
  · rename_i h1
    rw [if_neg h1] at h
    split
    · rename_i h2; exact sync_dead' (write_live' hd (by simpa using h1)) h2
    · rename_i h2; rw [if_neg h2] at h; exact absurd rfl h
theorem seal_dead' {δ : Dk} {ω : Wl} {ar : Int} {l : List Bs} (hd : δ.dead = false) (hn : 2 ≤ δ.now.length) (h : (dbt (sealZ δ ω ar l)).2.2 = 2) : (dbt (sealZ δ ω ar l)).1.dead = true := by
  rw [(dbt_err _).1] at h
  rw [(dbt_err _).2]
  unfold sealZ at h ⊢
  split
  · rename_i h1; exact sync_dead' hd h1
  · rename_i h1
    rw [if_neg h1] at h
    have hs0 : δ.sync.2 = 0 := by simpa using h1
    have hl : δ.sync.1.now.length = δ.now.length := by rw [(sync_keeps δ).1]
    split
    · rename_i h2; exact next_dead' (calm_sync hd hs0).2.1 (by omega) h2
    · rename_i h2; rw [if_neg h2] at h; exact absurd h (by show ¬ (0 : Int) = 2; decide)
structure Died (r rc : Dk × Wl × Int) : Prop where
  dead : r.1.dead = true
  twin : rc.2.2 = 0
theorem died_sync {δ : Dk} {ω : Wl} {N : Int} (h : Lv δ ω N) (e : (syncZ δ ω).2.2 = 2) : Died (syncZ δ ω) (syncZ δ.calm ω) := by
  have hdb := h.well.doubt
  have hac := h.well.acts
  unfold syncZ at e ⊢
  have d0 : ¬ ω.doubt = true := by rw [hdb]; decide
  simp only [if_neg d0] at e ⊢
  by_cases h1 : ω.synced = ω.recs.length
  · rw [if_pos h1] at e; exact absurd e (by show ¬ (0 : Int) = 2; decide)
  by_cases h2 : ω.count = 4294967295
  · rw [if_neg h1, if_pos h2] at e; exact absurd e (by show ¬ (30 : Int) = 2; decide)
  simp only [if_neg h1, if_neg h2] at e ⊢
  obtain ⟨e9, -, -⟩ := well_seal h.well h2 h.well.area h.well.fits h.well.al rfl (by omega)
  exact ⟨seal_dead' h.dead h.well.size.1 e, by rw [e9]⟩
theorem died_cut {δ : Dk} {ω : Wl} {N : Int} (h : Lv δ ω N) {n : Int} (e : (cutZ δ ω n).2.2 = 2) : Died (cutZ δ ω n) (cutZ δ.calm ω n) := by
  have hdb := h.well.doubt
  have hac := h.well.acts
  unfold cutZ at e ⊢
  have d0 : ¬ ω.doubt = true := by rw [hdb]; decide
  simp only [if_neg d0] at e ⊢
  by_cases h1 : n < 0 ∨ n > ω.recs.length
  · rw [if_pos h1] at e; exact absurd e (by show ¬ (32 : Int) = 2; decide)
  by_cases h2 : ω.count = 4294967295
  · rw [if_neg h1, if_pos h2] at e; exact absurd e (by show ¬ (30 : Int) = 2; decide)
  simp only [if_neg h1, if_neg h2] at e ⊢
  have hf := laid_take_le ω.recs n.toNat
  have hfit := h.well.fits
  obtain ⟨e9, -, -⟩ := well_seal h.well h2 h.well.area (l := ω.recs.take n.toNat) (by omega) h.well.al rfl (by omega)
  exact ⟨seal_dead' h.dead h.well.size.1 e, by rw [e9]⟩
theorem died_setm {δ : Dk} {ω : Wl} {N : Int} (h : Lv δ ω N) {a b : Int} (e : (setmZ δ ω a b).2.2 = 2) : Died (setmZ δ ω a b) (setmZ δ.calm ω a b) := by
  have hdb := h.well.doubt
  unfold setmZ at e ⊢
  have d0 : ¬ ω.doubt = true := by rw [hdb]; decide
  simp only [if_neg d0] at e ⊢
  by_cases h1 : a < 0 ∨ b < 0
  · rw [if_pos h1] at e; exact absurd e (by show ¬ (1 : Int) = 2; decide)
  by_cases h2 : ω.count = 4294967295
  · rw [if_neg h1, if_pos h2] at e; exact absurd e (by show ¬ (30 : Int) = 2; decide)
  simp only [if_neg h1, if_neg h2] at e ⊢
  obtain ⟨n1, -, -⟩ := al_next h.well.al h.well.size.1 (ω.mark ω.area (ω.recs.take ω.synced.toNat) a b)
  rw [if_neg (show ¬ (nextZ δ.calm (ω.mark ω.area (ω.recs.take ω.synced.toNat) a b)).2 ≠ 0 by rw [n1]; exact fun g => g rfl)]
  split at e
  · rename_i h3
    rw [if_pos h3]
    exact ⟨by rw [(dbt_err _).2]; exact next_dead' h.dead h.well.size.1 h3, rfl⟩
  · exact absurd e (by show ¬ (0 : Int) = 2; decide)
theorem died_renew {δ : Dk} {ω : Wl} {N : Int} (h : Lv δ ω N) {l : List Bs} (e : (renewZ δ ω l).2.2 = 2) : Died (renewZ δ ω l) (renewZ δ.calm ω l) := by
  have hdb := h.well.doubt
  have hac := h.well.acts
  have har := h.well.area
  have hsz : 2 ≤ δ.now.length ∧ δ.now.length ≤ 32768 := h.well.size
  have hh := half_le hsz
  unfold renewZ at e ⊢
  rw [show halfZ δ.calm = halfZ δ from rfl]
  have d0 : ¬ ω.doubt = true := by rw [hdb]; decide
  simp only [if_neg d0] at e ⊢
  by_cases h0 : l.any (fun s => decide (s.length > 4000)) = true
  · rw [if_pos h0] at e; exact absurd e (by show ¬ (33 : Int) = 2; decide)
  by_cases h1 : ¬ ((l.length : Int) * 6 ≤ 64 * halfZ δ) ∨ ω.count = 4294967295
  · rw [if_neg h0, if_pos h1] at e; exact absurd e (by show ¬ (30 : Int) = 2; decide)
  by_cases h2 : ¬ ((laidZ l).length : Int) ≤ 64 * halfZ δ
  · rw [if_neg h0, if_neg h1, if_pos h2] at e; exact absurd e (by show ¬ (30 : Int) = 2; decide)
  simp only [if_neg h0, if_neg h1, if_neg h2] at e ⊢
  have ha : 0 ≤ 1 - ω.area ∧ 1 - ω.area ≤ 1 := by omega
  have hll : ((laidZ l).length : Int) ≤ 64 * halfZ δ := by omega
  obtain ⟨a1, a2⟩ := al_lay ((laidZ l).length + 1) δ.calm (1 - ω.area) (laidZ l) (0 / 64) h.well.al ha hsz.1 hll
  have ak := layZ_keeps δ.calm (1 - ω.area) (laidZ l) 0
  have ak2 := layZ_keeps δ (1 - ω.area) (laidZ l) 0
  rw [if_neg (show ¬ (layZ δ.calm (1 - ω.area) (laidZ l) 0).2 ≠ 0 by show ¬ (layF _ _ _ _ _).2 ≠ 0; rw [a1]; exact fun g => g rfl)]
  have hacc : δ.calm.acts ≤ N := hac
  obtain ⟨e9, -, -⟩ := well_seal h.well (fun g => h1 (.inr g)) ha (show ((laidZ l).length : Int) ≤ 64 * halfZ δ.calm from hll) a2 ak.1 (by have := ak.2; show (layZ δ.calm (1 - ω.area) (laidZ l) 0).1.acts ≤ _; omega)
  have e8 : (dbt (sealZ (layZ δ.calm (1 - ω.area) (laidZ l) 0).1 ω (1 - ω.area) l)).2 = ({ ω with recs := l, synced := l.length, area := 1 - ω.area, count := ω.count + 1 }, 0) := e9
  split at e
  · rename_i h3
    rw [if_pos h3]
    exact ⟨by rw [(dbt_err _).2]; exact lay_dead' _ _ _ _ _ h.dead ha hsz.1 hll h3, by rw [e8]⟩
  · rename_i h3
    rw [if_neg h3]
    obtain ⟨-, q2⟩ := calm_layZ h.dead (by simpa using h3 : (layZ δ (1 - ω.area) (laidZ l) 0).2 = 0)
    exact ⟨seal_dead' q2 (by rw [ak2.1]; exact hsz.1) e, by rw [e8]⟩
theorem died_append {δ : Dk} {ω : Wl} {N : Int} (h : Lv δ ω N) {s : Bs} (e : (appendZ δ ω s).2.2 = 2) : (appendZ δ ω s).1.dead = true := by
  have hdb := h.well.doubt
  have hsz : 2 ≤ δ.now.length ∧ δ.now.length ≤ 32768 := h.well.size
  unfold appendZ at e ⊢
  rw [if_neg (by rw [hdb]; decide)] at e ⊢
  by_cases h1 : s.length > 4000
  · rw [if_pos h1] at e; exact absurd e (by show ¬ (33 : Int) = 2; decide)
  by_cases h2 : ¬ ((laidZ ω.recs).length : Int) + s.length + 6 ≤ 64 * halfZ δ
  · rw [if_neg h1, if_pos h2] at e; exact absurd e (by show ¬ (30 : Int) = 2; decide)
  rw [if_neg h1, if_neg h2] at e ⊢
  have hlen : (laidZ ω.recs ++ recZ s).length = (laidZ ω.recs).length + s.length + 6 := by rw [List.length_append, recZ_len]; omega
  split at e
  · rename_i h3
    rw [if_pos h3, (dbt_err _).2]
    exact lay_dead' _ _ _ _ _ h.dead h.well.area hsz.1 (by omega) h3
  · exact absurd e (by show ¬ (0 : Int) = 2; decide)
/-! ### The ledger's calls -/
theorem endL_two {Λ : Lg} {f : Lg → Lg} {r : Dk × Wl × Int} (h : (endL Λ f r).2 = 2) : r.2.2 = 2 ∧ (endL Λ f r).1.Λ.doubt = true ∧ (endL Λ f r).1.δ = r.1 := by
  obtain ⟨e1, e2, e3⟩ := endL_err Λ f r
  have h2 : r.2.2 = 2 := by rw [e1] at h; exact metE_two.1 h
  refine ⟨h2, ?_, e2⟩
  unfold endL
  rw [if_neg (show ¬ (metL Λ r).2 = 0 by show ¬ metE r.2.2 = 0; rw [h2]; decide)]
  show (Λ.met r.2.2).doubt = true
  rw [h2]; rfl
theorem endL_nil {Λ : Lg} {f : Lg → Lg} {r : Dk × Wl × Int} (h : r.2.2 = 0) : (endL Λ f r).2 = 0 ∧ (endL Λ f r).1.Λ = f Λ := by
  unfold endL
  rw [if_pos (show (metL Λ r).2 = 0 by show metE r.2.2 = 0; rw [h]; decide)]
  refine ⟨rfl, ?_⟩
  show f (Λ.met r.2.2) = f Λ
  rw [h]; rfl
def LastQ (s : Ld) (k : Int) (rc : Ld × Int) (L : Lg) : Prop :=
  (k ≠ 1 ∧ k ≠ 3 ∧ rc.2 = 0 ∧ L = rc.1.Λ) ∨ (k = 3 ∧ rc.2 = 0 ∧ L = s.syn.setAcc rc.1.Λ.acc) ∨ (k = 4 ∧ rc.2 = 0 ∧ L = rc.1.Λ.setCur s.Λ.cur)
structure LDead (s : Ld) (N : Int) (k : Int) (r rc : Ld × Int) : Prop where
  dead : r.1.δ.dead = true
  doubt : r.1.Λ.doubt = true
  back : r.1.δ.Ok → ∀ how, ∃ Λ', Back (r.1.δ.crash how) N Λ' ∧ (Λ' = s.syn ∨ LastQ s k rc Λ')
theorem ld_of {s : Ld} {N M : Int} {k : Int} {r rc : Ld × Int} {Q : Lg → Prop} (hR : LRes s N r rc Q) (h2 : r.2 = 2) (hd : r.1.δ.dead = true) (hb : r.1.Λ.doubt = true) (hM : N + 4000000 ≤ M) (hQ : ∀ L, Q L → LastQ s k rc L) : LDead s M k r rc :=
  ⟨hd, hb, fun hok how => by
    obtain ⟨Λ', q1, q2⟩ := hR.dead h2 hok how
    exact ⟨Λ', q1.more hM, q2.imp id (hQ _)⟩⟩
theorem ld_renew {s : Ld} {N : Int} (h : LLv s N) {base : Int} {snap : Bs} {es : List Bs} {zs : List Int} (hb : 0 ≤ base ∧ base ≤ 9223372036854775807) (hs : snap.length ≤ 65536) (hr : RowsI base es zs) {k : Int} (hk : k ≠ 1 ∧ k ≠ 3) (e : (lgRenew s base snap es zs).2 = 2) : LDead s (N + 8000000) k (lgRenew s base snap es zs) (lgRenew s.calm base snap es zs) := by
  have hR := lr_renew h hb hs hr
  obtain ⟨δ, ω, Λ⟩ := s
  have hl : ¬ es.length > 200 := fun g => by unfold lgRenew at e; rw [if_pos g] at e; exact absurd e (by show ¬ (83 : Int) = 2; decide)
  have h1 := ren_end ω Λ (base := base) (snap := snap) (zs := zs) hl
  have e' : (endL Λ (fun _ => newL Λ base snap es zs) (renewZ δ ω (headL base snap ++ es))).2 = 2 := by rw [← h1]; exact e
  obtain ⟨g1, g2, g3⟩ := endL_two e'
  have hD := died_renew h.lv g1
  obtain ⟨t1, t2⟩ := endL_nil (Λ := Λ) (f := fun _ => newL Λ base snap es zs) hD.twin
  refine ld_of hR e ?_ ?_ (by omega) (fun L hL => .inl ⟨hk.1, hk.2, ?_, ?_⟩)
  · rw [h1, g3]; exact hD.dead
  · rw [h1]; exact g2
  · show (lgRenew ⟨δ.calm, ω, Λ⟩ base snap es zs).2 = 0; rw [h1]; exact t1
  · show L = (lgRenew ⟨δ.calm, ω, Λ⟩ base snap es zs).1.Λ; rw [h1, t2]; exact hL.1
theorem ld_does {p : HP} {s : Ld} {N : Int} (h : LLv s N) (hc : s.ω.count < 4294967000) {o : Op9} (ho : Op9A p o) (k : Int) (e : (lgDoes s o k).2 = 2) : LDead s (N + 8000000) k (lgDoes s o k) (lgDoes s.calm o k) := by
  have hd : s.Λ.doubt = false := h.lw.live
  unfold lgDoes at e ⊢
  by_cases k1 : k = 1
  · rw [if_pos k1] at e
    rw [if_pos k1, if_pos k1]
    have hR := lr_append h ho.e.l.w.i
    obtain ⟨δ, ω, Λ⟩ := s
    rcases app_end δ ω Λ o.e with ⟨z, h1, h2, h3⟩ | h1
    · have e1 : z = 2 := by have : (lgAppend ⟨δ, ω, Λ⟩ o.e).2 = 2 := e; rw [h1 δ rfl] at this; exact this
      have hd' : Λ.doubt = false := hd
      rw [h3 e1] at hd'; cases hd'
    · have e1 : (lgAppend ⟨δ, ω, Λ⟩ o.e).2 = 2 := e
      rw [h1 δ rfl] at e1
      obtain ⟨g1, g2, g3⟩ := endL_two e1
      refine ld_of hR e ?_ ?_ (by omega) (fun L hL => hL.elim)
      · rw [h1 δ rfl, g3]; exact died_append h.lv g1
      · rw [h1 δ rfl]; exact g2
  rw [if_neg k1] at e
  rw [if_neg k1, if_neg k1]
  by_cases k2 : k = 2
  · rw [if_pos k2] at e
    rw [if_pos k2, if_pos k2]
    have hR := lr_sync h
    obtain ⟨δ, ω, Λ⟩ := s
    have h1 := sync_end ω Λ hd
    have e1 : (endL Λ id (syncZ δ ω)).2 = 2 := by rw [← h1]; exact e
    obtain ⟨g1, g2, g3⟩ := endL_two e1
    have hD := died_sync h.lv g1
    obtain ⟨t1, t2⟩ := endL_nil (Λ := Λ) (f := id) hD.twin
    refine ld_of hR e ?_ ?_ (by omega) (fun L hL => .inl ⟨k1, by omega, ?_, ?_⟩)
    · rw [h1, g3]; exact hD.dead
    · rw [h1]; exact g2
    · show (lgSync ⟨δ.calm, ω, Λ⟩).2 = 0; rw [h1]; exact t1
    · show L = (lgSync ⟨δ.calm, ω, Λ⟩).1.Λ; rw [h1, t2]; exact hL
  rw [if_neg k2] at e
  rw [if_neg k2, if_neg k2]
  by_cases k3 : k = 3
  · rw [if_pos k3] at e
    rw [if_pos k3, if_pos k3]
    have hR := lr_accept h o.n
    obtain ⟨δ, ω, Λ⟩ := s
    rcases acc_end ω Λ o.n with ⟨z, h1, h3⟩ | ⟨n1, n2, h1⟩
    · have e1 : z = 2 := by have : (lgAccept ⟨δ, ω, Λ⟩ o.n).2 = 2 := e; rw [h1 δ] at this; exact this
      have hd' : Λ.doubt = false := hd
      rw [h3 e1] at hd'; cases hd'
    · have e1 : (lgAccept ⟨δ, ω, Λ⟩ o.n).2 = 2 := e
      rw [h1 δ] at e1
      obtain ⟨g1, g2, g3⟩ := endL_two e1
      have hD := died_setm h.lv g1
      obtain ⟨t1, t2⟩ := endL_nil (Λ := Λ) (f := fun L => L.setAcc o.n) hD.twin
      refine ld_of hR e ?_ ?_ (by omega) (fun L hL => .inr (.inl ⟨k3, ?_, ?_⟩))
      · rw [h1 δ, g3]; exact hD.dead
      · rw [h1 δ]; exact g2
      · show (lgAccept ⟨δ.calm, ω, Λ⟩ o.n).2 = 0; rw [h1]; exact t1
      · show L = _
        rw [show (lgAccept (Ld.calm ⟨δ, ω, Λ⟩) o.n).1.Λ.acc = o.n by show (lgAccept ⟨δ.calm, ω, Λ⟩ o.n).1.Λ.acc = o.n; rw [h1, t2]; rfl]
        exact hL.2
  rw [if_neg k3] at e
  rw [if_neg k3, if_neg k3]
  by_cases k4 : k = 4
  · rw [if_pos k4] at e
    rw [if_pos k4, if_pos k4]
    have hR := lr_adopt h o.n
    have hS := lr_sync h
    have hne : ¬ (o.n < s.Λ.cur ∨ o.n > s.Λ.acc) := fun g => by unfold lgAdopt at e; rw [if_neg (by rw [hd]; decide), if_pos g] at e; exact absurd e (by show ¬ (82 : Int) = 2; decide)
    have he : 0 ≤ s.Λ.cur ∧ s.Λ.cur ≤ s.Λ.acc ∧ s.Λ.acc ≤ 1073741824 := h.lw.w.eps
    -- the twin's answer
    have twin : (lgAdopt s.calm o.n).2 = 0 ∧ (lgAdopt s.calm o.n).1.Λ = s.Λ.setCur o.n := by
      have hLc : LWell s.calm N := h.lw
      have hsy : (lgSync s.calm).2 = 0 ∧ (lgSync s.calm).1.Λ = s.Λ := by
        obtain ⟨q1, q2, q3, q4, -⟩ := lk_sync hLc
        refine ⟨?_, q3⟩
        unfold lgSync
        rw [if_neg (show ¬ s.calm.Λ.doubt = true by show ¬ s.Λ.doubt = true; rw [hd]; decide)]
        rcases (well_sync hLc.well).2.2 with ⟨c', g⟩ | g
        · show metE (syncZ s.calm.δ s.calm.ω).2.2 = 0; rw [g]; exact (by decide : metE 0 = 0)
        · exfalso
          have g' : syncZ s.δ.calm s.ω = (s.δ.calm, s.ω, 30) := g
          unfold syncZ at g'
          rw [if_neg (by rw [h.lv.well.doubt]; decide)] at g'
          split at g'
          · exact absurd (congrArg (fun r => r.2.2) g') (show ¬ (0 : Int) = 30 by decide)
          · rw [if_neg (by omega)] at g'
            obtain ⟨e9, -, -⟩ := well_seal h.lv.well (by omega) h.lv.well.area h.lv.well.fits h.lv.well.al rfl (by have := h.lv.well.acts; omega)
            have h3 : (dbt (sealZ s.δ.calm s.ω s.ω.area s.ω.recs)).2 = (s.ω, 30) := by rw [g']
            rw [e9] at h3
            exact absurd (congrArg Prod.snd h3) (show ¬ (0 : Int) = 30 by decide)
      obtain ⟨q1, -, -, -, -⟩ := lk_sync hLc
      have hcs : (lgSync s.calm).1.ω.count < 4294967200 := by have := lsync_count s.calm; have : s.calm.ω.count = s.ω.count := rfl; omega
      have hA : lgAdopt s.calm o.n = lgAdopt2 (lgSync s.calm).1 o.n := by
        unfold lgAdopt
        rw [if_neg (show ¬ s.calm.Λ.doubt = true by show ¬ s.Λ.doubt = true; rw [hd]; decide), if_neg (show ¬ (o.n < s.calm.Λ.cur ∨ o.n > s.calm.Λ.acc) from hne), if_neg (fun g => g hsy.1)]
      rw [hA]
      have hlam := hsy.2
      have hW1 := q1.well
      obtain ⟨⟨δ1, ω1, Λ1⟩, ht⟩ : ∃ t, (lgSync s.calm).1 = t := ⟨_, rfl⟩
      rw [ht] at hcs hlam hW1 ⊢
      have hlam' : Λ1 = s.Λ := hlam
      subst hlam'
      rw [ado_end]
      have h0 : (setmZ δ1 ω1 s.Λ.acc o.n).2.2 = 0 := by
        unfold setmZ
        rw [if_neg (by rw [show ω1.doubt = false from hW1.doubt]; decide), if_neg (by omega), if_neg (by have : ω1.count < 4294967200 := hcs; omega)]
        obtain ⟨n1, -, -⟩ := al_next hW1.al hW1.size.1 (ω1.mark ω1.area (ω1.recs.take ω1.synced.toNat) s.Λ.acc o.n)
        rw [if_neg (show ¬ (nextZ δ1 (ω1.mark ω1.area (ω1.recs.take ω1.synced.toNat) s.Λ.acc o.n)).2 ≠ 0 by rw [n1]; exact fun g => g rfl)]
      exact endL_nil h0
    have dd : (lgAdopt s o.n).1.δ.dead = true ∧ (lgAdopt s o.n).1.Λ.doubt = true := by
      by_cases h3 : (lgSync s).2 = 0
      · have hl := hS.live (by rw [h3]; decide)
        have hA : lgAdopt s o.n = lgAdopt2 (lgSync s).1 o.n := by unfold lgAdopt; rw [if_neg (by rw [hd]; decide), if_neg hne, if_neg (fun g => g h3)]
        rw [hA] at e ⊢
        have hlv := hl.1.lv
        obtain ⟨⟨δ1, ω1, Λ1⟩, ht⟩ : ∃ t, (lgSync s).1 = t := ⟨_, rfl⟩
        rw [ht] at e hlv ⊢
        rw [ado_end] at e ⊢
        obtain ⟨g1, g2, g3⟩ := endL_two e
        exact ⟨by rw [g3]; exact (died_setm hlv g1).dead, g2⟩
      · have hA : lgAdopt s o.n = lgSync s := by unfold lgAdopt; rw [if_neg (by rw [hd]; decide), if_neg hne, if_pos h3]
        rw [hA] at e ⊢
        have hlv := h.lv
        obtain ⟨δ, ω, Λ⟩ := s
        rw [sync_end ω Λ hd] at e ⊢
        obtain ⟨g1, g2, g3⟩ := endL_two e
        exact ⟨by rw [g3]; exact (died_sync hlv g1).dead, g2⟩
    refine ld_of hR e dd.1 dd.2 (by omega) (fun L hL => ?_)
    rcases hL.2.2 with q | q
    · refine .inr (.inr ⟨k4, twin.1, ?_⟩)
      rw [twin.2, q]; rfl
    · exact .inl ⟨k1, k3, twin.1, by rw [twin.2]; exact q⟩
  rw [if_neg k4] at e
  rw [if_neg k4, if_neg k4]
  by_cases k5 : k = 5
  · rw [if_pos k5] at e
    rw [if_pos k5, if_pos k5]
    have hl := h.lw.w.rows.len
    have e81 : ∀ t : Ld, t.Λ = s.Λ → placeZ s.Λ o.n = none → lgCut t o.n = (t, 81) := fun t ht hp => by unfold lgCut; rw [ht, if_neg (by rw [hd]; decide), hp]
    rcases hp : placeZ s.Λ o.n with _ | n
    · rw [e81 s rfl hp] at e; exact absurd e (by show ¬ (81 : Int) = 2; decide)
    · have e2 : ∀ t : Ld, t.Λ = s.Λ → lgCut t o.n = lgCut2 t n := fun t ht => by unfold lgCut; rw [ht, if_neg (by rw [hd]; decide), hp]
      rw [e2 s rfl] at e
      rw [e2 s rfl, e2 s.calm rfl]
      have hR := lr_cut2 h (n := n) (by have := (place_le hp).1; rw [show s.Λ.ents.length = s.Λ.zxs.length from hl.symm]; exact this)
      obtain ⟨δ, ω, Λ⟩ := s
      have e1 : (endL Λ (fun _ => cutL Λ n) (cutZ δ ω (((headL Λ.base Λ.snap).length + n : Nat) : Int))).2 = 2 := e
      obtain ⟨g1, g2, g3⟩ := endL_two e1
      have hD := died_cut h.lv g1
      obtain ⟨t1, t2⟩ := endL_nil (Λ := Λ) (f := fun _ => cutL Λ n) hD.twin
      refine ld_of hR e ?_ ?_ (by omega) (fun L hL => .inl ⟨k1, k3, ?_, ?_⟩)
      · rw [cut_end, g3]; exact hD.dead
      · rw [cut_end]; exact g2
      · exact t1
      · show L = (lgCut2 ⟨δ.calm, ω, Λ⟩ n).1.Λ; rw [cut_end, t2]; exact hL
  rw [if_neg k5] at e
  rw [if_neg k5, if_neg k5]
  by_cases k6 : k = 6
  · rw [if_pos k6] at e
    rw [if_pos k6, if_pos k6]
    have hi : ∀ e ∈ o.l, EnI e := fun e he => (ho.x e he).l.w.i
    by_cases h1 : o.n < 0 ∨ (textZ o).length > 65536
    · unfold lgInstall at e; rw [if_neg (by rw [hd]; decide), if_pos h1] at e; exact absurd e (by show ¬ (1 : Int) = 2; decide)
    by_cases h2 : o.l.all fitsE = false
    · unfold lgInstall at e; rw [if_neg (by rw [hd]; decide), if_neg h1, if_pos h2] at e; exact absurd e (by show ¬ (1 : Int) = 2; decide)
    by_cases h3 : ¬ Rises o.n (o.l.map (·.zx))
    · unfold lgInstall at e; rw [if_neg (by rw [hd]; decide), if_neg h1, if_neg h2, if_pos h3] at e; exact absurd e (by show ¬ (81 : Int) = 2; decide)
    have e2 : ∀ t : Ld, t.Λ = s.Λ → lgInstall t o.n (textZ o) o.l = lgRenew t o.n (textZ o) (o.l.map enB) (o.l.map (·.zx)) := fun t ht => by unfold lgInstall; rw [ht, if_neg (by rw [hd]; decide), if_neg h1, if_neg h2, if_neg h3]
    rw [e2 s rfl] at e
    rw [e2 s rfl, e2 s.calm rfl]
    exact ld_renew h ⟨by omega, ho.n.2⟩ (by omega) (rises_rows o.l o.n hi (by simpa using h2) (by simpa using h3)) ⟨k1, k3⟩ e
  rw [if_neg k6] at e
  rw [if_neg k6, if_neg k6]
  by_cases h1 : (textZ o).length > 65536
  · unfold lgCompact at e; rw [if_neg (by rw [hd]; decide), if_pos h1] at e; exact absurd e (by show ¬ (1 : Int) = 2; decide)
  rcases hp : placeZ s.Λ o.n with _ | n
  · unfold lgCompact at e; rw [if_neg (by rw [hd]; decide), if_neg h1, hp] at e; exact absurd e (by show ¬ (81 : Int) = 2; decide)
  · have e2 : ∀ t : Ld, t.Λ = s.Λ → lgCompact t o.n (textZ o) = lgRenew t o.n (textZ o) (s.Λ.ents.drop n) (s.Λ.zxs.drop n) := fun t ht => by unfold lgCompact; rw [ht, if_neg (by rw [hd]; decide), if_neg h1, hp]
    rw [e2 s rfl] at e
    rw [e2 s rfl, e2 s.calm rfl]
    obtain ⟨hz, hr⟩ := place_ok h.lw.w hp
    exact ld_renew h hz (by omega) hr ⟨k1, k3⟩ e
end Go.Proofs.YtidjhgbdokcphaaGreat

/- Own work: LedgerLasts: what a call that was answered lets last: plain. -/

namespace Go.Proofs.YtidjhgbdokcphaaGreat
open Go

theorem seal_ok {δ : Dk} {ω : Wl} {ar : Int} {l : List Bs} (h : (dbt (sealZ δ ω ar l)).2.2 = 0) : (dbt (sealZ δ ω ar l)).2.1.synced = (dbt (sealZ δ ω ar l)).2.1.recs.length := by
  rw [seal_live (by rw [h]; decide)]; rfl
theorem seal_e {δ : Dk} {ω : Wl} {ar : Int} {l : List Bs} : (dbt (sealZ δ ω ar l)).2.2 = 0 ∨ (dbt (sealZ δ ω ar l)).2.2 = 2 := by
  rw [(dbt_err _).1]; exact seal_err _ _ _ _
theorem sync_e {δ : Dk} {ω : Wl} (h2 : (syncZ δ ω).2.2 ≠ 2) : ((syncZ δ ω).2.2 ≠ 0 → (syncZ δ ω).2.1 = ω) ∧ ((syncZ δ ω).2.2 = 0 → (syncZ δ ω).2.1.synced = (syncZ δ ω).2.1.recs.length) := by
  unfold syncZ at h2 ⊢
  split
  · exact ⟨fun _ => rfl, fun g => absurd g (by show ¬ (34 : Int) = 0; decide)⟩
  rename_i a1
  rw [if_neg a1] at h2
  split
  · rename_i a2; exact ⟨fun _ => rfl, fun _ => a2⟩
  rename_i a2
  rw [if_neg a2] at h2
  split
  · exact ⟨fun _ => rfl, fun g => absurd g (by show ¬ (30 : Int) = 0; decide)⟩
  rename_i a3
  rw [if_neg a3] at h2
  rcases seal_e (δ := δ) (ω := ω) (ar := ω.area) (l := ω.recs) with g | g
  · exact ⟨fun q => absurd g q, fun q => seal_ok q⟩
  · exact absurd g h2
theorem cut_e {δ : Dk} {ω : Wl} {n : Int} (h2 : (cutZ δ ω n).2.2 ≠ 2) : ((cutZ δ ω n).2.2 ≠ 0 → (cutZ δ ω n).2.1 = ω) ∧ ((cutZ δ ω n).2.2 = 0 → (cutZ δ ω n).2.1.synced = (cutZ δ ω n).2.1.recs.length) := by
  unfold cutZ at h2 ⊢
  split
  · exact ⟨fun _ => rfl, fun g => absurd g (by show ¬ (34 : Int) = 0; decide)⟩
  rename_i a1
  rw [if_neg a1] at h2
  split
  · exact ⟨fun _ => rfl, fun g => absurd g (by show ¬ (32 : Int) = 0; decide)⟩
  rename_i a2
  rw [if_neg a2] at h2
  split
  · exact ⟨fun _ => rfl, fun g => absurd g (by show ¬ (30 : Int) = 0; decide)⟩
  rename_i a3
  rw [if_neg a3] at h2
  rcases seal_e (δ := δ) (ω := ω) (ar := ω.area) (l := ω.recs.take n.toNat) with g | g
  · exact ⟨fun q => absurd g q, fun q => seal_ok q⟩
  · exact absurd g h2
theorem renew_e {δ : Dk} {ω : Wl} {l : List Bs} (h2 : (renewZ δ ω l).2.2 ≠ 2) : ((renewZ δ ω l).2.2 ≠ 0 → (renewZ δ ω l).2.1 = ω) ∧ ((renewZ δ ω l).2.2 = 0 → (renewZ δ ω l).2.1.synced = (renewZ δ ω l).2.1.recs.length) := by
  unfold renewZ at h2 ⊢
  split
  · exact ⟨fun _ => rfl, fun g => absurd g (by show ¬ (34 : Int) = 0; decide)⟩
  rename_i a1
  rw [if_neg a1] at h2
  split
  · exact ⟨fun _ => rfl, fun g => absurd g (by show ¬ (33 : Int) = 0; decide)⟩
  rename_i a2
  rw [if_neg a2] at h2
  split
  · exact ⟨fun _ => rfl, fun g => absurd g (by show ¬ (30 : Int) = 0; decide)⟩
  rename_i a3
  rw [if_neg a3] at h2
  split
  · exact ⟨fun _ => rfl, fun g => absurd g (by show ¬ (30 : Int) = 0; decide)⟩
  rename_i a4
  rw [if_neg a4] at h2
  split
  · rename_i a5
    rw [if_pos a5, (dbt_err _).1] at h2
    rcases layZ_err δ (1 - ω.area) (laidZ l) 0 with g | g
    · exact absurd g a5
    · exact absurd g h2
  · rename_i a5
    rw [if_neg a5] at h2
    rcases seal_e (δ := (layZ δ (1 - ω.area) (laidZ l) 0).1) (ω := ω) (ar := 1 - ω.area) (l := l) with g | g
    · exact ⟨fun q => absurd g q, fun q => seal_ok q⟩
    · exact absurd g h2
theorem setm_recs (δ : Dk) (ω : Wl) (a b : Int) : (setmZ δ ω a b).2.1.recs = ω.recs := by
  unfold setmZ
  repeat' split
  all_goals first | rfl | (unfold dbt; split <;> rfl)
theorem setm_few {δ : Dk} {ω : Wl} {a b : Int} (hd : ω.doubt = false) (hab : 0 ≤ a ∧ 0 ≤ b) (hc : ω.count < 4294967200) : (setmZ δ ω a b).2.2 = 0 ∨ (setmZ δ ω a b).2.2 = 2 := by
  unfold setmZ
  rw [if_neg (by rw [hd]; decide), if_neg (by omega), if_neg (by omega)]
  split
  · rw [(dbt_err _).1]; exact next_err _ _
  · exact .inl rfl
theorem sync_few {δ : Dk} {ω : Wl} (hd : ω.doubt = false) (hc : ω.count < 4294967200) : (syncZ δ ω).2.2 = 0 ∨ (syncZ δ ω).2.2 = 2 := by
  unfold syncZ
  rw [if_neg (by rw [hd]; decide)]
  split
  · exact .inl rfl
  · rw [if_neg (by omega)]; exact seal_e
structure Syn (s : Ld) (k : Int) (r : Ld × Int) : Prop where
  same : r.2 ≠ 0 ∨ k = 1 → r.1.syn = s.syn
  acc : r.2 = 0 → k = 3 → r.1.syn = s.syn.setAcc r.1.Λ.acc
  all : r.2 = 0 → k ≠ 1 → k ≠ 3 → r.1.syn = r.1.Λ
theorem syn_at {s t : Ld} (h1 : t.Λ = s.Λ) (h2 : t.ω.synced = s.ω.synced) : t.syn = s.syn := by
  unfold Ld.syn Ld.kept; rw [h1, h2]
theorem endL_same {Λ : Lg} {f : Lg → Lg} {r : Dk × Wl × Int} (h0 : (endL Λ f r).2 ≠ 0) (h2 : (endL Λ f r).2 ≠ 2) : (endL Λ f r).1.Λ = Λ ∧ r.2.2 ≠ 0 ∧ r.2.2 ≠ 2 := by
  obtain ⟨e1, -, -⟩ := endL_err Λ f r
  have g2 := endL_ne h2
  have g0 : r.2.2 ≠ 0 := by intro g; rw [e1, g] at h0; exact h0 (by decide)
  refine ⟨?_, g0, g2⟩
  unfold endL
  rw [if_neg (by show ¬ metE r.2.2 = 0; rw [← e1]; exact h0)]
  exact met_same g2
theorem metE_zero {e : Int} (h : metE e = 0) : e = 0 := by unfold metE at h; split at h <;> omega
theorem syn_seal {s : Ld} {N M : Int} {k : Int} {f : Lg → Lg} {w : Dk × Wl × Int} (h : LLv s N) (hk : k ≠ 1 ∧ k ≠ 3) (hl : LLv (endL s.Λ f w).1 M) (h2 : (endL s.Λ f w).2 ≠ 2) (hw : (w.2.2 ≠ 0 → w.2.1 = s.ω) ∧ (w.2.2 = 0 → w.2.1.synced = w.2.1.recs.length)) : Syn s k (endL s.Λ f w) := by
  obtain ⟨e1, e2, e3⟩ := endL_err s.Λ f w
  refine ⟨fun g => ?_, fun _ g => absurd g hk.2, fun g _ _ => syn_full hl ?_⟩
  · have g0 : (endL s.Λ f w).2 ≠ 0 := g.resolve_right hk.1
    obtain ⟨q1, q2, -⟩ := endL_same g0 h2
    exact syn_at q1 (by rw [e3, hw.1 q2])
  · rw [e3]; exact hw.2 (metE_zero (by rw [← e1]; exact g))
theorem syn_renew {s : Ld} {N : Int} (h : LLv s N) {base : Int} {snap : Bs} {es : List Bs} {zs : List Int} (hb : 0 ≤ base ∧ base ≤ 9223372036854775807) (hs : snap.length ≤ 65536) (hr : RowsI base es zs) {k : Int} (hk : k ≠ 1 ∧ k ≠ 3) (e : (lgRenew s base snap es zs).2 ≠ 2) : Syn s k (lgRenew s base snap es zs) := by
  have hl := ((lr_renew h hb hs hr).live e).1
  obtain ⟨δ, ω, Λ⟩ := s
  by_cases h1 : es.length > 200
  · have e1 : lgRenew ⟨δ, ω, Λ⟩ base snap es zs = (⟨δ, ω, Λ⟩, 83) := by unfold lgRenew; rw [if_pos h1]
    rw [e1]
    exact ⟨fun _ => rfl, fun _ g => absurd g hk.2, fun g => absurd g (by show ¬ (83 : Int) = 0; decide)⟩
  · rw [ren_end ω Λ h1] at hl e ⊢
    exact syn_seal h hk hl e (renew_e (endL_ne e))
theorem syn_does {p : HP} {s : Ld} {N : Int} (h : LLv s N) (hc : s.ω.count < 4294967000) {o : Op9} (ho : Op9A p o) (k : Int) (e : (lgDoes s o k).2 ≠ 2) : Syn s k (lgDoes s o k) := by
  have hd : s.Λ.doubt = false := h.lw.live
  unfold lgDoes at e ⊢
  have id0 : ∀ z : Int, z ≠ 0 → k ≠ 3 → Syn s k (s, z) := fun z hz h3 => ⟨fun _ => rfl, fun _ g => absurd g h3, fun g => absurd g hz⟩
  by_cases k1 : k = 1
  · rw [if_pos k1] at e ⊢
    have hl := ((lr_append h ho.e.l.w.i).live e).1
    obtain ⟨δ, ω, Λ⟩ := s
    rcases app_end δ ω Λ o.e with ⟨z, h1, h2, -⟩ | h1
    · rw [h1 δ rfl]; exact id0 z h2 (by omega)
    · rw [h1 δ rfl] at e hl ⊢
      obtain ⟨e1, e2, e3⟩ := endL_err Λ (fun L => L.keep (enB o.e) o.e.zx) (appendZ δ ω (enB o.e))
      refine ⟨fun _ => ?_, fun _ g => absurd g (by omega), fun _ g => absurd k1 g⟩
      by_cases g0 : (endL Λ (fun L => L.keep (enB o.e) o.e.zx) (appendZ δ ω (enB o.e))).2 = 0
      · have hw0 := metE_zero (by rw [← e1]; exact g0)
        obtain ⟨-, q⟩ := endL_nil (Λ := Λ) (f := fun L => L.keep (enB o.e) o.e.zx) hw0
        have hsy : (endL Λ (fun L => L.keep (enB o.e) o.e.zx) (appendZ δ ω (enB o.e))).1.ω.synced = ω.synced := by rw [e3]; exact append_syn _ _ _
        have hkl : (ω.synced - (headL Λ.base Λ.snap).length).toNat ≤ Λ.ents.length := by
          have h9 : 0 ≤ ω.synced ∧ ω.synced ≤ ω.recs.length := h.lv.well.synced
          have hr : ω.recs = headL Λ.base Λ.snap ++ Λ.ents := h.lw.recs
          have h8 := congrArg List.length hr
          rw [List.length_append] at h8
          omega
        have hzl : Λ.zxs.length = Λ.ents.length := h.lw.w.rows.len
        unfold Ld.syn Ld.kept
        rw [hsy, q]
        show (⟨Λ.acc, Λ.cur, Λ.base, Λ.snap, (Λ.ents ++ [enB o.e]).take (ω.synced - ((headL Λ.base Λ.snap).length : Int)).toNat, (Λ.zxs ++ [o.e.zx]).take (ω.synced - ((headL Λ.base Λ.snap).length : Int)).toNat, false⟩ : Lg) = ⟨Λ.acc, Λ.cur, Λ.base, Λ.snap, Λ.ents.take (ω.synced - ((headL Λ.base Λ.snap).length : Int)).toNat, Λ.zxs.take (ω.synced - ((headL Λ.base Λ.snap).length : Int)).toNat, false⟩
        rw [List.take_append_of_le_length hkl, List.take_append_of_le_length (by omega)]
      · obtain ⟨q1, -, -⟩ := endL_same g0 e
        exact syn_at (s := ⟨δ, ω, Λ⟩) q1 (by rw [e3]; exact append_syn _ _ _)
  rw [if_neg k1] at e ⊢
  by_cases k2 : k = 2
  · rw [if_pos k2] at e ⊢
    have hl := ((lr_sync h).live e).1
    obtain ⟨δ, ω, Λ⟩ := s
    rw [sync_end ω Λ hd] at e hl ⊢
    exact syn_seal h ⟨k1, by omega⟩ hl e (sync_e (endL_ne e))
  rw [if_neg k2] at e ⊢
  by_cases k3 : k = 3
  · rw [if_pos k3] at e ⊢
    obtain ⟨δ, ω, Λ⟩ := s
    rcases acc_end ω Λ o.n with ⟨z, h1, -⟩ | ⟨n1, n2, h1⟩
    · rw [h1 δ]
      exact ⟨fun _ => rfl, fun _ _ => rfl, fun _ _ g => absurd k3 g⟩
    · rw [h1 δ] at e ⊢
      obtain ⟨e1, e2, e3⟩ := endL_err Λ (fun L => L.setAcc o.n) (setmZ δ ω o.n Λ.cur)
      have hsy : (endL Λ (fun L => L.setAcc o.n) (setmZ δ ω o.n Λ.cur)).1.ω.synced = ω.synced := by rw [e3]; exact setm_syn _ _ _ _
      refine ⟨fun g => ?_, fun g _ => ?_, fun _ _ g => absurd k3 g⟩
      · obtain ⟨q1, -, -⟩ := endL_same (g.resolve_right (by omega)) e
        exact syn_at (s := ⟨δ, ω, Λ⟩) q1 hsy
      · obtain ⟨-, q⟩ := endL_nil (Λ := Λ) (f := fun L => L.setAcc o.n) (metE_zero (by rw [← e1]; exact g))
        unfold Ld.syn Ld.kept
        rw [hsy, q]; rfl
  rw [if_neg k3] at e ⊢
  by_cases k4 : k = 4
  · rw [if_pos k4] at e ⊢
    have hll := ((lr_adopt h o.n).live e).1
    by_cases hne : o.n < s.Λ.cur ∨ o.n > s.Λ.acc
    · have e1 : lgAdopt s o.n = (s, 82) := by unfold lgAdopt; rw [if_neg (by rw [hd]; decide), if_pos hne]
      rw [e1]; exact id0 82 (by decide) k3
    have he : 0 ≤ s.Λ.cur ∧ s.Λ.cur ≤ s.Λ.acc ∧ s.Λ.acc ≤ 1073741824 := h.lw.w.eps
    have hs0 : (lgSync s).2 = 0 ∨ (lgSync s).2 = 2 := by
      obtain ⟨δ, ω, Λ⟩ := s
      rw [sync_end ω Λ hd, (endL_err _ _ _).1]
      rcases sync_few (δ := δ) (ω := ω) h.lv.well.doubt (by have : ω.count < 4294967000 := hc; omega) with g | g
      · left; rw [g]; decide
      · right; rw [g]; decide
    by_cases h3 : (lgSync s).2 = 0
    · have hl := (lr_sync h).live (by rw [h3]; decide)
      obtain ⟨s1, s2⟩ := sync_ok h h3
      have hA : lgAdopt s o.n = lgAdopt2 (lgSync s).1 o.n := by unfold lgAdopt; rw [if_neg (by rw [hd]; decide), if_neg hne, if_neg (fun g => g h3)]
      rw [hA] at e hll ⊢
      have hfull : (lgSync s).1.ω.synced = (lgSync s).1.ω.recs.length := by
        obtain ⟨δ, ω, Λ⟩ := s
        rw [sync_end ω Λ hd] at h3 ⊢
        rw [(endL_err _ _ _).2.2]
        rw [(endL_err _ _ _).1] at h3
        have h0 := metE_zero h3
        exact (sync_e (by rw [h0]; decide)).2 h0
      have hcs := lsync_count s
      have hdb := hl.1.lv.well.doubt
      obtain ⟨⟨δ1, ω1, Λ1⟩, ht⟩ : ∃ t, (lgSync s).1 = t := ⟨_, rfl⟩
      rw [ht] at e hll s2 hfull hcs hdb ⊢
      have s2' : Λ1 = s.Λ := s2
      subst s2'
      rw [ado_end] at e hll ⊢
      obtain ⟨e1, e2, e3⟩ := endL_err s.Λ (fun L => L.setCur o.n) (setmZ δ1 ω1 s.Λ.acc o.n)
      have hw0 : (setmZ δ1 ω1 s.Λ.acc o.n).2.2 = 0 := (setm_few hdb (by omega) (by have : ω1.count ≤ s.ω.count + 1 := hcs; omega)).resolve_right (endL_ne e)
      obtain ⟨q0, q⟩ := endL_nil (Λ := s.Λ) (f := fun L => L.setCur o.n) hw0
      refine ⟨fun g => absurd q0 (g.resolve_right k1), fun _ g => absurd g k3, fun _ _ _ => syn_full hll ?_⟩
      rw [e3, setm_syn, setm_recs]; exact hfull
    · have hA : lgAdopt s o.n = lgSync s := by unfold lgAdopt; rw [if_neg (by rw [hd]; decide), if_neg hne, if_pos h3]
      rw [hA] at e
      exact absurd (hs0.resolve_left h3) e
  rw [if_neg k4] at e ⊢
  by_cases k5 : k = 5
  · rw [if_pos k5] at e ⊢
    have hl := ((lr_cut h o.n).live e).1
    rcases hp : placeZ s.Λ o.n with _ | n
    · have e1 : lgCut s o.n = (s, 81) := by unfold lgCut; rw [if_neg (by rw [hd]; decide), hp]
      rw [e1]; exact id0 81 (by decide) k3
    · have e1 : lgCut s o.n = lgCut2 s n := by unfold lgCut; rw [if_neg (by rw [hd]; decide), hp]
      rw [e1] at e hl ⊢
      obtain ⟨δ, ω, Λ⟩ := s
      rw [cut_end] at e hl ⊢
      exact syn_seal h ⟨k1, k3⟩ hl e (cut_e (endL_ne e))
  rw [if_neg k5] at e ⊢
  by_cases k6 : k = 6
  · rw [if_pos k6] at e ⊢
    have hi : ∀ e ∈ o.l, EnI e := fun e he => (ho.x e he).l.w.i
    by_cases h1 : o.n < 0 ∨ (textZ o).length > 65536
    · have e1 : lgInstall s o.n (textZ o) o.l = (s, 1) := by unfold lgInstall; rw [if_neg (by rw [hd]; decide), if_pos h1]
      rw [e1]; exact id0 1 (by decide) k3
    by_cases h2 : o.l.all fitsE = false
    · have e1 : lgInstall s o.n (textZ o) o.l = (s, 1) := by unfold lgInstall; rw [if_neg (by rw [hd]; decide), if_neg h1, if_pos h2]
      rw [e1]; exact id0 1 (by decide) k3
    by_cases h3 : ¬ Rises o.n (o.l.map (·.zx))
    · have e1 : lgInstall s o.n (textZ o) o.l = (s, 81) := by unfold lgInstall; rw [if_neg (by rw [hd]; decide), if_neg h1, if_neg h2, if_pos h3]
      rw [e1]; exact id0 81 (by decide) k3
    have e1 : lgInstall s o.n (textZ o) o.l = lgRenew s o.n (textZ o) (o.l.map enB) (o.l.map (·.zx)) := by unfold lgInstall; rw [if_neg (by rw [hd]; decide), if_neg h1, if_neg h2, if_neg h3]
    rw [e1] at e ⊢
    exact syn_renew h ⟨by omega, ho.n.2⟩ (by omega) (rises_rows o.l o.n hi (by simpa using h2) (by simpa using h3)) ⟨k1, k3⟩ e
  rw [if_neg k6] at e ⊢
  by_cases h1 : (textZ o).length > 65536
  · have e1 : lgCompact s o.n (textZ o) = (s, 1) := by unfold lgCompact; rw [if_neg (by rw [hd]; decide), if_pos h1]
    rw [e1]; exact id0 1 (by decide) k3
  rcases hp : placeZ s.Λ o.n with _ | n
  · have e1 : lgCompact s o.n (textZ o) = (s, 81) := by unfold lgCompact; rw [if_neg (by rw [hd]; decide), if_neg h1, hp]
    rw [e1]; exact id0 81 (by decide) k3
  · have e1 : lgCompact s o.n (textZ o) = lgRenew s o.n (textZ o) (s.Λ.ents.drop n) (s.Λ.zxs.drop n) := by unfold lgCompact; rw [if_neg (by rw [hd]; decide), if_neg h1, hp]
    rw [e1] at e ⊢
    obtain ⟨hz, hr⟩ := place_ok h.lw.w hp
    exact syn_renew h hz (by omega) hr ⟨k1, k3⟩ e
end Go.Proofs.YtidjhgbdokcphaaGreat

/- Own work: LedgerLasts: what is told behind a crash: plain. -/

namespace Go.Proofs.YtidjhgbdokcphaaGreat
open Go

theorem arm_calm (δ : Dk) (n : Int) : (δ.arm n).1.calm = δ.calm := by
  unfold Dk.arm
  split
  · rfl
  split <;> rfl
theorem fresh_syn (δ : Dk) (ω : Wl) : lg0 = (⟨δ, ω, lg0⟩ : Ld).syn := by
  unfold Ld.syn
  show lg0 = ⟨lg0.acc, lg0.cur, lg0.base, lg0.snap, [].take _, [].take _, false⟩
  rw [List.take_nil, List.take_nil]; rfl
theorem lasts_end {s : Ld} {k : Int} {rc : Ld × Int} {L u : Lg} (hu : u = s.syn) (h : L = s.syn ∨ LastQ s k rc L) :
    (L.ents = u.ents ∧ L.base = u.base ∧ L.snap = u.snap ∧ L.acc = u.acc ∧ L.cur = u.cur) ∨
    (k = 4 ∧ rc.2 = 0 ∧ (L.ents = rc.1.Λ.ents ∧ L.base = rc.1.Λ.base ∧ L.snap = rc.1.Λ.snap ∧ L.acc = rc.1.Λ.acc ∧ L.cur = u.cur)) ∨
    (k = 3 ∧ rc.2 = 0 ∧ (L.ents = u.ents ∧ L.base = u.base ∧ L.snap = u.snap ∧ L.acc = rc.1.Λ.acc ∧ L.cur = u.cur)) ∨
    (rc.2 = 0 ∧ k ≠ 1 ∧ k ≠ 3 ∧ (L.ents = rc.1.Λ.ents ∧ L.base = rc.1.Λ.base ∧ L.snap = rc.1.Λ.snap ∧ L.acc = rc.1.Λ.acc ∧ L.cur = rc.1.Λ.cur)) := by
  subst hu
  rcases h with h | ⟨h1, h2, h3, h⟩ | ⟨h1, h2, h⟩ | ⟨h1, h2, h⟩
  · subst h; exact .inl ⟨rfl, rfl, rfl, rfl, rfl⟩
  · subst h; exact .inr (.inr (.inr ⟨h3, h1, h2, rfl, rfl, rfl, rfl, rfl⟩))
  · subst h; exact .inr (.inr (.inl ⟨h1, h2, rfl, rfl, rfl, rfl, rfl⟩))
  · subst h; exact .inr (.inl ⟨h1, h2, rfl, rfl, rfl, rfl, rfl⟩)
structure Twin (s : Ld) (N c : Int) (u : Lg) : Prop where
  l : LLv s N
  count : s.ω.count ≤ c
  u : u = s.syn
theorem twin_live {s : Ld} {N c : Int} {u : Lg} (h : Twin s N c u) : Live ⟨s.δ.calm, s.ω, s.Λ⟩ N c := by
  have e : (s.δ.arm 0).1 = s.δ.calm := by unfold Dk.arm; rw [if_neg (by rw [h.l.lv.dead]; decide), if_neg (by omega)]; rfl
  have q := (llv_arm h.l (Int.le_refl 0)).2
  rw [e] at q
  exact ⟨q, rfl, h.count⟩
theorem Twin.more {s : Ld} {N M c c' : Int} {u : Lg} (h : Twin s N c u) (hN : N ≤ M) (hc : c ≤ c') : Twin s M c' u := ⟨h.l.more hN, by have := h.count; omega, h.u⟩
theorem twin_start {n : Int} (h : 16 ≤ n ∧ n ≤ 32768) {k : Int} (hk : 0 ≤ k) : ∃ ω, (lgFormat (Dk.new n)).2 = some ω ∧ ((lgFormat (Dk.new n)).1.arm k).2 = 0 ∧ Twin ⟨((lgFormat (Dk.new n)).1.arm k).1, ω, lg0⟩ 4000003 3 lg0 ∧ ((lgFormat (Dk.new n)).1.arm k).1.calm = (lgFormat (Dk.new n)).1 ∧ LgW lg0 ∧ Well (formatZ (Dk.new n)).1 newW 3 ∧ Well (lgF1 (Dk.new n)).1 (lgF1 (Dk.new n)).2.1 2000003 := by
  obtain ⟨ω, f1, f2, f4, f5⟩ := format_live h
  obtain ⟨a1, a2⟩ := llv_arm f2.l hk
  refine ⟨ω, f1, a1, ⟨a2, f2.count, fresh_syn _ _⟩, ?_, f2.w.w, f4, f5⟩
  rw [arm_calm]
  exact congrArg (fun s : Ld => s.δ) f2.calm
theorem twin_step {s : Ld} {N c : Int} {u : Lg} (h : Twin s N c u) (hc : c < 4294967000) {p : HP} {o : Op9} (ho : Op9A p o) (k : Int) {r rc : Ld × Int} (hr : lgDoes s o k = r) (hrc : lgDoes ⟨s.δ.calm, s.ω, s.Λ⟩ o k = rc) (e : r.2 ≠ 2) : rc = (r.1.calm, r.2) ∧ ((r.2 ≠ 0 ∧ Twin r.1 (N + 8000000) (c + 2) u) ∨ (r.2 = 0 ∧ k = 1 ∧ Twin r.1 (N + 8000000) (c + 2) u) ∨ (r.2 = 0 ∧ k = 3 ∧ Twin r.1 (N + 8000000) (c + 2) (u.setAcc r.1.Λ.acc)) ∨ (r.2 = 0 ∧ k ≠ 1 ∧ k ≠ 3 ∧ Twin r.1 (N + 8000000) (c + 2) r.1.Λ)) := by
  subst hr; subst hrc
  obtain ⟨q1, q2⟩ := (lr_does h.l ho k).live e
  have hcn := h.count
  obtain ⟨y1, y2, y3⟩ := syn_does h.l (by omega) ho k e
  have hc2 := does_count s o k
  have hT : ∀ v, v = (lgDoes s o k).1.syn → Twin (lgDoes s o k).1 (N + 8000000) (c + 2) v := fun v hv => ⟨q1.more (by omega), by omega, hv⟩
  refine ⟨q2, ?_⟩
  by_cases h0 : (lgDoes s o k).2 = 0
  · by_cases h1 : k = 1
    · exact .inr (.inl ⟨h0, h1, hT _ (by rw [y1 (.inr h1)]; exact h.u)⟩)
    by_cases h3 : k = 3
    · exact .inr (.inr (.inl ⟨h0, h3, hT _ (by rw [y2 h0 h3, h.u])⟩))
    · exact .inr (.inr (.inr ⟨h0, h1, h3, hT _ (y3 h0 h1 h3).symm⟩))
  · exact .inl ⟨h0, hT _ (by rw [y1 (.inl h0)]; exact h.u)⟩
def EqL (L : Lg) (es : List Bs) (b : Int) (sn : Bs) (a c : Int) : Prop := L.ents = es ∧ L.base = b ∧ L.snap = sn ∧ L.acc = a ∧ L.cur = c
theorem twin_dead {s : Ld} {N c : Int} {u : Lg} (h : Twin s N c u) (hc : c < 4294967000) {p : HP} {o : Op9} (ho : Op9A p o) (k : Int) {r rc : Ld × Int} (hr : lgDoes s o k = r) (hrc : lgDoes ⟨s.δ.calm, s.ω, s.Λ⟩ o k = rc) (e : r.2 = 2) : r.1.δ.dead = true ∧ r.1.Λ.doubt = true ∧ (r.1.δ.Ok → ∀ how, ∃ L, Back (r.1.δ.crash how) (N + 8000000) L ∧
    ((EqL L u.ents u.base u.snap u.acc u.cur ∧ (rc.2 ≠ 0 ∨ rc.2 = 0 ∧ k = 1 ∨ rc.2 = 0 ∧ k = 3 ∨ rc.2 = 0 ∧ k ≠ 1 ∧ k ≠ 3)) ∨
    (k = 4 ∧ rc.2 = 0 ∧ EqL L rc.1.Λ.ents rc.1.Λ.base rc.1.Λ.snap rc.1.Λ.acc u.cur) ∨
    (k = 3 ∧ rc.2 = 0 ∧ EqL L u.ents u.base u.snap rc.1.Λ.acc u.cur) ∨
    (rc.2 = 0 ∧ k ≠ 1 ∧ k ≠ 3 ∧ EqL L rc.1.Λ.ents rc.1.Λ.base rc.1.Λ.snap rc.1.Λ.acc rc.1.Λ.cur))) := by
  subst hr; subst hrc
  have hcn := h.count
  have hD := ld_does h.l (by omega) ho k e
  refine ⟨hD.dead, hD.doubt, fun hok how => ?_⟩
  obtain ⟨L, b1, b2⟩ := hD.back hok how
  refine ⟨L, b1, ?_⟩
  rcases lasts_end h.u b2 with g | g | g | g
  · refine .inl ⟨g, ?_⟩
    by_cases h0 : (lgDoes s.calm o k).2 = 0
    · by_cases h1 : k = 1
      · exact .inr (.inl ⟨h0, h1⟩)
      by_cases h3 : k = 3
      · exact .inr (.inr (.inl ⟨h0, h3⟩))
      · exact .inr (.inr (.inr ⟨h0, h1, h3⟩))
    · exact .inl h0
  · exact .inr (.inl g)
  · exact .inr (.inr (.inl g))
  · exact .inr (.inr (.inr g))
theorem twin_cases {s : Ld} {N c : Int} {u : Lg} (h : Twin s N c u) (hc : c < 4294967000) {p : HP} {o : Op9} (ho : Op9A p o) (k : Int) {r rc : Ld × Int} (hr : lgDoes s o k = r) (hrc : lgDoes ⟨s.δ.calm, s.ω, s.Λ⟩ o k = rc) (hok : r.1.δ.Ok) (how : List Int) :
    (r.2 ≠ 2 ∧ rc = (r.1.calm, r.2) ∧ r.2 ≠ 0 ∧ Twin r.1 (N + 8000000) (c + 2) u) ∨
    (r.2 ≠ 2 ∧ rc = (r.1.calm, r.2) ∧ r.2 = 0 ∧ k = 1 ∧ Twin r.1 (N + 8000000) (c + 2) u) ∨
    (r.2 ≠ 2 ∧ rc = (r.1.calm, r.2) ∧ r.2 = 0 ∧ k = 3 ∧ Twin r.1 (N + 8000000) (c + 2) (u.setAcc r.1.Λ.acc)) ∨
    (r.2 ≠ 2 ∧ rc = (r.1.calm, r.2) ∧ r.2 = 0 ∧ k ≠ 1 ∧ k ≠ 3 ∧ Twin r.1 (N + 8000000) (c + 2) r.1.Λ) ∨
    (r.2 = 2 ∧ r.1.δ.dead = true ∧ r.1.Λ.doubt = true ∧
      ((∃ L, Back (r.1.δ.crash how) (N + 8000000) L ∧ EqL L u.ents u.base u.snap u.acc u.cur ∧ rc.2 ≠ 0) ∨
      (∃ L, Back (r.1.δ.crash how) (N + 8000000) L ∧ EqL L u.ents u.base u.snap u.acc u.cur ∧ rc.2 = 0 ∧ k = 1) ∨
      (∃ L, Back (r.1.δ.crash how) (N + 8000000) L ∧ EqL L u.ents u.base u.snap u.acc u.cur ∧ rc.2 = 0 ∧ k = 3) ∨
      (∃ L, Back (r.1.δ.crash how) (N + 8000000) L ∧ EqL L u.ents u.base u.snap u.acc u.cur ∧ rc.2 = 0 ∧ k ≠ 1 ∧ k ≠ 3) ∨
      (∃ L, Back (r.1.δ.crash how) (N + 8000000) L ∧ k = 4 ∧ rc.2 = 0 ∧ EqL L rc.1.Λ.ents rc.1.Λ.base rc.1.Λ.snap rc.1.Λ.acc u.cur) ∨
      (∃ L, Back (r.1.δ.crash how) (N + 8000000) L ∧ k = 3 ∧ rc.2 = 0 ∧ EqL L u.ents u.base u.snap rc.1.Λ.acc u.cur) ∨
      (∃ L, Back (r.1.δ.crash how) (N + 8000000) L ∧ rc.2 = 0 ∧ k ≠ 1 ∧ k ≠ 3 ∧ EqL L rc.1.Λ.ents rc.1.Λ.base rc.1.Λ.snap rc.1.Λ.acc rc.1.Λ.cur))) := by
  by_cases e : r.2 = 2
  · obtain ⟨d1, d2, d3⟩ := twin_dead h hc ho k hr hrc e
    obtain ⟨L, b1, b2⟩ := d3 hok how
    refine .inr (.inr (.inr (.inr ⟨e, d1, d2, ?_⟩)))
    rcases b2 with ⟨g, g2 | g2 | g2 | g2⟩ | g | g | g
    · exact .inl ⟨L, b1, g, g2⟩
    · exact .inr (.inl ⟨L, b1, g, g2⟩)
    · exact .inr (.inr (.inl ⟨L, b1, g, g2⟩))
    · exact .inr (.inr (.inr (.inl ⟨L, b1, g, g2⟩)))
    · exact .inr (.inr (.inr (.inr (.inl ⟨L, b1, g⟩))))
    · exact .inr (.inr (.inr (.inr (.inr (.inl ⟨L, b1, g⟩)))))
    · exact .inr (.inr (.inr (.inr (.inr (.inr ⟨L, b1, g⟩)))))
  · obtain ⟨q, g | g | g | g⟩ := twin_step h hc ho k hr hrc e
    · exact .inl ⟨e, q, g⟩
    · exact .inr (.inl ⟨e, q, g⟩)
    · exact .inr (.inr (.inl ⟨e, q, g⟩))
    · exact .inr (.inr (.inr (.inl ⟨e, q, g⟩)))
theorem wc_cells {b a c : Int} {s : Bs} {sl : Value} (h : isCell sl = true) : ∀ v ∈ [vint b, vstr s, sl, vint a, vint c], isCell v = true := by
  intro v hv
  simp only [List.mem_cons, List.not_mem_nil, or_false] at hv
  rcases hv with rfl | rfl | rfl | rfl | rfl
  · rfl
  · rfl
  · exact h
  · rfl
  · rfl
end Go.Proofs.YtidjhgbdokcphaaGreat

