/- Own work, some of it printed by program, texts that were built one by one and are laid one behind the other here: the end of a sound history, done again, changes nothing: plain. | package tree: Clone: walked. | law 07: the end of a sound history, done again: walked. | from what a call is given to the atoms of SlCore, and back to what a statement asks. | strings and rows of strings as arguments. | nested arguments decoded: slices of structs, and what the row says of their weight. | arguments of a bounded bulk (the second form's bound), decoded. | what the arguments are. | treeAgain: the walk, brought to the given second form and its card. -/
import Derived.Test.YtnnbelmpbmfdnaaGreatDoorCAgainP4
import Derived.Shelf.SlMaps.Clone
import Derived.Ground.SlmcProg
import Derived.Test.YtnnbelmpbmfdnaaGreatDoorProg
import Derived.Test.YtnnbelmpbmfdnaaGreatDoorCAgainP0
import Derived.Test.YtnnbelmpbmfdnaaGreatDoorRows
import Derived.WalkKit
import Derived.ProofKit
import Derived.OpenShut
import Derived.JoinedCond
import Derived.Carry
import Derived.Deep.Grids
import Derived.Handed
import Derived.Deep.Strs
import Derived.Test.YtnnbelmpbmfdnaaGreatDoorCAgainP2
import Derived.Test.YtnnbelmpbmfdnaaGreatDoorCards
import Derived.Test.YtnnbelmpbmfdnaaGreatDoorTie
import Derived.Deep.DeepHandedRow
import Derived.Lib.LaidTab
set_option linter.unusedSimpArgs false
set_option linter.unusedVariables false
/- Own work: the end of a sound history, done again, changes nothing: plain. -/

namespace Go.Proofs.YtnnbelmpbmfdnaaGreatDoor
open Go

/-! ### Paths: who is above -/
theorem base_noslash {q : Bs} (h : ableZ q) : (47 : UInt8) ∉ baseZ q := by
  obtain ⟨h0, -, -, -⟩ := able_cut h
  have h2 := (cut_last h0).2
  unfold baseZ
  rw [show (lidxZ q + 1).toNat = (lidxZ q).toNat + 1 by omega]
  exact h2
theorem able_noend {p : Bs} (hp : ableZ (p ++ [47])) : False := by
  have h1 := kid_parent hp
  have hb := base_ne hp
  have hs := base_noslash hp
  unfold kidZ at h1
  rcases List.append_eq_append_iff.1 h1 with ⟨a, e1, e2⟩ | ⟨a, e1, e2⟩
  · cases a with
    | nil => rw [List.nil_append] at e2; exact hs (by rw [← e2]; simp)
    | cons c a =>
      have := congrArg List.length e2
      rw [List.length_append] at this
      simp only [List.length_cons, List.length_nil] at this
      exact hb (List.eq_nil_of_length_eq_zero (by omega))
  · exact hs (by rw [e2]; simp)
theorem hit_up {q p : Bs} (hq : ableZ q) (hp : ableZ p) (hu : parentZ q = [47] ∨ ableZ (parentZ q)) (h : hitT q p = true) (hne : q ≠ p) : hitT (parentZ q) p = true := by
  unfold hitT at h
  rw [Bool.or_eq_true, decide_eq_true_iff, decide_eq_true_iff] at h
  obtain ⟨d, hd, e1⟩ := under_pre (h.resolve_left hne)
  rw [kid_else hp.1, List.append_assoc, List.cons_append, List.nil_append] at e1
  have hb := base_noslash hq
  have e2 := kid_parent hq
  by_cases hr : parentZ q = [47]
  · rw [hr, kid_root] at e2
    rw [e2] at e1
    cases p with
    | nil => exact absurd hp (by decide)
    | cons c p' =>
      rw [List.cons_append] at e1
      injection e1 with _ e3
      exact absurd (by rw [e3]; simp) hb
  · rw [kid_else hr] at e2
    rw [e2] at e1
    rcases List.append_eq_append_iff.1 e1 with ⟨a, h1, h2⟩ | ⟨a, h1, h2⟩
    · -- p = u ++ a
      cases a with
      | nil => rw [List.append_nil] at h1; rw [h1]; exact hit_self _
      | cons c a =>
        rw [List.cons_append] at h2
        injection h2 with _ h3
        exact absurd (by rw [h3]; simp) hb
    · cases a with
      | nil => rw [List.append_nil] at h1; rw [h1]; exact hit_self _
      | cons c a =>
        rw [List.cons_append] at h2
        injection h2 with h3 h4
        subst h3
        refine hit_under (d := a) (fun e => ?_) (by rw [kid_else hp.1, List.append_assoc]; exact h1)
        subst e
        exact able_noend (by rw [← h1]; exact hu.resolve_left hr)
/-! ### Parts, run and run again -/
abbrev Pz := Pt × Int
def runP : Tr → List Pz → Tr
  | τ, [] => τ
  | τ, x :: l => runP (partZ τ x.1 x.2).1 l
def soundR : Tr → List Pz → Prop
  | _, [] => True
  | τ, x :: l => findsZ τ x.1 = true ∧ soundR (partZ τ x.1 x.2).1 l
structure Cl (τ : Tr) : Prop where
  able : ∀ q, thereT τ q → q ≠ [47] → ableZ q
  closed : ∀ q, thereT τ q → q ≠ [47] → thereT τ (parentZ q)
theorem Cl.up {τ : Tr} (h : Cl τ) {q : Bs} (ht : thereT τ q) (hq : q ≠ [47]) : parentZ q = [47] ∨ ableZ (parentZ q) := by
  by_cases e : parentZ q = [47]
  · exact .inl e
  · exact .inr (h.able _ (h.closed q ht hq) e)
theorem kid_mem {τ : Tr} {q : Bs} (ht : thereT τ q) (hq : q ≠ [47]) : (kidsZ τ (parentZ q)).length ≠ 0 := by
  obtain ⟨n, hn⟩ := there_some.1 ht
  have hm := al_mem hn
  intro e
  have : baseZ q ∈ kidsZ τ (parentZ q) := by
    unfold kidsZ
    exact List.mem_map.2 ⟨(q, n), List.mem_filter.2 ⟨hm, by simp [hq]⟩, rfl⟩
  rw [List.eq_nil_of_length_eq_zero e] at this; cases this
theorem hit_root {p : Bs} (hp : ableZ p) : hitT [47] p = false := by
  cases e : hitT [47] p with
  | false => rfl
  | true =>
    obtain ⟨r, e2⟩ := hit_pre e
    cases hy : p with
    | nil => exact absurd hp (by rw [hy]; decide)
    | cons c r2 =>
      rw [hy] at e2
      simp at e2
      exact absurd (by rw [hy, ← e2.1, e2.2.1]) hp.1
/-- Who has no kids has nobody below. -/
theorem no_below {τ : Tr} (hc : Cl τ) {p : Bs} (hp : ableZ p) (hk : (kidsZ τ p).length = 0) : ∀ (n : Nat) (q : Bs), q.length ≤ n → thereT τ q → hitT q p = true → q = p := by
  intro n
  induction n with
  | zero =>
    intro q hl ht hh
    have : q = [] := List.eq_nil_of_length_eq_zero (by omega)
    subst this
    exact absurd (hc.able _ ht (by decide)) (by decide)
  | succ n ih =>
    intro q hl ht hh
    apply Decidable.byContradiction
    intro hne
    have hqr : q ≠ [47] := fun e => by subst e; rw [hit_root hp] at hh; cases hh
    have ha := hc.able q ht hqr
    have hup := hit_up ha hp (hc.up ht hqr) hh hne
    obtain ⟨r, hr, e⟩ := parent_pre ha
    have hlen : (parentZ q).length ≤ n := by
      have := congrArg List.length e
      rw [List.length_append] at this
      have := List.length_pos_iff.2 hr
      omega
    have := ih (parentZ q) hlen (hc.closed q ht hqr) hup
    exact kid_mem ht hqr (by rw [this]; exact hk)
theorem finds_kind {τ : Tr} {x : Pt} (h : findsZ τ x = true) : x.kind = 1 ∧ (ableZ x.path ∧ ¬ thereT τ x.path ∧ thereT τ (parentZ x.path)) ∨ x.kind = 2 ∧ (x.path ≠ [47] ∧ thereT τ x.path ∧ (kidsZ τ x.path).length = 0) ∨ (x.kind = 3 ∨ x.kind = 4) ∧ thereT τ x.path := by
  unfold findsZ at h
  split at h
  · rename_i h1; exact .inl ⟨h1, of_decide_eq_true h⟩
  split at h
  · rename_i h2; exact .inr (.inl ⟨h2, of_decide_eq_true h⟩)
  split at h
  · rename_i h3; exact .inr (.inr ⟨h3, of_decide_eq_true h⟩)
  · cases h
theorem there_part {τ : Tr} (hc : Cl τ) {x : Pt} {z : Int} (h : findsZ τ x = true) (q : Bs) : thereT (partZ τ x z).1 q ↔ (if x.kind = 1 then q = x.path ∨ thereT τ q else if x.kind = 2 then thereT τ q ∧ q ≠ x.path else thereT τ q) := by
  rcases finds_kind h with ⟨h1, ha, hn, hu⟩ | ⟨h2, hr, ht, hk⟩ | ⟨h3, ht⟩
  · rw [if_pos h1]
    unfold thereT
    rw [create_at h1 ha hu]
    by_cases e2 : q = x.path
    · rw [if_pos e2]; split <;> simp [e2]
    · rw [if_neg e2]; split <;> simp [e2]
  · rw [if_neg (by omega), if_pos h2]
    have ha := hc.able _ ht hr
    have e : thereT (partZ τ x z).1 q ↔ thereT τ q ∧ hitT q x.path = false := by
      unfold thereT
      rw [erase_at h2 ha]
      cases hitT q x.path <;> split <;> simp
    rw [e]
    constructor
    · rintro ⟨g1, g2⟩
      exact ⟨g1, fun e => by rw [e, hit_self] at g2; cases g2⟩
    · rintro ⟨g1, g2⟩
      refine ⟨g1, ?_⟩
      cases e : hitT q x.path with
      | false => rfl
      | true => exact absurd (no_below hc ha hk _ q (Nat.le_refl _) g1 e) g2
  · rw [if_neg (by omega), if_neg (by omega)]
    unfold thereT
    rcases h3 with h3 | h4
    · rw [set_at h3 ht]; split <;> simp
    · rw [acl_at h4 ht]; split <;> simp
theorem Cl.part {τ : Tr} (hc : Cl τ) {x : Pt} {z : Int} (h : findsZ τ x = true) : Cl (partZ τ x z).1 := by
  have hth := there_part hc (z := z) h
  rcases finds_kind h with ⟨h1, ha, hn, hu⟩ | ⟨h2, hr, ht, hk⟩ | ⟨h3, ht⟩
  · simp only [if_pos h1] at hth
    refine ⟨fun q hq hne => ?_, fun q hq hne => ?_⟩
    · rcases (hth q).1 hq with rfl | hq
      · exact ha
      · exact hc.able q hq hne
    · rw [hth]; right
      rcases (hth q).1 hq with rfl | hq
      · exact hu
      · exact hc.closed q hq hne
  · have hk1 : ¬ x.kind = 1 := by omega
    simp only [if_neg hk1, if_pos h2] at hth
    refine ⟨fun q hq hne => hc.able q ((hth q).1 hq).1 hne, fun q hq hne => ?_⟩
    rw [hth]
    have hq2 := ((hth q).1 hq).1
    refine ⟨hc.closed q hq2 hne, fun e => ?_⟩
    exact kid_mem hq2 hne (by rw [e]; exact hk)
  · have hk1 : ¬ x.kind = 1 := by omega
    have hk2 : ¬ x.kind = 2 := by omega
    simp only [if_neg hk1, if_neg hk2] at hth
    exact ⟨fun q hq hne => hc.able q ((hth q).1 hq) hne, fun q hq hne => (hth _).2 (hc.closed q ((hth q).1 hq) hne)⟩
def delIn (p : Bs) (l : List Pz) : Prop := ∃ x ∈ l, x.1.kind = 2 ∧ x.1.path = p
def creIn (p : Bs) (l : List Pz) : Prop := ∃ x ∈ l, x.1.kind = 1 ∧ x.1.path = p
theorem not_del {p : Bs} {x : Pz} {l : List Pz} (h : ¬ delIn p (x :: l)) : ¬ delIn p l := fun ⟨y, hy, e⟩ => h ⟨y, List.mem_cons_of_mem _ hy, e⟩
theorem del_or {p : Bs} {x : Pz} {l : List Pz} (h : delIn p (x :: l)) : (x.1.kind = 2 ∧ x.1.path = p) ∨ delIn p l := by
  obtain ⟨y, hy, e⟩ := h
  rcases List.mem_cons.1 hy with rfl | hy
  · exact .inl e
  · exact .inr ⟨y, hy, e⟩
theorem cre_or {p : Bs} {x : Pz} {l : List Pz} (h : creIn p (x :: l)) : (x.1.kind = 1 ∧ x.1.path = p) ∨ creIn p l := by
  obtain ⟨y, hy, e⟩ := h
  rcases List.mem_cons.1 hy with rfl | hy
  · exact .inl e
  · exact .inr ⟨y, hy, e⟩
def core (n : Nd) : Int × Int × Int × Int := (n.st.cz, n.st.own, n.st.len, n.st.kids)
def gD (n : Nd) : Bs × Int × Int := (n.data, n.st.ver, n.st.mz)
def gA (n : Nd) : List Ac × Int := (n.acl, n.st.av)
def gK (n : Nd) : Int × Int := (n.st.cver, n.st.pz)
theorem nd_same {a b : Nd} (h1 : gD a = gD b) (h2 : gA a = gA b) (h3 : gK a = gK b) (h4 : core a = core b) : a = b := by
  obtain ⟨d, l, ⟨cz, mz, pz, ver, cver, av, own, len, kids⟩⟩ := a
  obtain ⟨d', l', ⟨cz', mz', pz', ver', cver', av', own', len', kids'⟩⟩ := b
  simp [gD, gA, gK, core] at h1 h2 h3 h4
  simp [h1, h2, h3, h4]
/-- One part, at one path that stays. -/
theorem part_stays {τ : Tr} (hc : Cl τ) {x : Pt} {z : Int} (h : findsZ τ x = true) {p : Bs} {n : Nd} (hp : alook τ.nodes p = some n) (hd : ¬ (x.kind = 2 ∧ x.path = p)) : ∃ m, alook (partZ τ x z).1.nodes p = some m ∧ core m = core n := by
  rcases finds_kind h with ⟨h1, ha, hn, hu⟩ | ⟨h2, hr, ht, hk⟩ | ⟨h3, ht⟩
  · rw [create_at h1 ha hu]
    have hne : ¬ p = x.path := fun e => hn (by rw [← e]; exact there_some.2 ⟨n, hp⟩)
    rw [if_neg hne, hp]
    split
    · exact ⟨_, rfl, rfl⟩
    · exact ⟨_, rfl, rfl⟩
  · have ha := hc.able _ ht hr
    rw [erase_at h2 ha]
    have hne : hitT p x.path = false := by
      cases e : hitT p x.path with
      | false => rfl
      | true => exact absurd ⟨h2, (no_below hc ha hk _ p (Nat.le_refl _) (there_some.2 ⟨n, hp⟩) e).symm⟩ hd
    rw [hne, hp]
    split
    · exact ⟨_, rfl, rfl⟩
    · exact ⟨_, rfl, rfl⟩
  · rcases h3 with h3 | h4
    · rw [set_at h3 ht, hp]
      split
      · exact ⟨_, rfl, rfl⟩
      · exact ⟨_, rfl, rfl⟩
    · rw [acl_at h4 ht, hp]
      split
      · exact ⟨_, rfl, rfl⟩
      · exact ⟨_, rfl, rfl⟩
theorem run_stays : ∀ {l : List Pz} {τ : Tr}, Cl τ → soundR τ l → ∀ {p : Bs} {n : Nd}, alook τ.nodes p = some n → ¬ delIn p l → ∃ m, alook (runP τ l).nodes p = some m ∧ core m = core n
  | [], _, _, _, _, n, hp, _ => ⟨n, hp, rfl⟩
  | x :: l, τ, hc, hs, p, n, hp, hd => by
    obtain ⟨m, h1, h2⟩ := part_stays (z := x.2) hc hs.1 hp (fun e => hd ⟨x, List.mem_cons_self, e⟩)
    obtain ⟨k, h3, h4⟩ := run_stays (hc.part hs.1) hs.2 h1 (not_del hd)
    exact ⟨k, h3, h4.trans h2⟩
theorem run_from : ∀ {l : List Pz} {τ : Tr}, Cl τ → soundR τ l → ∀ {p : Bs}, thereT (runP τ l) p → ¬ creIn p l → thereT τ p
  | [], _, _, _, _, h, _ => h
  | x :: l, τ, hc, hs, p, h, hn => by
    have h1 := run_from (hc.part (z := x.2) hs.1) hs.2 h (fun ⟨y, hy, e⟩ => hn ⟨y, List.mem_cons_of_mem _ hy, e⟩)
    rw [there_part hc hs.1] at h1
    split at h1
    · rename_i hk
      rcases h1 with rfl | h1
      · exact absurd ⟨x, List.mem_cons_self, hk, rfl⟩ hn
      · exact h1
    · split at h1
      · exact h1.1
      · exact h1
theorem kid_goes : ∀ {l : List Pz} {τ : Tr}, Cl τ → soundR τ l → ∀ {p : Bs}, thereT τ p → p ≠ [47] → delIn (parentZ p) l → delIn p l
  | [], _, _, _, _, _, _, ⟨_, hy, _⟩ => by cases hy
  | x :: l, τ, hc, hs, p, ht, hr, hd => by
    by_cases hx : x.1.kind = 2 ∧ x.1.path = p
    · exact ⟨x, List.mem_cons_self, hx⟩
    · have h1 : thereT (partZ τ x.1 x.2).1 p := by
        obtain ⟨n, hn⟩ := there_some.1 ht
        obtain ⟨m, hm, -⟩ := part_stays (z := x.2) hc hs.1 hn hx
        exact there_some.2 ⟨m, hm⟩
      rcases del_or hd with ⟨k, e⟩ | hd
      · rcases finds_kind hs.1 with ⟨g, -⟩ | ⟨-, -, -, hk⟩ | ⟨g, -⟩
        · omega
        · rw [e] at hk; exact absurd hk (kid_mem ht hr)
        · omega
      · obtain ⟨y, hy, e⟩ := kid_goes (hc.part hs.1) hs.2 h1 hr hd
        exact ⟨y, List.mem_cons_of_mem _ hy, e⟩
/-! ### The two runs side by side -/
def gOk (g s f : Nd) : Prop := (gD g = gD s ∨ gD g = gD f) ∧ (gA g = gA s ∨ gA g = gA f) ∧ (gK g = gK s ∨ gK g = gK f) ∧ core g = core f
structure Twin (S G F : Tr) (l : List Pz) : Prop where
  a : ∀ p s, alook S.nodes p = some s → ¬ delIn p l → ∃ g f, alook G.nodes p = some g ∧ alook F.nodes p = some f ∧ gOk g s f
  b : ∀ p, thereT G p → (thereT S p ∧ ¬ delIn p l) ∨ creIn p l ∨ delIn p l
theorem Twin.init {S : Tr} (hc : Cl S) {l : List Pz} (hs : soundR S l) : Twin S (runP S l) (runP S l) l := by
  refine ⟨fun p s hp hd => ?_, fun p hp => ?_⟩
  · obtain ⟨m, h1, -⟩ := run_stays hc hs hp hd
    exact ⟨m, m, h1, h1, .inr rfl, .inr rfl, .inr rfl, rfl⟩
  · by_cases h1 : creIn p l
    · exact .inr (.inl h1)
    · by_cases h2 : delIn p l
      · exact .inr (.inr h2)
      · exact .inl ⟨run_from hc hs hp h1, h2⟩
/-- A kid's trace at its parent, in both. -/
theorem gOk.kid {g s f : Nd} (h : gOk g s f) (num z : Int) : gOk (kidN num z g) (kidN num z s) f := ⟨h.1, h.2.1, .inl rfl, h.2.2.2⟩
theorem gOk.set {g s f : Nd} (h : gOk g s f) (d : Bs) (num z : Int) : gOk (setN d num z g) (setN d num z s) f := ⟨.inl rfl, h.2.1, h.2.2.1, h.2.2.2⟩
theorem gOk.acl {g s f : Nd} (h : gOk g s f) (l : List Ac) (num : Int) : gOk (aclN l num g) (aclN l num s) f := ⟨h.1, .inl rfl, h.2.2.1, h.2.2.2⟩
theorem Twin.step {S G F : Tr} (hc : Cl S) {x : Pz} {l : List Pz} (hf : findsZ S x.1 = true) (hs : soundR (partZ S x.1 x.2).1 l) (hF : F = runP (partZ S x.1 x.2).1 l) (h : Twin S G F (x :: l)) : Twin (partZ S x.1 x.2).1 (partZ G x.1 x.2).1 F l := by
  have hth := there_part hc (z := x.2) hf
  have hc' := hc.part (z := x.2) hf
  rcases finds_kind hf with ⟨h1, ha, hn, hu⟩ | ⟨h2, hr, ht, hk⟩ | ⟨h3, ht⟩
  · -- a node is made
    simp only [if_pos h1] at hth
    have hnd : ∀ q, delIn q (x :: l) ↔ delIn q l := fun q => ⟨fun g => (del_or g).resolve_left (by rintro ⟨g, -⟩; omega), fun ⟨y, hy, e⟩ => ⟨y, List.mem_cons_of_mem _ hy, e⟩⟩
    by_cases hG : thereT G (parentZ x.1.path)
    · refine ⟨fun p s hp hd => ?_, fun p hp => ?_⟩
      · rw [create_at h1 ha hu] at hp
        rw [create_at h1 ha hG]
        by_cases e2 : p = x.1.path
        · -- the new one
          have hpu : ¬ p = parentZ x.1.path := fun e => by
            have := parent_lt ha
            rw [← e, ← e2] at this; exact linB.irr _ this
          rw [if_neg hpu, if_pos e2] at hp ⊢
          cases hp
          have hp2 : alook (partZ S x.1 x.2).1.nodes p = some (newN x.1 x.2) := by rw [create_at h1 ha hu, if_neg hpu, if_pos e2]
          obtain ⟨f, hf1, hf2⟩ := run_stays hc' hs hp2 hd
          rw [← hF] at hf1
          exact ⟨_, f, rfl, hf1, .inl rfl, .inl rfl, .inl rfl, hf2.symm⟩
        · rw [if_neg e2] at hp ⊢
          by_cases e1 : p = parentZ x.1.path
          · rw [if_pos e1] at hp ⊢
            obtain ⟨s0, hs0, rfl⟩ := map_some hp
            obtain ⟨g, f, k1, k2, k3⟩ := h.a p s0 hs0 (fun g => hd ((hnd p).1 g))
            rw [k1]
            exact ⟨_, f, rfl, k2, k3.kid _ _⟩
          · rw [if_neg e1] at hp ⊢
            exact h.a p s hp (fun g => hd ((hnd p).1 g))
      · have hp' : p = x.1.path ∨ thereT G p := by
          by_cases e2 : p = x.1.path
          · exact .inl e2
          · right
            unfold thereT at hp ⊢
            rw [create_at h1 ha hG, if_neg e2] at hp
            split at hp
            · simpa using hp
            · exact hp
        by_cases e2 : p = x.1.path
        · by_cases hd : delIn p l
          · exact .inr (.inr hd)
          · exact .inl ⟨(hth p).2 (.inl e2), hd⟩
        · rcases h.b p (hp'.resolve_left e2) with ⟨k1, k2⟩ | k | k
          · exact .inl ⟨(hth p).2 (.inr k1), fun g => k2 ((hnd p).2 g)⟩
          · exact .inr (.inl ((cre_or k).resolve_left (fun g => e2 g.2.symm)))
          · exact .inr (.inr ((hnd p).1 k))
    · -- its parent is not there: it will go
      have hsame : (partZ G x.1 x.2).1 = G := by
        unfold partZ createZ
        rw [if_pos h1, if_neg (fun g => hG g.2)]
      have hdu : delIn (parentZ x.1.path) l := by
        apply Classical.byContradiction
        intro g
        obtain ⟨n, hn2⟩ := there_some.1 hu
        obtain ⟨g0, f, k1, -, -⟩ := h.a _ n hn2 (fun k => g ((hnd _).1 k))
        exact hG (there_some.2 ⟨g0, k1⟩)
      have hdp : delIn x.1.path l := kid_goes hc' hs ((hth _).2 (.inl rfl)) ha.1 hdu
      rw [hsame]
      refine ⟨fun p s hp hd => ?_, fun p hp => ?_⟩
      · rw [create_at h1 ha hu] at hp
        by_cases e2 : p = x.1.path
        · exact absurd (by rw [e2]; exact hdp) hd
        · rw [if_neg e2] at hp
          by_cases e1 : p = parentZ x.1.path
          · exact absurd (by rw [e1]; exact hdu) hd
          · rw [if_neg e1] at hp
            exact h.a p s hp (fun g => hd ((hnd p).1 g))
      · rcases h.b p hp with ⟨k1, k2⟩ | k | k
        · exact .inl ⟨(hth p).2 (.inr k1), fun g => k2 ((hnd p).2 g)⟩
        · rcases cre_or k with ⟨-, e⟩ | k
          · exact .inr (.inr (by rw [← e]; exact hdp))
          · exact .inr (.inl k)
        · exact .inr (.inr ((hnd p).1 k))
  · -- a node is erased
    have hk1 : ¬ x.1.kind = 1 := by omega
    simp only [if_neg hk1, if_pos h2] at hth
    have ha := hc.able _ ht hr
    refine ⟨fun p s hp hd => ?_, fun p hp => ?_⟩
    · have hpt : thereT (partZ S x.1 x.2).1 p := there_some.2 ⟨s, hp⟩
      obtain ⟨hpS, hpne⟩ := (hth p).1 hpt
      have hhit : hitT p x.1.path = false := by
        cases e : hitT p x.1.path with
        | false => rfl
        | true => exact absurd (no_below hc ha hk _ p (Nat.le_refl _) hpS e) hpne
      have hd2 : ¬ delIn p (x :: l) := fun g => (del_or g).elim (fun g => hpne g.2.symm) hd
      rw [erase_at h2 ha, hhit] at hp
      rw [erase_at h2 ha, hhit]
      by_cases e1 : p = parentZ x.1.path
      · rw [if_pos e1] at hp ⊢
        obtain ⟨s0, hs0, rfl⟩ := map_some hp
        obtain ⟨g, f, k1, k2, k3⟩ := h.a p s0 hs0 hd2
        refine ⟨_, f, ?_, k2, k3.kid _ _⟩
        rw [if_neg (by decide), k1]; rfl
      · rw [if_neg e1] at hp ⊢
        obtain ⟨g, f, k1, k2, k3⟩ := h.a p s hp hd2
        exact ⟨g, f, k1, k2, k3⟩
    · have hp' : thereT G p ∧ hitT p x.1.path = false := by
        unfold thereT at hp ⊢
        rw [erase_at h2 ha] at hp
        cases e : hitT p x.1.path with
        | false => rw [e] at hp; split at hp <;> simpa using hp
        | true => rw [e] at hp; split at hp <;> simp at hp
      have hpne : p ≠ x.1.path := fun e => by rw [e, hit_self] at hp'; exact absurd hp'.2 (by decide)
      rcases h.b p hp'.1 with ⟨k1, k2⟩ | k | k
      · exact .inl ⟨(hth p).2 ⟨k1, hpne⟩, not_del k2⟩
      · exact .inr (.inl ((cre_or k).resolve_left (fun g => hpne g.2.symm)))
      · exact .inr (.inr ((del_or k).resolve_left (fun g => hpne g.2.symm)))
  · -- a node is changed
    have hk1 : ¬ x.1.kind = 1 := by omega
    have hk2 : ¬ x.1.kind = 2 := by omega
    simp only [if_neg hk1, if_neg hk2] at hth
    have hnd : ∀ q, delIn q (x :: l) ↔ delIn q l := fun q => ⟨fun g => (del_or g).resolve_left (by rintro ⟨g, -⟩; omega), fun ⟨y, hy, e⟩ => ⟨y, List.mem_cons_of_mem _ hy, e⟩⟩
    have hthG : ∀ q, thereT (partZ G x.1 x.2).1 q ↔ thereT G q := by
      intro q
      by_cases hG : thereT G x.1.path
      · unfold thereT
        rcases h3 with h3 | h4
        · rw [set_at h3 hG]; split <;> simp
        · rw [acl_at h4 hG]; split <;> simp
      · have : (partZ G x.1 x.2).1 = G := by
          unfold partZ
          rw [if_neg hk1, if_neg hk2, if_neg (fun g => hG g.2), if_neg (fun g => hG g.2)]
        rw [this]
    refine ⟨fun p s hp hd => ?_, fun p hp => ?_⟩
    · have hd2 : ¬ delIn p (x :: l) := fun g => hd ((hnd p).1 g)
      have key : ∀ (F1 : Nd → Nd), (∀ q, alook (partZ S x.1 x.2).1.nodes q = if q = x.1.path then (alook S.nodes q).map F1 else alook S.nodes q) → (thereT G x.1.path → ∀ q, alook (partZ G x.1 x.2).1.nodes q = if q = x.1.path then (alook G.nodes q).map F1 else alook G.nodes q) → (∀ g s f, gOk g s f → gOk (F1 g) (F1 s) f) → ∃ g f, alook (partZ G x.1 x.2).1.nodes p = some g ∧ alook F.nodes p = some f ∧ gOk g s f := by
        intro F1 kS kG kF
        rw [kS] at hp
        by_cases e : p = x.1.path
        · rw [if_pos e] at hp
          obtain ⟨s0, hs0, rfl⟩ := map_some hp
          obtain ⟨g, f, k1, k2, k3⟩ := h.a p s0 hs0 hd2
          refine ⟨F1 g, f, ?_, k2, kF _ _ _ k3⟩
          rw [kG (there_some.2 ⟨g, by rw [← e]; exact k1⟩), if_pos e, k1]; rfl
        · rw [if_neg e] at hp
          obtain ⟨g, f, k1, k2, k3⟩ := h.a p s hp hd2
          refine ⟨g, f, ?_, k2, k3⟩
          by_cases hG : thereT G x.1.path
          · rw [kG hG, if_neg e]; exact k1
          · have : (partZ G x.1 x.2).1 = G := by
              unfold partZ
              rw [if_neg hk1, if_neg hk2, if_neg (fun g => hG g.2), if_neg (fun g => hG g.2)]
            rw [this]; exact k1
      rcases h3 with h3 | h4
      · exact key _ (fun q => set_at h3 ht q) (fun hG q => set_at h3 hG q) (fun g s f k => k.set _ _ _)
      · exact key _ (fun q => acl_at h4 ht q) (fun hG q => acl_at h4 hG q) (fun g s f k => k.acl _ _)
    · rcases h.b p ((hthG p).1 hp) with ⟨k1, k2⟩ | k | k
      · exact .inl ⟨(hth p).2 k1, fun g => k2 ((hnd p).2 g)⟩
      · exact .inr (.inl ((cre_or k).resolve_left (by rintro ⟨g, -⟩; exact hk1 g)))
      · exact .inr (.inr ((hnd p).1 k))
theorem Twin.run : ∀ {l : List Pz} {S G F : Tr}, Cl S → soundR S l → F = runP S l → Twin S G F l → ∀ p, alook (runP G l).nodes p = alook F.nodes p
  | [], S, G, F, _, _, hF, h, p => by
    have hF : F = S := hF
    rw [hF] at h ⊢
    rcases e : alook S.nodes p with _ | s
    · rcases e2 : alook G.nodes p with _ | g
      · exact e2
      · rcases h.b p (there_some.2 ⟨g, e2⟩) with ⟨k, -⟩ | ⟨_, hy, -⟩ | ⟨_, hy, -⟩
        · obtain ⟨n, hn⟩ := there_some.1 k
          rw [e] at hn; cases hn
        · cases hy
        · cases hy
    · obtain ⟨g, f, k1, k2, k3, k4, k5, k6⟩ := h.a p s e (fun ⟨_, hy, _⟩ => by cases hy)
      have k3' := k2
      rw [e] at k3'
      cases k3'
      have : g = s := nd_same (k3.elim id id) (k4.elim id id) (k5.elim id id) k6
      subst this
      exact k1
  | x :: l, S, G, F, hc, hs, hF, h, p => Twin.run (hc.part hs.1) hs.2 hF (h.step hc hs.1 hs.2 hF) p
/-! ### Entries as parts -/
def flatE (e : En) : List Pz :=
  if e.x.kind = 6 ∨ e.x.kind = 7 then e.subs.map fun y => (y, e.zx)
  else if 1 ≤ e.x.kind ∧ e.x.kind ≤ 4 then [(e.x, e.zx)] else []
theorem runP_parts (τ : Tr) (z : Int) (l : List Pt) : runP τ (l.map fun y => (y, z)) = (partsZ τ z l).1 := by
  have : ∀ (l : List Pt) (r : Tr × List Ev), runP r.1 (l.map fun y => (y, z)) = (l.foldl (fun r x => ((partZ r.1 x z).1, r.2 ++ (partZ r.1 x z).2)) r).1 := by
    intro l
    induction l with
    | nil => intro r; rfl
    | cons x l ih => intro r; rw [List.map_cons, List.foldl_cons]; exact ih ((partZ r.1 x z).1, r.2 ++ (partZ r.1 x z).2)
  exact this l (τ, [])
theorem runP_app (τ : Tr) (l m : List Pz) : runP τ (l ++ m) = runP (runP τ l) m := by
  induction l generalizing τ with
  | nil => rfl
  | cons x l ih => exact ih _
theorem runP_zx (τ : Tr) (z : Int) (l : List Pz) : (runP (zxT τ z) l).nodes = (runP τ l).nodes := by
  have : runP (zxT τ z) l = zxT (runP τ l) z := by
    induction l generalizing τ with
    | nil => rfl
    | cons x l ih => show runP (partZ (zxT τ z) x.1 x.2).1 l = _; rw [part_zx']; exact ih _
  rw [this]; rfl
theorem runP_ss (τ : Tr) (s : List (Int × (Int × Bs))) (l : List Pz) : (runP (setS τ s) l).nodes = (runP τ l).nodes := by
  have : runP (setS τ s) l = setS (runP τ l) s := by
    induction l generalizing τ with
    | nil => rfl
    | cons x l ih => show runP (partZ (setS τ s) x.1 x.2).1 l = _; rw [part_ss]; exact ih _
  rw [this]; rfl
theorem runP_nodes {τ υ : Tr} (h : τ.nodes = υ.nodes) (l : List Pz) : (runP τ l).nodes = (runP υ l).nodes := by
  have : υ = zxT (setS τ υ.sess) υ.zx := Tr.ext' h.symm rfl rfl
  rw [this, runP_zx, runP_ss]
/-- What an entry of a history does to the nodes of any tree. -/
theorem app_flat {σ : Tr} {K : Int} {e : En} (he : EntH σ e K) (τ : Tr) : (appE τ e).nodes = (runP τ (flatE e)).nodes := by
  unfold flatE
  rcases he.shape with ⟨hs, hp⟩ | ⟨hk, -⟩ | ⟨hk, hc, -⟩ | ⟨hk, -⟩ | ⟨hk, -⟩
  · have hkk := hp.kind
    rw [app_part (.inl hkk.2), if_neg (by omega)]
    by_cases h0 : e.x.kind = 0
    · rw [if_neg (by omega), part_zero h0]; rfl
    · rw [if_pos (by omega)]; rfl
  · rw [if_neg (by omega), if_neg (by omega)]
    show (appE τ e).nodes = τ.nodes
    unfold appE applyZ; dsimp only; rw [if_pos hk]; split <;> rfl
  · rw [app_close hk hc.kinds, if_pos (.inl hk), runP_parts]; rfl
  · rw [app_multi hk, if_pos (.inr hk), runP_parts]; rfl
  · rw [app_err hk, if_neg (by omega), if_neg (by omega)]; rfl
theorem soundR_of {zx : Int} {cl : Bool} : ∀ {l : List Pt} {τ : Tr}, soundL τ zx cl l = true → soundR τ (l.map fun y => (y, zx))
  | [], _, _ => trivial
  | x :: l, τ, h => by
    unfold soundL at h
    simp only [Bool.and_eq_true] at h
    exact ⟨h.1.1, soundR_of h.2⟩
theorem flat_sound {τ : Tr} {K : Int} {e : En} (he : EntH τ e K) : soundR τ (flatE e) := by
  unfold flatE
  split
  · rename_i hk
    exact soundR_of (sound_parts he.sound hk)
  split
  · rename_i h1 h2
    have := he.sound
    unfold soundZ at this
    rw [if_pos (by omega)] at this
    exact ⟨this, trivial⟩
  · trivial
theorem HInv.cl {τ : Tr} {K : Int} (h : HInv τ K) : Cl τ := ⟨fun _ ht hq => h.able ht hq, h.closed⟩
theorem soundR_app : ∀ {l m : List Pz} {τ : Tr}, soundR τ l → soundR (runP τ l) m → soundR τ (l ++ m)
  | [], _, _, _, h => h
  | _ :: _, _, _, h1, h2 => ⟨h1.1, soundR_app h1.2 h2⟩
theorem thereT_nodes {τ υ : Tr} (h : τ.nodes = υ.nodes) (p : Bs) : thereT τ p ↔ thereT υ p := by unfold thereT; rw [h]
theorem finds_nodes {τ υ : Tr} (h : τ.nodes = υ.nodes) (x : Pt) : findsZ τ x = findsZ υ x := by
  have : υ = zxT (setS τ υ.sess) υ.zx := Tr.ext' h.symm rfl rfl
  rw [this]; rfl
theorem soundR_nodes : ∀ {l : List Pz} {τ υ : Tr}, τ.nodes = υ.nodes → soundR τ l → soundR υ l
  | [], _, _, _, _ => trivial
  | x :: l, τ, υ, h, hs => ⟨by rw [← finds_nodes h]; exact hs.1, soundR_nodes (runP_nodes h [x]) hs.2⟩
theorem Cl.nodes {τ υ : Tr} (hc : Cl τ) (h : τ.nodes = υ.nodes) : Cl υ := ⟨fun q hq => hc.able q ((thereT_nodes h q).2 hq), fun q hq hne => (thereT_nodes h _).1 (hc.closed q ((thereT_nodes h q).2 hq) hne)⟩
/-- The end of a history. -/
structure Ends (S : Tr) (l : List En) : Prop where
  K : ∃ K, HInv S K
  each : ∀ i (hi : i < l.length), ∃ K, EntH (appL S (l.take i)) l[i] K
theorem Ends.tail {S : Tr} {e : En} {l : List En} (h : Ends S (e :: l)) : Ends (appE S e) l := by
  obtain ⟨K0, h0⟩ := h.K
  obtain ⟨K1, h1⟩ := h.each 0 (by simp)
  refine ⟨⟨max K0 K1 + 60, ?_⟩, fun i hi => ?_⟩
  · have h1' : EntH S e (max K0 K1) := by
      have h2 : EntH S e K1 := h1
      refine ⟨h2.sound, ?_, h2.ses, h2.cells⟩
      rcases h2.shape with ⟨a, b⟩ | ⟨a, b, c, d, f, g, i⟩ | ⟨a, b, c, d, f, g, i⟩ | ⟨a, b, c, d, f, g⟩ | ⟨a, b, c, d, f, g, i⟩
      · exact .part a (b.more (by omega))
      · exact .opens a b c d f g i
      · exact .close a b (fun j hj => (c j hj).more (by omega)) d f g i
      · exact .multi a (fun j hj => (b j hj).more (by omega)) c d f g
      · exact .error a b c d f g i
    exact (h0.more (by omega)).app h1'
  · obtain ⟨K, hK⟩ := h.each (i + 1) (by simpa using hi)
    exact ⟨K, hK⟩
def flatL (l : List En) : List Pz := l.flatMap flatE
theorem ends_flat : ∀ {l : List En} {S : Tr}, Ends S l → soundR S (flatL l) ∧ (appL S l).nodes = (runP S (flatL l)).nodes ∧ ∀ G : Tr, (appL G l).nodes = (runP G (flatL l)).nodes
  | [], _, _ => ⟨trivial, rfl, fun _ => rfl⟩
  | e :: l, S, h => by
    obtain ⟨K, hK⟩ := h.each 0 (by simp)
    have hK' : EntH S e K := hK
    obtain ⟨h1, h2, h3⟩ := ends_flat h.tail
    have hall : ∀ G : Tr, (appL G (e :: l)).nodes = (runP G (flatL (e :: l))).nodes := fun G => by
      show (appL (appE G e) l).nodes = (runP G (flatE e ++ flatL l)).nodes
      rw [h3 (appE G e), runP_app]
      exact runP_nodes (app_flat hK' G) _
    refine ⟨?_, hall S, hall⟩
    show soundR S (flatE e ++ flatL l)
    exact soundR_app (flat_sound hK') (soundR_nodes (app_flat hK' S) h1)
/-! ### Sessions -/
def sesL (s : List (Int × (Int × Bs))) (l : List En) : List (Int × (Int × Bs)) := l.foldl sesE s
theorem appL_sess : ∀ (l : List En) (τ : Tr), (appL τ l).sess = sesL τ.sess l
  | [], _ => rfl
  | e :: l, τ => by
    show (appL (appE τ e) l).sess = sesL (sesE τ.sess e) l
    rw [appL_sess l, app_sess]
theorem sesL_at : ∀ (l : List En) (i : Int), (∀ s, alook (sesL s l) i = alook s i) ∨ ∃ r, ∀ s, alook (sesL s l) i = r
  | [], i => .inl fun _ => rfl
  | e :: l, i => by
    rcases sesL_at l i with h | ⟨r, h⟩
    · have key : ∀ s, alook (sesL s (e :: l)) i = alook (sesE s e) i := fun s => h (sesE s e)
      by_cases h5 : e.x.kind = 5 ∧ 0 < e.x.own ∧ i = e.x.own
      · exact .inr ⟨some (e.x.num, e.x.data), fun s => by rw [key, sesE_at, if_pos h5]⟩
      · by_cases h6 : e.x.kind = 6 ∧ i = e.x.own
        · exact .inr ⟨none, fun s => by rw [key, sesE_at, if_neg h5, if_pos h6]⟩
        · exact .inl fun s => by rw [key, sesE_at, if_neg h5, if_neg h6]
    · exact .inr ⟨r, fun s => h (sesE s e)⟩
theorem sesL_again (s : List (Int × (Int × Bs))) (l : List En) (i : Int) : alook (sesL (sesL s l) l) i = alook (sesL s l) i := by
  rcases sesL_at l i with h | ⟨r, h⟩
  · rw [h]
  · rw [h, h]
theorem appL_zx : ∀ (l : List En) (τ : Tr), (appL τ l).zx = (l.getLast?.map (·.zx)).getD τ.zx := by
  intro l
  induction l using snocInd with
  | h0 => intro τ; rfl
  | h1 l e _ => intro τ; rw [appL_snoc, app_zx]; simp
theorem EnSz.ok {τ : Tr} {N : Nat} (h : τ.Ok N) {e : En} (he : EnSz e) : (appE τ e).Ok (N + 61) :=
  (h.apply e.zx e.x e.subs (by have := he.acl; omega) (fun y hy => by have := (he.each y hy).1; omega)).more (by have := he.few; omega)
theorem run_ok : ∀ {l : List En} {τ : Tr} {N : Nat}, τ.Ok N → (∀ e ∈ l, EnSz e) → (appL τ l).Ok (N + 61 * l.length)
  | [], _, _, h, _ => h
  | e :: l, τ, N, h, hl => (run_ok ((hl e List.mem_cons_self).ok h) (fun x hx => hl x (List.mem_cons_of_mem _ hx))).more (by rw [List.length_cons]; omega)
/-- The law. -/
theorem again {S : Tr} {l : List En} (h : Ends S l) (hsz : ∀ e ∈ l, EnSz e) : appL (appL S l) l = appL S l := by
  obtain ⟨K, hK⟩ := h.K
  obtain ⟨h1, h2, h3⟩ := ends_flat h
  have hF := run_ok hK.ok hsz
  have hG := run_ok hF hsz
  refine Tr.ext' (sorted_same linB hG.sorted hF.sorted fun p => ?_) (sorted_same linI hG.ssorted hF.ssorted fun i => ?_) ?_
  · rw [h3, h2, runP_nodes h2]
    exact Twin.run hK.cl h1 rfl (Twin.init hK.cl h1) p
  · rw [appL_sess, appL_sess]
    exact sesL_again _ _ _
  · rw [appL_zx, appL_zx]
    cases l.getLast? <;> rfl
theorem Hist.ends {z0 : Int} {es : List En} {τ : Tr} (h : Hist z0 es τ) {k : Nat} (hk : k ≤ es.length) : Ends (appL newT (es.take k)) (es.drop k) := by
  refine ⟨⟨_, (h.take k hk).inv⟩, fun i hi => ?_⟩
  rw [List.length_drop] at hi
  have h1 := (h.at (k + i) (by omega)).1
  refine ⟨60 * (k + i : Nat), ?_⟩
  rw [List.getElem_drop]
  have e : appL (appL newT (es.take k)) ((es.drop k).take i) = appL newT (es.take (k + i)) := by
    unfold appL
    rw [← List.foldl_append, List.take_add]
  rw [e]; exact h1
/-- In a history: from any entry on. -/
theorem Hist.again {z0 : Int} {es : List En} {τ : Tr} (h : Hist z0 es τ) {k : Nat} (hk : k ≤ es.length) : appL τ (es.drop k) = τ := by
  have hsz : ∀ e ∈ es.drop k, EnSz e := fun e he => by
    obtain ⟨i, hi, rfl⟩ := List.mem_iff_getElem.1 (List.mem_of_mem_drop he)
    exact (h.at i hi).1.shape.sz
  have e : appL (appL newT (es.take k)) (es.drop k) = τ := by
    unfold appL
    rw [← List.foldl_append, List.take_append_drop]
    exact h.tree.symm
  have := Go.Proofs.YtnnbelmpbmfdnaaGreatDoor.again (h.ends hk) hsz
  rw [e] at this; exact this
theorem Hist.againOk {z0 : Int} {es : List En} {τ : Tr} (h : Hist z0 es τ) (k i : Nat) : (appL τ ((es.drop k).take i)).Ok (60 + 61 * es.length) := by
  refine (run_ok h.inv.ok (fun e he => ?_)).more (by rw [List.length_take, List.length_drop]; omega)
  obtain ⟨j, hj, rfl⟩ := List.mem_iff_getElem.1 (List.mem_of_mem_drop (List.mem_of_mem_take he))
  exact (h.at j hj).1.shape.sz
end Go.Proofs.YtnnbelmpbmfdnaaGreatDoor

/-
  DERIVED: THE SHELF's CONTRACTS AT THIS DUMP, IN PLAIN WORDS (tools/lay-plain.mjs out of 'YtnnbelmpbmfdnaaGreatDoorLayC.lean', which tools/lay-shelf.mjs wrote): THE SAME DECLARATIONS UNDER THE SAME NAMES: 'import', 'namespace', 'open', 'def', 'theorem' AND NOTHING ELSE: no command of the shelf's: FOR A HAND-IN. Each laying: the table of numbers ('.._ren') and one theorem, a field a fact of the dump's own or the kernel's comparison; each contract: ONE APPLICATION.
-/

namespace Go.Proofs
open Go.Shelf
def Tryz.cloneI_ren : Go.Shelf.Ren := ⟨fun | 5 => 57 | 7 => 102 | n => n, fun | 23 => 108 | 25 => 3 | 3 => 112 | 4 => 4 | 20 => 20 | n => n, fun | n => n⟩
theorem Tryz.cloneI : Go.Proofs.SlLaysW.n5 Tryz.prog Tryz.cloneI_ren := {
  mixed := by kernel_rfl
  f5 := ⟨Tryz.f57.name, by decide, Tryz.func57.trans (congrArg some (by kernel_rfl))⟩
  f7 := Tryz.func102.trans (congrArg some (by kernel_rfl))
  t4 := Tryz.underlying4
  a4 := Tryz.isAgg4
  z4 := Tryz.sizeOf4
  v4 := Tryz.zeroValue4
  t20 := Tryz.underlying20
  a20 := Tryz.isAgg20
  z20 := Tryz.sizeOf20
  v20 := Tryz.zeroValue20
  t23 := Tryz.underlying108
  a23 := Tryz.isAgg108
  z23 := Tryz.sizeOf108
  v23 := Tryz.zeroValue108 }
end Go.Proofs

/- Own work, by program: package tree: Clone: walked. -/
namespace Go.Proofs.YtnnbelmpbmfdnaaGreatDoor
open Go
/-- The shelf's maps.Clone: a new block with the old entries. -/
theorem trclonem_spec (r : Nat) (ents : List (Value × Value)) : Fn Tryz.prog 57 #[.map (some r)] [mapR r ents] fun v L => ∃ r', v = .map (some r') ∧ L = [mapR r ents, mapR r' ents] := by
  intro F w hs
  obtain ⟨h1, hle, es, clock, hb, he, hc, hn⟩ := sep_head (show sep (mapR r ents :: F) _ from hs)
  have hr : w.heap[r]? = some (.map es.toArray clock) := hle _ _ hb
  refine (AnyW.maps_Clone Tryz.cloneI r es.toArray clock w hr).mono ?_
  rintro e w' ⟨rfl, rfl⟩
  refine ⟨_, [mapR r ents, mapR w.heap.size ents], ⟨_, rfl, rfl⟩, rfl, ?_, Keeps.new w _⟩
  have h2 := St.new hs (.map es.toArray clock)
  exact sep_swap (sep_imp (fun _ hp => ⟨es, clock, hp, he, hc, hn⟩) h2)
theorem OpSpec.makeMapN {P : Program} {E : Env} {ty t : TypeId} {k e : TypeId} {x : Operand} {n : Int} (ht : P.underlying t = some (.map k e)) (hx : ev E x = some (vint n)) : OpSpec P ⟨none, .makeMap t (some x), ty, "", #[], none⟩ E [] fun u L' => ∃ b, u = .map (some b) ∧ L' = [pt b (.map #[] 0)] := by
  intro ρ w F ha hs
  have : (execOp ρ ⟨none, .makeMap t (some x), ty, "", #[], none⟩).run P w = .ok (.value (.map (some w.heap.size))) { w with heap := w.heap.push (.map #[] 0) } := by
    refine run_v ?_
    show (Instr.makeMap t (some (ρ x))).run P w = _
    rw [ha x _ hx]
    unfold Instr.makeMap
    simp [run_underlying ht, go_sem, asInt, Result.andThen]
  unfold Runs; rw [this]
  exact ⟨_, ⟨_, rfl, rfl⟩, St.new (L := F) hs _, Keeps.new _ _⟩
theorem clone_new {m ss rest : NmM} {x : Bs × Nm} (hn : (m.map (·.1)).Nodup) (hp : m.Perm (ss ++ x :: rest)) : alook ss x.1 = none := by
  rw [al_none]
  intro h
  have h1 : ((ss ++ x :: rest).map (·.1)).Nodup := (hp.map _).nodup_iff.1 hn
  rw [List.map_append, List.map_cons] at h1
  exact (List.nodup_append.1 h1).2.2 _ h _ List.mem_cons_self rfl
theorem al_snoc {β : Type} : ∀ (l : List (Bs × β)) (x : Bs × β) (p : Bs), alook l x.1 = none → alook (l ++ [x]) p = if p = x.1 then some x.2 else alook l p
  | [], x, p, _ => by simp only [List.nil_append, alook]
  | y :: l, x, p, h => by
    simp only [List.cons_append, alook] at h ⊢
    by_cases e : p = y.1
    · rw [if_pos e]
      have : ¬ p = x.1 := fun g => by rw [if_pos (g.symm.trans e)] at h; cases h
      rw [if_neg this, if_pos e]
    · rw [if_neg e, if_neg e]
      by_cases e2 : x.1 = y.1
      · rw [if_pos e2] at h; cases h
      · rw [if_neg e2] at h
        exact al_snoc l x p h
theorem clone_step {m2 ss : NmM} {x : Bs × Nm} {y : Nm} (h : ∀ p, (alook m2 p).map (fun y : Nm => y.2.2) = (alook ss p).map (fun y : Nm => y.2.2)) (hx : alook ss x.1 = none) (hy : y.2.2 = x.2.2.2) (p : Bs) : (alook (aset m2 x.1 y) p).map (fun y : Nm => y.2.2) = (alook (ss ++ [x]) p).map (fun y : Nm => y.2.2) := by
  rw [al_aset, al_snoc ss x p hx]
  split
  · simp [hy]
  · exact h p
set_option maxRecDepth 100000 in
theorem trclone_spec (t : Nat) (τ : Tr) (N : Nat) (ho : τ.Ok N) (hN : N ≤ 1099511627776) : Fn Tryz.prog 24 #[vptr t] [treeR t τ] fun v L => ∃ c, v = vptr c ∧ L = [treeR c τ, treeR t τ] := by
 refine Fn.intro (vs := [vptr t]) Tryz.func24 rfl rfl ?_
 intro F W
 refine G.trOpen (τ := τ) (by (repeat' constructor)) fun rn rs m s hI => ?_
 have hlen := hI.len ho
 have hfew := ho.few
 refine G.seq (G.region (G.q (Quiet.assign rfl) rfl (G.nil (G.then_n (G.seq ?_)))))
 refine G.draw [5, 10, 16] [[0, 1, 2, 3, 4, 6, 7, 8, 9, 11, 12, 13, 14, 5, 10], [15, 16], [17]] mixed (by kernel_rfl) ?_
 refine Phases.go [ptc t _ _] (by (repeat' constructor)) ?_
 refine D.qw [1, 2, 3, 4, 5, 10] rfl (by kernel_rfl) (Quiet.move rfl) ?_
 refine D.qw [2, 3, 4, 5, 10] rfl (by kernel_rfl) (Quiet.nilp rfl) ?_
 refine D.qw [3, 4, 5, 10] rfl (by kernel_rfl) (Quiet.fieldAddr rfl fo_110_0) ?_
 refine D.qw [4, 5, 10] rfl (by kernel_rfl) (Quiet.load rfl ag_107 (by (repeat' constructor)) (rfl)) ?_
 refine D.qw [5, 10] rfl (by kernel_rfl) (Quiet.maplen rfl Tryz.underlying107 rfl (by (repeat' constructor))) ?_
 refine D.q rfl (by kernel_rfl) (Quiet.move rfl) ?_
 refine D.q rfl (by kernel_rfl) (Quiet.nilp rfl) ?_
 refine D.q rfl (by kernel_rfl) (Quiet.fieldAddr rfl fo_110_1) ?_
 refine D.q rfl (by kernel_rfl) (Quiet.load rfl ag_108 (by (repeat' constructor)) (rfl)) ?_
 refine D.q rfl (by kernel_rfl) (Quiet.move rfl) ?_
 refine D.q rfl (by kernel_rfl) (Quiet.nilp rfl) ?_
 refine D.q rfl (by kernel_rfl) (Quiet.fieldAddr rfl fo_110_2) ?_
 refine D.q rfl (by kernel_rfl) (Quiet.load rfl ag_3 (by (repeat' constructor)) (rfl)) ?_
 refine D.h2 (k := 10) rfl rfl (by kernel_rfl) rfl (OpSpec.makeMapN Tryz.underlying107 rfl) (by (repeat' constructor)) (OpSpec.call Tryz.func57 rfl rfl (vs := [_]) rfl (trclonem_spec rs (ssE s))) (by (repeat' constructor)) ?nx15 ?nx16
 ·rintro v L' ⟨rn2, rfl, rfl⟩
  refine D.h rfl (by kernel_rfl) (OpSpec.call Tryz.func57 rfl rfl (vs := [_]) rfl (trclonem_spec rs (ssE s))) (by (repeat' constructor)) ?nx18
  rintro v L' ⟨rs2, rfl, rfl⟩
  refine D.ph ?_
  refine Phases.go [] (by (repeat' constructor)) ?_
  refine D.qw [16] rfl (by kernel_rfl) (Quiet.to (v' := .agg ([.map (some rn2), .map (some rs2), vint τ.zx] : List Value).toArray) (Quiet.build (us := [(0, _), (1, _), (2, _)]) fl_110 ze_110 rfl rfl (by simp [isCell])) rfl) ?_
  refine D.h rfl (by kernel_rfl) (OpSpec.box rfl) (by (repeat' constructor)) ?nx21
  rintro v L' ⟨c, rfl, rfl⟩
  refine D.ph ?_
  refine Phases.go [] (by (repeat' constructor)) ?_
  refine D.qw [] rfl (by kernel_rfl) (Quiet.assign rfl) ?_
  refine D.ph (Phases.fin ?_)
  refine G.ptCast (b := c) (l' := [.map (some rn2), .map (some rs2), vint τ.zx]) (by (repeat' constructor)) rfl ?_
  refine G.fold (p := mapR rn2 []) (.cons (p := pt rn2 (.map #[] 0)) (by (repeat' constructor)) .nil) (fun h hp => mapR_new (sep_pt hp)) ?_
  refine G.add (p := bigR inN []) big_nil (G.then_n (G.seq (G.seq (G.region (G.q (Quiet.move rfl) rfl (G.q (Quiet.nilp rfl) rfl (G.q (Quiet.fieldAddr rfl fo_110_0) rfl ?_)))))))
  refine G.q (Quiet.load rfl ag_107 (by (repeat' constructor)) (rfl)) rfl ?_
  refine G.op (OpSpec.range (f := fun x : Bs × Nm => (vstr x.1, ndV x.2)) (m := m) rfl Tryz.underlying107 ?he27) (by (repeat' constructor)) rfl ?nx28
  case he27 => rfl
  rintro v L' ⟨it, rfl, rfl⟩
  refine G.nil (G.then_n (G.block ?_))
  refine G.loopK (ι := NmM × NmM) (fun q E => E) (fun q => [rangeR (fun x : Bs × Nm => (vstr x.1, ndV x.2)) it rn m q.1, bigR inN m, mapR rn2 (ndE q.2), bigR inN q.2, ptc c [.map (some rn2), .map (some rs2), vint τ.zx] 110]) (fun q => ((q.2.map (·.1)).Nodup ∧ ∀ p, (alook q.2 p).map (fun y : Nm => y.2.2) = (alook q.1 p).map (fun y : Nm => y.2.2)) ∧ ∃ rest, m.Perm (q.1 ++ rest)) (fun q => m.length - q.1.length) ([], []) (ts := [2, 3, 27]) (.cons rfl (.cons rfl (.cons rfl (.nil)))) (⟨⟨by simp, fun p => rfl⟩, m, .refl _⟩) ⟨rfl, rfl, rfl, trivial⟩ (by (repeat' constructor)) ?_
  rintro ⟨ss, m2⟩ ⟨⟨hnd2, hm2⟩, rest, hm⟩
  dsimp only
  dsimp only at hnd2 hm2 hm
  have hml := hm.length_eq
  rw [List.length_append] at hml
  refine G.seq (G.region ?_)
  refine G.op (OpSpec.next rfl) (by (repeat' constructor)) rfl ?nx30
  rintro v L' (⟨rfl, hp3, rfl⟩ | ⟨x, rest3, rfl, hp3, rfl⟩)
  ·refine G.rangeDone (by (repeat' constructor)) ?_
   refine G.q (Quiet.extract rfl rfl) rfl (G.nil (G.then_n (G.seq (G.condF rfl (G.exit (G.then_e (G.then_e (G.blk_e (G.then_n (G.seq (G.region (G.q (Quiet.move rfl) rfl (G.q (Quiet.assign rfl) rfl (G.nil (G.then_n (G.ret ?_))))))))))))))))
   have hI2 : TrI τ m2 s := ⟨hnd2, fun p => by rw [hm2, ← al_perm hp3 hI.keys p]; exact hI.look p, hI.skeys, hI.slook⟩
   refine G.trFold (t := c) (rn := rn2) (rs := rs2) (τ := τ) hI2 (by (repeat' constructor)) rfl rfl rfl ?_
   refine G.trFold (t := t) (τ := τ) hI (by (repeat' constructor)) rfl rfl rfl ?_
   exact G.done (l := [.tmp 2]) rfl rfl ⟨_, rfl, rfl⟩ (by (repeat' constructor)) (by (repeat' constructor))
  ·refine G.q (Quiet.extract rfl rfl) rfl (G.nil (G.then_n (G.seq (G.condT rfl (G.skip (G.then_n (G.block (G.seq (G.region ?_)))))))))
   refine G.q (Quiet.entryE (v := .tuple #[vstr x.1, ndV x.2]) rfl (by (repeat' constructor)) rfl) rfl ?_
   refine G.q (Quiet.extract rfl rfl) rfl (G.q (Quiet.extract rfl rfl) rfl (G.q (Quiet.assign rfl) rfl (G.q (Quiet.assign rfl) rfl (G.nil ?_))))
   have hxm : x ∈ m := hp3.mem_iff.2 (by simp)
   have hal : alook m x.1 = some x.2 := al_of_mem hI.keys hxm
   have hxa := hI.acl ho hal
   refine G.bigTake hal (by (repeat' constructor)) ?_
   refine G.ndOpen (x := (x.1, x.2)) (by (repeat' constructor)) ?_
   refine G.then_n ?_
   refine G.draw [13, 19, 20] [[0, 1, 2, 3, 4, 5, 6, 7, 8, 9, 10, 11, 12, 14, 15, 16, 17, 13, 18, 19], [20]] mixed (by kernel_rfl) ?_
   refine Phases.go [ptc x.2.1 _ _, ptc c _ _] (by (repeat' constructor)) ?_
   refine D.q rfl (by kernel_rfl) (Quiet.move rfl) ?_
   refine D.q rfl (by kernel_rfl) (Quiet.nilp rfl) ?_
   refine D.q rfl (by kernel_rfl) (Quiet.fieldAddr rfl fo_110_0) ?_
   refine D.q rfl (by kernel_rfl) (Quiet.load rfl ag_107 (by (repeat' constructor)) (rfl)) ?_
   refine D.q rfl (by kernel_rfl) (Quiet.move rfl) ?_
   refine D.q rfl (by kernel_rfl) (Quiet.move rfl) ?_
   refine D.q rfl (by kernel_rfl) (Quiet.nilp rfl) ?_
   refine D.q rfl (by kernel_rfl) (Quiet.fieldAddr rfl fo_106_0) ?_
   refine D.q rfl (by kernel_rfl) (Quiet.load rfl ag_9 (by (repeat' constructor)) (rfl)) ?_
   refine D.qw [10, 11, 12, 13, 18, 19] rfl (by kernel_rfl) (Quiet.move rfl) ?_
   refine D.qw [11, 12, 13, 18, 19] rfl (by kernel_rfl) (Quiet.nilp rfl) ?_
   refine D.qw [12, 13, 18, 19] rfl (by kernel_rfl) (Quiet.fieldAddr rfl fo_106_1) ?_
   refine D.qw [13, 18, 19] rfl (by kernel_rfl) (Quiet.load rfl ag_34 (by (repeat' constructor)) (rfl)) ?_
   refine D.q rfl (by kernel_rfl) (Quiet.move rfl) ?_
   refine D.q rfl (by kernel_rfl) (Quiet.nilp rfl) ?_
   refine D.q rfl (by kernel_rfl) (Quiet.fieldAddr rfl fo_106_2) ?_
   refine D.q rfl (by kernel_rfl) (Quiet.loadAs (vs := stC x.2.2.2.st) rfl ag_43 (by (repeat' constructor)) (by simp [ndC]) rfl) ?_
   refine D.h rfl (by kernel_rfl) (OpSpec.call Tryz.func58 rfl rfl (vs := [_]) rfl (aclone_spec x.2.2.1 x.2.2.2.acl _ (fun h hp => hp) hxa)) (by (repeat' constructor)) ?nx52
   rintro v L' ⟨⟨a5, c5, rfl⟩, rfl⟩
   refine D.qw [19] rfl (by kernel_rfl) (Quiet.buildN (pl := [(0, 1), (1, 1), (2, 9)]) (us := [(0, vstr x.2.2.2.data), (1, .slice a5 x.2.2.2.acl.length c5), (2, .agg (stC x.2.2.2.st).toArray)]) (cells := ndC (.slice a5 x.2.2.2.acl.length c5) x.2.2.2) Tryz.underlying106 (by kernel_rfl) ze_106 rfl (fill_node _ _ _ _ _ _ _ _ _ _ _ _ _)) ?_
   refine D.h rfl (by kernel_rfl) (OpSpec.box rfl) (by (repeat' constructor)) ?nx55
   rintro v L' ⟨tn, rfl, rfl⟩
   refine D.ph ?_
   refine Phases.go [] (by (repeat' constructor)) ?_
   refine D.h rfl (by kernel_rfl) (OpSpec.mapSet (m := m2) (enc := ndV) (v := ((tn, (.slice a5 x.2.2.2.acl.length c5, x.2.2.2)) : Nm)) (k := x.1) (KeyLaw.str Tryz.underlying9) rfl rfl rfl Tryz.underlying107 ?he57) (by (repeat' constructor)) ?nx58
   case he57 => rfl
   rintro v L' rfl
   refine D.ph (Phases.fin (G.blk_n (G.then_n ?_)))
   have hl := hp3.length_eq
   simp at hl
   refine G.ndFold (x := (x.1, x.2)) (by (repeat' constructor)) rfl rfl rfl rfl ?_
   refine G.bigPut (f := inN) (m := m) x.1 x.2 rfl (by (repeat' constructor)) ?_
   rw [aset_self hal]
   refine G.toRd (v := .slice a5 x.2.2.2.acl.length c5) (by (repeat' constructor)) ?_
   refine G.ndFold (x := (x.1, ((tn, (.slice a5 x.2.2.2.acl.length c5, x.2.2.2)) : Nm))) (by (repeat' constructor)) rfl rfl rfl rfl ?_
   have hnx : alook ss x.1 = none := clone_new hI.keys hp3
   have hn2 : alook m2 x.1 = none := by have h := hm2 x.1; rw [hnx] at h; simpa using h
   have hdel := adel_none hn2
   refine G.bigPut (f := inN) (m := m2) x.1 ((tn, (.slice a5 x.2.2.2.acl.length c5, x.2.2.2)) : Nm) rfl (by rw [hdel]; (repeat' constructor)) ?_
   exact G.roundK ((ss ++ [x], aset m2 x.1 ((tn, (.slice a5 x.2.2.2.acl.length c5, x.2.2.2)) : Nm))) (⟨⟨nodup_aset hnd2 _ _, clone_step hm2 hnx rfl⟩, _, by simpa using hp3⟩) (by dsimp only; simp; omega) ⟨rfl, rfl, rfl, trivial⟩ (by (repeat' constructor)) (by ((repeat (apply Have.cons; (repeat (first | exact Pick.here | apply Pick.there)))); apply Have.base; repeat' constructor))
 ·rintro v L' ⟨rs2, rfl, rfl⟩
  refine D.h rfl (by kernel_rfl) (OpSpec.makeMapN Tryz.underlying107 rfl) (by (repeat' constructor)) ?nx60
  rintro v L' ⟨rn2, rfl, rfl⟩
  refine D.ph ?_
  refine Phases.go [] (by (repeat' constructor)) ?_
  refine D.qw [16] rfl (by kernel_rfl) (Quiet.to (v' := .agg ([.map (some rn2), .map (some rs2), vint τ.zx] : List Value).toArray) (Quiet.build (us := [(0, _), (1, _), (2, _)]) fl_110 ze_110 rfl rfl (by simp [isCell])) rfl) ?_
  refine D.h rfl (by kernel_rfl) (OpSpec.box rfl) (by (repeat' constructor)) ?nx63
  rintro v L' ⟨c, rfl, rfl⟩
  refine D.ph ?_
  refine Phases.go [] (by (repeat' constructor)) ?_
  refine D.qw [] rfl (by kernel_rfl) (Quiet.assign rfl) ?_
  refine D.ph (Phases.fin ?_)
  refine G.ptCast (b := c) (l' := [.map (some rn2), .map (some rs2), vint τ.zx]) (by (repeat' constructor)) rfl ?_
  refine G.fold (p := mapR rn2 []) (.cons (p := pt rn2 (.map #[] 0)) (by (repeat' constructor)) .nil) (fun h hp => mapR_new (sep_pt hp)) ?_
  refine G.add (p := bigR inN []) big_nil (G.then_n (G.seq (G.seq (G.region (G.q (Quiet.move rfl) rfl (G.q (Quiet.nilp rfl) rfl (G.q (Quiet.fieldAddr rfl fo_110_0) rfl ?_)))))))
  refine G.q (Quiet.load rfl ag_107 (by (repeat' constructor)) (rfl)) rfl ?_
  refine G.op (OpSpec.range (f := fun x : Bs × Nm => (vstr x.1, ndV x.2)) (m := m) rfl Tryz.underlying107 ?he69) (by (repeat' constructor)) rfl ?nx70
  case he69 => rfl
  rintro v L' ⟨it, rfl, rfl⟩
  refine G.nil (G.then_n (G.block ?_))
  refine G.loopK (ι := NmM × NmM) (fun q E => E) (fun q => [rangeR (fun x : Bs × Nm => (vstr x.1, ndV x.2)) it rn m q.1, bigR inN m, mapR rn2 (ndE q.2), bigR inN q.2, ptc c [.map (some rn2), .map (some rs2), vint τ.zx] 110]) (fun q => ((q.2.map (·.1)).Nodup ∧ ∀ p, (alook q.2 p).map (fun y : Nm => y.2.2) = (alook q.1 p).map (fun y : Nm => y.2.2)) ∧ ∃ rest, m.Perm (q.1 ++ rest)) (fun q => m.length - q.1.length) ([], []) (ts := [2, 3, 27]) (.cons rfl (.cons rfl (.cons rfl (.nil)))) (⟨⟨by simp, fun p => rfl⟩, m, .refl _⟩) ⟨rfl, rfl, rfl, trivial⟩ (by (repeat' constructor)) ?_
  rintro ⟨ss, m2⟩ ⟨⟨hnd2, hm2⟩, rest, hm⟩
  dsimp only
  dsimp only at hnd2 hm2 hm
  have hml := hm.length_eq
  rw [List.length_append] at hml
  refine G.seq (G.region ?_)
  refine G.op (OpSpec.next rfl) (by (repeat' constructor)) rfl ?nx72
  rintro v L' (⟨rfl, hp3, rfl⟩ | ⟨x, rest3, rfl, hp3, rfl⟩)
  ·refine G.rangeDone (by (repeat' constructor)) ?_
   refine G.q (Quiet.extract rfl rfl) rfl (G.nil (G.then_n (G.seq (G.condF rfl (G.exit (G.then_e (G.then_e (G.blk_e (G.then_n (G.seq (G.region (G.q (Quiet.move rfl) rfl (G.q (Quiet.assign rfl) rfl (G.nil (G.then_n (G.ret ?_))))))))))))))))
   have hI2 : TrI τ m2 s := ⟨hnd2, fun p => by rw [hm2, ← al_perm hp3 hI.keys p]; exact hI.look p, hI.skeys, hI.slook⟩
   refine G.trFold (t := c) (rn := rn2) (rs := rs2) (τ := τ) hI2 (by (repeat' constructor)) rfl rfl rfl ?_
   refine G.trFold (t := t) (τ := τ) hI (by (repeat' constructor)) rfl rfl rfl ?_
   exact G.done (l := [.tmp 2]) rfl rfl ⟨_, rfl, rfl⟩ (by (repeat' constructor)) (by (repeat' constructor))
  ·refine G.q (Quiet.extract rfl rfl) rfl (G.nil (G.then_n (G.seq (G.condT rfl (G.skip (G.then_n (G.block (G.seq (G.region ?_)))))))))
   refine G.q (Quiet.entryE (v := .tuple #[vstr x.1, ndV x.2]) rfl (by (repeat' constructor)) rfl) rfl ?_
   refine G.q (Quiet.extract rfl rfl) rfl (G.q (Quiet.extract rfl rfl) rfl (G.q (Quiet.assign rfl) rfl (G.q (Quiet.assign rfl) rfl (G.nil ?_))))
   have hxm : x ∈ m := hp3.mem_iff.2 (by simp)
   have hal : alook m x.1 = some x.2 := al_of_mem hI.keys hxm
   have hxa := hI.acl ho hal
   refine G.bigTake hal (by (repeat' constructor)) ?_
   refine G.ndOpen (x := (x.1, x.2)) (by (repeat' constructor)) ?_
   refine G.then_n ?_
   refine G.draw [13, 19, 20] [[0, 1, 2, 3, 4, 5, 6, 7, 8, 9, 10, 11, 12, 14, 15, 16, 17, 13, 18, 19], [20]] mixed (by kernel_rfl) ?_
   refine Phases.go [ptc x.2.1 _ _, ptc c _ _] (by (repeat' constructor)) ?_
   refine D.q rfl (by kernel_rfl) (Quiet.move rfl) ?_
   refine D.q rfl (by kernel_rfl) (Quiet.nilp rfl) ?_
   refine D.q rfl (by kernel_rfl) (Quiet.fieldAddr rfl fo_110_0) ?_
   refine D.q rfl (by kernel_rfl) (Quiet.load rfl ag_107 (by (repeat' constructor)) (rfl)) ?_
   refine D.q rfl (by kernel_rfl) (Quiet.move rfl) ?_
   refine D.q rfl (by kernel_rfl) (Quiet.move rfl) ?_
   refine D.q rfl (by kernel_rfl) (Quiet.nilp rfl) ?_
   refine D.q rfl (by kernel_rfl) (Quiet.fieldAddr rfl fo_106_0) ?_
   refine D.q rfl (by kernel_rfl) (Quiet.load rfl ag_9 (by (repeat' constructor)) (rfl)) ?_
   refine D.qw [10, 11, 12, 13, 18, 19] rfl (by kernel_rfl) (Quiet.move rfl) ?_
   refine D.qw [11, 12, 13, 18, 19] rfl (by kernel_rfl) (Quiet.nilp rfl) ?_
   refine D.qw [12, 13, 18, 19] rfl (by kernel_rfl) (Quiet.fieldAddr rfl fo_106_1) ?_
   refine D.qw [13, 18, 19] rfl (by kernel_rfl) (Quiet.load rfl ag_34 (by (repeat' constructor)) (rfl)) ?_
   refine D.q rfl (by kernel_rfl) (Quiet.move rfl) ?_
   refine D.q rfl (by kernel_rfl) (Quiet.nilp rfl) ?_
   refine D.q rfl (by kernel_rfl) (Quiet.fieldAddr rfl fo_106_2) ?_
   refine D.q rfl (by kernel_rfl) (Quiet.loadAs (vs := stC x.2.2.2.st) rfl ag_43 (by (repeat' constructor)) (by simp [ndC]) rfl) ?_
   refine D.h rfl (by kernel_rfl) (OpSpec.call Tryz.func58 rfl rfl (vs := [_]) rfl (aclone_spec x.2.2.1 x.2.2.2.acl _ (fun h hp => hp) hxa)) (by (repeat' constructor)) ?nx94
   rintro v L' ⟨⟨a5, c5, rfl⟩, rfl⟩
   refine D.qw [19] rfl (by kernel_rfl) (Quiet.buildN (pl := [(0, 1), (1, 1), (2, 9)]) (us := [(0, vstr x.2.2.2.data), (1, .slice a5 x.2.2.2.acl.length c5), (2, .agg (stC x.2.2.2.st).toArray)]) (cells := ndC (.slice a5 x.2.2.2.acl.length c5) x.2.2.2) Tryz.underlying106 (by kernel_rfl) ze_106 rfl (fill_node _ _ _ _ _ _ _ _ _ _ _ _ _)) ?_
   refine D.h rfl (by kernel_rfl) (OpSpec.box rfl) (by (repeat' constructor)) ?nx97
   rintro v L' ⟨tn, rfl, rfl⟩
   refine D.ph ?_
   refine Phases.go [] (by (repeat' constructor)) ?_
   refine D.h rfl (by kernel_rfl) (OpSpec.mapSet (m := m2) (enc := ndV) (v := ((tn, (.slice a5 x.2.2.2.acl.length c5, x.2.2.2)) : Nm)) (k := x.1) (KeyLaw.str Tryz.underlying9) rfl rfl rfl Tryz.underlying107 ?he99) (by (repeat' constructor)) ?nx100
   case he99 => rfl
   rintro v L' rfl
   refine D.ph (Phases.fin (G.blk_n (G.then_n ?_)))
   have hl := hp3.length_eq
   simp at hl
   refine G.ndFold (x := (x.1, x.2)) (by (repeat' constructor)) rfl rfl rfl rfl ?_
   refine G.bigPut (f := inN) (m := m) x.1 x.2 rfl (by (repeat' constructor)) ?_
   rw [aset_self hal]
   refine G.toRd (v := .slice a5 x.2.2.2.acl.length c5) (by (repeat' constructor)) ?_
   refine G.ndFold (x := (x.1, ((tn, (.slice a5 x.2.2.2.acl.length c5, x.2.2.2)) : Nm))) (by (repeat' constructor)) rfl rfl rfl rfl ?_
   have hnx : alook ss x.1 = none := clone_new hI.keys hp3
   have hn2 : alook m2 x.1 = none := by have h := hm2 x.1; rw [hnx] at h; simpa using h
   have hdel := adel_none hn2
   refine G.bigPut (f := inN) (m := m2) x.1 ((tn, (.slice a5 x.2.2.2.acl.length c5, x.2.2.2)) : Nm) rfl (by rw [hdel]; (repeat' constructor)) ?_
   exact G.roundK ((ss ++ [x], aset m2 x.1 ((tn, (.slice a5 x.2.2.2.acl.length c5, x.2.2.2)) : Nm))) (⟨⟨nodup_aset hnd2 _ _, clone_step hm2 hnx rfl⟩, _, by simpa using hp3⟩) (by dsimp only; simp; omega) ⟨rfl, rfl, rfl, trivial⟩ (by (repeat' constructor)) (by ((repeat (apply Have.cons; (repeat (first | exact Pick.here | apply Pick.there)))); apply Have.base; repeat' constructor))

end Go.Proofs.YtnnbelmpbmfdnaaGreatDoor

/- Own work, by program: law 07: the end of a sound history, done again: walked. -/

namespace Go.Proofs.YtnnbelmpbmfdnaaGreatDoor
open Go
theorem tdiv_range {a b : Int} (hb : 0 < b) (ha : -9223372036854775808 ≤ a ∧ a ≤ 9223372036854775807) : -9223372036854775808 ≤ a.tdiv b ∧ a.tdiv b ≤ 9223372036854775807 := by
  by_cases h : 0 ≤ a
  · rw [Int.tdiv_eq_ediv_of_nonneg h]
    have h1 : a / b ≤ a := Int.ediv_le_self b h
    have h2 : 0 ≤ a / b := Int.ediv_nonneg h (by omega)
    omega
  · have e : a.tdiv b = -((-a).tdiv b) := by rw [Int.neg_tdiv]; omega
    have h0 : 0 ≤ -a := by omega
    rw [e, Int.tdiv_eq_ediv_of_nonneg h0]
    have h1 : (-a) / b ≤ -a := Int.ediv_le_self b h0
    have h2 : 0 ≤ (-a) / b := Int.ediv_nonneg h0 (by omega)
    omega
set_option maxRecDepth 100000 in
theorem tagain7_spec (v : Value) (xs : List Ac0) (n1 n2 : Int) (p : HP) (hx : Acts1 p v xs) (hn1 : -9223372036854775808 ≤ n1 ∧ n1 ≤ 9223372036854775807) (hn2 : -9223372036854775808 ≤ n2 ∧ n2 ≤ 9223372036854775807) : Fn Tryz.prog 6 #[v, vint n1, vint n2] [p] fun r L => r = .bool true ∧ L = [p] := by
 refine Fn.intro (vs := [v, vint n1, vint n2]) Tryz.func6 rfl rfl ?_
 intro F W
 have hpz := pickZ_range n1 (n := 1099511627776) (by decide)
 have hp3 := pickZ_range n2 (n := 3) (by decide)
 refine G.seq (G.region (G.q (Quiet.assign rfl) rfl (G.nil (G.then_n (G.seq (G.region ?_))))))
 refine G.op (OpSpec.call Tryz.func11 rfl rfl (vs := []) rfl (awake7_spec)) (by (repeat' constructor)) rfl ?nx2
 rintro v L' ⟨rfl, rfl⟩
 refine G.q (Quiet.assign rfl) rfl (G.nil (G.then_n (G.seq (G.region (G.q (Quiet.move rfl) rfl (G.q (Quiet.move rfl) rfl ?_))))))
 refine G.op (OpSpec.call Tryz.func21 rfl rfl (vs := [_, _]) rfl (pick7_spec n1 1099511627776 hn1 (by decide))) (by (repeat' constructor)) rfl ?nx6
 rintro v L' ⟨rfl, rfl⟩
 refine G.q (Quiet.add rfl rfl (by omega)) rfl ?_
 refine G.op (OpSpec.call Tryz.func12 rfl rfl (vs := [_, _]) rfl (history7_spec v xs (1 + pickZ n1 1099511627776) p hx (by omega))) (by (repeat' constructor)) rfl ?nx9
 rintro v L' ⟨es, τ, x, u, rfl, hh, ⟨hes, au, cu, rfl⟩, rfl⟩; have hinv := hh.inv; have hok := hinv.ok; have hfew := hok.few
 refine G.q (Quiet.move rfl) rfl (G.q (Quiet.extract rfl rfl) rfl (G.q (Quiet.extract rfl rfl) rfl (G.q (Quiet.assign rfl) rfl (G.q (Quiet.assign rfl) rfl (G.nil (G.then_n (G.seq (G.region ?_))))))))
 refine G.op (OpSpec.call Tryz.func13 rfl rfl (vs := []) rfl (trnew_spec)) (by (repeat' constructor)) rfl ?nx13
 rintro v L' ⟨t, rfl, rfl⟩
 refine G.q (Quiet.assign rfl) rfl (G.nil (G.then_n (G.seq (G.seq (G.region (G.q (Quiet.move rfl) rfl (G.q (Quiet.not rfl) rfl (G.q (Quiet.move rfl) rfl (G.grun (t := 28) rfl rfl rfl (G.q (Quiet.move rfl) rfl (G.grun (t := 28) rfl rfl rfl ?_)))))))))))
 refine G.q (Quiet.as (v' := .bool false) (by rfl) (Quiet.ptreq rfl rfl Tryz.underlying28)) rfl ?_
 refine G.q (Quiet.pickF rfl rfl) rfl (G.nil (G.then_n (G.condF rfl (G.skip (G.then_n (G.seq (G.seq (G.region (G.q (Quiet.assign rfl) rfl (G.nil (G.then_n (G.block ?_))))))))))))
 refine G.trCast (t := t) (τ' := appL newT (es.take 0)) (by (repeat' constructor)) (by rw [List.take_zero]; rfl) ?_
 refine G.loopK (ι := Nat) (fun q E => (11, vint q) :: E) (fun q => [treeR t (appL newT (es.take q))]) (fun q => q ≤ es.length) (fun q => es.length - q) (0) (ts := [1, 2, 6, 8, 10]) (.cons rfl (.cons rfl (.cons rfl (.cons rfl (.cons rfl (.nil)))))) (Nat.zero_le _) ⟨rfl, rfl, rfl, rfl, rfl, rfl, trivial⟩ (by (repeat' constructor)) ?_
 rintro i hi
 refine G.seq (G.seq (G.region (G.q (Quiet.move rfl) rfl (G.q (Quiet.move rfl) rfl (G.q (Quiet.slen rfl Tryz.underlying24 rfl) rfl (G.q (Quiet.int rfl rfl rfl) rfl (G.nil (G.then_n ?_))))))))
 refine G.condD rfl (fun h35 => ?_) (fun h35 => ?_)
 ·have hi2 : i < es.length := by omega
  refine G.slShape (T := 39) (sz := 11) (v := .slice au es.length cu) (xs := es.flatMap enC) (by (repeat' constructor)) (by omega) fun be be' e0 mbe _ => ?_
  simp only [Value.slice.injEq, true_and] at e0
  obtain ⟨rfl, rfl⟩ := e0
  refine G.skip (G.then_n (G.seq (G.block (G.region (G.q (Quiet.move rfl) rfl (G.q (Quiet.move rfl) rfl (G.q (Quiet.move rfl) rfl ?_)))))))
  refine G.q (Quiet.indexAddr rfl rfl el_24 (by omega)) rfl ?_
  refine G.q (Quiet.loadRdA (sz := 11) (j := i * 11) (k := 11) (p := slR 39 11 _ es.length (es.flatMap enC)) (vs := enC es[i]) rfl ag_39 (by (repeat' constructor)) (fun h hp => slR_rd hp) (by simp) (by omega) (by omega) (flatMap_at (f := enC) (sz := 11) (fun _ _ => rfl) (by omega))) rfl ?_
  refine G.op (OpSpec.call Tryz.func14 rfl rfl (vs := [_, _]) rfl (trapply_spec t (appL newT (es.take i)) es[i].zx es[i].ses es[i].xid es[i].x es[i].subs (ensA es) (hh.tx i hi2) 60 (hh.ok hi) (by have := hh.few hi2; omega))) (by (repeat' constructor)) rfl ?nx27
  rintro v L' ⟨ue, ee, rfl, he, hue, rfl⟩
  refine G.nil (G.blk_n (G.then_n (G.region (G.q (Quiet.move rfl) rfl ?_))))
  refine G.q (Quiet.add rfl rfl (by omega)) rfl ?_
  refine G.q (Quiet.assign rfl) rfl (G.nil (G.then_n ?_))
  refine G.trCast (t := t) (τ' := appL newT (es.take (i + 1))) (by (repeat' constructor)) (by rw [appL_step _ hi2]; rfl) ?_
  exact G.roundK (i + 1) (by omega) (by omega) ⟨rfl, rfl, rfl, rfl, rfl, rfl, trivial⟩ (by (repeat' constructor)) (by ((repeat (apply Have.cons; (repeat (first | exact Pick.here | apply Pick.there)))); apply Have.base; repeat' constructor))
 ·have hii : i = es.length := by omega
  rw [hii, List.take_length, ← hh.tree]
  refine G.exit (G.then_e (G.then_e (G.blk_e (G.then_n (G.seq (G.region (G.q (Quiet.move rfl) rfl ?_)))))))
  refine G.op (OpSpec.call Tryz.func24 rfl rfl (vs := [_]) rfl (trclone_spec t τ 60 hok (by decide))) (by (repeat' constructor)) rfl ?nx32
  rintro v L' ⟨c, rfl, rfl⟩
  refine G.q (Quiet.assign rfl) rfl (G.nil (G.then_n (G.seq (G.seq (G.region (G.q (Quiet.assign rfl) rfl (G.nil (G.then_n (G.block ?_)))))))))
  refine G.loopK (ι := Nat) (fun q E => (13, vint q) :: E) (fun q => [treeR t τ, treeR c τ]) (fun q => q ≤ 3) (fun q => 3 - q) (0) (ts := [1, 2, 8, 10, 12]) (.cons rfl (.cons rfl (.cons rfl (.cons rfl (.cons rfl (.nil)))))) (Nat.zero_le _) ⟨rfl, rfl, rfl, rfl, rfl, rfl, trivial⟩ (by (repeat' constructor)) ?_
  rintro k hk
  refine G.seq (G.seq (G.region (G.q (Quiet.move rfl) rfl (G.q (Quiet.move rfl) rfl ?_))))
  refine G.op (OpSpec.call Tryz.func21 rfl rfl (vs := [_, _]) rfl (pick7_spec n2 3 hn2 (by decide))) (by (repeat' constructor)) rfl ?nx37
  rintro v L' ⟨rfl, rfl⟩
  refine G.q (Quiet.int rfl rfl rfl) rfl (G.nil (G.then_n ?_))
  refine G.condD rfl (fun h49 => ?_) (fun h49 => ?_)
  ·refine G.skip (G.then_n (G.seq (G.block (G.seq (G.region (G.q (Quiet.assign rfl) rfl (G.nil (G.then_n (G.seq (G.seq (G.region (G.q (Quiet.move rfl) rfl (G.q (Quiet.slen rfl Tryz.underlying24 rfl) rfl (G.q (Quiet.int rfl rfl rfl) rfl (G.nil (G.then_n ?_))))))))))))))))
   refine G.condD rfl (fun h54 => ?_) (fun h54 => ?_)
   ·have hpa := pickZ_range (n1.tdiv ((k : Int) + 1)) (n := (es.length : Int)) (by omega)
    obtain ⟨a, ha⟩ : ∃ a : Nat, pickZ (n1.tdiv ((k : Int) + 1)) (es.length : Int) = a := ⟨(pickZ (n1.tdiv ((k : Int) + 1)) (es.length : Int)).toNat, by omega⟩
    have ha2 : a ≤ es.length := by omega
    refine G.region (G.q (Quiet.move rfl) rfl (G.q (Quiet.move rfl) rfl ?_))
    refine G.q (Quiet.add rfl rfl (by omega)) rfl ?_
    refine G.q (Quiet.quo rfl rfl (by omega) (tdiv_range (by omega) hn1)) rfl ?_
    refine G.q (Quiet.move rfl) rfl (G.q (Quiet.slen rfl Tryz.underlying24 rfl) rfl ?_)
    refine G.op (OpSpec.call Tryz.func21 rfl rfl (vs := [_, _]) rfl (pick7_is (n1.tdiv ((k : Int) + 1)) (es.length : Int) (k := (a : Int)) ha (tdiv_range (by omega) hn1) (by omega))) (by (repeat' constructor)) rfl ?nx50
    rintro v L' ⟨rfl, rfl⟩
    refine G.q (Quiet.assign rfl) rfl (G.nil (G.then_n (G.seq (G.seq (G.region (G.q (Quiet.move rfl) rfl (G.q (Quiet.assign rfl) rfl (G.nil (G.then_n (G.block ?_))))))))))
    refine G.trCast (t := c) (τ' := (appL τ ((es.drop a).take (a - a)))) (by (repeat' constructor)) (by rw [Nat.sub_self, List.take_zero]; rfl) ?_
    refine G.loopK (ι := Nat) (fun q E => (15, vint q) :: E) (fun q => [treeR c (appL τ ((es.drop a).take (q - a)))]) (fun q => a ≤ q ∧ q ≤ es.length) (fun q => es.length - q) (a) (ts := [1, 2, 8, 10, 12, 13, 14, 46, 47, 48, 49, 52, 53, 54, 55, 56, 57, 58, 59, 60, 61, 62]) (.cons rfl (.cons rfl (.cons rfl (.cons rfl (.cons rfl (.cons rfl (.cons rfl (.cons rfl (.cons rfl (.cons rfl (.cons rfl (.cons rfl (.cons rfl (.cons rfl (.cons rfl (.cons rfl (.cons rfl (.cons rfl (.cons rfl (.cons rfl (.cons rfl (.cons rfl (.nil))))))))))))))))))))))) (⟨Nat.le_refl _, by omega⟩) ⟨rfl, rfl, rfl, rfl, rfl, rfl, rfl, rfl, rfl, rfl, rfl, rfl, rfl, rfl, rfl, rfl, rfl, rfl, rfl, rfl, rfl, rfl, rfl, trivial⟩ (by (repeat' constructor)) ?_
    rintro j ⟨hj1, hj2⟩
    refine G.seq (G.seq (G.region (G.q (Quiet.move rfl) rfl (G.q (Quiet.move rfl) rfl (G.q (Quiet.slen rfl Tryz.underlying24 rfl) rfl (G.q (Quiet.int rfl rfl rfl) rfl (G.nil (G.then_n ?_))))))))
    refine G.condD rfl (fun h66 => ?_) (fun h66 => ?_)
    ·have hi2 : j < es.length := by omega
     refine G.slShape (T := 39) (sz := 11) (v := .slice au es.length cu) (xs := es.flatMap enC) (by (repeat' constructor)) (by omega) fun be be' e0 mbe _ => ?_
     simp only [Value.slice.injEq, true_and] at e0
     obtain ⟨rfl, rfl⟩ := e0
     refine G.skip (G.then_n (G.seq (G.block (G.region (G.q (Quiet.move rfl) rfl (G.q (Quiet.move rfl) rfl (G.q (Quiet.move rfl) rfl ?_)))))))
     refine G.q (Quiet.indexAddr rfl rfl el_24 (by omega)) rfl ?_
     refine G.q (Quiet.loadRdA (sz := 11) (j := j * 11) (k := 11) (p := slR 39 11 _ es.length (es.flatMap enC)) (vs := enC es[j]) rfl ag_39 (by (repeat' constructor)) (fun h hp => slR_rd hp) (by simp) (by omega) (by omega) (flatMap_at (f := enC) (sz := 11) (fun _ _ => rfl) (by omega))) rfl ?_
     refine G.op (OpSpec.call Tryz.func14 rfl rfl (vs := [_, _]) rfl (trapply_spec c (appL τ ((es.drop a).take (j - a))) es[j].zx es[j].ses es[j].xid es[j].x es[j].subs (ensA es) (hh.tx j hi2) (60 + 61 * es.length) (hh.againOk a (j - a)) (by have := hh.few hi2; omega))) (by (repeat' constructor)) rfl ?nx61
     rintro v L' ⟨ue, ee, rfl, he, hue, rfl⟩
     refine G.nil (G.blk_n (G.then_n (G.region (G.q (Quiet.move rfl) rfl ?_))))
     refine G.q (Quiet.add rfl rfl (by omega)) rfl ?_
     refine G.q (Quiet.assign rfl) rfl (G.nil (G.then_n ?_))
     refine G.trCast (t := c) (τ' := (appL τ ((es.drop a).take ((j + 1) - a)))) (by (repeat' constructor)) (by rw [show j + 1 - a = (j - a) + 1 by omega, appL_step _ (by rw [List.length_drop]; omega)]; simp only [List.getElem_drop]; rw [show es[a + (j - a)]'(by omega) = es[j] from by congr 1; omega]; rfl) ?_
     exact G.roundK (j + 1) (by omega) (by omega) ⟨rfl, rfl, rfl, rfl, rfl, rfl, rfl, rfl, rfl, rfl, rfl, rfl, rfl, rfl, rfl, rfl, rfl, rfl, rfl, rfl, rfl, rfl, rfl, trivial⟩ (by (repeat' constructor)) (by ((repeat (apply Have.cons; (repeat (first | exact Pick.here | apply Pick.there)))); apply Have.base; repeat' constructor))
    ·have hjj : j = es.length := by omega
     subst hjj
     refine G.trCast (t := c) (τ' := τ) (by (repeat' constructor)) (by rw [List.take_of_length_le (by rw [List.length_drop]; omega)]; exact (hh.again (by omega)).symm) ?_
     refine G.exit (G.then_e (G.then_e (G.blk_e (G.then_n (G.seq (G.region (G.q (Quiet.move rfl) rfl (G.q (Quiet.move rfl) rfl ?_))))))))
     refine G.op (OpSpec.call Tryz.func23 rfl rfl (vs := [_, _]) rfl (trsame_spec c t τ τ 60 60 hok hok)) (by (repeat' constructor)) rfl ?nx67
     rintro v L' ⟨rfl, rfl⟩; rw [decide_eq_true rfl]
     refine G.q (Quiet.not rfl) rfl (G.nil (G.then_n (G.condF rfl (G.skip (G.blk_n (G.then_n (G.region (G.q (Quiet.move rfl) rfl ?_))))))))
     refine G.q (Quiet.add rfl rfl (by omega)) rfl ?_
     refine G.q (Quiet.assign rfl) rfl (G.nil (G.then_n ?_))
     exact G.roundK (k + 1) (by omega) (by omega) ⟨rfl, rfl, rfl, rfl, rfl, rfl, trivial⟩ (by (repeat' constructor)) (by ((repeat (apply Have.cons; (repeat (first | exact Pick.here | apply Pick.there)))); apply Have.base; repeat' constructor))
   ·refine G.skip (G.then_n (G.seq (G.seq (G.region (G.q (Quiet.move rfl) rfl (G.q (Quiet.assign rfl) rfl (G.nil (G.then_n (G.block ?_)))))))))
    refine G.trCast (t := c) (τ' := (appL τ ((es.drop 0).take (0 - 0)))) (by (repeat' constructor)) (by rw [Nat.sub_self, List.take_zero]; rfl) ?_
    refine G.loopK (ι := Nat) (fun q E => (15, vint q) :: E) (fun q => [treeR c (appL τ ((es.drop 0).take (q - 0)))]) (fun q => 0 ≤ q ∧ q ≤ es.length) (fun q => es.length - q) (0) (ts := [1, 2, 8, 10, 12, 13, 14, 46, 47, 48, 49, 52, 53, 54, 62]) (.cons rfl (.cons rfl (.cons rfl (.cons rfl (.cons rfl (.cons rfl (.cons rfl (.cons rfl (.cons rfl (.cons rfl (.cons rfl (.cons rfl (.cons rfl (.cons rfl (.cons rfl (.nil)))))))))))))))) (⟨Nat.le_refl _, by omega⟩) ⟨rfl, rfl, rfl, rfl, rfl, rfl, rfl, rfl, rfl, rfl, rfl, rfl, rfl, rfl, rfl, rfl, trivial⟩ (by (repeat' constructor)) ?_
    rintro j ⟨hj1, hj2⟩
    refine G.seq (G.seq (G.region (G.q (Quiet.move rfl) rfl (G.q (Quiet.move rfl) rfl (G.q (Quiet.slen rfl Tryz.underlying24 rfl) rfl (G.q (Quiet.int rfl rfl rfl) rfl (G.nil (G.then_n ?_))))))))
    refine G.condD rfl (fun h66 => ?_) (fun h66 => ?_)
    ·have hi2 : j < es.length := by omega
     refine G.slShape (T := 39) (sz := 11) (v := .slice au es.length cu) (xs := es.flatMap enC) (by (repeat' constructor)) (by omega) fun be be' e0 mbe _ => ?_
     simp only [Value.slice.injEq, true_and] at e0
     obtain ⟨rfl, rfl⟩ := e0
     refine G.skip (G.then_n (G.seq (G.block (G.region (G.q (Quiet.move rfl) rfl (G.q (Quiet.move rfl) rfl (G.q (Quiet.move rfl) rfl ?_)))))))
     refine G.q (Quiet.indexAddr rfl rfl el_24 (by omega)) rfl ?_
     refine G.q (Quiet.loadRdA (sz := 11) (j := j * 11) (k := 11) (p := slR 39 11 _ es.length (es.flatMap enC)) (vs := enC es[j]) rfl ag_39 (by (repeat' constructor)) (fun h hp => slR_rd hp) (by simp) (by omega) (by omega) (flatMap_at (f := enC) (sz := 11) (fun _ _ => rfl) (by omega))) rfl ?_
     refine G.op (OpSpec.call Tryz.func14 rfl rfl (vs := [_, _]) rfl (trapply_spec c (appL τ ((es.drop 0).take (j - 0))) es[j].zx es[j].ses es[j].xid es[j].x es[j].subs (ensA es) (hh.tx j hi2) (60 + 61 * es.length) (hh.againOk 0 (j - 0)) (by have := hh.few hi2; omega))) (by (repeat' constructor)) rfl ?nx81
     rintro v L' ⟨ue, ee, rfl, he, hue, rfl⟩
     refine G.nil (G.blk_n (G.then_n (G.region (G.q (Quiet.move rfl) rfl ?_))))
     refine G.q (Quiet.add rfl rfl (by omega)) rfl ?_
     refine G.q (Quiet.assign rfl) rfl (G.nil (G.then_n ?_))
     refine G.trCast (t := c) (τ' := (appL τ ((es.drop 0).take ((j + 1) - 0)))) (by (repeat' constructor)) (by rw [show j + 1 - 0 = (j - 0) + 1 by omega, appL_step _ (by rw [List.length_drop]; omega)]; simp only [List.getElem_drop]; rw [show es[0 + (j - 0)]'(by omega) = es[j] from by congr 1; omega]; rfl) ?_
     exact G.roundK (j + 1) (by omega) (by omega) ⟨rfl, rfl, rfl, rfl, rfl, rfl, rfl, rfl, rfl, rfl, rfl, rfl, rfl, rfl, rfl, rfl, trivial⟩ (by (repeat' constructor)) (by ((repeat (apply Have.cons; (repeat (first | exact Pick.here | apply Pick.there)))); apply Have.base; repeat' constructor))
    ·have hjj : j = es.length := by omega
     subst hjj
     refine G.trCast (t := c) (τ' := τ) (by (repeat' constructor)) (by rw [List.take_of_length_le (by rw [List.length_drop]; omega)]; exact (hh.again (by omega)).symm) ?_
     refine G.exit (G.then_e (G.then_e (G.blk_e (G.then_n (G.seq (G.region (G.q (Quiet.move rfl) rfl (G.q (Quiet.move rfl) rfl ?_))))))))
     refine G.op (OpSpec.call Tryz.func23 rfl rfl (vs := [_, _]) rfl (trsame_spec c t τ τ 60 60 hok hok)) (by (repeat' constructor)) rfl ?nx87
     rintro v L' ⟨rfl, rfl⟩; rw [decide_eq_true rfl]
     refine G.q (Quiet.not rfl) rfl (G.nil (G.then_n (G.condF rfl (G.skip (G.blk_n (G.then_n (G.region (G.q (Quiet.move rfl) rfl ?_))))))))
     refine G.q (Quiet.add rfl rfl (by omega)) rfl ?_
     refine G.q (Quiet.assign rfl) rfl (G.nil (G.then_n ?_))
     exact G.roundK (k + 1) (by omega) (by omega) ⟨rfl, rfl, rfl, rfl, rfl, rfl, trivial⟩ (by (repeat' constructor)) (by ((repeat (apply Have.cons; (repeat (first | exact Pick.here | apply Pick.there)))); apply Have.base; repeat' constructor))
  ·refine G.exit (G.then_e (G.then_e (G.blk_e (G.then_n (G.seq (G.region (G.q (Quiet.assign rfl) rfl (G.nil (G.then_n (G.ret ?_))))))))))
   exact G.done (l := [.tmp 6]) rfl rfl ⟨rfl, rfl⟩ (by (repeat' constructor)) (by (repeat' constructor))

end Go.Proofs.YtnnbelmpbmfdnaaGreatDoor

/- Own work: from what a call is given to the atoms of SlCore, and back to what a statement asks. -/

namespace Go.Proofs.YtnnbelmpbmfdnaaGreatDoor
open Go Go.ChangeShapes Go.WideShapes Go.ChangeAt Go.RowKit

section
variable {H : Type} {enc : TypeId × Value → H} {P : Program} {W W' : World}
theorem trodAll_old (hl : laidOutB P = true) (hb : Below W.heap.size W W') (sp : Nat → Bool) : ∀ (ts : List TypeId) (vs : List Value) (ds : List (DataW H)) (p : List MemPlace), (∀ t ∈ ts, P.readableRec t = true ∧ t < P.types.size) →
    DataW.TrodAll enc P W 0 (fun _ => true) true ts vs ds p → (∀ x ∈ p, x.block < W.heap.size) → (∀ x ∈ p, sp x.block = true) → DataW.TrodAll enc P W' 0 sp true ts vs ds p
  | [], vs, ds, p, _, h, _, _ => by
    obtain ⟨rfl, rfl, rfl⟩ := trodAll_nil h
    exact h
  | t :: ts, vs, ds, p, hr, h, hlt, hsp => by
    obtain ⟨v, vs1, d, ds1, a, b, rfl, rfl, rfl, h1, h2⟩ := trodAll_cons h
    have r := hr t (by simp)
    refine ⟨a, b, WideElems.Trod_stays hl r.1 r.2 h1 (fun x hx => hb.same (hlt x (by simp [hx]))) (fun x hx => hsp x (by simp [hx])), ?_, rfl⟩
    exact trodAll_old hl hb sp ts vs1 ds1 b (fun t ht => hr t (by simp [ht])) h2 (fun x hx => hlt x (by simp [hx])) (fun x hx => hsp x (by simp [hx]))
theorem settled {fn : Func} {s : ChangeSpec} {apart fresh handsOn again : Bool} {args : Array Value} {ds gs : List (DataW H)} {before : List MemPlace} {tb : TypeId}
    (hW : DataW.Whole enc P fn.params.toList s.vars apart W args.toList ds gs before) (hvars : s.vars = []) (hspec : ∀ gs', gs' = [] → s.fn H (ds ++ gs') = { results := [.lit (.bool true)], args := ds })
    (hres : fn.resultTypes = #[tb]) (htb : P.underlying tb = some .bool) (hl : laidOutB P = true) (hr : ∀ t ∈ fn.params.toList, P.readableRec t = true ∧ t < P.types.size) (hb : Below W.heap.size W W') :
    s.post enc P fn apart fresh handsOn again W args (.bool true) W' := by
  have hW' := hW
  have hlt := hW.lt
  obtain ⟨p, q, hA, hV, rfl, hfz, hnd⟩ := hW
  rw [hvars] at hV
  obtain ⟨rfl, rfl⟩ := trodVars_none hV
  have hs := hspec [] rfl
  have hargs : ∀ sp : Nat → Bool, (∀ x ∈ p, sp x.block = true) → DataW.TrodAll enc P W' 0 sp true fn.params.toList args.toList ds p := fun sp hsp =>
    trodAll_old hl hb sp _ _ _ _ hr hA (fun x hx => hlt x (by simp [hx])) hsp
  have hbool : ∀ (b : Nat) (sp : Nat → Bool) (hd : Bool), DataW.TrodAll enc P W' b sp hd fn.resultTypes.toList ((Value.bool true).resultList fn.resultTypes.size) [.lit (.bool true)] [] := by
    intro b sp hd
    rw [hres]
    exact trodAll_cons_mk (shut_bool htb _) trodAll_mk0
  refine ⟨ds, [], p ++ [], [], p, [], hW', ?_, ?_, ?_, hb.frame _, fun _ => ⟨ok_one hres rfl (okWide_bool_mk htb _), [.lit (.bool true)] ++ ds, [], p, ⟨p, [], ?_, ?_, by simp, ?_, ?_⟩, ?_⟩⟩
  · rw [hs]; exact hbool _ _ _
  · rw [hs]; exact hargs _ (fun x hx => by simpa using hlt x (by simp [hx]))
  · rw [hs, hvars]; exact hV
  · exact trodAll_append (hargs _ (fun _ _ => rfl)) (hbool _ _ _)
  · rw [hvars]; exact hV
  · intro b off hp
    rw [hb.frozen (p := ⟨b, off, none⟩) (hlt (.cell b off) (by simp [hp]))]
    exact hfz b off (by simp [hp])
  · intro ha
    have := hnd ha
    simpa using this
  · intro x hx _
    simp [hx]
theorem old_calls {f : FuncId} {args : Array Value} (h : Fn P f args [Old W] fun v L => v = .bool true ∧ L = [Old W]) :
    Calls P f args W fun e W' => e = .returned (.bool true) ∧ Below W.heap.size W W' := by
  have h0 : St [Old W] W := ⟨fun b => W.heap[b]?, fun _ => none, fun _ => .inr rfl, fun b o h => h, fun b o h => (by cases h), fun b hb => rfl, trivial⟩
  refine (h [] W h0).mono ?_
  rintro e W' ⟨v, L, ⟨rfl, rfl⟩, rfl, hs, hk⟩
  refine ⟨rfl, hk.os, hk.tape, hk.output, hk.size, fun k hk' => ?_⟩
  obtain ⟨h1, a1, hp⟩ := sep_head hs
  have e1 := hp k hk'
  have : ∃ o, W.heap[k]? = some o := ⟨_, Array.getElem?_eq_getElem hk'⟩
  obtain ⟨o, ho⟩ := this
  rw [ho] at e1 ⊢
  exact a1 _ _ e1
theorem old_rd {a : Addr} {len cap : Nat} {V : Nat → Value} (hc : ∀ i, i < len → W.cell? (a.add i) = some (V i)) (hle : len ≤ cap) : ∀ h : Hp, Old W h → rdS 1 h (.slice (some a) len cap) len ((List.range len).map V) := by
  intro h hold
  rcases Nat.eq_zero_or_pos len with rfl | hpos
  · exact .inl ⟨rfl, rfl, some a, cap, rfl⟩
  · obtain ⟨b, off, spot⟩ := a
    have h0 := hc 0 hpos
    have e0 : (⟨b, off, spot⟩ : Addr).add 0 = ⟨b, off, spot⟩ := by simp [Addr.add]
    rw [e0] at h0
    simp only [World.cell?] at h0
    rcases hw : W.heap[b]? with _ | o
    · rw [hw] at h0; cases h0
    · cases o with
      | cells c T fr =>
        rw [hw] at h0
        dsimp only at h0
        split at h0
        · cases h0
        · rename_i hsp
          have hspot : spot = none := by simpa using hsp
          subst hspot
          have hc' : ∀ i, i < len → c[off + i]? = some (V i) := by
            intro i hi
            have := hc i hi
            have e1 : (⟨b, off, none⟩ : Addr).add i = ⟨b, off + i, none⟩ := by
              simp only [Addr.add]; split
              · rename_i h0; simp [h0]
              · rfl
            rw [e1] at this
            simp only [World.cell?, hw] at this
            simpa using this
          have hlt : b < W.heap.size := by
            rcases Nat.lt_or_ge b W.heap.size with h' | h'
            · exact h'
            · rw [Array.getElem?_eq_none h'] at hw; cases hw
          have hlen : off + len ≤ c.size := by
            have := hc' (len - 1) (by omega)
            rcases Nat.lt_or_ge (off + (len - 1)) c.size with h' | h'
            · omega
            · rw [Array.getElem?_eq_none h'] at this; cases this
          refine .inr ⟨b, off, cap, c.toList, T, fr, rfl, by rw [hold b hlt, hw], ?_, by simpa using hlen, hle⟩
          apply List.ext_getElem?
          intro i
          rw [Nat.mul_one, List.getElem?_take, List.getElem?_map, List.getElem?_drop]
          split
          · rename_i hi
            rw [List.getElem?_range hi]
            simpa using hc' i hi
          · rename_i hi
            rw [List.getElem?_eq_none (by simpa using hi)]; rfl
      | _ => rw [hw] at h0; cases h0
theorem arg_int {t : TypeId} {r : Reach} {b0 : Nat} {v : Value} {d : DataW H} {ps : List MemPlace} (ht : P.underlying t = some (.int .i64)) (hval : Value.okWide P W r b0 t v)
    (h : DataW.Trod enc P W 0 (fun _ => true) true t v d ps) : ∃ n : Int, v = vint n ∧ d = .lit (.int .i64 n) ∧ -9223372036854775808 ≤ n ∧ n ≤ 9223372036854775807 := by
  obtain ⟨n, rfl, rfl, rfl, hwf⟩ := open_int ht hval h
  exact ⟨n, rfl, rfl, bounds_i64 hwf⟩
end
end Go.Proofs.YtnnbelmpbmfdnaaGreatDoor

/- Own work: strings and rows of strings as arguments. -/
namespace Go.Proofs.YtnnbelmpbmfdnaaGreatDoor
open Go Go.ChangeShapes Go.WideShapes Go.ChangeAt Go.RowKit

section
variable {H : Type} {enc : TypeId × Value → H} {P : Program} {W : World}
theorem string_vstr (s : ByteArray) : Value.string s = vstr s.data.toList := by cases s; rfl
end
end Go.Proofs.YtnnbelmpbmfdnaaGreatDoor

/- Own work: nested arguments decoded: slices of structs, and what the row says of their weight. -/

namespace Go.Proofs.YtnnbelmpbmfdnaaGreatDoor
open Go Go.ChangeShapes Go.WideShapes Go.ChangeAt Go.RowKit

section
variable {H : Type} {enc : TypeId × Value → H} {P : Program} {W : World}
/-- No slice and no string in this datum weighs more than the row's reach. -/
def Light (P : Program) (t : TypeId) (d : DataW H) : Prop := ∀ n ∈ d.weights P t, n ≤ reachBytes
theorem flat_at {α : Type} {sz : Nat} (f : Nat → List α) : ∀ n, (∀ i, i < n → (f i).length = sz) → ∀ j, j < n * sz → ((List.range n).flatMap f)[j]? = (f (j / sz))[j % sz]? ∧ ((List.range n).flatMap f).length = n * sz := by
  intro n
  induction n with
  | zero => intro _ j hj; omega
  | succ n ih =>
    intro hf j hj
    have hn := hf n (by omega)
    have hlen : ((List.range n).flatMap f).length = n * sz := by
      rcases Nat.eq_zero_or_pos (n * sz) with h0 | h0
      · rcases Nat.eq_zero_or_pos n with h1 | h1
        · subst h1; simp
        · have : sz = 0 := by
            rcases Nat.eq_zero_or_pos sz with h2 | h2
            · exact h2
            · have := Nat.mul_pos h1 h2; omega
          subst this; omega
      · exact (ih (fun i hi => hf i (by omega)) 0 h0).2
    have e : (List.range (n + 1)).flatMap f = (List.range n).flatMap f ++ f n := by simp [List.range_succ]
    have hm : (n + 1) * sz = n * sz + sz := by rw [Nat.add_mul, Nat.one_mul]
    rw [e]
    refine ⟨?_, by rw [List.length_append, hlen, hn, hm]⟩
    rcases Nat.lt_or_ge j (n * sz) with h | h
    · rw [List.getElem?_append_left (by omega)]
      exact (ih (fun i hi => hf i (by omega)) j h).1
    · rw [List.getElem?_append_right (by omega), hlen]
      have hs : 0 < sz := by omega
      have h1 : j / sz = n := by
        have : j < (n + 1) * sz := hj
        have a := Nat.div_lt_of_lt_mul (show j < sz * (n + 1) by rw [Nat.mul_comm]; exact this)
        have b := (Nat.le_div_iff_mul_le hs).2 h
        omega
      have h2 : j % sz = j - n * sz := by
        have := Nat.div_add_mod j sz
        rw [h1, Nat.mul_comm] at this; omega
      rw [h1, h2]
theorem rdS_regroup {sz n c c1 : Nat} {a : Option Addr} {ys : List Value} {h : Hp} (hr : rdS 1 h (.slice a (n * sz) c1) (n * sz) ys) (hc : n ≤ c) (hs : 0 < sz) : rdS sz h (.slice a n c) n ys := by
  rcases hr with ⟨h1, h2, -⟩ | ⟨b, off, cap, l, T, fr, hv, hb, h1, h2, h3⟩
  · have : n = 0 := by
      rcases Nat.eq_zero_or_pos n with h0 | h0
      · exact h0
      · have := Nat.mul_pos h0 hs; omega
    subst this
    exact .inl ⟨rfl, h2, a, c, rfl⟩
  · simp only [Value.slice.injEq] at hv
    obtain ⟨rfl, -, -⟩ := hv
    exact .inr ⟨b, off, c, l, T, fr, rfl, hb, by rw [← h1, Nat.mul_one], by rw [Nat.mul_one] at h2; exact h2, hc⟩
abbrev Reads (enc : TypeId × Value → H) (P : Program) (W : World) (fuel : Nat) (t : TypeId) (cs : List Value) (x : DataW H × List MemPlace) : Prop := DataW.trod enc P W 0 (fun _ => true) true fuel t cs = some x
theorem dec_int {t : TypeId} {fuel : Nat} {cs : List Value} {x : DataW H × List MemPlace} (ht : P.underlying t = some (.int .i64)) (h : Reads enc P W fuel t cs x) : ∃ n : Int, cs = [vint n] ∧ -9223372036854775808 ≤ n ∧ n ≤ 9223372036854775807 := by
  obtain ⟨n, rfl, -, hwf⟩ := DataW.trod_int ht h
  exact ⟨n, rfl, bounds_i64 hwf⟩
end
end Go.Proofs.YtnnbelmpbmfdnaaGreatDoor

/- Own work: arguments of a bounded bulk (the second form's bound), decoded. -/
namespace Go.Proofs.YtnnbelmpbmfdnaaGreatDoor
open Go Go.ChangeShapes Go.WideShapes Go.ChangeAt Go.RowKit

theorem bulk_pos {H : Type} (d : DataW H) : 1 ≤ Rows.uptoBulk d := by
  cases d with
  | lit l => cases l <;> simp [Rows.uptoBulk]
  | _ => simp [Rows.uptoBulk]
theorem bulk_part {H : Type} {d : DataW H} : ∀ {l : List (DataW H)}, d ∈ l → Rows.uptoBulk d ≤ Rows.uptoBulkAll l
  | x :: l, h => by
    unfold Rows.uptoBulkAll
    rcases List.mem_cons.1 h with rfl | h
    · omega
    · have := bulk_part h; omega
theorem bulk_count {H : Type} : ∀ l : List (DataW H), l.length ≤ Rows.uptoBulkAll l
  | [] => by simp
  | x :: l => by
    have h1 := bulk_pos x
    have h2 := bulk_count l
    unfold Rows.uptoBulkAll
    rw [List.length_cons]; omega
theorem bulk_agg {H : Type} {d : DataW H} {l : List (DataW H)} {N : Nat} (h : Rows.uptoBulk (.agg l) ≤ N) (hd : d ∈ l) : Rows.uptoBulk d ≤ N := by
  have := bulk_part hd
  simp only [Rows.uptoBulk] at h
  omega
theorem bulk_small {H : Type} {l : List (DataW H)} (h : Rows.uptoSmall H l = true) {d : DataW H} (hd : d ∈ l) : Rows.uptoBulk d ≤ 1048576 :=
  Nat.le_trans (bulk_part hd) (of_decide_eq_true h)
instance : Inhabited Value := ⟨.bool false⟩
section
variable {H : Type} {enc : TypeId × Value → H} {P : Program} {W : World} {N : Nat}
theorem dec_str {t : TypeId} {fuel : Nat} {cs : List Value} {x : DataW H × List MemPlace} (ht : P.underlying t = some .string) (h : Reads enc P W fuel t cs x) (hb : Rows.uptoBulk x.1 ≤ N) : ∃ s : List UInt8, cs = [vstr s] ∧ s.length ≤ N := by
  obtain ⟨s, rfl, rfl, -⟩ := DataW.trod_string ht h
  simp only [Rows.uptoBulk] at hb
  exact ⟨s.data.toList, by rw [string_vstr], by omega⟩
theorem dec_int' {t : TypeId} {fuel : Nat} {cs : List Value} {x : DataW H × List MemPlace} (ht : P.underlying t = some (.int .i64)) (h : Reads enc P W fuel t cs x) : ∃ n : Int, cs = [vint n] ∧ (-9223372036854775808 ≤ n ∧ n ≤ 9223372036854775807) := by
  obtain ⟨n, h1, h2⟩ := dec_int ht h; exact ⟨n, h1, h2⟩
theorem slice_cell {t e : TypeId} {fuel : Nat} {v : Value} {x : DataW H × List MemPlace} (ht : P.underlying t = some (.slice e)) (h : Reads enc P W fuel t [v] x) : isCell v = true := by
  rcases Go.Deep.open_slice ht h with ⟨hv, -⟩ | ⟨a, len, cap, m, n, Dd, Pl, hv, -⟩
  · rw [List.cons.injEq] at hv; rw [hv.1]; rfl
  · rw [List.cons.injEq] at hv; rw [hv.1]; rfl
/-- A slice, each of whose elements is decoded. -/
theorem dec_sliceU {Z : Type} [Inhabited Z] (toC : Z → List Value) (Q : Z → Prop) {t e : TypeId} {sz : Nat} {fuel : Nat} {cs : List Value} {x : DataW H × List MemPlace} (ht : P.underlying t = some (.slice e)) (hc : P.cellsOf e = sz) (hs : 0 < sz)
    (hdec : ∀ (n : Nat) (cs : List Value) (y : DataW H × List MemPlace), Reads enc P W n e cs y → Rows.uptoBulk y.1 ≤ N → ∃ z, cs = toC z ∧ Q z) (h : Reads enc P W fuel t cs x) (hb : Rows.uptoBulk x.1 ≤ N) :
    ∃ z : Value × List Z, cs = [z.1] ∧ (∀ h : Hp, Old W h → rdS sz h z.1 z.2.length (z.2.flatMap toC)) ∧ z.2.length ≤ N ∧ ∀ y ∈ z.2, Q y := by
  subst hc
  rcases Go.Deep.open_slice ht h with ⟨rfl, rfl⟩ | ⟨a, len, cap, m, n, Dd, Pl, rfl, -, hl, hm, hmm, rfl, hx⟩
  · exact ⟨(_, []), rfl, fun h _ => .inl ⟨rfl, rfl, none, 0, rfl⟩, by simp, by simp⟩
  · simp only [if_true] at hmm
    subst hmm
    have hbl : len ≤ N := by
      have := bulk_count ((List.range len).map Dd)
      simp only [Rows.uptoBulk] at hb
      rw [List.length_map, List.length_range] at this
      omega
    have hbe : ∀ i, i < len → Rows.uptoBulk (Dd i) ≤ N := fun i hi => by
      have := bulk_part (d := Dd i) (l := (List.range len).map Dd) (List.mem_map_of_mem (by simpa using hi))
      simp only [Rows.uptoBulk] at hb
      omega
    obtain ⟨Zf, hZ⟩ := Go.Deep.choose_lt (α := Z) (p := fun i z => W.cells? 0 (a.add (i * P.cellsOf e)) (P.cellsOf e) = some (toC z) ∧ Q z) (n := len) (fun i hi => by
      obtain ⟨cs', h1, h2⟩ := hx i (by omega)
      obtain ⟨z, rfl, h3⟩ := hdec _ _ _ h2 (hbe i hi)
      exact ⟨z, h1, h3⟩)
    have hlenf : ∀ i, i < len → (toC (Zf i)).length = P.cellsOf e := fun i hi => (World.cells?_some (hZ i hi).1).2.1
    have hflat := flat_at (fun i => toC (Zf i)) len hlenf
    refine ⟨(_, (List.range len).map Zf), rfl, ?_, ?_, ?_⟩
    · intro h hold
      dsimp only
      rw [List.length_map, List.length_range]
      refine rdS_regroup (c1 := len * P.cellsOf e) ?_ hl hs
      have e1 : ((List.range len).map Zf).flatMap toC = (List.range (len * P.cellsOf e)).map (fun j => ((List.range len).flatMap fun i => toC (Zf i)).getD j (.bool false)) := by
        rw [List.flatMap_map]
        apply List.ext_getElem?
        intro j
        rcases Nat.lt_or_ge j (len * P.cellsOf e) with hj | hj
        · rw [List.getElem?_map, List.getElem?_range hj]
          have := (hflat j hj).2
          have hjl : j < ((List.range len).flatMap fun i => toC (Zf i)).length := by omega
          simp only [Option.map_some, List.getD_eq_getElem?_getD, List.getElem?_eq_getElem hjl, Option.getD_some]
        · have : ((List.range len).flatMap fun i => toC (Zf i)).length = len * P.cellsOf e := by
            rcases Nat.eq_zero_or_pos (len * P.cellsOf e) with h0 | h0
            · have : len = 0 := by
                rcases Nat.eq_zero_or_pos len with h1 | h1
                · exact h1
                · have := Nat.mul_pos h1 hs; omega
              subst this; simp
            · exact (hflat 0 h0).2
          rw [List.getElem?_eq_none (by omega), List.getElem?_eq_none (by simpa using hj)]
      rw [e1]
      refine old_rd (W := W) (fun j hj => ?_) (Nat.le_refl _) h hold
      have hi : j / P.cellsOf e < len := Nat.div_lt_of_lt_mul (by rw [Nat.mul_comm]; exact hj)
      have hcell := (World.cells?_some (hZ (j / P.cellsOf e) hi).1).2.2 (j % P.cellsOf e) (Nat.mod_lt _ hs)
      rw [Addr.add_add, Nat.mul_comm, Nat.div_add_mod] at hcell
      rw [hcell]
      obtain ⟨f1, f2⟩ := hflat j hj
      rw [List.getD_eq_getElem?_getD, f1]
      have : j % P.cellsOf e < (toC (Zf (j / P.cellsOf e))).length := by rw [hlenf _ hi]; exact Nat.mod_lt _ hs
      simp [this]
    · dsimp only; rw [List.length_map, List.length_range]; exact hbl
    · intro z hz
      obtain ⟨i, hi, rfl⟩ := List.mem_map.1 hz
      exact (hZ i (by simpa using hi)).2
end
end Go.Proofs.YtnnbelmpbmfdnaaGreatDoor

/- Own work, by program: what the arguments are. -/
namespace Go.Proofs.YtnnbelmpbmfdnaaGreatDoor
open Go Go.ChangeShapes Go.WideShapes Go.ChangeAt Go.RowKit
theorem cells_3 : Tryz.prog.cellsOf 3 = 1 := by kernel_rfl
theorem cells_9 : Tryz.prog.cellsOf 9 = 1 := by kernel_rfl
theorem cells_22 : Tryz.prog.cellsOf 22 = 1 := by kernel_rfl
theorem cells_94 : Tryz.prog.cellsOf 94 = 5 := by kernel_rfl
def okAct (N : Nat) (_p : HP) (z : Ac0) : Prop := (-9223372036854775808 ≤ z.1 ∧ z.1 ≤ 9223372036854775807) ∧ (-9223372036854775808 ≤ z.2.1 ∧ z.2.1 ≤ 9223372036854775807) ∧ (-9223372036854775808 ≤ z.2.2.1 ∧ z.2.2.1 ≤ 9223372036854775807) ∧ z.2.2.2.1.length ≤ N ∧ isCell z.2.2.2.2 = true
set_option maxRecDepth 100000 in
theorem dec_Act {H : Type} {enc : TypeId × Value → H} {W : World} {N : Nat} (n : Nat) (cs : List Value) (y : DataW H × List MemPlace) (h : Reads enc Tryz.prog W n 94 cs y) (hb : Rows.uptoBulk y.1 ≤ N) : ∃ z : Ac0, cs = ac0C z ∧ okAct N (Old W) z := by
  obtain ⟨xs, m, -, rfl, hlen, hxs, hf⟩ := DataW.trod_struct Tryz.underlying94 h
  rw [cells_94] at hlen
  obtain ⟨a0, a1, a2, a3, a4, rfl⟩ : ∃ a0 a1 a2 a3 a4, cs = [a0, a1, a2, a3, a4] := by
    match cs, hlen with
    | [a0, a1, a2, a3, a4], _ => exact ⟨a0, a1, a2, a3, a4, rfl⟩
  obtain ⟨y0, y1, y2, y3, y4, rfl⟩ : ∃ y0 y1 y2 y3 y4, xs = [y0, y1, y2, y3, y4] := by
    match xs, hxs with
    | [y0, y1, y2, y3, y4], _ => exact ⟨y0, y1, y2, y3, y4, rfl⟩
  have f0 := hf 0 _ rfl
  have g0 : Reads enc Tryz.prog W m 3 (([a0, a1, a2, a3, a4] : List Value).drop 0 |>.take (Tryz.prog.cellsOf 3)) y0 := f0
  rw [cells_3] at g0
  have b0 : Rows.uptoBulk y0.1 ≤ N := bulk_agg hb (by simp)
  obtain ⟨z0, e0, q0⟩ := dec_int' Tryz.underlying3 g0
  simp at e0
  have f1 := hf 1 _ rfl
  have g1 : Reads enc Tryz.prog W m 3 (([a0, a1, a2, a3, a4] : List Value).drop 1 |>.take (Tryz.prog.cellsOf 3)) y1 := f1
  rw [cells_3] at g1
  have b1 : Rows.uptoBulk y1.1 ≤ N := bulk_agg hb (by simp)
  obtain ⟨z1, e1, q1⟩ := dec_int' Tryz.underlying3 g1
  simp at e1
  have f2 := hf 2 _ rfl
  have g2 : Reads enc Tryz.prog W m 3 (([a0, a1, a2, a3, a4] : List Value).drop 2 |>.take (Tryz.prog.cellsOf 3)) y2 := f2
  rw [cells_3] at g2
  have b2 : Rows.uptoBulk y2.1 ≤ N := bulk_agg hb (by simp)
  obtain ⟨z2, e2, q2⟩ := dec_int' Tryz.underlying3 g2
  simp at e2
  have f3 := hf 3 _ rfl
  have g3 : Reads enc Tryz.prog W m 9 (([a0, a1, a2, a3, a4] : List Value).drop 3 |>.take (Tryz.prog.cellsOf 9)) y3 := f3
  rw [cells_9] at g3
  have b3 : Rows.uptoBulk y3.1 ≤ N := bulk_agg hb (by simp)
  obtain ⟨z3, e3, q3⟩ := dec_str Tryz.underlying9 g3 b3
  simp at e3
  have f4 := hf 4 _ rfl
  have g4 : Reads enc Tryz.prog W m 22 (([a0, a1, a2, a3, a4] : List Value).drop 4 |>.take (Tryz.prog.cellsOf 22)) y4 := f4
  rw [cells_22] at g4
  obtain ⟨z4, e4, q4⟩ : ∃ z : Value, a4 = z ∧ isCell z = true := ⟨_, rfl, slice_cell Tryz.underlying22 g4⟩
  subst e0
  subst e1
  subst e2
  subst e3
  replace e4 := e4.symm
  subst e4
  exact ⟨(z0, z1, z2, z3, z4), rfl, q0, q1, q2, q3, q4⟩
def okAct1 (N : Nat) (_p : HP) (z : Ac0) : Prop := (-9223372036854775808 ≤ z.1 ∧ z.1 ≤ 9223372036854775807) ∧ (-9223372036854775808 ≤ z.2.1 ∧ z.2.1 ≤ 9223372036854775807) ∧ (-9223372036854775808 ≤ z.2.2.1 ∧ z.2.2.1 ≤ 9223372036854775807) ∧ z.2.2.2.1.length ≤ N ∧ (∃ l : List Ac0, (∀ h : Hp, _p h → rdS 5 h z.2.2.2.2 l.length (l.flatMap (ac0C))) ∧ l.length ≤ N ∧ ∀ y ∈ l, okAct N _p y)
set_option maxRecDepth 100000 in
theorem dec_Act1 {H : Type} {enc : TypeId × Value → H} {W : World} {N : Nat} (n : Nat) (cs : List Value) (y : DataW H × List MemPlace) (h : Reads enc Tryz.prog W n 94 cs y) (hb : Rows.uptoBulk y.1 ≤ N) : ∃ z : Ac0, cs = ac0C z ∧ okAct1 N (Old W) z := by
  obtain ⟨xs, m, -, rfl, hlen, hxs, hf⟩ := DataW.trod_struct Tryz.underlying94 h
  rw [cells_94] at hlen
  obtain ⟨a0, a1, a2, a3, a4, rfl⟩ : ∃ a0 a1 a2 a3 a4, cs = [a0, a1, a2, a3, a4] := by
    match cs, hlen with
    | [a0, a1, a2, a3, a4], _ => exact ⟨a0, a1, a2, a3, a4, rfl⟩
  obtain ⟨y0, y1, y2, y3, y4, rfl⟩ : ∃ y0 y1 y2 y3 y4, xs = [y0, y1, y2, y3, y4] := by
    match xs, hxs with
    | [y0, y1, y2, y3, y4], _ => exact ⟨y0, y1, y2, y3, y4, rfl⟩
  have f0 := hf 0 _ rfl
  have g0 : Reads enc Tryz.prog W m 3 (([a0, a1, a2, a3, a4] : List Value).drop 0 |>.take (Tryz.prog.cellsOf 3)) y0 := f0
  rw [cells_3] at g0
  have b0 : Rows.uptoBulk y0.1 ≤ N := bulk_agg hb (by simp)
  obtain ⟨z0, e0, q0⟩ := dec_int' Tryz.underlying3 g0
  simp at e0
  have f1 := hf 1 _ rfl
  have g1 : Reads enc Tryz.prog W m 3 (([a0, a1, a2, a3, a4] : List Value).drop 1 |>.take (Tryz.prog.cellsOf 3)) y1 := f1
  rw [cells_3] at g1
  have b1 : Rows.uptoBulk y1.1 ≤ N := bulk_agg hb (by simp)
  obtain ⟨z1, e1, q1⟩ := dec_int' Tryz.underlying3 g1
  simp at e1
  have f2 := hf 2 _ rfl
  have g2 : Reads enc Tryz.prog W m 3 (([a0, a1, a2, a3, a4] : List Value).drop 2 |>.take (Tryz.prog.cellsOf 3)) y2 := f2
  rw [cells_3] at g2
  have b2 : Rows.uptoBulk y2.1 ≤ N := bulk_agg hb (by simp)
  obtain ⟨z2, e2, q2⟩ := dec_int' Tryz.underlying3 g2
  simp at e2
  have f3 := hf 3 _ rfl
  have g3 : Reads enc Tryz.prog W m 9 (([a0, a1, a2, a3, a4] : List Value).drop 3 |>.take (Tryz.prog.cellsOf 9)) y3 := f3
  rw [cells_9] at g3
  have b3 : Rows.uptoBulk y3.1 ≤ N := bulk_agg hb (by simp)
  obtain ⟨z3, e3, q3⟩ := dec_str Tryz.underlying9 g3 b3
  simp at e3
  have f4 := hf 4 _ rfl
  have g4 : Reads enc Tryz.prog W m 22 (([a0, a1, a2, a3, a4] : List Value).drop 4 |>.take (Tryz.prog.cellsOf 22)) y4 := f4
  rw [cells_22] at g4
  have b4 : Rows.uptoBulk y4.1 ≤ N := bulk_agg hb (by simp)
  obtain ⟨w4, e4, q4⟩ := dec_sliceU (N := N) (ac0C) (fun y => okAct N (Old W) y) Tryz.underlying22 cells_94 (by decide) (fun n cs y h hb => dec_Act n cs y h hb) g4 b4
  simp at e4
  obtain ⟨z4, l4⟩ := w4
  dsimp only at e4 q4
  subst e0
  subst e1
  subst e2
  subst e3
  replace e4 := e4.symm
  subst e4
  exact ⟨(z0, z1, z2, z3, z4), rfl, q0, q1, q2, q3, ⟨l4, q4⟩⟩
theorem acts1_of {p : HP} {v : Value} {xs : List Ac0} (q : (∀ h : Hp, p h → rdS 5 h v xs.length (xs.flatMap ac0C)) ∧ xs.length ≤ 1048576 ∧ ∀ y ∈ xs, okAct1 1048576 p y) : Acts1 p v xs := by
  obtain ⟨q1, q2, q3⟩ := q
  refine ⟨⟨q1, q2, fun a ha => ?_⟩, fun a ha => ?_⟩
  · obtain ⟨h1, h2, h3, h4, -⟩ := q3 a ha
    exact ⟨h1, h2, h3, h4⟩
  · obtain ⟨-, -, -, -, l, g1, g2, g3⟩ := q3 a ha
    refine ⟨l, ⟨g1, g2, fun s hs => ?_⟩, fun s hs => (g3 s hs).2.2.2.2⟩
    obtain ⟨h1, h2, h3, h4, -⟩ := g3 s hs
    exact ⟨h1, h2, h3, h4⟩
end Go.Proofs.YtnnbelmpbmfdnaaGreatDoor

/- Own work: treeAgain: the walk, brought to the given second form and its card. -/

namespace Go.Proofs.YtnnbelmpbmfdnaaGreatDoor.treeAgain
open Go Go.ChangeShapes Go.WideShapes Go.ChangeAt Go.RowKit
theorem own : ownKnob Tryz.prog.godebug = none := by kernel_rfl
theorem laid : laidOutB Tryz.prog = true := by kernel_rfl
theorem readable : ∀ t ∈ Tryz.f6.params.toList, Tryz.prog.readableRec t = true ∧ t < Tryz.prog.types.size := by
  have h : (Tryz.f6.params.toList.all fun t => Tryz.prog.readableRec t && decide (t < Tryz.prog.types.size)) = true := by kernel_rfl
  intro t ht
  simpa using List.all_eq_true.1 h t ht
set_option maxRecDepth 100000 in
theorem contract (H : Type) (enc : TypeId × Value → H) (W : World) (base : Nat) (args : Array Value) (ds gs : List (DataW H)) (before : List MemPlace)
    (hval : ∀ (j : Nat) t v, Tryz.f6.params[j]? = some t → args[j]? = some v → Value.okWide Tryz.prog W .any base t v)
    (hW : DataW.Whole enc Tryz.prog Tryz.f6.params.toList Rows.treeAgainSpec.vars false W args.toList ds gs before) (hk : Rows.uptoSmall H (ds ++ gs) = true) :
    Calls Tryz.prog 6 args W fun e W' => ∃ v, e = .returned v ∧ Rows.treeAgainSpec.post enc Tryz.prog Tryz.f6 false true false false W args v W' := by
  have hW' := hW
  obtain ⟨p, q, hA, hV, rfl, hfz, hnd⟩ := hW
  obtain ⟨rfl, -⟩ := trodVars_none hV
  rw [List.append_nil] at hk
  have hpar : Tryz.f6.params = #[22, 3, 3] := Tryz.params6
  rw [hpar] at hval
  have hA' := hA
  rw [hpar] at hA'
  obtain ⟨v0, vs0, d0, ds0, p0, r0, ha0, rfl, rfl, h0, t0⟩ := trodAll_cons hA'
  obtain ⟨v1, vs1, d1, ds1, p1, r1, ha1, rfl, rfl, h1, t1⟩ := trodAll_cons t0
  obtain ⟨v2, vs2, d2, ds2, p2, r2, ha2, rfl, rfl, h2, t2⟩ := trodAll_cons t1
  obtain ⟨hv, rfl, rfl⟩ := trodAll_nil t2
  obtain rfl : args = #[v0, v1, v2] := by
    have e : args.toList = [v0, v1, v2] := by rw [ha0, ha1, ha2, hv]
    cases args; simp_all
  have b0 := bulk_small hk (d := d0) (by simp)
  obtain ⟨ad0, nn0, cp0, rfl⟩ := okWide_slice Tryz.underlying22 (hval 0 _ _ rfl rfl)
  obtain ⟨fu0, g0⟩ := h0
  obtain ⟨z0, e0, q0⟩ := dec_sliceU (N := 1048576) (ac0C) (fun y => okAct1 1048576 (Old W) y) Tryz.underlying22 cells_94 (by decide) (fun n cs y h hb => dec_Act1 n cs y h hb) g0 b0
  simp [Value.cells] at e0
  obtain ⟨v0, xs0⟩ := z0
  dsimp only at e0 q0
  subst e0
  have b1 := bulk_small hk (d := d1) (by simp)
  obtain ⟨n1, rfl, -, q1⟩ := arg_int Tryz.underlying3 (hval 1 _ _ rfl rfl) h1
  have b2 := bulk_small hk (d := d2) (by simp)
  obtain ⟨n2, rfl, -, q2⟩ := arg_int Tryz.underlying3 (hval 2 _ _ rfl rfl) h2
  refine (old_calls (tagain7_spec _ xs0 n1 n2 (Old W) (acts1_of q0) q1 q2)).mono fun e W' ⟨he, hb⟩ => ⟨_, he, ?_⟩
  exact settled hW' rfl (fun gs' h => by subst h; rfl) rfl Tryz.underlying4 laid readable hb
/-- A world for the witness: the two tables that the row lists, as they are laid. -/
def cellsTo (l : List Value) : Obj → Obj
  | .cells _ t frozen => .cells l.toArray t frozen
  | o => o
noncomputable def laidWorld (os : Os) : World :=
  let w := World.holding Tryz.prog os ⟨#[], #[], []⟩
  { w with heap := (w.heap.modify 1 (cellsTo (Pinned.utf8FirstZ.map fun (n : Nat) => Value.int .u8 n))).modify 2 (cellsTo [.int .u8 128, .int .u8 191, .int .u8 160, .int .u8 191, .int .u8 128, .int .u8 159, .int .u8 144, .int .u8 191, .int .u8 128, .int .u8 143, .int .u8 0, .int .u8 0, .int .u8 0, .int .u8 0, .int .u8 0, .int .u8 0, .int .u8 0, .int .u8 0, .int .u8 0, .int .u8 0, .int .u8 0, .int .u8 0, .int .u8 0, .int .u8 0, .int .u8 0, .int .u8 0, .int .u8 0, .int .u8 0, .int .u8 0, .int .u8 0, .int .u8 0, .int .u8 0]) }
theorem laid_met (os : Os) : laidMet Tryz.prog Rows.treeAgainUptoRow.laid ((laidWorld os).forCall (fun _ _ => 0) ⟨#[], #[.slice none 0 0, .int .i64 0, .int .i64 0], []⟩).memory :=
  laidMet_of_run' 8 (by kernel_rfl) (by kernel_rfl)
theorem reads (os : Os) {H : Type} (enc : TypeId × Value → H) : ∃ places, DataW.whole enc Tryz.prog ((laidWorld os).forCall (fun _ _ => 0) ⟨#[], #[.slice none 0 0, .int .i64 0, .int .i64 0], []⟩).memory Tryz.f6.params.toList Rows.treeAgainSpec.vars false (#[.slice none 0 0, .int .i64 0, .int .i64 0] : Array Value).toList 8 = some ([.nil, .lit (.int .i64 0), .lit (.int .i64 0)], [], places) :=
  ⟨[], by kernel_rfl⟩
set_option maxRecDepth 100000 in
theorem lifted (os : Os) (started : os.Started) (H : Type) (enc : TypeId × Value → H) (F : Stop.Interp) :
    ReturnsInHanded {} Tryz.checked os 6 .any ((Rows.OpenSpec.upto Rows.treeAgainSpec).preRow enc Tryz.prog Tryz.f6 Rows.treeAgainUptoRow.domain false Rows.treeAgainUptoRow.laid) (((Rows.OpenSpec.upto Rows.treeAgainSpec).at F).post enc Tryz.prog Tryz.f6 false true false false) := by
  obtain ⟨places, hx⟩ := reads os enc
  refine returnsInHanded_of_row (C := Tryz.checked) (s := Rows.OpenSpec.upto Rows.treeAgainSpec) own started (by kernel_rfl) Tryz.func6
    (witness_row_at (enc := enc) (C := Tryz.checked) false (laidWorld os) #[.slice none 0 0, .int .i64 0, .int .i64 0] rfl (by kernel_rfl) (by kernel_rfl) (by kernel_rfl)
      (OpenSpec.preRow_of_cond 8 hx (by kernel_rfl) (fun k hk => by cases hk; kernel_rfl) (by kernel_rfl) (laid_met os))) ?_
  intro W base args ds gs before hval hW _ hcond _ _ _ _
  exact contract H enc W base args ds gs before hval hW (hcond _ rfl)
theorem saidUpto : Rows.TreeAgainUptoSaid :=
  OpenClaim.holds_of_cond 6 Tryz.f6 rfl rfl rfl rfl rfl rfl rfl ⟨rfl, rfl, rfl, rfl, rfl⟩ rfl rfl rfl rfl rfl (by kernel_rfl) Tryz.func6 (by kernel_rfl)
    (of_decide_eq_true (by kernel_rfl)) (by unfold Func.isWrapper; first | (rw [if_pos (by decide +kernel)]; kernel_rfl) | (rw [if_neg (by decide +kernel)]; exact ⟨rfl, rfl⟩))
    (fun os started H enc _ F => by rw [OpenClaim.pre_eq_preRow]; exact lifted os started H enc F)
theorem plain (f : FuncId) (fn : Func) (hf : Tryz.pinned.checked.prog.funcNamed "arboretum/arboretumlaw07.TreeAgain" = some f) (hfn : Tryz.pinned.checked.prog.funcs[f]? = some fn) :
    true = Tryz.pinned.checked.prog.looks [] ∧ ∀ (j : Nat) t, fn.params[j]? = some t → Tryz.pinned.checked.prog.wantsStandIn t = false := by
  obtain rfl : f = 6 := Option.some.inj ((show Tryz.prog.funcNamed "arboretum/arboretumlaw07.TreeAgain" = some 6 by kernel_rfl).symm.trans hf) |>.symm
  obtain rfl : fn = Tryz.f6 := (Option.some.inj (Tryz.func6.symm.trans hfn)).symm
  refine ⟨by kernel_rfl, fun j t ht => ?_⟩
  have h : (Tryz.f6.params.toList.all fun t => !Tryz.pinned.checked.prog.wantsStandIn t) = true := by kernel_rfl
  have h2 := List.all_eq_true.1 h t (Array.mem_def.1 (Array.mem_of_getElem? ht))
  simpa using h2
theorem proved : Rows.TreeAgainUptoCardSaid :=
  Claim7.holds_tied_plain_at .later [] _ _ _ _ saidUpto (fun _ h => by cases h) (by kernel_rfl) (fun _ h => by cases h) treeAgainUpto_row_tie rfl ⟨rfl, rfl⟩ (by kernel_rfl) rfl plain (by kernel_rfl)
end Go.Proofs.YtnnbelmpbmfdnaaGreatDoor.treeAgain

