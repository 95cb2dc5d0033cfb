/- Own work, some of it printed by program, texts that were built one by one: a part of the proof of snapRestores.proved. -/
import Derived.Test.YtgppfpmmijbncaaGreatDoorCSRestP2
import Derived.Test.YtgppfpmmijbncaaGreatDoorCSRestP1
set_option maxRecDepth 100000
namespace Go.Proofs.YtgppfpmmijbncaaGreatDoor
open Go
def wD (p : Bs) (l : List Pz) : Prop := ∃ x ∈ l, x.1.kind = 3 ∧ x.1.path = p
def wA (p : Bs) (l : List Pz) : Prop := ∃ x ∈ l, x.1.kind = 4 ∧ x.1.path = p
def wK (p : Bs) (l : List Pz) : Prop := ∃ x ∈ l, (x.1.kind = 1 ∨ x.1.kind = 2) ∧ parentZ x.1.path = p
def gR (p : Bs) (l : List Pz) (g s : Nd) : Prop := (gD g = gD s ∨ wD p l) ∧ (gA g = gA s ∨ wA p l) ∧ (gK g = gK s ∨ wK p l) ∧ core g = core s
theorem gR.same (p : Bs) (l : List Pz) (g : Nd) : gR p l g g := ⟨.inl rfl, .inl rfl, .inl rfl, rfl⟩
theorem gR.tail {p : Bs} {x : Pz} {l : List Pz} {g s : Nd} (h : gR p (x :: l) g s) (hD : ¬ (x.1.kind = 3 ∧ x.1.path = p)) (hA : ¬ (x.1.kind = 4 ∧ x.1.path = p)) (hK : ¬ ((x.1.kind = 1 ∨ x.1.kind = 2) ∧ parentZ x.1.path = p)) : gR p l g s := by
 have key : ∀ {φ : Pz → Prop}, ¬ φ x → (∃ y ∈ x :: l, φ y) → ∃ y ∈ l, φ y := fun {φ} hn ⟨y, hy, e⟩ => by
  rcases List.mem_cons.1 hy with rfl | hy
  ·exact absurd e hn
  ·exact ⟨y, hy, e⟩
 exact ⟨h.1.imp id (key hD), h.2.1.imp id (key hA), h.2.2.1.imp id (key hK), h.2.2.2⟩
theorem gR.kid {p : Bs} {x : Pz} {l : List Pz} {g s : Nd} (h : gR p (x :: l) g s) (hx : x.1.kind = 1 ∨ x.1.kind = 2) (num z : Int) : gR p l (kidN num z g) (kidN num z s) := by
 have key : ∀ {φ : Pz → Prop}, ¬ φ x → (∃ y ∈ x :: l, φ y) → ∃ y ∈ l, φ y := fun {φ} hn ⟨y, hy, e⟩ => by
  rcases List.mem_cons.1 hy with rfl | hy
  ·exact absurd e hn
  ·exact ⟨y, hy, e⟩
 exact ⟨h.1.imp id (key (by omega)), h.2.1.imp id (key (by omega)), .inl rfl, h.2.2.2⟩
theorem gR.set {p : Bs} {x : Pz} {l : List Pz} {g s : Nd} (h : gR p (x :: l) g s) (hx : x.1.kind = 3) (d : Bs) (num z : Int) : gR p l (setN d num z g) (setN d num z s) := by
 have key : ∀ {φ : Pz → Prop}, ¬ φ x → (∃ y ∈ x :: l, φ y) → ∃ y ∈ l, φ y := fun {φ} hn ⟨y, hy, e⟩ => by
  rcases List.mem_cons.1 hy with rfl | hy
  ·exact absurd e hn
  ·exact ⟨y, hy, e⟩
 exact ⟨.inl rfl, h.2.1.imp id (key (by omega)), h.2.2.1.imp id (key (by omega)), h.2.2.2⟩
theorem gR.acl {p : Bs} {x : Pz} {l : List Pz} {g s : Nd} (h : gR p (x :: l) g s) (hx : x.1.kind = 4) (a : List Ac) (num : Int) : gR p l (aclN a num g) (aclN a num s) := by
 have key : ∀ {φ : Pz → Prop}, ¬ φ x → (∃ y ∈ x :: l, φ y) → ∃ y ∈ l, φ y := fun {φ} hn ⟨y, hy, e⟩ => by
  rcases List.mem_cons.1 hy with rfl | hy
  ·exact absurd e hn
  ·exact ⟨y, hy, e⟩
 exact ⟨h.1.imp id (key (by omega)), .inl rfl, h.2.2.1.imp id (key (by omega)), h.2.2.2⟩
structure Tw (S G : Tr) (l : List Pz) : Prop where
 a : ∀ p s, alook S.nodes p = some s → ¬ delIn p l → ∃ g, alook G.nodes p = some g ∧ gR p l g s
 b : ∀ p, thereT G p → (thereT S p ∧ ¬ delIn p l) ∨ creIn p l ∨ delIn p l
theorem Tw.step {S G : Tr} (hc : Cl S) {x : Pz} {l : List Pz} (hf : findsZ S x.1 = true) (hs : soundR (partZ S x.1 x.2).1 l) (h : Tw S G (x :: l)) : Tw (partZ S x.1 x.2).1 (partZ G x.1 x.2).1 l := by
 have hth := there_part hc (z := x.2) hf
 have hc' := hc.part (z := x.2) hf
 rcases finds_kind hf with ⟨h1, ha, hn, hu⟩ | ⟨h2, hr, ht, hk⟩ | ⟨h3, ht⟩
 ·
  simp only [if_pos h1] at hth
  have hnd : ∀ q, delIn q (x :: l) ↔ delIn q l := fun q => ⟨fun g => (del_or g).resolve_left (by rintro ⟨g, -⟩; omega), fun ⟨y, hy, e⟩ => ⟨y, List.mem_cons_of_mem _ hy, e⟩⟩
  by_cases hG : thereT G (parentZ x.1.path)
  ·refine ⟨fun p s hp hd => ?_, fun p hp => ?_⟩
   ·rw [create_at h1 ha hu] at hp
    rw [create_at h1 ha hG]
    by_cases e2 : p = x.1.path
    ·have hpu : ¬ p = parentZ x.1.path := fun e => by
      have := parent_lt ha
      rw [← e, ← e2] at this; exact linB.irr _ this
     rw [if_neg hpu, if_pos e2] at hp ⊢
     cases hp
     exact ⟨_, rfl, gR.same _ _ _⟩
    ·rw [if_neg e2] at hp ⊢
     by_cases e1 : p = parentZ x.1.path
     ·rw [if_pos e1] at hp ⊢
      obtain ⟨s0, hs0, rfl⟩ := map_some hp
      obtain ⟨g, k1, k3⟩ := h.a p s0 hs0 (fun g => hd ((hnd p).1 g))
      rw [k1]
      exact ⟨_, rfl, k3.kid (.inl h1) _ _⟩
     ·rw [if_neg e1] at hp ⊢
      obtain ⟨g, k1, k3⟩ := h.a p s hp (fun g => hd ((hnd p).1 g))
      exact ⟨g, k1, k3.tail (by omega) (by omega) (fun g => e1 g.2.symm)⟩
   ·have hp' : p = x.1.path ∨ thereT G p := by
     by_cases e2 : p = x.1.path
     ·exact .inl e2
     ·right
      unfold thereT at hp ⊢
      rw [create_at h1 ha hG, if_neg e2] at hp
      split at hp
      ·simpa using hp
      ·exact hp
    by_cases e2 : p = x.1.path
    ·by_cases hd : delIn p l
     ·exact .inr (.inr hd)
     ·exact .inl ⟨(hth p).2 (.inl e2), hd⟩
    ·rcases h.b p (hp'.resolve_left e2) with ⟨k1, k2⟩ | k | k
     ·exact .inl ⟨(hth p).2 (.inr k1), fun g => k2 ((hnd p).2 g)⟩
     ·exact .inr (.inl ((cre_or k).resolve_left (fun g => e2 g.2.symm)))
     ·exact .inr (.inr ((hnd p).1 k))
  ·
   have hsame : (partZ G x.1 x.2).1 = G := by
    unfold partZ createZ
    rw [if_pos h1, if_neg (fun g => hG g.2)]
   have hdu : delIn (parentZ x.1.path) l := by
    apply Classical.byContradiction
    intro g
    obtain ⟨n, hn2⟩ := there_some.1 hu
    obtain ⟨g0, k1, -⟩ := h.a _ n hn2 (fun k => g ((hnd _).1 k))
    exact hG (there_some.2 ⟨g0, k1⟩)
   have hdp : delIn x.1.path l := kid_goes hc' hs ((hth _).2 (.inl rfl)) ha.1 hdu
   rw [hsame]
   refine ⟨fun p s hp hd => ?_, fun p hp => ?_⟩
   ·rw [create_at h1 ha hu] at hp
    by_cases e2 : p = x.1.path
    ·exact absurd (by rw [e2]; exact hdp) hd
    ·rw [if_neg e2] at hp
     by_cases e1 : p = parentZ x.1.path
     ·exact absurd (by rw [e1]; exact hdu) hd
     ·rw [if_neg e1] at hp
      obtain ⟨g, k1, k3⟩ := h.a p s hp (fun g => hd ((hnd p).1 g))
      exact ⟨g, k1, k3.tail (by omega) (by omega) (fun g => e1 g.2.symm)⟩
   ·rcases h.b p hp with ⟨k1, k2⟩ | k | k
    ·exact .inl ⟨(hth p).2 (.inr k1), fun g => k2 ((hnd p).2 g)⟩
    ·rcases cre_or k with ⟨-, e⟩ | k
     ·exact .inr (.inr (by rw [← e]; exact hdp))
     ·exact .inr (.inl k)
    ·exact .inr (.inr ((hnd p).1 k))
 ·
  have hk1 : ¬ x.1.kind = 1 := by omega
  simp only [if_neg hk1, if_pos h2] at hth
  have ha := hc.able _ ht hr
  refine ⟨fun p s hp hd => ?_, fun p hp => ?_⟩
  ·have hpt : thereT (partZ S x.1 x.2).1 p := there_some.2 ⟨s, hp⟩
   obtain ⟨hpS, hpne⟩ := (hth p).1 hpt
   have hhit : hitT p x.1.path = false := by
    cases e : hitT p x.1.path with
    | false => rfl
    | true => exact absurd (no_below hc ha hk _ p (Nat.le_refl _) hpS e) hpne
   have hd2 : ¬ delIn p (x :: l) := fun g => (del_or g).elim (fun g => hpne g.2.symm) hd
   rw [erase_at h2 ha, hhit] at hp
   rw [erase_at h2 ha, hhit]
   by_cases e1 : p = parentZ x.1.path
   ·rw [if_pos e1] at hp ⊢
    obtain ⟨s0, hs0, rfl⟩ := map_some hp
    obtain ⟨g, k1, k3⟩ := h.a p s0 hs0 hd2
    refine ⟨_, ?_, k3.kid (.inr h2) _ _⟩
    rw [if_neg (by decide), k1]; rfl
   ·rw [if_neg e1] at hp ⊢
    obtain ⟨g, k1, k3⟩ := h.a p s hp hd2
    exact ⟨g, k1, k3.tail (by omega) (by omega) (fun g => e1 g.2.symm)⟩
  ·have hp' : thereT G p ∧ hitT p x.1.path = false := by
    unfold thereT at hp ⊢
    rw [erase_at h2 ha] at hp
    cases e : hitT p x.1.path with
    | false => rw [e] at hp; split at hp <;> simpa using hp
    | true => rw [e] at hp; split at hp <;> simp at hp
   have hpne : p ≠ x.1.path := fun e => by rw [e, hit_self] at hp'; exact absurd hp'.2 (by decide)
   rcases h.b p hp'.1 with ⟨k1, k2⟩ | k | k
   ·exact .inl ⟨(hth p).2 ⟨k1, hpne⟩, not_del k2⟩
   ·exact .inr (.inl ((cre_or k).resolve_left (fun g => hpne g.2.symm)))
   ·exact .inr (.inr ((del_or k).resolve_left (fun g => hpne g.2.symm)))
 ·
  have hk1 : ¬ x.1.kind = 1 := by omega
  have hk2 : ¬ x.1.kind = 2 := by omega
  simp only [if_neg hk1, if_neg hk2] at hth
  have hnd : ∀ q, delIn q (x :: l) ↔ delIn q l := fun q => ⟨fun g => (del_or g).resolve_left (by rintro ⟨g, -⟩; omega), fun ⟨y, hy, e⟩ => ⟨y, List.mem_cons_of_mem _ hy, e⟩⟩
  have hthG : ∀ q, thereT (partZ G x.1 x.2).1 q ↔ thereT G q := by
   intro q
   by_cases hG : thereT G x.1.path
   ·unfold thereT
    rcases h3 with h3 | h4
    ·rw [set_at h3 hG]; split <;> simp
    ·rw [acl_at h4 hG]; split <;> simp
   ·have : (partZ G x.1 x.2).1 = G := by
     unfold partZ
     rw [if_neg hk1, if_neg hk2, if_neg (fun g => hG g.2), if_neg (fun g => hG g.2)]
    rw [this]
  refine ⟨fun p s hp hd => ?_, fun p hp => ?_⟩
  ·have hd2 : ¬ delIn p (x :: l) := fun g => hd ((hnd p).1 g)
   have key : ∀ (F1 : Nd → Nd), (∀ q, alook (partZ S x.1 x.2).1.nodes q = if q = x.1.path then (alook S.nodes q).map F1 else alook S.nodes q) → (thereT G x.1.path → ∀ q, alook (partZ G x.1 x.2).1.nodes q = if q = x.1.path then (alook G.nodes q).map F1 else alook G.nodes q) → (∀ g s, gR p (x :: l) g s → gR p l (F1 g) (F1 s)) → ∃ g, alook (partZ G x.1 x.2).1.nodes p = some g ∧ gR p l g s := by
    intro F1 kS kG kF
    rw [kS] at hp
    by_cases e : p = x.1.path
    ·rw [if_pos e] at hp
     obtain ⟨s0, hs0, rfl⟩ := map_some hp
     obtain ⟨g, k1, k3⟩ := h.a p s0 hs0 hd2
     refine ⟨F1 g, ?_, kF _ _ k3⟩
     rw [kG (there_some.2 ⟨g, by rw [← e]; exact k1⟩), if_pos e, k1]; rfl
    ·rw [if_neg e] at hp
     obtain ⟨g, k1, k3⟩ := h.a p s hp hd2
     refine ⟨g, ?_, k3.tail (fun g => e g.2.symm) (fun g => e g.2.symm) (by omega)⟩
     by_cases hG : thereT G x.1.path
     ·rw [kG hG, if_neg e]; exact k1
     ·have : (partZ G x.1 x.2).1 = G := by
       unfold partZ
       rw [if_neg hk1, if_neg hk2, if_neg (fun g => hG g.2), if_neg (fun g => hG g.2)]
      rw [this]; exact k1
   rcases h3 with h3 | h4
   ·exact key _ (fun q => set_at h3 ht q) (fun hG q => set_at h3 hG q) (fun g s k => k.set h3 _ _ _)
   ·exact key _ (fun q => acl_at h4 ht q) (fun hG q => acl_at h4 hG q) (fun g s k => k.acl h4 _ _)
  ·rcases h.b p ((hthG p).1 hp) with ⟨k1, k2⟩ | k | k
   ·exact .inl ⟨(hth p).2 k1, fun g => k2 ((hnd p).2 g)⟩
   ·exact .inr (.inl ((cre_or k).resolve_left (by rintro ⟨g, -⟩; exact hk1 g)))
   ·exact .inr (.inr ((hnd p).1 k))
theorem Tw.run : ∀ {l : List Pz} {S G : Tr}, Cl S → soundR S l → Tw S G l → ∀ p, alook (runT G l).nodes p = alook (runT S l).nodes p
 | [], S, G, _, _, h, p => by
  show alook G.nodes p = alook S.nodes p
  rcases e : alook S.nodes p with _ | s
  ·rcases e2 : alook G.nodes p with _ | g
   ·rfl
   ·rcases h.b p (there_some.2 ⟨g, e2⟩) with ⟨k, -⟩ | ⟨_, hy, -⟩ | ⟨_, hy, -⟩
    ·obtain ⟨n, hn⟩ := there_some.1 k
     rw [e] at hn; cases hn
    ·cases hy
    ·cases hy
  ·obtain ⟨g, k1, k3, k4, k5, k6⟩ := h.a p s e (fun ⟨_, hy, _⟩ => by cases hy)
   have no : ∀ {φ : Pz → Prop}, ¬ ∃ y ∈ ([] : List Pz), φ y := fun ⟨_, hy, _⟩ => by cases hy
   have : g = s := nd_same (k3.resolve_right no) (k4.resolve_right no) (k5.resolve_right no) k6
   rw [k1, this]
 | x :: l, S, G, hc, hs, h, p => Tw.run (hc.part hs.1) hs.2 (h.step hc hs.1 hs.2) p
theorem part_groups {τ : Tr} (hc : Cl τ) {x : Pz} (h : findsZ τ x.1 = true) {p : Bs} {n : Nd} (hp : alook τ.nodes p = some n) (hd : ¬ (x.1.kind = 2 ∧ x.1.path = p)) : ∃ m, alook (partZ τ x.1 x.2).1.nodes p = some m ∧ gR p [x] m n := by
 have one : ∀ {φ : Pz → Prop}, φ x → ∃ y ∈ [x], φ y := fun h => ⟨x, List.mem_singleton_self _, h⟩
 rcases finds_kind h with ⟨h1, ha, hn, hu⟩ | ⟨h2, hr, ht, hk⟩ | ⟨h3, ht⟩
 ·rw [create_at h1 ha hu]
  have hne : ¬ p = x.1.path := fun e => hn (by rw [← e]; exact there_some.2 ⟨n, hp⟩)
  rw [if_neg hne, hp]
  split
  ·rename_i e; exact ⟨_, rfl, .inl rfl, .inl rfl, .inr (one ⟨.inl h1, e.symm⟩), rfl⟩
  ·exact ⟨_, rfl, gR.same _ _ _⟩
 ·have ha := hc.able _ ht hr
  rw [erase_at h2 ha]
  have hne : hitT p x.1.path = false := by
   cases e : hitT p x.1.path with
   | false => rfl
   | true => exact absurd ⟨h2, (no_below hc ha hk _ p (Nat.le_refl _) (there_some.2 ⟨n, hp⟩) e).symm⟩ hd
  rw [hne, hp]
  split
  ·rename_i e; exact ⟨_, rfl, .inl rfl, .inl rfl, .inr (one ⟨.inr h2, e.symm⟩), rfl⟩
  ·exact ⟨_, rfl, gR.same _ _ _⟩
 ·rcases h3 with h3 | h4
  ·rw [set_at h3 ht, hp]
   split
   ·rename_i e; exact ⟨_, rfl, .inr (one ⟨h3, e.symm⟩), .inl rfl, .inl rfl, rfl⟩
   ·exact ⟨_, rfl, gR.same _ _ _⟩
  ·rw [acl_at h4 ht, hp]
   split
   ·rename_i e; exact ⟨_, rfl, .inl rfl, .inr (one ⟨h4, e.symm⟩), .inl rfl, rfl⟩
   ·exact ⟨_, rfl, gR.same _ _ _⟩
theorem run_groups : ∀ {l : List Pz} {τ : Tr}, Cl τ → soundR τ l → ∀ {p : Bs} {n : Nd}, alook τ.nodes p = some n → ¬ delIn p l → ∃ m, alook (runT τ l).nodes p = some m ∧ gR p l m n
 | [], _, _, _, _, n, hp, _ => ⟨n, hp, gR.same _ _ _⟩
 | x :: l, τ, hc, hs, p, n, hp, hd => by
  obtain ⟨m, h1, h2⟩ := part_groups hc hs.1 hp (fun e => hd ⟨x, List.mem_cons_self, e⟩)
  obtain ⟨k, h3, h4⟩ := run_groups (hc.part hs.1) hs.2 h1 (not_del hd)
  have up : ∀ {φ : Pz → Prop}, (∃ y ∈ [x], φ y) → ∃ y ∈ x :: l, φ y := fun ⟨y, hy, e⟩ => ⟨y, by rw [List.mem_singleton] at hy; rw [hy]; exact List.mem_cons_self, e⟩
  have up2 : ∀ {φ : Pz → Prop}, (∃ y ∈ l, φ y) → ∃ y ∈ x :: l, φ y := fun ⟨y, hy, e⟩ => ⟨y, List.mem_cons_of_mem _ hy, e⟩
  refine ⟨k, h3, ?_, ?_, ?_, h4.2.2.2.trans h2.2.2.2⟩
  ·rcases h4.1 with e | e
   ·rcases h2.1 with f | f
    ·exact .inl (e.trans f)
    ·exact .inr (up f)
   ·exact .inr (up2 e)
  ·rcases h4.2.1 with e | e
   ·rcases h2.2.1 with f | f
    ·exact .inl (e.trans f)
    ·exact .inr (up f)
   ·exact .inr (up2 e)
  ·rcases h4.2.2.1 with e | e
   ·rcases h2.2.2.1 with f | f
    ·exact .inl (e.trans f)
    ·exact .inr (up f)
   ·exact .inr (up2 e)
theorem soundR_left : ∀ {l m : List Pz} {τ : Tr}, soundR τ (l ++ m) → soundR τ l
 | [], _, _, _ => trivial
 | _ :: _, _, _, h => ⟨h.1, soundR_left h.2⟩
theorem Tw.mix {S G : Tr} (hc : Cl S) {l : List Pz} (hs : soundR S l) (hG : ∀ p, ∃ l1 l2, l = l1 ++ l2 ∧ alook G.nodes p = alook (runT S l1).nodes p) : Tw S G l := by
 refine ⟨fun p s hp hd => ?_, fun p hp => ?_⟩
 ·obtain ⟨l1, l2, rfl, e⟩ := hG p
  have hd1 : ¬ delIn p l1 := fun ⟨y, hy, g⟩ => hd ⟨y, List.mem_append_left _ hy, g⟩
  obtain ⟨m, h1, h2⟩ := run_groups hc (soundR_left hs) hp hd1
  have up : ∀ {φ : Pz → Prop}, (∃ y ∈ l1, φ y) → ∃ y ∈ l1 ++ l2, φ y := fun ⟨y, hy, e⟩ => ⟨y, List.mem_append_left _ hy, e⟩
  exact ⟨m, by rw [e, h1], h2.1.imp id up, h2.2.1.imp id up, h2.2.2.1.imp id up, h2.2.2.2⟩
 ·obtain ⟨l1, l2, rfl, e⟩ := hG p
  by_cases h1 : creIn p (l1 ++ l2)
  ·exact .inr (.inl h1)
  ·by_cases h2 : delIn p (l1 ++ l2)
   ·exact .inr (.inr h2)
   ·refine .inl ⟨run_from hc (soundR_left hs) (l := l1) ?_ fun ⟨y, hy, g⟩ => h1 ⟨y, List.mem_append_left _ hy, g⟩, h2⟩
    unfold thereT at hp ⊢
    rw [← e]; exact hp
/-! ### Histories -/
theorem flatL_app (l m : List En) : flatL (l ++ m) = flatL l ++ flatL m := List.flatMap_append
theorem appL_drop {es : List En} {k : Nat} (j : Nat) : appL (appL newT (es.take k)) ((es.drop k).take j) = appL newT (es.take (k + j)) := by
 unfold appL
 rw [← List.foldl_append, List.take_add]
theorem Ends.take {S : Tr} {l : List En} (h : Ends S l) (j : Nat) : Ends S (l.take j) := by
 refine ⟨h.K, fun i hi => ?_⟩
 rw [List.length_take] at hi
 obtain ⟨K, hK⟩ := h.each i (by omega)
 refine ⟨K, ?_⟩
 rw [List.take_take, Nat.min_eq_left (by omega), List.getElem_take]; exact hK
theorem Hist.zxAt {z0 : Int} {es : List En} {τ : Tr} (h : Hist z0 es τ) (k : Nat) (hk : k ≤ es.length) : (appL newT (es.take k)).zx = if k = 0 then 0 else z0 + (k : Int) - 1 := by
 rw [appL_zx]
 split
 ·rename_i e; subst e; rfl
 ·rename_i e
  have e1 : (es.take k).getLast? = some (es[k - 1]'(by omega)) := by
   rw [List.getLast?_eq_getElem?, List.length_take, Nat.min_eq_left hk, List.getElem?_take, if_pos (by omega), List.getElem?_eq_getElem (by omega)]
  rw [e1]
  show (es[k - 1]'(by omega)).zx = _
  rw [(h.at (k - 1) (by omega)).2]
  omega
theorem Hist.mixed {es : List En} {τ : Tr} (h : Hist 1 es τ) {b : Nat} (hb : b ≤ es.length) {G : Tr} {N : Nat} (hG : G.Ok N)
  (hn : ∀ p, ∃ j, b ≤ j ∧ j ≤ es.length ∧ alook G.nodes p = alook (appL newT (es.take j)).nodes p) (hs : ∃ j, b ≤ j ∧ j ≤ es.length ∧ G.sess = (appL newT (es.take j)).sess) (hz : G.zx = (appL newT (es.take b)).zx) : appL G (es.drop b) = τ := by
 have hE := h.ends hb
 obtain ⟨K, hK⟩ := hE.K
 obtain ⟨h1, h2, h3⟩ := ends_flat hE
 have hsz : ∀ e ∈ es.drop b, EnSz e := fun e he => by
  obtain ⟨i, hi, rfl⟩ := List.mem_iff_getElem.1 (List.mem_of_mem_drop he)
  exact (h.at i hi).1.shape.sz
 have hT : τ = appL (appL newT (es.take b)) (es.drop b) := by
  rw [h.tree]; unfold appL; rw [← List.foldl_append, List.take_append_drop]
 have hF := run_ok hK.ok hsz
 have hGo := run_ok hG hsz
 rw [hT]
 refine Tr.ext' (sorted_same linB hGo.sorted hF.sorted fun p => ?_) (sorted_same linI hGo.ssorted hF.ssorted fun i => ?_) ?_
 ·rw [h3, h2]
  refine Tw.run hK.cl h1 (Tw.mix hK.cl h1 fun p => ?_) p
  obtain ⟨j, hj1, hj2, e⟩ := hn p
  refine ⟨flatL ((es.drop b).take (j - b)), flatL ((es.drop b).drop (j - b)), by rw [← flatL_app, List.take_append_drop], ?_⟩
  rw [e, ← (ends_flat (hE.take (j - b))).2.1, appL_drop, show b + (j - b) = j by omega]
 ·rw [appL_sess, appL_sess]
  obtain ⟨j, hj1, hj2, e⟩ := hs
  have e2 : G.sess = sesL (appL newT (es.take b)).sess ((es.drop b).take (j - b)) := by
   rw [e, ← appL_sess, appL_drop, show b + (j - b) = j by omega]
  rw [e2]
  have key : ∀ (l m : List En) (s : List (Int × (Int × Bs))), alook (sesL (sesL s l) (l ++ m)) i = alook (sesL s (l ++ m)) i := fun l m s => by
   rcases sesL_at (l ++ m) i with g | ⟨r, g⟩
   ·rcases sesL_at l i with g1 | ⟨r, g1⟩
    ·rw [g, g, g1]
    ·have e3 : ∀ s, sesL s (l ++ m) = sesL (sesL s l) m := fun s => by unfold sesL; rw [List.foldl_append]
     rcases sesL_at m i with g2 | ⟨r2, g2⟩
     ·rw [e3, e3, g2, g2, g1, g1]
     ·rw [e3, e3, g2, g2]
   ·rw [g, g]
  have := key ((es.drop b).take (j - b)) ((es.drop b).drop (j - b)) (appL newT (es.take b)).sess
  rw [List.take_append_drop] at this
  exact this
 ·rw [appL_zx, appL_zx, hz]
/-! ### While it is laid -/
structure FzI (es : List En) (b i : Nat) (φ : Fz) : Prop where
 from' : φ.from' = (appL newT (es.take b)).zx
 sorted : SortedK φ.nds
 last : ∀ y ∈ φ.nds, ¬ lastP φ.nds < y.1
 at' : ∀ p, (φ.all = true ∨ ¬ lastP φ.nds < p) → ∃ j, b ≤ j ∧ j ≤ i ∧ alook φ.nds p = alook (appL newT (es.take j)).nodes p
 none' : φ.all = false → φ.ss = []
 done : φ.all = true → ∃ j, b ≤ j ∧ j ≤ i ∧ φ.ss = (appL newT (es.take j)).sess
 each : ∀ y ∈ φ.nds, ∃ j, j ≤ i ∧ alook (appL newT (es.take j)).nodes y.1 = some y.2
theorem FzI.more {es : List En} {b i k : Nat} {φ : Fz} (h : FzI es b i φ) (hk : i ≤ k) : FzI es b k φ :=
 ⟨h.from', h.sorted, h.last, fun p hp => (h.at' p hp).imp fun j hj => ⟨hj.1, by omega, hj.2.2⟩, h.none', fun ha => (h.done ha).imp fun j hj => ⟨hj.1, by omega, hj.2.2⟩, fun y hy => (h.each y hy).imp fun j hj => ⟨by omega, hj.2⟩⟩
theorem FzI.begin {es : List En} {b : Nat} {τ : Tr} (h : Hist 1 es τ) (hb : b ≤ es.length) : FzI es b b (beginZ (appL newT (es.take b))) := by
 refine ⟨rfl, by unfold SortedK beginZ; simp, fun y hy => (by cases hy), fun p hp => ⟨b, Nat.le_refl _, Nat.le_refl _, ?_⟩, fun _ => rfl, fun h => (by cases h), fun y hy => (by cases hy)⟩
 have hp : p = [] := by
  rcases hp with hp | hp
  ·cases hp
  ·cases p with
   | nil => rfl
   | cons c r => exact absurd (by show ([] : Bs) < c :: r; simp) hp
 subst hp
 symm
 show alook _ _ = none
 cases e : alook (appL newT (es.take b)).nodes [] with
 | none => rfl
 | some n =>
  have := ((h.take b hb).inv.ok.able _ (al_mem e))
  rcases this with g | ⟨-, g⟩
  ·cases g
  ·exact absurd (show checkZ ([] : Bs) = 0 from g) (by decide)
theorem sorted_snoc {l : List PN} {y : PN} (h : SortedK l) (hl : ∀ x ∈ l, x.1 < y.1) : SortedK (l ++ [y]) := by
 unfold SortedK at h ⊢
 rw [List.map_append, List.pairwise_append]
 refine ⟨h, by simp, fun a ha b hb => ?_⟩
 obtain ⟨x, hx, rfl⟩ := List.mem_map.1 ha
 simp at hb; subst hb
 exact hl x hx
theorem al_snoc' {β : Type} : ∀ (l : List (Bs × β)) (x : Bs × β) (p : Bs), alook (l ++ [x]) p = match alook l p with
  | some v => some v
  | none => if p = x.1 then some x.2 else none
 | [], x, p => by simp only [List.nil_append, alook]
 | y :: l, x, p => by
  simp only [List.cons_append, alook]
  by_cases e : p = y.1
  ·rw [if_pos e, if_pos e]
  ·rw [if_neg e, if_neg e]; exact al_snoc' l x p
theorem find_least {l : List PN} (hs : SortedK l) {a : Bs} {y : PN} (h : (l.find? fun y => decide (a < y.1)) = some y) : y ∈ l ∧ a < y.1 ∧ ∀ p, a < p → p < y.1 → alook l p = none := by
 induction l with
 | nil => cases h
 | cons x l ih =>
  have hs' : SortedK l := (List.pairwise_cons.1 hs).2
  have hx : ∀ z ∈ l, x.1 < z.1 := fun z hz => (List.pairwise_cons.1 hs).1 _ (List.mem_map_of_mem hz)
  rw [List.find?_cons] at h
  by_cases e : a < x.1
  ·rw [decide_eq_true e] at h
   simp only [Option.some.injEq] at h
   subst h
   refine ⟨List.mem_cons_self, e, fun p h1 h2 => ?_⟩
   rw [al_none]
   intro hm
   rcases List.mem_cons.1 hm with rfl | hm
   ·exact linB.irr _ h2
   ·obtain ⟨z, hz, rfl⟩ := List.mem_map.1 hm
    exact linB.irr _ (linB.tr _ _ _ (hx z hz) h2)
  ·rw [decide_eq_false e] at h
   obtain ⟨h1, h2, h3⟩ := ih hs' h
   refine ⟨List.mem_cons_of_mem _ h1, h2, fun p g1 g2 => ?_⟩
   unfold alook
   rw [if_neg (fun g => e (by rw [← g]; exact g1))]
   exact h3 p g1 g2
theorem find_none' {l : List PN} {a : Bs} (h : (l.find? fun y => decide (a < y.1)) = none) {p : Bs} (hp : a < p) : alook l p = none := by
 rw [al_none]
 intro hm
 obtain ⟨z, hz, rfl⟩ := List.mem_map.1 hm
 have := List.find?_eq_none.1 h z hz
 simp at this
 exact this hp
theorem FzI.next {es : List En} {b i : Nat} {τ : Tr} (h0 : Hist 1 es τ) (hi : i ≤ es.length) (hbi : b ≤ i) {φ : Fz} (h : FzI es b i φ) (ha : φ.all = false) : FzI es b i (fzNext (appL newT (es.take i)) φ) := by
 have ho := (h0.take i hi).inv.ok
 unfold fzNext
 rcases e : fzAt (appL newT (es.take i)) φ with _ | y
 ·dsimp only
  refine ⟨h.from', h.sorted, h.last, fun p _ => ?_, fun g => (by cases g), fun _ => ⟨i, hbi, Nat.le_refl _, by dsimp only; rw [h.none' ha, List.nil_append]⟩, h.each⟩
  dsimp only
  by_cases g : lastP φ.nds < p
  ·refine ⟨i, hbi, Nat.le_refl _, ?_⟩
   rw [find_none' e g, al_none]
   intro hm
   obtain ⟨z, hz, rfl⟩ := List.mem_map.1 hm
   exact h.last z hz g
  ·exact h.at' p (.inr g)
 ·obtain ⟨hy, hlt, hno⟩ := find_least ho.sorted e
  have hbelow : ∀ x ∈ φ.nds, x.1 < y.1 := fun x hx => by
   rcases linB.tri x.1 (lastP φ.nds) with g | g | g
   ·exact linB.tr _ _ _ g hlt
   ·rw [g]; exact hlt
   ·exact absurd g (h.last x hx)
  have hnone : ∀ p, lastP φ.nds < p → alook φ.nds p = none := fun p g => by
   rw [al_none]
   intro hm
   obtain ⟨z, hz, rfl⟩ := List.mem_map.1 hm
   exact h.last z hz g
  have hyl : alook (appL newT (es.take i)).nodes y.1 = some y.2 := al_of_mem (ho.sorted.nodup linB) hy
  dsimp only
  refine ⟨h.from', sorted_snoc h.sorted hbelow, fun x hx => ?_, fun p hp => ?_, fun _ => h.none' ha, fun g => (by cases g), fun x hx => ?_⟩
  ·dsimp only at hx ⊢
   rw [lastP_snoc]
   rcases List.mem_append.1 hx with hx | hx
   ·exact fun g => linB.irr _ (linB.tr _ _ _ g (hbelow x hx))
   ·rw [List.mem_singleton] at hx; subst hx; exact linB.irr _
  ·dsimp only at hp ⊢
   rw [lastP_snoc] at hp
   have hp := hp.resolve_left (by simp)
   by_cases g : lastP φ.nds < p
   ·refine ⟨i, hbi, Nat.le_refl _, ?_⟩
    rw [al_snoc', hnone p g]
    dsimp only
    by_cases e2 : p = y.1
    ·rw [if_pos e2, e2, hyl]
    ·rw [if_neg e2]
     rcases linB.tri p y.1 with g2 | g2 | g2
     ·exact (hno p g g2).symm
     ·exact absurd g2 e2
     ·exact absurd g2 hp
   ·obtain ⟨j, h1, h2, h3⟩ := h.at' p (.inr g)
    refine ⟨j, h1, h2, ?_⟩
    rw [al_snoc', ← h3]
    cases e2 : alook φ.nds p with
    | some v => rfl
    | none => dsimp only; rw [if_neg (fun e3 => g (by rw [e3]; exact hlt))]
  ·dsimp only at hx
   rcases List.mem_append.1 hx with hx | hx
   ·exact h.each x hx
   ·rw [List.mem_singleton] at hx; subst hx; exact ⟨i, Nat.le_refl _, hyl⟩
theorem FzI.step {es : List En} {b i : Nat} {τ : Tr} (h0 : Hist 1 es τ) (hi : i ≤ es.length) (hbi : b ≤ i) : ∀ (n : Nat) {φ : Fz}, FzI es b i φ → FzI es b i (fzStep (appL newT (es.take i)) n φ)
 | 0, _, h => h
 | n + 1, φ, h => by
  unfold fzStep
  split
  ·exact h
  ·rename_i g
   exact FzI.step h0 hi hbi n (h.next h0 hi hbi (by simpa using g))
def wtL (l : List En) : Nat := (l.map fun e => 1 + e.subs.length).sum
theorem wt_take {l : List En} (i : Nat) : wtL (l.take i) ≤ wtL l := by
 unfold wtL
 induction l generalizing i with
 | nil => simp
 | cons e l ih =>
  cases i with
  | zero => simp
  | succ i =>
   rw [List.take_succ_cons, List.map_cons, List.sum_cons, List.map_cons, List.sum_cons]
   have := ih i
   omega
theorem wt_mem {l : List En} {e : En} (h : e ∈ l) : e.subs.length ≤ wtL l := by
 unfold wtL
 induction l with
 | nil => cases h
 | cons x l ih =>
  rw [List.map_cons, List.sum_cons]
  rcases List.mem_cons.1 h with rfl | h
  ·omega
  ·have := ih h; omega
theorem apply_ok {τ : Tr} {N : Nat} (h : τ.Ok N) {p : HP} {e : En} (ht : TxA p e.x e.subs) : (appE τ e).Ok (N + (1 + e.subs.length)) :=
 (h.apply e.zx e.x e.subs ht.own.few (fun y hy => (ht.each y hy).few)).more (by omega)
theorem wld_w {l : List Ac} (h : wld l) : AclW l := by
 rcases h with rfl | ⟨q, h1, h2, rfl⟩
 ·refine ⟨by decide, ?_, fun a ha => (by cases ha)⟩
  have h3 := sev_len10 (u := 0) (by decide)
  unfold aclB cntB
  simp only [List.flatMap_nil, List.length_append, List.length_nil] at *
  omega
 ·have hq : I64 q := ⟨by omega, by omega⟩
  refine ⟨by simp, ?_, fun a ha => ?_⟩
  ·have h1 := numB_len8 hq
   have h2 := txtB_len8 (s := wldZ) (by decide)
   have h3 := sev_len10 (u := 0 + 1) (by decide)
   unfold aclB acB cntB
   simp only [List.flatMap_cons, List.flatMap_nil, List.length_append, List.length_nil, List.length_cons] at *
   omega
  ·simp only [List.mem_singleton] at ha; subst ha
   exact ⟨⟨hq, by show wldZ.length < U64; decide⟩, by show wldZ.length ≤ 1048576; decide⟩
theorem PartH.n {τ : Tr} {x : Pt} {K : Int} (h : PartH τ x K) (hs : ∀ i s, alook τ.sess i = some s → 1 ≤ i ∧ i ≤ 5) (hK : K ≤ 1099511627776) : PtN x := by
 refine ⟨?_, ⟨by have := h.num.1; omega, by have := h.num.2; omega⟩, by have := h.data; omega, wld_w h.acl⟩
 rcases h.own with e | ⟨s, e⟩
 ·rw [e]; exact i64_0
 ·have := hs _ _ e; exact ⟨by omega, by omega⟩
theorem PartsH.n {τ : Tr} {zx : Int} {subs : List Pt} {K : Int} (h : PartsH τ zx subs K) (hs : ∀ i s, alook τ.sess i = some s → 1 ≤ i ∧ i ≤ 5) (hK : K + subs.length ≤ 1099511627776) : ∀ y ∈ subs, PtN y := fun y hy => by
 obtain ⟨i, hi, rfl⟩ := List.mem_iff_getElem.1 hy
 exact (h i hi).n (by rw [parts_sess]; exact hs) (by omega)
theorem EntH.w {τ : Tr} {K : Int} {e : En} (h : EntH τ e K) (hw : TrW τ) (hi : HInv τ K) (hK : K ≤ 1099511000000) (hz : I64 e.zx) : TrW (appE τ e) := by
 rcases h.shape with ⟨hs, hp⟩ | ⟨hk, hs, ho, hn, hd, ha, hp⟩ | ⟨hk, hc, hp, ha, hd, hl, hp'⟩ | ⟨hk, hp, ha, hd, hl, hp'⟩ | ⟨hk, hs, he, hn, ha, hd, hp⟩
 ·have hkk := hp.kind
  rw [app_part (.inl hkk.2)]
  exact (hw.part (hp.n hi.ids (by omega)) hz).zxT hz
 ·rw [app_open hk (by omega)]
  refine TrW.zxT (τ := openS τ e.x.own e.x.num e.x.data) ⟨hw.nd, fun y hy => ?_, hw.zx⟩ hz
  rcases sset_mem hy with rfl | hy
  ·exact ⟨⟨by dsimp only; omega, by dsimp only; omega⟩, ⟨by dsimp only; omega, by dsimp only; omega⟩, by dsimp only; omega⟩
  ·exact hw.ss y hy
 ·rw [app_close hk hc.kinds]
  have h1 := hw.parts hz (l := e.subs) (hp.n hi.ids (by omega))
  exact TrW.zxT (τ := dropS (partsZ τ e.zx e.subs).1 e.x.own) ⟨h1.nd, fun y hy => h1.ss y (List.mem_filter.1 hy).1, h1.zx⟩ hz
 ·rw [app_multi hk]
  exact (hw.parts hz (hp.n hi.ids (by omega))).zxT hz
 ·rw [app_err hk]; exact hw.zxT hz
theorem Hist.w {es : List En} {τ : Tr} (h : Hist 1 es τ) (hl : es.length ≤ 200) : TrW τ := by
 induction h with
 | nil => exact TrW.new
 | @snoc l τ e h0 he hz hx ih =>
  rw [List.length_append, List.length_singleton] at hl
  exact he.w (ih (by omega)) h0.inv (by omega) ⟨by omega, by omega⟩
theorem root_lt {q : Bs} (h : ableZ q) : ([47] : Bs) < q := by
 rcases linB.tri [47] q with g | g | g
 ·exact g
 ·exact absurd g.symm h.1
 ·exact absurd g (hit_le (under_root h))
theorem check_of {q : Bs} (h : q = [47] ∨ ableZ q) : checkZ q = 0 := by
 rcases h with rfl | h
 ·decide
 ·exact h.2
theorem lt_last {l : List PN} (hs : SortedK l) {i : Nat} (hi : i < l.length) (h0 : 0 < i) : lastP (l.take i) = l[i - 1].1 ∧ l[i - 1].1 < l[i].1 := by
 obtain ⟨k, rfl⟩ : ∃ k, i = k + 1 := ⟨i - 1, by omega⟩
 rw [List.take_succ_eq_append_getElem (by omega), lastP_snoc]
 exact ⟨rfl, (List.pairwise_iff_getElem.1 (List.pairwise_map.1 hs)) k (k + 1) (by omega) hi (by omega)⟩
theorem okN_of {τ : Tr} {N : Nat} (ho : τ.Ok N) (hr : thereT τ [47]) : okN τ.nodes := by
 intro i hi
 have ha := ho.able _ (List.getElem_mem hi)
 refine ⟨check_of ha, ?_, ?_⟩
 ·rcases Nat.eq_zero_or_pos i with rfl | h0
  ·show ([] : Bs) < _
   cases e : (τ.nodes[0]).1 with
   | nil => exact absurd e (path_ne ho _ (List.getElem_mem hi))
   | cons c r => simp
  ·obtain ⟨h1, h2⟩ := lt_last ho.sorted hi h0
   rw [h1]; exact h2
 ·obtain ⟨n, hn⟩ := there_some.1 hr
  obtain ⟨j, hj, e⟩ := List.mem_iff_getElem.1 (al_mem hn)
  have e1 : (τ.nodes[j]).1 = [47] := by rw [e]
  rcases Nat.eq_zero_or_pos i with rfl | h0
  ·refine ⟨fun _ => ?_, fun _ => rfl⟩
   rcases ha with g | g
   ·exact g
   ·have h1 := root_lt g
    rcases Nat.eq_zero_or_pos j with h2 | h2
    ·subst h2; exact e1
    ·have := (List.pairwise_iff_getElem.1 (List.pairwise_map.1 ho.sorted)) 0 j hi hj h2
     rw [e1] at this
     exact absurd (linB.tr _ _ _ h1 this) (linB.irr _)
  ·obtain ⟨h1, h2⟩ := lt_last ho.sorted hi h0
   rw [h1]
   refine ⟨fun g => absurd g (path_ne ho _ (List.getElem_mem (by omega))), fun g => ?_⟩
   rw [g] at h2
   have hb := ho.able _ (List.getElem_mem (l := τ.nodes) (n := i - 1) (by omega))
   rcases hb with k | k
   ·rw [k] at h2; exact absurd h2 (linB.irr _)
   ·exact absurd (linB.tr _ _ _ h2 (root_lt k)) (linB.irr _)
theorem okS_of {τ : Tr} {N : Nat} (ho : τ.Ok N) : okS τ.sess := by
 intro i hi
 unfold nextS
 rcases Nat.eq_zero_or_pos i with rfl | h0
 ·have := ho.ids _ (List.getElem_mem hi)
  show (0 : Int) < _
  omega
 ·obtain ⟨k, rfl⟩ : ∃ k, i = k + 1 := ⟨i - 1, by omega⟩
  rw [List.take_succ_eq_append_getElem (by omega), lastI_snoc]
  exact (List.pairwise_iff_getElem.1 (List.pairwise_map.1 ho.ssorted)) k (k + 1) (by omega) hi (by omega)
theorem Hist.secret {es : List En} {τ : Tr} (h : Hist 1 es τ) : ∀ x ∈ τ.sess, x.2.2.length ≤ 100 := by
 induction h with
 | nil => intro x hx; cases hx
 | @snoc l τ e h0 he hz hx ih =>
  intro x hx
  rw [app_sess] at hx
  unfold sesE at hx
  split at hx
  ·split at hx
   ·rcases sset_mem hx with rfl | hx
    ·dsimp only
     rcases he.shape with ⟨-, hp⟩ | ⟨-, -, -, -, hd, -, -⟩ | ⟨-, -, -, -, hd, -, -⟩ | ⟨-, -, -, hd, -, -⟩ | ⟨-, -, -, -, -, hd, -⟩
     ·exact hp.data
     ·exact hd
     ·rw [hd]; exact Nat.zero_le _
     ·rw [hd]; exact Nat.zero_le _
     ·rw [hd]; exact Nat.zero_le _
    ·exact ih x hx
   ·exact ih x hx
  ·split at hx
   ·exact ih x (List.mem_filter.1 hx).1
   ·exact ih x hx
theorem Hist.right {es : List En} {τ : Tr} (h : Hist 1 es τ) (hl : es.length ≤ 200) : RightT τ := by
 have hi := h.inv
 have hw := h.w hl
 have ho := hi.ok
 have hmem : ∀ y ∈ τ.nodes, alook τ.nodes y.1 = some y.2 := fun y hy => al_of_mem (ho.sorted.nodup linB) hy
 refine ⟨okN_of ho hi.rootT, okS_of ho, fun e => ?_, hw.zx, by have := ho.few; omega, by have := ho.sfew; omega, fun y hy => ?_, fun x hx => ?_⟩
 ·have := hi.pos; rw [e] at this; exact absurd this (Nat.lt_irrefl _)
 ·have h1 := hi.data _ _ (hmem y hy)
  have h2 := hi.acl _ _ (hmem y hy)
  have h3 := hw.nd y hy
  have h4 := able_len (ho.able y hy)
  have h5 := wld_len h2
  refine ⟨by omega, by omega, fun a ha => ⟨(h3.acl.each a ha).1.n, ?_⟩, h3.st, h3.bare.1, h3.bare.2, by omega⟩
  rcases h2 with e | ⟨q, -, -, e⟩
  ·rw [e] at ha; cases ha
  ·rw [e] at ha; simp only [List.mem_singleton] at ha; subst ha; show wldZ.length ≤ 4096; decide
 ·obtain ⟨h1, h2, h3⟩ := hw.ss x hx
  refine ⟨h1, h2, ?_⟩
  have := Hist.secret h x hx
  omega
theorem Hist.whole {es : List En} {τ : Tr} (h : Hist 1 es τ) : wholeZ τ := fun p hp => by
 by_cases e : p = [47]
 ·exact .inl e
 ·exact .inr (h.inv.closed p (al_isSome.2 hp) e)
/-! ### Restored -/
def restStep (z : Int) (τ : Tr) (e : En) : Tr := if z < e.zx then appE τ e else τ
def restZ (τ : Tr) (l : List En) : Tr := l.foldl (restStep τ.zx) τ
theorem rest_step (τ : Tr) {l : List En} {i : Nat} (hi : i < l.length) : restZ τ (l.take (i + 1)) = restStep τ.zx (restZ τ (l.take i)) l[i] := by
 unfold restZ
 rw [List.take_succ_eq_append_getElem hi, List.foldl_append]; rfl
theorem rest_ok {z : Int} {p : HP} : ∀ {l : List En} {τ : Tr} {N : Nat}, τ.Ok N → (∀ e ∈ l, TxA p e.x e.subs) → (l.foldl (restStep z) τ).Ok (N + wtL l)
 | [], _, _, h, _ => h
 | e :: l, τ, N, h, hl => by
  have hs : (restStep z τ e).Ok (N + (1 + e.subs.length)) := by
   unfold restStep
   split
   ·exact apply_ok h (hl e List.mem_cons_self)
   ·exact h.more (by omega)
  exact (rest_ok (l := l) hs (fun x hx => hl x (List.mem_cons_of_mem _ hx))).more (by unfold wtL; rw [List.map_cons, List.sum_cons]; omega)
theorem rest_all {z : Int} : ∀ {l : List En} {τ : Tr}, (∀ e ∈ l, z < e.zx) → l.foldl (restStep z) τ = appL τ l
 | [], _, _ => rfl
 | e :: l, τ, h => by
  show l.foldl (restStep z) (restStep z τ e) = appL (appE τ e) l
  unfold restStep
  rw [if_pos (h e List.mem_cons_self)]
  exact rest_all fun x hx => h x (List.mem_cons_of_mem _ hx)
theorem rest_none {z : Int} : ∀ {l : List En} {τ : Tr}, (∀ e ∈ l, ¬ z < e.zx) → l.foldl (restStep z) τ = τ
 | [], _, _ => rfl
 | e :: l, τ, h => by
  show l.foldl (restStep z) (restStep z τ e) = τ
  unfold restStep
  rw [if_neg (h e List.mem_cons_self)]
  exact rest_none fun x hx => h x (List.mem_cons_of_mem _ hx)
theorem Hist.zx_drop {es : List En} {τ : Tr} (h : Hist 1 es τ) {b : Nat} (hb : b ≤ es.length) : (∀ e ∈ es.drop b, (appL newT (es.take b)).zx < e.zx) ∧ ∀ e ∈ es.take b, ¬ (appL newT (es.take b)).zx < e.zx := by
 rw [h.zxAt b hb]
 refine ⟨fun e he => ?_, fun e he => ?_⟩
 ·obtain ⟨i, hi, rfl⟩ := List.mem_iff_getElem.1 he
  rw [List.length_drop] at hi
  rw [List.getElem_drop, (h.at (b + i) (by omega)).2]
  split <;> omega
 ·obtain ⟨i, hi, rfl⟩ := List.mem_iff_getElem.1 he
  rw [List.length_take] at hi
  rw [List.getElem_take, (h.at i (by omega)).2]
  split <;> omega
theorem Hist.laid_len {es : List En} {τ : Tr} (h : Hist 1 es τ) (hl : es.length ≤ 200) {b : Nat} {φ : Fz} (hφ : FzI es b es.length φ) : φ.nds.length < U64 := by
 have hall : ∀ n, n ≤ es.length → ((List.range (n + 1)).flatMap fun j => (appL newT (es.take j)).nodes).length ≤ (n + 1) * 60 := by
  intro n hn
  induction n with
  | zero =>
   have := (h.take 0 (Nat.zero_le _)).inv.ok.few
   simpa using this
  | succ n ih =>
   have h1 := ih (by omega)
   have h2 := (h.take (n + 1) hn).inv.ok.few
   rw [List.range_succ, List.flatMap_append, List.length_append]
   simp only [List.flatMap_cons, List.flatMap_nil, List.append_nil]
   omega
 have hsub : ∀ x ∈ φ.nds.map (·.1), x ∈ (((List.range (es.length + 1)).flatMap fun j => (appL newT (es.take j)).nodes).map (·.1)) := fun x hx => by
  obtain ⟨y, hy, rfl⟩ := List.mem_map.1 hx
  obtain ⟨j, hj, e⟩ := hφ.each y hy
  exact List.mem_map.2 ⟨(y.1, y.2), List.mem_flatMap.2 ⟨j, by rw [List.mem_range]; omega, al_mem e⟩, rfl⟩
 have h3 := nodup_len (hφ.sorted.nodup linB) hsub
 have h4 := hall es.length (Nat.le_refl _)
 rw [List.length_map, List.length_map] at h3
 have hu : U64 = 18446744073709551616 := rfl
 omega
theorem Hist.restored {es : List En} {τ : Tr} (h : Hist 1 es τ) (hl : es.length ≤ 200) {b : Nat} (hb : b ≤ es.length) {φ : Fz} (hφ : FzI es b es.length φ) (ha : φ.all = true) {υ : Tr} (hr : readZ (textZ φ) = some υ) : υ.nodes.length ≤ 256 ∧ restZ υ es = τ ∧ restZ υ (es.drop b) = τ := by
 have hS : ∀ j, j ≤ es.length → TrW (appL newT (es.take j)) := fun j hj => (h.take j hj).w (by rw [List.length_take]; omega)
 have hnd : ∀ y ∈ φ.nds, PnI y := fun y hy => by
  obtain ⟨j, hj, e⟩ := hφ.each y hy
  exact ((hS j hj).nd _ (al_mem e)).i
 obtain ⟨j, hj1, hj2, hss⟩ := hφ.done ha
 have hsn : ∀ x ∈ φ.ss, SnI x := fun x hx => ((hS j hj2).ss x (by rw [← hss]; exact hx)).i'
 have ho := fun j (hj : j ≤ es.length) => (h.take j hj).inv.ok
 have htx : textZ φ = layB φ.from' φ.nds φ.ss := by unfold textZ; rw [if_pos ha]
 rw [htx] at hr
 have hzx : I64 φ.from' := by rw [hφ.from']; exact (hS b hb).zx
 have hbig : ∀ n : Nat, n < 1000000 → n < U64 := fun n hn => by have hu : U64 = 18446744073709551616 := rfl; omega
 have hnl : φ.nds.length < U64 := Hist.laid_len h hl hφ
 have hkl : φ.ss.length < U64 := by rw [hss]; exact hbig _ (by have := (ho j hj2).sfew; omega)
 have e := read_laid hzx hnd hsn hnl hkl hr
 subst e
 have hR := (read_form hr).1
 have hG : (⟨φ.nds, φ.ss, φ.from'⟩ : Tr).Ok (φ.nds.length + 60) := by
  refine ⟨hφ.sorted, ?_, by show φ.nds.length ≤ _; omega, fun y hy => ?_, ?_, fun y hy => ?_, ?_⟩
  ·show SortedK φ.ss; rw [hss]; exact (ho j hj2).ssorted
  ·obtain ⟨j, hj, e⟩ := hφ.each y hy
   exact (ho j hj).able (y.1, y.2) (al_mem e)
  ·show ∀ x ∈ φ.ss, _; rw [hss]; exact (ho j hj2).ids
  ·obtain ⟨j, hj, e⟩ := hφ.each y hy
   exact (ho j hj).acls (y.1, y.2) (al_mem e)
  ·show φ.ss.length ≤ _; rw [hss]; have := (ho j hj2).sfew; omega
 have hm := h.mixed hb hG (fun p => hφ.at' p (.inl ha)) ⟨j, hj1, hj2, hss⟩ hφ.from'
 obtain ⟨z1, z2⟩ := h.zx_drop hb
 rw [← hφ.from'] at z1 z2
 refine ⟨hR.nf, ?_, ?_⟩
 ·have : restZ (⟨φ.nds, φ.ss, φ.from'⟩ : Tr) es = (es.drop b).foldl (restStep φ.from') ((es.take b).foldl (restStep φ.from') ⟨φ.nds, φ.ss, φ.from'⟩) := by
   rw [← List.foldl_append, List.take_append_drop]; rfl
  rw [this, rest_none z2, rest_all z1]
  exact hm
 ·show (es.drop b).foldl (restStep φ.from') _ = τ
  rw [rest_all z1]; exact hm
theorem rfailR_spec (r : Nat) (st : Rs) : Fn Tryz.prog 91 #[vptr r] [rdR r st] fun v L => v = .tuple #[] ∧ L = [rdR r none] := by
 intro F w hs
 obtain ⟨h1, h2, hd, a1, a2, ⟨y, hy, hp⟩, hF⟩ := hs
 subst hy
 have hs' : St ([rdW r y.1 y.2.1 y.2.2] ++ F) w := sep_flat ⟨h1, h2, hd, a1, a2, hp, hF⟩
 refine (rfail_spec r y.1 y.2.1 y.2.2 F w hs').mono ?_
 rintro e w' ⟨u, L, ⟨rfl, rfl⟩, he, hs2, hk⟩
 refine ⟨_, _, ⟨rfl, rfl⟩, he, sep_imp (fun hh hq => ⟨(y.1, (y.2.1, if y.2.2 = 0 then 11 else y.2.2)), ?_, hh, fun _ => none, fun _ => .inr rfl, fun _ _ e => e, fun _ _ e => (by cases e), hq, trivial⟩) hs2, hk⟩
 unfold stW
 dsimp only
 have hne : (if y.2.2 = 0 then 11 else y.2.2) ≠ 0 := by split <;> omega
 rw [if_neg hne]
theorem rnumN_spec (r : Nat) (st : Rs) : Fn Tryz.prog 92 #[vptr r] [rdR r st] fun v L => v = vint (numR st).1 ∧ L = [rdR r (numR st).2] := rnum_spec r st
theorem rtxtN_spec (r : Nat) (st : Rs) : Fn Tryz.prog 90 #[vptr r, vint 4096] [rdR r st] fun v L => v = vstr (txtR st).1 ∧ L = [rdR r (txtR st).2] := rtext_spec r 4096 (by decide) st
theorem rtxt4_spec (r : Nat) (st : Rs) : Fn Tryz.prog 90 #[vptr r, vint 4] [rdR r st] fun v L => v = vstr (txt4R st).1 ∧ L = [rdR r (txt4R st).2] := rtext_spec r 4 (by decide) st
theorem rcntN_spec (r : Nat) (st : Rs) : Fn Tryz.prog 93 #[vptr r, vint 256] [rdR r st] fun v L => v = vint ((cntR st).1 : Nat) ∧ L = [rdR r (cntR st).2] := rcount_spec r 256 (by decide) st
theorem txtR_le8 (st : Rs) : (txtR st).1.length ≤ 4096 := by
 unfold txtR runP
 split
 ·exact Nat.zero_le _
 ·split
  ·rename_i x hx; exact (txt_form hx).2
  ·exact Nat.zero_le _
/-! ### A tree that is laid anew -/
def layT (z : Int) (l : List PN) : Tr := if l = [] then zxT newT z else ⟨l, [], z⟩
theorem okN_sorted {l : List PN} (h : okN l) : SortedK l ∧ ∀ y ∈ l, ¬ lastP l < y.1 := by
 induction l using snocInd with
 | h0 => exact ⟨by unfold SortedK; simp, fun y hy => by cases hy⟩
 | h1 l x ih =>
  obtain ⟨h1, h2⟩ := okN_snoc.1 h
  obtain ⟨i1, i2⟩ := ih h1
  have hb : ∀ y ∈ l, y.1 < x.1 := fun y hy => by
   rcases linB.tri y.1 (lastP l) with g | g | g
   ·exact linB.tr _ _ _ g h2.2.1
   ·rw [g]; exact h2.2.1
   ·exact absurd g (i2 y hy)
  refine ⟨sorted_snoc i1 hb, fun y hy => ?_⟩
  rw [lastP_snoc]
  rcases List.mem_append.1 hy with hy | hy
  ·exact fun g => linB.irr _ (linB.tr _ _ _ g (hb y hy))
  ·rw [List.mem_singleton] at hy; rw [hy]; exact linB.irr _
theorem okN_able {l : List PN} (h : okN l) : ∀ y ∈ l, checkZ y.1 = 0 := fun y hy => by
 obtain ⟨i, hi, rfl⟩ := List.mem_iff_getElem.1 hy
 exact (h i hi).1
theorem sset_snoc {l : List PN} {k : Bs} {v : Nd} (h : ∀ y ∈ l, y.1 < k) : sset l k v = l ++ [(k, v)] := by
 induction l with
 | nil => rfl
 | cons y l ih =>
  have h1 := h y List.mem_cons_self
  unfold sset
  rw [if_neg (fun e => linB.irr k (by rw [e] at h1; exact h1)), if_neg (fun g => linB.irr _ (linB.tr _ _ _ g h1)), ih fun z hz => h z (List.mem_cons_of_mem _ hz)]
  rfl
theorem lay_next {z : Int} {l : List PN} {y : PN} (h : okN (l ++ [y])) (hb : y.2.st.len = 0 ∧ y.2.st.kids = 0) : layZ (layT z l) y.1 y.2.data y.2.acl y.2.st = layT z (l ++ [y]) := by
 obtain ⟨h1, h2⟩ := okN_snoc.1 h
 have hn : laidN y.2.data y.2.acl y.2.st = y.2 := by
  obtain ⟨p, d, a, s1, s2, s3, s4, s5, s6, s7, s8, s9⟩ := y
  obtain ⟨b1, b2⟩ := hb
  dsimp only at b1 b2
  subst b1; subst b2
  rfl
 unfold layZ
 rw [if_pos h2.1, hn]
 have hlt : ∀ x ∈ l, x.1 < y.1 := fun x hx => by
  have := (okN_sorted h).1
  unfold SortedK at this
  rw [List.map_append, List.pairwise_append] at this
  exact this.2.2 _ (List.mem_map_of_mem hx) _ (by simp)
 unfold layT
 rw [if_neg (show ¬ l ++ [y] = [] by simp)]
 by_cases e : l = []
 ·subst e
  have hr : y.1 = [47] := h2.2.2.1 rfl
  rw [if_pos rfl]
  refine Tr.ext' ?_ rfl rfl
  show sset [([47], _)] y.1 y.2 = [] ++ [y]
  unfold sset
  rw [if_pos hr.symm]; rfl
 ·rw [if_neg e]
  refine Tr.ext' ?_ rfl rfl
  exact sset_snoc hlt
theorem layT_ok {z : Int} {l : List PN} (h : okN l) (ha : ∀ y ∈ l, y.2.acl.length ≤ 1048576) : (layT z l).Ok (l.length + 1) := by
 unfold layT
 split
 ·exact (newT_ok.more (by omega)).zx z
 ·exact ⟨(okN_sorted h).1, by unfold SortedK; simp, Nat.le_succ _, fun y hy => check_able (okN_able h y hy), fun x hx => (by cases hx), ha, Nat.zero_le _⟩
theorem bad_node {s : Bs} {j : Nat} (hj : j < snM s) (hbad : ¬ nextN (lastP (manyR ndR j (sn3 s)).1) (ndR (manyR ndR j (sn3 s)).2).1.1) : sn4 s = none := by
 unfold sn4
 refine if_neg fun h => hbad ?_
 have hl : (snL s).length = snM s := manyL _ _ _
 have h1 := h j (by omega)
 have e1 : (snL s).take j = (manyR ndR j (sn3 s)).1 := many_take _ _ _ _ (by omega)
 have e2 : (snL s).take (j + 1) = (manyR ndR (j + 1) (sn3 s)).1 := many_take _ _ _ _ (by omega)
 rw [List.take_succ_eq_append_getElem (by omega), e1] at e2
 have e3 : [(snL s)[j]] = [(ndR (manyR ndR j (sn3 s)).2).1] := List.append_cancel_left e2
 rw [e1, List.cons.inj e3 |>.1] at h1
 exact h1
theorem bad_sess {s : Bs} {j : Nat} (hj : j < snK s) (hbad : ¬ nextS (lastI (manyR ssR j (cntR (sn4 s)).2).1) (ssR (manyR ssR j (cntR (sn4 s)).2).2).1.1) : sn6 s = none := by
 unfold sn6
 refine if_neg fun h => hbad ?_
 have hl : (snS s).length = snK s := manyL _ _ _
 have h1 := h j (by omega)
 have e1 : (snS s).take j = (manyR ssR j (cntR (sn4 s)).2).1 := many_take _ _ _ _ (by omega)
 have e2 : (snS s).take (j + 1) = (manyR ssR (j + 1) (cntR (sn4 s)).2).1 := many_take _ _ _ _ (by omega)
 rw [List.take_succ_eq_append_getElem (by omega), e1] at e2
 have e3 : [(snS s)[j]] = [(ssR (manyR ssR j (cntR (sn4 s)).2).2).1] := List.append_cancel_left e2
 rw [e1, List.cons.inj e3 |>.1] at h1
 exact h1
theorem st7_set {l : List Int} {i : Nat} (hi : i < 7) (hl : l.length = i) (n : Int) : (stC (st7 l)).set i (vint n) = stC (st7 (l ++ [n])) := by
 subst hl
 match l, hi with
 | [], _ => rfl
 | [a], _ => rfl
 | [a, b], _ => rfl
 | [a, b, c], _ => rfl
 | [a, b, c, d], _ => rfl
 | [a, b, c, d, e], _ => rfl
 | [a, b, c, d, e, f], _ => rfl
 | _ :: _ :: _ :: _ :: _ :: _ :: _ :: _, h => exact absurd h (by simp only [List.length_cons]; omega)
theorem okS_sorted {l : List SN} (h : okS l) : SortedK l ∧ ∀ x ∈ l, ¬ lastI l < x.1 := by
 induction l using snocInd with
 | h0 => exact ⟨by unfold SortedK; simp, fun y hy => by cases hy⟩
 | h1 l x ih =>
  obtain ⟨h1, h2⟩ := okS_snoc.1 h
  obtain ⟨i1, i2⟩ := ih h1
  have h2 : lastI l < x.1 := h2
  have hb : ∀ y ∈ l, y.1 < x.1 := fun y hy => by have := i2 y hy; omega
  refine ⟨?_, fun y hy => ?_⟩
  ·unfold SortedK at i1 ⊢
   rw [List.map_append, List.pairwise_append]
   refine ⟨i1, by simp, fun a ha b hb2 => ?_⟩
   obtain ⟨y, hy, rfl⟩ := List.mem_map.1 ha
   simp at hb2; subst hb2
   exact hb y hy
  ·rw [lastI_snoc]
   rcases List.mem_append.1 hy with hy | hy
   ·have := hb y hy; omega
   ·rw [List.mem_singleton] at hy; rw [hy]; omega
theorem okS_pos {l : List SN} (h : okS l) : 0 ≤ lastI l ∧ ∀ x ∈ l, 1 ≤ x.1 := by
 induction l using snocInd with
 | h0 => exact ⟨Int.le_refl _, fun y hy => by cases hy⟩
 | h1 l x ih =>
  obtain ⟨h1, h2⟩ := okS_snoc.1 h
  obtain ⟨i1, i2⟩ := ih h1
  have h2 : lastI l < x.1 := h2
  refine ⟨by rw [lastI_snoc]; omega, fun y hy => ?_⟩
  rcases List.mem_append.1 hy with hy | hy
  ·exact i2 y hy
  ·rw [List.mem_singleton] at hy; rw [hy]; omega
theorem sset_snocI {l : List SN} {k : Int} {v : Int × Bs} (h : ∀ y ∈ l, y.1 < k) : sset l k v = l ++ [(k, v)] := by
 induction l with
 | nil => rfl
 | cons y l ih =>
  have h1 := h y List.mem_cons_self
  unfold sset
  rw [if_neg (by omega), if_neg (by omega), ih fun z hz => h z (List.mem_cons_of_mem _ hz)]
  rfl
theorem layT_sess (z : Int) (l : List PN) : (layT z l).sess = [] := by unfold layT; split <;> rfl
def laySs (τ : Tr) (l : List SN) : Tr := ⟨τ.nodes, l, τ.zx⟩
theorem lays_next {τ : Tr} {l : List SN} {x : SN} (h : okS (l ++ [x])) : layS (laySs τ l) x.1 x.2.1 x.2.2 = laySs τ (l ++ [x]) := by
 have hp := (okS_pos h).2 x (by simp)
 obtain ⟨h1, h2⟩ := okS_snoc.1 h
 have h2 : lastI l < x.1 := h2
 unfold layS
 rw [if_pos (by omega)]
 refine Tr.ext' rfl ?_ rfl
 exact sset_snocI fun y hy => by have := (okS_sorted h1).2 y hy; omega
theorem seven_at {b12 k : Nat} (h : k < 7) : ([.pointer (some ⟨b12, 0, none⟩), .pointer (some ⟨b12, 1, none⟩), .pointer (some ⟨b12, 2, none⟩), .pointer (some ⟨b12, 3, none⟩), .pointer (some ⟨b12, 4, none⟩), .pointer (some ⟨b12, 5, none⟩), .pointer (some ⟨b12, 6, none⟩)] : List Value)[((k : Nat) : Int).toNat * 1]? = some (.pointer (some ⟨b12, k, none⟩)) := by
 rw [show ((k : Nat) : Int).toNat * 1 = k by omega]
 match k, h with
 | 0, _ => rfl
 | 1, _ => rfl
 | 2, _ => rfl
 | 3, _ => rfl
 | 4, _ => rfl
 | 5, _ => rfl
 | 6, _ => rfl
theorem nodes_acl : ∀ (j : Nat) (st : Rs), ∀ y ∈ (manyR ndR j st).1, y.2.acl.length ≤ 1048576
 | 0, _, y, hy => by cases hy
 | j + 1, st, y, hy => by
  rcases List.mem_append.1 (show y ∈ (manyR ndR j st).1 ++ [(ndR (manyR ndR j st).2).1] from hy) with hy | hy
  ·exact nodes_acl j st y hy
  ·rw [List.mem_singleton] at hy
   rw [hy]
   have h := cntR_le (txtR (txtR (manyR ndR j st).2).2).2
   show (manyR acR (cntR (txtR (txtR (manyR ndR j st).2).2).2).1 _).1.length ≤ _
   rw [manyL]; omega
theorem read_tree {s : Bs} {υ φ : Tr} (h6 : sn6 s = some []) (hυ : sn4 s ≠ none → υ = layT (numR (sn1 s)).1 (snL s)) (hφ : φ = laySs υ (snS s)) : φ = ⟨snL s, snS s, (numR (sn1 s)).1⟩ := by
 have hr : readZ s = some ⟨snL s, snS s, (numR (sn1 s)).1⟩ := if_pos h6
 have hg := read_good.1 hr
 have h4 : sn4 s ≠ none := fun g => by
  unfold sn6 at h6
  rw [g] at h6
  split at h6
  ·rw [show (manyR ssR (snK s) (cntR none).2).2 = none from many_ne strict_ss _] at h6; cases h6
  ·cases h6
 rw [hφ, hυ h4]
 unfold layT laySs
 rw [if_neg (show ¬ snL s = [] from hg.ne)]
set_option maxHeartbeats 1000000 in
theorem sread_spec (s : Bs) (hs : s.length ≤ 70368744177664) : Fn Tryz.prog 40 #[vstr s] [] fun v L => (readZ s = none ∧ v = .tuple #[.pointer none, vint 70] ∧ L = []) ∨ (∃ τ t, readZ s = some τ ∧ v = .tuple #[vptr t, vint 0] ∧ L = [treeR t τ]) := by
 refine Fn.intro Tryz.func40 rfl rfl fun F W => ?_
 obtain ⟨m, hm⟩ : ∃ m, m = snM s := ⟨_, rfl⟩
 have hm256 : m ≤ 256 := by rw [hm]; exact cntR_le _
 refine .sr (.a rfl (.an rfl (.sm rfl (.oq (.c Tryz.func89 [_] (cread_spec s hs)) ?_))))
 rintro v L' ⟨r, rfl, rfl⟩
 refine .an rfl (.sr (.oq (.c Tryz.func11 [] (trnew_spec)) ?_))
 rintro v L' ⟨t, rfl, rfl⟩
 refine .an rfl (.seq (.joinK (ι := Unit) (fun q E => E) (fun q => [rdR r (sn1 s)]) (fun q => True) (pre := [rdR r (some s)]) (ts := [2, 3, 4, 5]) (.cons rfl (.cons rfl (.cons rfl (.cons rfl (.nil))))) (by repeat' constructor) ?_ ?_))
 ·refine .sm rfl (.cv Tryz.func90 [_, _] (rtxt4_spec r (some s)) ?_)
  refine .u (.strne rfl rfl) (.nt (.condN rfl (fun h23 => ?_) (fun h23 => ?_)))
  ·refine .region (.m rfl (.cv Tryz.func91 [_] (rfailR_spec r _) ?_))
   refine .nt (.rdCast (st' := sn1 s) (by repeat' constructor) (by unfold sn1; rw [if_neg (show ¬ (txt4R (some s)).1 = headB from h23)]) ?_)
   exact .mk (()) (trivial) ⟨rfl, rfl, rfl, rfl, trivial⟩
  refine .sk (.rdCast (st' := sn1 s) (by repeat' constructor) (by unfold sn1; rw [if_pos (show (txt4R (some s)).1 = headB from h23)]) ?_)
  exact .mk (()) (trivial) ⟨rfl, rfl, rfl, rfl, trivial⟩
 rintro _u _
 refine .sm rfl (.m rfl (.cv Tryz.func92 [_] (rnumN_spec r (sn1 s)) ?_))
 refine .cv Tryz.func63 [_, _] (trlayzx_spec t newT (numR (sn1 s)).1) ?_
 refine .nt (.sm rfl (.oq (.c Tryz.func93 [_, _] (rcntN_spec r (numR (sn1 s)).2)) ?_))
 rintro v L' ⟨rfl, rfl⟩; rw [show (cntR (numR (sn1 s)).2).1 = m from hm.symm]
 refine .a rfl (.an rfl (.seq (.joinK (ι := Unit) (fun q E => E) (fun q => [rdR r (sn3 s)]) (fun q => True) (pre := [rdR r (cntR (numR (sn1 s)).2).2]) (ts := [2, 3, 4, 5, 6, 7]) (.cons rfl (.cons rfl (.cons rfl (.cons rfl (.cons rfl (.cons rfl (.nil))))))) (by repeat' constructor) ?_ ?_)))
 ·refine .sm rfl (.ui rfl rfl rfl (.nt (.condD rfl (fun h33 => ?_) (fun h33 => ?_))))
  ·refine .region (.m rfl (.cv Tryz.func91 [_] (rfailR_spec r _) ?_))
   refine .nt (.rdCast (st' := sn3 s) (by repeat' constructor) (by unfold sn3; rw [if_pos (by rw [← hm]; omega)]) ?_)
   exact .mk (()) (trivial) ⟨rfl, rfl, rfl, rfl, rfl, rfl, trivial⟩
  refine .sk (.rdCast (st' := sn3 s) (by repeat' constructor) (by unfold sn3; rw [if_neg (by rw [← hm]; omega)]) ?_)
  exact .mk (()) (trivial) ⟨rfl, rfl, rfl, rfl, rfl, rfl, trivial⟩
 rintro _u _
 refine .seq (.trCast (τ' := layT (numR (sn1 s)).1 (manyR ndR 0 (sn3 s)).1) (by repeat' constructor) rfl (.joinK (ι := Tr) (fun q E => E) (fun q => [rdR r (sn4 s), treeR t q]) (fun q => (sn4 s ≠ none → q = layT (numR (sn1 s)).1 (snL s)) ∧ q.sess = []) (pre := [rdR r (sn3 s), treeR t (layT (numR (sn1 s)).1 (manyR ndR 0 (sn3 s)).1)]) (ts := [2, 3, 4, 5]) (.cons rfl (.cons rfl (.cons rfl (.cons rfl (.nil))))) (by repeat' constructor) ?_ ?_))
 ·refine .sm rfl (.m rfl (.nt (.block (.loopK (ι := Nat) (fun q E => (37, vint q) :: (6, vstr (lastP (manyR ndR q (sn3 s)).1)) :: E) (fun q => [rdR r (manyR ndR q (sn3 s)).2, treeR t (layT (numR (sn1 s)).1 (manyR ndR q (sn3 s)).1)]) (fun q => q ≤ m ∧ okN (manyR ndR q (sn3 s)).1) (fun q => m - q) (0) (ts := [2, 3, 4, 5, 36]) (.cons rfl (.cons rfl (.cons rfl (.cons rfl (.cons rfl (.nil)))))) (⟨Nat.zero_le _, okN_nil⟩) ⟨rfl, rfl, rfl, rfl, rfl, rfl, rfl, trivial⟩ (by repeat' constructor) ?_))))
  rintro j ⟨hj, hok⟩
  have hlj : (manyR ndR j (sn3 s)).1.length = j := manyL _ _ _
  have hlo : (layT (numR (sn1 s)).1 (manyR ndR j (sn3 s)).1).Ok (j + 1) := by have h := layT_ok (z := (numR (sn1 s)).1) hok (nodes_acl j (sn3 s)); rw [hlj] at h; exact h
  refine .sr (.ui rfl rfl rfl (.nt (.seq (.condD rfl (fun h38 => ?_) (fun h38 => ?_)))))
  ·have hj2m : j < m := by omega
   have hj2 : j < snM s := by omega
   have hpl := txtR_le8 (manyR ndR j (sn3 s)).2
   refine .sk (.seq (.block (.sm rfl (.cv Tryz.func90 [_, _] (rtxtN_spec r (manyR ndR j (sn3 s)).2) ?_))))
   refine .m rfl (.cv Tryz.func90 [_, _] (rtxtN_spec r (txtR (manyR ndR j (sn3 s)).2).2) ?_)
   refine .a rfl (.an rfl (.seq (.sm rfl (.cv Tryz.func94 [_] (check_spec (txtR (manyR ndR j (sn3 s)).2).1 (by omega)) ?_))))
   refine .ui rfl rfl rfl (.m rfl (.ndec (t := 46) rfl (fun h12_46 => ?_) (fun h12_46 => ?_)))
   ·refine .kNT (t := 45) rfl h12_46 (.gk (.gk (.gk (.u (.pickT rfl rfl) (.m rfl (.gk (.gk (.gk (.gk (.gk (.u (.pickT rfl rfl) (.nt (.condT rfl (.sm rfl (.cv Tryz.func91 [_] (rfailR_spec r _) ?_)))))))))))))))
    refine .nt (.exit (.then_e (.blk_o rfl (.then_e (.then_e (.blk_e (.then_n (.rdCast (st' := sn4 s) (by repeat' constructor) (bad_node hj2 (fun g => h12_46 g.1)).symm ?_))))))))
    exact .mk (layT (numR (sn1 s)).1 (manyR ndR j (sn3 s)).1) (⟨fun g => absurd (bad_node hj2 (fun g => h12_46 g.1)) g, layT_sess _ _⟩) ⟨rfl, rfl, rfl, rfl, trivial⟩
   refine .kNF (t := 45) rfl h12_46 (.grun (t := 46) rfl rfl rfl (.m rfl (.grun (t := 46) rfl rfl rfl (.m rfl (.grun (t := 46) rfl rfl rfl (.u (.strle rfl rfl) (.u (.pickF rfl rfl) (.m rfl (.dec (t := 51) rfl (fun h12_51 => ?_) (fun h12_51 => ?_))))))))))
   ·refine .kDT (t := 49) rfl h12_51 (.kDT (t := 50) rfl h12_51 (.gk (.gk (.gk (.gk (.gk (.u (.pickT rfl rfl) (.nt (.condT rfl (.sm rfl (.cv Tryz.func91 [_] (rfailR_spec r _) ?_)))))))))))
    refine .nt (.exit (.then_e (.blk_o rfl (.then_e (.then_e (.blk_e (.then_n (.rdCast (st' := sn4 s) (by repeat' constructor) (bad_node hj2 (fun g => h12_51 g.2.1)).symm ?_))))))))
    exact .mk (layT (numR (sn1 s)).1 (manyR ndR j (sn3 s)).1) (⟨fun g => absurd (bad_node hj2 (fun g => h12_51 g.2.1)) g, layT_sess _ _⟩) ⟨rfl, rfl, rfl, rfl, trivial⟩
   refine .kDF (t := 49) rfl h12_51 (.kDF (t := 50) rfl h12_51 (.grun (t := 51) rfl rfl rfl (.m rfl (.grun (t := 51) rfl rfl rfl (.u (.streq rfl rfl) (.grun (t := 51) rfl rfl rfl (.m rfl (.grun (t := 51) rfl rfl rfl (.u (.streq rfl rfl) (.grun (t := 51) rfl rfl rfl (.q (.boolne rfl rfl Tryz.underlying4) rfl (.u (.pickF rfl rfl) (.nt (.condB rfl (fun h57 => ?_) (fun h57 => ?_)))))))))))))))
   ·refine .sm rfl (.cv Tryz.func91 [_] (rfailR_spec r _) ?_)
    refine .nt (.exit (.then_e (.blk_o rfl (.then_e (.then_e (.blk_e (.then_n (.rdCast (st' := sn4 s) (by repeat' constructor) (bad_node hj2 (fun g => by have g3 : (lastP (manyR ndR j (sn3 s)).1 = [] ↔ (txtR (manyR ndR j (sn3 s)).2).1 = [47]) := g.2.2; simp [g3] at h57)).symm ?_))))))))
    exact .mk (layT (numR (sn1 s)).1 (manyR ndR j (sn3 s)).1) (⟨fun g => absurd (bad_node hj2 (fun g => by have g3 : (lastP (manyR ndR j (sn3 s)).1 = [] ↔ (txtR (manyR ndR j (sn3 s)).2).1 = [47]) := g.2.2; simp [g3] at h57)) g, layT_sess _ _⟩) ⟨rfl, rfl, rfl, rfl, trivial⟩
   have hnx : nextN (lastP (manyR ndR j (sn3 s)).1) ((ndR (manyR ndR j (sn3 s)).2).1).1 := ⟨h12_46, Decidable.not_not.1 h12_51, show (lastP (manyR ndR j (sn3 s)).1 = [] ↔ (txtR (manyR ndR j (sn3 s)).2).1 = [47]) from by simpa using h57⟩
   have hok2 : okN (manyR ndR (j + 1) (sn3 s)).1 := okN_snoc.2 ⟨hok, hnx⟩
   obtain ⟨na, hna⟩ : ∃ n, n = (cntR (txtR (txtR (manyR ndR j (sn3 s)).2).2).2).1 := ⟨_, rfl⟩
   have hna2 : na ≤ 256 := by rw [hna]; exact cntR_le _
   refine .sk (.sm rfl (.q (.as (v' := vstr (lastP (manyR ndR (j + 1) (sn3 s)).1)) (by exact congrArg vstr (lastP_snoc (manyR ndR j (sn3 s)).1 (ndR (manyR ndR j (sn3 s)).2).1).symm) (.assign rfl)) rfl (.nt (.seq (.add (slR_nil 90 2) (.region (.an rfl (.seq (.sm rfl (.oq (.c Tryz.func93 [_, _] (rcntN_spec r (txtR (txtR (manyR ndR j (sn3 s)).2).2).2)) ?_))))))))))
   rintro v L' ⟨rfl, rfl⟩; rw [show (cntR (txtR (txtR (manyR ndR j (sn3 s)).2).2).2).1 = na from hna.symm]
   refine .m rfl (.nt (.block (.loopK (ι := Nat × Value) (fun q E => (63, vint q.1) :: (10, q.2) :: E) (fun q => [rdR r (manyR acR q.1 (cntR (txtR (txtR (manyR ndR j (sn3 s)).2).2).2).2).2, slR 90 2 q.2 q.1 ((manyR acR q.1 (cntR (txtR (txtR (manyR ndR j (sn3 s)).2).2).2).2).1.flatMap acC)]) (fun q => q.1 ≤ na ∧ ∃ a c, q.2 = .slice a q.1 c) (fun q => na - q.1) (0, .slice none 0 0) (ts := [2, 3, 4, 5, 6, 8, 9, 36, 37, 38, 39, 40, 41, 42, 43, 44, 45, 46, 47, 48, 49, 50, 51, 52, 53, 54, 55, 56, 57, 60, 61, 62]) (.cons rfl (.cons rfl (.cons rfl (.cons rfl (.cons rfl (.cons rfl (.cons rfl (.cons rfl (.cons rfl (.cons rfl (.cons rfl (.cons rfl (.cons rfl (.cons rfl (.cons rfl (.cons rfl (.cons rfl (.cons rfl (.cons rfl (.cons rfl (.cons rfl (.cons rfl (.cons rfl (.cons rfl (.cons rfl (.cons rfl (.cons rfl (.cons rfl (.cons rfl (.cons rfl (.cons rfl (.cons rfl (.nil))))))))))))))))))))))))))))))))) (⟨Nat.zero_le _, none, 0, rfl⟩) ⟨rfl, rfl, rfl, rfl, rfl, rfl, rfl, rfl, rfl, rfl, rfl, rfl, rfl, rfl, rfl, rfl, rfl, rfl, rfl, rfl, rfl, rfl, rfl, rfl, rfl, rfl, rfl, rfl, rfl, rfl, rfl, rfl, rfl, rfl, trivial⟩ (by repeat' constructor) ?_)))
   rintro ⟨i, u⟩ ⟨hi, au, cu, hu⟩
   dsimp only
   dsimp only at hi hu
   subst hu
   refine .sr (.ui rfl rfl rfl (.nt (.seq (.condD rfl (fun h64 => ?_) (fun h64 => ?_)))))
   ·have hi2 : i < na := by omega
    refine .sk (.seq (.block (.sm rfl (.cv Tryz.func92 [_] (rnumN_spec r _) ?_))))
    refine .an rfl (.region (.m rfl (.m rfl (.m rfl (.cv Tryz.func90 [_, _] (rtxtN_spec r _) ?_)))))
    refine .q (.to (v' := .agg (acC (acR (manyR acR i (cntR (txtR (txtR (manyR ndR j (sn3 s)).2).2).2).2).2).1).toArray) (.build (us := [(0, _), (1, _)]) fl_90 ze_90 rfl rfl (by simp [isCell])) rfl) rfl (.oq (.buildSlice (vs := [_]) el_34 ze_90 rfl rfl rfl rfl (by first | (simp [Value.cells]; done) | (intro v hv; simp only [List.mem_cons, List.not_mem_nil, or_false] at hv; (repeat (first | (subst hv; rfl) | (rcases hv with hv | hv; (subst hv; rfl)))))) (by decide)) ?_)
    rintro v L' ⟨b19, rfl, rfl⟩
    refine .oq (.append1 rfl rfl rfl el_34 ze_90 rfl rfl ?c73 ?c74 (Nat.le_refl _) ?c75 (by decide)) ?_
    case c73 => simp only [List.map_cons, List.map_nil, List.flatten_cons, List.flatten_nil, List.append_nil]; simp [Value.cells, acC, isCell]
    case c74 => rfl
    case c75 => omega
    rintro v L' ⟨⟨a5, c5, rfl⟩, rfl⟩
    refine .a rfl (.nil (.blk_n (.then_n (.region (.q (.add rfl rfl (by omega)) rfl (.m rfl (.nt (.slCast (T := 90) (sz := 2) (m' := i + 1) (xs' := (manyR acR (i + 1) (cntR (txtR (txtR (manyR ndR j (sn3 s)).2).2).2).2).1.flatMap acC) (by repeat' constructor) (by exact rfl) (by show _ = ((manyR acR i (cntR (txtR (txtR (manyR ndR j (sn3 s)).2).2).2).2).1 ++ [_]).flatMap acC; rw [List.flatMap_append]; simp [Value.cells, acC]) ?_))))))))
    exact .rk ((i + 1, .slice a5 (i + 1) c5)) (⟨by dsimp only; omega, _, _, rfl⟩) (by dsimp only; omega) ⟨rfl, rfl, rfl, rfl, rfl, rfl, rfl, rfl, rfl, rfl, rfl, rfl, rfl, rfl, rfl, rfl, rfl, rfl, rfl, rfl, rfl, rfl, rfl, rfl, rfl, rfl, rfl, rfl, rfl, rfl, rfl, rfl, rfl, rfl, trivial⟩
   have hii : i = na := by omega
   subst hii
   rw [hna]
   refine .exit (.then_e (.then_e (.blk_e (.then_n (.sr (.oq (.allocA ze_92) ?_))))))
   rintro v L' ⟨b12, rfl, rfl⟩
   refine .nil (.ptCast (b := b12) (l' := stC (st7 (manyR numR 0 (manyR acR (cntR (txtR (txtR (manyR ndR j (sn3 s)).2).2).2).1 (cntR (txtR (txtR (manyR ndR j (sn3 s)).2).2).2).2).2).1)) (by repeat' constructor) rfl (.then_n (.seq (.sr (.u (.fieldAddr rfl fo_92_0) (.u (.fieldAddr rfl fo_92_1) (.u (.fieldAddr rfl fo_92_2) (.u (.fieldAddr rfl fo_92_3) (.u (.fieldAddr rfl fo_92_4) (.u (.fieldAddr rfl fo_92_5) (.u (.fieldAddr rfl fo_92_6) (.q (.buildA (us := [(0, .pointer (some ⟨b12, 0, none⟩)), (1, .pointer (some ⟨b12, 1, none⟩)), (2, .pointer (some ⟨b12, 2, none⟩)), (3, .pointer (some ⟨b12, 3, none⟩)), (4, .pointer (some ⟨b12, 4, none⟩)), (5, .pointer (some ⟨b12, 5, none⟩)), (6, .pointer (some ⟨b12, 6, none⟩))]) (cells := ([.pointer (some ⟨b12, 0, none⟩), .pointer (some ⟨b12, 1, none⟩), .pointer (some ⟨b12, 2, none⟩), .pointer (some ⟨b12, 3, none⟩), .pointer (some ⟨b12, 4, none⟩), .pointer (some ⟨b12, 5, none⟩), .pointer (some ⟨b12, 6, none⟩)] : List Value)) ar_158 ze_158 rfl (by kernel_rfl)) rfl ?_))))))))))))
   refine .m rfl (.nt (.block (.loopK (ι := Nat) (fun q E => (83, vint q) :: E) (fun q => [rdR r (manyR numR q (manyR acR (cntR (txtR (txtR (manyR ndR j (sn3 s)).2).2).2).1 (cntR (txtR (txtR (manyR ndR j (sn3 s)).2).2).2).2).2).2, ptc b12 (stC (st7 (manyR numR q (manyR acR (cntR (txtR (txtR (manyR ndR j (sn3 s)).2).2).2).1 (cntR (txtR (txtR (manyR ndR j (sn3 s)).2).2).2).2).2).1)) 92]) (fun q => q ≤ 7) (fun q => 7 - q) (0) (ts := [2, 3, 4, 5, 6, 8, 9, 10, 12, 36, 37, 38, 39, 40, 41, 42, 43, 44, 45, 46, 47, 48, 49, 50, 51, 52, 53, 54, 55, 56, 57, 60, 61, 62, 63, 64, 75, 76, 77, 78, 79, 80, 81, 82]) (.cons rfl (.cons rfl (.cons rfl (.cons rfl (.cons rfl (.cons rfl (.cons rfl (.cons rfl (.cons rfl (.cons rfl (.cons rfl (.cons rfl (.cons rfl (.cons rfl (.cons rfl (.cons rfl (.cons rfl (.cons rfl (.cons rfl (.cons rfl (.cons rfl (.cons rfl (.cons rfl (.cons rfl (.cons rfl (.cons rfl (.cons rfl (.cons rfl (.cons rfl (.cons rfl (.cons rfl (.cons rfl (.cons rfl (.cons rfl (.cons rfl (.cons rfl (.cons rfl (.cons rfl (.cons rfl (.cons rfl (.cons rfl (.cons rfl (.cons rfl (.cons rfl (.nil))))))))))))))))))))))))))))))))))))))))))))) (Nat.zero_le _) ⟨rfl, rfl, rfl, rfl, rfl, rfl, rfl, rfl, rfl, rfl, rfl, rfl, rfl, rfl, rfl, rfl, rfl, rfl, rfl, rfl, rfl, rfl, rfl, rfl, rfl, rfl, rfl, rfl, rfl, rfl, rfl, rfl, rfl, rfl, rfl, rfl, rfl, rfl, rfl, rfl, rfl, rfl, rfl, rfl, rfl, trivial⟩ (by repeat' constructor) ?_)))
   rintro k hk
   refine .sr (.ui rfl rfl rfl (.nt (.seq (.condD rfl (fun h84 => ?_) (fun h84 => ?_)))))
   ·have hk2 : k < 7 := by omega
    refine .sk (.seq (.block (.sr (.q (.arrIndex (cs := ([.pointer (some ⟨b12, 0, none⟩), .pointer (some ⟨b12, 1, none⟩), .pointer (some ⟨b12, 2, none⟩), .pointer (some ⟨b12, 3, none⟩), .pointer (some ⟨b12, 4, none⟩), .pointer (some ⟨b12, 5, none⟩), .pointer (some ⟨b12, 6, none⟩)] : List Value)) (v := .pointer (some ⟨b12, k, none⟩)) rfl rfl ar_158 ag_157 (by omega) (seven_at hk2)) rfl (.an rfl (.region (.m rfl (.m rfl (.cv Tryz.func92 [_] (rnumN_spec r _) ?_)))))))))
    refine .u (.nilp rfl) (.oq (.store rfl rfl rfl sz_3 ?c96 (nfz0 _ _)) ?_)
    case c96 => simp [stC]; omega
    rintro v L' rfl
    refine .nil (.blk_n (.then_n (.region (.q (.add rfl rfl (by omega)) rfl (.m rfl (.nt (.ptCast (b := b12) (l' := stC (st7 (manyR numR (k + 1) (manyR acR (cntR (txtR (txtR (manyR ndR j (sn3 s)).2).2).2).1 (cntR (txtR (txtR (manyR ndR j (sn3 s)).2).2).2).2).2).1)) (by repeat' constructor) (st7_set hk2 (manyL _ _ _) _) ?_)))))))
    exact .rk (k + 1) (by omega) (by omega) ⟨rfl, rfl, rfl, rfl, rfl, rfl, rfl, rfl, rfl, rfl, rfl, rfl, rfl, rfl, rfl, rfl, rfl, rfl, rfl, rfl, rfl, rfl, rfl, rfl, rfl, rfl, rfl, rfl, rfl, rfl, rfl, rfl, rfl, rfl, rfl, rfl, rfl, rfl, rfl, rfl, rfl, rfl, rfl, rfl, rfl, trivial⟩
   have hkk : k = 7 := by omega
   subst hkk
   refine .exit (.then_e (.then_e (.blk_e (.then_n (.region (.m rfl (.m rfl (.m rfl (.m rfl (.q (.loadAs (vs := stC (st7 (manyR numR 7 (manyR acR (cntR (txtR (txtR (manyR ndR j (sn3 s)).2).2).2).1 (cntR (txtR (txtR (manyR ndR j (sn3 s)).2).2).2).2).2).1)) rfl ag_92 (by repeat' constructor) (by simp [stC]) rfl) rfl (.oq (.call Tryz.func59 rfl rfl (vs := [_, _, _, _, _]) rfl (trlay_spec t (layT (numR (sn1 s)).1 (manyR ndR j (sn3 s)).1) (txtR (manyR ndR j (sn3 s)).2).1 (txtR (txtR (manyR ndR j (sn3 s)).2).2).1 _ (manyR acR (cntR (txtR (txtR (manyR ndR j (sn3 s)).2).2).2).1 (cntR (txtR (txtR (manyR ndR j (sn3 s)).2).2).2).2).1 (st7 (manyR numR 7 (manyR acR (cntR (txtR (txtR (manyR ndR j (sn3 s)).2).2).2).1 (cntR (txtR (txtR (manyR ndR j (sn3 s)).2).2).2).2).2).1) (slR 90 2 _ (cntR (txtR (txtR (manyR ndR j (sn3 s)).2).2).2).1 ((manyR acR (cntR (txtR (txtR (manyR ndR j (sn3 s)).2).2).2).1 (cntR (txtR (txtR (manyR ndR j (sn3 s)).2).2).2).2).1.flatMap acC)) (fun h hp => by rw [manyL]; exact slR_rd hp) (by rw [manyL, ← hna]; omega) (by omega))) ?_)))))))))))
   rintro v L' ⟨rfl, rfl⟩
   refine .nil (.blk_n (.then_n (.region (.q (.add rfl rfl (by omega)) rfl (.m rfl (.nt (.trCast (τ' := layT (numR (sn1 s)).1 (manyR ndR (j + 1) (sn3 s)).1) (by repeat' constructor) (lay_next (y := (ndR (manyR ndR j (sn3 s)).2).1) hok2 ⟨rfl, rfl⟩).symm ?_)))))))
   exact .rk (j + 1) (⟨by omega, hok2⟩) (by omega) ⟨rfl, rfl, rfl, rfl, rfl, rfl, rfl, trivial⟩
  have hjj : j = snM s := by omega
  refine .exit (.then_e (.then_e (.blk_e (.then_n (.rdCast (st' := sn4 s) (by repeat' constructor) (by unfold sn4; rw [if_pos (show okN (snL s) from by unfold snL; rw [← hjj]; exact hok), ← hjj]) ?_)))))
  exact .mk (layT (numR (sn1 s)).1 (manyR ndR j (sn3 s)).1) (⟨fun _ => by unfold snL; rw [← hjj], layT_sess _ _⟩) ⟨rfl, rfl, rfl, rfl, trivial⟩
 rintro υ ⟨hυ, hυs⟩
 refine .sr (.an rfl (.seq (.joinK (ι := Tr) (fun q E => E) (fun q => [rdR r (sn6 s), treeR t q]) (fun q => sn6 s ≠ none → q = laySs υ (snS s)) (pre := [rdR r (sn4 s), treeR t υ]) (ts := [2, 3, 4, 5]) (.cons rfl (.cons rfl (.cons rfl (.cons rfl (.nil))))) (by repeat' constructor) ?_ ?_)))
 ·refine .sm rfl (.oq (.c Tryz.func93 [_, _] (rcntN_spec r (sn4 s))) ?_)
  rintro v L' ⟨rfl, rfl⟩; rw [show (cntR (sn4 s)).1 = snK s from rfl]
  refine .m rfl (.nt (.block (.trCast (τ' := laySs υ (manyR ssR 0 (cntR (sn4 s)).2).1) (by repeat' constructor) (by rw [show laySs υ (manyR ssR 0 (cntR (sn4 s)).2).1 = ⟨υ.nodes, [], υ.zx⟩ from rfl]; exact Tr.ext' rfl hυs.symm rfl) (.loopK (ι := Nat) (fun q E => (100, vint q) :: (15, vint (lastI (manyR ssR q (cntR (sn4 s)).2).1)) :: E) (fun q => [rdR r (manyR ssR q (cntR (sn4 s)).2).2, treeR t (laySs υ (manyR ssR q (cntR (sn4 s)).2).1)]) (fun q => q ≤ snK s ∧ okS (manyR ssR q (cntR (sn4 s)).2).1) (fun q => snK s - q) (0) (ts := [2, 3, 4, 5, 99]) (.cons rfl (.cons rfl (.cons rfl (.cons rfl (.cons rfl (.nil)))))) (⟨Nat.zero_le _, okS_nil⟩) ⟨rfl, rfl, rfl, rfl, rfl, rfl, rfl, trivial⟩ (by repeat' constructor) ?_))))
  rintro i ⟨hi, hoks⟩
  refine .sr (.ui rfl rfl rfl (.nt (.seq (.condD rfl (fun h101 => ?_) (fun h101 => ?_)))))
  ·have hi2 : i < snK s := by omega
   have hk256 : snK s ≤ 256 := cntR_le _
   refine .sk (.seq (.block (.sm rfl (.cv Tryz.func92 [_] (rnumN_spec r _) ?_))))
   refine .m rfl (.cv Tryz.func92 [_] (rnumN_spec r _) ?_)
   refine .a rfl (.an rfl (.seq (.sm rfl (.m rfl (.ui rfl rfl rfl (.nt (.condD rfl (fun h108 => ?_) (fun h108 => ?_))))))))
   ·have h108b : ¬ nextS (lastI (manyR ssR i (cntR (sn4 s)).2).1) (ssR (manyR ssR i (cntR (sn4 s)).2).2).1.1 := by unfold nextS; have := h108; show ¬ _ < (numR (manyR ssR i (cntR (sn4 s)).2).2).1; omega
    refine .sm rfl (.cv Tryz.func91 [_] (rfailR_spec r _) ?_)
    refine .nt (.exit (.then_e (.blk_o rfl (.then_e (.then_e (.blk_e (.then_n (.rdCast (st' := sn6 s) (by repeat' constructor) (bad_sess hi2 (fun g => h108b g)).symm ?_))))))))
    exact .mk (laySs υ (manyR ssR i (cntR (sn4 s)).2).1) (fun g => absurd (bad_sess hi2 (fun g => h108b g)) g) ⟨rfl, rfl, rfl, rfl, trivial⟩
   have hnx : nextS (lastI (manyR ssR i (cntR (sn4 s)).2).1) (ssR (manyR ssR i (cntR (sn4 s)).2).2).1.1 := by unfold nextS; have := h108; show _ < (numR (manyR ssR i (cntR (sn4 s)).2).2).1; omega
   have hok2 : okS (manyR ssR (i + 1) (cntR (sn4 s)).2).1 := okS_snoc.2 ⟨hoks, hnx⟩
   refine .sk (.sm rfl (.q (.as (v' := vint (lastI (manyR ssR (i + 1) (cntR (sn4 s)).2).1)) (by exact congrArg vint (lastI_snoc (manyR ssR i (cntR (sn4 s)).2).1 (ssR (manyR ssR i (cntR (sn4 s)).2).2).1).symm) (.assign rfl)) rfl (.nt (.region (.m rfl (.m rfl (.m rfl (.m rfl (.cv Tryz.func90 [_, _] (rtxtN_spec r _) ?_)))))))))
   refine .cv Tryz.func61 [_, _, _, _] (trlayses_spec t _ _ _ _) ?_
   refine .nil (.blk_n (.then_n (.region (.q (.add rfl rfl (by omega)) rfl (.m rfl (.nt (.trCast (τ' := laySs υ (manyR ssR (i + 1) (cntR (sn4 s)).2).1) (by repeat' constructor) (lays_next (x := (ssR (manyR ssR i (cntR (sn4 s)).2).2).1) hok2).symm ?_)))))))
   exact .rk (i + 1) (⟨by omega, hok2⟩) (by omega) ⟨rfl, rfl, rfl, rfl, rfl, rfl, rfl, trivial⟩
  have hii : i = snK s := by omega
  refine .exit (.then_e (.then_e (.blk_e (.then_n (.rdCast (st' := sn6 s) (by repeat' constructor) (by unfold sn6; rw [if_pos (show okS (snS s) from by unfold snS; rw [← hii]; exact hoks), ← hii]) ?_)))))
  exact .mk (laySs υ (manyR ssR i (cntR (sn4 s)).2).1) (fun _ => by unfold snS; rw [← hii]) ⟨rfl, rfl, rfl, rfl, trivial⟩
 rintro φ hφ
 refine .seq (.sm rfl (.oq (.c Tryz.func95 [_] (rend_spec r _)) ?_))
 rintro v L' ⟨e1, he1, rfl, st', rfl⟩
 refine .ui rfl rfl rfl (.nt (.condN rfl (fun h121 => ?_) (fun h121 => ?_)))
 ·refine .sr (.a rfl (.an rfl (.rt ?_)))
  exact .dn rfl rfl (.inl ⟨by unfold readZ; exact if_neg (fun g => h121 (he1.2 g)), rfl, rfl⟩)
 have h6 : sn6 s = some [] := he1.1 (by simpa using h121)
 have hφ2 : φ = ⟨snL s, snS s, (numR (sn1 s)).1⟩ := read_tree h6 hυ (hφ (by rw [h6]; simp))
 subst hφ2
 refine .sk (.sm rfl (.a rfl (.an rfl (.ret ?_))))
 exact .dn rfl rfl (.inr ⟨_, t, by unfold readZ; exact if_pos h6, rfl, rfl⟩)
theorem right_ok {τ : Tr} (h : RightT τ) : τ.Ok 256 :=
 ⟨(okN_sorted h.n).1, (okS_sorted h.s).1, h.nf, fun y hy => check_able (okN_able h.n y hy), (okS_pos h.s).2, fun y hy => by have := (h.nd y hy).2.1; omega, h.sf⟩
theorem read_ok {s : Bs} {τ : Tr} (h : readZ s = some τ) : τ.Ok 256 := right_ok (read_form h).1
theorem dec_none {s : Bs} (h : readZ s = none) : decZ s = none := by unfold decZ; rw [h]
theorem dec_some {s : Bs} {τ : Tr} (h : readZ s = some τ) (hw : wholeZ τ) : decZ s = some τ := by unfold decZ; rw [h]; exact if_pos hw
theorem dec_not {s : Bs} {τ : Tr} (h : readZ s = some τ) (hw : ¬ wholeZ τ) : decZ s = none := by unfold decZ; rw [h]; exact if_neg hw
def TreeOr (o : Option Tr) (e : Int) (v : Value) (L : List HP) : Prop := (o = none ∧ v = .tuple #[.pointer none, vint e] ∧ L = []) ∨ ∃ τ t, o = some τ ∧ v = .tuple #[vptr t, vint 0] ∧ L = [treeR t τ]
theorem sdecode_spec (s : Bs) (hs : s.length ≤ 70368744177664) : Fn Tryz.prog 13 #[vstr s] [] (TreeOr (decZ s) 70) := by
 refine Fn.intro Tryz.func13 rfl rfl fun F W => ?_
 refine .sr (.a rfl (.an rfl (.sm rfl (.oq (.c Tryz.func40 [_] (sread_spec s hs)) ?_))))
 rintro v L' (⟨hz, rfl, rfl⟩ | ⟨τ, t, hz, rfl, rfl⟩)
 ·refine .m rfl (.u (.extract rfl rfl) (.u (.extract rfl rfl) (.a rfl (.an rfl (.seq (.sm rfl (.q (.as (v' := .bool true) (by rfl) (.int rfl rfl rfl)) rfl (.nt (.condT rfl (.sm rfl (.a rfl (.an rfl (.rt ?_)))))))))))))
  exact .dn rfl rfl (.inl ⟨dec_none hz, rfl, rfl⟩)
 have ho := read_ok hz
 have hfew := ho.few
 have hpz : (pathsZ τ).length = τ.nodes.length := List.length_map _
 refine .m rfl (.u (.extract rfl rfl) (.u (.extract rfl rfl) (.a rfl (.an rfl (.seq (.sm rfl (.q (.as (v' := .bool false) (by rfl) (.int rfl rfl rfl)) rfl (.nt (.condF rfl (.sk (.seq (.sm rfl (.oq (.c Tryz.func22 [_] (trpaths_spec t τ 256 ho (by decide))) ?_)))))))))))))
 rintro v L' ⟨⟨ap, cp, rfl⟩, rfl⟩; rw [hpz]
 refine .q (.slen rfl Tryz.underlying54 rfl) rfl (.m rfl (.nt (.block (.loopK (ι := Nat) (fun q E => (21, vint q) :: E) (fun q => [treeR t τ]) (fun q => q ≤ τ.nodes.length ∧ ∀ i (hi : i < τ.nodes.length), i < q → τ.nodes[i].1 = [47] ∨ thereT τ (parentZ τ.nodes[i].1)) (fun q => τ.nodes.length - q) (0) (ts := [4, 19, 20]) (.cons rfl (.cons rfl (.cons rfl (.nil)))) (⟨Nat.zero_le _, fun i _ h => absurd h (Nat.not_lt_zero _)⟩) ⟨rfl, rfl, rfl, rfl, trivial⟩ (by repeat' constructor) ?_))))
 rintro j ⟨hj, hno⟩
 refine .sr (.ui rfl rfl rfl (.nt (.seq (.condD rfl (fun h22 => ?_) (fun h22 => ?_)))))
 ·have hj2 : j < τ.nodes.length := by omega
  have hpl := able_len (ho.able _ (List.getElem_mem hj2))
  refine .slShape (T := 9) (sz := 1) (v := .slice ap τ.nodes.length cp) (xs := strs (pathsZ τ)) (by repeat' constructor) (by omega) fun bp bp' e0 mbp _ => ?_
  simp only [Value.slice.injEq, true_and] at e0
  obtain ⟨rfl, rfl⟩ := e0
  refine .sk (.seq (.block (.sr (.q (.indexAddr rfl rfl el_54 (by omega)) rfl (.q (.loadRd (sz := 1) (j := j * 1) (p := slR 9 1 _ τ.nodes.length (strs (pathsZ τ))) (v := vstr τ.nodes[j].1) rfl ag_9 (by repeat' constructor) (fun h hp => slR_rd hp) (by simp) (by simp [strs, pathsZ, hj2])) rfl (.an rfl (.sm rfl (.m rfl (.cv Tryz.func42 [_] (parent_spec τ.nodes[j].1 (by omega)) ?_)))))))))
  refine .cv Tryz.func41 [_, _] (trstat_spec t τ (parentZ τ.nodes[j].1) 256 ho (by decide)) ?_
  refine .m rfl (.u (.extract rfl rfl) (.u (.extract rfl rfl) (.oq (.allocA ze_92) ?_)))
  rintro v L' ⟨b8, rfl, rfl⟩
  refine .oq (.storeA rfl rfl ?c30 sz_92 ?c33 ?c31 (nfz0 _ _)) ?_
  case c30 => intro v hv; simp only [stC, List.mem_cons, List.not_mem_nil, or_false] at hv; rcases hv with rfl | rfl | rfl | rfl | rfl | rfl | rfl | rfl | rfl <;> rfl
  case c33 => rfl
  case c31 => simp [stC]
  rintro v L' rfl
  refine .an rfl (.sm rfl (.u (.not rfl) (.m rfl (.ndec (t := 34) rfl (fun h8_34 => ?_) (fun h8_34 => ?_)))))
  ·refine .kNT (t := 33) rfl h8_34 (.grun (t := 34) rfl rfl rfl (.m rfl (.grun (t := 34) rfl rfl rfl (.u (.strne rfl rfl) (.u (.pickT rfl rfl) (.nt (.condN rfl (fun h37 => ?_) (fun h37 => ?_))))))))
   ·refine .sr (.a rfl (.an rfl (.ret (.blk_r (.then_r (.then_r (.blk_r (.then_r ?_))))))))
    exact .dn rfl rfl (.inl ⟨dec_not hz (fun g => by rcases g _ (List.mem_map_of_mem (List.getElem_mem hj2)) with g1 | g1; exact h37 g1; exact h8_34 g1), rfl, rfl⟩)
   refine .skip (.blk_n (.then_n (.region (.q (.add rfl rfl (by omega)) rfl (.m rfl (.nt ?_))))))
   exact .rk (j + 1) (⟨by omega, fun i hi hij => by by_cases e : i = j; (subst e; exact .inl h37); exact hno i hi (by omega)⟩) (by omega) ⟨rfl, rfl, rfl, rfl, trivial⟩
  refine .kNF (t := 33) rfl h8_34 (.gk (.gk (.u (.pickF rfl rfl) (.nt (.condF rfl (.skip (.blk_n (.then_n (.region (.q (.add rfl rfl (by omega)) rfl (.m rfl (.nt ?_))))))))))))
  exact .rk (j + 1) (⟨by omega, fun i hi hij => by by_cases e : i = j; (subst e; exact .inr h8_34); exact hno i hi (by omega)⟩) (by omega) ⟨rfl, rfl, rfl, rfl, trivial⟩
 refine .exit (.then_e (.then_e (.blk_e (.then_n (.sm rfl (.a rfl (.an rfl (.ret ?_))))))))
 exact .dn rfl rfl (.inr ⟨τ, t, dec_some hz (fun p hp => by obtain ⟨y, hy, rfl⟩ := List.mem_map.1 hp; obtain ⟨i, hi, rfl⟩ := List.mem_iff_getElem.1 hy; exact hno i hi (by omega)), rfl, rfl⟩)
theorem enC_cells {p : HP} {e : En} (h : PtA p e.x) : ∀ v ∈ enC e, isCell v = true := by
 intro v hv
 unfold enC at hv
 rcases List.mem_append.1 hv with hv | hv
 ·simp at hv; rcases hv with rfl | rfl | rfl <;> rfl
 ·exact h.all v hv
def TreeOrP (p : HP) (o : Option Tr) (e : Int) (v : Value) (L : List HP) : Prop := (o = none ∧ v = .tuple #[.pointer none, vint e] ∧ L = [p]) ∨ ∃ τ t, o = some τ ∧ v = .tuple #[vptr t, vint 0] ∧ L = [treeR t τ, p]
structure EntsB (p : HP) (v : Value) (es : List En) : Prop where
 cells : ∀ h : Hp, p h → rdS 11 h v es.length (es.flatMap enC)
 len : es.length ≤ 1048576
 tx : ∀ e ∈ es, TxA p e.x e.subs
 total : wtL es ≤ 2097152
noncomputable def restO (s : Bs) (es : List En) : Option Tr := (readZ s).map fun τ => restZ τ es
theorem srestoreB_spec (s : Bs) (hs : s.length ≤ 70368744177664) (va : Value) (es : List En) (p : HP) (hE : EntsB p va es) : Fn Tryz.prog 19 #[vstr s, va] [p] (TreeOrP p (restO s es) 70) := by
 refine Fn.intro Tryz.func19 rfl rfl fun F W => ?_
 refine .rdAny (p := p) hE.cells (by repeat' constructor) fun aa ca e0 _ => ?_
 subst e0
 have hel := hE.len
 refine .sr (.a rfl (.an rfl (.sm rfl (.oq (.c Tryz.func40 [_] (sread_spec s hs)) ?_))))
 rintro v L' (⟨hz, rfl, rfl⟩ | ⟨τ, t, hz, rfl, rfl⟩)
 ·refine .m rfl (.u (.extract rfl rfl) (.u (.extract rfl rfl) (.a rfl (.an rfl (.seq (.sm rfl (.q (.as (v' := .bool true) (by rfl) (.int rfl rfl rfl)) rfl (.nt (.condT rfl (.sm rfl (.a rfl (.an rfl (.rt ?_)))))))))))))
  exact .dn rfl rfl (.inl ⟨by unfold restO; rw [hz]; rfl, rfl, rfl⟩)
 have ho := read_ok hz
 have hfew := ho.few
 have hpz : (pathsZ τ).length = τ.nodes.length := List.length_map _
 refine .m rfl (.u (.extract rfl rfl) (.u (.extract rfl rfl) (.a rfl (.an rfl (.seq (.sm rfl (.q (.as (v' := .bool false) (by rfl) (.int rfl rfl rfl)) rfl (.nt (.condF rfl (.sk (.sm rfl (.cv Tryz.func24 [_] (trzxid_spec t τ) ?_))))))))))))
 refine .an rfl (.seq (.sm rfl (.q (.slen rfl Tryz.underlying24 rfl) rfl (.m rfl (.nt (.block (.trCast (τ' := (restZ τ (es.take 0))) (by repeat' constructor) (by rw [List.take_zero]; rfl) (.loopK (ι := Nat) (fun q E => (23, vint q) :: E) (fun q => [treeR t (restZ τ (es.take q))]) (fun q => q ≤ es.length) (fun q => es.length - q) (0) (ts := [4, 5, 6, 8, 21, 22]) (.cons rfl (.cons rfl (.cons rfl (.cons rfl (.cons rfl (.cons rfl (.nil))))))) (Nat.zero_le _) ⟨rfl, rfl, rfl, rfl, rfl, rfl, rfl, trivial⟩ (by repeat' constructor) ?_))))))))
 rintro i hi
 refine .sr (.ui rfl rfl rfl (.nt (.seq (.condD rfl (fun h24 => ?_) (fun h24 => ?_)))))
 ·have hi2 : i < es.length := by omega
  have hwm := wt_mem (List.getElem_mem hi2)
  have htot := hE.total
  refine .rdShape (p := p) hE.cells (by repeat' constructor) (by omega) fun be oe e1 => ?_
  subst e1
  have hok : (restZ τ (es.take i)).Ok (256 + 2097152) := (rest_ok (z := τ.zx) (p := p) (l := es.take i) ho (fun e he => hE.tx e (List.mem_of_mem_take he))).more (by have := wt_take (l := es) i; omega)
  have htx := hE.tx _ (List.getElem_mem hi2)
  have hec : ∀ v ∈ enC es[i], isCell v = true := enC_cells htx.own
  refine .sk (.seq (.block (.sr (.q (.indexAddr rfl rfl el_24 (by omega)) rfl (.q (.loadRdA (sz := 11) (j := i * 11) (k := 11) (p := p) (vs := enC es[i]) rfl ag_39 (by repeat' constructor) hE.cells (by simp) (by omega) (by omega) (flatMap_at (f := enC) (sz := 11) (fun _ _ => rfl) (by omega))) rfl (.oq (.allocA ze_39) ?_))))))
  rintro v L' ⟨b10, rfl, rfl⟩
  refine .oq (.storeA rfl rfl ?c24 sz_39 ?c27 ?c25 (nfz0 _ _)) ?_
  case c24 => exact hec
  case c27 => rfl
  case c25 => simp [enC, ptC]
  rintro v L' rfl
  refine .nil (.ptCast (b := b10) (l' := enC es[i]) (by repeat' constructor) rfl (.then_n (.sr (.u (.fieldAddr rfl fo_39_0) (.u (.ld rfl ag_3) (.m rfl (.ui rfl rfl rfl (.nt (.condD rfl (fun h30 => ?_) (fun h30 => ?_))))))))))
  ·refine .region (.m rfl (.q (.loadAs (vs := enC es[i]) rfl ag_39 (by repeat' constructor) (by simp [enC, ptC]) rfl) rfl (.oq (.call Tryz.func12 rfl rfl (vs := [_, _]) rfl (trapply_spec t (restZ τ (es.take i)) es[i].zx es[i].ses es[i].xid es[i].x es[i].subs p htx _ hok (by omega))) ?_)))
   rintro v L' ⟨ue, ee, rfl, he, hue, rfl⟩
   refine .nil (.blk_n (.then_n (.region (.q (.add rfl rfl (by omega)) rfl (.m rfl (.nt (.trCast (τ' := (restZ τ (es.take (i + 1)))) (by repeat' constructor) (by rw [rest_step _ hi2]; unfold restStep; rw [if_pos h30] <;> rfl) ?_)))))))
   exact .rk (i + 1) (by omega) (by omega) ⟨rfl, rfl, rfl, rfl, rfl, rfl, rfl, trivial⟩
  refine .skip (.blk_n (.then_n (.region (.q (.add rfl rfl (by omega)) rfl (.m rfl (.nt (.trCast (τ' := (restZ τ (es.take (i + 1)))) (by repeat' constructor) (by rw [rest_step _ hi2]; unfold restStep; rw [if_neg h30] <;> rfl) ?_)))))))
  exact .rk (i + 1) (by omega) (by omega) ⟨rfl, rfl, rfl, rfl, rfl, rfl, rfl, trivial⟩
 have hii : i = es.length := by omega
 rw [hii, List.take_length]
 refine .exit (.then_e (.then_e (.blk_e (.then_n (.sm rfl (.a rfl (.an rfl (.ret ?_))))))))
 exact .dn rfl rfl (.inr ⟨_, t, by unfold restO; rw [hz]; rfl, rfl, rfl⟩)
theorem pick7_spec  (c n : Int) (hc : -9223372036854775808 ≤ c ∧ c ≤ 9223372036854775807) (hn : 0 < n) : Fn Tryz.prog 35 #[vint c, vint n] [] fun v L => v = vint (pickZ c n) ∧ L = [] := by
 refine Fn.intro Tryz.func35 rfl rfl fun F W => ?_
 refine .sr (.an rfl (.seq (.sm rfl (.ui rfl rfl rfl (.nt (.condD rfl (fun h6 => ?_) (fun h6 => ?_)))))))
 ·refine .region (.m rfl (.q (.add rfl rfl (by omega)) rfl (.q (.neg rfl (by omega)) rfl (.an rfl (.sm rfl (.m rfl (.q (.remE rfl rfl (by omega) (by omega)) rfl (.an rfl (.ret ?_)))))))))
  have e : pickZ c n = (-(c + 1)) % n := by unfold pickZ; rw [if_pos h6]
  rw [e]
  exact .vv
 refine .sk (.sm rfl (.m rfl (.q (.remE rfl rfl (by omega) (by omega)) rfl (.an rfl (.ret ?_)))))
 have e : pickZ c n = (c) % n := by unfold pickZ; rw [if_neg h6]
 rw [e]
 exact .vv
theorem fill_entry (zx : Int) (s0 s1 s2 s3 s4 s5 s6 s7 : Value) : Instr.fill (fun i => [(0, 1), (1, 1), (2, 1), (3, 8)].toArray[i]?) ([.int .i64 0, .int .i64 0, .int .i64 0, .int .i64 0, .string (bs []), .string (bs []), .slice none 0 0, .int .i64 0, .int .i64 0, .int .i64 0, .slice none 0 0] : List Value).toArray [(0, vint zx), (3, .agg ([s0, s1, s2, s3, s4, s5, s6, s7] : List Value).toArray)] = some (([vint zx, vint 0, vint 0] ++ [s0, s1, s2, s3, s4, s5, s6, s7] : List Value).toArray) := by kernel_rfl
def nilA : HP := fun _ => True
theorem nilA_ok (h : Hp) : nilA h := trivial
/- not in this seat -/
/- not in this seat -/
theorem pick7_is (c n : Int) {k : Int} (e : pickZ c n = k) (hc : -9223372036854775808 ≤ c ∧ c ≤ 9223372036854775807) (hn : 0 < n) : Fn Tryz.prog 35 #[vint c, vint n] [] fun v L => v = vint k ∧ L = [] := e ▸ pick7_spec c n hc hn
theorem strs_at {xs : List Bs} {i : Nat} (hi : i < xs.length) : (strs xs)[i * 1]? = some (vstr xs[i]) := by
 unfold strs; rw [Nat.mul_one, List.getElem?_map, List.getElem?_eq_getElem hi]; rfl
def segsZ : Bs → List Bs
 | [] => []
 | _ :: r => splitZ r
def okZ (s : Bs) : Bool := decide (s.head? = some 47) && (segsZ s).all isNameZ
theorem seg_step {r : Bs} {k : Nat} (hk : k ≤ r.length) (h1 : ∀ j, j < k → r.getD j 0 ≠ 47) (h2 : k = r.length ∨ r.getD k 0 = 47) : splitZ r = r.take k :: segsZ (r.drop k) := by
 have hno : (47 : UInt8) ∉ r.take k := fun hm => by
  obtain ⟨i, hi, e⟩ := List.mem_iff_getElem.1 hm
  rw [List.length_take] at hi
  rw [List.getElem_take] at e
  refine h1 i (by omega) ?_
  rw [List.getD_eq_getElem?_getD, List.getElem?_eq_getElem (by omega), Option.getD_some]; exact e
 rcases Nat.lt_or_ge k r.length with hlt | hge
 ·have h3 : r[k] = 47 := by
   rcases h2 with h2 | h2
   ·omega
   ·rw [List.getD_eq_getElem?_getD, List.getElem?_eq_getElem hlt, Option.getD_some] at h2; exact h2
  have e : r = r.take k ++ 47 :: r.drop (k + 1) := by
   have := (List.take_append_drop k r).symm
   rw [List.drop_eq_getElem_cons hlt, h3] at this; exact this
  have e2 : r.drop k = 47 :: r.drop (k + 1) := by rw [List.drop_eq_getElem_cons hlt, h3]
  rw [e2]
  conv => lhs; rw [e]
  exact split_at hno
 ·have : k = r.length := by omega
  subst this
  rw [List.take_length] at hno ⊢
  rw [List.drop_length, split_none hno]; rfl
theorem check_ok {p : Bs} (h1 : p ≠ [47]) : checkZ p = if okZ p = true then (if p.length > 60 ∨ (segsZ p).length > 6 then 41 else 0) else 40 := by
 unfold checkZ
 rw [if_neg h1]
 cases p with
 | nil => decide
 | cons c r =>
  by_cases hc : c = 47
  ·subst hc
   have e : splitZ (47 :: r) = [] :: splitZ r := by rw [split_cons, if_pos rfl]
   have hne := splitZ_ne r
   rw [e]
   unfold okZ
   rw [show segsZ (47 :: r) = splitZ r from rfl]
   by_cases ha : (splitZ r).all isNameZ = true
   ·rw [if_neg, ha, if_pos (show (decide ((47 :: r).head? = some 47) && true) = true from by simp)]
    ·have e7 : ([] :: splitZ r).length = (splitZ r).length + 1 := rfl
     by_cases h60 : (47 :: r).length > 60 ∨ (splitZ r).length > 6
     ·rw [if_pos h60, if_pos (by rw [e7]; omega)]
     ·rw [if_neg h60, if_neg (by rw [e7]; omega)]
    ·simp only [List.head?_cons, List.tail_cons, List.length_cons]
     rintro (g | g | g)
     ·exact g rfl
     ·exact hne (List.eq_nil_of_length_eq_zero (by omega))
     ·rw [ha] at g; cases g
   ·rw [if_pos (.inr (.inr (by rw [List.tail_cons]; simpa using ha))), if_neg]
    simp; simpa using ha
  ·rw [if_pos, if_neg]
   ·unfold okZ; simp [hc]
   ·left
    rw [split_cons, if_neg hc]
    rcases e : splitZ r with _ | ⟨h, t⟩ <;> simp
theorem rletter_spec (c : UInt8) : Fn Tryz.prog 171 #[vbyte c] [] fun v L => v = .bool (letterB c) ∧ L = [] := by
 refine Fn.intro Tryz.func171 rfl rfl fun F W => ?_
 refine .sr (.an rfl (.sm rfl (.ui rfl rfl rfl (.m rfl (.dec (t := 5) rfl (fun h1_5 => ?_) (fun h1_5 => ?_))))))
 ·refine .kDT (t := 4) rfl h1_5 (.grun (t := 5) rfl rfl rfl (.m rfl (.grun (t := 5) rfl rfl rfl (.ui rfl rfl rfl (.u (.pickT rfl rfl) (.m rfl (.dec (t := 9) rfl (fun h1_9 => ?_) (fun h1_9 => ?_))))))))
  ·refine .kDT (t := 7) rfl h1_9 (.kDT (t := 8) rfl h1_9 (.gk (.gk (.gk (.gskipU (t := 12) rfl rfl rfl (.gskipU (t := 12) rfl rfl rfl (.gk (.u (.pickT rfl rfl) (.m rfl (.gk (.gk (.gk (.gskipU (t := 20) rfl rfl rfl (.gskipU (t := 20) rfl rfl rfl (.gk (.u (.pickT rfl rfl) (.m rfl (.gk (.gk (.u (.pickT rfl rfl) (.m rfl (.gk (.gk (.u (.pickT rfl rfl) (.m rfl (.gk (.gk (.u (.pickT rfl rfl) (.an rfl (.ret ?_))))))))))))))))))))))))))))))
   exact .dn rfl rfl ⟨by first | (rw [letter_of (by omega)]; done) | (rcases Decidable.em ((c.toNat : Int) = 46) with hd | hd; (rw [decide_eq_true hd, letter_of (by omega)]); (rw [decide_eq_false hd, letter_not (by omega)])), rfl⟩
  refine .kDF (t := 7) rfl h1_9 (.kDF (t := 8) rfl h1_9 (.grun (t := 9) rfl rfl rfl (.m rfl (.grun (t := 9) rfl rfl rfl (.ui rfl rfl rfl (.grun (t := 9) rfl rfl rfl (.m rfl (.dec (t := 12) rfl (fun h1_12 => ?_) (fun h1_12 => ?_)))))))))
  ·refine .kDT (t := 11) rfl h1_12 (.grun (t := 12) rfl rfl rfl (.m rfl (.grun (t := 12) rfl rfl rfl (.ui rfl rfl rfl (.grun (t := 9) rfl rfl rfl (.u (.pickT rfl rfl) (.u (.pickF rfl rfl) (.m rfl (.dec (t := 17) rfl (fun h1_17 => ?_) (fun h1_17 => ?_))))))))))
   ·refine .kDT (t := 14) rfl h1_17 (.kDT (t := 15) rfl h1_17 (.kDT (t := 16) rfl h1_17 (.gk (.gk (.gk (.gskipU (t := 20) rfl rfl rfl (.gskipU (t := 20) rfl rfl rfl (.gk (.u (.pickT rfl rfl) (.m rfl (.gk (.gk (.u (.pickT rfl rfl) (.m rfl (.gk (.gk (.u (.pickT rfl rfl) (.m rfl (.gk (.gk (.u (.pickT rfl rfl) (.an rfl (.ret ?_)))))))))))))))))))))))
    exact .dn rfl rfl ⟨by first | (rw [letter_of (by omega)]; done) | (rcases Decidable.em ((c.toNat : Int) = 46) with hd | hd; (rw [decide_eq_true hd, letter_of (by omega)]); (rw [decide_eq_false hd, letter_not (by omega)])), rfl⟩
   refine .kDF (t := 14) rfl h1_17 (.kDF (t := 15) rfl h1_17 (.kDF (t := 16) rfl h1_17 (.grun (t := 17) rfl rfl rfl (.m rfl (.grun (t := 17) rfl rfl rfl (.ui rfl rfl rfl (.grun (t := 17) rfl rfl rfl (.m rfl (.dec (t := 20) rfl (fun h1_20 => ?_) (fun h1_20 => ?_))))))))))
   ·refine .kDT (t := 19) rfl h1_20 (.grun (t := 20) rfl rfl rfl (.m rfl (.grun (t := 20) rfl rfl rfl (.ui rfl rfl rfl (.grun (t := 17) rfl rfl rfl (.u (.pickT rfl rfl) (.u (.pickF rfl rfl) (.m rfl (.dec (t := 25) rfl (fun h1_25 => ?_) (fun h1_25 => ?_))))))))))
    ·refine .kDT (t := 22) rfl h1_25 (.kDT (t := 23) rfl h1_25 (.kDT (t := 24) rfl h1_25 (.gk (.gk (.u (.pickT rfl rfl) (.m rfl (.gk (.gk (.u (.pickT rfl rfl) (.m rfl (.gk (.gk (.u (.pickT rfl rfl) (.an rfl (.ret ?_)))))))))))))))
     exact .dn rfl rfl ⟨by first | (rw [letter_of (by omega)]; done) | (rcases Decidable.em ((c.toNat : Int) = 46) with hd | hd; (rw [decide_eq_true hd, letter_of (by omega)]); (rw [decide_eq_false hd, letter_not (by omega)])), rfl⟩
    refine .kDF (t := 22) rfl h1_25 (.kDF (t := 23) rfl h1_25 (.kDF (t := 24) rfl h1_25 (.grun (t := 25) rfl rfl rfl (.m rfl (.grun (t := 25) rfl rfl rfl (.ui rfl rfl rfl (.u (.pickF rfl rfl) (.m rfl (.dec (t := 29) rfl (fun h1_29 => ?_) (fun h1_29 => ?_))))))))))
    ·refine .kDT (t := 27) rfl h1_29 (.kDT (t := 28) rfl h1_29 (.gk (.gk (.u (.pickT rfl rfl) (.m rfl (.gk (.gk (.u (.pickT rfl rfl) (.an rfl (.ret ?_))))))))))
     exact .dn rfl rfl ⟨by first | (rw [letter_of (by omega)]; done) | (rcases Decidable.em ((c.toNat : Int) = 46) with hd | hd; (rw [decide_eq_true hd, letter_of (by omega)]); (rw [decide_eq_false hd, letter_not (by omega)])), rfl⟩
    refine .kDF (t := 27) rfl h1_29 (.kDF (t := 28) rfl h1_29 (.grun (t := 29) rfl rfl rfl (.m rfl (.grun (t := 29) rfl rfl rfl (.ui rfl rfl rfl (.u (.pickF rfl rfl) (.m rfl (.dec (t := 33) rfl (fun h1_33 => ?_) (fun h1_33 => ?_)))))))))
    ·refine .kDT (t := 31) rfl h1_33 (.kDT (t := 32) rfl h1_33 (.gk (.gk (.u (.pickT rfl rfl) (.an rfl (.ret ?_))))))
     exact .dn rfl rfl ⟨by first | (rw [letter_of (by omega)]; done) | (rcases Decidable.em ((c.toNat : Int) = 46) with hd | hd; (rw [decide_eq_true hd, letter_of (by omega)]); (rw [decide_eq_false hd, letter_not (by omega)])), rfl⟩
    refine .kDF (t := 31) rfl h1_33 (.kDF (t := 32) rfl h1_33 (.grun (t := 33) rfl rfl rfl (.m rfl (.grun (t := 33) rfl rfl rfl (.ui rfl rfl rfl (.u (.pickF rfl rfl) (.an rfl (.ret ?_))))))))
    exact .dn rfl rfl ⟨by first | (rw [letter_of (by omega)]; done) | (rcases Decidable.em ((c.toNat : Int) = 46) with hd | hd; (rw [decide_eq_true hd, letter_of (by omega)]); (rw [decide_eq_false hd, letter_not (by omega)])), rfl⟩
   refine .kDF (t := 19) rfl h1_20 (.gk (.gk (.grun (t := 17) rfl rfl rfl (.u (.pickF rfl rfl) (.u (.pickF rfl rfl) (.m rfl (.grun (t := 25) rfl rfl rfl (.m rfl (.grun (t := 25) rfl rfl rfl (.ui rfl rfl rfl (.u (.pickF rfl rfl) (.m rfl (.dec (t := 29) rfl (fun h1_29 => ?_) (fun h1_29 => ?_))))))))))))))
   ·refine .kDT (t := 27) rfl h1_29 (.kDT (t := 28) rfl h1_29 (.gk (.gk (.u (.pickT rfl rfl) (.m rfl (.gk (.gk (.u (.pickT rfl rfl) (.an rfl (.ret ?_))))))))))
    exact .dn rfl rfl ⟨by first | (rw [letter_of (by omega)]; done) | (rcases Decidable.em ((c.toNat : Int) = 46) with hd | hd; (rw [decide_eq_true hd, letter_of (by omega)]); (rw [decide_eq_false hd, letter_not (by omega)])), rfl⟩
   refine .kDF (t := 27) rfl h1_29 (.kDF (t := 28) rfl h1_29 (.grun (t := 29) rfl rfl rfl (.m rfl (.grun (t := 29) rfl rfl rfl (.ui rfl rfl rfl (.u (.pickF rfl rfl) (.m rfl (.dec (t := 33) rfl (fun h1_33 => ?_) (fun h1_33 => ?_)))))))))
   ·refine .kDT (t := 31) rfl h1_33 (.kDT (t := 32) rfl h1_33 (.gk (.gk (.u (.pickT rfl rfl) (.an rfl (.ret ?_))))))
    exact .dn rfl rfl ⟨by first | (rw [letter_of (by omega)]; done) | (rcases Decidable.em ((c.toNat : Int) = 46) with hd | hd; (rw [decide_eq_true hd, letter_of (by omega)]); (rw [decide_eq_false hd, letter_not (by omega)])), rfl⟩
   refine .kDF (t := 31) rfl h1_33 (.kDF (t := 32) rfl h1_33 (.grun (t := 33) rfl rfl rfl (.m rfl (.grun (t := 33) rfl rfl rfl (.ui rfl rfl rfl (.u (.pickF rfl rfl) (.an rfl (.ret ?_))))))))
   exact .dn rfl rfl ⟨by first | (rw [letter_of (by omega)]; done) | (rcases Decidable.em ((c.toNat : Int) = 46) with hd | hd; (rw [decide_eq_true hd, letter_of (by omega)]); (rw [decide_eq_false hd, letter_not (by omega)])), rfl⟩
  refine .kDF (t := 11) rfl h1_12 (.gk (.gk (.grun (t := 9) rfl rfl rfl (.u (.pickF rfl rfl) (.u (.pickF rfl rfl) (.m rfl (.grun (t := 17) rfl rfl rfl (.m rfl (.grun (t := 17) rfl rfl rfl (.ui rfl rfl rfl (.grun (t := 17) rfl rfl rfl (.m rfl (.dec (t := 20) rfl (fun h1_20 => ?_) (fun h1_20 => ?_))))))))))))))
  ·refine .kDT (t := 19) rfl h1_20 (.grun (t := 20) rfl rfl rfl (.m rfl (.grun (t := 20) rfl rfl rfl (.ui rfl rfl rfl (.grun (t := 17) rfl rfl rfl (.u (.pickT rfl rfl) (.u (.pickF rfl rfl) (.m rfl (.dec (t := 25) rfl (fun h1_25 => ?_) (fun h1_25 => ?_))))))))))
   ·refine .kDT (t := 22) rfl h1_25 (.kDT (t := 23) rfl h1_25 (.kDT (t := 24) rfl h1_25 (.gk (.gk (.u (.pickT rfl rfl) (.m rfl (.gk (.gk (.u (.pickT rfl rfl) (.m rfl (.gk (.gk (.u (.pickT rfl rfl) (.an rfl (.ret ?_)))))))))))))))
    exact .dn rfl rfl ⟨by first | (rw [letter_of (by omega)]; done) | (rcases Decidable.em ((c.toNat : Int) = 46) with hd | hd; (rw [decide_eq_true hd, letter_of (by omega)]); (rw [decide_eq_false hd, letter_not (by omega)])), rfl⟩
   refine .kDF (t := 22) rfl h1_25 (.kDF (t := 23) rfl h1_25 (.kDF (t := 24) rfl h1_25 (.grun (t := 25) rfl rfl rfl (.m rfl (.grun (t := 25) rfl rfl rfl (.ui rfl rfl rfl (.u (.pickF rfl rfl) (.m rfl (.dec (t := 29) rfl (fun h1_29 => ?_) (fun h1_29 => ?_))))))))))
   ·refine .kDT (t := 27) rfl h1_29 (.kDT (t := 28) rfl h1_29 (.gk (.gk (.u (.pickT rfl rfl) (.m rfl (.gk (.gk (.u (.pickT rfl rfl) (.an rfl (.ret ?_))))))))))
    exact .dn rfl rfl ⟨by first | (rw [letter_of (by omega)]; done) | (rcases Decidable.em ((c.toNat : Int) = 46) with hd | hd; (rw [decide_eq_true hd, letter_of (by omega)]); (rw [decide_eq_false hd, letter_not (by omega)])), rfl⟩
   refine .kDF (t := 27) rfl h1_29 (.kDF (t := 28) rfl h1_29 (.grun (t := 29) rfl rfl rfl (.m rfl (.grun (t := 29) rfl rfl rfl (.ui rfl rfl rfl (.u (.pickF rfl rfl) (.m rfl (.dec (t := 33) rfl (fun h1_33 => ?_) (fun h1_33 => ?_)))))))))
   ·refine .kDT (t := 31) rfl h1_33 (.kDT (t := 32) rfl h1_33 (.gk (.gk (.u (.pickT rfl rfl) (.an rfl (.ret ?_))))))
    exact .dn rfl rfl ⟨by first | (rw [letter_of (by omega)]; done) | (rcases Decidable.em ((c.toNat : Int) = 46) with hd | hd; (rw [decide_eq_true hd, letter_of (by omega)]); (rw [decide_eq_false hd, letter_not (by omega)])), rfl⟩
   refine .kDF (t := 31) rfl h1_33 (.kDF (t := 32) rfl h1_33 (.grun (t := 33) rfl rfl rfl (.m rfl (.grun (t := 33) rfl rfl rfl (.ui rfl rfl rfl (.u (.pickF rfl rfl) (.an rfl (.ret ?_))))))))
   exact .dn rfl rfl ⟨by first | (rw [letter_of (by omega)]; done) | (rcases Decidable.em ((c.toNat : Int) = 46) with hd | hd; (rw [decide_eq_true hd, letter_of (by omega)]); (rw [decide_eq_false hd, letter_not (by omega)])), rfl⟩
  refine .kDF (t := 19) rfl h1_20 (.gk (.gk (.grun (t := 17) rfl rfl rfl (.u (.pickF rfl rfl) (.u (.pickF rfl rfl) (.m rfl (.grun (t := 25) rfl rfl rfl (.m rfl (.grun (t := 25) rfl rfl rfl (.ui rfl rfl rfl (.u (.pickF rfl rfl) (.m rfl (.dec (t := 29) rfl (fun h1_29 => ?_) (fun h1_29 => ?_))))))))))))))
  ·refine .kDT (t := 27) rfl h1_29 (.kDT (t := 28) rfl h1_29 (.gk (.gk (.u (.pickT rfl rfl) (.m rfl (.gk (.gk (.u (.pickT rfl rfl) (.an rfl (.ret ?_))))))))))
   exact .dn rfl rfl ⟨by first | (rw [letter_of (by omega)]; done) | (rcases Decidable.em ((c.toNat : Int) = 46) with hd | hd; (rw [decide_eq_true hd, letter_of (by omega)]); (rw [decide_eq_false hd, letter_not (by omega)])), rfl⟩
  refine .kDF (t := 27) rfl h1_29 (.kDF (t := 28) rfl h1_29 (.grun (t := 29) rfl rfl rfl (.m rfl (.grun (t := 29) rfl rfl rfl (.ui rfl rfl rfl (.u (.pickF rfl rfl) (.m rfl (.dec (t := 33) rfl (fun h1_33 => ?_) (fun h1_33 => ?_)))))))))
  ·refine .kDT (t := 31) rfl h1_33 (.kDT (t := 32) rfl h1_33 (.gk (.gk (.u (.pickT rfl rfl) (.an rfl (.ret ?_))))))
   exact .dn rfl rfl ⟨by first | (rw [letter_of (by omega)]; done) | (rcases Decidable.em ((c.toNat : Int) = 46) with hd | hd; (rw [decide_eq_true hd, letter_of (by omega)]); (rw [decide_eq_false hd, letter_not (by omega)])), rfl⟩
  refine .kDF (t := 31) rfl h1_33 (.kDF (t := 32) rfl h1_33 (.grun (t := 33) rfl rfl rfl (.m rfl (.grun (t := 33) rfl rfl rfl (.ui rfl rfl rfl (.u (.pickF rfl rfl) (.an rfl (.ret ?_))))))))
  exact .dn rfl rfl ⟨by first | (rw [letter_of (by omega)]; done) | (rcases Decidable.em ((c.toNat : Int) = 46) with hd | hd; (rw [decide_eq_true hd, letter_of (by omega)]); (rw [decide_eq_false hd, letter_not (by omega)])), rfl⟩
 refine .kDF (t := 4) rfl h1_5 (.gk (.gk (.u (.pickF rfl rfl) (.m rfl (.grun (t := 9) rfl rfl rfl (.m rfl (.grun (t := 9) rfl rfl rfl (.ui rfl rfl rfl (.grun (t := 9) rfl rfl rfl (.m rfl (.dec (t := 12) rfl (fun h1_12 => ?_) (fun h1_12 => ?_))))))))))))
 ·refine .kDT (t := 11) rfl h1_12 (.grun (t := 12) rfl rfl rfl (.m rfl (.grun (t := 12) rfl rfl rfl (.ui rfl rfl rfl (.grun (t := 9) rfl rfl rfl (.u (.pickT rfl rfl) (.u (.pickF rfl rfl) (.m rfl (.dec (t := 17) rfl (fun h1_17 => ?_) (fun h1_17 => ?_))))))))))
  ·refine .kDT (t := 14) rfl h1_17 (.kDT (t := 15) rfl h1_17 (.kDT (t := 16) rfl h1_17 (.gk (.gk (.gk (.gskipU (t := 20) rfl rfl rfl (.gskipU (t := 20) rfl rfl rfl (.gk (.u (.pickT rfl rfl) (.m rfl (.gk (.gk (.u (.pickT rfl rfl) (.m rfl (.gk (.gk (.u (.pickT rfl rfl) (.m rfl (.gk (.gk (.u (.pickT rfl rfl) (.an rfl (.ret ?_)))))))))))))))))))))))
   exact .dn rfl rfl ⟨by first | (rw [letter_of (by omega)]; done) | (rcases Decidable.em ((c.toNat : Int) = 46) with hd | hd; (rw [decide_eq_true hd, letter_of (by omega)]); (rw [decide_eq_false hd, letter_not (by omega)])), rfl⟩
  refine .kDF (t := 14) rfl h1_17 (.kDF (t := 15) rfl h1_17 (.kDF (t := 16) rfl h1_17 (.grun (t := 17) rfl rfl rfl (.m rfl (.grun (t := 17) rfl rfl rfl (.ui rfl rfl rfl (.grun (t := 17) rfl rfl rfl (.m rfl (.dec (t := 20) rfl (fun h1_20 => ?_) (fun h1_20 => ?_))))))))))
  ·refine .kDT (t := 19) rfl h1_20 (.grun (t := 20) rfl rfl rfl (.m rfl (.grun (t := 20) rfl rfl rfl (.ui rfl rfl rfl (.grun (t := 17) rfl rfl rfl (.u (.pickT rfl rfl) (.u (.pickF rfl rfl) (.m rfl (.dec (t := 25) rfl (fun h1_25 => ?_) (fun h1_25 => ?_))))))))))
   ·refine .kDT (t := 22) rfl h1_25 (.kDT (t := 23) rfl h1_25 (.kDT (t := 24) rfl h1_25 (.gk (.gk (.u (.pickT rfl rfl) (.m rfl (.gk (.gk (.u (.pickT rfl rfl) (.m rfl (.gk (.gk (.u (.pickT rfl rfl) (.an rfl (.ret ?_)))))))))))))))
    exact .dn rfl rfl ⟨by first | (rw [letter_of (by omega)]; done) | (rcases Decidable.em ((c.toNat : Int) = 46) with hd | hd; (rw [decide_eq_true hd, letter_of (by omega)]); (rw [decide_eq_false hd, letter_not (by omega)])), rfl⟩
   refine .kDF (t := 22) rfl h1_25 (.kDF (t := 23) rfl h1_25 (.kDF (t := 24) rfl h1_25 (.grun (t := 25) rfl rfl rfl (.m rfl (.grun (t := 25) rfl rfl rfl (.ui rfl rfl rfl (.u (.pickF rfl rfl) (.m rfl (.dec (t := 29) rfl (fun h1_29 => ?_) (fun h1_29 => ?_))))))))))
   ·refine .kDT (t := 27) rfl h1_29 (.kDT (t := 28) rfl h1_29 (.gk (.gk (.u (.pickT rfl rfl) (.m rfl (.gk (.gk (.u (.pickT rfl rfl) (.an rfl (.ret ?_))))))))))
    exact .dn rfl rfl ⟨by first | (rw [letter_of (by omega)]; done) | (rcases Decidable.em ((c.toNat : Int) = 46) with hd | hd; (rw [decide_eq_true hd, letter_of (by omega)]); (rw [decide_eq_false hd, letter_not (by omega)])), rfl⟩
   refine .kDF (t := 27) rfl h1_29 (.kDF (t := 28) rfl h1_29 (.grun (t := 29) rfl rfl rfl (.m rfl (.grun (t := 29) rfl rfl rfl (.ui rfl rfl rfl (.u (.pickF rfl rfl) (.m rfl (.dec (t := 33) rfl (fun h1_33 => ?_) (fun h1_33 => ?_)))))))))
   ·refine .kDT (t := 31) rfl h1_33 (.kDT (t := 32) rfl h1_33 (.gk (.gk (.u (.pickT rfl rfl) (.an rfl (.ret ?_))))))
    exact .dn rfl rfl ⟨by first | (rw [letter_of (by omega)]; done) | (rcases Decidable.em ((c.toNat : Int) = 46) with hd | hd; (rw [decide_eq_true hd, letter_of (by omega)]); (rw [decide_eq_false hd, letter_not (by omega)])), rfl⟩
   refine .kDF (t := 31) rfl h1_33 (.kDF (t := 32) rfl h1_33 (.grun (t := 33) rfl rfl rfl (.m rfl (.grun (t := 33) rfl rfl rfl (.ui rfl rfl rfl (.u (.pickF rfl rfl) (.an rfl (.ret ?_))))))))
   exact .dn rfl rfl ⟨by first | (rw [letter_of (by omega)]; done) | (rcases Decidable.em ((c.toNat : Int) = 46) with hd | hd; (rw [decide_eq_true hd, letter_of (by omega)]); (rw [decide_eq_false hd, letter_not (by omega)])), rfl⟩
  refine .kDF (t := 19) rfl h1_20 (.gk (.gk (.grun (t := 17) rfl rfl rfl (.u (.pickF rfl rfl) (.u (.pickF rfl rfl) (.m rfl (.grun (t := 25) rfl rfl rfl (.m rfl (.grun (t := 25) rfl rfl rfl (.ui rfl rfl rfl (.u (.pickF rfl rfl) (.m rfl (.dec (t := 29) rfl (fun h1_29 => ?_) (fun h1_29 => ?_))))))))))))))
  ·refine .kDT (t := 27) rfl h1_29 (.kDT (t := 28) rfl h1_29 (.gk (.gk (.u (.pickT rfl rfl) (.m rfl (.gk (.gk (.u (.pickT rfl rfl) (.an rfl (.ret ?_))))))))))
   exact .dn rfl rfl ⟨by first | (rw [letter_of (by omega)]; done) | (rcases Decidable.em ((c.toNat : Int) = 46) with hd | hd; (rw [decide_eq_true hd, letter_of (by omega)]); (rw [decide_eq_false hd, letter_not (by omega)])), rfl⟩
  refine .kDF (t := 27) rfl h1_29 (.kDF (t := 28) rfl h1_29 (.grun (t := 29) rfl rfl rfl (.m rfl (.grun (t := 29) rfl rfl rfl (.ui rfl rfl rfl (.u (.pickF rfl rfl) (.m rfl (.dec (t := 33) rfl (fun h1_33 => ?_) (fun h1_33 => ?_)))))))))
  ·refine .kDT (t := 31) rfl h1_33 (.kDT (t := 32) rfl h1_33 (.gk (.gk (.u (.pickT rfl rfl) (.an rfl (.ret ?_))))))
   exact .dn rfl rfl ⟨by first | (rw [letter_of (by omega)]; done) | (rcases Decidable.em ((c.toNat : Int) = 46) with hd | hd; (rw [decide_eq_true hd, letter_of (by omega)]); (rw [decide_eq_false hd, letter_not (by omega)])), rfl⟩
  refine .kDF (t := 31) rfl h1_33 (.kDF (t := 32) rfl h1_33 (.grun (t := 33) rfl rfl rfl (.m rfl (.grun (t := 33) rfl rfl rfl (.ui rfl rfl rfl (.u (.pickF rfl rfl) (.an rfl (.ret ?_))))))))
  exact .dn rfl rfl ⟨by first | (rw [letter_of (by omega)]; done) | (rcases Decidable.em ((c.toNat : Int) = 46) with hd | hd; (rw [decide_eq_true hd, letter_of (by omega)]); (rw [decide_eq_false hd, letter_not (by omega)])), rfl⟩
 refine .kDF (t := 11) rfl h1_12 (.gk (.gk (.grun (t := 9) rfl rfl rfl (.u (.pickF rfl rfl) (.u (.pickF rfl rfl) (.m rfl (.grun (t := 17) rfl rfl rfl (.m rfl (.grun (t := 17) rfl rfl rfl (.ui rfl rfl rfl (.grun (t := 17) rfl rfl rfl (.m rfl (.dec (t := 20) rfl (fun h1_20 => ?_) (fun h1_20 => ?_))))))))))))))
 ·refine .kDT (t := 19) rfl h1_20 (.grun (t := 20) rfl rfl rfl (.m rfl (.grun (t := 20) rfl rfl rfl (.ui rfl rfl rfl (.grun (t := 17) rfl rfl rfl (.u (.pickT rfl rfl) (.u (.pickF rfl rfl) (.m rfl (.dec (t := 25) rfl (fun h1_25 => ?_) (fun h1_25 => ?_))))))))))
  ·refine .kDT (t := 22) rfl h1_25 (.kDT (t := 23) rfl h1_25 (.kDT (t := 24) rfl h1_25 (.gk (.gk (.u (.pickT rfl rfl) (.m rfl (.gk (.gk (.u (.pickT rfl rfl) (.m rfl (.gk (.gk (.u (.pickT rfl rfl) (.an rfl (.ret ?_)))))))))))))))
   exact .dn rfl rfl ⟨by first | (rw [letter_of (by omega)]; done) | (rcases Decidable.em ((c.toNat : Int) = 46) with hd | hd; (rw [decide_eq_true hd, letter_of (by omega)]); (rw [decide_eq_false hd, letter_not (by omega)])), rfl⟩
  refine .kDF (t := 22) rfl h1_25 (.kDF (t := 23) rfl h1_25 (.kDF (t := 24) rfl h1_25 (.grun (t := 25) rfl rfl rfl (.m rfl (.grun (t := 25) rfl rfl rfl (.ui rfl rfl rfl (.u (.pickF rfl rfl) (.m rfl (.dec (t := 29) rfl (fun h1_29 => ?_) (fun h1_29 => ?_))))))))))
  ·refine .kDT (t := 27) rfl h1_29 (.kDT (t := 28) rfl h1_29 (.gk (.gk (.u (.pickT rfl rfl) (.m rfl (.gk (.gk (.u (.pickT rfl rfl) (.an rfl (.ret ?_))))))))))
   exact .dn rfl rfl ⟨by first | (rw [letter_of (by omega)]; done) | (rcases Decidable.em ((c.toNat : Int) = 46) with hd | hd; (rw [decide_eq_true hd, letter_of (by omega)]); (rw [decide_eq_false hd, letter_not (by omega)])), rfl⟩
  refine .kDF (t := 27) rfl h1_29 (.kDF (t := 28) rfl h1_29 (.grun (t := 29) rfl rfl rfl (.m rfl (.grun (t := 29) rfl rfl rfl (.ui rfl rfl rfl (.u (.pickF rfl rfl) (.m rfl (.dec (t := 33) rfl (fun h1_33 => ?_) (fun h1_33 => ?_)))))))))
  ·refine .kDT (t := 31) rfl h1_33 (.kDT (t := 32) rfl h1_33 (.gk (.gk (.u (.pickT rfl rfl) (.an rfl (.ret ?_))))))
   exact .dn rfl rfl ⟨by first | (rw [letter_of (by omega)]; done) | (rcases Decidable.em ((c.toNat : Int) = 46) with hd | hd; (rw [decide_eq_true hd, letter_of (by omega)]); (rw [decide_eq_false hd, letter_not (by omega)])), rfl⟩
  refine .kDF (t := 31) rfl h1_33 (.kDF (t := 32) rfl h1_33 (.grun (t := 33) rfl rfl rfl (.m rfl (.grun (t := 33) rfl rfl rfl (.ui rfl rfl rfl (.u (.pickF rfl rfl) (.an rfl (.ret ?_))))))))
  exact .dn rfl rfl ⟨by first | (rw [letter_of (by omega)]; done) | (rcases Decidable.em ((c.toNat : Int) = 46) with hd | hd; (rw [decide_eq_true hd, letter_of (by omega)]); (rw [decide_eq_false hd, letter_not (by omega)])), rfl⟩
 refine .kDF (t := 19) rfl h1_20 (.gk (.gk (.grun (t := 17) rfl rfl rfl (.u (.pickF rfl rfl) (.u (.pickF rfl rfl) (.m rfl (.grun (t := 25) rfl rfl rfl (.m rfl (.grun (t := 25) rfl rfl rfl (.ui rfl rfl rfl (.u (.pickF rfl rfl) (.m rfl (.dec (t := 29) rfl (fun h1_29 => ?_) (fun h1_29 => ?_))))))))))))))
 ·refine .kDT (t := 27) rfl h1_29 (.kDT (t := 28) rfl h1_29 (.gk (.gk (.u (.pickT rfl rfl) (.m rfl (.gk (.gk (.u (.pickT rfl rfl) (.an rfl (.ret ?_))))))))))
  exact .dn rfl rfl ⟨by first | (rw [letter_of (by omega)]; done) | (rcases Decidable.em ((c.toNat : Int) = 46) with hd | hd; (rw [decide_eq_true hd, letter_of (by omega)]); (rw [decide_eq_false hd, letter_not (by omega)])), rfl⟩
 refine .kDF (t := 27) rfl h1_29 (.kDF (t := 28) rfl h1_29 (.grun (t := 29) rfl rfl rfl (.m rfl (.grun (t := 29) rfl rfl rfl (.ui rfl rfl rfl (.u (.pickF rfl rfl) (.m rfl (.dec (t := 33) rfl (fun h1_33 => ?_) (fun h1_33 => ?_)))))))))
 ·refine .kDT (t := 31) rfl h1_33 (.kDT (t := 32) rfl h1_33 (.gk (.gk (.u (.pickT rfl rfl) (.an rfl (.ret ?_))))))
  exact .dn rfl rfl ⟨by first | (rw [letter_of (by omega)]; done) | (rcases Decidable.em ((c.toNat : Int) = 46) with hd | hd; (rw [decide_eq_true hd, letter_of (by omega)]); (rw [decide_eq_false hd, letter_not (by omega)])), rfl⟩
 refine .kDF (t := 31) rfl h1_33 (.kDF (t := 32) rfl h1_33 (.grun (t := 33) rfl rfl rfl (.m rfl (.grun (t := 33) rfl rfl rfl (.ui rfl rfl rfl (.u (.pickF rfl rfl) (.an rfl (.ret ?_))))))))
 exact .dn rfl rfl ⟨by first | (rw [letter_of (by omega)]; done) | (rcases Decidable.em ((c.toNat : Int) = 46) with hd | hd; (rw [decide_eq_true hd, letter_of (by omega)]); (rw [decide_eq_false hd, letter_not (by omega)])), rfl⟩
theorem risname_spec (s : Bs) (hs : s.length ≤ 1099511627776) : Fn Tryz.prog 151 #[vstr s] [] fun v L => v = .bool (isNameZ s) ∧ L = [] := by
 refine Fn.intro Tryz.func151 rfl rfl fun F W => ?_
 have hbs := bs_size s
 refine .sr (.an rfl (.seq (.sm rfl (.u (.streq rfl rfl) (.m rfl (.dec (t := 7) rfl (fun h1_7 => ?_) (fun h1_7 => ?_)))))))
 ·refine .kDT (t := 6) rfl h1_7 (.gk (.gk (.u (.pickT rfl rfl) (.m rfl (.gk (.gk (.u (.pickT rfl rfl) (.nt (.condT rfl (.sr (.an rfl (.rt ?_))))))))))))
  exact .dn rfl rfl ⟨by rw [show isNameZ s = false by unfold isNameZ; first | (rw [show s = [] from by assumption]; rfl) | (rw [show s = [46] from by assumption]; rfl) | (rw [show s = [46, 46] from by assumption]; rfl)], rfl⟩
 refine .kDF (t := 6) rfl h1_7 (.grun (t := 7) rfl rfl rfl (.m rfl (.grun (t := 7) rfl rfl rfl (.u (.streq rfl rfl) (.u (.pickF rfl rfl) (.m rfl (.dec (t := 11) rfl (fun h1_11 => ?_) (fun h1_11 => ?_))))))))
 ·refine .kDT (t := 9) rfl h1_11 (.kDT (t := 10) rfl h1_11 (.gk (.gk (.u (.pickT rfl rfl) (.nt (.condT rfl (.sr (.an rfl (.rt ?_)))))))))
  exact .dn rfl rfl ⟨by rw [show isNameZ s = false by unfold isNameZ; first | (rw [show s = [] from by assumption]; rfl) | (rw [show s = [46] from by assumption]; rfl) | (rw [show s = [46, 46] from by assumption]; rfl)], rfl⟩
 refine .kDF (t := 9) rfl h1_11 (.kDF (t := 10) rfl h1_11 (.grun (t := 11) rfl rfl rfl (.m rfl (.grun (t := 11) rfl rfl rfl (.u (.streq rfl rfl) (.u (.pickF rfl rfl) (.nt (.condD rfl (fun h14 => ?_) (fun h14 => ?_)))))))))
 ·refine .sr (.an rfl (.rt ?_))
  exact .dn rfl rfl ⟨by rw [show isNameZ s = false by unfold isNameZ; first | (rw [show s = [] from by assumption]; rfl) | (rw [show s = [46] from by assumption]; rfl) | (rw [show s = [46, 46] from by assumption]; rfl)], rfl⟩
 refine .sk (.seq (.sr (.an rfl (.block (.loopK (ι := Nat) (fun q E => (3, vint q) :: E) (fun q => []) (fun q => q ≤ s.length ∧ (s.take q).all letterB = true) (fun q => s.length - q) (0) (ts := [0]) (.cons rfl (.nil)) (⟨Nat.zero_le _, rfl⟩) ⟨rfl, rfl, trivial⟩ (by repeat' constructor) ?_)))))
 rintro i ⟨hi, hall⟩
 refine .seq (.sm rfl (.m rfl (.q (.strlen rfl Tryz.underlying9 rfl) rfl (.ui rfl rfl rfl (.nt (.condD rfl (fun h18 => ?_) (fun h18 => ?_)))))))
 ·have hi2 : i < s.length := by omega
  refine .sk (.seq (.block (.sm rfl (.m rfl (.q (.strIndex (c := s[i]) rfl rfl Tryz.underlying9 (by omega) (by simp)) rfl (.cv Tryz.func171 [_] (rletter_spec _) ?_))))))
  refine .an rfl (.sm rfl (.u (.not rfl) (.nt (.condB rfl (fun h26 => ?_) (fun h26 => ?_)))))
  ·refine .sr (.an rfl (.ret (.blk_r (.then_r (.then_r (.blk_r (.then_r ?_)))))))
   exact .dn rfl rfl ⟨by rw [name_bad hi2 (by simpa using h26)], rfl⟩
  refine .skip (.blk_n (.then_n (.region (.m rfl (.q (.add rfl rfl (by omega)) rfl (.an rfl ?_))))))
  exact .rk (i + 1) (⟨by omega, all_next hi2 hall (by simpa using h26)⟩) (by omega) ⟨rfl, rfl, trivial⟩
 have hii : i = s.length := by omega
 rw [hii, List.take_length] at hall
 refine .exit (.then_e (.then_e (.blk_e (.then_n (.sr (.an rfl (.ret ?_)))))))
 exact .dn rfl rfl ⟨by rw [show isNameZ s = true by unfold isNameZ; rw [decide_eq_false h1_7, decide_eq_false h1_11, decide_eq_false h14, hall]; rfl], rfl⟩
theorem rnames_spec (s : Bs) (hs : s.length ≤ 1099511627776) : Fn Tryz.prog 137 #[vstr s] [] fun v L => ∃ (n : Nat) (b : Bool), (∃ a c, v = .tuple #[.slice a n c, .bool b]) ∧ b = okZ s ∧ (b = true → n = (segsZ s).length) ∧ L = [] := by
 refine Fn.intro Tryz.func137 rfl rfl fun F W => ?_
 refine .add (slR_nil 9 1) (.sr (.a rfl (.an rfl (.sr (.an rfl (.seq (.block (.loopK (ι := Bs × Value × (List Bs)) (fun q E => (0, vstr q.1) :: (4, q.2.1) :: E) (fun q => [slR 9 1 q.2.1 q.2.2.length (strs q.2.2)]) (fun q => (∃ a c, q.2.1 = .slice a q.2.2.length c) ∧ q.2.2.all isNameZ = true ∧ segsZ s = q.2.2 ++ segsZ q.1 ∧ q.1.length + q.2.2.length ≤ s.length ∧ (q.2.2 = [] → q.1 = s) ∧ (q.2.2 ≠ [] → s.head? = some 47 ∧ (q.1 = [] ∨ q.1.head? = some 47))) (fun q => q.1.length) (s, .slice none 0 0, []) (ts := []) (.nil) (⟨⟨none, 0, rfl⟩, rfl, rfl, by simp, fun _ => rfl, fun h => absurd rfl h⟩) ⟨rfl, rfl, trivial⟩ (by repeat' constructor) ?_))))))))
 rintro ⟨cur, u, acc⟩ ⟨⟨au, cu, hu⟩, hall, hseg, hcl, hfst, hrest⟩
 dsimp only
 dsimp only at hu hall hseg hcl hfst hrest
 subst hu
 have hbs := bs_size cur
 refine .seq (.sm rfl (.u (.strne rfl rfl) (.nt (.condN rfl (fun h8 => ?_) (fun h8 => ?_)))))
 ·obtain ⟨c0, r, rfl⟩ : ∃ c0 r, cur = c0 :: r := by cases cur with | nil => exact absurd rfl h8 | cons c r => exact ⟨c, r, rfl⟩
  have hrl : (c0 :: r).length = r.length + 1 := rfl
  refine .sk (.block (.seq (.sm rfl (.q (.strIndex (c := c0) rfl rfl Tryz.underlying9 (by omega) (by simp)) rfl (.ui rfl rfl rfl (.nt (.condN rfl (fun h11 => ?_) (fun h11 => ?_))))))))
  ·refine .sr (.a rfl (.an rfl (.rt (.blk_r (.then_r (.blk_r (.then_r ?_)))))))
   exact .dn rfl rfl ⟨_, _, ⟨_, _, rfl⟩, (by rw [show okZ s = false by unfold okZ; rcases acc with _ | ⟨x, l⟩; (rw [← hfst rfl]; simp; intro e; exact absurd (by rw [e]; rfl) h11); (obtain ⟨-, g⟩ := hrest (by simp); rcases g with g | g; (cases g); (simp at g; exact absurd (by rw [g]; rfl) h11))]), (fun h => by cases h), rfl⟩
  have hc0 : c0 = 47 := byte_eq (d := 47) (by first | exact h11 | simpa using h11)
  subst hc0
  have hs47 : s.head? = some 47 := by rcases acc with _ | ⟨x, l⟩; rw [← hfst rfl]; rfl; exact (hrest (by simp)).1
  refine .sk (.sr (.an rfl (.seq (.joinK (ι := Nat) (fun q E => (5, vint q) :: E) (fun q => []) (fun q => 1 ≤ q ∧ q ≤ r.length + 1 ∧ (∀ j, j < q - 1 → r.getD j 0 ≠ 47) ∧ (q - 1 = r.length ∨ r.getD (q - 1) 0 = 47)) (pre := []) (ts := [0, 4, 7, 8, 9, 10, 11]) (.cons rfl (.cons rfl (.cons rfl (.cons rfl (.cons rfl (.cons rfl (.cons rfl (.nil)))))))) (by repeat' constructor) ?_ ?_))))
  ·refine .block (.loopK (ι := Nat) (fun q E => (5, vint q) :: E) (fun q => []) (fun q => 1 ≤ q ∧ q ≤ r.length + 1 ∧ ∀ j, j < q - 1 → r.getD j 0 ≠ 47) (fun q => r.length + 1 - q) (1) (ts := [0, 4, 7, 8, 9, 10, 11]) (.cons rfl (.cons rfl (.cons rfl (.cons rfl (.cons rfl (.cons rfl (.cons rfl (.nil)))))))) (⟨by omega, by omega, fun j hj => by omega⟩) ⟨rfl, rfl, rfl, rfl, rfl, rfl, rfl, rfl, trivial⟩ (by repeat' constructor) ?_)
   rintro n ⟨hn1, hn2, hno⟩
   refine .seq (.sm rfl (.m rfl (.q (.strlen rfl Tryz.underlying9 rfl) rfl (.ui rfl rfl rfl (.m rfl (.dec (t := 16) rfl (fun h6_16 => ?_) (fun h6_16 => ?_)))))))
   ·have hn3 : n < r.length + 1 := by omega
    have hn4 : n - 1 < r.length := by omega
    have hat : (47 :: r)[n]? = some r[n - 1] := by obtain ⟨m, rfl⟩ : ∃ m, n = m + 1 := ⟨n - 1, by omega⟩; simp [show m < r.length by omega]
    refine .kDT (t := 15) rfl h6_16 (.grun (t := 16) rfl rfl rfl (.m rfl (.grun (t := 16) rfl rfl rfl (.m rfl (.grun (t := 16) rfl rfl rfl (.q (.strIndex (c := r[n - 1]) rfl rfl Tryz.underlying9 (by omega) (by rw [Int.toNat_natCast]; exact hat)) rfl (.grun (t := 16) rfl rfl rfl (.ui rfl rfl rfl (.u (.pickT rfl rfl) (.nt (.condN rfl (fun h21 => ?_) (fun h21 => ?_))))))))))))
    ·have hne : r[n - 1] ≠ 47 := fun e => h21 (by rw [e]; rfl)
     refine .sk (.block (.region (.m rfl (.q (.add rfl rfl (by omega)) rfl (.a rfl (.nil (.blk_n (.then_n ?_))))))))
     exact .rk (n + 1) (⟨by omega, by omega, fun j hj => by by_cases e : j = n - 1; (subst e; rw [List.getD_eq_getElem?_getD, List.getElem?_eq_getElem hn4, Option.getD_some]; exact hne); exact hno j (by omega)⟩) (by omega) ⟨rfl, rfl, rfl, rfl, rfl, rfl, rfl, rfl, trivial⟩
    have hlast : r[n - 1] = 47 := byte_eq (d := 47) (by first | exact h21 | simpa using h21)
    refine .exit (.then_e (.then_e (.blk_e (.then_n ?_))))
    exact .mk (n) (⟨hn1, hn2, hno, .inr (by rw [List.getD_eq_getElem?_getD, List.getElem?_eq_getElem hn4, Option.getD_some]; exact hlast)⟩) ⟨rfl, rfl, rfl, rfl, rfl, rfl, rfl, rfl, trivial⟩
   refine .kDF (t := 15) rfl h6_16 (.gk (.gk (.gk (.gk (.u (.pickF rfl rfl) (.nt (.condF rfl (.exit (.then_e (.then_e (.blk_e (.then_n ?_))))))))))))
   exact .mk (n) (⟨hn1, hn2, hno, .inl (by omega)⟩) ⟨rfl, rfl, rfl, rfl, rfl, rfl, rfl, rfl, trivial⟩
  rintro n ⟨hn1, hn2, hno, hend⟩
  have hstep := seg_step (r := r) (k := n - 1) (by omega) hno hend
  have htk : ((47 :: r).take n).drop 1 = r.take (n - 1) := by obtain ⟨m, rfl⟩ : ∃ m, n = m + 1 := ⟨n - 1, by omega⟩; simp
  have hdr : (47 :: r).drop n = r.drop (n - 1) := by obtain ⟨m, rfl⟩ : ∃ m, n = m + 1 := ⟨n - 1, by omega⟩; simp
  have hsplit : segsZ (47 :: r) = ((47 :: r).take n).drop 1 :: segsZ ((47 :: r).drop n) := by rw [htk, hdr]; exact hstep
  have hdrop : (47 :: r).drop n = [] ∨ ((47 :: r).drop n).head? = some 47 := by rw [hdr]; rcases hend with h | h; (left; rw [h, List.drop_length]); (rcases Nat.lt_or_ge (n - 1) r.length with g | g; (right; rw [List.drop_eq_getElem_cons g]; rw [List.getD_eq_getElem?_getD, List.getElem?_eq_getElem g, Option.getD_some] at h; rw [h]; rfl); (left; exact List.drop_eq_nil_of_le g))
  refine .sm rfl (.m rfl (.q (.to (v' := vstr (((47 :: r).take n).drop 1)) (.strMid (i := 1) (j := n) rfl rfl rfl Tryz.underlying9 (by omega)) (by rw [Int.toNat_natCast]; rfl)) rfl (.oq (.call Tryz.func151 rfl rfl (vs := [_]) rfl (risname_spec _ (by simp; omega))) ?_)))
  rintro v L' ⟨rfl, rfl⟩
  refine .an rfl (.seq (.sm rfl (.u (.not rfl) (.nt (.condB rfl (fun h29 => ?_) (fun h29 => ?_))))))
  ·refine .sr (.a rfl (.an rfl (.rt (.blk_r (.then_r (.blk_r (.then_r ?_)))))))
   exact .dn rfl rfl ⟨_, _, ⟨_, _, rfl⟩, (by rw [show okZ s = false by unfold okZ; rw [hseg, hsplit, List.all_append, List.all_cons]; rw [show isNameZ (((47 :: r).take n).drop 1) = false by simpa using h29]; simp]), (fun h => by cases h), rfl⟩
  refine .sk (.sm rfl (.m rfl (.m rfl (.q (.to (v' := vstr (((47 :: r).take n).drop 1)) (.strMid (i := 1) (j := n) rfl rfl rfl Tryz.underlying9 (by omega)) (by rw [Int.toNat_natCast]; rfl)) rfl (.oq (.buildSlice1 (vs := [_]) el_54 ze_9 rfl rfl rfl rfl rfl (by decide)) ?_)))))
  rintro v L' ⟨b11_4, rfl, rfl⟩
  refine .oq (.append1 rfl rfl rfl el_54 ze_9 rfl rfl ?c37 ?c38 (Nat.le_refl _) ?c39 (by decide)) ?_
  case c37 => (first | (simp [isCell]; done) | (simp [isCell, setAll, Value.cells]; done))
  case c38 => rfl
  case c39 => omega
  rintro v L' ⟨⟨a11_5, c11_5, rfl⟩, rfl⟩
  refine .an rfl (.region (.m rfl (.m rfl (.q (.to (v' := vstr ((47 :: r).drop n)) (.strFrom (i := n) rfl rfl Tryz.underlying9 (by omega)) (by simp)) rfl (.a rfl (.nil (.blk_n (.then_n ?_))))))))
  have hin := h29
  rw [show strs acc ++ [vstr (((47 :: r).take n).drop 1)] = strs (acc ++ [((47 :: r).take n).drop 1]) by simp [strs], show acc.length + 1 = (acc ++ [((47 :: r).take n).drop 1]).length by simp]
  exact .rk (((47 :: r).drop n, .slice a11_5 (acc ++ [((47 :: r).take n).drop 1]).length c11_5, acc ++ [((47 :: r).take n).drop 1])) (⟨⟨_, _, rfl⟩, by dsimp only; rw [List.all_append, hall]; simpa using hin, by dsimp only; rw [hseg, hsplit, List.append_assoc]; rfl, by dsimp only; rw [List.length_drop, List.length_append]; simp; omega, fun h => by simp at h, fun _ => ⟨hs47, hdrop⟩⟩) (by dsimp only; rw [List.length_drop]; omega) ⟨rfl, rfl, trivial⟩
 have hcn : cur = [] := h8
 subst hcn
 refine .exit (.then_e (.then_e (.blk_e (.then_n (.sm rfl (.m rfl (.q (.slen rfl Tryz.underlying54 rfl) rfl (.ui rfl rfl rfl (.a rfl (.an rfl (.ret ?_)))))))))))
 exact .dn rfl rfl ⟨_, _, ⟨_, _, rfl⟩, (by unfold okZ; rw [hseg, show segsZ [] = [] from rfl, List.append_nil, hall, Bool.and_true]; refine decide_eq_decide.2 ?_; rcases acc with _ | ⟨x, l⟩; (rw [← hfst rfl]; simp); (simp only [(hrest (by simp)).1, iff_true, List.length_cons]; omega)), (fun _ => by rw [hseg]; simp [segsZ]), rfl⟩
theorem rcheck_spec (s : Bs) (hs : s.length ≤ 1099511627776) : Fn Tryz.prog 104 #[vstr s] [] fun v L => v = vint (checkZ s) ∧ L = [] := by
 refine Fn.intro Tryz.func104 rfl rfl fun F W => ?_
 have hbs := bs_size s
 refine .sr (.an rfl (.seq (.sm rfl (.u (.streq rfl rfl) (.nt (.condD rfl (fun h6 => ?_) (fun h6 => ?_)))))))
 ·refine .sr (.an rfl (.rt ?_))
  exact .dn rfl rfl ⟨by rw [show s = [47] from h6]; rfl, rfl⟩
 have hchk := check_ok h6
 refine .sk (.sm rfl (.oq (.c Tryz.func137 [_] (rnames_spec s hs)) ?_))
 rintro v L' ⟨nn, b, ⟨a3, c3, rfl⟩, hb, hnn, rfl⟩
 refine .m rfl (.u (.extract rfl rfl) (.u (.extract rfl rfl) (.a rfl (.an rfl (.seq (.sm rfl (.u (.not rfl) (.nt (.condB rfl (fun h13 => ?_) (fun h13 => ?_))))))))))
 ·have hbf : b = false := by simpa using h13
  rw [← hb, hbf, if_neg (by simp)] at hchk
  refine .sr (.an rfl (.rt ?_))
  exact .dn rfl rfl ⟨by rw [hchk], rfl⟩
 have hbt : b = true := by simpa using h13
 have hnl := hnn hbt
 rw [← hb, hbt, if_pos rfl] at hchk
 refine .sk (.seq (.sm rfl (.q (.strlen rfl Tryz.underlying9 rfl) rfl (.ui rfl rfl rfl (.m rfl (.dec (t := 17) rfl (fun h6_17 => ?_) (fun h6_17 => ?_)))))))
 ·refine .kDT (t := 16) rfl h6_17 (.gk (.gk (.gk (.u (.pickT rfl rfl) (.nt (.condT rfl (.sr (.an rfl (.rt ?_)))))))))
  exact .dn rfl rfl ⟨by rw [hchk, if_pos (by left; omega)], rfl⟩
 refine .kDF (t := 16) rfl h6_17 (.grun (t := 17) rfl rfl rfl (.m rfl (.grun (t := 17) rfl rfl rfl (.q (.slen rfl Tryz.underlying54 rfl) rfl (.grun (t := 17) rfl rfl rfl (.ui rfl rfl rfl (.u (.pickF rfl rfl) (.nt (.condD rfl (fun h21 => ?_) (fun h21 => ?_))))))))))
 ·refine .sr (.an rfl (.rt ?_))
  exact .dn rfl rfl ⟨by rw [hchk, if_pos (by right; omega)], rfl⟩
 refine .sk (.sr (.an rfl (.ret ?_)))
 exact .dn rfl rfl ⟨by rw [hchk, if_neg (by omega)], rfl⟩
theorem rslash_spec (s : Bs) (hs : s.length ≤ 1099511627776) : Fn Tryz.prog 121 #[vstr s] [] fun v L => v = vint (lidxZ s) ∧ L = [] := by
 refine Fn.intro Tryz.func121 rfl rfl fun F W => ?_
 have hbs := bs_size s
 refine .sr (.an rfl (.seq (.sm rfl (.q (.strlen rfl Tryz.underlying9 rfl) rfl (.q (.sub rfl rfl (by omega)) rfl (.an rfl (.block (.loopK (ι := Nat) (fun q E => (3, vint (dnL s.length q)) :: E) (fun q => []) (fun q => q ≤ s.length ∧ lidxTo s (s.length - q) = lidxZ s) (fun q => s.length - q) (0) (ts := [0]) (.cons rfl (.nil)) (⟨Nat.zero_le _, rfl⟩) ⟨rfl, rfl, trivial⟩ (by repeat' constructor) ?_))))))))
 rintro k ⟨hk, hl⟩
 have hdn := dnL_eq s.length k
 refine .seq (.sm rfl (.ui rfl rfl rfl (.nt (.condD rfl (fun h8 => ?_) (fun h8 => ?_)))))
 ·have hk2 : k < s.length := by omega
  have hat : s[s.length - (k + 1)] = s.getD (s.length - (k + 1)) 0 := by rw [List.getD_eq_getElem?_getD, List.getElem?_eq_getElem (by omega), Option.getD_some]
  refine .sk (.seq (.block (.sm rfl (.m rfl (.q (.strIndex (c := s[s.length - (k + 1)]) rfl rfl Tryz.underlying9 (by omega) (by rw [show (dnL s.length k).toNat = s.length - (k + 1) by omega]; simp [show s.length - (k + 1) < s.length by omega])) rfl (.ui rfl rfl rfl (.nt (.condD rfl (fun h14 => ?_) (fun h14 => ?_)))))))))
  ·have he : s.getD (s.length - (k + 1)) 0 = 47 := by rw [← hat]; exact byte_eq h14
   refine .sm rfl (.an rfl (.ret (.blk_r (.then_r (.then_r (.blk_r (.then_r ?_)))))))
   exact .dn rfl rfl ⟨by rw [← hl, show s.length - k = (s.length - (k + 1)) + 1 by omega, lidxTo, if_pos he, hdn]; congr 1; omega, rfl⟩
  have hne : ¬ s.getD (s.length - (k + 1)) 0 = 47 := by rw [← hat]; exact fun e => h14 (by rw [e]; rfl)
  refine .skip (.blk_n (.then_n (.region (.m rfl (.q (.sub rfl rfl (by omega)) rfl (.an rfl ?_))))))
  exact .rk (k + 1) (⟨by omega, by rw [← hl, show s.length - k = (s.length - (k + 1)) + 1 by omega, lidxTo, if_neg hne]⟩) (by omega) ⟨rfl, rfl, trivial⟩
 refine .exit (.then_e (.then_e (.blk_e (.then_n (.sr (.an rfl (.ret ?_)))))))
 exact .dn rfl rfl ⟨by rw [← hl, show s.length - k = 0 by omega]; rfl, rfl⟩
theorem rparent_spec (s : Bs) (hs : s.length ≤ 1099511627776) : Fn Tryz.prog 83 #[vstr s] [] fun v L => v = vstr (parentZ s) ∧ L = [] := by
 refine Fn.intro Tryz.func83 rfl rfl fun F W => ?_
 have hr := lidx_range s
 refine .sr (.an rfl (.sm rfl (.oq (.c Tryz.func121 [_] (rslash_spec _ ?hs3)) ?_)))
 case hs3 => first | assumption | omega
 rintro v L' ⟨rfl, rfl⟩
 refine .an rfl (.seq (.sm rfl (.ui rfl rfl rfl (.m rfl (.dec (t := 8) rfl (fun h2_8 => ?_) (fun h2_8 => ?_))))))
 ·refine .kDT (t := 7) rfl h2_8 (.gk (.gk (.u (.pickT rfl rfl) (.nt (.condT rfl (.sr (.an rfl (.rt ?_))))))))
  exact .dn rfl rfl ⟨by unfold parentZ; rw [if_pos (by first | exact .inl (by omega) | exact .inr (by assumption))], rfl⟩
 refine .kDF (t := 7) rfl h2_8 (.grun (t := 8) rfl rfl rfl (.m rfl (.grun (t := 8) rfl rfl rfl (.u (.streq rfl rfl) (.u (.pickF rfl rfl) (.nt (.dec (t := 11) rfl (fun h11 => ?_) (fun h11 => ?_))))))))
 ·refine .condT rfl (.sr (.an rfl (.rt ?_)))
  exact .dn rfl rfl ⟨by unfold parentZ; rw [if_pos (by first | exact .inl (by omega) | exact .inr (by assumption))], rfl⟩
 refine .condF rfl (.sk (.seq (.sm rfl (.ui rfl rfl rfl (.nt (.condD rfl (fun h13 => ?_) (fun h13 => ?_)))))))
 ·refine .sr (.an rfl (.rt ?_))
  exact .dn rfl rfl ⟨by unfold parentZ; rw [if_neg (by rintro (g | g); omega; exact absurd g h11), if_pos h13], rfl⟩
 refine .sk (.sm rfl (.m rfl (.q (.strTo rfl rfl Tryz.underlying9 (by omega)) rfl (.an rfl (.ret ?_)))))
 exact .dn rfl rfl ⟨by unfold parentZ; rw [if_neg (by rintro (g | g); omega; exact absurd g h11), if_neg h13], rfl⟩
theorem rbase_spec (s : Bs) (hs : s.length ≤ 1099511627776) : Fn Tryz.prog 112 #[vstr s] [] fun v L => v = vstr (baseZ s) ∧ L = [] := by
 refine Fn.intro Tryz.func112 rfl rfl fun F W => ?_
 have hr := lidx_range s
 refine .sr (.an rfl (.sm rfl (.m rfl (.oq (.c Tryz.func121 [_] (rslash_spec _ ?hs4)) ?_))))
 case hs4 => first | assumption | omega
 rintro v L' ⟨rfl, rfl⟩
 refine .q (.add rfl rfl (by omega)) rfl (.q (.strFrom rfl rfl Tryz.underlying9 (by omega)) rfl (.an rfl (.ret ?_)))
 exact .vv
theorem rkid_spec (s name : Bs) (hs : s.length ≤ 1099511627776) (hn : name.length ≤ 1099511627776) : Fn Tryz.prog 122 #[vstr s, vstr name] [] fun v L => v = vstr (kidZ s name) ∧ L = [] := by
 refine Fn.intro Tryz.func122 rfl rfl fun F W => ?_
 refine .sr (.an rfl (.seq (.sm rfl (.u (.streq rfl rfl) (.nt (.condD rfl (fun h6 => ?_) (fun h6 => ?_)))))))
 ·refine .sm rfl (.m rfl (.q (.concat rfl rfl (by omega)) rfl (.an rfl (.rt ?_))))
  exact .dn rfl rfl ⟨by unfold kidZ; rw [if_pos h6, h6], rfl⟩
 refine .sk (.sm rfl (.q (.concat rfl rfl (by simp; omega)) rfl (.m rfl (.q (.concat rfl rfl (by simp; omega)) rfl (.an rfl (.ret ?_))))))
 exact .dn rfl rfl ⟨by unfold kidZ; rw [if_neg h6], rfl⟩
theorem runder_spec (s q0 : Bs) (hq : q0.length ≤ 1099511627776) : Fn Tryz.prog 147 #[vstr s, vstr q0] [] fun v L => v = .bool (decide (underZ s q0)) ∧ L = [] := by
 refine Fn.intro Tryz.func147 rfl rfl fun F W => ?_
 have hb1 := bs_size s
 have hb2 := bs_size (kidZ q0 [])
 have hkl := kid_len q0 []
 refine .sr (.an rfl (.sm rfl (.cv Tryz.func122 [_, _] (rkid_spec q0 [] (by omega) (by simp)) ?_)))
 refine .an rfl (.sm rfl (.q (.strlen rfl Tryz.underlying9 rfl) rfl (.m rfl (.q (.strlen rfl Tryz.underlying9 rfl) rfl (.ui rfl rfl rfl (.m rfl (.dec (t := 13) rfl (fun h2_13 => ?_) (fun h2_13 => ?_))))))))
 ·refine .kDT (t := 12) rfl h2_13 (.grun (t := 13) rfl rfl rfl (.m rfl (.grun (t := 13) rfl rfl rfl (.m rfl (.grun (t := 13) rfl rfl rfl (.q (.strlen rfl Tryz.underlying9 rfl) rfl (.grun (t := 13) rfl rfl rfl (.q (.to (v' := vstr (s.take (kidZ q0 []).length)) (.strTo rfl rfl Tryz.underlying9 (by omega)) (by rw [Int.toNat_natCast])) rfl (.grun (t := 13) rfl rfl rfl (.m rfl (.grun (t := 13) rfl rfl rfl (.u (.streq rfl rfl) (.u (.pickT rfl rfl) (.an rfl (.ret ?_)))))))))))))))
  exact .dn rfl rfl ⟨by congr 1; exact decide_eq_decide.2 ⟨fun e => ⟨e, fun g => by rw [g] at h2_13; omega⟩, fun e => e.1⟩, rfl⟩
 refine .kDF (t := 12) rfl h2_13 (.gk (.gk (.gk (.gk (.gk (.gk (.u (.pickF rfl rfl) (.an rfl (.ret ?_)))))))))
 exact .dn rfl rfl ⟨by rw [decide_eq_false (fun e => by obtain ⟨e1, e2⟩ := e; unfold pfx at e1; have h3 := congrArg List.length e1; rw [List.length_take] at h3; exact e2 (by rw [← e1, List.take_of_length_le (by omega)]))], rfl⟩
theorem rplace_spec (x : Nat) (τ : Tr) (p : Bs) (hn : τ.nodes.length ≤ 1099511627776) : Fn Tryz.prog 82 #[vptr x, vstr p] [refR x τ] fun v L => v = vint (placeZ τ p) ∧ L = [refR x τ] := by
 refine Fn.intro Tryz.func82 rfl rfl fun F W => ?_
 refine .rtOpen (x := x) (τ := τ) (by repeat' constructor) fun an cn as1 cs l hl => ?_
 have hll := nds_len hl
 refine .sr (.an rfl (.seq (.sr (.an rfl (.block (.loopK (ι := Nat) (fun q E => (5, vint q) :: E) (fun q => []) (fun q => q ≤ l.length ∧ ∀ j (hj : j < q), ∀ (hj2 : j < l.length), l[j].1 ≠ p) (fun q => l.length - q) (0) (ts := [0, 1]) (.cons rfl (.cons rfl (.nil))) (⟨Nat.zero_le _, fun j hj => by omega⟩) ⟨rfl, rfl, rfl, trivial⟩ (by repeat' constructor) ?_))))))
 rintro i ⟨hi, hno⟩
 refine .seq (.sm rfl (.m rfl (.nf rfl fo_87_0 (.u (.ld rfl ag_73) (.q (.slen rfl Tryz.underlying73 rfl) rfl (.ui rfl rfl rfl (.nt (.condD rfl (fun h12 => ?_) (fun h12 => ?_)))))))))
 ·have hi2 : i < l.length := by omega
  refine .slShape (T := 129) (sz := 12) (v := .slice an l.length cn) (xs := l.flatMap rnC) (by repeat' constructor) (by omega) fun bn bn' e0 mbn _ => ?_
  simp only [Value.slice.injEq, true_and] at e0
  obtain ⟨rfl, rfl⟩ := e0
  refine .sk (.seq (.block (.sm rfl (.nf rfl fo_87_0 (.u (.ld rfl ag_73) (.m rfl (.q (.indexAddr rfl rfl el_73 (by omega)) rfl (.u (.fieldAddr rfl fo_129_0) (.q (.loadRd (sz := 12) (j := i * 12 + 0) (p := rnR _ l) rfl ag_9 (by repeat' constructor) (fun h hp => slR_rd hp) (by omega) ((rn_cell (l := l) (i := i) (k := 0) (by omega) (by decide)).trans rfl)) rfl (.m rfl (.u (.streq rfl rfl) (.nt (.condD rfl (fun h24 => ?_) (fun h24 => ?_))))))))))))))
  ·refine .sm rfl (.an rfl (.ret (.blk_r (.then_r (.then_r (.blk_r (.then_r ?_)))))))
   have hz : placeZ τ p = (i : Int) := by unfold placeZ; rw [← hl, place_nds]; exact place_at hi2 h24 (fun j hj => hno j hj (by omega))
   refine .rtFold (x := x) (τ := τ) (l := l) hl (by repeat' constructor) rfl rfl rfl rfl rfl ?_
   exact .dn rfl rfl ⟨by rw [hz], rfl⟩
  refine .skip (.blk_n (.then_n (.region (.m rfl (.q (.add rfl rfl (by omega)) rfl (.an rfl ?_))))))
  exact .rk (i + 1) (⟨by omega, fun j hj hj2 => by by_cases e : j = i; (subst e; exact h24); exact hno j (by omega) hj2⟩) (by omega) ⟨rfl, rfl, rfl, trivial⟩
 refine .exit (.then_e (.then_e (.blk_e (.then_n (.sr (.an rfl (.ret ?_)))))))
 have hz : placeZ τ p = -1 := by unfold placeZ; rw [← hl, place_nds]; exact place_none (fun j hj => hno j (by omega) hj)
 refine .rtFold (x := x) (τ := τ) (l := l) hl (by repeat' constructor) rfl rfl rfl rfl rfl ?_
 exact .dn rfl rfl ⟨by rw [hz], rfl⟩
theorem rable_spec (p : Bs) (hs : p.length ≤ 1099511627776) : Fn Tryz.prog 123 #[vstr p] [] fun v L => v = .bool (decide (ableZ p)) ∧ L = [] := by
 refine Fn.intro Tryz.func123 rfl rfl fun F W => ?_
 refine .sr (.an rfl (.sm rfl (.u (.strne rfl rfl) (.m rfl (.ndec (t := 5) rfl (fun h1_5 => ?_) (fun h1_5 => ?_))))))
 ·refine .kNT (t := 4) rfl h1_5 (.grun (t := 5) rfl rfl rfl (.m rfl (.grun (t := 5) rfl rfl rfl (.cv Tryz.func104 [_] (rcheck_spec p hs) ?_))))
  refine .grun (t := 5) rfl rfl rfl (.ui rfl rfl rfl (.u (.pickT rfl rfl) (.an rfl (.ret ?_))))
  exact .dn rfl rfl ⟨congrArg Value.bool (decide_eq_decide.2 ⟨fun e => ⟨h1_5, e⟩, fun e => e.2⟩), rfl⟩
 refine .kNF (t := 4) rfl h1_5 (.gk (.gk (.gk (.u (.pickF rfl rfl) (.an rfl (.ret ?_))))))
 exact .dn rfl rfl ⟨by rw [decide_eq_false (fun e => e.1 h1_5)], rfl⟩
theorem rrows_spec (v : Value) (xs : List Ac) (p : HP) (hp : ∀ h : Hp, p h → rdS 2 h v xs.length (xs.flatMap acC)) (hn : xs.length ≤ 1048576) : Fn Tryz.prog 110 #[v] [p] fun u L => (∃ a c, u = .slice a xs.length c) ∧ L = [p, slR 90 2 u xs.length (xs.flatMap acC)] := by
 refine Fn.intro Tryz.func110 rfl rfl fun F W => ?_
 refine .rdAny (p := p) hp (by repeat' constructor) fun a c e0 hl => ?_
 subst e0
 refine .add (slR_nil 90 2) (.sr (.an rfl (.sr (.an rfl (.sm rfl (.m rfl (.oq (.append (n := 0) (m := xs.length) (ys := xs.flatMap acC) (p := p) rfl rfl rfl el_34 (.inl ⟨_, Tryz.underlying34⟩) ze_90 rfl rfl ?hc4 hp ?hb5 (by decide)) ?_)))))))
 case hc4 => exact acC_cells _
 case hb5 => omega
 rintro v L' ⟨⟨a3, c3, rfl⟩, rfl⟩; rw [Nat.zero_add, List.nil_append]
 refine .an rfl (.ret ?_)
 exact .dn rfl rfl ⟨⟨_, _, rfl⟩, rfl⟩
theorem fill_rnode0 (p : Bs) (ad : Option Addr) (n c : Nat) : Instr.fill (fun i => [(0, 1), (1, 1), (2, 1), (3, 9)].toArray[i]?) ([.string (bs []), .string (bs []), .slice none 0 0, .int .i64 0, .int .i64 0, .int .i64 0, .int .i64 0, .int .i64 0, .int .i64 0, .int .i64 0, .int .i64 0, .int .i64 0] : List Value).toArray [(0, vstr p), (2, .slice ad n c)] = some (([vstr p, .string (bs []), .slice ad n c, vint 0, vint 0, vint 0, vint 0, vint 0, vint 0, vint 0, vint 0, vint 0] : List Value).toArray) := by kernel_rfl
theorem fill_rnode (p d : Bs) (ad : Option Addr) (n c : Nat) (s0 s1 s2 s3 s4 s5 s6 s7 s8 : Value) : Instr.fill (fun i => [(0, 1), (1, 1), (2, 1), (3, 9)].toArray[i]?) ([.string (bs []), .string (bs []), .slice none 0 0, .int .i64 0, .int .i64 0, .int .i64 0, .int .i64 0, .int .i64 0, .int .i64 0, .int .i64 0, .int .i64 0, .int .i64 0] : List Value).toArray [(0, vstr p), (1, vstr d), (2, .slice ad n c), (3, .agg ([s0, s1, s2, s3, s4, s5, s6, s7, s8] : List Value).toArray)] = some (([vstr p, vstr d, .slice ad n c] ++ [s0, s1, s2, s3, s4, s5, s6, s7, s8] : List Value).toArray) := by kernel_rfl
theorem rfnew_spec : Fn Tryz.prog 34 #[] [] fun v L => ∃ x, v = vptr x ∧ L = [refR x newT] := by
 refine Fn.intro Tryz.func34 rfl rfl fun F W => ?_
 refine .sr (.an rfl (.sr (.q (.build (us := [(0, _), (1, _)]) fl_90 ze_90 rfl rfl (by simp [isCell])) rfl (.oq (.buildSlice (vs := [_]) el_34 ze_90 rfl rfl rfl rfl (by first | (simp [Value.cells]; done) | (intro v hv; simp only [List.mem_cons, List.not_mem_nil, or_false] at hv; (repeat (first | (subst hv; rfl) | (rcases hv with hv | hv; (subst hv; rfl)))))) (by decide)) ?_))))
 rintro v L' ⟨ba, rfl, rfl⟩
 refine .q (.buildN (pl := [(0, 1), (1, 1), (2, 1), (3, 9)]) (us := [(0, vstr [47]), (2, .slice (some ⟨ba, 0, none⟩) 1 1)]) (cells := rnC (([47], (.slice (some ⟨ba, 0, none⟩) 1 1, ⟨[], [(31, [119, 111, 114, 108, 100])], st0⟩)) : Rno)) Tryz.underlying129 (by kernel_rfl) ze_129 rfl (fill_rnode0 _ _ _ _)) rfl (.oq (.buildSlice (vs := [_]) el_73 ze_129 rfl rfl rfl rfl (by first | (simp [Value.cells]; done) | (intro v hv; simp only [List.mem_cons, List.not_mem_nil, or_false] at hv; (repeat (first | (subst hv; rfl) | (rcases hv with hv | hv; (subst hv; rfl)))))) (by decide)) ?_)
 rintro v L' ⟨bn, rfl, rfl⟩
 refine .q (.build (us := [(0, _)]) fl_87 ze_87 rfl rfl (by simp [isCell])) rfl (.oq (.box rfl) ?_)
 rintro v L' ⟨x, rfl, rfl⟩
 refine .an rfl (.ret (.slMakeN 2 1 (b := ba) (xs := ([(31, [119, 111, 114, 108, 100])] : List Ac).flatMap acC) (by repeat' constructor) rfl rfl (.toRd (m := 1) (by repeat' constructor) (.slMakeN 12 1 (b := bn) (xs := [(([47], (.slice (some ⟨ba, 0, none⟩) 1 1, ⟨[], [(31, [119, 111, 114, 108, 100])], st0⟩)) : Rno)].flatMap rnC) (by repeat' constructor) rfl rfl (.add (slR_nil 127 3) (.fold (p := bigR inA [(([47], (.slice (some ⟨ba, 0, none⟩) 1 1, ⟨[], [(31, [119, 111, 114, 108, 100])], st0⟩)) : Rno)]) (.cons (p := rdO 2 (.slice (some ⟨ba, 0, none⟩) 1 1) 1 (([(31, [119, 111, 114, 108, 100])] : List Ac).flatMap acC)) (by repeat' constructor) .nil) (fun h hp => hp) (.rtFold (x := x) (τ := newT) (l := [(([47], (.slice (some ⟨ba, 0, none⟩) 1 1, ⟨[], [(31, [119, 111, 114, 108, 100])], st0⟩)) : Rno)]) rfl (by repeat' constructor) rfl rfl rfl rfl rfl ?_)))))))
 exact .dn rfl rfl ⟨_, rfl, rfl⟩
theorem rn_cells {z : Rno} (hz : isCell z.2.1 = true) : ∀ y ∈ (Value.agg (rnC z).toArray).cells.toList, isCell y = true := by
 intro v hv
 simp only [Value.cells, rnC, List.mem_cons, List.not_mem_nil, or_false] at hv
 rcases hv with rfl | rfl | rfl | rfl | rfl | rfl | rfl | rfl | rfl | rfl | rfl | rfl
 case inr.inr.inl => exact hz
 all_goals rfl
theorem rdO_cell {sz n : Nat} {v : Value} {ys : List Value} {h : Hp} (hr : rdO sz v n ys h) : isCell v = true := by
 rcases hr with ⟨-, -, a, c, rfl⟩ | ⟨b, off, cap, l, T, fr, rfl, -⟩ <;> rfl
theorem big_get {α : Type} {f : α → HP} {l : List α} {i : Nat} (hi : i < l.length) {h : Hp} (hs : bigR f l h) : ∃ h1, f l[i] h1 := by
 induction l generalizing i h with
 | nil => simp at hi
 | cons x l ih =>
  obtain ⟨h1, h2, -, -, -, p1, p2⟩ := hs
  cases i with
  | zero => exact ⟨h1, p1⟩
  | succ i => exact ih (by simpa using hi) p2
theorem G.aclShape {W : World} {n : Nat} {ds : List Deferred} {E : Env} {L R : List HP} {X : Act → World → Prop} {l : List Rno} {i : Nat} (hi : i < l.length) (hL : Pick (bigR inA l) L R) (h : isCell l[i].2.1 = true → G W n ds E L X) : G W n ds E L X := by
 intro a w he hk hs
 obtain ⟨h1, -, hp⟩ := sep_head (hs.pick hL)
 obtain ⟨h2, hq⟩ := big_get hi hp
 exact h (rdO_cell hq) a w he hk hs
theorem rlay_spec (x : Nat) (τ : Tr) (z : Rno) (hzc : isCell z.2.1 = true) (N : Nat) (ho : τ.Ok N) (hN : N ≤ 1073741824) : Fn Tryz.prog 109 #[vptr x, .agg (rnC z).toArray] [refR x τ, inA z] fun v L => v = .tuple #[] ∧ L = [refR x { τ with nodes := sset τ.nodes z.1 z.2.2 }] := by
 refine Fn.intro Tryz.func109 rfl rfl fun F W => ?_
 refine .rtOpen (x := x) (τ := τ) (by repeat' constructor) fun an cn as1 cs l hl => ?_
 have hsrt := nds_sorted (hl ▸ ho.sorted)
 have hll := nds_len hl
 have hofew := ho.few
 refine .sr (.oq (.box rfl) ?_)
 rintro v L' ⟨bz, rfl, rfl⟩
 refine .nil (.ptCast (b := bz) (l' := rnC z) (by repeat' constructor) rfl (.then_n (.seq (.add (slR_nil 129 12) (.region (.an rfl (.sr (.an rfl (.seq (.sr (.an rfl (.block (.loopK (ι := Nat × Bool × Value × (List Rno)) (fun q E => (6, vint q.1) :: (5, .bool q.2.1) :: (4, q.2.2.1) :: E) (fun q => [rnR q.2.2.1 q.2.2.2]) (fun q => q.1 ≤ l.length ∧ LayI l z.1 z.2 q.1 q.2.1 q.2.2.2 ∧ (∃ a c, q.2.2.1 = .slice a q.2.2.2.length c) ∧ q.2.2.2.length ≤ q.1 + q.2.1.toNat) (fun q => l.length - q.1) (0, false, .slice none 0 0, []) (ts := [0, 3]) (.cons rfl (.cons rfl (.nil))) (⟨Nat.zero_le _, LayI.start _ _ _, ⟨none, 0, rfl⟩, by simp⟩) ⟨rfl, rfl, rfl, rfl, rfl, trivial⟩ (by repeat' constructor) ?_)))))))))))))
 rintro ⟨i, b, u, acc⟩ ⟨hi, hLay, ⟨au, cu, hu⟩, hal⟩
 dsimp only
 dsimp only at hi hLay hu hal
 subst hu
 refine .seq (.sm rfl (.m rfl (.nf rfl fo_87_0 (.u (.ld rfl ag_73) (.q (.slen rfl Tryz.underlying73 rfl) rfl (.ui rfl rfl rfl (.nt (.condD rfl (fun h13 => ?_) (fun h13 => ?_)))))))))
 ·have hi2 : i < l.length := by omega
  refine .slShape (T := 129) (sz := 12) (v := .slice an l.length cn) (xs := l.flatMap rnC) (by repeat' constructor) (by omega) fun bn bn' e0 mbn _ => ?_
  simp only [Value.slice.injEq, true_and] at e0
  obtain ⟨rfl, rfl⟩ := e0
  refine .sk (.seq (.block (.seq (.seq (.draw [] [[0, 1, 2, 3, 4, 5, 6, 7, 8, 9, 10, 11, 12, 13, 14]] mixed (by kernel_rfl) (.g0 (.mv rfl rfl (.kv rfl (.not rfl) (.mv rfl rfl (.bool (t := 18) rfl (fun h6_18 => ?_) (fun h6_18 => ?_)))))))))))
  ·have hbf : b = false := by simpa using h6_18
   subst hbf
   have hal : acc.length ≤ i + 0 := hal
   refine D.kB (t := 17) rfl h6_18 (.gv rfl (.move rfl) (.gv rfl (.nilp rfl) (.gv rfl (.fieldAddr rfl fo_87_0) (.gv rfl (.ld rfl ag_73) (.gv rfl (.move rfl) (.gv rfl (.indexAddr rfl rfl el_73 (by omega)) (.gv rfl (.fieldAddr rfl fo_129_0) (.gv rfl (.loadRd (sz := 12) (j := i * 12 + 0) (p := rnR _ l) rfl ag_9 (by repeat' constructor) (fun h hp => slR_rd hp) (by omega) ((rn_cell (l := l) (i := i) (k := 0) (by omega) (by decide)).trans rfl)) (.gv rfl (.fieldAddr rfl fo_129_0) (.gv rfl (.load rfl ag_9 (by repeat' constructor) rfl) (.gv rfl (.strge rfl rfl) (.kv rfl (.pickT rfl rfl) (.pf (.condD rfl (fun h30 => ?_) (fun h30 => ?_)))))))))))))))
   ·refine .sm rfl (.q (.loadAs (vs := rnC z) rfl ag_129 (by repeat' constructor) (by simp [rnC]) rfl) rfl (.oq (.buildSlice (vs := [_]) el_73 ze_129 rfl rfl rfl rfl (by first | (simp [Value.cells]; done) | (intro v hv; simp only [List.mem_cons, List.not_mem_nil, or_false] at hv; (repeat (first | (subst hv; rfl) | (rcases hv with hv | hv; (subst hv; rfl)))))) (by decide)) ?_))
    rintro v L' ⟨b7_2, rfl, rfl⟩
    refine .oq (.append1 rfl rfl rfl el_73 ze_129 rfl rfl ?c30 ?c31 (Nat.le_refl _) ?c32 (by decide)) ?_
    case c30 => first | exact rn_cells hzc | (simp only [List.map_cons, List.map_nil, List.flatten_cons, List.flatten_nil, List.append_nil]; exact rn_cells hzc)
    case c31 => rfl
    case c32 => first | omega | (simp; omega)
    rintro v L' ⟨⟨a7_3, c7_3, rfl⟩, rfl⟩
    refine .a rfl (.nil ?_)
    rw [show acc.length + 1 = (acc ++ [z]).length by rw [List.length_append]; rfl]
    refine .slCast (T := 129) (sz := 12) (m' := (acc ++ [z]).length) (xs' := (acc ++ [z]).flatMap rnC) (by repeat' constructor) rfl (by simp; rfl) (.then_n (.region (.an rfl (.seq (.draw [] [[0, 1, 2, 3, 4, 5, 6, 7, 8, 9, 10]] mixed (by kernel_rfl) (.g0 (.mv rfl rfl (.nf rfl rfl rfl fo_87_0 (.kv rfl (.ld rfl ag_73) (.mv rfl rfl (.kv rfl (.indexAddr rfl rfl el_73 (by omega)) (.kv rfl (.fieldAddr rfl fo_129_0) (.kv rfl (.loadRd (sz := 12) (j := i * 12 + 0) (p := rnR _ l) rfl ag_9 (by repeat' constructor) (fun h hp => slR_rd hp) (by omega) ((rn_cell (l := l) (i := i) (k := 0) (by omega) (by decide)).trans rfl)) (.kv rfl (.fieldAddr rfl fo_129_0) (.kv rfl (.ld rfl ag_9) (.kv rfl (.strne rfl rfl) (.pf (.condN rfl (fun h45 => ?_) (fun h45 => ?_)))))))))))))))))))
    ·refine .aclShape (l := l) (i := i) hi2 (by repeat' constructor) fun hcl => (.region (.m rfl (.m rfl (.nf rfl fo_87_0 (.u (.ld rfl ag_73) (.m rfl (.q (.indexAddr rfl rfl el_73 (by omega)) rfl (.q (.loadRdA (sz := 12) (j := i * 12) (k := 12) (p := rnR _ l) (vs := rnC l[i]) rfl ag_129 (by repeat' constructor) (fun h hp => slR_rd hp) (by omega) (by omega) (by omega) (flatMap_at (f := rnC) (sz := 12) (fun _ _ => rfl) (by omega))) rfl (.oq (.buildSlice (vs := [_]) el_73 ze_129 rfl rfl rfl rfl (by first | (simp [Value.cells]; done) | (intro v hv; simp only [List.mem_cons, List.not_mem_nil, or_false] at hv; (repeat (first | (subst hv; rfl) | (rcases hv with hv | hv; (subst hv; rfl)))))) (by decide)) ?_)))))))))
     rintro v L' ⟨b10_8, rfl, rfl⟩
     refine .oq (.append1 rfl rfl rfl el_73 ze_129 rfl rfl ?c56 ?c57 (Nat.le_refl _) ?c58 (by decide)) ?_
     case c56 => first | exact rn_cells hcl | (simp only [List.map_cons, List.map_nil, List.flatten_cons, List.flatten_nil, List.append_nil]; exact rn_cells hcl)
     case c57 => rfl
     case c58 => first | omega | (simp; omega)
     rintro v L' ⟨⟨a10_9, c10_9, rfl⟩, rfl⟩
     refine .a rfl (.nil ?_)
     rw [show (acc ++ [z]).length + 1 = ((acc ++ [z]) ++ [l[i]]).length by simp]
     refine .slCast (T := 129) (sz := 12) (m' := ((acc ++ [z]) ++ [l[i]]).length) (xs' := ((acc ++ [z]) ++ [l[i]]).flatMap rnC) (by repeat' constructor) rfl (by simp; rfl) (.blk_n (.then_n (.region (.m rfl (.q (.add rfl rfl (by omega)) rfl (.an rfl ?_))))))
     exact .rk ((i + 1, true, .slice a10_9 ((acc ++ [z]) ++ [l[i]]).length c10_9, ((acc ++ [z]) ++ [l[i]]))) (⟨by dsimp only; omega, by dsimp only; exact hLay.put hi2 h30 h45, ⟨_, _, rfl⟩, by dsimp only; simp; omega⟩) (by dsimp only; omega) ⟨rfl, rfl, rfl, rfl, rfl, trivial⟩
    refine .skip (.blk_n (.then_n (.region (.m rfl (.q (.add rfl rfl (by omega)) rfl (.an rfl ?_))))))
    exact .rk ((i + 1, true, .slice a7_3 (acc ++ [z]).length c7_3, (acc ++ [z]))) (⟨by dsimp only; omega, by dsimp only; exact hLay.sub hi2 h45, ⟨_, _, rfl⟩, by dsimp only; simp; omega⟩) (by dsimp only; omega) ⟨rfl, rfl, rfl, rfl, rfl, trivial⟩
   refine .sk (.seq (.draw [] [[0, 1, 2, 3, 4, 5, 6, 7, 8, 9, 10]] mixed (by kernel_rfl) (.g0 (.mv rfl rfl (.nf rfl rfl rfl fo_87_0 (.kv rfl (.ld rfl ag_73) (.mv rfl rfl (.kv rfl (.indexAddr rfl rfl el_73 (by omega)) (.kv rfl (.fieldAddr rfl fo_129_0) (.kv rfl (.loadRd (sz := 12) (j := i * 12 + 0) (p := rnR _ l) rfl ag_9 (by repeat' constructor) (fun h hp => slR_rd hp) (by omega) ((rn_cell (l := l) (i := i) (k := 0) (by omega) (by decide)).trans rfl)) (.kv rfl (.fieldAddr rfl fo_129_0) (.kv rfl (.ld rfl ag_9) (.kv rfl (.strne rfl rfl) (.pf (.condN rfl (fun h45 => ?_) (fun h45 => ?_))))))))))))))))
   ·refine .aclShape (l := l) (i := i) hi2 (by repeat' constructor) fun hcl => (.region (.m rfl (.m rfl (.nf rfl fo_87_0 (.u (.ld rfl ag_73) (.m rfl (.q (.indexAddr rfl rfl el_73 (by omega)) rfl (.q (.loadRdA (sz := 12) (j := i * 12) (k := 12) (p := rnR _ l) (vs := rnC l[i]) rfl ag_129 (by repeat' constructor) (fun h hp => slR_rd hp) (by omega) (by omega) (by omega) (flatMap_at (f := rnC) (sz := 12) (fun _ _ => rfl) (by omega))) rfl (.oq (.buildSlice (vs := [_]) el_73 ze_129 rfl rfl rfl rfl (by first | (simp [Value.cells]; done) | (intro v hv; simp only [List.mem_cons, List.not_mem_nil, or_false] at hv; (repeat (first | (subst hv; rfl) | (rcases hv with hv | hv; (subst hv; rfl)))))) (by decide)) ?_)))))))))
    rintro v L' ⟨b10_8, rfl, rfl⟩
    refine .oq (.append1 rfl rfl rfl el_73 ze_129 rfl rfl ?c86 ?c87 (Nat.le_refl _) ?c88 (by decide)) ?_
    case c86 => first | exact rn_cells hcl | (simp only [List.map_cons, List.map_nil, List.flatten_cons, List.flatten_nil, List.append_nil]; exact rn_cells hcl)
    case c87 => rfl
    case c88 => first | omega | (simp; omega)
    rintro v L' ⟨⟨a10_9, c10_9, rfl⟩, rfl⟩
    refine .a rfl (.nil ?_)
    rw [show acc.length + 1 = (acc ++ [l[i]]).length by simp]
    refine .slCast (T := 129) (sz := 12) (m' := (acc ++ [l[i]]).length) (xs' := (acc ++ [l[i]]).flatMap rnC) (by repeat' constructor) rfl (by simp; rfl) (.blk_n (.then_n (.region (.m rfl (.q (.add rfl rfl (by omega)) rfl (.an rfl ?_))))))
    exact .rk ((i + 1, false, .slice a10_9 (acc ++ [l[i]]).length c10_9, (acc ++ [l[i]]))) (⟨by dsimp only; omega, by dsimp only; exact hLay.low hi2 (Decidable.byContradiction h30), ⟨_, _, rfl⟩, by dsimp only; simp; omega⟩) (by dsimp only; omega) ⟨rfl, rfl, rfl, rfl, rfl, trivial⟩
   refine .skip (.blk_n (.then_n (.region (.m rfl (.q (.add rfl rfl (by omega)) rfl (.an rfl ?_))))))
   exact .rk ((i + 1, false, .slice au acc.length cu, acc)) (⟨by dsimp only; omega, by dsimp only; exact absurd (by rw [h45]; exact linB.irr z.1) h30, ⟨_, _, rfl⟩, by dsimp only; simp; omega⟩) (by dsimp only; omega) ⟨rfl, rfl, rfl, rfl, rfl, trivial⟩
  have hbt : b = true := by simpa using h6_18
  subst hbt
  have hal : acc.length ≤ i + 1 := hal
  refine D.kB (t := 17) rfl h6_18 (.gz rfl (.gz rfl (.gz rfl (.gz rfl (.gz rfl (.gz rfl (.gz rfl (.gz rfl (.gz rfl (.gz rfl (.gz rfl (.kv rfl (.pickF rfl rfl) (.pf (.condF rfl (.sk (.seq (.draw [] [[0, 1, 2, 3, 4, 5, 6, 7, 8, 9, 10]] mixed (by kernel_rfl) (.g0 (.mv rfl rfl (.nf rfl rfl rfl fo_87_0 (.kv rfl (.ld rfl ag_73) (.mv rfl rfl (.kv rfl (.indexAddr rfl rfl el_73 (by omega)) (.kv rfl (.fieldAddr rfl fo_129_0) (.kv rfl (.loadRd (sz := 12) (j := i * 12 + 0) (p := rnR _ l) rfl ag_9 (by repeat' constructor) (fun h hp => slR_rd hp) (by omega) ((rn_cell (l := l) (i := i) (k := 0) (by omega) (by decide)).trans rfl)) (.kv rfl (.fieldAddr rfl fo_129_0) (.kv rfl (.ld rfl ag_9) (.kv rfl (.strne rfl rfl) ?_))))))))))))))))))))))))))))
  refine D.pf (.condN rfl (fun h45 => ?_) (fun h45 => ?_))
  ·refine .aclShape (l := l) (i := i) hi2 (by repeat' constructor) fun hcl => (.region (.m rfl (.m rfl (.nf rfl fo_87_0 (.u (.ld rfl ag_73) (.m rfl (.q (.indexAddr rfl rfl el_73 (by omega)) rfl (.q (.loadRdA (sz := 12) (j := i * 12) (k := 12) (p := rnR _ l) (vs := rnC l[i]) rfl ag_129 (by repeat' constructor) (fun h hp => slR_rd hp) (by omega) (by omega) (by omega) (flatMap_at (f := rnC) (sz := 12) (fun _ _ => rfl) (by omega))) rfl (.oq (.buildSlice (vs := [_]) el_73 ze_129 rfl rfl rfl rfl (by first | (simp [Value.cells]; done) | (intro v hv; simp only [List.mem_cons, List.not_mem_nil, or_false] at hv; (repeat (first | (subst hv; rfl) | (rcases hv with hv | hv; (subst hv; rfl)))))) (by decide)) ?_)))))))))
   rintro v L' ⟨b10_8, rfl, rfl⟩
   refine .oq (.append1 rfl rfl rfl el_73 ze_129 rfl rfl ?c117 ?c118 (Nat.le_refl _) ?c119 (by decide)) ?_
   case c117 => first | exact rn_cells hcl | (simp only [List.map_cons, List.map_nil, List.flatten_cons, List.flatten_nil, List.append_nil]; exact rn_cells hcl)
   case c118 => rfl
   case c119 => first | omega | (simp; omega)
   rintro v L' ⟨⟨a10_9, c10_9, rfl⟩, rfl⟩
   refine .a rfl (.nil ?_)
   rw [show acc.length + 1 = (acc ++ [l[i]]).length by simp]
   refine .slCast (T := 129) (sz := 12) (m' := (acc ++ [l[i]]).length) (xs' := (acc ++ [l[i]]).flatMap rnC) (by repeat' constructor) rfl (by simp; rfl) (.blk_n (.then_n (.region (.m rfl (.q (.add rfl rfl (by omega)) rfl (.an rfl ?_))))))
   exact .rk ((i + 1, true, .slice a10_9 (acc ++ [l[i]]).length c10_9, (acc ++ [l[i]]))) (⟨by dsimp only; omega, by dsimp only; exact hLay.more hi2, ⟨_, _, rfl⟩, by dsimp only; simp; omega⟩) (by dsimp only; omega) ⟨rfl, rfl, rfl, rfl, rfl, trivial⟩
  refine .skip (.blk_n (.then_n (.region (.m rfl (.q (.add rfl rfl (by omega)) rfl (.an rfl ?_))))))
  exact .rk ((i + 1, true, .slice au acc.length cu, acc)) (⟨by dsimp only; omega, by dsimp only; exact absurd h45 (hLay.not hsrt hi2), ⟨_, _, rfl⟩, by dsimp only; simp; omega⟩) (by dsimp only; omega) ⟨rfl, rfl, rfl, rfl, rfl, trivial⟩
 have hii : i = l.length := by omega
 rw [hii] at hLay
 have hlast := hLay.last
 refine .exit (.then_e (.then_e (.blk_e (.then_n (.seq (.sm rfl (.u (.not rfl) (.nt (.condB rfl (fun h57 => ?_) (fun h57 => ?_))))))))))
 ·refine .region (.m rfl (.q (.loadAs (vs := rnC z) rfl ag_129 (by repeat' constructor) (by simp [rnC]) rfl) rfl (.oq (.buildSlice (vs := [_]) el_73 ze_129 rfl rfl rfl rfl (by first | (simp [Value.cells]; done) | (intro v hv; simp only [List.mem_cons, List.not_mem_nil, or_false] at hv; (repeat (first | (subst hv; rfl) | (rcases hv with hv | hv; (subst hv; rfl)))))) (by decide)) ?_)))
  rintro v L' ⟨b12_2, rfl, rfl⟩
  refine .oq (.append1 rfl rfl rfl el_73 ze_129 rfl rfl ?c132 ?c133 (Nat.le_refl _) ?c134 (by decide)) ?_
  case c132 => first | exact rn_cells hzc | (simp only [List.map_cons, List.map_nil, List.flatten_cons, List.flatten_nil, List.append_nil]; exact rn_cells hzc)
  case c133 => rfl
  case c134 => have := Bool.toNat_le b; omega
  rintro v L' ⟨⟨a12_3, c12_3, rfl⟩, rfl⟩
  refine .a rfl (.nil ?_)
  rw [show acc.length + 1 = (acc ++ [z]).length by rw [List.length_append]; rfl]
  refine .slCast (T := 129) (sz := 12) (m' := (acc ++ [z]).length) (xs' := (acc ++ [z]).flatMap rnC) (by repeat' constructor) rfl (by simp; rfl) (.then_n (.region (.m rfl (.m rfl (.nf rfl fo_87_0 (.st rfl rfl rfl sz_73 ?_))))))
  refine .nil (.done_n (.bigSset hsrt z.1 z.2 (p := inA z) rfl (by repeat' constructor) ?_))
  have hb : b = false := by simpa using h57
  subst hb
  have hfin : (acc ++ [z]) = sset l z.1 z.2 := hlast
  refine .rtFold (x := x) (τ := ({ τ with nodes := sset τ.nodes z.1 z.2.2 } : Tr)) (l := (sset l z.1 z.2)) (by rw [nds_sset, hl]) (by repeat' constructor) rfl (by rw [hfin]) (by rw [hfin]) rfl rfl ?_
  exact .vv
 refine .sk (.region (.m rfl (.m rfl (.nf rfl fo_87_0 (.st rfl rfl rfl sz_73 ?_)))))
 refine .nil (.done_n (.bigSset hsrt z.1 z.2 (p := inA z) rfl (by repeat' constructor) ?_))
 have hb : b = true := by simpa using h57
 subst hb
 have hfin : acc = sset l z.1 z.2 := hlast
 refine .rtFold (x := x) (τ := ({ τ with nodes := sset τ.nodes z.1 z.2.2 } : Tr)) (l := (sset l z.1 z.2)) (by rw [nds_sset, hl]) (by repeat' constructor) rfl (by rw [hfin]) (by rw [hfin]) rfl rfl ?_
 exact .vv
theorem rkid7_spec (x : Nat) (τ : Tr) (p : Bs) (num zx : Int) (N : Nat) (ho : τ.Ok N) (hN : N ≤ 1073741824) : Fn Tryz.prog 146 #[vptr x, vstr p, vint num, vint zx] [refR x τ] fun v L => v = .tuple #[] ∧ L = [refR x (kidT τ p num zx)] := by
 refine Fn.intro Tryz.func146 rfl rfl fun F W => ?_
 have hfew := ho.few
 have hnd := ho.sorted.nodup linB
 refine .sm rfl (.m rfl (.cv Tryz.func82 [_, _] (rplace_spec x τ p (by omega)) ?_))
 refine .an rfl (.sm rfl (.ui rfl rfl rfl (.nt (.condD rfl (fun h13 => ?_) (fun h13 => ?_)))))
 ·obtain ⟨k, hk, hpk, hkp⟩ := place_get (l := τ.nodes) h13
  have hpz : placeZ τ p = k := hpk
  rw [hpz]
  refine .rtOpen (x := x) (τ := τ) (by repeat' constructor) fun an cn as1 cs l hl => ?_
  have hll := nds_len hl
  have hkl : k < l.length := by omega
  have hlk : l[k].1 = p := by have := nds_get hl hkl; rw [← hkp]; simp only [this]
  refine .slShape (T := 129) (sz := 12) (v := .slice an l.length cn) (xs := l.flatMap rnC) (by repeat' constructor) (by omega) fun bn bn' e0 mbn _ => ?_
  simp only [Value.slice.injEq, true_and] at e0
  obtain ⟨rfl, rfl⟩ := e0
  refine .sm rfl (.nf rfl fo_87_0 (.u (.ld rfl ag_73) (.m rfl (.m rfl (.q (.indexAddr rfl rfl el_73 (by omega)) rfl (.u (.fieldAddr rfl fo_129_3) (.u (.fieldAddr rfl fo_92_4) (.oq (.storeRd (sz := 12) (j := k * 12 + 7) rfl rfl ?hv14 sz_3 ?ho15 ?hi16) ?_))))))))
  case hv14 => first | rfl | assumption
  case ho15 => omega
  case hi16 => omega
  rintro v L' rfl
  refine .nil (.slCast (T := 129) (sz := 12) (m' := l.length) (xs' := (l.set k (l[k].1, (l[k].2.1, { l[k].2.2 with st := { l[k].2.2.st with cver := num } }))).flatMap rnC) (by repeat' constructor) rfl (flatMap_set (f := rnC) (sz := 12) (fun _ => rfl) (by simpa using hkl) (by decide) (by rfl)) (.then_n (.region (.m rfl (.nf rfl fo_87_0 (.u (.ld rfl ag_73) (.m rfl (.m rfl (.q (.indexAddr rfl rfl el_73 (by omega)) rfl (.u (.fieldAddr rfl fo_129_3) (.u (.fieldAddr rfl fo_92_2) (.oq (.storeRd (sz := 12) (j := k * 12 + 5) rfl rfl ?hv26 sz_3 ?ho27 ?hi28) ?_))))))))))))
  case hv26 => first | rfl | assumption
  case ho27 => omega
  case hi28 => omega
  rintro v L' rfl
  refine .nil (.slCast (T := 129) (sz := 12) (m' := l.length) (xs' := ((l.set k (l[k].1, (l[k].2.1, { l[k].2.2 with st := { l[k].2.2.st with cver := num } }))).set k (l[k].1, (l[k].2.1, kidN num zx l[k].2.2))).flatMap rnC) (by repeat' constructor) rfl (flatMap_set (f := rnC) (sz := 12) (fun _ => rfl) (by simpa using hkl) (by decide) (by rw [List.getElem_set_self]; rfl)) ?_)
  rw [List.set_set]
  refine .done_n (.bigSet (y := (l[k].1, (l[k].2.1, kidN num zx l[k].2.2))) hkl (by rfl) (by repeat' constructor) (.rtFold (x := x) (τ := (kidT τ p num zx)) (l := (l.set k (l[k].1, (l[k].2.1, kidN num zx l[k].2.2)))) (nds_mod hl hnd hkl hlk (kidN num zx) rfl) (by repeat' constructor) rfl (by simp) rfl rfl rfl ?_))
  exact .vv
 refine .skip (.done_n (.rfCast (x := x) (τ' := kidT τ p num zx) (by repeat' constructor) (by unfold kidT; rw [amod_none (by have h0 : ¬ 0 ≤ placeTo τ.nodes p := h13; rw [place_iff] at h0; simpa using h0)]) ?_))
 exact .vv
theorem rlay2_spec (x : Nat) (τ : Tr) (z : Rno) (hzc : isCell z.2.1 = true) (N : Nat) (ho : τ.Ok N) (hN : N ≤ 1073741824) {T : TypeId} : Fn Tryz.prog 109 #[vptr x, .agg (rnC z).toArray] [refR x τ, slR T 2 z.2.1 z.2.2.acl.length (z.2.2.acl.flatMap acC)] fun v L => v = .tuple #[] ∧ L = [refR x { τ with nodes := sset τ.nodes z.1 z.2.2 }] :=
 Fn.pre2 (rlay_spec x τ z hzc N ho hN) fun F w hs => by
  have h1 := sep_imp (q := inA z) (fun h hp => slR_rd hp) (sep_swap hs)
  exact sep_swap h1
theorem rcreate_spec (x : Nat) (τ : Tr) (y : Pt) (zx : Int) (p : HP) (hy : PtA p y) (N : Nat) (ho : τ.Ok N) (hN : N + 1 ≤ 1073741824) : Fn Tryz.prog 119 #[vptr x, .agg (ptC y).toArray, vint zx] [refR x τ, p] fun v L => ∃ a c, v = .slice a (createZ τ y zx).2.length c ∧ L = [refR x (createZ τ y zx).1, p, slR 150 3 v (createZ τ y zx).2.length ((createZ τ y zx).2.flatMap evC)] := by
 refine Fn.intro Tryz.func119 rfl rfl fun F W => ?_
 have hfew := hy.few
 have hpl := hy.plen
 have hpar := parent_len y.path
 have hof := ho.few
 refine .sr (.oq (.box rfl) ?_)
 rintro v L' ⟨bx, rfl, rfl⟩
 refine .a rfl (.nil (.ptCast (b := bx) (l' := ptC y) (by repeat' constructor) rfl (.then_n (.sr (.u (.fieldAddr rfl fo_37_1) (.u (.ld rfl ag_9) (.cv Tryz.func83 [_] (rparent_spec y.path (by omega)) ?_)))))))
 refine .an rfl (.sr (.u (.fieldAddr rfl fo_37_1) (.u (.ld rfl ag_9) (.cv Tryz.func123 [_] (rable_spec y.path (by omega)) ?_))))
 refine .an rfl (.seq (.sm rfl (.u (.not rfl) (.m rfl (.ndec (t := 18) rfl (fun h3_18 => ?_) (fun h3_18 => ?_))))))
 ·refine .kNT (t := 17) rfl h3_18 (.gk (.gk (.gk (.gk (.u (.pickT rfl rfl) (.nt (.condT rfl (.sr (.an rfl (.rt (.add (slR_nil 150 3) ?_)))))))))))
  have hc : createZ τ y zx = (τ, []) := by unfold createZ; rw [if_neg (fun g => h3_18 g.1)]
  refine .rfCast (x := x) (τ' := (createZ τ y zx).1) (by repeat' constructor) (by rw [hc]) (.slCast (T := 150) (sz := 3) (m' := (createZ τ y zx).2.length) (xs' := (createZ τ y zx).2.flatMap evC) (by repeat' constructor) (by (rw [hc]; try rfl)) (by (rw [hc]; try rfl)) ?_)
  exact .dn rfl rfl ⟨_, _, by (rw [hc]; try rfl), rfl⟩
 refine .kNF (t := 17) rfl h3_18 (.grun (t := 18) rfl rfl rfl (.m rfl (.grun (t := 18) rfl rfl rfl (.m rfl (.grun (t := 18) rfl rfl rfl (.cv Tryz.func82 [_, _] (rplace_spec x τ (parentZ y.path) (by omega)) ?_))))))
 refine .grun (t := 18) rfl rfl rfl (.ui rfl rfl rfl (.u (.pickF rfl rfl) (.nt (.condD rfl (fun h23 => ?_) (fun h23 => ?_)))))
 ·refine .sr (.an rfl (.rt (.add (slR_nil 150 3) ?_)))
  have hc : createZ τ y zx = (τ, []) := by unfold createZ; rw [if_neg (fun g => absurd (place_iff.2 g.2) (by have h0 : placeTo τ.nodes (parentZ y.path) < 0 := h23; omega))]
  refine .rfCast (x := x) (τ' := (createZ τ y zx).1) (by repeat' constructor) (by rw [hc]) (.slCast (T := 150) (sz := 3) (m' := (createZ τ y zx).2.length) (xs' := (createZ τ y zx).2.flatMap evC) (by repeat' constructor) (by (rw [hc]; try rfl)) (by (rw [hc]; try rfl)) ?_)
  exact .dn rfl rfl ⟨_, _, by (rw [hc]; try rfl), rfl⟩
 have hup : thereT τ (parentZ y.path) := place_iff.1 (by have h0 : ¬ placeTo τ.nodes (parentZ y.path) < 0 := h23; omega)
 have hab : ableZ y.path := h3_18
 refine .sk (.sr (.an rfl (.seq (.sm rfl (.u (.fieldAddr rfl fo_37_1) (.u (.ld rfl ag_9) (.cv Tryz.func82 [_, _] (rplace_spec x τ y.path (by omega)) ?_)))))))
 refine .ui rfl rfl rfl (.nt (.condD rfl (fun h28 => ?_) (fun h28 => ?_)))
 ·refine .region (.an rfl (.seq (.draw [7, 15] [[0, 1, 2, 3, 4, 5, 6, 8, 9, 10, 11, 12, 13, 7, 14], [15]] mixed (by kernel_rfl) (.go [ptc bx _ _] (by repeat' constructor) (.k rfl (.move rfl) (.k rfl (.fieldAddr rfl fo_37_1) (.k rfl (.ld rfl ag_9) (.k rfl (.fieldAddr rfl fo_37_2) (.k rfl (.ld rfl ag_9) (.kv rfl (.fieldAddr rfl fo_37_3) (.kv rfl (.ld rfl ag_34) (.k rfl (.move rfl) (.k rfl (.move rfl) (.k rfl (.move rfl) (.k rfl (.fieldAddr rfl fo_37_4) (.k rfl (.ld rfl ag_3) (.k rfl (.build (us := [(0, _), (1, _), (2, _), (6, _)]) fl_92 ze_92 rfl rfl (by simp [isCell])) (.hh rfl (.c Tryz.func110 [_] (rrows_spec y.aclV y.acl p hy.acl hfew)) ?_))))))))))))))))))
  rintro v L' ⟨⟨a8, c8, rfl⟩, rfl⟩
  refine D.kv rfl (.buildN (pl := [(0, 1), (1, 1), (2, 1), (3, 9)]) (us := [(0, vstr y.path), (1, vstr y.data), (2, .slice a8 y.acl.length c8), (3, .agg ([vint zx, vint zx, vint zx, vint 0, vint 0, vint 0, vint y.own, vint 0, vint 0] : List Value).toArray)]) (cells := [vstr y.path, vstr y.data, .slice a8 y.acl.length c8] ++ [vint zx, vint zx, vint zx, vint 0, vint 0, vint 0, vint y.own, vint 0, vint 0]) Tryz.underlying129 (by kernel_rfl) ze_129 rfl (fill_rnode _ _ _ _ _ _ _ _ _ _ _ _ _ _)) (.ph (.g0 (.hh rfl (.c Tryz.func109 [_, _] (rlay2_spec x τ ((y.path, (.slice a8 y.acl.length c8, newN y zx)) : Rno) rfl N ho (by omega))) ?_)))
  rintro v L' ⟨rfl, rfl⟩
  refine D.ph (.fin (.rfCast (x := x) (τ' := ({ τ with nodes := sset τ.nodes y.path (newN y zx) } : Tr)) (by repeat' constructor) (rfl) ?_))
  have hoL := ho.lay (.inr hab) (newN y zx) hfew
  refine .then_n (.sm rfl (.m rfl (.u (.fieldAddr rfl fo_37_5) (.u (.ld rfl ag_3) (.m rfl (.cv Tryz.func146 [_, _, _, _] (rkid7_spec x ({ τ with nodes := sset τ.nodes y.path (newN y zx) } : Tr) (parentZ y.path) y.num zx (N + 1) hoL (by omega)) ?_))))))
  refine .nt (.sm rfl (.u (.fieldAddr rfl fo_37_1) (.u (.ld rfl ag_9) (.m rfl (.q (.build (us := [(0, _), (1, _), (2, _)]) fl_150 ze_150 rfl rfl (by simp [isCell])) rfl (.m rfl (.m rfl (.q (.build (us := [(0, _), (1, _), (2, _)]) fl_150 ze_150 rfl rfl (by simp [isCell])) rfl (.oq (.buildSlice (vs := [_, _]) el_30 ze_150 rfl rfl rfl rfl (by first | (simp [Value.cells]; done) | (intro v hv; simp only [List.mem_cons, List.not_mem_nil, or_false] at hv; (repeat (first | (subst hv; rfl) | (rcases hv with hv | hv; (subst hv; rfl)))))) (by decide)) ?_)))))))))
  rintro v L' ⟨bo, rfl, rfl⟩
  refine .a rfl (.nil (.slMakeN 3 2 (b := bo) (xs := ([(3, (y.path, zx)), (4, (parentZ y.path, zx))] : List Ev).flatMap evC) (by repeat' constructor) rfl rfl (.then_n (.ret ?_))))
  have hc : createZ τ y zx = (kidT ({ τ with nodes := sset τ.nodes y.path (newN y zx) } : Tr) (parentZ y.path) y.num zx, [(3, (y.path, zx)), (4, (parentZ y.path, zx))]) := by unfold createZ; rw [if_pos ⟨hab, hup⟩, if_pos (show thereT τ y.path from place_iff.1 h28)]
  refine .rfCast (x := x) (τ' := (createZ τ y zx).1) (by repeat' constructor) (by rw [hc]) (.slCast (T := 150) (sz := 3) (m' := (createZ τ y zx).2.length) (xs' := (createZ τ y zx).2.flatMap evC) (by repeat' constructor) (by (rw [hc]; try rfl)) (by (rw [hc]; try rfl)) ?_)
  exact .dn rfl rfl ⟨_, _, by (rw [hc]; try rfl), rfl⟩
 refine .sk (.seq (.draw [7, 15] [[0, 1, 2, 3, 4, 5, 6, 8, 9, 10, 11, 12, 13, 7, 14], [15]] mixed (by kernel_rfl) (.go [ptc bx _ _] (by repeat' constructor) (.k rfl (.move rfl) (.k rfl (.fieldAddr rfl fo_37_1) (.k rfl (.ld rfl ag_9) (.k rfl (.fieldAddr rfl fo_37_2) (.k rfl (.ld rfl ag_9) (.kv rfl (.fieldAddr rfl fo_37_3) (.kv rfl (.ld rfl ag_34) (.k rfl (.move rfl) (.k rfl (.move rfl) (.k rfl (.move rfl) (.k rfl (.fieldAddr rfl fo_37_4) (.k rfl (.ld rfl ag_3) (.k rfl (.build (us := [(0, _), (1, _), (2, _), (6, _)]) fl_92 ze_92 rfl rfl (by simp [isCell])) (.hh rfl (.c Tryz.func110 [_] (rrows_spec y.aclV y.acl p hy.acl hfew)) ?_)))))))))))))))))
 rintro v L' ⟨⟨a8, c8, rfl⟩, rfl⟩
 refine D.kv rfl (.buildN (pl := [(0, 1), (1, 1), (2, 1), (3, 9)]) (us := [(0, vstr y.path), (1, vstr y.data), (2, .slice a8 y.acl.length c8), (3, .agg ([vint zx, vint zx, vint zx, vint 0, vint 0, vint 0, vint y.own, vint 0, vint 0] : List Value).toArray)]) (cells := [vstr y.path, vstr y.data, .slice a8 y.acl.length c8] ++ [vint zx, vint zx, vint zx, vint 0, vint 0, vint 0, vint y.own, vint 0, vint 0]) Tryz.underlying129 (by kernel_rfl) ze_129 rfl (fill_rnode _ _ _ _ _ _ _ _ _ _ _ _ _ _)) (.ph (.g0 (.hh rfl (.c Tryz.func109 [_, _] (rlay2_spec x τ ((y.path, (.slice a8 y.acl.length c8, newN y zx)) : Rno) rfl N ho (by omega))) ?_)))
 rintro v L' ⟨rfl, rfl⟩
 refine D.ph (.fin (.rfCast (x := x) (τ' := ({ τ with nodes := sset τ.nodes y.path (newN y zx) } : Tr)) (by repeat' constructor) (rfl) ?_))
 have hoL := ho.lay (.inr hab) (newN y zx) hfew
 refine .then_n (.sm rfl (.m rfl (.u (.fieldAddr rfl fo_37_5) (.u (.ld rfl ag_3) (.m rfl (.cv Tryz.func146 [_, _, _, _] (rkid7_spec x ({ τ with nodes := sset τ.nodes y.path (newN y zx) } : Tr) (parentZ y.path) y.num zx (N + 1) hoL (by omega)) ?_))))))
 refine .nt (.sm rfl (.u (.fieldAddr rfl fo_37_1) (.u (.ld rfl ag_9) (.m rfl (.q (.build (us := [(0, _), (1, _), (2, _)]) fl_150 ze_150 rfl rfl (by simp [isCell])) rfl (.m rfl (.m rfl (.q (.build (us := [(0, _), (1, _), (2, _)]) fl_150 ze_150 rfl rfl (by simp [isCell])) rfl (.oq (.buildSlice (vs := [_, _]) el_30 ze_150 rfl rfl rfl rfl (by first | (simp [Value.cells]; done) | (intro v hv; simp only [List.mem_cons, List.not_mem_nil, or_false] at hv; (repeat (first | (subst hv; rfl) | (rcases hv with hv | hv; (subst hv; rfl)))))) (by decide)) ?_)))))))))
 rintro v L' ⟨bo, rfl, rfl⟩
 refine .a rfl (.nil (.slMakeN 3 2 (b := bo) (xs := ([(1, (y.path, zx)), (4, (parentZ y.path, zx))] : List Ev).flatMap evC) (by repeat' constructor) rfl rfl (.then_n (.ret ?_))))
 have hc : createZ τ y zx = (kidT ({ τ with nodes := sset τ.nodes y.path (newN y zx) } : Tr) (parentZ y.path) y.num zx, [(1, (y.path, zx)), (4, (parentZ y.path, zx))]) := by unfold createZ; rw [if_pos ⟨hab, hup⟩, if_neg (show ¬ thereT τ y.path from fun g => h28 (place_iff.2 g))]
 refine .rfCast (x := x) (τ' := (createZ τ y zx).1) (by repeat' constructor) (by rw [hc]) (.slCast (T := 150) (sz := 3) (m' := (createZ τ y zx).2.length) (xs' := (createZ τ y zx).2.flatMap evC) (by repeat' constructor) (by (rw [hc]; try rfl)) (by (rw [hc]; try rfl)) ?_)
 exact .dn rfl rfl ⟨_, _, by (rw [hc]; try rfl), rfl⟩
theorem rerase_spec (x : Nat) (τ : Tr) (y : Pt) (zx : Int) (p : HP) (hy : PtA p y) (N : Nat) (ho : τ.Ok N) (hN : N + 1 ≤ 1073741824) : Fn Tryz.prog 120 #[vptr x, .agg (ptC y).toArray, vint zx] [refR x τ] fun v L => ∃ a c, v = .slice a (eraseZ τ y zx).2.length c ∧ L = [refR x (eraseZ τ y zx).1, slR 150 3 v (eraseZ τ y zx).2.length ((eraseZ τ y zx).2.flatMap evC)] := by
 refine Fn.intro Tryz.func120 rfl rfl fun F W => ?_
 have hfew := hy.few
 have hpl := hy.plen
 have hpar := parent_len y.path
 have hof := ho.few
 refine .sr (.oq (.box rfl) ?_)
 rintro v L' ⟨bx, rfl, rfl⟩
 refine .a rfl (.nil (.ptCast (b := bx) (l' := ptC y) (by repeat' constructor) rfl (.then_n (.sr (.u (.fieldAddr rfl fo_37_1) (.u (.ld rfl ag_9) (.cv Tryz.func123 [_] (rable_spec y.path (by omega)) ?_)))))))
 refine .an rfl (.seq (.sm rfl (.u (.not rfl) (.nt (.condN rfl (fun h18 => ?_) (fun h18 => ?_))))))
 ·refine .sr (.an rfl (.rt (.add (slR_nil 150 3) ?_)))
  have hc : eraseZ τ y zx = (τ, []) := by unfold eraseZ; rw [if_neg h18]
  refine .rfCast (x := x) (τ' := (eraseZ τ y zx).1) (by repeat' constructor) (by rw [hc]) (.slCast (T := 150) (sz := 3) (m' := (eraseZ τ y zx).2.length) (xs' := (eraseZ τ y zx).2.flatMap evC) (by repeat' constructor) (by (rw [hc]; try rfl)) (by (rw [hc]; try rfl)) ?_)
  exact .dn rfl rfl ⟨_, _, by (rw [hc]; try rfl), rfl⟩
 refine .sk (.sr (.u (.fieldAddr rfl fo_37_1) (.u (.ld rfl ag_9) (.cv Tryz.func83 [_] (rparent_spec y.path (by omega)) ?_))))
 refine .an rfl (.sm rfl (.u (.fieldAddr rfl fo_37_1) (.u (.ld rfl ag_9) (.cv Tryz.func82 [_, _] (rplace_spec x τ y.path (by omega)) ?_))))
 refine .ui rfl rfl rfl (.an rfl (.seq (.add (slR_nil 129 12) (.rtOpen (x := x) (τ := τ) (by repeat' constructor) fun an cn as1 cs l hl => ?_))))
 have hll := nds_len hl
 refine .region (.an rfl (.seq (.sr (.an rfl (.block (.loopK (ι := Nat × Value) (fun q E => (11, vint q.1) :: (10, q.2) :: E) (fun q => [rnR q.2 ((l.take q.1).filter fun w => !hitT w.1 y.path)]) (fun q => q.1 ≤ l.length ∧ ∃ a c, q.2 = .slice a ((l.take q.1).filter fun w => !hitT w.1 y.path).length c) (fun q => l.length - q.1) (0, .slice none 0 0) (ts := [0, 2, 4, 6, 8, 9]) (.cons rfl (.cons rfl (.cons rfl (.cons rfl (.cons rfl (.cons rfl (.nil))))))) (⟨Nat.zero_le _, none, 0, rfl⟩) ⟨rfl, rfl, rfl, rfl, rfl, rfl, rfl, rfl, trivial⟩ (by repeat' constructor) ?_))))))
 rintro ⟨i, u⟩ ⟨hi, au, cu, hu⟩
 dsimp only
 dsimp only at hi hu
 subst hu
 have hfl := List.length_filter_le (fun w : Rno => !hitT w.1 y.path) (l.take i)
 rw [List.length_take] at hfl
 refine .seq (.sm rfl (.m rfl (.nf rfl fo_87_0 (.u (.ld rfl ag_73) (.q (.slen rfl Tryz.underlying73 rfl) rfl (.ui rfl rfl rfl (.nt (.condD rfl (fun h33 => ?_) (fun h33 => ?_)))))))))
 ·have hi2 : i < l.length := by omega
  have hpi : l[i].1.length ≤ 60 := by have := nds_get hl hi2; have h2 := able_len (ho.able _ (List.getElem_mem (l := τ.nodes) (n := i) (by omega))); rw [this] at h2; exact h2
  refine .slShape (T := 129) (sz := 12) (v := .slice an l.length cn) (xs := l.flatMap rnC) (by repeat' constructor) (by omega) fun bn bn' e0 mbn _ => ?_
  simp only [Value.slice.injEq, true_and] at e0
  obtain ⟨rfl, rfl⟩ := e0
  refine .sk (.seq (.block (.seq (.draw [10] [[0, 1, 2, 3, 4, 5, 6, 7, 8, 9, 10], [11]] mixed (by kernel_rfl) (.g0 (.mv rfl rfl (.nf rfl rfl rfl fo_87_0 (.kv rfl (.ld rfl ag_73) (.mv rfl rfl (.kv rfl (.indexAddr rfl rfl el_73 (by omega)) (.kv rfl (.fieldAddr rfl fo_129_0) (.kv rfl (.loadRd (sz := 12) (j := i * 12 + 0) (p := rnR _ l) rfl ag_9 (by repeat' constructor) (fun h hp => slR_rd hp) (by omega) ((rn_cell (l := l) (i := i) (k := 0) (by omega) (by decide)).trans rfl)) (.kv rfl (.fieldAddr rfl fo_37_1) (.kv rfl (.ld rfl ag_9) (.hh rfl (.c Tryz.func147 [_, _] (runder_spec l[i].1 y.path (by omega))) ?_)))))))))))))))
  rintro v L' ⟨rfl, rfl⟩
  refine D.ph (.g0 (.kv rfl (.assign rfl) (.pf (.seq (.draw [] [[0, 1, 2, 3, 4, 5, 6, 7, 8, 9, 10, 11, 12, 13, 14]] mixed (by kernel_rfl) (.g0 (.mv rfl rfl (.nf rfl rfl rfl fo_87_0 (.kv rfl (.ld rfl ag_73) (.mv rfl rfl (.kv rfl (.indexAddr rfl rfl el_73 (by omega)) (.kv rfl (.fieldAddr rfl fo_129_0) (.kv rfl (.loadRd (sz := 12) (j := i * 12 + 0) (p := rnR _ l) rfl ag_9 (by repeat' constructor) (fun h hp => slR_rd hp) (by omega) ((rn_cell (l := l) (i := i) (k := 0) (by omega) (by decide)).trans rfl)) (.kv rfl (.fieldAddr rfl fo_37_1) (.kv rfl (.ld rfl ag_9) (.kv rfl (.strne rfl rfl) (.mv rfl rfl (.ndec (t := 58) rfl (fun h11_58 => ?_) (fun h11_58 => ?_)))))))))))))))))))
  ·refine D.kNT (t := 57) rfl h11_58 (.gv rfl (.move rfl) (.gv rfl (.not rfl) (.kv rfl (.pickT rfl rfl) (.pf (.condN rfl (fun h61 => ?_) (fun h61 => ?_))))))
   ·have hhit : hitT l[i].1 y.path = false := by unfold hitT; rw [decide_eq_false h11_58, decide_eq_false h61]; rfl
    refine .aclShape (l := l) (i := i) hi2 (by repeat' constructor) fun hcl => (.region (.m rfl (.m rfl (.nf rfl fo_87_0 (.u (.ld rfl ag_73) (.m rfl (.q (.indexAddr rfl rfl el_73 (by omega)) rfl (.q (.loadRdA (sz := 12) (j := i * 12) (k := 12) (p := rnR _ l) (vs := rnC l[i]) rfl ag_129 (by repeat' constructor) (fun h hp => slR_rd hp) (by omega) (by omega) (by omega) (flatMap_at (f := rnC) (sz := 12) (fun _ _ => rfl) (by omega))) rfl (.oq (.buildSlice (vs := [_]) el_73 ze_129 rfl rfl rfl rfl (by first | (simp [Value.cells]; done) | (intro v hv; simp only [List.mem_cons, List.not_mem_nil, or_false] at hv; (repeat (first | (subst hv; rfl) | (rcases hv with hv | hv; (subst hv; rfl)))))) (by decide)) ?_)))))))))
    rintro v L' ⟨b12_8, rfl, rfl⟩
    refine .oq (.append1 rfl rfl rfl el_73 ze_129 rfl rfl ?c63 ?c64 (Nat.le_refl _) ?c65 (by decide)) ?_
    case c63 => first | exact rn_cells hcl | (simp only [List.map_cons, List.map_nil, List.flatten_cons, List.flatten_nil, List.append_nil]; exact rn_cells hcl)
    case c64 => rfl
    case c65 => first | omega | (simp; omega)
    rintro v L' ⟨⟨a12_9, c12_9, rfl⟩, rfl⟩
    refine .a rfl (.nil (.blk_n (.then_n (.region (.m rfl (.q (.add rfl rfl (by omega)) rfl (.an rfl ?_)))))))
    have hst : ((l.take (i + 1)).filter fun w => !hitT w.1 y.path) = ((l.take i).filter fun w => !hitT w.1 y.path) ++ [l[i]] := by rw [List.take_succ_eq_append_getElem hi2, List.filter_append]; simp [hhit]
    rw [show ((l.take i).filter fun w => !hitT w.1 y.path).length + 1 = ((l.take (i + 1)).filter fun w => !hitT w.1 y.path).length by rw [hst, List.length_append]; rfl]
    refine .slCast (T := 129) (sz := 12) (m' := ((l.take (i + 1)).filter fun w => !hitT w.1 y.path).length) (xs' := ((l.take (i + 1)).filter fun w => !hitT w.1 y.path).flatMap rnC) (by repeat' constructor) rfl (by rw [hst, List.flatMap_append]; simp; rfl) ?_
    exact .rk ((i + 1, .slice a12_9 ((l.take (i + 1)).filter fun w => !hitT w.1 y.path).length c12_9)) (⟨by dsimp only; omega, _, _, rfl⟩) (by dsimp only; omega) ⟨rfl, rfl, rfl, rfl, rfl, rfl, rfl, rfl, trivial⟩
   refine .skip (.blk_n (.then_n (.region (.m rfl (.q (.add rfl rfl (by omega)) rfl (.an rfl ?_))))))
   have hhit : hitT l[i].1 y.path = true := by unfold hitT; rw [decide_eq_true (p := underZ l[i].1 y.path) (by simpa using h61), Bool.or_true]
   have hst : ((l.take (i + 1)).filter fun w => !hitT w.1 y.path) = ((l.take i).filter fun w => !hitT w.1 y.path) := by rw [List.take_succ_eq_append_getElem hi2, List.filter_append]; simp [hhit]
   rw [← hst]
   exact .rk ((i + 1, .slice au ((l.take (i + 1)).filter fun w => !hitT w.1 y.path).length cu)) (⟨by dsimp only; omega, _, _, rfl⟩) (by dsimp only; omega) ⟨rfl, rfl, rfl, rfl, rfl, rfl, rfl, rfl, trivial⟩
  refine D.kNF (t := 57) rfl h11_58 (.gz rfl (.gz rfl (.kv rfl (.pickF rfl rfl) (.pf (.condF rfl (.skip (.blk_n (.then_n (.region (.m rfl (.q (.add rfl rfl (by omega)) rfl (.an rfl ?_))))))))))))
  have hhit : hitT l[i].1 y.path = true := by unfold hitT; rw [decide_eq_true h11_58]; rfl
  have hst : ((l.take (i + 1)).filter fun w => !hitT w.1 y.path) = ((l.take i).filter fun w => !hitT w.1 y.path) := by rw [List.take_succ_eq_append_getElem hi2, List.filter_append]; simp [hhit]
  rw [← hst]
  exact .rk ((i + 1, .slice au ((l.take (i + 1)).filter fun w => !hitT w.1 y.path).length cu)) (⟨by dsimp only; omega, _, _, rfl⟩) (by dsimp only; omega) ⟨rfl, rfl, rfl, rfl, rfl, rfl, rfl, rfl, trivial⟩
 have hii : i = l.length := by omega
 subst hii
 rw [List.take_length]
 refine .exit (.then_e (.then_e (.blk_e (.then_n (.sm rfl (.m rfl (.nf rfl fo_87_0 (.st rfl rfl rfl sz_73 ?_))))))))
 refine .nil (.bigSub (l := (l.filter fun w => !hitT w.1 y.path)) List.filter_sublist (by repeat' constructor) (.rtFold (x := x) (τ := (cutT τ y.path)) (l := (l.filter fun w => !hitT w.1 y.path)) (by rw [nds_filter (fun q => !hitT q y.path), hl]; rfl) (by repeat' constructor) rfl rfl rfl rfl rfl (.then_n (.sm rfl (.m rfl (.u (.fieldAddr rfl fo_37_5) (.u (.ld rfl ag_3) (.m rfl (.oq (.c Tryz.func146 [_, _, _, _] (rkid7_spec x (cutT τ y.path) (parentZ y.path) y.num zx N (ho.cut y.path) (by omega))) ?_)))))))))
 rintro v L' ⟨rfl, rfl⟩; have hoK := (ho.cut y.path).kid (parentZ y.path) y.num zx; have hofk := hoK.few
 refine .nt (.seq (.sm rfl (.u (.not rfl) (.nt (.condN rfl (fun h83 => ?_) (fun h83 => ?_))))))
 ·have hth : ¬ thereT τ y.path := fun g => h83 (place_iff.2 g)
  refine .sr (.an rfl (.rt (.add (slR_nil 150 3) ?_)))
  have hc : eraseZ τ y zx = ((kidT (cutT τ y.path) (parentZ y.path) y.num zx), []) := by unfold eraseZ; rw [if_pos h18, if_neg hth]
  refine .rfCast (x := x) (τ' := (eraseZ τ y zx).1) (by repeat' constructor) (by rw [hc]) (.slCast (T := 150) (sz := 3) (m' := (eraseZ τ y zx).2.length) (xs' := (eraseZ τ y zx).2.flatMap evC) (by repeat' constructor) (by (rw [hc]; try rfl)) (by (rw [hc]; try rfl)) ?_)
  exact .dn rfl rfl ⟨_, _, by (rw [hc]; try rfl), rfl⟩
 have hth : thereT τ y.path := place_iff.1 h83
 refine .sk (.sr (.u (.fieldAddr rfl fo_37_1) (.u (.ld rfl ag_9) (.m rfl (.q (.build (us := [(0, _), (1, _), (2, _)]) fl_150 ze_150 rfl rfl (by simp [isCell])) rfl (.oq (.buildSlice (vs := [_]) el_30 ze_150 rfl rfl rfl rfl (by first | (simp [Value.cells]; done) | (intro v hv; simp only [List.mem_cons, List.not_mem_nil, or_false] at hv; (repeat (first | (subst hv; rfl) | (rcases hv with hv | hv; (subst hv; rfl)))))) (by decide)) ?_))))))
 rintro v L' ⟨bo, rfl, rfl⟩
 refine .a rfl (.nil (.slMakeN 3 1 (b := bo) (xs := ([(2, (y.path, zx))] : List Ev).flatMap evC) (by repeat' constructor) rfl rfl (.then_n (.seq (.sm rfl (.m rfl (.cv Tryz.func82 [_, _] (rplace_spec x (kidT (cutT τ y.path) (parentZ y.path) y.num zx) (parentZ y.path) (by omega)) ?_)))))))
 refine .ui rfl rfl rfl (.nt (.condD rfl (fun h92 => ?_) (fun h92 => ?_)))
 ·refine .region (.m rfl (.m rfl (.m rfl (.q (.build (us := [(0, _), (1, _), (2, _)]) fl_150 ze_150 rfl rfl (by simp [isCell])) rfl (.oq (.buildSlice (vs := [_]) el_30 ze_150 rfl rfl rfl rfl (by first | (simp [Value.cells]; done) | (intro v hv; simp only [List.mem_cons, List.not_mem_nil, or_false] at hv; (repeat (first | (subst hv; rfl) | (rcases hv with hv | hv; (subst hv; rfl)))))) (by decide)) ?_)))))
  rintro v L' ⟨b19_4, rfl, rfl⟩
  refine .oq (.append1 rfl rfl rfl el_30 ze_150 rfl rfl ?c108 ?c109 (Nat.le_refl _) ?c110 (by decide)) ?_
  case c108 => (first | (simp [isCell]; done) | (simp [isCell, setAll, Value.cells]; done))
  case c109 => rfl
  case c110 => omega
  rintro v L' ⟨⟨a19_5, c19_5, rfl⟩, rfl⟩
  refine .an rfl (.sm rfl (.an rfl (.ret ?_)))
  have hc : eraseZ τ y zx = ((kidT (cutT τ y.path) (parentZ y.path) y.num zx), [(2, (y.path, zx)), (4, (parentZ y.path, zx))]) := by unfold eraseZ; rw [if_pos h18, if_pos hth, if_pos (show thereT (cutT τ y.path) (parentZ y.path) from kid_there.1 (place_iff.1 h92))]
  refine .rfCast (x := x) (τ' := (eraseZ τ y zx).1) (by repeat' constructor) (by rw [hc]) (.slCast (T := 150) (sz := 3) (m' := (eraseZ τ y zx).2.length) (xs' := (eraseZ τ y zx).2.flatMap evC) (by repeat' constructor) (by (rw [hc]; try rfl)) (by (rw [hc]; try rfl)) ?_)
  exact .dn rfl rfl ⟨_, _, by (rw [hc]; try rfl), rfl⟩
 refine .sk (.sm rfl (.an rfl (.ret ?_)))
 have hc : eraseZ τ y zx = ((kidT (cutT τ y.path) (parentZ y.path) y.num zx), [(2, (y.path, zx))]) := by unfold eraseZ; rw [if_pos h18, if_pos hth, if_neg (show ¬ thereT (cutT τ y.path) (parentZ y.path) from fun g => h92 (place_iff.2 (kid_there.2 g)))]
 refine .rfCast (x := x) (τ' := (eraseZ τ y zx).1) (by repeat' constructor) (by rw [hc]) (.slCast (T := 150) (sz := 3) (m' := (eraseZ τ y zx).2.length) (xs' := (eraseZ τ y zx).2.flatMap evC) (by repeat' constructor) (by (rw [hc]; try rfl)) (by (rw [hc]; try rfl)) ?_)
 exact .dn rfl rfl ⟨_, _, by (rw [hc]; try rfl), rfl⟩
theorem rpart_spec (x : Nat) (τ : Tr) (y : Pt) (zx : Int) (p : HP) (hy : PtA p y) (N : Nat) (ho : τ.Ok N) (hN : N + 1 ≤ 1073741824) : Fn Tryz.prog 79 #[vptr x, .agg (ptC y).toArray, vint zx] [refR x τ, p] fun v L => ∃ a c, v = .slice a (partZ τ y zx).2.length c ∧ L = [refR x (partZ τ y zx).1, p, slR 150 3 v (partZ τ y zx).2.length ((partZ τ y zx).2.flatMap evC)] := by
 refine Fn.intro Tryz.func79 rfl rfl fun F W => ?_
 have hfew := hy.few
 have hpl := hy.plen
 have hof := ho.few
 have hnd := ho.sorted.nodup linB
 refine .sr (.oq (.box rfl) ?_)
 rintro v L' ⟨bx, rfl, rfl⟩
 refine .a rfl (.nil (.ptCast (b := bx) (l' := ptC y) (by repeat' constructor) rfl (.then_n (.sm rfl (.u (.fieldAddr rfl fo_37_1) (.u (.ld rfl ag_9) (.cv Tryz.func82 [_, _] (rplace_spec x τ y.path (by omega)) ?_)))))))
 refine .an rfl (.seq (.sr (.u (.fieldAddr rfl fo_37_0) (.u (.ld rfl ag_3) (.nt (.block (.sr (.ui rfl rfl rfl (.an rfl (.condD rfl (fun h14 => ?_) (fun h14 => ?_)))))))))))
 ·refine .sm rfl (.q (.loadAs (vs := ptC y) rfl ag_37 (by repeat' constructor) (by simp [ptC]) rfl) rfl (.m rfl (.oq (.c Tryz.func119 [_, _, _] (rcreate_spec x τ y zx p hy N ho hN)) ?_)))
  rintro v L' ⟨a4, c4, rfl, rfl⟩
  refine .an rfl (.ret (.blk_r (.then_r ?_)))
  have hc : partZ τ y zx = createZ τ y zx := by unfold partZ; rw [if_pos h14]
  refine .rfCast (x := x) (τ' := (partZ τ y zx).1) (by repeat' constructor) (by rw [hc]) (.slCast (T := 150) (sz := 3) (m' := (partZ τ y zx).2.length) (xs' := (partZ τ y zx).2.flatMap evC) (by repeat' constructor) (by (rw [hc]; try rfl)) (by (rw [hc]; try rfl)) ?_)
  exact .dn rfl rfl ⟨_, _, by (rw [hc]; try rfl), rfl⟩
 refine .sr (.ui rfl rfl rfl (.an rfl (.condD rfl (fun h20 => ?_) (fun h20 => ?_))))
 ·refine .sm rfl (.q (.loadAs (vs := ptC y) rfl ag_37 (by repeat' constructor) (by simp [ptC]) rfl) rfl (.m rfl (.oq (.c Tryz.func120 [_, _, _] (rerase_spec x τ y zx p hy N ho hN)) ?_)))
  rintro v L' ⟨a6, c6, rfl, rfl⟩
  refine .an rfl (.ret (.blk_r (.then_r ?_)))
  have hc : partZ τ y zx = eraseZ τ y zx := by unfold partZ; rw [if_neg h14, if_pos h20]
  refine .rfCast (x := x) (τ' := (partZ τ y zx).1) (by repeat' constructor) (by rw [hc]) (.slCast (T := 150) (sz := 3) (m' := (partZ τ y zx).2.length) (xs' := (partZ τ y zx).2.flatMap evC) (by repeat' constructor) (by (rw [hc]; try rfl)) (by (rw [hc]; try rfl)) ?_)
  exact .dn rfl rfl ⟨_, _, by (rw [hc]; try rfl), rfl⟩
 refine .sr (.ui rfl rfl rfl (.an rfl (.condD rfl (fun h26 => ?_) (fun h26 => ?_))))
 ·refine .sm rfl (.ui rfl rfl rfl (.nt (.condD rfl (fun h29 => ?_) (fun h29 => ?_))))
  ·obtain ⟨k, hk, hpk, hkp⟩ := place_get (l := τ.nodes) h29
   have hpz : placeZ τ y.path = k := hpk
   rw [hpz]
   refine .rtOpen (x := x) (τ := τ) (by repeat' constructor) fun an cn as1 cs l hl => ?_
   have hll := nds_len hl
   have hkl : k < l.length := by omega
   have hlk : l[k].1 = y.path := by have := nds_get hl hkl; rw [← hkp]; simp only [this]
   refine .slShape (T := 129) (sz := 12) (v := .slice an l.length cn) (xs := l.flatMap rnC) (by repeat' constructor) (by omega) fun bn bn' e0 mbn _ => ?_
   simp only [Value.slice.injEq, true_and] at e0
   obtain ⟨rfl, rfl⟩ := e0
   refine .seq (.draw [9] [[0, 1, 2, 3, 4, 5, 6, 7, 8, 9]] mixed (by kernel_rfl) (.g0 (.mv rfl rfl (.nf rfl rfl rfl fo_87_0 (.kv rfl (.ld rfl ag_73) (.mv rfl rfl (.kv rfl (.fieldAddr rfl fo_37_2) (.kv rfl (.ld rfl ag_9) (.kv rfl (.indexAddr rfl rfl el_73 (by omega)) (.kv rfl (.fieldAddr rfl fo_129_1) (.hh rfl (.storeRd (sz := 12) (j := k * 12 + 1) rfl rfl ?hv33 sz_9 ?ho34 ?hi35) ?_)))))))))))
   case hv33 => first | rfl | assumption
   case ho34 => omega
   case hi35 => omega
   rintro v L' rfl
   refine D.ph (.fin (.slCast (T := 129) (sz := 12) (m' := l.length) (xs' := (l.set k (l[k].1, (l[k].2.1, { l[k].2.2 with data := y.data }))).flatMap rnC) (by repeat' constructor) rfl (flatMap_set (f := rnC) (sz := 12) (fun _ => rfl) (by simpa using hkl) (by decide) (by rfl)) (.then_n (.seq (.draw [10] [[0, 1, 2, 3, 4, 5, 6, 7, 8, 9, 10]] mixed (by kernel_rfl) (.g0 (.mv rfl rfl (.nf rfl rfl rfl fo_87_0 (.kv rfl (.ld rfl ag_73) (.mv rfl rfl (.kv rfl (.fieldAddr rfl fo_37_5) (.kv rfl (.ld rfl ag_3) (.kv rfl (.indexAddr rfl rfl el_73 (by omega)) (.kv rfl (.fieldAddr rfl fo_129_3) (.kv rfl (.fieldAddr rfl fo_92_3) (.hh rfl (.storeRd (sz := 12) (j := k * 12 + 6) rfl rfl ?hv46 sz_3 ?ho47 ?hi48) ?_))))))))))))))))
   case hv46 => first | rfl | assumption
   case ho47 => omega
   case hi48 => omega
   rintro v L' rfl
   refine D.ph (.fin (.slCast (T := 129) (sz := 12) (m' := l.length) (xs' := ((l.set k (l[k].1, (l[k].2.1, { l[k].2.2 with data := y.data }))).set k (l[k].1, (l[k].2.1, { l[k].2.2 with data := y.data, st := { l[k].2.2.st with ver := y.num } }))).flatMap rnC) (by repeat' constructor) rfl (flatMap_set (f := rnC) (sz := 12) (fun _ => rfl) (by simpa using hkl) (by decide) (by rw [List.getElem_set_self]; rfl)) ?_))
   rw [List.set_set]
   refine .then_n (.sm rfl (.nf rfl fo_87_0 (.u (.ld rfl ag_73) (.m rfl (.m rfl (.q (.indexAddr rfl rfl el_73 (by omega)) rfl (.u (.fieldAddr rfl fo_129_3) (.u (.fieldAddr rfl fo_92_1) (.oq (.storeRd (sz := 12) (j := k * 12 + 4) rfl rfl ?hv58 sz_3 ?ho59 ?hi60) ?_)))))))))
   case hv58 => first | rfl | assumption
   case ho59 => omega
   case hi60 => omega
   rintro v L' rfl
   refine .nil (.slCast (T := 129) (sz := 12) (m' := l.length) (xs' := ((l.set k (l[k].1, (l[k].2.1, { l[k].2.2 with data := y.data, st := { l[k].2.2.st with ver := y.num } }))).set k (l[k].1, (l[k].2.1, setN y.data y.num zx l[k].2.2))).flatMap rnC) (by repeat' constructor) rfl (flatMap_set (f := rnC) (sz := 12) (fun _ => rfl) (by simpa using hkl) (by decide) (by rw [List.getElem_set_self]; rfl)) ?_)
   rw [List.set_set]
   refine .bigSet (y := (l[k].1, (l[k].2.1, setN y.data y.num zx l[k].2.2))) hkl (by rfl) (by repeat' constructor) (.rtFold (x := x) (τ := ({ τ with nodes := amod τ.nodes y.path (setN y.data y.num zx) } : Tr)) (l := (l.set k (l[k].1, (l[k].2.1, setN y.data y.num zx l[k].2.2)))) (nds_mod hl hnd hkl hlk (setN y.data y.num zx) rfl) (by repeat' constructor) rfl (by simp) rfl rfl rfl (.then_n (.sr (.u (.fieldAddr rfl fo_37_1) (.u (.ld rfl ag_9) (.m rfl (.q (.build (us := [(0, _), (1, _), (2, _)]) fl_150 ze_150 rfl rfl (by simp [isCell])) rfl (.oq (.buildSlice (vs := [_]) el_30 ze_150 rfl rfl rfl rfl (by first | (simp [Value.cells]; done) | (intro v hv; simp only [List.mem_cons, List.not_mem_nil, or_false] at hv; (repeat (first | (subst hv; rfl) | (rcases hv with hv | hv; (subst hv; rfl)))))) (by decide)) ?_))))))))
   rintro v L' ⟨bo, rfl, rfl⟩
   refine .a rfl (.nil (.slMakeN 3 1 (b := bo) (xs := ([(3, (y.path, zx))] : List Ev).flatMap evC) (by repeat' constructor) rfl rfl (.then_n (.ret (.blk_r (.then_r ?_))))))
   have hc : partZ τ y zx = (({ τ with nodes := amod τ.nodes y.path (setN y.data y.num zx) } : Tr), [(3, (y.path, zx))]) := by unfold partZ; rw [if_neg h14, if_neg h20, if_pos ⟨h26, place_iff.1 h29⟩]
   refine .rfCast (x := x) (τ' := (partZ τ y zx).1) (by repeat' constructor) (by rw [hc]) (.slCast (T := 150) (sz := 3) (m' := (partZ τ y zx).2.length) (xs' := (partZ τ y zx).2.flatMap evC) (by repeat' constructor) (by (rw [hc]; try rfl)) (by (rw [hc]; try rfl)) ?_)
   exact .dn rfl rfl ⟨_, _, by (rw [hc]; try rfl), rfl⟩
  refine .skip (.blk_n (.then_n (.sr (.an rfl (.ret (.add (slR_nil 150 3) ?_))))))
  have hc : partZ τ y zx = (τ, []) := by unfold partZ; rw [if_neg h14, if_neg h20, if_neg (fun g => h29 (place_iff.2 g.2)), if_neg (fun g => h29 (place_iff.2 g.2))]
  refine .rfCast (x := x) (τ' := (partZ τ y zx).1) (by repeat' constructor) (by rw [hc]) (.slCast (T := 150) (sz := 3) (m' := (partZ τ y zx).2.length) (xs' := (partZ τ y zx).2.flatMap evC) (by repeat' constructor) (by (rw [hc]; try rfl)) (by (rw [hc]; try rfl)) ?_)
  exact .dn rfl rfl ⟨_, _, by (rw [hc]; try rfl), rfl⟩
 refine .sr (.ui rfl rfl rfl (.an rfl (.condD rfl (fun h63 => ?_) (fun h63 => ?_))))
 ·refine .sm rfl (.ui rfl rfl rfl (.nt (.condD rfl (fun h66 => ?_) (fun h66 => ?_))))
  ·obtain ⟨k, hk, hpk, hkp⟩ := place_get (l := τ.nodes) h66
   have hpz : placeZ τ y.path = k := hpk
   rw [hpz]
   refine .rtOpen (x := x) (τ := τ) (by repeat' constructor) fun an cn as1 cs l hl => ?_
   have hll := nds_len hl
   have hkl : k < l.length := by omega
   have hlk : l[k].1 = y.path := by have := nds_get hl hkl; rw [← hkp]; simp only [this]
   refine .slShape (T := 129) (sz := 12) (v := .slice an l.length cn) (xs := l.flatMap rnC) (by repeat' constructor) (by omega) fun bn bn' e0 mbn _ => ?_
   simp only [Value.slice.injEq, true_and] at e0
   obtain ⟨rfl, rfl⟩ := e0
   refine .seq (.draw [7, 10] [[0, 1, 2, 3, 4, 5, 6, 7], [8, 9, 10]] mixed (by kernel_rfl) (.go [ptc bx _ _, ptc x _ _] (by repeat' constructor) (.k rfl (.move rfl) (.k rfl (.nilp rfl) (.k rfl (.fieldAddr rfl fo_87_0) (.k rfl (.ld rfl ag_73) (.k rfl (.move rfl) (.kv rfl (.fieldAddr rfl fo_37_3) (.kv rfl (.ld rfl ag_34) (.hh rfl (.c Tryz.func110 [_] (rrows_spec y.aclV y.acl p hy.acl hfew)) ?_))))))))))
   rintro v L' ⟨⟨a15, c15, rfl⟩, rfl⟩
   refine D.ph (.g0 (.kv rfl (.indexAddr rfl rfl el_73 (by omega)) (.kv rfl (.fieldAddr rfl fo_129_2) (.hh rfl (.storeRd (sz := 12) (j := k * 12 + 2) rfl rfl ?hv81 sz_34 ?ho82 ?hi83) ?_))))
   case hv81 => first | rfl | assumption
   case ho82 => omega
   case hi83 => omega
   rintro v L' rfl
   refine D.ph (.fin (.slCast (T := 129) (sz := 12) (m' := l.length) (xs' := (l.set k (l[k].1, (.slice a15 y.acl.length c15, { l[k].2.2 with acl := y.acl }))).flatMap rnC) (by repeat' constructor) rfl (flatMap_set (f := rnC) (sz := 12) (fun _ => rfl) (by simpa using hkl) (by decide) (by rfl)) (.then_n (.draw [10] [[0, 1, 2, 3, 4, 5, 6, 7, 8, 9, 10]] mixed (by kernel_rfl) (.g0 (.mv rfl rfl (.nf rfl rfl rfl fo_87_0 (.kv rfl (.ld rfl ag_73) (.mv rfl rfl (.kv rfl (.fieldAddr rfl fo_37_5) (.kv rfl (.ld rfl ag_3) (.kv rfl (.indexAddr rfl rfl el_73 (by omega)) (.kv rfl (.fieldAddr rfl fo_129_3) (.kv rfl (.fieldAddr rfl fo_92_5) (.hh rfl (.storeRd (sz := 12) (j := k * 12 + 8) rfl rfl ?hv94 sz_3 ?ho95 ?hi96) ?_)))))))))))))))
   case hv94 => first | rfl | assumption
   case ho95 => omega
   case hi96 => omega
   rintro v L' rfl
   refine D.ph (.fin (.slCast (T := 129) (sz := 12) (m' := l.length) (xs' := ((l.set k (l[k].1, (.slice a15 y.acl.length c15, { l[k].2.2 with acl := y.acl }))).set k (l[k].1, (.slice a15 y.acl.length c15, aclN y.acl y.num l[k].2.2))).flatMap rnC) (by repeat' constructor) rfl (flatMap_set (f := rnC) (sz := 12) (fun _ => rfl) (by simpa using hkl) (by decide) (by rw [List.getElem_set_self]; rfl)) ?_))
   rw [List.set_set]
   refine .toRd (v := .slice a15 y.acl.length c15) (by repeat' constructor) (.bigRep (l[k].1, (.slice a15 y.acl.length c15, aclN y.acl y.num l[k].2.2)) hkl (p := rdO 2 (.slice a15 y.acl.length c15) y.acl.length (y.acl.flatMap acC)) rfl (by repeat' constructor) (.rtFold (x := x) (τ := ({ τ with nodes := amod τ.nodes y.path (aclN y.acl y.num) } : Tr)) (l := (l.set k (l[k].1, (.slice a15 y.acl.length c15, aclN y.acl y.num l[k].2.2)))) (nds_mod hl hnd hkl hlk (aclN y.acl y.num) rfl) (by repeat' constructor) rfl (by simp) rfl rfl rfl (.blk_n (.then_n (.sr (.an rfl (.ret (.add (slR_nil 150 3) ?_))))))))
   have hc : partZ τ y zx = (({ τ with nodes := amod τ.nodes y.path (aclN y.acl y.num) } : Tr), []) := by unfold partZ; rw [if_neg h14, if_neg h20, if_neg (fun g => h26 g.1), if_pos ⟨h63, place_iff.1 h66⟩]
   refine .rfCast (x := x) (τ' := (partZ τ y zx).1) (by repeat' constructor) (by rw [hc]) (.slCast (T := 150) (sz := 3) (m' := (partZ τ y zx).2.length) (xs' := (partZ τ y zx).2.flatMap evC) (by repeat' constructor) (by (rw [hc]; try rfl)) (by (rw [hc]; try rfl)) ?_)
   exact .dn rfl rfl ⟨_, _, by (rw [hc]; try rfl), rfl⟩
  refine .skip (.blk_n (.then_n (.sr (.an rfl (.ret (.add (slR_nil 150 3) ?_))))))
  have hc : partZ τ y zx = (τ, []) := by unfold partZ; rw [if_neg h14, if_neg h20, if_neg (fun g => h26 g.1), if_neg (fun g => h66 (place_iff.2 g.2))]
  refine .rfCast (x := x) (τ' := (partZ τ y zx).1) (by repeat' constructor) (by rw [hc]) (.slCast (T := 150) (sz := 3) (m' := (partZ τ y zx).2.length) (xs' := (partZ τ y zx).2.flatMap evC) (by repeat' constructor) (by (rw [hc]; try rfl)) (by (rw [hc]; try rfl)) ?_)
  exact .dn rfl rfl ⟨_, _, by (rw [hc]; try rfl), rfl⟩
 refine .skip (.blk_n (.then_n (.sr (.an rfl (.ret (.add (slR_nil 150 3) ?_))))))
 have hc : partZ τ y zx = (τ, []) := by unfold partZ; rw [if_neg h14, if_neg h20, if_neg (fun g => h26 g.1), if_neg (fun g => h63 g.1)]
 refine .rfCast (x := x) (τ' := (partZ τ y zx).1) (by repeat' constructor) (by rw [hc]) (.slCast (T := 150) (sz := 3) (m' := (partZ τ y zx).2.length) (xs' := (partZ τ y zx).2.flatMap evC) (by repeat' constructor) (by (rw [hc]; try rfl)) (by (rw [hc]; try rfl)) ?_)
 exact .dn rfl rfl ⟨_, _, by (rw [hc]; try rfl), rfl⟩
theorem rs_cells (z : Int × (Int × Bs)) : ∀ y ∈ (Value.agg (rsC z).toArray).cells.toList, isCell y = true := by
 intro v hv
 simp only [Value.cells, rsC, List.mem_cons, List.not_mem_nil, or_false] at hv
 rcases hv with rfl | rfl | rfl <;> rfl
theorem rsl_cells (l : SsM) : ∀ y ∈ l.flatMap rsC, isCell y = true := by
 intro y hy
 obtain ⟨a, -, h⟩ := List.mem_flatMap.1 hy
 simp only [rsC, List.mem_cons, List.not_mem_nil, or_false] at h
 rcases h with rfl | rfl | rfl <;> rfl
theorem rdrop_spec (x : Nat) (τ : Tr) (id : Int) (hN : τ.sess.length ≤ 1073741824) : Fn Tryz.prog 80 #[vptr x, vint id] [refR x τ] fun v L => v = .tuple #[] ∧ L = [refR x (dropS τ id)] := by
 refine Fn.intro Tryz.func80 rfl rfl fun F W => ?_
 refine .rtOpen (x := x) (τ := τ) (by repeat' constructor) fun an cn as1 cs l hl => (.add (slR_nil 127 3) (.sr (.an rfl (.seq (.sr (.an rfl (.block (.loopK (ι := Nat × Value) (fun q E => (5, vint q.1) :: (4, q.2) :: E) (fun q => [rsR q.2 ((τ.sess.take q.1).filter fun w => !decide (w.1 = id))]) (fun q => q.1 ≤ τ.sess.length ∧ ∃ a c, q.2 = .slice a ((τ.sess.take q.1).filter fun w => !decide (w.1 = id)).length c) (fun q => τ.sess.length - q.1) (0, .slice none 0 0) (ts := [0, 1]) (.cons rfl (.cons rfl (.nil))) (⟨Nat.zero_le _, none, 0, rfl⟩) ⟨rfl, rfl, rfl, rfl, trivial⟩ (by repeat' constructor) ?_))))))))
 rintro ⟨i, u⟩ ⟨hi, au, cu, hu⟩
 dsimp only
 dsimp only at hi hu
 subst hu
 have hfl := List.length_filter_le (fun w : Int × (Int × Bs) => !decide (w.1 = id)) (τ.sess.take i)
 rw [List.length_take] at hfl
 refine .seq (.sm rfl (.m rfl (.nf rfl fo_87_1 (.u (.ld rfl ag_59) (.q (.slen rfl Tryz.underlying59 rfl) rfl (.ui rfl rfl rfl (.nt (.condD rfl (fun h12 => ?_) (fun h12 => ?_)))))))))
 ·have hi2 : i < τ.sess.length := by omega
  refine .slShape (T := 127) (sz := 3) (v := .slice as1 τ.sess.length cs) (xs := τ.sess.flatMap rsC) (by repeat' constructor) (by omega) fun bs bs' e0 mbs _ => ?_
  simp only [Value.slice.injEq, true_and] at e0
  obtain ⟨rfl, rfl⟩ := e0
  refine .sk (.seq (.block (.sm rfl (.nf rfl fo_87_1 (.u (.ld rfl ag_59) (.m rfl (.q (.indexAddr rfl rfl el_59 (by omega)) rfl (.u (.fieldAddr rfl fo_127_0) (.q (.loadRd (sz := 3) (j := i * 3 + 0) (p := rsR _ τ.sess) rfl ag_3 (by repeat' constructor) (fun h hp => slR_rd hp) (by omega) ((rs_cell (l := τ.sess) (i := i) (k := 0) (by omega) (by decide)).trans rfl)) rfl (.m rfl (.ui rfl rfl rfl (.nt (.condN rfl (fun h24 => ?_) (fun h24 => ?_))))))))))))))
  ·refine .region (.m rfl (.m rfl (.nf rfl fo_87_1 (.u (.ld rfl ag_59) (.m rfl (.q (.indexAddr rfl rfl el_59 (by omega)) rfl (.q (.loadRdA (sz := 3) (j := i * 3) (k := 3) (p := rsR _ τ.sess) (vs := rsC τ.sess[i]) rfl ag_127 (by repeat' constructor) (fun h hp => slR_rd hp) (by omega) (by omega) (by omega) (flatMap_at (f := rsC) (sz := 3) (fun _ _ => rfl) (by omega))) rfl (.oq (.buildSlice (vs := [_]) el_59 ze_127 rfl rfl rfl rfl (by first | (simp [Value.cells]; done) | (intro v hv; simp only [List.mem_cons, List.not_mem_nil, or_false] at hv; (repeat (first | (subst hv; rfl) | (rcases hv with hv | hv; (subst hv; rfl)))))) (by decide)) ?_))))))))
   rintro v L' ⟨b5_8, rfl, rfl⟩
   refine .oq (.append1 rfl rfl rfl el_59 ze_127 rfl rfl ?c30 ?c31 (Nat.le_refl _) ?c32 (by decide)) ?_
   case c30 => first | exact rs_cells _ | (simp only [List.map_cons, List.map_nil, List.flatten_cons, List.flatten_nil, List.append_nil]; exact rs_cells _)
   case c31 => rfl
   case c32 => first | omega | (simp; omega)
   rintro v L' ⟨⟨a5_9, c5_9, rfl⟩, rfl⟩
   refine .a rfl (.nil (.blk_n (.then_n (.region (.m rfl (.q (.add rfl rfl (by omega)) rfl (.an rfl ?_)))))))
   have hst : ((τ.sess.take (i + 1)).filter fun w => !decide (w.1 = id)) = ((τ.sess.take i).filter fun w => !decide (w.1 = id)) ++ [τ.sess[i]] := by rw [List.take_succ_eq_append_getElem hi2, List.filter_append]; simp [show ¬ τ.sess[i].1 = id from h24]
   rw [show ((τ.sess.take i).filter fun w => !decide (w.1 = id)).length + 1 = ((τ.sess.take (i + 1)).filter fun w => !decide (w.1 = id)).length by rw [hst, List.length_append]; rfl]
   refine .slCast (T := 127) (sz := 3) (m' := ((τ.sess.take (i + 1)).filter fun w => !decide (w.1 = id)).length) (xs' := ((τ.sess.take (i + 1)).filter fun w => !decide (w.1 = id)).flatMap rsC) (by repeat' constructor) rfl (by rw [hst, List.flatMap_append]; simp; rfl) ?_
   exact .rk ((i + 1, .slice a5_9 ((τ.sess.take (i + 1)).filter fun w => !decide (w.1 = id)).length c5_9)) (⟨by dsimp only; omega, _, _, rfl⟩) (by dsimp only; omega) ⟨rfl, rfl, rfl, rfl, trivial⟩
  refine .skip (.blk_n (.then_n (.region (.m rfl (.q (.add rfl rfl (by omega)) rfl (.an rfl ?_))))))
  have hst : ((τ.sess.take (i + 1)).filter fun w => !decide (w.1 = id)) = ((τ.sess.take i).filter fun w => !decide (w.1 = id)) := by rw [List.take_succ_eq_append_getElem hi2, List.filter_append]; simp [show τ.sess[i].1 = id from h24]
  rw [← hst]
  exact .rk ((i + 1, .slice au ((τ.sess.take (i + 1)).filter fun w => !decide (w.1 = id)).length cu)) (⟨by dsimp only; omega, _, _, rfl⟩) (by dsimp only; omega) ⟨rfl, rfl, rfl, rfl, trivial⟩
 have hii : i = τ.sess.length := by omega
 subst hii
 rw [List.take_length]
 refine .exit (.then_e (.then_e (.blk_e (.then_n (.region (.m rfl (.m rfl (.nf rfl fo_87_1 (.st rfl rfl rfl sz_59 ?_)))))))))
 refine .nil (.done_n (.rtFold (x := x) (τ := (dropS τ id)) (l := l) hl (by repeat' constructor) rfl rfl rfl rfl rfl ?_))
 exact .vv
theorem ropen_spec (x : Nat) (τ : Tr) (id n : Int) (s : Bs) (N : Nat) (ho : τ.Ok N) (hN : τ.sess.length ≤ 1073741824) : Fn Tryz.prog 78 #[vptr x, .agg (rsC (id, (n, s))).toArray] [refR x τ] fun v L => v = .tuple #[] ∧ L = [refR x (openS τ id n s)] := by
 refine Fn.intro Tryz.func78 rfl rfl fun F W => ?_
 have hsl : (dropS τ id).sess.length ≤ τ.sess.length := List.length_filter_le _ _
 refine .sr (.oq (.box rfl) ?_)
 rintro v L' ⟨bz, rfl, rfl⟩
 refine .nil (.ptCast (b := bz) (l' := rsC (id, (n, s))) (by repeat' constructor) rfl (.then_n (.sm rfl (.u (.fieldAddr rfl fo_127_0) (.u (.ld rfl ag_3) (.cv Tryz.func80 [_, _] (rdrop_spec x τ id hN) ?_))))))
 refine .nt (.seq (.rtOpen (x := x) (τ := (dropS τ id)) (by repeat' constructor) fun an cn as1 cs l hl => (.region (.slForm (T := 127) (sz := 3) (a := as1) (m := (dropS τ id).sess.length) (c := cs) (by repeat' constructor) (fun e0 e1 e2 => ?_) (fun bs e0 e1 => ?_)))))
 ·subst e0
  refine .an rfl (.seq (.joinK (ι := Nat) (fun q E => (4, vint q) :: E) (fun q => []) (fun q => q ≤ (dropS τ id).sess.length ∧ (∀ w ∈ ((dropS τ id).sess.take q), w.1 < id) ∧ ∀ h : q < (dropS τ id).sess.length, ¬ (dropS τ id).sess[q].1 < id) (pre := []) (ts := [0, 3]) (.cons rfl (.cons rfl (.nil))) (by repeat' constructor) ?_ ?_))
  ·refine .block (.loopK (ι := Nat) (fun q E => (4, vint q) :: E) (fun q => []) (fun q => q ≤ (dropS τ id).sess.length ∧ ∀ w ∈ ((dropS τ id).sess.take q), w.1 < id) (fun q => (dropS τ id).sess.length - q) (0) (ts := [0, 3]) (.cons rfl (.cons rfl (.nil))) (⟨Nat.zero_le _, by simp⟩) ⟨rfl, rfl, rfl, trivial⟩ (by repeat' constructor) ?_)
   rintro i ⟨hi, hlow⟩
   refine .seq (.seq (.draw [] [[0, 1, 2, 3, 4, 5, 6, 7, 8, 9, 10, 11, 12, 13, 14, 15, 16, 17, 18, 19]] mixed (by kernel_rfl) (.g0 (.mv rfl rfl (.mv rfl rfl (.nf rfl rfl rfl fo_87_1 (.kv rfl (.ld rfl ag_59) (.kv rfl (.slen rfl Tryz.underlying59 rfl) (.kv rfl (.int rfl rfl rfl) (.mv rfl rfl (.dec (t := 17) rfl (fun h3_17 => ?_) (fun h3_17 => ?_))))))))))))
   ·exfalso; omega
   refine D.kDF (t := 16) rfl h3_17 (.gz rfl (.gz rfl (.gz rfl (.gz rfl (.gz rfl (.gz rfl (.gz rfl (.gz rfl (.gz rfl (.gz rfl (.gz rfl (.kv rfl (.pickF rfl rfl) (.pf (.condF rfl (.exit (.then_e (.then_e (.blk_e (.then_n ?_)))))))))))))))))))
   exact .mk (i) (⟨hi, hlow, fun h => absurd h (by omega)⟩) ⟨rfl, rfl, rfl, trivial⟩
  rintro i ⟨hi, hlow, hhigh⟩
  refine .seq (.add (slR_nil 127 3) (.region (.an rfl (.seq ?_))))
  have hadr : (none : Option Addr) = none ∨ ∃ b off, (none : Option Addr) = some (⟨b, off, none⟩ : Addr) := .inl rfl
  refine .region (.m rfl (.m rfl (.nf rfl fo_87_1 (.u (.ld rfl ag_59) (.m rfl (.q (.to (v' := .slice (none : Option Addr) i cs) (.slTo (j := (i : Int)) rfl el_59 rfl (by omega) hadr) (by rw [Int.toNat_natCast])) rfl (.oq (.append (n := 0) (m := i) (ys := ((dropS τ id).sess.take i).flatMap rsC) (p := slR 127 3 (.slice (none : Option Addr) (dropS τ id).sess.length cs) (dropS τ id).sess.length ((dropS τ id).sess.flatMap rsC)) rfl rfl rfl el_59 (.inl ⟨_, Tryz.underlying59⟩) ze_127 rfl rfl ?hc24 ?hr25 ?hb26 (by decide)) ?_)))))))
  case hc24 => exact rsl_cells _
  case hr25 => exact fun h hp => by have := slR_rd_to hi hp; rw [(flat_take (f := rsC) (sz := 3) (fun _ => rfl) _ i).1] at this; exact this
  case hb26 => omega
  rintro v L' ⟨⟨a6, c6, rfl⟩, rfl⟩; rw [Nat.zero_add, List.nil_append]
  refine .an rfl (.sm rfl (.q (.loadAs (vs := rsC (id, (n, s))) rfl ag_127 (by repeat' constructor) (by simp [rsC]) rfl) rfl (.oq (.buildSlice (vs := [_]) el_59 ze_127 rfl rfl rfl rfl (by first | (simp [Value.cells]; done) | (intro v hv; simp only [List.mem_cons, List.not_mem_nil, or_false] at hv; (repeat (first | (subst hv; rfl) | (rcases hv with hv | hv; (subst hv; rfl)))))) (by decide)) ?_)))
  rintro v L' ⟨b7_2, rfl, rfl⟩
  refine .oq (.append1 rfl rfl rfl el_59 ze_127 rfl rfl ?c32 ?c33 (Nat.le_refl _) ?c34 (by decide)) ?_
  case c32 => first | exact rs_cells _ | (simp only [List.map_cons, List.map_nil, List.flatten_cons, List.flatten_nil, List.append_nil]; exact rs_cells _)
  case c33 => rfl
  case c34 => first | omega | (simp; omega)
  rintro v L' ⟨⟨a7_3, c7_3, rfl⟩, rfl⟩
  refine .a rfl (.nil (.slCast (T := 127) (sz := 3) (m' := i + 1) (xs' := (((dropS τ id).sess.take i) ++ [(id, (n, s))]).flatMap rsC) (by repeat' constructor) rfl (by rw [List.flatMap_append]; simp; rfl) (.then_n (.region (.m rfl (.m rfl (.m rfl (.nf rfl fo_87_1 (.u (.ld rfl ag_59) (.m rfl (.q (.slFromO (i := (i : Int)) rfl el_59 rfl (by omega)) rfl (.oq (.append (n := i + 1) (m := (dropS τ id).sess.length - (i : Int).toNat) (ys := ((dropS τ id).sess.drop i).flatMap rsC) (p := slR 127 3 (.slice (none : Option Addr) (dropS τ id).sess.length cs) (dropS τ id).sess.length ((dropS τ id).sess.flatMap rsC)) rfl rfl rfl el_59 (.inl ⟨_, Tryz.underlying59⟩) ze_127 rfl rfl ?hc44 ?hr45 ?hb46 (by decide)) ?_))))))))))))
  case hc44 => exact rsl_cells _
  case hr45 => exact fun h hp => by rw [Int.toNat_natCast]; have := slR_rd_from hi hp; rw [(flat_take (f := rsC) (sz := 3) (fun _ => rfl) _ i).2] at this; exact this
  case hb46 => omega
  rintro v L' ⟨⟨a8, c8, rfl⟩, rfl⟩
  refine .nf rfl fo_87_1 (.st rfl rfl rfl sz_59 ?_)
  refine .nil (.done_n ?_)
  have hfin : ((dropS τ id).sess.take i) ++ [(id, (n, s))] ++ ((dropS τ id).sess.drop i) = (openS τ id n s).sess := by rw [sset_at hi hlow hhigh (fun w hw => by have := (List.mem_filter.1 hw).2; simpa using this), ← open_drop ho id n s]; rfl
  have hlen : i + 1 + ((dropS τ id).sess.length - (i : Int).toNat) = (openS τ id n s).sess.length := by rw [← hfin]; simp; omega
  refine .rtFold (x := x) (τ := (openS τ id n s)) (l := l) hl (by repeat' constructor) rfl rfl rfl hlen (by rw [← List.flatMap_append, hfin]) ?_
  exact .vv
 subst e0
 refine .an rfl (.seq (.joinK (ι := Nat) (fun q E => (4, vint q) :: E) (fun q => []) (fun q => q ≤ (dropS τ id).sess.length ∧ (∀ w ∈ ((dropS τ id).sess.take q), w.1 < id) ∧ ∀ h : q < (dropS τ id).sess.length, ¬ (dropS τ id).sess[q].1 < id) (pre := []) (ts := [0, 3]) (.cons rfl (.cons rfl (.nil))) (by repeat' constructor) ?_ ?_))
 ·refine .block (.loopK (ι := Nat) (fun q E => (4, vint q) :: E) (fun q => []) (fun q => q ≤ (dropS τ id).sess.length ∧ ∀ w ∈ ((dropS τ id).sess.take q), w.1 < id) (fun q => (dropS τ id).sess.length - q) (0) (ts := [0, 3]) (.cons rfl (.cons rfl (.nil))) (⟨Nat.zero_le _, by simp⟩) ⟨rfl, rfl, rfl, trivial⟩ (by repeat' constructor) ?_)
  rintro i ⟨hi, hlow⟩
  refine .seq (.seq (.draw [] [[0, 1, 2, 3, 4, 5, 6, 7, 8, 9, 10, 11, 12, 13, 14, 15, 16, 17, 18, 19]] mixed (by kernel_rfl) (.g0 (.mv rfl rfl (.mv rfl rfl (.nf rfl rfl rfl fo_87_1 (.kv rfl (.ld rfl ag_59) (.kv rfl (.slen rfl Tryz.underlying59 rfl) (.kv rfl (.int rfl rfl rfl) (.mv rfl rfl (.dec (t := 17) rfl (fun h3_17 => ?_) (fun h3_17 => ?_))))))))))))
  ·have hi2 : i < (dropS τ id).sess.length := by omega
   refine D.kDT (t := 16) rfl h3_17 (.gv rfl (.move rfl) (.gv rfl (.nilp rfl) (.gv rfl (.fieldAddr rfl fo_87_1) (.gv rfl (.ld rfl ag_59) (.gv rfl (.move rfl) (.gv rfl (.indexAddr rfl rfl el_59 (by omega)) (.gv rfl (.fieldAddr rfl fo_127_0) (.gv rfl (.loadRd (sz := 3) (j := i * 3 + 0) (p := rsR _ (dropS τ id).sess) rfl ag_3 (by repeat' constructor) (fun h hp => slR_rd hp) (by omega) ((rs_cell (l := (dropS τ id).sess) (i := i) (k := 0) (by omega) (by decide)).trans rfl)) (.gv rfl (.fieldAddr rfl fo_127_0) (.gv rfl (.load rfl ag_3 (by repeat' constructor) rfl) (.gv rfl (.int rfl rfl rfl) (.kv rfl (.pickT rfl rfl) (.pf (.condD rfl (fun h29 => ?_) (fun h29 => ?_)))))))))))))))
   ·refine .sk (.block (.region (.m rfl (.q (.add rfl rfl (by omega)) rfl (.a rfl (.nil (.blk_n (.then_n ?_))))))))
    exact .rk (i + 1) (⟨by omega, fun w hw => by rw [List.take_succ_eq_append_getElem hi2] at hw; rcases List.mem_append.1 hw with hw | hw; (exact hlow w hw); (rw [List.mem_singleton] at hw; rw [hw]; exact h29)⟩) (by omega) ⟨rfl, rfl, rfl, trivial⟩
   refine .exit (.then_e (.then_e (.blk_e (.then_n ?_))))
   exact .mk (i) (⟨hi, hlow, fun h => h29⟩) ⟨rfl, rfl, rfl, trivial⟩
  refine D.kDF (t := 16) rfl h3_17 (.gz rfl (.gz rfl (.gz rfl (.gz rfl (.gz rfl (.gz rfl (.gz rfl (.gz rfl (.gz rfl (.gz rfl (.gz rfl (.kv rfl (.pickF rfl rfl) (.pf (.condF rfl (.exit (.then_e (.then_e (.blk_e (.then_n ?_)))))))))))))))))))
  exact .mk (i) (⟨hi, hlow, fun h => absurd h (by omega)⟩) ⟨rfl, rfl, rfl, trivial⟩
 rintro i ⟨hi, hlow, hhigh⟩
 refine .seq (.add (slR_nil 127 3) (.region (.an rfl (.seq ?_))))
 have hadr : (some (⟨bs, 0, none⟩ : Addr)) = none ∨ ∃ b off, (some (⟨bs, 0, none⟩ : Addr)) = some (⟨b, off, none⟩ : Addr) := .inr ⟨_, _, rfl⟩
 refine .region (.m rfl (.m rfl (.nf rfl fo_87_1 (.u (.ld rfl ag_59) (.m rfl (.q (.to (v' := .slice (some (⟨bs, 0, none⟩ : Addr)) i cs) (.slTo (j := (i : Int)) rfl el_59 rfl (by omega) hadr) (by rw [Int.toNat_natCast])) rfl (.oq (.append (n := 0) (m := i) (ys := ((dropS τ id).sess.take i).flatMap rsC) (p := slR 127 3 (.slice (some (⟨bs, 0, none⟩ : Addr)) (dropS τ id).sess.length cs) (dropS τ id).sess.length ((dropS τ id).sess.flatMap rsC)) rfl rfl rfl el_59 (.inl ⟨_, Tryz.underlying59⟩) ze_127 rfl rfl ?hc83 ?hr84 ?hb85 (by decide)) ?_)))))))
 case hc83 => exact rsl_cells _
 case hr84 => exact fun h hp => by have := slR_rd_to hi hp; rw [(flat_take (f := rsC) (sz := 3) (fun _ => rfl) _ i).1] at this; exact this
 case hb85 => omega
 rintro v L' ⟨⟨a6, c6, rfl⟩, rfl⟩; rw [Nat.zero_add, List.nil_append]
 refine .an rfl (.sm rfl (.q (.loadAs (vs := rsC (id, (n, s))) rfl ag_127 (by repeat' constructor) (by simp [rsC]) rfl) rfl (.oq (.buildSlice (vs := [_]) el_59 ze_127 rfl rfl rfl rfl (by first | (simp [Value.cells]; done) | (intro v hv; simp only [List.mem_cons, List.not_mem_nil, or_false] at hv; (repeat (first | (subst hv; rfl) | (rcases hv with hv | hv; (subst hv; rfl)))))) (by decide)) ?_)))
 rintro v L' ⟨b7_2, rfl, rfl⟩
 refine .oq (.append1 rfl rfl rfl el_59 ze_127 rfl rfl ?c91 ?c92 (Nat.le_refl _) ?c93 (by decide)) ?_
 case c91 => first | exact rs_cells _ | (simp only [List.map_cons, List.map_nil, List.flatten_cons, List.flatten_nil, List.append_nil]; exact rs_cells _)
 case c92 => rfl
 case c93 => first | omega | (simp; omega)
 rintro v L' ⟨⟨a7_3, c7_3, rfl⟩, rfl⟩
 refine .a rfl (.nil (.slCast (T := 127) (sz := 3) (m' := i + 1) (xs' := (((dropS τ id).sess.take i) ++ [(id, (n, s))]).flatMap rsC) (by repeat' constructor) rfl (by rw [List.flatMap_append]; simp; rfl) (.then_n (.region (.m rfl (.m rfl (.m rfl (.nf rfl fo_87_1 (.u (.ld rfl ag_59) (.m rfl (.q (.slFromO (i := (i : Int)) rfl el_59 rfl (by omega)) rfl (.oq (.append (n := i + 1) (m := (dropS τ id).sess.length - (i : Int).toNat) (ys := ((dropS τ id).sess.drop i).flatMap rsC) (p := slR 127 3 (.slice (some (⟨bs, 0, none⟩ : Addr)) (dropS τ id).sess.length cs) (dropS τ id).sess.length ((dropS τ id).sess.flatMap rsC)) rfl rfl rfl el_59 (.inl ⟨_, Tryz.underlying59⟩) ze_127 rfl rfl ?hc103 ?hr104 ?hb105 (by decide)) ?_))))))))))))
 case hc103 => exact rsl_cells _
 case hr104 => exact fun h hp => by rw [Int.toNat_natCast]; have := slR_rd_from hi hp; rw [(flat_take (f := rsC) (sz := 3) (fun _ => rfl) _ i).2] at this; exact this
 case hb105 => omega
 rintro v L' ⟨⟨a8, c8, rfl⟩, rfl⟩
 refine .nf rfl fo_87_1 (.st rfl rfl rfl sz_59 ?_)
 refine .nil (.done_n ?_)
 have hfin : ((dropS τ id).sess.take i) ++ [(id, (n, s))] ++ ((dropS τ id).sess.drop i) = (openS τ id n s).sess := by rw [sset_at hi hlow hhigh (fun w hw => by have := (List.mem_filter.1 hw).2; simpa using this), ← open_drop ho id n s]; rfl
 have hlen : i + 1 + ((dropS τ id).sess.length - (i : Int).toNat) = (openS τ id n s).sess.length := by rw [← hfin]; simp; omega
 refine .rtFold (x := x) (τ := (openS τ id n s)) (l := l) hl (by repeat' constructor) rfl rfl rfl hlen (by rw [← List.flatMap_append, hfin]) ?_
 exact .vv
theorem rkids_spec (x : Nat) (τ : Tr) (p : Bs) (N : Nat) (ho : τ.Ok N) (hN : N ≤ 1073741824) : Fn Tryz.prog 70 #[vptr x, vstr p] [refR x τ] fun v L => (∃ a c, v = .slice a (kidsZ τ p).length c) ∧ L = [refR x τ, slR 9 1 v (kidsZ τ p).length (strs (kidsZ τ p))] := by
 refine Fn.intro Tryz.func70 rfl rfl fun F W => ?_
 refine .rtOpen (x := x) (τ := τ) (by repeat' constructor) fun an cn as1 cs l hl => ?_
 have hll := nds_len hl
 have hofew := ho.few
 refine .add (slR_nil 9 1) (.sr (.an rfl (.sr (.an rfl (.seq (.sr (.an rfl (.block (.loopK (ι := Nat × Value) (fun q E => (6, vint q.1) :: (5, q.2) :: E) (fun q => [slR 9 1 q.2 (kidsN (l.take q.1) p).length (strs (kidsN (l.take q.1) p))]) (fun q => q.1 ≤ l.length ∧ ∃ a c, q.2 = .slice a (kidsN (l.take q.1) p).length c) (fun q => l.length - q.1) (0, .slice none 0 0) (ts := [0, 1, 4]) (.cons rfl (.cons rfl (.cons rfl (.nil)))) (⟨Nat.zero_le _, none, 0, rfl⟩) ⟨rfl, rfl, rfl, rfl, rfl, trivial⟩ (by repeat' constructor) ?_)))))))))
 rintro ⟨i, u⟩ ⟨hi, au, cu, hu⟩
 dsimp only
 dsimp only at hi hu
 subst hu
 have hkl := kidsN_len (l.take i) p
 rw [List.length_take] at hkl
 refine .seq (.sm rfl (.m rfl (.nf rfl fo_87_0 (.u (.ld rfl ag_73) (.q (.slen rfl Tryz.underlying73 rfl) rfl (.ui rfl rfl rfl (.nt (.condD rfl (fun h13 => ?_) (fun h13 => ?_)))))))))
 ·have hi2 : i < l.length := by omega
  have hpi : l[i].1.length ≤ 60 := by have := nds_get hl hi2; have h2 := able_len (ho.able _ (List.getElem_mem (l := τ.nodes) (n := i) (by omega))); rw [this] at h2; exact h2
  refine .slShape (T := 129) (sz := 12) (v := .slice an l.length cn) (xs := l.flatMap rnC) (by repeat' constructor) (by omega) fun bn bn' e0 mbn _ => ?_
  simp only [Value.slice.injEq, true_and] at e0
  obtain ⟨rfl, rfl⟩ := e0
  refine .sk (.seq (.block (.sm rfl (.nf rfl fo_87_0 (.u (.ld rfl ag_73) (.m rfl (.q (.indexAddr rfl rfl el_73 (by omega)) rfl (.u (.fieldAddr rfl fo_129_0) (.q (.loadRd (sz := 12) (j := i * 12 + 0) (p := rnR _ l) rfl ag_9 (by repeat' constructor) (fun h hp => slR_rd hp) (by omega) ((rn_cell (l := l) (i := i) (k := 0) (by omega) (by decide)).trans rfl)) rfl (.u (.strne rfl rfl) (.m rfl (.ndec (t := 25) rfl (fun h5_25 => ?_) (fun h5_25 => ?_)))))))))))))
  ·refine .kNT (t := 24) rfl h5_25 (.grun (t := 25) rfl rfl rfl (.m rfl (.grun (t := 25) rfl rfl rfl (.u (.nilp rfl) (.grun (t := 25) rfl rfl rfl (.u (.fieldAddr rfl fo_87_0) (.grun (t := 25) rfl rfl rfl (.u (.ld rfl ag_73) (.grun (t := 25) rfl rfl rfl (.m rfl (.grun (t := 25) rfl rfl rfl (.q (.indexAddr rfl rfl el_73 (by omega)) rfl (.grun (t := 25) rfl rfl rfl (.u (.fieldAddr rfl fo_129_0) (.grun (t := 25) rfl rfl rfl (.q (.loadRd (sz := 12) (j := i * 12 + 0) (p := rnR _ l) rfl ag_9 (by repeat' constructor) (fun h hp => slR_rd hp) (by omega) ((rn_cell (l := l) (i := i) (k := 0) (by omega) (by decide)).trans rfl)) rfl (.grun (t := 25) rfl rfl rfl (.cv Tryz.func83 [_] (rparent_spec l[i].1 (by omega)) ?_))))))))))))))))))
   refine .grun (t := 25) rfl rfl rfl (.m rfl (.grun (t := 25) rfl rfl rfl (.u (.streq rfl rfl) (.u (.pickT rfl rfl) (.nt (.condD rfl (fun h37 => ?_) (fun h37 => ?_)))))))
   ·refine .region (.m rfl (.m rfl (.nf rfl fo_87_0 (.u (.ld rfl ag_73) (.m rfl (.q (.indexAddr rfl rfl el_73 (by omega)) rfl (.u (.fieldAddr rfl fo_129_0) (.q (.loadRd (sz := 12) (j := i * 12 + 0) (p := rnR _ l) rfl ag_9 (by repeat' constructor) (fun h hp => slR_rd hp) (by omega) ((rn_cell (l := l) (i := i) (k := 0) (by omega) (by decide)).trans rfl)) rfl (.cv Tryz.func112 [_] (rbase_spec l[i].1 (by omega)) ?_)))))))))
    refine .oq (.buildSlice1 (vs := [_]) el_54 ze_9 rfl rfl rfl rfl rfl (by decide)) ?_
    rintro v L' ⟨b6_10, rfl, rfl⟩
    refine .oq (.append1 rfl rfl rfl el_54 ze_9 rfl rfl ?c45 ?c46 (Nat.le_refl _) ?c47 (by decide)) ?_
    case c45 => (first | (simp [isCell]; done) | (simp [isCell, setAll, Value.cells]; done))
    case c46 => rfl
    case c47 => first | omega | (simp; omega)
    rintro v L' ⟨⟨a6_11, c6_11, rfl⟩, rfl⟩
    refine .a rfl (.nil (.blk_n (.then_n (.region (.m rfl (.q (.add rfl rfl (by omega)) rfl (.an rfl ?_)))))))
    have hst : (kidsN (l.take (i + 1)) p) = (kidsN (l.take i) p) ++ [baseZ l[i].1] := by unfold kidsN; rw [List.take_succ_eq_append_getElem hi2, List.filter_append, List.map_append]; simp [show ¬ l[i].1 = [47] from h5_25, show parentZ l[i].1 = p from h37]
    rw [show strs (kidsN (l.take i) p) ++ [vstr (baseZ l[i].1)] = strs (kidsN (l.take (i + 1)) p) by rw [hst]; simp [strs], show (kidsN (l.take i) p).length + 1 = (kidsN (l.take (i + 1)) p).length by rw [hst, List.length_append]; rfl]
    exact .rk ((i + 1, .slice a6_11 (kidsN (l.take (i + 1)) p).length c6_11)) (⟨by dsimp only; omega, _, _, rfl⟩) (by dsimp only; omega) ⟨rfl, rfl, rfl, rfl, rfl, trivial⟩
   refine .skip (.blk_n (.then_n (.region (.m rfl (.q (.add rfl rfl (by omega)) rfl (.an rfl ?_))))))
   have hst : (kidsN (l.take (i + 1)) p) = (kidsN (l.take i) p) := by unfold kidsN; rw [List.take_succ_eq_append_getElem hi2, List.filter_append, List.map_append]; simp; exact fun g1 g2 => h37 g2
   rw [← hst]
   exact .rk ((i + 1, .slice au (kidsN (l.take (i + 1)) p).length cu)) (⟨by dsimp only; omega, _, _, rfl⟩) (by dsimp only; omega) ⟨rfl, rfl, rfl, rfl, rfl, trivial⟩
  refine .kNF (t := 24) rfl h5_25 (.gk (.gk (.gk (.gk (.gk (.gk (.gk (.gk (.gk (.gk (.gk (.u (.pickF rfl rfl) (.nt (.condF rfl (.skip (.blk_n (.then_n (.region (.m rfl (.q (.add rfl rfl (by omega)) rfl (.an rfl ?_)))))))))))))))))))))
  have hst : (kidsN (l.take (i + 1)) p) = (kidsN (l.take i) p) := by unfold kidsN; rw [List.take_succ_eq_append_getElem hi2, List.filter_append, List.map_append]; simp; exact fun g1 _ => g1 h5_25
  rw [← hst]
  exact .rk ((i + 1, .slice au (kidsN (l.take (i + 1)) p).length cu)) (⟨by dsimp only; omega, _, _, rfl⟩) (by dsimp only; omega) ⟨rfl, rfl, rfl, rfl, rfl, trivial⟩
 have hii : i = l.length := by omega
 rw [hii, List.take_length, kidsN_eq hl]
 refine .exit (.then_e (.then_e (.blk_e (.then_n (.sm rfl (.an rfl (.ret (.rtFold (x := x) (τ := τ) (l := l) hl (by repeat' constructor) rfl rfl rfl rfl rfl ?_))))))))
 exact .dn rfl rfl ⟨⟨_, _, rfl⟩, rfl⟩
theorem rowned_spec (x : Nat) (τ : Tr) (s : Int) (N : Nat) (ho : τ.Ok N) (hN : N ≤ 1073741824) : Fn Tryz.prog 72 #[vptr x, vint s] [refR x τ] fun v L => (∃ a c, v = .slice a (ownedZ τ s).length c) ∧ L = [refR x τ, slR 9 1 v (ownedZ τ s).length (strs (ownedZ τ s))] := by
 refine Fn.intro Tryz.func72 rfl rfl fun F W => ?_
 refine .rtOpen (x := x) (τ := τ) (by repeat' constructor) fun an cn as1 cs l hl => ?_
 have hll := nds_len hl
 have hofew := ho.few
 refine .add (slR_nil 9 1) (.sr (.an rfl (.sr (.an rfl (.seq (.sr (.an rfl (.block (.loopK (ι := Nat × Value) (fun q E => (6, vint q.1) :: (5, q.2) :: E) (fun q => [slR 9 1 q.2 (ownN (l.take q.1) s).length (strs (ownN (l.take q.1) s))]) (fun q => q.1 ≤ l.length ∧ ∃ a c, q.2 = .slice a (ownN (l.take q.1) s).length c) (fun q => l.length - q.1) (0, .slice none 0 0) (ts := [0, 1, 4]) (.cons rfl (.cons rfl (.cons rfl (.nil)))) (⟨Nat.zero_le _, none, 0, rfl⟩) ⟨rfl, rfl, rfl, rfl, rfl, trivial⟩ (by repeat' constructor) ?_)))))))))
 rintro ⟨i, u⟩ ⟨hi, au, cu, hu⟩
 dsimp only
 dsimp only at hi hu
 subst hu
 have hkl := ownN_len (l.take i) s
 rw [List.length_take] at hkl
 refine .seq (.sm rfl (.m rfl (.nf rfl fo_87_0 (.u (.ld rfl ag_73) (.q (.slen rfl Tryz.underlying73 rfl) rfl (.ui rfl rfl rfl (.nt (.condD rfl (fun h13 => ?_) (fun h13 => ?_)))))))))
 ·have hi2 : i < l.length := by omega
  have hpi : l[i].1.length ≤ 60 := by have := nds_get hl hi2; have h2 := able_len (ho.able _ (List.getElem_mem (l := τ.nodes) (n := i) (by omega))); rw [this] at h2; exact h2
  refine .slShape (T := 129) (sz := 12) (v := .slice an l.length cn) (xs := l.flatMap rnC) (by repeat' constructor) (by omega) fun bn bn' e0 mbn _ => ?_
  simp only [Value.slice.injEq, true_and] at e0
  obtain ⟨rfl, rfl⟩ := e0
  refine .sk (.seq (.block (.sm rfl (.ui rfl rfl rfl (.m rfl (.ndec (t := 18) rfl (fun h5_18 => ?_) (fun h5_18 => ?_)))))))
  ·refine .kNT (t := 17) rfl h5_18 (.grun (t := 18) rfl rfl rfl (.m rfl (.grun (t := 18) rfl rfl rfl (.u (.nilp rfl) (.grun (t := 18) rfl rfl rfl (.u (.fieldAddr rfl fo_87_0) (.grun (t := 18) rfl rfl rfl (.u (.ld rfl ag_73) (.grun (t := 18) rfl rfl rfl (.m rfl (.grun (t := 18) rfl rfl rfl (.q (.indexAddr rfl rfl el_73 (by omega)) rfl (.grun (t := 18) rfl rfl rfl (.u (.fieldAddr rfl fo_129_3) (.grun (t := 18) rfl rfl rfl (.u (.fieldAddr rfl fo_92_6) (.grun (t := 18) rfl rfl rfl (.q (.loadRd (sz := 12) (j := i * 12 + 9) (p := rnR _ l) rfl ag_3 (by repeat' constructor) (fun h hp => slR_rd hp) (by omega) ((rn_cell (l := l) (i := i) (k := 9) (by omega) (by decide)).trans rfl)) rfl (.grun (t := 18) rfl rfl rfl (.m rfl (.grun (t := 18) rfl rfl rfl (.ui rfl rfl rfl (.u (.pickT rfl rfl) (.nt (.condD rfl (fun h30 => ?_) (fun h30 => ?_))))))))))))))))))))))))))
   ·refine .region (.m rfl (.m rfl (.nf rfl fo_87_0 (.u (.ld rfl ag_73) (.m rfl (.q (.indexAddr rfl rfl el_73 (by omega)) rfl (.u (.fieldAddr rfl fo_129_0) (.q (.loadRd (sz := 12) (j := i * 12 + 0) (p := rnR _ l) rfl ag_9 (by repeat' constructor) (fun h hp => slR_rd hp) (by omega) ((rn_cell (l := l) (i := i) (k := 0) (by omega) (by decide)).trans rfl)) rfl (.oq (.buildSlice1 (vs := [_]) el_54 ze_9 rfl rfl rfl rfl rfl (by decide)) ?_)))))))))
    rintro v L' ⟨b6_9, rfl, rfl⟩
    refine .oq (.append1 rfl rfl rfl el_54 ze_9 rfl rfl ?c35 ?c36 (Nat.le_refl _) ?c37 (by decide)) ?_
    case c35 => (first | (simp [isCell]; done) | (simp [isCell, setAll, Value.cells]; done))
    case c36 => rfl
    case c37 => first | omega | (simp; omega)
    rintro v L' ⟨⟨a6_10, c6_10, rfl⟩, rfl⟩
    refine .a rfl (.nil (.blk_n (.then_n (.region (.m rfl (.q (.add rfl rfl (by omega)) rfl (.an rfl ?_)))))))
    have hst : (ownN (l.take (i + 1)) s) = (ownN (l.take i) s) ++ [l[i].1] := by unfold ownN; rw [List.take_succ_eq_append_getElem hi2, List.filter_append, List.map_append]; simp [show ¬ s = 0 from h5_18, show l[i].2.2.st.own = s from h30]
    rw [show strs (ownN (l.take i) s) ++ [vstr (l[i].1)] = strs (ownN (l.take (i + 1)) s) by rw [hst]; simp [strs], show (ownN (l.take i) s).length + 1 = (ownN (l.take (i + 1)) s).length by rw [hst, List.length_append]; rfl]
    exact .rk ((i + 1, .slice a6_10 (ownN (l.take (i + 1)) s).length c6_10)) (⟨by dsimp only; omega, _, _, rfl⟩) (by dsimp only; omega) ⟨rfl, rfl, rfl, rfl, rfl, trivial⟩
   refine .skip (.blk_n (.then_n (.region (.m rfl (.q (.add rfl rfl (by omega)) rfl (.an rfl ?_))))))
   have hst : (ownN (l.take (i + 1)) s) = (ownN (l.take i) s) := by unfold ownN; rw [List.take_succ_eq_append_getElem hi2, List.filter_append, List.map_append]; simp; exact fun g1 g2 => h30 g2
   rw [← hst]
   exact .rk ((i + 1, .slice au (ownN (l.take (i + 1)) s).length cu)) (⟨by dsimp only; omega, _, _, rfl⟩) (by dsimp only; omega) ⟨rfl, rfl, rfl, rfl, rfl, trivial⟩
  refine .kNF (t := 17) rfl h5_18 (.gk (.gk (.gk (.gk (.gk (.gk (.gk (.gk (.gk (.gk (.gk (.u (.pickF rfl rfl) (.nt (.condF rfl (.skip (.blk_n (.then_n (.region (.m rfl (.q (.add rfl rfl (by omega)) rfl (.an rfl ?_)))))))))))))))))))))
  have hst : (ownN (l.take (i + 1)) s) = (ownN (l.take i) s) := by unfold ownN; rw [List.take_succ_eq_append_getElem hi2, List.filter_append, List.map_append]; simp; exact fun g1 _ => g1 h5_18
  rw [← hst]
  exact .rk ((i + 1, .slice au (ownN (l.take (i + 1)) s).length cu)) (⟨by dsimp only; omega, _, _, rfl⟩) (by dsimp only; omega) ⟨rfl, rfl, rfl, rfl, rfl, trivial⟩
 have hii : i = l.length := by omega
 rw [hii, List.take_length, ownN_eq hl]
 refine .exit (.then_e (.then_e (.blk_e (.then_n (.sm rfl (.an rfl (.ret (.rtFold (x := x) (τ := τ) (l := l) hl (by repeat' constructor) rfl rfl rfl rfl rfl ?_))))))))
 exact .dn rfl rfl ⟨⟨_, _, rfl⟩, rfl⟩
/- not in this seat -/
theorem rclone_spec (x : Nat) (τ : Tr) (N : Nat) (ho : τ.Ok N) (hN : N ≤ 1073741824) : Fn Tryz.prog 81 #[vptr x] [refR x τ] fun v L => ∃ u, v = vptr u ∧ L = [refR u τ, refR x τ] := by
 refine Fn.intro Tryz.func81 rfl rfl fun F W => ?_
 refine .rtOpen (x := x) (τ := τ) (by repeat' constructor) fun an cn as1 cs l hl => ?_
 have hll := nds_len hl
 have hofew := ho.few
 have hosf := ho.sfew
 refine .sr (.an rfl (.sm rfl (.nf rfl fo_87_2 (.u (.ld rfl ag_3) (.q (.build (us := [(2, _)]) fl_87 ze_87 rfl rfl (by simp [isCell])) rfl (.oq (.box rfl) ?_))))))
 rintro v L' ⟨u, rfl, rfl⟩
 refine .an rfl (.seq (.add (slR_nil 127 3) (.ptCast (b := u) (l' := [.slice none 0 0, .slice none 0 0, vint τ.zx]) (by repeat' constructor) rfl (.draw [9, 12] [[0, 1, 2, 3, 4, 5, 6, 7, 8, 9], [10, 11, 12]] mixed (by kernel_rfl) (.go [ptc x _ _] (by repeat' constructor) (.k rfl (.move rfl) (.mv rfl rfl (.nf rfl rfl rfl fo_87_1 (.kv rfl (.ld rfl ag_59) (.mv rfl rfl (.nf rfl rfl rfl fo_87_1 (.kv rfl (.ld rfl ag_59) (.hh rfl (.append (n := 0) (m := τ.sess.length) (ys := τ.sess.flatMap rsC) (p := rsR (.slice as1 τ.sess.length cs) τ.sess) rfl rfl rfl el_59 (.inl ⟨_, Tryz.underlying59⟩) ze_127 rfl rfl ?hc16 ?hr17 ?hb18 (by decide)) ?_)))))))))))))
 case hc16 => exact rsl_cells _
 case hr17 => exact fun h hp => slR_rd hp
 case hb18 => omega
 rintro v L' ⟨⟨a2, c2, rfl⟩, rfl⟩; rw [Nat.zero_add, List.nil_append]
 refine D.ph (.g0 (.nf rfl rfl rfl fo_87_1 (.hh rfl (.store rfl rfl rfl sz_59 ?c23 (nfz0 _ _)) ?_)))
 case c23 => first | decide | (simp; omega) | simp
 rintro v L' rfl
 refine D.pf (.seq (.seq (.ptCast (b := u) (l' := [.slice none 0 0, .slice a2 τ.sess.length c2, vint τ.zx]) (by repeat' constructor) rfl (.add (slR_nil 129 12) (.add (p := bigR inA []) big_nil (.region (.an rfl (.block (.loopK (ι := Nat × Value × (List Rno)) (fun q E => (4, vint q.1) :: E) (fun q => [ptc u [q.2.1, .slice a2 τ.sess.length c2, vint τ.zx] 87, rnR q.2.1 q.2.2, bigR inA q.2.2]) (fun q => q.1 ≤ l.length ∧ ndsZ q.2.2 = ndsZ (l.take q.1) ∧ ∃ a c, q.2.1 = .slice a q.2.2.length c) (fun q => l.length - q.1) (0, .slice none 0 0, []) (ts := [0, 2, 3]) (.cons rfl (.cons rfl (.cons rfl (.nil)))) (⟨Nat.zero_le _, rfl, none, 0, rfl⟩) ⟨rfl, rfl, rfl, rfl, trivial⟩ (by repeat' constructor) ?_)))))))))
 rintro ⟨i, w, acc⟩ ⟨hi, hac, aw, cw, hw⟩
 dsimp only
 dsimp only at hi hac hw
 subst hw
 have hal : acc.length = i := by have := congrArg List.length hac; simp [ndsZ] at this; omega
 refine .seq (.sm rfl (.m rfl (.nf rfl fo_87_0 (.u (.ld rfl ag_73) (.q (.slen rfl Tryz.underlying73 rfl) rfl (.ui rfl rfl rfl (.nt (.condD rfl (fun h30 => ?_) (fun h30 => ?_)))))))))
 ·have hi2 : i < l.length := by omega
  refine .slShape (T := 129) (sz := 12) (v := .slice an l.length cn) (xs := l.flatMap rnC) (by repeat' constructor) (by omega) fun bn bn' e0 mbn _ => ?_
  simp only [Value.slice.injEq, true_and] at e0
  obtain ⟨rfl, rfl⟩ := e0
  refine .sk (.seq (.block (.seq (.aclShape (l := l) (i := i) hi2 (by repeat' constructor) fun hcl => (.region (.m rfl (.nf rfl fo_87_0 (.u (.ld rfl ag_73) (.m rfl (.q (.indexAddr rfl rfl el_73 (by omega)) rfl (.q (.loadRdA (sz := 12) (j := i * 12) (k := 12) (p := rnR _ l) (vs := rnC l[i]) rfl ag_129 (by repeat' constructor) (fun h hp => slR_rd hp) (by omega) (by omega) (by omega) (flatMap_at (f := rnC) (sz := 12) (fun _ _ => rfl) (by omega))) rfl (.oq (.allocA ze_129) ?_))))))))))))
  rintro v L' ⟨b5, rfl, rfl⟩
  refine .oq (.storeA rfl rfl ?c43 sz_129 ?c46 ?c44 (nfz0 _ _)) ?_
  case c43 => intro v hv; exact rn_cells hcl v (by simpa [Value.cells] using hv)
  case c46 => rfl
  case c44 => simp [rnC]
  rintro v L' rfl
  refine .nil (.ptCast (b := b5) (l' := rnC l[i]) (by repeat' constructor) rfl (.then_n (.sr (.u (.fieldAddr rfl fo_129_2) (.u (.ld rfl ag_34) (.oq (.call Tryz.func110 rfl rfl (vs := [_]) rfl (rrows_spec l[i].2.1 l[i].2.2.acl (bigR inA l) (big_rd hi2) (by have := ho.acls _ (List.getElem_mem (l := τ.nodes) (n := i) (by omega)); rw [nds_get hl hi2] at this; exact this))) ?_))))))
  rintro v L' ⟨⟨a7, c7, rfl⟩, rfl⟩
  refine .u (.fieldAddr rfl fo_129_2) (.oq (.store rfl rfl rfl sz_34 ?c53 (nfz0 _ _)) ?_)
  case c53 => simp [rnC]
  rintro v L' rfl
  refine .nil (.ptCast (b := b5) (l' := rnC ((l[i].1, (.slice a7 l[i].2.2.acl.length c7, l[i].2.2)) : Rno)) (by repeat' constructor) rfl (.then_n (.draw [6, 7, 10] [[0, 1, 2, 3, 4, 5, 6, 7], [8, 9, 10]] mixed (by kernel_rfl) (.go [ptc b5 _ _, ptc u _ _] (by repeat' constructor) (.k rfl (.move rfl) (.k rfl (.move rfl) (.k rfl (.nilp rfl) (.k rfl (.fieldAddr rfl fo_87_0) (.k rfl (.ld rfl ag_73) (.kv rfl (.loadAs (vs := rnC ((l[i].1, (.slice a7 l[i].2.2.acl.length c7, l[i].2.2)) : Rno)) rfl ag_129 (by repeat' constructor) (by simp [rnC]) rfl) (.hh rfl (.buildSlice (vs := [_]) el_73 ze_129 rfl rfl rfl rfl (by first | (simp [Value.cells]; done) | (intro v hv; simp only [List.mem_cons, List.not_mem_nil, or_false] at hv; (repeat (first | (subst hv; rfl) | (rcases hv with hv | hv; (subst hv; rfl)))))) (by decide)) ?_)))))))))))
  rintro v L' ⟨b8_6, rfl, rfl⟩
  refine D.hh rfl (.append1 rfl rfl rfl el_73 ze_129 rfl rfl ?c64 ?c65 (Nat.le_refl _) ?c66 (by decide)) ?_
  case c64 => first | exact rn_cells rfl | (simp only [List.map_cons, List.map_nil, List.flatten_cons, List.flatten_nil, List.append_nil]; exact rn_cells rfl)
  case c65 => rfl
  case c66 => first | omega | (simp; omega)
  rintro v L' ⟨⟨a8_7, c8_7, rfl⟩, rfl⟩
  refine D.ph (.g0 (.nf rfl rfl rfl fo_87_0 (.hh rfl (.store rfl rfl rfl sz_73 ?c71 (nfz0 _ _)) ?_)))
  case c71 => first | decide | (simp; omega) | simp
  rintro v L' rfl
  refine D.ph (.fin (.blk_n (.then_n (.region (.m rfl (.q (.add rfl rfl (by omega)) rfl (.an rfl (.toRd (v := .slice a7 l[i].2.2.acl.length c7) (by repeat' constructor) (.bigSnoc (l := acc) ((l[i].1, (.slice a7 l[i].2.2.acl.length c7, l[i].2.2)) : Rno) (p := rdO 2 (.slice a7 l[i].2.2.acl.length c7) l[i].2.2.acl.length (l[i].2.2.acl.flatMap acC)) rfl (by repeat' constructor) ?_)))))))))
  rw [show acc.length + 1 = (acc ++ [((l[i].1, (.slice a7 l[i].2.2.acl.length c7, l[i].2.2)) : Rno)]).length by rw [List.length_append]; rfl]
  refine .slCast (T := 129) (sz := 12) (m' := (acc ++ [((l[i].1, (.slice a7 l[i].2.2.acl.length c7, l[i].2.2)) : Rno)]).length) (xs' := (acc ++ [((l[i].1, (.slice a7 l[i].2.2.acl.length c7, l[i].2.2)) : Rno)]).flatMap rnC) (by repeat' constructor) rfl (by rw [List.flatMap_append]; simp; rfl) (.ptCast (b := u) (l' := [.slice a8_7 (acc ++ [((l[i].1, (.slice a7 l[i].2.2.acl.length c7, l[i].2.2)) : Rno)]).length c8_7, .slice a2 τ.sess.length c2, vint τ.zx]) (by repeat' constructor) rfl ?_)
  exact .rk ((i + 1, .slice a8_7 (acc ++ [((l[i].1, (.slice a7 l[i].2.2.acl.length c7, l[i].2.2)) : Rno)]).length c8_7, acc ++ [((l[i].1, (.slice a7 l[i].2.2.acl.length c7, l[i].2.2)) : Rno)])) (⟨by dsimp only; omega, by dsimp only; rw [List.take_succ_eq_append_getElem hi2]; unfold ndsZ at hac ⊢; rw [List.map_append, List.map_append, hac]; rfl, _, _, rfl⟩) (by dsimp only; omega) ⟨rfl, rfl, rfl, rfl, trivial⟩
 have hii : i = l.length := by omega
 rw [hii, List.take_length, hl] at hac
 refine .exit (.then_e (.then_e (.blk_e (.then_n (.sm rfl (.an rfl (.ret (.rtFold (x := u) (τ := τ) (l := acc) hac (by repeat' constructor) rfl rfl rfl rfl rfl (.rtFold (x := x) (τ := τ) (l := l) hl (by repeat' constructor) rfl rfl rfl rfl rfl ?_)))))))))
 exact .dn rfl rfl ⟨_, rfl, rfl⟩
theorem rfinds_spec (x : Nat) (τ : Tr) (y : Pt) (hpl : y.path.length ≤ 1048576) (N : Nat) (ho : τ.Ok N) (hN : N ≤ 1073741824) : Fn Tryz.prog 85 #[vptr x, .agg (ptC y).toArray] [refR x τ] fun v L => v = .bool (findsZ τ y) ∧ L = [refR x τ] := by
 refine Fn.intro Tryz.func85 rfl rfl fun F W => ?_
 have hof := ho.few
 have hpar := parent_len y.path
 refine .sr (.oq (.box rfl) ?_)
 rintro v L' ⟨bx, rfl, rfl⟩
 refine .a rfl (.nil (.ptCast (b := bx) (l' := ptC y) (by repeat' constructor) rfl (.then_n (.sm rfl (.u (.fieldAddr rfl fo_37_1) (.u (.ld rfl ag_9) (.cv Tryz.func82 [_, _] (rplace_spec x τ y.path (by omega)) ?_)))))))
 refine .ui rfl rfl rfl (.an rfl (.seq (.sr (.u (.fieldAddr rfl fo_37_0) (.u (.ld rfl ag_3) (.nt (.block (.sr (.ui rfl rfl rfl (.an rfl (.condD rfl (fun h14 => ?_) (fun h14 => ?_))))))))))))
 ·refine .sr (.u (.fieldAddr rfl fo_37_1) (.u (.ld rfl ag_9) (.oq (.c Tryz.func123 [_] (rable_spec _ ?hs15)) ?_)))
  case hs15 => first | assumption | omega
  rintro v L' ⟨rfl, rfl⟩
  refine .an rfl (.sm rfl (.m rfl (.dec (t := 20) rfl (fun h5_20 => ?_) (fun h5_20 => ?_))))
  ·refine .kDT (t := 18) rfl h5_20 (.kDT (t := 6) rfl h5_20 (.kDT (t := 19) rfl h5_20 (.grun (t := 20) rfl rfl rfl (.m rfl (.grun (t := 20) rfl rfl rfl (.u (.not rfl) (.u (.pickT rfl rfl) (.m rfl (.ndec (t := 24) rfl (fun h5_24 => ?_) (fun h5_24 => ?_))))))))))
   ·refine .kNT (t := 22) rfl h5_24 (.kNT (t := 23) rfl h5_24 (.grun (t := 24) rfl rfl rfl (.m rfl (.grun (t := 24) rfl rfl rfl (.u (.fieldAddr rfl fo_37_1) (.grun (t := 24) rfl rfl rfl (.u (.ld rfl ag_9) (.grun (t := 24) rfl rfl rfl (.oq (.c Tryz.func83 [_] (rparent_spec _ ?hs22)) ?_)))))))))
    case hs22 => first | assumption | omega
    rintro v L' ⟨rfl, rfl⟩
    refine .grun (t := 24) rfl rfl rfl (.cv Tryz.func82 [_, _] (rplace_spec x τ (parentZ y.path) (by omega)) ?_)
    refine .grun (t := 24) rfl rfl rfl (.ui rfl rfl rfl (.u (.pickT rfl rfl) (.an rfl (.ret (.blk_r (.then_r ?_))))))
    have hz : findsZ τ y = decide (ableZ y.path ∧ ¬ thereT τ y.path ∧ thereT τ (parentZ y.path)) := by unfold findsZ; rw [if_pos h14]
    exact .dn rfl rfl ⟨congrArg Value.bool (by rw [hz]; exact decide_eq_decide.2 ⟨fun e => ⟨h5_20, fun g => h5_24 (show 0 ≤ placeTo τ.nodes y.path from (place_iff (l := τ.nodes) (p := y.path)).2 g), (place_iff (l := τ.nodes)).1 e⟩, fun e => (place_iff (l := τ.nodes)).2 e.2.2⟩), rfl⟩
   refine .kNF (t := 22) rfl h5_24 (.kNF (t := 23) rfl h5_24 (.gk (.gk (.gk (.gk (.gk (.gk (.u (.pickF rfl rfl) (.an rfl (.ret (.blk_r (.then_r ?_))))))))))))
   have hz : findsZ τ y = decide (ableZ y.path ∧ ¬ thereT τ y.path ∧ thereT τ (parentZ y.path)) := by unfold findsZ; rw [if_pos h14]
   exact .dn rfl rfl ⟨congrArg Value.bool (by rw [hz, decide_eq_false (fun g => g.2.1 ((place_iff (l := τ.nodes) (p := y.path)).1 h5_24))]), rfl⟩
  refine .kDF (t := 18) rfl h5_20 (.kDF (t := 6) rfl h5_20 (.kDF (t := 19) rfl h5_20 (.gk (.gk (.u (.pickF rfl rfl) (.m rfl (.gk (.gk (.gk (.gk (.gk (.gk (.u (.pickF rfl rfl) (.an rfl (.ret (.blk_r (.then_r ?_)))))))))))))))))
  have hz : findsZ τ y = decide (ableZ y.path ∧ ¬ thereT τ y.path ∧ thereT τ (parentZ y.path)) := by unfold findsZ; rw [if_pos h14]
  exact .dn rfl rfl ⟨congrArg Value.bool (by rw [hz, decide_eq_false (fun g => h5_20 g.1)]), rfl⟩
 refine .sr (.ui rfl rfl rfl (.an rfl (.condD rfl (fun h32 => ?_) (fun h32 => ?_))))
 ·refine .sr (.u (.fieldAddr rfl fo_37_1) (.u (.ld rfl ag_9) (.u (.strne rfl rfl) (.m rfl (.ndec (t := 37) rfl (fun h7_37 => ?_) (fun h7_37 => ?_))))))
  ·refine .kNT (t := 36) rfl h7_37 (.grun (t := 37) rfl rfl rfl (.m rfl (.u (.pickT rfl rfl) (.m rfl (.dec (t := 40) rfl (fun h7_40 => ?_) (fun h7_40 => ?_))))))
   ·refine .kDT (t := 11) rfl h7_40 (.kDT (t := 5) rfl h7_40 (.kDT (t := 38) rfl h7_40 (.kDT (t := 39) rfl h7_40 (.grun (t := 40) rfl rfl rfl (.m rfl (.grun (t := 40) rfl rfl rfl (.u (.fieldAddr rfl fo_37_1) (.grun (t := 40) rfl rfl rfl (.u (.ld rfl ag_9) (.grun (t := 40) rfl rfl rfl (.oq (.c Tryz.func70 [_, _] (rkids_spec x τ y.path N ho (by omega))) ?_)))))))))))
    rintro v L' ⟨⟨a7, c7, rfl⟩, rfl⟩
    refine .grun (t := 40) rfl rfl rfl (.q (.slen rfl Tryz.underlying54 rfl) rfl (.grun (t := 40) rfl rfl rfl (.ui rfl rfl rfl (.u (.pickT rfl rfl) (.an rfl (.ret (.blk_r (.then_r ?_))))))))
    have hz : findsZ τ y = decide (y.path ≠ [47] ∧ thereT τ y.path ∧ (kidsZ τ y.path).length = 0) := by unfold findsZ; rw [if_neg h14, if_pos h32]
    exact .dn rfl rfl ⟨congrArg Value.bool (by rw [hz]; exact decide_eq_decide.2 ⟨fun e => ⟨h7_37, (place_iff (l := τ.nodes) (p := y.path)).1 h7_40, by omega⟩, fun e => by have := e.2.2; omega⟩), rfl⟩
   refine .kDF (t := 11) rfl h7_40 (.kDF (t := 5) rfl h7_40 (.kDF (t := 38) rfl h7_40 (.kDF (t := 39) rfl h7_40 (.gk (.gk (.gk (.gk (.gk (.gk (.u (.pickF rfl rfl) (.an rfl (.ret (.blk_r (.then_r ?_))))))))))))))
   have hz : findsZ τ y = decide (y.path ≠ [47] ∧ thereT τ y.path ∧ (kidsZ τ y.path).length = 0) := by unfold findsZ; rw [if_neg h14, if_pos h32]
   exact .dn rfl rfl ⟨congrArg Value.bool (by rw [hz, decide_eq_false (fun g => h7_40 ((place_iff (l := τ.nodes) (p := y.path)).2 g.2.1))]), rfl⟩
  refine .kNF (t := 36) rfl h7_37 (.gk (.u (.pickF rfl rfl) (.m rfl (.gk (.gk (.gk (.gk (.gk (.gk (.u (.pickF rfl rfl) (.an rfl (.ret (.blk_r (.then_r ?_))))))))))))))
  have hz : findsZ τ y = decide (y.path ≠ [47] ∧ thereT τ y.path ∧ (kidsZ τ y.path).length = 0) := by unfold findsZ; rw [if_neg h14, if_pos h32]
  exact .dn rfl rfl ⟨congrArg Value.bool (by rw [hz, decide_eq_false (fun g => g.1 h7_37)]), rfl⟩
 refine .seq (.sr (.ui rfl rfl rfl (.an rfl (.dec (t := 48) rfl (fun h48 => ?_) (fun h48 => ?_)))))
 ·refine .condT rfl (.sk (.condT rfl (.sm rfl (.an rfl (.ret (.blk_r (.then_r ?_)))))))
  have hz : findsZ τ y = decide (thereT τ y.path) := by unfold findsZ; rw [if_neg h14, if_neg h32, if_pos (by omega)]
  exact .dn rfl rfl ⟨congrArg Value.bool (by rw [hz]; exact decide_eq_decide.2 (place_iff (l := τ.nodes) (p := y.path))), rfl⟩
 refine .condF rfl (.region (.ui rfl rfl rfl (.an rfl (.dec (t := 48) rfl (fun h48 => ?_) (fun h48 => ?_)))))
 ·refine .condT rfl (.sm rfl (.an rfl (.ret (.blk_r (.then_r ?_)))))
  have hz : findsZ τ y = decide (thereT τ y.path) := by unfold findsZ; rw [if_neg h14, if_neg h32, if_pos (by omega)]
  exact .dn rfl rfl ⟨congrArg Value.bool (by rw [hz]; exact decide_eq_decide.2 (place_iff (l := τ.nodes) (p := y.path))), rfl⟩
 refine .condF rfl (.skip (.blk_n (.then_n (.sr (.an rfl (.ret ?_))))))
 have hz : findsZ τ y = false := by unfold findsZ; rw [if_neg h14, if_neg h32, if_neg (by omega)]
 exact .dn rfl rfl ⟨by rw [hz], rfl⟩
theorem rsound_spec (x : Nat) (τ : Tr) (zx ses xid : Int) (y : Pt) (subs : List Pt) (p : HP) (hx : TxA p y subs) (N : Nat) (ho : τ.Ok N) (hN : N + subs.length + 1 ≤ 1073741824) : Fn Tryz.prog 38 #[vptr x, .agg ([vint zx, vint ses, vint xid] ++ ptC y).toArray] [refR x τ, p] fun v L => v = .bool (soundZ τ zx y subs) ∧ L = [refR x τ, p] := by
 refine Fn.intro Tryz.func38 rfl rfl fun F W => ?_
 refine .rdAny (p := p) hx.rd (by repeat' constructor) fun asb csb esub _ => ?_
 have hrd := hx.rd
 rw [esub] at hrd
 have hfs := hx.few
 have hosf := ho.sfew
 have hpl := hx.own.plen
 refine .sr (.oq (.box rfl) ?_)
 rintro v L' ⟨be, rfl, rfl⟩
 refine .a rfl (.nil (.ptCast (b := be) (l' := ([vint zx, vint ses, vint xid] ++ ptC y)) (by repeat' constructor) rfl (.then_n (.sm rfl (.oq (.c Tryz.func81 [_] (rclone_spec x τ N ho (by omega))) ?_)))))
 rintro v L' ⟨u, rfl, rfl⟩
 refine .an rfl (.sr (.u (.fieldAddr rfl fo_39_3) (.q (.loadAs (vs := ptC y) rfl ag_37 (by repeat' constructor) (by simp [ptC]) rfl) rfl (.oq (.allocA ze_37) ?_))))
 rintro v L' ⟨bx, rfl, rfl⟩
 refine .oq (.storeA rfl rfl ?c11 sz_37 ?c14 ?c12 (nfz0 _ _)) ?_
 case c11 => exact hx.own.all
 case c14 => rfl
 case c12 => simp [ptC]
 rintro v L' rfl
 refine .nil (.ptCast (b := bx) (l' := ptC y) (by repeat' constructor) rfl (.then_n (.seq (.sr (.u (.fieldAddr rfl fo_37_0) (.u (.ld rfl ag_3) (.nt (.block (.seq (.sr (.ui rfl rfl rfl (.an rfl (.dec (t := 15) rfl (fun h15 => ?_) (fun h15 => ?_))))))))))))))
 ·refine .condT rfl (.sk (.condT rfl (.sm rfl (.q (.loadAs (vs := ptC y) rfl ag_37 (by repeat' constructor) (by simp [ptC]) rfl) rfl (.cv Tryz.func85 [_, _] (rfinds_spec u τ y hpl N ho (by omega)) ?_)))))
  refine .an rfl (.ret (.blk_r (.then_r ?_)))
  have hz : soundZ τ zx y subs = findsZ τ y := by unfold soundZ; rw [if_pos (by omega)]
  exact .dn rfl rfl ⟨by rw [hz], rfl⟩
 refine .condF rfl (.sr (.ui rfl rfl rfl (.an rfl (.dec (t := 15) rfl (fun h15 => ?_) (fun h15 => ?_)))))
 ·refine .condT rfl (.sk (.condT rfl (.sm rfl (.q (.loadAs (vs := ptC y) rfl ag_37 (by repeat' constructor) (by simp [ptC]) rfl) rfl (.cv Tryz.func85 [_, _] (rfinds_spec u τ y hpl N ho (by omega)) ?_)))))
  refine .an rfl (.ret (.blk_r (.then_r ?_)))
  have hz : soundZ τ zx y subs = findsZ τ y := by unfold soundZ; rw [if_pos (by omega)]
  exact .dn rfl rfl ⟨by rw [hz], rfl⟩
 refine .condF rfl (.sr (.ui rfl rfl rfl (.an rfl (.dec (t := 15) rfl (fun h15 => ?_) (fun h15 => ?_)))))
 ·refine .condT rfl (.sk (.condT rfl (.sm rfl (.q (.loadAs (vs := ptC y) rfl ag_37 (by repeat' constructor) (by simp [ptC]) rfl) rfl (.cv Tryz.func85 [_, _] (rfinds_spec u τ y hpl N ho (by omega)) ?_)))))
  refine .an rfl (.ret (.blk_r (.then_r ?_)))
  have hz : soundZ τ zx y subs = findsZ τ y := by unfold soundZ; rw [if_pos (by omega)]
  exact .dn rfl rfl ⟨by rw [hz], rfl⟩
 refine .condF rfl (.region (.ui rfl rfl rfl (.an rfl (.dec (t := 15) rfl (fun h15 => ?_) (fun h15 => ?_)))))
 ·refine .condT rfl (.sm rfl (.q (.loadAs (vs := ptC y) rfl ag_37 (by repeat' constructor) (by simp [ptC]) rfl) rfl (.cv Tryz.func85 [_, _] (rfinds_spec u τ y hpl N ho (by omega)) ?_)))
  refine .an rfl (.ret (.blk_r (.then_r ?_)))
  have hz : soundZ τ zx y subs = findsZ τ y := by unfold soundZ; rw [if_pos (by omega)]
  exact .dn rfl rfl ⟨by rw [hz], rfl⟩
 refine .condF rfl (.seq (.sr (.ui rfl rfl rfl (.an rfl (.dec (t := 23) rfl (fun h23 => ?_) (fun h23 => ?_))))))
 ·refine .condT rfl (.sk (.condT rfl (.sr (.an rfl (.block ?_)))))
  have hsz : soundZ τ zx y subs = soundL τ zx (decide (y.kind = 6)) subs := by unfold soundZ; rw [if_neg (by omega), if_pos (by omega)]
  refine .rfCast (x := u) (τ' := (partsZ τ zx (subs.take 0)).1) (by repeat' constructor) (by rw [List.take_zero]; rfl) (.loopK (ι := Nat) (fun q E => (7, vint q) :: E) (fun q => [refR u (partsZ τ zx (subs.take q)).1]) (fun q => q ≤ subs.length ∧ soundL τ zx (decide (y.kind = 6)) subs = soundL (partsZ τ zx (subs.take q)).1 zx (decide (y.kind = 6)) (subs.drop q)) (fun q => subs.length - q) (0) (ts := [3, 5, 6]) (.cons rfl (.cons rfl (.cons rfl (.nil)))) (⟨Nat.zero_le _, by rw [List.take_zero]; rfl⟩) ⟨rfl, rfl, rfl, rfl, trivial⟩ (by repeat' constructor) ?_)
  rintro i ⟨hi, hsnd⟩
  have hok : (partsZ τ zx (subs.take i)).1.Ok (N + subs.length) := (ho.parts zx _ (fun w hw => (hx.each w (List.mem_of_mem_take hw)).few)).more (by rw [List.length_take]; omega)
  refine .seq (.sm rfl (.u (.fieldAddr rfl fo_37_7) (.q (.as (v' := .slice asb subs.length csb) (by exact esub) (.ld rfl ag_35)) rfl (.q (.slen rfl Tryz.underlying35 rfl) rfl (.ui rfl rfl rfl (.nt (.condD rfl (fun h30 => ?_) (fun h30 => ?_))))))))
  ·have hi2 : i < subs.length := by omega
   refine .rdShape (p := p) hrd (by repeat' constructor) (by omega) fun bs os e1 => ?_
   subst e1
   have hys := hx.each _ (List.getElem_mem hi2)
   refine .sk (.seq (.block (.sm rfl (.u (.fieldAddr rfl fo_37_7) (.q (.as (v' := .slice (some ⟨bs, os, none⟩) subs.length csb) (by exact esub) (.ld rfl ag_35)) rfl (.m rfl (.q (.indexAddr rfl rfl el_35 (by omega)) rfl (.q (.loadRdA (sz := 8) (j := i * 8) (k := 8) (p := p) (vs := ptC subs[i]) rfl ag_37 (by repeat' constructor) hrd (by simp) (by omega) (by omega) (flatMap_at (f := ptC) (sz := 8) (fun _ _ => rfl) (by omega))) rfl (.cv Tryz.func85 [_, _] (rfinds_spec u (partsZ τ zx (subs.take i)).1 subs[i] hys.plen (N + subs.length) hok (by omega)) ?_)))))))))
   refine .an rfl (.seq (.sm rfl (.u (.not rfl) (.m rfl (.bool (t := 42) rfl (fun h15_42 => ?_) (fun h15_42 => ?_))))))
   ·refine .kB (t := 41) rfl h15_42 (.gk (.gk (.gk (.gk (.gskipU (t := 46) rfl rfl rfl (.gskipU (t := 46) rfl rfl rfl (.gskipU (t := 46) rfl rfl rfl (.gskipU (t := 46) rfl rfl rfl (.gskipU (t := 46) rfl rfl rfl (.gskipU (t := 46) rfl rfl rfl (.gskipU (t := 46) rfl rfl rfl (.gk (.u (.pickT rfl rfl) (.nt (.condT rfl (.sr (.an rfl (.rt (.blk_r (.then_r (.then_r (.blk_r (.blk_r (.then_r ?_))))))))))))))))))))))))
    have hz : soundZ τ zx y subs = false := by rw [hsz, hsnd, sound_step hi2]; simp only [Bool.not_eq_true'] at h15_42; rw [h15_42]; rfl
    exact .dn rfl rfl ⟨by rw [hz], rfl⟩
   refine .kB (t := 41) rfl h15_42 (.grun (t := 42) rfl rfl rfl (.u (.fieldAddr rfl fo_37_0) (.grun (t := 42) rfl rfl rfl (.u (.ld rfl ag_3) (.grun (t := 42) rfl rfl rfl (.ui rfl rfl rfl (.grun (t := 42) rfl rfl rfl (.m rfl (.dec (t := 46) rfl (fun h15_46 => ?_) (fun h15_46 => ?_))))))))))
   ·refine .kDT (t := 45) rfl h15_46 (.grun (t := 46) rfl rfl rfl (.u (.fieldAddr rfl fo_37_7) (.grun (t := 46) rfl rfl rfl (.q (.as (v' := .slice (some ⟨bs, os, none⟩) subs.length csb) (by exact esub) (.ld rfl ag_35)) rfl (.grun (t := 46) rfl rfl rfl (.m rfl (.grun (t := 46) rfl rfl rfl (.q (.indexAddr rfl rfl el_35 (by omega)) rfl (.grun (t := 46) rfl rfl rfl (.u (.fieldAddr rfl fo_37_0) (.grun (t := 46) rfl rfl rfl (.q (.loadRd (sz := 8) (j := i * 8 + 0) (p := p) rfl ag_3 (by repeat' constructor) hrd (by omega) ((flatMap_cell (f := ptC) (sz := 8) (l := subs) (i := i) (k := 0) (fun _ _ => rfl) (by omega) (by decide)).trans rfl)) rfl (.grun (t := 46) rfl rfl rfl (.ui rfl rfl rfl (.grun (t := 42) rfl rfl rfl (.u (.pickT rfl rfl) (.u (.pickF rfl rfl) (.nt (.condN rfl (fun h55 => ?_) (fun h55 => ?_))))))))))))))))))))
    ·refine .sr (.an rfl (.rt (.blk_r (.then_r (.then_r (.blk_r (.blk_r (.then_r ?_))))))))
     have hz : soundZ τ zx y subs = false := by rw [hsz, hsnd, sound_step hi2]; rw [decide_eq_true h15_46, decide_eq_false h55]; simp
     exact .dn rfl rfl ⟨by rw [hz], rfl⟩
    refine .sk (.draw [8] [[0, 1, 2, 3, 4, 5, 6, 7, 8]] mixed (by kernel_rfl) (.g0 (.mv rfl rfl (.kv rfl (.fieldAddr rfl fo_37_7) (.kv rfl (.as (v' := .slice (some ⟨bs, os, none⟩) subs.length csb) (by exact esub) (.ld rfl ag_35)) (.mv rfl rfl (.kv rfl (.indexAddr rfl rfl el_35 (by omega)) (.kv rfl (.loadRdA (sz := 8) (j := i * 8) (k := 8) (p := p) (vs := ptC subs[i]) rfl ag_37 (by repeat' constructor) hrd (by simp) (by omega) (by omega) (flatMap_at (f := ptC) (sz := 8) (fun _ _ => rfl) (by omega))) (.kv rfl (.fieldAddr rfl fo_39_0) (.kv rfl (.ld rfl ag_3) (.hh rfl (.c Tryz.func79 [_, _, _] (rpart_spec u (partsZ τ zx (subs.take i)).1 subs[i] zx p hys (N + subs.length) hok (by omega))) ?_)))))))))))
    rintro v L' ⟨a15, c15, rfl, rfl⟩
    refine D.ph (.fin (.blk_n (.then_n (.region (.m rfl (.q (.add rfl rfl (by omega)) rfl (.an rfl ?_)))))))
    have htru : (findsZ (partsZ τ zx (subs.take i)).1 subs[i] && (!(decide (y.kind = 6)) || decide (subs[i].kind = 2))) = true := by have h1 : findsZ (partsZ τ zx (subs.take i)).1 subs[i] = true := (by simpa using h15_42); rw [h1, decide_eq_true (p := subs[i].kind = 2) h55]; simp
    refine .rfCast (x := u) (τ' := (partsZ τ zx (subs.take (i + 1))).1) (by repeat' constructor) (by rw [List.take_succ_eq_append_getElem hi2, parts_snoc]) ?_
    exact .rk (i + 1) (⟨by omega, by rw [hsnd, sound_step hi2, htru, Bool.true_and]⟩) (by omega) ⟨rfl, rfl, rfl, rfl, trivial⟩
   refine .kDF (t := 45) rfl h15_46 (.gk (.gk (.gk (.gk (.gk (.gk (.gk (.grun (t := 42) rfl rfl rfl (.u (.pickF rfl rfl) (.u (.pickF rfl rfl) (.nt (.condF rfl (.sk (.draw [8] [[0, 1, 2, 3, 4, 5, 6, 7, 8]] mixed (by kernel_rfl) (.g0 (.mv rfl rfl (.kv rfl (.fieldAddr rfl fo_37_7) (.kv rfl (.as (v' := .slice (some ⟨bs, os, none⟩) subs.length csb) (by exact esub) (.ld rfl ag_35)) (.mv rfl rfl (.kv rfl (.indexAddr rfl rfl el_35 (by omega)) (.kv rfl (.loadRdA (sz := 8) (j := i * 8) (k := 8) (p := p) (vs := ptC subs[i]) rfl ag_37 (by repeat' constructor) hrd (by simp) (by omega) (by omega) (flatMap_at (f := ptC) (sz := 8) (fun _ _ => rfl) (by omega))) (.kv rfl (.fieldAddr rfl fo_39_0) (.kv rfl (.ld rfl ag_3) (.hh rfl (.c Tryz.func79 [_, _, _] (rpart_spec u (partsZ τ zx (subs.take i)).1 subs[i] zx p hys (N + subs.length) hok (by omega))) ?_))))))))))))))))))))))))
   rintro v L' ⟨a15, c15, rfl, rfl⟩
   refine D.ph (.fin (.blk_n (.then_n (.region (.m rfl (.q (.add rfl rfl (by omega)) rfl (.an rfl ?_)))))))
   have htru : (findsZ (partsZ τ zx (subs.take i)).1 subs[i] && (!(decide (y.kind = 6)) || decide (subs[i].kind = 2))) = true := by have h1 : findsZ (partsZ τ zx (subs.take i)).1 subs[i] = true := (by simpa using h15_42); rw [h1, decide_eq_false h15_46]; simp
   refine .rfCast (x := u) (τ' := (partsZ τ zx (subs.take (i + 1))).1) (by repeat' constructor) (by rw [List.take_succ_eq_append_getElem hi2, parts_snoc]) ?_
   exact .rk (i + 1) (⟨by omega, by rw [hsnd, sound_step hi2, htru, Bool.true_and]⟩) (by omega) ⟨rfl, rfl, rfl, rfl, trivial⟩
  have hii : i = subs.length := by omega
  refine .exit (.then_e (.then_e (.blk_e (.blk_n (.then_n (.sr (.an rfl (.ret ?_))))))))
  have hz : soundZ τ zx y subs = true := by rw [hsz, hsnd, hii, List.drop_length]; rfl
  exact .dn rfl rfl ⟨by rw [hz], rfl⟩
 refine .condF rfl (.region (.ui rfl rfl rfl (.an rfl (.dec (t := 23) rfl (fun h23 => ?_) (fun h23 => ?_)))))
 ·refine .condT rfl (.sr (.an rfl (.block ?_)))
  have hsz : soundZ τ zx y subs = soundL τ zx (decide (y.kind = 6)) subs := by unfold soundZ; rw [if_neg (by omega), if_pos (by omega)]
  refine .rfCast (x := u) (τ' := (partsZ τ zx (subs.take 0)).1) (by repeat' constructor) (by rw [List.take_zero]; rfl) (.loopK (ι := Nat) (fun q E => (7, vint q) :: E) (fun q => [refR u (partsZ τ zx (subs.take q)).1]) (fun q => q ≤ subs.length ∧ soundL τ zx (decide (y.kind = 6)) subs = soundL (partsZ τ zx (subs.take q)).1 zx (decide (y.kind = 6)) (subs.drop q)) (fun q => subs.length - q) (0) (ts := [3, 5, 6]) (.cons rfl (.cons rfl (.cons rfl (.nil)))) (⟨Nat.zero_le _, by rw [List.take_zero]; rfl⟩) ⟨rfl, rfl, rfl, rfl, trivial⟩ (by repeat' constructor) ?_)
  rintro i ⟨hi, hsnd⟩
  have hok : (partsZ τ zx (subs.take i)).1.Ok (N + subs.length) := (ho.parts zx _ (fun w hw => (hx.each w (List.mem_of_mem_take hw)).few)).more (by rw [List.length_take]; omega)
  refine .seq (.sm rfl (.u (.fieldAddr rfl fo_37_7) (.q (.as (v' := .slice asb subs.length csb) (by exact esub) (.ld rfl ag_35)) rfl (.q (.slen rfl Tryz.underlying35 rfl) rfl (.ui rfl rfl rfl (.nt (.condD rfl (fun h30 => ?_) (fun h30 => ?_))))))))
  ·have hi2 : i < subs.length := by omega
   refine .rdShape (p := p) hrd (by repeat' constructor) (by omega) fun bs os e1 => ?_
   subst e1
   have hys := hx.each _ (List.getElem_mem hi2)
   refine .sk (.seq (.block (.sm rfl (.u (.fieldAddr rfl fo_37_7) (.q (.as (v' := .slice (some ⟨bs, os, none⟩) subs.length csb) (by exact esub) (.ld rfl ag_35)) rfl (.m rfl (.q (.indexAddr rfl rfl el_35 (by omega)) rfl (.q (.loadRdA (sz := 8) (j := i * 8) (k := 8) (p := p) (vs := ptC subs[i]) rfl ag_37 (by repeat' constructor) hrd (by simp) (by omega) (by omega) (flatMap_at (f := ptC) (sz := 8) (fun _ _ => rfl) (by omega))) rfl (.cv Tryz.func85 [_, _] (rfinds_spec u (partsZ τ zx (subs.take i)).1 subs[i] hys.plen (N + subs.length) hok (by omega)) ?_)))))))))
   refine .an rfl (.seq (.sm rfl (.u (.not rfl) (.m rfl (.bool (t := 42) rfl (fun h15_42 => ?_) (fun h15_42 => ?_))))))
   ·refine .kB (t := 41) rfl h15_42 (.gk (.gk (.gk (.gk (.gskipU (t := 46) rfl rfl rfl (.gskipU (t := 46) rfl rfl rfl (.gskipU (t := 46) rfl rfl rfl (.gskipU (t := 46) rfl rfl rfl (.gskipU (t := 46) rfl rfl rfl (.gskipU (t := 46) rfl rfl rfl (.gskipU (t := 46) rfl rfl rfl (.gk (.u (.pickT rfl rfl) (.nt (.condT rfl (.sr (.an rfl (.rt (.blk_r (.then_r (.then_r (.blk_r (.blk_r (.then_r ?_))))))))))))))))))))))))
    have hz : soundZ τ zx y subs = false := by rw [hsz, hsnd, sound_step hi2]; simp only [Bool.not_eq_true'] at h15_42; rw [h15_42]; rfl
    exact .dn rfl rfl ⟨by rw [hz], rfl⟩
   refine .kB (t := 41) rfl h15_42 (.grun (t := 42) rfl rfl rfl (.u (.fieldAddr rfl fo_37_0) (.grun (t := 42) rfl rfl rfl (.u (.ld rfl ag_3) (.grun (t := 42) rfl rfl rfl (.ui rfl rfl rfl (.grun (t := 42) rfl rfl rfl (.m rfl (.dec (t := 46) rfl (fun h15_46 => ?_) (fun h15_46 => ?_))))))))))
   ·refine .kDT (t := 45) rfl h15_46 (.grun (t := 46) rfl rfl rfl (.u (.fieldAddr rfl fo_37_7) (.grun (t := 46) rfl rfl rfl (.q (.as (v' := .slice (some ⟨bs, os, none⟩) subs.length csb) (by exact esub) (.ld rfl ag_35)) rfl (.grun (t := 46) rfl rfl rfl (.m rfl (.grun (t := 46) rfl rfl rfl (.q (.indexAddr rfl rfl el_35 (by omega)) rfl (.grun (t := 46) rfl rfl rfl (.u (.fieldAddr rfl fo_37_0) (.grun (t := 46) rfl rfl rfl (.q (.loadRd (sz := 8) (j := i * 8 + 0) (p := p) rfl ag_3 (by repeat' constructor) hrd (by omega) ((flatMap_cell (f := ptC) (sz := 8) (l := subs) (i := i) (k := 0) (fun _ _ => rfl) (by omega) (by decide)).trans rfl)) rfl (.grun (t := 46) rfl rfl rfl (.ui rfl rfl rfl (.grun (t := 42) rfl rfl rfl (.u (.pickT rfl rfl) (.u (.pickF rfl rfl) (.nt (.condN rfl (fun h55 => ?_) (fun h55 => ?_))))))))))))))))))))
    ·refine .sr (.an rfl (.rt (.blk_r (.then_r (.then_r (.blk_r (.blk_r (.then_r ?_))))))))
     have hz : soundZ τ zx y subs = false := by rw [hsz, hsnd, sound_step hi2]; rw [decide_eq_true h15_46, decide_eq_false h55]; simp
     exact .dn rfl rfl ⟨by rw [hz], rfl⟩
    refine .sk (.draw [8] [[0, 1, 2, 3, 4, 5, 6, 7, 8]] mixed (by kernel_rfl) (.g0 (.mv rfl rfl (.kv rfl (.fieldAddr rfl fo_37_7) (.kv rfl (.as (v' := .slice (some ⟨bs, os, none⟩) subs.length csb) (by exact esub) (.ld rfl ag_35)) (.mv rfl rfl (.kv rfl (.indexAddr rfl rfl el_35 (by omega)) (.kv rfl (.loadRdA (sz := 8) (j := i * 8) (k := 8) (p := p) (vs := ptC subs[i]) rfl ag_37 (by repeat' constructor) hrd (by simp) (by omega) (by omega) (flatMap_at (f := ptC) (sz := 8) (fun _ _ => rfl) (by omega))) (.kv rfl (.fieldAddr rfl fo_39_0) (.kv rfl (.ld rfl ag_3) (.hh rfl (.c Tryz.func79 [_, _, _] (rpart_spec u (partsZ τ zx (subs.take i)).1 subs[i] zx p hys (N + subs.length) hok (by omega))) ?_)))))))))))
    rintro v L' ⟨a15, c15, rfl, rfl⟩
    refine D.ph (.fin (.blk_n (.then_n (.region (.m rfl (.q (.add rfl rfl (by omega)) rfl (.an rfl ?_)))))))
    have htru : (findsZ (partsZ τ zx (subs.take i)).1 subs[i] && (!(decide (y.kind = 6)) || decide (subs[i].kind = 2))) = true := by have h1 : findsZ (partsZ τ zx (subs.take i)).1 subs[i] = true := (by simpa using h15_42); rw [h1, decide_eq_true (p := subs[i].kind = 2) h55]; simp
    refine .rfCast (x := u) (τ' := (partsZ τ zx (subs.take (i + 1))).1) (by repeat' constructor) (by rw [List.take_succ_eq_append_getElem hi2, parts_snoc]) ?_
    exact .rk (i + 1) (⟨by omega, by rw [hsnd, sound_step hi2, htru, Bool.true_and]⟩) (by omega) ⟨rfl, rfl, rfl, rfl, trivial⟩
   refine .kDF (t := 45) rfl h15_46 (.gk (.gk (.gk (.gk (.gk (.gk (.gk (.grun (t := 42) rfl rfl rfl (.u (.pickF rfl rfl) (.u (.pickF rfl rfl) (.nt (.condF rfl (.sk (.draw [8] [[0, 1, 2, 3, 4, 5, 6, 7, 8]] mixed (by kernel_rfl) (.g0 (.mv rfl rfl (.kv rfl (.fieldAddr rfl fo_37_7) (.kv rfl (.as (v' := .slice (some ⟨bs, os, none⟩) subs.length csb) (by exact esub) (.ld rfl ag_35)) (.mv rfl rfl (.kv rfl (.indexAddr rfl rfl el_35 (by omega)) (.kv rfl (.loadRdA (sz := 8) (j := i * 8) (k := 8) (p := p) (vs := ptC subs[i]) rfl ag_37 (by repeat' constructor) hrd (by simp) (by omega) (by omega) (flatMap_at (f := ptC) (sz := 8) (fun _ _ => rfl) (by omega))) (.kv rfl (.fieldAddr rfl fo_39_0) (.kv rfl (.ld rfl ag_3) (.hh rfl (.c Tryz.func79 [_, _, _] (rpart_spec u (partsZ τ zx (subs.take i)).1 subs[i] zx p hys (N + subs.length) hok (by omega))) ?_))))))))))))))))))))))))
   rintro v L' ⟨a15, c15, rfl, rfl⟩
   refine D.ph (.fin (.blk_n (.then_n (.region (.m rfl (.q (.add rfl rfl (by omega)) rfl (.an rfl ?_)))))))
   have htru : (findsZ (partsZ τ zx (subs.take i)).1 subs[i] && (!(decide (y.kind = 6)) || decide (subs[i].kind = 2))) = true := by have h1 : findsZ (partsZ τ zx (subs.take i)).1 subs[i] = true := (by simpa using h15_42); rw [h1, decide_eq_false h15_46]; simp
   refine .rfCast (x := u) (τ' := (partsZ τ zx (subs.take (i + 1))).1) (by repeat' constructor) (by rw [List.take_succ_eq_append_getElem hi2, parts_snoc]) ?_
   exact .rk (i + 1) (⟨by omega, by rw [hsnd, sound_step hi2, htru, Bool.true_and]⟩) (by omega) ⟨rfl, rfl, rfl, rfl, trivial⟩
  have hii : i = subs.length := by omega
  refine .exit (.then_e (.then_e (.blk_e (.blk_n (.then_n (.sr (.an rfl (.ret ?_))))))))
  have hz : soundZ τ zx y subs = true := by rw [hsz, hsnd, hii, List.drop_length]; rfl
  exact .dn rfl rfl ⟨by rw [hz], rfl⟩
 refine .condF rfl (.skip (.blk_n (.then_n (.sr (.an rfl (.ret ?_))))))
 have hz : soundZ τ zx y subs = true := by unfold soundZ; rw [if_neg (by omega), if_neg (by omega)]
 exact .dn rfl rfl ⟨by rw [hz], rfl⟩
end Go.Proofs.YtgppfpmmijbncaaGreatDoor
