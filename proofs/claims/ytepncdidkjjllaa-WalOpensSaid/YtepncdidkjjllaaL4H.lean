/- Own work: a disk keeps what its log knows, as long as it lives. -/
import Derived.Test.YtepncdidkjjllaaL4G
namespace Go.Proofs.Ytepncdidkjjllaa
open Go

theorem half_pos {δ : Dk} (h : 2 ≤ δ.now.length) : 0 ≤ halfZ δ := by unfold halfZ; omega
theorem lay_now : ∀ (f : Nat) (δ : Dk) (area : Int) (all : Bs) (i0 : Nat), Al δ → 0 ≤ area ∧ area ≤ 1 → 2 ≤ δ.now.length → (all.length : Int) ≤ 64 * halfZ δ → all.length < (f + i0) * 64 + 64 →
    (∀ k, k < 2 → (layF f δ area all i0).1.now.getD k [] = δ.now.getD k []) ∧
    (∀ i : Nat, (i : Int) < halfZ δ → (layF f δ area all i0).1.now.getD (2 + area * halfZ δ + (i : Int)).toNat [] = if i0 ≤ i ∧ i * 64 < all.length ∧ i < f + i0 then laySec all i else δ.now.getD (2 + area * halfZ δ + (i : Int)).toNat []) := by
  intro f
  induction f with
  | zero =>
    intro δ area all i0 _ _ _ _ hf
    refine ⟨fun k _ => rfl, fun i hi => ?_⟩
    rw [if_neg (by omega)]; rfl
  | succ f ih =>
    intro δ area all i0 h ha hn hl hf
    simp only [layF]
    split
    · rename_i hi
      have hr := lay_in ha hn hl hi
      obtain ⟨w1, w2, w3⟩ := al_write h (n := 2 + area * halfZ δ + i0) (s := laySec all i0) ⟨by omega, hr.2⟩ (laySec_len _ _)
      rw [if_neg (by rw [w1]; decide)]
      have hlen : (δ.write (2 + area * halfZ δ + i0) (laySec all i0)).1.now.length = δ.now.length := (write_keeps _ _ _).1
      have hhz := halfZ_of hlen
      obtain ⟨q1, q2⟩ := ih _ area all (i0 + 1) w2 ha (by rw [hlen]; exact hn) (by rw [hhz]; exact hl) (by omega)
      rw [hhz] at q2
      refine ⟨fun k hk => ?_, fun i hi2 => ?_⟩
      · rw [q1 k hk, w3]
        simp only [List.getD_eq_getElem?_getD]
        rw [List.getElem?_set_ne (by omega)]
      · rw [q2 i hi2, w3]
        by_cases hc : i = i0
        · subst hc
          rw [if_neg (by omega), if_pos ⟨Nat.le_refl _, hi, by omega⟩]
          simp only [List.getD_eq_getElem?_getD]
          rw [List.getElem?_set_self (by omega)]; rfl
        · have hne : (2 + area * halfZ δ + (i0 : Int)).toNat ≠ (2 + area * halfZ δ + (i : Int)).toNat := by
            have := half_pos (δ := δ) hn
            have hm : 0 ≤ area * halfZ δ := Int.mul_nonneg ha.1 this
            omega
          have e : (δ.now.set (2 + area * halfZ δ + (i0 : Int)).toNat (laySec all i0)).getD (2 + area * halfZ δ + (i : Int)).toNat [] = δ.now.getD (2 + area * halfZ δ + (i : Int)).toNat [] := by
            simp only [List.getD_eq_getElem?_getD]
            rw [List.getElem?_set_ne hne]
          rw [e]
          by_cases hd : i0 + 1 ≤ i ∧ i * 64 < all.length ∧ i < f + (i0 + 1)
          · rw [if_pos hd, if_pos (by omega)]
          · rw [if_neg hd, if_neg (by omega)]
    · rename_i hi
      refine ⟨fun k _ => rfl, fun i hi2 => ?_⟩
      rw [if_neg (by omega)]
def chunk (L : Bs) (i : Nat) : Bs := (L.drop (i * 64)).take 64
/-- The area holds these bytes. -/
def Area (δ : Dk) (area : Int) (L : Bs) : Prop := ∀ i : Nat, (i : Int) < halfZ δ → chunk L i <+: δ.now.getD (2 + area * halfZ δ + (i : Int)).toNat []
theorem chunk_pre {L M : Bs} (h : L <+: M) (i : Nat) : chunk L i <+: chunk M i := by
  obtain ⟨r, rfl⟩ := h
  unfold chunk
  rw [List.drop_append, List.take_append]
  exact List.prefix_append _ _
theorem chunk_lay (L : Bs) (i : Nat) : chunk L i <+: laySec L i := List.prefix_append _ _
theorem chunk_nil {L : Bs} {i : Nat} (h : ¬ i * 64 < L.length) : chunk L i = [] := by
  unfold chunk; rw [List.drop_eq_nil_of_le (by omega)]; rfl
theorem chunk_app {L r : Bs} {i : Nat} (h : i * 64 + 64 ≤ L.length) : chunk (L ++ r) i = chunk L i := by
  unfold chunk
  rw [List.drop_append_of_le_length (by omega), List.take_append_of_le_length (by rw [List.length_drop]; omega)]
theorem Area.less {δ : Dk} {area : Int} {L M : Bs} (h : Area δ area M) (hp : L <+: M) : Area δ area L := fun i hi => (chunk_pre hp i).trans (h i hi)
theorem area_append {δ : Dk} {area : Int} {L r : Bs} (h : Al δ) (ha : 0 ≤ area ∧ area ≤ 1) (hn : 2 ≤ δ.now.length) (hl : ((L ++ r).length : Int) ≤ 64 * halfZ δ) (hA : Area δ area L) : Area (layZ δ area (L ++ r) L.length).1 area (L ++ r) := by
  have hlen := (layZ_keeps δ area (L ++ r) L.length).1
  have q := (lay_now ((L ++ r).length + 1) δ area (L ++ r) (L.length / 64) h ha hn hl (by omega)).2
  intro i hi
  rw [halfZ_of hlen] at hi ⊢
  have := q i hi
  show chunk (L ++ r) i <+: (layF _ _ _ _ _).1.now.getD _ []
  rw [this]
  split
  · exact chunk_lay _ _
  · rename_i hc
    by_cases h1 : i * 64 < (L ++ r).length
    · rw [chunk_app (by omega)]; exact hA i hi
    · rw [chunk_nil h1]; exact List.nil_prefix
theorem area_fresh {δ : Dk} {area : Int} {L : Bs} (h : Al δ) (ha : 0 ≤ area ∧ area ≤ 1) (hn : 2 ≤ δ.now.length) (hl : (L.length : Int) ≤ 64 * halfZ δ) : Area (layZ δ area L 0).1 area L := by
  have := area_append (L := []) (r := L) h ha hn hl (fun i _ => by rw [chunk_nil (by simp)]; exact List.nil_prefix)
  exact this
theorem lay_marks {δ : Dk} {area : Int} {all : Bs} (frm : Nat) (h : Al δ) (ha : 0 ≤ area ∧ area ≤ 1) (hn : 2 ≤ δ.now.length) (hl : (all.length : Int) ≤ 64 * halfZ δ) (k : Nat) (hk : k < 2) : (layZ δ area all frm).1.now.getD k [] = δ.now.getD k [] :=
  (lay_now (all.length + 1) δ area all (frm / 64) h ha hn hl (by omega)).1 k hk
theorem area_pre {δ : Dk} (hok : δ.Ok) (hn : 2 ≤ δ.now.length) {area : Int} (ha : 0 ≤ area ∧ area ≤ 1) {L : Bs} (hA : Area δ area L) : ∀ n : Nat, (n : Int) ≤ halfZ δ → L.take (64 * n) <+: areaZ δ area n := by
  intro n
  induction n with
  | zero => intro _; simp
  | succ n ih =>
    intro hn2
    have h1 := ih (by omega)
    have hl := areaZ_len hok hn ha n (by omega)
    rw [areaZ_succ]
    by_cases hc : 64 * n ≤ L.length
    · have e1 : L.take (64 * n) = areaZ δ area n := List.IsPrefix.eq_of_length h1 (by rw [List.length_take, hl]; omega)
      have e2 : L.take (64 * (n + 1)) = L.take (64 * n) ++ chunk L n := by
        rw [show 64 * (n + 1) = 64 * n + 64 by omega, List.take_add, show 64 * n = n * 64 by omega]; rfl
      rw [e2, e1]
      obtain ⟨t, ht⟩ := hA n (by omega)
      exact ⟨t, by rw [List.append_assoc, ht]⟩
    · rw [List.take_of_length_le (by omega)] at h1 ⊢
      exact h1.trans (List.prefix_append _ _)
theorem area_take {δ : Dk} (hok : δ.Ok) (hn : 2 ≤ δ.now.length) {area : Int} (ha : 0 ≤ area ∧ area ≤ 1) {L : Bs} (hl : (L.length : Int) ≤ 64 * halfZ δ) (hA : Area δ area L) : (areaZ δ area ((L.length + 63) / 64)).take L.length = L := by
  have h1 := area_pre hok hn ha hA ((L.length + 63) / 64) (by omega)
  rw [List.take_of_length_le (by omega)] at h1
  exact (List.prefix_iff_eq_take.1 h1).symm
end Go.Proofs.Ytepncdidkjjllaa
