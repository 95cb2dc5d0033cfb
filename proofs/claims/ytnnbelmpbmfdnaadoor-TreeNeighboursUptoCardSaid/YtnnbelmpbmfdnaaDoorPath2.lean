/- Own work: what stands ahead of a path's last name, and below it: plain. -/
import Derived.Test.YtnnbelmpbmfdnaaDoorApi
namespace Go.Proofs.YtnnbelmpbmfdnaaDoor
open Go

def lidxTo (p : Bs) : Nat → Int
  | 0 => -1
  | n + 1 => if p.getD n 0 = 47 then (n : Int) else lidxTo p n
def lidxZ (p : Bs) : Int := lidxTo p p.length
def dnL (n : Nat) : Nat → Int
  | 0 => (n : Int) - 1
  | k + 1 => dnL n k - 1
theorem dnL_eq (n k : Nat) : dnL n k = (n : Int) - 1 - k := by
  induction k with
  | zero => unfold dnL; omega
  | succ k ih => unfold dnL; omega
theorem lidxTo_range (p : Bs) (n : Nat) : -1 ≤ lidxTo p n ∧ lidxTo p n < n := by
  induction n with
  | zero => simp [lidxTo]
  | succ n ih =>
    unfold lidxTo
    split <;> omega
theorem lidx_range (p : Bs) : -1 ≤ lidxZ p ∧ lidxZ p < p.length := lidxTo_range p _
theorem lidxTo_no {p : Bs} : ∀ {n : Nat}, (∀ i, i < n → p.getD i 0 ≠ 47) → lidxTo p n = -1
  | 0, _ => rfl
  | n + 1, h => by
    unfold lidxTo
    rw [if_neg (h n (by omega)), lidxTo_no (fun i hi => h i (by omega))]
theorem lidx_none {p : Bs} (h : (47 : UInt8) ∉ p) : lidxZ p = -1 := by
  refine lidxTo_no fun i hi e => h ?_
  rw [List.getD_eq_getElem?_getD, List.getElem?_eq_getElem hi, Option.getD_some] at e
  rw [← e]; exact List.getElem_mem hi
theorem lidxTo_at {p : Bs} {k : Nat} (hk : p.getD k 0 = 47) : ∀ n, k < n → (∀ i, k < i → i < n → p.getD i 0 ≠ 47) → lidxTo p n = k
  | 0, h, _ => by omega
  | n + 1, h, hno => by
    unfold lidxTo
    by_cases e : n = k
    · subst e; rw [if_pos hk]
    · rw [if_neg (hno n (by omega) (by omega))]
      exact lidxTo_at hk n (by omega) fun i h1 h2 => hno i h1 (by omega)
theorem lidx_cut {a b : Bs} (h : (47 : UInt8) ∉ b) : lidxZ (a ++ 47 :: b) = a.length := by
  refine lidxTo_at ?_ _ (by simp) fun i h1 h2 e => h ?_
  · rw [List.getD_eq_getElem?_getD, List.getElem?_append_right (Nat.le_refl _)]; simp
  · rw [List.getD_eq_getElem?_getD, List.getElem?_append_right (by omega)] at e
    obtain ⟨j, rfl⟩ : ∃ j, i = a.length + (j + 1) := ⟨i - a.length - 1, by omega⟩
    simp at h2
    rw [show a.length + (j + 1) - a.length = j + 1 by omega, List.getElem?_cons_succ, List.getElem?_eq_getElem (by omega), Option.getD_some] at e
    rw [← e]; exact List.getElem_mem (by omega)
def parentZ (p : Bs) : Bs := if lidxZ p < 0 ∨ p = [47] then [] else if lidxZ p = 0 then [47] else p.take (lidxZ p).toNat
def baseZ (p : Bs) : Bs := p.drop (lidxZ p + 1).toNat
def sfx (q s : Bs) : Prop := q.length ≤ s.length ∧ s.drop (s.length - q.length) = q
instance (q s : Bs) : Decidable (sfx q s) := inferInstanceAs (Decidable (_ ∧ _))
def trimZ (s q : Bs) : Bs := if sfx q s then s.take (s.length - q.length) else s
def kidZ (p name : Bs) : Bs := (if p = [47] then [47] else p ++ [47]) ++ name
def pfx (q s : Bs) : Prop := s.take q.length = q
instance (q s : Bs) : Decidable (pfx q s) := inferInstanceAs (Decidable (_ = _))
def underZ (p q : Bs) : Prop := pfx (kidZ q []) p ∧ p ≠ kidZ q []
instance (p q : Bs) : Decidable (underZ p q) := inferInstanceAs (Decidable (_ ∧ _))
theorem trim_nil (s : Bs) : trimZ s [] = s := by
  unfold trimZ sfx
  simp
theorem trim_len (s q : Bs) : (trimZ s q).length ≤ s.length := by
  unfold trimZ
  split
  · rw [List.length_take]; omega
  · exact Nat.le_refl _
theorem byte_eq {c d : UInt8} (h : (c.toNat : Int) = (d.toNat : Int)) : c = d := UInt8.toNat_inj.1 (by omega)
theorem trim_root : trimZ [47] [47] = [] := by decide
theorem kid_trim (p name : Bs) : trimZ p (if p = [47] then [47] else []) ++ [47] ++ name = kidZ p name := by
  unfold kidZ
  by_cases h : p = [47]
  · subst h; rw [if_pos rfl, if_pos rfl, trim_root]; rfl
  · rw [if_neg h, if_neg h, trim_nil]
theorem parent_len (p : Bs) : (parentZ p).length ≤ max p.length 1 := by
  unfold parentZ
  split
  · simp
  · split
    · simp; omega
    · rw [List.length_take]; omega
theorem base_len (p : Bs) : (baseZ p).length ≤ p.length := by
  unfold baseZ; rw [List.length_drop]; omega
theorem kid_len (p name : Bs) : (kidZ p name).length ≤ p.length + 1 + name.length := by
  unfold kidZ
  split
  · simp; omega
  · simp; omega
/-- A path's last name. -/
theorem cut_last {p : Bs} (h : 0 ≤ lidxZ p) : p = p.take (lidxZ p).toNat ++ 47 :: p.drop ((lidxZ p).toNat + 1) ∧ (47 : UInt8) ∉ p.drop ((lidxZ p).toNat + 1) := by
  have key : ∀ n, n ≤ p.length → 0 ≤ lidxTo p n → p.getD (lidxTo p n).toNat 0 = 47 ∧ ∀ i, (lidxTo p n).toNat < i → i < n → p.getD i 0 ≠ 47 := by
    intro n
    induction n with
    | zero => intro _ h; simp [lidxTo] at h
    | succ n ih =>
      intro hn h
      unfold lidxTo at h ⊢
      split
      · rename_i e
        refine ⟨by simpa using e, fun i h1 h2 => ?_⟩
        simp at h1; omega
      · rename_i e
        rw [if_neg e] at h
        obtain ⟨g1, g2⟩ := ih (by omega) h
        refine ⟨g1, fun i h1 h2 => ?_⟩
        by_cases hi : i = n
        · subst hi; exact e
        · exact g2 i h1 (by omega)
  obtain ⟨g1, g2⟩ := key p.length (Nat.le_refl _) h
  have hr := lidx_range p
  have hlt : (lidxZ p).toNat < p.length := by omega
  refine ⟨?_, fun hm => ?_⟩
  · have e : p[(lidxZ p).toNat] = 47 := by
      have : p.getD (lidxZ p).toNat 0 = 47 := g1
      rw [List.getD_eq_getElem?_getD, List.getElem?_eq_getElem hlt, Option.getD_some] at this
      exact this
    have h2 := List.take_append_drop (lidxZ p).toNat p
    rw [List.drop_eq_getElem_cons hlt, e] at h2
    exact h2.symm
  · obtain ⟨i, hi, e⟩ := List.mem_iff_getElem.1 hm
    rw [List.length_drop] at hi
    rw [List.getElem_drop] at e
    refine g2 ((lidxZ p).toNat + 1 + i) (by show (lidxZ p).toNat < _; omega) (by omega) ?_
    rw [List.getD_eq_getElem?_getD, List.getElem?_eq_getElem (by omega), Option.getD_some]
    exact e
end Go.Proofs.YtnnbelmpbmfdnaaDoor
