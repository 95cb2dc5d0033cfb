/- Own work: WatchOnce, WatchApart, WatchGone in plain words. -/
import Derived.Test.YtnnbelmpbmfdnaaDoorWt2
namespace Go.Proofs.YtnnbelmpbmfdnaaDoor
open Go

theorem add_cases (ω : List Wt) (s k : Int) (p : Bs) : addW ω s k p = (ω, 1) ∨ addW ω s k p = (ω, 0) ∨ addW ω s k p = (ω, 91) ∨ (¬ s < 1 ∧ isWt k p ∧ (s, (k, p)) ∉ ω ∧ addW ω s k p = (ω ++ [(s, (k, p))], 0)) := by
  unfold addW
  split
  · exact .inl rfl
  · rename_i h
    split
    · exact .inr (.inl rfl)
    · rename_i h2
      split
      · exact .inr (.inr (.inl rfl))
      · have h1 : ¬ s < 1 := fun e => h (.inl e)
        have h3 : isWt k p := Decidable.byContradiction fun e => h (.inr e)
        exact .inr (.inr (.inr ⟨h1, h3, h2, rfl⟩))
theorem add_len (ω : List Wt) (s k : Int) (p : Bs) : (addW ω s k p).1.length ≤ ω.length + 1 := by
  rcases add_cases ω s k p with h | h | h | ⟨-, -, -, h⟩ <;> rw [h] <;> simp
theorem add_mem {ω : List Wt} {s k : Int} {p : Bs} {w : Wt} (h : w ∈ (addW ω s k p).1) : w ∈ ω ∨ w = (s, (k, p)) := by
  rcases add_cases ω s k p with e | e | e | ⟨-, -, -, e⟩ <;> rw [e] at h
  · exact .inl h
  · exact .inl h
  · exact .inl h
  · rcases List.mem_append.1 h with h | h
    · exact .inl h
    · exact .inr (by simpa using h)
/-- Filters by session. -/
theorem filt_cnt {ω : List Wt} {f : Wt → Bool} {s : Int} (h : ∀ w : Wt, w.1 = s → f w = true) : cntW (ω.filter f) s = cntW ω s := by
  unfold cntW
  rw [List.filter_filter]
  congr 1
  refine List.filter_congr fun w _ => ?_
  by_cases hs : w.1 = s
  · simp [hs, h w hs]
  · simp [hs]
theorem filt_add {ω : List Wt} {f : Wt → Bool} {s k : Int} {p : Bs} (h : ∀ w : Wt, w.1 = s → f w = true) : (addW (ω.filter f) s k p).1 = ((addW ω s k p).1.filter f) ∧ (addW (ω.filter f) s k p).2 = (addW ω s k p).2 := by
  have hm : (s, (k, p)) ∈ ω.filter f ↔ (s, (k, p)) ∈ ω := by
    rw [List.mem_filter]; exact ⟨fun g => g.1, fun g => ⟨g, h _ rfl⟩⟩
  unfold addW
  rw [filt_cnt h]
  by_cases h1 : s < 1 ∨ ¬ isWt k p
  · rw [if_pos h1, if_pos h1]; exact ⟨rfl, rfl⟩
  rw [if_neg h1, if_neg h1]
  by_cases h2 : (s, (k, p)) ∈ ω
  · rw [if_pos (hm.2 h2), if_pos h2]; exact ⟨rfl, rfl⟩
  rw [if_neg (fun g => h2 (hm.1 g)), if_neg h2]
  by_cases h3 : cntW ω s = 64
  · rw [if_pos h3, if_pos h3]; exact ⟨rfl, rfl⟩
  rw [if_neg h3, if_neg h3]
  refine ⟨?_, rfl⟩
  dsimp only
  rw [List.filter_append]
  simp [h (s, (k, p)) rfl]
theorem filt_out {ω : List Wt} {f : Wt → Bool} {s k : Int} {p : Bs} (h : ∀ w : Wt, w.1 = s → f w = false) : (addW ω s k p).1.filter f = ω.filter f := by
  rcases add_cases ω s k p with e | e | e | ⟨-, -, -, e⟩ <;> rw [e]
  dsimp only
  rw [List.filter_append]
  simp [h (s, (k, p)) rfl]
theorem left_filt (ω : List Wt) (f : Wt → Bool) (k : Int) (p : Bs) : leftW (ω.filter f) k p = (leftW ω k p).filter f := by
  unfold leftW
  rw [List.filter_filter, List.filter_filter]
  exact List.filter_congr fun w _ => Bool.and_comm _ _
theorem left_len (ω : List Wt) (k : Int) (p : Bs) : (leftW ω k p).length ≤ ω.length := List.length_filter_le _ _
theorem left_mem {ω : List Wt} {k : Int} {p : Bs} {w : Wt} (h : w ∈ leftW ω k p) : w ∈ ω := (List.mem_filter.1 h).1
theorem cnt_none {ω : List Wt} {s : Int} (h : ∀ w ∈ ω, w.1 ≠ s) : cntW ω s = 0 := by
  unfold cntW
  rw [List.length_eq_zero_iff, List.filter_eq_nil_iff]
  intro w hw; simpa using h w hw
theorem cnt_all {ω : List Wt} {s : Int} (h : ∀ w ∈ ω, w.1 = s) : cntW ω s = ω.length := by
  unfold cntW
  rw [List.filter_eq_self.2 (fun w hw => by simpa using h w hw)]
/-! ### Told of one session alone -/
theorem tell_one {ω : List Wt} {s : Int} (h : ∀ w ∈ ω, w.1 = s) (k : Int) (p : Bs) : (tellW ω k p = [] ∧ leftW ω k p = ω) ∨ (tellW ω k p = [s] ∧ ∃ w ∈ ω, meetW k p w = true) := by
  by_cases hm : ∃ w ∈ ω, meetW k p w = true
  · right
    refine ⟨sorted_ext (tell_sorted _ _ _) (by simp) fun x => ?_, hm⟩
    rw [tell_mem]
    constructor
    · rintro ⟨w, hw, -, rfl⟩; simp [h w hw]
    · intro hx
      obtain ⟨w, hw, hm⟩ := hm
      exact ⟨w, hw, hm, by have hx : x = s := (by simpa using hx); rw [h w hw, hx]⟩
  · left
    refine ⟨?_, ?_⟩
    · rw [List.eq_nil_iff_forall_not_mem]
      intro x hx
      obtain ⟨w, hw, hm2, -⟩ := tell_mem.1 hx
      exact hm ⟨w, hw, hm2⟩
    · unfold leftW
      exact List.filter_eq_self.2 fun w hw => by
        cases e : meetW k p w with
        | true => exact absurd ⟨w, hw, e⟩ hm
        | false => rfl
theorem left_again (ω : List Wt) (k : Int) (p : Bs) : tellW (leftW ω k p) k p = [] ∧ leftW (leftW ω k p) k p = leftW ω k p := by
  have hno : ∀ w ∈ leftW ω k p, meetW k p w = false := fun w hw => by
    have := (List.mem_filter.1 hw).2; simpa using this
  refine ⟨?_, ?_⟩
  · rw [List.eq_nil_iff_forall_not_mem]
    intro x hx
    obtain ⟨w, hw, hm2, -⟩ := tell_mem.1 hx
    rw [hno w hw] at hm2; cases hm2
  · exact List.filter_eq_self.2 fun w hw => by rw [hno w hw]; rfl
theorem nodup_range3 {l : List Int} (hn : l.Nodup) (h : ∀ x ∈ l, x = 1 ∨ x = 2 ∨ x = 3) : l.length ≤ 3 :=
  sub_len (m := [1, 2, 3]) hn fun x hx => by have := h x hx; simp; omega
theorem filt_sum {α : Type} (f : α → Bool) (l : List α) : (l.filter f).length + (l.filter fun x => !f x).length = l.length := by
  induction l with
  | nil => rfl
  | cons a l ih => cases h : f a <;> simp [h] <;> omega
/-- At most three watches of one session meet an event; at least one, if it is told. -/
theorem met_few {ω : List Wt} {s k : Int} {p : Bs} (hn : ω.Nodup) (h : ∀ w ∈ ω, w.1 = s ∧ 1 ≤ w.2.1 ∧ w.2.1 ≤ 3) : ω.length - (leftW ω k p).length ≤ 3 ∧ (leftW ω k p).length ≤ ω.length ∧ ((∃ w ∈ ω, meetW k p w = true) → (leftW ω k p).length < ω.length) := by
  have hsum : (ω.filter (meetW k p)).length + (leftW ω k p).length = ω.length :=
    filt_sum (meetW k p) ω
  have hmet : (ω.filter (meetW k p)).length ≤ 3 := by
    have : ((ω.filter (meetW k p)).map (·.2.1)).length ≤ 3 := by
      refine nodup_range3 ?_ ?_
      · refine List.pairwise_map.2 (List.Pairwise.imp_of_mem ?_ (hn.filter _))
        intro x y hx hy hne e
        apply hne
        have hx2 := List.mem_filter.1 hx
        have hy2 := List.mem_filter.1 hy
        have a1 := h x hx2.1
        have a2 := h y hy2.1
        have b1 := hx2.2
        have b2 := hy2.2
        simp [meetW] at b1 b2
        obtain ⟨x1, x2, x3⟩ := x
        obtain ⟨y1, y2, y3⟩ := y
        dsimp only at *
        rw [a1.1, a2.1, e, b1.1, b2.1]
      · intro x hx
        obtain ⟨w, hw, rfl⟩ := List.mem_map.1 hx
        have := h w (List.mem_filter.1 hw).1
        omega
    simpa using this
  refine ⟨by omega, by omega, fun ⟨w, hw, hm⟩ => ?_⟩
  have : 0 < (ω.filter (meetW k p)).length := List.length_pos_of_mem (List.mem_filter.2 ⟨hw, hm⟩)
  omega
/-! ### With others -/
theorem tell_only {ω : List Wt} (k : Int) (p : Bs) (s : Int) : tellW (ω.filter fun w => decide (w.1 = s)) k p = if s ∈ tellW ω k p then [s] else [] := by
  split
  · rename_i h
    refine sorted_ext (tell_sorted _ _ _) (by simp) fun x => ?_
    rw [tell_mem]
    constructor
    · rintro ⟨w, hw, -, rfl⟩
      have := (List.mem_filter.1 hw).2
      simpa using this
    · intro hx
      have hx : x = s := by simpa using hx
      subst hx
      obtain ⟨w, hw, hm, rfl⟩ := tell_mem.1 h
      exact ⟨w, List.mem_filter.2 ⟨hw, by simp⟩, hm, rfl⟩
  · rename_i h
    rw [List.eq_nil_iff_forall_not_mem]
    intro x hx
    obtain ⟨w, hw, hm, -⟩ := tell_mem.1 hx
    obtain ⟨hw1, hw2⟩ := List.mem_filter.1 hw
    exact h (tell_mem.2 ⟨w, hw1, hm, by simpa using hw2⟩)
end Go.Proofs.YtnnbelmpbmfdnaaDoor
