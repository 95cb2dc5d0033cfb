/- Own work: slices.Sort at []int, out of the shelf's contract, for a slice that is owned. -/
import Derived.Test.YtnnbelmpbmfdnaaDoorSlKeys
import Derived.Sort.OwnSortedInts
namespace Go.Proofs.YtnnbelmpbmfdnaaDoor
open Go Go.Sort

theorem sortI_perm (l : List Int) : (sortI l).Perm l := List.mergeSort_perm _ _
theorem sortI_length (l : List Int) : (sortI l).length = l.length := (sortI_perm l).length_eq
theorem sortI_mem {l : List Int} {x : Int} : x ∈ sortI l ↔ x ∈ l := (sortI_perm l).mem_iff
theorem sort_fn {P : Program} {ρ : Go.Shelf.Ren} (LM : SlLaysM.n5 P ρ) (e : TypeId) (v : Value) (n : Nat) (xs : List Int) (hn : n < 4611686018427387904) :
    Fn P (ρ.f 5) #[v] [slR e 1 v n (xs.map vint)] fun u L => u = .tuple #[] ∧ L = [slR e 1 v n ((sortI xs).map vint)] := by
  intro F w hs
  have hs' : St ((fun h => ∃ y : List Value × (Nat × Nat) × (Option (Nat × Nat)), (y.2.2 = none ∧ v = .slice none 0 0 ∧ n = 0 ∧ xs = []) ∨ (∃ b cap, y.2.2 = some (b, cap) ∧ v = .slice (some ⟨b, 0, none⟩) n cap ∧ h b = some (.cells (List.toArray (xs.map vint ++ y.1)) e y.2.1) ∧ xs.length = n ∧ cap ≤ xs.length + y.1.length ∧ n ≤ cap ∧ nfz y.2.1 0 cap)) :: F) w := by
    refine sep_imp (fun h hp => ?_) hs
    rcases hp with ⟨h1, h2, h3⟩ | ⟨b, cap, rest, fr, h1, h2, h3, h4, h5, h6⟩
    · exact ⟨([], (0, 0), none), .inl ⟨rfl, h1, h2, by simpa using h3⟩⟩
    · exact ⟨(rest, fr, some (b, cap)), .inr ⟨b, cap, rfl, h1, h2, by simpa using h3, by simpa using h4, h5, by simpa using h6⟩⟩
  obtain ⟨⟨rest, fr, o⟩, h1, h2, hd, a1, a2, hp, hF⟩ := sep_ex hs'
  rcases hp with ⟨-, rfl, rfl, rfl⟩ | ⟨b, cap, -, rfl, p1, p2, p3, p4, p5⟩
  · refine (AnyM.slices_Sort_int_none LM none 0 w).mono ?_
    rintro e w' ⟨rfl, rfl⟩
    refine ⟨_, _, ⟨rfl, rfl⟩, rfl, ?_, .refl _⟩
    have e : sortI [] = [] := List.eq_nil_of_length_eq_zero (List.mergeSort_perm _ _).length_eq
    rw [e]; exact hs
  · subst p2
    have hb := a1 _ _ p1
    have hlt : b < w.heap.size := by
      rcases Nat.lt_or_ge b w.heap.size with h | h
      · exact h
      · simp [Array.getElem?_eq_none h] at hb
    have hH : Holds (Value.int .i64) w b 0 xs.toArray := by
      intro j hj
      have hj' : j < xs.length := by simpa using hj
      have hb' : w.heap[b]? = some (.cells (xs.map vint ++ rest).toArray e fr) := hb
      refine ⟨?_, ?_⟩
      · simp only [World.cell?, hb', Nat.zero_add, Option.isSome_none, Bool.false_eq_true, if_false]
        rw [List.getElem?_toArray, List.getElem?_append_left (by simpa using hj')]
        simp [hj']
      · have := p5 j (by omega) (by dsimp only at p3 p4 ⊢; omega)
        simp only [World.frozen?, hb', Nat.zero_add]
        simpa using this
    refine (AnyM.slices_Sort_int LM b 0 cap xs w hH hlt hn).mono ?_
    rintro en w' ⟨rfl, k, os, rfl⟩
    refine ⟨_, _, ⟨rfl, rfl⟩, rfl, ?_, ?_⟩
    · have h2b : h2 b = none := (hd b).resolve_left (by rw [p1]; simp)
      have hsz : (sortI xs).length = xs.length := by rw [show (sortI xs).length = xs.length from (List.mergeSort_perm _ _).length_eq]
      have hnew : (grow (putRow (Value.int .i64) (Sort.ahead w k) b 0 (sortI xs).toArray) os).heap[b]? = some (.cells (putCells (Value.int .i64) 0 (sortI xs).toArray (xs.map vint ++ rest).toArray) e fr) := heap_sortedI _ hb
      have hrow : (putCells (Value.int .i64) 0 (sortI xs).toArray (xs.map vint ++ rest).toArray) = ((sortI xs).map vint ++ rest).toArray := by
        apply Array.ext_getElem?
        intro j
        simp only [putCells, Array.getElem?_mapIdx, List.getElem?_toArray, Nat.zero_le, true_and, Nat.zero_add, Nat.sub_zero, List.size_toArray]
        by_cases hj : j < xs.length
        · rw [List.getElem?_append_left (by simpa using hj), List.getElem?_append_left (by simpa [hsz] using hj)]
          simp [hj, hsz]
        · rw [List.getElem?_append_right (by simp; omega), List.getElem?_append_right (by simp [hsz]; omega)]
          simp [hj, hsz]
      refine ⟨fun c => if c = b then some (.cells ((sortI xs).map vint ++ rest).toArray e fr) else none, h2, fun c => ?_, fun c o e => ?_, fun c o hc => ?_, ?_, hF⟩
      · by_cases e : c = b
        · exact .inr (e ▸ h2b)
        · exact .inl (if_neg e)
      · by_cases hc : c = b
        · subst hc; simp at e; subst e; rw [← hrow]; exact hnew
        · simp [hc] at e
      · have hcb : c ≠ b := by rintro rfl; rw [h2b] at hc; cases hc
        have hold := a2 _ _ hc
        have hclt : c < w.heap.size := by
          rcases Nat.lt_or_ge c w.heap.size with h | h
          · exact h
          · simp [Array.getElem?_eq_none h] at hold
        have := (grownBy_sortedI (w := w) (g := b) (n := k) (os := os) (sortI xs).toArray).block c hclt (fun e => hcb (by simpa using e))
        show (grow (putRow (Value.int .i64) (Sort.ahead w k) b 0 (sortI xs).toArray) os).heap[c]? = _
        rw [this]; exact hold
      · exact .inr ⟨b, cap, rest, fr, rfl, if_pos rfl, by simp [hsz], by simpa [hsz] using p3, p4, by simpa using p5⟩
    · refine ⟨rfl, rfl, rfl, ?_⟩
      show w.heap.size ≤ ((putRow (Value.int .i64) (Sort.ahead w k) b 0 _).heap ++ os).size
      simp [putRow, mapBlock, Sort.ahead]
end Go.Proofs.YtnnbelmpbmfdnaaDoor
