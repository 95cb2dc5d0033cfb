/- Own work: slices.Compact at []int, out of the shelf's contract, for a slice that is owned. -/
import Derived.Test.YtnnbelmpbmfdnaaDoorSlSort
import Derived.Shelf.Slices.CompactI
import Derived.Shelf.Slices.Cells
namespace Go.Proofs.YtnnbelmpbmfdnaaDoor
open Go Go.Sort

abbrev compI (l : List Int) : List Int := Lib.compact l
theorem compact_fn {P : Program} {ρ : Go.Shelf.Ren} (LM : Lays2.n20 P ρ) (e : TypeId) (v : Value) (n : Nat) (xs : List Int) (hn : n < 4611686018427387904) :
    Fn P (ρ.f 20) #[v] [slR e 1 v n (xs.map vint)] fun u L => (∃ a c, u = .slice a (compI xs).length c) ∧ L = [slR e 1 u (compI xs).length ((compI xs).map vint)] := by
  intro F w hs
  have hs' : St ((fun h => ∃ y : List Value × (Nat × Nat) × (Option (Nat × Nat)), (y.2.2 = none ∧ v = .slice none 0 0 ∧ n = 0 ∧ xs = []) ∨ (∃ b cap, y.2.2 = some (b, cap) ∧ v = .slice (some ⟨b, 0, none⟩) n cap ∧ h b = some (.cells (List.toArray (xs.map vint ++ y.1)) e y.2.1) ∧ xs.length = n ∧ cap ≤ xs.length + y.1.length ∧ n ≤ cap ∧ nfz y.2.1 0 cap)) :: F) w := by
    refine sep_imp (fun h hp => ?_) hs
    rcases hp with ⟨h1, h2, h3⟩ | ⟨b, cap, rest, fr, h1, h2, h3, h4, h5, h6⟩
    · exact ⟨([], (0, 0), none), .inl ⟨rfl, h1, h2, by simpa using h3⟩⟩
    · exact ⟨(rest, fr, some (b, cap)), .inr ⟨b, cap, rfl, h1, h2, by simpa using h3, by simpa using h4, h5, by simpa using h6⟩⟩
  obtain ⟨⟨rest, fr, o⟩, h1, h2, hd, a1, a2, hp, hF⟩ := sep_ex hs'
  rcases hp with ⟨-, rfl, rfl, rfl⟩ | ⟨b, cap, -, rfl, p1, p2, p3, p4, p5⟩
  · refine (Any.slices_Compact_int_empty LM none 0 w).mono ?_
    rintro en w' ⟨rfl, rfl⟩
    have e0 : compI [] = [] := rfl
    exact ⟨_, _, ⟨⟨none, 0, by rw [e0]; rfl⟩, by rw [e0]; rfl⟩, rfl, hs, .refl _⟩
  · subst p2
    have hb := a1 _ _ p1
    have hH : Holds (Value.int .i64) w b 0 xs.toArray := by
      intro j hj
      have hj' : j < xs.length := by simpa using hj
      have hb' : w.heap[b]? = some (.cells (xs.map vint ++ rest).toArray e fr) := hb
      refine ⟨?_, ?_⟩
      · simp only [World.cell?, hb', Nat.zero_add, Option.isSome_none, Bool.false_eq_true, if_false]
        rw [List.getElem?_toArray, List.getElem?_append_left (by simpa using hj')]
        simp [hj']
      · have := p5 j (by omega) (by dsimp only at p3 p4 ⊢; omega)
        simp only [World.frozen?, hb', Nat.zero_add]
        simpa using this
    refine (Any.slices_Compact_int LM b 0 cap xs w hH (by omega) p4).mono ?_
    rintro en w' ⟨rfl, k, rfl⟩
    have hle := Lib.compact_length_le xs
    generalize hcs : Lib.compact xs = cs at hle
    have hcl : (cs ++ List.replicate (xs.length - cs.length) 0).length = xs.length := by rw [List.length_append, List.length_replicate]; omega
    refine ⟨_, _, ⟨⟨_, _, by unfold compI; rw [hcs]⟩, rfl⟩, rfl, ?_, ?_⟩
    · have h2b : h2 b = none := (hd b).resolve_left (by rw [p1]; simp)
      have hnew : (putRow (Value.int .i64) (Sort.ahead w k) b 0 (cs ++ List.replicate (xs.length - cs.length) 0).toArray).heap[b]? = some (.cells (putCells (Value.int .i64) 0 (cs ++ List.replicate (xs.length - cs.length) 0).toArray (xs.map vint ++ rest).toArray) e fr) := by
        have hb2 : w.heap[b]? = some (.cells (xs.map vint ++ rest).toArray e fr) := hb
        simp [putRow, mapBlock, Sort.ahead, Array.getElem?_modify, hb2, onCells]
      have hrow : (putCells (Value.int .i64) 0 (cs ++ List.replicate (xs.length - cs.length) 0).toArray (xs.map vint ++ rest).toArray) = (cs.map vint ++ ((List.replicate (xs.length - cs.length) (0 : Int)).map vint ++ rest)).toArray := by
        rw [← List.append_assoc, ← List.map_append]
        generalize cs ++ List.replicate (xs.length - cs.length) 0 = ts at hcl
        apply Array.ext_getElem?
        intro j
        simp only [putCells, Array.getElem?_mapIdx, List.getElem?_toArray, Nat.zero_le, true_and, Nat.zero_add, Nat.sub_zero, List.size_toArray]
        by_cases hj : j < xs.length
        · rw [List.getElem?_append_left (by simpa using hj), List.getElem?_append_left (by simpa [hcl] using hj)]
          simp [hj, hcl]
        · rw [List.getElem?_append_right (by simp; omega), List.getElem?_append_right (by simp [hcl]; omega)]
          simp [hj, hcl]
      refine ⟨fun c => if c = b then some (.cells (cs.map vint ++ ((List.replicate (xs.length - cs.length) (0 : Int)).map vint ++ rest)).toArray e fr) else none, h2, fun c => ?_, fun c o e => ?_, fun c o hc => ?_, ?_, hF⟩
      · by_cases e : c = b
        · exact .inr (e ▸ h2b)
        · exact .inl (if_neg e)
      · by_cases hc : c = b
        · subst hc
          dsimp only at e
          rw [if_pos rfl] at e
          obtain rfl := Option.some.inj e
          rw [← hrow]; exact hnew
        · simp [hc] at e
      · have hcb : c ≠ b := by rintro rfl; rw [h2b] at hc; cases hc
        have hold := a2 _ _ hc
        show (putRow (Value.int .i64) (Sort.ahead w k) b 0 _).heap[c]? = _
        have hold2 : w.heap[c]? = some o := hold
        simp [putRow, mapBlock, Sort.ahead, Array.getElem?_modify, Ne.symm hcb, hold2]
      · unfold compI; rw [hcs]
        refine .inr ⟨b, cap, _, fr, rfl, if_pos rfl, by simp, ?_, by omega, by simpa using p5⟩
        simp at p3 ⊢; omega
    · refine ⟨rfl, rfl, rfl, ?_⟩
      show w.heap.size ≤ (putRow (Value.int .i64) (Sort.ahead w k) b 0 _).heap.size
      simp [putRow, mapBlock, Sort.ahead]
end Go.Proofs.YtnnbelmpbmfdnaaDoor
