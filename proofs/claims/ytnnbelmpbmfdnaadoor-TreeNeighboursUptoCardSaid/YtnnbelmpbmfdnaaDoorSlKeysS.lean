/- Own work: 'slices.Sorted(maps.Keys(m))' and slices.Sort at string keys, out of the kit's contracts, in the words of SlCore. -/
import Derived.Test.YtnnbelmpbmfdnaaDoorSlSort
import Derived.Test.YtnnbelmpbmfdnaaDoorPath
import Derived.Sort.OwnSorted
namespace Go.Proofs.YtnnbelmpbmfdnaaDoor
open Go Go.RowKit Go.Maps Go.Sort Go.Shelf

abbrev leS : Bs → Bs → Bool := fun x y => decide (x ≤ y)
def sortS (l : List Bs) : List Bs := l.mergeSort leS
theorem encStr_vstr (s : Bs) : encStr s = vstr s := rfl
theorem keysS_fn {P : Program} {ρ : Ren} (L : SlLaysZ.n7 P ρ) (mb : Option Nat) : Fn P (ρ.f 7) #[.map mb] [] fun v Lp => ∃ b, v = .func (.func (ρ.f 10)) #[] #[vptr b] ∧ Lp = [ptc b [.map mb] (ρ.t 23)] := by
  intro F w hs
  refine (callsIn_wide.1 (AnyZ.keys_in L Fence.wide 1 trivial rfl mb w)).mono ?_
  rintro e w' ⟨rfl, rfl⟩
  exact ⟨_, _, ⟨_, rfl, rfl⟩, rfl, St.new (L := F) hs _, Keeps.new _ _⟩
theorem sortedS_fn {P : Program} {ρ ρs ρm : Ren} (L : SlLaysZ.n7 P ρ) (LS : SlLaysZ.n6 P ρs) (LM : SlLaysM.n6 P ρm) (hm : ρm.f 6 = ρs.f 9) (e9 : ∀ args w, (callFunc (ρs.f 9) args).run P w = .ok (.enter (ρs.f 9) args) w) (e10 : ∀ args w, (callFunc (ρ.f 10) args).run P w = .ok (.enter (ρ.f 10) args) w)
    (hk : P.underlying (ρ.t 26) = some .string) {b r : Nat} {T : TypeId} {β : Type} {enc : β → Value} (m : List (Bs × β)) (hnd : (m.map (·.1)).Nodup) (hbd : ∀ x ∈ m, x.1.length ≤ maxLen) (hlen : m.length ≤ 1099511627776) :
    Fn P (ρs.f 6) #[.func (.func (ρ.f 10)) #[] #[vptr b]] [ptc b [.map (some r)] T, mapR r (m.map fun x => (vstr x.1, enc x.2))] fun v Lp => (∃ a c, v = .slice a m.length c) ∧
      Lp = [slR (ρs.t 26) 1 v m.length (strs (sortS (m.map (·.1)))), mapR r (m.map fun x => (vstr x.1, enc x.2))] := by
  intro F w hs
  have hcell : w.cell? ⟨b, 0, none⟩ = some (.map (some r)) := cell_of (l := [Value.map (some r)]) (St.pt (L := _) hs) rfl
  obtain ⟨hr1, ar, es, clock, hes, hents, hborn, hnb⟩ := sep_head (sep_tail hs)
  have hes' := ar _ _ hes
  have hlen' : es.length = m.length := by have := congrArg List.length hents; simpa using this
  have hkeys : es.map (fun e => e.key) = m.map (fun x => vstr x.1) := by
    have := congrArg (List.map Prod.fst) hents; rw [List.map_map, List.map_map] at this; exact this
  let R : Value → Option (DataW Unit × List MemPlace) := fun _ => some (.lit (.bool true), [])
  have hkey : ∀ x ∈ es, ∃ k : Bs, x.key = vstr k ∧ k.length ≤ maxLen := by
    intro x hx
    have : x.key ∈ es.map (fun e => e.key) := List.mem_map_of_mem hx
    rw [hkeys] at this
    obtain ⟨y, hy, he⟩ := List.mem_map.1 this
    exact ⟨y.1, he.symm, hbd y hy⟩
  have hrd : ∀ x ∈ es, ∀ k, x.key = vstr k → Go.WideElems.rd P (ρ.t 26) R x = some (.string k, .lit (.bool true)) := by
    intro x hx k hxk
    obtain ⟨k', h1, h2⟩ := hkey x hx
    have : k' = k := by rw [h1] at hxk; simpa using hxk
    subst this
    have hko : keyOf P (ρ.t 26) x.key = some (.string k') := by
      rw [hxk]; simp [keyOf, hk, mapKey, vstr, bs]; exact (bs_size k').symm ▸ h2
    unfold Go.WideElems.rd; rw [hko]; rfl
  have hown : w.ownsMap P (ρ.t 26) R r m.length (.map ((es.map (Go.WideElems.rg P (ρ.t 26) R)).foldr DataW.insert [])) := by
    refine ⟨es.toArray, clock, hes', ⟨?_, ⟨by simpa using hborn, by simpa using hnb, ?_⟩, ?_⟩, by simpa using Nat.le_of_eq hlen', by simp⟩
    · simp only [List.size_toArray, maxLen]; omega
    · have e1 : es.toArray.toList.map (·.key) = m.map (fun x => vstr x.1) := by simpa using hkeys
      rw [e1]
      have e2 : m.map (fun x => vstr x.1) = (m.map (·.1)).map vstr := by simp
      rw [e2]
      exact List.pairwise_map.2 (List.Pairwise.imp (fun hne he => hne (by simpa [vstr, bs] using he)) hnd)
    · intro x hx
      have hx' : x ∈ es := by simpa using hx
      obtain ⟨k, h1, -⟩ := hkey x hx'
      exact ⟨_, hrd x hx' k h1⟩
  have hD : (strKeys (DataW.map ((es.map (Go.WideElems.rg P (ρ.t 26) R)).foldr DataW.insert []))).Perm (m.map (·.1)) := by
    show (((es.map (Go.WideElems.rg P (ρ.t 26) R)).foldr DataW.insert []).map fun p => Go.strOf p.1).Perm _
    refine (List.Perm.map _ (Go.WideShapes.sorted_perm _)).trans ?_
    have : (es.map (Go.WideElems.rg P (ρ.t 26) R)).map (fun p => Go.strOf p.1) = m.map (·.1) := by
      have h1 : (es.map (Go.WideElems.rg P (ρ.t 26) R)).map (fun p => Go.strOf p.1) = (es.map (fun e => e.key)).map (fun v => match v with | .string s => s.data.toList | _ => []) := by
        rw [List.map_map, List.map_map]
        refine List.map_congr_left fun x hx => ?_
        obtain ⟨k, h1, -⟩ := hkey x hx
        simp only [Function.comp, Go.WideElems.rg, hrd x hx k h1, Option.getD_some, Go.strOf, h1]
      rw [h1, hkeys, List.map_map]; rfl
    rw [this]
  have hsize : Maps.size (DataW.map ((es.map (Go.WideElems.rg P (ρ.t 26) R)).foldr DataW.insert [])) = m.length := by
    simp [Maps.size, length_sorted, hlen']
  have hblt : b < w.heap.size := by
    rcases Nat.lt_or_ge b w.heap.size with h | h
    · exact h
    · simp [World.cell?, Array.getElem?_eq_none h] at hcell
  have hseq := AnyZ.keys_gives (ρ := ρ) { L with } Fence.wide 2 trivial rfl (by omega) b r m.length _ w hblt hcell hown
  have hsorts : ∀ k, AnyZ.SortsIn P ρs Fence.wide k := fun k =>
    ⟨fun blk off cap ss W hH hblk hsz => by
        rw [← hm]; exact callsIn_wide.2 (AnyM.slices_Sort_string LM blk off cap ss W hH hblk hsz),
     fun p cap W => by rw [← hm]; exact callsIn_wide.2 (AnyM.slices_Sort_string_none LM p cap W)⟩
  have hS := AnyZ.sorted_in LS Fence.wide 5 trivial trivial trivial trivial rfl (by omega) (hsorts _) e9 (ρ.f 10) #[vptr b] trivial e10 _ _ (by rw [hsize, maxLen]; omega) (by rw [hsize]; omega) w hseq
  refine (callsIn_wide.1 hS).mono ?_
  rintro e w' ⟨v, ss, rfl, hp, hrow, -, hb⟩
  have hperm : ss.Perm (m.map (·.1)) := hp.trans hD
  have hss : (ss.mergeSort fun x y => decide (x ≤ y)) = sortS (m.map (·.1)) := mergeSort_of_perm hperm
  have hl : ss.length = m.length := by rw [hperm.length_eq]; simp
  rw [hss, hl] at hrow
  have hshape : ∃ a c, v = .slice a m.length c := by
    rcases hrow.2 with ⟨rfl, h0⟩ | ⟨g, cap, cur, rfl, -⟩
    · exact ⟨_, _, by rw [h0]⟩
    · exact ⟨_, _, rfl⟩
  refine ⟨v, _, ⟨hshape, rfl⟩, rfl, ?_, Keeps.below hb⟩
  exact St.own (sep_tail hs) hb hrow
theorem sortS_perm (l : List Bs) : (sortS l).Perm l := List.mergeSort_perm _ _
theorem sortS_length (l : List Bs) : (sortS l).length = l.length := (sortS_perm l).length_eq
theorem sortS_mem {l : List Bs} {x : Bs} : x ∈ sortS l ↔ x ∈ l := (sortS_perm l).mem_iff
theorem sortS_fn {P : Program} {ρ : Go.Shelf.Ren} (LM : SlLaysM.n6 P ρ) (e : TypeId) (v : Value) (n : Nat) (xs : List Bs) (hn : n < 4611686018427387904) :
    Fn P (ρ.f 6) #[v] [slR e 1 v n (strs xs)] fun u L => u = .tuple #[] ∧ L = [slR e 1 v n (strs (sortS xs))] := by
  intro F w hs
  have hs' : St ((fun h => ∃ y : List Value × (Nat × Nat) × (Option (Nat × Nat)), (y.2.2 = none ∧ v = .slice none 0 0 ∧ n = 0 ∧ xs = []) ∨ (∃ b cap, y.2.2 = some (b, cap) ∧ v = .slice (some ⟨b, 0, none⟩) n cap ∧ h b = some (.cells (List.toArray (strs xs ++ y.1)) e y.2.1) ∧ xs.length = n ∧ cap ≤ xs.length + y.1.length ∧ n ≤ cap ∧ nfz y.2.1 0 cap)) :: F) w := by
    refine sep_imp (fun h hp => ?_) hs
    rcases hp with ⟨h1, h2, h3⟩ | ⟨b, cap, rest, fr, h1, h2, h3, h4, h5, h6⟩
    · exact ⟨([], (0, 0), none), .inl ⟨rfl, h1, h2, by simpa using h3⟩⟩
    · exact ⟨(rest, fr, some (b, cap)), .inr ⟨b, cap, rfl, h1, h2, by simpa using h3, by simpa using h4, h5, by simpa using h6⟩⟩
  obtain ⟨⟨rest, fr, o⟩, h1, h2, hd, a1, a2, hp, hF⟩ := sep_ex hs'
  rcases hp with ⟨-, rfl, rfl, rfl⟩ | ⟨b, cap, -, rfl, p1, p2, p3, p4, p5⟩
  · refine (AnyM.slices_Sort_string_none LM none 0 w).mono ?_
    rintro e w' ⟨rfl, rfl⟩
    refine ⟨_, _, ⟨rfl, rfl⟩, rfl, ?_, .refl _⟩
    have e : sortS [] = [] := List.eq_nil_of_length_eq_zero (List.mergeSort_perm _ _).length_eq
    rw [e]; exact hs
  · subst p2
    have hb := a1 _ _ p1
    have hlt : b < w.heap.size := by
      rcases Nat.lt_or_ge b w.heap.size with h | h
      · exact h
      · simp [Array.getElem?_eq_none h] at hb
    have hH : Holds encStr w b 0 xs.toArray := by
      intro j hj
      have hj' : j < xs.length := by simpa using hj
      have hb' : w.heap[b]? = some (.cells (strs xs ++ rest).toArray e fr) := hb
      refine ⟨?_, ?_⟩
      · simp only [World.cell?, hb', Nat.zero_add, Option.isSome_none, Bool.false_eq_true, if_false]
        rw [List.getElem?_toArray, List.getElem?_append_left (by simpa using hj')]
        simp [hj']
      · have := p5 j (by omega) (by dsimp only at p3 p4 ⊢; omega)
        simp only [World.frozen?, hb', Nat.zero_add]
        simpa using this
    refine (AnyM.slices_Sort_string LM b 0 cap xs w hH hlt hn).mono ?_
    rintro en w' ⟨rfl, k, os, rfl⟩
    refine ⟨_, _, ⟨rfl, rfl⟩, rfl, ?_, ?_⟩
    · have h2b : h2 b = none := (hd b).resolve_left (by rw [p1]; simp)
      have hsz : (sortS xs).length = xs.length := by rw [show (sortS xs).length = xs.length from (List.mergeSort_perm _ _).length_eq]
      have hnew : (grow (putRow encStr (Sort.ahead w k) b 0 (sortS xs).toArray) os).heap[b]? = some (.cells (putCells encStr 0 (sortS xs).toArray (strs xs ++ rest).toArray) e fr) := heap_sorted _ hb
      have hrow : (putCells encStr 0 (sortS xs).toArray (strs xs ++ rest).toArray) = (strs (sortS xs) ++ rest).toArray := by
        apply Array.ext_getElem?
        intro j
        simp only [putCells, Array.getElem?_mapIdx, List.getElem?_toArray, Nat.zero_le, true_and, Nat.zero_add, Nat.sub_zero, List.size_toArray]
        by_cases hj : j < xs.length
        · rw [List.getElem?_append_left (by simpa using hj), List.getElem?_append_left (by simpa [hsz] using hj)]
          simp [hj, hsz]
        · rw [List.getElem?_append_right (by simp; omega), List.getElem?_append_right (by simp [hsz]; omega)]
          simp [hj, hsz]
      refine ⟨fun c => if c = b then some (.cells (strs (sortS xs) ++ rest).toArray e fr) else none, h2, fun c => ?_, fun c o e => ?_, fun c o hc => ?_, ?_, hF⟩
      · by_cases e : c = b
        · exact .inr (e ▸ h2b)
        · exact .inl (if_neg e)
      · by_cases hc : c = b
        · subst hc; simp at e; subst e; rw [← hrow]; exact hnew
        · simp [hc] at e
      · have hcb : c ≠ b := by rintro rfl; rw [h2b] at hc; cases hc
        have hold := a2 _ _ hc
        have hclt : c < w.heap.size := by
          rcases Nat.lt_or_ge c w.heap.size with h | h
          · exact h
          · simp [Array.getElem?_eq_none h] at hold
        have := (grownBy_sorted (w := w) (g := b) (n := k) (os := os) (sortS xs).toArray).block c hclt (fun e => hcb (by simpa using e))
        show (grow (putRow encStr (Sort.ahead w k) b 0 (sortS xs).toArray) os).heap[c]? = _
        rw [this]; exact hold
      · exact .inr ⟨b, cap, rest, fr, rfl, if_pos rfl, by simp [hsz], by simpa [hsz] using p3, p4, by simpa using p5⟩
    · refine ⟨rfl, rfl, rfl, ?_⟩
      show w.heap.size ≤ ((putRow encStr (Sort.ahead w k) b 0 _).heap ++ os).size
      simp [putRow, mapBlock, Sort.ahead]
end Go.Proofs.YtnnbelmpbmfdnaaDoor
