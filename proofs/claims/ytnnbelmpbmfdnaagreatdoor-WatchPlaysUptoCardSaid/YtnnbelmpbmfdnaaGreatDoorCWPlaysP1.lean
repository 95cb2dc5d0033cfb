/- Own work, some of it printed by program, texts that were built one by one and are laid one behind the other here: 'slices.Sorted(maps.Keys(m))' and slices.Sort at string keys, out of the kit's contracts, in the words of SlCore. | loops over a map that is not written meanwhile: the iterator and the map as one atom. | a tree as plain data: nodes by rising paths, sessions by rising numbers; what each transaction does. | what stands for a tree in memory; how its plain data and its maps belong together. | shifts and bits; a slice and nil; numbers out of bytes. | calls of function values; results that lie in cells; deferred calls. | the document's tree in memory: a list of nodes, a list of sessions; texts compared by their order. | loops over the runes of a string; maps that are nil. | package path: walked. | package path: Parent, Base, Kid, Under: walked. | package tree: what creates and erases: walked. -/
import Derived.Test.YtnnbelmpbmfdnaaGreatDoorCWPlaysP0
import Derived.Sort.OwnSorted
import Derived.Laws.IdiomRangeMap
import Derived.Defers
import Derived.Sort.Walk0
import Derived.Lib.OthersKept
import Derived.Lib.Bytealg
import Derived.Laws.Externs
import Derived.Shelf.SlIter.Nil
import Derived.Shelf.SortM.Plain
import Derived.Shelf.SortM.SortNone
import Derived.Ground.GgzProg
import Derived.Ground.SlgmProg
import Derived.Test.YtnnbelmpbmfdnaaGreatDoorProg
set_option linter.unusedSimpArgs false
set_option linter.unusedVariables false
/- Own work: 'slices.Sorted(maps.Keys(m))' and slices.Sort at string keys, out of the kit's contracts, in the words of SlCore. -/

namespace Go.Proofs.YtnnbelmpbmfdnaaGreatDoor
open Go Go.RowKit Go.Maps Go.Sort Go.Shelf

abbrev leS : Bs → Bs → Bool := fun x y => decide (x ≤ y)
def sortS (l : List Bs) : List Bs := l.mergeSort leS
theorem keysS_fn {P : Program} {ρ : Ren} (L : SlLaysZ.n7 P ρ) (mb : Option Nat) : Fn P (ρ.f 7) #[.map mb] [] fun v Lp => ∃ b, v = .func (.func (ρ.f 10)) #[] #[vptr b] ∧ Lp = [ptc b [.map mb] (ρ.t 23)] := by
  intro F w hs
  refine (callsIn_wide.1 (AnyZ.keys_in L Fence.wide 1 trivial rfl mb w)).mono ?_
  rintro e w' ⟨rfl, rfl⟩
  exact ⟨_, _, ⟨_, rfl, rfl⟩, rfl, St.new (L := F) hs _, Keeps.new _ _⟩
theorem sortedS_fn {P : Program} {ρ ρs ρm : Ren} (L : SlLaysZ.n7 P ρ) (LS : SlLaysZ.n6 P ρs) (LM : SlLaysM.n6 P ρm) (hm : ρm.f 6 = ρs.f 9) (e9 : ∀ args w, (callFunc (ρs.f 9) args).run P w = .ok (.enter (ρs.f 9) args) w) (e10 : ∀ args w, (callFunc (ρ.f 10) args).run P w = .ok (.enter (ρ.f 10) args) w)
    (hk : P.underlying (ρ.t 26) = some .string) {b r : Nat} {T : TypeId} {β : Type} {enc : β → Value} (m : List (Bs × β)) (hnd : (m.map (·.1)).Nodup) (hbd : ∀ x ∈ m, x.1.length ≤ maxLen) (hlen : m.length ≤ 1099511627776) :
    Fn P (ρs.f 6) #[.func (.func (ρ.f 10)) #[] #[vptr b]] [ptc b [.map (some r)] T, mapR r (m.map fun x => (vstr x.1, enc x.2))] fun v Lp => (∃ a c, v = .slice a m.length c) ∧
      Lp = [slR (ρs.t 26) 1 v m.length (strs (sortS (m.map (·.1)))), mapR r (m.map fun x => (vstr x.1, enc x.2))] := by
  intro F w hs
  have hcell : w.cell? ⟨b, 0, none⟩ = some (.map (some r)) := cell_of (l := [Value.map (some r)]) (St.pt (L := _) hs) rfl
  obtain ⟨hr1, ar, es, clock, hes, hents, hborn, hnb⟩ := sep_head (sep_tail hs)
  have hes' := ar _ _ hes
  have hlen' : es.length = m.length := by have := congrArg List.length hents; simpa using this
  have hkeys : es.map (fun e => e.key) = m.map (fun x => vstr x.1) := by
    have := congrArg (List.map Prod.fst) hents; rw [List.map_map, List.map_map] at this; exact this
  let R : Value → Option (DataW Unit × List MemPlace) := fun _ => some (.lit (.bool true), [])
  have hkey : ∀ x ∈ es, ∃ k : Bs, x.key = vstr k ∧ k.length ≤ maxLen := by
    intro x hx
    have : x.key ∈ es.map (fun e => e.key) := List.mem_map_of_mem hx
    rw [hkeys] at this
    obtain ⟨y, hy, he⟩ := List.mem_map.1 this
    exact ⟨y.1, he.symm, hbd y hy⟩
  have hrd : ∀ x ∈ es, ∀ k, x.key = vstr k → Go.WideElems.rd P (ρ.t 26) R x = some (.string k, .lit (.bool true)) := by
    intro x hx k hxk
    obtain ⟨k', h1, h2⟩ := hkey x hx
    have : k' = k := by rw [h1] at hxk; simpa using hxk
    subst this
    have hko : keyOf P (ρ.t 26) x.key = some (.string k') := by
      rw [hxk]; simp [keyOf, hk, mapKey, vstr, bs]; exact (bs_size k').symm ▸ h2
    unfold Go.WideElems.rd; rw [hko]; rfl
  have hown : w.ownsMap P (ρ.t 26) R r m.length (.map ((es.map (Go.WideElems.rg P (ρ.t 26) R)).foldr DataW.insert [])) := by
    refine ⟨es.toArray, clock, hes', ⟨?_, ⟨by simpa using hborn, by simpa using hnb, ?_⟩, ?_⟩, by simpa using Nat.le_of_eq hlen', by simp⟩
    · simp only [List.size_toArray, maxLen]; omega
    · have e1 : es.toArray.toList.map (·.key) = m.map (fun x => vstr x.1) := by simpa using hkeys
      rw [e1]
      have e2 : m.map (fun x => vstr x.1) = (m.map (·.1)).map vstr := by simp
      rw [e2]
      exact List.pairwise_map.2 (List.Pairwise.imp (fun hne he => hne (by simpa [vstr, bs] using he)) hnd)
    · intro x hx
      have hx' : x ∈ es := by simpa using hx
      obtain ⟨k, h1, -⟩ := hkey x hx'
      exact ⟨_, hrd x hx' k h1⟩
  have hD : (strKeys (DataW.map ((es.map (Go.WideElems.rg P (ρ.t 26) R)).foldr DataW.insert []))).Perm (m.map (·.1)) := by
    show (((es.map (Go.WideElems.rg P (ρ.t 26) R)).foldr DataW.insert []).map fun p => Go.strOf p.1).Perm _
    refine (List.Perm.map _ (Go.WideShapes.sorted_perm _)).trans ?_
    have : (es.map (Go.WideElems.rg P (ρ.t 26) R)).map (fun p => Go.strOf p.1) = m.map (·.1) := by
      have h1 : (es.map (Go.WideElems.rg P (ρ.t 26) R)).map (fun p => Go.strOf p.1) = (es.map (fun e => e.key)).map (fun v => match v with | .string s => s.data.toList | _ => []) := by
        rw [List.map_map, List.map_map]
        refine List.map_congr_left fun x hx => ?_
        obtain ⟨k, h1, -⟩ := hkey x hx
        simp only [Function.comp, Go.WideElems.rg, hrd x hx k h1, Option.getD_some, Go.strOf, h1]
      rw [h1, hkeys, List.map_map]; rfl
    rw [this]
  have hsize : Maps.size (DataW.map ((es.map (Go.WideElems.rg P (ρ.t 26) R)).foldr DataW.insert [])) = m.length := by
    simp [Maps.size, length_sorted, hlen']
  have hblt : b < w.heap.size := by
    rcases Nat.lt_or_ge b w.heap.size with h | h
    · exact h
    · simp [World.cell?, Array.getElem?_eq_none h] at hcell
  have hseq := AnyZ.keys_gives (ρ := ρ) { L with } Fence.wide 2 trivial rfl (by omega) b r m.length _ w hblt hcell hown
  have hsorts : ∀ k, AnyZ.SortsIn P ρs Fence.wide k := fun k =>
    ⟨fun blk off cap ss W hH hblk hsz => by
        rw [← hm]; exact callsIn_wide.2 (AnyM.slices_Sort_string LM blk off cap ss W hH hblk hsz),
     fun p cap W => by rw [← hm]; exact callsIn_wide.2 (AnyM.slices_Sort_string_none LM p cap W)⟩
  have hS := AnyZ.sorted_in LS Fence.wide 5 trivial trivial trivial trivial rfl (by omega) (hsorts _) e9 (ρ.f 10) #[vptr b] trivial e10 _ _ (by rw [hsize, maxLen]; omega) (by rw [hsize]; omega) w hseq
  refine (callsIn_wide.1 hS).mono ?_
  rintro e w' ⟨v, ss, rfl, hp, hrow, -, hb⟩
  have hperm : ss.Perm (m.map (·.1)) := hp.trans hD
  have hss : (ss.mergeSort fun x y => decide (x ≤ y)) = sortS (m.map (·.1)) := mergeSort_of_perm hperm
  have hl : ss.length = m.length := by rw [hperm.length_eq]; simp
  rw [hss, hl] at hrow
  have hshape : ∃ a c, v = .slice a m.length c := by
    rcases hrow.2 with ⟨rfl, h0⟩ | ⟨g, cap, cur, rfl, -⟩
    · exact ⟨_, _, by rw [h0]⟩
    · exact ⟨_, _, rfl⟩
  refine ⟨v, _, ⟨hshape, rfl⟩, rfl, ?_, Keeps.below hb⟩
  exact St.own (sep_tail hs) hb hrow
theorem sortS_perm (l : List Bs) : (sortS l).Perm l := List.mergeSort_perm _ _
theorem sortS_length (l : List Bs) : (sortS l).length = l.length := (sortS_perm l).length_eq
theorem sortS_fn {P : Program} {ρ : Go.Shelf.Ren} (LM : SlLaysM.n6 P ρ) (e : TypeId) (v : Value) (n : Nat) (xs : List Bs) (hn : n < 4611686018427387904) :
    Fn P (ρ.f 6) #[v] [slR e 1 v n (strs xs)] fun u L => u = .tuple #[] ∧ L = [slR e 1 v n (strs (sortS xs))] := by
  intro F w hs
  have hs' : St ((fun h => ∃ y : List Value × (Nat × Nat) × (Option (Nat × Nat)), (y.2.2 = none ∧ v = .slice none 0 0 ∧ n = 0 ∧ xs = []) ∨ (∃ b cap, y.2.2 = some (b, cap) ∧ v = .slice (some ⟨b, 0, none⟩) n cap ∧ h b = some (.cells (List.toArray (strs xs ++ y.1)) e y.2.1) ∧ xs.length = n ∧ cap ≤ xs.length + y.1.length ∧ n ≤ cap ∧ nfz y.2.1 0 cap)) :: F) w := by
    refine sep_imp (fun h hp => ?_) hs
    rcases hp with ⟨h1, h2, h3⟩ | ⟨b, cap, rest, fr, h1, h2, h3, h4, h5, h6⟩
    · exact ⟨([], (0, 0), none), .inl ⟨rfl, h1, h2, by simpa using h3⟩⟩
    · exact ⟨(rest, fr, some (b, cap)), .inr ⟨b, cap, rfl, h1, h2, by simpa using h3, by simpa using h4, h5, by simpa using h6⟩⟩
  obtain ⟨⟨rest, fr, o⟩, h1, h2, hd, a1, a2, hp, hF⟩ := sep_ex hs'
  rcases hp with ⟨-, rfl, rfl, rfl⟩ | ⟨b, cap, -, rfl, p1, p2, p3, p4, p5⟩
  · refine (AnyM.slices_Sort_string_none LM none 0 w).mono ?_
    rintro e w' ⟨rfl, rfl⟩
    refine ⟨_, _, ⟨rfl, rfl⟩, rfl, ?_, .refl _⟩
    have e : sortS [] = [] := List.eq_nil_of_length_eq_zero (List.mergeSort_perm _ _).length_eq
    rw [e]; exact hs
  · subst p2
    have hb := a1 _ _ p1
    have hlt : b < w.heap.size := by
      rcases Nat.lt_or_ge b w.heap.size with h | h
      · exact h
      · simp [Array.getElem?_eq_none h] at hb
    have hH : Holds encStr w b 0 xs.toArray := by
      intro j hj
      have hj' : j < xs.length := by simpa using hj
      have hb' : w.heap[b]? = some (.cells (strs xs ++ rest).toArray e fr) := hb
      refine ⟨?_, ?_⟩
      · simp only [World.cell?, hb', Nat.zero_add, Option.isSome_none, Bool.false_eq_true, if_false]
        rw [List.getElem?_toArray, List.getElem?_append_left (by simpa using hj')]
        simp [hj']
      · have := p5 j (by omega) (by dsimp only at p3 p4 ⊢; omega)
        simp only [World.frozen?, hb', Nat.zero_add]
        simpa using this
    refine (AnyM.slices_Sort_string LM b 0 cap xs w hH hlt hn).mono ?_
    rintro en w' ⟨rfl, k, os, rfl⟩
    refine ⟨_, _, ⟨rfl, rfl⟩, rfl, ?_, ?_⟩
    · have h2b : h2 b = none := (hd b).resolve_left (by rw [p1]; simp)
      have hsz : (sortS xs).length = xs.length := by rw [show (sortS xs).length = xs.length from (List.mergeSort_perm _ _).length_eq]
      have hnew : (grow (putRow encStr (Sort.ahead w k) b 0 (sortS xs).toArray) os).heap[b]? = some (.cells (putCells encStr 0 (sortS xs).toArray (strs xs ++ rest).toArray) e fr) := heap_sorted _ hb
      have hrow : (putCells encStr 0 (sortS xs).toArray (strs xs ++ rest).toArray) = (strs (sortS xs) ++ rest).toArray := by
        apply Array.ext_getElem?
        intro j
        simp only [putCells, Array.getElem?_mapIdx, List.getElem?_toArray, Nat.zero_le, true_and, Nat.zero_add, Nat.sub_zero, List.size_toArray]
        by_cases hj : j < xs.length
        · rw [List.getElem?_append_left (by simpa using hj), List.getElem?_append_left (by simpa [hsz] using hj)]
          simp [hj, hsz]
        · rw [List.getElem?_append_right (by simp; omega), List.getElem?_append_right (by simp [hsz]; omega)]
          simp [hj, hsz]
      refine ⟨fun c => if c = b then some (.cells (strs (sortS xs) ++ rest).toArray e fr) else none, h2, fun c => ?_, fun c o e => ?_, fun c o hc => ?_, ?_, hF⟩
      · by_cases e : c = b
        · exact .inr (e ▸ h2b)
        · exact .inl (if_neg e)
      · by_cases hc : c = b
        · subst hc; simp at e; subst e; rw [← hrow]; exact hnew
        · simp [hc] at e
      · have hcb : c ≠ b := by rintro rfl; rw [h2b] at hc; cases hc
        have hold := a2 _ _ hc
        have hclt : c < w.heap.size := by
          rcases Nat.lt_or_ge c w.heap.size with h | h
          · exact h
          · simp [Array.getElem?_eq_none h] at hold
        have := (grownBy_sorted (w := w) (g := b) (n := k) (os := os) (sortS xs).toArray).block c hclt (fun e => hcb (by simpa using e))
        show (grow (putRow encStr (Sort.ahead w k) b 0 (sortS xs).toArray) os).heap[c]? = _
        rw [this]; exact hold
      · exact .inr ⟨b, cap, rest, fr, rfl, if_pos rfl, by simp [hsz], by simpa [hsz] using p3, p4, by simpa using p5⟩
    · refine ⟨rfl, rfl, rfl, ?_⟩
      show w.heap.size ≤ ((putRow encStr (Sort.ahead w k) b 0 _).heap ++ os).size
      simp [putRow, mapBlock, Sort.ahead]
end Go.Proofs.YtnnbelmpbmfdnaaGreatDoor

/- Own work: loops over a map that is not written meanwhile: the iterator and the map as one atom. -/
namespace Go.Proofs.YtnnbelmpbmfdnaaGreatDoor
open Go

/-- An iterator over a map: m are the map's entries (f: as they lie there), s those that were handed out. -/
def rangeR {α : Type} (f : α → Value × Value) (it r : Nat) (m s : List α) : HP := fun h => ∃ (zs ss rest : List (MapEntry × α)) (clock : Nat),
  h r = some (.map (zs.map (·.1)).toArray clock) ∧ h it = some (.mapIter (some r) clock (ss.map (·.1.born)).toArray clock) ∧ r ≠ it ∧ zs.map (·.2) = m ∧
  (∀ z ∈ zs, z.1.born < clock ∧ (z.1.key, z.1.val) = f z.2) ∧ (zs.map (·.1.born)).Nodup ∧ zs.Perm (ss ++ rest) ∧ ss.map (·.2) = s
theorem rangeR_map {α : Type} {f : α → Value × Value} {it r : Nat} {m s : List α} {h : Hp} (hr : rangeR f it r m s h) : mapR r (m.map f) h := by
  obtain ⟨zs, ss, rest, clock, h1, h2, h3, h4, h5, h6, h7, h8⟩ := hr
  refine ⟨zs.map (·.1), clock, h1, ?_, ?_, by rw [List.map_map]; exact h6⟩
  · subst h4
    rw [List.map_map, List.map_map]
    exact List.map_congr_left fun z hz => (h5 z hz).2
  · intro e he
    obtain ⟨z, hz, rfl⟩ := List.mem_map.1 he
    exact (h5 z hz).1
theorem getElem_erase_perm {α : Type} : ∀ {l : List α} {j : Nat} (hj : j < l.length), l.Perm (l[j] :: l.eraseIdx j) := by
  intro l
  induction l with
  | nil => intro j hj; simp at hj
  | cons a l ih =>
    intro j hj
    cases j with
    | zero => simp
    | succ j =>
      simp only [List.getElem_cons_succ, List.eraseIdx_cons_succ]
      exact (List.Perm.cons a (ih (by simpa using hj))).trans (List.Perm.swap _ _ _)
section
variable {P : Program} {E : Env} {L R : List HP} {ty : TypeId} {w : World}
theorem OpSpec.range {α : Type} {f : α → Value × Value} {m : List α} {t kt et : TypeId} {x : Operand} {r : Nat} {ents : List (Value × Value)} (hx : ev E x = some (.map (some r))) (ht : P.underlying t = some (.map kt et)) (he : ents = m.map f) :
    OpSpec P ⟨none, .range t x, ty, "", #[], none⟩ E [mapR r ents] fun v L' => ∃ it, v = vptr it ∧ L' = [rangeR f it r m []] := by
  intro ρ w F ha hs
  subst he
  obtain ⟨h1, a1, es, c, hb, hes, hbo, hnd⟩ := sep_head hs
  have hb' := a1 _ _ hb
  have hlt : r < w.heap.size := by
    rcases Nat.lt_or_ge r w.heap.size with h | h
    · exact h
    · simp [Array.getElem?_eq_none h] at hb'
  have hrun : (execOp ρ ⟨none, .range t x, ty, "", #[], none⟩).run P w = .ok (.value (vptr w.heap.size)) { w with heap := w.heap.push (.mapIter (some r) c #[] c) } := by
    refine run_v ?_
    show (Instr.range t (ρ x)).run P w = _
    rw [ha x _ hx]; exact Go.run_range_map w t kt et r _ _ ht hb'
  unfold Runs; rw [hrun]
  refine ⟨_, ⟨_, rfl, rfl⟩, ?_, Keeps.new _ _⟩
  have hn := St.new hs (.mapIter (some r) c #[] c)
  obtain ⟨g1, g2, gd, b1, b2, gp, k1, k2, kd, c1, c2, kp, kF⟩ := hn
  have kr : k1 r = some (.map es.toArray c) := by
    obtain ⟨es', c', q1, -⟩ := kp
    have q2 := b2 _ _ (c1 _ _ q1)
    have q3 : (w.heap.push (.mapIter (some r) c #[] c))[r]? = some (.map es.toArray c) := by
      rw [Array.getElem?_push_lt hlt]; rw [Array.getElem?_eq_getElem hlt] at hb'; exact hb'
    have q2' : (w.heap.push (.mapIter (some r) c #[] c))[r]? = some (.map es'.toArray c') := q2
    rw [q3] at q2'
    rw [q1, ← q2']
  refine ⟨hunion g1 k1, k2, fun b => ?_, fun b o e => ?_, fun b o e => b2 _ _ (c2 _ _ e), ?_, kF⟩
  · cases e : k2 b with
    | none => exact .inr rfl
    | some o =>
      refine .inl ?_
      have e1 : g1 b = none := (gd b).resolve_right (by rw [c2 _ _ e]; simp)
      have e2 : k1 b = none := (kd b).resolve_right (by rw [e]; simp)
      simp [hunion, e1, e2]
  · rcases hunion_some e with e | e
    · exact b1 _ _ e
    · exact b2 _ _ (c1 _ _ e)
  · have hne : r ≠ w.heap.size := by omega
    have hgr : g1 r = none := (gd r).resolve_right (by rw [c1 _ _ kr]; simp)
    have hl : es.length = m.length := by have := congrArg List.length hes; simpa using this
    refine ⟨es.zip m, [], es.zip m, c, ?_, hunion_left gp, hne, ?_, ?_, ?_, by simp, rfl⟩
    · rw [List.map_fst_zip (by omega)]
      simp [hunion, hgr, kr]
    · rw [List.map_snd_zip (by omega)]
    · intro z hz
      refine ⟨hbo _ (List.of_mem_zip hz).1, ?_⟩
      obtain ⟨i, hi, rfl⟩ := List.mem_iff_getElem.1 hz
      simp only [List.length_zip] at hi
      have := congrArg (fun l => l[i]?) hes
      simp [show i < es.length by omega, show i < m.length by omega] at this
      simpa using this
    · have : (es.zip m).map (fun z => z.1.born) = ((es.zip m).map (·.1)).map (·.born) := by rw [List.map_map]; rfl
      rw [this, List.map_fst_zip (by omega)]; exact hnd

theorem perm_left {α : Type} {zs ss rest : List (MapEntry × α)} (hp : zs.Perm (ss ++ rest)) (hn : (zs.map (·.1.born)).Nodup) : (zs.map (·.1)).filter (fun e => !((ss.map (·.1.born)).toArray.contains e.born)) = (zs.filter fun z => !((ss.map (·.1.born)).contains z.1.born)).map (·.1) ∧
    (zs.filter fun z => !((ss.map (·.1.born)).contains z.1.born)).Perm rest := by
  constructor
  · rw [List.filter_map]
    congr 1
    refine List.filter_congr fun z _ => ?_
    simp
  · refine (hp.filter _).trans ?_
    rw [List.filter_append]
    have hn' : ((ss ++ rest).map (·.1.born)).Nodup := (hp.map _).nodup_iff.1 hn
    rw [List.map_append] at hn'
    obtain ⟨n1, n2, n3⟩ := List.nodup_append.1 hn'
    have e1 : ss.filter (fun z => !((ss.map (·.1.born)).contains z.1.born)) = [] := by
      rw [List.filter_eq_nil_iff]
      intro z hz
      have : (ss.map (·.1.born)).contains z.1.born = true := by rw [List.contains_eq_mem]; exact decide_eq_true (List.mem_map.2 ⟨z, hz, rfl⟩)
      rw [this]; simp
    have e2 : rest.filter (fun z => !((ss.map (·.1.born)).contains z.1.born)) = rest := by
      rw [List.filter_eq_self]
      intro z hz
      simp only [Bool.not_eq_true', List.contains_eq_mem, decide_eq_false_iff_not]
      intro hm
      exact n3 _ hm _ (List.mem_map.2 ⟨z, hz, rfl⟩) rfl
    rw [e1, e2, List.nil_append]
theorem OpSpec.next {α : Type} {f : α → Value × Value} {m s : List α} {x : Operand} {it r : Nat} (hx : ev E x = some (vptr it)) :
    OpSpec P ⟨none, .next x false, ty, "", #[], none⟩ E [rangeR f it r m s] fun v L' => (v = .tuple #[.bool false] ∧ m.Perm s ∧ L' = [rangeR f it r m s]) ∨
      ∃ y rest, v = .tuple #[.bool true, (f y).1, (f y).2] ∧ m.Perm (s ++ y :: rest) ∧ L' = [rangeR f it r m (s ++ [y])] := by
  intro ρ w F ha hs
  obtain ⟨h1, h2, hd, a1, a2, ⟨zs, ss, rest, clock, q1, q2, q3, q4, q5, q6, q7, q8⟩, hF⟩ := hs
  have hr := a1 _ _ q1
  have hi := a1 _ _ q2
  have hgr : ∀ {w' : World}, w'.heap[r]? = some (.map (zs.map (·.1)).toArray clock) → (getObj r).run P w' = .ok (.map (zs.map (·.1)).toArray clock) w' := fun h => run_getMap h
  have hgi : (getObj it).run P w = .ok (.mapIter (some r) clock (ss.map (·.1.born)).toArray clock) w := by
    simp only [getObj, Sem.run, hi]
  have hold : ∀ e ∈ (zs.map (·.1)).toArray.toList, e.born < clock := by
    intro e he
    simp only [List.mem_map] at he
    obtain ⟨z, hz, rfl⟩ := he
    exact (q5 z hz).1
  have htest := Go.next_test_false (ss.map (·.1.born)).toArray (zs.map (·.1)).toArray clock clock hold (Nat.le_refl _)
  obtain ⟨p1, p2⟩ := perm_left q7 q6
  have hleft : (zs.map (·.1)).toArray.filter (fun e => !(ss.map (·.1.born)).toArray.contains e.born) = ((zs.filter fun z => !((ss.map (·.1.born)).contains z.1.born)).map (·.1)).toArray := by
    rw [← p1, List.filter_toArray]
  generalize (zs.filter fun z => !((ss.map (·.1.born)).contains z.1.born)) = lft at p2 hleft
  have hmem : ∀ z ∈ lft, z ∈ zs := fun z hz => q7.mem_iff.2 (List.mem_append_right _ (p2.mem_iff.1 hz))
  have e1 : ((lft.map (·.1)).toArray).filter (fun x => decide (x.born < clock)) = (lft.map (·.1)).toArray := by
    apply Array.filter_eq_self.2
    intro e he
    simp only [List.mem_toArray, List.mem_map] at he
    obtain ⟨z, hz, rfl⟩ := he
    simpa using (q5 z (hmem z hz)).1
  have e2 : ((lft.map (·.1)).toArray).filter (fun x => decide (x.born ≥ clock)) = #[] := by
    rw [Array.filter_eq_empty_iff]
    intro e he
    simp only [List.mem_toArray, List.mem_map] at he
    obtain ⟨z, hz, rfl⟩ := he
    have := (q5 z (hmem z hz)).1
    simp; omega
  have hstart : (execOp ρ ⟨none, .next x false, ty, "", #[], none⟩).run P w = (do pure (Next.value (← Instr.next (vptr it) false ty)) : Sem Next).run P w := by
    show (do pure (Next.value (← Instr.next (ρ x) false ty)) : Sem Next).run P w = _
    rw [ha x _ hx]
  by_cases h0 : lft = []
  · subst h0
    have hrun : (Instr.next (vptr it) false ty).run P w = .ok (.tuple #[.bool false]) w := by
      simp only [Instr.next, Sem.run_bind, hgi, Result.andThen, hgr hr, htest, Bool.false_eq_true, if_false, hleft, e1, e2]
      simp [choose, Sem.run, Question.forced]
    unfold Runs
    rw [hstart, run_v hrun]
    refine ⟨_, .inl ⟨rfl, ?_, rfl⟩, ⟨h1, h2, hd, a1, a2, ⟨zs, ss, rest, clock, q1, q2, q3, q4, q5, q6, q7, q8⟩, hF⟩, .refl _⟩
    have : rest = [] := p2.nil_eq.symm
    subst this
    rw [← q4, ← q8]
    simpa using q7.map (·.2)
  · have hne : ((lft.map (·.1)).toArray).isEmpty = false := by
      cases lft with
      | nil => exact absurd rfl h0
      | cons a l => simp
    have hch : ∃ (j : Nat) (k : Nat), j < lft.length ∧ (choose (Question.mapNext lft.length)).run P w = .ok j { w with drawn := w.drawn + k } := by
      have h0' : 0 < lft.length := List.length_pos_iff.2 h0
      by_cases hf : lft.length ≤ 1
      · exact ⟨0, 0, by omega, by simp [choose, Sem.run, Question.forced, hf]⟩
      · exact ⟨_, 1, Nat.mod_lt _ (by omega), by
          simp only [choose, Sem.run, Question.forced, decide_eq_true_eq, hf, if_false, Question.cut]
          rfl⟩
    obtain ⟨j, k, hj, hrunc⟩ := hch
    have hitlt : it < w.heap.size := by
      rcases Nat.lt_or_ge it w.heap.size with h | h
      · exact h
      · simp [Array.getElem?_eq_none h] at hi
    have hrun : (Instr.next (vptr it) false ty).run P w = .ok (.tuple #[.bool true, lft[j].1.key, lft[j].1.val]) { w with drawn := w.drawn + k, heap := w.heap.setIfInBounds it (.mapIter (some r) clock ((ss.map (·.1.born)).toArray.push lft[j].1.born) clock) } := by
      simp only [Instr.next, Sem.run_bind, hgi, Result.andThen, hgr hr, htest, Bool.false_eq_true, if_false, hleft, e1, e2]
      simp only [Array.append_empty, hne, Bool.false_eq_true, if_false, Array.empty_append, Array.size_map, List.size_toArray, List.length_map, hrunc]
      simp only [Array.getElem?_map, List.getElem?_toArray, List.getElem?_map, List.getElem?_eq_getElem hj, Option.map_some]
      simp only [Sem.run_bind, setObj, Sem.run, hi, Result.andThen]
      rfl
    unfold Runs
    rw [hstart, run_v hrun]
    have hz : lft[j] ∈ lft := List.getElem_mem hj
    have hzz := q5 _ (hmem _ hz)
    have hkv : (f lft[j].2) = (lft[j].1.key, lft[j].1.val) := hzz.2.symm
    have hp3 : zs.Perm ((ss ++ [lft[j]]) ++ lft.eraseIdx j) := by
      refine q7.trans ?_
      rw [List.append_assoc]
      refine List.Perm.append_left _ (p2.symm.trans ?_)
      have : lft.Perm (lft[j] :: lft.eraseIdx j) := getElem_erase_perm hj
      exact this
    refine ⟨[rangeR f it r m (s ++ [lft[j].2])], .inr ⟨lft[j].2, (lft.eraseIdx j).map (·.2), by rw [hkv], ?_, rfl⟩, ?_, ⟨rfl, rfl, rfl, by simp⟩⟩
    · rw [← q4, ← q8]
      have := hp3.map (·.2)
      simpa using this
    · have h2it : h2 it = none := (hd it).resolve_left (by rw [q2]; simp)
      refine ⟨fun c => if c = it then some (.mapIter (some r) clock ((ss.map (·.1.born)).toArray.push lft[j].1.born) clock) else h1 c, h2, fun c => ?_, fun c o e => ?_, fun c o e => ?_, ?_, hF⟩
      · by_cases e : c = it
        · exact .inr (e ▸ h2it)
        · simp only [e, if_false]; exact hd c
      · by_cases hc : c = it
        · subst hc; simp at e; subst e; simp [hitlt]
        · simp only [hc, if_false] at e
          simp only [Array.getElem?_setIfInBounds, Ne.symm hc, if_false]
          exact a1 _ _ e
      · have hc : c ≠ it := by rintro rfl; rw [h2it] at e; cases e
        simp only [Array.getElem?_setIfInBounds, Ne.symm hc, if_false]
        exact a2 _ _ e
      · refine ⟨zs, ss ++ [lft[j]], lft.eraseIdx j, clock, by simp only [q3, if_false]; exact q1, by simp, q3, q4, q5, q6, hp3, by simp [q8]⟩
theorem Quiet.entry {α : Type} {f : α → Value × Value} {m s : List α} {x : Operand} {it r : Nat} {y : α} (hx : ev E x = some (vptr it)) (hL : Pick (rangeR f it r m (s ++ [y])) L R) :
    Quiet P ⟨none, .entry x, ty, "", #[], none⟩ E L (.tuple #[(f y).1, (f y).2]) := by
  intro ρ w ha hs
  obtain ⟨h1, a1, zs, ss, rest, clock, q1, q2, q3, q4, q5, q6, q7, q8⟩ := sep_head (hs.pick hL)
  have hr := a1 _ _ q1
  have hi := a1 _ _ q2
  refine run_v ?_
  show (Instr.entry (ρ x)).run P w = _
  rw [ha x _ hx]
  obtain ⟨ss', z, rfl, h8⟩ : ∃ ss' z, ss = ss' ++ [z] ∧ z.2 = y := by
    rcases List.eq_nil_or_concat ss with rfl | ⟨ss', z, rfl⟩
    · simp at q8
    · refine ⟨ss', z, by simp, ?_⟩
      simp at q8
      exact q8.2
  have hz : z ∈ zs := q7.mem_iff.2 (by simp)
  have hkv := (q5 z hz).2
  rw [h8] at hkv
  have hgi : (getObj it).run P w = .ok (.mapIter (some r) clock ((ss' ++ [z]).map (·.1.born)).toArray clock) w := by
    simp only [getObj, Sem.run, hi]
  have hback : ((ss' ++ [z]).map (·.1.born)).toArray.back? = some z.1.born := by simp
  have hf : (zs.map (·.1)).toArray.find? (·.born == z.1.born) = some z.1 := by
    rw [← Array.find?_toList]
    exact Go.find_born z.1 _ (by rw [List.map_map]; exact q6) (List.mem_map.2 ⟨z, hz, rfl⟩)
  simp only [Instr.entry, Sem.run_bind, hgi, Result.andThen, hback, run_getMap hr, bne_self_eq_false, Bool.false_eq_true, if_false, hf, ← hkv]
  rfl
theorem Quiet.entryE {α : Type} {f : α → Value × Value} {m s : List α} {x : Operand} {it r : Nat} {y : α} {v : Value} (hx : ev E x = some (vptr it)) (hL : Pick (rangeR f it r m (s ++ [y])) L R) (hv : Value.tuple #[(f y).1, (f y).2] = v) :
    Quiet P ⟨none, .entry x, ty, "", #[], none⟩ E L v := hv ▸ Quiet.entry hx hL
theorem G.rangeDone {W : World} {n : Nat} {ds : List Deferred} {X : Act → World → Prop} {α : Type} {f : α → Value × Value} {m s : List α} {it r : Nat} (hL : Pick (rangeR f it r m s) L R) (h : G W n ds E (mapR r (m.map f) :: R) X) : G W n ds E L X :=
  fun a w he hk hs => h a w he hk (sep_imp (fun _ hp => rangeR_map hp) (hs.pick hL))
end
end Go.Proofs.YtnnbelmpbmfdnaaGreatDoor

/- Own work: a tree as plain data: nodes by rising paths, sessions by rising numbers; what each transaction does. -/

namespace Go.Proofs.YtnnbelmpbmfdnaaGreatDoor
open Go

structure Nd where
  data : Bs
  acl : List Ac
  st : Stt
instance : DecidableEq Nd := fun a b => decidable_of_iff (a.data = b.data ∧ a.acl = b.acl ∧ a.st = b.st) ⟨fun ⟨h1, h2, h3⟩ => by cases a; cases b; cases h1; cases h2; cases h3; rfl, fun h => by rw [h]; exact ⟨rfl, rfl, rfl⟩⟩
structure Tr where
  nodes : List (Bs × Nd)
  sess : List (Int × (Int × Bs))
  zx : Int
theorem Tr.ext' {a b : Tr} (h1 : a.nodes = b.nodes) (h2 : a.sess = b.sess) (h3 : a.zx = b.zx) : a = b := by
  cases a; cases b; cases h1; cases h2; cases h3; rfl
/-- A node's own numbers, without Length and Kids. -/
def ableZ (p : Bs) : Prop := p ≠ [47] ∧ checkZ p = 0
instance (p : Bs) : Decidable (ableZ p) := inferInstanceAs (Decidable (_ ∧ _))
def thereT (τ : Tr) (p : Bs) : Prop := (alook τ.nodes p).isSome = true
instance (τ : Tr) (p : Bs) : Decidable (thereT τ p) := inferInstanceAs (Decidable (_ = _))
def kidN (num zx : Int) (n : Nd) : Nd := { n with st := { n.st with cver := num, pz := zx } }
def setN (d : Bs) (num zx : Int) (n : Nd) : Nd := { n with data := d, st := { n.st with ver := num, mz := zx } }
def aclN (acl : List Ac) (num : Int) (n : Nd) : Nd := { n with acl := acl, st := { n.st with av := num } }
def newN (x : Pt) (zx : Int) : Nd := ⟨x.data, x.acl, { st0 with cz := zx, mz := zx, pz := zx, own := x.own }⟩
def kidT (τ : Tr) (p : Bs) (num zx : Int) : Tr := { τ with nodes := amod τ.nodes p (kidN num zx) }
def createZ (τ : Tr) (x : Pt) (zx : Int) : Tr × List Ev :=
  if ableZ x.path ∧ thereT τ (parentZ x.path) then
    (kidT { τ with nodes := sset τ.nodes x.path (newN x zx) } (parentZ x.path) x.num zx, [(if thereT τ x.path then 3 else 1, (x.path, zx)), (4, (parentZ x.path, zx))])
  else (τ, [])
def hitT (x p : Bs) : Bool := decide (x = p) || decide (underZ x p)
def cutT (τ : Tr) (p : Bs) : Tr := { τ with nodes := τ.nodes.filter fun y => !hitT y.1 p }
def eraseZ (τ : Tr) (x : Pt) (zx : Int) : Tr × List Ev :=
  if ableZ x.path then
    (kidT (cutT τ x.path) (parentZ x.path) x.num zx, if thereT τ x.path then (2, (x.path, zx)) :: (if thereT (cutT τ x.path) (parentZ x.path) then [(4, (parentZ x.path, zx))] else []) else [])
  else (τ, [])
def partZ (τ : Tr) (x : Pt) (zx : Int) : Tr × List Ev :=
  if x.kind = 1 then createZ τ x zx
  else if x.kind = 2 then eraseZ τ x zx
  else if x.kind = 3 ∧ thereT τ x.path then ({ τ with nodes := amod τ.nodes x.path (setN x.data x.num zx) }, [(3, (x.path, zx))])
  else if x.kind = 4 ∧ thereT τ x.path then ({ τ with nodes := amod τ.nodes x.path (aclN x.acl x.num) }, [])
  else (τ, [])
def partsZ (τ : Tr) (zx : Int) (l : List Pt) : Tr × List Ev := l.foldl (fun r x => ((partZ r.1 x zx).1, r.2 ++ (partZ r.1 x zx).2)) (τ, [])
theorem parts_nil (τ : Tr) (zx : Int) : partsZ τ zx [] = (τ, []) := rfl
theorem parts_snoc (τ : Tr) (zx : Int) (l : List Pt) (x : Pt) : partsZ τ zx (l ++ [x]) = ((partZ (partsZ τ zx l).1 x zx).1, (partsZ τ zx l).2 ++ (partZ (partsZ τ zx l).1 x zx).2) := by
  unfold partsZ; rw [List.foldl_append]; rfl
def isDel (x : Pt) : Bool := decide (x.kind = 2)
def dropS (τ : Tr) (id : Int) : Tr := { τ with sess := τ.sess.filter fun y => !decide (y.1 = id) }
def openS (τ : Tr) (id n : Int) (s : Bs) : Tr := { τ with sess := sset τ.sess id (n, s) }
def zxT (τ : Tr) (zx : Int) : Tr := { τ with zx := zx }
def applyZ (τ0 : Tr) (zx : Int) (x : Pt) (subs : List Pt) : Tr × (List Ev × Int) :=
  let τ := zxT τ0 zx
  if x.kind = 5 then (if 0 < x.own then openS τ x.own x.num x.data else τ, ([], 0))
  else if x.kind = 6 then (dropS (partsZ τ zx (subs.filter isDel)).1 x.own, ((partsZ τ zx (subs.filter isDel)).2, 0))
  else if x.kind = 7 then ((partsZ τ zx subs).1, ((partsZ τ zx subs).2, 0))
  else if x.kind = 8 then (τ, ([], x.err))
  else ((partZ τ x zx).1, ((partZ τ x zx).2, 0))
def kidsZ (τ : Tr) (p : Bs) : List Bs := (τ.nodes.filter fun y => !decide (y.1 = [47]) && decide (parentZ y.1 = p)).map fun y => baseZ y.1
def statZ (τ : Tr) (p : Bs) : Option Stt := (alook τ.nodes p).map fun n => { n.st with len := n.data.length, kids := (kidsZ τ p).length }
def pathsZ (τ : Tr) : List Bs := τ.nodes.map (·.1)
def ownedZ (τ : Tr) (s : Int) : List Bs := (τ.nodes.filter fun y => !decide (s = 0) && decide (y.2.st.own = s)).map (·.1)
def newT : Tr := ⟨[([47], ⟨[], [(31, [119, 111, 114, 108, 100])], st0⟩)], [], 0⟩
/-! ### What is always so -/
structure Tr.Ok (τ : Tr) (N : Nat) : Prop where
  sorted : SortedK τ.nodes
  ssorted : SortedK τ.sess
  few : τ.nodes.length ≤ N
  able : ∀ x ∈ τ.nodes, x.1 = [47] ∨ ableZ x.1
  ids : ∀ x ∈ τ.sess, 1 ≤ x.1
  acls : ∀ x ∈ τ.nodes, x.2.acl.length ≤ 1048576
  sfew : τ.sess.length ≤ N
theorem able_len {p : Bs} (h : p = [47] ∨ ableZ p) : p.length ≤ 60 := by
  rcases h with rfl | ⟨h1, h2⟩
  · decide
  · unfold checkZ at h2
    rw [if_neg h1] at h2
    split at h2
    · cases h2
    · split at h2
      · cases h2
      · omega
theorem Tr.Ok.more {τ : Tr} {N M : Nat} (h : τ.Ok N) (hm : N ≤ M) : τ.Ok M := { h with few := Nat.le_trans h.few hm, sfew := Nat.le_trans h.sfew hm }
theorem newT_ok : newT.Ok 1 := ⟨by unfold SortedK newT; simp, by unfold SortedK newT; simp, by simp [newT], by simp [newT], by simp [newT], by simp [newT], by simp [newT]⟩
theorem Tr.Ok.zx {τ : Tr} {N : Nat} (h : τ.Ok N) (z : Int) : (zxT τ z).Ok N := ⟨h.sorted, h.ssorted, h.few, h.able, h.ids, h.acls, h.sfew⟩
theorem amod_mem {K β : Type} [DecidableEq K] {l : List (K × β)} {k : K} {f : β → β} {x : K × β} (h : x ∈ amod l k f) : ∃ y ∈ l, y.1 = x.1 ∧ (x.2 = y.2 ∨ (y.1 = k ∧ x.2 = f y.2)) := by
  obtain ⟨y, hy, rfl⟩ := List.mem_map.1 h
  refine ⟨y, hy, ?_⟩
  split
  · rename_i e; exact ⟨rfl, .inr ⟨e, rfl⟩⟩
  · exact ⟨rfl, .inl rfl⟩
theorem sset_mem {K β : Type} [LT K] [DecidableEq K] [DecidableLT K] {l : List (K × β)} {k : K} {v : β} {x : K × β} (h : x ∈ sset l k v) : x = (k, v) ∨ x ∈ l := by
  induction l with
  | nil => simpa [sset] using h
  | cons y l ih =>
    unfold sset at h
    split at h
    · rcases List.mem_cons.1 h with rfl | h
      · exact .inl rfl
      · exact .inr (List.mem_cons_of_mem _ h)
    · split at h
      · rcases List.mem_cons.1 h with rfl | h
        · exact .inl rfl
        · exact .inr h
      · rcases List.mem_cons.1 h with rfl | h
        · exact .inr List.mem_cons_self
        · exact (ih h).imp id (List.mem_cons_of_mem _)
theorem Tr.Ok.mod {τ : Tr} {N : Nat} (h : τ.Ok N) (p : Bs) (f : Nd → Nd) (hf : ∀ n, (f n).acl.length ≤ 1048576 ∨ (f n).acl = n.acl) : ({ τ with nodes := amod τ.nodes p f } : Tr).Ok N := by
  refine ⟨h.sorted.amod p f, h.ssorted, by show (amod τ.nodes p f).length ≤ N; rw [amod_len]; exact h.few, fun x hx => ?_, h.ids, fun x hx => ?_, h.sfew⟩
  · obtain ⟨y, hy, e, -⟩ := amod_mem hx
    rw [← e]; exact h.able y hy
  · obtain ⟨y, hy, -, e | ⟨-, e⟩⟩ := amod_mem hx
    · rw [e]; exact h.acls y hy
    · rw [e]
      rcases hf y.2 with g | g
      · exact g
      · rw [g]; exact h.acls y hy
theorem Tr.Ok.kid {τ : Tr} {N : Nat} (h : τ.Ok N) (p : Bs) (num zx : Int) : (kidT τ p num zx).Ok N := h.mod p _ fun _ => .inr rfl
theorem Tr.Ok.lay {τ : Tr} {N : Nat} (h : τ.Ok N) {p : Bs} (hp : p = [47] ∨ ableZ p) (n : Nd) (hn : n.acl.length ≤ 1048576) : ({ τ with nodes := sset τ.nodes p n } : Tr).Ok (N + 1) := by
  refine ⟨h.sorted.sset linB p n, h.ssorted, ?_, fun x hx => ?_, h.ids, fun x hx => ?_, Nat.le_succ_of_le h.sfew⟩
  · have := (sset_len τ.nodes p n).1
    have := h.few
    show (sset τ.nodes p n).length ≤ N + 1
    omega
  · rcases sset_mem hx with rfl | hx
    · exact hp
    · exact h.able x hx
  · rcases sset_mem hx with rfl | hx
    · exact hn
    · exact h.acls x hx
theorem Tr.Ok.cut {τ : Tr} {N : Nat} (h : τ.Ok N) (p : Bs) : (cutT τ p).Ok N :=
  ⟨h.sorted.filter _, h.ssorted, Nat.le_trans (List.length_filter_le _ _) h.few, fun x hx => h.able x (List.mem_filter.1 hx).1, h.ids, fun x hx => h.acls x (List.mem_filter.1 hx).1, h.sfew⟩
theorem Tr.Ok.part {τ : Tr} {N : Nat} (h : τ.Ok N) (x : Pt) (zx : Int) (hx : x.acl.length ≤ 1048576) : (partZ τ x zx).1.Ok (N + 1) := by
  unfold partZ
  split
  · unfold createZ
    split
    · rename_i g; exact (h.lay (.inr g.1) (newN x zx) hx).kid _ _ _
    · exact h.more (Nat.le_add_right N 1)
  split
  · unfold eraseZ
    split
    · exact ((h.cut _).kid _ _ _).more (Nat.le_add_right N 1)
    · exact h.more (Nat.le_add_right N 1)
  split
  · exact (h.mod x.path (setN x.data x.num zx) fun _ => .inr rfl).more (Nat.le_add_right N 1)
  split
  · exact (h.mod x.path (aclN x.acl x.num) fun _ => .inl hx).more (Nat.le_add_right N 1)
  · exact h.more (Nat.le_add_right N 1)
theorem Tr.Ok.parts {τ : Tr} {N : Nat} (h : τ.Ok N) (zx : Int) (l : List Pt) (hl : ∀ x ∈ l, x.acl.length ≤ 1048576) : (partsZ τ zx l).1.Ok (N + l.length) := by
  have key : ∀ (l : List Pt) (r : Tr × List Ev) (N : Nat), r.1.Ok N → (∀ x ∈ l, x.acl.length ≤ 1048576) → (l.foldl (fun r x => ((partZ r.1 x zx).1, r.2 ++ (partZ r.1 x zx).2)) r).1.Ok (N + l.length) := by
    intro l
    induction l with
    | nil => intro r N h _; exact h
    | cons x l ih =>
      intro r N h hl
      rw [List.foldl_cons]
      refine (ih ((partZ r.1 x zx).1, r.2 ++ (partZ r.1 x zx).2) (N + 1) (h.part x zx (hl x (by simp))) (fun y hy => hl y (by simp [hy]))).more ?_
      rw [List.length_cons]; omega
  exact key l _ N h hl
theorem Tr.Ok.dropS {τ : Tr} {N : Nat} (h : τ.Ok N) (id : Int) : (dropS τ id).Ok N :=
  ⟨h.sorted, h.ssorted.filter _, h.few, h.able, fun x hx => h.ids x (List.mem_filter.1 hx).1, h.acls, Nat.le_trans (List.length_filter_le _ _) h.sfew⟩
theorem Tr.Ok.openS {τ : Tr} {N : Nat} (h : τ.Ok N) {id : Int} (hi : 0 < id) (n : Int) (s : Bs) : (openS τ id n s).Ok (N + 1) := by
  refine ⟨h.sorted, h.ssorted.sset linI _ _, Nat.le_succ_of_le h.few, h.able, fun x hx => ?_, h.acls, Nat.le_trans (sset_len τ.sess id (n, s)).1 (Nat.succ_le_succ h.sfew)⟩
  rcases sset_mem hx with rfl | hx
  · dsimp only; omega
  · exact h.ids x hx
theorem Tr.Ok.apply {τ : Tr} {N : Nat} (h : τ.Ok N) (zx : Int) (x : Pt) (subs : List Pt) (hx : x.acl.length ≤ 1048576) (hs : ∀ y ∈ subs, y.acl.length ≤ 1048576) : (applyZ τ zx x subs).1.Ok (N + 1 + subs.length) := by
  have h0 := h.zx zx
  unfold applyZ
  dsimp only
  split
  · split
    · rename_i g; exact (h0.openS g _ _).more (by omega)
    · exact h0.more (by omega)
  split
  · refine ((h0.parts zx (subs.filter isDel) fun y hy => hs y (List.mem_filter.1 hy).1).dropS _).more ?_
    have := List.length_filter_le isDel subs
    omega
  split
  · exact (h0.parts zx subs hs).more (by omega)
  split
  · exact h0.more (by omega)
  · exact (h0.part x zx hx).more (by omega)
end Go.Proofs.YtnnbelmpbmfdnaaGreatDoor

/- Own work: what stands for a tree in memory; how its plain data and its maps belong together. -/

namespace Go.Proofs.YtnnbelmpbmfdnaaGreatDoor
open Go

/-- A node in memory: its place, where its ACL lies, what it is. -/
abbrev Nm := Nat × (Value × Nd)
abbrev NmM := List (Bs × Nm)
abbrev SsM := List (Int × (Int × Bs))
def ndC (v : Value) (n : Nd) : List Value := [vstr n.data, v, vint n.st.cz, vint n.st.mz, vint n.st.pz, vint n.st.ver, vint n.st.cver, vint n.st.av, vint n.st.own, vint n.st.len, vint n.st.kids]
def ndV (x : Nm) : Value := vptr x.1
def ssV (x : Int × Bs) : Value := .agg #[vint x.1, vstr x.2]
def ndE (m : NmM) : List (Value × Value) := m.map fun x => (vstr x.1, ndV x.2)
def ssE (s : SsM) : List (Value × Value) := s.map fun x => (vint x.1, ssV x.2)
def inN (x : Bs × Nm) : HP := fun h => ∃ _ : Unit, sep [ptc x.2.1 (ndC x.2.2.1 x.2.2.2) 106, rdO 2 x.2.2.1 x.2.2.2.acl.length (x.2.2.2.acl.flatMap acC)] h
structure TrI (τ : Tr) (m : NmM) (s : SsM) : Prop where
  keys : (m.map (·.1)).Nodup
  look : ∀ p, (alook m p).map (fun x : Nm => x.2.2) = alook τ.nodes p
  skeys : (s.map (·.1)).Nodup
  slook : ∀ i, alook s i = alook τ.sess i
def treeR (t : Nat) (τ : Tr) : HP := fun h => ∃ x : (Nat × Nat) × (NmM × SsM), TrI τ x.2.1 x.2.2 ∧ sep [ptc t [.map (some x.1.1), .map (some x.1.2), vint τ.zx] 110, mapR x.1.1 (ndE x.2.1), mapR x.1.2 (ssE x.2.2), bigR inN x.2.1] h
section
variable {W : World} {n : Nat} {ds : List Deferred} {E : Env} {L R : List HP} {X : Act → World → Prop}
theorem G.trOpen {t : Nat} {τ : Tr} (hL : Pick (treeR t τ) L R) (h : ∀ rn rs m s, TrI τ m s → G W n ds E (ptc t [.map (some rn), .map (some rs), vint τ.zx] 110 :: mapR rn (ndE m) :: mapR rs (ssE s) :: bigR inN m :: R) X) : G W n ds E L X :=
  G.focus hL (G.open (q := fun x : (Nat × Nat) × (NmM × SsM) => [ptc t [.map (some x.1.1), .map (some x.1.2), vint τ.zx] 110, mapR x.1.1 (ndE x.2.1), mapR x.1.2 (ssE x.2.2), bigR inN x.2.1]) (φ := fun x : (Nat × Nat) × (NmM × SsM) => TrI τ x.2.1 x.2.2) (fun _ hp => hp) fun x hx => h x.1.1 x.1.2 x.2.1 x.2.2 hx)
theorem G.trFold {t rn rs : Nat} {τ : Tr} {m : NmM} {s : SsM} {l : List Value} {e1 e2 : List (Value × Value)} (hI : TrI τ m s) (hL : Picks [ptc t l 110, mapR rn e1, mapR rs e2, bigR inN m] L R) (hl : l = [.map (some rn), .map (some rs), vint τ.zx]) (h1 : e1 = ndE m) (h2 : e2 = ssE s)
    (h : G W n ds E (treeR t τ :: R) X) : G W n ds E L X := by
  subst hl; subst h1; subst h2
  exact G.fold hL (fun _ hp => ⟨((rn, rs), (m, s)), hI, hp⟩) h
theorem G.trCast {t : Nat} {τ τ' : Tr} (hL : Pick (treeR t τ) L R) (hw : τ' = τ) (h : G W n ds E (treeR t τ' :: R) X) : G W n ds E L X := by
  subst hw; exact G.focus hL h
theorem G.ndOpen {x : Bs × Nm} (hL : Pick (inN x) L R) (h : G W n ds E (ptc x.2.1 (ndC x.2.2.1 x.2.2.2) 106 :: rdO 2 x.2.2.1 x.2.2.2.acl.length (x.2.2.2.acl.flatMap acC) :: R) X) : G W n ds E L X :=
  G.focus hL (G.open (q := fun _ : Unit => [ptc x.2.1 (ndC x.2.2.1 x.2.2.2) 106, rdO 2 x.2.2.1 x.2.2.2.acl.length (x.2.2.2.acl.flatMap acC)]) (φ := fun _ => True) (fun _ hp => let ⟨u, hs⟩ := hp; ⟨u, trivial, hs⟩) fun _ _ => h)
theorem G.ndFold {x : Bs × Nm} {l : List Value} {k : Nat} {v : Value} {ys : List Value} (hL : Picks [ptc x.2.1 l 106, rdO 2 v k ys] L R) (hl : l = ndC x.2.2.1 x.2.2.2) (hv : v = x.2.2.1) (hk : k = x.2.2.2.acl.length) (hy : ys = x.2.2.2.acl.flatMap acC)
    (h : G W n ds E (inN x :: R) X) : G W n ds E L X := by
  subst hl; subst hv; subst hk; subst hy
  exact G.fold hL (fun _ hp => ⟨(), hp⟩) h
end
/-! ### Who keeps it -/
theorem TrI.at {τ : Tr} {m : NmM} {s : SsM} (h : TrI τ m s) {p : Bs} {x : Nm} (hx : alook m p = some x) : alook τ.nodes p = some x.2.2 := by rw [← h.look, hx]; rfl
theorem TrI.none_iff {τ : Tr} {m : NmM} {s : SsM} (h : TrI τ m s) {p : Bs} : alook m p = none ↔ ¬ thereT τ p := by
  unfold thereT; rw [← h.look]; cases alook m p <;> simp
theorem TrI.some_iff {τ : Tr} {m : NmM} {s : SsM} (h : TrI τ m s) {p : Bs} {x : Nm} (hx : alook m p = some x) : thereT τ p := by
  unfold thereT; rw [← h.look, hx]; rfl
theorem TrI.zx {τ : Tr} {m : NmM} {s : SsM} (h : TrI τ m s) (z : Int) : TrI (zxT τ z) m s := ⟨h.keys, h.look, h.skeys, h.slook⟩
/-- A node is written. -/
theorem TrI.mod {τ : Tr} {m : NmM} {s : SsM} (h : TrI τ m s) {p : Bs} {x y : Nm} (hx : alook m p = some x) (f : Nd → Nd) (hy : y.2.2 = f x.2.2) : TrI { τ with nodes := amod τ.nodes p f } (aset m p y) s := by
  refine ⟨nodup_aset h.keys _ _, fun q => ?_, h.skeys, h.slook⟩
  show _ = alook (amod τ.nodes p f) q
  rw [al_aset, al_amod, ← h.look q]
  by_cases e : q = p
  · subst e; rw [if_pos rfl, if_pos rfl, hx]; simp [hy]
  · rw [if_neg e, if_neg e]
theorem amod_none {K β : Type} [DecidableEq K] {l : List (K × β)} {k : K} (h : alook l k = none) (f : β → β) : amod l k f = l := by
  have hk := al_none.1 h
  unfold amod
  conv => rhs; rw [← List.map_id l]
  refine List.map_congr_left fun x hx => ?_
  rw [if_neg (fun e => hk (List.mem_map.2 ⟨x, hx, e⟩))]; rfl
theorem TrI.kidN {τ : Tr} {m : NmM} {s : SsM} (h : TrI τ m s) {p : Bs} (hx : alook m p = none) (f : Nd → Nd) : ({ τ with nodes := amod τ.nodes p f } : Tr) = τ := by
  have : alook τ.nodes p = none := by rw [← h.look, hx]; rfl
  rw [amod_none this]
theorem TrI.lay {τ : Tr} {m : NmM} {s : SsM} (h : TrI τ m s) (p : Bs) (x : Nm) : TrI { τ with nodes := sset τ.nodes p x.2.2 } (aset m p x) s := by
  refine ⟨nodup_aset h.keys _ _, fun q => ?_, h.skeys, h.slook⟩
  show _ = alook (sset τ.nodes p x.2.2) q
  rw [al_aset, al_sset, ← h.look q]
  by_cases e : q = p
  · subst e; rw [if_pos rfl, if_pos rfl]; rfl
  · rw [if_neg e, if_neg e]
theorem TrI.open {τ : Tr} {m : NmM} {s : SsM} (h : TrI τ m s) (id n : Int) (c : Bs) : TrI (openS τ id n c) m (aset s id (n, c)) := by
  refine ⟨h.keys, h.look, nodup_aset h.skeys _ _, fun i => ?_⟩
  show _ = alook (sset τ.sess id (n, c)) i
  rw [al_aset, al_sset, h.slook]
theorem TrI.drop {τ : Tr} {m : NmM} {s : SsM} (h : TrI τ m s) (id : Int) : TrI (dropS τ id) m (adel s id) := by
  refine ⟨h.keys, h.look, nodup_adel h.skeys _, fun i => ?_⟩
  show _ = alook (τ.sess.filter fun y => !decide (y.1 = id)) i
  rw [al_adel h.skeys, al_filter (fun k => !decide (k = id)), h.slook]
  by_cases e : i = id
  · subst e; simp
  · simp [e]
/-- The paths, rising, whatever order the map has. -/
theorem TrI.perm {τ : Tr} {m : NmM} {s : SsM} (h : TrI τ m s) {N : Nat} (ho : τ.Ok N) : (m.map (·.1)).Perm (pathsZ τ) := by
  refine (List.perm_ext_iff_of_nodup h.keys (ho.sorted.nodup linB)).2 fun p => ?_
  rw [← al_isSome, ← al_isSome, ← h.look]; simp
theorem TrI.len {τ : Tr} {m : NmM} {s : SsM} (h : TrI τ m s) {N : Nat} (ho : τ.Ok N) : m.length = τ.nodes.length := by
  have := (h.perm ho).length_eq
  simpa [pathsZ] using this
theorem TrI.sperm {τ : Tr} {m : NmM} {s : SsM} (h : TrI τ m s) {N : Nat} (ho : τ.Ok N) : s.Perm τ.sess :=
  al_ext_perm h.skeys (ho.ssorted.nodup linI) h.slook
theorem sortS_id {l : List Bs} (h : l.Pairwise (· < ·)) : sortS l = l := by
  unfold sortS
  refine List.mergeSort_of_pairwise (h.imp fun hab => ?_)
  simp only [leS, decide_eq_true_eq]; exact List.le_of_lt hab
theorem sortS_of_perm {l l' : List Bs} (h : l.Perm l') : sortS l = sortS l' := mergeSort_of_perm h
theorem TrI.paths {τ : Tr} {m : NmM} {s : SsM} (h : TrI τ m s) {N : Nat} (ho : τ.Ok N) : sortS (m.map (·.1)) = pathsZ τ := by
  rw [sortS_of_perm (h.perm ho)]; exact sortS_id ho.sorted
theorem TrI.plen {τ : Tr} {m : NmM} {s : SsM} (h : TrI τ m s) {N : Nat} (ho : τ.Ok N) : ∀ x ∈ m, x.1.length ≤ 60 := fun x hx => by
  have h1 : alook τ.nodes x.1 = some x.2.2.2 := h.at (al_of_mem h.keys hx)
  exact able_len (ho.able _ (al_mem h1))
theorem TrI.acl {τ : Tr} {m : NmM} {s : SsM} (h : TrI τ m s) {N : Nat} (ho : τ.Ok N) {p : Bs} {x : Nm} (hx : alook m p = some x) : x.2.2.acl.length ≤ 1048576 := ho.acls _ (al_mem (h.at hx))
theorem ndE_set {m : NmM} {p : Bs} {x y : Nm} (h : alook m p = some x) (hp : y.1 = x.1) : ndE (aset m p y) = ndE m := aset_map h (by simp [ndV, hp])
theorem hit_del {τ : Tr} {m : NmM} {s : SsM} (h : TrI τ m s) {q p : Bs} : TrI { τ with nodes := τ.nodes.filter fun y => !decide (y.1 = q) } (adel m q) s ∧ p = p := by
  refine ⟨⟨nodup_adel h.keys _, fun r => ?_, h.skeys, h.slook⟩, rfl⟩
  show _ = alook (τ.nodes.filter fun y => !decide (y.1 = q)) r
  rw [al_adel h.keys, al_filter (fun k => !decide (k = q)), ← h.look r]
  by_cases e : r = q
  · subst e; simp
  · simp [e]
/-- What is left when the paths of a list that are hitT are gone. -/
def cutL (τ : Tr) (p : Bs) (l : List Bs) : Tr := { τ with nodes := τ.nodes.filter fun y => !(decide (y.1 ∈ l) && hitT y.1 p) }
theorem cutL_nil (τ : Tr) (p : Bs) : cutL τ p [] = τ := Tr.ext' (List.filter_eq_self.2 fun _ _ => by simp) rfl rfl
theorem cutL_all (τ : Tr) (p : Bs) : cutL τ p (pathsZ τ) = cutT τ p := by
  refine Tr.ext' ?_ rfl rfl
  show τ.nodes.filter _ = τ.nodes.filter _
  refine List.filter_congr fun y hy => ?_
  have : y.1 ∈ pathsZ τ := List.mem_map_of_mem hy
  simp [this]
theorem cutL_skip (τ : Tr) {p q : Bs} (l : List Bs) (h : hitT q p = false) : cutL τ p (l ++ [q]) = cutL τ p l := by
  refine Tr.ext' ?_ rfl rfl
  show τ.nodes.filter _ = τ.nodes.filter _
  refine List.filter_congr fun y _ => ?_
  by_cases e : y.1 = q
  · rw [e, h]; simp
  · simp [e]
theorem cutL_hit (τ : Tr) {p q : Bs} (l : List Bs) (h : hitT q p = true) : cutL τ p (l ++ [q]) = { cutL τ p l with nodes := (cutL τ p l).nodes.filter fun y => !decide (y.1 = q) } := by
  refine Tr.ext' ?_ rfl rfl
  show τ.nodes.filter _ = (τ.nodes.filter _).filter _
  rw [List.filter_filter]
  refine List.filter_congr fun y _ => ?_
  by_cases e : y.1 = q
  · rw [e, h]; simp
  · simp [e]
theorem TrI.del {τ : Tr} {m : NmM} {s : SsM} (h : TrI τ m s) (q : Bs) : TrI { τ with nodes := τ.nodes.filter fun y => !decide (y.1 = q) } (adel m q) s := (hit_del (p := q) h).1
/-! ### Kids -/
theorem lt_cut : ∀ (c : Bs) {x y : Bs}, c ++ x < c ++ y ↔ x < y
  | [], _, _ => Iff.rfl
  | a :: c, x, y => by
    rw [List.cons_append, List.cons_append, List.cons_lt_cons_iff]
    constructor
    · rintro (h | ⟨-, h⟩)
      · exact absurd h (UInt8.lt_irrefl a)
      · exact (lt_cut c).1 h
    · intro h; exact .inr ⟨rfl, (lt_cut c).2 h⟩
def preZ (p : Bs) : Bs := p.take (lidxZ p).toNat
theorem split_cons (c : UInt8) (r : Bs) : splitZ (c :: r) = if c = 47 then [] :: splitZ r else match splitZ r with
    | h :: t => (c :: h) :: t
    | [] => [[c]] := rfl
theorem able_cut {p : Bs} (h : ableZ p) : 0 ≤ lidxZ p ∧ preZ p ≠ [47] ∧ p = preZ p ++ 47 :: baseZ p ∧ isNameZ (baseZ p) = true := by
  obtain ⟨h1, h2⟩ := h
  unfold checkZ at h2
  rw [if_neg h1] at h2
  have h3 : ¬ ((splitZ p).head? ≠ some [] ∨ (splitZ p).length = 1 ∨ (splitZ p).tail.all isNameZ = false) := by
    intro g; rw [if_pos g] at h2; cases h2
  have hlen : (splitZ p).length ≠ 1 := fun e => h3 (.inr (.inl e))
  have hall : (splitZ p).tail.all isNameZ = true := by
    cases e : (splitZ p).tail.all isNameZ with
    | true => rfl
    | false => exact absurd (.inr (.inr e)) h3
  have hmem : (47 : UInt8) ∈ p := by
    apply Decidable.byContradiction
    intro g
    exact hlen (by rw [split_none g]; rfl)
  have h0 : 0 ≤ lidxZ p := by
    apply Decidable.byContradiction
    intro g
    obtain ⟨i, hi, e⟩ := List.mem_iff_getElem.1 hmem
    have key : ∀ n, n ≤ p.length → lidxTo p n < 0 → ∀ j, j < n → p.getD j 0 ≠ 47 := by
      intro n
      induction n with
      | zero => intro _ _ j hj; omega
      | succ n ih =>
        intro hn hl j hj
        unfold lidxTo at hl
        split at hl
        · omega
        · rename_i hne
          by_cases hjn : j = n
          · subst hjn; exact hne
          · exact ih (by omega) hl j (by omega)
    refine key p.length (Nat.le_refl _) (by show lidxZ p < 0; omega) i hi ?_
    rw [List.getD_eq_getElem?_getD, List.getElem?_eq_getElem hi, Option.getD_some]; exact e
  obtain ⟨c1, c2⟩ := cut_last h0
  have hb : baseZ p = p.drop ((lidxZ p).toNat + 1) := by unfold baseZ; rw [show (lidxZ p + 1).toNat = (lidxZ p).toNat + 1 by omega]
  have c3 : p = preZ p ++ 47 :: baseZ p := by rw [hb]; exact c1
  have hsn : ∀ (a b : Bs), (47 : UInt8) ∉ b → splitZ (a ++ 47 :: b) = splitZ a ++ [b] := by
    intro a b hb
    induction a with
    | nil => rw [List.nil_append, split_cons, if_pos rfl, split_none hb]; rfl
    | cons c a ih =>
      rw [List.cons_append, split_cons, split_cons]
      by_cases hc : c = 47
      · rw [if_pos hc, if_pos hc, ih]; rfl
      · rw [if_neg hc, if_neg hc, ih]
        rcases e : splitZ a with _ | ⟨u, v⟩
        · exact absurd e (splitZ_ne a)
        · rfl
  have hspl := hsn (preZ p) (baseZ p) (by rw [hb]; exact c2)
  rw [← c3] at hspl
  refine ⟨h0, fun e => ?_, c3, ?_⟩
  · rw [e] at hspl
    rw [hspl] at hall
    have : splitZ [47] = [[], []] := by decide
    rw [this] at hall
    simp [isNameZ] at hall
  · rw [hspl] at hall
    rcases e : splitZ (preZ p) with _ | ⟨u, v⟩
    · exact absurd e (splitZ_ne _)
    · rw [e] at hall
      simp at hall
      exact hall.2
theorem able_parent {p : Bs} (h : ableZ p) : parentZ p = if preZ p = [] then [47] else preZ p := by
  obtain ⟨h0, -, h2, -⟩ := able_cut h
  unfold parentZ
  rw [if_neg (by rintro (g | g); omega; exact h.1 g)]
  have hr := lidx_range p
  by_cases hz : lidxZ p = 0
  · rw [if_pos hz, if_pos (by unfold preZ; rw [hz]; rfl)]
  · rw [if_neg hz, if_neg]
    · rfl
    · intro e
      have := congrArg List.length e
      unfold preZ at this
      rw [List.length_take] at this
      simp only [List.length_nil] at this
      omega
theorem kid_lt {a b : Bs} (ha : ableZ a) (hb : ableZ b) (hp : parentZ a = parentZ b) : a < b ↔ baseZ a < baseZ b := by
  obtain ⟨-, a1, a2, -⟩ := able_cut ha
  obtain ⟨-, b1, b2, -⟩ := able_cut hb
  have e : preZ a = preZ b := by
    rw [able_parent ha, able_parent hb] at hp
    by_cases x : preZ a = []
    · rw [if_pos x] at hp
      by_cases y : preZ b = []
      · rw [x, y]
      · rw [if_neg y] at hp; exact absurd hp.symm b1
    · rw [if_neg x] at hp
      by_cases y : preZ b = []
      · rw [if_pos y] at hp; exact absurd hp a1
      · rw [if_neg y] at hp; exact hp
  constructor
  · intro h
    rw [a2, b2, e, lt_cut, List.cons_lt_cons_iff] at h
    rcases h with h | ⟨-, h⟩
    · exact absurd h (UInt8.lt_irrefl _)
    · exact h
  · intro h
    rw [a2, b2, e, lt_cut, List.cons_lt_cons_iff]
    exact .inr ⟨rfl, h⟩
theorem kids_sorted {τ : Tr} {N : Nat} (ho : τ.Ok N) (p : Bs) : (kidsZ τ p).Pairwise (· < ·) := by
  unfold kidsZ
  rw [List.pairwise_map]
  have hs : (τ.nodes.filter fun y => !decide (y.1 = [47]) && decide (parentZ y.1 = p)).Pairwise (fun x y => x.1 < y.1) := List.pairwise_map.1 (ho.sorted.filter _)
  refine List.Pairwise.imp_of_mem ?_ hs
  intro x y hx hy hlt
  obtain ⟨x1, x2⟩ := List.mem_filter.1 hx
  obtain ⟨y1, y2⟩ := List.mem_filter.1 hy
  simp at x2 y2
  exact (kid_lt ((ho.able x x1).resolve_left x2.1) ((ho.able y y1).resolve_left y2.1) (by rw [x2.2, y2.2])).1 hlt
def kidsM (m : NmM) (p : Bs) : List Bs := (m.filter fun y => !decide (y.1 = [47]) && decide (parentZ y.1 = p)).map fun y => baseZ y.1
theorem kids_of_keys {β : Type} (l : List (Bs × β)) (p : Bs) : (l.filter fun y => !decide (y.1 = [47]) && decide (parentZ y.1 = p)).map (fun y => baseZ y.1) = ((l.map (·.1)).filter fun q => !decide (q = [47]) && decide (parentZ q = p)).map baseZ := by
  rw [List.filter_map, List.map_map]; rfl
theorem TrI.kids {τ : Tr} {m : NmM} {s : SsM} (h : TrI τ m s) {N : Nat} (ho : τ.Ok N) (p : Bs) : sortS (kidsM m p) = kidsZ τ p := by
  have hp : (kidsM m p).Perm (kidsZ τ p) := by
    unfold kidsM kidsZ
    rw [kids_of_keys, kids_of_keys]
    exact ((h.perm ho).filter _).map _
  rw [sortS_of_perm hp]; exact sortS_id (kids_sorted ho p)
theorem kidsM_len (m : NmM) (p : Bs) : (kidsM m p).length ≤ m.length := by
  unfold kidsM; rw [List.length_map]; exact List.length_filter_le _ _
theorem big_del {K β : Type} [DecidableEq K] {f : K × β → HP} {m : List (K × β)} (k : K) {h : Hp} (hs : bigR f m h) : bigR f (adel m k) h := by
  rcases e : alook m k with _ | b
  · rw [adel_none e]; exact hs
  · obtain ⟨h1, h2, -, -, a2, -, hp⟩ := big_take e hs
    obtain ⟨g1, g2, -, b1, -, hq, -⟩ := hp
    exact sep_mono hq fun c o hc => a2 _ _ (b1 _ _ hc)
theorem G.bigDel {W : World} {n : Nat} {ds : List Deferred} {E : Env} {L R : List HP} {X : Act → World → Prop} {K β : Type} [DecidableEq K] {f : K × β → HP} {m : List (K × β)} (k : K) (hL : Pick (bigR f m) L R) (h : G W n ds E (bigR f (adel m k) :: R) X) : G W n ds E L X :=
  fun a w he hk hs => h a w he hk (sep_imp (fun _ hp => big_del k hp) (hs.pick hL))
theorem kid_there {τ : Tr} {p q : Bs} {num zx : Int} : thereT (kidT τ p num zx) q ↔ thereT τ q := by
  unfold thereT kidT
  dsimp only
  rw [al_amod]
  split
  · cases alook τ.nodes q <;> simp
  · exact Iff.rfl
theorem cut_len (τ : Tr) (p : Bs) : (cutT τ p).nodes.length ≤ τ.nodes.length := List.length_filter_le _ _
theorem part_ev (τ : Tr) (x : Pt) (zx : Int) : (partZ τ x zx).2.length ≤ 2 := by
  unfold partZ createZ eraseZ
  repeat' split
  all_goals simp
theorem parts_ev (τ : Tr) (zx : Int) (l : List Pt) : (partsZ τ zx l).2.length ≤ 2 * l.length := by
  have key : ∀ (l : List Pt) (r : Tr × List Ev), (l.foldl (fun r x => ((partZ r.1 x zx).1, r.2 ++ (partZ r.1 x zx).2)) r).2.length ≤ r.2.length + 2 * l.length := by
    intro l
    induction l with
    | nil => intro r; simp
    | cons x l ih =>
      intro r
      rw [List.foldl_cons]
      refine Nat.le_trans (ih _) ?_
      have := part_ev r.1 x zx
      dsimp only
      rw [List.length_append, List.length_cons]
      omega
  have := key l (τ, [])
  simpa [partsZ] using this
theorem filter_take_yes {f : Pt → Bool} {l : List Pt} {i : Nat} (hi : i < l.length) (h : f l[i] = true) : (l.take (i + 1)).filter f = (l.take i).filter f ++ [l[i]] := by
  rw [List.take_succ_eq_append_getElem hi, List.filter_append]; simp [h]
theorem filter_take_no {f : Pt → Bool} {l : List Pt} {i : Nat} (hi : i < l.length) (h : f l[i] = false) : (l.take (i + 1)).filter f = (l.take i).filter f := by
  rw [List.take_succ_eq_append_getElem hi, List.filter_append]; simp [h]
/-! ### Two trees the same -/
instance : DecidableEq Tr := fun a b => decidable_of_iff (a.nodes = b.nodes ∧ a.sess = b.sess ∧ a.zx = b.zx) ⟨fun ⟨h1, h2, h3⟩ => Tr.ext' h1 h2 h3, fun h => by rw [h]; exact ⟨rfl, rfl, rfl⟩⟩
def statD (τ : Tr) (p : Bs) : Stt := (statZ τ p).getD st0
def dataD (τ : Tr) (p : Bs) : Bs := ((alook τ.nodes p).map (·.data)).getD []
theorem TrI.stat {τ : Tr} {m : NmM} {s : SsM} (h : TrI τ m s) {p : Bs} {x : Nm} (hx : alook m p = some x) : statD τ p = { x.2.2.st with len := x.2.2.data.length, kids := (kidsZ τ p).length } := by
  unfold statD statZ; rw [h.at hx]; rfl
theorem TrI.stat0 {τ : Tr} {m : NmM} {s : SsM} (h : TrI τ m s) {p : Bs} (hx : alook m p = none) : statD τ p = st0 := by
  unfold statD statZ; rw [← h.look, hx]; rfl
end Go.Proofs.YtnnbelmpbmfdnaaGreatDoor

/- Own work: shifts and bits; a slice and nil; numbers out of bytes. -/

namespace Go.Proofs.YtnnbelmpbmfdnaaGreatDoor
open Go

section
variable {P : Program} {E : Env} {L R : List HP} {ty : TypeId} {w : World}
theorem Quiet.or {t t' : TypeId} {x y : Operand} {k : IntKind} {a b : Int} (hx : ev E x = some (.int k a)) (hy : ev E y = some (.int k b)) :
    Quiet P ⟨none, .binOp .or t x y t', ty, "", #[], none⟩ E L (.int k (k.wrap (BitVec.ofInt k.bits a ||| BitVec.ofInt k.bits b).toNat)) := by
  intro ρ w ha _
  simp [execOp, ha x _ hx, ha y _ hy, eqGuard, binOp, Op.intBits, Bind.bind, Sem.bind, Pure.pure, Sem.run]
theorem Quiet.and {t t' : TypeId} {x y : Operand} {k : IntKind} {a b : Int} (hx : ev E x = some (.int k a)) (hy : ev E y = some (.int k b)) :
    Quiet P ⟨none, .binOp .and t x y t', ty, "", #[], none⟩ E L (.int k (k.wrap (BitVec.ofInt k.bits a &&& BitVec.ofInt k.bits b).toNat)) := by
  intro ρ w ha _
  simp [execOp, ha x _ hx, ha y _ hy, eqGuard, binOp, Op.intBits, Bind.bind, Sem.bind, Pure.pure, Sem.run]
theorem run_equal_slice {t e : TypeId} {a : Option Addr} {n c : Nat} (ht : P.underlying t = some (.slice e)) : (Op.equal t (.slice a n c) (.slice none 0 0)).run P w = .ok a.isNone w := by
  unfold Op.equal
  rw [show Op.maxDepth = 9999 + 1 from rfl]
  generalize 9999 = d
  unfold Op.equalIn
  rw [run_bind (run_underlying ht)]; cases a <;> rfl
theorem Quiet.sleq {t t' e : TypeId} {x y : Operand} {a : Option Addr} {n c : Nat} (hx : ev E x = some (.slice a n c)) (hy : ev E y = some (.slice none 0 0)) (ht : P.underlying t = some (.slice e)) : Quiet P ⟨none, .binOp .eql t x y t', ty, "", #[], none⟩ E L (.bool a.isNone) :=
  fun _ _ ha _ => run_eql (ha x _ hx) (ha y _ hy) rfl rfl (run_equal_slice ht)
end
/-- The number that bytes are, the highest first. -/
def beZ : List UInt8 → Int → Int
  | [], n => n
  | c :: s, n => beZ s (n * 256 + c.toNat)
end Go.Proofs.YtnnbelmpbmfdnaaGreatDoor

/- Own work: calls of function values; results that lie in cells; deferred calls. -/
namespace Go.Proofs.YtnnbelmpbmfdnaaGreatDoor
open Go

section
variable {P : Program} {W : World} {n : Nat} {ds : List Deferred} {E : Env} {L R : List HP} {Q : Exit → Act → World → Prop}
theorem agree_list {ρ : Operand → Value} (ha : Agrees E ρ) : ∀ (l : List Operand) (us : List Value), l.map (ev E) = us.map some → l.map ρ = us := by
  intro l
  induction l with
  | nil => intro us h; cases us with
    | nil => rfl
    | cons u us => simp at h
  | cons x l ih => intro us h; cases us with
    | nil => simp at h
    | cons u us =>
      simp only [List.map_cons, List.cons.injEq] at h ⊢
      exact ⟨ha _ _ h.1, ih us h.2⟩
/-! ### Results -/
def resRun (tmps : Array Value) : ResultVar → Sem Value
  | .tmp t => pure (tmps.getD t undef)
  | .cell a t => do loadVar t (← asAddr (tmps.getD a undef))
def ResR (P : Program) (E : Env) (L : List HP) (r : ResultVar) (v : Value) : Prop := ∀ (tmps : Array Value) (w : World), (∀ t v, look E t = some v → tmps[t]? = some v) → St L w → (resRun tmps r).run P w = .ok v w
theorem getD_of {tmps : Array Value} {t : Nat} {v : Value} (h : tmps[t]? = some v) : tmps.getD t undef = v := by simp [h]
theorem ResR.tmp {t : Nat} {v : Value} (h : look E t = some v) : ResR P E L (.tmp t) v := fun tmps w ht _ => by
  show (pure (tmps.getD t undef) : Sem Value).run P w = _
  rw [getD_of (ht _ _ h)]; rfl
theorem ResR.cell {a t : Nat} {b off : Nat} {l : List Value} {T : TypeId} {fr : Nat × Nat} {v : Value} (h : look E a = some (.pointer (some ⟨b, off, none⟩))) (hp : aggOf P t = some none) (hL : Pick (pt b (.cells l.toArray T fr)) L R) (hv : l[off]? = some v) :
    ResR P E L (.cell a t) v := fun tmps w ht hs => by
  show (do loadVar t (← asAddr (tmps.getD a undef)) : Sem Value).run P w = _
  rw [getD_of (ht _ _ h)]
  show (loadVar t ⟨b, off, none⟩).run P w = _
  exact run_loadVar1 hp (hs.pick hL).pt hv
theorem ResR.cellA {a t : Nat} {b off k : Nat} {l vs : List Value} {T : TypeId} {fr : Nat × Nat} (h : look E a = some (.pointer (some ⟨b, off, none⟩))) (hp : aggOf P t = some (some k)) (hL : Pick (pt b (.cells l.toArray T fr)) L R) (hc : off + k ≤ l.length) (hv : (l.drop off).take k = vs) :
    ResR P E L (.cell a t) (.agg vs.toArray) := fun tmps w ht hs => by
  show (do loadVar t (← asAddr (tmps.getD a undef)) : Sem Value).run P w = _
  rw [getD_of (ht _ _ h)]
  show (loadVar t ⟨b, off, none⟩).run P w = _
  rw [← hv]; exact run_loadVarA hp (hs.pick hL).pt hc
theorem results_eq (fn : Func) (tmps : Array Value) : results fn tmps = (do let vs ← fn.results.mapM (resRun tmps); pure (if h : vs.size = 1 then vs[0] else .tuple vs) : Sem Value) := by
  unfold results
  have e : (fun r : ResultVar => (match r with | .tmp t => pure (tmps.getD t undef) | .cell a t => do loadVar t (← asAddr (tmps.getD a undef)) : Sem Value)) = resRun tmps := by
    funext r; cases r <;> rfl
  rw [← e]
  rfl
theorem results_2 {fn : Func} {r s : ResultVar} {tmps : Array Value} {w : World} {v u : Value} (hl : fn.results = #[r, s]) (h : (resRun tmps r).run P w = .ok v w) (h' : (resRun tmps s).run P w = .ok u w) : (results fn tmps).run P w = .ok (.tuple #[v, u]) w := by
  simp [results_eq, hl, Sem.run_bind, Result.andThen, h, h']
theorem G.done2 {fn : Func} {post : Value → List HP → Prop} {F : List HP} {L' : List HP} {r s : ResultVar} {v u : Value} (hl : fn.results = #[r, s]) (hr : ResR P E L r v) (hr' : ResR P E L s u) (hp : post (.tuple #[v, u]) L') (hL : Picks L' L R) (hF : Suff F R) : G W n [] E L (FnQ P fn post F W .ret) := by
  intro a w he hk hs
  exact ⟨he.defers, _, results_2 hl (hr _ _ he.slots hs) (hr' _ _ he.slots hs), _, L', hp, rfl, hF.st (hs.picks hL), hk⟩
/-! ### Deferred calls -/
def FnQD (P : Program) (fn : Func) (post : Value → List HP → Prop) (F : List HP) (W : World) : Exit → Act → World → Prop :=
  bodyPostD P fn fun e w' => ∃ v L, post v L ∧ e = .returned v ∧ St (L ++ F) w' ∧ Keeps W w'
def FnD (P : Program) (f : FuncId) (args : Array Value) (pre : List HP) (post : Value → List HP → Prop) : Prop :=
  ∀ (F : List HP) (w : World) (u : FrameMode), St (pre ++ F) w → CallsD P f args u w fun e u' w' => u' = u ∧ ∃ v L, post v L ∧ e = .returned v ∧ St (L ++ F) w' ∧ Keeps w w'
theorem FnD.intro {f : FuncId} {fn : Func} {c : Code} {vs : List Value} {pre : List HP} {post : Value → List HP → Prop} {n : Nat}
    (hf : P.funcs[f]? = some fn) (hb : fn.body = some c) (hn : vs.length + (fn.ntmps - vs.length) = n)
    (h : ∀ F W, G W n [] (argE 0 vs) (pre ++ F) (c.wp P (FnQ P fn post F W))) : FnD P f vs.toArray pre post := by
  intro F w u hs
  refine callsD_of_wp hf hb (h F w _ w ⟨?_, rfl, fun t v hl => ?_⟩ (.refl w) hs)
  · simp [← hn]
  · obtain ⟨-, h2⟩ := look_argE _ _ _ _ hl
    have hlt : t < vs.length := by
      rcases Nat.lt_or_ge t vs.length with h | h
      · exact h
      · simp [List.getElem?_eq_none h] at h2
    simp only [Nat.sub_zero] at h2
    rw [List.getElem?_eq_getElem hlt] at h2
    simp only [Option.some.injEq] at h2
    simp [Array.getElem?_append, hlt, h2]
end
end Go.Proofs.YtnnbelmpbmfdnaaGreatDoor

/- Own work: the document's tree in memory: a list of nodes, a list of sessions; texts compared by their order. -/

namespace Go.Proofs.YtnnbelmpbmfdnaaGreatDoor
open Go

section
variable {P : Program} {E : Env} {L : List HP} {ty : TypeId}
theorem Quiet.strge {t t' : TypeId} {x y : Operand} {a b : List UInt8} (hx : ev E x = some (vstr a)) (hy : ev E y = some (vstr b)) : Quiet P ⟨none, .binOp .geq t x y t', ty, "", #[], none⟩ E L (.bool (decide (¬ a < b))) := by
  intro ρ w ha _
  have key : (!Op.bytesLess a b) = decide (¬ a < b) := by rw [bytesLess_eq, decide_not]
  rw [← key]
  simp [execOp, ha x _ hx, ha y _ hy, eqGuard, binOp, Op.stringOp, Bind.bind, Sem.bind, Pure.pure, Sem.run]
end
/-- A node in the document's list: its path, where its ACL lies, what it is. -/
abbrev Rn := Bs × (Value × Nd)
def rnC (z : Rn) : List Value := [vstr z.1, vstr z.2.2.data, z.2.1, vint z.2.2.st.cz, vint z.2.2.st.mz, vint z.2.2.st.pz, vint z.2.2.st.ver, vint z.2.2.st.cver, vint z.2.2.st.av, vint z.2.2.st.own, vint z.2.2.st.len, vint z.2.2.st.kids]
def rsC (y : Int × (Int × Bs)) : List Value := [vint y.1, vint y.2.1, vstr y.2.2]
def inA (z : Rn) : HP := rdO 2 z.2.1 z.2.2.acl.length (z.2.2.acl.flatMap acC)
def ndsZ (l : List Rn) : List (Bs × Nd) := l.map fun z => (z.1, z.2.2)
abbrev rnR (v : Value) (l : List Rn) : HP := slR 131 12 v l.length (l.flatMap rnC)
abbrev rsR (v : Value) (l : SsM) : HP := slR 134 3 v l.length (l.flatMap rsC)
def refR (x : Nat) (τ : Tr) : HP := fun h => ∃ y : (Value × Value) × List Rn, ndsZ y.2 = τ.nodes ∧ sep [ptc x [y.1.1, y.1.2, vint τ.zx] 101, rnR y.1.1 y.2, rsR y.1.2 τ.sess, bigR inA y.2] h
section
variable {W : World} {n : Nat} {ds : List Deferred} {E : Env} {L R : List HP} {X : Act → World → Prop}
theorem G.rfOpen {x : Nat} {τ : Tr} (hL : Pick (refR x τ) L R) (h : ∀ (an cn as' cs : _) (l : List Rn), ndsZ l = τ.nodes → G W n ds E (ptc x [.slice an l.length cn, .slice as' τ.sess.length cs, vint τ.zx] 101 :: rnR (.slice an l.length cn) l :: rsR (.slice as' τ.sess.length cs) τ.sess :: bigR inA l :: R) X) : G W n ds E L X := by
  refine G.focus hL (G.open (q := fun y : (Value × Value) × List Rn => [ptc x [y.1.1, y.1.2, vint τ.zx] 101, rnR y.1.1 y.2, rsR y.1.2 τ.sess, bigR inA y.2]) (φ := fun y : (Value × Value) × List Rn => ndsZ y.2 = τ.nodes) (fun _ hp => hp) fun y hy => ?_)
  obtain ⟨⟨v1, v2⟩, l⟩ := y
  dsimp only at hy ⊢
  refine G.slAny (v := v1) (by repeat (first | exact Pick.here | apply Pick.there)) fun an cn e0 _ => ?_
  subst e0
  refine G.slAny (v := v2) (by repeat (first | exact Pick.here | apply Pick.there)) fun as' cs e0 _ => ?_
  subst e0
  exact fun a w he hk hs => h an cn as' cs l hy a w he hk (hs.picks (by repeat (first | exact Picks.nil | (apply Picks.cons; (repeat (first | exact Pick.here | apply Pick.there))))))
theorem G.rfFold {x : Nat} {τ : Tr} {l : List Rn} {v1 v2 : Value} {c : List Value} {k1 k2 : Nat} {y1 y2 : List Value} (hn : ndsZ l = τ.nodes) (hL : Picks [ptc x c 101, slR 131 12 v1 k1 y1, slR 134 3 v2 k2 y2, bigR inA l] L R) (hc : c = [v1, v2, vint τ.zx]) (h1 : k1 = l.length) (h2 : y1 = l.flatMap rnC) (h3 : k2 = τ.sess.length) (h4 : y2 = τ.sess.flatMap rsC)
    (h : G W n ds E (refR x τ :: R) X) : G W n ds E L X := by
  subst hc; subst h1; subst h2; subst h3; subst h4
  exact G.fold hL (fun _ hp => ⟨((v1, v2), l), hn, hp⟩) h
theorem G.rfCast {x : Nat} {τ τ' : Tr} (hL : Pick (refR x τ) L R) (hw : τ' = τ) (h : G W n ds E (refR x τ' :: R) X) : G W n ds E L X := by
  subst hw; exact G.focus hL h
end
theorem nds_len {l : List Rn} {m : List (Bs × Nd)} (h : ndsZ l = m) : l.length = m.length := by rw [← h]; simp [ndsZ]
theorem nds_get {l : List Rn} {m : List (Bs × Nd)} (h : ndsZ l = m) {i : Nat} (hi : i < l.length) : m[i]'(by rw [← nds_len h]; exact hi) = (l[i].1, l[i].2.2) := by
  subst h; simp [ndsZ]
theorem rn_cell {l : List Rn} {i k : Nat} (hi : i < l.length) (hk : k < 12) : (l.flatMap rnC)[i * 12 + k]? = (rnC l[i])[k]? := flatMap_cell (f := rnC) (sz := 12) (fun _ _ => rfl) hi hk
theorem rs_cell {l : SsM} {i k : Nat} (hi : i < l.length) (hk : k < 3) : (l.flatMap rsC)[i * 3 + k]? = (rsC l[i])[k]? := flatMap_cell (f := rsC) (sz := 3) (fun _ _ => rfl) hi hk
/-! ### Places -/
def placeTo {β : Type} (l : List (Bs × β)) (p : Bs) : Int := match posK p (l.map (·.1)) with
  | some i => i
  | none => -1
def placeZ (τ : Tr) (p : Bs) : Int := placeTo τ.nodes p
theorem posK_at {K : Type} [DecidableEq K] {l : List K} {k : K} : ∀ {i : Nat} (hi : i < l.length), l[i] = k → (∀ j (hj : j < i), l[j]'(by omega) ≠ k) → posK k l = some i := by
  induction l with
  | nil => intro i hi; simp at hi
  | cons a l ih =>
    intro i hi h1 h2
    unfold posK
    cases i with
    | zero => simp at h1; rw [if_pos h1.symm]
    | succ i =>
      rw [if_neg (fun e => h2 0 (by omega) (by simpa using e.symm)), ih (i := i) (by simpa using hi) (by simpa using h1) (fun j hj => by simpa using h2 (j + 1) (by omega))]
      rfl
theorem posK_none {K : Type} [DecidableEq K] {l : List K} {k : K} (h : k ∉ l) : posK k l = none := by
  induction l with
  | nil => rfl
  | cons a l ih =>
    unfold posK
    rw [if_neg (fun e => h (by rw [e]; exact List.mem_cons_self)), ih (fun g => h (List.mem_cons_of_mem _ g))]; rfl
theorem posK_get {K : Type} [DecidableEq K] {l : List K} {k : K} : ∀ {i : Nat}, posK k l = some i → ∃ hi : i < l.length, l[i] = k ∧ ∀ j (hj : j < i), l[j]'(by omega) ≠ k := by
  induction l with
  | nil => intro i h; cases h
  | cons a l ih =>
    intro i h
    unfold posK at h
    split at h
    · rename_i e; cases h; exact ⟨by simp, by simp [e], fun j hj => by omega⟩
    · rename_i e
      rcases h2 : posK k l with _ | i'
      · rw [h2] at h; cases h
      · rw [h2] at h; cases h
        obtain ⟨g1, g2, g3⟩ := ih h2
        refine ⟨by simp; omega, by simpa using g2, fun j hj => ?_⟩
        cases j with
        | zero => simpa using fun e2 => e e2.symm
        | succ j => simpa using g3 j (by have hj' : j + 1 < i' + 1 := hj; omega)
theorem place_at {β : Type} {l : List (Bs × β)} {p : Bs} {i : Nat} (hi : i < l.length) (h1 : l[i].1 = p) (h2 : ∀ j (hj : j < i), l[j].1 ≠ p) : placeTo l p = i := by
  unfold placeTo
  rw [posK_at (i := i) (by simpa using hi) (by simpa using h1) (fun j hj => by simpa using h2 j hj)]
theorem place_none {β : Type} {l : List (Bs × β)} {p : Bs} (h : ∀ j (hj : j < l.length), l[j].1 ≠ p) : placeTo l p = -1 := by
  unfold placeTo
  rw [posK_none]
  intro hm
  obtain ⟨x, hx, e⟩ := List.mem_map.1 hm
  obtain ⟨j, hj, rfl⟩ := List.mem_iff_getElem.1 hx
  exact h j hj e
/-- A place that is there. -/
theorem place_get {β : Type} {l : List (Bs × β)} {p : Bs} (h : 0 ≤ placeTo l p) : ∃ k : Nat, ∃ hk : k < l.length, placeTo l p = k ∧ l[k].1 = p := by
  unfold placeTo at h ⊢
  rcases e : posK p (l.map (·.1)) with _ | k
  · rw [e] at h; exact absurd h (by decide)
  · obtain ⟨g1, g2, -⟩ := posK_get e
    exact ⟨k, by simpa using g1, by rw [e], by simpa using g2⟩
theorem place_iff {β : Type} {l : List (Bs × β)} {p : Bs} : 0 ≤ placeTo l p ↔ (alook l p).isSome = true := by
  rw [al_isSome]
  constructor
  · intro h
    obtain ⟨k, hk, -, e⟩ := place_get h
    exact List.mem_map.2 ⟨l[k], List.getElem_mem hk, e⟩
  · intro h
    unfold placeTo
    rcases e : posK p (l.map (·.1)) with _ | k
    · exfalso
      have key : ∀ l : List Bs, p ∈ l → posK p l ≠ none := by
        intro l
        induction l with
        | nil => intro h; cases h
        | cons a l ih =>
          intro h
          unfold posK
          split
          · simp
          · rename_i hne
            rcases List.mem_cons.1 h with g | g
            · exact absurd g hne
            · intro e2
              have := ih g
              rcases e3 : posK p l with _ | j
              · exact this e3
              · rw [e3] at e2; cases e2
      exact key _ h e
    · first | (rw [e]; exact Int.natCast_nonneg _) | exact Int.natCast_nonneg _
theorem place_nds (l : List Rn) (p : Bs) : placeTo (ndsZ l) p = placeTo l p := by
  unfold placeTo ndsZ; rw [List.map_map]; rfl
/-- One place written is one key written. -/
theorem amod_set {β : Type} {l : List (Bs × β)} (hn : (l.map (·.1)).Nodup) {k : Nat} (hk : k < l.length) (f : β → β) : amod l l[k].1 f = l.set k (l[k].1, f l[k].2) := by
  apply List.ext_getElem
  · simp [amod]
  · intro i h1 h2
    have hi : i < l.length := by simpa [amod] using h1
    simp only [amod, List.getElem_map, List.getElem_set]
    by_cases e : k = i
    · subst e; simp
    · have : l[i].1 ≠ l[k].1 := fun g => by
        have := (List.getElem_inj (i := i) (j := k) (h₀ := by simpa using hi) (h₁ := by simpa using hk) hn).1 (by simpa using g)
        exact e this.symm
      rw [if_neg this, if_neg e]
theorem flatMap_set {α : Type} {f : α → List Value} {sz : Nat} : ∀ {l : List α} {i k : Nat} {v : Value} {y : α} (hf : ∀ x, (f x).length = sz) (hi : i < l.length) (hk : k < sz) (hy : (f l[i]).set k v = f y), (l.flatMap f).set (i * sz + k) v = (l.set i y).flatMap f
  | x :: l, 0, k, v, y, hf, hi, hk, hy => by
    simp only [List.flatMap_cons, List.set_cons_zero, Nat.zero_mul, Nat.zero_add]
    rw [List.set_append_left _ _ (by rw [hf]; exact hk)]
    congr 1
  | x :: l, i + 1, k, v, y, hf, hi, hk, hy => by
    simp only [List.flatMap_cons, List.set_cons_succ]
    rw [List.set_append_right _ _ (by rw [hf, Nat.add_mul]; omega), hf, show (i + 1) * sz + k - sz = i * sz + k by rw [Nat.add_mul]; omega]
    congr 1
    exact flatMap_set hf (by simpa using hi) hk (by simpa using hy)
theorem nds_set {l : List Rn} {i : Nat} (y : Rn) : ndsZ (l.set i y) = (ndsZ l).set i (y.1, y.2.2) := by unfold ndsZ; rw [List.map_set]
theorem big_set {l : List Rn} {i : Nat} {y : Rn} (hi : i < l.length) (h1 : inA y = inA l[i]) {h : Hp} (hs : bigR inA l h) : bigR inA (l.set i y) h := by
  unfold bigR at hs ⊢
  rw [List.map_set, h1]
  have : (l.map inA).set i (inA l[i]) = l.map inA := by
    apply List.ext_getElem
    · simp
    · intro j _ _
      rw [List.getElem_set]
      split
      · rename_i e; subst e; simp
      · rfl
  rw [this]; exact hs
theorem G.bigSet {W : World} {n : Nat} {ds : List Deferred} {E : Env} {L R : List HP} {X : Act → World → Prop} {l : List Rn} {i : Nat} {y : Rn} (hi : i < l.length) (h1 : inA y = inA l[i]) (hL : Pick (bigR inA l) L R) (h : G W n ds E (bigR inA (l.set i y) :: R) X) : G W n ds E L X :=
  fun a w he hk hs => h a w he hk (sep_imp (fun _ hp => big_set hi h1 hp) (hs.pick hL))
theorem nds_sset {l : List Rn} (p : Bs) (y : Value × Nd) : ndsZ (sset l p y) = sset (ndsZ l) p y.2 := by
  induction l with
  | nil => rfl
  | cons x l ih =>
    show ndsZ (sset (x :: l) p y) = sset ((x.1, x.2.2) :: ndsZ l) p y.2
    unfold sset
    dsimp only
    split
    · rfl
    · split
      · rfl
      · show (x.1, x.2.2) :: ndsZ (sset l p y) = _
        rw [ih]
theorem nds_sorted {l : List Rn} (h : SortedK (ndsZ l)) : SortedK l := by
  unfold SortedK ndsZ at *
  rw [List.map_map] at h; exact h
theorem sset_perm {K β : Type} [LT K] [DecidableEq K] [DecidableLT K] (ho : Lin K) {l : List (K × β)} (h : SortedK l) (k : K) (v : β) : (sset l k v).Perm ((k, v) :: adel l k) := by
  have hn := h.nodup ho
  refine al_ext_perm ((h.sset ho k v).nodup ho) ?_ fun x => ?_
  · rw [List.map_cons]
    refine List.nodup_cons.2 ⟨fun g => ?_, nodup_adel hn k⟩
    have := al_isSome.2 g
    rw [al_adel hn, if_pos rfl] at this; cases this
  · rw [al_sset]
    by_cases e : x = k
    · subst e; simp [alook]
    · rw [if_neg e]; simp only [alook, e, if_false]; rw [al_adel hn, if_neg e]
theorem big_sset {l : List Rn} (hs : SortedK l) {k : Bs} {v : Value × Nd} {h : Hp} (hp : sep [inA (k, v), bigR inA l] h) : bigR inA (sset l k v) h := by
  refine big_perm (sset_perm linB hs k v).symm (big_of_cons ?_)
  obtain ⟨h1, h2, hd, a1, a2, p1, h3, h4, hd2, b1, b2, p2, p3⟩ := hp
  exact ⟨h1, h2, hd, a1, a2, p1, h3, h4, hd2, b1, b2, big_del k p2, p3⟩
theorem G.bigSset {W : World} {n : Nat} {ds : List Deferred} {E : Env} {L R : List HP} {X : Act → World → Prop} {l : List Rn} (hs : SortedK l) (k : Bs) (v : Value × Nd) {p : HP} (hp : p = inA (k, v)) (hL : Picks [p, bigR inA l] L R) (h : G W n ds E (bigR inA (sset l k v) :: R) X) : G W n ds E L X := by
  subst hp
  exact G.fold hL (fun _ hp => big_sset hs hp) h
theorem big_sub {α : Type} {f : α → HP} {l m : List α} (hs : l.Sublist m) {h : Hp} (hp : bigR f m h) : bigR f l h := by
  induction hs generalizing h with
  | slnil => exact hp
  | cons a _ ih =>
    obtain ⟨h1, h2, -, -, a2, -, p2⟩ := hp
    exact sep_mono (ih p2) a2
  | cons_cons a _ ih =>
    obtain ⟨h1, h2, hd, a1, a2, p1, p2⟩ := hp
    exact ⟨h1, h2, hd, a1, a2, p1, ih p2⟩
theorem G.bigSub {W : World} {n : Nat} {ds : List Deferred} {E : Env} {L R : List HP} {X : Act → World → Prop} {l m : List Rn} (hs : l.Sublist m) (hL : Pick (bigR inA m) L R) (h : G W n ds E (bigR inA l :: R) X) : G W n ds E L X :=
  fun a w he hk hs' => h a w he hk (sep_imp (fun _ hp => big_sub hs hp) (hs'.pick hL))
theorem nds_filter {l : List Rn} (f : Bs → Bool) : ndsZ (l.filter fun y => f y.1) = (ndsZ l).filter fun y => f y.1 := by
  unfold ndsZ
  rw [List.filter_map]; rfl
/-- Laying among the others, one by one. -/
structure LayI {β : Type} (l : List (Bs × β)) (p : Bs) (v : β) (i : Nat) (b : Bool) (acc : List (Bs × β)) : Prop where
  no : b = false → acc = l.take i ∧ ∀ x ∈ l.take i, x.1 < p
  yes : b = true → acc = sset (l.take i) p v ∧ ∃ x ∈ l.take i, ¬ x.1 < p
theorem sset_end {β : Type} {l : List (Bs × β)} {p : Bs} (v : β) (h : ∀ x ∈ l, x.1 < p) : sset l p v = l ++ [(p, v)] := by
  induction l with
  | nil => rfl
  | cons x l ih =>
    have hx := h x List.mem_cons_self
    unfold sset
    rw [if_neg (fun e => linB.irr p (by rw [← e] at hx ⊢; exact hx)), if_neg (fun g => linB.irr _ (linB.tr _ _ _ hx g)), ih (fun y hy => h y (List.mem_cons_of_mem _ hy))]; rfl
theorem sset_past {β : Type} {l : List (Bs × β)} {p : Bs} (v : β) (y : Bs × β) (h : ∃ x ∈ l, ¬ x.1 < p) : sset (l ++ [y]) p v = sset l p v ++ [y] := by
  induction l with
  | nil => obtain ⟨x, hx, -⟩ := h; cases hx
  | cons x l ih =>
    rw [List.cons_append]
    unfold sset
    split
    · rfl
    · split
      · rfl
      · rename_i e1 e2
        have hx : x.1 < p := by
          rcases linB.tri x.1 p with g | g | g
          · exact g
          · exact absurd g e1
          · exact absurd g e2
        rw [ih]; rfl
        obtain ⟨z, hz, g⟩ := h
        rcases List.mem_cons.1 hz with rfl | hz
        · exact absurd hx g
        · exact ⟨z, hz, g⟩
theorem LayI.start {β : Type} (l : List (Bs × β)) (p : Bs) (v : β) : LayI l p v 0 false [] := ⟨fun _ => ⟨by simp, by simp⟩, fun h => by cases h⟩
theorem take_lt {β : Type} {l : List (Bs × β)} (hs : SortedK l) {i : Nat} (hi : i < l.length) : ∀ x ∈ l.take i, x.1 < l[i].1 := fun x hx => by
  obtain ⟨j, hj, rfl⟩ := List.mem_iff_getElem.1 hx
  rw [List.length_take] at hj
  rw [List.getElem_take]
  have := List.pairwise_iff_getElem.1 hs j i (by simp; omega) (by simpa using hi) (by omega)
  simpa using this
/-- Nothing is laid yet; the next one is below. -/
theorem LayI.low {β : Type} {l : List (Bs × β)} {p : Bs} {v : β} {i : Nat} {acc : List (Bs × β)} (h : LayI l p v i false acc) (hi : i < l.length) (hl : l[i].1 < p) : LayI l p v (i + 1) false (acc ++ [l[i]]) := by
  obtain ⟨h1, h2⟩ := h.no rfl
  refine ⟨fun _ => ⟨by rw [h1, List.take_succ_eq_append_getElem hi], fun x hx => ?_⟩, fun g => by cases g⟩
  rw [List.take_succ_eq_append_getElem hi] at hx
  rcases List.mem_append.1 hx with hx | hx
  · exact h2 x hx
  · simp at hx; rw [hx]; exact hl
/-- It is laid ahead of one that is above. -/
theorem LayI.put {β : Type} {l : List (Bs × β)} {p : Bs} {v : β} {i : Nat} {acc : List (Bs × β)} (h : LayI l p v i false acc) (hi : i < l.length) (hl : ¬ l[i].1 < p) (hne : l[i].1 ≠ p) : LayI l p v (i + 1) true ((acc ++ [(p, v)]) ++ [l[i]]) := by
  obtain ⟨h1, h2⟩ := h.no rfl
  refine ⟨(fun g => by cases g), fun _ => ⟨?_, l[i], by rw [List.take_succ_eq_append_getElem hi]; exact List.mem_append_right _ List.mem_cons_self, hl⟩⟩
  have hgt : p < l[i].1 := by
    rcases linB.tri l[i].1 p with g | g | g
    · exact absurd g hl
    · exact absurd g hne
    · exact g
  rw [List.take_succ_eq_append_getElem hi, h1]
  have key : ∀ (m : List (Bs × β)), (∀ x ∈ m, x.1 < p) → sset (m ++ [l[i]]) p v = m ++ [(p, v)] ++ [l[i]] := by
    intro m
    induction m with
    | nil => intro _; show sset [l[i]] p v = _; unfold sset; rw [if_neg hne, if_pos hgt]; rfl
    | cons x m ih =>
      intro hm
      have hx := hm x List.mem_cons_self
      rw [List.cons_append]
      unfold sset
      rw [if_neg (fun e => linB.irr p (by rw [← e] at hx ⊢; exact hx)), if_neg (fun g => linB.irr _ (linB.tr _ _ _ hx g)), ih (fun y hy => hm y (List.mem_cons_of_mem _ hy))]; rfl
  exact (key _ h2).symm
/-- It takes the place of the one of its path. -/
theorem LayI.sub {β : Type} {l : List (Bs × β)} {p : Bs} {v : β} {i : Nat} {acc : List (Bs × β)} (h : LayI l p v i false acc) (hi : i < l.length) (he : l[i].1 = p) : LayI l p v (i + 1) true (acc ++ [(p, v)]) := by
  obtain ⟨h1, h2⟩ := h.no rfl
  refine ⟨(fun g => by cases g), fun _ => ⟨?_, l[i], by rw [List.take_succ_eq_append_getElem hi]; exact List.mem_append_right _ List.mem_cons_self, by rw [he]; exact linB.irr p⟩⟩
  rw [List.take_succ_eq_append_getElem hi, h1]
  have key : ∀ (m : List (Bs × β)), (∀ x ∈ m, x.1 < p) → sset (m ++ [l[i]]) p v = m ++ [(p, v)] := by
    intro m
    induction m with
    | nil => intro _; show sset [l[i]] p v = _; unfold sset; rw [if_pos he]; rfl
    | cons x m ih =>
      intro hm
      have hx := hm x List.mem_cons_self
      rw [List.cons_append]
      unfold sset
      rw [if_neg (fun e => linB.irr p (by rw [← e] at hx ⊢; exact hx)), if_neg (fun g => linB.irr _ (linB.tr _ _ _ hx g)), ih (fun y hy => hm y (List.mem_cons_of_mem _ hy))]; rfl
  exact (key _ h2).symm
/-- It is laid; the others follow. -/
theorem LayI.more {β : Type} {l : List (Bs × β)} {p : Bs} {v : β} {i : Nat} {acc : List (Bs × β)} (h : LayI l p v i true acc) (hi : i < l.length) : LayI l p v (i + 1) true (acc ++ [l[i]]) := by
  obtain ⟨h1, h2⟩ := h.yes rfl
  refine ⟨(fun g => by cases g), fun _ => ⟨by rw [h1, List.take_succ_eq_append_getElem hi, sset_past v _ h2], ?_⟩⟩
  obtain ⟨x, hx, g⟩ := h2
  exact ⟨x, by rw [List.take_succ_eq_append_getElem hi]; exact List.mem_append_left _ hx, g⟩
theorem LayI.not {β : Type} {l : List (Bs × β)} (hs : SortedK l) {p : Bs} {v : β} {i : Nat} {acc : List (Bs × β)} (h : LayI l p v i true acc) (hi : i < l.length) : l[i].1 ≠ p := by
  obtain ⟨-, x, hx, g⟩ := h.yes rfl
  intro e
  exact g (by rw [← e]; exact take_lt hs hi x hx)
theorem LayI.last {β : Type} {l : List (Bs × β)} {p : Bs} {v : β} {acc : List (Bs × β)} {b : Bool} (h : LayI l p v l.length b acc) : (if b then acc else acc ++ [(p, v)]) = sset l p v := by
  cases b with
  | true => obtain ⟨h1, -⟩ := h.yes rfl; rw [List.take_length] at h1; exact h1
  | false =>
    obtain ⟨h1, h2⟩ := h.no rfl
    rw [List.take_length] at h1 h2
    rw [sset_end v h2, h1]; rfl
/-- A session is put in its place. -/
theorem sset_at {β : Type} {l : List (Int × β)} {k : Int} {v : β} {i : Nat} (hi : i ≤ l.length) (h1 : ∀ x ∈ l.take i, x.1 < k) (h2 : ∀ h : i < l.length, ¬ l[i].1 < k) (h3 : ∀ x ∈ l, x.1 ≠ k) : l.take i ++ [(k, v)] ++ l.drop i = sset l k v := by
  induction l generalizing i with
  | nil => simp at hi; subst hi; rfl
  | cons x l ih =>
    have hx3 := h3 x List.mem_cons_self
    cases i with
    | zero =>
      have hx2 := h2 (by simp)
      simp at hx2
      unfold sset
      rw [if_neg hx3, if_pos (by omega)]; rfl
    | succ i =>
      have hx1 := h1 x (by simp)
      unfold sset
      rw [if_neg hx3, if_neg (by omega), ← ih (i := i) (by simpa using hi) (fun y hy => h1 y (by simp [hy])) (fun h => by have := h2 (by simpa using h); simpa using this) (fun y hy => h3 y (List.mem_cons_of_mem _ hy))]
      simp
theorem open_drop {τ : Tr} {N : Nat} (ho : τ.Ok N) (id n : Int) (s : Bs) : openS (dropS τ id) id n s = openS τ id n s := by
  refine Tr.ext' rfl ?_ rfl
  show sset (τ.sess.filter _) id (n, s) = sset τ.sess id (n, s)
  refine sorted_same linI ((ho.ssorted.filter _).sset linI _ _) (ho.ssorted.sset linI _ _) fun i => ?_
  rw [al_sset, al_sset, al_filter (fun k => !decide (k = id))]
  by_cases e : i = id
  · rw [if_pos e, if_pos e]
  · rw [if_neg e, if_neg e]; simp [e]
theorem nds_mod {l : List Rn} {m : List (Bs × Nd)} (hl : ndsZ l = m) (hn : (m.map (·.1)).Nodup) {k : Nat} (hk : k < l.length) {p : Bs} (hp : l[k].1 = p) (f : Nd → Nd) {v : Value} {n : Nd} (hy : n = f l[k].2.2) : ndsZ (l.set k (l[k].1, (v, n))) = amod m p f := by
  subst hl; subst hp; subst hy
  have h2 : (ndsZ l)[k]'(by simpa [ndsZ] using hk) = (l[k].1, l[k].2.2) := by simp [ndsZ]
  have := amod_set hn (k := k) (by simpa [ndsZ] using hk) f
  rw [h2] at this
  rw [nds_set, this]
theorem big_rep {l : List Rn} {k : Nat} {y : Rn} (hk : k < l.length) {h : Hp} (hs : sep [inA y, bigR inA l] h) : bigR inA (l.set k y) h := by
  have e1 : (l.set k y).Perm (y :: (l.take k ++ l.drop (k + 1))) := by
    rw [List.set_eq_take_append_cons_drop, if_pos hk]
    exact List.perm_middle
  have e2 : (l.take k ++ l.drop (k + 1)).Sublist l := by
    have : l.take k ++ l.drop (k + 1) = l.eraseIdx k := (List.eraseIdx_eq_take_drop_succ l k).symm
    rw [this]; exact List.eraseIdx_sublist l k
  refine big_perm e1.symm (big_of_cons ?_)
  obtain ⟨h1, h2, hd, a1, a2, p1, h3, h4, hd2, b1, b2, p2, p3⟩ := hs
  exact ⟨h1, h2, hd, a1, a2, p1, h3, h4, hd2, b1, b2, big_sub e2 p2, p3⟩
theorem G.bigRep {W : World} {n : Nat} {ds : List Deferred} {E : Env} {L R : List HP} {X : Act → World → Prop} {l : List Rn} {k : Nat} (y : Rn) (hk : k < l.length) {p : HP} (hp : p = inA y) (hL : Picks [p, bigR inA l] L R) (h : G W n ds E (bigR inA (l.set k y) :: R) X) : G W n ds E L X := by
  subst hp
  exact G.fold hL (fun _ hp => big_rep hk hp) h
theorem Fn.pre2 {P : Program} {f : FuncId} {args : Array Value} {pre pre' : List HP} {post : Value → List HP → Prop} (h : Fn P f args pre post) (hp : ∀ F w, St (pre' ++ F) w → St (pre ++ F) w) : Fn P f args pre' post := fun F w hs => h F w (hp F w hs)
/-! ### Parts of slices -/
def cutA (a : Option Addr) (c i sz : Nat) : Option Addr := if c = i then a else a.map (·.add (i * sz))
section
variable {P : Program} {E : Env} {L : List HP} {ty : TypeId}
theorem Quiet.slFromO {t : TypeId} {x y : Operand} {a : Option Addr} {n c e sz by' : Nat} {i : Int} (hx : ev E x = some (.slice a n c)) (ht : elemOf' P t = some (e, sz, by')) (hy : ev E y = some (.int .i64 i)) (hb : 0 ≤ i ∧ i ≤ n ∧ n ≤ c) :
    Quiet P ⟨none, .slice t x (some y) none none, ty, "", #[], none⟩ E L (.slice (cutA a c i.toNat sz) (n - i.toNat) (c - i.toNat)) := by
  intro ρ w ha _
  unfold elemOf' at ht
  split at ht <;> (try cases ht)
  rename_i e' hu
  split at ht <;> (try cases ht)
  rename_i inf hin
  refine run_v ?_
  show (Instr.sliceAt t (ρ x) (some (ρ y)) none none).run P w = _
  rw [ha x _ hx, ha y _ hy]
  unfold Instr.sliceAt
  rw [run_bind (run_underlying hu)]
  show (Instr.slice t (.slice a n c) (some (.int .i64 i)) none none).run P w = _
  unfold Instr.slice
  rw [run_bind (run_underlying hu)]
  show (do let (l, h, m) ← Instr.sliceBounds true n c (some (.int .i64 i)) none none; let size ← sizeOf e; pure (.slice (if m = l then a else a.map (·.add (l * size))) (h - l) (m - l)) : Sem Value).run P w = _
  rw [run_bind (run_sliceBounds (i := i) (j := n) (.inl rfl) (.inr ⟨rfl, rfl⟩) ⟨hb.1, by omega, by omega⟩)]
  show (do let size ← sizeOf e; pure (.slice (if c = i.toNat then a else a.map (·.add (i.toNat * size))) ((n : Int).toNat - i.toNat) (c - i.toNat)) : Sem Value).run P w = _
  rw [run_bind (run_sizeOf (k := inf.size) (by simp [sizeOf', hin]))]
  rw [Int.toNat_natCast]; rfl
end
theorem slR_rd_to {T : TypeId} {sz n k c : Nat} {a : Option Addr} {xs : List Value} {h : Hp} (hk : k ≤ n) (hp : slR T sz (.slice a n c) n xs h) : rdS sz h (.slice a k c) k (xs.take (k * sz)) := by
  rcases hp with ⟨h1, h2, h3⟩ | ⟨b, cap, rest, fr, hv, hb, h1, h2, h3, h4⟩
  · subst h2; subst h3
    obtain rfl : k = 0 := by omega
    exact .inl ⟨rfl, by simp, a, c, rfl⟩
  · simp only [Value.slice.injEq, true_and] at hv
    obtain ⟨rfl, rfl⟩ := hv
    have hm := Nat.mul_le_mul_right sz hk
    refine .inr ⟨b, 0, c, xs ++ rest, T, fr, rfl, hb, ?_, by simp; omega, by omega⟩
    rw [List.drop_zero, List.take_append_of_le_length (by omega)]
theorem slR_rd_from {T : TypeId} {sz n k c : Nat} {a : Option Addr} {xs : List Value} {h : Hp} (hk : k ≤ n) (hp : slR T sz (.slice a n c) n xs h) : rdS sz h (.slice (cutA a c k sz) (n - k) (c - k)) (n - k) (xs.drop (k * sz)) := by
  rcases hp with ⟨h1, h2, h3⟩ | ⟨b, cap, rest, fr, hv, hb, h1, h2, h3, h4⟩
  · subst h2; subst h3
    obtain rfl : k = 0 := by omega
    exact .inl ⟨rfl, by simp, _, _, rfl⟩
  · simp only [Value.slice.injEq, true_and] at hv
    obtain ⟨rfl, rfl⟩ := hv
    unfold cutA
    by_cases e : c = k
    · rw [if_pos e]
      have hnk : n = k := by omega
      subst hnk
      have h0 : n - n = 0 := by omega
      rw [h0]
      exact .inl ⟨rfl, List.drop_eq_nil_of_le (by omega), _, _, rfl⟩
    · rw [if_neg e]
      have hm := Nat.mul_le_mul_right sz hk
      have hms : (n - k) * sz = n * sz - k * sz := Nat.sub_mul n k sz
      refine .inr ⟨b, k * sz, c - k, xs ++ rest, T, fr, ?_, hb, ?_, by simp; omega, by omega⟩
      · simp [Addr.add_eq]
      · rw [List.drop_append_of_le_length (by omega), List.take_append_of_le_length (by rw [List.length_drop]; omega), List.take_of_length_le (by rw [List.length_drop]; omega)]
theorem flat_take {α : Type} {f : α → List Value} {sz : Nat} (hf : ∀ x, (f x).length = sz) : ∀ (l : List α) (k : Nat), (l.flatMap f).take (k * sz) = (l.take k).flatMap f ∧ (l.flatMap f).drop (k * sz) = (l.drop k).flatMap f
  | [], k => by simp
  | x :: l, 0 => by simp
  | x :: l, k + 1 => by
    have hx := hf x
    obtain ⟨h1, h2⟩ := flat_take hf l k
    rw [List.flatMap_cons, List.take_succ_cons, List.drop_succ_cons, List.flatMap_cons, show (k + 1) * sz = sz + k * sz by rw [Nat.add_mul]; omega]
    refine ⟨?_, ?_⟩
    · rw [List.take_append, hx, List.take_of_length_le (by omega), show sz + k * sz - sz = k * sz by omega, h1]
    · rw [List.drop_append, hx, List.drop_eq_nil_of_le (by omega), show sz + k * sz - sz = k * sz by omega, h2]; rfl
theorem G.slForm {W : World} {n' : Nat} {ds : List Deferred} {E : Env} {L R : List HP} {X : Act → World → Prop} {T : TypeId} {sz m c : Nat} {a : Option Addr} {xs : List Value} (hL : Pick (slR T sz (.slice a m c) m xs) L R) (h0 : a = none → m = 0 → c = 0 → G W n' ds E L X) (h1 : ∀ b, a = some ⟨b, 0, none⟩ → m ≤ c → G W n' ds E L X) : G W n' ds E L X := by
  intro ac w he hk hs
  obtain ⟨g1, -, hp⟩ := sep_head (hs.pick hL)
  rcases hp with ⟨e1, e2, -⟩ | ⟨b', cap, rest, fr, e1, -, -, -, e5, -⟩
  · simp only [Value.slice.injEq] at e1
    exact h0 e1.1 e2 e1.2.2 ac w he hk hs
  · simp only [Value.slice.injEq] at e1
    exact h1 b' e1.1 (by omega) ac w he hk hs
/-! ### What is told -/
def kidsN (l : List Rn) (p : Bs) : List Bs := (l.filter fun y => !decide (y.1 = [47]) && decide (parentZ y.1 = p)).map fun y => baseZ y.1
theorem kidsN_eq {l : List Rn} {τ : Tr} (h : ndsZ l = τ.nodes) (p : Bs) : kidsN l p = kidsZ τ p := by
  unfold kidsN kidsZ
  rw [← h]
  unfold ndsZ
  rw [List.filter_map, List.map_map]; rfl
theorem kidsN_len (l : List Rn) (p : Bs) : (kidsN l p).length ≤ l.length := by
  unfold kidsN; rw [List.length_map]; exact List.length_filter_le _ _
def ownN (l : List Rn) (s : Int) : List Bs := (l.filter fun y => !decide (s = 0) && decide (y.2.2.st.own = s)).map (·.1)
def sesP (τ : Tr) (id : Int) : Int := match posK id (τ.sess.map (·.1)) with
  | some i => i
  | none => -1
/-! ### Soundness -/
def findsZ (τ : Tr) (x : Pt) : Bool :=
  if x.kind = 1 then decide (ableZ x.path ∧ ¬ thereT τ x.path ∧ thereT τ (parentZ x.path))
  else if x.kind = 2 then decide (x.path ≠ [47] ∧ thereT τ x.path ∧ (kidsZ τ x.path).length = 0)
  else if x.kind = 3 ∨ x.kind = 4 then decide (thereT τ x.path) else false
def soundL (τ : Tr) (zx : Int) (cl : Bool) : List Pt → Bool
  | [] => true
  | x :: l => findsZ τ x && (!cl || decide (x.kind = 2)) && soundL (partZ τ x zx).1 zx cl l
def soundZ (τ : Tr) (zx : Int) (x : Pt) (subs : List Pt) : Bool :=
  if x.kind = 1 ∨ x.kind = 2 ∨ x.kind = 3 ∨ x.kind = 4 then findsZ τ x
  else if x.kind = 6 ∨ x.kind = 7 then soundL τ zx (decide (x.kind = 6)) subs else true
theorem sound_step {τ : Tr} {zx : Int} {cl : Bool} {l : List Pt} {i : Nat} (hi : i < l.length) : soundL (partsZ τ zx (l.take i)).1 zx cl (l.drop i) = (findsZ (partsZ τ zx (l.take i)).1 l[i] && (!cl || decide (l[i].kind = 2)) && soundL (partsZ τ zx (l.take (i + 1))).1 zx cl (l.drop (i + 1))) := by
  rw [List.drop_eq_getElem_cons hi, soundL, List.take_succ_eq_append_getElem hi, parts_snoc]
end Go.Proofs.YtnnbelmpbmfdnaaGreatDoor

/- Own work: loops over the runes of a string; maps that are nil. -/

namespace Go.Proofs.YtnnbelmpbmfdnaaGreatDoor
open Go

section
variable {P : Program} {E : Env} {L R : List HP} {ty : TypeId} {w : World}
abbrev runeR (it : Nat) (s : List UInt8) (pos : Nat) : HP := pt it (.stringIter (bs s) pos)
theorem OpSpec.rangeS {t : TypeId} {x : Operand} {s : List UInt8} (hx : ev E x = some (vstr s)) (ht : P.underlying t = some .string) :
    OpSpec P ⟨none, .range t x, ty, "", #[], none⟩ E [] fun v L' => ∃ it, v = vptr it ∧ L' = [runeR it s 0] := by
  intro ρ w F ha hs
  have hrun : (execOp ρ ⟨none, .range t x, ty, "", #[], none⟩).run P w = .ok (.value (vptr w.heap.size)) { w with heap := w.heap.push (.stringIter (bs s) 0) } := by
    refine run_v ?_
    show (Instr.range t (ρ x)).run P w = _
    rw [ha x _ hx]; exact run_range_string w t _ ht
  unfold Runs; rw [hrun]
  exact ⟨_, ⟨_, rfl, rfl⟩, St.new hs _, Keeps.new _ _⟩
theorem OpSpec.nextS {x : Operand} {it pos : Nat} {s : List UInt8} (hx : ev E x = some (vptr it)) :
    OpSpec P ⟨none, .next x true, ty, "", #[], none⟩ E [runeR it s pos] fun v L' => (v = .tuple #[.bool false] ∧ ¬ pos < s.length ∧ L' = [runeR it s pos]) ∨
      (pos < s.length ∧ v = .tuple #[.bool true, vint pos, .int .i32 (Utf8.decode (bs s) pos).1] ∧ L' = [runeR it s (pos + (Utf8.decode (bs s) pos).2)]) := by
  intro ρ w F ha hs
  have hk : w.heap[it]? = some (.stringIter (bs s) pos) := St.pt (L := F) hs
  by_cases h : pos < s.length
  · have hrun : (execOp ρ ⟨none, .next x true, ty, "", #[], none⟩).run P w = .ok (.value (.tuple #[.bool true, vint pos, .int .i32 (Utf8.decode (bs s) pos).1])) (upd w it (.stringIter (bs s) (pos + (Utf8.decode (bs s) pos).2))) := by
      refine run_v ?_
      show (Instr.next (ρ x) true ty).run P w = _
      rw [ha x _ hx]; exact Go.Lib.run_next_any_at w it (bs s) pos ty hk (by rw [bs_size]; exact h)
    unfold Runs; rw [hrun]
    exact ⟨_, .inr ⟨h, rfl, rfl⟩, St.upd (L := F) hs, Keeps.upd _ _ _⟩
  · have hrun : (execOp ρ ⟨none, .next x true, ty, "", #[], none⟩).run P w = .ok (.value (.tuple #[.bool false])) w := by
      refine run_v ?_
      show (Instr.next (ρ x) true ty).run P w = _
      rw [ha x _ hx]; exact Go.Lib.run_next_end_at w it (bs s) pos ty hk (by rw [bs_size]; exact h)
    unfold Runs; rw [hrun]
    exact ⟨_, .inl ⟨rfl, h, rfl⟩, hs, Keeps.refl _⟩
theorem decode_low {s : List UInt8} {pos : Nat} (h : pos < s.length) (hc : (s[pos]).toNat < 128) : Utf8.decode (bs s) pos = ((s[pos]).toNat, 1) :=
  decode_ascii (bs s) pos (by rw [bs_size]; exact h) hc
theorem bs_get {s : List UInt8} {pos : Nat} (h : pos < s.length) : (bs s).get! (pos + 0) = s[pos] := by
  show (bs s).get! pos = _
  show s.toArray[pos]! = _
  rw [getElem!_pos s.toArray pos (by simpa using h)]
  simp
theorem decode_high {s : List UInt8} {pos : Nat} (h : pos < s.length) (hc : ¬ (s[pos]).toNat < 128) : 128 ≤ (Utf8.decode (bs s) pos).1 ∧ 1 ≤ (Utf8.decode (bs s) pos).2 := by
  have e := bs_get h
  simp only [Utf8.decode, e]
  rw [if_neg hc]
  repeat' split
  all_goals first | (simp_all [Utf8.runeError]; done) | (refine ⟨?_, ?_⟩ <;> simp_all [Utf8.runeError] <;> omega)
theorem Quiet.lookupNil {K : Type} [DecidableEq K] {kv : K → Value} {kt et : TypeId} (hl : KeyLaw P kt kv) {t : TypeId} {x y : Operand} {k : K} {z : Value} (hx : ev E x = some (.map none)) (hy : ev E y = some (kv k)) (ht : P.underlying t = some (.map kt et)) (hz : zeroOf P et = some z) :
    Quiet P ⟨none, .lookup t x y false, ty, "", #[], none⟩ E L z := by
  intro ρ w ha hs
  refine run_v ?_
  show (Instr.lookup t (ρ x) (ρ y) false).run P w = _
  rw [ha x _ hx, ha y _ hy]
  unfold Instr.lookup
  rw [run_bind (run_underlying ht)]
  dsimp only
  rw [run_bind run_pure, run_bind (hl.check k _ w), run_bind (hl.find k [] [] w rfl)]
  simp only [posK, Option.bind_none]
  rw [run_bind (run_zero hz), run_bind run_pure]
  rfl
abbrev nilR (it : Nat) : HP := pt it (.mapIter none 0 #[] 0)
theorem OpSpec.rangeNil {t kt et : TypeId} {x : Operand} (hx : ev E x = some (.map none)) (ht : P.underlying t = some (.map kt et)) :
    OpSpec P ⟨none, .range t x, ty, "", #[], none⟩ E [] fun v L' => ∃ it, v = vptr it ∧ L' = [nilR it] := by
  intro ρ w F ha hs
  have hrun : (execOp ρ ⟨none, .range t x, ty, "", #[], none⟩).run P w = .ok (.value (vptr w.heap.size)) { w with heap := w.heap.push (.mapIter none 0 #[] 0) } := by
    refine run_v ?_
    show (Instr.range t (ρ x)).run P w = _
    rw [ha x _ hx]; exact run_range_nilMap w t kt et ht
  unfold Runs; rw [hrun]
  exact ⟨_, ⟨_, rfl, rfl⟩, St.new hs _, Keeps.new _ _⟩
theorem OpSpec.nextNil {x : Operand} {it : Nat} (hx : ev E x = some (vptr it)) :
    OpSpec P ⟨none, .next x false, ty, "", #[], none⟩ E [nilR it] fun v L' => v = .tuple #[.bool false] ∧ L' = [nilR it] := by
  intro ρ w F ha hs
  have hk : w.heap[it]? = some (.mapIter none 0 #[] 0) := St.pt (L := F) hs
  have hrun : (execOp ρ ⟨none, .next x false, ty, "", #[], none⟩).run P w = .ok (.value (.tuple #[.bool false])) w := by
    refine run_v ?_
    show (Instr.next (ρ x) false ty).run P w = _
    rw [ha x _ hx]
    simp only [Instr.next, getObj, Sem.run_bind, Sem.run, hk, Result.andThen]
    rfl
  unfold Runs; rw [hrun]
  exact ⟨_, ⟨rfl, rfl⟩, hs, Keeps.refl _⟩
/-- A call of a function that the model answers itself. -/
theorem Quiet.extern {f : FuncId} {fn : Func} {e : Array Value → Sem Value} {xs : Array Operand} {ts : Array TypeId} {vs : List Value} {v : Value} (hf : P.funcs[f]? = some fn) (hnm : (fn.name == "runtime.NumGoroutine") = false) (hb : fn.body.isNone = true) (hn : Extern.findNext fn = none) (he : Extern.find fn = some e)
    (hx : xs.toList.map (ev E) = vs.map some) (hr : ∀ w, (e vs.toArray).run P w = .ok v w) : Quiet P ⟨none, .call { callee := .value (.func f), args := xs, argTypes := ts }, ty, "", #[], none⟩ E L v := by
  intro ρ w ha _
  have hv : xs.map ρ = vs.toArray := by
    apply Array.ext'
    rw [Array.toList_map]
    exact agree_list ha _ _ hx
  have hfn : ρ (.func f) = .func (.func f) #[] #[] := ha (.func f) _ rfl
  have e1 : (execOp ρ ⟨none, .call { callee := .value (.func f), args := xs, argTypes := ts }, ty, "", #[], none⟩).run P w = (callFunc f vs.toArray).run P w := by
    simp [execOp, resolve, hfn, Deferred.ofValue, invoke, program, Bind.bind, Sem.bind, Pure.pure, Sem.run, hv]
  rw [e1, run_callFunc_extern hf hnm hb hn he, hr]
  rfl
theorem count_run (s : List UInt8) (w : World) : (Extern.BytealgCount.count #[vstr s, .int .u8 47]).run P w = .ok (vint (s.count 47 : Nat)) w := by
  rw [show vstr s = .string (bs s) from rfl, Go.Lib.run_countString]; rfl
def idxZ : List UInt8 → Int
  | [] => -1
  | b :: l => if b = 47 then 0 else if idxZ l = -1 then -1 else idxZ l + 1
theorem idx_eq (s : List UInt8) : Go.Lib.indexByte s 47 = idxZ s := by
  induction s with
  | nil => rfl
  | cons b l ih =>
    unfold Go.Lib.indexByte idxZ
    rw [ih]
    simp
theorem index_run (s : List UInt8) (w : World) : (Extern.BytealgIndexByte.indexByte #[vstr s, .int .u8 47]).run P w = .ok (vint (idxZ s)) w := by
  rw [show vstr s = .string (bs s) from rfl, Go.Lib.run_indexByteString]
  rw [show (bs s).data.toList = s from rfl, show (47 : Int).toNat.toUInt8 = 47 from rfl, idx_eq]
theorem idxZ_at {s : List UInt8} (h : (47 : UInt8) ∈ s) : ∃ k : Nat, idxZ s = k ∧ k < s.length ∧ s = s.take k ++ 47 :: s.drop (k + 1) ∧ (47 : UInt8) ∉ s.take k := by
  induction s with
  | nil => cases h
  | cons b l ih =>
    unfold idxZ
    by_cases hb : b = 47
    · subst hb
      exact ⟨0, by rw [if_pos rfl]; rfl, by simp, by simp, by simp⟩
    · have hl : (47 : UInt8) ∈ l := by
        rcases List.mem_cons.1 h with h | h
        · exact absurd h.symm hb
        · exact h
      obtain ⟨k, e1, e2, e3, e4⟩ := ih hl
      refine ⟨k + 1, ?_, by simp; omega, ?_, ?_⟩
      · rw [if_neg hb, e1, if_neg (by omega)]; omega
      · simp only [List.take_succ_cons, List.drop_succ_cons, List.cons_append]
        rw [← e3]
      · simp only [List.take_succ_cons, List.mem_cons, not_or]
        exact ⟨fun e => hb e.symm, e4⟩
end
end Go.Proofs.YtnnbelmpbmfdnaaGreatDoor

/- Own work, by program: package path: walked. -/
namespace Go.Proofs.YtnnbelmpbmfdnaaGreatDoor
open Go
set_option maxRecDepth 100000 in
theorem sindexbyte_spec (s : Bs) : Fn Tryz.prog 187 #[vstr s, .int .u8 47] [] fun v L => v = vint (idxZ s) ∧ L = [] := by
 refine Fn.intro (vs := [vstr s, .int .u8 47]) Tryz.func187 rfl rfl ?_
 intro F W
 refine G.seq (G.region (G.q (Quiet.assign rfl) rfl (G.nil (G.then_n (G.seq (G.region (G.q (Quiet.move rfl) rfl (G.q (Quiet.move rfl) rfl ?_))))))))
 refine G.q (Quiet.extern (e := Extern.BytealgIndexByte.indexByte) (vs := [_, .int .u8 47]) Tryz.func191 (by kernel_rfl) (by kernel_rfl) (by kernel_rfl) (by kernel_rfl) rfl (fun w => index_run s w)) rfl ?_
 refine G.q (Quiet.assign rfl) rfl (G.nil (G.then_n (G.ret ?_)))
 exact G.done (l := [.tmp 4]) rfl rfl ⟨rfl, rfl⟩ (by (repeat' constructor)) (by (repeat' constructor))

set_option maxRecDepth 100000 in
theorem sindex_spec (s : Bs) : Fn Tryz.prog 184 #[vstr s, vstr [47]] [] fun v L => v = vint (idxZ s) ∧ L = [] := by
 refine Fn.intro (vs := [vstr s, vstr [47]]) Tryz.func184 rfl rfl ?_
 intro F W
 refine G.seq (G.region (G.q (Quiet.assign rfl) rfl (G.nil (G.then_n (G.seq (G.region (G.q (Quiet.move rfl) rfl (G.q (Quiet.strlen rfl Tryz.underlying9 rfl) rfl (G.q (Quiet.assign rfl) rfl (G.nil (G.then_n (G.seq (G.block (G.seq (G.region (G.q (Quiet.move rfl) rfl ?_))))))))))))))))
 refine G.q (Quiet.as (v' := .bool false) (by rfl) (Quiet.int rfl rfl rfl)) rfl ?_
 refine G.q (Quiet.move rfl) rfl (G.grun (t := 19) rfl rfl rfl (G.q (Quiet.move rfl) rfl (G.grun (t := 19) rfl rfl rfl (G.q (Quiet.move rfl) rfl (G.grun (t := 19) rfl rfl rfl (G.q (Quiet.streq rfl rfl) rfl (G.q (Quiet.pickF rfl rfl) rfl (G.q (Quiet.assign rfl) rfl (G.nil (G.then_n ?_))))))))))
 refine G.condD rfl (fun h16 => ?_) (fun h16 => ?_)
 ·refine G.seq (G.region (G.q (Quiet.assign rfl) rfl (G.nil (G.then_n (G.ret (G.blk_r (G.then_r ?_)))))))
  exact G.done (l := [.tmp 4]) rfl rfl ⟨by have e : s = [47] := (by first | exact h16.symm | exact (by simpa using h16.symm)); subst e; rfl, rfl⟩ (by (repeat' constructor)) (by (repeat' constructor))
 ·refine G.seq (G.region (G.q (Quiet.move rfl) rfl ?_))
  refine G.q (Quiet.as (v' := .bool true) (by rfl) (Quiet.int rfl rfl rfl)) rfl ?_
  refine G.q (Quiet.assign rfl) rfl (G.nil (G.then_n (G.condT rfl (G.seq (G.region (G.q (Quiet.move rfl) rfl (G.q (Quiet.move rfl) rfl ?_)))))))
  refine G.q (Quiet.strIndex (c := 47) rfl rfl Tryz.underlying9 (by simp) (by simp)) rfl ?_
  refine G.op (OpSpec.call Tryz.func187 rfl rfl (vs := [_, _]) rfl (sindexbyte_spec _)) (by (repeat' constructor)) rfl ?nx13
  rintro v L' ⟨rfl, rfl⟩
  refine G.q (Quiet.assign rfl) rfl (G.nil (G.then_n (G.ret (G.blk_r (G.then_r ?_)))))
  exact G.done (l := [.tmp 4]) rfl rfl ⟨rfl, rfl⟩ (by (repeat' constructor)) (by (repeat' constructor))

set_option maxRecDepth 100000 in
theorem index_spec (s : Bs) : Fn Tryz.prog 176 #[vstr s, vstr [47]] [] fun v L => v = vint (idxZ s) ∧ L = [] := by
 refine Fn.intro (vs := [vstr s, vstr [47]]) Tryz.func176 rfl rfl ?_
 intro F W
 refine G.seq (G.region (G.q (Quiet.assign rfl) rfl (G.nil (G.then_n (G.seq (G.region (G.q (Quiet.move rfl) rfl (G.q (Quiet.move rfl) rfl ?_))))))))
 refine G.op (OpSpec.call Tryz.func184 rfl rfl (vs := [_, _]) rfl (sindex_spec _)) (by (repeat' constructor)) rfl ?nx4
 rintro v L' ⟨rfl, rfl⟩
 refine G.q (Quiet.assign rfl) rfl (G.nil (G.then_n (G.ret ?_)))
 exact G.done (l := [.tmp 4]) rfl rfl ⟨rfl, rfl⟩ (by (repeat' constructor)) (by (repeat' constructor))

set_option maxRecDepth 100000 in
theorem count_spec (s : Bs) : Fn Tryz.prog 175 #[vstr s, vstr [47]] [] fun v L => v = vint (s.count 47 : Nat) ∧ L = [] := by
 refine Fn.intro (vs := [vstr s, vstr [47]]) Tryz.func175 rfl rfl ?_
 intro F W
 refine G.seq (G.region (G.q (Quiet.assign rfl) rfl (G.nil (G.then_n (G.seq (G.seq (G.region (G.q (Quiet.move rfl) rfl (G.q (Quiet.strlen rfl Tryz.underlying9 rfl) rfl ?_)))))))))
 refine G.q (Quiet.as (v' := .bool false) (by rfl) (Quiet.int rfl rfl rfl)) rfl ?_
 refine G.nil (G.then_n (G.condF rfl (G.skip (G.then_n (G.seq (G.seq (G.region (G.q (Quiet.move rfl) rfl (G.q (Quiet.strlen rfl Tryz.underlying9 rfl) rfl ?_)))))))))
 refine G.q (Quiet.as (v' := .bool true) (by rfl) (Quiet.int rfl rfl rfl)) rfl ?_
 refine G.nil (G.then_n (G.condT rfl (G.seq (G.region (G.q (Quiet.move rfl) rfl (G.q (Quiet.move rfl) rfl ?_))))))
 refine G.q (Quiet.strIndex (c := 47) rfl rfl Tryz.underlying9 (by simp) (by simp)) rfl ?_
 refine G.q (Quiet.extern (e := Extern.BytealgCount.count) (vs := [_, .int .u8 47]) Tryz.func183 (by kernel_rfl) (by kernel_rfl) (by kernel_rfl) (by kernel_rfl) rfl (fun w => count_run s w)) rfl ?_
 refine G.q (Quiet.assign rfl) rfl (G.nil (G.then_n (G.ret (G.then_r ?_))))
 exact G.done (l := [.tmp 4]) rfl rfl ⟨rfl, rfl⟩ (by (repeat' constructor)) (by (repeat' constructor))

theorem count_cut {s : Bs} {k : Nat} (h : s = s.take k ++ 47 :: s.drop (k + 1)) (hk : (47 : UInt8) ∉ s.take k) : s.count 47 = (s.drop (k + 1)).count 47 + 1 := by
  have := congrArg (List.count 47) h
  rw [List.count_append, List.count_eq_zero.2 hk, List.count_cons_self] at this
  omega
theorem spl_done {dn : List Bs} {i n : Nat} {s : Bs} (hd : dn.length = i) (hi : i < n) : (strs dn ++ List.replicate (n - i) (vstr [])).set i (vstr s) = strs (dn ++ [s]) ++ List.replicate (n - (i + 1)) (vstr []) := by
  obtain ⟨k, rfl⟩ : ∃ k, n = i + (k + 1) := ⟨n - i - 1, by omega⟩
  rw [List.set_append_right _ _ (by simp [hd]), show i - (strs dn).length = 0 by simp [hd], show i + (k + 1) - i = k + 1 by omega, show i + (k + 1) - (i + 1) = k by omega, List.replicate_succ, List.set_cons_zero]
  simp [strs]
theorem take_done {dn : List Bs} {i n : Nat} {s : Bs} (hd : dn.length = i) (hi : i = n) : (strs (dn ++ [s]) ++ List.replicate (n + 1 - (i + 1)) (vstr [])).take (n + 1) = strs (dn ++ [s]) := by
  subst hi
  rw [Nat.sub_self, List.replicate_zero, List.append_nil, List.take_of_length_le (by simp [hd])]
set_option maxRecDepth 100000 in
theorem gensplit_spec (s : Bs) (hs : s.length ≤ 1048576) : Fn Tryz.prog 158 #[vstr s, vstr [47], vint 0, vint (-1)] [] fun v L => ∃ b, v = .slice (some ⟨b, 0, none⟩) (splitZ s).length (splitZ s).length ∧ L = [slR 9 1 v (splitZ s).length (strs (splitZ s))] := by
 refine Fn.intro (vs := [vstr s, vstr [47], vint 0, vint (-1)]) Tryz.func158 rfl rfl ?_
 intro F W
 have hcl : s.count 47 ≤ s.length := List.count_le_length
 have hsp := split_len s
 refine G.seq (G.region (G.q (Quiet.assign rfl) rfl (G.nil (G.then_n (G.seq (G.seq (G.region (G.q (Quiet.move rfl) rfl ?_))))))))
 refine G.q (Quiet.as (v' := .bool false) (by rfl) (Quiet.int rfl rfl rfl)) rfl ?_
 refine G.nil (G.then_n (G.condF rfl (G.skip (G.then_n (G.seq (G.seq (G.region (G.q (Quiet.move rfl) rfl ?_))))))))
 refine G.q (Quiet.as (v' := .bool false) (by rfl) (Quiet.streq rfl rfl)) rfl ?_
 refine G.nil (G.then_n (G.condF rfl (G.skip (G.then_n (G.seq (G.seq (G.region (G.q (Quiet.move rfl) rfl ?_))))))))
 refine G.q (Quiet.as (v' := .bool true) (by rfl) (Quiet.int rfl rfl rfl)) rfl ?_
 refine G.nil (G.then_n (G.condT rfl (G.region (G.q (Quiet.move rfl) rfl (G.q (Quiet.move rfl) rfl ?_)))))
 refine G.op (OpSpec.call Tryz.func175 rfl rfl (vs := [_, _]) rfl (count_spec _)) (by (repeat' constructor)) rfl ?nx10
 rintro v L' ⟨rfl, rfl⟩
 refine G.q (Quiet.add rfl rfl (by omega)) rfl ?_
 refine G.q (Quiet.assign rfl) rfl (G.nil (G.then_n (G.seq (G.region (G.q (Quiet.move rfl) rfl (G.q (Quiet.move rfl) rfl (G.q (Quiet.strlen rfl Tryz.underlying9 rfl) rfl ?_)))))))
 refine G.q (Quiet.add rfl rfl (by omega)) rfl ?_
 refine G.q (Quiet.to (v' := vint (((s.count 47) : Nat) + 1)) (Quiet.min2 rfl rfl) (by congr 1; omega)) rfl ?_
 refine G.q (Quiet.assign rfl) rfl (G.nil (G.then_n (G.seq (G.region (G.q (Quiet.move rfl) rfl ?_)))))
 refine G.op (OpSpec.make rfl rfl el_40 ze_9 rfl ⟨by simp, by simp; rfl⟩ ?hc17) (by (repeat' constructor)) rfl ?nx18
 case hc17 => omega
 rintro v L' ⟨ba, rfl, rfl⟩; rw [show (((s.count 47) : Nat) + 1 : Int).toNat = (s.count 47) + 1 by omega]
 refine G.q (Quiet.assign rfl) rfl (G.nil ?_)
 refine G.ptCast (b := ba) (l' := strs [] ++ List.replicate ((s.count 47) + 1 - 0) (vstr [])) (by (repeat' constructor)) (by simp) ?_
 refine G.then_n (G.seq (G.region (G.q (Quiet.move rfl) rfl ?_)))
 refine G.q (Quiet.to (v' := vint ((s.count 47) : Nat)) (Quiet.sub rfl rfl (by omega)) (by congr 1; omega)) rfl ?_
 refine G.q (Quiet.assign rfl) rfl (G.nil (G.then_n (G.seq (G.region (G.q (Quiet.assign rfl) rfl (G.nil (G.then_n (G.seq (G.block ?_)))))))))
 refine G.loopK (ι := Nat × Bs × (List Bs)) (fun q E => (10, vint q.1) :: (0, vstr q.2.1) :: E) (fun q => [ptc ba (strs q.2.2 ++ List.replicate ((s.count 47) + 1 - q.1) (vstr [])) 9]) (fun q => q.1 ≤ (s.count 47) ∧ q.2.2.length = q.1 ∧ q.2.1.count 47 + q.1 = (s.count 47) ∧ splitZ s = q.2.2 ++ splitZ q.2.1 ∧ q.2.1.length ≤ s.length) (fun q => (s.count 47) - q.1) (0, s, []) (ts := [1, 2, 3, 8, 9]) (.cons rfl (.cons rfl (.cons rfl (.cons rfl (.cons rfl (.nil)))))) (⟨Nat.zero_le _, rfl, by dsimp only; omega, rfl, Nat.le_refl _⟩) ⟨rfl, rfl, rfl, rfl, rfl, rfl, rfl, trivial⟩ (by (repeat' constructor)) ?_
 rintro ⟨i, cur, dn⟩ ⟨hi, hdl, hct, hsplit, hcul⟩
 dsimp only
 dsimp only at hi hdl hct hsplit hcul
 refine G.seq (G.seq (G.region (G.q (Quiet.move rfl) rfl (G.q (Quiet.move rfl) rfl (G.q (Quiet.int rfl rfl rfl) rfl (G.nil (G.then_n ?_)))))))
 refine G.condD rfl (fun h36 => ?_) (fun h36 => ?_)
 ·have hmem : (47 : UInt8) ∈ cur := List.count_pos_iff.1 (by omega)
  obtain ⟨k, hk1, hk2, hk4, hk3⟩ := idxZ_at hmem
  have hcat : cur = cur.take k ++ 47 :: cur.drop (k + 1) := hk4
  have hcc := count_cut hcat hk3
  refine G.skip (G.then_n (G.block (G.seq (G.region (G.q (Quiet.move rfl) rfl (G.q (Quiet.move rfl) rfl ?_))))))
  refine G.op (OpSpec.call Tryz.func176 rfl rfl (vs := [_, _]) rfl (index_spec cur)) (by (repeat' constructor)) rfl ?nx27
  rintro v L' ⟨rfl, rfl⟩; rw [hk1]
  refine G.q (Quiet.assign rfl) rfl (G.nil (G.then_n (G.seq (G.seq (G.region (G.q (Quiet.move rfl) rfl ?_))))))
  refine G.q (Quiet.as (v' := .bool false) (by first | (simp; done) | (simp; omega)) (Quiet.int rfl rfl rfl)) rfl ?_
  refine G.nil (G.then_n (G.condF rfl (G.skip (G.then_n (G.seq (G.region (G.q (Quiet.move rfl) rfl (G.q (Quiet.move rfl) rfl (G.q (Quiet.move rfl) rfl (G.q (Quiet.move rfl) rfl (G.q (Quiet.move rfl) rfl ?_)))))))))))
  refine G.q (Quiet.add rfl rfl (by omega)) rfl ?_
  refine G.q (Quiet.to (v' := vstr (cur.take k)) (Quiet.strTo (j := (k : Int) + 0) rfl rfl Tryz.underlying9 (by omega)) (by rw [show ((k : Int) + 0).toNat = k by omega])) rfl ?_
  refine G.q (Quiet.indexAddr rfl rfl el_40 (by omega)) rfl ?_
  refine G.op (OpSpec.store rfl rfl rfl sz_9 ?c37 ?c38) (by (repeat' constructor)) rfl ?nx39
  case c37 => first | (simp; done) | (simp; omega)
  case c38 => exact nfz0 _ _
  rintro v L' rfl
  refine G.nil (G.then_n (G.seq (G.region (G.q (Quiet.move rfl) rfl (G.q (Quiet.move rfl) rfl (G.q (Quiet.move rfl) rfl ?_))))))
  refine G.q (Quiet.as (v' := vint 1) (by rfl) (Quiet.strlen rfl Tryz.underlying9 rfl)) rfl ?_
  refine G.q (Quiet.add rfl rfl (by omega)) rfl ?_
  refine G.q (Quiet.to (v' := vstr (cur.drop (k + 1))) (Quiet.strFrom (i := (k : Int) + 1) rfl rfl Tryz.underlying9 (by omega)) (by rw [show ((k : Int) + 1).toNat = k + 1 by omega])) rfl ?_
  refine G.q (Quiet.assign rfl) rfl (G.nil (G.then_n (G.region (G.q (Quiet.move rfl) rfl ?_))))
  refine G.q (Quiet.add rfl rfl (by omega)) rfl ?_
  refine G.q (Quiet.assign rfl) rfl (G.nil (G.blk_n (G.then_n ?_)))
  rw [show 0 + (i : Int).toNat * 1 = i by omega, spl_done hdl (by omega)]
  exact G.roundK ((i + 1, cur.drop (k + 1), dn ++ [cur.take k])) (⟨by dsimp only; omega, by dsimp only; simp [hdl], by dsimp only; omega, by dsimp only; rw [hsplit, hcat, split_at hk3, ← hcat, List.append_assoc]; rfl, by dsimp only; rw [List.length_drop]; omega⟩) (by dsimp only; omega) ⟨rfl, rfl, rfl, rfl, rfl, rfl, rfl, trivial⟩ (by (repeat' constructor)) (by ((repeat (apply Have.cons; (repeat (first | exact Pick.here | apply Pick.there)))); apply Have.base; repeat' constructor))
 ·have hii : i = (s.count 47) := by omega
  have hlast : splitZ cur = [cur] := split_none (List.count_eq_zero.1 (by omega))
  rw [hlast] at hsplit
  refine G.exit (G.then_e (G.then_e (G.blk_e (G.then_n (G.seq (G.region (G.q (Quiet.move rfl) rfl (G.q (Quiet.move rfl) rfl (G.q (Quiet.move rfl) rfl ?_)))))))))
  refine G.q (Quiet.indexAddr rfl rfl el_40 (by omega)) rfl ?_
  refine G.op (OpSpec.store rfl rfl rfl sz_9 ?c51 ?c52) (by (repeat' constructor)) rfl ?nx53
  case c51 => first | (simp; done) | (simp; omega)
  case c52 => exact nfz0 _ _
  rintro v L' rfl
  refine G.nil (G.then_n (G.seq (G.region (G.q (Quiet.move rfl) rfl (G.q (Quiet.move rfl) rfl ?_)))))
  refine G.q (Quiet.add rfl rfl (by omega)) rfl ?_
  refine G.q (Quiet.to (v' := .slice (some ⟨ba, 0, none⟩) (splitZ s).length (splitZ s).length) (Quiet.slTo (j := (i : Int) + 1) rfl el_40 rfl (by omega) (.inr ⟨_, _, rfl⟩)) (by rw [hsp, hii]; congr 1)) rfl ?_
  refine G.q (Quiet.assign rfl) rfl (G.nil ?_)
  refine G.slMake (b := ba) (n := (splitZ s).length) (c := (splitZ s).length) (xs := strs (splitZ s)) (by (repeat' constructor)) (Nat.le_refl _) (by rw [hsp]; simp; omega) (by rw [show 0 + (i : Int).toNat * 1 = i by omega, spl_done hdl (by omega), hsp, hsplit]; exact take_done hdl hii) ?_
  refine G.then_n (G.ret ?_)
  exact G.done (l := [.tmp 8]) rfl rfl ⟨ba, rfl, rfl⟩ (by (repeat' constructor)) (by (repeat' constructor))

set_option maxRecDepth 100000 in
theorem split_spec (s : Bs) (hs : s.length ≤ 1048576) : Fn Tryz.prog 129 #[vstr s, vstr [47]] [] fun v L => ∃ b, v = .slice (some ⟨b, 0, none⟩) (splitZ s).length (splitZ s).length ∧ L = [slR 9 1 v (splitZ s).length (strs (splitZ s))] := by
 refine Fn.intro (vs := [vstr s, vstr [47]]) Tryz.func129 rfl rfl ?_
 intro F W
 refine G.seq (G.region (G.q (Quiet.assign rfl) rfl (G.nil (G.then_n (G.seq (G.region (G.q (Quiet.move rfl) rfl (G.q (Quiet.move rfl) rfl ?_))))))))
 refine G.op (OpSpec.call Tryz.func158 rfl rfl (vs := [_, _, _, _]) rfl (gensplit_spec _ ?hs4)) (by (repeat' constructor)) rfl ?nx5
 case hs4 => assumption
 rintro v L' ⟨bb, rfl, rfl⟩
 refine G.q (Quiet.assign rfl) rfl (G.nil (G.then_n (G.ret ?_)))
 exact G.done (l := [.tmp 4]) rfl rfl ⟨bb, rfl, rfl⟩ (by (repeat' constructor)) (by (repeat' constructor))

set_option maxRecDepth 100000 in
theorem isname_spec (s : Bs) : Fn Tryz.prog 130 #[vstr s] [] fun v L => v = .bool (isNameZ s) ∧ L = [] := by
 refine Fn.intro (vs := [vstr s]) Tryz.func130 rfl rfl ?_
 intro F W
 refine G.seq (G.region (G.q (Quiet.assign rfl) rfl (G.nil (G.then_n (G.seq (G.seq (G.region (G.q (Quiet.move rfl) rfl ?_))))))))
 refine G.op (OpSpec.rangeS rfl Tryz.underlying9) (by (repeat' constructor)) rfl ?nx3
 rintro v L' ⟨it, rfl, rfl⟩
 refine G.nil (G.then_n (G.block ?_))
 refine G.loopK (ι := Nat) (fun q E => E) (fun q => [runeR it s q]) (fun q => q ≤ s.length ∧ (s.take q).all letterB = true) (fun q => s.length - q) (0) (ts := [0, 6]) (.cons rfl (.cons rfl (.nil))) (⟨Nat.zero_le _, rfl⟩) ⟨rfl, rfl, trivial⟩ (by (repeat' constructor)) ?_
 rintro pos ⟨hp, hall⟩
 refine G.seq (G.region ?_)
 refine G.op (OpSpec.nextS rfl) (by (repeat' constructor)) rfl ?nx5
 rintro v L' (⟨rfl, hpos, rfl⟩ | ⟨hpos, rfl, rfl⟩)
 ·refine G.q (Quiet.extract rfl rfl) rfl (G.nil (G.then_n (G.seq (G.condF rfl (G.exit (G.then_e (G.then_e (G.blk_e (G.then_n (G.seq (G.region (G.q (Quiet.move rfl) rfl (G.q (Quiet.strne rfl rfl) rfl (G.q (Quiet.move rfl) rfl ?_))))))))))))))
  refine G.ndec (t := 37) rfl (fun h11_37 => ?_) (fun h11_37 => ?_)
  ·refine G.kNT (t := 36) rfl h11_37 (G.grun (t := 37) rfl rfl rfl (G.q (Quiet.move rfl) rfl (G.grun (t := 37) rfl rfl rfl (G.q (Quiet.strne rfl rfl) rfl (G.q (Quiet.pickT rfl rfl) rfl (G.q (Quiet.move rfl) rfl ?_))))))
   refine G.ndec (t := 41) rfl (fun h11_41 => ?_) (fun h11_41 => ?_)
   ·refine G.kNT (t := 39) rfl h11_41 (G.kNT (t := 40) rfl h11_41 (G.grun (t := 41) rfl rfl rfl (G.q (Quiet.move rfl) rfl (G.grun (t := 41) rfl rfl rfl (G.q (Quiet.strne rfl rfl) rfl (G.q (Quiet.pickT rfl rfl) rfl (G.q (Quiet.assign rfl) rfl (G.nil (G.then_n (G.ret ?_))))))))))
    have hz : isNameZ s = (!decide (s = []) && !decide (s = [46]) && !decide (s = [46, 46])) := by unfold isNameZ; rw [List.take_of_length_le (by omega)] at hall; rw [hall, Bool.and_true]
    rw [hz]
    exact G.done (l := [.tmp 2]) rfl rfl ⟨by simp_all, rfl⟩ (by (repeat' constructor)) (by (repeat' constructor))
   ·refine G.kNF (t := 39) rfl h11_41 (G.kNF (t := 40) rfl h11_41 (G.gskip (t := 41) rfl rfl rfl rfl (G.gskip (t := 41) rfl rfl rfl rfl (G.q (Quiet.pickF rfl rfl) rfl (G.q (Quiet.assign rfl) rfl (G.nil (G.then_n (G.ret ?_))))))))
    have hz : isNameZ s = (!decide (s = []) && !decide (s = [46]) && !decide (s = [46, 46])) := by unfold isNameZ; rw [List.take_of_length_le (by omega)] at hall; rw [hall, Bool.and_true]
    rw [hz]
    exact G.done (l := [.tmp 2]) rfl rfl ⟨by simp_all, rfl⟩ (by (repeat' constructor)) (by (repeat' constructor))
  ·refine G.kNF (t := 36) rfl h11_37 (G.gskip (t := 37) rfl rfl rfl rfl (G.gskip (t := 37) rfl rfl rfl rfl (G.q (Quiet.pickF rfl rfl) rfl (G.q (Quiet.move rfl) rfl (G.gskip (t := 41) rfl rfl rfl rfl (G.gskip (t := 41) rfl rfl rfl rfl (G.q (Quiet.pickF rfl rfl) rfl (G.q (Quiet.assign rfl) rfl (G.nil (G.then_n (G.ret ?_)))))))))))
   have hz : isNameZ s = (!decide (s = []) && !decide (s = [46]) && !decide (s = [46, 46])) := by unfold isNameZ; rw [List.take_of_length_le (by omega)] at hall; rw [hall, Bool.and_true]
   rw [hz]
   exact G.done (l := [.tmp 2]) rfl rfl ⟨by simp_all, rfl⟩ (by (repeat' constructor)) (by (repeat' constructor))
 ·refine G.q (Quiet.extract rfl rfl) rfl (G.nil (G.then_n (G.seq (G.condT rfl (G.skip (G.then_n (G.block (G.seq (G.region ?_)))))))))
  rcases Nat.lt_or_ge (s[pos]).toNat 128 with hlo | hhi
  ·rw [decode_low hpos hlo]
   dsimp only
   refine G.q (Quiet.extract rfl rfl) rfl (G.q (Quiet.assign rfl) rfl (G.nil (G.then_n (G.block (G.seq (G.seq (G.region (G.q (Quiet.move rfl) rfl (G.q (Quiet.int rfl rfl rfl) rfl (G.q (Quiet.move rfl) rfl ?_))))))))))
   refine G.dec (t := 13) rfl (fun h5_13 => ?_) (fun h5_13 => ?_)
   ·refine G.kDT (t := 12) rfl h5_13 (G.grun (t := 13) rfl rfl rfl (G.q (Quiet.move rfl) rfl (G.grun (t := 13) rfl rfl rfl (G.q (Quiet.int rfl rfl rfl) rfl (G.q (Quiet.pickT rfl rfl) rfl (G.q (Quiet.assign rfl) rfl (G.nil (G.then_n ?_))))))))
    refine G.dec (t := 10) rfl (fun h10 => ?_) (fun h10 => ?_)
    ·refine G.condT rfl (G.skip (G.then_n (G.condT rfl (G.skip (G.blk_n (G.blk_n (G.then_n ?_)))))))
     exact G.roundK (pos + 1) (⟨by omega, all_next hpos hall (letter_of (by omega))⟩) (by omega) ⟨rfl, rfl, trivial⟩ (by (repeat' constructor)) (by ((repeat (apply Have.cons; (repeat (first | exact Pick.here | apply Pick.there)))); apply Have.base; repeat' constructor))
    ·refine G.condF rfl (G.seq (G.region (G.q (Quiet.move rfl) rfl (G.q (Quiet.int rfl rfl rfl) rfl (G.q (Quiet.move rfl) rfl ?_)))))
     refine G.dec (t := 19) rfl (fun h6_19 => ?_) (fun h6_19 => ?_)
     ·refine G.kDT (t := 18) rfl h6_19 (G.grun (t := 19) rfl rfl rfl (G.q (Quiet.move rfl) rfl (G.grun (t := 19) rfl rfl rfl (G.q (Quiet.int rfl rfl rfl) rfl (G.q (Quiet.pickT rfl rfl) rfl (G.q (Quiet.assign rfl) rfl (G.nil (G.then_n ?_))))))))
      refine G.dec (t := 10) rfl (fun h10 => ?_) (fun h10 => ?_)
      ·refine G.condT rfl (G.skip (G.then_n (G.condT rfl (G.skip (G.blk_n (G.blk_n (G.then_n ?_)))))))
       exact G.roundK (pos + 1) (⟨by omega, all_next hpos hall (letter_of (by omega))⟩) (by omega) ⟨rfl, rfl, trivial⟩ (by (repeat' constructor)) (by ((repeat (apply Have.cons; (repeat (first | exact Pick.here | apply Pick.there)))); apply Have.base; repeat' constructor))
      ·refine G.condF rfl (G.seq (G.region (G.q (Quiet.move rfl) rfl (G.q (Quiet.int rfl rfl rfl) rfl (G.q (Quiet.move rfl) rfl ?_)))))
       refine G.dec (t := 25) rfl (fun h7_25 => ?_) (fun h7_25 => ?_)
       ·refine G.kDT (t := 24) rfl h7_25 (G.grun (t := 25) rfl rfl rfl (G.q (Quiet.move rfl) rfl (G.grun (t := 25) rfl rfl rfl (G.q (Quiet.int rfl rfl rfl) rfl (G.q (Quiet.pickT rfl rfl) rfl (G.q (Quiet.assign rfl) rfl (G.nil (G.then_n ?_))))))))
        refine G.dec (t := 10) rfl (fun h10 => ?_) (fun h10 => ?_)
        ·refine G.condT rfl (G.skip (G.then_n (G.condT rfl (G.skip (G.blk_n (G.blk_n (G.then_n ?_)))))))
         exact G.roundK (pos + 1) (⟨by omega, all_next hpos hall (letter_of (by omega))⟩) (by omega) ⟨rfl, rfl, trivial⟩ (by (repeat' constructor)) (by ((repeat (apply Have.cons; (repeat (first | exact Pick.here | apply Pick.there)))); apply Have.base; repeat' constructor))
        ·refine G.condF rfl (G.seq (G.region (G.q (Quiet.move rfl) rfl (G.q (Quiet.int rfl rfl rfl) rfl (G.q (Quiet.assign rfl) rfl (G.nil (G.then_n ?_)))))))
         refine G.dec (t := 10) rfl (fun h10 => ?_) (fun h10 => ?_)
         ·refine G.condT rfl (G.skip (G.then_n (G.condT rfl (G.skip (G.blk_n (G.blk_n (G.then_n ?_)))))))
          exact G.roundK (pos + 1) (⟨by omega, all_next hpos hall (letter_of (by omega))⟩) (by omega) ⟨rfl, rfl, trivial⟩ (by (repeat' constructor)) (by ((repeat (apply Have.cons; (repeat (first | exact Pick.here | apply Pick.there)))); apply Have.base; repeat' constructor))
         ·refine G.condF rfl (G.seq (G.region (G.q (Quiet.move rfl) rfl (G.q (Quiet.int rfl rfl rfl) rfl (G.q (Quiet.assign rfl) rfl (G.nil (G.then_n ?_)))))))
          refine G.dec (t := 10) rfl (fun h10 => ?_) (fun h10 => ?_)
          ·refine G.condT rfl (G.skip (G.then_n (G.condT rfl (G.skip (G.blk_n (G.blk_n (G.then_n ?_)))))))
           exact G.roundK (pos + 1) (⟨by omega, all_next hpos hall (letter_of (by omega))⟩) (by omega) ⟨rfl, rfl, trivial⟩ (by (repeat' constructor)) (by ((repeat (apply Have.cons; (repeat (first | exact Pick.here | apply Pick.there)))); apply Have.base; repeat' constructor))
          ·refine G.condF rfl (G.region (G.q (Quiet.move rfl) rfl (G.q (Quiet.int rfl rfl rfl) rfl (G.q (Quiet.assign rfl) rfl (G.nil (G.then_n ?_))))))
           refine G.dec (t := 10) rfl (fun h10 => ?_) (fun h10 => ?_)
           ·refine G.condT rfl (G.skip (G.blk_n (G.blk_n (G.then_n ?_))))
            exact G.roundK (pos + 1) (⟨by omega, all_next hpos hall (letter_of (by omega))⟩) (by omega) ⟨rfl, rfl, trivial⟩ (by (repeat' constructor)) (by ((repeat (apply Have.cons; (repeat (first | exact Pick.here | apply Pick.there)))); apply Have.base; repeat' constructor))
           ·refine G.condF rfl (G.seq (G.region (G.q (Quiet.assign rfl) rfl (G.nil (G.then_n (G.ret (G.blk_r (G.blk_r (G.then_r (G.blk_r (G.then_r ?_)))))))))))
            have hz : isNameZ s = false := name_bad hpos (letter_not (by omega))
            rw [hz]
            exact G.done (l := [.tmp 2]) rfl rfl ⟨rfl, rfl⟩ (by (repeat' constructor)) (by (repeat' constructor))
       ·refine G.kDF (t := 24) rfl h7_25 (G.gskip (t := 25) rfl rfl rfl rfl (G.gskip (t := 25) rfl rfl rfl rfl (G.q (Quiet.pickF rfl rfl) rfl (G.q (Quiet.assign rfl) rfl (G.nil (G.then_n (G.condF rfl (G.seq (G.region (G.q (Quiet.move rfl) rfl (G.q (Quiet.int rfl rfl rfl) rfl (G.q (Quiet.assign rfl) rfl (G.nil (G.then_n ?_))))))))))))))
        refine G.dec (t := 10) rfl (fun h10 => ?_) (fun h10 => ?_)
        ·refine G.condT rfl (G.skip (G.then_n (G.condT rfl (G.skip (G.blk_n (G.blk_n (G.then_n ?_)))))))
         exact G.roundK (pos + 1) (⟨by omega, all_next hpos hall (letter_of (by omega))⟩) (by omega) ⟨rfl, rfl, trivial⟩ (by (repeat' constructor)) (by ((repeat (apply Have.cons; (repeat (first | exact Pick.here | apply Pick.there)))); apply Have.base; repeat' constructor))
        ·refine G.condF rfl (G.seq (G.region (G.q (Quiet.move rfl) rfl (G.q (Quiet.int rfl rfl rfl) rfl (G.q (Quiet.assign rfl) rfl (G.nil (G.then_n ?_)))))))
         refine G.dec (t := 10) rfl (fun h10 => ?_) (fun h10 => ?_)
         ·refine G.condT rfl (G.skip (G.then_n (G.condT rfl (G.skip (G.blk_n (G.blk_n (G.then_n ?_)))))))
          exact G.roundK (pos + 1) (⟨by omega, all_next hpos hall (letter_of (by omega))⟩) (by omega) ⟨rfl, rfl, trivial⟩ (by (repeat' constructor)) (by ((repeat (apply Have.cons; (repeat (first | exact Pick.here | apply Pick.there)))); apply Have.base; repeat' constructor))
         ·refine G.condF rfl (G.region (G.q (Quiet.move rfl) rfl (G.q (Quiet.int rfl rfl rfl) rfl (G.q (Quiet.assign rfl) rfl (G.nil (G.then_n ?_))))))
          refine G.dec (t := 10) rfl (fun h10 => ?_) (fun h10 => ?_)
          ·refine G.condT rfl (G.skip (G.blk_n (G.blk_n (G.then_n ?_))))
           exact G.roundK (pos + 1) (⟨by omega, all_next hpos hall (letter_of (by omega))⟩) (by omega) ⟨rfl, rfl, trivial⟩ (by (repeat' constructor)) (by ((repeat (apply Have.cons; (repeat (first | exact Pick.here | apply Pick.there)))); apply Have.base; repeat' constructor))
          ·refine G.condF rfl (G.seq (G.region (G.q (Quiet.assign rfl) rfl (G.nil (G.then_n (G.ret (G.blk_r (G.blk_r (G.then_r (G.blk_r (G.then_r ?_)))))))))))
           have hz : isNameZ s = false := name_bad hpos (letter_not (by omega))
           rw [hz]
           exact G.done (l := [.tmp 2]) rfl rfl ⟨rfl, rfl⟩ (by (repeat' constructor)) (by (repeat' constructor))
     ·refine G.kDF (t := 18) rfl h6_19 (G.gskip (t := 19) rfl rfl rfl rfl (G.gskip (t := 19) rfl rfl rfl rfl (G.q (Quiet.pickF rfl rfl) rfl (G.q (Quiet.assign rfl) rfl (G.nil (G.then_n (G.condF rfl (G.seq (G.region (G.q (Quiet.move rfl) rfl (G.q (Quiet.int rfl rfl rfl) rfl (G.q (Quiet.move rfl) rfl ?_))))))))))))
      refine G.dec (t := 25) rfl (fun h7_25 => ?_) (fun h7_25 => ?_)
      ·refine G.kDT (t := 24) rfl h7_25 (G.grun (t := 25) rfl rfl rfl (G.q (Quiet.move rfl) rfl (G.grun (t := 25) rfl rfl rfl (G.q (Quiet.int rfl rfl rfl) rfl (G.q (Quiet.pickT rfl rfl) rfl (G.q (Quiet.assign rfl) rfl (G.nil (G.then_n ?_))))))))
       refine G.dec (t := 10) rfl (fun h10 => ?_) (fun h10 => ?_)
       ·refine G.condT rfl (G.skip (G.then_n (G.condT rfl (G.skip (G.blk_n (G.blk_n (G.then_n ?_)))))))
        exact G.roundK (pos + 1) (⟨by omega, all_next hpos hall (letter_of (by omega))⟩) (by omega) ⟨rfl, rfl, trivial⟩ (by (repeat' constructor)) (by ((repeat (apply Have.cons; (repeat (first | exact Pick.here | apply Pick.there)))); apply Have.base; repeat' constructor))
       ·refine G.condF rfl (G.seq (G.region (G.q (Quiet.move rfl) rfl (G.q (Quiet.int rfl rfl rfl) rfl (G.q (Quiet.assign rfl) rfl (G.nil (G.then_n ?_)))))))
        refine G.dec (t := 10) rfl (fun h10 => ?_) (fun h10 => ?_)
        ·refine G.condT rfl (G.skip (G.then_n (G.condT rfl (G.skip (G.blk_n (G.blk_n (G.then_n ?_)))))))
         exact G.roundK (pos + 1) (⟨by omega, all_next hpos hall (letter_of (by omega))⟩) (by omega) ⟨rfl, rfl, trivial⟩ (by (repeat' constructor)) (by ((repeat (apply Have.cons; (repeat (first | exact Pick.here | apply Pick.there)))); apply Have.base; repeat' constructor))
        ·refine G.condF rfl (G.seq (G.region (G.q (Quiet.move rfl) rfl (G.q (Quiet.int rfl rfl rfl) rfl (G.q (Quiet.assign rfl) rfl (G.nil (G.then_n ?_)))))))
         refine G.dec (t := 10) rfl (fun h10 => ?_) (fun h10 => ?_)
         ·refine G.condT rfl (G.skip (G.then_n (G.condT rfl (G.skip (G.blk_n (G.blk_n (G.then_n ?_)))))))
          exact G.roundK (pos + 1) (⟨by omega, all_next hpos hall (letter_of (by omega))⟩) (by omega) ⟨rfl, rfl, trivial⟩ (by (repeat' constructor)) (by ((repeat (apply Have.cons; (repeat (first | exact Pick.here | apply Pick.there)))); apply Have.base; repeat' constructor))
         ·refine G.condF rfl (G.region (G.q (Quiet.move rfl) rfl (G.q (Quiet.int rfl rfl rfl) rfl (G.q (Quiet.assign rfl) rfl (G.nil (G.then_n ?_))))))
          refine G.dec (t := 10) rfl (fun h10 => ?_) (fun h10 => ?_)
          ·refine G.condT rfl (G.skip (G.blk_n (G.blk_n (G.then_n ?_))))
           exact G.roundK (pos + 1) (⟨by omega, all_next hpos hall (letter_of (by omega))⟩) (by omega) ⟨rfl, rfl, trivial⟩ (by (repeat' constructor)) (by ((repeat (apply Have.cons; (repeat (first | exact Pick.here | apply Pick.there)))); apply Have.base; repeat' constructor))
          ·refine G.condF rfl (G.seq (G.region (G.q (Quiet.assign rfl) rfl (G.nil (G.then_n (G.ret (G.blk_r (G.blk_r (G.then_r (G.blk_r (G.then_r ?_)))))))))))
           have hz : isNameZ s = false := name_bad hpos (letter_not (by omega))
           rw [hz]
           exact G.done (l := [.tmp 2]) rfl rfl ⟨rfl, rfl⟩ (by (repeat' constructor)) (by (repeat' constructor))
      ·refine G.kDF (t := 24) rfl h7_25 (G.gskip (t := 25) rfl rfl rfl rfl (G.gskip (t := 25) rfl rfl rfl rfl (G.q (Quiet.pickF rfl rfl) rfl (G.q (Quiet.assign rfl) rfl (G.nil (G.then_n (G.condF rfl (G.seq (G.region (G.q (Quiet.move rfl) rfl (G.q (Quiet.int rfl rfl rfl) rfl (G.q (Quiet.assign rfl) rfl (G.nil (G.then_n ?_))))))))))))))
       refine G.dec (t := 10) rfl (fun h10 => ?_) (fun h10 => ?_)
       ·refine G.condT rfl (G.skip (G.then_n (G.condT rfl (G.skip (G.blk_n (G.blk_n (G.then_n ?_)))))))
        exact G.roundK (pos + 1) (⟨by omega, all_next hpos hall (letter_of (by omega))⟩) (by omega) ⟨rfl, rfl, trivial⟩ (by (repeat' constructor)) (by ((repeat (apply Have.cons; (repeat (first | exact Pick.here | apply Pick.there)))); apply Have.base; repeat' constructor))
       ·refine G.condF rfl (G.seq (G.region (G.q (Quiet.move rfl) rfl (G.q (Quiet.int rfl rfl rfl) rfl (G.q (Quiet.assign rfl) rfl (G.nil (G.then_n ?_)))))))
        refine G.dec (t := 10) rfl (fun h10 => ?_) (fun h10 => ?_)
        ·refine G.condT rfl (G.skip (G.then_n (G.condT rfl (G.skip (G.blk_n (G.blk_n (G.then_n ?_)))))))
         exact G.roundK (pos + 1) (⟨by omega, all_next hpos hall (letter_of (by omega))⟩) (by omega) ⟨rfl, rfl, trivial⟩ (by (repeat' constructor)) (by ((repeat (apply Have.cons; (repeat (first | exact Pick.here | apply Pick.there)))); apply Have.base; repeat' constructor))
        ·refine G.condF rfl (G.region (G.q (Quiet.move rfl) rfl (G.q (Quiet.int rfl rfl rfl) rfl (G.q (Quiet.assign rfl) rfl (G.nil (G.then_n ?_))))))
         refine G.dec (t := 10) rfl (fun h10 => ?_) (fun h10 => ?_)
         ·refine G.condT rfl (G.skip (G.blk_n (G.blk_n (G.then_n ?_))))
          exact G.roundK (pos + 1) (⟨by omega, all_next hpos hall (letter_of (by omega))⟩) (by omega) ⟨rfl, rfl, trivial⟩ (by (repeat' constructor)) (by ((repeat (apply Have.cons; (repeat (first | exact Pick.here | apply Pick.there)))); apply Have.base; repeat' constructor))
         ·refine G.condF rfl (G.seq (G.region (G.q (Quiet.assign rfl) rfl (G.nil (G.then_n (G.ret (G.blk_r (G.blk_r (G.then_r (G.blk_r (G.then_r ?_)))))))))))
          have hz : isNameZ s = false := name_bad hpos (letter_not (by omega))
          rw [hz]
          exact G.done (l := [.tmp 2]) rfl rfl ⟨rfl, rfl⟩ (by (repeat' constructor)) (by (repeat' constructor))
   ·refine G.kDF (t := 12) rfl h5_13 (G.gskip (t := 13) rfl rfl rfl rfl (G.gskip (t := 13) rfl rfl rfl rfl (G.q (Quiet.pickF rfl rfl) rfl (G.q (Quiet.assign rfl) rfl (G.nil (G.then_n (G.condF rfl (G.seq (G.region (G.q (Quiet.move rfl) rfl (G.q (Quiet.int rfl rfl rfl) rfl (G.q (Quiet.move rfl) rfl ?_))))))))))))
    refine G.dec (t := 19) rfl (fun h6_19 => ?_) (fun h6_19 => ?_)
    ·refine G.kDT (t := 18) rfl h6_19 (G.grun (t := 19) rfl rfl rfl (G.q (Quiet.move rfl) rfl (G.grun (t := 19) rfl rfl rfl (G.q (Quiet.int rfl rfl rfl) rfl (G.q (Quiet.pickT rfl rfl) rfl (G.q (Quiet.assign rfl) rfl (G.nil (G.then_n ?_))))))))
     refine G.dec (t := 10) rfl (fun h10 => ?_) (fun h10 => ?_)
     ·refine G.condT rfl (G.skip (G.then_n (G.condT rfl (G.skip (G.blk_n (G.blk_n (G.then_n ?_)))))))
      exact G.roundK (pos + 1) (⟨by omega, all_next hpos hall (letter_of (by omega))⟩) (by omega) ⟨rfl, rfl, trivial⟩ (by (repeat' constructor)) (by ((repeat (apply Have.cons; (repeat (first | exact Pick.here | apply Pick.there)))); apply Have.base; repeat' constructor))
     ·refine G.condF rfl (G.seq (G.region (G.q (Quiet.move rfl) rfl (G.q (Quiet.int rfl rfl rfl) rfl (G.q (Quiet.move rfl) rfl ?_)))))
      refine G.dec (t := 25) rfl (fun h7_25 => ?_) (fun h7_25 => ?_)
      ·refine G.kDT (t := 24) rfl h7_25 (G.grun (t := 25) rfl rfl rfl (G.q (Quiet.move rfl) rfl (G.grun (t := 25) rfl rfl rfl (G.q (Quiet.int rfl rfl rfl) rfl (G.q (Quiet.pickT rfl rfl) rfl (G.q (Quiet.assign rfl) rfl (G.nil (G.then_n ?_))))))))
       refine G.dec (t := 10) rfl (fun h10 => ?_) (fun h10 => ?_)
       ·refine G.condT rfl (G.skip (G.then_n (G.condT rfl (G.skip (G.blk_n (G.blk_n (G.then_n ?_)))))))
        exact G.roundK (pos + 1) (⟨by omega, all_next hpos hall (letter_of (by omega))⟩) (by omega) ⟨rfl, rfl, trivial⟩ (by (repeat' constructor)) (by ((repeat (apply Have.cons; (repeat (first | exact Pick.here | apply Pick.there)))); apply Have.base; repeat' constructor))
       ·refine G.condF rfl (G.seq (G.region (G.q (Quiet.move rfl) rfl (G.q (Quiet.int rfl rfl rfl) rfl (G.q (Quiet.assign rfl) rfl (G.nil (G.then_n ?_)))))))
        refine G.dec (t := 10) rfl (fun h10 => ?_) (fun h10 => ?_)
        ·refine G.condT rfl (G.skip (G.then_n (G.condT rfl (G.skip (G.blk_n (G.blk_n (G.then_n ?_)))))))
         exact G.roundK (pos + 1) (⟨by omega, all_next hpos hall (letter_of (by omega))⟩) (by omega) ⟨rfl, rfl, trivial⟩ (by (repeat' constructor)) (by ((repeat (apply Have.cons; (repeat (first | exact Pick.here | apply Pick.there)))); apply Have.base; repeat' constructor))
        ·refine G.condF rfl (G.seq (G.region (G.q (Quiet.move rfl) rfl (G.q (Quiet.int rfl rfl rfl) rfl (G.q (Quiet.assign rfl) rfl (G.nil (G.then_n ?_)))))))
         refine G.dec (t := 10) rfl (fun h10 => ?_) (fun h10 => ?_)
         ·refine G.condT rfl (G.skip (G.then_n (G.condT rfl (G.skip (G.blk_n (G.blk_n (G.then_n ?_)))))))
          exact G.roundK (pos + 1) (⟨by omega, all_next hpos hall (letter_of (by omega))⟩) (by omega) ⟨rfl, rfl, trivial⟩ (by (repeat' constructor)) (by ((repeat (apply Have.cons; (repeat (first | exact Pick.here | apply Pick.there)))); apply Have.base; repeat' constructor))
         ·refine G.condF rfl (G.region (G.q (Quiet.move rfl) rfl (G.q (Quiet.int rfl rfl rfl) rfl (G.q (Quiet.assign rfl) rfl (G.nil (G.then_n ?_))))))
          refine G.dec (t := 10) rfl (fun h10 => ?_) (fun h10 => ?_)
          ·refine G.condT rfl (G.skip (G.blk_n (G.blk_n (G.then_n ?_))))
           exact G.roundK (pos + 1) (⟨by omega, all_next hpos hall (letter_of (by omega))⟩) (by omega) ⟨rfl, rfl, trivial⟩ (by (repeat' constructor)) (by ((repeat (apply Have.cons; (repeat (first | exact Pick.here | apply Pick.there)))); apply Have.base; repeat' constructor))
          ·refine G.condF rfl (G.seq (G.region (G.q (Quiet.assign rfl) rfl (G.nil (G.then_n (G.ret (G.blk_r (G.blk_r (G.then_r (G.blk_r (G.then_r ?_)))))))))))
           have hz : isNameZ s = false := name_bad hpos (letter_not (by omega))
           rw [hz]
           exact G.done (l := [.tmp 2]) rfl rfl ⟨rfl, rfl⟩ (by (repeat' constructor)) (by (repeat' constructor))
      ·refine G.kDF (t := 24) rfl h7_25 (G.gskip (t := 25) rfl rfl rfl rfl (G.gskip (t := 25) rfl rfl rfl rfl (G.q (Quiet.pickF rfl rfl) rfl (G.q (Quiet.assign rfl) rfl (G.nil (G.then_n (G.condF rfl (G.seq (G.region (G.q (Quiet.move rfl) rfl (G.q (Quiet.int rfl rfl rfl) rfl (G.q (Quiet.assign rfl) rfl (G.nil (G.then_n ?_))))))))))))))
       refine G.dec (t := 10) rfl (fun h10 => ?_) (fun h10 => ?_)
       ·refine G.condT rfl (G.skip (G.then_n (G.condT rfl (G.skip (G.blk_n (G.blk_n (G.then_n ?_)))))))
        exact G.roundK (pos + 1) (⟨by omega, all_next hpos hall (letter_of (by omega))⟩) (by omega) ⟨rfl, rfl, trivial⟩ (by (repeat' constructor)) (by ((repeat (apply Have.cons; (repeat (first | exact Pick.here | apply Pick.there)))); apply Have.base; repeat' constructor))
       ·refine G.condF rfl (G.seq (G.region (G.q (Quiet.move rfl) rfl (G.q (Quiet.int rfl rfl rfl) rfl (G.q (Quiet.assign rfl) rfl (G.nil (G.then_n ?_)))))))
        refine G.dec (t := 10) rfl (fun h10 => ?_) (fun h10 => ?_)
        ·refine G.condT rfl (G.skip (G.then_n (G.condT rfl (G.skip (G.blk_n (G.blk_n (G.then_n ?_)))))))
         exact G.roundK (pos + 1) (⟨by omega, all_next hpos hall (letter_of (by omega))⟩) (by omega) ⟨rfl, rfl, trivial⟩ (by (repeat' constructor)) (by ((repeat (apply Have.cons; (repeat (first | exact Pick.here | apply Pick.there)))); apply Have.base; repeat' constructor))
        ·refine G.condF rfl (G.region (G.q (Quiet.move rfl) rfl (G.q (Quiet.int rfl rfl rfl) rfl (G.q (Quiet.assign rfl) rfl (G.nil (G.then_n ?_))))))
         refine G.dec (t := 10) rfl (fun h10 => ?_) (fun h10 => ?_)
         ·refine G.condT rfl (G.skip (G.blk_n (G.blk_n (G.then_n ?_))))
          exact G.roundK (pos + 1) (⟨by omega, all_next hpos hall (letter_of (by omega))⟩) (by omega) ⟨rfl, rfl, trivial⟩ (by (repeat' constructor)) (by ((repeat (apply Have.cons; (repeat (first | exact Pick.here | apply Pick.there)))); apply Have.base; repeat' constructor))
         ·refine G.condF rfl (G.seq (G.region (G.q (Quiet.assign rfl) rfl (G.nil (G.then_n (G.ret (G.blk_r (G.blk_r (G.then_r (G.blk_r (G.then_r ?_)))))))))))
          have hz : isNameZ s = false := name_bad hpos (letter_not (by omega))
          rw [hz]
          exact G.done (l := [.tmp 2]) rfl rfl ⟨rfl, rfl⟩ (by (repeat' constructor)) (by (repeat' constructor))
    ·refine G.kDF (t := 18) rfl h6_19 (G.gskip (t := 19) rfl rfl rfl rfl (G.gskip (t := 19) rfl rfl rfl rfl (G.q (Quiet.pickF rfl rfl) rfl (G.q (Quiet.assign rfl) rfl (G.nil (G.then_n (G.condF rfl (G.seq (G.region (G.q (Quiet.move rfl) rfl (G.q (Quiet.int rfl rfl rfl) rfl (G.q (Quiet.move rfl) rfl ?_))))))))))))
     refine G.dec (t := 25) rfl (fun h7_25 => ?_) (fun h7_25 => ?_)
     ·refine G.kDT (t := 24) rfl h7_25 (G.grun (t := 25) rfl rfl rfl (G.q (Quiet.move rfl) rfl (G.grun (t := 25) rfl rfl rfl (G.q (Quiet.int rfl rfl rfl) rfl (G.q (Quiet.pickT rfl rfl) rfl (G.q (Quiet.assign rfl) rfl (G.nil (G.then_n ?_))))))))
      refine G.dec (t := 10) rfl (fun h10 => ?_) (fun h10 => ?_)
      ·refine G.condT rfl (G.skip (G.then_n (G.condT rfl (G.skip (G.blk_n (G.blk_n (G.then_n ?_)))))))
       exact G.roundK (pos + 1) (⟨by omega, all_next hpos hall (letter_of (by omega))⟩) (by omega) ⟨rfl, rfl, trivial⟩ (by (repeat' constructor)) (by ((repeat (apply Have.cons; (repeat (first | exact Pick.here | apply Pick.there)))); apply Have.base; repeat' constructor))
      ·refine G.condF rfl (G.seq (G.region (G.q (Quiet.move rfl) rfl (G.q (Quiet.int rfl rfl rfl) rfl (G.q (Quiet.assign rfl) rfl (G.nil (G.then_n ?_)))))))
       refine G.dec (t := 10) rfl (fun h10 => ?_) (fun h10 => ?_)
       ·refine G.condT rfl (G.skip (G.then_n (G.condT rfl (G.skip (G.blk_n (G.blk_n (G.then_n ?_)))))))
        exact G.roundK (pos + 1) (⟨by omega, all_next hpos hall (letter_of (by omega))⟩) (by omega) ⟨rfl, rfl, trivial⟩ (by (repeat' constructor)) (by ((repeat (apply Have.cons; (repeat (first | exact Pick.here | apply Pick.there)))); apply Have.base; repeat' constructor))
       ·refine G.condF rfl (G.seq (G.region (G.q (Quiet.move rfl) rfl (G.q (Quiet.int rfl rfl rfl) rfl (G.q (Quiet.assign rfl) rfl (G.nil (G.then_n ?_)))))))
        refine G.dec (t := 10) rfl (fun h10 => ?_) (fun h10 => ?_)
        ·refine G.condT rfl (G.skip (G.then_n (G.condT rfl (G.skip (G.blk_n (G.blk_n (G.then_n ?_)))))))
         exact G.roundK (pos + 1) (⟨by omega, all_next hpos hall (letter_of (by omega))⟩) (by omega) ⟨rfl, rfl, trivial⟩ (by (repeat' constructor)) (by ((repeat (apply Have.cons; (repeat (first | exact Pick.here | apply Pick.there)))); apply Have.base; repeat' constructor))
        ·refine G.condF rfl (G.region (G.q (Quiet.move rfl) rfl (G.q (Quiet.int rfl rfl rfl) rfl (G.q (Quiet.assign rfl) rfl (G.nil (G.then_n ?_))))))
         refine G.dec (t := 10) rfl (fun h10 => ?_) (fun h10 => ?_)
         ·refine G.condT rfl (G.skip (G.blk_n (G.blk_n (G.then_n ?_))))
          exact G.roundK (pos + 1) (⟨by omega, all_next hpos hall (letter_of (by omega))⟩) (by omega) ⟨rfl, rfl, trivial⟩ (by (repeat' constructor)) (by ((repeat (apply Have.cons; (repeat (first | exact Pick.here | apply Pick.there)))); apply Have.base; repeat' constructor))
         ·refine G.condF rfl (G.seq (G.region (G.q (Quiet.assign rfl) rfl (G.nil (G.then_n (G.ret (G.blk_r (G.blk_r (G.then_r (G.blk_r (G.then_r ?_)))))))))))
          have hz : isNameZ s = false := name_bad hpos (letter_not (by omega))
          rw [hz]
          exact G.done (l := [.tmp 2]) rfl rfl ⟨rfl, rfl⟩ (by (repeat' constructor)) (by (repeat' constructor))
     ·refine G.kDF (t := 24) rfl h7_25 (G.gskip (t := 25) rfl rfl rfl rfl (G.gskip (t := 25) rfl rfl rfl rfl (G.q (Quiet.pickF rfl rfl) rfl (G.q (Quiet.assign rfl) rfl (G.nil (G.then_n (G.condF rfl (G.seq (G.region (G.q (Quiet.move rfl) rfl (G.q (Quiet.int rfl rfl rfl) rfl (G.q (Quiet.assign rfl) rfl (G.nil (G.then_n ?_))))))))))))))
      refine G.dec (t := 10) rfl (fun h10 => ?_) (fun h10 => ?_)
      ·refine G.condT rfl (G.skip (G.then_n (G.condT rfl (G.skip (G.blk_n (G.blk_n (G.then_n ?_)))))))
       exact G.roundK (pos + 1) (⟨by omega, all_next hpos hall (letter_of (by omega))⟩) (by omega) ⟨rfl, rfl, trivial⟩ (by (repeat' constructor)) (by ((repeat (apply Have.cons; (repeat (first | exact Pick.here | apply Pick.there)))); apply Have.base; repeat' constructor))
      ·refine G.condF rfl (G.seq (G.region (G.q (Quiet.move rfl) rfl (G.q (Quiet.int rfl rfl rfl) rfl (G.q (Quiet.assign rfl) rfl (G.nil (G.then_n ?_)))))))
       refine G.dec (t := 10) rfl (fun h10 => ?_) (fun h10 => ?_)
       ·refine G.condT rfl (G.skip (G.then_n (G.condT rfl (G.skip (G.blk_n (G.blk_n (G.then_n ?_)))))))
        exact G.roundK (pos + 1) (⟨by omega, all_next hpos hall (letter_of (by omega))⟩) (by omega) ⟨rfl, rfl, trivial⟩ (by (repeat' constructor)) (by ((repeat (apply Have.cons; (repeat (first | exact Pick.here | apply Pick.there)))); apply Have.base; repeat' constructor))
       ·refine G.condF rfl (G.region (G.q (Quiet.move rfl) rfl (G.q (Quiet.int rfl rfl rfl) rfl (G.q (Quiet.assign rfl) rfl (G.nil (G.then_n ?_))))))
        refine G.dec (t := 10) rfl (fun h10 => ?_) (fun h10 => ?_)
        ·refine G.condT rfl (G.skip (G.blk_n (G.blk_n (G.then_n ?_))))
         exact G.roundK (pos + 1) (⟨by omega, all_next hpos hall (letter_of (by omega))⟩) (by omega) ⟨rfl, rfl, trivial⟩ (by (repeat' constructor)) (by ((repeat (apply Have.cons; (repeat (first | exact Pick.here | apply Pick.there)))); apply Have.base; repeat' constructor))
        ·refine G.condF rfl (G.seq (G.region (G.q (Quiet.assign rfl) rfl (G.nil (G.then_n (G.ret (G.blk_r (G.blk_r (G.then_r (G.blk_r (G.then_r ?_)))))))))))
         have hz : isNameZ s = false := name_bad hpos (letter_not (by omega))
         rw [hz]
         exact G.done (l := [.tmp 2]) rfl rfl ⟨rfl, rfl⟩ (by (repeat' constructor)) (by (repeat' constructor))
  ·obtain ⟨hd1, hd2⟩ := decode_high hpos (by omega)
   generalize Utf8.decode (bs s) pos = dc at *
   refine G.q (Quiet.extract rfl rfl) rfl (G.q (Quiet.assign rfl) rfl (G.nil (G.then_n (G.block (G.seq (G.seq (G.region (G.q (Quiet.move rfl) rfl (G.q (Quiet.int rfl rfl rfl) rfl (G.q (Quiet.move rfl) rfl ?_))))))))))
   refine G.dec (t := 13) rfl (fun h5_13 => ?_) (fun h5_13 => ?_)
   ·refine G.kDT (t := 12) rfl h5_13 (G.grun (t := 13) rfl rfl rfl (G.q (Quiet.move rfl) rfl (G.grun (t := 13) rfl rfl rfl (G.q (Quiet.int rfl rfl rfl) rfl (G.q (Quiet.pickT rfl rfl) rfl (G.q (Quiet.assign rfl) rfl (G.nil (G.then_n ?_))))))))
    refine G.dec (t := 10) rfl (fun h10 => ?_) (fun h10 => ?_)
    ·exfalso; omega
    ·refine G.condF rfl (G.seq (G.region (G.q (Quiet.move rfl) rfl (G.q (Quiet.int rfl rfl rfl) rfl (G.q (Quiet.move rfl) rfl ?_)))))
     refine G.dec (t := 19) rfl (fun h6_19 => ?_) (fun h6_19 => ?_)
     ·refine G.kDT (t := 18) rfl h6_19 (G.grun (t := 19) rfl rfl rfl (G.q (Quiet.move rfl) rfl (G.grun (t := 19) rfl rfl rfl (G.q (Quiet.int rfl rfl rfl) rfl (G.q (Quiet.pickT rfl rfl) rfl (G.q (Quiet.assign rfl) rfl (G.nil (G.then_n ?_))))))))
      refine G.dec (t := 10) rfl (fun h10 => ?_) (fun h10 => ?_)
      ·exfalso; omega
      ·refine G.condF rfl (G.seq (G.region (G.q (Quiet.move rfl) rfl (G.q (Quiet.int rfl rfl rfl) rfl (G.q (Quiet.move rfl) rfl ?_)))))
       refine G.dec (t := 25) rfl (fun h7_25 => ?_) (fun h7_25 => ?_)
       ·refine G.kDT (t := 24) rfl h7_25 (G.grun (t := 25) rfl rfl rfl (G.q (Quiet.move rfl) rfl (G.grun (t := 25) rfl rfl rfl (G.q (Quiet.int rfl rfl rfl) rfl (G.q (Quiet.pickT rfl rfl) rfl (G.q (Quiet.assign rfl) rfl (G.nil (G.then_n ?_))))))))
        refine G.dec (t := 10) rfl (fun h10 => ?_) (fun h10 => ?_)
        ·exfalso; omega
        ·refine G.condF rfl (G.seq (G.region (G.q (Quiet.move rfl) rfl (G.q (Quiet.int rfl rfl rfl) rfl (G.q (Quiet.assign rfl) rfl (G.nil (G.then_n ?_)))))))
         refine G.dec (t := 10) rfl (fun h10 => ?_) (fun h10 => ?_)
         ·exfalso; omega
         ·refine G.condF rfl (G.seq (G.region (G.q (Quiet.move rfl) rfl (G.q (Quiet.int rfl rfl rfl) rfl (G.q (Quiet.assign rfl) rfl (G.nil (G.then_n ?_)))))))
          refine G.dec (t := 10) rfl (fun h10 => ?_) (fun h10 => ?_)
          ·exfalso; omega
          ·refine G.condF rfl (G.region (G.q (Quiet.move rfl) rfl (G.q (Quiet.int rfl rfl rfl) rfl (G.q (Quiet.assign rfl) rfl (G.nil (G.then_n ?_))))))
           refine G.dec (t := 10) rfl (fun h10 => ?_) (fun h10 => ?_)
           ·exfalso; omega
           ·refine G.condF rfl (G.seq (G.region (G.q (Quiet.assign rfl) rfl (G.nil (G.then_n (G.ret (G.blk_r (G.blk_r (G.then_r (G.blk_r (G.then_r ?_)))))))))))
            have hz : isNameZ s = false := name_bad hpos (letter_not (by omega))
            rw [hz]
            exact G.done (l := [.tmp 2]) rfl rfl ⟨rfl, rfl⟩ (by (repeat' constructor)) (by (repeat' constructor))
       ·refine G.kDF (t := 24) rfl h7_25 (G.gskip (t := 25) rfl rfl rfl rfl (G.gskip (t := 25) rfl rfl rfl rfl (G.q (Quiet.pickF rfl rfl) rfl (G.q (Quiet.assign rfl) rfl (G.nil (G.then_n (G.condF rfl (G.seq (G.region (G.q (Quiet.move rfl) rfl (G.q (Quiet.int rfl rfl rfl) rfl (G.q (Quiet.assign rfl) rfl (G.nil (G.then_n ?_))))))))))))))
        refine G.dec (t := 10) rfl (fun h10 => ?_) (fun h10 => ?_)
        ·exfalso; omega
        ·refine G.condF rfl (G.seq (G.region (G.q (Quiet.move rfl) rfl (G.q (Quiet.int rfl rfl rfl) rfl (G.q (Quiet.assign rfl) rfl (G.nil (G.then_n ?_)))))))
         refine G.dec (t := 10) rfl (fun h10 => ?_) (fun h10 => ?_)
         ·exfalso; omega
         ·refine G.condF rfl (G.region (G.q (Quiet.move rfl) rfl (G.q (Quiet.int rfl rfl rfl) rfl (G.q (Quiet.assign rfl) rfl (G.nil (G.then_n ?_))))))
          refine G.dec (t := 10) rfl (fun h10 => ?_) (fun h10 => ?_)
          ·exfalso; omega
          ·refine G.condF rfl (G.seq (G.region (G.q (Quiet.assign rfl) rfl (G.nil (G.then_n (G.ret (G.blk_r (G.blk_r (G.then_r (G.blk_r (G.then_r ?_)))))))))))
           have hz : isNameZ s = false := name_bad hpos (letter_not (by omega))
           rw [hz]
           exact G.done (l := [.tmp 2]) rfl rfl ⟨rfl, rfl⟩ (by (repeat' constructor)) (by (repeat' constructor))
     ·refine G.kDF (t := 18) rfl h6_19 (G.gskip (t := 19) rfl rfl rfl rfl (G.gskip (t := 19) rfl rfl rfl rfl (G.q (Quiet.pickF rfl rfl) rfl (G.q (Quiet.assign rfl) rfl (G.nil (G.then_n (G.condF rfl (G.seq (G.region (G.q (Quiet.move rfl) rfl (G.q (Quiet.int rfl rfl rfl) rfl (G.q (Quiet.move rfl) rfl ?_))))))))))))
      refine G.dec (t := 25) rfl (fun h7_25 => ?_) (fun h7_25 => ?_)
      ·refine G.kDT (t := 24) rfl h7_25 (G.grun (t := 25) rfl rfl rfl (G.q (Quiet.move rfl) rfl (G.grun (t := 25) rfl rfl rfl (G.q (Quiet.int rfl rfl rfl) rfl (G.q (Quiet.pickT rfl rfl) rfl (G.q (Quiet.assign rfl) rfl (G.nil (G.then_n ?_))))))))
       refine G.dec (t := 10) rfl (fun h10 => ?_) (fun h10 => ?_)
       ·exfalso; omega
       ·refine G.condF rfl (G.seq (G.region (G.q (Quiet.move rfl) rfl (G.q (Quiet.int rfl rfl rfl) rfl (G.q (Quiet.assign rfl) rfl (G.nil (G.then_n ?_)))))))
        refine G.dec (t := 10) rfl (fun h10 => ?_) (fun h10 => ?_)
        ·exfalso; omega
        ·refine G.condF rfl (G.seq (G.region (G.q (Quiet.move rfl) rfl (G.q (Quiet.int rfl rfl rfl) rfl (G.q (Quiet.assign rfl) rfl (G.nil (G.then_n ?_)))))))
         refine G.dec (t := 10) rfl (fun h10 => ?_) (fun h10 => ?_)
         ·exfalso; omega
         ·refine G.condF rfl (G.region (G.q (Quiet.move rfl) rfl (G.q (Quiet.int rfl rfl rfl) rfl (G.q (Quiet.assign rfl) rfl (G.nil (G.then_n ?_))))))
          refine G.dec (t := 10) rfl (fun h10 => ?_) (fun h10 => ?_)
          ·exfalso; omega
          ·refine G.condF rfl (G.seq (G.region (G.q (Quiet.assign rfl) rfl (G.nil (G.then_n (G.ret (G.blk_r (G.blk_r (G.then_r (G.blk_r (G.then_r ?_)))))))))))
           have hz : isNameZ s = false := name_bad hpos (letter_not (by omega))
           rw [hz]
           exact G.done (l := [.tmp 2]) rfl rfl ⟨rfl, rfl⟩ (by (repeat' constructor)) (by (repeat' constructor))
      ·refine G.kDF (t := 24) rfl h7_25 (G.gskip (t := 25) rfl rfl rfl rfl (G.gskip (t := 25) rfl rfl rfl rfl (G.q (Quiet.pickF rfl rfl) rfl (G.q (Quiet.assign rfl) rfl (G.nil (G.then_n (G.condF rfl (G.seq (G.region (G.q (Quiet.move rfl) rfl (G.q (Quiet.int rfl rfl rfl) rfl (G.q (Quiet.assign rfl) rfl (G.nil (G.then_n ?_))))))))))))))
       refine G.dec (t := 10) rfl (fun h10 => ?_) (fun h10 => ?_)
       ·exfalso; omega
       ·refine G.condF rfl (G.seq (G.region (G.q (Quiet.move rfl) rfl (G.q (Quiet.int rfl rfl rfl) rfl (G.q (Quiet.assign rfl) rfl (G.nil (G.then_n ?_)))))))
        refine G.dec (t := 10) rfl (fun h10 => ?_) (fun h10 => ?_)
        ·exfalso; omega
        ·refine G.condF rfl (G.region (G.q (Quiet.move rfl) rfl (G.q (Quiet.int rfl rfl rfl) rfl (G.q (Quiet.assign rfl) rfl (G.nil (G.then_n ?_))))))
         refine G.dec (t := 10) rfl (fun h10 => ?_) (fun h10 => ?_)
         ·exfalso; omega
         ·refine G.condF rfl (G.seq (G.region (G.q (Quiet.assign rfl) rfl (G.nil (G.then_n (G.ret (G.blk_r (G.blk_r (G.then_r (G.blk_r (G.then_r ?_)))))))))))
          have hz : isNameZ s = false := name_bad hpos (letter_not (by omega))
          rw [hz]
          exact G.done (l := [.tmp 2]) rfl rfl ⟨rfl, rfl⟩ (by (repeat' constructor)) (by (repeat' constructor))
   ·refine G.kDF (t := 12) rfl h5_13 (G.gskip (t := 13) rfl rfl rfl rfl (G.gskip (t := 13) rfl rfl rfl rfl (G.q (Quiet.pickF rfl rfl) rfl (G.q (Quiet.assign rfl) rfl (G.nil (G.then_n (G.condF rfl (G.seq (G.region (G.q (Quiet.move rfl) rfl (G.q (Quiet.int rfl rfl rfl) rfl (G.q (Quiet.move rfl) rfl ?_))))))))))))
    refine G.dec (t := 19) rfl (fun h6_19 => ?_) (fun h6_19 => ?_)
    ·refine G.kDT (t := 18) rfl h6_19 (G.grun (t := 19) rfl rfl rfl (G.q (Quiet.move rfl) rfl (G.grun (t := 19) rfl rfl rfl (G.q (Quiet.int rfl rfl rfl) rfl (G.q (Quiet.pickT rfl rfl) rfl (G.q (Quiet.assign rfl) rfl (G.nil (G.then_n ?_))))))))
     refine G.dec (t := 10) rfl (fun h10 => ?_) (fun h10 => ?_)
     ·exfalso; omega
     ·refine G.condF rfl (G.seq (G.region (G.q (Quiet.move rfl) rfl (G.q (Quiet.int rfl rfl rfl) rfl (G.q (Quiet.move rfl) rfl ?_)))))
      refine G.dec (t := 25) rfl (fun h7_25 => ?_) (fun h7_25 => ?_)
      ·refine G.kDT (t := 24) rfl h7_25 (G.grun (t := 25) rfl rfl rfl (G.q (Quiet.move rfl) rfl (G.grun (t := 25) rfl rfl rfl (G.q (Quiet.int rfl rfl rfl) rfl (G.q (Quiet.pickT rfl rfl) rfl (G.q (Quiet.assign rfl) rfl (G.nil (G.then_n ?_))))))))
       refine G.dec (t := 10) rfl (fun h10 => ?_) (fun h10 => ?_)
       ·exfalso; omega
       ·refine G.condF rfl (G.seq (G.region (G.q (Quiet.move rfl) rfl (G.q (Quiet.int rfl rfl rfl) rfl (G.q (Quiet.assign rfl) rfl (G.nil (G.then_n ?_)))))))
        refine G.dec (t := 10) rfl (fun h10 => ?_) (fun h10 => ?_)
        ·exfalso; omega
        ·refine G.condF rfl (G.seq (G.region (G.q (Quiet.move rfl) rfl (G.q (Quiet.int rfl rfl rfl) rfl (G.q (Quiet.assign rfl) rfl (G.nil (G.then_n ?_)))))))
         refine G.dec (t := 10) rfl (fun h10 => ?_) (fun h10 => ?_)
         ·exfalso; omega
         ·refine G.condF rfl (G.region (G.q (Quiet.move rfl) rfl (G.q (Quiet.int rfl rfl rfl) rfl (G.q (Quiet.assign rfl) rfl (G.nil (G.then_n ?_))))))
          refine G.dec (t := 10) rfl (fun h10 => ?_) (fun h10 => ?_)
          ·exfalso; omega
          ·refine G.condF rfl (G.seq (G.region (G.q (Quiet.assign rfl) rfl (G.nil (G.then_n (G.ret (G.blk_r (G.blk_r (G.then_r (G.blk_r (G.then_r ?_)))))))))))
           have hz : isNameZ s = false := name_bad hpos (letter_not (by omega))
           rw [hz]
           exact G.done (l := [.tmp 2]) rfl rfl ⟨rfl, rfl⟩ (by (repeat' constructor)) (by (repeat' constructor))
      ·refine G.kDF (t := 24) rfl h7_25 (G.gskip (t := 25) rfl rfl rfl rfl (G.gskip (t := 25) rfl rfl rfl rfl (G.q (Quiet.pickF rfl rfl) rfl (G.q (Quiet.assign rfl) rfl (G.nil (G.then_n (G.condF rfl (G.seq (G.region (G.q (Quiet.move rfl) rfl (G.q (Quiet.int rfl rfl rfl) rfl (G.q (Quiet.assign rfl) rfl (G.nil (G.then_n ?_))))))))))))))
       refine G.dec (t := 10) rfl (fun h10 => ?_) (fun h10 => ?_)
       ·exfalso; omega
       ·refine G.condF rfl (G.seq (G.region (G.q (Quiet.move rfl) rfl (G.q (Quiet.int rfl rfl rfl) rfl (G.q (Quiet.assign rfl) rfl (G.nil (G.then_n ?_)))))))
        refine G.dec (t := 10) rfl (fun h10 => ?_) (fun h10 => ?_)
        ·exfalso; omega
        ·refine G.condF rfl (G.region (G.q (Quiet.move rfl) rfl (G.q (Quiet.int rfl rfl rfl) rfl (G.q (Quiet.assign rfl) rfl (G.nil (G.then_n ?_))))))
         refine G.dec (t := 10) rfl (fun h10 => ?_) (fun h10 => ?_)
         ·exfalso; omega
         ·refine G.condF rfl (G.seq (G.region (G.q (Quiet.assign rfl) rfl (G.nil (G.then_n (G.ret (G.blk_r (G.blk_r (G.then_r (G.blk_r (G.then_r ?_)))))))))))
          have hz : isNameZ s = false := name_bad hpos (letter_not (by omega))
          rw [hz]
          exact G.done (l := [.tmp 2]) rfl rfl ⟨rfl, rfl⟩ (by (repeat' constructor)) (by (repeat' constructor))
    ·refine G.kDF (t := 18) rfl h6_19 (G.gskip (t := 19) rfl rfl rfl rfl (G.gskip (t := 19) rfl rfl rfl rfl (G.q (Quiet.pickF rfl rfl) rfl (G.q (Quiet.assign rfl) rfl (G.nil (G.then_n (G.condF rfl (G.seq (G.region (G.q (Quiet.move rfl) rfl (G.q (Quiet.int rfl rfl rfl) rfl (G.q (Quiet.move rfl) rfl ?_))))))))))))
     refine G.dec (t := 25) rfl (fun h7_25 => ?_) (fun h7_25 => ?_)
     ·refine G.kDT (t := 24) rfl h7_25 (G.grun (t := 25) rfl rfl rfl (G.q (Quiet.move rfl) rfl (G.grun (t := 25) rfl rfl rfl (G.q (Quiet.int rfl rfl rfl) rfl (G.q (Quiet.pickT rfl rfl) rfl (G.q (Quiet.assign rfl) rfl (G.nil (G.then_n ?_))))))))
      refine G.dec (t := 10) rfl (fun h10 => ?_) (fun h10 => ?_)
      ·exfalso; omega
      ·refine G.condF rfl (G.seq (G.region (G.q (Quiet.move rfl) rfl (G.q (Quiet.int rfl rfl rfl) rfl (G.q (Quiet.assign rfl) rfl (G.nil (G.then_n ?_)))))))
       refine G.dec (t := 10) rfl (fun h10 => ?_) (fun h10 => ?_)
       ·exfalso; omega
       ·refine G.condF rfl (G.seq (G.region (G.q (Quiet.move rfl) rfl (G.q (Quiet.int rfl rfl rfl) rfl (G.q (Quiet.assign rfl) rfl (G.nil (G.then_n ?_)))))))
        refine G.dec (t := 10) rfl (fun h10 => ?_) (fun h10 => ?_)
        ·exfalso; omega
        ·refine G.condF rfl (G.region (G.q (Quiet.move rfl) rfl (G.q (Quiet.int rfl rfl rfl) rfl (G.q (Quiet.assign rfl) rfl (G.nil (G.then_n ?_))))))
         refine G.dec (t := 10) rfl (fun h10 => ?_) (fun h10 => ?_)
         ·exfalso; omega
         ·refine G.condF rfl (G.seq (G.region (G.q (Quiet.assign rfl) rfl (G.nil (G.then_n (G.ret (G.blk_r (G.blk_r (G.then_r (G.blk_r (G.then_r ?_)))))))))))
          have hz : isNameZ s = false := name_bad hpos (letter_not (by omega))
          rw [hz]
          exact G.done (l := [.tmp 2]) rfl rfl ⟨rfl, rfl⟩ (by (repeat' constructor)) (by (repeat' constructor))
     ·refine G.kDF (t := 24) rfl h7_25 (G.gskip (t := 25) rfl rfl rfl rfl (G.gskip (t := 25) rfl rfl rfl rfl (G.q (Quiet.pickF rfl rfl) rfl (G.q (Quiet.assign rfl) rfl (G.nil (G.then_n (G.condF rfl (G.seq (G.region (G.q (Quiet.move rfl) rfl (G.q (Quiet.int rfl rfl rfl) rfl (G.q (Quiet.assign rfl) rfl (G.nil (G.then_n ?_))))))))))))))
      refine G.dec (t := 10) rfl (fun h10 => ?_) (fun h10 => ?_)
      ·exfalso; omega
      ·refine G.condF rfl (G.seq (G.region (G.q (Quiet.move rfl) rfl (G.q (Quiet.int rfl rfl rfl) rfl (G.q (Quiet.assign rfl) rfl (G.nil (G.then_n ?_)))))))
       refine G.dec (t := 10) rfl (fun h10 => ?_) (fun h10 => ?_)
       ·exfalso; omega
       ·refine G.condF rfl (G.region (G.q (Quiet.move rfl) rfl (G.q (Quiet.int rfl rfl rfl) rfl (G.q (Quiet.assign rfl) rfl (G.nil (G.then_n ?_))))))
        refine G.dec (t := 10) rfl (fun h10 => ?_) (fun h10 => ?_)
        ·exfalso; omega
        ·refine G.condF rfl (G.seq (G.region (G.q (Quiet.assign rfl) rfl (G.nil (G.then_n (G.ret (G.blk_r (G.blk_r (G.then_r (G.blk_r (G.then_r ?_)))))))))))
         have hz : isNameZ s = false := name_bad hpos (letter_not (by omega))
         rw [hz]
         exact G.done (l := [.tmp 2]) rfl rfl ⟨rfl, rfl⟩ (by (repeat' constructor)) (by (repeat' constructor))

theorem split_head {s : Bs} : ∃ h t, splitZ s = h :: t := by
  rcases h : splitZ s with _ | ⟨a, t⟩
  · exact absurd h (splitZ_ne s)
  · exact ⟨a, t, rfl⟩
set_option maxRecDepth 100000 in
theorem check_spec (s : Bs) (hs : s.length ≤ 1048576) : Fn Tryz.prog 110 #[vstr s] [] fun v L => v = vint (checkZ s) ∧ L = [] := by
 refine Fn.intro (vs := [vstr s]) Tryz.func110 rfl rfl ?_
 intro F W
 obtain ⟨hd, tl, hspl⟩ := split_head (s := s)
 have hspn := split_len s
 have hcl : s.count 47 ≤ s.length := List.count_le_length
 have hln : (splitZ s).length = tl.length + 1 := by rw [hspl]; rfl
 refine G.seq (G.region (G.q (Quiet.assign rfl) rfl (G.nil (G.then_n (G.seq (G.seq (G.region (G.q (Quiet.move rfl) rfl (G.q (Quiet.streq rfl rfl) rfl (G.nil (G.then_n ?_)))))))))))
 refine G.condD rfl (fun h7 => ?_) (fun h7 => ?_)
 ·refine G.seq (G.region (G.q (Quiet.assign rfl) rfl (G.nil (G.then_n (G.ret (G.then_r ?_))))))
  have e : checkZ s = 0 := by unfold checkZ; rw [if_pos h7]
  rw [e]
  exact G.done (l := [.tmp 2]) rfl rfl ⟨rfl, rfl⟩ (by (repeat' constructor)) (by (repeat' constructor))
 ·refine G.skip (G.then_n (G.seq (G.region (G.q (Quiet.move rfl) rfl ?_))))
  refine G.op (OpSpec.call Tryz.func129 rfl rfl (vs := [_, _]) rfl (split_spec _ ?hs6)) (by (repeat' constructor)) rfl ?nx7
  case hs6 => assumption
  rintro v L' ⟨bb, rfl, rfl⟩
  refine G.q (Quiet.assign rfl) rfl (G.nil (G.then_n (G.seq (G.seq (G.region (G.q (Quiet.move rfl) rfl ?_))))))
  refine G.q (Quiet.indexAddr rfl rfl el_40 (by omega)) rfl ?_
  refine G.q (Quiet.loadSl (v := vstr hd) (i := 0) rfl ag_9 (by (repeat' constructor)) (by rw [hspl]; rfl)) rfl ?_
  refine G.q (Quiet.strne rfl rfl) rfl (G.q (Quiet.move rfl) rfl ?_)
  refine G.ndec (t := 14) rfl (fun h4_14 => ?_) (fun h4_14 => ?_)
  ·refine G.kNT (t := 13) rfl h4_14 (G.gskip (t := 14) rfl rfl rfl rfl (G.gskip (t := 14) rfl rfl rfl rfl (G.gskip (t := 14) rfl rfl rfl rfl (G.q (Quiet.pickT rfl rfl) rfl (G.nil (G.then_n (G.condT rfl (G.seq (G.region (G.q (Quiet.assign rfl) rfl (G.nil (G.then_n (G.ret (G.then_r ?_))))))))))))))
   have e : checkZ s = 40 := by unfold checkZ; rw [if_neg h7, if_pos (by rw [hspl]; first | exact .inl (by simpa using h4_14) | exact .inr (.inl (by rw [← hspl]; omega)))]
   rw [e]
   exact G.done (l := [.tmp 2]) rfl rfl ⟨rfl, rfl⟩ (by (repeat' constructor)) (by (repeat' constructor))
  ·refine G.kNF (t := 13) rfl h4_14 (G.grun (t := 14) rfl rfl rfl (G.q (Quiet.move rfl) rfl (G.grun (t := 14) rfl rfl rfl (G.q (Quiet.slen rfl Tryz.underlying40 rfl) rfl (G.grun (t := 14) rfl rfl rfl (G.q (Quiet.int rfl rfl rfl) rfl (G.q (Quiet.pickF rfl rfl) rfl (G.nil (G.then_n ?_)))))))))
   refine G.condD rfl (fun h18 => ?_) (fun h18 => ?_)
   ·refine G.seq (G.region (G.q (Quiet.assign rfl) rfl (G.nil (G.then_n (G.ret (G.then_r ?_))))))
    have e : checkZ s = 40 := by unfold checkZ; rw [if_neg h7, if_pos (by rw [hspl]; first | exact .inl (by simpa using h4_14) | exact .inr (.inl (by rw [← hspl]; omega)))]
    rw [e]
    exact G.done (l := [.tmp 2]) rfl rfl ⟨rfl, rfl⟩ (by (repeat' constructor)) (by (repeat' constructor))
   ·refine G.skip (G.then_n (G.seq (G.seq ?_)))
    have hh0 : hd = [] := by simpa using h4_14
    have hn1 : (splitZ s).length ≠ 1 := by omega
    refine G.region (G.q (Quiet.move rfl) rfl ?_)
    refine G.q (Quiet.to (v' := .slice (some ⟨bb, 1, none⟩) tl.length tl.length) (Quiet.slSlice (i := 1) (j := ((splitZ s).length : Int)) rfl el_40 rfl rfl (by omega)) (by rw [hln, if_neg (show ¬ tl.length + 1 = (1 : Int).toNat by rw [show (1 : Int).toNat = 1 from rfl]; omega)]; simp)) rfl ?_
    refine G.q (Quiet.slen rfl Tryz.underlying40 rfl) rfl (G.q (Quiet.move rfl) rfl (G.nil (G.then_n (G.block ?_))))
    refine G.loopK (ι := Nat) (fun q E => (22, vint q) :: E) (fun q => []) (fun q => q ≤ tl.length ∧ (tl.take q).all isNameZ = true) (fun q => tl.length - q) (0) (ts := [0, 3, 20, 21]) (.cons rfl (.cons rfl (.cons rfl (.cons rfl (.nil))))) (⟨Nat.zero_le _, rfl⟩) ⟨rfl, rfl, rfl, rfl, rfl, trivial⟩ (by (repeat' constructor)) ?_
    rintro i ⟨hi, hall⟩
    refine G.seq (G.region (G.q (Quiet.int rfl rfl rfl) rfl (G.nil (G.then_n (G.seq ?_)))))
    refine G.condD rfl (fun h23 => ?_) (fun h23 => ?_)
    ·have hi2 : i < tl.length := by omega
     have hname0 := rfl (a := isNameZ tl[i])
     refine G.skip (G.then_n (G.seq (G.block (G.seq (G.region ?_)))))
     refine G.q (Quiet.indexAddr rfl rfl el_40 (by omega)) rfl ?_
     refine G.q (Quiet.loadRd (sz := 1) (j := i + 1) (p := slR 9 1 (.slice (some ⟨bb, 0, none⟩) (splitZ s).length (splitZ s).length) (splitZ s).length (strs (splitZ s))) (v := vstr tl[i]) rfl ag_9 (by (repeat' constructor)) (fun h hp => slR_rd hp) (by simp; omega) (by rw [hspl]; simp [hi2])) rfl ?_
     refine G.q (Quiet.assign rfl) rfl (G.nil (G.then_n (G.seq (G.region (G.q (Quiet.move rfl) rfl ?_)))))
     refine G.op (OpSpec.call Tryz.func130 rfl rfl (vs := [_]) rfl (isname_spec _)) (by (repeat' constructor)) rfl ?nx23
     rintro v L' ⟨rfl, rfl⟩
     refine G.q (Quiet.not rfl) rfl (G.nil (G.then_n ?_))
     refine G.condB rfl (fun h28 => ?_) (fun h28 => ?_)
     ·have hname : isNameZ tl[i] = false := by simpa using h28
      refine G.seq (G.region (G.q (Quiet.assign rfl) rfl (G.nil (G.then_n (G.ret (G.blk_r (G.then_r (G.then_r (G.blk_r (G.then_r ?_))))))))))
      have e : checkZ s = 40 := by unfold checkZ; rw [if_neg h7, if_pos (.inr (.inr (by rw [hspl, List.tail_cons, ← Bool.not_eq_true]; intro g; have := List.all_eq_true.1 g _ (List.getElem_mem hi2); rw [hname] at this; cases this)))]
      rw [e]
      exact G.done (l := [.tmp 2]) rfl rfl ⟨rfl, rfl⟩ (by (repeat' constructor)) (by (repeat' constructor))
     ·have hname : isNameZ tl[i] = true := by simpa using h28
      refine G.skip (G.blk_n (G.then_n (G.region ?_)))
      refine G.q (Quiet.add rfl rfl (by omega)) rfl ?_
      refine G.q (Quiet.move rfl) rfl (G.nil (G.then_n ?_))
      exact G.roundK (i + 1) (⟨by omega, by rw [List.take_succ_eq_append_getElem hi2, List.all_append, hall]; simp [hname]⟩) (by omega) ⟨rfl, rfl, rfl, rfl, rfl, trivial⟩ (by (repeat' constructor)) (by ((repeat (apply Have.cons; (repeat (first | exact Pick.here | apply Pick.there)))); apply Have.base; repeat' constructor))
    ·have hii : i = tl.length := by omega
     rw [hii, List.take_length] at hall
     refine G.exit (G.then_e (G.then_e (G.blk_e (G.then_n (G.seq (G.seq (G.region (G.q (Quiet.move rfl) rfl (G.q (Quiet.strlen rfl Tryz.underlying9 rfl) rfl (G.q (Quiet.int rfl rfl rfl) rfl (G.q (Quiet.move rfl) rfl ?_)))))))))))
     refine G.dec (t := 33) rfl (fun h12_33 => ?_) (fun h12_33 => ?_)
     ·refine G.kDT (t := 32) rfl h12_33 (G.gskip (t := 33) rfl rfl rfl rfl (G.gskip (t := 33) rfl rfl rfl rfl (G.gskip (t := 33) rfl rfl rfl rfl (G.gskip (t := 33) rfl rfl rfl rfl (G.q (Quiet.pickT rfl rfl) rfl (G.nil (G.then_n (G.condT rfl (G.seq (G.region (G.q (Quiet.assign rfl) rfl (G.nil (G.then_n (G.ret (G.then_r ?_)))))))))))))))
      have e : checkZ s = 41 := by unfold checkZ; rw [if_neg h7, if_neg (by rw [hspl, List.head?_cons, List.tail_cons, hall, hh0]; rintro (h | h | h); exact h rfl; rw [← hh0, ← hspl] at h; exact hn1 h; cases h), if_pos (by first | exact .inl (by omega) | exact .inr (by omega))]
      rw [e]
      exact G.done (l := [.tmp 2]) rfl rfl ⟨rfl, rfl⟩ (by (repeat' constructor)) (by (repeat' constructor))
     ·refine G.kDF (t := 32) rfl h12_33 (G.grun (t := 33) rfl rfl rfl (G.q (Quiet.move rfl) rfl (G.grun (t := 33) rfl rfl rfl (G.q (Quiet.slen rfl Tryz.underlying40 rfl) rfl (G.grun (t := 33) rfl rfl rfl ?_)))))
      refine G.q (Quiet.sub rfl rfl (by omega)) rfl ?_
      refine G.grun (t := 33) rfl rfl rfl (G.q (Quiet.int rfl rfl rfl) rfl (G.q (Quiet.pickF rfl rfl) rfl (G.nil (G.then_n ?_))))
      refine G.condD rfl (fun h38 => ?_) (fun h38 => ?_)
      ·refine G.seq (G.region (G.q (Quiet.assign rfl) rfl (G.nil (G.then_n (G.ret (G.then_r ?_))))))
       have e : checkZ s = 41 := by unfold checkZ; rw [if_neg h7, if_neg (by rw [hspl, List.head?_cons, List.tail_cons, hall, hh0]; rintro (h | h | h); exact h rfl; rw [← hh0, ← hspl] at h; exact hn1 h; cases h), if_pos (by first | exact .inl (by omega) | exact .inr (by omega))]
       rw [e]
       exact G.done (l := [.tmp 2]) rfl rfl ⟨rfl, rfl⟩ (by (repeat' constructor)) (by (repeat' constructor))
      ·refine G.skip (G.then_n (G.seq (G.region (G.q (Quiet.assign rfl) rfl (G.nil (G.then_n (G.ret ?_)))))))
       have e : checkZ s = 0 := by unfold checkZ; rw [if_neg h7, if_neg (by rw [hspl, List.head?_cons, List.tail_cons, hall, hh0]; rintro (h | h | h); exact h rfl; rw [← hh0, ← hspl] at h; exact hn1 h; cases h), if_neg (by rintro (h | h) <;> omega)]
       rw [e]
       exact G.done (l := [.tmp 2]) rfl rfl ⟨rfl, rfl⟩ (by (repeat' constructor)) (by (repeat' constructor))

end Go.Proofs.YtnnbelmpbmfdnaaGreatDoor

/- Own work, by program: package path: Parent, Base, Kid, Under: walked. -/
namespace Go.Proofs.YtnnbelmpbmfdnaaGreatDoor
open Go
set_option maxRecDepth 100000 in
theorem lastidx0_spec (s : Bs) (hs : s.length ≤ 1099511627776) : Fn Tryz.prog 156 #[vstr s, .int .u8 47] [] fun v L => v = vint (lidxZ s) ∧ L = [] := by
 refine Fn.intro (vs := [vstr s, .int .u8 47]) Tryz.func156 rfl rfl ?_
 intro F W
 have hbs := bs_size s
 refine G.seq (G.region (G.q (Quiet.assign rfl) rfl (G.nil (G.then_n (G.seq (G.seq (G.region (G.q (Quiet.move rfl) rfl (G.q (Quiet.strlen rfl Tryz.underlying9 rfl) rfl ?_)))))))))
 refine G.q (Quiet.sub rfl rfl (by omega)) rfl ?_
 refine G.q (Quiet.assign rfl) rfl (G.nil (G.then_n (G.block ?_)))
 refine G.loopK (ι := Nat) (fun q E => (5, vint (dnL s.length q)) :: E) (fun q => []) (fun q => q ≤ s.length ∧ lidxTo s (s.length - q) = lidxZ s) (fun q => s.length - q) (0) (ts := [0, 1]) (.cons rfl (.cons rfl (.nil))) (⟨Nat.zero_le _, rfl⟩) ⟨rfl, rfl, rfl, trivial⟩ (by (repeat' constructor)) ?_
 rintro k ⟨hk, hl⟩
 have hdn := dnL_eq s.length k
 refine G.seq (G.seq (G.region (G.q (Quiet.move rfl) rfl (G.q (Quiet.int rfl rfl rfl) rfl (G.nil (G.then_n ?_))))))
 refine G.condD rfl (fun h10 => ?_) (fun h10 => ?_)
 ·have hk2 : k < s.length := by omega
  have hat : s[s.length - (k + 1)] = s.getD (s.length - (k + 1)) 0 := by rw [List.getD_eq_getElem?_getD, List.getElem?_eq_getElem (by omega), Option.getD_some]
  refine G.skip (G.then_n (G.seq (G.block (G.seq (G.region (G.q (Quiet.move rfl) rfl (G.q (Quiet.move rfl) rfl ?_)))))))
  refine G.q (Quiet.strIndex (c := s[s.length - (k + 1)]) rfl rfl Tryz.underlying9 (by omega) (by rw [show (dnL s.length k).toNat = s.length - (k + 1) by omega]; simp [show s.length - (k + 1) < s.length by omega])) rfl ?_
  refine G.q (Quiet.move rfl) rfl (G.q (Quiet.int rfl rfl rfl) rfl (G.nil (G.then_n ?_)))
  refine G.condD rfl (fun h17 => ?_) (fun h17 => ?_)
  ·have he : s.getD (s.length - (k + 1)) 0 = 47 := by rw [← hat]; exact byte_eq h17
   refine G.seq (G.region (G.q (Quiet.move rfl) rfl (G.q (Quiet.assign rfl) rfl (G.nil (G.then_n (G.ret (G.blk_r (G.then_r (G.then_r (G.blk_r (G.then_r ?_)))))))))))
   exact G.done (l := [.tmp 4]) rfl rfl ⟨by rw [← hl, show s.length - k = (s.length - (k + 1)) + 1 by omega, lidxTo, if_pos he, hdn]; congr 1; omega, rfl⟩ (by (repeat' constructor)) (by (repeat' constructor))
  ·have hne : ¬ s.getD (s.length - (k + 1)) 0 = 47 := by rw [← hat]; exact fun e => h17 (by rw [e]; rfl)
   refine G.skip (G.blk_n (G.then_n (G.region (G.q (Quiet.move rfl) rfl ?_))))
   refine G.q (Quiet.sub rfl rfl (by omega)) rfl ?_
   refine G.q (Quiet.assign rfl) rfl (G.nil (G.then_n ?_))
   exact G.roundK (k + 1) (⟨by omega, by rw [← hl, show s.length - k = (s.length - (k + 1)) + 1 by omega, lidxTo, if_neg hne]⟩) (by omega) ⟨rfl, rfl, rfl, trivial⟩ (by (repeat' constructor)) (by ((repeat (apply Have.cons; (repeat (first | exact Pick.here | apply Pick.there)))); apply Have.base; repeat' constructor))
 ·refine G.exit (G.then_e (G.then_e (G.blk_e (G.then_n (G.seq (G.region (G.q (Quiet.assign rfl) rfl (G.nil (G.then_n (G.ret ?_))))))))))
  exact G.done (l := [.tmp 4]) rfl rfl ⟨by rw [← hl, show s.length - k = 0 by omega]; rfl, rfl⟩ (by (repeat' constructor)) (by (repeat' constructor))

set_option maxRecDepth 100000 in
theorem lastidx_spec (s : Bs) (hs : s.length ≤ 1099511627776) : Fn Tryz.prog 124 #[vstr s, .int .u8 47] [] fun v L => v = vint (lidxZ s) ∧ L = [] := by
 refine Fn.intro (vs := [vstr s, .int .u8 47]) Tryz.func124 rfl rfl ?_
 intro F W
 refine G.seq (G.region (G.q (Quiet.assign rfl) rfl (G.nil (G.then_n (G.seq (G.region (G.q (Quiet.move rfl) rfl (G.q (Quiet.move rfl) rfl ?_))))))))
 refine G.op (OpSpec.call Tryz.func156 rfl rfl (vs := [_, _]) rfl (lastidx0_spec _ ?hs4)) (by (repeat' constructor)) rfl ?nx5
 case hs4 => assumption
 rintro v L' ⟨rfl, rfl⟩
 refine G.q (Quiet.assign rfl) rfl (G.nil (G.then_n (G.ret ?_)))
 exact G.done (l := [.tmp 4]) rfl rfl ⟨rfl, rfl⟩ (by (repeat' constructor)) (by (repeat' constructor))

set_option maxRecDepth 100000 in
theorem parent_spec (s : Bs) (hs : s.length ≤ 1099511627776) : Fn Tryz.prog 99 #[vstr s] [] fun v L => v = vstr (parentZ s) ∧ L = [] := by
 refine Fn.intro (vs := [vstr s]) Tryz.func99 rfl rfl ?_
 intro F W
 have hr := lidx_range s
 refine G.seq (G.region (G.q (Quiet.assign rfl) rfl (G.nil (G.then_n (G.seq (G.region (G.q (Quiet.move rfl) rfl ?_)))))))
 refine G.op (OpSpec.call Tryz.func124 rfl rfl (vs := [_, _]) rfl (lastidx_spec _ ?hs3)) (by (repeat' constructor)) rfl ?nx4
 case hs3 => assumption
 rintro v L' ⟨rfl, rfl⟩
 refine G.q (Quiet.assign rfl) rfl (G.nil (G.then_n (G.block (G.seq (G.region (G.q (Quiet.move rfl) rfl (G.q (Quiet.int rfl rfl rfl) rfl (G.q (Quiet.move rfl) rfl ?_))))))))
 refine G.dec (t := 12) rfl (fun h3_12 => ?_) (fun h3_12 => ?_)
 ·refine G.kDT (t := 11) rfl h3_12 (G.gskip (t := 12) rfl rfl rfl rfl (G.gskip (t := 12) rfl rfl rfl rfl (G.q (Quiet.pickT rfl rfl) rfl (G.q (Quiet.assign rfl) rfl (G.nil (G.then_n (G.condT rfl (G.seq (G.region (G.q (Quiet.assign rfl) rfl (G.nil (G.then_n (G.ret (G.blk_r ?_))))))))))))))
  exact G.done (l := [.tmp 2]) rfl rfl ⟨by unfold parentZ; rw [if_pos (by first | exact .inl (by omega) | exact .inr (by assumption))], rfl⟩ (by (repeat' constructor)) (by (repeat' constructor))
 ·refine G.kDF (t := 11) rfl h3_12 (G.grun (t := 12) rfl rfl rfl (G.q (Quiet.move rfl) rfl (G.grun (t := 12) rfl rfl rfl (G.q (Quiet.streq rfl rfl) rfl (G.q (Quiet.pickF rfl rfl) rfl (G.q (Quiet.assign rfl) rfl (G.nil (G.then_n ?_))))))))
  refine G.dec (t := 9) rfl (fun h9 => ?_) (fun h9 => ?_)
  ·refine G.condT rfl (G.seq (G.region (G.q (Quiet.assign rfl) rfl (G.nil (G.then_n (G.ret (G.blk_r ?_)))))))
   exact G.done (l := [.tmp 2]) rfl rfl ⟨by unfold parentZ; rw [if_pos (by first | exact .inl (by omega) | exact .inr (by assumption))], rfl⟩ (by (repeat' constructor)) (by (repeat' constructor))
  ·refine G.condF rfl (G.seq (G.region (G.q (Quiet.move rfl) rfl (G.q (Quiet.int rfl rfl rfl) rfl (G.q (Quiet.assign rfl) rfl (G.nil (G.then_n ?_)))))))
   refine G.condD rfl (fun h16 => ?_) (fun h16 => ?_)
   ·refine G.seq (G.region (G.q (Quiet.assign rfl) rfl (G.nil (G.then_n (G.ret (G.blk_r ?_))))))
    exact G.done (l := [.tmp 2]) rfl rfl ⟨by unfold parentZ; rw [if_neg (by rintro (g | g); omega; exact absurd g h9), if_pos h16], rfl⟩ (by (repeat' constructor)) (by (repeat' constructor))
   ·refine G.seq (G.region (G.q (Quiet.move rfl) rfl (G.q (Quiet.move rfl) rfl ?_)))
    refine G.q (Quiet.strTo rfl rfl Tryz.underlying9 (by omega)) rfl ?_
    refine G.q (Quiet.assign rfl) rfl (G.nil (G.then_n (G.ret (G.blk_r ?_))))
    exact G.done (l := [.tmp 2]) rfl rfl ⟨by unfold parentZ; rw [if_neg (by rintro (g | g); omega; exact absurd g h9), if_neg h16], rfl⟩ (by (repeat' constructor)) (by (repeat' constructor))

set_option maxRecDepth 100000 in
theorem base_spec (s : Bs) (hs : s.length ≤ 1099511627776) : Fn Tryz.prog 100 #[vstr s] [] fun v L => v = vstr (baseZ s) ∧ L = [] := by
 refine Fn.intro (vs := [vstr s]) Tryz.func100 rfl rfl ?_
 intro F W
 have hr := lidx_range s
 refine G.seq (G.region (G.q (Quiet.assign rfl) rfl (G.nil (G.then_n (G.seq (G.region (G.q (Quiet.move rfl) rfl (G.q (Quiet.move rfl) rfl ?_))))))))
 refine G.op (OpSpec.call Tryz.func124 rfl rfl (vs := [_, _]) rfl (lastidx_spec _ ?hs4)) (by (repeat' constructor)) rfl ?nx5
 case hs4 => assumption
 rintro v L' ⟨rfl, rfl⟩
 refine G.q (Quiet.add rfl rfl (by omega)) rfl ?_
 refine G.q (Quiet.strFrom rfl rfl Tryz.underlying9 (by omega)) rfl ?_
 refine G.q (Quiet.assign rfl) rfl (G.nil (G.then_n (G.ret ?_)))
 exact G.done (l := [.tmp 2]) rfl rfl ⟨rfl, rfl⟩ (by (repeat' constructor)) (by (repeat' constructor))

set_option maxRecDepth 100000 in
theorem hasprefix0_spec (s q : Bs) : Fn Tryz.prog 169 #[vstr s, vstr q] [] fun v L => v = .bool (decide (pfx q s)) ∧ L = [] := by
 refine Fn.intro (vs := [vstr s, vstr q]) Tryz.func169 rfl rfl ?_
 intro F W
 have h1 := bs_size s
 have h2 := bs_size q
 refine G.seq (G.region (G.q (Quiet.assign rfl) rfl (G.nil (G.then_n (G.seq (G.region (G.q (Quiet.move rfl) rfl (G.q (Quiet.strlen rfl Tryz.underlying9 rfl) rfl (G.q (Quiet.move rfl) rfl (G.q (Quiet.strlen rfl Tryz.underlying9 rfl) rfl (G.q (Quiet.int rfl rfl rfl) rfl (G.q (Quiet.move rfl) rfl ?_))))))))))))
 refine G.dec (t := 10) rfl (fun h1_10 => ?_) (fun h1_10 => ?_)
 ·refine G.kDT (t := 9) rfl h1_10 (G.grun (t := 10) rfl rfl rfl (G.q (Quiet.move rfl) rfl (G.grun (t := 10) rfl rfl rfl (G.q (Quiet.move rfl) rfl (G.grun (t := 10) rfl rfl rfl (G.q (Quiet.strlen rfl Tryz.underlying9 rfl) rfl (G.grun (t := 10) rfl rfl rfl ?_)))))))
  refine G.q (Quiet.to (v' := vstr (s.take q.length)) (Quiet.strTo rfl rfl Tryz.underlying9 (by omega)) (by rw [Int.toNat_natCast])) rfl ?_
  refine G.grun (t := 10) rfl rfl rfl (G.q (Quiet.move rfl) rfl (G.grun (t := 10) rfl rfl rfl (G.q (Quiet.streq rfl rfl) rfl (G.q (Quiet.pickT rfl rfl) rfl (G.q (Quiet.assign rfl) rfl (G.nil (G.then_n (G.ret ?_))))))))
  exact G.done (l := [.tmp 4]) rfl rfl ⟨rfl, rfl⟩ (by (repeat' constructor)) (by (repeat' constructor))
 ·refine G.kDF (t := 9) rfl h1_10 (G.gskip (t := 10) rfl rfl rfl rfl (G.gskip (t := 10) rfl rfl rfl rfl (G.gskip (t := 10) rfl rfl rfl rfl (G.gskip (t := 10) rfl rfl rfl rfl (G.gskip (t := 10) rfl rfl rfl rfl (G.gskip (t := 10) rfl rfl rfl rfl (G.q (Quiet.pickF rfl rfl) rfl (G.q (Quiet.assign rfl) rfl (G.nil (G.then_n (G.ret ?_)))))))))))
  exact G.done (l := [.tmp 4]) rfl rfl ⟨by rw [decide_eq_false (fun e => by unfold pfx at e; have := congrArg List.length e; rw [List.length_take] at this; omega)], rfl⟩ (by (repeat' constructor)) (by (repeat' constructor))

set_option maxRecDepth 100000 in
theorem hasprefix_spec (s q : Bs) : Fn Tryz.prog 146 #[vstr s, vstr q] [] fun v L => v = .bool (decide (pfx q s)) ∧ L = [] := by
 refine Fn.intro (vs := [vstr s, vstr q]) Tryz.func146 rfl rfl ?_
 intro F W
 refine G.seq (G.region (G.q (Quiet.assign rfl) rfl (G.nil (G.then_n (G.seq (G.region (G.q (Quiet.move rfl) rfl (G.q (Quiet.move rfl) rfl ?_))))))))
 refine G.op (OpSpec.call Tryz.func169 rfl rfl (vs := [_, _]) rfl (hasprefix0_spec _ _)) (by (repeat' constructor)) rfl ?nx4
 rintro v L' ⟨rfl, rfl⟩
 refine G.q (Quiet.assign rfl) rfl (G.nil (G.then_n (G.ret ?_)))
 exact G.done (l := [.tmp 4]) rfl rfl ⟨rfl, rfl⟩ (by (repeat' constructor)) (by (repeat' constructor))

set_option maxRecDepth 100000 in
theorem hassuffix0_spec (s q : Bs) (hs : s.length ≤ 1099511627776) (hq : q.length ≤ 1099511627776) : Fn Tryz.prog 185 #[vstr s, vstr q] [] fun v L => v = .bool (decide (sfx q s)) ∧ L = [] := by
 refine Fn.intro (vs := [vstr s, vstr q]) Tryz.func185 rfl rfl ?_
 intro F W
 have h1 := bs_size s
 have h2 := bs_size q
 refine G.seq (G.region (G.q (Quiet.assign rfl) rfl (G.nil (G.then_n (G.seq (G.region (G.q (Quiet.move rfl) rfl (G.q (Quiet.strlen rfl Tryz.underlying9 rfl) rfl (G.q (Quiet.move rfl) rfl (G.q (Quiet.strlen rfl Tryz.underlying9 rfl) rfl (G.q (Quiet.int rfl rfl rfl) rfl (G.q (Quiet.move rfl) rfl ?_))))))))))))
 refine G.dec (t := 10) rfl (fun h1_10 => ?_) (fun h1_10 => ?_)
 ·refine G.kDT (t := 9) rfl h1_10 (G.grun (t := 10) rfl rfl rfl (G.q (Quiet.move rfl) rfl (G.grun (t := 10) rfl rfl rfl (G.q (Quiet.move rfl) rfl (G.grun (t := 10) rfl rfl rfl (G.q (Quiet.strlen rfl Tryz.underlying9 rfl) rfl (G.grun (t := 10) rfl rfl rfl (G.q (Quiet.move rfl) rfl (G.grun (t := 10) rfl rfl rfl (G.q (Quiet.strlen rfl Tryz.underlying9 rfl) rfl (G.grun (t := 10) rfl rfl rfl ?_)))))))))))
  refine G.q (Quiet.sub rfl rfl (by omega)) rfl ?_
  refine G.grun (t := 10) rfl rfl rfl ?_
  refine G.q (Quiet.to (v' := vstr (s.drop (s.length - q.length))) (Quiet.strFrom rfl rfl Tryz.underlying9 (by omega)) (by rw [show ((s.length : Int) - (q.length : Int)).toNat = s.length - q.length by omega])) rfl ?_
  refine G.grun (t := 10) rfl rfl rfl (G.q (Quiet.move rfl) rfl (G.grun (t := 10) rfl rfl rfl (G.q (Quiet.streq rfl rfl) rfl (G.q (Quiet.pickT rfl rfl) rfl (G.q (Quiet.assign rfl) rfl (G.nil (G.then_n (G.ret ?_))))))))
  exact G.done (l := [.tmp 4]) rfl rfl ⟨by congr 1; exact decide_eq_decide.2 ⟨fun e => ⟨by omega, e⟩, fun e => e.2⟩, rfl⟩ (by (repeat' constructor)) (by (repeat' constructor))
 ·refine G.kDF (t := 9) rfl h1_10 (G.gskip (t := 10) rfl rfl rfl rfl (G.gskip (t := 10) rfl rfl rfl rfl (G.gskip (t := 10) rfl rfl rfl rfl (G.gskip (t := 10) rfl rfl rfl rfl (G.gskip (t := 10) rfl rfl rfl rfl (G.gskip (t := 10) rfl rfl rfl rfl (G.gskip (t := 10) rfl rfl rfl rfl (G.gskip (t := 10) rfl rfl rfl rfl (G.gskip (t := 10) rfl rfl rfl rfl (G.q (Quiet.pickF rfl rfl) rfl (G.q (Quiet.assign rfl) rfl (G.nil (G.then_n (G.ret ?_))))))))))))))
  exact G.done (l := [.tmp 4]) rfl rfl ⟨by rw [decide_eq_false (fun e => by have := e.1; omega)], rfl⟩ (by (repeat' constructor)) (by (repeat' constructor))

set_option maxRecDepth 100000 in
theorem trimsuffix0_spec (s q : Bs) (hs : s.length ≤ 1099511627776) (hq : q.length ≤ 1099511627776) : Fn Tryz.prog 179 #[vstr s, vstr q] [] fun v L => v = vstr (trimZ s q) ∧ L = [] := by
 refine Fn.intro (vs := [vstr s, vstr q]) Tryz.func179 rfl rfl ?_
 intro F W
 have h1 := bs_size s
 have h2 := bs_size q
 refine G.seq (G.region (G.q (Quiet.assign rfl) rfl (G.nil (G.then_n (G.seq (G.seq (G.region (G.q (Quiet.move rfl) rfl (G.q (Quiet.move rfl) rfl ?_)))))))))
 refine G.op (OpSpec.call Tryz.func185 rfl rfl (vs := [_, _]) rfl (hassuffix0_spec _ _ ?hs4 ?hq5)) (by (repeat' constructor)) rfl ?nx6
 case hs4 => assumption
 case hq5 => assumption
 rintro v L' ⟨rfl, rfl⟩
 refine G.nil (G.then_n ?_)
 refine G.condD rfl (fun h7 => ?_) (fun h7 => ?_)
 ·have hsf := h7.1
  refine G.seq (G.region (G.q (Quiet.move rfl) rfl (G.q (Quiet.move rfl) rfl (G.q (Quiet.strlen rfl Tryz.underlying9 rfl) rfl (G.q (Quiet.move rfl) rfl (G.q (Quiet.strlen rfl Tryz.underlying9 rfl) rfl ?_))))))
  refine G.q (Quiet.sub rfl rfl (by omega)) rfl ?_
  refine G.q (Quiet.to (v' := vstr (trimZ s q)) (Quiet.strTo rfl rfl Tryz.underlying9 (by omega)) (by unfold trimZ; rw [if_pos h7, show ((s.length : Int) - (q.length : Int)).toNat = s.length - q.length by omega])) rfl ?_
  refine G.q (Quiet.assign rfl) rfl (G.nil (G.then_n (G.ret (G.then_r ?_))))
  exact G.done (l := [.tmp 4]) rfl rfl ⟨rfl, rfl⟩ (by (repeat' constructor)) (by (repeat' constructor))
 ·refine G.skip (G.then_n (G.seq (G.region (G.q (Quiet.move rfl) rfl (G.q (Quiet.assign rfl) rfl (G.nil (G.then_n (G.ret ?_))))))))
  exact G.done (l := [.tmp 4]) rfl rfl ⟨by unfold trimZ; rw [if_neg h7], rfl⟩ (by (repeat' constructor)) (by (repeat' constructor))

set_option maxRecDepth 100000 in
theorem trimsuffix_spec (s q : Bs) (hs : s.length ≤ 1099511627776) (hq : q.length ≤ 1099511627776) : Fn Tryz.prog 167 #[vstr s, vstr q] [] fun v L => v = vstr (trimZ s q) ∧ L = [] := by
 refine Fn.intro (vs := [vstr s, vstr q]) Tryz.func167 rfl rfl ?_
 intro F W
 refine G.seq (G.region (G.q (Quiet.assign rfl) rfl (G.nil (G.then_n (G.seq (G.region (G.q (Quiet.move rfl) rfl (G.q (Quiet.move rfl) rfl ?_))))))))
 refine G.op (OpSpec.call Tryz.func179 rfl rfl (vs := [_, _]) rfl (trimsuffix0_spec _ _ ?hs4 ?hq5)) (by (repeat' constructor)) rfl ?nx6
 case hs4 => assumption
 case hq5 => assumption
 rintro v L' ⟨rfl, rfl⟩
 refine G.q (Quiet.assign rfl) rfl (G.nil (G.then_n (G.ret ?_)))
 exact G.done (l := [.tmp 4]) rfl rfl ⟨rfl, rfl⟩ (by (repeat' constructor)) (by (repeat' constructor))

set_option maxRecDepth 100000 in
theorem slashof_spec (s : Bs) : Fn Tryz.prog 168 #[vstr s] [] fun v L => v = vstr (if s = [47] then [47] else []) ∧ L = [] := by
 refine Fn.intro (vs := [vstr s]) Tryz.func168 rfl rfl ?_
 intro F W
 refine G.seq (G.region (G.q (Quiet.assign rfl) rfl (G.nil (G.then_n (G.seq (G.seq (G.region (G.q (Quiet.move rfl) rfl (G.q (Quiet.streq rfl rfl) rfl (G.nil (G.then_n ?_)))))))))))
 refine G.condD rfl (fun h4 => ?_) (fun h4 => ?_)
 ·refine G.seq (G.region (G.q (Quiet.assign rfl) rfl (G.nil (G.then_n (G.ret (G.then_r ?_))))))
  exact G.done (l := [.tmp 2]) rfl rfl ⟨by rw [if_pos h4], rfl⟩ (by (repeat' constructor)) (by (repeat' constructor))
 ·refine G.skip (G.then_n (G.seq (G.region (G.q (Quiet.assign rfl) rfl (G.nil (G.then_n (G.ret ?_)))))))
  exact G.done (l := [.tmp 2]) rfl rfl ⟨by rw [if_neg h4], rfl⟩ (by (repeat' constructor)) (by (repeat' constructor))

set_option maxRecDepth 100000 in
theorem kid_spec (s name : Bs) (hs : s.length ≤ 1099511627776) (hn : name.length ≤ 1099511627776) : Fn Tryz.prog 145 #[vstr s, vstr name] [] fun v L => v = vstr (kidZ s name) ∧ L = [] := by
 refine Fn.intro (vs := [vstr s, vstr name]) Tryz.func145 rfl rfl ?_
 intro F W
 have htl : (trimZ s (if s = [47] then [47] else [])).length ≤ s.length := trim_len _ _
 refine G.seq (G.region (G.q (Quiet.assign rfl) rfl (G.nil (G.then_n (G.seq (G.region (G.q (Quiet.move rfl) rfl (G.q (Quiet.move rfl) rfl ?_))))))))
 refine G.op (OpSpec.call Tryz.func168 rfl rfl (vs := [_]) rfl (slashof_spec _)) (by (repeat' constructor)) rfl ?nx4
 rintro v L' ⟨rfl, rfl⟩
 refine G.op (OpSpec.call Tryz.func167 rfl rfl (vs := [_, _]) rfl (trimsuffix_spec _ _ ?hs6 ?hq7)) (by (repeat' constructor)) rfl ?nx8
 case hs6 => assumption
 case hq7 => first | assumption | (split <;> simp) | simp
 rintro v L' ⟨rfl, rfl⟩
 refine G.q (Quiet.concat rfl rfl (by simp; omega)) rfl ?_
 refine G.q (Quiet.move rfl) rfl ?_
 refine G.q (Quiet.concat rfl rfl (by simp; omega)) rfl ?_
 refine G.q (Quiet.assign rfl) rfl (G.nil (G.then_n (G.ret ?_)))
 exact G.done (l := [.tmp 4]) rfl rfl ⟨by rw [kid_trim], rfl⟩ (by (repeat' constructor)) (by (repeat' constructor))

set_option maxRecDepth 100000 in
theorem under_spec (s q : Bs) (hq : q.length ≤ 1099511627776) : Fn Tryz.prog 121 #[vstr s, vstr q] [] fun v L => v = .bool (decide (underZ s q)) ∧ L = [] := by
 refine Fn.intro (vs := [vstr s, vstr q]) Tryz.func121 rfl rfl ?_
 intro F W
 refine G.seq (G.region (G.q (Quiet.assign rfl) rfl (G.nil (G.then_n (G.seq (G.region (G.q (Quiet.move rfl) rfl ?_)))))))
 refine G.op (OpSpec.call Tryz.func145 rfl rfl (vs := [_, _]) rfl (kid_spec _ _ ?hs3 ?hn4)) (by (repeat' constructor)) rfl ?nx5
 case hs3 => first | assumption | omega
 case hn4 => first | assumption | omega | simp
 rintro v L' ⟨rfl, rfl⟩
 refine G.q (Quiet.assign rfl) rfl (G.nil (G.then_n (G.seq (G.region (G.q (Quiet.move rfl) rfl (G.q (Quiet.move rfl) rfl ?_))))))
 refine G.op (OpSpec.call Tryz.func146 rfl rfl (vs := [_, _]) rfl (hasprefix_spec _ _)) (by (repeat' constructor)) rfl ?nx8
 rintro v L' ⟨rfl, rfl⟩
 refine G.q (Quiet.move rfl) rfl ?_
 refine G.dec (t := 11) rfl (fun h2_11 => ?_) (fun h2_11 => ?_)
 ·refine G.kDT (t := 10) rfl h2_11 (G.grun (t := 11) rfl rfl rfl (G.q (Quiet.move rfl) rfl (G.grun (t := 11) rfl rfl rfl (G.q (Quiet.move rfl) rfl (G.grun (t := 11) rfl rfl rfl (G.q (Quiet.strne rfl rfl) rfl (G.q (Quiet.pickT rfl rfl) rfl (G.q (Quiet.assign rfl) rfl (G.nil (G.then_n (G.ret ?_)))))))))))
  exact G.done (l := [.tmp 4]) rfl rfl ⟨by rw [← decide_not]; congr 1; exact decide_eq_decide.2 ⟨fun e => ⟨h2_11, e⟩, fun e => e.2⟩, rfl⟩ (by (repeat' constructor)) (by (repeat' constructor))
 ·refine G.kDF (t := 10) rfl h2_11 (G.gskip (t := 11) rfl rfl rfl rfl (G.gskip (t := 11) rfl rfl rfl rfl (G.gskip (t := 11) rfl rfl rfl rfl (G.q (Quiet.pickF rfl rfl) rfl (G.q (Quiet.assign rfl) rfl (G.nil (G.then_n (G.ret ?_))))))))
  exact G.done (l := [.tmp 4]) rfl rfl ⟨by rw [decide_eq_false (fun e => h2_11 e.1)], rfl⟩ (by (repeat' constructor)) (by (repeat' constructor))

end Go.Proofs.YtnnbelmpbmfdnaaGreatDoor

/-
  DERIVED: THE SHELF's CONTRACTS AT THIS DUMP, IN PLAIN WORDS (tools/lay-plain.mjs out of 'YtnnbelmpbmfdnaaGreatDoorLayS.lean', which tools/lay-shelf.mjs wrote): THE SAME DECLARATIONS UNDER THE SAME NAMES: 'import', 'namespace', 'open', 'def', 'theorem' AND NOTHING ELSE: no command of the shelf's: FOR A HAND-IN. Each laying: the table of numbers ('.._ren') and one theorem, a field a fact of the dump's own or the kernel's comparison; each contract: ONE APPLICATION.
-/

namespace Go.Proofs
open Go.Shelf
def Tryz.keysS_ren : Go.Shelf.Ren := ⟨fun | 7 => 48 | 10 => 98 | n => n, fun | 23 => 107 | 26 => 9 | 3 => 102 | 28 => 116 | 0 => 0 | 27 => 115 | 33 => 173 | 4 => 4 | n => n, fun | n => n⟩
theorem Tryz.keysS : Go.Proofs.SlLaysZ.n7 Tryz.prog Tryz.keysS_ren := {
  mixed := by kernel_rfl
  f7 := ⟨Tryz.f48.name, by decide, Tryz.func48.trans (congrArg some (by kernel_rfl))⟩
  f10 := ⟨Tryz.f98.name, by decide, Tryz.func98.trans (congrArg some (by kernel_rfl))⟩
  t0 := Tryz.underlying0
  a0 := Tryz.isAgg0
  z0 := Tryz.sizeOf0
  v0 := Tryz.zeroValue0
  t4 := Tryz.underlying4
  a4 := Tryz.isAgg4
  z4 := Tryz.sizeOf4
  v4 := Tryz.zeroValue4
  t23 := Tryz.underlying107
  a23 := Tryz.isAgg107
  z23 := Tryz.sizeOf107
  v23 := Tryz.zeroValue107
  t26 := Tryz.underlying9
  a26 := Tryz.isAgg9
  z26 := Tryz.sizeOf9
  v26 := Tryz.zeroValue9
  t27 := Tryz.underlying115
  a27 := Tryz.isAgg115
  z27 := Tryz.sizeOf115
  v27 := Tryz.zeroValue115
  t28 := Tryz.underlying116
  a28 := Tryz.isAgg116
  z28 := Tryz.sizeOf116
  v28 := Tryz.zeroValue116
  t33 := Tryz.underlying173
  a33 := Tryz.isAgg173
  z33 := Tryz.sizeOf173
  v33 := Tryz.zeroValue173 }
def Tryz.sortedS_ren : Go.Shelf.Ren := ⟨fun | 6 => 47 | 8 => 96 | 9 => 97 | 11 => 122 | 13 => 115 | 12 => 123 | 23 => 141 | 24 => 142 | 14 => 147 | 15 => 148 | 16 => 149 | 17 => 150 | 18 => 151 | 19 => 152 | 20 => 153 | 21 => 154 | 22 => 155 | 25 => 170 | 26 => 161 | 27 => 162 | 28 => 171 | 29 => 172 | 30 => 173 | 31 => 180 | n => n, fun | 26 => 9 | 28 => 116 | 24 => 40 | 0 => 0 | 3 => 3 | 37 => 185 | 48 => 208 | 50 => 210 | 4 => 4 | 40 => 200 | 39 => 199 | 45 => 205 | 5 => 5 | 9 => 9 | 51 => 220 | 55 => 224 | 57 => 232 | 58 => 233 | 33 => 173 | n => n, fun | n => n⟩
theorem Tryz.sortedS : Go.Proofs.SlLaysZ.n6 Tryz.prog Tryz.sortedS_ren := {
  mixed := by kernel_rfl
  f6 := ⟨Tryz.f47.name, by decide, Tryz.func47.trans (congrArg some (by kernel_rfl))⟩
  f8 := ⟨Tryz.f96.name, by decide, Tryz.func96.trans (congrArg some (by kernel_rfl))⟩
  f11 := ⟨Tryz.f122.name, by decide, Tryz.func122.trans (congrArg some (by kernel_rfl))⟩
  t0 := Tryz.underlying0
  a0 := Tryz.isAgg0
  z0 := Tryz.sizeOf0
  v0 := Tryz.zeroValue0
  t24 := Tryz.underlying40
  a24 := Tryz.isAgg40
  z24 := Tryz.sizeOf40
  v24 := Tryz.zeroValue40
  t26 := Tryz.underlying9
  a26 := Tryz.isAgg9
  z26 := Tryz.sizeOf9
  v26 := Tryz.zeroValue9
  t28 := Tryz.underlying116
  a28 := Tryz.isAgg116
  z28 := Tryz.sizeOf116
  v28 := Tryz.zeroValue116
  i26 := by kernel_rfl }
def Tryz.sortS_ren : Go.Shelf.Ren := ⟨fun | 6 => 97 | 8 => 115 | 9 => 123 | 19 => 141 | 20 => 142 | 21 => 147 | 22 => 148 | 23 => 149 | 24 => 150 | 25 => 151 | 26 => 152 | 27 => 153 | 28 => 154 | 29 => 155 | 36 => 170 | 31 => 161 | 32 => 162 | 37 => 171 | 38 => 172 | 39 => 173 | 41 => 180 | n => n, fun | 27 => 40 | 29 => 9 | 3 => 3 | 32 => 185 | 26 => 40 | 0 => 0 | 44 => 208 | 46 => 210 | 4 => 4 | 36 => 200 | 35 => 199 | 41 => 205 | 5 => 5 | 9 => 9 | 53 => 220 | 57 => 224 | 63 => 232 | 64 => 233 | n => n, fun | n => n⟩
theorem Tryz.sortS : Go.Proofs.SlLaysM.n6 Tryz.prog Tryz.sortS_ren := {
  mixed := by kernel_rfl
  f6 := ⟨Tryz.f97.name, by decide, Tryz.func97.trans (congrArg some (by kernel_rfl))⟩
  f8 := Tryz.func115.trans (congrArg some (by kernel_rfl))
  f9 := ⟨Tryz.f123.name, by decide, Tryz.func123.trans (congrArg some (by kernel_rfl))⟩
  f19 := Tryz.func141.trans (congrArg some (by kernel_rfl))
  f20 := Tryz.func142.trans (congrArg some (by kernel_rfl))
  f21 := ⟨Tryz.f147.name, by decide, Tryz.func147.trans (congrArg some (by kernel_rfl))⟩
  f22 := ⟨Tryz.f148.name, by decide, Tryz.func148.trans (congrArg some (by kernel_rfl))⟩
  f23 := ⟨Tryz.f149.name, by decide, Tryz.func149.trans (congrArg some (by kernel_rfl))⟩
  f24 := ⟨Tryz.f150.name, by decide, Tryz.func150.trans (congrArg some (by kernel_rfl))⟩
  f25 := ⟨Tryz.f151.name, by decide, Tryz.func151.trans (congrArg some (by kernel_rfl))⟩
  f26 := ⟨Tryz.f152.name, by decide, Tryz.func152.trans (congrArg some (by kernel_rfl))⟩
  f27 := ⟨Tryz.f153.name, by decide, Tryz.func153.trans (congrArg some (by kernel_rfl))⟩
  f28 := ⟨Tryz.f154.name, by decide, Tryz.func154.trans (congrArg some (by kernel_rfl))⟩
  f29 := ⟨Tryz.f155.name, by decide, Tryz.func155.trans (congrArg some (by kernel_rfl))⟩
  f31 := Tryz.func161.trans (congrArg some (by kernel_rfl))
  f32 := Tryz.func162.trans (congrArg some (by kernel_rfl))
  f36 := ⟨Tryz.f170.name, by decide, Tryz.func170.trans (congrArg some (by kernel_rfl))⟩
  f37 := ⟨Tryz.f171.name, by decide, Tryz.func171.trans (congrArg some (by kernel_rfl))⟩
  f38 := ⟨Tryz.f172.name, by decide, Tryz.func172.trans (congrArg some (by kernel_rfl))⟩
  f39 := ⟨Tryz.f173.name, by decide, Tryz.func173.trans (congrArg some (by kernel_rfl))⟩
  f41 := ⟨Tryz.f180.name, by decide, Tryz.func180.trans (congrArg some (by kernel_rfl))⟩
  t0 := Tryz.underlying0
  a0 := Tryz.isAgg0
  z0 := Tryz.sizeOf0
  v0 := Tryz.zeroValue0
  t3 := Tryz.underlying3
  a3 := Tryz.isAgg3
  z3 := Tryz.sizeOf3
  v3 := Tryz.zeroValue3
  t4 := Tryz.underlying4
  a4 := Tryz.isAgg4
  z4 := Tryz.sizeOf4
  v4 := Tryz.zeroValue4
  t5 := Tryz.underlying5
  a5 := Tryz.isAgg5
  z5 := Tryz.sizeOf5
  v5 := Tryz.zeroValue5
  t9 := Tryz.underlying9
  a9 := Tryz.isAgg9
  z9 := Tryz.sizeOf9
  v9 := Tryz.zeroValue9
  t26 := Tryz.underlying40
  a26 := Tryz.isAgg40
  z26 := Tryz.sizeOf40
  v26 := Tryz.zeroValue40
  t27 := Tryz.underlying40
  a27 := Tryz.isAgg40
  z27 := Tryz.sizeOf40
  v27 := Tryz.zeroValue40
  t29 := Tryz.underlying9
  a29 := Tryz.isAgg9
  z29 := Tryz.sizeOf9
  v29 := Tryz.zeroValue9
  t32 := Tryz.underlying185
  a32 := Tryz.isAgg185
  z32 := Tryz.sizeOf185
  v32 := Tryz.zeroValue185
  t35 := Tryz.underlying199
  a35 := Tryz.isAgg199
  z35 := Tryz.sizeOf199
  v35 := Tryz.zeroValue199
  t36 := Tryz.underlying200
  a36 := Tryz.isAgg200
  z36 := Tryz.sizeOf200
  v36 := Tryz.zeroValue200
  t41 := Tryz.underlying205
  a41 := Tryz.isAgg205
  z41 := Tryz.sizeOf205
  v41 := Tryz.zeroValue205
  t44 := Tryz.underlying208
  a44 := Tryz.isAgg208
  z44 := Tryz.sizeOf208
  v44 := Tryz.zeroValue208
  t46 := Tryz.underlying210
  a46 := Tryz.isAgg210
  z46 := Tryz.sizeOf210
  v46 := Tryz.zeroValue210
  t53 := Tryz.underlying220
  a53 := Tryz.isAgg220
  z53 := Tryz.sizeOf220
  v53 := Tryz.zeroValue220
  t57 := Tryz.underlying224
  a57 := Tryz.isAgg224
  z57 := Tryz.sizeOf224
  v57 := Tryz.zeroValue224
  t63 := Tryz.underlying232
  a63 := Tryz.isAgg232
  z63 := Tryz.sizeOf232
  v63 := Tryz.zeroValue232
  t64 := Tryz.underlying233
  a64 := Tryz.isAgg233
  z64 := Tryz.sizeOf233
  v64 := Tryz.zeroValue233 }
end Go.Proofs

/- Own work, by program: package tree: what creates and erases: walked. -/

namespace Go.Proofs.YtnnbelmpbmfdnaaGreatDoor
open Go
theorem acC_cells (l : List Ac) : ∀ y ∈ l.flatMap acC, isCell y = true := by
  intro y hy
  obtain ⟨a, -, h⟩ := List.mem_flatMap.1 hy
  simp only [acC, List.mem_cons, List.not_mem_nil, or_false] at h
  rcases h with rfl | rfl <;> rfl
theorem fill_node (d : Bs) (ad : Option Addr) (n c : Nat) (s0 s1 s2 s3 s4 s5 s6 s7 s8 : Value) : Instr.fill (fun i => [(0, 1), (1, 1), (2, 9)].toArray[i]?) ([.string (bs []), .slice none 0 0, .int .i64 0, .int .i64 0, .int .i64 0, .int .i64 0, .int .i64 0, .int .i64 0, .int .i64 0, .int .i64 0, .int .i64 0] : List Value).toArray [(0, vstr d), (1, .slice ad n c), (2, .agg ([s0, s1, s2, s3, s4, s5, s6, s7, s8] : List Value).toArray)] = some (([vstr d, .slice ad n c] ++ [s0, s1, s2, s3, s4, s5, s6, s7, s8] : List Value).toArray) := by kernel_rfl
structure PtA (p : HP) (x : Pt) : Prop where
  acl : ∀ h : Hp, p h → rdS 2 h x.aclV x.acl.length (x.acl.flatMap acC)
  few : x.acl.length ≤ 1048576
  plen : x.path.length ≤ 1048576
  subs : isCell x.subsV = true
  cell : isCell x.aclV = true
theorem PtA.all {p : HP} {x : Pt} (h : PtA p x) : ∀ v ∈ ptC x, isCell v = true := by
  intro v hv
  simp only [ptC, List.mem_cons, List.not_mem_nil, or_false] at hv
  rcases hv with rfl | rfl | rfl | rfl | rfl | rfl | rfl | rfl
  · rfl
  · rfl
  · rfl
  · exact h.cell
  · rfl
  · rfl
  · rfl
  · exact h.subs
structure TxA (p : HP) (x : Pt) (subs : List Pt) : Prop where
  own : PtA p x
  rd : ∀ h : Hp, p h → rdS 8 h x.subsV subs.length (subs.flatMap ptC)
  few : subs.length ≤ 1048576
  each : ∀ y ∈ subs, PtA p y
theorem evC_cells (l : List Ev) : ∀ y ∈ l.flatMap evC, isCell y = true := by
  intro y hy
  obtain ⟨a, -, h⟩ := List.mem_flatMap.1 hy
  simp only [evC, List.mem_cons, List.not_mem_nil, or_false] at h
  rcases h with rfl | rfl | rfl <;> rfl
set_option maxRecDepth 100000 in
theorem aclone_spec (v : Value) (xs : List Ac) (p : HP) (hp : ∀ h : Hp, p h → rdS 2 h v xs.length (xs.flatMap acC)) (hn : xs.length ≤ 1048576) : Fn Tryz.prog 58 #[v] [p] fun u L => (∃ a c, u = .slice a xs.length c) ∧ L = [p, slR 104 2 u xs.length (xs.flatMap acC)] := by
 refine Fn.intro (vs := [v]) Tryz.func58 rfl rfl ?_
 intro F W
 refine G.rdAny (p := p) hp (by (repeat' constructor)) fun a c e0 hl => ?_
 subst e0
 refine G.seq (G.region (G.q (Quiet.assign rfl) rfl (G.nil (G.then_n (G.seq (G.seq (G.region (G.q (Quiet.move rfl) rfl (G.q (Quiet.sleq rfl rfl Tryz.underlying34) rfl (G.nil (G.then_n ?_)))))))))))
 refine G.condB rfl (fun h4 => ?_) (fun h4 => ?_)
 ·have ha : a = none := by simpa using h4
  subst ha
  refine G.rdNil (p := p) hp (by (repeat' constructor)) fun hx0 => ?_
  have hxs : xs = [] := List.eq_nil_of_length_eq_zero hx0
  subst hxs
  refine G.add (slR_nil 104 2) (G.seq (G.region (G.q (Quiet.assign rfl) rfl (G.nil (G.then_n (G.ret (G.then_r ?_)))))))
  exact G.done (l := [.tmp 2]) rfl rfl ⟨⟨_, _, rfl⟩, rfl⟩ (by (repeat' constructor)) (by (repeat' constructor))
 ·refine G.skip (G.then_n (G.seq (G.region ?_)))
  refine G.op (OpSpec.buildSlice (vs := []) el_34 ze_104 rfl rfl rfl rfl (by first | (simp [Value.cells]; done) | (intro v hv; simp only [List.mem_cons, List.not_mem_nil, or_false] at hv; (repeat (first | (subst hv; rfl) | (rcases hv with hv | hv; (subst hv; rfl)))))) (by decide)) (by (repeat' constructor)) rfl ?nx5
  rintro v L' ⟨b0, rfl, rfl⟩
  refine G.q (Quiet.move rfl) rfl ?_
  refine G.slMakeN 2 0 (b := b0) (xs := ([] : List Ac).flatMap acC) (by (repeat' constructor)) rfl rfl ?_
  refine G.op (OpSpec.append (n := 0) (m := xs.length) (ys := xs.flatMap acC) (p := p) rfl rfl rfl el_34 (.inl ⟨_, Tryz.underlying34⟩) ze_104 rfl rfl ?hc8 hp ?hb9 (by decide)) (by (repeat' constructor)) rfl ?nx10
  case hc8 => exact acC_cells _
  case hb9 => omega
  rintro v L' ⟨⟨a3, c3, rfl⟩, rfl⟩; rw [Nat.zero_add, show ([] : List Ac).flatMap acC ++ xs.flatMap acC = xs.flatMap acC from rfl]
  refine G.q (Quiet.assign rfl) rfl (G.nil (G.then_n (G.ret ?_)))
  exact G.done (l := [.tmp 2]) rfl rfl ⟨⟨_, _, rfl⟩, rfl⟩ (by (repeat' constructor)) (by (repeat' constructor))

set_option maxRecDepth 100000 in
theorem able_spec (p : Bs) (hs : p.length ≤ 1048576) : Fn Tryz.prog 119 #[vstr p] [] fun v L => v = .bool (decide (ableZ p)) ∧ L = [] := by
 refine Fn.intro (vs := [vstr p]) Tryz.func119 rfl rfl ?_
 intro F W
 refine G.seq (G.region (G.q (Quiet.assign rfl) rfl (G.nil (G.then_n (G.seq (G.region (G.q (Quiet.move rfl) rfl (G.q (Quiet.strne rfl rfl) rfl (G.q (Quiet.move rfl) rfl ?_)))))))))
 refine G.ndec (t := 5) rfl (fun h1_5 => ?_) (fun h1_5 => ?_)
 ·refine G.kNT (t := 4) rfl h1_5 (G.grun (t := 5) rfl rfl rfl (G.q (Quiet.move rfl) rfl (G.grun (t := 5) rfl rfl rfl ?_)))
  refine G.op (OpSpec.call Tryz.func110 rfl rfl (vs := [_]) rfl (check_spec p hs)) (by (repeat' constructor)) rfl ?nx5
  rintro v L' ⟨rfl, rfl⟩
  refine G.grun (t := 5) rfl rfl rfl (G.q (Quiet.int rfl rfl rfl) rfl (G.q (Quiet.pickT rfl rfl) rfl (G.q (Quiet.assign rfl) rfl (G.nil (G.then_n (G.ret ?_))))))
  exact G.done (l := [.tmp 2]) rfl rfl ⟨congrArg Value.bool (decide_eq_decide.2 ⟨fun e => ⟨h1_5, e⟩, fun e => e.2⟩), rfl⟩ (by (repeat' constructor)) (by (repeat' constructor))
 ·refine G.kNF (t := 4) rfl h1_5 (G.gskip (t := 5) rfl rfl rfl rfl (G.gskip (t := 5) rfl rfl rfl rfl (G.gskip (t := 5) rfl rfl rfl rfl (G.q (Quiet.pickF rfl rfl) rfl (G.q (Quiet.assign rfl) rfl (G.nil (G.then_n (G.ret ?_))))))))
  exact G.done (l := [.tmp 2]) rfl rfl ⟨by rw [decide_eq_false (fun e => e.1 h1_5)], rfl⟩ (by (repeat' constructor)) (by (repeat' constructor))

set_option maxRecDepth 100000 in
theorem trnew_spec : Fn Tryz.prog 13 #[] [] fun v L => ∃ t, v = vptr t ∧ L = [treeR t newT] := by
 refine Fn.intro (vs := []) Tryz.func13 rfl rfl ?_
 intro F W
 refine G.seq (G.region (G.q (Quiet.assign rfl) rfl (G.nil (G.then_n (G.seq (G.region ?_))))))
 refine G.op (OpSpec.makeMap Tryz.underlying107) (by (repeat' constructor)) rfl ?nx2
 rintro v L' ⟨rn, rfl, rfl⟩
 refine G.q (Quiet.build (us := [(0, _), (1, _)]) fl_104 ze_104 rfl rfl (by simp [isCell])) rfl ?_
 refine G.op (OpSpec.buildSlice (vs := [_]) el_34 ze_104 rfl rfl rfl rfl (by first | (simp [Value.cells]; done) | (intro v hv; simp only [List.mem_cons, List.not_mem_nil, or_false] at hv; (repeat (first | (subst hv; rfl) | (rcases hv with hv | hv; (subst hv; rfl)))))) (by decide)) (by (repeat' constructor)) rfl ?nx5
 rintro v L' ⟨ba, rfl, rfl⟩
 refine G.q (Quiet.buildN (pl := [(0, 1), (1, 1), (2, 9)]) (us := [(1, .slice (some ⟨ba, 0, none⟩) 1 1)]) (cells := ndC (.slice (some ⟨ba, 0, none⟩) 1 1) ⟨[], [(31, [119, 111, 114, 108, 100])], st0⟩) Tryz.underlying106 (by kernel_rfl) ze_106 rfl rfl) rfl ?_
 refine G.op (OpSpec.box rfl) (by (repeat' constructor)) rfl ?nx8
 rintro v L' ⟨tn, rfl, rfl⟩
 refine G.fold (p := mapR rn []) (.cons (p := pt rn (.map #[] 0)) (by (repeat' constructor)) .nil) (fun h hp => mapR_new (sep_pt hp)) ?_
 refine G.op (OpSpec.mapInsert (m := ([] : NmM)) (enc := ndV) (v := (tn, (.slice (some ⟨ba, 0, none⟩) 1 1, ⟨[], [(31, [119, 111, 114, 108, 100])], st0⟩))) (k := [47]) (KeyLaw.str Tryz.underlying9) rfl rfl rfl Tryz.underlying107 ?he10) (by (repeat' constructor)) rfl ?nx11
 case he10 => rfl
 rintro v L' rfl
 refine G.q (Quiet.move rfl) rfl ?_
 refine G.op (OpSpec.makeMap Tryz.underlying108) (by (repeat' constructor)) rfl ?nx12
 rintro v L' ⟨rs, rfl, rfl⟩
 refine G.q (Quiet.build (us := [(0, _), (1, _)]) fl_110 ze_110 rfl rfl (by simp [isCell])) rfl ?_
 refine G.op (OpSpec.box rfl) (by (repeat' constructor)) rfl ?nx15
 rintro v L' ⟨t, rfl, rfl⟩
 refine G.q (Quiet.assign rfl) rfl (G.nil (G.then_n (G.ret ?_)))
 refine G.fold (p := mapR rs []) (.cons (p := pt rs (.map #[] 0)) (by (repeat' constructor)) .nil) (fun h hp => mapR_new (sep_pt hp)) ?_
 refine G.slMakeN 2 1 (b := ba) (xs := ([(31, [119, 111, 114, 108, 100])] : List Ac).flatMap acC) (by (repeat' constructor)) rfl rfl ?_
 refine G.toRd (m := 1) (by (repeat' constructor)) ?_
 refine G.ndFold (x := (([47] : Bs), ((tn, (.slice (some ⟨ba, 0, none⟩) 1 1, ⟨[], [(31, [119, 111, 114, 108, 100])], st0⟩)) : Nm))) (by (repeat' constructor)) rfl rfl rfl rfl ?_
 refine G.fold (p := bigR inN [(([47] : Bs), ((tn, (.slice (some ⟨ba, 0, none⟩) 1 1, ⟨[], [(31, [119, 111, 114, 108, 100])], st0⟩)) : Nm))]) (.cons (p := inN (([47] : Bs), ((tn, (.slice (some ⟨ba, 0, none⟩) 1 1, ⟨[], [(31, [119, 111, 114, 108, 100])], st0⟩)) : Nm))) (by (repeat' constructor)) .nil) (fun h hp => hp) ?_
 have hI : TrI newT [(([47] : Bs), ((tn, (.slice (some ⟨ba, 0, none⟩) 1 1, ⟨[], [(31, [119, 111, 114, 108, 100])], st0⟩)) : Nm))] [] := ⟨by simp, fun q => (by unfold newT; simp only [alook]; split <;> rfl), by simp, fun i => rfl⟩
 refine G.trFold (τ := newT) hI (by (repeat' constructor)) rfl rfl rfl ?_
 exact G.done (l := [.tmp 0]) rfl rfl ⟨_, rfl, rfl⟩ (by (repeat' constructor)) (by (repeat' constructor))

set_option maxRecDepth 100000 in
theorem trkid_spec (t : Nat) (τ : Tr) (p : Bs) (num zx : Int) : Fn Tryz.prog 120 #[vptr t, vstr p, vint num, vint zx] [treeR t τ] fun v L => v = .tuple #[] ∧ L = [treeR t (kidT τ p num zx)] := by
 refine Fn.intro (vs := [vptr t, vstr p, vint num, vint zx]) Tryz.func120 rfl rfl ?_
 intro F W
 refine G.trOpen (τ := τ) (by (repeat' constructor)) fun rn rs m s hI => ?_
 refine G.seq (G.region ?_)
 rcases hal : alook m p with _ | x
 ·refine G.q (Quiet.move rfl) rfl (G.q (Quiet.nilp rfl) rfl (G.q (Quiet.fieldAddr rfl fo_110_0) rfl ?_))
  refine G.q (Quiet.load rfl ag_107 (by (repeat' constructor)) (rfl)) rfl ?_
  refine G.q (Quiet.move rfl) rfl ?_
  refine G.q (Quiet.lookupN (m := m) (enc := ndV) (KeyLaw.str Tryz.underlying9) (hal) rfl rfl Tryz.underlying107 ze_102 (by (repeat' constructor)) rfl) rfl ?_
  refine G.q (Quiet.assign rfl) rfl (G.nil (G.then_n (G.seq (G.region (G.q (Quiet.move rfl) rfl ?_)))))
  refine G.q (Quiet.as (v' := .bool false) (by rfl) (Quiet.ptrne rfl rfl Tryz.underlying102)) rfl ?_
  refine G.nil (G.then_n (G.condF rfl (G.skip (G.done_n ?_))))
  refine G.trFold (τ := τ) hI (by (repeat' constructor)) rfl rfl rfl ?_
  refine G.trCast (τ' := kidT τ p num zx) (by (repeat' constructor)) (hI.kidN hal _) ?_
  exact G.done (l := []) rfl rfl ⟨rfl, rfl⟩ (by (repeat' constructor)) (by (repeat' constructor))
 ·refine G.q (Quiet.move rfl) rfl (G.q (Quiet.nilp rfl) rfl (G.q (Quiet.fieldAddr rfl fo_110_0) rfl ?_))
  refine G.q (Quiet.load rfl ag_107 (by (repeat' constructor)) (rfl)) rfl ?_
  refine G.q (Quiet.move rfl) rfl ?_
  refine G.q (Quiet.lookupY (m := m) (enc := ndV) (KeyLaw.str Tryz.underlying9) (hal) rfl rfl Tryz.underlying107 ze_102 (by (repeat' constructor)) rfl) rfl ?_
  refine G.q (Quiet.assign rfl) rfl (G.nil (G.then_n (G.seq (G.region (G.q (Quiet.move rfl) rfl ?_)))))
  refine G.q (Quiet.as (v' := .bool true) (by rfl) (Quiet.ptrne rfl rfl Tryz.underlying102)) rfl ?_
  refine G.nil (G.then_n (G.condT rfl ?_))
  refine G.bigTake hal (by (repeat' constructor)) ?_
  refine G.ndOpen (x := (p, x)) (by (repeat' constructor)) ?_
  refine G.region (G.q (Quiet.move rfl) rfl (G.q (Quiet.move rfl) rfl (G.q (Quiet.move rfl) rfl (G.q (Quiet.move rfl) rfl (G.q (Quiet.nilp rfl) rfl (G.q (Quiet.fieldAddr rfl fo_106_2) rfl (G.q (Quiet.fieldAddr rfl fo_43_4) rfl ?_)))))))
  refine G.op (OpSpec.store rfl rfl rfl sz_3 ?c20 ?c21) (by (repeat' constructor)) rfl ?nx22
  case c20 => simp [ndC]
  case c21 => exact nfz0 _ _
  rintro v L' rfl
  refine G.q (Quiet.nilp rfl) rfl (G.q (Quiet.fieldAddr rfl fo_106_2) rfl (G.q (Quiet.fieldAddr rfl fo_43_2) rfl ?_))
  refine G.op (OpSpec.store rfl rfl rfl sz_3 ?c26 ?c27) (by (repeat' constructor)) rfl ?nx28
  case c26 => simp [ndC]
  case c27 => exact nfz0 _ _
  rintro v L' rfl
  refine G.nil (G.done_n ?_)
  refine G.ndFold (x := (p, (x.1, (x.2.1, kidN num zx x.2.2)))) (by (repeat' constructor)) rfl rfl rfl rfl ?_
  refine G.bigPut (f := inN) (m := m) p (x.1, (x.2.1, kidN num zx x.2.2)) rfl (by (repeat' constructor)) ?_
  refine G.trFold (τ := (kidT τ p num zx)) (hI.mod hal (kidN num zx) (y := (x.1, (x.2.1, kidN num zx x.2.2))) rfl) (by (repeat' constructor)) rfl (ndE_set (y := (x.1, (x.2.1, kidN num zx x.2.2))) hal rfl).symm rfl ?_
  exact G.done (l := []) rfl rfl ⟨rfl, rfl⟩ (by (repeat' constructor)) (by (repeat' constructor))

set_option maxRecDepth 100000 in
theorem trcreate_spec (t : Nat) (τ : Tr) (x : Pt) (zx : Int) (p : HP) (hx : PtA p x) : Fn Tryz.prog 94 #[vptr t, .agg (ptC x).toArray, vint zx] [treeR t τ, p] fun v L => ∃ a c, v = .slice a (createZ τ x zx).2.length c ∧ L = [treeR t (createZ τ x zx).1, p, slR 75 3 v (createZ τ x zx).2.length ((createZ τ x zx).2.flatMap evC)] := by
 refine Fn.intro (vs := [vptr t, .agg (ptC x).toArray, vint zx]) Tryz.func94 rfl rfl ?_
 intro F W
 have hfew := hx.few
 have hpl := hx.plen
 have hpar := parent_len x.path
 refine G.seq (G.region ?_)
 refine G.op (OpSpec.box rfl) (by (repeat' constructor)) rfl ?nx1
 rintro v L' ⟨bx, rfl, rfl⟩
 refine G.q (Quiet.assign rfl) rfl (G.nil ?_)
 refine G.ptCast (b := bx) (l' := ptC x) (by (repeat' constructor)) rfl ?_
 refine G.then_n (G.seq (G.region (G.q (Quiet.fieldAddr rfl fo_37_1) rfl ?_)))
 refine G.q (Quiet.load rfl ag_9 (by (repeat' constructor)) (rfl)) rfl ?_
 refine G.op (OpSpec.call Tryz.func99 rfl rfl (vs := [_]) rfl (parent_spec x.path (by omega))) (by (repeat' constructor)) rfl ?nx6
 rintro v L' ⟨rfl, rfl⟩
 refine G.q (Quiet.assign rfl) rfl (G.nil (G.then_n (G.seq (G.seq (G.region (G.q (Quiet.fieldAddr rfl fo_37_1) rfl ?_))))))
 refine G.q (Quiet.load rfl ag_9 (by (repeat' constructor)) (rfl)) rfl ?_
 refine G.op (OpSpec.call Tryz.func119 rfl rfl (vs := [_]) rfl (able_spec x.path hpl)) (by (repeat' constructor)) rfl ?nx10
 rintro v L' ⟨rfl, rfl⟩
 refine G.q (Quiet.not rfl) rfl (G.q (Quiet.move rfl) rfl ?_)
 refine G.ndec (t := 16) rfl (fun h2_16 => ?_) (fun h2_16 => ?_)
 ·refine G.kNT (t := 15) rfl h2_16 (G.gskip (t := 16) rfl rfl rfl rfl (G.gskip (t := 16) rfl rfl rfl rfl (G.gskip (t := 16) rfl rfl rfl rfl (G.gskip (t := 16) rfl rfl rfl rfl (G.gskip (t := 16) rfl rfl rfl rfl (G.gskip (t := 16) rfl rfl rfl rfl (G.gskip (t := 16) rfl rfl rfl rfl (G.q (Quiet.pickT rfl rfl) rfl (G.nil (G.then_n (G.condT rfl (G.seq (G.region (G.q (Quiet.assign rfl) rfl (G.nil (G.then_n (G.ret (G.then_r (G.add (slR_nil 75 3) ?_)))))))))))))))))))
  have hc : createZ τ x zx = (τ, []) := by unfold createZ; rw [if_neg (fun g => h2_16 g.1)]
  refine G.trCast (τ' := (createZ τ x zx).1) (by (repeat' constructor)) (by rw [hc]) ?_
  refine G.slCast (T := 75) (sz := 3) (m' := (createZ τ x zx).2.length) (xs' := (createZ τ x zx).2.flatMap evC) (by (repeat' constructor)) (by rw [hc]; rfl) (by first | (rw [hc]; done) | (rw [hc]; rfl)) ?_
  exact G.done (l := [.tmp 6]) rfl rfl ⟨_, _, by rw [hc]; rfl, rfl⟩ (by (repeat' constructor)) (by (repeat' constructor))
 ·refine G.kNF (t := 15) rfl h2_16 ?_
  refine G.trOpen (τ := τ) (by (repeat' constructor)) fun rn rs m s hI => ?_
  refine G.grun (t := 16) rfl rfl rfl (G.q (Quiet.move rfl) rfl (G.grun (t := 16) rfl rfl rfl (G.q (Quiet.nilp rfl) rfl (G.grun (t := 16) rfl rfl rfl (G.q (Quiet.fieldAddr rfl fo_110_0) rfl (G.grun (t := 16) rfl rfl rfl ?_))))))
  refine G.q (Quiet.load rfl ag_107 (by (repeat' constructor)) (rfl)) rfl ?_
  refine G.grun (t := 16) rfl rfl rfl (G.q (Quiet.move rfl) rfl ?_)
  rcases hup : alook m (parentZ x.path) with _ | pu
  ·refine G.grun (t := 16) rfl rfl rfl ?_
   refine G.q (Quiet.lookupN (m := m) (enc := ndV) (KeyLaw.str Tryz.underlying9) (hup) rfl rfl Tryz.underlying107 ze_102 (by (repeat' constructor)) rfl) rfl ?_
   refine G.grun (t := 16) rfl rfl rfl ?_
   refine G.q (Quiet.as (v' := .bool true) (by rfl) (Quiet.ptreq rfl rfl Tryz.underlying102)) rfl ?_
   refine G.q (Quiet.pickF rfl rfl) rfl (G.nil (G.then_n (G.condT rfl (G.seq (G.region (G.q (Quiet.assign rfl) rfl (G.nil (G.then_n (G.ret (G.then_r (G.add (slR_nil 75 3) ?_)))))))))))
   have hc : createZ τ x zx = (τ, []) := by unfold createZ; rw [if_neg (fun g => hI.none_iff.1 hup g.2)]
   refine G.trFold (τ := τ) hI (by (repeat' constructor)) rfl rfl rfl ?_
   refine G.trCast (τ' := (createZ τ x zx).1) (by (repeat' constructor)) (by rw [hc]) ?_
   refine G.slCast (T := 75) (sz := 3) (m' := (createZ τ x zx).2.length) (xs' := (createZ τ x zx).2.flatMap evC) (by (repeat' constructor)) (by rw [hc]; rfl) (by first | (rw [hc]; done) | (rw [hc]; rfl)) ?_
   exact G.done (l := [.tmp 6]) rfl rfl ⟨_, _, by rw [hc]; rfl, rfl⟩ (by (repeat' constructor)) (by (repeat' constructor))
  ·refine G.grun (t := 16) rfl rfl rfl ?_
   refine G.q (Quiet.lookupY (m := m) (enc := ndV) (KeyLaw.str Tryz.underlying9) (hup) rfl rfl Tryz.underlying107 ze_102 (by (repeat' constructor)) rfl) rfl ?_
   refine G.grun (t := 16) rfl rfl rfl ?_
   refine G.q (Quiet.as (v' := .bool false) (by rfl) (Quiet.ptreq rfl rfl Tryz.underlying102)) rfl ?_
   refine G.q (Quiet.pickF rfl rfl) rfl (G.nil (G.then_n (G.condF rfl (G.skip (G.then_n (G.seq (G.region (G.q (Quiet.assign rfl) rfl (G.nil (G.then_n (G.seq (G.seq ?_))))))))))))
   refine G.draw [] [[0, 1, 2, 3, 4, 5, 6, 7]] mixed (by kernel_rfl) ?_
   refine Phases.go [] (by (repeat' constructor)) ?_
   rcases hal : alook m x.path with _ | px
   ·refine D.qw [1, 2, 3, 6, 7] rfl (by kernel_rfl) (Quiet.move rfl) ?_
    refine D.qw [2, 3, 6, 7] rfl (by kernel_rfl) (Quiet.nilp rfl) ?_
    refine D.qw [3, 6, 7] rfl (by kernel_rfl) (Quiet.fieldAddr rfl fo_110_0) ?_
    refine D.qw [6, 7] rfl (by kernel_rfl) (Quiet.load rfl ag_107 (by (repeat' constructor)) (rfl)) ?_
    refine D.qw [5, 6, 7] rfl (by kernel_rfl) (Quiet.fieldAddr rfl fo_37_1) ?_
    refine D.qw [6, 7] rfl (by kernel_rfl) (Quiet.load rfl ag_9 (by (repeat' constructor)) (rfl)) ?_
    refine D.qw [7] rfl (by kernel_rfl) (Quiet.lookupN (m := m) (enc := ndV) (KeyLaw.str Tryz.underlying9) (hal) rfl rfl Tryz.underlying107 ze_102 (by (repeat' constructor)) rfl) ?_
    refine D.qw [] rfl (by kernel_rfl) (Quiet.as (v' := .bool false) (by rfl) (Quiet.ptrne rfl rfl Tryz.underlying102)) ?_
    refine D.ph (Phases.fin (G.then_n (G.condF rfl (G.skip (G.then_n (G.seq ?_))))))
    refine G.draw [10, 18, 19] [[0, 1, 2, 3, 4, 5, 6, 7, 8, 9, 11, 12, 13, 14, 15, 16, 10, 17, 18], [19]] mixed (by kernel_rfl) ?_
    refine Phases.go [ptc bx _ _, ptc t _ _] (by (repeat' constructor)) ?_
    refine D.q rfl (by kernel_rfl) (Quiet.move rfl) ?_
    refine D.q rfl (by kernel_rfl) (Quiet.nilp rfl) ?_
    refine D.q rfl (by kernel_rfl) (Quiet.fieldAddr rfl fo_110_0) ?_
    refine D.q rfl (by kernel_rfl) (Quiet.load rfl ag_107 (by (repeat' constructor)) (rfl)) ?_
    refine D.q rfl (by kernel_rfl) (Quiet.fieldAddr rfl fo_37_1) ?_
    refine D.q rfl (by kernel_rfl) (Quiet.load rfl ag_9 (by (repeat' constructor)) (rfl)) ?_
    refine D.q rfl (by kernel_rfl) (Quiet.fieldAddr rfl fo_37_2) ?_
    refine D.q rfl (by kernel_rfl) (Quiet.load rfl ag_9 (by (repeat' constructor)) (rfl)) ?_
    refine D.qw [9, 10, 17, 18] rfl (by kernel_rfl) (Quiet.fieldAddr rfl fo_37_3) ?_
    refine D.qw [10, 17, 18] rfl (by kernel_rfl) (Quiet.load rfl ag_34 (by (repeat' constructor)) (rfl)) ?_
    refine D.q rfl (by kernel_rfl) (Quiet.move rfl) ?_
    refine D.q rfl (by kernel_rfl) (Quiet.move rfl) ?_
    refine D.q rfl (by kernel_rfl) (Quiet.move rfl) ?_
    refine D.q rfl (by kernel_rfl) (Quiet.fieldAddr rfl fo_37_4) ?_
    refine D.q rfl (by kernel_rfl) (Quiet.load rfl ag_3 (by (repeat' constructor)) (rfl)) ?_
    refine D.q rfl (by kernel_rfl) (Quiet.build (us := [(0, _), (1, _), (2, _), (6, _)]) fl_43 ze_43 rfl rfl (by simp [isCell])) ?_
    refine D.h rfl (by kernel_rfl) (OpSpec.call Tryz.func58 rfl rfl (vs := [_]) rfl (aclone_spec x.aclV x.acl p hx.acl hfew)) (by (repeat' constructor)) ?nx49
    rintro v L' ⟨⟨a7, c7, rfl⟩, rfl⟩
    refine D.qw [18] rfl (by kernel_rfl) (Quiet.buildN (pl := [(0, 1), (1, 1), (2, 9)]) (us := [(0, vstr x.data), (1, .slice a7 x.acl.length c7), (2, .agg ([vint zx, vint zx, vint zx, vint 0, vint 0, vint 0, vint x.own, vint 0, vint 0] : List Value).toArray)]) (cells := [vstr x.data, .slice a7 x.acl.length c7] ++ [vint zx, vint zx, vint zx, vint 0, vint 0, vint 0, vint x.own, vint 0, vint 0]) Tryz.underlying106 (by kernel_rfl) ze_106 rfl (fill_node _ _ _ _ _ _ _ _ _ _ _ _ _)) ?_
    refine D.h rfl (by kernel_rfl) (OpSpec.box rfl) (by (repeat' constructor)) ?nx52
    rintro v L' ⟨tn, rfl, rfl⟩
    refine D.ph ?_
    refine Phases.go [] (by (repeat' constructor)) ?_
    refine D.h rfl (by kernel_rfl) (OpSpec.mapSet (m := m) (enc := ndV) (v := ((tn, (.slice a7 x.acl.length c7, newN x zx)) : Nm)) (k := x.path) (KeyLaw.str Tryz.underlying9) rfl rfl rfl Tryz.underlying107 ?he54) (by (repeat' constructor)) ?nx55
    case he54 => rfl
    rintro v L' rfl
    refine D.ph (Phases.fin ?_)
    refine G.toRd (by (repeat' constructor)) ?_
    refine G.ndFold (x := (x.path, ((tn, (.slice a7 x.acl.length c7, newN x zx)) : Nm))) (by (repeat' constructor)) rfl rfl rfl rfl ?_
    have hdel := adel_none hal
    refine G.bigPut (f := inN) (m := m) x.path ((tn, (.slice a7 x.acl.length c7, newN x zx)) : Nm) rfl (by rw [hdel]; (repeat' constructor)) ?_
    refine G.trFold (τ := ({ τ with nodes := sset τ.nodes x.path (newN x zx) } : Tr)) (hI.lay x.path ((tn, (.slice a7 x.acl.length c7, newN x zx)) : Nm)) (by (repeat' constructor)) rfl rfl rfl ?_
    refine G.then_n (G.seq (G.region (G.q (Quiet.move rfl) rfl (G.q (Quiet.move rfl) rfl (G.q (Quiet.fieldAddr rfl fo_37_5) rfl ?_)))))
    refine G.q (Quiet.load rfl ag_3 (by (repeat' constructor)) (rfl)) rfl ?_
    refine G.q (Quiet.move rfl) rfl ?_
    refine G.op (OpSpec.call Tryz.func120 rfl rfl (vs := [_, _, _, _]) rfl (trkid_spec t ({ τ with nodes := sset τ.nodes x.path (newN x zx) } : Tr) (parentZ x.path) x.num zx)) (by (repeat' constructor)) rfl ?nx60
    rintro v L' ⟨rfl, rfl⟩
    refine G.nil (G.then_n (G.seq (G.region (G.q (Quiet.move rfl) rfl (G.q (Quiet.fieldAddr rfl fo_37_1) rfl ?_)))))
    refine G.q (Quiet.load rfl ag_9 (by (repeat' constructor)) (rfl)) rfl ?_
    refine G.q (Quiet.move rfl) rfl ?_
    refine G.q (Quiet.build (us := [(0, _), (1, _), (2, _)]) fl_75 ze_75 rfl rfl (by simp [isCell])) rfl ?_
    refine G.q (Quiet.move rfl) rfl (G.q (Quiet.move rfl) rfl ?_)
    refine G.q (Quiet.build (us := [(0, _), (1, _), (2, _)]) fl_75 ze_75 rfl rfl (by simp [isCell])) rfl ?_
    refine G.op (OpSpec.buildSlice (vs := [_, _]) el_30 ze_75 rfl rfl rfl rfl (by first | (simp [Value.cells]; done) | (intro v hv; simp only [List.mem_cons, List.not_mem_nil, or_false] at hv; (repeat (first | (subst hv; rfl) | (rcases hv with hv | hv; (subst hv; rfl)))))) (by decide)) (by (repeat' constructor)) rfl ?nx68
    rintro v L' ⟨bo, rfl, rfl⟩
    refine G.q (Quiet.assign rfl) rfl (G.nil ?_)
    refine G.slMakeN 3 2 (b := bo) (xs := ([(1, (x.path, zx)), (4, (parentZ x.path, zx))] : List Ev).flatMap evC) (by (repeat' constructor)) rfl rfl ?_
    refine G.then_n (G.ret ?_)
    have hc : createZ τ x zx = (kidT ({ τ with nodes := sset τ.nodes x.path (newN x zx) } : Tr) (parentZ x.path) x.num zx, [(1, (x.path, zx)), (4, (parentZ x.path, zx))]) := by unfold createZ; rw [if_pos ⟨h2_16, hI.some_iff hup⟩, if_neg (hI.none_iff.1 hal)]
    refine G.trCast (τ' := (createZ τ x zx).1) (by (repeat' constructor)) (by rw [hc]) ?_
    refine G.slCast (T := 75) (sz := 3) (m' := (createZ τ x zx).2.length) (xs' := (createZ τ x zx).2.flatMap evC) (by (repeat' constructor)) (by rw [hc]; rfl) (by first | (rw [hc]; done) | (rw [hc]; rfl)) ?_
    exact G.done (l := [.tmp 6]) rfl rfl ⟨_, _, by rw [hc]; rfl, rfl⟩ (by (repeat' constructor)) (by (repeat' constructor))
   ·refine D.qw [1, 2, 3, 6, 7] rfl (by kernel_rfl) (Quiet.move rfl) ?_
    refine D.qw [2, 3, 6, 7] rfl (by kernel_rfl) (Quiet.nilp rfl) ?_
    refine D.qw [3, 6, 7] rfl (by kernel_rfl) (Quiet.fieldAddr rfl fo_110_0) ?_
    refine D.qw [6, 7] rfl (by kernel_rfl) (Quiet.load rfl ag_107 (by (repeat' constructor)) (rfl)) ?_
    refine D.qw [5, 6, 7] rfl (by kernel_rfl) (Quiet.fieldAddr rfl fo_37_1) ?_
    refine D.qw [6, 7] rfl (by kernel_rfl) (Quiet.load rfl ag_9 (by (repeat' constructor)) (rfl)) ?_
    refine D.qw [7] rfl (by kernel_rfl) (Quiet.lookupY (m := m) (enc := ndV) (KeyLaw.str Tryz.underlying9) (hal) rfl rfl Tryz.underlying107 ze_102 (by (repeat' constructor)) rfl) ?_
    refine D.qw [] rfl (by kernel_rfl) (Quiet.as (v' := .bool true) (by rfl) (Quiet.ptrne rfl rfl Tryz.underlying102)) ?_
    refine D.ph (Phases.fin (G.then_n (G.condT rfl (G.region (G.q (Quiet.assign rfl) rfl (G.nil (G.then_n (G.seq ?_))))))))
    refine G.draw [10, 18, 19] [[0, 1, 2, 3, 4, 5, 6, 7, 8, 9, 11, 12, 13, 14, 15, 16, 10, 17, 18], [19]] mixed (by kernel_rfl) ?_
    refine Phases.go [ptc bx _ _, ptc t _ _] (by (repeat' constructor)) ?_
    refine D.q rfl (by kernel_rfl) (Quiet.move rfl) ?_
    refine D.q rfl (by kernel_rfl) (Quiet.nilp rfl) ?_
    refine D.q rfl (by kernel_rfl) (Quiet.fieldAddr rfl fo_110_0) ?_
    refine D.q rfl (by kernel_rfl) (Quiet.load rfl ag_107 (by (repeat' constructor)) (rfl)) ?_
    refine D.q rfl (by kernel_rfl) (Quiet.fieldAddr rfl fo_37_1) ?_
    refine D.q rfl (by kernel_rfl) (Quiet.load rfl ag_9 (by (repeat' constructor)) (rfl)) ?_
    refine D.q rfl (by kernel_rfl) (Quiet.fieldAddr rfl fo_37_2) ?_
    refine D.q rfl (by kernel_rfl) (Quiet.load rfl ag_9 (by (repeat' constructor)) (rfl)) ?_
    refine D.qw [9, 10, 17, 18] rfl (by kernel_rfl) (Quiet.fieldAddr rfl fo_37_3) ?_
    refine D.qw [10, 17, 18] rfl (by kernel_rfl) (Quiet.load rfl ag_34 (by (repeat' constructor)) (rfl)) ?_
    refine D.q rfl (by kernel_rfl) (Quiet.move rfl) ?_
    refine D.q rfl (by kernel_rfl) (Quiet.move rfl) ?_
    refine D.q rfl (by kernel_rfl) (Quiet.move rfl) ?_
    refine D.q rfl (by kernel_rfl) (Quiet.fieldAddr rfl fo_37_4) ?_
    refine D.q rfl (by kernel_rfl) (Quiet.load rfl ag_3 (by (repeat' constructor)) (rfl)) ?_
    refine D.q rfl (by kernel_rfl) (Quiet.build (us := [(0, _), (1, _), (2, _), (6, _)]) fl_43 ze_43 rfl rfl (by simp [isCell])) ?_
    refine D.h rfl (by kernel_rfl) (OpSpec.call Tryz.func58 rfl rfl (vs := [_]) rfl (aclone_spec x.aclV x.acl p hx.acl hfew)) (by (repeat' constructor)) ?nx95
    rintro v L' ⟨⟨a7, c7, rfl⟩, rfl⟩
    refine D.qw [18] rfl (by kernel_rfl) (Quiet.buildN (pl := [(0, 1), (1, 1), (2, 9)]) (us := [(0, vstr x.data), (1, .slice a7 x.acl.length c7), (2, .agg ([vint zx, vint zx, vint zx, vint 0, vint 0, vint 0, vint x.own, vint 0, vint 0] : List Value).toArray)]) (cells := [vstr x.data, .slice a7 x.acl.length c7] ++ [vint zx, vint zx, vint zx, vint 0, vint 0, vint 0, vint x.own, vint 0, vint 0]) Tryz.underlying106 (by kernel_rfl) ze_106 rfl (fill_node _ _ _ _ _ _ _ _ _ _ _ _ _)) ?_
    refine D.h rfl (by kernel_rfl) (OpSpec.box rfl) (by (repeat' constructor)) ?nx98
    rintro v L' ⟨tn, rfl, rfl⟩
    refine D.ph ?_
    refine Phases.go [] (by (repeat' constructor)) ?_
    refine D.h rfl (by kernel_rfl) (OpSpec.mapSet (m := m) (enc := ndV) (v := ((tn, (.slice a7 x.acl.length c7, newN x zx)) : Nm)) (k := x.path) (KeyLaw.str Tryz.underlying9) rfl rfl rfl Tryz.underlying107 ?he100) (by (repeat' constructor)) ?nx101
    case he100 => rfl
    rintro v L' rfl
    refine D.ph (Phases.fin ?_)
    refine G.toRd (by (repeat' constructor)) ?_
    refine G.ndFold (x := (x.path, ((tn, (.slice a7 x.acl.length c7, newN x zx)) : Nm))) (by (repeat' constructor)) rfl rfl rfl rfl ?_
    refine G.bigTake hal (by (repeat' constructor)) ?_
    refine G.bigPut (f := inN) (m := m) x.path ((tn, (.slice a7 x.acl.length c7, newN x zx)) : Nm) rfl (by (repeat' constructor)) ?_
    refine G.trFold (τ := ({ τ with nodes := sset τ.nodes x.path (newN x zx) } : Tr)) (hI.lay x.path ((tn, (.slice a7 x.acl.length c7, newN x zx)) : Nm)) (by (repeat' constructor)) rfl rfl rfl ?_
    refine G.then_n (G.seq (G.region (G.q (Quiet.move rfl) rfl (G.q (Quiet.move rfl) rfl (G.q (Quiet.fieldAddr rfl fo_37_5) rfl ?_)))))
    refine G.q (Quiet.load rfl ag_3 (by (repeat' constructor)) (rfl)) rfl ?_
    refine G.q (Quiet.move rfl) rfl ?_
    refine G.op (OpSpec.call Tryz.func120 rfl rfl (vs := [_, _, _, _]) rfl (trkid_spec t ({ τ with nodes := sset τ.nodes x.path (newN x zx) } : Tr) (parentZ x.path) x.num zx)) (by (repeat' constructor)) rfl ?nx106
    rintro v L' ⟨rfl, rfl⟩
    refine G.nil (G.then_n (G.seq (G.region (G.q (Quiet.move rfl) rfl (G.q (Quiet.fieldAddr rfl fo_37_1) rfl ?_)))))
    refine G.q (Quiet.load rfl ag_9 (by (repeat' constructor)) (rfl)) rfl ?_
    refine G.q (Quiet.move rfl) rfl ?_
    refine G.q (Quiet.build (us := [(0, _), (1, _), (2, _)]) fl_75 ze_75 rfl rfl (by simp [isCell])) rfl ?_
    refine G.q (Quiet.move rfl) rfl (G.q (Quiet.move rfl) rfl ?_)
    refine G.q (Quiet.build (us := [(0, _), (1, _), (2, _)]) fl_75 ze_75 rfl rfl (by simp [isCell])) rfl ?_
    refine G.op (OpSpec.buildSlice (vs := [_, _]) el_30 ze_75 rfl rfl rfl rfl (by first | (simp [Value.cells]; done) | (intro v hv; simp only [List.mem_cons, List.not_mem_nil, or_false] at hv; (repeat (first | (subst hv; rfl) | (rcases hv with hv | hv; (subst hv; rfl)))))) (by decide)) (by (repeat' constructor)) rfl ?nx114
    rintro v L' ⟨bo, rfl, rfl⟩
    refine G.q (Quiet.assign rfl) rfl (G.nil ?_)
    refine G.slMakeN 3 2 (b := bo) (xs := ([(3, (x.path, zx)), (4, (parentZ x.path, zx))] : List Ev).flatMap evC) (by (repeat' constructor)) rfl rfl ?_
    refine G.then_n (G.ret ?_)
    have hc : createZ τ x zx = (kidT ({ τ with nodes := sset τ.nodes x.path (newN x zx) } : Tr) (parentZ x.path) x.num zx, [(3, (x.path, zx)), (4, (parentZ x.path, zx))]) := by unfold createZ; rw [if_pos ⟨h2_16, hI.some_iff hup⟩, if_pos (hI.some_iff hal)]
    refine G.trCast (τ' := (createZ τ x zx).1) (by (repeat' constructor)) (by rw [hc]) ?_
    refine G.slCast (T := 75) (sz := 3) (m' := (createZ τ x zx).2.length) (xs' := (createZ τ x zx).2.flatMap evC) (by (repeat' constructor)) (by rw [hc]; rfl) (by first | (rw [hc]; done) | (rw [hc]; rfl)) ?_
    exact G.done (l := [.tmp 6]) rfl rfl ⟨_, _, by rw [hc]; rfl, rfl⟩ (by (repeat' constructor)) (by (repeat' constructor))

end Go.Proofs.YtnnbelmpbmfdnaaGreatDoor

