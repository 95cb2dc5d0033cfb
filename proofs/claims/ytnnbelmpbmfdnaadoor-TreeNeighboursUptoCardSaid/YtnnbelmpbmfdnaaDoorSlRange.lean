/- Own work: loops over a map that is not written meanwhile: the iterator and the map as one atom. -/
import Derived.Test.YtnnbelmpbmfdnaaDoorSlSlice
import Derived.Laws.IdiomRangeMap
namespace Go.Proofs.YtnnbelmpbmfdnaaDoor
open Go

/-- An iterator over a map: m are the map's entries (f: as they lie there), s those that were handed out. -/
def rangeR {α : Type} (f : α → Value × Value) (it r : Nat) (m s : List α) : HP := fun h => ∃ (zs ss rest : List (MapEntry × α)) (clock : Nat),
  h r = some (.map (zs.map (·.1)).toArray clock) ∧ h it = some (.mapIter (some r) clock (ss.map (·.1.born)).toArray clock) ∧ r ≠ it ∧ zs.map (·.2) = m ∧
  (∀ z ∈ zs, z.1.born < clock ∧ (z.1.key, z.1.val) = f z.2) ∧ (zs.map (·.1.born)).Nodup ∧ zs.Perm (ss ++ rest) ∧ ss.map (·.2) = s
theorem rangeR_map {α : Type} {f : α → Value × Value} {it r : Nat} {m s : List α} {h : Hp} (hr : rangeR f it r m s h) : mapR r (m.map f) h := by
  obtain ⟨zs, ss, rest, clock, h1, h2, h3, h4, h5, h6, h7, h8⟩ := hr
  refine ⟨zs.map (·.1), clock, h1, ?_, ?_, by rw [List.map_map]; exact h6⟩
  · subst h4
    rw [List.map_map, List.map_map]
    exact List.map_congr_left fun z hz => (h5 z hz).2
  · intro e he
    obtain ⟨z, hz, rfl⟩ := List.mem_map.1 he
    exact (h5 z hz).1
theorem getElem_erase_perm {α : Type} : ∀ {l : List α} {j : Nat} (hj : j < l.length), l.Perm (l[j] :: l.eraseIdx j) := by
  intro l
  induction l with
  | nil => intro j hj; simp at hj
  | cons a l ih =>
    intro j hj
    cases j with
    | zero => simp
    | succ j =>
      simp only [List.getElem_cons_succ, List.eraseIdx_cons_succ]
      exact (List.Perm.cons a (ih (by simpa using hj))).trans (List.Perm.swap _ _ _)
section
variable {P : Program} {E : Env} {L R : List HP} {ty : TypeId} {w : World}
theorem OpSpec.range {α : Type} {f : α → Value × Value} {m : List α} {t kt et : TypeId} {x : Operand} {r : Nat} {ents : List (Value × Value)} (hx : ev E x = some (.map (some r))) (ht : P.underlying t = some (.map kt et)) (he : ents = m.map f) :
    OpSpec P ⟨none, .range t x, ty, "", #[], none⟩ E [mapR r ents] fun v L' => ∃ it, v = vptr it ∧ L' = [rangeR f it r m []] := by
  intro ρ w F ha hs
  subst he
  obtain ⟨h1, a1, es, c, hb, hes, hbo, hnd⟩ := sep_head hs
  have hb' := a1 _ _ hb
  have hlt : r < w.heap.size := by
    rcases Nat.lt_or_ge r w.heap.size with h | h
    · exact h
    · simp [Array.getElem?_eq_none h] at hb'
  have hrun : (execOp ρ ⟨none, .range t x, ty, "", #[], none⟩).run P w = .ok (.value (vptr w.heap.size)) { w with heap := w.heap.push (.mapIter (some r) c #[] c) } := by
    refine run_v ?_
    show (Instr.range t (ρ x)).run P w = _
    rw [ha x _ hx]; exact Go.run_range_map w t kt et r _ _ ht hb'
  unfold Runs; rw [hrun]
  refine ⟨_, ⟨_, rfl, rfl⟩, ?_, Keeps.new _ _⟩
  have hn := St.new hs (.mapIter (some r) c #[] c)
  obtain ⟨g1, g2, gd, b1, b2, gp, k1, k2, kd, c1, c2, kp, kF⟩ := hn
  have kr : k1 r = some (.map es.toArray c) := by
    obtain ⟨es', c', q1, -⟩ := kp
    have q2 := b2 _ _ (c1 _ _ q1)
    have q3 : (w.heap.push (.mapIter (some r) c #[] c))[r]? = some (.map es.toArray c) := by
      rw [Array.getElem?_push_lt hlt]; rw [Array.getElem?_eq_getElem hlt] at hb'; exact hb'
    have q2' : (w.heap.push (.mapIter (some r) c #[] c))[r]? = some (.map es'.toArray c') := q2
    rw [q3] at q2'
    rw [q1, ← q2']
  refine ⟨hunion g1 k1, k2, fun b => ?_, fun b o e => ?_, fun b o e => b2 _ _ (c2 _ _ e), ?_, kF⟩
  · cases e : k2 b with
    | none => exact .inr rfl
    | some o =>
      refine .inl ?_
      have e1 : g1 b = none := (gd b).resolve_right (by rw [c2 _ _ e]; simp)
      have e2 : k1 b = none := (kd b).resolve_right (by rw [e]; simp)
      simp [hunion, e1, e2]
  · rcases hunion_some e with e | e
    · exact b1 _ _ e
    · exact b2 _ _ (c1 _ _ e)
  · have hne : r ≠ w.heap.size := by omega
    have hgr : g1 r = none := (gd r).resolve_right (by rw [c1 _ _ kr]; simp)
    have hl : es.length = m.length := by have := congrArg List.length hes; simpa using this
    refine ⟨es.zip m, [], es.zip m, c, ?_, hunion_left gp, hne, ?_, ?_, ?_, by simp, rfl⟩
    · rw [List.map_fst_zip (by omega)]
      simp [hunion, hgr, kr]
    · rw [List.map_snd_zip (by omega)]
    · intro z hz
      refine ⟨hbo _ (List.of_mem_zip hz).1, ?_⟩
      obtain ⟨i, hi, rfl⟩ := List.mem_iff_getElem.1 hz
      simp only [List.length_zip] at hi
      have := congrArg (fun l => l[i]?) hes
      simp [show i < es.length by omega, show i < m.length by omega] at this
      simpa using this
    · have : (es.zip m).map (fun z => z.1.born) = ((es.zip m).map (·.1)).map (·.born) := by rw [List.map_map]; rfl
      rw [this, List.map_fst_zip (by omega)]; exact hnd

theorem perm_left {α : Type} {zs ss rest : List (MapEntry × α)} (hp : zs.Perm (ss ++ rest)) (hn : (zs.map (·.1.born)).Nodup) : (zs.map (·.1)).filter (fun e => !((ss.map (·.1.born)).toArray.contains e.born)) = (zs.filter fun z => !((ss.map (·.1.born)).contains z.1.born)).map (·.1) ∧
    (zs.filter fun z => !((ss.map (·.1.born)).contains z.1.born)).Perm rest := by
  constructor
  · rw [List.filter_map]
    congr 1
    refine List.filter_congr fun z _ => ?_
    simp
  · refine (hp.filter _).trans ?_
    rw [List.filter_append]
    have hn' : ((ss ++ rest).map (·.1.born)).Nodup := (hp.map _).nodup_iff.1 hn
    rw [List.map_append] at hn'
    obtain ⟨n1, n2, n3⟩ := List.nodup_append.1 hn'
    have e1 : ss.filter (fun z => !((ss.map (·.1.born)).contains z.1.born)) = [] := by
      rw [List.filter_eq_nil_iff]
      intro z hz
      have : (ss.map (·.1.born)).contains z.1.born = true := by rw [List.contains_eq_mem]; exact decide_eq_true (List.mem_map.2 ⟨z, hz, rfl⟩)
      rw [this]; simp
    have e2 : rest.filter (fun z => !((ss.map (·.1.born)).contains z.1.born)) = rest := by
      rw [List.filter_eq_self]
      intro z hz
      simp only [Bool.not_eq_true', List.contains_eq_mem, decide_eq_false_iff_not]
      intro hm
      exact n3 _ hm _ (List.mem_map.2 ⟨z, hz, rfl⟩) rfl
    rw [e1, e2, List.nil_append]
theorem OpSpec.next {α : Type} {f : α → Value × Value} {m s : List α} {x : Operand} {it r : Nat} (hx : ev E x = some (vptr it)) :
    OpSpec P ⟨none, .next x false, ty, "", #[], none⟩ E [rangeR f it r m s] fun v L' => (v = .tuple #[.bool false] ∧ m.Perm s ∧ L' = [rangeR f it r m s]) ∨
      ∃ y rest, v = .tuple #[.bool true, (f y).1, (f y).2] ∧ m.Perm (s ++ y :: rest) ∧ L' = [rangeR f it r m (s ++ [y])] := by
  intro ρ w F ha hs
  obtain ⟨h1, h2, hd, a1, a2, ⟨zs, ss, rest, clock, q1, q2, q3, q4, q5, q6, q7, q8⟩, hF⟩ := hs
  have hr := a1 _ _ q1
  have hi := a1 _ _ q2
  have hgr : ∀ {w' : World}, w'.heap[r]? = some (.map (zs.map (·.1)).toArray clock) → (getObj r).run P w' = .ok (.map (zs.map (·.1)).toArray clock) w' := fun h => run_getMap h
  have hgi : (getObj it).run P w = .ok (.mapIter (some r) clock (ss.map (·.1.born)).toArray clock) w := by
    simp only [getObj, Sem.run, hi]
  have hold : ∀ e ∈ (zs.map (·.1)).toArray.toList, e.born < clock := by
    intro e he
    simp only [List.mem_map] at he
    obtain ⟨z, hz, rfl⟩ := he
    exact (q5 z hz).1
  have htest := Go.next_test_false (ss.map (·.1.born)).toArray (zs.map (·.1)).toArray clock clock hold (Nat.le_refl _)
  obtain ⟨p1, p2⟩ := perm_left q7 q6
  have hleft : (zs.map (·.1)).toArray.filter (fun e => !(ss.map (·.1.born)).toArray.contains e.born) = ((zs.filter fun z => !((ss.map (·.1.born)).contains z.1.born)).map (·.1)).toArray := by
    rw [← p1, List.filter_toArray]
  generalize (zs.filter fun z => !((ss.map (·.1.born)).contains z.1.born)) = lft at p2 hleft
  have hmem : ∀ z ∈ lft, z ∈ zs := fun z hz => q7.mem_iff.2 (List.mem_append_right _ (p2.mem_iff.1 hz))
  have e1 : ((lft.map (·.1)).toArray).filter (fun x => decide (x.born < clock)) = (lft.map (·.1)).toArray := by
    apply Array.filter_eq_self.2
    intro e he
    simp only [List.mem_toArray, List.mem_map] at he
    obtain ⟨z, hz, rfl⟩ := he
    simpa using (q5 z (hmem z hz)).1
  have e2 : ((lft.map (·.1)).toArray).filter (fun x => decide (x.born ≥ clock)) = #[] := by
    rw [Array.filter_eq_empty_iff]
    intro e he
    simp only [List.mem_toArray, List.mem_map] at he
    obtain ⟨z, hz, rfl⟩ := he
    have := (q5 z (hmem z hz)).1
    simp; omega
  have hstart : (execOp ρ ⟨none, .next x false, ty, "", #[], none⟩).run P w = (do pure (Next.value (← Instr.next (vptr it) false ty)) : Sem Next).run P w := by
    show (do pure (Next.value (← Instr.next (ρ x) false ty)) : Sem Next).run P w = _
    rw [ha x _ hx]
  by_cases h0 : lft = []
  · subst h0
    have hrun : (Instr.next (vptr it) false ty).run P w = .ok (.tuple #[.bool false]) w := by
      simp only [Instr.next, Sem.run_bind, hgi, Result.andThen, hgr hr, htest, Bool.false_eq_true, if_false, hleft, e1, e2]
      simp [choose, Sem.run, Question.forced]
    unfold Runs
    rw [hstart, run_v hrun]
    refine ⟨_, .inl ⟨rfl, ?_, rfl⟩, ⟨h1, h2, hd, a1, a2, ⟨zs, ss, rest, clock, q1, q2, q3, q4, q5, q6, q7, q8⟩, hF⟩, .refl _⟩
    have : rest = [] := p2.nil_eq.symm
    subst this
    rw [← q4, ← q8]
    simpa using q7.map (·.2)
  · have hne : ((lft.map (·.1)).toArray).isEmpty = false := by
      cases lft with
      | nil => exact absurd rfl h0
      | cons a l => simp
    have hch : ∃ (j : Nat) (k : Nat), j < lft.length ∧ (choose (Question.mapNext lft.length)).run P w = .ok j { w with drawn := w.drawn + k } := by
      have h0' : 0 < lft.length := List.length_pos_iff.2 h0
      by_cases hf : lft.length ≤ 1
      · exact ⟨0, 0, by omega, by simp [choose, Sem.run, Question.forced, hf]⟩
      · exact ⟨_, 1, Nat.mod_lt _ (by omega), by
          simp only [choose, Sem.run, Question.forced, decide_eq_true_eq, hf, if_false, Question.cut]
          rfl⟩
    obtain ⟨j, k, hj, hrunc⟩ := hch
    have hitlt : it < w.heap.size := by
      rcases Nat.lt_or_ge it w.heap.size with h | h
      · exact h
      · simp [Array.getElem?_eq_none h] at hi
    have hrun : (Instr.next (vptr it) false ty).run P w = .ok (.tuple #[.bool true, lft[j].1.key, lft[j].1.val]) { w with drawn := w.drawn + k, heap := w.heap.setIfInBounds it (.mapIter (some r) clock ((ss.map (·.1.born)).toArray.push lft[j].1.born) clock) } := by
      simp only [Instr.next, Sem.run_bind, hgi, Result.andThen, hgr hr, htest, Bool.false_eq_true, if_false, hleft, e1, e2]
      simp only [Array.append_empty, hne, Bool.false_eq_true, if_false, Array.empty_append, Array.size_map, List.size_toArray, List.length_map, hrunc]
      simp only [Array.getElem?_map, List.getElem?_toArray, List.getElem?_map, List.getElem?_eq_getElem hj, Option.map_some]
      simp only [Sem.run_bind, setObj, Sem.run, hi, Result.andThen]
      rfl
    unfold Runs
    rw [hstart, run_v hrun]
    have hz : lft[j] ∈ lft := List.getElem_mem hj
    have hzz := q5 _ (hmem _ hz)
    have hkv : (f lft[j].2) = (lft[j].1.key, lft[j].1.val) := hzz.2.symm
    have hp3 : zs.Perm ((ss ++ [lft[j]]) ++ lft.eraseIdx j) := by
      refine q7.trans ?_
      rw [List.append_assoc]
      refine List.Perm.append_left _ (p2.symm.trans ?_)
      have : lft.Perm (lft[j] :: lft.eraseIdx j) := getElem_erase_perm hj
      exact this
    refine ⟨[rangeR f it r m (s ++ [lft[j].2])], .inr ⟨lft[j].2, (lft.eraseIdx j).map (·.2), by rw [hkv], ?_, rfl⟩, ?_, ⟨rfl, rfl, rfl, by simp⟩⟩
    · rw [← q4, ← q8]
      have := hp3.map (·.2)
      simpa using this
    · have h2it : h2 it = none := (hd it).resolve_left (by rw [q2]; simp)
      refine ⟨fun c => if c = it then some (.mapIter (some r) clock ((ss.map (·.1.born)).toArray.push lft[j].1.born) clock) else h1 c, h2, fun c => ?_, fun c o e => ?_, fun c o e => ?_, ?_, hF⟩
      · by_cases e : c = it
        · exact .inr (e ▸ h2it)
        · simp only [e, if_false]; exact hd c
      · by_cases hc : c = it
        · subst hc; simp at e; subst e; simp [hitlt]
        · simp only [hc, if_false] at e
          simp only [Array.getElem?_setIfInBounds, Ne.symm hc, if_false]
          exact a1 _ _ e
      · have hc : c ≠ it := by rintro rfl; rw [h2it] at e; cases e
        simp only [Array.getElem?_setIfInBounds, Ne.symm hc, if_false]
        exact a2 _ _ e
      · refine ⟨zs, ss ++ [lft[j]], lft.eraseIdx j, clock, by simp only [q3, if_false]; exact q1, by simp, q3, q4, q5, q6, hp3, by simp [q8]⟩
theorem Quiet.entry {α : Type} {f : α → Value × Value} {m s : List α} {x : Operand} {it r : Nat} {y : α} (hx : ev E x = some (vptr it)) (hL : Pick (rangeR f it r m (s ++ [y])) L R) :
    Quiet P ⟨none, .entry x, ty, "", #[], none⟩ E L (.tuple #[(f y).1, (f y).2]) := by
  intro ρ w ha hs
  obtain ⟨h1, a1, zs, ss, rest, clock, q1, q2, q3, q4, q5, q6, q7, q8⟩ := sep_head (hs.pick hL)
  have hr := a1 _ _ q1
  have hi := a1 _ _ q2
  refine run_v ?_
  show (Instr.entry (ρ x)).run P w = _
  rw [ha x _ hx]
  obtain ⟨ss', z, rfl, h8⟩ : ∃ ss' z, ss = ss' ++ [z] ∧ z.2 = y := by
    rcases List.eq_nil_or_concat ss with rfl | ⟨ss', z, rfl⟩
    · simp at q8
    · refine ⟨ss', z, by simp, ?_⟩
      simp at q8
      exact q8.2
  have hz : z ∈ zs := q7.mem_iff.2 (by simp)
  have hkv := (q5 z hz).2
  rw [h8] at hkv
  have hgi : (getObj it).run P w = .ok (.mapIter (some r) clock ((ss' ++ [z]).map (·.1.born)).toArray clock) w := by
    simp only [getObj, Sem.run, hi]
  have hback : ((ss' ++ [z]).map (·.1.born)).toArray.back? = some z.1.born := by simp
  have hf : (zs.map (·.1)).toArray.find? (·.born == z.1.born) = some z.1 := by
    rw [← Array.find?_toList]
    exact Go.find_born z.1 _ (by rw [List.map_map]; exact q6) (List.mem_map.2 ⟨z, hz, rfl⟩)
  simp only [Instr.entry, Sem.run_bind, hgi, Result.andThen, hback, run_getMap hr, bne_self_eq_false, Bool.false_eq_true, if_false, hf, ← hkv]
  rfl
theorem Quiet.entryE {α : Type} {f : α → Value × Value} {m s : List α} {x : Operand} {it r : Nat} {y : α} {v : Value} (hx : ev E x = some (vptr it)) (hL : Pick (rangeR f it r m (s ++ [y])) L R) (hv : Value.tuple #[(f y).1, (f y).2] = v) :
    Quiet P ⟨none, .entry x, ty, "", #[], none⟩ E L v := hv ▸ Quiet.entry hx hL
theorem G.rangeDone {W : World} {n : Nat} {ds : List Deferred} {X : Act → World → Prop} {α : Type} {f : α → Value × Value} {m s : List α} {it r : Nat} (hL : Pick (rangeR f it r m s) L R) (h : G W n ds E (mapR r (m.map f) :: R) X) : G W n ds E L X :=
  fun a w he hk hs => h a w he hk (sep_imp (fun _ hp => rangeR_map hp) (hs.pick hL))
end
end Go.Proofs.YtnnbelmpbmfdnaaDoor
