/- Own work: struct values out of their parts; slices out of their elements. -/
import Derived.Test.YtnnbelmpbmfdnaaDoorSlSlice
namespace Go.Proofs.YtnnbelmpbmfdnaaDoor
open Go

/-- A struct all of whose fields are one cell each: how many. -/
def flatOf (P : Program) (t : TypeId) : Option Nat :=
  match P.underlying t with
  | some (.struct fs) => if (List.range fs.size).all (fun i => (fs[i]?).any fun f => f.offset == i && ((P.info? f.type).map (·.size)) == some 1) then some fs.size else none
  | _ => none
section
variable {P : Program} {E : Env} {L R : List HP} {ty : TypeId} {w : World}

theorem mapM_places {fs : Array Field} (h : (List.range fs.size).all (fun i => (fs[i]?).any fun f => f.offset == i && ((P.info? f.type).map (·.size)) == some 1) = true) :
    (fs.mapM (m := Sem) fun f => do pure (f.offset, ← sizeOf f.type)).run P w = .ok ((List.range fs.size).map fun i => (i, 1)).toArray w := by
  have key : ∀ (l : List Field) (k : Nat), (∀ i f, l[i]? = some f → f.offset = k + i ∧ (P.info? f.type).map (·.size) = some 1) →
      (l.mapM (m := Sem) fun f => do pure (f.offset, ← sizeOf f.type)).run P w = .ok ((List.range' k l.length).map fun i => (i, 1)) w := by
    intro l
    induction l with
    | nil => intro k _; rfl
    | cons f l ih =>
      intro k hl
      rw [List.mapM_cons]
      obtain ⟨h1, h2⟩ := hl 0 f rfl
      rw [run_bind (a := (k, 1)) (w' := w) (by rw [run_bind (run_sizeOf (k := 1) h2), h1]; rfl)]
      rw [run_bind (ih (k + 1) (fun i f' hf => by have := hl (i + 1) f' (by simpa using hf); exact ⟨by omega, this.2⟩))]
      simp [run_pure, List.range'_succ]
  have hk := key fs.toList 0 (fun i f hf => by
    have hlt : i < fs.size := by
      rcases Nat.lt_or_ge i fs.size with h' | h'
      · exact h'
      · rw [List.getElem?_eq_none (by simpa using h')] at hf; cases hf
    have := List.all_eq_true.1 h i (List.mem_range.2 hlt)
    rw [show fs[i]? = some f from by rw [← Array.getElem?_toList]; exact hf] at this
    simp only [Option.any_some, Bool.and_eq_true, beq_iff_eq] at this
    exact ⟨by omega, this.2⟩)
  have hm : (fs.mapM (m := Sem) fun f => do pure (f.offset, ← sizeOf f.type)) = (Functor.map List.toArray (fs.toList.mapM (m := Sem) fun f => do pure (f.offset, ← sizeOf f.type))) := by
    rw [Array.mapM_eq_mapM_toList]
  rw [hm]
  show (Functor.map List.toArray _ : Sem _).run P w = _
  rw [show (Functor.map List.toArray (fs.toList.mapM (m := Sem) fun f => do pure (f.offset, ← sizeOf f.type)) : Sem _) = ((fs.toList.mapM (m := Sem) fun f => do pure (f.offset, ← sizeOf f.type)) >>= fun l => pure l.toArray) from rfl]
  rw [run_bind hk]
  simp [run_pure, List.range_eq_range']

def setAll : List Value → List (Nat × Value) → List Value
  | l, [] => l
  | l, (i, v) :: us => setAll (l.set i v) us
theorem setAll_length : ∀ (us : List (Nat × Value)) (l : List Value), (setAll l us).length = l.length := by
  intro us
  induction us with
  | nil => intro l; rfl
  | cons u us ih => intro l; simp [setAll, ih]
theorem fill_flat {n : Nat} (place : Nat → Option (Nat × Nat)) (hp : ∀ i, i < n → place i = some (i, 1)) : ∀ (us : List (Nat × Value)) (l : List Value), l.length = n → (∀ u ∈ us, u.1 < n ∧ isCell u.2 = true) →
    Instr.fill place l.toArray us = some (setAll l us).toArray := by
  intro us
  induction us with
  | nil => intro l _ _; rfl
  | cons u us ih =>
    intro l hl hu
    obtain ⟨i, v⟩ := u
    obtain ⟨h1, h2⟩ := hu (i, v) (by simp)
    unfold Instr.fill
    rw [hp i h1]
    dsimp only
    rw [cells_of_isCell h2, if_neg (by simp; omega)]
    have : (#[v].zipIdx.foldl (fun cs (c, j) => cs.setIfInBounds (i + j) c) l.toArray : Array Value) = (l.set i v).toArray := by simp
    rw [this]
    exact ih _ (by simpa using hl) (fun u hu' => hu u (by simp [hu']))
theorem agree_parts {ρ : Operand → Value} (ha : Agrees E ρ) : ∀ (ps : List (Nat × Operand)) (us : List (Nat × Value)), ps.map (fun p => (p.1, ev E p.2)) = us.map (fun p => (p.1, some p.2)) → ps.map (fun p => (p.1, ρ p.2)) = us := by
  intro ps
  induction ps with
  | nil => intro us h; cases us with
    | nil => rfl
    | cons u us => simp at h
  | cons p ps ih => intro us h; cases us with
    | nil => simp at h
    | cons u us =>
      simp only [List.map_cons, List.cons.injEq, Prod.mk.injEq] at h ⊢
      refine ⟨?_, ih us h.2⟩
      obtain ⟨i, v⟩ := u
      obtain ⟨⟨h1, h2⟩, -⟩ := h
      simp only at h1 h2
      rw [h1, ha _ _ h2]
theorem Quiet.build {t : TypeId} {parts : Array (Nat × Operand)} {n : Nat} {zl : List Value} {us : List (Nat × Value)} (hf : flatOf P t = some n) (hz : zeroOf P t = some (.agg zl.toArray)) (hzl : zl.length = n)
    (hu : parts.toList.map (fun p => (p.1, ev E p.2)) = us.map (fun p => (p.1, some p.2))) (hc : ∀ u ∈ us, u.1 < n ∧ isCell u.2 = true) :
    Quiet P ⟨none, .build t parts, ty, "", #[], none⟩ E L (.agg (setAll zl us).toArray) := by
  intro ρ w ha _
  unfold flatOf at hf
  split at hf <;> (try cases hf)
  rename_i fs hus
  split at hf <;> (try cases hf)
  rename_i hall
  refine run_v ?_
  show (Instr.build t (parts.map fun p => (p.1, ρ p.2))).run P w = _
  unfold Instr.build
  rw [run_bind (run_zero hz)]
  dsimp only
  rw [run_bind (run_underlying hus)]
  dsimp only
  have hpl := mapM_places (P := P) (w := w) hall
  rw [run_bind hpl]
  have hparts : (parts.map fun p => (p.1, ρ p.2)).toList = us := by
    rw [Array.toList_map]; exact agree_parts ha _ _ hu
  rw [hparts]
  rw [show Value.cells (.agg zl.toArray) = zl.toArray from rfl, fill_flat (n := fs.size) (fun i => ((List.range fs.size).map fun i => (i, 1)).toArray[i]?) (fun i hi => by simp [hi]) us zl hzl hc]
  rfl
/-- A slice out of its elements. -/
theorem fill_seq {sz : Nat} : ∀ (vs : List (List Value)) (k : Nat) (pre post : List Value), pre.length = k * sz → (∀ v ∈ vs, v.length = sz) → post.length = vs.length * sz →
    ∀ (us : List (Nat × Value)), us.map (fun u => (u.1, u.2.cells)) = (vs.zipIdx k).map (fun p => (p.2, p.1.toArray)) → Instr.fill (fun i => some (i * sz, sz)) (pre ++ post).toArray us = some (pre ++ vs.flatten).toArray := by
  intro vs
  induction vs with
  | nil =>
    intro k pre post _ _ hp us hu
    have : us = [] := by simpa using hu
    subst this
    have : post = [] := by simpa using hp
    subst this
    simp [Instr.fill]
  | cons v vs ih =>
    intro k pre post h1 h2 h3 us hu
    cases us with
    | nil => simp at hu
    | cons u us =>
      obtain ⟨i, x⟩ := u
      simp only [List.zipIdx_cons, List.map_cons, List.cons.injEq, Prod.mk.injEq] at hu
      obtain ⟨⟨rfl, hx⟩, hu⟩ := hu
      have hv := h2 v (by simp)
      unfold Instr.fill
      dsimp only
      rw [hx]
      simp only [List.length_cons, Nat.add_mul, Nat.one_mul] at h3
      rw [if_neg (by simp [hv]; omega)]
      have hfold : ∀ (v : List Value) (j : Nat) (pre post : List Value), pre.length = i * sz + j → v.length ≤ post.length → ((v.zipIdx j).foldl (fun cs x => cs.setIfInBounds (i * sz + x.2) x.1) (pre ++ post).toArray : Array Value) = (pre ++ v ++ post.drop v.length).toArray := by
        intro v
        induction v with
        | nil => intro j pre post _ _; simp
        | cons c v ihv =>
          intro j pre post hpre hle
          cases post with
          | nil => simp at hle
          | cons q post =>
            simp only [List.zipIdx_cons, List.foldl_cons, List.length_cons] at *
            have hset : ((pre ++ q :: post).toArray.setIfInBounds (i * sz + j) c) = ((pre ++ [c]) ++ post).toArray := by
              rw [← hpre]; simp
            have := ihv (j + 1) (pre ++ [c]) post (by simp; omega) (by omega)
            rw [hset, this]
            simp
      have hf := hfold v 0 pre post (by simpa using h1) (by rw [hv]; omega)
      have hz0 : (Array.foldl (fun (cs : Array Value) (x : Value × Nat) => cs.setIfInBounds (i * sz + x.2) x.1) (pre ++ post).toArray v.toArray.zipIdx) = (pre ++ v ++ post.drop v.length).toArray := by
        rw [← Array.foldl_toList, Array.toList_zipIdx]; exact hf
      rw [show (v.toArray.zipIdx.foldl (fun cs (c, j) => cs.setIfInBounds (i * sz + j) c) (pre ++ post).toArray : Array Value) = (pre ++ v ++ post.drop v.length).toArray from hz0]
      have := ih (i + 1) (pre ++ v) (post.drop v.length) (by simp [h1, hv, Nat.add_mul]) (fun y hy => h2 y (by simp [hy])) (by simp [hv]; omega) us hu
      rw [this]
      simp
theorem OpSpec.buildSlice {t e : TypeId} {len : Nat} {parts : Array (Nat × Operand)} {sz by' : Nat} {z : Value} {zl : List Value} {vs : List Value} (ht : elemOf' P t = some (e, sz, by')) (hz : zeroOf P e = some z) (hzc : z.cells = zl.toArray) (hzl : zl.length = sz)
    (hu : parts.toList.map (fun p => (p.1, ev E p.2)) = vs.zipIdx.map (fun p => (p.2, some p.1))) (hlen : vs.length = len) (hc : ∀ v ∈ vs, v.cells.size = sz) (hsmall : len * sz ≤ 16777216) :
    OpSpec P ⟨none, .buildSlice t len parts, ty, "", #[], none⟩ E [] fun v L' => ∃ b, v = .slice (some ⟨b, 0, none⟩) len len ∧ L' = [ptc b (vs.map fun v => v.cells.toList).flatten e] := by
  intro ρ w F ha hs
  unfold elemOf' at ht
  split at ht <;> (try cases ht)
  rename_i e' hu'
  split at ht <;> (try cases ht)
  rename_i inf hin
  have hparts : (parts.map fun p => (p.1, ρ p.2)).toList = (vs.zipIdx.map fun p => (p.2, p.1)) := by
    rw [Array.toList_map]
    refine agree_parts ha _ _ ?_
    rw [hu]; simp
  have hrun : (execOp ρ ⟨none, .buildSlice t len parts, ty, "", #[], none⟩).run P w = .ok (.value (.slice (some ⟨w.heap.size, 0, none⟩) len len)) { w with heap := w.heap.push (.cells (vs.map fun v => v.cells.toList).flatten.toArray e) } := by
    refine run_v ?_
    show (Instr.buildSlice t len (parts.map fun p => (p.1, ρ p.2))).run P w = _
    unfold Instr.buildSlice
    rw [run_bind (run_underlying hu')]
    dsimp only
    rw [run_bind (run_sizeOf (k := inf.size) (by simp [sizeOf', hin]))]
    rw [if_neg (by have : (2 : Nat) ^ 24 = 16777216 := by decide
                   omega)]
    have hfill : ∀ cells : List Value, cells.length = len * inf.size → Instr.fill (fun i => some (i * inf.size, inf.size)) cells.toArray (parts.map fun p => (p.1, ρ p.2)).toList = some (vs.map fun v => v.cells.toList).flatten.toArray := by
      intro cells hcl
      rw [hparts]
      have := fill_seq (sz := inf.size) (vs.map fun v => v.cells.toList) 0 [] cells (by simp) (fun x hx => by
        obtain ⟨v, hv, rfl⟩ := List.mem_map.1 hx
        simpa using hc v hv) (by simpa [hlen] using hcl) (vs.zipIdx.map fun p => (p.2, p.1)) (by
        rw [List.zipIdx_map]; simp)
      simpa using this
    by_cases h0 : len * inf.size = 0
    · rw [if_pos h0, run_bind run_pure, h0]
      have he : (Array.range 0).map (fun x => (#[] : Array Value)[x % (#[] : Array Value).size]!) = ([] : List Value).toArray := by simp
      rw [he, hfill [] (by simp [h0])]
      dsimp only
      rw [run_bind (run_newRow e _)]; rfl
    · rw [if_neg h0, run_bind (run_zero hz), run_bind run_pure]
      have he : (Array.range (len * inf.size)).map (fun x => z.cells[x % z.cells.size]!) = ((List.range (len * inf.size)).map fun x => z.cells[x % z.cells.size]!).toArray := by
        apply Array.ext'; simp
      rw [he, hfill _ (by simp)]
      dsimp only
      rw [run_bind (run_newRow e _)]; rfl
  unfold Runs; rw [hrun]
  exact ⟨_, ⟨_, rfl, rfl⟩, St.new (L := F) hs _, Keeps.new _ _⟩
theorem flat1 : ∀ (vs : List Value), (∀ v ∈ vs, isCell v = true) → (vs.map fun v => v.cells.toList).flatten = vs := by
  intro vs
  induction vs with
  | nil => intro _; rfl
  | cons v vs ih =>
    intro h
    rw [List.map_cons, List.flatten_cons, cells_of_isCell (h v (by simp)), ih (fun u hu => h u (by simp [hu]))]
    rfl
theorem OpSpec.buildSlice1 {t e : TypeId} {len : Nat} {parts : Array (Nat × Operand)} {by' : Nat} {z : Value} {zl : List Value} {vs : List Value} (ht : elemOf' P t = some (e, 1, by')) (hz : zeroOf P e = some z) (hzc : z.cells = zl.toArray) (hzl : zl.length = 1)
    (hu : parts.toList.map (fun p => (p.1, ev E p.2)) = vs.zipIdx.map (fun p => (p.2, some p.1))) (hlen : vs.length = len) (hc : (vs.all isCell) = true) (hsmall : len * 1 ≤ 16777216) :
    OpSpec P ⟨none, .buildSlice t len parts, ty, "", #[], none⟩ E [] fun v L' => ∃ b, v = .slice (some ⟨b, 0, none⟩) len len ∧ L' = [ptc b vs e] := by
  have hc' : ∀ v ∈ vs, isCell v = true := fun v hv => List.all_eq_true.1 hc v hv
  have := OpSpec.buildSlice (P := P) (E := E) (ty := ty) ht hz hzc hzl hu hlen (fun v hv => by rw [cells_of_isCell (hc' v hv)]; rfl) hsmall
  rwa [flat1 vs hc'] at this
end
end Go.Proofs.YtnnbelmpbmfdnaaDoor
