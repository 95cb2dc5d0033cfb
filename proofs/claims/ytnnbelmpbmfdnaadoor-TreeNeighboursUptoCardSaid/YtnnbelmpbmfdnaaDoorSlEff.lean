/- Own work: the operations that write or make memory. -/
import Derived.Test.YtnnbelmpbmfdnaaDoorSlOps
namespace Go.Proofs.YtnnbelmpbmfdnaaDoor
open Go

def isCell : Value → Bool
  | .agg _ => false
  | .tuple _ => false
  | _ => true
theorem cells_of_isCell {v : Value} (h : isCell v = true) : v.cells = #[v] := by cases v <;> first | rfl | cases h
def spl (l : List Value) (off : Nat) (vs : List Value) : List Value := l.take off ++ vs ++ l.drop (off + vs.length)
theorem spl_length {l : List Value} {off : Nat} {vs : List Value} (h : off + vs.length ≤ l.length) : (spl l off vs).length = l.length := by
  simp [spl]; omega
theorem spl_one {l : List Value} {off : Nat} {v : Value} (h : off < l.length) : spl l off [v] = l.set off v := by
  simp [spl, List.set_eq_take_append_cons_drop, h]
theorem spl_cons {l : List Value} {off : Nat} {v : Value} {vs : List Value} (h : off + (v :: vs).length ≤ l.length) : spl l off (v :: vs) = spl (l.set off v) (off + 1) vs := by
  have hlt : off < l.length := by simp at h; omega
  simp only [spl]
  have e1 : (l.set off v).take (off + 1) = l.take off ++ [v] := by
    apply List.ext_getElem?
    intro i
    simp only [List.getElem?_take, List.getElem?_append, List.getElem?_set, List.length_take]
    rw [Nat.min_eq_left (Nat.le_of_lt hlt)]
    by_cases h1 : i < off
    · rw [if_pos h1, if_pos (by omega), if_neg (by omega), if_pos h1]
    · by_cases h2 : i = off
      · subst h2; simp [hlt]
      · rw [if_neg (by omega), if_neg h1]
        have : i - off ≠ 0 := by omega
        simp [this]
  have e2 : (l.set off v).drop (off + 1 + vs.length) = l.drop (off + (v :: vs).length) := by
    rw [List.drop_set_of_lt (by omega)]; congr 1; simp; omega
  rw [e1, e2]; simp

section
variable {P : Program} {E : Env} {L R : List HP} {ty : TypeId} {w : World}

def upd (w : World) (b : Nat) (o : Obj) : World := { w with heap := w.heap.setIfInBounds b o }
theorem upd_get {b : Nat} {o o' : Obj} (h : w.heap[b]? = some o) : (upd w b o').heap[b]? = some o' := by
  have : b < w.heap.size := by
    rcases Nat.lt_or_ge b w.heap.size with h1 | h1
    · exact h1
    · rw [Array.getElem?_eq_none h1] at h; cases h
  simp [upd, this]
theorem upd_upd {b : Nat} {o o' : Obj} : upd (upd w b o) b o' = upd w b o' := by
  simp [upd]
theorem upd_self {b : Nat} {o : Obj} (h : w.heap[b]? = some o) : upd w b o = w := by
  have : w.heap.setIfInBounds b o = w.heap := by
    apply Array.ext_getElem?
    intro i
    by_cases hi : b = i
    · subst hi
      have hlt : b < w.heap.size := by
        rcases Nat.lt_or_ge b w.heap.size with h1 | h1
        · exact h1
        · rw [Array.getElem?_eq_none h1] at h; cases h
      rw [Array.getElem?_setIfInBounds_self_of_lt hlt, h]
    · rw [Array.getElem?_setIfInBounds_ne hi]
  simp [upd, this]
theorem St.upd {b : Nat} {o o' : Obj} (h : St (Go.Proofs.YtnnbelmpbmfdnaaDoor.pt b o :: L) w) : St (Go.Proofs.YtnnbelmpbmfdnaaDoor.pt b o' :: L) (Go.Proofs.YtnnbelmpbmfdnaaDoor.upd w b o') := h.set
theorem Keeps.upd (w : World) (b : Nat) (o : Obj) : Keeps w (Go.Proofs.YtnnbelmpbmfdnaaDoor.upd w b o) := Keeps.set w b o
def nfz (fr : Nat × Nat) (off n : Nat) : Prop := ∀ i, off ≤ i → i < off + n → ¬ (fr.1 ≤ i ∧ i < fr.2)
theorem nfz0 (off n : Nat) : nfz (0, 0) off n := fun _ _ _ h => by simp at h
theorem run_store {b off : Nat} {l : List Value} {T : TypeId} {fr : Nat × Nat} {v : Value} (hb : w.heap[b]? = some (.cells l.toArray T fr)) (hc : off < l.length) (hv : isCell v = true) (hf : nfz fr off 1) :
    (store ⟨b, off, none⟩ v).run P w = .ok () (upd w b (.cells (l.set off v).toArray T fr)) := by
  have hcell : w.cell? ⟨b, off, none⟩ = some (l[off]) := cell_of hb (List.getElem?_eq_getElem hc)
  have hfr : w.frozen? ⟨b, off, none⟩ = false := by
    have := hf off (Nat.le_refl _) (by omega)
    simp only [World.frozen?, hb]
    cases e : (decide (fr.1 ≤ off) && decide (off < fr.2)) with
    | false => rfl
    | true => simp at e; exact absurd e this
  have hw : w.setCell ⟨b, off, none⟩ v = upd w b (.cells (l.set off v).toArray T fr) := by
    have : w.heap.modify b (fun | .cells c elem frozen => .cells (if Option.isSome (none : Option Nat) then c else c.setIfInBounds off v) elem frozen | o => o) = w.heap.setIfInBounds b (.cells (l.set off v).toArray T fr) := by
      apply Array.ext_getElem?
      intro i
      rw [Array.getElem?_modify]
      by_cases hi : b = i
      · subst hi
        have hlt : b < w.heap.size := by
          rcases Nat.lt_or_ge b w.heap.size with h | h
          · exact h
          · rw [Array.getElem?_eq_none h] at hb; cases hb
        rw [if_pos rfl, hb, Array.getElem?_setIfInBounds_self_of_lt hlt]
        simp
      · rw [if_neg hi, Array.getElem?_setIfInBounds_ne hi]
    unfold World.setCell upd
    rw [← this]; rfl
  have : (store ⟨b, off, none⟩ v).run P w = .ok () (w.setCell ⟨b, off, none⟩ v) := by
    cases v <;> first | (simp [isCell] at hv; done) | simp [store, Sem.run, hcell, hfr]
  rw [this, hw]
theorem run_storeCells {b : Nat} {T : TypeId} {fr : Nat × Nat} : ∀ (vs : List Value) (w : World) (l : List Value) (off i : Nat), w.heap[b]? = some (.cells l.toArray T fr) → off + i + vs.length ≤ l.length → (∀ v ∈ vs, isCell v = true) → nfz fr (off + i) vs.length →
    (storeCells ⟨b, off, none⟩ vs i).run P w = .ok () (upd w b (.cells (spl l (off + i) vs).toArray T fr)) := by
  intro vs
  induction vs with
  | nil =>
    intro w l off i hb _ _ _
    have : spl l (off + i) [] = l := by simp [spl]
    rw [this, upd_self hb]; rfl
  | cons v vs ih =>
    intro w l off i hb hlen hv hf
    simp only [List.length_cons] at hlen
    unfold storeCells
    rw [Addr.add_eq, run_bind (run_store hb (by omega) (hv v (by simp)) (fun j h1 h2 => hf j h1 (by simp only [List.length_cons]; omega)))]
    rw [ih _ (l.set (off + i) v) off (i + 1) (upd_get hb) (by simp; omega) (fun u hu => hv u (by simp [hu])) (fun j h1 h2 => hf j (by omega) (by simp only [List.length_cons]; omega))]
    rw [upd_upd, spl_cons (by simp only [List.length_cons]; omega)]
    rfl
theorem run_u {s : Sem Unit} {w' : World} (h : s.run P w = .ok () w') : (do s; pure Next.skip : Sem Next).run P w = .ok .skip w' := by
  rw [run_bind h]; rfl
theorem OpSpec.store {t : TypeId} {x y : Operand} {b off : Nat} {l : List Value} {T : TypeId} {fr : Nat × Nat} {v : Value} (hx : ev E x = some (.pointer (some ⟨b, off, none⟩))) (hy : ev E y = some v)
    (hv : isCell v = true) (ht : sizeOf' P t = some 1) (hc : off < l.length) (hf : nfz fr off 1) :
    OpSpec P ⟨none, .store t x y, ty, "", #[], none⟩ E [pt b (.cells l.toArray T fr)] fun _ L' => L' = [pt b (.cells (l.set off v).toArray T fr)] := by
  intro ρ w F ha hs
  have hb : w.heap[b]? = some (.cells l.toArray T fr) := St.pt (L := F) hs
  have hr : (execOp ρ ⟨none, .store t x y, ty, "", #[], none⟩).run P w = .ok .skip (Go.Proofs.YtnnbelmpbmfdnaaDoor.upd w b (.cells (l.set off v).toArray T fr)) := by
    refine run_u ?_
    show (Instr.storeAt t (ρ x) (ρ y)).run P w = _
    rw [ha x _ hx, ha y _ hy]
    show (storeVar t ⟨b, off, none⟩ v).run P w = _
    unfold storeVar
    rw [run_bind (run_sizeOf ht), cells_of_isCell hv]
    simp only [List.size_toArray, List.length_cons, List.length_nil]
    have := run_storeCells (P := P) [v] w l off 0 hb (by simp; omega) (by simp [hv]) (by simpa using hf)
    rw [Nat.add_zero, spl_one hc] at this
    simpa using this
  unfold Runs; rw [hr]
  exact ⟨_, rfl, St.upd (L := F) hs, Keeps.upd _ _ _⟩
theorem OpSpec.storeA {t : TypeId} {x y : Operand} {b off : Nat} {l vs : List Value} {T : TypeId} {fr : Nat × Nat} (hx : ev E x = some (.pointer (some ⟨b, off, none⟩))) (hy : ev E y = some (.agg vs.toArray))
    {k : Nat} (hv : ∀ v ∈ vs, isCell v = true) (ht : sizeOf' P t = some k) (hk : vs.length = k) (hc : off + vs.length ≤ l.length) (hf : nfz fr off vs.length) :
    OpSpec P ⟨none, .store t x y, ty, "", #[], none⟩ E [pt b (.cells l.toArray T fr)] fun _ L' => L' = [pt b (.cells (spl l off vs).toArray T fr)] := by
  subst hk
  intro ρ w F ha hs
  have hb : w.heap[b]? = some (.cells l.toArray T fr) := St.pt (L := F) hs
  have hr : (execOp ρ ⟨none, .store t x y, ty, "", #[], none⟩).run P w = .ok .skip (Go.Proofs.YtnnbelmpbmfdnaaDoor.upd w b (.cells (spl l off vs).toArray T fr)) := by
    refine run_u ?_
    show (Instr.storeAt t (ρ x) (ρ y)).run P w = _
    rw [ha x _ hx, ha y _ hy]
    show (storeVar t ⟨b, off, none⟩ (.agg vs.toArray)).run P w = _
    unfold storeVar
    rw [run_bind (run_sizeOf ht)]
    simp only [Value.cells, List.size_toArray, ne_eq, not_true_eq_false, if_false]
    have := run_storeCells (P := P) vs w l off 0 hb (by omega) hv (by simpa using hf)
    simpa using this
  unfold Runs; rw [hr]
  exact ⟨_, rfl, St.upd (L := F) hs, Keeps.upd _ _ _⟩
theorem run_newObj (o : Obj) : (newObj o).run P w = .ok w.heap.size { w with heap := w.heap.push o } := rfl
theorem run_newRow (e : TypeId) (l : Array Value) : (newRow e l).run P w = .ok ⟨w.heap.size, 0, none⟩ { w with heap := w.heap.push (.cells l e) } := rfl
theorem run_zero {t : TypeId} {v : Value} (h : zeroOf P t = some v) : (zeroValue t).run P w = .ok v w := by
  unfold zeroOf at h
  cases hi : P.info? t with
  | none => simp [hi] at h
  | some i =>
    simp [hi] at h
    simp [zeroValue, typeInfo, program, Bind.bind, Sem.bind, Pure.pure, Sem.run, hi, h]
/-- A new block of cells: what an operation that makes one says. -/
theorem OpSpec.newCells {op : Op} {l : List Value} {T : TypeId} (h : ∀ ρ w, Agrees E ρ → (execOp ρ ⟨none, op, ty, "", #[], none⟩).run P w = .ok (.value (vptr w.heap.size)) { w with heap := w.heap.push (.cells l.toArray T) }) :
    OpSpec P ⟨none, op, ty, "", #[], none⟩ E [] fun v L' => ∃ b, v = vptr b ∧ L' = [ptc b l T] := by
  intro ρ w F ha hs
  unfold Runs; rw [h ρ w ha]
  exact ⟨_, ⟨_, rfl, rfl⟩, St.new (L := F) hs _, Keeps.new _ _⟩
theorem OpSpec.box {t : TypeId} {x : Operand} {v : Value} (hx : ev E x = some v) : OpSpec P ⟨none, .box t x, ty, "", #[], none⟩ E [] fun u L' => ∃ b, u = vptr b ∧ L' = [ptc b v.cells.toList t] :=
  OpSpec.newCells fun ρ w ha => by
    refine run_v ?_
    show (Instr.box t (ρ x)).run P w = _
    rw [ha x _ hx]
    unfold Instr.box newVar
    rw [run_bind (run_newRow _ _)]; rfl
theorem OpSpec.alloc {t : TypeId} {v : Value} (hz : zeroOf P t = some v) : OpSpec P ⟨none, .alloc t, ty, "", #[], none⟩ E [] fun u L' => ∃ b, u = vptr b ∧ L' = [ptc b v.cells.toList t] :=
  OpSpec.newCells fun ρ w ha => by
    refine run_v ?_
    show (Instr.alloc t true (.tuple #[])).run P w = _
    unfold Instr.alloc
    rw [run_bind (run_zero hz)]
    show (do pure (.pointer (some (← newVar t v))) : Sem Value).run P w = _
    unfold newVar
    rw [run_bind (run_newRow _ _)]; rfl
theorem OpSpec.makeMap {t : TypeId} {k e : TypeId} (ht : P.underlying t = some (.map k e)) : OpSpec P ⟨none, .makeMap t none, ty, "", #[], none⟩ E [] fun u L' => ∃ b, u = .map (some b) ∧ L' = [pt b (.map #[] 0)] := by
  intro ρ w F ha hs
  have : (execOp ρ ⟨none, .makeMap t none, ty, "", #[], none⟩).run P w = .ok (.value (.map (some w.heap.size))) { w with heap := w.heap.push (.map #[] 0) } := by
    refine run_v ?_
    show (Instr.makeMap t none).run P w = _
    unfold Instr.makeMap
    rfl
  unfold Runs; rw [this]
  exact ⟨_, ⟨_, rfl, rfl⟩, St.new (L := F) hs _, Keeps.new _ _⟩
/-- A struct or array value out of its parts; 'l' is reckoned. -/
def placesOf (P : Program) (t : TypeId) : Option (Nat → Option (Nat × Nat)) :=
  match P.underlying t with
  | some (.struct fs) => some fun i => match fs[i]? with | some f => (P.info? f.type).map fun inf => (f.offset, inf.size) | none => none
  | some (.array _ e) => (P.info? e).map fun inf => fun i => some (i * inf.size, inf.size)
  | _ => none
end
end Go.Proofs.YtnnbelmpbmfdnaaDoor
