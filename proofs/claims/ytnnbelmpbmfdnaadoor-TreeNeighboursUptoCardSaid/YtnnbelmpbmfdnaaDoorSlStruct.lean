/- Own work: structs that are compared, and structs as keys of maps. -/
import Derived.Test.YtnnbelmpbmfdnaaDoorSlMore
import Derived.Test.YtnnbelmpbmfdnaaDoorSlBuild
import Derived.Laws.StructEq
namespace Go.Proofs.YtnnbelmpbmfdnaaDoor
open Go

/-- One field of two structs: its comparison. -/
def FEq (P : Program) (d : Nat) (xs ys : Array Value) (f : Field) (r : Bool) : Prop :=
  f.name ≠ "_" ∧ ∀ w, ∃ a b, (part f.type xs f.offset).run P w = .ok a w ∧ (part f.type ys f.offset).run P w = .ok b w ∧ (Op.equalIn d f.type a b).run P w = .ok r w
inductive FEqs (P : Program) (d : Nat) (xs ys : Array Value) : List Field → List Bool → Prop
  | nil : FEqs P d xs ys [] []
  | cons {f fs r rs} : FEq P d xs ys f r → FEqs P d xs ys fs rs → FEqs P d xs ys (f :: fs) (r :: rs)
theorem eqFields_row {P : Program} {d : Nat} {xs ys : Array Value} {fs : List Field} {rs : List Bool} (h : FEqs P d xs ys fs rs) (w : World) : (Op.eqFields d xs ys fs).run P w = .ok (rs.all id) w := by
  induction h with
  | nil => rfl
  | @cons f fs r rs h1 _ ih =>
    obtain ⟨hn, hr⟩ := h1
    obtain ⟨a, b, q1, q2, q3⟩ := hr w
    unfold Op.eqFields
    rw [if_pos hn, run_bind q1, run_bind q2, run_bind q3]
    cases r
    · rfl
    · simpa using ih
/-- A type's comparison, at a depth. -/
def EqAt (P : Program) (d : Nat) (t : TypeId) (x y : Value) (r : Bool) : Prop := ∀ w, (Op.equalIn d t x y).run P w = .ok r w
theorem EqAt.int {P : Program} {d : Nat} {t : TypeId} {k : IntKind} (ht : P.underlying t = some (.int k)) (a b : Int) : EqAt P (d + 1) t (.int k a) (.int k b) (decide (a = b)) := by
  intro w
  rw [run_equalIn_int w d t k k a b ht, beq_dec]
theorem EqAt.bool {P : Program} {d : Nat} {t : TypeId} (ht : P.underlying t = some .bool) (a b : Bool) : EqAt P (d + 1) t (.bool a) (.bool b) (decide (a = b)) := by
  intro w
  rw [run_equalIn_bool' w d t a b ht]
  cases a <;> cases b <;> rfl
theorem EqAt.str {P : Program} {d : Nat} {t : TypeId} (ht : P.underlying t = some .string) (a b : List UInt8) : EqAt P (d + 1) t (vstr a) (vstr b) (decide (a = b)) := by
  intro w
  unfold Op.equalIn
  rw [run_bind (run_underlying ht)]
  show Result.ok (bs a == bs b) w = _
  rw [bs_beq]
theorem EqAt.struct {P : Program} {d : Nat} {t : TypeId} {fs : Array Field} (ht : P.underlying t = some (.struct fs)) (hp : P.stoodInHeld t = false) {xs ys : List Value} {rs : List Bool} (h : FEqs P d xs.toArray ys.toArray fs.toList rs) : EqAt P (d + 1) t (.agg xs.toArray) (.agg ys.toArray) (rs.all id) := by
  intro w
  have hf : P.fieldsOf t = fs := by unfold Program.fieldsOf; rw [ht]
  rw [run_equalIn_struct w d t _ _ (by rw [hf]; exact ht) hp, hf]
  exact eqFields_row h w
section parts
variable {P : Program} {w : World}
theorem run_part_cell {t : TypeId} {xs : List Value} {off : Nat} {v : Value} (h : aggOf P t = some none) (hc : xs[off]? = some v) : (part t xs.toArray off).run P w = .ok v w := by
  unfold part
  rw [run_bind (run_isAgg h)]
  simp only [Option.isSome_none, Bool.false_eq_true, if_false]
  rw [show xs.toArray[off]? = some v by simpa using hc]
  rfl
theorem run_part_agg {t : TypeId} {k : Nat} {xs : List Value} {off : Nat} (h : aggOf P t = some (some k)) : (part t xs.toArray off).run P w = .ok (.agg ((xs.drop off).take k).toArray) w := by
  unfold part
  rw [run_bind (run_isAgg h)]
  simp only [Option.isSome_some, if_true]
  rw [run_bind (run_sizeOf (sizeOf_of_agg h))]
  show Result.ok (Value.agg (xs.toArray.extract off (off + k))) w = _
  rw [List.extract_toArray, List.extract_eq_take_drop, show off + k - off = k by omega]
end parts
theorem FEq.cell {P : Program} {d : Nat} {xs ys : List Value} {f : Field} {a b : Value} {r : Bool} (hn : f.name ≠ "_") (hag : aggOf P f.type = some none) (hx : xs[f.offset]? = some a) (hy : ys[f.offset]? = some b) (he : EqAt P d f.type a b r) : FEq P d xs.toArray ys.toArray f r :=
  ⟨hn, fun w => ⟨a, b, run_part_cell hag (by simpa using hx), run_part_cell hag (by simpa using hy), he w⟩⟩
theorem FEq.agg {P : Program} {d k : Nat} {xs ys : List Value} {f : Field} {r : Bool} (hn : f.name ≠ "_") (hag : aggOf P f.type = some (some k)) (he : EqAt P d f.type (.agg ((xs.drop f.offset).take k).toArray) (.agg ((ys.drop f.offset).take k).toArray) r) : FEq P d xs.toArray ys.toArray f r :=
  ⟨hn, fun w => ⟨_, _, run_part_agg hag, run_part_agg hag, he w⟩⟩
section
variable {P : Program} {E : Env} {L R : List HP} {ty : TypeId} {w : World}
theorem Quiet.structEq {t t' : TypeId} {x y : Operand} {xs ys : List Value} {r : Bool} (hx : ev E x = some (.agg xs.toArray)) (hy : ev E y = some (.agg ys.toArray)) (hg : P.eqGuardType P.depth t = false) (he : EqAt P 10000 t (.agg xs.toArray) (.agg ys.toArray) r) :
    Quiet P ⟨none, .binOp .eql t x y t', ty, "", #[], none⟩ E L (.bool r) := by
  intro ρ w ha _
  show (do pure (Next.value (← (do eqGuard .eql t x y (ρ x) (ρ y); binOp .eql t (ρ x) (ρ y)))) : Sem Next).run P w = _
  rw [ha x _ hx, ha y _ hy]
  refine run_v ?_
  rw [run_bind (run_eqGuard_agg w .eql t x y _ _ hg), run_eql_struct, he w]; rfl
theorem Quiet.structNe {t t' : TypeId} {x y : Operand} {xs ys : List Value} {r : Bool} (hx : ev E x = some (.agg xs.toArray)) (hy : ev E y = some (.agg ys.toArray)) (hg : P.eqGuardType P.depth t = false) (he : EqAt P 10000 t (.agg xs.toArray) (.agg ys.toArray) r) :
    Quiet P ⟨none, .binOp .neq t x y t', ty, "", #[], none⟩ E L (.bool (!r)) := by
  intro ρ w ha _
  show (do pure (Next.value (← (do eqGuard .neq t x y (ρ x) (ρ y); binOp .neq t (ρ x) (ρ y)))) : Sem Next).run P w = _
  rw [ha x _ hx, ha y _ hy]
  refine run_v ?_
  rw [run_bind (run_eqGuard_agg w .neq t x y _ _ hg), run_neq_struct, he w]; rfl
end
/-! ### Structs of bigger parts -/
def placesN (P : Program) (fs : Array Field) : Option (List (Nat × Nat)) := fs.toList.mapM fun f => (P.info? f.type).map fun i => (f.offset, i.size)
theorem mapM_placesN {P : Program} {fs : Array Field} {pl : List (Nat × Nat)} (h : placesN P fs = some pl) (w : World) : (fs.mapM (m := Sem) fun f => do pure (f.offset, ← sizeOf f.type)).run P w = .ok pl.toArray w := by
  have key : ∀ (l : List Field) (pl : List (Nat × Nat)), (l.mapM fun f => (P.info? f.type).map fun i => (f.offset, i.size)) = some pl → (l.mapM (m := Sem) fun f => do pure (f.offset, ← sizeOf f.type)).run P w = .ok pl w := by
    intro l
    induction l with
    | nil => intro pl h; simp at h; subst h; rfl
    | cons f l ih =>
      intro pl h
      rw [List.mapM_cons] at h
      simp only [bind, Option.bind_eq_some_iff, pure, Option.some.injEq, Option.map_eq_some_iff] at h
      obtain ⟨a, ⟨i, hi, rfl⟩, bs, hb, rfl⟩ := h
      rw [List.mapM_cons]
      have h2 : sizeOf' P f.type = some i.size := by unfold sizeOf'; rw [hi]; rfl
      rw [run_bind (a := (f.offset, i.size)) (w' := w) (by rw [run_bind (run_sizeOf h2)]; rfl), run_bind (ih bs hb)]
      rfl
  have hm : (fs.mapM (m := Sem) fun f => do pure (f.offset, ← sizeOf f.type)) = (Functor.map List.toArray (fs.toList.mapM (m := Sem) fun f => do pure (f.offset, ← sizeOf f.type))) := by
    rw [Array.mapM_eq_mapM_toList]
  rw [hm]
  rw [show (Functor.map List.toArray (fs.toList.mapM (m := Sem) fun f => do pure (f.offset, ← sizeOf f.type)) : Sem _) = ((fs.toList.mapM (m := Sem) fun f => do pure (f.offset, ← sizeOf f.type)) >>= fun l => pure l.toArray) from rfl]
  rw [run_bind (key _ _ h)]
  rfl
theorem Quiet.buildN {P : Program} {E : Env} {L : List HP} {ty : TypeId} {t : TypeId} {parts : Array (Nat × Operand)} {fs : Array Field} {pl : List (Nat × Nat)} {zl cells : List Value} {us : List (Nat × Value)} (hus : P.underlying t = some (.struct fs)) (hpl : placesN P fs = some pl) (hz : zeroOf P t = some (.agg zl.toArray))
    (hu : parts.toList.map (fun p => (p.1, ev E p.2)) = us.map (fun p => (p.1, some p.2))) (hfill : Instr.fill (fun i => pl.toArray[i]?) zl.toArray us = some cells.toArray) : Quiet P ⟨none, .build t parts, ty, "", #[], none⟩ E L (.agg cells.toArray) := by
  intro ρ w ha _
  refine run_v ?_
  show (Instr.build t (parts.map fun p => (p.1, ρ p.2))).run P w = _
  unfold Instr.build
  rw [run_bind (run_zero hz)]
  dsimp only
  rw [run_bind (run_underlying hus)]
  dsimp only
  rw [run_bind (mapM_placesN hpl w)]
  have hparts : (parts.map fun p => (p.1, ρ p.2)).toList = us := by
    rw [Array.toList_map]; exact agree_parts ha _ _ hu
  rw [hparts]
  rw [show Value.cells (.agg zl.toArray) = zl.toArray from rfl, hfill]
  rfl
/-! ### Keys -/
theorem find_asking {P : Program} {kt : TypeId} {K : Type} [DecidableEq K] {kv : K → Value} (he : ∀ a b, EqAt P 10000 kt (kv a) (kv b) (decide (a = b))) (k : K) : ∀ (es : List MapEntry) (ks : List K) (i : Nat) (w : World), es.map (·.key) = ks.map kv →
    (Instr.findAsking kt (kv k) es i).run P w = .ok ((posK k ks).bind fun j => (es[j]?).map fun e => (i + j, e.val)) w := by
  intro es
  induction es with
  | nil => intro ks i w h; cases ks with
    | nil => rfl
    | cons a l => simp at h
  | cons e es ih =>
    intro ks i w h
    cases ks with
    | nil => simp at h
    | cons a l =>
      simp only [List.map_cons, List.cons.injEq] at h
      unfold Instr.findAsking
      have hq : (Op.equal kt (kv k) e.key).run P w = .ok (decide (k = a)) w := by
        unfold Op.equal; rw [h.1]; exact he k a w
      rw [run_bind hq]
      by_cases hk : k = a
      · subst hk
        simp [posK, run_pure]
      · rw [decide_eq_false hk, posK, if_neg hk]
        simp only [Bool.false_eq_true, if_false]
        rw [ih l (i + 1) w h.2]
        cases posK k l with
        | none => rfl
        | some j => simp only [Option.map_some, Option.bind_some, List.getElem?_cons_succ, show i + 1 + j = i + (j + 1) by omega]
theorem Quiet.lookupV {P : Program} {E : Env} {L R : List HP} {ty : TypeId} {K β : Type} [DecidableEq K] {kv : K → Value} {enc : β → Value} {kt et : TypeId} (hl : KeyLaw P kt kv) {t : TypeId} {x y : Operand} {m : List (K × β)} {r : Nat} {k : K} {z v : Value} {ents : List (Value × Value)} (h1 : ∀ b, alook m k = some b → enc b = v) (h0 : alook m k = none → z = v) (hx : ev E x = some (.map (some r))) (hy : ev E y = some (kv k)) (ht : P.underlying t = some (.map kt et)) (hz : zeroOf P et = some z)
    (hL : Pick (mapR r ents) L R) (he : ents = m.map fun x => (kv x.1, enc x.2)) : Quiet P ⟨none, .lookup t x y false, ty, "", #[], none⟩ E L v := by
  rcases h : alook m k with _ | b
  · rw [← h0 h]; exact Quiet.lookupN hl h hx hy ht hz hL he
  · rw [← h1 b h]; exact Quiet.lookupY hl h hx hy ht hz hL he
/-- One field of a key: it may be one. -/
def FCk (P : Program) (e : Bool) (d : Nat) (xs : Array Value) (f : Field) : Prop :=
  f.name ≠ "_" ∧ ∀ w, ∃ a, (part f.type xs f.offset).run P w = .ok a w ∧ (Instr.checkKey e d f.type a).run P w = .ok () w
theorem check_struct {P : Program} {e : Bool} {d : Nat} {t : TypeId} {fs : Array Field} (ht : P.underlying t = some (.struct fs)) {xs : Array Value} (h : ∀ f ∈ fs.toList, FCk P e d xs f) (w : World) : (Instr.checkKey e (d + 1) t (.agg xs)).run P w = .ok () w := by
  simp only [Instr.checkKey, Sem.run_bind, run_underlying ht, Result.andThen_ok]
  rw [← Array.forIn_toList]
  generalize fs.toList = l at h
  clear ht
  induction l with
  | nil => simp
  | cons f l ih =>
    obtain ⟨hn, hr⟩ := h f List.mem_cons_self
    obtain ⟨a, q1, q2⟩ := hr w
    have ih' := ih (fun g hg => h g (List.mem_cons_of_mem _ hg))
    simp only [List.forIn_cons, Sem.run_bind, Sem.run_ite, if_pos hn, q1, q2, Result.andThen_ok, Sem.run_pure]
    exact ih'
theorem check_leaf {P : Program} {e : Bool} {d : Nat} {t : TypeId} {v : Value} {k : TypeDesc} (ht : P.underlying t = some k) (hk : k = .string ∨ (∃ q, k = .int q) ∨ k = .bool) (w : World) : (Instr.checkKey e (d + 1) t v).run P w = .ok () w := by
  unfold Instr.checkKey
  rw [run_bind (run_underlying ht)]
  rcases hk with rfl | ⟨q, rfl⟩ | rfl <;> rfl
theorem FCk.cell {P : Program} {e : Bool} {d : Nat} {xs : List Value} {f : Field} {a : Value} {k : TypeDesc} (hn : f.name ≠ "_") (hag : aggOf P f.type = some none) (hx : xs[f.offset]? = some a) (ht : P.underlying f.type = some k) (hk : k = .string ∨ (∃ q, k = .int q) ∨ k = .bool) : FCk P e (d + 1) xs.toArray f :=
  ⟨hn, fun w => ⟨a, run_part_cell hag hx, check_leaf ht hk w⟩⟩
theorem KeyLaw.struct {P : Program} {kt : TypeId} {fs : Array Field} {K : Type} [DecidableEq K] {kv : K → Value} (hu : P.underlying kt = some (.struct fs)) (he : ∀ a b, EqAt P 10000 kt (kv a) (kv b) (decide (a = b)))
    (hc : ∀ a e w, (Instr.checkKey e 10000 kt (kv a)).run P w = .ok () w) (hb : ∀ a, Instr.sameBits 10000 (kv a) (kv a) = true) : KeyLaw P kt kv where
  find := fun k es ks w h => by
    unfold Instr.findKey
    rw [run_bind (run_underlying hu)]
    cases es with
    | nil =>
      cases ks with
      | nil => rfl
      | cons a l => simp at h
    | cons e es =>
      have e1 : Instr.findNow (.struct fs) (kv k) (e :: es) 0 = none := by unfold Instr.findNow; rfl
      rw [e1]
      dsimp only
      have := find_asking he k (e :: es) ks 0 w h
      simp only [Nat.zero_add] at this
      exact this
  check := hc
  same := hb
end Go.Proofs.YtnnbelmpbmfdnaaDoor
