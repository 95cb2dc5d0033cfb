/- Own work: the operations that only read, one law each. -/
import Derived.Test.YtnnbelmpbmfdnaaDoorSlRules
namespace Go.Proofs.YtnnbelmpbmfdnaaDoor
open Go

abbrev bs (l : List UInt8) : ByteArray := ⟨l.toArray⟩
abbrev vstr (l : List UInt8) : Value := .string (bs l)
abbrev vint (n : Int) : Value := .int .i64 n
abbrev vbyte (c : UInt8) : Value := .int .u8 (c.toNat : Int)
abbrev vptr (b : Nat) : Value := .pointer (some ⟨b, 0, none⟩)
abbrev ptc (b : Nat) (l : List Value) (T : TypeId) : HP := pt b (.cells l.toArray T (0, 0))

/-! ### Facts of the program's tables, as computed words -/
def fieldOff (P : Program) (s : TypeId) (i : Nat) : Option Nat :=
  match P.underlying s with
  | some (.struct fs) => match fs[i]? with
    | some f => match P.info? f.type with
      | some inf => if inf.size = 0 then none else some f.offset
      | none => none
    | none => none
  | _ => none
def aggOf (P : Program) (t : TypeId) : Option (Option Nat) :=
  match P.underlying t, P.info? t with
  | some (.struct _), some i => some (some i.size)
  | some (.array _ _), some i => some (some i.size)
  | some _, some _ => some none
  | _, _ => none
/-- A slice type's element type, its cells, its bytes. -/
def elemOf' (P : Program) (t : TypeId) : Option (TypeId × Nat × Nat) :=
  match P.underlying t with
  | some (.slice e) => match P.info? e with
    | some i => some (e, i.size, i.bytes)
    | none => none
  | _ => none
def arrOf (P : Program) (t : TypeId) : Option (Nat × TypeId × Nat) :=
  match P.underlying t with
  | some (.array n e) => match P.info? e with
    | some i => some (n, e, i.size)
    | none => none
  | _ => none
def zeroOf (P : Program) (t : TypeId) : Option Value := (P.info? t).bind (·.zero)
def sizeOf' (P : Program) (t : TypeId) : Option Nat := (P.info? t).map (·.size)
def kindOf (P : Program) (t : TypeId) : Option TypeDesc := P.underlying t

section
variable {P : Program} {E : Env} {L R : List HP} {ty : TypeId} {w : World}

theorem run_sizeOf {t : TypeId} {k : Nat} (h : sizeOf' P t = some k) : (sizeOf t).run P w = .ok k w := by
  unfold sizeOf' at h
  cases hi : P.info? t with
  | none => simp [hi] at h
  | some i =>
    simp [hi] at h
    simp [sizeOf, typeInfo, program, Bind.bind, Sem.bind, Pure.pure, Sem.run, hi, h]
theorem sizeOf_of_agg {t : TypeId} {k : Nat} (h : aggOf P t = some (some k)) : sizeOf' P t = some k := by
  unfold aggOf at h
  unfold sizeOf'
  split at h <;> simp_all
theorem run_isAgg {t : TypeId} {k : Option Nat} (h : aggOf P t = some k) : (isAgg t).run P w = .ok k.isSome w := by
  unfold aggOf at h
  split at h <;> (try cases h) <;> rename_i hu hi <;> simp [isAgg, underlying, program, Bind.bind, Sem.bind, Pure.pure, Sem.run, hu]
theorem run_bind {α β : Type} {x : Sem α} {f : α → Sem β} {a : α} {w' : World} (h : x.run P w = .ok a w') : (x >>= f).run P w = (f a).run P w' := by
  show (x.bind f).run P w = _
  rw [Sem.run_bind' P, h]; rfl
theorem run_pure {α : Type} {a : α} : (pure a : Sem α).run P w = .ok a w := rfl
theorem cell_of {b off : Nat} {l : List Value} {T : TypeId} {fr : Nat × Nat} {v : Value} (hb : w.heap[b]? = some (.cells l.toArray T fr)) (hc : l[off]? = some v) : w.cell? ⟨b, off, none⟩ = some v := by
  simp [World.cell?, hb, hc]
theorem run_load {b off : Nat} {l : List Value} {T : TypeId} {fr : Nat × Nat} {v : Value} (hb : w.heap[b]? = some (.cells l.toArray T fr)) (hc : l[off]? = some v) : (load ⟨b, off, none⟩).run P w = .ok v w := by
  simp [load, Sem.run, cell_of hb hc]
theorem Addr.add_eq (b off k : Nat) : (⟨b, off, none⟩ : Addr).add k = ⟨b, off + k, none⟩ := by
  unfold Addr.add; split
  · rename_i h; subst h; rfl
  · rfl
theorem run_loadCellsFrom {b off : Nat} {l : List Value} {T : TypeId} {fr : Nat × Nat} (hb : w.heap[b]? = some (.cells l.toArray T fr)) :
    ∀ (n i : Nat) (acc : Array Value), off + i + n ≤ l.length → (loadCellsFrom ⟨b, off, none⟩ i n acc).run P w = .ok (acc ++ ((l.drop (off + i)).take n).toArray) w := by
  intro n
  induction n with
  | zero => intro i acc h; simp [loadCellsFrom, run_pure]
  | succ n ih =>
    intro i acc h
    have hlt : off + i < l.length := by omega
    unfold loadCellsFrom
    rw [Addr.add_eq, run_bind (run_load hb (List.getElem?_eq_getElem hlt)), ih (i + 1) _ (by omega)]
    congr 1
    apply Array.ext'
    rw [show l.drop (off + i) = l[off + i] :: l.drop (off + (i + 1)) from by rw [List.drop_eq_getElem_cons hlt]; rfl]
    simp
theorem run_loadCells {b off n : Nat} {l : List Value} {T : TypeId} {fr : Nat × Nat} (hb : w.heap[b]? = some (.cells l.toArray T fr)) (h : off + n ≤ l.length) :
    (loadCells ⟨b, off, none⟩ n).run P w = .ok ((l.drop off).take n).toArray w := by
  unfold loadCells; rw [run_loadCellsFrom hb n 0 #[] (by omega)]; simp
theorem run_loadVar1 {t : TypeId} {b off : Nat} {l : List Value} {T : TypeId} {fr : Nat × Nat} {v : Value} (hp : aggOf P t = some none) (hb : w.heap[b]? = some (.cells l.toArray T fr)) (hc : l[off]? = some v) :
    (loadVar t ⟨b, off, none⟩).run P w = .ok v w := by
  unfold loadVar; rw [run_bind (run_isAgg hp)]; exact run_load hb hc
theorem run_loadVarA {t : TypeId} {b off k : Nat} {l : List Value} {T : TypeId} {fr : Nat × Nat} (hp : aggOf P t = some (some k)) (hb : w.heap[b]? = some (.cells l.toArray T fr)) (h : off + k ≤ l.length) :
    (loadVar t ⟨b, off, none⟩).run P w = .ok (.agg ((l.drop off).take k).toArray) w := by
  unfold loadVar; rw [run_bind (run_isAgg hp)]
  simp only [Option.isSome_some, if_true]
  rw [run_bind (run_sizeOf (sizeOf_of_agg hp)), run_bind (run_loadCells hb h)]; rfl

theorem Quiet.move {x : Operand} {v : Value} (hx : ev E x = some v) : Quiet P ⟨none, .move x, ty, "", #[], none⟩ E L v :=
  fun ρ w ha _ => by simp [execOp, ha x v hx, Pure.pure, Sem.run]
theorem Quiet.assign {x : Operand} {v : Value} (hx : ev E x = some v) : Quiet P ⟨none, .assign x, ty, "", #[], none⟩ E L v :=
  fun ρ w ha _ => by simp [execOp, ha x v hx, Pure.pure, Sem.run]
theorem Quiet.pickT {c x y : Operand} {v : Value} (hc : ev E c = some (.bool true)) (hx : ev E x = some v) : Quiet P ⟨none, .pick c x y, ty, "", #[], none⟩ E L v :=
  fun ρ w ha _ => by simp [execOp, ha c _ hc, ha x v hx, asBool, Bind.bind, Sem.bind, Pure.pure, Sem.run]
theorem Quiet.pickF {c x y : Operand} {v : Value} (hc : ev E c = some (.bool false)) (hx : ev E y = some v) : Quiet P ⟨none, .pick c x y, ty, "", #[], none⟩ E L v :=
  fun ρ w ha _ => by simp [execOp, ha c _ hc, ha y v hx, asBool, Bind.bind, Sem.bind, Pure.pure, Sem.run]
theorem Quiet.nilp {x : Operand} {a : Addr} (hx : ev E x = some (.pointer (some a))) : Quiet P ⟨none, .nilCheck x, ty, "", #[], none⟩ E L (.pointer (some a)) :=
  fun ρ w ha _ => by simp [execOp, ha x _ hx, Pure.pure, Sem.run]
theorem Quiet.nilf {x : Operand} {f : FuncId} {xs ys : Array Value} (hx : ev E x = some (.func (.func f) xs ys)) : Quiet P ⟨none, .nilCheck x, ty, "", #[], none⟩ E L (.func (.func f) xs ys) :=
  fun ρ w ha _ => by simp [execOp, ha x _ hx, Pure.pure, Sem.run]
theorem Quiet.fieldAddr {s : TypeId} {x : Operand} {i k b off : Nat} (hx : ev E x = some (.pointer (some ⟨b, off, none⟩))) (hf : fieldOff P s i = some k) :
    Quiet P ⟨none, .fieldAddr s x i, ty, "", #[], none⟩ E L (.pointer (some ⟨b, off + k, none⟩)) := by
  intro ρ w ha _
  unfold fieldOff at hf
  split at hf <;> (try cases hf)
  rename_i fs hu
  split at hf <;> (try cases hf)
  rename_i f hfi
  split at hf <;> (try cases hf)
  rename_i inf hin
  split at hf <;> (try cases hf)
  rename_i hne
  simp [execOp, ha x _ hx, Instr.fieldAt, underlying, program, Bind.bind, Sem.bind, Pure.pure, Sem.run, hu, hfi, Instr.sureAddr, fieldPlace, sizeOf, typeInfo, hin, hne, Addr.add_eq]
theorem Quiet.load {t : TypeId} {x : Operand} {b off : Nat} {l : List Value} {T : TypeId} {fr : Nat × Nat} {v : Value} (hx : ev E x = some (.pointer (some ⟨b, off, none⟩)))
    (hp : aggOf P t = some none) (hL : Pick (pt b (.cells l.toArray T fr)) L R) (hc : l[off]? = some v) : Quiet P ⟨none, .load t x, ty, "", #[], none⟩ E L v := by
  intro ρ w ha hs
  have hb := (hs.pick hL).pt
  show (do pure (Next.value (← Instr.loadAt t (ρ x))) : Sem Next).run P w = _
  rw [ha x _ hx]
  have : (Instr.loadAt t (.pointer (some ⟨b, off, none⟩))).run P w = .ok v w := by
    unfold Instr.loadAt; exact run_loadVar1 hp hb hc
  rw [run_bind this]; rfl
theorem Quiet.loadA {t : TypeId} {x : Operand} {b off k : Nat} {l : List Value} {T : TypeId} {fr : Nat × Nat} (hx : ev E x = some (.pointer (some ⟨b, off, none⟩)))
    (hp : aggOf P t = some (some k)) (hL : Pick (pt b (.cells l.toArray T fr)) L R) (hc : off + k ≤ l.length) : Quiet P ⟨none, .load t x, ty, "", #[], none⟩ E L (.agg ((l.drop off).take k).toArray) := by
  intro ρ w ha hs
  have hb := (hs.pick hL).pt
  show (do pure (Next.value (← Instr.loadAt t (ρ x))) : Sem Next).run P w = _
  rw [ha x _ hx]
  have : (Instr.loadAt t (.pointer (some ⟨b, off, none⟩))).run P w = .ok (.agg ((l.drop off).take k).toArray) w := by
    unfold Instr.loadAt; exact run_loadVarA hp hb hc
  rw [run_bind this]; rfl
theorem Quiet.loadAs {t : TypeId} {x : Operand} {b off k : Nat} {l vs : List Value} {T : TypeId} {fr : Nat × Nat} (hx : ev E x = some (.pointer (some ⟨b, off, none⟩)))
    (hp : aggOf P t = some (some k)) (hL : Pick (pt b (.cells l.toArray T fr)) L R) (hc : off + k ≤ l.length) (hv : (l.drop off).take k = vs) : Quiet P ⟨none, .load t x, ty, "", #[], none⟩ E L (.agg vs.toArray) :=
  hv ▸ Quiet.loadA hx hp hL hc
/-- A load by whatever an atom says of one cell. -/
theorem Quiet.loadBy {t : TypeId} {x : Operand} {b off : Nat} {l : List Value} {T : TypeId} {fr : Nat × Nat} {v : Value} {p : HP} (hx : ev E x = some (.pointer (some ⟨b, off, none⟩)))
    (hp : aggOf P t = some none) (hL : Pick p L R) (hr : ∀ h : Hp, p h → h b = some (.cells l.toArray T fr)) (hc : l[off]? = some v) : Quiet P ⟨none, .load t x, ty, "", #[], none⟩ E L v := by
  intro ρ w ha hs
  obtain ⟨h1, a1, hp1⟩ := sep_head (hs.pick hL)
  have hb := a1 _ _ (hr _ hp1)
  show (do pure (Next.value (← Instr.loadAt t (ρ x))) : Sem Next).run P w = _
  rw [ha x _ hx]
  have : (Instr.loadAt t (.pointer (some ⟨b, off, none⟩))).run P w = .ok v w := by
    unfold Instr.loadAt; exact run_loadVar1 hp hb hc
  rw [run_bind this]; rfl

/-! Integers. -/
def intOp : BinOp → IntKind → Int → Int → Option Value
  | .add, k, a, b => some (.int k (k.wrap (a + b)))
  | .sub, k, a, b => some (.int k (k.wrap (a - b)))
  | .mul, k, a, b => some (.int k (k.wrap (a * b)))
  | .eql, _, a, b => some (.bool (decide (a = b)))
  | .neq, _, a, b => some (.bool (!decide (a = b)))
  | .lss, _, a, b => some (.bool (decide (a < b)))
  | .leq, _, a, b => some (.bool (decide (a ≤ b)))
  | .gtr, _, a, b => some (.bool (decide (a > b)))
  | .geq, _, a, b => some (.bool (decide (a ≥ b)))
  | _, _, _, _ => none
theorem beq_dec (a b : Int) : (a == b) = decide (a = b) := by
  by_cases h : a = b
  · subst h; simp
  · simp [h]
theorem bne_dec (a b : Int) : (a != b) = !decide (a = b) := by rw [bne, beq_dec]
theorem Quiet.int {op : BinOp} {t t' : TypeId} {x y : Operand} {k : IntKind} {a b : Int} {v : Value} (hx : ev E x = some (.int k a)) (hy : ev E y = some (.int k b)) (hv : intOp op k a b = some v) :
    Quiet P ⟨none, .binOp op t x y t', ty, "", #[], none⟩ E L v := by
  intro ρ w ha _
  cases op <;> simp [intOp] at hv <;> subst hv <;>
    simp [execOp, ha x _ hx, ha y _ hy, eqGuard, binOp, Op.intArith, Op.intCmp, Bind.bind, Sem.bind, Pure.pure, Sem.run, beq_dec, bne_dec]
theorem i64w {n : Int} (h : -9223372036854775808 ≤ n ∧ n ≤ 9223372036854775807) : IntKind.i64.wrap n = n := by rw [IntKind.wrap_i64]; omega
theorem Quiet.add {t t' : TypeId} {x y : Operand} {a b : Int} (hx : ev E x = some (.int .i64 a)) (hy : ev E y = some (.int .i64 b)) (hb : -9223372036854775808 ≤ a + b ∧ a + b ≤ 9223372036854775807) :
    Quiet P ⟨none, .binOp .add t x y t', ty, "", #[], none⟩ E L (.int .i64 (a + b)) := Quiet.int hx hy (by simp only [intOp, i64w hb])
theorem Quiet.sub {t t' : TypeId} {x y : Operand} {a b : Int} (hx : ev E x = some (.int .i64 a)) (hy : ev E y = some (.int .i64 b)) (hb : -9223372036854775808 ≤ a - b ∧ a - b ≤ 9223372036854775807) :
    Quiet P ⟨none, .binOp .sub t x y t', ty, "", #[], none⟩ E L (.int .i64 (a - b)) := Quiet.int hx hy (by simp only [intOp, i64w hb])
theorem Quiet.mul {t t' : TypeId} {x y : Operand} {a b : Int} (hx : ev E x = some (.int .i64 a)) (hy : ev E y = some (.int .i64 b)) (hb : -9223372036854775808 ≤ a * b ∧ a * b ≤ 9223372036854775807) :
    Quiet P ⟨none, .binOp .mul t x y t', ty, "", #[], none⟩ E L (.int .i64 (a * b)) := Quiet.int hx hy (by simp only [intOp, i64w hb])
theorem Quiet.quo {t t' : TypeId} {x y : Operand} {a b : Int} (hx : ev E x = some (.int .i64 a)) (hy : ev E y = some (.int .i64 b)) (h0 : b ≠ 0) (hb : -9223372036854775808 ≤ a.tdiv b ∧ a.tdiv b ≤ 9223372036854775807) :
    Quiet P ⟨none, .binOp .quo t x y t', ty, "", #[], none⟩ E L (.int .i64 (a.tdiv b)) := by
  intro ρ w ha _
  simp [execOp, ha x _ hx, ha y _ hy, eqGuard, binOp, Op.intDiv, Bind.bind, Sem.bind, Pure.pure, Sem.run, h0, i64w hb]
theorem Quiet.rem {t t' : TypeId} {x y : Operand} {a b : Int} (hx : ev E x = some (.int .i64 a)) (hy : ev E y = some (.int .i64 b)) (h0 : b ≠ 0) :
    Quiet P ⟨none, .binOp .rem t x y t', ty, "", #[], none⟩ E L (.int .i64 (a.tmod b)) := by
  intro ρ w ha _
  simp [execOp, ha x _ hx, ha y _ hy, eqGuard, binOp, Op.intDiv, Bind.bind, Sem.bind, Pure.pure, Sem.run, h0]
theorem Quiet.quoE {t t' : TypeId} {x y : Operand} {a b : Int} (hx : ev E x = some (.int .i64 a)) (hy : ev E y = some (.int .i64 b)) (h0 : 0 ≤ a ∧ a ≤ 9223372036854775807) (hb : 0 < b) :
    Quiet P ⟨none, .binOp .quo t x y t', ty, "", #[], none⟩ E L (.int .i64 (a / b)) := by
  have e : a.tdiv b = a / b := Int.tdiv_eq_ediv_of_nonneg h0.1
  have h1 : a / b ≤ a := Int.ediv_le_self b h0.1
  have h2 : 0 ≤ a / b := Int.ediv_nonneg h0.1 (by omega)
  rw [← e]; rw [← e] at h1 h2
  exact Quiet.quo hx hy (by omega) (by omega)
theorem Quiet.remE {t t' : TypeId} {x y : Operand} {a b : Int} (hx : ev E x = some (.int .i64 a)) (hy : ev E y = some (.int .i64 b)) (h0 : 0 ≤ a) (hb : 0 < b) :
    Quiet P ⟨none, .binOp .rem t x y t', ty, "", #[], none⟩ E L (.int .i64 (a % b)) := by
  have e : a.tmod b = a % b := Int.tmod_eq_emod_of_nonneg h0
  rw [← e]; exact Quiet.rem hx hy (by omega)
theorem Quiet.not {t : TypeId} {x : Operand} {b : Bool} (hx : ev E x = some (.bool b)) : Quiet P ⟨none, .unOp .not t x, ty, "", #[], none⟩ E L (.bool (!b)) := by
  intro ρ w ha _
  simp [execOp, ha x _ hx, Op.unary, Bind.bind, Sem.bind, Pure.pure, Sem.run]
theorem Quiet.neg {t : TypeId} {x : Operand} {a : Int} (hx : ev E x = some (.int .i64 a)) (hb : -9223372036854775808 ≤ -a ∧ -a ≤ 9223372036854775807) : Quiet P ⟨none, .unOp .neg t x, ty, "", #[], none⟩ E L (.int .i64 (-a)) := by
  intro ρ w ha _
  simp [execOp, ha x _ hx, Op.unary, Op.intArith, Bind.bind, Sem.bind, Pure.pure, Sem.run, i64w hb]
theorem run_underlying {t : TypeId} {d : TypeDesc} (h : P.underlying t = some d) : (underlying t).run P w = .ok d w := by
  simp [underlying, program, Bind.bind, Sem.bind, Pure.pure, Sem.run, h]
theorem run_v {s : Sem Value} {v : Value} {w' : World} (h : s.run P w = .ok v w') : (do pure (Next.value (← s)) : Sem Next).run P w = .ok (.value v) w' := by
  rw [run_bind h]; rfl
theorem run_equal_bool {t : TypeId} {a b : Bool} (ht : P.underlying t = some .bool) : (Op.equal t (.bool a) (.bool b)).run P w = .ok (a == b) w := by
  unfold Op.equal
  rw [show Op.maxDepth = 9999 + 1 from rfl]
  generalize 9999 = d
  unfold Op.equalIn
  rw [run_bind (run_underlying ht)]; rfl
theorem run_equal_ptr {t e : TypeId} {a : Option Addr} (ht : P.underlying t = some (.pointer e)) : (Op.equal t (.pointer a) (.pointer none)).run P w = .ok a.isNone w := by
  unfold Op.equal
  rw [show Op.maxDepth = 9999 + 1 from rfl]
  generalize 9999 = d
  unfold Op.equalIn
  rw [run_bind (run_underlying ht)]; cases a <;> rfl
theorem run_equal_map {t k e : TypeId} {a : Option Nat} (ht : P.underlying t = some (.map k e)) : (Op.equal t (.map a) (.map none)).run P w = .ok a.isNone w := by
  unfold Op.equal
  rw [show Op.maxDepth = 9999 + 1 from rfl]
  generalize 9999 = d
  unfold Op.equalIn
  rw [run_bind (run_underlying ht)]; cases a <;> rfl
theorem run_eql {t t' : TypeId} {x y : Operand} {u v : Value} {r : Bool} {ρ : Operand → Value} (hx : ρ x = u) (hy : ρ y = v) (hg : eqGuard .eql t x y u v = pure ()) (hb : binOp .eql t u v = do pure (.bool (← Op.equal t u v)))
    (he : (Op.equal t u v).run P w = .ok r w) : (execOp ρ ⟨none, .binOp .eql t x y t', ty, "", #[], none⟩).run P w = .ok (.value (.bool r)) w := by
  show (do pure (Next.value (← (do eqGuard .eql t x y (ρ x) (ρ y); binOp .eql t (ρ x) (ρ y)))) : Sem Next).run P w = _
  rw [hx, hy]
  refine run_v ?_
  rw [hg, run_bind run_pure, hb, run_bind he]; rfl
theorem run_neq {t t' : TypeId} {x y : Operand} {u v : Value} {r : Bool} {ρ : Operand → Value} (hx : ρ x = u) (hy : ρ y = v) (hg : eqGuard .neq t x y u v = pure ()) (hb : binOp .neq t u v = do pure (.bool (!(← Op.equal t u v))))
    (he : (Op.equal t u v).run P w = .ok r w) : (execOp ρ ⟨none, .binOp .neq t x y t', ty, "", #[], none⟩).run P w = .ok (.value (.bool (!r))) w := by
  show (do pure (Next.value (← (do eqGuard .neq t x y (ρ x) (ρ y); binOp .neq t (ρ x) (ρ y)))) : Sem Next).run P w = _
  rw [hx, hy]
  refine run_v ?_
  rw [hg, run_bind run_pure, hb, run_bind he]; rfl
theorem Quiet.booleq {t t' : TypeId} {x y : Operand} {a b : Bool} (hx : ev E x = some (.bool a)) (hy : ev E y = some (.bool b)) (ht : P.underlying t = some .bool) : Quiet P ⟨none, .binOp .eql t x y t', ty, "", #[], none⟩ E L (.bool (a == b)) :=
  fun _ _ ha _ => run_eql (ha x _ hx) (ha y _ hy) rfl rfl (run_equal_bool ht)
theorem Quiet.boolne {t t' : TypeId} {x y : Operand} {a b : Bool} (hx : ev E x = some (.bool a)) (hy : ev E y = some (.bool b)) (ht : P.underlying t = some .bool) : Quiet P ⟨none, .binOp .neq t x y t', ty, "", #[], none⟩ E L (.bool (!(a == b))) :=
  fun _ _ ha _ => run_neq (ha x _ hx) (ha y _ hy) rfl rfl (run_equal_bool ht)
theorem Quiet.ptreq {t t' e : TypeId} {x y : Operand} {a : Option Addr} (hx : ev E x = some (.pointer a)) (hy : ev E y = some (.pointer none)) (ht : P.underlying t = some (.pointer e)) : Quiet P ⟨none, .binOp .eql t x y t', ty, "", #[], none⟩ E L (.bool a.isNone) :=
  fun _ _ ha _ => run_eql (ha x _ hx) (ha y _ hy) rfl rfl (run_equal_ptr ht)
theorem Quiet.ptrne {t t' e : TypeId} {x y : Operand} {a : Option Addr} (hx : ev E x = some (.pointer a)) (hy : ev E y = some (.pointer none)) (ht : P.underlying t = some (.pointer e)) : Quiet P ⟨none, .binOp .neq t x y t', ty, "", #[], none⟩ E L (.bool (!a.isNone)) :=
  fun _ _ ha _ => run_neq (ha x _ hx) (ha y _ hy) rfl rfl (run_equal_ptr ht)
theorem Quiet.mapeq {t t' k e : TypeId} {x y : Operand} {a : Option Nat} (hx : ev E x = some (.map a)) (hy : ev E y = some (.map none)) (ht : P.underlying t = some (.map k e)) : Quiet P ⟨none, .binOp .eql t x y t', ty, "", #[], none⟩ E L (.bool a.isNone) :=
  fun _ _ ha _ => run_eql (ha x _ hx) (ha y _ hy) rfl rfl (run_equal_map ht)
theorem Quiet.mapne {t t' k e : TypeId} {x y : Operand} {a : Option Nat} (hx : ev E x = some (.map a)) (hy : ev E y = some (.map none)) (ht : P.underlying t = some (.map k e)) : Quiet P ⟨none, .binOp .neq t x y t', ty, "", #[], none⟩ E L (.bool (!a.isNone)) :=
  fun _ _ ha _ => run_neq (ha x _ hx) (ha y _ hy) rfl rfl (run_equal_map ht)

/-! Strings. -/
theorem Quiet.streq {t t' : TypeId} {x y : Operand} {a b : List UInt8} (hx : ev E x = some (vstr a)) (hy : ev E y = some (vstr b)) : Quiet P ⟨none, .binOp .eql t x y t', ty, "", #[], none⟩ E L (.bool (decide (a = b))) := by
  intro ρ w ha _
  simp [execOp, ha x _ hx, ha y _ hy, eqGuard, binOp, Op.stringOp, Bind.bind, Sem.bind, Pure.pure, Sem.run]
  by_cases h : a = b <;> simp [h]
theorem Quiet.strne {t t' : TypeId} {x y : Operand} {a b : List UInt8} (hx : ev E x = some (vstr a)) (hy : ev E y = some (vstr b)) : Quiet P ⟨none, .binOp .neq t x y t', ty, "", #[], none⟩ E L (.bool (!decide (a = b))) := by
  intro ρ w ha _
  simp [execOp, ha x _ hx, ha y _ hy, eqGuard, binOp, Op.stringOp, Bind.bind, Sem.bind, Pure.pure, Sem.run]
  by_cases h : a = b <;> simp [h]
theorem bs_append (a b : List UInt8) : bs a ++ bs b = bs (a ++ b) := by
  apply ByteArray.ext; simp
theorem bs_size (a : List UInt8) : (bs a).size = a.length := by show a.toArray.size = _; exact List.size_toArray
theorem bs_extract (a : List UInt8) (i j : Nat) : (bs a).extract i j = bs ((a.take j).drop i) := by
  apply ByteArray.ext; rw [ByteArray.data_extract]; simp only [List.extract_toArray, List.extract_eq_take_drop, List.drop_take]
theorem bs_data (s : ByteArray) : bs s.data.toList = s := rfl
theorem Quiet.concat {t t' : TypeId} {x y : Operand} {a b : List UInt8} (hx : ev E x = some (vstr a)) (hy : ev E y = some (vstr b)) (hl : (a.length : Int) + b.length ≤ 9223372036854775807) :
    Quiet P ⟨none, .binOp .add t x y t', ty, "", #[], none⟩ E L (vstr (a ++ b)) := by
  intro ρ w ha _
  have h1 : ¬ ((((bs a).size + (bs b).size : Nat)) : Int) > IntKind.i64.max := by
    rw [bs_size, bs_size, show IntKind.i64.max = 9223372036854775807 from by decide]; omega
  show (do pure (Next.value (← (do eqGuard .add t x y (ρ x) (ρ y); binOp .add t (ρ x) (ρ y)))) : Sem Next).run P w = _
  rw [ha x _ hx, ha y _ hy]
  refine run_v ?_
  have h2 : binOp .add t (vstr a) (vstr b) = pure (vstr (a ++ b)) := by
    show (if ((((bs a).size + (bs b).size : Nat)) : Int) > IntKind.i64.max then unsupported _ else pure (.string (bs a ++ bs b)) : Sem Value) = _
    rw [if_neg h1, bs_append]
  rw [h2]; rfl
theorem exec_builtin {b : Builtin} {xs : Array Operand} {ts : Array TypeId} {ρ : Operand → Value} : execOp ρ ⟨none, .call { callee := .builtin b, args := xs, argTypes := ts }, ty, "", #[], none⟩ =
    builtin b ts ty (xs.map fun | .const _ => true | _ => false) (xs.map ρ) := rfl
theorem Quiet.strlen {t : TypeId} {x : Operand} {a : List UInt8} {ts : Array TypeId} (hx : ev E x = some (vstr a)) (ht : P.underlying t = some .string) (hts : ts = #[t]) :
    Quiet P ⟨none, .call { callee := .builtin .len, args := #[x], argTypes := ts }, ty, "", #[], none⟩ E L (.int .i64 (a.length : Int)) := by
  intro ρ w ha _
  subst hts
  rw [exec_builtin]
  refine run_v ?_
  simp only [List.map_toArray, List.map_cons, List.map_nil]
  rw [ha x _ hx]
  unfold Builtin.len_
  simp only [List.getElem?_toArray, List.getElem?_cons_zero]
  rw [run_bind (run_underlying ht)]
  show Result.ok (goInt (bs a).size) w = _
  rw [bs_size]; rfl
theorem Quiet.slen {t : TypeId} {x : Operand} {a : Option Addr} {n c : Nat} {e : TypeId} {ts : Array TypeId} (hx : ev E x = some (.slice a n c)) (ht : P.underlying t = some (.slice e)) (hts : ts = #[t]) :
    Quiet P ⟨none, .call { callee := .builtin .len, args := #[x], argTypes := ts }, ty, "", #[], none⟩ E L (.int .i64 (n : Int)) := by
  intro ρ w ha _
  subst hts
  rw [exec_builtin]
  refine run_v ?_
  simp only [List.map_toArray, List.map_cons, List.map_nil]
  rw [ha x _ hx]
  unfold Builtin.len_
  simp only [List.getElem?_toArray, List.getElem?_cons_zero]
  rw [run_bind (run_underlying ht)]; rfl
theorem Quiet.extract {x : Operand} {vs : List Value} {i : Nat} {v : Value} (hx : ev E x = some (.tuple vs.toArray)) (hi : vs[i]? = some v) : Quiet P ⟨none, .extract x i, ty, "", #[], none⟩ E L v := by
  intro ρ w ha _
  simp [execOp, ha x _ hx, Instr.extract, hi, Bind.bind, Sem.bind, Pure.pure, Sem.run]
theorem Quiet.strIndex {t : TypeId} {x y : Operand} {a : List UInt8} {k : IntKind} {i : Int} {c : UInt8} (hx : ev E x = some (vstr a)) (hy : ev E y = some (.int k i)) (ht : P.underlying t = some .string)
    (h0 : 0 ≤ i) (hc : a[i.toNat]? = some c) : Quiet P ⟨none, .index t x y, ty, "", #[], none⟩ E L (vbyte c) := by
  intro ρ w ha _
  obtain ⟨hlt, hce⟩ := List.getElem?_eq_some_iff.1 hc
  have : (bs a)[i.toNat]? = some c := by
    rw [getElem?_def]
    simp [bs_size, hlt]
    exact hce
  simp [execOp, ha x _ hx, ha y _ hy, Instr.index, asIntOf, underlying, program, ht, h0, this, Bind.bind, Sem.bind, Pure.pure, Sem.run]
theorem Quiet.indexAddr {t : TypeId} {x y : Operand} {b off n c e sz by' : Nat} {k : IntKind} {i : Int} (hx : ev E x = some (.slice (some ⟨b, off, none⟩) n c)) (hy : ev E y = some (.int k i)) (ht : elemOf' P t = some (e, sz, by'))
    (h0 : 0 ≤ i ∧ i < n) : Quiet P ⟨none, .indexAddr t x y, ty, "", #[], none⟩ E L (.pointer (some ⟨b, off + i.toNat * sz, none⟩)) := by
  intro ρ w ha _
  unfold elemOf' at ht
  split at ht <;> (try cases ht)
  rename_i e' hu
  split at ht <;> (try cases ht)
  rename_i inf hin
  simp [execOp, ha x _ hx, ha y _ hy, Instr.indexAt, asIntOf, underlying, program, hu, h0, sizeOf, typeInfo, hin, Addr.add_eq, Bind.bind, Sem.bind, Pure.pure, Sem.run]
theorem run_sliceBound {i : Int} {y : Nat} {code : BoundsCode} (h : 0 ≤ i ∧ i ≤ y) : (Instr.sliceBound (.int .i64 i) y code).run P w = .ok i.toNat w := by
  show (if 0 ≤ i ∧ i ≤ (y : Int) then (pure i.toNat : Sem Nat) else boundsPanic .i64 i y code).run P w = _
  rw [if_pos h]; rfl
theorem run_sliceBounds {s : Bool} {n c : Nat} {lo hi : Option Value} {i j : Int} (hlo : lo = some (.int .i64 i) ∨ (lo = none ∧ i = 0)) (hhi : hi = some (.int .i64 j) ∨ (hi = none ∧ j = n)) (hb : 0 ≤ i ∧ i ≤ j ∧ j ≤ c) :
    (Instr.sliceBounds s n c lo hi none).run P w = .ok (i.toNat, j.toNat, c) w := by
  obtain ⟨h0, h1, h2⟩ := hb
  have hj : 0 ≤ j := by omega
  have h1' : i ≤ (j.toNat : Int) := by omega
  have h3 : max j 0 = j := by omega
  rcases hlo with rfl | ⟨rfl, rfl⟩ <;> rcases hhi with rfl | ⟨rfl, rfl⟩ <;>
    simp [Instr.sliceBounds, Instr.sliceBound, asIntOf, Bind.bind, Sem.bind, Pure.pure, Sem.run, h0, h1, h2, hj, h3]
theorem opt_lo {ρ : Operand → Value} (ha : Agrees E ρ) {lo : Option Operand} {i z : Int} (h : match lo with | none => i = z | some y => ev E y = some (.int .i64 i)) : lo.map ρ = some (.int .i64 i) ∨ (lo.map ρ = none ∧ i = z) := by
  cases lo with
  | none => exact .inr ⟨rfl, h⟩
  | some y => exact .inl (by simp [ha y _ h])
theorem Quiet.strSlice {t : TypeId} {x : Operand} {lo hi : Option Operand} {a : List UInt8} {i j : Int} (hx : ev E x = some (vstr a)) (ht : P.underlying t = some .string)
    (hlo : match lo with | none => i = 0 | some y => ev E y = some (.int .i64 i)) (hhi : match hi with | none => j = a.length | some y => ev E y = some (.int .i64 j))
    (hb : 0 ≤ i ∧ i ≤ j ∧ j ≤ a.length) : Quiet P ⟨none, .slice t x lo hi none, ty, "", #[], none⟩ E L (vstr ((a.take j.toNat).drop i.toNat)) := by
  intro ρ w ha _
  refine run_v ?_
  show (Instr.sliceAt t (ρ x) (lo.map ρ) (hi.map ρ) none).run P w = _
  rw [ha x _ hx]
  unfold Instr.sliceAt
  rw [run_bind (run_underlying ht)]
  show (Instr.slice t (vstr a) (lo.map ρ) (hi.map ρ) none).run P w = _
  unfold Instr.slice
  rw [run_bind (run_underlying ht)]
  show (do let (l, h, _) ← Instr.sliceBounds false (bs a).size (bs a).size (lo.map ρ) (hi.map ρ) none; pure (.string ((bs a).extract l h)) : Sem Value).run P w = _
  rw [run_bind (run_sliceBounds (i := i) (j := j) (opt_lo ha hlo) (opt_lo ha (by simpa [bs_size] using hhi)) (by rw [bs_size]; exact hb))]
  show Result.ok (Value.string ((bs a).extract i.toNat j.toNat)) w = _
  rw [bs_extract]
theorem Quiet.strTo {t : TypeId} {x y : Operand} {a : List UInt8} {j : Int} (hx : ev E x = some (vstr a)) (hy : ev E y = some (.int .i64 j)) (ht : P.underlying t = some .string) (hb : 0 ≤ j ∧ j ≤ a.length) :
    Quiet P ⟨none, .slice t x none (some y) none, ty, "", #[], none⟩ E L (vstr (a.take j.toNat)) := by
  have := Quiet.strSlice (P := P) (L := L) (ty := ty) (lo := none) (hi := some y) (i := 0) (j := j) hx ht rfl hy ⟨Int.le_refl _, hb.1, hb.2⟩
  simpa using this
theorem Quiet.strFrom {t : TypeId} {x y : Operand} {a : List UInt8} {i : Int} (hx : ev E x = some (vstr a)) (hy : ev E y = some (.int .i64 i)) (ht : P.underlying t = some .string) (hb : 0 ≤ i ∧ i ≤ a.length) :
    Quiet P ⟨none, .slice t x (some y) none none, ty, "", #[], none⟩ E L (vstr (a.drop i.toNat)) := by
  have := Quiet.strSlice (P := P) (L := L) (ty := ty) (lo := some y) (hi := none) (i := i) (j := a.length) hx ht hy rfl ⟨hb.1, hb.2, Int.le_refl _⟩
  simpa using this
theorem Quiet.strMid {t : TypeId} {x y z : Operand} {a : List UInt8} {i j : Int} (hx : ev E x = some (vstr a)) (hy : ev E y = some (.int .i64 i)) (hz : ev E z = some (.int .i64 j)) (ht : P.underlying t = some .string) (hb : 0 ≤ i ∧ i ≤ j ∧ j ≤ a.length) :
    Quiet P ⟨none, .slice t x (some y) (some z) none, ty, "", #[], none⟩ E L (vstr ((a.take j.toNat).drop i.toNat)) :=
  Quiet.strSlice (lo := some y) (hi := some z) hx ht hy hz hb
theorem Quiet.slSlice {t : TypeId} {x : Operand} {lo hi : Option Operand} {b off n c e sz by' : Nat} {i j : Int} (hx : ev E x = some (.slice (some ⟨b, off, none⟩) n c)) (ht : elemOf' P t = some (e, sz, by'))
    (hlo : match lo with | none => i = 0 | some y => ev E y = some (.int .i64 i)) (hhi : match hi with | none => j = n | some y => ev E y = some (.int .i64 j))
    (hb : 0 ≤ i ∧ i ≤ j ∧ j ≤ c) : Quiet P ⟨none, .slice t x lo hi none, ty, "", #[], none⟩ E L
      (.slice (some (if c = i.toNat then ⟨b, off, none⟩ else ⟨b, off + i.toNat * sz, none⟩)) (j.toNat - i.toNat) (c - i.toNat)) := by
  intro ρ w ha _
  unfold elemOf' at ht
  split at ht <;> (try cases ht)
  rename_i e' hu
  split at ht <;> (try cases ht)
  rename_i inf hin
  refine run_v ?_
  show (Instr.sliceAt t (ρ x) (lo.map ρ) (hi.map ρ) none).run P w = _
  rw [ha x _ hx]
  unfold Instr.sliceAt
  rw [run_bind (run_underlying hu)]
  show (Instr.slice t (.slice (some ⟨b, off, none⟩) n c) (lo.map ρ) (hi.map ρ) none).run P w = _
  unfold Instr.slice
  rw [run_bind (run_underlying hu)]
  show (do let (l, h, m) ← Instr.sliceBounds true n c (lo.map ρ) (hi.map ρ) none; let size ← sizeOf e; pure (.slice (if m = l then some ⟨b, off, none⟩ else (some ⟨b, off, none⟩ : Option Addr).map (·.add (l * size))) (h - l) (m - l)) : Sem Value).run P w = _
  rw [run_bind (run_sliceBounds (i := i) (j := j) (opt_lo ha hlo) (opt_lo ha hhi) hb)]
  show (do let size ← sizeOf e; pure (.slice (if c = i.toNat then some ⟨b, off, none⟩ else (some ⟨b, off, none⟩ : Option Addr).map (·.add (i.toNat * size))) (j.toNat - i.toNat) (c - i.toNat)) : Sem Value).run P w = _
  rw [run_bind (run_sizeOf (k := inf.size) (by simp [sizeOf', hin]))]
  simp only [Option.map_some, Addr.add_eq, run_pure]
  split <;> rfl
theorem Quiet.conv {s d : TypeId} {x : Operand} {k k' : IntKind} {a : Int} {de : TypeDesc} (hx : ev E x = some (.int k' a)) (hs : P.underlying s = some de) (hd : P.underlying d = some (.int k)) :
    Quiet P ⟨none, .convert s d x, ty, "", #[], none⟩ E L (.int k (k.wrap a)) := by
  intro ρ w ha _
  simp [execOp, ha x _ hx, convert, underlying, program, hs, hd, Conv.intToInt, Bind.bind, Sem.bind, Pure.pure, Sem.run]
theorem Quiet.func {fn : Go.Fn} {xs ys : Array Operand} {us vs : List Value} (hx : xs.toList.map (ev E) = us.map some) (hy : ys.toList.map (ev E) = vs.map some) :
    Quiet P ⟨none, .makeFunc fn xs ys, ty, "", #[], none⟩ E L (.func fn us.toArray vs.toArray) := by
  intro ρ w ha _
  have : ∀ (l : List Operand) (us : List Value), l.map (ev E) = us.map some → l.map ρ = us := by
    intro l
    induction l with
    | nil => intro us h; cases us with
      | nil => rfl
      | cons u us => simp at h
    | cons x l ih => intro us h; cases us with
      | nil => simp at h
      | cons u us =>
        simp only [List.map_cons, List.cons.injEq] at h ⊢
        exact ⟨ha _ _ h.1, ih us h.2⟩
  have h1 : xs.map ρ = us.toArray := by apply Array.ext'; rw [Array.toList_map]; exact this _ _ hx
  have h2 : ys.map ρ = vs.toArray := by apply Array.ext'; rw [Array.toList_map]; exact this _ _ hy
  simp [execOp, Instr.makeFunc, h1, h2, Bind.bind, Sem.bind, Pure.pure, Sem.run]
end
end Go.Proofs.YtnnbelmpbmfdnaaDoor
