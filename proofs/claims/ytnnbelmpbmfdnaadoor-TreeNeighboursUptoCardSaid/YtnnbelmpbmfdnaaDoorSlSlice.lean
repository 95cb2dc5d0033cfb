/- Own work: slices, arrays, bytes and strings: what reads them, what makes and grows them. -/
import Derived.Test.YtnnbelmpbmfdnaaDoorSlMap
import Derived.Laws.Append
namespace Go.Proofs.YtnnbelmpbmfdnaaDoor
open Go

/-- A heap reads a slice value as cells: n elements of sz cells. -/
def rdS (sz : Nat) (h : Hp) (v : Value) (n : Nat) (ys : List Value) : Prop :=
  (n = 0 ∧ ys = [] ∧ ∃ (a : Option Addr) (c : Nat), v = .slice a 0 c) ∨
  ∃ b off cap l T fr, v = .slice (some ⟨b, off, none⟩) n cap ∧ h b = some (.cells (List.toArray l) T fr) ∧ (l.drop off).take (n * sz) = ys ∧ off + n * sz ≤ l.length ∧ n ≤ cap
/-- A slice value that owns its block from the beginning. -/
def slR (T : TypeId) (sz : Nat) (v : Value) (n : Nat) (xs : List Value) : HP := fun h =>
  (v = .slice none 0 0 ∧ n = 0 ∧ xs = []) ∨
  ∃ b cap rest fr, v = .slice (some ⟨b, 0, none⟩) n cap ∧ h b = some (.cells (List.toArray (xs ++ rest)) T fr) ∧ xs.length = n * sz ∧ cap * sz ≤ xs.length + rest.length ∧ n ≤ cap ∧ nfz fr 0 (cap * sz)
theorem slR_rd {T : TypeId} {sz : Nat} {v : Value} {n : Nat} {xs : List Value} {h : Hp} (hs : slR T sz v n xs h) : rdS sz h v n xs := by
  rcases hs with ⟨rfl, rfl, rfl⟩ | ⟨b, cap, rest, fr, hv, hb, h1, h2, h3, h4⟩
  · exact .inl ⟨rfl, rfl, none, 0, rfl⟩
  · refine .inr ⟨b, 0, cap, xs ++ rest, T, fr, hv, hb, ?_, by simp; omega, h3⟩
    rw [← h1]; simp
theorem rdS_mono {sz : Nat} {h h' : Hp} {v : Value} {n : Nat} {ys : List Value} (hr : rdS sz h v n ys) (hle : ∀ b o, h b = some o → h' b = some o) : rdS sz h' v n ys := by
  rcases hr with hr | ⟨b, off, cap, l, T, fr, h1, h2, h3⟩
  · exact .inl hr
  · exact .inr ⟨b, off, cap, l, T, fr, h1, hle _ _ h2, h3⟩
theorem rdS_len {sz : Nat} {h : Hp} {v : Value} {n : Nat} {ys : List Value} (hr : rdS sz h v n ys) : ys.length = n * sz := by
  rcases hr with ⟨rfl, rfl, -⟩ | ⟨b, off, cap, l, T, fr, h1, h2, h3, h4, h5⟩
  · simp
  · rw [← h3]; simp; omega
theorem spl_all {l vs : List Value} (h : vs.length = l.length) : spl l 0 vs = vs := by
  simp [spl, h]
theorem rdS_pt {sz b off n cap : Nat} {l ys : List Value} {T : TypeId} {fr : Nat × Nat} {h : Hp} (hp : pt b (.cells l.toArray T fr) h) (e : (l.drop off).take (n * sz) = ys) (hl : off + n * sz ≤ l.length) (hc : n ≤ cap) : rdS sz h (.slice (some ⟨b, off, none⟩) n cap) n ys :=
  .inr ⟨b, off, cap, l, T, fr, rfl, hp, e, hl, hc⟩
theorem slR_nil (T : TypeId) (sz : Nat) (h : Hp) : slR T sz (.slice none 0 0) 0 [] h := .inl ⟨rfl, rfl, rfl⟩
theorem slR_pt {T : TypeId} {sz b n : Nat} {xs : List Value} {h : Hp} (hp : ptc b xs T h) (hl : xs.length = n * sz) : slR T sz (.slice (some ⟨b, 0, none⟩) n n) n xs h :=
  .inr ⟨b, n, [], (0, 0), rfl, by rw [List.append_nil]; exact hp, hl, by simp [hl], Nat.le_refl _, nfz0 _ _⟩
theorem slR_slice {T : TypeId} {sz n : Nat} {v : Value} {xs : List Value} {h : Hp} (hs : slR T sz v n xs h) : ∃ a c, v = .slice a n c := by
  rcases hs with ⟨rfl, rfl, -⟩ | ⟨b, cap, rest, fr, hv, -⟩
  · exact ⟨_, _, rfl⟩
  · exact ⟨_, _, hv⟩
theorem slR_length {T : TypeId} {sz n : Nat} {v : Value} {xs : List Value} {h : Hp} (hs : slR T sz v n xs h) : xs.length = n * sz := rdS_len (slR_rd hs)

section
variable {P : Program} {E : Env} {L R : List HP} {ty : TypeId} {w : World}

theorem Quiet.notN {t : TypeId} {x : Operand} {φ : Prop} [Decidable φ] (hx : ev E x = some (.bool (!decide φ))) : Quiet P ⟨none, .unOp .not t x, ty, "", #[], none⟩ E L (.bool (decide φ)) := by
  have := Quiet.not (P := P) (E := E) (L := L) (t := t) (ty := ty) hx
  rwa [Bool.not_not] at this
theorem Quiet.max2 {x y : Operand} {a b : Int} {ts : Array TypeId} (hx : ev E x = some (vint a)) (hy : ev E y = some (vint b)) :
    Quiet P ⟨none, .call { callee := .builtin .max, args := #[x, y], argTypes := ts }, ty, "", #[], none⟩ E L (vint (max a b)) := by
  intro ρ w ha _
  rw [exec_builtin]
  refine run_v ?_
  simp only [List.map_toArray, List.map_cons, List.map_nil]
  rw [ha x _ hx, ha y _ hy]
  show Result.ok (Value.int .i64 (if b > a then b else a)) w = _
  congr 2
  by_cases h : b > a
  · rw [if_pos h]; omega
  · rw [if_neg h]; omega
theorem Quiet.min2 {x y : Operand} {a b : Int} {ts : Array TypeId} (hx : ev E x = some (vint a)) (hy : ev E y = some (vint b)) :
    Quiet P ⟨none, .call { callee := .builtin .min, args := #[x, y], argTypes := ts }, ty, "", #[], none⟩ E L (vint (min a b)) := by
  intro ρ w ha _
  rw [exec_builtin]
  refine run_v ?_
  simp only [List.map_toArray, List.map_cons, List.map_nil]
  rw [ha x _ hx, ha y _ hy]
  show Result.ok (Value.int .i64 (if b < a then b else a)) w = _
  congr 2
  by_cases h : b < a
  · rw [if_pos h]; omega
  · rw [if_neg h]; omega
theorem Quiet.arrSlice {t : TypeId} {x : Operand} {lo hi : Option Operand} {b off n e sz : Nat} {i j : Int} (hx : ev E x = some (.pointer (some ⟨b, off, none⟩))) (ht : arrOf P t = some (n, e, sz))
    (hlo : match lo with | none => i = 0 | some y => ev E y = some (.int .i64 i)) (hhi : match hi with | none => j = n | some y => ev E y = some (.int .i64 j))
    (hb : 0 ≤ i ∧ i ≤ j ∧ j ≤ n) : Quiet P ⟨none, .slice t x lo hi none, ty, "", #[], none⟩ E L
      (.slice (some (if n = i.toNat then ⟨b, off, none⟩ else ⟨b, off + i.toNat * sz, none⟩)) (j.toNat - i.toNat) (n - i.toNat)) := by
  intro ρ w ha _
  unfold arrOf at ht
  split at ht <;> (try cases ht)
  rename_i n' e' hu
  split at ht <;> (try cases ht)
  rename_i inf hin
  refine run_v ?_
  show (Instr.sliceAt t (ρ x) (lo.map ρ) (hi.map ρ) none).run P w = _
  rw [ha x _ hx]
  unfold Instr.sliceAt
  rw [run_bind (run_underlying hu)]
  show (do let (l, h, m) ← Instr.sliceBounds false n n (lo.map ρ) (hi.map ρ) none; let size ← sizeOf e; pure (.slice (some (if m = l then ⟨b, off, none⟩ else (⟨b, off, none⟩ : Addr).add (l * size))) (h - l) (m - l)) : Sem Value).run P w = _
  rw [run_bind (run_sliceBounds (i := i) (j := j) (opt_lo ha hlo) (opt_lo ha hhi) hb)]
  show (do let size ← sizeOf e; pure (.slice (some (if n = i.toNat then ⟨b, off, none⟩ else (⟨b, off, none⟩ : Addr).add (i.toNat * size))) (j.toNat - i.toNat) (n - i.toNat)) : Sem Value).run P w = _
  rw [run_bind (run_sizeOf (k := inf.size) (by simp [sizeOf', hin]))]
  simp only [Addr.add_eq, run_pure]
theorem Quiet.toArr {t : TypeId} {x : Operand} {a : Addr} {n m c e sz : Nat} (hx : ev E x = some (.slice (some a) m c)) (ht : arrOf P t = some (n, e, sz)) (h : n ≤ m) :
    Quiet P ⟨none, .sliceToArrayPointer t x, ty, "", #[], none⟩ E L (.pointer (some a)) := by
  intro ρ w ha _
  unfold arrOf at ht
  split at ht <;> (try cases ht)
  rename_i n' e' hu
  split at ht <;> (try cases ht)
  refine run_v ?_
  show (Instr.arrayAt t (ρ x)).run P w = _
  rw [ha x _ hx]
  unfold Instr.arrayAt
  rw [run_bind (run_underlying hu)]
  show (if m < n then runtimePanic _ else pure (.pointer (some a)) : Sem Value).run P w = _
  rw [if_neg (by omega)]; rfl
/-- Bytes as a text. -/
theorem run_bytes (f : Value → ByteArray → Sem (ForInStep ByteArray)) (hf : ∀ c s, f (vbyte c) s = pure (ForInStep.yield (s.push c))) (cs : List UInt8) :
    ∀ (acc : ByteArray), (forIn (m := Sem) ((cs.map vbyte).toArray) acc f).run P w = .ok (⟨acc.data ++ cs.toArray⟩ : ByteArray) w := by
  induction cs with
  | nil => intro acc; rw [List.forIn_toArray]; simp [run_pure]
  | cons c cs ih =>
    intro acc
    have ih' := ih (acc.push c)
    rw [List.forIn_toArray] at ih' ⊢
    simp only [List.map_cons, List.forIn_cons]
    rw [hf, run_bind run_pure]
    dsimp only
    rw [ih']
    congr 1
    apply ByteArray.ext
    simp [ByteArray.push]
theorem Quiet.bytesBy {s d e : TypeId} {x : Operand} {v : Value} {n : Nat} {cs : List UInt8} {p : HP} (hx : ev E x = some v) (hs : P.underlying s = some (.slice e)) (he : P.underlying e = some (.int .u8)) (hd : P.underlying d = some .string)
    (hr : ∀ h : Hp, p h → rdS 1 h v n (cs.map vbyte)) (hL : Pick p L R) : Quiet P ⟨none, .convert s d x, ty, "", #[], none⟩ E L (vstr cs) := by
  intro ρ w ha hst
  obtain ⟨h1, a1, hp⟩ := sep_head (hst.pick hL)
  have hr' := rdS_mono (hr _ hp) a1
  refine run_v ?_
  show (convert s d (ρ x)).run P w = _
  rw [ha x _ hx]
  unfold convert
  rw [run_bind (run_underlying hs), run_bind (run_underlying hd)]
  rcases hr' with ⟨-, hcs, a, c, rfl⟩ | ⟨b, off, cap, l, T, fr, rfl, hb, hcs, hlen, -⟩
  · have : cs = [] := by simpa using hcs
    subst this
    dsimp only
    rw [run_bind (run_underlying he)]
    cases a <;> rfl
  · dsimp only
    rw [run_bind (run_underlying he)]
    dsimp only
    unfold Conv.bytesToString
    dsimp only
    have hlen' : off + n ≤ l.length := by omega
    rw [Nat.mul_one] at hcs
    rw [run_bind (run_loadCells hb hlen'), hcs, run_bind (run_bytes _ (fun c s => by show pure (ForInStep.yield (s.push (UInt8.ofNat (c.toNat : Int).toNat))) = _; simp) cs _)]
    simp [run_pure]
theorem Quiet.bytesPt {s d e : TypeId} {x : Operand} {b off n c : Nat} {l : List Value} {T : TypeId} {fr : Nat × Nat} {cs : List UInt8} (hx : ev E x = some (.slice (some ⟨b, off, none⟩) n c)) (hs : P.underlying s = some (.slice e)) (he : P.underlying e = some (.int .u8)) (hd : P.underlying d = some .string)
    (hL : Pick (pt b (.cells l.toArray T fr)) L R) (hv : (l.drop off).take n = cs.map vbyte) (hl : off + n ≤ l.length) (hc : n ≤ c) : Quiet P ⟨none, .convert s d x, ty, "", #[], none⟩ E L (vstr cs) :=
  Quiet.bytesBy (n := n) hx hs he hd (fun _ hp => rdS_pt hp (by rw [Nat.mul_one]; exact hv) (by rw [Nat.mul_one]; exact hl) hc) hL
/-- A text as bytes: a new block, marked behind its end. -/
theorem OpSpec.strBytes {s d e : TypeId} {x : Operand} {cs : List UInt8} (hx : ev E x = some (vstr cs)) {u : TypeDesc} (hs : P.underlying s = some u) (hd : P.underlying d = some (.slice e)) (he : P.underlying e = some (.int .u8)) :
    OpSpec P ⟨none, .convert s d x, ty, "", #[], none⟩ E [] fun v L' => L' = [slR e 1 v cs.length (cs.map vbyte)] ∧ ∃ b c, v = .slice (some ⟨b, 0, none⟩) cs.length c := by
  intro ρ w F ha hst
  let q : Question := .appendCap cs.length 0 e
  let cap := q.cut (w.tape w.drawn q)
  let l := cs.map vbyte ++ List.replicate (cap - cs.length) (Value.int .u8 0)
  have hcap : cs.length ≤ cap := by show cs.length ≤ cs.length + _; omega
  have hll : l.length = cap := by simp [l]; omega
  let w1 : World := { w with drawn := w.drawn + 1 }
  have hrun : (execOp ρ ⟨none, .convert s d x, ty, "", #[], none⟩).run P w = .ok (.value (.slice (some ⟨w.heap.size, 0, none⟩) cs.length cap)) { w1 with heap := w.heap.push (.cells l.toArray e (cap, cap + 1)) } := by
    refine run_v ?_
    show (convert s d (ρ x)).run P w = _
    rw [ha x _ hx]
    unfold convert
    rw [run_bind (run_underlying hs), run_bind (run_underlying hd)]
    have : ∀ u : TypeDesc, (match u, TypeDesc.slice e, vstr cs with
      | _, .int k, .int _ n => Conv.intToInt k n
      | _, .float k, .int _ n => Conv.intToFloat k n
      | _, .int k, .float s b => Conv.floatToInt s b k
      | _, .float k, .float s b => Conv.floatToFloat s b k
      | _, .complex k, .complex s a b => Conv.complexToComplex s a b k
      | _, .string, .int _ n => Conv.intToString n
      | _, .string, .string _ => pure (vstr cs)
      | _, .slice e, .string s => (do match ← underlying e with | .int .u8 => Conv.stringToBytes e s | .int .i32 => Conv.stringToRunes e s | _ => stuck "Convert: string to a slice of what?")
      | .slice _, .slice e, .slice (some a) _ _ => (do match s == d, ← underlying e with | true, .int .u8 => do markStringish a; pure (vstr cs) | _, _ => unsupported (.noEntry "convert/other"))
      | .slice e, .string, x => (do match ← underlying e with | .int .u8 => Conv.bytesToString x | .int .i32 => Conv.runesToString x | _ => stuck "Convert: a slice of what to string?")
      | .unsafePointer, _, x | _, .unsafePointer, x => Conv.unsafePointer s d x
      | .int _, _, .pointer (some _) => unsupported .addressObserved
      | _, _, _ => unsupported (.noEntry "convert/other") : Sem Value) = (do match ← underlying e with | .int .u8 => Conv.stringToBytes e (bs cs) | .int .i32 => Conv.stringToRunes e (bs cs) | _ => stuck "Convert: string to a slice of what?") := by
      intro u; cases u <;> rfl
    refine (congrArg (fun z : Sem Value => z.run P w) (this u)).trans ?_
    rw [run_bind (run_underlying he)]
    dsimp only
    unfold Conv.stringToBytes
    have hch : (choose (.appendCap (bs cs).size 0 e)).run P w = .ok cap w1 := by
      rw [bs_size]; simp [choose, Sem.run, Question.forced, cap, q, w1]
    rw [run_bind hch]
    have helems : (Array.map (fun b : UInt8 => Value.int .u8 (b.toNat : Int)) (bs cs).data ++ Array.replicate (cap - (bs cs).size) (Value.int .u8 0)) = l.toArray := by
      rw [bs_size]; apply Array.ext'; simp [l]
    dsimp only
    rw [helems, run_bind (run_newRow e l.toArray)]
    have hmark : (markStringish ⟨w.heap.size, 0, none⟩).run P { w1 with heap := w.heap.push (.cells l.toArray e) } = .ok () { w1 with heap := w.heap.push (.cells l.toArray e (cap, cap + 1)) } := by
      unfold markStringish
      have hsh : (shape w.heap.size).run P { w1 with heap := w.heap.push (.cells l.toArray e) } = .ok (some (e, cap)) { w1 with heap := w.heap.push (.cells l.toArray e) } := by
        simp [shape, Sem.run, World.shape?, hll]
      rw [run_bind hsh]
      dsimp only
      simp only [freeze, Sem.run]
      congr 1
      simp only [World.freeze]
      have : w.heap.push (.cells l.toArray e) = (w.heap.push (.cells l.toArray e)) := rfl
      simp only [Nat.reduceEqDiff, if_false]
      congr 1
      apply Array.ext_getElem?
      intro i
      rw [Array.getElem?_modify]
      by_cases hi : w.heap.size = i
      · subst hi; simp
      · rw [if_neg hi, Array.getElem?_push, Array.getElem?_push, if_neg (Ne.symm hi), if_neg (Ne.symm hi)]
    rw [run_bind hmark, bs_size]; rfl
  unfold Runs; rw [hrun]
  refine ⟨[slR e 1 (.slice (some ⟨w.heap.size, 0, none⟩) cs.length cap) cs.length (cs.map vbyte)], ⟨rfl, _, _, rfl⟩, ?_, ?_⟩
  · have h1 : St (pt w.heap.size (.cells l.toArray e (cap, cap + 1)) :: F) { w1 with heap := w.heap.push (.cells l.toArray e (cap, cap + 1)) } := St.of_heap (St.new (L := F) hst _) rfl
    refine sep_imp (fun h hp => ?_) h1
    refine .inr ⟨w.heap.size, cap, List.replicate (cap - cs.length) (Value.int .u8 0), (cap, cap + 1), rfl, hp, by simp, by simp; omega, hcap, fun i _ h2 h3 => by simp at h2 h3; omega⟩
  · exact (Keeps.drew w).trans (Keeps.new w1 _)
/-- make. -/
theorem run_made {z : Value} {l : List Value} {n : Nat} (hz : z.cells = l.toArray) {z0 : Value} (hl : l ≠ [] ∧ ∀ v ∈ l, v = z0) : (Array.range n).map (fun i => z.cells[i % z.cells.size]!) = (List.replicate n z0).toArray := by
  apply Array.ext
  · simp
  · intro i h1 h2
    have hpos : 0 < l.length := List.length_pos_iff.2 hl.1
    have hlt : i % l.length < l.length := Nat.mod_lt _ hpos
    simp only [Array.getElem_map, Array.getElem_range, hz, List.size_toArray, List.getElem_toArray, List.getElem_replicate]
    rw [List.getElem!_toArray, getElem!_pos l (i % l.length) hlt]
    exact hl.2 _ (List.getElem_mem _)
theorem OpSpec.make {t e : TypeId} {x y : Operand} {i j : Int} {sz by' : Nat} {z z0 : Value} {l : List Value} (hx : ev E x = some (vint i)) (hy : ev E y = some (vint j)) (ht : elemOf' P t = some (e, sz, by')) (hz : zeroOf P e = some z) (hzc : z.cells = l.toArray) (hl : (l ≠ [] ∧ ∀ v ∈ l, v = z0))
    (hb : 0 ≤ i ∧ i ≤ j ∧ (by' : Int) * j ≤ 281474976710656 ∧ j ≤ 9223372036854775807) : OpSpec P ⟨none, .makeSlice t x y, ty, "", #[], none⟩ E [] fun v L' => ∃ b, v = .slice (some ⟨b, 0, none⟩) i.toNat j.toNat ∧ L' = [ptc b (List.replicate (j.toNat * sz) z0) e] := by
  intro ρ w F ha hs
  unfold elemOf' at ht
  split at ht <;> (try cases ht)
  rename_i e' hu
  split at ht <;> (try cases ht)
  rename_i inf hin
  obtain ⟨h0, h1, h2, h3⟩ := hb
  have hwi : IntKind.i64.wrap i = i := i64w (by omega)
  have hwj : IntKind.i64.wrap j = j := i64w (by omega)
  have hrun : (execOp ρ ⟨none, .makeSlice t x y, ty, "", #[], none⟩).run P w = .ok (.value (.slice (some ⟨w.heap.size, 0, none⟩) i.toNat j.toNat)) { w with heap := w.heap.push (.cells (List.replicate (j.toNat * inf.size) z0).toArray e) } := by
    refine run_v ?_
    show (Instr.makeSlice t (ρ x) (ρ y)).run P w = _
    rw [ha x _ hx, ha y _ hy]
    unfold Instr.makeSlice
    rw [run_bind (run_underlying hu)]
    dsimp only
    have hti : (typeInfo e).run P w = .ok inf w := by simp [typeInfo, program, Bind.bind, Sem.bind, Pure.pure, Sem.run, hin]
    rw [run_bind (a := i) (w' := w) rfl, run_bind (a := j) (w' := w) rfl, run_bind hti]
    simp only [hwi, hwj]
    have c1 : ((decide (j < 0) || decide ((inf.bytes : Int) * j > 2 ^ 48)) || decide (i < 0) || decide (i > j)) = false := by
      simp only [Bool.or_eq_false_iff, decide_eq_false_iff_not]
      refine ⟨⟨⟨by omega, ?_⟩, by omega⟩, by omega⟩
      have : (2 : Int) ^ 48 = 281474976710656 := by decide
      omega
    rw [c1]
    simp only [Bool.false_eq_true, if_false]
    rw [run_bind (run_askRoom (P := P) (w := w) _), run_bind (run_sizeOf (k := inf.size) (by simp [sizeOf', hin]))]
    by_cases hn : j.toNat * inf.size = 0
    · rw [if_pos hn, run_bind run_pure]
      rw [hn]
      have he : (Array.range 0).map (fun x => (#[] : Array Value)[x % (#[] : Array Value).size]!) = (List.replicate 0 z0).toArray := by simp
      rw [he, run_bind (run_newRow e _)]
      rfl
    · rw [if_neg hn]
      rw [run_bind (run_zero hz), run_bind run_pure, run_made hzc hl, run_bind (run_newRow e _)]
      rfl
  unfold Runs; rw [hrun]
  exact ⟨_, ⟨_, rfl, rfl⟩, St.new (L := F) hs _, Keeps.new _ _⟩
theorem rdS_at {sz b off n c : Nat} {ys : List Value} {h : Hp} (hr : rdS sz h (.slice (some ⟨b, off, none⟩) n c) n ys) (hn : n ≠ 0) : ∃ (T : TypeId) (fr : Nat × Nat) (l : List Value), h b = some (.cells l.toArray T fr) ∧ off + n * sz ≤ l.length ∧ (l.drop off).take (n * sz) = ys ∧ n ≤ c := by
  rcases hr with ⟨h1, -⟩ | ⟨b', off', cap, l, T, fr, h1, h2, h3, h4, h5⟩
  · exact absurd h1 hn
  · simp only [Value.slice.injEq, Option.some.injEq, Addr.mk.injEq] at h1
    obtain ⟨⟨rfl, rfl, -⟩, -, rfl⟩ := h1
    exact ⟨T, fr, l, h2, h4, h3, h5⟩
/-- A struct or array out of a slice's memory, by whatever atom reads it. -/
theorem Quiet.loadAr {t : TypeId} {x : Operand} {b off k m c sz : Nat} {ys vs : List Value} {p : HP} (hx : ev E x = some (.pointer (some ⟨b, off, none⟩))) (hp : aggOf P t = some (some k)) (hL : Pick p L R)
    (hr : ∀ h : Hp, p h → rdS sz h (.slice (some ⟨b, off, none⟩) m c) m ys) (hk : k ≤ m * sz) (hv : ys.take k = vs) (hm : m ≠ 0 := by omega) : Quiet P ⟨none, .load t x, ty, "", #[], none⟩ E L (.agg vs.toArray) := by
  intro ρ w ha hs
  obtain ⟨h1, a1, hp1⟩ := sep_head (hs.pick hL)
  obtain ⟨T, fr, l, hb, hl, hys, -⟩ := rdS_at (hr _ hp1) hm
  show (do pure (Next.value (← Instr.loadAt t (ρ x))) : Sem Next).run P w = _
  rw [ha x _ hx]
  have : (Instr.loadAt t (.pointer (some ⟨b, off, none⟩))).run P w = .ok (.agg vs.toArray) w := by
    unfold Instr.loadAt
    rw [← hv, ← hys, List.take_take, Nat.min_eq_left hk]
    exact run_loadVarA hp (a1 _ _ hb) (by omega)
  rw [run_bind this]; rfl
/-- One cell out of a slice's memory: element i. -/
theorem Quiet.loadEl {t : TypeId} {x : Operand} {b off n c i : Nat} {ys : List Value} {v : Value} {p : HP} (hx : ev E x = some (.pointer (some ⟨b, off + i, none⟩))) (hp : aggOf P t = some none) (hL : Pick p L R)
    (hr : ∀ h : Hp, p h → rdS 1 h (.slice (some ⟨b, off, none⟩) n c) n ys) (hv : ys[i]? = some v) : Quiet P ⟨none, .load t x, ty, "", #[], none⟩ E L v := by
  intro ρ w ha hs
  obtain ⟨h1, a1, hp1⟩ := sep_head (hs.pick hL)
  obtain ⟨T, fr, l, hb, hl, hys, -⟩ := rdS_at (hr _ hp1) (fun h0 => by have := rdS_len (hr _ hp1); rw [h0] at this; rw [List.eq_nil_of_length_eq_zero (by omega : ys.length = 0)] at hv; cases hv)
  show (do pure (Next.value (← Instr.loadAt t (ρ x))) : Sem Next).run P w = _
  rw [ha x _ hx]
  have hlv : l[off + i]? = some v := by
    rw [← hys, List.getElem?_take] at hv
    split at hv
    · simpa using hv
    · cases hv
  have : (Instr.loadAt t (.pointer (some ⟨b, off + i, none⟩))).run P w = .ok v w := by
    unfold Instr.loadAt
    exact run_loadVar1 hp (a1 _ _ hb) hlv
  rw [run_bind this]; rfl
theorem firstCells_rd {sz n : Nat} {v : Value} {ys : List Value} (hr : rdS sz (fun b => w.heap[b]?) v n ys) : (Builtin.firstCells sz n v).run P w = .ok ys.toArray w := by
  rcases hr with ⟨rfl, rfl, a, c, rfl⟩ | ⟨b, off, cap, l, T, fr, rfl, hb, h3, h4, -⟩
  · cases a with
    | none => rfl
    | some a => show (loadCells a (0 * sz)).run P w = _; rw [Nat.zero_mul]; rfl
  · show (loadCells ⟨b, off, none⟩ (n * sz)).run P w = _
    rw [run_loadCells hb h4, h3]
/-- What may be appended or copied: a slice's memory, or a string. -/
def srcS (sz : Nat) (h : Hp) (u : Value) (m : Nat) (ys : List Value) : Prop := rdS sz h u m ys ∨ ∃ s : List UInt8, u = vstr s ∧ sz = 1 ∧ m = s.length ∧ ys = s.map vbyte
theorem srcS_mono {sz : Nat} {h h' : Hp} {v : Value} {n : Nat} {ys : List Value} (hr : srcS sz h v n ys) (hle : ∀ b o, h b = some o → h' b = some o) : srcS sz h' v n ys := hr.imp (fun h => rdS_mono h hle) id
theorem srcS_len {sz : Nat} {h : Hp} {v : Value} {n : Nat} {ys : List Value} (hr : srcS sz h v n ys) : ys.length = n * sz := by
  rcases hr with hr | ⟨s, -, rfl, rfl, rfl⟩
  · exact rdS_len hr
  · simp
theorem src_lenOf {sz m : Nat} {u : Value} {ys : List Value} (hr : srcS sz (fun b => w.heap[b]?) u m ys) : (Builtin.lenOf u).run P w = .ok m w := by
  rcases hr with (⟨rfl, -, a, c, rfl⟩ | ⟨b, off, cap, l, T, fr, rfl, -⟩) | ⟨s, rfl, -, rfl, -⟩
  · rfl
  · rfl
  · show (pure (bs s).size : Sem Nat).run P w = _
    rw [bs_size]; rfl
theorem src_cells {sz m k : Nat} {u : Value} {ys : List Value} (hr : srcS sz (fun b => w.heap[b]?) u m ys) (hk : k ≤ m) : (Builtin.firstCells sz k u).run P w = .ok (ys.take (k * sz)).toArray w := by
  rcases hr with (⟨rfl, rfl, a, c, rfl⟩ | ⟨b, off, cap, l, T, fr, rfl, hb, h3, h4, -⟩) | ⟨s, rfl, rfl, rfl, rfl⟩
  · obtain rfl : k = 0 := by omega
    cases a with
    | none => simp [Builtin.firstCells, run_pure]
    | some a => show (loadCells a (0 * sz)).run P w = _; rw [Nat.zero_mul]; rfl
  · show (loadCells ⟨b, off, none⟩ (k * sz)).run P w = _
    have hle : k * sz ≤ m * sz := Nat.mul_le_mul_right _ hk
    rw [run_loadCells hb (by omega), ← h3, List.take_take, Nat.min_eq_left hle]
  · show (pure (((bs s).extract 0 k).data.map fun b => Value.int .u8 b.toNat) : Sem (Array Value)).run P w = _
    rw [bs_extract]
    simp [run_pure, List.map_take]
theorem src_all {sz m : Nat} {u : Value} {ys : List Value} (hr : srcS sz (fun b => w.heap[b]?) u m ys) : (Builtin.firstCells sz m u).run P w = .ok ys.toArray w := by
  rw [src_cells hr (Nat.le_refl _), List.take_of_length_le (Nat.le_of_eq (srcS_len hr))]
/-- append, onto a slice that is owned. -/
theorem OpSpec.appendG {t tx e : TypeId} {x y : Operand} {v u : Value} {n m sz by' : Nat} {xs ys : List Value} {z : Value} {zl : List Value} {p : HP} {ts : Array TypeId} (hts : ts = #[t, tx]) (hx : ev E x = some v) (hy : ev E y = some u) (ht : elemOf' P t = some (e, sz, by')) (htx : (∃ e', P.underlying tx = some (.slice e')) ∨ P.underlying tx = some .string)
    (hz : zeroOf P e = some z) (hzc : z.cells = zl.toArray) (hzl : zl.length = sz) (hcell : ∀ y ∈ ys, isCell y = true) (hrd : ∀ h : Hp, p h → srcS sz h u m ys) (hb : (n + m) * by' ≤ 140737488355328) (hb0 : 0 < by') :
    OpSpec P ⟨none, .call { callee := .builtin .append, args := #[x, y], argTypes := ts }, ty, "", #[], none⟩ E [slR e sz v n xs, p] fun v' L' => (∃ a c, v' = .slice a (n + m) c) ∧ L' = [slR e sz v' (n + m) (xs ++ ys), p] := by
  intro ρ w F ha hs
  subst hts
  have hs2 : St (p :: slR e sz v n xs :: F) w := sep_swap hs
  obtain ⟨hp1, ap, hpp⟩ := sep_head hs2
  have hru : srcS sz (fun b => w.heap[b]?) u m ys := srcS_mono (hrd _ hpp) ap
  obtain ⟨hv1, av, hvv⟩ := sep_head hs
  have hrv : rdS sz (fun b => w.heap[b]?) v n xs := rdS_mono (slR_rd hvv) av
  unfold elemOf' at ht
  split at ht <;> (try cases ht)
  rename_i e' hu
  split at ht <;> (try cases ht)
  rename_i inf hin
  have hti : ∀ w : World, (typeInfo e).run P w = .ok inf w := fun w => by simp [typeInfo, program, Bind.bind, Sem.bind, Pure.pure, Sem.run, hin]
  have hsz : ∀ w : World, (sizeOf e).run P w = .ok inf.size w := fun w => run_sizeOf (by simp [sizeOf', hin])
  have hlen : (Builtin.lenOf u).run P w = .ok m w := src_lenOf hru
  obtain ⟨a, sCap, hva⟩ : ∃ a sCap, v = .slice a n sCap := slR_slice hvv
  have main : ∃ v' w', (Builtin.append_ #[t, tx] ty #[v, u]).run P w = .ok v' w' ∧ St (slR e inf.size v' (n + m) (xs ++ ys) :: p :: F) w' ∧ Keeps w w' := by
    rcases htx with ⟨e', htx⟩ | htx
    all_goals
      unfold Builtin.append_
      simp only [List.getElem?_toArray, List.getElem?_cons_zero, List.getElem?_cons_succ]
      subst hva
      rw [run_bind (run_underlying hu)]
      dsimp only
      rw [run_bind (hsz w)]
      rw [run_bind (run_underlying htx), run_bind run_pure]
      dsimp only
      simp only [Bool.false_eq_true, if_false, Bool.not_false, if_true]
      rw [run_bind hlen]
      by_cases hroom : n + m ≤ sCap
      · rw [if_pos hroom, run_bind (src_all hru)]
        rcases hvv with ⟨hv0, rfl, rfl⟩ | ⟨b, cap, rest, fr, hv0, hb1, hl1, hl2, hl3, hl4⟩
        · simp only [Value.slice.injEq] at hv0
          obtain ⟨rfl, -, rfl⟩ := hv0
          have hm0 : m = 0 := by omega
          subst hm0
          have hys : ys = [] := by
            have := srcS_len hru; simpa using this
          subst hys
          refine ⟨_, w, rfl, ?_, .refl _⟩
          exact hs
        · simp only [Value.slice.injEq] at hv0
          obtain ⟨rfl, -, rfl⟩ := hv0
          have hyl := srcS_len hru
          have hbw := av _ _ hb1
          have hmul : n * inf.size + m * inf.size ≤ sCap * inf.size := by rw [← Nat.add_mul]; exact Nat.mul_le_mul_right _ hroom
          have hst := run_storeCells (P := P) ys w (xs ++ rest) (n * inf.size) 0 hbw (by simp; omega) hcell (fun i h1 h2 => hl4 i (by omega) (by omega))
          dsimp only
          rw [Addr.add_eq, Nat.zero_add, run_bind hst]
          refine ⟨_, _, rfl, ?_, Keeps.upd _ _ _⟩
          rw [Nat.add_zero]
          have hspl : spl (xs ++ rest) (n * inf.size) ys = (xs ++ ys) ++ rest.drop ys.length := by
            unfold spl
            rw [← hl1, List.take_left, List.append_assoc, List.append_assoc]
            congr 2
            rw [List.drop_append, List.drop_eq_nil_of_le (by omega)]
            simp
          rw [hspl]
          -- the block is owned: its frame stays
          obtain ⟨g1, g2, gd, b1, b2, gp, gL⟩ := hs
          have gp' := gp
          rcases gp with ⟨gv, -, -⟩ | ⟨b', cap', rest', fr', gv, gb, gl1, gl2, gl3, gl4⟩
          · simp at gv
          · simp only [Value.slice.injEq, Option.some.injEq, Addr.mk.injEq] at gv
            obtain ⟨⟨rfl, -, -⟩, -, rfl⟩ := gv
            have h2b : g2 b = none := (gd b).resolve_left (by rw [gb]; simp)
            refine ⟨fun c => if c = b then some (.cells ((xs ++ ys) ++ rest.drop ys.length).toArray e fr) else none, g2, fun c => ?_, fun c o ec => ?_, fun c o ec => ?_, ?_, gL⟩
            · by_cases ec : c = b
              · exact .inr (ec ▸ h2b)
              · exact .inl (if_neg ec)
            · by_cases hc : c = b
              · subst hc; simp only [if_true] at ec; injection ec with ec; rw [← ec]; exact upd_get hbw
              · simp [hc] at ec
            · have hc : c ≠ b := by rintro rfl; rw [h2b] at ec; cases ec
              have := b2 _ _ ec
              simpa [upd, Ne.symm hc] using this
            · refine .inr ⟨b, sCap, rest.drop ys.length, fr, rfl, by simp, ?_, ?_, hroom, hl4⟩
              · simp [hl1, hyl, Nat.add_mul]
              · simp; omega
      · rw [if_neg hroom]
        have hn1 : ¬ (((n + m : Nat) : Int) > IntKind.i64.max ∧ (False ∨ inf.bytes = 0)) := by
          rintro ⟨-, h⟩
          rcases h with h | h
          · cases h
          · omega
        rw [run_bind (hti w)]
        rw [if_neg hn1]
        rw [run_bind (hti w)]
        have hfit := growslice_fits (need := n + m) (old := sCap) (bytes := inf.bytes) (by omega) hb
        rw [if_neg (by omega)]
        let q : Question := .appendCap (n + m) sCap e
        let cap := q.cut (w.tape w.drawn q)
        have hcap : n + m ≤ cap := by show n + m ≤ n + m + _; omega
        let w1 : World := { w with drawn := w.drawn + 1 }
        have hch : (choose (.appendCap (n + m) sCap e)).run P w = .ok cap w1 := by simp [choose, Sem.run, Question.forced, cap, q, w1]
        rw [run_bind hch, run_bind (hti w1), run_bind (run_askRoom (P := P) (w := w1) _)]
        have hrv1 : rdS inf.size (fun b => w1.heap[b]?) (.slice a n sCap) n xs := hrv
        have hru1 : srcS inf.size (fun b => w1.heap[b]?) u m ys := hru
        rw [run_bind (firstCells_rd hrv1), run_bind (src_all hru1), run_bind (run_zero hz)]
        have hzs : (Builtin.zeroCells z.cells (cap - (n + m))) = ((List.range ((cap - (n + m)) * zl.length)).map fun i => zl[i % zl.length]!).toArray := by
          unfold Builtin.zeroCells
          rw [hzc]
          apply Array.ext'
          simp [List.getElem!_toArray]
        rw [hzs]
        let rest := (List.range ((cap - (n + m)) * zl.length)).map fun i => zl[i % zl.length]!
        have hcells : xs.toArray ++ ys.toArray ++ rest.toArray = ((xs ++ ys) ++ rest).toArray := by simp
        rw [show xs.toArray ++ ys.toArray ++ ((List.range ((cap - (n + m)) * zl.length)).map fun i => zl[i % zl.length]!).toArray = ((xs ++ ys) ++ rest).toArray from hcells]
        rw [run_bind (run_newRow e _)]
        refine ⟨_, _, rfl, ?_, (Keeps.drew w).trans (Keeps.new w1 _)⟩
        have hsF : St (p :: F) w1 := (St.tail hs).drew
        have h1 := St.new hsF (.cells ((xs ++ ys) ++ rest).toArray e (0, 0))
        refine sep_imp (fun h hp => ?_) h1
        refine .inr ⟨w1.heap.size, cap, rest, (0, 0), rfl, hp, ?_, ?_, hcap, nfz0 _ _⟩
        · simp [rdS_len hrv, srcS_len hru, Nat.add_mul]
        · simp only [List.length_append, rdS_len hrv, srcS_len hru, rest, List.length_map, List.length_range, hzl]
          rw [← Nat.add_mul, ← Nat.add_mul]
          exact Nat.le_of_eq (by congr 1; omega)
  obtain ⟨v', w', hr, h1, h2⟩ := main
  have hrun : (execOp ρ ⟨none, .call { callee := .builtin .append, args := #[x, y], argTypes := #[t, tx] }, ty, "", #[], none⟩).run P w = .ok (.value v') w' := by
    rw [exec_builtin]
    refine run_v ?_
    simp only [List.map_toArray, List.map_cons, List.map_nil]
    rw [ha x _ hx, ha y _ hy]; exact hr
  obtain ⟨hq1, -, hqq⟩ := sep_head h1
  unfold Runs; rw [hrun]
  exact ⟨_, ⟨slR_slice hqq, rfl⟩, h1, h2⟩
theorem OpSpec.append {t tx e : TypeId} {x y : Operand} {v u : Value} {n m sz by' : Nat} {xs ys : List Value} {z : Value} {zl : List Value} {p : HP} {ts : Array TypeId} (hts : ts = #[t, tx]) (hx : ev E x = some v) (hy : ev E y = some u) (ht : elemOf' P t = some (e, sz, by')) (htx : (∃ e', P.underlying tx = some (.slice e')) ∨ P.underlying tx = some .string)
    (hz : zeroOf P e = some z) (hzc : z.cells = zl.toArray) (hzl : zl.length = sz) (hcell : ∀ y ∈ ys, isCell y = true) (hrd : ∀ h : Hp, p h → rdS sz h u m ys) (hb : (n + m) * by' ≤ 140737488355328) (hb0 : 0 < by') :
    OpSpec P ⟨none, .call { callee := .builtin .append, args := #[x, y], argTypes := ts }, ty, "", #[], none⟩ E [slR e sz v n xs, p] fun v' L' => (∃ a c, v' = .slice a (n + m) c) ∧ L' = [slR e sz v' (n + m) (xs ++ ys), p] :=
  OpSpec.appendG hts hx hy ht htx hz hzc hzl hcell (fun h hp => .inl (hrd h hp)) hb hb0
theorem St.emp2 {p : HP} {F : List HP} (hs : St (p :: F) w) : St (p :: (fun _ => True) :: F) w :=
  sep_cons_congr (L := F) (L' := (fun _ => True) :: F) (fun h hs => ⟨fun _ => none, h, fun _ => .inl rfl, fun _ _ e => (by cases e), fun _ _ e => e, trivial, hs⟩) hs
/-- append of a string's bytes. -/
theorem OpSpec.appendS {t tx e : TypeId} {x y : Operand} {v : Value} {s : List UInt8} {n by' : Nat} {xs : List Value} {z : Value} {zl : List Value} {ts : Array TypeId} (hts : ts = #[t, tx]) (hx : ev E x = some v) (hy : ev E y = some (vstr s)) (ht : elemOf' P t = some (e, 1, by')) (htx : P.underlying tx = some .string)
    (hz : zeroOf P e = some z) (hzc : z.cells = zl.toArray) (hzl : zl.length = 1) (hb : (n + s.length) * by' ≤ 140737488355328) (hb0 : 0 < by') :
    OpSpec P ⟨none, .call { callee := .builtin .append, args := #[x, y], argTypes := ts }, ty, "", #[], none⟩ E [slR e 1 v n xs] fun v' L' => (∃ a c, v' = .slice a (n + s.length) c) ∧ L' = [slR e 1 v' (n + s.length) (xs ++ s.map vbyte)] := by
  intro ρ w F ha hs
  have q := OpSpec.appendG (P := P) (E := E) (ty := ty) (p := fun _ => True) (n := n) (xs := xs) hts hx hy ht (.inr htx) hz hzc hzl (ys := s.map vbyte) (by simp [isCell]) (fun h _ => .inr ⟨s, rfl, rfl, rfl, rfl⟩) hb hb0 ρ w F ha (St.emp2 hs)
  refine q.mono ?_
  rintro v' w' ⟨L', ⟨h1, rfl⟩, h2, h3⟩
  exact ⟨_, ⟨h1, rfl⟩, sep_tail (sep_swap h2), h3⟩
theorem OpSpec.post {op : Op} {pre : List HP} {K K' : Value → List HP → Prop} (h : OpSpec P ⟨none, op, ty, "", #[], none⟩ E pre K) (hk : ∀ v L', K v L' → ∃ L'', K' v L'' ∧ ∀ F w, St (L' ++ F) w → St (L'' ++ F) w) : OpSpec P ⟨none, op, ty, "", #[], none⟩ E pre K' := by
  intro ρ w F ha hs
  refine (h ρ w F ha hs).mono ?_
  rintro v w' ⟨L', hv, hs', hk'⟩
  obtain ⟨L'', h1, h2⟩ := hk v L' hv
  exact ⟨L'', h1, h2 F w' hs', hk'⟩
/-- append of elements that were just laid out. -/
theorem OpSpec.append1 {t e : TypeId} {x y : Operand} {v : Value} {b n m c sz by' : Nat} {xs l : List Value} {T : TypeId} {z : Value} {zl : List Value} {ts : Array TypeId} (hts : ts = #[t, t]) (hx : ev E x = some v) (hy : ev E y = some (.slice (some ⟨b, 0, none⟩) m c)) (ht : elemOf' P t = some (e, sz, by'))
    (hz : zeroOf P e = some z) (hzc : z.cells = zl.toArray) (hzl : zl.length = sz) (hcell : ∀ y ∈ l, isCell y = true) (hl : l.length = m * sz) (hmc : m ≤ c) (hb : (n + m) * by' ≤ 140737488355328) (hb0 : 0 < by') :
    OpSpec P ⟨none, .call { callee := .builtin .append, args := #[x, y], argTypes := ts }, ty, "", #[], none⟩ E [slR e sz v n xs, ptc b l T] fun v' L' => (∃ a c, v' = .slice a (n + m) c) ∧ L' = [slR e sz v' (n + m) (xs ++ l)] := by
  have ht' : ∃ e', P.underlying t = some (.slice e') := by
    unfold elemOf' at ht
    split at ht <;> (try cases ht)
    rename_i e' hu
    exact ⟨e', hu⟩
  refine OpSpec.post (OpSpec.append (p := ptc b l T) (ys := l) (m := m) hts hx hy ht (.inl ht') hz hzc hzl hcell (fun h hp => rdS_pt hp (by rw [List.drop_zero, ← hl, List.take_length]) (by omega) hmc) hb hb0) ?_
  rintro v' L' ⟨h1, rfl⟩
  exact ⟨_, ⟨h1, rfl⟩, fun F w hs => sep_tail (sep_swap hs)⟩
/-- A store to one element of a slice that is owned. -/
theorem OpSpec.storeEl {t : TypeId} {x y : Operand} {b n c i : Nat} {xs : List Value} {T : TypeId} {v : Value} (hx : ev E x = some (.pointer (some ⟨b, 0 + i, none⟩))) (hy : ev E y = some v) (hv : isCell v = true) (ht : sizeOf' P t = some 1) (hi : i < n) :
    OpSpec P ⟨none, .store t x y, ty, "", #[], none⟩ E [slR T 1 (.slice (some ⟨b, 0, none⟩) n c) n xs] fun _ L' => L' = [slR T 1 (.slice (some ⟨b, 0, none⟩) n c) n (xs.set i v)] := by
  intro ρ w F ha hs
  have hs' : St ((fun h => ∃ y : List Value × (Nat × Nat), (h b = some (.cells (List.toArray (xs ++ y.1)) T y.2)) ∧ xs.length = n * 1 ∧ c * 1 ≤ xs.length + y.1.length ∧ n ≤ c ∧ nfz y.2 0 (c * 1)) :: F) w := by
    refine sep_imp (fun h hp => ?_) hs
    rcases hp with ⟨h1, -⟩ | ⟨b', cap, rest, fr, h1, h2, h3, h4, h5, h6⟩
    · simp at h1
    · simp only [Value.slice.injEq, Option.some.injEq, Addr.mk.injEq] at h1
      obtain ⟨⟨rfl, -, -⟩, -, rfl⟩ := h1
      exact ⟨(rest, fr), h2, h3, h4, h5, h6⟩
  obtain ⟨⟨rest, fr⟩, h1, h2, hd, a1, a2, ⟨p1, p2, p3, p4, p5⟩, hF⟩ := sep_ex hs'
  have hpt : St ([pt b (.cells (xs ++ rest).toArray T fr)] ++ F) w := ⟨h1, h2, hd, a1, a2, p1, hF⟩
  have := OpSpec.store (P := P) (E := E) (ty := ty) hx hy hv ht (by simp; omega) (fun j q1 q2 => p5 j (by omega) (by simp at *; omega)) ρ w F ha hpt
  refine this.mono ?_
  rintro u w' ⟨L', rfl, hs2, hk⟩
  refine ⟨_, rfl, sep_imp (fun h hp => ?_) hs2, hk⟩
  refine .inr ⟨b, c, rest, fr, rfl, ?_, by simpa using p2, by simpa using p3, p4, p5⟩
  have e : (xs ++ rest).set (0 + i) v = xs.set i v ++ rest := by
    rw [Nat.zero_add, List.set_append_left _ _ (by omega)]
  rw [← e]; exact hp
/-- copy into a block that is owned. -/
theorem OpSpec.copyG {dT sT e : TypeId} {x y : Operand} {u : Value} {b off dLen dCap m sz by' : Nat} {l ys : List Value} {T : TypeId} {fr : Nat × Nat} {p : HP} {ts : Array TypeId} (hts : ts = #[dT, sT]) (hx : ev E x = some (.slice (some ⟨b, off, none⟩) dLen dCap)) (hy : ev E y = some u) (ht : elemOf' P dT = some (e, sz, by'))
    (hrd : ∀ h : Hp, p h → srcS sz h u m ys) (hcell : ∀ y ∈ ys, isCell y = true) (hoff : off + dLen * sz ≤ l.length) (hf : nfz fr off (dLen * sz)) :
    OpSpec P ⟨none, .call { callee := .builtin .copy, args := #[x, y], argTypes := ts }, ty, "", #[], none⟩ E [pt b (.cells l.toArray T fr), p] fun v' L' => v' = vint (min m dLen : Nat) ∧ L' = [pt b (.cells (spl l off (ys.take (min m dLen * sz))).toArray T fr), p] := by
  intro ρ w F ha hs
  subst hts
  have hs2 : St (p :: pt b (.cells l.toArray T fr) :: F) w := sep_swap hs
  obtain ⟨hp1, ap, hpp⟩ := sep_head hs2
  have hru : srcS sz (fun b => w.heap[b]?) u m ys := srcS_mono (hrd _ hpp) ap
  have hbw : w.heap[b]? = some (.cells l.toArray T fr) := St.pt (L := p :: F) hs
  unfold elemOf' at ht
  split at ht <;> (try cases ht)
  rename_i e' hu
  split at ht <;> (try cases ht)
  rename_i inf hin
  have hlen : (Builtin.lenOf u).run P w = .ok m w := src_lenOf hru
  have hyl := srcS_len hru
  have hfc : (Builtin.firstCells inf.size (min m dLen) u).run P w = .ok (ys.take (min m dLen * inf.size)).toArray w := src_cells hru (Nat.min_le_left _ _)
  have hle2 : min m dLen * inf.size ≤ dLen * inf.size := Nat.mul_le_mul_right _ (Nat.min_le_right _ _)
  have hcl : (ys.take (min m dLen * inf.size)).length ≤ dLen * inf.size := by simp; omega
  have hrun : (execOp ρ ⟨none, .call { callee := .builtin .copy, args := #[x, y], argTypes := #[dT, sT] }, ty, "", #[], none⟩).run P w = .ok (.value (vint (min m dLen : Nat))) (upd w b (.cells (spl l off (ys.take (min m dLen * inf.size))).toArray T fr)) := by
    rw [exec_builtin]
    refine run_v ?_
    simp only [List.map_toArray, List.map_cons, List.map_nil]
    rw [ha x _ hx, ha y _ hy]
    unfold Builtin.copy_
    simp only [List.getElem?_toArray, List.getElem?_cons_zero, List.getElem?_cons_succ]
    rw [run_bind (run_underlying hu)]
    dsimp only
    rw [run_bind hlen, run_bind (run_sizeOf (k := inf.size) (by simp [sizeOf', hin]))]
    rw [show Nat.min m dLen = min m dLen from rfl, run_bind hfc]
    have hst := run_storeCells (P := P) (ys.take (min m dLen * inf.size)) w l off 0 hbw (by omega) (fun y hy => hcell y (List.mem_of_mem_take hy)) (fun i h1 h2 => hf i (by omega) (by omega))
    dsimp only
    rw [run_bind hst]; rfl
  unfold Runs; rw [hrun]
  exact ⟨_, ⟨rfl, rfl⟩, St.upd (L := p :: F) hs, Keeps.upd _ _ _⟩
theorem OpSpec.copy {dT sT e : TypeId} {x y : Operand} {u : Value} {b off dLen dCap m sz by' : Nat} {l ys : List Value} {T : TypeId} {fr : Nat × Nat} {p : HP} {ts : Array TypeId} (hts : ts = #[dT, sT]) (hx : ev E x = some (.slice (some ⟨b, off, none⟩) dLen dCap)) (hy : ev E y = some u) (ht : elemOf' P dT = some (e, sz, by'))
    (hrd : ∀ h : Hp, p h → rdS sz h u m ys) (hcell : ∀ y ∈ ys, isCell y = true) (hoff : off + dLen * sz ≤ l.length) (hf : nfz fr off (dLen * sz)) :
    OpSpec P ⟨none, .call { callee := .builtin .copy, args := #[x, y], argTypes := ts }, ty, "", #[], none⟩ E [pt b (.cells l.toArray T fr), p] fun v' L' => v' = vint (min m dLen : Nat) ∧ L' = [pt b (.cells (spl l off (ys.take (min m dLen * sz))).toArray T fr), p] :=
  OpSpec.copyG hts hx hy ht (fun h hp => .inl (hrd h hp)) hcell hoff hf
/-- copy of a string's bytes. -/
theorem OpSpec.copyS {dT sT e : TypeId} {x y : Operand} {s : List UInt8} {b off dLen dCap by' : Nat} {l : List Value} {T : TypeId} {fr : Nat × Nat} {ts : Array TypeId} (hts : ts = #[dT, sT]) (hx : ev E x = some (.slice (some ⟨b, off, none⟩) dLen dCap)) (hy : ev E y = some (vstr s)) (ht : elemOf' P dT = some (e, 1, by'))
    (hoff : off + dLen ≤ l.length) (hf : nfz fr off dLen) :
    OpSpec P ⟨none, .call { callee := .builtin .copy, args := #[x, y], argTypes := ts }, ty, "", #[], none⟩ E [pt b (.cells l.toArray T fr)] fun v' L' => v' = vint (min s.length dLen : Nat) ∧ L' = [pt b (.cells (spl l off ((s.map vbyte).take (min s.length dLen))).toArray T fr)] := by
  intro ρ w F ha hs
  have q := OpSpec.copyG (P := P) (E := E) (ty := ty) (p := fun _ => True) (m := s.length) (ys := s.map vbyte) hts hx hy ht (fun h _ => .inr ⟨s, rfl, rfl, rfl, rfl⟩) (by simp [isCell]) (by simpa using hoff) (by simpa using hf) ρ w F ha (St.emp2 hs)
  refine q.mono ?_
  rintro v' w' ⟨L', ⟨h1, rfl⟩, h2, h3⟩
  refine ⟨_, ⟨h1, rfl⟩, ?_, h3⟩
  have := sep_tail (sep_swap h2)
  rw [Nat.mul_one] at this
  exact this
theorem Quiet.loadSl {t : TypeId} {x : Operand} {b n c i : Nat} {ys : List Value} {v : Value} {T : TypeId} (hx : ev E x = some (.pointer (some ⟨b, 0 + i, none⟩))) (hp : aggOf P t = some none) (hL : Pick (slR T 1 (.slice (some ⟨b, 0, none⟩) n c) n ys) L R)
    (hv : ys[i]? = some v) : Quiet P ⟨none, .load t x, ty, "", #[], none⟩ E L v := Quiet.loadEl hx hp hL (fun _ hp => slR_rd hp) hv
theorem G.rdAny {W : World} {n : Nat} {ds : List Deferred} {X : Act → World → Prop} {p : HP} {sz m : Nat} {v : Value} {ys : List Value} (hr : ∀ h : Hp, p h → rdS sz h v m ys) (hL : Pick p L R)
    (h : ∀ a c, v = .slice a m c → ys.length = m * sz → G W n ds E L X) : G W n ds E L X := by
  intro a w he hk hs
  obtain ⟨h1, -, hp⟩ := sep_head (hs.pick hL)
  have hl := rdS_len (hr _ hp)
  rcases hr _ hp with ⟨rfl, rfl, ad, c, rfl⟩ | ⟨b, off, cap, l, T, fr, hv, -⟩
  · exact h _ _ rfl hl a w he hk hs
  · exact h _ _ hv hl a w he hk hs
theorem G.rdShape {W : World} {n : Nat} {ds : List Deferred} {X : Act → World → Prop} {p : HP} {sz m c : Nat} {ad : Option Addr} {ys : List Value} (hr : ∀ h : Hp, p h → rdS sz h (.slice ad m c) m ys) (hL : Pick p L R) (hm : 0 < m)
    (h : ∀ b off, ad = some ⟨b, off, none⟩ → G W n ds E L X) : G W n ds E L X := by
  intro a w he hk hs
  obtain ⟨h1, -, hp⟩ := sep_head (hs.pick hL)
  rcases hr _ hp with ⟨rfl, -⟩ | ⟨b, off, cap, l, T, fr, hv, -⟩
  · omega
  · simp only [Value.slice.injEq] at hv
    exact h b off hv.1 a w he hk hs
theorem set_take_drop {α : Type} {l m : List α} {i : Nat} (h1 : i < l.length) (h2 : m.length = l.length) : (l.take i ++ m.drop i).set i l[i] = l.take (i + 1) ++ m.drop (i + 1) := by
  have e1 : (l.take i).length = i := by simp; omega
  have e3 : m.drop i = m[i]'(by omega) :: m.drop (i + 1) := List.drop_eq_getElem_cons (by omega)
  have e2 : l.take (i + 1) = l.take i ++ [l[i]] := by rw [List.take_succ_eq_append_getElem h1]
  rw [List.set_append_right _ _ (by omega), e1, Nat.sub_self, e3, List.set_cons_zero, e2, List.append_assoc]
  rfl
theorem G.slShape {W : World} {n : Nat} {ds : List Deferred} {X : Act → World → Prop} {T : TypeId} {sz m : Nat} {v : Value} {xs : List Value} (hL : Pick (slR T sz v m xs) L R) (hm : 0 < m)
    (h : ∀ b c, v = .slice (some ⟨b, 0, none⟩) m c → m ≤ c → xs.length = m * sz → G W n ds E L X) : G W n ds E L X := by
  intro a w he hk hs
  obtain ⟨h1, -, hp⟩ := sep_head (hs.pick hL)
  rcases hp with ⟨-, h2, -⟩ | ⟨b, cap, rest, fr, hv, -, h3, -, h4, -⟩
  · omega
  · exact h b cap hv h4 h3 a w he hk hs
theorem G.slAny {W : World} {n : Nat} {ds : List Deferred} {X : Act → World → Prop} {T : TypeId} {sz m : Nat} {v : Value} {xs : List Value} (hL : Pick (slR T sz v m xs) L R)
    (h : ∀ a c, v = .slice a m c → xs.length = m * sz → G W n ds E L X) : G W n ds E L X := by
  intro a w he hk hs
  obtain ⟨h1, -, hp⟩ := sep_head (hs.pick hL)
  obtain ⟨x, c, hv⟩ := slR_slice hp
  exact h x c hv (slR_length hp) a w he hk hs
end
end Go.Proofs.YtnnbelmpbmfdnaaDoor
