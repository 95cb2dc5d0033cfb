/- Own work: maps as association lists. -/
import Derived.Test.YtnnbelmpbmfdnaaDoorSlDraw
namespace Go.Proofs.YtnnbelmpbmfdnaaDoor
open Go

section assoc
variable {K β : Type} [DecidableEq K]
def alook : List (K × β) → K → Option β
  | [], _ => none
  | (a, b) :: m, k => if k = a then some b else alook m k
def aset : List (K × β) → K → β → List (K × β)
  | [], k, v => [(k, v)]
  | (a, b) :: m, k, v => if k = a then (k, v) :: m else (a, b) :: aset m k v
def adel : List (K × β) → K → List (K × β)
  | [], _ => []
  | (a, b) :: m, k => if k = a then m else (a, b) :: adel m k
end assoc

/-- A map's block: its entries, in their order. -/
def mapR (r : Nat) (ents : List (Value × Value)) : HP := fun h => ∃ (es : List MapEntry) (clock : Nat), h r = some (.map es.toArray clock) ∧
  es.map (fun e => (e.key, e.val)) = ents ∧ (∀ e ∈ es, e.born < clock) ∧ (es.map (·.born)).Nodup
theorem mapR_new {r : Nat} {h : Hp} (hh : pt r (.map #[] 0) h) : mapR r [] h := ⟨[], 0, hh, rfl, by simp, by simp⟩

/-- The first place of a key among keys. -/
def posK {K : Type} [DecidableEq K] (k : K) : List K → Option Nat
  | [] => none
  | a :: l => if k = a then some 0 else (posK k l).map (· + 1)
structure KeyLaw (P : Program) (kt : TypeId) {K : Type} [DecidableEq K] (kv : K → Value) : Prop where
  find : ∀ (k : K) (es : List MapEntry) (ks : List K) (w : World), es.map (·.key) = ks.map kv → (Instr.findKey kt (kv k) es).run P w = .ok ((posK k ks).bind fun j => (es[j]?).map fun e => (j, e.val)) w
  check : ∀ a e w, (Instr.checkKey e 10000 kt (kv a)).run P w = .ok () w
  same : ∀ a, Instr.sameBits 10000 (kv a) (kv a) = true
theorem findNow_pos {K : Type} [DecidableEq K] {kv : K → Value} {d : TypeDesc} (hs : ∀ a b, Instr.sameNow d (kv a) (kv b) = some (decide (a = b))) (k : K) : ∀ (es : List MapEntry) (ks : List K) (i : Nat), es.map (·.key) = ks.map kv →
    Instr.findNow d (kv k) es i = some ((posK k ks).bind fun j => (es[j]?).map fun e => (i + j, e.val)) := by
  intro es
  induction es with
  | nil => intro ks i h; cases ks with
    | nil => rfl
    | cons a l => simp at h
  | cons e es ih =>
    intro ks i h
    cases ks with
    | nil => simp at h
    | cons a l =>
      simp only [List.map_cons, List.cons.injEq] at h
      by_cases hk : k = a
      · subst hk
        simp [Instr.findNow, h.1, hs, posK]
      · rw [Instr.findNow, h.1, hs, decide_eq_false hk]
        dsimp only
        rw [ih l (i + 1) h.2, posK, if_neg hk]
        cases posK k l with
        | none => rfl
        | some j => simp only [Option.map_some, Option.bind_some, List.getElem?_cons_succ, show i + 1 + j = i + (j + 1) by omega]
theorem KeyLaw.ofNow {P : Program} {kt : TypeId} {K : Type} [DecidableEq K] {kv : K → Value} (hd : ∃ d, P.underlying kt = some d ∧ (∀ a b, Instr.sameNow d (kv a) (kv b) = some (decide (a = b))))
    (hc : ∀ a e w, (Instr.checkKey e 10000 kt (kv a)).run P w = .ok () w) (hb : ∀ a, Instr.sameBits 10000 (kv a) (kv a) = true) : KeyLaw P kt kv where
  find := fun k es ks w h => by
    obtain ⟨d, hd, hs⟩ := hd
    unfold Instr.findKey
    rw [run_bind (run_underlying hd), findNow_pos hs k es ks 0 h]
    simp only [Nat.zero_add]; rfl
  check := hc
  same := hb

section
variable {P : Program} {E : Env} {L R : List HP} {ty : TypeId} {w : World}

theorem bs_beq (a b : List UInt8) : (bs a == bs b) = decide (a = b) := by
  show (a.toArray == b.toArray) = _
  by_cases h : a = b
  · subst h; simp
  · simp [h]
theorem KeyLaw.int {kt : TypeId} (hd : P.underlying kt = some (.int .i64)) : KeyLaw P kt (fun n : Int => vint n) := by
  refine KeyLaw.ofNow ⟨_, hd, fun a b => by simp [Instr.sameNow, beq_dec]⟩ (fun a e w => ?_) (fun a => by rw [show (10000 : Nat) = 9999 + 1 from rfl]; simp [Instr.sameBits])
  ·
    rw [show (10000 : Nat) = 9999 + 1 from rfl]
    generalize 9999 = n
    unfold Instr.checkKey
    rw [run_bind (run_underlying hd)]; rfl
theorem KeyLaw.str {kt : TypeId} (hd : P.underlying kt = some .string) : KeyLaw P kt (fun s : List UInt8 => vstr s) := by
  refine KeyLaw.ofNow ⟨_, hd, fun a b => by simp only [Instr.sameNow, bs_beq]⟩ (fun a e w => ?_) (fun a => by rw [show (10000 : Nat) = 9999 + 1 from rfl]; simp [Instr.sameBits, bs_beq])
  ·
    rw [show (10000 : Nat) = 9999 + 1 from rfl]
    generalize 9999 = n
    unfold Instr.checkKey
    rw [run_bind (run_underlying hd)]; rfl

section laws
variable {K β : Type} [DecidableEq K] {kv : K → Value} {enc : β → Value} {kt et : TypeId}

theorem find_eq (k : K) : ∀ (es : List MapEntry) (m : List (K × β)),
    es.map (fun e => (e.key, e.val)) = m.map (fun x => (kv x.1, enc x.2)) →
    (alook m k = none ∧ posK k (m.map (·.1)) = none) ∨
    (∃ b j, alook m k = some b ∧ posK k (m.map (·.1)) = some j ∧ j < es.length ∧ (∃ e, es[j]? = some e ∧ e.key = kv k ∧ e.val = enc b) ∧
      (∀ v, (es.modify j fun e => { e with key := kv k, val := enc v }).map (fun e => (e.key, e.val)) = (aset m k v).map (fun x => (kv x.1, enc x.2))) ∧
      ((es.eraseIdx j).map (fun e => (e.key, e.val)) = (adel m k).map (fun x => (kv x.1, enc x.2)))) := by
  intro es
  induction es with
  | nil =>
    intro m h
    cases m with
    | nil => exact .inl ⟨rfl, rfl⟩
    | cons x m => simp at h
  | cons e es ih =>
    intro m h
    cases m with
    | nil => simp at h
    | cons x m =>
      obtain ⟨a, b⟩ := x
      simp only [List.map_cons, List.cons.injEq, Prod.mk.injEq] at h
      obtain ⟨⟨h1, h2⟩, h3⟩ := h
      by_cases hk : k = a
      · subst hk
        refine .inr ⟨b, 0, by simp [alook], by simp [posK], by simp, ⟨e, rfl, h1, h2⟩, fun v => ?_, ?_⟩
        · simp [aset, h3]
        · simp [adel, h3]
      · rcases ih m h3 with ⟨q1, q2⟩ | ⟨b', j, q1, q2, q3, ⟨e', q4, q5, q5'⟩, q6, q7⟩
        · exact .inl ⟨by simp [alook, hk, q1], by simp [posK, hk, q2]⟩
        · refine .inr ⟨b', j + 1, by simp [alook, hk, q1], by simp [posK, hk, q2], by simp [q3], ⟨e', by simpa using q4, q5, q5'⟩, fun v => ?_, ?_⟩
          · simp [aset, hk, h1, h2, q6 v]
          · simp [adel, hk, h1, h2, q7]
theorem aset_none {m : List (K × β)} {k : K} {v : β} (h : alook m k = none) : aset m k v = m ++ [(k, v)] := by
  induction m with
  | nil => rfl
  | cons x m ih =>
    obtain ⟨a, b⟩ := x
    by_cases hk : k = a
    · simp [alook, hk] at h
    · simp [alook, hk] at h; simp [aset, hk, ih h]
theorem adel_none {m : List (K × β)} {k : K} (h : alook m k = none) : adel m k = m := by
  induction m with
  | nil => rfl
  | cons x m ih =>
    obtain ⟨a, b⟩ := x
    by_cases hk : k = a
    · simp [alook, hk] at h
    · simp [alook, hk] at h; simp [adel, hk, ih h]
omit [DecidableEq K] in
theorem keys_of {es : List MapEntry} {m : List (K × β)} (h : es.map (fun e => (e.key, e.val)) = m.map (fun x => (kv x.1, enc x.2))) : es.map (·.key) = (m.map (·.1)).map kv := by
  have := congrArg (List.map Prod.fst) h
  rw [List.map_map, List.map_map] at this
  rw [List.map_map]
  exact this
theorem run_find1 (hl : KeyLaw P kt kv) {k : K} {es : List MapEntry} {m : List (K × β)} (h : es.map (fun e => (e.key, e.val)) = m.map (fun x => (kv x.1, enc x.2))) (hp : posK k (m.map (·.1)) = none) : (Instr.findKey kt (kv k) es).run P w = .ok none w := by
  rw [hl.find k es _ w (keys_of h), hp]; rfl
theorem run_find2 (hl : KeyLaw P kt kv) {k : K} {es : List MapEntry} {m : List (K × β)} (h : es.map (fun e => (e.key, e.val)) = m.map (fun x => (kv x.1, enc x.2))) {j : Nat} {b : β} (hp : posK k (m.map (·.1)) = some j) (he : ∃ e, es[j]? = some e ∧ e.key = kv k ∧ e.val = enc b) : (Instr.findKey kt (kv k) es).run P w = .ok (some (j, enc b)) w := by
  obtain ⟨e, e1, -, e3⟩ := he
  rw [hl.find k es _ w (keys_of h), hp, Option.bind_some, e1, Option.map_some, e3]
theorem run_getMap {r : Nat} {es : Array MapEntry} {c : Nat} (h : w.heap[r]? = some (.map es c)) : (getObj r).run P w = .ok (.map es c) w := by
  simp [getObj, Sem.run, h]
theorem run_setMap {r : Nat} {es : Array MapEntry} {c : Nat} {o : Obj} (h : w.heap[r]? = some (.map es c)) : (setObj r o).run P w = .ok () (upd w r o) := by
  simp [setObj, Sem.run, h, upd]

theorem run_lookup (hl : KeyLaw P kt kv) {t : TypeId} (ht : P.underlying t = some (.map kt et)) {z : Value} (hz : zeroOf P et = some z) {m : List (K × β)} {r : Nat} (hm : ∃ h1 : Hp, (∀ b o, h1 b = some o → w.heap[b]? = some o) ∧ mapR r (m.map fun x => (kv x.1, enc x.2)) h1) (k : K) (ok : Bool) :
    (Instr.lookup t (.map (some r)) (kv k) ok).run P w = .ok (if ok then .tuple #[match alook m k with | some b => enc b | none => z, .bool (alook m k).isSome] else match alook m k with | some b => enc b | none => z) w := by
  obtain ⟨h1, a1, es, c, hb, hes, -, -⟩ := hm
  have hb' := a1 _ _ hb
  unfold Instr.lookup
  rw [run_bind (run_underlying ht)]
  dsimp only
  rw [run_bind (run_getMap hb')]
  dsimp only
  rw [run_bind run_pure, run_bind (hl.check k _ w)]
  rcases find_eq (enc := enc) (kv := kv) k es m hes with ⟨q1, q2⟩ | ⟨b, j, q1, q2, q3, q4, q5, q6⟩
  · rw [run_bind (run_find1 hl hes q2), q1]
    dsimp only
    rw [run_bind (run_zero hz), run_bind run_pure]
    rfl
  · rw [run_bind (run_find2 hl hes q2 q4), q1]
    rfl
theorem Quiet.lookup (hl : KeyLaw P kt kv) {t : TypeId} {x y : Operand} {m : List (K × β)} {r : Nat} {k : K} {z : Value} {ents : List (Value × Value)} (hx : ev E x = some (.map (some r))) (hy : ev E y = some (kv k)) (ht : P.underlying t = some (.map kt et)) (hz : zeroOf P et = some z)
    (hL : Pick (mapR r ents) L R) (he : ents = m.map fun x => (kv x.1, enc x.2)) : Quiet P ⟨none, .lookup t x y false, ty, "", #[], none⟩ E L (match alook m k with | some b => enc b | none => z) := by
  intro ρ w ha hs
  subst he
  refine run_v ?_
  show (Instr.lookup t (ρ x) (ρ y) false).run P w = _
  rw [ha x _ hx, ha y _ hy]
  exact run_lookup hl ht hz (sep_head (hs.pick hL)) k false
theorem Quiet.lookupOk (hl : KeyLaw P kt kv) {t : TypeId} {x y : Operand} {m : List (K × β)} {r : Nat} {k : K} {z : Value} {ents : List (Value × Value)} (hx : ev E x = some (.map (some r))) (hy : ev E y = some (kv k)) (ht : P.underlying t = some (.map kt et)) (hz : zeroOf P et = some z)
    (hL : Pick (mapR r ents) L R) (he : ents = m.map fun x => (kv x.1, enc x.2)) : Quiet P ⟨none, .lookup t x y true, ty, "", #[], none⟩ E L (.tuple #[match alook m k with | some b => enc b | none => z, .bool (alook m k).isSome]) := by
  intro ρ w ha hs
  subst he
  refine run_v ?_
  show (Instr.lookup t (ρ x) (ρ y) true).run P w = _
  rw [ha x _ hx, ha y _ hy]
  exact run_lookup hl ht hz (sep_head (hs.pick hL)) k true
theorem Quiet.maplen {t kt et : TypeId} {x : Operand} {r : Nat} {ents : List (Value × Value)} {ts : Array TypeId} (hx : ev E x = some (.map (some r))) (ht : P.underlying t = some (.map kt et)) (hts : ts = #[t]) (hL : Pick (mapR r ents) L R) :
    Quiet P ⟨none, .call { callee := .builtin .len, args := #[x], argTypes := ts }, ty, "", #[], none⟩ E L (.int .i64 (ents.length : Int)) := by
  intro ρ w ha hs
  subst hts
  obtain ⟨h1, a1, es, c, hb, hes, -, -⟩ := sep_head (hs.pick hL)
  have hb' := a1 _ _ hb
  rw [exec_builtin]
  refine run_v ?_
  simp only [List.map_toArray, List.map_cons, List.map_nil]
  rw [ha x _ hx]
  unfold Builtin.len_
  simp only [List.getElem?_toArray, List.getElem?_cons_zero]
  rw [run_bind (run_underlying ht)]
  dsimp only
  rw [run_bind (run_getMap hb')]
  have : ents.length = es.length := by rw [← hes]; simp
  simp [this, goInt, run_pure]

theorem sep_mapR {r : Nat} {ents ents' : List (Value × Value)} {es' : List MapEntry} {c' : Nat} {F : List HP} {h h' : Hp} (hs : sep (mapR r ents :: F) h) (hb : h' r = some (.map es'.toArray c')) (hne : ∀ b, b ≠ r → h' b = h b)
    (he : es'.map (fun e => (e.key, e.val)) = ents') (hbo : ∀ e ∈ es', e.born < c') (hnd : (es'.map (·.born)).Nodup) : sep (mapR r ents' :: F) h' := by
  obtain ⟨h1, h2, hd, a1, a2, ⟨es, c, hr, _⟩, hL⟩ := hs
  have h2r : h2 r = none := (hd r).resolve_left (by rw [hr]; simp)
  refine ⟨fun b => if b = r then some (.map es'.toArray c') else none, h2, fun b => ?_, fun b o e => ?_, fun b o e => ?_, ⟨es', c', if_pos rfl, he, hbo, hnd⟩, hL⟩
  · by_cases e : b = r
    · exact .inr (e ▸ h2r)
    · exact .inl (if_neg e)
  · by_cases hb' : b = r
    · subst hb'; simp at e; rw [← e]; exact hb
    · simp [hb'] at e
  · have hb' : b ≠ r := by rintro rfl; rw [h2r] at e; cases e
    rw [hne _ hb']; exact a2 _ _ e
theorem St.mapR {r : Nat} {ents ents' : List (Value × Value)} {es es' : List MapEntry} {c c' : Nat} {F : List HP} (hs : St (Go.Proofs.YtnnbelmpbmfdnaaDoor.mapR r ents :: F) w) (hr : w.heap[r]? = some (.map es.toArray c))
    (he : es'.map (fun e => (e.key, e.val)) = ents') (hbo : ∀ e ∈ es', e.born < c') (hnd : (es'.map (·.born)).Nodup) : St (Go.Proofs.YtnnbelmpbmfdnaaDoor.mapR r ents' :: F) (Go.Proofs.YtnnbelmpbmfdnaaDoor.upd w r (.map es'.toArray c')) := by
  refine sep_mapR hs (es' := es') (c' := c') (upd_get hr) (fun b hb => ?_) he hbo hnd
  simp [Go.Proofs.YtnnbelmpbmfdnaaDoor.upd, Ne.symm hb]

theorem OpSpec.mapSet (hl : KeyLaw P kt kv) {t : TypeId} {x y z : Operand} {m : List (K × β)} {r : Nat} {k : K} {v : β} {ents : List (Value × Value)} (hx : ev E x = some (.map (some r))) (hy : ev E y = some (kv k)) (hz : ev E z = some (enc v)) (ht : P.underlying t = some (.map kt et))
    (he : ents = m.map fun x => (kv x.1, enc x.2)) : OpSpec P ⟨none, .mapUpdate t x y z, ty, "", #[], none⟩ E [mapR r ents] fun _ L' => L' = [mapR r ((aset m k v).map fun x => (kv x.1, enc x.2))] := by
  intro ρ w F ha hs
  subst he
  obtain ⟨h1, a1, es, c, hb, hes, hbo, hnd⟩ := sep_head hs
  have hb' := a1 _ _ hb
  have key : ∃ es' c', (Instr.mapUpdate t (.map (some r)) (kv k) (enc v)).run P w = .ok () (upd w r (.map (List.toArray es') c')) ∧ es'.map (fun e => (e.key, e.val)) = (aset m k v).map (fun x => (kv x.1, enc x.2)) ∧ (∀ e ∈ es', e.born < c') ∧ (es'.map (·.born)).Nodup := by
    unfold Instr.mapUpdate
    rw [run_bind (run_underlying ht)]
    dsimp only
    rw [run_bind (run_getMap hb')]
    dsimp only
    rw [run_bind (hl.check k _ w)]
    rcases find_eq (enc := enc) (kv := kv) k es m hes with ⟨q1, q2⟩ | ⟨b, j, q1, q2, q3, ⟨e, q4, q4', q4v⟩, q5, q6⟩
    · rw [run_bind (run_find1 hl hes q2)]
      refine ⟨es ++ [{ key := kv k, val := enc v, born := c }], c + 1, ?_, ?_, ?_, ?_⟩
      · show (setObj r (.map (es.toArray.push { key := kv k, val := enc v, born := c }) (c + 1))).run P w = _
        rw [run_setMap hb']; simp
      · rw [aset_none q1]; simp [hes]
      · intro e he
        simp only [List.mem_append, List.mem_singleton] at he
        rcases he with he | rfl
        · have := hbo e he; omega
        · simp
      · simp only [List.map_append, List.map_cons, List.map_nil]
        refine List.nodup_append.2 ⟨hnd, by simp, ?_⟩
        intro a ha b hb
        simp only [List.mem_singleton] at hb
        subst hb
        obtain ⟨e, he, rfl⟩ := List.mem_map.1 ha
        have := hbo e he; omega
    · rw [run_bind (run_find2 hl hes q2 ⟨e, q4, q4', q4v⟩)]
      refine ⟨es.modify j fun e => { e with key := kv k, val := enc v }, c, ?_, q5 v, ?_, ?_⟩
      · show (do let key ← Instr.keyThatStays (((es.toArray[j]?).map (·.key)).getD (kv k)) (kv k); setObj r (.map (es.toArray.modify j fun e => { e with key, val := enc v }) c) : Sem Unit).run P w = _
        have hk : ((es.toArray[j]?).map (·.key)).getD (kv k) = kv k := by simp [q4, q4']
        rw [hk, run_bind (a := kv k) (w' := w) (by unfold Instr.keyThatStays; rw [if_pos (hl.same k)]; rfl), run_setMap hb']
        simp
      · intro e' he'
        obtain ⟨i, hi, rfl⟩ := List.mem_iff_getElem.1 he'
        simp only [List.length_modify] at hi
        rw [List.getElem_modify]
        split
        · exact hbo es[i] (List.getElem_mem _)
        · exact hbo _ (List.getElem_mem _)
      · have : (es.modify j fun e => { e with key := kv k, val := enc v }).map (·.born) = es.map (·.born) := by
          apply List.ext_getElem (by simp)
          intro i h1 h2
          simp only [List.getElem_map, List.getElem_modify]
          split <;> rfl
        rw [this]; exact hnd
  obtain ⟨es', c', hr, k1, k2, k3⟩ := key
  have hrun : (execOp ρ ⟨none, .mapUpdate t x y z, ty, "", #[], none⟩).run P w = .ok .skip (upd w r (.map (List.toArray es') c')) := by
    refine run_u ?_
    show (Instr.mapUpdate t (ρ x) (ρ y) (ρ z)).run P w = _
    rw [ha x _ hx, ha y _ hy, ha z _ hz]; exact hr
  unfold Runs; rw [hrun]
  exact ⟨_, rfl, St.mapR (F := F) hs hb' k1 k2 k3, Keeps.upd _ _ _⟩
theorem OpSpec.mapDel (hl : KeyLaw P kt kv) {t : TypeId} {x y : Operand} {m : List (K × β)} {r : Nat} {k : K} {ents : List (Value × Value)} {ts : Array TypeId} (hts : ts[0]? = some t) (hx : ev E x = some (.map (some r))) (hy : ev E y = some (kv k)) (ht : P.underlying t = some (.map kt et))
    (he : ents = m.map fun x => (kv x.1, enc x.2)) : OpSpec P ⟨none, .call { callee := .builtin .delete, args := #[x, y], argTypes := ts }, ty, "", #[], none⟩ E [mapR r ents] fun _ L' => L' = [mapR r ((adel m k).map fun x => (kv x.1, enc x.2))] := by
  intro ρ w F ha hs
  subst he
  obtain ⟨h1, a1, es, c, hb, hes, hbo, hnd⟩ := sep_head hs
  have hb' := a1 _ _ hb
  have key : ∃ es' c', (Builtin.delete_ ts ty #[.map (some r), kv k]).run P w = .ok (.tuple #[]) (upd w r (.map (List.toArray es') c')) ∧ es'.map (fun e => (e.key, e.val)) = (adel m k).map (fun x => (kv x.1, enc x.2)) ∧ (∀ e ∈ es', e.born < c') ∧ (es'.map (·.born)).Nodup := by
    unfold Builtin.delete_
    simp only [hts, List.getElem?_toArray, List.getElem?_cons_zero, List.getElem?_cons_succ]
    rw [run_bind (run_underlying ht)]
    dsimp only
    rcases find_eq (enc := enc) (kv := kv) k es m hes with ⟨q1, q2⟩ | ⟨b, j, q1, q2, q3, ⟨e, q4, q4', q4v⟩, q5, q6⟩
    · refine ⟨es, c, ?_, by rw [adel_none q1]; exact hes, hbo, hnd⟩
      rw [run_bind (run_getMap hb')]
      dsimp only
      rw [run_bind (hl.check k _ w), run_bind (run_find1 hl hes q2)]
      dsimp only
      rw [run_bind (run_setMap hb')]; rfl
    · refine ⟨es.eraseIdx j, c, ?_, q6, fun e he => hbo e (List.mem_of_mem_eraseIdx he), ?_⟩
      · rw [run_bind (run_getMap hb')]
        dsimp only
        rw [run_bind (hl.check k _ w), run_bind (run_find2 hl hes q2 ⟨e, q4, q4', q4v⟩)]
        dsimp only
        rw [run_bind (run_setMap hb')]
        simp [run_pure]
      · exact List.Nodup.sublist (List.Sublist.map _ (List.eraseIdx_sublist _ _)) hnd
  obtain ⟨es', c', hr, k1, k2, k3⟩ := key
  have hrun : (execOp ρ ⟨none, .call { callee := .builtin .delete, args := #[x, y], argTypes := ts }, ty, "", #[], none⟩).run P w = .ok (.value (.tuple #[])) (upd w r (.map (List.toArray es') c')) := by
    rw [exec_builtin]
    refine run_v ?_
    simp only [List.map_toArray, List.map_cons, List.map_nil]
    rw [ha x _ hx, ha y _ hy]; exact hr
  unfold Runs; rw [hrun]
  exact ⟨_, rfl, St.mapR (F := F) hs hb' k1 k2 k3, Keeps.upd _ _ _⟩
theorem OpSpec.mapClear {t kt et : TypeId} {x : Operand} {r : Nat} {ents : List (Value × Value)} {ts : Array TypeId} (hts : ts[0]? = some t) (hx : ev E x = some (.map (some r))) (ht : P.underlying t = some (.map kt et)) :
    OpSpec P ⟨none, .call { callee := .builtin .clear, args := #[x], argTypes := ts }, ty, "", #[], none⟩ E [mapR r ents] fun _ L' => L' = [mapR r []] := by
  intro ρ w F ha hs
  obtain ⟨h1, a1, es, c, hb, hes, hbo, hnd⟩ := sep_head hs
  have hb' := a1 _ _ hb
  have hrun : (execOp ρ ⟨none, .call { callee := .builtin .clear, args := #[x], argTypes := ts }, ty, "", #[], none⟩).run P w = .ok (.value (.tuple #[])) (upd w r (.map (List.toArray []) c)) := by
    rw [exec_builtin]
    refine run_v ?_
    simp only [List.map_toArray, List.map_cons, List.map_nil]
    rw [ha x _ hx]
    unfold Builtin.clear_
    simp only [hts, List.getElem?_toArray, List.getElem?_cons_zero]
    rw [run_bind (run_underlying ht)]
    try dsimp only
    rw [run_bind (run_getMap hb')]
    try dsimp only
    rw [run_bind (run_setMap hb')]; rfl
  unfold Runs; rw [hrun]
  exact ⟨_, rfl, St.mapR (F := F) (es' := []) hs hb' rfl (by simp) (by simp), Keeps.upd _ _ _⟩
end laws
end
end Go.Proofs.YtnnbelmpbmfdnaaDoor
