/- Own work: separation logic over the model's heap, and rules of a walk. -/
import Derived.WalkKit
namespace Go.Proofs.YtnnbelmpbmfdnaaDoor
open Go

abbrev Hp := Nat → Option Obj
abbrev HP := Hp → Prop

def sep : List HP → HP
  | [] => fun _ => True
  | p :: L => fun h => ∃ h1 h2 : Hp, (∀ b, h1 b = none ∨ h2 b = none) ∧ (∀ b o, h1 b = some o → h b = some o) ∧
      (∀ b o, h2 b = some o → h b = some o) ∧ p h1 ∧ sep L h2

theorem sep_mono {L : List HP} {h h' : Hp} (hs : sep L h) (hle : ∀ b o, h b = some o → h' b = some o) : sep L h' := by
  cases L with
  | nil => trivial
  | cons p L =>
    obtain ⟨h1, h2, hd, a1, a2, hp, hL⟩ := hs
    exact ⟨h1, h2, hd, fun b o e => hle _ _ (a1 b o e), fun b o e => hle _ _ (a2 b o e), hp, hL⟩

theorem sep_tail {p : HP} {L : List HP} {h : Hp} (hs : sep (p :: L) h) : sep L h := by
  obtain ⟨h1, h2, hd, a1, a2, hp, hL⟩ := hs
  exact sep_mono hL a2

def hunion (h1 h2 : Hp) : Hp := fun b => match h1 b with | some o => some o | none => h2 b

theorem hunion_some {h1 h2 : Hp} {b : Nat} {o : Obj} (h : hunion h1 h2 b = some o) : h1 b = some o ∨ h2 b = some o := by
  unfold hunion at h
  cases e : h1 b with
  | some x => rw [e] at h; exact .inl h
  | none => rw [e] at h; exact .inr h

theorem hunion_left {h1 h2 : Hp} {b : Nat} {o : Obj} (h : h1 b = some o) : hunion h1 h2 b = some o := by simp [hunion, h]
theorem hunion_right {h1 h2 : Hp} (hd : ∀ b, h1 b = none ∨ h2 b = none) {b : Nat} {o : Obj} (h : h2 b = some o) : hunion h1 h2 b = some o := by
  rcases hd b with e | e
  · simp [hunion, e, h]
  · rw [e] at h; cases h

theorem none_of_le {h h' : Hp} (hle : ∀ b o, h b = some o → h' b = some o) {b : Nat} (hb : h' b = none) : h b = none := by
  cases e : h b with
  | none => rfl
  | some o => rw [hle _ _ e] at hb; cases hb

theorem sep_swap {p q : HP} {L : List HP} {h : Hp} (hs : sep (p :: q :: L) h) : sep (q :: p :: L) h := by
  obtain ⟨h1, h2, hd, a1, a2, hp, g1, g2, gd, b1, b2, hq, hL⟩ := hs
  refine ⟨g1, hunion h1 g2, fun b => ?_, fun b o e => a2 _ _ (b1 _ _ e), fun b o e => ?_, hq, h1, g2, fun b => ?_, fun b o e => hunion_left e, fun b o e => ?_, hp, hL⟩
  · cases e : g1 b with
    | none => exact .inl rfl
    | some o =>
      refine .inr ?_
      have h2b := b1 _ _ e
      have e1 : h1 b = none := (hd b).resolve_right (by rw [h2b]; simp)
      have e2 : g2 b = none := (gd b).resolve_left (by rw [e]; simp)
      simp [hunion, e1, e2]
  · rcases hunion_some e with e | e
    · exact a1 _ _ e
    · exact a2 _ _ (b2 _ _ e)
  · rcases hd b with e | e
    · exact .inl e
    · exact .inr (none_of_le b2 e)
  · refine hunion_right (fun b => ?_) e
    rcases hd b with e | e
    · exact .inl e
    · exact .inr (none_of_le b2 e)

theorem sep_cons_congr {p : HP} {L L' : List HP} (hi : ∀ h, sep L h → sep L' h) {h : Hp} (hs : sep (p :: L) h) : sep (p :: L') h := by
  obtain ⟨h1, h2, hd, a1, a2, hp, hL⟩ := hs
  exact ⟨h1, h2, hd, a1, a2, hp, hi _ hL⟩

theorem sep_imp {p q : HP} {L : List HP} (hi : ∀ h, p h → q h) {h : Hp} (hs : sep (p :: L) h) : sep (q :: L) h := by
  obtain ⟨h1, h2, hd, a1, a2, hp, hL⟩ := hs
  exact ⟨h1, h2, hd, a1, a2, hi _ hp, hL⟩

theorem sep_perm {L L' : List HP} (hp : L.Perm L') : ∀ {h : Hp}, sep L h → sep L' h := by
  induction hp with
  | nil => exact id
  | cons p _ ih => exact fun hs => sep_cons_congr (fun _ => ih) hs
  | swap p q l => exact fun hs => sep_swap hs
  | trans _ _ ih1 ih2 => exact fun hs => ih2 (ih1 hs)

theorem sep_append {L1 L2 : List HP} : ∀ {h : Hp}, sep (L1 ++ L2) h →
    ∃ h1 h2 : Hp, (∀ b, h1 b = none ∨ h2 b = none) ∧ (∀ b o, h1 b = some o → h b = some o) ∧ (∀ b o, h2 b = some o → h b = some o) ∧ sep L1 h1 ∧ sep L2 h2 := by
  induction L1 with
  | nil => exact fun {h} hs => ⟨fun _ => none, h, fun _ => .inl rfl, fun _ _ e => (by cases e), fun _ _ e => e, trivial, hs⟩
  | cons p L ih =>
    intro h hs
    obtain ⟨h1, h2, hd, a1, a2, hp, hL⟩ := hs
    obtain ⟨g1, g2, gd, b1, b2, s1, s2⟩ := ih hL
    refine ⟨hunion h1 g1, g2, fun b => ?_, fun b o e => ?_, fun b o e => a2 _ _ (b2 _ _ e), ⟨h1, g1, fun b => ?_, fun b o e => hunion_left e, fun b o e => ?_, hp, s1⟩, s2⟩
    · cases e : g2 b with
      | none => exact .inr rfl
      | some o =>
        refine .inl ?_
        have h2b := b2 _ _ e
        have e1 : h1 b = none := (hd b).resolve_right (by rw [h2b]; simp)
        have e2 : g1 b = none := (gd b).resolve_right (by rw [e]; simp)
        simp [hunion, e1, e2]
    · rcases hunion_some e with e | e
      · exact a1 _ _ e
      · exact a2 _ _ (b1 _ _ e)
    · rcases hd b with e | e
      · exact .inl e
      · exact .inr (none_of_le b1 e)
    · refine hunion_right (fun b => ?_) e
      rcases hd b with e | e
      · exact .inl e
      · exact .inr (none_of_le b1 e)

theorem sep_join {L1 L2 : List HP} : ∀ {h h1 h2 : Hp}, (∀ b, h1 b = none ∨ h2 b = none) → (∀ b o, h1 b = some o → h b = some o) →
    (∀ b o, h2 b = some o → h b = some o) → sep L1 h1 → sep L2 h2 → sep (L1 ++ L2) h := by
  induction L1 with
  | nil => exact fun hd a1 a2 _ s2 => sep_mono s2 a2
  | cons p L ih =>
    intro h h1 h2 hd a1 a2 s1 s2
    obtain ⟨g1, g2, gd, b1, b2, hp, hL⟩ := s1
    refine ⟨g1, hunion g2 h2, fun b => ?_, fun b o e => a1 _ _ (b1 _ _ e), fun b o e => ?_, hp, ?_⟩
    · cases e : g1 b with
      | none => exact .inl rfl
      | some o =>
        refine .inr ?_
        have e1 : h2 b = none := (hd b).resolve_left (by rw [b1 _ _ e]; simp)
        have e2 : g2 b = none := (gd b).resolve_left (by rw [e]; simp)
        simp [hunion, e1, e2]
    · rcases hunion_some e with e | e
      · exact a1 _ _ (b2 _ _ e)
      · exact a2 _ _ e
    · have hd' : ∀ b, g2 b = none ∨ h2 b = none := fun b => by
        rcases hd b with e | e
        · exact .inl (none_of_le b2 e)
        · exact .inr e
      exact ih hd' (fun b o e => hunion_left e) (fun b o e => hunion_right hd' e) hL s2

/-- A separate list as one atom. -/
theorem sep_flat {L1 L : List HP} {h : Hp} (hs : sep (sep L1 :: L) h) : sep (L1 ++ L) h := by
  obtain ⟨h1, h2, hd, a1, a2, hp, hL⟩ := hs
  exact sep_join hd a1 a2 hp hL
theorem sep_fold {L1 L : List HP} {h : Hp} (hs : sep (L1 ++ L) h) : sep (sep L1 :: L) h := by
  obtain ⟨h1, h2, hd, a1, a2, s1, s2⟩ := sep_append hs
  exact ⟨h1, h2, hd, a1, a2, s1, s2⟩

/-- One block. -/
def pt (b : Nat) (o : Obj) : HP := fun h => h b = some o
/-- A pure fact. -/
def pure' (φ : Prop) : HP := fun _ => φ

theorem sep_ex {α : Sort _} {p : α → HP} {L : List HP} {h : Hp} (hs : sep ((fun h => ∃ x, p x h) :: L) h) : ∃ x, sep (p x :: L) h := by
  obtain ⟨h1, h2, hd, a1, a2, ⟨x, hp⟩, hL⟩ := hs
  exact ⟨x, h1, h2, hd, a1, a2, hp, hL⟩
theorem sep_head {p : HP} {L : List HP} {h : Hp} (hs : sep (p :: L) h) : ∃ h1, (∀ b o, h1 b = some o → h b = some o) ∧ p h1 := by
  obtain ⟨h1, h2, hd, a1, a2, hp, hL⟩ := hs
  exact ⟨h1, a1, hp⟩
theorem sep_pt {b : Nat} {o : Obj} {L : List HP} {h : Hp} (hs : sep (pt b o :: L) h) : h b = some o := by
  obtain ⟨h1, a1, hp⟩ := sep_head hs
  exact a1 _ _ hp
theorem sep_pts_ne {b c : Nat} {o o' : Obj} {L : List HP} {h : Hp} (hs : sep (pt b o :: pt c o' :: L) h) : b ≠ c := by
  obtain ⟨h1, h2, hd, a1, a2, hp, hL⟩ := hs
  rintro rfl
  have e2 := sep_pt hL
  rcases hd b with e | e
  · rw [hp] at e; cases e
  · rw [e2] at e; cases e

/-- One block is written. -/
theorem sep_set {b : Nat} {o o' : Obj} {L : List HP} {h h' : Hp} (hs : sep (pt b o :: L) h) (hb : h' b = some o') (hne : ∀ c, c ≠ b → h' c = h c) :
    sep (pt b o' :: L) h' := by
  obtain ⟨h1, h2, hd, a1, a2, hp, hL⟩ := hs
  have h2b : h2 b = none := (hd b).resolve_left (by rw [hp]; simp)
  refine ⟨fun c => if c = b then some o' else none, h2, fun c => ?_, fun c o e => ?_, fun c o e => ?_, if_pos rfl, hL⟩
  · by_cases e : c = b
    · exact .inr (e ▸ h2b)
    · exact .inl (if_neg e)
  · by_cases hc : c = b
    · subst hc; simp at e; rw [← e]; exact hb
    · simp [hc] at e
  · have hc : c ≠ b := by rintro rfl; rw [h2b] at e; cases e
    rw [hne _ hc]; exact a2 _ _ e

/-- A new block. -/
theorem sep_new {b : Nat} {o : Obj} {L : List HP} {h h' : Hp} (hs : sep L h) (hnb : h b = none) (hb : h' b = some o) (hne : ∀ c, c ≠ b → h' c = h c) :
    sep (pt b o :: L) h' := by
  refine ⟨fun c => if c = b then some o else none, h, fun c => ?_, fun c o' e => ?_, fun c o e => ?_, if_pos rfl, hs⟩
  · by_cases e : c = b
    · exact .inr (e ▸ hnb)
    · exact .inl (if_neg e)
  · by_cases hc : c = b
    · subst hc; simp at e; rw [← e]; exact hb
    · simp [hc] at e
  · have hc : c ≠ b := by rintro rfl; rw [hnb] at e; cases e
    rw [hne _ hc]; exact e

inductive Pick : HP → List HP → List HP → Prop
  | here {p : HP} {L : List HP} : Pick p (p :: L) L
  | there {p q : HP} {L R : List HP} : Pick p L R → Pick p (q :: L) (q :: R)
theorem Pick.perm {p : HP} {L R : List HP} (h : Pick p L R) : L.Perm (p :: R) := by
  induction h with
  | here => exact .refl _
  | there _ ih => exact (List.Perm.cons _ ih).trans (List.Perm.swap _ _ _)
inductive Picks : List HP → List HP → List HP → Prop
  | nil {L : List HP} : Picks [] L L
  | cons {p : HP} {ps L R S : List HP} : Pick p L R → Picks ps R S → Picks (p :: ps) L S
theorem Picks.perm {ps L R : List HP} (h : Picks ps L R) : L.Perm (ps ++ R) := by
  induction h with
  | nil => exact .refl _
  | cons h _ ih => exact h.perm.trans (List.Perm.cons _ ih)

/-- The world's heap bears the list. -/
def St (L : List HP) (w : World) : Prop := sep L fun b => w.heap[b]?
theorem St.perm {L L' : List HP} {w : World} (h : St L w) (hp : L.Perm L') : St L' w := sep_perm hp h
theorem St.pick {p : HP} {L R : List HP} {w : World} (h : St L w) (hp : Pick p L R) : St (p :: R) w := sep_perm hp.perm h
theorem St.picks {ps L R : List HP} {w : World} (h : St L w) (hp : Picks ps L R) : St (ps ++ R) w := sep_perm hp.perm h
theorem St.of_heap {L : List HP} {w w' : World} (h : St L w) (he : w'.heap = w.heap) : St L w' := by unfold St at *; rw [he]; exact h
theorem St.pt {b : Nat} {o : Obj} {L : List HP} {w : World} (h : St (pt b o :: L) w) : w.heap[b]? = some o := sep_pt h
theorem St.tail {p : HP} {L : List HP} {w : World} (h : St (p :: L) w) : St L w := sep_tail h

/-- What no step changes. -/
structure Keeps (w w' : World) : Prop where
  os : w'.os = w.os
  tape : w'.tape = w.tape
  output : w'.output = w.output
  size : w.heap.size ≤ w'.heap.size
theorem Keeps.refl (w : World) : Keeps w w := ⟨rfl, rfl, rfl, Nat.le_refl _⟩
theorem Keeps.trans {a b c : World} (h : Keeps a b) (k : Keeps b c) : Keeps a c :=
  ⟨k.os.trans h.os, k.tape.trans h.tape, k.output.trans h.output, Nat.le_trans h.size k.size⟩
theorem Keeps.drew (w : World) : Keeps w { w with drawn := w.drawn + 1 } := ⟨rfl, rfl, rfl, Nat.le_refl _⟩
theorem Keeps.heap {w : World} {h : Array Obj} (hs : w.heap.size ≤ h.size) : Keeps w { w with heap := h } := ⟨rfl, rfl, rfl, hs⟩
theorem St.drew {L : List HP} {w : World} (h : St L w) : St L { w with drawn := w.drawn + 1 } := h.of_heap rfl
theorem St.new {L : List HP} {w : World} (h : St L w) (o : Obj) : St (Go.Proofs.YtnnbelmpbmfdnaaDoor.pt w.heap.size o :: L) { w with heap := w.heap.push o } := by
  refine sep_new h (by simp) (by simp) fun c hc => ?_
  simp [Array.getElem?_push, hc]
theorem Keeps.new (w : World) (o : Obj) : Keeps w { w with heap := w.heap.push o } := Keeps.heap (h := w.heap.push o) (by simp)
theorem St.set {b : Nat} {o o' : Obj} {L : List HP} {w : World} (h : St (Go.Proofs.YtnnbelmpbmfdnaaDoor.pt b o :: L) w) : St (Go.Proofs.YtnnbelmpbmfdnaaDoor.pt b o' :: L) { w with heap := w.heap.setIfInBounds b o' } := by
  have hb := h.pt
  have hlt : b < w.heap.size := by
    rcases Nat.lt_or_ge b w.heap.size with h | h
    · exact h
    · simp [Array.getElem?_eq_none h] at hb
  refine sep_set h (by simp [hlt]) fun c hc => ?_
  simp [Ne.symm hc]
theorem Keeps.set (w : World) (b : Nat) (o : Obj) : Keeps w { w with heap := w.heap.setIfInBounds b o } := Keeps.heap (h := w.heap.setIfInBounds b o) (by simp)

/-- What was there, whole. -/
def Old (W : World) : HP := fun h => ∀ b, b < W.heap.size → h b = W.heap[b]?

/-! ### The environment -/
abbrev Env := List (Nat × Value)
def look : Env → Nat → Option Value
  | [], _ => none
  | (k, v) :: E, t => bif Nat.beq k t then some v else look E t
def putE : Option Nat → Value → Env → Env
  | some d, v, E => (d, v) :: E
  | none, _, E => E
def ev (E : Env) : Operand → Option Value
  | .tmp t => look E t
  | .const v => some v
  | .global g => some (.pointer (some ⟨g, 0, none⟩))
  | .func f => some (.func (.func f) #[] #[])
def dstOk : Option Nat → Nat → Bool
  | some d, n => Nat.blt d n
  | none, _ => true
structure EnvOK (n : Nat) (ds : List Deferred) (E : Env) (a : Act) : Prop where
  size : a.tmps.size = n
  defers : a.defers = ds
  slots : ∀ t v, look E t = some v → a.tmps[t]? = some v
theorem EnvOK.put {n : Nat} {ds : List Deferred} {E : Env} {a : Act} (h : EnvOK n ds E a) {dst : Option Nat} (hd : dstOk dst n = true) (v : Value) :
    EnvOK n ds (putE dst v E) (a.put dst v) := by
  cases dst with
  | none => exact h
  | some d =>
    have hd' : d < n := by simpa [dstOk, Nat.blt_eq] using hd
    refine ⟨by simpa [Act.put] using h.size, h.defers, fun t u hu => ?_⟩
    simp only [putE, look] at hu
    by_cases hk : d = t
    · subst hk
      simp at hu
      subst hu
      simp [Act.put, h.size, hd']
    · have : Nat.beq d t = false := by
        cases e : Nat.beq d t with
        | false => rfl
        | true => exact absurd (Nat.eq_of_beq_eq_true e) hk
      rw [this] at hu
      simpa [Act.put, Array.getElem?_setIfInBounds, hk] using h.slots t u hu
def Agrees (E : Env) (ρ : Operand → Value) : Prop := ∀ x v, ev E x = some v → ρ x = v
theorem EnvOK.agrees {n : Nat} {ds : List Deferred} {E : Env} {a : Act} (h : EnvOK n ds E a) : Agrees E a.eval := by
  intro x v hv
  cases x with
  | tmp t => simp only [ev] at hv; simp [Act.eval, h.slots t v hv]
  | const c => simpa [ev, Act.eval] using hv
  | global g => simpa [ev, Act.eval] using hv
  | func f => simpa [ev, Act.eval] using hv
/-- E' is part of E. -/
def SubE : Env → Env → Prop
  | [], _ => True
  | (t, v) :: E', E => look E t = some v ∧ SubE E' E
theorem SubE.look {E' E : Env} (h : SubE E' E) {t : Nat} {v : Value} (hl : look E' t = some v) : look E t = some v := by
  induction E' with
  | nil => cases hl
  | cons x E' ih =>
    obtain ⟨k, u⟩ := x
    obtain ⟨h1, h2⟩ := h
    simp only [Go.Proofs.YtnnbelmpbmfdnaaDoor.look] at hl
    cases e : Nat.beq k t with
    | true =>
      rw [e] at hl
      have := Nat.eq_of_beq_eq_true e
      subst this
      simp at hl; rw [← hl]; exact h1
    | false => rw [e] at hl; exact ih h2 hl
theorem EnvOK.sub {n : Nat} {ds : List Deferred} {E E' : Env} {a : Act} (h : EnvOK n ds E a) (hs : SubE E' E) : EnvOK n ds E' a :=
  ⟨h.size, h.defers, fun t v hl => h.slots t v (hs.look hl)⟩

/-! ### One operation -/
def Runs (P : Program) (o : Oper) (ρ : Operand → Value) (w : World) (R : Value → World → Prop) : Prop :=
  match (execOp ρ o).run P w with
  | .ok (.value v) w' => R v w'
  | .ok .skip w' => R undef w'
  | .ok (.enter f args) w' => Calls P f args w' fun e w'' => ∃ v, e = .returned v ∧ R v w''
  | _ => False
theorem Runs.wp {P : Program} {o : Oper} {a : Act} {w : World} {R : Value → World → Prop} {next : Act → World → Prop} {Q : Exit → Act → World → Prop}
    (h : Runs P o a.eval w R) (hn : ∀ v w', R v w' → next (a.put o.dst v) w') : o.wp P a w next Q := by
  unfold Runs at h
  unfold Oper.wp
  generalize (execOp a.eval o).run P w = r at h ⊢
  cases r with
  | ok nx w' =>
    cases nx <;> simp only [Oper.upon] at h ⊢ <;> first | exact hn _ _ h | exact h.elim | skip
    refine Calls.mono h ?_
    rintro e w'' ⟨v, rfl, hr⟩
    exact hn _ _ hr
  | halt x w' => exact h.elim
theorem Runs.mono {P : Program} {o : Oper} {ρ : Operand → Value} {w : World} {R R' : Value → World → Prop}
    (h : Runs P o ρ w R) (hn : ∀ v w', R v w' → R' v w') : Runs P o ρ w R' := by
  unfold Runs at h ⊢
  generalize (execOp ρ o).run P w = r at h ⊢
  cases r with
  | ok nx w' =>
    cases nx <;> simp only at h ⊢ <;> first | exact hn _ _ h | exact h.elim | skip
    refine Calls.mono h ?_
    rintro e w'' ⟨v, rfl, hr⟩
    exact ⟨v, rfl, hn _ _ hr⟩
  | halt x w' => exact h.elim

/-- An operation that reads: its value, the world untouched. -/
def Quiet (P : Program) (o : Oper) (E : Env) (L : List HP) (v : Value) : Prop :=
  ∀ ρ w, Agrees E ρ → St L w → (execOp ρ o).run P w = .ok (.value v) w
/-- An operation that may change what it owns. -/
def OpSpec (P : Program) (o : Oper) (E : Env) (pre : List HP) (K : Value → List HP → Prop) : Prop :=
  ∀ ρ w F, Agrees E ρ → St (pre ++ F) w → Runs P o ρ w fun v w' => ∃ L', K v L' ∧ St (L' ++ F) w' ∧ Keeps w w'
theorem Quiet.spec {P : Program} {o : Oper} {E : Env} {L : List HP} {v : Value} (h : Quiet P o E L v) : OpSpec P o E L fun u L' => u = v ∧ L' = L := by
  intro ρ w F ha hs
  obtain ⟨h1, h2, hd, a1, a2, s1, s2⟩ := sep_append hs
  have := h ρ w ha (sep_mono s1 a1)
  unfold Runs
  rw [this]
  exact ⟨_, ⟨rfl, rfl⟩, hs, .refl _⟩

/-! ### Contracts -/
def Fn (P : Program) (f : FuncId) (args : Array Value) (pre : List HP) (post : Value → List HP → Prop) : Prop :=
  ∀ (F : List HP) (w : World), St (pre ++ F) w → Calls P f args w fun e w' => ∃ v L, post v L ∧ e = .returned v ∧ St (L ++ F) w' ∧ Keeps w w'
theorem Fn.mono {P : Program} {f : FuncId} {args : Array Value} {pre : List HP} {post post' : Value → List HP → Prop} (h : Fn P f args pre post)
    (hp : ∀ v L, post v L → post' v L) : Fn P f args pre post' :=
  fun F w hs => (h F w hs).mono fun _ _ ⟨v, L, hv, he, hs', hk⟩ => ⟨v, L, hp _ _ hv, he, hs', hk⟩

/-! ### The walk's state -/
def G (W : World) (n : Nat) (ds : List Deferred) (E : Env) (L : List HP) (X : Act → World → Prop) : Prop :=
  ∀ a w, EnvOK n ds E a → Keeps W w → St L w → X a w
end Go.Proofs.YtnnbelmpbmfdnaaDoor
