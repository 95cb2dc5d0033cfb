/- Own work, some of it printed by program, texts that were built one by one: a part of the proof of leadFollowed.proved. -/
import Derived.WalkKit
import Derived.Deep.LoopGhost
import Derived.KernelRfl
import Derived.Orders
import Derived.Laws.Append
set_option maxRecDepth 100000
namespace Go.Proofs.YtjhlofbhpjakgaaGreat
open Go List 
abbrev Hp := Nat → Option Obj
abbrev HP := Hp → Prop
def CG : List HP → HP
  | [] => fun _ => True
  | p :: L => fun h => ∃ h1 h2 : Hp, (∀ b, h1 b = none ∨ h2 b = none) ∧ (∀ b o, h1 b = some o → h b = some o) ∧
      (∀ b o, h2 b = some o → h b = some o) ∧ p h1 ∧ CG L h2
theorem I4 {L : List HP} {h h' : Hp} (hs : CG L h) (hle : ∀ b o, h b = some o → h' b = some o) : CG L h' := by
 cases L with
 | nil => trivial
 | cons p L =>
  obtain ⟨h1, h2, hd, a1, a2, hp, hL⟩ := hs
  exact ⟨h1, h2, hd, fun b o e => hle _ _ (a1 b o e), fun b o e => hle _ _ (a2 b o e), hp, hL⟩
theorem Es {p : HP} {L : List HP} {h : Hp} (hs : CG (p :: L) h) : CG L h := by
 obtain ⟨h1, h2, hd, a1, a2, hp, hL⟩ := hs
 exact I4 hL a2
def Ey (h1 h2 : Hp) : Hp := fun b => match h1 b with | some o => some o | none => h2 b
theorem HY {h1 h2 : Hp} {b : Nat} {o : Obj} (h : Ey h1 h2 b = some o) : h1 b = some o ∨ h2 b = some o := by
 unfold Ey at h
 cases e : h1 b with
 | some x => rw [e] at h; exact .inl h
 | none => rw [e] at h; exact .inr h
theorem Hf {h1 h2 : Hp} {b : Nat} {o : Obj} (h : h1 b = some o) : Ey h1 h2 b = some o := by simp [Ey, h]
theorem Gu {h1 h2 : Hp} (hd : ∀ b, h1 b = none ∨ h2 b = none) {b : Nat} {o : Obj} (h : h2 b = some o) : Ey h1 h2 b = some o := by
 rcases hd b with e | e
 ·simp [Ey, e, h]
 ·rw [e] at h; cases h
theorem Fa {h h' : Hp} (hle : ∀ b o, h b = some o → h' b = some o) {b : Nat} (hb : h' b = none) : h b = none := by
 cases e : h b with
 | none => rfl
 | some o => rw [hle _ _ e] at hb; cases hb
theorem DL {p q : HP} {L : List HP} {h : Hp} (hs : CG (p :: q :: L) h) : CG (q :: p :: L) h := by
 obtain ⟨h1, h2, hd, a1, a2, hp, g1, g2, gd, b1, b2, hq, hL⟩ := hs
 refine ⟨g1, Ey h1 g2, fun b => ?_, fun b o e => a2 _ _ (b1 _ _ e), fun b o e => ?_, hq, h1, g2, fun b => ?_, fun b o e => Hf e, fun b o e => ?_, hp, hL⟩
 ·cases e : g1 b with
  | none => exact .inl rfl
  | some o =>
   refine .inr ?_
   have h2b := b1 _ _ e
   have e1 : h1 b = none := (hd b).resolve_right (by rw [h2b]; simp)
   have e2 : g2 b = none := (gd b).resolve_left (by rw [e]; simp)
   simp [Ey, e1, e2]
 ·rcases HY e with e | e
  ·exact a1 _ _ e
  ·exact a2 _ _ (b2 _ _ e)
 ·rcases hd b with e | e
  ·exact .inl e
  ·exact .inr (Fa b2 e)
 ·refine Gu (fun b => ?_) e
  rcases hd b with e | e
  ·exact .inl e
  ·exact .inr (Fa b2 e)
theorem EJ {p : HP} {L L' : List HP} (hi : ∀ h, CG L h → CG L' h) {h : Hp} (hs : CG (p :: L) h) : CG (p :: L') h := by
 obtain ⟨h1, h2, hd, a1, a2, hp, hL⟩ := hs
 exact ⟨h1, h2, hd, a1, a2, hp, hi _ hL⟩
theorem BS {p q : HP} {L : List HP} (hi : ∀ h, p h → q h) {h : Hp} (hs : CG (p :: L) h) : CG (q :: L) h := by
 obtain ⟨h1, h2, hd, a1, a2, hp, hL⟩ := hs
 exact ⟨h1, h2, hd, a1, a2, hi _ hp, hL⟩
theorem C8 {L L' : List HP} (hp : L.Perm L') : ∀ {h : Hp}, CG L h → CG L' h := by
 induction hp with
 | nil => exact id
 | cons p _ ih => exact fun hs => EJ (fun _ => ih) hs
 | swap p q l => exact fun hs => DL hs
 | trans _ _ ih1 ih2 => exact fun hs => ih2 (ih1 hs)
theorem Lb {L1 L2 : List HP} : ∀ {h : Hp}, CG (L1 ++ L2) h →
  ∃ h1 h2 : Hp, (∀ b, h1 b = none ∨ h2 b = none) ∧ (∀ b o, h1 b = some o → h b = some o) ∧ (∀ b o, h2 b = some o → h b = some o) ∧ CG L1 h1 ∧ CG L2 h2 := by
 induction L1 with
 | nil => exact fun {h} hs => ⟨fun _ => none, h, fun _ => .inl rfl, fun _ _ e => (by cases e), fun _ _ e => e, trivial, hs⟩
 | cons p L ih =>
  intro h hs
  obtain ⟨h1, h2, hd, a1, a2, hp, hL⟩ := hs
  obtain ⟨g1, g2, gd, b1, b2, s1, s2⟩ := ih hL
  refine ⟨Ey h1 g1, g2, fun b => ?_, fun b o e => ?_, fun b o e => a2 _ _ (b2 _ _ e), ⟨h1, g1, fun b => ?_, fun b o e => Hf e, fun b o e => ?_, hp, s1⟩, s2⟩
  ·cases e : g2 b with
   | none => exact .inr rfl
   | some o =>
    refine .inl ?_
    have h2b := b2 _ _ e
    have e1 : h1 b = none := (hd b).resolve_right (by rw [h2b]; simp)
    have e2 : g1 b = none := (gd b).resolve_right (by rw [e]; simp)
    simp [Ey, e1, e2]
  ·rcases HY e with e | e
   ·exact a1 _ _ e
   ·exact a2 _ _ (b1 _ _ e)
  ·rcases hd b with e | e
   ·exact .inl e
   ·exact .inr (Fa b1 e)
  ·refine Gu (fun b => ?_) e
   rcases hd b with e | e
   ·exact .inl e
   ·exact .inr (Fa b1 e)
theorem P1 {L1 L2 : List HP} : ∀ {h h1 h2 : Hp}, (∀ b, h1 b = none ∨ h2 b = none) → (∀ b o, h1 b = some o → h b = some o) →
  (∀ b o, h2 b = some o → h b = some o) → CG L1 h1 → CG L2 h2 → CG (L1 ++ L2) h := by
 induction L1 with
 | nil => exact fun hd a1 a2 _ s2 => I4 s2 a2
 | cons p L ih =>
  intro h h1 h2 hd a1 a2 s1 s2
  obtain ⟨g1, g2, gd, b1, b2, hp, hL⟩ := s1
  refine ⟨g1, Ey g2 h2, fun b => ?_, fun b o e => a1 _ _ (b1 _ _ e), fun b o e => ?_, hp, ?_⟩
  ·cases e : g1 b with
   | none => exact .inl rfl
   | some o =>
    refine .inr ?_
    have e1 : h2 b = none := (hd b).resolve_left (by rw [b1 _ _ e]; simp)
    have e2 : g2 b = none := (gd b).resolve_left (by rw [e]; simp)
    simp [Ey, e1, e2]
  ·rcases HY e with e | e
   ·exact a1 _ _ (b2 _ _ e)
   ·exact a2 _ _ e
  ·have hd' : ∀ b, g2 b = none ∨ h2 b = none := fun b => by
    rcases hd b with e | e
    ·exact .inl (Fa b2 e)
    ·exact .inr e
   exact ih hd' (fun b o e => Hf e) (fun b o e => Gu hd' e) hL s2
theorem FQ {L1 L : List HP} {h : Hp} (hs : CG (CG L1 :: L) h) : CG (L1 ++ L) h := by
 obtain ⟨h1, h2, hd, a1, a2, hp, hL⟩ := hs
 exact P1 hd a1 a2 hp hL
theorem Ee {L1 L : List HP} {h : Hp} (hs : CG (L1 ++ L) h) : CG (CG L1 :: L) h := by
 obtain ⟨h1, h2, hd, a1, a2, s1, s2⟩ := Lb hs
 exact ⟨h1, h2, hd, a1, a2, s1, s2⟩
def pt (b : Nat) (o : Obj) : HP := fun h => h b = some o
theorem Jv {α : Sort _} {p : α → HP} {L : List HP} {h : Hp} (hs : CG ((fun h => ∃ x, p x h) :: L) h) : ∃ x, CG (p x :: L) h := by
 obtain ⟨h1, h2, hd, a1, a2, ⟨x, hp⟩, hL⟩ := hs
 exact ⟨x, h1, h2, hd, a1, a2, hp, hL⟩
theorem AZ {p : HP} {L : List HP} {h : Hp} (hs : CG (p :: L) h) : ∃ h1, (∀ b o, h1 b = some o → h b = some o) ∧ p h1 := by
 obtain ⟨h1, h2, hd, a1, a2, hp, hL⟩ := hs
 exact ⟨h1, a1, hp⟩
theorem HX {b : Nat} {o : Obj} {L : List HP} {h : Hp} (hs : CG (pt b o :: L) h) : h b = some o := by
 obtain ⟨h1, a1, hp⟩ := AZ hs
 exact a1 _ _ hp
theorem W6 {b : Nat} {o o' : Obj} {L : List HP} {h h' : Hp} (hs : CG (pt b o :: L) h) (hb : h' b = some o') (hne : ∀ c, c ≠ b → h' c = h c) :
  CG (pt b o' :: L) h' := by
 obtain ⟨h1, h2, hd, a1, a2, hp, hL⟩ := hs
 have h2b : h2 b = none := (hd b).resolve_left (by rw [hp]; simp)
 refine ⟨fun c => if c = b then some o' else none, h2, fun c => ?_, fun c o e => ?_, fun c o e => ?_, if_pos rfl, hL⟩
 ·by_cases e : c = b
  ·exact .inr (e ▸ h2b)
  ·exact .inl (if_neg e)
 ·by_cases hc : c = b
  ·subst hc; simp at e; rw [← e]; exact hb
  ·simp [hc] at e
 ·have hc : c ≠ b := by rintro rfl; rw [h2b] at e; cases e
  rw [hne _ hc]; exact a2 _ _ e
theorem Xb {b : Nat} {o : Obj} {L : List HP} {h h' : Hp} (hs : CG L h) (hnb : h b = none) (hb : h' b = some o) (hne : ∀ c, c ≠ b → h' c = h c) :
  CG (pt b o :: L) h' := by
 refine ⟨fun c => if c = b then some o else none, h, fun c => ?_, fun c o' e => ?_, fun c o e => ?_, if_pos rfl, hs⟩
 ·by_cases e : c = b
  ·exact .inr (e ▸ hnb)
  ·exact .inl (if_neg e)
 ·by_cases hc : c = b
  ·subst hc; simp at e; rw [← e]; exact hb
  ·simp [hc] at e
 ·have hc : c ≠ b := by rintro rfl; rw [hnb] at e; cases e
  rw [hne _ hc]; exact e
inductive BT : HP → List HP → List HP → Prop
 | here {p : HP} {L : List HP} : BT p (p :: L) L
 | there {p q : HP} {L R : List HP} : BT p L R → BT p (q :: L) (q :: R)
theorem BT.perm {p : HP} {L R : List HP} (h : BT p L R) : L.Perm (p :: R) := by
 induction h with
 | here => exact .refl _
 | there _ ih => exact (List.Perm.cons _ ih).trans (List.Perm.swap _ _ _)
inductive Am : List HP → List HP → List HP → Prop
 | nil {L : List HP} : Am [] L L
 | cons {p : HP} {ps L R S : List HP} : BT p L R → Am ps R S → Am (p :: ps) L S
theorem Am.perm {ps L R : List HP} (h : Am ps L R) : L.Perm (ps ++ R) := by
 induction h with
 | nil => exact .refl _
 | cons h _ ih => exact h.perm.trans (List.Perm.cons _ ih)
def St (L : List HP) (w : World) : Prop := CG L fun b => w.heap[b]?
theorem St.perm {L L' : List HP} {w : World} (h : St L w) (hp : L.Perm L') : St L' w := C8 hp h
theorem St.pick {p : HP} {L R : List HP} {w : World} (h : St L w) (hp : BT p L R) : St (p :: R) w := C8 hp.perm h
theorem St.picks {ps L R : List HP} {w : World} (h : St L w) (hp : Am ps L R) : St (ps ++ R) w := C8 hp.perm h
theorem St.of_heap {L : List HP} {w w' : World} (h : St L w) (he : w'.heap = w.heap) : St L w' := by unfold St at *; rw [he]; exact h
theorem St.pt {b : Nat} {o : Obj} {L : List HP} {w : World} (h : St (pt b o :: L) w) : w.heap[b]? = some o := HX h
theorem St.tail {p : HP} {L : List HP} {w : World} (h : St (p :: L) w) : St L w := Es h
structure Az (w w' : World) : Prop where
 os : w'.os = w.os
 tape : w'.tape = w.tape
 output : w'.output = w.output
 size : w.heap.size ≤ w'.heap.size
theorem Az.refl (w : World) : Az w w := ⟨rfl, rfl, rfl, Nat.le_refl _⟩
theorem Az.trans {a b c : World} (h : Az a b) (k : Az b c) : Az a c :=
 ⟨k.os.trans h.os, k.tape.trans h.tape, k.output.trans h.output, Nat.le_trans h.size k.size⟩
theorem Az.drew (w : World) : Az w { w with drawn := w.drawn + 1 } := ⟨rfl, rfl, rfl, Nat.le_refl _⟩
theorem Az.heap {w : World} {h : Array Obj} (hs : w.heap.size ≤ h.size) : Az w { w with heap := h } := ⟨rfl, rfl, rfl, hs⟩
theorem St.drew {L : List HP} {w : World} (h : St L w) : St L { w with drawn := w.drawn + 1 } := h.of_heap rfl
theorem St.new {L : List HP} {w : World} (h : St L w) (o : Obj) : St (Go.Proofs.YtjhlofbhpjakgaaGreat.pt w.heap.size o :: L) { w with heap := w.heap.push o } := by
 refine Xb h (by simp) (by simp) fun c hc => ?_
 simp [Array.getElem?_push, hc]
theorem Az.new (w : World) (o : Obj) : Az w { w with heap := w.heap.push o } := Az.heap (h := w.heap.push o) (by simp)
theorem St.set {b : Nat} {o o' : Obj} {L : List HP} {w : World} (h : St (Go.Proofs.YtjhlofbhpjakgaaGreat.pt b o :: L) w) : St (Go.Proofs.YtjhlofbhpjakgaaGreat.pt b o' :: L) { w with heap := w.heap.setIfInBounds b o' } := by
 have hb := h.pt
 have hlt : b < w.heap.size := by
  rcases Nat.lt_or_ge b w.heap.size with h | h
  ·exact h
  ·simp [Array.getElem?_eq_none h] at hb
 refine W6 h (by simp [hlt]) fun c hc => ?_
 simp [Ne.symm hc]
theorem Az.set (w : World) (b : Nat) (o : Obj) : Az w { w with heap := w.heap.setIfInBounds b o } := Az.heap (h := w.heap.setIfInBounds b o) (by simp)
def Old (W : World) : HP := fun h => ∀ b, b < W.heap.size → h b = W.heap[b]?
/-! ### The environment -/
abbrev By := List (Nat × Value)
def look : By → Nat → Option Value
 | [], _ => none
 | (k, v) :: E, t => bif Nat.beq k t then some v else look E t
def F9 : Option Nat → Value → By → By
 | some d, v, E => (d, v) :: E
 | none, _, E => E
def ev (E : By) : Operand → Option Value
 | .tmp t => look E t
 | .const v => some v
 | .global g => some (.pointer (some ⟨g, 0, none⟩))
 | .func f => some (.func (.func f) #[] #[])
def CY : Option Nat → Nat → Bool
 | some d, n => Nat.blt d n
 | none, _ => true
structure Ef (n : Nat) (ds : List Deferred) (E : By) (a : Act) : Prop where
 size : a.tmps.size = n
 defers : a.defers = ds
 slots : ∀ t v, look E t = some v → a.tmps[t]? = some v
theorem Ef.put {n : Nat} {ds : List Deferred} {E : By} {a : Act} (h : Ef n ds E a) {dst : Option Nat} (hd : CY dst n = true) (v : Value) :
  Ef n ds (F9 dst v E) (a.put dst v) := by
 cases dst with
 | none => exact h
 | some d =>
  have hd' : d < n := by simpa [CY, Nat.blt_eq] using hd
  refine ⟨by simpa [Act.put] using h.size, h.defers, fun t u hu => ?_⟩
  simp only [F9, look] at hu
  by_cases hk : d = t
  ·subst hk
   simp at hu
   subst hu
   simp [Act.put, h.size, hd']
  ·have : Nat.beq d t = false := by
    cases e : Nat.beq d t with
    | false => rfl
    | true => exact absurd (Nat.eq_of_beq_eq_true e) hk
   rw [this] at hu
   simpa [Act.put, Array.getElem?_setIfInBounds, hk] using h.slots t u hu
def IZ (E : By) (ρ : Operand → Value) : Prop := ∀ x v, ev E x = some v → ρ x = v
theorem Ef.agrees {n : Nat} {ds : List Deferred} {E : By} {a : Act} (h : Ef n ds E a) : IZ E a.eval := by
 intro x v hv
 cases x with
 | tmp t => simp only [ev] at hv; simp [Act.eval, h.slots t v hv]
 | const c => simpa [ev, Act.eval] using hv
 | global g => simpa [ev, Act.eval] using hv
 | func f => simpa [ev, Act.eval] using hv
def K6 : By → By → Prop
 | [], _ => True
 | (t, v) :: E', E => look E t = some v ∧ K6 E' E
theorem K6.look {E' E : By} (h : K6 E' E) {t : Nat} {v : Value} (hl : look E' t = some v) : look E t = some v := by
 induction E' with
 | nil => cases hl
 | cons x E' ih =>
  obtain ⟨k, u⟩ := x
  obtain ⟨h1, h2⟩ := h
  simp only [Go.Proofs.YtjhlofbhpjakgaaGreat.look] at hl
  cases e : Nat.beq k t with
  | true =>
   rw [e] at hl
   have := Nat.eq_of_beq_eq_true e
   subst this
   simp at hl; rw [← hl]; exact h1
  | false => rw [e] at hl; exact ih h2 hl
theorem Ef.sub {n : Nat} {ds : List Deferred} {E E' : By} {a : Act} (h : Ef n ds E a) (hs : K6 E' E) : Ef n ds E' a :=
 ⟨h.size, h.defers, fun t v hl => h.slots t v (hs.look hl)⟩
/-! ### One operation -/
def Du (P : Program) (o : Oper) (ρ : Operand → Value) (w : World) (R : Value → World → Prop) : Prop :=
 match (execOp ρ o).run P w with
 | .ok (.value v) w' => R v w'
 | .ok .skip w' => R undef w'
 | .ok (.enter f args) w' => Calls P f args w' fun e w'' => ∃ v, e = .returned v ∧ R v w''
 | _ => False
theorem Du.wp {P : Program} {o : Oper} {a : Act} {w : World} {R : Value → World → Prop} {next : Act → World → Prop} {Q : Exit → Act → World → Prop}
  (h : Du P o a.eval w R) (hn : ∀ v w', R v w' → next (a.put o.dst v) w') : o.wp P a w next Q := by
 unfold Du at h
 unfold Oper.wp
 generalize (execOp a.eval o).run P w = r at h ⊢
 cases r with
 | ok nx w' =>
  cases nx <;> simp only [Oper.upon] at h ⊢ <;> first | exact hn _ _ h | exact h.elim | skip
  refine Calls.mono h ?_
  rintro e w'' ⟨v, rfl, hr⟩
  exact hn _ _ hr
 | halt x w' => exact h.elim
theorem Du.mono {P : Program} {o : Oper} {ρ : Operand → Value} {w : World} {R R' : Value → World → Prop}
  (h : Du P o ρ w R) (hn : ∀ v w', R v w' → R' v w') : Du P o ρ w R' := by
 unfold Du at h ⊢
 generalize (execOp ρ o).run P w = r at h ⊢
 cases r with
 | ok nx w' =>
  cases nx <;> simp only at h ⊢ <;> first | exact hn _ _ h | exact h.elim | skip
  refine Calls.mono h ?_
  rintro e w'' ⟨v, rfl, hr⟩
  exact ⟨v, rfl, hn _ _ hr⟩
 | halt x w' => exact h.elim
def AH (P : Program) (o : Oper) (E : By) (L : List HP) (v : Value) : Prop :=
 ∀ ρ w, IZ E ρ → St L w → (execOp ρ o).run P w = .ok (.value v) w
def AI (P : Program) (o : Oper) (E : By) (pre : List HP) (K : Value → List HP → Prop) : Prop :=
 ∀ ρ w F, IZ E ρ → St (pre ++ F) w → Du P o ρ w fun v w' => ∃ L', K v L' ∧ St (L' ++ F) w' ∧ Az w w'
theorem AH.spec {P : Program} {o : Oper} {E : By} {L : List HP} {v : Value} (h : AH P o E L v) : AI P o E L fun u L' => u = v ∧ L' = L := by
 intro ρ w F ha hs
 obtain ⟨h1, h2, hd, a1, a2, s1, s2⟩ := Lb hs
 have := h ρ w ha (I4 s1 a1)
 unfold Du
 rw [this]
 exact ⟨_, ⟨rfl, rfl⟩, hs, .refl _⟩
/-! ### Contracts -/
def Fn (P : Program) (f : FuncId) (args : Array Value) (pre : List HP) (post : Value → List HP → Prop) : Prop :=
 ∀ (F : List HP) (w : World), St (pre ++ F) w → Calls P f args w fun e w' => ∃ v L, post v L ∧ e = .returned v ∧ St (L ++ F) w' ∧ Az w w'
theorem Fn.mono {P : Program} {f : FuncId} {args : Array Value} {pre : List HP} {post post' : Value → List HP → Prop} (h : Fn P f args pre post)
  (hp : ∀ v L, post v L → post' v L) : Fn P f args pre post' :=
 fun F w hs => (h F w hs).mono fun _ _ ⟨v, L, hv, he, hs', hk⟩ => ⟨v, L, hp _ _ hv, he, hs', hk⟩
/-! ### The walk's state -/
def G (W : World) (n : Nat) (ds : List Deferred) (E : By) (L : List HP) (X : Act → World → Prop) : Prop :=
 ∀ a w, Ef n ds E a → Az W w → St L w → X a w
/-! ### What goes down, what goes up; a follower -/
inductive Dn where
 | ep | sync (z : Int) (m : Nat) | prop (j : Nat) | up (z : Int) | com (z : Int) | ping (z : Int)
inductive Um where
 | info | ack (b : Bool) (k : Nat) | synced | acked (z : Int) | pong
def zt (j : Nat) : Int := if j = 0 then 0 else if j ≤ 4 then 4294967296 + j else 8589934592 + j - 4
theorem IB {j k : Nat} (h : j < k) : zt j < zt k := by unfold zt; split <;> split <;> (try split) <;> omega
theorem KD {j k : Nat} (h : j ≤ k) : zt j ≤ zt k := by
 rcases Nat.lt_or_ge j k with g | g
 ·exact Int.le_of_lt (IB g)
 ·rw [Nat.le_antisymm h g]; exact Int.le_refl _
structure Jc where
 ph : Int
 k : Nat
 com : Int
def Bz (F : Jc) : Dn → Option (Jc × List Um)
 | .ep => if F.ph = 0 ∨ F.ph = 1 then some (⟨1, F.k, F.com⟩, [.ack (decide (F.ph = 0)) F.k]) else none
 | .sync z m => if F.ph = 1 ∧ z = zt F.k ∧ F.k ≤ 4 ∧ 4 ≤ m then some (⟨2, m, F.com⟩, [.synced]) else none
 | .prop j => if (F.ph = 2 ∨ F.ph = 3) ∧ F.k = j then some (⟨F.ph, j + 1, F.com⟩, [.acked (zt (j + 1))]) else none
 | .up z => if F.ph = 2 ∧ z ≤ zt F.k then some (⟨3, F.k, max F.com z⟩, []) else none
 | .com z => if F.ph = 3 ∧ z ≤ zt F.k then some (⟨3, F.k, max F.com z⟩, []) else none
 | .ping z => if (F.ph = 2 ∨ F.ph = 3) ∧ z ≤ zt F.k then some (⟨F.ph, F.k, if F.ph = 3 then max F.com z else F.com⟩, [.pong]) else none
inductive Run : Jc → List Dn → Jc → List Um → Prop
 | nil (F : Jc) : Run F [] F []
 | cons {F F1 F2 : Jc} {d : Dn} {D : List Dn} {o V : List Um} (h : Bz F d = some (F1, o)) (r : Run F1 D F2 V) : Run F (d :: D) F2 (o ++ V)
theorem Run.snoc {F F1 F2 : Jc} {D : List Dn} {V o : List Um} {d : Dn} (r : Run F D F1 V) (h : Bz F1 d = some (F2, o)) : Run F (D ++ [d]) F2 (V ++ o) := by
 induction r with
 | nil F => have := Run.cons h (Run.nil F2); rw [append_nil] at this; exact this
 | cons h1 r1 ih => rw [append_assoc]; exact Run.cons h1 (ih h)
theorem Run.nil_inv {F F' : Jc} {V : List Um} (r : Run F [] F' V) : F' = F ∧ V = [] := by cases r; exact ⟨rfl, rfl⟩
theorem Run.cons_inv {F F' : Jc} {d : Dn} {D : List Dn} {V : List Um} (r : Run F (d :: D) F' V) : ∃ F1 o V1, Bz F d = some (F1, o) ∧ Run F1 D F' V1 ∧ V = o ++ V1 := by
 cases r with
 | cons h r => exact ⟨_, _, _, h, r, rfl⟩
theorem Pe {F F1 : Jc} {d : Dn} {o : List Um} (h : Bz F d = some (F1, o)) : (∀ u ∈ o, u ≠ .info) ∧ F1.ph ≠ 0 := by
 cases d <;> unfold Bz at h <;> dsimp only at h <;> split at h <;> cases h <;> rename_i g <;> refine ⟨fun u hu => ?_, ?_⟩
 all_goals first
  | (dsimp only; omega)
  | (cases hu; done)
  | (rw [mem_singleton] at hu; rw [hu]; intro e; cases e)
theorem Run.no {F F' : Jc} {D : List Dn} {V : List Um} (r : Run F D F' V) : ∀ u ∈ V, u ≠ .info := by
 induction r with
 | nil F => intro u hu; cases hu
 | cons h r ih => intro u hu; rcases mem_append.1 hu with g | g; exact (Pe h).1 u g; exact ih u g
/-! ### The leader's row of a follower; what is under way between them -/
structure Sv where
 id : Int
 st : Int
 ep : Int
 ack : Int
 bro : Int
 heard : Int
 cnt : Bool
 marks : List Int
structure Cv where
 F : Jc
 U : List Um
 D : List Dn
def Infos (U : List Um) : Prop := ∀ u ∈ U, u = .info
def O9 (U : List Um) : Prop := ∀ u ∈ U, ∃ k, u = .ack false k
def HA (h : Nat) (U : List Um) : Prop := ∀ u ∈ U, u = .pong ∨ ∃ z, u = .acked z ∧ z ≤ zt h
def Hy (a : Int) : List Um → Int
 | [] => a
 | .acked z :: U => Hy (max a z) U
 | _ :: U => Hy a U
theorem QL (U V : List Um) : ∀ a, Hy a (U ++ V) = Hy (Hy a U) V := by
 induction U with
 | nil => intro a; rfl
 | cons u U ih => intro a; cases u <;> exact ih _
theorem YJ (U : List Um) : ∀ a, a ≤ Hy a U := by
 induction U with
 | nil => intro a; exact Int.le_refl _
 | cons u U ih =>
  intro a
  cases u with
  | acked z => exact Int.le_trans (Int.le_max_left a z) (ih _)
  | _ => exact ih a
theorem HA.mono {h h' : Nat} (hh : h ≤ h') {U : List Um} (g : HA h U) : HA h' U := fun u hu => by
 rcases g u hu with e | ⟨z, e, hz⟩
 ·exact .inl e
 ·exact .inr ⟨z, e, Int.le_trans hz (KD hh)⟩
theorem HA.app {h : Nat} {U V : List Um} (a : HA h U) (b : HA h V) : HA h (U ++ V) := fun u hu => by
 rcases mem_append.1 hu with g | g
 ·exact a u g
 ·exact b u g
def AS (k : Nat) : List Int := if k = 0 then [] else [zt k]
def DT (ph : Int) (h : Nat) (com : Int) (s : Sv) (U : List Um) (F' : Jc) (V : List Um) : Prop :=
 (s.st = 2 ∧ 1 ≤ ph ∧ F'.ph = 1 ∧ ∃ I N, Infos I ∧ O9 N ∧ U ++ V = I ++ .ack true F'.k :: N) ∨
 (s.st = 3 ∧ ph = 1 ∧ F'.ph = 1 ∧ O9 (U ++ V) ∧ s.cnt = true ∧ s.marks = AS F'.k) ∨
 (s.st = 4 ∧ 2 ≤ ph ∧ F'.ph = 2 ∧ F'.k = h ∧ ∃ N A, U ++ V = N ++ .synced :: A ∧ O9 N ∧ HA h A ∧ Hy s.bro A = zt h) ∨
 (s.st = 5 ∧ 2 ≤ ph ∧ F'.ph = (if ph = 3 then 3 else 2) ∧ F'.k = h ∧ HA h (U ++ V) ∧ Hy s.ack (U ++ V) = zt h ∧ (ph = 3 → F'.com = com))
structure Conv (ph : Int) (h : Nat) (com : Int) (s : Sv) (c : Cv) : Prop where
 run : ∃ F' V, Run c.F c.D F' V ∧ (F'.ph ≠ 3 → F'.com = 0) ∧ (F'.ph ≤ 1 → F'.k ≤ 4) ∧
  ((s.st = 0 ∧ c.D = [] ∧ c.F.ph = 0 ∧ Infos c.U ∧ c.U ≠ []) ∨ (s.st = 1 ∧ ph = 0 ∧ c.D = [] ∧ c.F.ph = 0 ∧ Infos c.U) ∨ DT ph h com s c.U F' V)
 free : c.F.ph = 0 → Infos c.U
 ack0 : s.st < 5 → s.ack = 0
 ackh : s.ack ≤ zt h
 com0 : 0 ≤ c.F.com
theorem Conv.lo {ph : Int} {h : Nat} {com : Int} {s : Sv} {c : Cv} (g : Conv ph h com s c) : 0 ≤ s.st ∧ s.st ≤ 5 ∧ (ph < 1 → s.st < 2) ∧ (ph < 2 → s.st < 4) ∧ (1 ≤ ph → s.st ≠ 1) ∧ (ph ≠ 1 → s.st ≠ 3) := by
 obtain ⟨F', V, -, -, -, q⟩ := g.run
 unfold DT at q
 rcases q with q | q | q | q | q | q
 ·have := q.1; omega
 ·have := q.1; have := q.2.1; omega
 ·have := q.1; have := q.2.1; omega
 ·have := q.1; have := q.2.1; omega
 ·have := q.1; have := q.2.1; omega
 ·have := q.1; have := q.2.1; omega
def Cv.down (c : Cv) (l : List Dn) : Cv := ⟨c.F, c.U, c.D ++ l⟩
theorem Cv.down_nil (c : Cv) : c.down [] = c := by unfold Cv.down; rw [append_nil]
def Sv.to (s : Sv) (st : Int) : Sv := ⟨s.id, st, s.ep, s.ack, s.bro, s.heard, s.cnt, s.marks⟩
def Sv.sent (s : Sv) (b : Int) : Sv := ⟨s.id, 4, s.ep, s.ack, b, s.heard, s.cnt, s.marks⟩
theorem Nb {F : Jc} (h : F.ph = 0 ∨ F.ph = 1) : Bz F .ep = some (⟨1, F.k, F.com⟩, [.ack (decide (F.ph = 0)) F.k]) := if_pos h
theorem PF : O9 [] := fun _ h => by cases h
theorem VR {h : Nat} {com : Int} {s : Sv} {c : Cv} (g : Conv 0 h com s c) : Conv 1 h com (if s.st = 1 then s.to 2 else s) (c.down (if s.st = 1 then [.ep] else [])) := by
 have hlo := g.lo
 obtain ⟨F', V, hr, h1, h2, q⟩ := g.run
 by_cases e : s.st = 1
 ·rw [if_pos e, if_pos e]
  rcases q with q | ⟨-, -, q1, q2, q3⟩ | q
  ·omega
  ·rw [q1] at hr
   obtain ⟨rfl, rfl⟩ := hr.nil_inv
   have he : Bz c.F .ep = some (⟨1, c.F.k, c.F.com⟩, [.ack true c.F.k]) := by rw [Nb (.inl q2), q2]; rfl
   refine ⟨⟨⟨1, c.F.k, c.F.com⟩, [.ack true c.F.k], ?_, fun _ => h1 (by omega), fun _ => h2 (by omega), .inr (.inr (.inl ⟨rfl, by decide, rfl, c.U, [], q3, PF, rfl⟩))⟩, g.free, fun _ => g.ack0 (by omega), g.ackh, g.com0⟩
   show Run c.F (c.D ++ [.ep]) _ _
   rw [q1]; exact Run.cons he (Run.nil _)
  ·unfold DT at q; rcases q with q | q | q | q <;> (have := q.1; omega)
 ·rw [if_neg e, if_neg e, c.down_nil]
  rcases q with q | q | q
  ·exact ⟨⟨F', V, hr, h1, h2, .inl q⟩, g.free, g.ack0, g.ackh, g.com0⟩
  ·exact absurd q.1 e
  ·unfold DT at q; rcases q with q | q | q | q <;> (have := q.1; omega)
theorem Mv {F : Jc} {z : Int} {m : Nat} (h : F.ph = 1) (hz : z = zt F.k) (hk : F.k ≤ 4) (hm : 4 ≤ m) : Bz F (.sync z m) = some (⟨2, m, F.com⟩, [.synced]) := if_pos ⟨h, hz, hk, hm⟩
theorem Fd (k : Nat) : (AS k).headD 0 = zt k := by
 unfold AS
 split
 ·rename_i e; rw [e]; rfl
 ·rfl
theorem Rp {h : Nat} {com : Int} {s : Sv} {c : Cv} (h4 : 4 ≤ h) (g : Conv 1 h com s c) : Conv 2 h com (if s.st = 3 then s.sent (zt h) else s) (c.down (if s.st = 3 then [.sync (s.marks.headD 0) h] else [])) := by
 have hlo := g.lo
 obtain ⟨F', V, hr, h1, h2, q⟩ := g.run
 by_cases e : s.st = 3
 ·rw [if_pos e, if_pos e]
  rcases q with q | q | q
  ·omega
  ·omega
  ·unfold DT at q
   rcases q with q | ⟨-, -, q1, q2, -, qm⟩ | q | q
   ·omega
   ·refine ⟨⟨⟨2, h, F'.com⟩, V ++ [.synced], hr.snoc (Mv q1 (by rw [qm, Fd]) (h2 (by omega)) h4), fun _ => h1 (by omega), fun g => absurd (show (2 : Int) ≤ 1 from g) (by decide), .inr (.inr (.inr (.inr (.inl ⟨rfl, by decide, rfl, rfl, c.U ++ V, [], by simp [Cv.down], q2, (fun _ h => by cases h), rfl⟩))))⟩, g.free, fun _ => g.ack0 (by omega), g.ackh, g.com0⟩
   ·omega
   ·omega
 ·rw [if_neg e, if_neg e, c.down_nil]
  refine ⟨⟨F', V, hr, h1, h2, ?_⟩, g.free, g.ack0, g.ackh, g.com0⟩
  rcases q with q | q | q
  ·exact .inl q
  ·omega
  ·unfold DT at q
   rcases q with q | q | q | q
   ·exact .inr (.inr (.inl ⟨q.1, by decide, q.2.2⟩))
   ·exact absurd q.1 e
   ·omega
   ·omega
theorem PJ {F : Jc} {z : Int} (h : F.ph = 2) (hz : z ≤ zt F.k) : Bz F (.up z) = some (⟨3, F.k, max F.com z⟩, []) := if_pos ⟨h, hz⟩
theorem WH {F : Jc} {z : Int} (h : F.ph = 3) (hz : z ≤ zt F.k) : Bz F (.com z) = some (⟨3, F.k, max F.com z⟩, []) := if_pos ⟨h, hz⟩
theorem Co (h : Nat) : 0 ≤ zt h := KD (Nat.zero_le h)
theorem XD {h : Nat} {com : Int} {s : Sv} {c : Cv} (g : Conv 2 h com s c) : Conv 3 h (zt h) s (c.down (if 5 ≤ s.st then [.up (zt h)] else [])) := by
 have hlo := g.lo
 obtain ⟨F', V, hr, h1, h2, q⟩ := g.run
 by_cases e : 5 ≤ s.st
 ·rw [if_pos e]
  rcases q with q | q | q
  ·omega
  ·omega
  ·unfold DT at q
   rcases q with q | q | q | ⟨e5, -, q1, q2, q3, q4, -⟩
   ·omega
   ·omega
   ·omega
   ·rw [if_neg (by decide)] at q1
    have h0 := h1 (by omega)
    refine ⟨⟨⟨3, F'.k, max F'.com (zt h)⟩, V ++ [], hr.snoc (PJ q1 (by rw [q2]; exact Int.le_refl _)), fun g => absurd rfl g, fun g => absurd (show (3 : Int) ≤ 1 from g) (by decide), .inr (.inr (.inr (.inr (.inr ⟨e5, by decide, rfl, q2, by rw [append_nil]; exact q3, by rw [append_nil]; exact q4, fun _ => ?_⟩))))⟩, g.free, g.ack0, g.ackh, g.com0⟩
    have := Co h
    show max F'.com (zt h) = zt h
    omega
 ·rw [if_neg e, c.down_nil]
  refine ⟨⟨F', V, hr, h1, h2, ?_⟩, g.free, g.ack0, g.ackh, g.com0⟩
  rcases q with q | q | q
  ·exact .inl q
  ·omega
  ·unfold DT at q
   rcases q with q | q | q | q
   ·exact .inr (.inr (.inl ⟨q.1, by decide, q.2.2⟩))
   ·omega
   ·exact .inr (.inr (.inr (.inr (.inl ⟨q.1, by decide, q.2.2⟩))))
   ·omega
theorem Ug {h : Nat} {com z : Int} {s : Sv} {c : Cv} (hz : com ≤ z) (hh : z ≤ zt h) (g : Conv 3 h com s c) : Conv 3 h z s (c.down (if 5 ≤ s.st then [.com z] else [])) := by
 have hlo := g.lo
 obtain ⟨F', V, hr, h1, h2, q⟩ := g.run
 by_cases e : 5 ≤ s.st
 ·rw [if_pos e]
  rcases q with q | q | q
  ·omega
  ·omega
  ·unfold DT at q
   rcases q with q | q | q | ⟨e5, -, q1, q2, q3, q4, q5⟩
   ·omega
   ·omega
   ·omega
   ·rw [if_pos rfl] at q1
    refine ⟨⟨⟨3, F'.k, max F'.com z⟩, V ++ [], hr.snoc (WH q1 (by rw [q2]; exact hh)), fun g => absurd rfl g, fun g => absurd (show (3 : Int) ≤ 1 from g) (by decide), .inr (.inr (.inr (.inr (.inr ⟨e5, by decide, rfl, q2, by rw [append_nil]; exact q3, by rw [append_nil]; exact q4, fun _ => ?_⟩))))⟩, g.free, g.ack0, g.ackh, g.com0⟩
    have := q5 rfl
    show max F'.com z = z
    omega
 ·rw [if_neg e, c.down_nil]
  refine ⟨⟨F', V, hr, h1, h2, ?_⟩, g.free, g.ack0, g.ackh, g.com0⟩
  rcases q with q | q | q
  ·exact .inl q
  ·exact .inr (.inl q)
  ·unfold DT at q
   rcases q with q | q | q | q
   ·exact .inr (.inr (.inl q))
   ·exact .inr (.inr (.inr (.inl q)))
   ·exact .inr (.inr (.inr (.inr (.inl q))))
   ·omega
theorem NT {F : Jc} {z : Int} (h : F.ph = 2 ∨ F.ph = 3) (hz : z ≤ zt F.k) : Bz F (.ping z) = some (⟨F.ph, F.k, if F.ph = 3 then max F.com z else F.com⟩, [.pong]) := if_pos ⟨h, hz⟩
theorem Ww (h : Nat) : HA h [.pong] := fun u hu => by rw [mem_singleton] at hu; exact .inl hu
theorem M1 (a : Int) (U : List Um) : Hy a (U ++ [.pong]) = Hy a U := by rw [QL]; rfl
theorem S7 {ph : Int} {h : Nat} {com : Int} {s : Sv} {c : Cv} (hh : com ≤ zt h) (g : Conv ph h com s c) : Conv ph h com s (c.down (if 4 ≤ s.st then [.ping com] else [])) := by
 have hlo := g.lo
 obtain ⟨F', V, hr, h1, h2, q⟩ := g.run
 by_cases e : 4 ≤ s.st
 ·rw [if_pos e]
  rcases q with q | q | q
  ·omega
  ·omega
  ·unfold DT at q
   rcases q with q | q | ⟨e4, p2, q1, q2, N, A, q3, q4, q5, q6⟩ | ⟨e5, p2, q1, q2, q3, q4, q5⟩
   ·omega
   ·omega
   ·refine ⟨⟨⟨F'.ph, F'.k, if F'.ph = 3 then max F'.com com else F'.com⟩, V ++ [.pong], hr.snoc (NT (.inl q1) (by rw [q2]; exact hh)), fun g => ?_, fun g => by have g : F'.ph ≤ 1 := g; omega, .inr (.inr (.inr (.inr (.inl ⟨e4, p2, q1, q2, N, A ++ [.pong], ?_, q4, q5.app (Ww h), ?_⟩))))⟩, g.free, g.ack0, g.ackh, g.com0⟩
    ·have g : F'.ph ≠ 3 := g
     show (if F'.ph = 3 then max F'.com com else F'.com) = 0
     rw [if_neg g]; exact h1 g
    ·show c.U ++ (V ++ [.pong]) = _
     rw [← append_assoc, q3]; simp
    ·rw [M1]; exact q6
   ·have hp : F'.ph = 2 ∨ F'.ph = 3 := by
     rw [q1]; split
     ·exact .inr rfl
     ·exact .inl rfl
    refine ⟨⟨⟨F'.ph, F'.k, if F'.ph = 3 then max F'.com com else F'.com⟩, V ++ [.pong], hr.snoc (NT hp (by rw [q2]; exact hh)), fun g => ?_, fun g => by have g : F'.ph ≤ 1 := g; omega, .inr (.inr (.inr (.inr (.inr ⟨e5, p2, q1, q2, ?_, ?_, fun g => ?_⟩))))⟩, g.free, g.ack0, g.ackh, g.com0⟩
    ·have g : F'.ph ≠ 3 := g
     show (if F'.ph = 3 then max F'.com com else F'.com) = 0
     rw [if_neg g]; exact h1 g
    ·show HA h (c.U ++ (V ++ [.pong]))
     rw [← append_assoc]; exact q3.app (Ww h)
    ·show Hy s.ack (c.U ++ (V ++ [.pong])) = _
     rw [← append_assoc, M1]; exact q4
    ·have := q5 g
     rw [if_pos g] at q1
     show (if F'.ph = 3 then max F'.com com else F'.com) = com
     rw [if_pos q1]; omega
 ·rw [if_neg e, c.down_nil]; exact g
theorem NS {F : Jc} {j : Nat} (h : F.ph = 2 ∨ F.ph = 3) (hk : F.k = j) : Bz F (.prop j) = some (⟨F.ph, j + 1, F.com⟩, [.acked (zt (j + 1))]) := if_pos ⟨h, hk⟩
theorem Sr (h : Nat) : HA h [.acked (zt h)] := fun u hu => by rw [mem_singleton] at hu; exact .inr ⟨_, hu, Int.le_refl _⟩
theorem PN {a : Int} {U : List Um} {h : Nat} (e : Hy a U = zt h) : Hy a (U ++ [.acked (zt (h + 1))]) = zt (h + 1) := by
 rw [QL, e]
 have : zt h < zt (h + 1) := IB (Nat.lt_succ_self h)
 show max (zt h) (zt (h + 1)) = _
 omega
theorem Tv {h : Nat} {com : Int} {s : Sv} {c : Cv} (g : Conv 3 h com s c) : Conv 3 (h + 1) com s (c.down (if 4 ≤ s.st then [.prop h] else [])) := by
 have hlo := g.lo
 have hz := KD (Nat.le_succ h)
 obtain ⟨F', V, hr, h1, h2, q⟩ := g.run
 by_cases e : 4 ≤ s.st
 ·rw [if_pos e]
  rcases q with q | q | q
  ·omega
  ·omega
  ·unfold DT at q
   rcases q with q | q | ⟨e4, p2, q1, q2, N, A, q3, q4, q5, q6⟩ | ⟨e5, p2, q1, q2, q3, q4, q5⟩
   ·omega
   ·omega
   ·refine ⟨⟨⟨F'.ph, h + 1, F'.com⟩, V ++ [.acked (zt (h + 1))], hr.snoc (NS (.inl q1) q2), h1, fun g => by have g : F'.ph ≤ 1 := g; omega, .inr (.inr (.inr (.inr (.inl ⟨e4, p2, q1, rfl, N, A ++ [.acked (zt (h + 1))], ?_, q4, (q5.mono (Nat.le_succ h)).app (Sr _), PN q6⟩))))⟩, g.free, g.ack0, Int.le_trans g.ackh hz, g.com0⟩
    show c.U ++ (V ++ [_]) = _
    rw [← append_assoc, q3]; simp
   ·have hp : F'.ph = 2 ∨ F'.ph = 3 := .inr (by rw [q1, if_pos rfl])
    refine ⟨⟨⟨F'.ph, h + 1, F'.com⟩, V ++ [.acked (zt (h + 1))], hr.snoc (NS hp q2), h1, fun g => by have g : F'.ph ≤ 1 := g; omega, .inr (.inr (.inr (.inr (.inr ⟨e5, p2, q1, rfl, ?_, ?_, q5⟩))))⟩, g.free, g.ack0, Int.le_trans g.ackh hz, g.com0⟩
    ·show HA (h + 1) (c.U ++ (V ++ [_]))
     rw [← append_assoc]; exact (q3.mono (Nat.le_succ h)).app (Sr _)
    ·show Hy s.ack (c.U ++ (V ++ [_])) = _
     rw [← append_assoc]; exact PN q4
 ·rw [if_neg e, c.down_nil]
  refine ⟨⟨F', V, hr, h1, h2, ?_⟩, g.free, g.ack0, Int.le_trans g.ackh hz, g.com0⟩
  rcases q with q | q | q
  ·exact .inl q
  ·exact .inr (.inl q)
  ·unfold DT at q
   rcases q with q | q | q | q
   ·exact .inr (.inr (.inl q))
   ·omega
   ·omega
   ·omega
theorem Ao {α : Type} {x : α} {U V A : List α} {y : α} {B : List α} (h : x :: U ++ V = A ++ y :: B) : (A = [] ∧ x = y ∧ U ++ V = B) ∨ ∃ A', A = x :: A' ∧ U ++ V = A' ++ y :: B := by
 cases A with
 | nil => rw [nil_append, cons_append] at h; injection h with h1 h2; exact .inl ⟨rfl, h1, h2⟩
 | cons a A' => rw [cons_append, cons_append] at h; injection h with h1 h2; exact .inr ⟨A', by rw [h1], h2⟩
theorem Infos.tail {u : Um} {U : List Um} (h : Infos (u :: U)) : Infos U := fun x hx => h x (mem_cons_of_mem _ hx)
theorem O9.tail {u : Um} {U : List Um} (h : O9 (u :: U)) : O9 U := fun x hx => h x (mem_cons_of_mem _ hx)
theorem HA.tail {n : Nat} {u : Um} {U : List Um} (h : HA n (u :: U)) : HA n U := fun x hx => h x (mem_cons_of_mem _ hx)
def Cv.rest (c : Cv) (U : List Um) : Cv := ⟨c.F, U, c.D⟩
theorem Td {h : Nat} {com : Int} {s : Sv} {c : Cv} {U : List Um} (hU : c.U = .info :: U) (g : Conv 0 h com s c) : Conv 0 h com (s.to 1) (c.rest U) := by
 have hlo := g.lo
 obtain ⟨F', V, hr, h1, h2, q⟩ := g.run
 refine ⟨⟨F', V, hr, h1, h2, ?_⟩, fun e => by have := g.free e; rw [hU] at this; exact this.tail, fun _ => g.ack0 (by omega), g.ackh, g.com0⟩
 rcases q with ⟨-, q1, q2, q3, -⟩ | ⟨-, -, q1, q2, q3⟩ | q
 ·rw [hU] at q3; exact .inr (.inl ⟨rfl, rfl, q1, q2, q3.tail⟩)
 ·rw [hU] at q3; exact .inr (.inl ⟨rfl, rfl, q1, q2, q3.tail⟩)
 ·unfold DT at q; rcases q with q | q | q | q <;> (have := q.1; omega)
theorem Te {ph : Int} {h : Nat} {com : Int} {s : Sv} {c : Cv} {U : List Um} (hU : c.U = .info :: U) (hp : 1 ≤ ph) (g : Conv ph h com s c) : Conv ph h com (s.to 2) ((c.rest U).down [.ep]) := by
 have hlo := g.lo
 obtain ⟨F', V, hr, h1, h2, q⟩ := g.run
 have hfree : ∀ e : c.F.ph = 0, Infos U := fun e => by have := g.free e; rw [hU] at this; exact this.tail
 rcases q with ⟨q0, q1, q2, q3, -⟩ | q | q
 ·rw [q1] at hr
  obtain ⟨rfl, rfl⟩ := hr.nil_inv
  have he : Bz c.F .ep = some (⟨1, c.F.k, c.F.com⟩, [.ack true c.F.k]) := by rw [Nb (.inl q2), q2]; rfl
  refine ⟨⟨⟨1, c.F.k, c.F.com⟩, [.ack true c.F.k], ?_, fun _ => h1 (by omega), fun _ => h2 (by omega), .inr (.inr (.inl ⟨rfl, hp, rfl, U, [], hfree q2, PF, rfl⟩))⟩, hfree, fun _ => g.ack0 (by omega), g.ackh, g.com0⟩
  show Run c.F (c.D ++ [.ep]) _ _
  rw [q1]; exact Run.cons he (Run.nil _)
 ·omega
 ·unfold DT at q
  rcases q with ⟨q0, -, q1, I, N, q2, q3, q4⟩ | ⟨q0, -, q1, q2, -⟩ | ⟨q0, -, -, -, N, A, q1, q2, -⟩ | ⟨q0, -, -, -, q1, -⟩
  ·have he : Bz F' .ep = some (⟨1, F'.k, F'.com⟩, [.ack false F'.k]) := by rw [Nb (.inr q1), q1]; rfl
   rw [hU] at q4
   rcases Ao q4 with ⟨-, e, -⟩ | ⟨I', e, q5⟩
   ·cases e
   ·subst e
    refine ⟨⟨⟨1, F'.k, F'.com⟩, V ++ [.ack false F'.k], hr.snoc he, fun _ => h1 (by omega), fun _ => h2 (by omega), .inr (.inr (.inl ⟨rfl, hp, rfl, I', N ++ [.ack false F'.k], q2.tail, fun u hu => ?_, ?_⟩))⟩, hfree, fun _ => g.ack0 (by omega), g.ackh, g.com0⟩
    ·rcases mem_append.1 hu with hu | hu
     ·exact q3 u hu
     ·rw [mem_singleton] at hu; exact ⟨_, hu⟩
    ·show U ++ (V ++ [_]) = _
     rw [← append_assoc, q5]; simp
  ·rw [hU] at q2
   obtain ⟨k, e⟩ := q2 _ (mem_cons_self ..)
   cases e
  ·rw [hU] at q1
   rcases Ao q1 with ⟨-, e, -⟩ | ⟨A', e, -⟩
   ·cases e
   ·subst e
    obtain ⟨k, e⟩ := q2 _ (mem_cons_self ..)
    cases e
  ·rw [hU] at q1
   rcases q1 _ (mem_cons_self ..) with e | ⟨z, e, -⟩ <;> cases e
def Sv.answ (s : Sv) (k : Nat) : Sv := ⟨s.id, 3, s.ep, s.ack, s.bro, s.heard, true, AS k⟩
theorem PK {h : Nat} {com : Int} {s : Sv} {c : Cv} {U : List Um} {b : Bool} {k : Nat} (hU : c.U = .ack b k :: U) (e2 : s.st = 2) {ph : Int} (g : Conv ph h com s c) : b = true ∧ k ≤ 4 ∧ (ph = 1 → Conv 1 h com (s.answ k) (c.rest U)) ∧ (2 ≤ ph → 4 ≤ h → Conv ph h com ((s.answ k).sent (zt h)) ((c.rest U).down [.sync ((s.answ k).marks.headD 0) h])) := by
 have hlo := g.lo
 obtain ⟨F', V, hr, h1, h2, q⟩ := g.run
 have hfree : ∀ e : c.F.ph = 0, Infos U := fun e => by have := g.free e; rw [hU] at this; exact this.tail
 rcases q with q | q | q
 ·omega
 ·omega
 ·unfold DT at q
  rcases q with ⟨-, q0, q1, I, N, q2, q3, q4⟩ | q | q | q
  ·rw [hU] at q4
   rcases Ao q4 with ⟨-, e, q5⟩ | ⟨I', e, -⟩
   ·injection e with e1 e3
    subst e1; subst e3
    refine ⟨rfl, h2 (by omega), fun e => ?_, fun e h4 => ?_⟩
    ·refine ⟨⟨F', V, hr, h1, h2, .inr (.inr (.inr (.inl ⟨rfl, rfl, q1, by show O9 (U ++ V); rw [q5]; exact q3, rfl, rfl⟩)))⟩, hfree, fun _ => g.ack0 (by omega), g.ackh, g.com0⟩
    ·refine ⟨⟨⟨2, h, F'.com⟩, V ++ [.synced], hr.snoc (Mv q1 (show ((s.answ F'.k).marks).headD 0 = zt F'.k from Fd _) (h2 (by omega)) h4), fun _ => h1 (by omega), fun g => absurd (show (2 : Int) ≤ 1 from g) (by decide), .inr (.inr (.inr (.inr (.inl ⟨rfl, e, rfl, rfl, N, [], ?_, q3, (fun _ h => by cases h), rfl⟩))))⟩, hfree, fun _ => g.ack0 (by omega), g.ackh, g.com0⟩
     show U ++ (V ++ [_]) = _
     rw [← append_assoc, q5]
   ·subst e
    have := q2 _ (mem_cons_self ..)
    cases this
  ·omega
  ·omega
  ·omega
theorem Vp {ph : Int} {h : Nat} {com : Int} {s : Sv} {c : Cv} {U : List Um} {b : Bool} {k : Nat} (hU : c.U = .ack b k :: U) (e2 : s.st ≠ 2) (g : Conv ph h com s c) : Conv ph h com s (c.rest U) := by
 obtain ⟨F', V, hr, h1, h2, q⟩ := g.run
 have hfree : ∀ e : c.F.ph = 0, Infos U := fun e => by have := g.free e; rw [hU] at this; exact this.tail
 refine ⟨⟨F', V, hr, h1, h2, ?_⟩, hfree, g.ack0, g.ackh, g.com0⟩
 rcases q with ⟨-, -, -, q, -⟩ | ⟨-, -, -, -, q⟩ | q
 ·rw [hU] at q; have := q _ (mem_cons_self ..); cases this
 ·rw [hU] at q; have := q _ (mem_cons_self ..); cases this
 ·unfold DT at q
  rcases q with q | ⟨q0, p1, q1, q2, q3⟩ | ⟨q0, p1, q1, q2, N, A, q3, q4, q5⟩ | ⟨q0, -, -, -, q1, -⟩
  ·exact absurd q.1 e2
  ·rw [hU] at q2; exact .inr (.inr (.inr (.inl ⟨q0, p1, q1, q2.tail, q3⟩)))
  ·rw [hU] at q3
   rcases Ao q3 with ⟨-, e, -⟩ | ⟨N', e, q6⟩
   ·cases e
   ·subst e; exact .inr (.inr (.inr (.inr (.inl ⟨q0, p1, q1, q2, N', A, q6, q4.tail, q5⟩))))
  ·rw [hU] at q1; rcases q1 _ (mem_cons_self ..) with e | ⟨z, e, -⟩ <;> cases e
def Sv.joined (s : Sv) : Sv := ⟨s.id, 5, s.ep, s.bro, s.bro, s.heard, s.cnt, s.marks⟩
theorem ME {ph : Int} {h : Nat} {com : Int} {s : Sv} {c : Cv} {U : List Um} (hU : c.U = .synced :: U) (hc : 0 ≤ com ∧ com ≤ zt h) (g : Conv ph h com s c) : s.st = 4 ∧ Conv ph h com s.joined ((c.rest U).down (if ph = 3 then [.up com] else [])) := by
 obtain ⟨F', V, hr, h1, h2, q⟩ := g.run
 have hfree : ∀ e : c.F.ph = 0, Infos U := fun e => by have := g.free e; rw [hU] at this; exact this.tail
 rcases q with ⟨-, -, -, q, -⟩ | ⟨-, -, -, -, q⟩ | q
 ·rw [hU] at q; have := q _ (mem_cons_self ..); cases this
 ·rw [hU] at q; have := q _ (mem_cons_self ..); cases this
 ·unfold DT at q
  rcases q with ⟨-, -, -, I, N, q2, -, q4⟩ | ⟨-, -, -, q, -⟩ | ⟨q0, p1, q1, q2, N, A, q3, q4, q5, q6⟩ | ⟨q0, -, -, -, q1, -⟩
  ·rw [hU] at q4
   rcases Ao q4 with ⟨-, e, -⟩ | ⟨I', e, -⟩
   ·cases e
   ·subst e; have := q2 _ (mem_cons_self ..); cases this
  ·rw [hU] at q; obtain ⟨k, e⟩ := q _ (mem_cons_self ..); cases e
  ·rw [hU] at q3
   rcases Ao q3 with ⟨-, -, e⟩ | ⟨N', e, -⟩
   ·refine ⟨q0, ?_⟩
    have hb : s.bro ≤ zt h := by rw [← q6]; exact YJ _ _
    by_cases e3 : ph = 3
    ·rw [if_pos e3]
     have h0 := h1 (by omega)
     refine ⟨⟨⟨3, F'.k, max F'.com com⟩, V ++ [], hr.snoc (PJ q1 (by rw [q2]; exact hc.2)), fun g => absurd rfl g, fun g => absurd (show (3 : Int) ≤ 1 from g) (by decide), .inr (.inr (.inr (.inr (.inr ⟨rfl, p1, by rw [if_pos e3], q2, ?_, ?_, fun _ => ?_⟩))))⟩, hfree, fun g => absurd (show (5 : Int) < 5 from g) (by decide), hb, g.com0⟩
     ·show HA h (U ++ (V ++ [])); rw [append_nil, e]; exact q5
     ·show Hy s.bro (U ++ (V ++ [])) = _; rw [append_nil, e]; exact q6
     ·show max F'.com com = com
      omega
    ·rw [if_neg e3, Cv.down_nil]
     refine ⟨⟨F', V, hr, h1, h2, .inr (.inr (.inr (.inr (.inr ⟨rfl, p1, by rw [if_neg e3]; exact q1, q2, ?_, ?_, fun g => absurd g e3⟩))))⟩, hfree, fun g => absurd (show (5 : Int) < 5 from g) (by decide), hb, g.com0⟩
     ·show HA h (U ++ V); rw [e]; exact q5
     ·show Hy s.bro (U ++ V) = _; rw [e]; exact q6
   ·subst e; obtain ⟨k, e⟩ := q4 _ (mem_cons_self ..); cases e
  ·rw [hU] at q1; rcases q1 _ (mem_cons_self ..) with e | ⟨z, e, -⟩ <;> cases e
def Sv.acks (s : Sv) (z : Int) : Sv := ⟨s.id, s.st, s.ep, z, s.bro, s.heard, s.cnt, s.marks⟩
theorem K4 {ph : Int} {h : Nat} {com : Int} {s : Sv} {c : Cv} {U : List Um} {z : Int} (hU : c.U = .acked z :: U) (g : Conv ph h com s c) : s.st = 5 ∧ z ≤ zt h ∧ Conv ph h com (s.acks (max s.ack z)) (c.rest U) := by
 obtain ⟨F', V, hr, h1, h2, q⟩ := g.run
 have hfree : ∀ e : c.F.ph = 0, Infos U := fun e => by have := g.free e; rw [hU] at this; exact this.tail
 rcases q with ⟨-, -, -, q, -⟩ | ⟨-, -, -, -, q⟩ | q
 ·rw [hU] at q; have := q _ (mem_cons_self ..); cases this
 ·rw [hU] at q; have := q _ (mem_cons_self ..); cases this
 ·unfold DT at q
  rcases q with ⟨-, -, -, I, N, q2, -, q4⟩ | ⟨-, -, -, q, -⟩ | ⟨q0, p1, q1, q2, N, A, q3, q4, q5, q6⟩ | ⟨q0, p1, q1, q2, q3, q4, q5⟩
  ·rw [hU] at q4
   rcases Ao q4 with ⟨-, e, -⟩ | ⟨I', e, -⟩
   ·cases e
   ·subst e; have := q2 _ (mem_cons_self ..); cases this
  ·rw [hU] at q; obtain ⟨k, e⟩ := q _ (mem_cons_self ..); cases e
  ·rw [hU] at q3
   rcases Ao q3 with ⟨-, e, -⟩ | ⟨N', e, -⟩
   ·cases e
   ·subst e; obtain ⟨k, e⟩ := q4 _ (mem_cons_self ..); cases e
  ·rw [hU] at q3 q4
   have hz : z ≤ zt h := by
    rcases q3 _ (mem_cons_self ..) with e | ⟨y, e, hy⟩
    ·cases e
    ·injection e with e; rw [e]; exact hy
   have hm : max s.ack z ≤ zt h := by have := g.ackh; omega
   exact ⟨q0, hz, ⟨F', V, hr, h1, h2, .inr (.inr (.inr (.inr (.inr ⟨q0, p1, q1, q2, q3.tail, q4, q5⟩))))⟩, hfree, fun g => by have g : s.st < 5 := g; omega, hm, g.com0⟩
theorem T0 {ph : Int} {h : Nat} {com : Int} {s : Sv} {c : Cv} {U : List Um} (hU : c.U = .pong :: U) (g : Conv ph h com s c) : Conv ph h com s (c.rest U) := by
 obtain ⟨F', V, hr, h1, h2, q⟩ := g.run
 have hfree : ∀ e : c.F.ph = 0, Infos U := fun e => by have := g.free e; rw [hU] at this; exact this.tail
 refine ⟨⟨F', V, hr, h1, h2, ?_⟩, hfree, g.ack0, g.ackh, g.com0⟩
 rcases q with ⟨-, -, -, q, -⟩ | ⟨-, -, -, -, q⟩ | q
 ·rw [hU] at q; have := q _ (mem_cons_self ..); cases this
 ·rw [hU] at q; have := q _ (mem_cons_self ..); cases this
 ·unfold DT at q
  rcases q with ⟨-, -, -, I, N, q2, -, q4⟩ | ⟨-, -, -, q, -⟩ | ⟨q0, p1, q1, q2, N, A, q3, q4, q5, q6⟩ | ⟨q0, p1, q1, q2, q3, q4, q5⟩
  ·rw [hU] at q4
   rcases Ao q4 with ⟨-, e, -⟩ | ⟨I', e, -⟩
   ·cases e
   ·subst e; have := q2 _ (mem_cons_self ..); cases this
  ·rw [hU] at q; obtain ⟨k, e⟩ := q _ (mem_cons_self ..); cases e
  ·rw [hU] at q3
   rcases Ao q3 with ⟨-, e, -⟩ | ⟨N', e, -⟩
   ·cases e
   ·subst e; obtain ⟨k, e⟩ := q4 _ (mem_cons_self ..); cases e
  ·rw [hU] at q3 q4
   exact .inr (.inr (.inr (.inr (.inr ⟨q0, p1, q1, q2, q3.tail, q4, q5⟩))))
theorem UF {ph : Int} {h : Nat} {com : Int} {s : Sv} {c : Cv} {d : Dn} {D : List Dn} (hD : c.D = d :: D) (g : Conv ph h com s c) : ∃ F1 o, Bz c.F d = some (F1, o) ∧ Conv ph h com s ⟨F1, c.U ++ o, D⟩ := by
 obtain ⟨F', V, hr, h1, h2, q⟩ := g.run
 rw [hD] at hr
 obtain ⟨F1, o, V1, e1, r1, rfl⟩ := hr.cons_inv
 have hn := Pe e1
 have hc : 0 ≤ F1.com := by
  have := g.com0
  cases d <;> unfold Bz at e1 <;> dsimp only at e1 <;> split at e1 <;> cases e1 <;> dsimp only <;> (try split) <;> omega
 refine ⟨F1, o, e1, ⟨F', V1, r1, h1, h2, .inr (.inr ?_)⟩, fun e => absurd e hn.2, g.ack0, g.ackh, hc⟩
 rcases q with ⟨-, q, -⟩ | ⟨-, -, q, -⟩ | q
 ·rw [hD] at q; cases q
 ·rw [hD] at q; cases q
 ·unfold DT at q ⊢
  dsimp only
  rw [append_assoc]
  exact q
theorem RB {ph : Int} {h : Nat} {com : Int} {s : Sv} {c : Cv} (h0 : c.F.ph = 0) (g : Conv ph h com s c) : Conv ph h com s ⟨c.F, c.U ++ [.info], c.D⟩ := by
 obtain ⟨F', V, hr, h1, h2, q⟩ := g.run
 have hi := g.free h0
 have hi2 : Infos (c.U ++ [.info]) := fun u hu => by
  rcases mem_append.1 hu with hu | hu
  ·exact hi u hu
  ·rw [mem_singleton] at hu; exact hu
 refine ⟨⟨F', V, hr, h1, h2, ?_⟩, fun _ => hi2, g.ack0, g.ackh, g.com0⟩
 rcases q with ⟨q0, q1, q2, q3, q4⟩ | ⟨q0, q1, q2, q3, q4⟩ | q
 ·exact .inl ⟨q0, q1, q2, hi2, by simp⟩
 ·exact .inr (.inl ⟨q0, q1, q2, q3, hi2⟩)
 ·
  have hno := hr.no
  have key : ∀ (U I B : List Um) (y : Um), Infos U → Infos I → y ≠ .info → U ++ V = I ++ y :: B → V = y :: B := by
   intro U
   induction U with
   | nil =>
    intro I B y _ hI _ e
    cases I with
    | nil => exact e
    | cons i I => exact absurd (hI i (mem_cons_self ..)) (hno i (by rw [show V = _ from e]; exact mem_cons_self ..))
   | cons u U ih =>
    intro I B y hU hI hy e
    rcases Ao e with ⟨-, e1, -⟩ | ⟨I', rfl, e2⟩
    ·exact absurd (e1.symm.trans (hU u (mem_cons_self ..))) hy
    ·exact ih I' B y hU.tail hI.tail hy e2
  unfold DT at q
  rcases q with ⟨q0, p1, q1, I, N, q2, q3, q4⟩ | ⟨q0, p1, q1, q2, q3⟩ | ⟨q0, p1, q1, q2, N, A, q3, q4, q5, q6⟩ | ⟨q0, p1, q1, q2, q3, q4, q5⟩
  ·have hV := key c.U I N (.ack true F'.k) hi q2 (fun e => by cases e) q4
   exact .inr (.inr (.inl ⟨q0, p1, q1, c.U ++ [.info], N, hi2, q3, by rw [hV]⟩))
  ·have : c.U = [] := by
    cases hc : c.U with
    | nil => rfl
    | cons u U =>
     rw [hc] at hi q2
     obtain ⟨k, e⟩ := q2 u (mem_cons_self ..)
     exact absurd ((hi u (mem_cons_self ..)).symm.trans e) (fun e => by cases e)
   -- a follower that has not heard: its phase behind all is not what it is now, so something is under way
   exfalso
   obtain ⟨d, D, hD⟩ : ∃ d D, c.D = d :: D := by
    cases hd : c.D with
    | nil => rw [hd] at hr; obtain ⟨rfl, -⟩ := hr.nil_inv; omega
    | cons d D => exact ⟨d, D, rfl⟩
   rw [hD] at hr
   obtain ⟨F1, o, V1, e1, r1, rfl⟩ := hr.cons_inv
   cases d <;> unfold Bz at e1 <;> dsimp only at e1 <;> split at e1 <;> cases e1 <;> rename_i g2 <;> try omega
   rw [h0] at q2
   obtain ⟨k, e⟩ := q2 (.ack true c.F.k) (by simp)
   cases e
  ·exfalso
   obtain ⟨d, D, hD⟩ : ∃ d D, c.D = d :: D := by
    cases hd : c.D with
    | nil => rw [hd] at hr; obtain ⟨rfl, -⟩ := hr.nil_inv; omega
    | cons d D => exact ⟨d, D, rfl⟩
   rw [hD] at hr
   obtain ⟨F1, o, V1, e1, r1, rfl⟩ := hr.cons_inv
   cases d <;> unfold Bz at e1 <;> dsimp only at e1 <;> split at e1 <;> cases e1 <;> rename_i g2 <;> try omega
   rw [h0] at q3
   cases hc : c.U with
   | nil =>
    rw [hc] at q3
    have q3 : Um.ack true c.F.k :: [] ++ V1 = N ++ .synced :: A := q3
    rcases Ao q3 with ⟨-, e, -⟩ | ⟨N', e, -⟩
    ·cases e
    ·subst e; obtain ⟨k, e⟩ := q4 _ (mem_cons_self ..); cases e
   | cons u U =>
    rw [hc] at q3 hi
    have hu := hi u (mem_cons_self ..)
    subst hu
    rcases Ao q3 with ⟨-, e, -⟩ | ⟨N', e, -⟩
    ·cases e
    ·subst e; obtain ⟨k, e⟩ := q4 _ (mem_cons_self ..); cases e
  ·exfalso
   obtain ⟨d, D, hD⟩ : ∃ d D, c.D = d :: D := by
    cases hd : c.D with
    | nil =>
     rw [hd] at hr; obtain ⟨rfl, -⟩ := hr.nil_inv
     rw [h0] at q1; split at q1 <;> cases q1
    | cons d D => exact ⟨d, D, rfl⟩
   rw [hD] at hr
   obtain ⟨F1, o, V1, e1, r1, rfl⟩ := hr.cons_inv
   cases d <;> unfold Bz at e1 <;> dsimp only at e1 <;> split at e1 <;> cases e1 <;> rename_i g2 <;> try omega
   rcases q3 (.ack (decide (c.F.ph = 0)) c.F.k) (by simp) with e | ⟨z, e, -⟩ <;> cases e
def Sv.hrd (s : Sv) (t : Int) : Sv := ⟨s.id, s.st, s.ep, s.ack, s.bro, t, s.cnt, s.marks⟩
def Sv.eps (s : Sv) (e : Int) : Sv := ⟨s.id, s.st, e, s.ack, s.bro, s.heard, s.cnt, s.marks⟩
theorem Conv.hrd {ph : Int} {h : Nat} {com : Int} {s : Sv} {c : Cv} (g : Conv ph h com s c) (t : Int) : Conv ph h com (s.hrd t) c := ⟨g.run, g.free, g.ack0, g.ackh, g.com0⟩
theorem Conv.eps {ph : Int} {h : Nat} {com : Int} {s : Sv} {c : Cv} (g : Conv ph h com s c) (t : Int) : Conv ph h com (s.eps t) c := ⟨g.run, g.free, g.ack0, g.ackh, g.com0⟩
/-! ### A leader -/
abbrev Ou := List (Int × Dn)
structure La where
 ph : Int
 com : Int
 h : Nat
 sv : List Sv
def JR (sv : List Sv) (st : Int) (d : Dn) : Ou := (sv.filter fun s => decide (st ≤ s.st)).map fun s => (s.id, d)
def Eu (sv : List Sv) (st : Int) : Nat := (sv.filter fun s => decide (s.st = st) && (!decide (st = 3) || s.cnt)).length
def Cq (L : La) (st : Int) : Bool := decide ((L.sv.length + 1) / 2 < Eu L.sv st + 1)
def Fh (L : La) : La × Ou := (⟨1, L.com, L.h, L.sv.map fun s => if s.st = 1 then s.to 2 else s⟩, (L.sv.filter fun s => decide (s.st = 1)).map fun s => (s.id, .ep))
def Cc (L : La) : La × Ou := (⟨2, L.com, L.h, L.sv.map fun s => if s.st = 3 then s.sent (zt L.h) else s⟩, (L.sv.filter fun s => decide (s.st = 3)).map fun s => (s.id, .sync (s.marks.headD 0) L.h))
def Sw (L : La) : La × Ou := (⟨3, zt L.h, L.h, L.sv⟩, JR L.sv 5 (.up (zt L.h)))
def BD (L : La) : List Int := zt L.h :: L.sv.map (·.ack)
def CN (κ : List Int → Int) (L : La) : La × Ou := if L.com < κ (BD L) then (⟨L.ph, κ (BD L), L.h, L.sv⟩, JR L.sv 5 (.com (κ (BD L)))) else (L, [])
def Aw (b : Bool) (f : La → La × Ou) (r : La × Ou) : La × Ou := if b then ((f r.1).1, r.2 ++ (f r.1).2) else r
def CL (L : La) : La × Ou := Aw (decide (L.ph = 0) && Cq L 1) Fh (L, [])
def DD (r : La × Ou) : La × Ou := Aw (decide (r.1.ph = 1) && Cq r.1 3) Cc r
def Do (r : La × Ou) : La × Ou := Aw (decide (r.1.ph = 2) && Cq r.1 5) Sw r
def Gx (κ : List Int → Int) (r : La × Ou) : La × Ou := Aw (decide (r.1.ph = 3)) (CN κ) r
def Dl (κ : List Int → Int) (L : La) : La × Ou := Gx κ (Do (DD (CL L)))
/-! ### A leader and all its followers -/
def Dz (i : Nat) (o : Ou) : List Dn := (o.filter fun x => decide (x.1 = (i : Int) + 1)).map (·.2)
theorem Ut (i : Nat) (o p : Ou) : Dz i (o ++ p) = Dz i o ++ Dz i p := by unfold Dz; rw [filter_append, map_append]
structure BJ (L : La) (cv : Nat → Cv) : Prop where
 ids : ∀ i (h : i < L.sv.length), L.sv[i].id = (i : Int) + 1
 conv : ∀ i (h : i < L.sv.length), Conv L.ph L.h L.com L.sv[i] (cv i)
 h4 : 4 ≤ L.h
 com : 0 ≤ L.com ∧ L.com ≤ zt L.h
 ph : 0 ≤ L.ph ∧ L.ph ≤ 3
def down (cv : Nat → Cv) (o : Ou) : Nat → Cv := fun i => (cv i).down (Dz i o)
theorem down_nil (cv : Nat → Cv) : down cv [] = cv := by
 funext i
 exact Cv.down_nil _
theorem I8 (cv : Nat → Cv) (o p : Ou) : down cv (o ++ p) = down (down cv o) p := by
 funext i
 unfold down Cv.down
 rw [Ut, append_assoc]
theorem QW : ∀ (sv : List Sv) (k : Nat) (q : Sv → Bool) (d : Sv → Dn), (∀ i (h : i < sv.length), sv[i].id = ((i + k : Nat) : Int) + 1) → ∀ i (h : i < sv.length), Dz (i + k) ((sv.filter q).map fun s => (s.id, d s)) = if q sv[i] then [d sv[i]] else []
 | [], _, _, _, _, i, h => absurd h (Nat.not_lt_zero _)
 | s :: sv, k, q, d, hid, i, h => by
  have h0 := hid 0 (by simp)
  have hs : s.id = ((k : Nat) : Int) + 1 := by simpa using h0
  have hrest : ∀ i (h : i < sv.length), sv[i].id = ((i + (k + 1) : Nat) : Int) + 1 := fun i h => by
   have := hid (i + 1) (by simpa using h)
   rw [getElem_cons_succ] at this
   rw [this]; omega
  have hnone : Dz k ((sv.filter q).map fun s => (s.id, d s)) = [] := by
   unfold Dz
   rw [map_eq_nil_iff, filter_eq_nil_iff]
   intro x hx
   obtain ⟨y, hy, rfl⟩ := mem_map.1 hx
   obtain ⟨j, hj, rfl⟩ := mem_iff_getElem.1 (mem_filter.1 hy).1
   have := hrest j hj
   simp only [decide_eq_true_eq]
   omega
  cases i with
  | zero =>
   rw [Nat.zero_add]
   rw [filter_cons]
   cases hq : q s with
   | true =>
    rw [if_pos rfl, map_cons]
    have e : Dz k ((s.id, d s) :: (sv.filter q).map fun s => (s.id, d s)) = d s :: Dz k ((sv.filter q).map fun s => (s.id, d s)) := by
     unfold Dz
     rw [filter_cons, if_pos (by simpa using hs)]; rfl
    rw [e, hnone, getElem_cons_zero, hq, if_pos rfl]
   | false =>
    rw [if_neg (by decide), hnone, getElem_cons_zero, hq, if_neg (by decide)]
  | succ i =>
   have hi : i < sv.length := by simpa using h
   have ih := QW sv (k + 1) q d hrest i hi
   rw [show i + 1 + k = i + (k + 1) by omega, getElem_cons_succ, ← ih, filter_cons]
   split
   ·rw [map_cons]
    unfold Dz
    rw [filter_cons, if_neg (by simp only [decide_eq_true_eq]; omega)]
   ·rfl
theorem WY {L : La} {cv : Nat → Cv} (g : BJ L cv) (q : Sv → Bool) (d : Sv → Dn) {i : Nat} (h : i < L.sv.length) : Dz i ((L.sv.filter q).map fun s => (s.id, d s)) = if q L.sv[i] then [d L.sv[i]] else [] :=
 QW L.sv 0 q d g.ids i h
theorem BJ.bulk {L : La} {cv : Nat → Cv} (g : BJ L cv) {ph com : Int} {h : Nat} {f : Sv → Sv} {q : Sv → Bool} {d : Sv → Dn} (hf : ∀ s, (f s).id = s.id) (hc : ∀ s c, s ∈ L.sv → Conv L.ph L.h L.com s c → Conv ph h com (f s) (c.down (if q s then [d s] else []))) (h4 : 4 ≤ h) (hcom : 0 ≤ com ∧ com ≤ zt h) (hph : 0 ≤ ph ∧ ph ≤ 3) :
  BJ ⟨ph, com, h, L.sv.map f⟩ (down cv ((L.sv.filter q).map fun s => (s.id, d s))) := by
 refine ⟨fun i hi => ?_, fun i hi => ?_, h4, hcom, hph⟩
 ·have hi2 : i < L.sv.length := by simpa using hi
  show ((L.sv.map f)[i]'hi).id = _
  rw [getElem_map, hf]; exact g.ids i hi2
 ·have hi2 : i < L.sv.length := by simpa using hi
  show Conv ph h com ((L.sv.map f)[i]'hi) ((cv i).down (Dz i _))
  rw [getElem_map, WY g q d hi2]
  exact hc _ _ (getElem_mem hi2) (g.conv i hi2)
theorem X2 (l : List Sv) : l.map (fun s => s) = l := map_id l
theorem BJ.ask {L : La} {cv : Nat → Cv} (g : BJ L cv) (h0 : L.ph = 0) : BJ (Fh L).1 (down cv (Fh L).2) :=
 g.bulk (fun s => by split <;> rfl) (fun s c _ hc => by rw [h0] at hc; have := VR hc; by_cases e : s.st = 1 <;> simp only [e, if_true, if_false, decide_true, decide_false, Bool.false_eq_true] at this ⊢ <;> exact this) g.h4 g.com ⟨by decide, by decide⟩
theorem BJ.adopt {L : La} {cv : Nat → Cv} (g : BJ L cv) (h0 : L.ph = 1) : BJ (Cc L).1 (down cv (Cc L).2) :=
 g.bulk (fun s => by split <;> rfl) (fun s c _ hc => by rw [h0] at hc; have := Rp g.h4 hc; by_cases e : s.st = 3 <;> simp only [e, if_true, if_false, decide_true, decide_false, Bool.false_eq_true] at this ⊢ <;> exact this) g.h4 g.com ⟨by decide, by decide⟩
theorem BJ.tell {L : La} {cv : Nat → Cv} (g : BJ L cv) {ph com : Int} {h : Nat} {st : Int} {d : Dn} (hc : ∀ s c, Conv L.ph L.h L.com s c → Conv ph h com s (c.down (if st ≤ s.st then [d] else []))) (h4 : 4 ≤ h) (hcom : 0 ≤ com ∧ com ≤ zt h) (hph : 0 ≤ ph ∧ ph ≤ 3) : BJ ⟨ph, com, h, L.sv⟩ (down cv (JR L.sv st d)) := by
 have := g.bulk (f := fun s => s) (q := fun s => decide (st ≤ s.st)) (d := fun _ => d) (ph := ph) (com := com) (h := h) (fun s => rfl) (fun s c _ q => by
  have := hc s c q
  by_cases e : st ≤ s.st
  ·rw [if_pos e] at this; rw [if_pos (decide_eq_true e)]; exact this
  ·rw [if_neg e] at this; rw [if_neg (by simpa using e)]; exact this) h4 hcom hph
 rw [X2] at this
 exact this
theorem BJ.up {L : La} {cv : Nat → Cv} (g : BJ L cv) (h0 : L.ph = 2) : BJ (Sw L).1 (down cv (Sw L).2) :=
 g.tell (fun s c hc => by rw [h0] at hc; exact XD hc) g.h4 ⟨Co _, Int.le_refl _⟩ ⟨by decide, by decide⟩
theorem XR {L : La} {cv : Nat → Cv} (g : BJ L cv) : ∀ z ∈ BD L, z ≤ zt L.h := fun z hz => by
 rcases mem_cons.1 hz with rfl | hz
 ·exact Int.le_refl _
 ·obtain ⟨s, hs, rfl⟩ := mem_map.1 hz
  obtain ⟨i, hi, rfl⟩ := mem_iff_getElem.1 hs
  exact (g.conv i hi).ackh
section
variable (κ : List Int → Int) (hκ : ∀ l : List Int, l ≠ [] → κ l ∈ l)
include hκ
theorem BJ.comm {L : La} {cv : Nat → Cv} (g : BJ L cv) (h0 : L.ph = 3) : BJ (CN κ L).1 (down cv (CN κ L).2) := by
 unfold CN
 split
 ·rename_i hlt
  have hz := XR g _ (hκ (BD L) (by unfold BD; simp))
  have hc := g.com
  exact g.tell (fun s c hc => by rw [h0] at hc ⊢; exact Ug (Int.le_of_lt hlt) hz hc) g.h4 ⟨by omega, hz⟩ g.ph
 ·rw [down_nil]; exact g
theorem BJ.go {L : La} {cv : Nat → Cv} (g : BJ L cv) : BJ (Dl κ L).1 (down cv (Dl κ L).2) := by
 have key : ∀ (b : Bool) (f : La → La × Ou) (r : La × Ou), (b = true → BJ r.1 (down cv r.2) → BJ (f r.1).1 (down (down cv r.2) (f r.1).2)) → BJ r.1 (down cv r.2) → BJ (Aw b f r).1 (down cv (Aw b f r).2) := by
  intro b f r hf hr
  unfold Aw
  split
  ·rename_i hb
   rw [I8]; exact hf hb hr
  ·exact hr
 unfold Dl Gx Do DD CL
 refine key _ _ _ (fun hb hi => hi.comm κ hκ (by simpa using hb)) (key _ _ _ (fun hb hi => hi.up ?_) (key _ _ _ (fun hb hi => hi.adopt ?_) (key _ _ _ (fun hb hi => hi.ask ?_) ?_)))
 ·rw [Bool.and_eq_true] at hb; simpa using hb.1
 ·rw [Bool.and_eq_true] at hb; simpa using hb.1
 ·rw [Bool.and_eq_true] at hb; simpa using hb.1
 ·rw [down_nil]; exact g
end
structure GA (κ : List Int → Int) (L : La) : Prop where
 s0 : L.ph = 0 → Cq L 1 = false
 s1 : L.ph = 1 → Cq L 3 = false
 s2 : L.ph = 2 → Cq L 5 = false
 s3 : L.ph = 3 → κ (BD L) ≤ L.com
theorem GA.go {κ : List Int → Int} {L : La} (h : GA κ L) : Dl κ L = (L, []) := by
 have e1 : CL L = (L, []) := by
  unfold CL Aw
  by_cases e : L.ph = 0
  ·rw [h.s0 e]; simp
  ·simp [e]
 have e2 : DD (L, []) = (L, []) := by
  unfold DD Aw
  by_cases e : L.ph = 1
  ·rw [h.s1 e]; simp
  ·simp [e]
 have e3 : Do (L, []) = (L, []) := by
  unfold Do Aw
  by_cases e : L.ph = 2
  ·rw [h.s2 e]; simp
  ·simp [e]
 unfold Dl
 rw [e1, e2, e3]
 unfold Gx Aw
 by_cases e : L.ph = 3
 ·have := h.s3 e
  have hc : CN κ L = (L, []) := by unfold CN; rw [if_neg (by omega)]
  simp [e, hc]
 ·simp [e]
theorem HS {L : La} {st : Int} (hn : 1 ≤ L.sv.length) (h : ∀ s ∈ L.sv, s.st ≠ st) : Cq L st = false := by
 have e : Eu L.sv st = 0 := by
  unfold Eu
  rw [length_eq_zero_iff, filter_eq_nil_iff]
  intro s hs
  have := h s hs
  simp [this]
 unfold Cq
 rw [e]
 simp only [decide_eq_false_iff_not]
 omega
theorem Pr (κ : List Int → Int) (L : La) : κ (BD (CN κ L).1) ≤ (CN κ L).1.com := by
 have e : BD (CN κ L).1 = BD L := by unfold CN; split <;> rfl
 rw [e]
 unfold CN
 split
 ·exact Int.le_refl _
 ·rename_i h; exact Int.not_lt.1 h
theorem BJ.st {L : La} {cv : Nat → Cv} (g : BJ L cv) : ∀ s ∈ L.sv, 0 ≤ s.st ∧ s.st ≤ 5 ∧ (L.ph < 1 → s.st < 2) ∧ (L.ph < 2 → s.st < 4) ∧ (1 ≤ L.ph → s.st ≠ 1) ∧ (L.ph ≠ 1 → s.st ≠ 3) := fun s hs => by
 obtain ⟨i, hi, rfl⟩ := mem_iff_getElem.1 hs
 exact (g.conv i hi).lo
theorem Sh (κ : List Int → Int) {L : La} {cv : Nat → Cv} (g : BJ L cv) (hn : 1 ≤ L.sv.length) : GA κ (Dl κ L).1 := by
 have hp := g.ph
 have hst := g.st
 -- gathering
 by_cases p0 : L.ph = 0
 ·by_cases q0 : Cq L 1 = true
  ·have e1 : CL L = Fh L := by unfold CL Aw; rw [p0, q0]; simp
   have hq : Cq (Fh L).1 3 = false := HS (by show 1 ≤ (L.sv.map _).length; rw [length_map]; exact hn) (fun s hs => by
    have hs : s ∈ L.sv.map _ := hs
    obtain ⟨t, ht, rfl⟩ := mem_map.1 hs
    have := (hst t ht).2.2.1 (by omega)
    split
    ·show (2 : Int) ≠ 3; decide
    ·omega)
   have e2 : DD (Fh L) = Fh L := by unfold DD Aw; rw [hq]; simp
   have e3 : Do (Fh L) = Fh L := by unfold Do Aw; rw [if_neg (by show ¬ (decide ((1 : Int) = 2) && _) = true; simp)]
   have e4 : Dl κ L = Fh L := by unfold Dl; rw [e1, e2, e3]; unfold Gx Aw; rw [if_neg (by show ¬ decide ((1 : Int) = 3) = true; decide)]
   rw [e4]
   exact ⟨fun e => absurd (show (1 : Int) = 0 from e) (by decide), fun _ => hq, fun e => absurd (show (1 : Int) = 2 from e) (by decide), fun e => absurd (show (1 : Int) = 3 from e) (by decide)⟩
  ·have hs : GA κ L := ⟨fun _ => by simpa using q0, fun e => by omega, fun e => by omega, fun e => by omega⟩
   rw [hs.go]; exact hs
 by_cases p1 : L.ph = 1
 ·by_cases q0 : Cq L 3 = true
  ·have e1 : CL L = (L, []) := by unfold CL Aw; rw [if_neg (by simp [p1])]
   have e2 : DD (L, []) = Cc L := by unfold DD Aw; rw [if_pos (by simp [p1, q0])]; simp
   have hq : Cq (Cc L).1 5 = false := HS (by show 1 ≤ (L.sv.map _).length; rw [length_map]; exact hn) (fun s hs => by
    have hs : s ∈ L.sv.map _ := hs
    obtain ⟨t, ht, rfl⟩ := mem_map.1 hs
    have := (hst t ht).2.2.2.1 (by omega)
    split
    ·show (4 : Int) ≠ 5; decide
    ·omega)
   have e3 : Do (Cc L) = Cc L := by unfold Do Aw; rw [hq]; simp
   have e4 : Dl κ L = Cc L := by unfold Dl; rw [e1, e2, e3]; unfold Gx Aw; rw [if_neg (by show ¬ decide ((2 : Int) = 3) = true; decide)]
   rw [e4]
   exact ⟨fun e => absurd (show (2 : Int) = 0 from e) (by decide), fun e => absurd (show (2 : Int) = 1 from e) (by decide), fun _ => hq, fun e => absurd (show (2 : Int) = 3 from e) (by decide)⟩
  ·have hs : GA κ L := ⟨fun e => by omega, fun _ => by simpa using q0, fun e => by omega, fun e => by omega⟩
   rw [hs.go]; exact hs
 have e1 : CL L = (L, []) := by unfold CL Aw; rw [if_neg (by simp [p0])]
 have e2 : DD (L, []) = (L, []) := by unfold DD Aw; rw [if_neg (by simp [p1])]
 by_cases p2 : L.ph = 2
 ·by_cases q0 : Cq L 5 = true
  ·have e3 : Do (L, []) = Sw L := by unfold Do Aw; rw [if_pos (by simp [p2, q0])]; simp
   have e4 : (Dl κ L).1 = (CN κ (Sw L).1).1 := by unfold Dl; rw [e1, e2, e3]; unfold Gx Aw; rw [if_pos (by show decide ((3 : Int) = 3) = true; decide)]
   have hph : (CN κ (Sw L).1).1.ph = 3 := by unfold CN; split <;> rfl
   rw [e4]
   exact ⟨fun e => by omega, fun e => by omega, fun e => by omega, fun _ => Pr κ _⟩
  ·have hs : GA κ L := ⟨fun e => by omega, fun e => by omega, fun _ => by simpa using q0, fun e => by omega⟩
   rw [hs.go]; exact hs
 ·have p3 : L.ph = 3 := by omega
  have e3 : Do (L, []) = (L, []) := by unfold Do Aw; rw [if_neg (by simp [p2])]
  have e4 : (Dl κ L).1 = (CN κ L).1 := by unfold Dl; rw [e1, e2, e3]; unfold Gx Aw; rw [if_pos (by simp [p3])]
  have hph : (CN κ L).1.ph = 3 := by unfold CN; split <;> exact p3
  rw [e4]
  exact ⟨fun e => by omega, fun e => by omega, fun e => by omega, fun _ => Pr κ _⟩
/-! ### What the leader hears -/
def La.set (L : La) (i : Nat) (s : Sv) : La := ⟨L.ph, L.com, L.h, L.sv.set i s⟩
def A2 (L : La) (s : Sv) : Um → Sv × List Dn
 | .info => if L.ph = 0 then ((s.eps 1).to 1, []) else ((s.eps 1).to 2, [.ep])
 | .ack _ k => if s.st ≠ 2 then (s, []) else if 2 ≤ L.ph then ((s.answ k).sent (zt L.h), [.sync ((s.answ k).marks.headD 0) L.h]) else (s.answ k, [])
 | .synced => (s.joined, if L.ph = 3 then [.up L.com] else [])
 | .acked z => (if s.st = 5 ∧ s.ack < z ∧ z ≤ zt L.h then s.acks z else s, [])
 | .pong => (s, [])
def CR (L : La) (i : Nat) (s : Sv) (u : Um) : La × Ou := (L.set i (A2 L s u).1, (A2 L s u).2.map fun d => (s.id, d))
def B7 (cv : Nat → Cv) (i : Nat) (c : Cv) : Nat → Cv := fun j => if j = i then c else cv j
theorem XO (i j : Nat) (l : List Dn) : Dz j (l.map fun d => ((i : Int) + 1, d)) = if j = i then l else [] := by
 unfold Dz
 split
 ·rename_i e
  subst e
  rw [filter_eq_self.2 (by intro x hx; obtain ⟨d, -, rfl⟩ := mem_map.1 hx; simp)]
  rw [map_map]
  exact map_id l
 ·rename_i e
  rw [map_eq_nil_iff, filter_eq_nil_iff]
  intro x hx
  obtain ⟨d, -, rfl⟩ := mem_map.1 hx
  simp only [decide_eq_true_eq]
  omega
theorem WZ (L : La) (s : Sv) (u : Um) : (A2 L s u).1.id = s.id := by
 cases u <;> unfold A2 <;> dsimp only <;> repeat' split
 all_goals rfl
theorem BJ.one {L : La} {cv : Nat → Cv} (g : BJ L cv) {i : Nat} (hi : i < L.sv.length) {s : Sv} {c : Cv} {l : List Dn} (hid : s.id = (i : Int) + 1) (hc : Conv L.ph L.h L.com s (c.down l)) : BJ (L.set i s) (down (B7 cv i c) (l.map fun d => ((i : Int) + 1, d))) := by
 refine ⟨fun j hj => ?_, fun j hj => ?_, g.h4, g.com, g.ph⟩
 ·have hj2 : j < L.sv.length := by simpa [La.set] using hj
  show ((L.sv.set i s)[j]'(by simpa using hj2)).id = _
  rw [getElem_set]
  split
  ·rename_i e; subst e; exact hid
  ·exact g.ids j hj2
 ·have hj2 : j < L.sv.length := by simpa [La.set] using hj
  show Conv L.ph L.h L.com ((L.sv.set i s)[j]'(by simpa using hj2)) ((B7 cv i c j).down (Dz j _))
  rw [getElem_set, XO]
  unfold B7
  split
  ·rename_i e; subst e
   rw [if_pos rfl, if_pos rfl]; exact hc
  ·rename_i e
   rw [if_neg (fun e' => e e'.symm), if_neg (fun e' => e e'.symm), Cv.down_nil]
   exact g.conv j hj2
theorem YZ {s : Sv} {z h : Int} (e : s.st = 5) (hz : z ≤ h) : (if s.st = 5 ∧ s.ack < z ∧ z ≤ h then s.acks z else s) = s.acks (max s.ack z) := by
 by_cases q : s.ack < z
 ·rw [if_pos ⟨e, q, hz⟩, show max s.ack z = z by omega]
 ·rw [if_neg (fun g => q g.2.1), show max s.ack z = s.ack by omega]; rfl
theorem US {L : La} {s : Sv} {c : Cv} {u : Um} {U : List Um} (g : Conv L.ph L.h L.com s c) (hU : c.U = u :: U) (hc : 0 ≤ L.com ∧ L.com ≤ zt L.h) (h4 : 4 ≤ L.h) (hp : 0 ≤ L.ph) : Conv L.ph L.h L.com (A2 L s u).1 ((c.rest U).down (A2 L s u).2) := by
 have hlo := g.lo
 cases u with
 | info =>
  unfold A2
  dsimp only
  split
  ·rename_i h0
   have := Td hU (h0 ▸ g)
   rw [Cv.down_nil, h0]; exact this.eps 1
  ·exact (Te hU (by omega) g).eps 1
 | ack b k =>
  unfold A2
  dsimp only
  split
  ·rename_i h2
   rw [Cv.down_nil]; exact Vp hU h2 g
  ·rename_i h2
   have h2 : s.st = 2 := by omega
   obtain ⟨-, -, a1, a2⟩ := PK hU h2 g
   split
   ·rename_i p; exact a2 p h4
   ·rename_i p
    have hp1 : L.ph = 1 := by
     by_cases e : L.ph < 1
     ·have := hlo.2.2.1 e; omega
     ·omega
    rw [Cv.down_nil, hp1]; exact a1 hp1
 | synced => exact (ME hU hc g).2
 | acked z =>
  obtain ⟨a1, a2, a3⟩ := K4 hU g
  unfold A2
  dsimp only
  rw [YZ a1 a2, Cv.down_nil]; exact a3
 | pong => unfold A2; dsimp only; rw [Cv.down_nil]; exact T0 hU g
theorem BJ.hearR {L : La} {cv : Nat → Cv} (g : BJ L cv) {i : Nat} (hi : i < L.sv.length) {u : Um} {U : List Um} (hU : (cv i).U = u :: U) (t : Int) : BJ (CR L i (L.sv[i].hrd t) u).1 (down (B7 cv i ((cv i).rest U)) (CR L i (L.sv[i].hrd t) u).2) := by
 have hc := US ((g.conv i hi).hrd t) hU g.com g.h4 g.ph.1
 have hid : (L.sv[i].hrd t).id = (i : Int) + 1 := g.ids i hi
 have := g.one hi (s := (A2 L (L.sv[i].hrd t) u).1) (c := (cv i).rest U) (l := (A2 L (L.sv[i].hrd t) u).2) ((WZ _ _ _).trans hid) hc
 unfold CR
 rw [hid]; exact this
def CW (κ : List Int → Int) (L : La) (i : Nat) (s : Sv) (u : Um) : La × Ou := ((Dl κ (CR L i s u).1).1, (CR L i s u).2 ++ (Dl κ (CR L i s u).1).2)
theorem La.set_len (L : La) (i : Nat) (s : Sv) : (L.set i s).sv.length = L.sv.length := length_set
theorem BJ.hear {κ : List Int → Int} (hκ : ∀ l : List Int, l ≠ [] → κ l ∈ l) {L : La} {cv : Nat → Cv} (g : BJ L cv) {i : Nat} (hi : i < L.sv.length) {u : Um} {U : List Um} (hU : (cv i).U = u :: U) (t : Int) :
  BJ (CW κ L i (L.sv[i].hrd t) u).1 (down (B7 cv i ((cv i).rest U)) (CW κ L i (L.sv[i].hrd t) u).2) ∧ GA κ (CW κ L i (L.sv[i].hrd t) u).1 := by
 have h1 := g.hearR hi hU t
 refine ⟨?_, Sh κ h1 ?_⟩
 ·unfold CW
  dsimp only
  rw [I8]
  exact h1.go κ hκ
 ·show 1 ≤ (L.set i _).sv.length
  rw [L.set_len]; omega
def KF (L : La) : Ou := JR L.sv 4 (.ping L.com)
theorem BJ.ping {L : La} {cv : Nat → Cv} (g : BJ L cv) : BJ L (down cv (KF L)) := by
 have := g.tell (ph := L.ph) (com := L.com) (h := L.h) (st := 4) (d := .ping L.com) (fun s c hc => S7 g.com.2 hc) g.h4 g.com g.ph
 exact this
def Cz (L : La) : La × Ou := (⟨L.ph, L.com, L.h + 1, L.sv⟩, JR L.sv 4 (.prop L.h))
theorem BJ.prop1 {L : La} {cv : Nat → Cv} (g : BJ L cv) (h3 : L.ph = 3) : BJ (Cz L).1 (down cv (Cz L).2) := by
 have hz : zt L.h ≤ zt (L.h + 1) := KD (Nat.le_succ _)
 have := g.com
 exact g.tell (ph := L.ph) (com := L.com) (h := L.h + 1) (st := 4) (d := .prop L.h) (fun s c hc => by rw [h3] at hc ⊢; exact Tv hc) (by have := g.h4; omega) ⟨by omega, by omega⟩ g.ph
def KI (κ : List Int → Int) (L : La) : La × Ou := ((Dl κ (Cz L).1).1, (Cz L).2 ++ (Dl κ (Cz L).1).2)
theorem BJ.prop {κ : List Int → Int} (hκ : ∀ l : List Int, l ≠ [] → κ l ∈ l) {L : La} {cv : Nat → Cv} (g : BJ L cv) (h3 : L.ph = 3) (hn : 1 ≤ L.sv.length) : BJ (KI κ L).1 (down cv (KI κ L).2) ∧ GA κ (KI κ L).1 := by
 have h1 := g.prop1 h3
 refine ⟨?_, Sh κ h1 hn⟩
 unfold KI
 dsimp only
 rw [I8]
 exact h1.go κ hκ
/-! ### What followers do -/
theorem BJ.chg {L : La} {cv : Nat → Cv} (g : BJ L cv) {i : Nat} {c : Cv} (hc : ∀ hi : i < L.sv.length, Conv L.ph L.h L.com L.sv[i] c) : BJ L (B7 cv i c) := by
 refine ⟨g.ids, fun j hj => ?_, g.h4, g.com, g.ph⟩
 unfold B7
 split
 ·rename_i e; subst e; exact hc hj
 ·exact g.conv j hj
theorem BJ.fhear {L : La} {cv : Nat → Cv} (g : BJ L cv) {i : Nat} (hi : i < L.sv.length) {d : Dn} {D : List Dn} (hD : (cv i).D = d :: D) : ∃ F1 o, Bz (cv i).F d = some (F1, o) ∧ BJ L (B7 cv i ⟨F1, (cv i).U ++ o, D⟩) := by
 obtain ⟨F1, o, h1, h2⟩ := UF hD (g.conv i hi)
 exact ⟨F1, o, h1, g.chg fun _ => h2⟩
theorem BJ.again {L : La} {cv : Nat → Cv} (g : BJ L cv) {i : Nat} (h0 : (cv i).F.ph = 0) : BJ L (B7 cv i ⟨(cv i).F, (cv i).U ++ [.info], (cv i).D⟩) := g.chg fun hi => RB h0 (g.conv i hi)
/-! ### In the end all is heard: ranks fall -/
def W4 : Dn → Nat
 | .ep => 8 | .sync _ _ => 6 | .prop _ => 4 | .up _ => 1 | .com _ => 1 | .ping _ => 1
def YF : Um → Nat
 | .info => 9 | .ack _ _ => 7 | .synced => 5 | .acked _ => 3 | .pong => 0
theorem ZA {F F1 : Jc} {d : Dn} {o : List Um} (h : Bz F d = some (F1, o)) : ∀ u ∈ o, YF u < W4 d := by
 cases d <;> unfold Bz at h <;> dsimp only at h <;> split at h <;> cases h <;> intro u hu
 all_goals first
  | (cases hu; done)
  | (rw [mem_singleton] at hu; rw [hu]; simp [YF, W4])
theorem Si {sv : List Sv} {st : Int} {d : Dn} : ∀ x ∈ JR sv st d, x.2 = d := fun x hx => by
 obtain ⟨s, -, rfl⟩ := mem_map.1 hx
 rfl
def KU (n : Nat) (o : Ou) : Prop := ∀ x ∈ o, W4 x.2 < n
theorem KU.nil (n : Nat) : KU n [] := fun _ h => by cases h
theorem KU.app {n : Nat} {o p : Ou} (h : KU n o) (g : KU n p) : KU n (o ++ p) := fun x hx => by
 rcases mem_append.1 hx with e | e
 ·exact h x e
 ·exact g x e
theorem KU.mono {n m : Nat} {o : Ou} (h : KU n o) (hm : n ≤ m) : KU m o := fun x hx => Nat.lt_of_lt_of_le (h x hx) hm
theorem Xf (κ : List Int → Int) {L : La} {cv : Nat → Cv} (g : BJ L cv) (hn : 1 ≤ L.sv.length) (n : Nat) (h0 : L.ph = 0 → Cq L 1 = true → 9 ≤ n) (h1 : L.ph = 1 → Cq L 3 = true → 7 ≤ n) (h2 : L.ph = 2 → Cq L 5 = true → 2 ≤ n) (h3 : L.ph = 3 → L.com < κ (BD L) → 2 ≤ n) : KU n (Dl κ L).2 := by
 have hp := g.ph
 have hst := g.st
 have hcom : ∀ (M : La), (2 ≤ n ∨ κ (BD M) ≤ M.com) → KU n (CN κ M).2 := fun M h => by
  unfold CN
  split
  ·intro x hx
   rw [Si x hx]
   show 1 < n
   omega
  ·exact KU.nil n
 by_cases p0 : L.ph = 0
 ·by_cases q0 : Cq L 1 = true
  ·have e1 : CL L = Fh L := by unfold CL Aw; rw [p0, q0]; simp
   have hq : Cq (Fh L).1 3 = false := HS (by show 1 ≤ (L.sv.map _).length; rw [length_map]; exact hn) (fun s hs => by
    have hs : s ∈ L.sv.map _ := hs
    obtain ⟨t, ht, rfl⟩ := mem_map.1 hs
    have := (hst t ht).2.2.1 (by omega)
    split
    ·show (2 : Int) ≠ 3; decide
    ·omega)
   have e2 : DD (Fh L) = Fh L := by unfold DD Aw; rw [hq]; simp
   have e3 : Do (Fh L) = Fh L := by unfold Do Aw; rw [if_neg (by show ¬ (decide ((1 : Int) = 2) && _) = true; simp)]
   have e4 : Dl κ L = Fh L := by unfold Dl; rw [e1, e2, e3]; unfold Gx Aw; rw [if_neg (by show ¬ decide ((1 : Int) = 3) = true; decide)]
   rw [e4]
   intro x hx
   obtain ⟨s, -, rfl⟩ := mem_map.1 hx
   have := h0 p0 q0
   show 8 < n
   omega
  ·have hs : GA κ L := ⟨fun _ => by simpa using q0, fun e => by omega, fun e => by omega, fun e => by omega⟩
   rw [hs.go]; exact KU.nil n
 by_cases p1 : L.ph = 1
 ·by_cases q0 : Cq L 3 = true
  ·have e1 : CL L = (L, []) := by unfold CL Aw; rw [if_neg (by simp [p1])]
   have e2 : DD (L, []) = Cc L := by unfold DD Aw; rw [if_pos (by simp [p1, q0])]; simp
   have hq : Cq (Cc L).1 5 = false := HS (by show 1 ≤ (L.sv.map _).length; rw [length_map]; exact hn) (fun s hs => by
    have hs : s ∈ L.sv.map _ := hs
    obtain ⟨t, ht, rfl⟩ := mem_map.1 hs
    have := (hst t ht).2.2.2.1 (by omega)
    split
    ·show (4 : Int) ≠ 5; decide
    ·omega)
   have e3 : Do (Cc L) = Cc L := by unfold Do Aw; rw [hq]; simp
   have e4 : Dl κ L = Cc L := by unfold Dl; rw [e1, e2, e3]; unfold Gx Aw; rw [if_neg (by show ¬ decide ((2 : Int) = 3) = true; decide)]
   rw [e4]
   intro x hx
   obtain ⟨s, -, rfl⟩ := mem_map.1 hx
   have := h1 p1 q0
   show 6 < n
   omega
  ·have hs : GA κ L := ⟨fun e => by omega, fun _ => by simpa using q0, fun e => by omega, fun e => by omega⟩
   rw [hs.go]; exact KU.nil n
 have e1 : CL L = (L, []) := by unfold CL Aw; rw [if_neg (by simp [p0])]
 have e2 : DD (L, []) = (L, []) := by unfold DD Aw; rw [if_neg (by simp [p1])]
 by_cases p2 : L.ph = 2
 ·by_cases q0 : Cq L 5 = true
  ·have h2 := h2 p2 q0
   have e3 : Do (L, []) = Sw L := by unfold Do Aw; rw [if_pos (by simp [p2, q0])]; simp
   have e4 : (Dl κ L).2 = (Sw L).2 ++ (CN κ (Sw L).1).2 := by unfold Dl; rw [e1, e2, e3]; unfold Gx Aw; rw [if_pos (by show decide ((3 : Int) = 3) = true; decide)]
   rw [e4]
   refine KU.app (fun x hx => ?_) (hcom _ (.inl h2))
   rw [Si x hx]
   show 1 < n
   omega
  ·have hs : GA κ L := ⟨fun e => by omega, fun e => by omega, fun _ => by simpa using q0, fun e => by omega⟩
   rw [hs.go]; exact KU.nil n
 ·have p3 : L.ph = 3 := by omega
  have e3 : Do (L, []) = (L, []) := by unfold Do Aw; rw [if_neg (by simp [p2])]
  have e4 : (Dl κ L).2 = (CN κ L).2 := by unfold Dl; rw [e1, e2, e3]; unfold Gx Aw; rw [if_pos (by simp [p3])]; simp
  rw [e4]
  by_cases q : L.com < κ (BD L)
  ·exact hcom L (.inl (h3 p3 q))
  ·exact hcom L (.inr (by omega))
def Sv.key (s : Sv) : Int × (Bool × Int) := (s.st, (s.cnt, s.ack))
theorem X7 {sv sv' : List Sv} (h : sv.map Sv.key = sv'.map Sv.key) (st : Int) : Eu sv st = Eu sv' st := by
 have e : ∀ l : List Sv, Eu l st = ((l.map Sv.key).filter fun x => decide (x.1 = st) && (!decide (st = 3) || x.2.1)).length := fun l => by
  unfold Eu
  rw [filter_map, length_map]; rfl
 rw [e, e, h]
theorem Uz {sv sv' : List Sv} (h : sv.map Sv.key = sv'.map Sv.key) : sv.map (·.ack) = sv'.map (·.ack) := by
 have e : ∀ l : List Sv, l.map (·.ack) = (l.map Sv.key).map fun x => x.2.2 := fun l => by rw [map_map]; rfl
 rw [e, e, h]
theorem GA.key {κ : List Int → Int} {L : La} (h : GA κ L) {sv : List Sv} (e : sv.map Sv.key = L.sv.map Sv.key) : GA κ ⟨L.ph, L.com, L.h, sv⟩ := by
 have hl : sv.length = L.sv.length := by have := congrArg List.length e; simpa using this
 have hq : ∀ st, Cq ⟨L.ph, L.com, L.h, sv⟩ st = Cq L st := fun st => by unfold Cq; dsimp only; rw [hl, X7 e]
 have ha : BD ⟨L.ph, L.com, L.h, sv⟩ = BD L := by unfold BD; dsimp only; rw [Uz e]
 exact ⟨fun p => by rw [hq]; exact h.s0 p, fun p => by rw [hq]; exact h.s1 p, fun p => by rw [hq]; exact h.s2 p, fun p => by rw [ha]; exact h.s3 p⟩
theorem XZ {sv : List Sv} {i : Nat} (hi : i < sv.length) {s : Sv} (h : s.key = sv[i].key) : (sv.set i s).map Sv.key = sv.map Sv.key := by
 rw [map_set, h]
 have : sv[i].key = (sv.map Sv.key)[i]'(by rw [length_map]; exact hi) := by rw [getElem_map]
 rw [this, set_getElem_self]
theorem KU.to {n : Nat} {l : List Dn} {j : Int} (h : ∀ d ∈ l, W4 d < n) : KU n (l.map fun d => (j, d)) := fun x hx => by
 obtain ⟨d, hd, rfl⟩ := mem_map.1 hx
 exact h d hd
theorem Tk {κ : List Int → Int} {L : La} {cv : Nat → Cv} (g : BJ L cv) (hS : GA κ L) {i : Nat} (hi : i < L.sv.length) {u : Um} {U : List Um} (hU : (cv i).U = u :: U) (t : Int) : KU (YF u) (CW κ L i (L.sv[i].hrd t) u).2 := by
 have h1 := g.hearR hi hU t
 have hn : 1 ≤ (CR L i (L.sv[i].hrd t) u).1.sv.length := by show 1 ≤ (L.set i _).sv.length; rw [L.set_len]; omega
 have hc := g.conv i hi
 have hlo := hc.lo
 have hgo : ∀ n, (L.ph = 0 → 9 ≤ n) → (L.ph = 1 → 7 ≤ n) → (2 ≤ L.ph → 2 ≤ n) → KU n (Dl κ (CR L i (L.sv[i].hrd t) u).1).2 := fun n a b c => Xf κ h1 hn n (fun e _ => a e) (fun e _ => b e) (fun e _ => c (Int.le_of_eq (Eq.symm e))) (fun e _ => c (by have e : L.ph = 3 := e; omega))
 have hsame : (A2 L (L.sv[i].hrd t) u).1 = L.sv[i].hrd t → KU 0 (Dl κ (CR L i (L.sv[i].hrd t) u).1).2 := fun e => by
  have hk : GA κ (CR L i (L.sv[i].hrd t) u).1 := by
   show GA κ ⟨L.ph, L.com, L.h, L.sv.set i (A2 L (L.sv[i].hrd t) u).1⟩
   rw [e]
   exact hS.key (XZ hi rfl)
  rw [hk.go]; exact KU.nil 0
 unfold CW
 refine KU.app ?_ ?_
 ·unfold CR
  refine KU.to fun d hd => ?_
  cases u with
  | info =>
   unfold A2 at hd
   dsimp only at hd
   split at hd
   ·cases hd
   ·rw [mem_singleton] at hd; subst hd; simp [YF, W4]
  | ack b k =>
   unfold A2 at hd
   dsimp only at hd
   split at hd
   ·cases hd
   ·split at hd
    ·rw [mem_singleton] at hd; subst hd; simp [YF, W4]
    ·cases hd
  | synced =>
   unfold A2 at hd
   dsimp only at hd
   split at hd
   ·rw [mem_singleton] at hd; subst hd; simp [YF, W4]
   ·cases hd
  | acked z => cases hd
  | pong => cases hd
 ·cases u with
  | info => exact hgo 9 (fun _ => Nat.le_refl _) (fun _ => by decide) (fun _ => by decide)
  | ack b k =>
   by_cases e : L.sv[i].st = 2
   ·refine hgo 7 (fun e0 => ?_) (fun _ => Nat.le_refl _) (fun _ => by decide)
    have := hlo.2.2.1 (by omega)
    omega
   ·refine (hsame ?_).mono (Nat.zero_le _)
    unfold A2
    dsimp only
    rw [if_pos (show (L.sv[i].hrd t).st ≠ 2 from e)]
  | synced =>
   obtain ⟨e, -⟩ := ME hU g.com hc
   refine hgo 5 (fun e0 => ?_) (fun e0 => ?_) (fun _ => by decide)
   ·have := hlo.2.2.2.1 (by omega); omega
   ·have := hlo.2.2.2.1 (by omega); omega
  | acked z =>
   obtain ⟨e, -⟩ := K4 hU hc
   refine hgo 3 (fun e0 => ?_) (fun e0 => ?_) (fun _ => by decide)
   ·have := hlo.2.2.2.1 (by omega); omega
   ·have := hlo.2.2.2.1 (by omega); omega
  | pong => exact hsame rfl
/-! ### Bounds of ranks, line by line -/
structure Np (cv : Nat → Cv) (bU bD : Nat → Nat) : Prop where
 U : ∀ i, ∀ u ∈ (cv i).U, YF u < bU i
 D : ∀ i, ∀ d ∈ (cv i).D, W4 d < bD i
theorem Np.mono {cv : Nat → Cv} {bU bD bU' bD' : Nat → Nat} (h : Np cv bU bD) (hU : ∀ i, bU i ≤ bU' i) (hD : ∀ i, bD i ≤ bD' i) : Np cv bU' bD' :=
 ⟨fun i u hu => Nat.lt_of_lt_of_le (h.U i u hu) (hU i), fun i d hd => Nat.lt_of_lt_of_le (h.D i d hd) (hD i)⟩
theorem Np.dn {cv : Nat → Cv} {bU bD : Nat → Nat} (h : Np cv bU bD) {n : Nat} {o : Ou} (ho : KU n o) (hn : ∀ i, n ≤ bD i) : Np (down cv o) bU bD := by
 refine ⟨h.U, fun i d hd => ?_⟩
 rcases mem_append.1 (show d ∈ (cv i).D ++ Dz i o from hd) with e | e
 ·exact h.D i d e
 ·unfold Dz at e
  obtain ⟨x, hx, rfl⟩ := mem_map.1 e
  exact Nat.lt_of_lt_of_le (ho x (mem_filter.1 hx).1) (hn i)
theorem Np.rest {cv : Nat → Cv} {bU bD : Nat → Nat} (h : Np cv bU bD) {i : Nat} {u : Um} {U : List Um} (hU : (cv i).U = u :: U) : Np (B7 cv i ((cv i).rest U)) bU bD := by
 refine ⟨fun j v hv => ?_, fun j d hd => ?_⟩
 ·unfold B7 at hv
  split at hv
  ·rename_i e; subst e
   exact h.U j v (by rw [hU]; exact mem_cons_of_mem _ hv)
  ·exact h.U j v hv
 ·unfold B7 at hd
  split at hd
  ·rename_i e; subst e; exact h.D j d hd
  ·exact h.D j d hd
theorem Np.hear {κ : List Int → Int} {L : La} {cv : Nat → Cv} (g : BJ L cv) (hS : GA κ L) {i : Nat} (hi : i < L.sv.length) {u : Um} {U : List Um} (hU : (cv i).U = u :: U) (t : Int) {bU bD : Nat → Nat} (h : Np cv bU bD) {R : Nat} (hR : YF u ≤ R) (hD : ∀ j, R ≤ bD j) : Np (down (B7 cv i ((cv i).rest U)) (CW κ L i (L.sv[i].hrd t) u).2) bU bD :=
 (h.rest hU).dn (Tk g hS hi hU t) (fun j => Nat.le_trans hR (hD j))
theorem Np.fhear {cv : Nat → Cv} {bU bD : Nat → Nat} (h : Np cv bU bD) {i : Nat} {d : Dn} {D : List Dn} (hD : (cv i).D = d :: D) {F1 : Jc} {o : List Um} (ho : Bz (cv i).F d = some (F1, o)) {R : Nat} (hR : W4 d ≤ R) (hb : ∀ j, R ≤ bU j) : Np (B7 cv i ⟨F1, (cv i).U ++ o, D⟩) bU bD := by
 have hr := ZA ho
 refine ⟨fun j v hv => ?_, fun j e he => ?_⟩
 ·unfold B7 at hv
  split at hv
  ·rename_i e; subst e
   rcases mem_append.1 (show v ∈ (cv j).U ++ o from hv) with g | g
   ·exact h.U j v g
   ·have := hr v g; have := hb j; omega
  ·exact h.U j v hv
 ·unfold B7 at he
  split at he
  ·rename_i e; subst e
   exact h.D j _ (by rw [hD]; exact mem_cons_of_mem _ he)
  ·exact h.D j _ he
theorem Np.all (cv : Nat → Cv) : Np cv (fun _ => 10) (fun _ => 10) :=
 ⟨fun i u _ => by cases u <;> simp [YF], fun i d _ => by cases d <;> simp [W4]⟩
/-! ### When all is heard -/
theorem N8 {L : La} {st : Int} (hn : 1 ≤ L.sv.length) (h : ∀ s ∈ L.sv, s.st = st ∧ (st = 3 → s.cnt = true)) : Cq L st = true := by
 have e : Eu L.sv st = L.sv.length := by
  unfold Eu
  rw [filter_eq_self.2]
  intro s hs
  obtain ⟨h1, h2⟩ := h s hs
  by_cases h3 : st = 3
  ·simp [h1, h2 h3]
  ·simp [h1, h3]
 unfold Cq
 rw [e]
 simp only [decide_eq_true_eq]
 omega
theorem Ty {κ : List Int → Int} (hκ : ∀ l : List Int, l ≠ [] → κ l ∈ l) {L : La} {cv : Nat → Cv} (g : BJ L cv) (hS : GA κ L) (hn : 1 ≤ L.sv.length) (h0 : ∀ i, i < L.sv.length → (cv i).U = [] ∧ (cv i).D = []) :
  L.ph = 3 ∧ L.com = zt L.h ∧ ∀ i, i < L.sv.length → (cv i).F.ph = 3 ∧ (cv i).F.k = L.h ∧ (cv i).F.com = L.com := by
 have hp := g.ph
 have key : ∀ i (hi : i < L.sv.length), (L.sv[i].st = 1 ∧ L.ph = 0) ∨ (L.sv[i].st = 3 ∧ L.ph = 1 ∧ L.sv[i].cnt = true) ∨ (L.sv[i].st = 5 ∧ 2 ≤ L.ph ∧ (cv i).F.ph = (if L.ph = 3 then 3 else 2) ∧ (cv i).F.k = L.h ∧ L.sv[i].ack = zt L.h ∧ (L.ph = 3 → (cv i).F.com = L.com)) := by
  intro i hi
  obtain ⟨eU, eD⟩ := h0 i hi
  obtain ⟨F', V, hr, -, -, q⟩ := (g.conv i hi).run
  rw [eD] at hr
  obtain ⟨rfl, rfl⟩ := hr.nil_inv
  rcases q with ⟨-, -, -, -, q⟩ | ⟨q1, q2, -⟩ | q
  ·exact absurd eU q
  ·exact .inl ⟨q1, q2⟩
  ·unfold DT at q
   rw [eU] at q
   rcases q with ⟨-, -, -, I, N, -, -, e⟩ | ⟨q1, q2, -, -, q3, -⟩ | ⟨-, -, -, -, N, A, e, -⟩ | ⟨q1, q2, q3, q4, -, q5, q6⟩
   ·have := congrArg List.length e; simp at this
   ·exact .inr (.inl ⟨q1, q2, q3⟩)
   ·have := congrArg List.length e; simp at this
   ·exact .inr (.inr ⟨q1, q2, q3, q4, q5, q6⟩)
 have keyS : ∀ s ∈ L.sv, (s.st = 1 ∧ L.ph = 0) ∨ (s.st = 3 ∧ L.ph = 1 ∧ s.cnt = true) ∨ (s.st = 5 ∧ 2 ≤ L.ph ∧ s.ack = zt L.h) := fun s hs => by
  obtain ⟨i, hi, rfl⟩ := mem_iff_getElem.1 hs
  rcases key i hi with q | q | q
  ·exact .inl q
  ·exact .inr (.inl q)
  ·exact .inr (.inr ⟨q.1, q.2.1, q.2.2.2.2.1⟩)
 have n0 : L.ph ≠ 0 := fun e => by
  have := N8 (L := L) (st := 1) hn (fun s hs => ⟨by rcases keyS s hs with q | q | q; exact q.1; omega; omega, fun e => by omega⟩)
  rw [hS.s0 e] at this; cases this
 have n1 : L.ph ≠ 1 := fun e => by
  have := N8 (L := L) (st := 3) hn (fun s hs => ⟨by rcases keyS s hs with q | q | q; omega; exact q.1; omega, fun _ => by rcases keyS s hs with q | q | q; omega; exact q.2.2; omega⟩)
  rw [hS.s1 e] at this; cases this
 have n2 : L.ph ≠ 2 := fun e => by
  have := N8 (L := L) (st := 5) hn (fun s hs => ⟨by rcases keyS s hs with q | q | q; omega; omega; exact q.1, fun e => by omega⟩)
  rw [hS.s2 e] at this; cases this
 have p3 : L.ph = 3 := by omega
 have hall : ∀ z ∈ BD L, z = zt L.h := fun z hz => by
  rcases mem_cons.1 hz with rfl | hz
  ·rfl
  ·obtain ⟨s, hs, rfl⟩ := mem_map.1 hz
   rcases keyS s hs with q | q | q
   ·omega
   ·omega
   ·exact q.2.2
 have hcom : L.com = zt L.h := by
  have h1 := hS.s3 p3
  rw [hall _ (hκ (BD L) (by unfold BD; simp))] at h1
  have := g.com
  omega
 refine ⟨p3, hcom, fun i hi => ?_⟩
 rcases key i hi with q | q | q
 ·omega
 ·omega
 ·obtain ⟨-, -, q3, q4, -, q6⟩ := q
  rw [if_pos p3] at q3
  exact ⟨q3, q4, q6 p3⟩
section code
variable {P : Program} {W : World} {n : Nat} {ds : List Deferred} {E : By} {L : List HP} {Q : Exit → Act → World → Prop} {next : Act → World → Prop}
theorem G.seq {x y : Code} (h : G W n ds E L (x.wp P (Exit.then (y.wp P Q) Q))) : G W n ds E L ((Code.seq x y).wp P Q) :=
 fun a w he hk hs => wp_seq (h a w he hk hs)
theorem G.region {id : Nat} {l : List Oper} (h : G W n ds E L (wpList P l.toArray Q l)) : G W n ds E L ((Code.region id l.toArray false).wp P Q) :=
 fun a w he hk hs => wp_region_lit (h a w he hk hs)
theorem G.block {id : Nat} {c : Code} (h : G W n ds E L (c.wp P (Exit.inBlock id Q))) : G W n ds E L ((Code.block id c).wp P Q) :=
 fun a w he hk hs => wp_block (h a w he hk hs)
theorem G.ret (h : G W n ds E L (Q .ret)) : G W n ds E L (Code.ret.wp P Q) := fun a w he hk hs => wp_ret (h a w he hk hs)
theorem G.skip (h : G W n ds E L (Q .normal)) : G W n ds E L (Code.skip.wp P Q) := fun a w he hk hs => wp_skip (h a w he hk hs)
theorem G.exit {id : Nat} (h : G W n ds E L (Q (.exit id))) : G W n ds E L ((Code.exit id).wp P Q) := fun a w he hk hs => wp_exit (h a w he hk hs)
theorem G.condT {c : Operand} {x y : Code} (hc : ev E c = some (.bool true)) (h : G W n ds E L (x.wp P Q)) : G W n ds E L ((Code.cond c x y).wp P Q) :=
 fun a w he hk hs => wp_cond_true (he.agrees _ _ hc) (h a w he hk hs)
theorem G.condF {c : Operand} {x y : Code} (hc : ev E c = some (.bool false)) (h : G W n ds E L (y.wp P Q)) : G W n ds E L ((Code.cond c x y).wp P Q) :=
 fun a w he hk hs => wp_cond_false (he.agrees _ _ hc) (h a w he hk hs)
theorem G.condB {c : Operand} {x y : Code} {t : Bool} (hc : ev E c = some (.bool t)) (ht : t = true → G W n ds E L (x.wp P Q)) (hf : t = false → G W n ds E L (y.wp P Q)) :
  G W n ds E L ((Code.cond c x y).wp P Q) :=
 fun a w he hk hs => wp_cond_split (he.agrees _ _ hc) (fun e => ht e a w he hk hs) (fun e => hf e a w he hk hs)
theorem G.condD {c : Operand} {x y : Code} {φ : Prop} [Decidable φ] (hc : ev E c = some (.bool (decide φ))) (ht : φ → G W n ds E L (x.wp P Q)) (hf : ¬ φ → G W n ds E L (y.wp P Q)) :
  G W n ds E L ((Code.cond c x y).wp P Q) :=
 G.condB hc (fun e => ht (of_decide_eq_true e)) (fun e => hf (of_decide_eq_false e))
theorem G.condN {c : Operand} {x y : Code} {φ : Prop} [Decidable φ] (hc : ev E c = some (.bool (!decide φ))) (ht : ¬ φ → G W n ds E L (x.wp P Q)) (hf : φ → G W n ds E L (y.wp P Q)) :
  G W n ds E L ((Code.cond c x y).wp P Q) :=
 G.condB hc (fun e => ht (by simpa using e)) (fun e => hf (by simpa using e))
theorem G.nil {ops : Array Oper} (h : G W n ds E L (Q .normal)) : G W n ds E L (wpList P ops Q []) := h
theorem G.then_n (h : G W n ds E L next) : G W n ds E L (Exit.then next Q .normal) := h
theorem G.then_r (h : G W n ds E L (Q .ret)) : G W n ds E L (Exit.then next Q .ret) := h
theorem G.then_e {id : Nat} (h : G W n ds E L (Q (.exit id))) : G W n ds E L (Exit.then next Q (.exit id)) := h
theorem G.blk_n {id : Nat} (h : G W n ds E L (Q .normal)) : G W n ds E L (Exit.inBlock id Q .normal) := h
theorem G.blk_r {id : Nat} (h : G W n ds E L (Q .ret)) : G W n ds E L (Exit.inBlock id Q .ret) := h
theorem G.blk_e {id : Nat} (h : G W n ds E L (Q .normal)) : G W n ds E L (Exit.inBlock id Q (.exit id)) :=
 fun a w he hk hs => by simp only [Exit.inBlock, if_true]; exact h a w he hk hs
theorem G.blk_o {id id' : Nat} (hne : Nat.beq id' id = false) (h : G W n ds E L (Q (.exit id'))) : G W n ds E L (Exit.inBlock id Q (.exit id')) :=
 fun a w he hk hs => by
  have : id' ≠ id := fun e => by subst e; simp at hne
  simp only [Exit.inBlock, if_neg this]; exact h a w he hk hs
theorem G.perm {X : Act → World → Prop} {L' : List HP} (hL : L.Perm L') (h : G W n ds E L' X) : G W n ds E L X :=
 fun a w he hk hs => h a w he hk (hs.perm hL)
theorem G.focus {X : Act → World → Prop} {p : HP} {R : List HP} (hL : BT p L R) (h : G W n ds E (p :: R) X) : G W n ds E L X :=
 fun a w he hk hs => h a w he hk (hs.pick hL)
theorem G.unfold {X : Act → World → Prop} {p : HP} {q : List HP} (hi : ∀ hp, p hp → CG q hp) (h : G W n ds E (q ++ L) X) : G W n ds E (p :: L) X :=
 fun a w he hk hs => h a w he hk (FQ (BS hi hs))
theorem G.open {X : Act → World → Prop} {p : HP} {α : Sort _} {φ : α → Prop} {q : α → List HP} (hi : ∀ hp, p hp → ∃ x, φ x ∧ CG (q x) hp)
  (h : ∀ x, φ x → G W n ds E (q x ++ L) X) : G W n ds E (p :: L) X :=
 fun a w he hk hs => by
  have hs' : St ((fun hp => ∃ x, φ x ∧ CG (q x) hp) :: L) w := BS hi hs
  obtain ⟨x, h1, h2, hd, a1, a2, ⟨hx, hp⟩, hL⟩ := Jv hs'
  exact h x hx a w he hk (P1 hd a1 a2 hp hL)
theorem G.fold {X : Act → World → Prop} {p : HP} {q R : List HP} (hL : Am q L R) (hi : ∀ hp, CG q hp → p hp) (h : G W n ds E (p :: R) X) : G W n ds E L X :=
 fun a w he hk hs => h a w he hk (BS hi (Ee (hs.picks hL)))
theorem G.add {X : Act → World → Prop} {p : HP} (hp : ∀ h, p h) (h : G W n ds E (p :: L) X) : G W n ds E L X :=
 fun a w he hk hs => h a w he hk ⟨fun _ => none, _, fun _ => .inl rfl, fun _ _ e => (by cases e), fun _ _ e => e, hp _, hs⟩
theorem Ef.cons {a : Act} {t : Nat} {v : Value} (h : Ef n ds E a) (hl : look E t = some v) : Ef n ds ((t, v) :: E) a :=
 ⟨h.size, h.defers, fun s u hu => by
  simp only [look] at hu
  cases e : Nat.beq t s with
  | true =>
   rw [e] at hu
   have := Nat.eq_of_beq_eq_true e
   subst this
   simp at hu; subst hu; exact h.slots _ _ hl
  | false => rw [e] at hu; exact h.slots _ _ hu⟩
theorem G.bool {X : Act → World → Prop} {t : Nat} {b : Bool} (hl : look E t = some (.bool b)) (hT : b = true → G W n ds ((t, .bool true) :: E) L X)
  (hF : b = false → G W n ds ((t, .bool false) :: E) L X) : G W n ds E L X := by
 intro a w he hk hs
 cases b
 ·exact hF rfl a w (he.cons hl) hk hs
 ·exact hT rfl a w (he.cons hl) hk hs
theorem G.dec {X : Act → World → Prop} {t : Nat} {φ : Prop} [Decidable φ] (hl : look E t = some (.bool (decide φ))) (hT : φ → G W n ds ((t, .bool true) :: E) L X)
  (hF : ¬ φ → G W n ds ((t, .bool false) :: E) L X) : G W n ds E L X :=
 G.bool hl (fun e => hT (of_decide_eq_true e)) (fun e => hF (of_decide_eq_false e))
theorem G.ndec {X : Act → World → Prop} {t : Nat} {φ : Prop} [Decidable φ] (hl : look E t = some (.bool (!decide φ))) (hT : ¬ φ → G W n ds ((t, .bool true) :: E) L X)
  (hF : φ → G W n ds ((t, .bool false) :: E) L X) : G W n ds E L X :=
 G.bool hl (fun e => hT (by simpa using e)) (fun e => hF (by simpa using e))
theorem G.kB {X : Act → World → Prop} {t : Nat} {b c : Bool} (hl : look E t = some (.bool b)) (hb : b = c) (h : G W n ds ((t, .bool c) :: E) L X) : G W n ds E L X :=
 fun a w he hk hs => by subst hb; exact h a w (he.cons hl) hk hs
theorem G.kDT {X : Act → World → Prop} {t : Nat} {φ : Prop} [Decidable φ] (hl : look E t = some (.bool (decide φ))) (hb : φ) (h : G W n ds ((t, .bool true) :: E) L X) : G W n ds E L X := G.kB hl (decide_eq_true hb) h
theorem G.kDF {X : Act → World → Prop} {t : Nat} {φ : Prop} [Decidable φ] (hl : look E t = some (.bool (decide φ))) (hb : ¬ φ) (h : G W n ds ((t, .bool false) :: E) L X) : G W n ds E L X := G.kB hl (decide_eq_false hb) h
theorem G.kNT {X : Act → World → Prop} {t : Nat} {φ : Prop} [Decidable φ] (hl : look E t = some (.bool (!decide φ))) (hb : ¬ φ) (h : G W n ds ((t, .bool true) :: E) L X) : G W n ds E L X := G.kB hl (by simpa using hb) h
theorem G.kNF {X : Act → World → Prop} {t : Nat} {φ : Prop} [Decidable φ] (hl : look E t = some (.bool (!decide φ))) (hb : φ) (h : G W n ds ((t, .bool false) :: E) L X) : G W n ds E L X := G.kB hl (by simpa using hb) h
inductive H0 : List HP → List HP → Prop
 | here {F : List HP} : H0 F F
 | there {q : HP} {F R : List HP} : H0 F R → H0 F (q :: R)
theorem H0.st {F R L : List HP} (h : H0 F R) : ∀ {hp : Hp}, CG (L ++ R) hp → CG (L ++ F) hp := by
 induction h with
 | here => exact id
 | @there q F R _ ih =>
  intro hp hs
  refine ih ?_
  have : (L ++ q :: R).Perm (q :: (L ++ R)) := perm_middle
  exact Es (C8 this hs)
def Lf {ι : Type} (n : Nat) (ds : List Deferred) (W : World) (Ei : ι → By) (Li : ι → List HP) (φ : ι → Prop) (μ : ι → Nat) (F : List HP) (i : ι) : Act → World → Prop :=
 fun a w => ∃ j, φ j ∧ μ j < μ i ∧ Ef n ds (Ei j) a ∧ Az W w ∧ St (Li j ++ F) w
def Sd {ι : Sort _} (n : Nat) (ds : List Deferred) (W : World) (Ei : ι → By) (Li : ι → List HP) (φ : ι → Prop) (F : List HP) : Act → World → Prop :=
 fun a w => ∃ i, φ i ∧ Ef n ds (Ei i) a ∧ Az W w ∧ St (Li i ++ F) w
theorem G.loop {ι : Type} (Ei : ι → By) (Li : ι → List HP) (φ : ι → Prop) (μ : ι → Nat) (i0 : ι) {F : List HP} {c : Code} {R : List HP} (h0 : φ i0) (hE : K6 (Ei i0) E) (hL : Am (Li i0) L R) (hF : H0 F R)
  (round : ∀ i, φ i → G W n ds (Ei i) (Li i ++ F) (c.wp P (Exit.then (Lf n ds W Ei Li φ μ F i) Q))) :
  G W n ds E L ((Code.loop c).wp P Q) := by
 intro a w he hk hs
 refine wp_loop_ghost (fun k a w => ∃ i, φ i ∧ μ i = k ∧ Ef n ds (Ei i) a ∧ Az W w ∧ St (Li i ++ F) w) (μ i0) ⟨i0, h0, rfl, he.sub hE, hk, hF.st (hs.picks hL)⟩ ?_
 rintro k a w ⟨i, hi, rfl, he, hk, hs⟩
 refine Code.wp_mono ?_ (round i hi a w he hk hs)
 intro e a' w' hq
 cases e <;> first | exact hq | skip
 obtain ⟨j, h1, h2, h3, h4, h5⟩ := hq
 exact ⟨μ j, h2, j, h1, rfl, h3, h4, h5⟩
theorem G.round {ι : Type} {Ei : ι → By} {Li : ι → List HP} {φ : ι → Prop} {μ : ι → Nat} {i : ι} {F R : List HP} (j : ι) (hj : φ j) (hm : μ j < μ i) (hE : K6 (Ei j) E) (hL : Am (Li j) L R) (hF : H0 F R) :
  G W n ds E L (Lf n ds W Ei Li φ μ F i) :=
 fun a w he hk hs => ⟨j, hj, hm, he.sub hE, hk, hF.st (hs.picks hL)⟩
theorem G.join {ι : Sort _} (Ei : ι → By) (Li : ι → List HP) (φ : ι → Prop) {F : List HP} {x : Code} {next : Act → World → Prop}
  (h1 : G W n ds E L (x.wp P (Exit.then (Sd n ds W Ei Li φ F) Q))) (h2 : ∀ i, φ i → G W n ds (Ei i) (Li i ++ F) next) : G W n ds E L (x.wp P (Exit.then next Q)) := by
 intro a w he hk hs
 refine Code.wp_mono ?_ (h1 a w he hk hs)
 intro e a' w' hq
 cases e <;> first | exact hq | skip
 obtain ⟨i, q1, q2, q3, q4⟩ := hq
 exact h2 i q1 a' w' q2 q3 q4
theorem G.op {ops : Array Oper} {d : Option Nat} {op : Op} {ty : TypeId} {pos : String} {aft : Array Edge} {rest : List Oper} {pre F : List HP} {K : Value → List HP → Prop}
  (hp : AI P ⟨none, op, ty, "", #[], none⟩ E pre K) (hL : Am pre L F) (hd : CY d n = true)
  (h : ∀ v L', K v L' → G W n ds (F9 d v E) (L' ++ F) (wpList P ops Q rest)) : G W n ds E L (wpList P ops Q (⟨d, op, ty, pos, aft, none⟩ :: rest)) := by
 intro a w he hk hs
 refine wpList_plain rfl fun K' hK' => ?_
 have hr : Du P ⟨d, op, ty, pos, aft, none⟩ a.eval w _ := hp a.eval w F he.agrees (hs.picks hL)
 refine hr.wp fun v w' ⟨L', hv, hs', hk'⟩ => hK' _ _ ?_
 exact h v L' hv _ _ (he.put hd v) (hk.trans hk') hs'
theorem G.q {ops : Array Oper} {d : Nat} {op : Op} {ty : TypeId} {pos : String} {aft : Array Edge} {rest : List Oper} {v : Value}
  (hp : AH P ⟨none, op, ty, "", #[], none⟩ E L v) (hd : Nat.blt d n = true)
  (h : G W n ds ((d, v) :: E) L (wpList P ops Q rest)) : G W n ds E L (wpList P ops Q (⟨some d, op, ty, pos, aft, none⟩ :: rest)) := by
 intro a w he hk hs
 refine wpList_plain rfl fun K' hK' => ?_
 have hr : Du P ⟨some d, op, ty, pos, aft, none⟩ a.eval w fun u w' => u = v ∧ w' = w := by
  have := hp a.eval w he.agrees hs
  unfold Du
  rw [show execOp a.eval ⟨some d, op, ty, pos, aft, none⟩ = execOp a.eval ⟨none, op, ty, "", #[], none⟩ from rfl, this]
  exact ⟨rfl, rfl⟩
 refine hr.wp fun u w' ⟨hu, hw⟩ => hK' _ _ ?_
 subst hu; subst hw
 exact h _ _ (he.put (dst := some d) hd _) hk hs
def DN (ops : Array Oper) (j : Nat) : Option Nat := (ops[j]?).bind (·.dst)
theorem LI {ops : Array Oper} {j t : Nat} {b : Bool} {a : Act} (hj : DN ops j = some t) (he : Ef n ds E a) (hl : look E t = some (.bool b)) : yielded ops a.tmps j = some b := by
 unfold yielded
 have : ((ops[j]?).bind (·.dst)) = some t := hj
 rw [this]
 simp [he.slots t _ hl]
theorem G.gskip {ops : Array Oper} {d : Option Nat} {op : Op} {ty : TypeId} {pos : String} {aft : Array Edge} {rest : List Oper} {j t : Nat} {b c : Bool}
  (hj : DN ops j = some t) (hl : look E t = some (.bool c)) (hbc : (c == b) = false) (hd : CY d n = true)
  (h : G W n ds (F9 d undef E) L (wpList P ops Q rest)) : G W n ds E L (wpList P ops Q (⟨d, op, ty, pos, aft, some (j, b)⟩ :: rest)) := by
 intro a w he hk hs
 unfold wpList
 have hw : Region.wanted ⟨d, op, ty, pos, aft, some (j, b)⟩ (yielded ops a.tmps) = false := by
  simp only [Region.wanted, LI hj he hl]
  simpa using hbc
 rw [if_neg (by rw [hw]; simp)]
 exact h _ _ (he.put hd _) hk hs
theorem G.gskipU {ops : Array Oper} {d : Option Nat} {op : Op} {ty : TypeId} {pos : String} {aft : Array Edge} {rest : List Oper} {j t : Nat} {b : Bool}
  (hj : DN ops j = some t) (hl : look E t = some undef) (hd : CY d n = true)
  (h : G W n ds (F9 d undef E) L (wpList P ops Q rest)) : G W n ds E L (wpList P ops Q (⟨d, op, ty, pos, aft, some (j, b)⟩ :: rest)) := by
 intro a w he hk hs
 unfold wpList
 have hy : yielded ops a.tmps j = none := by
  unfold yielded
  have : ((ops[j]?).bind (·.dst)) = some t := hj
  rw [this]
  simp [he.slots t _ hl, undef]
 have hw : Region.wanted ⟨d, op, ty, pos, aft, some (j, b)⟩ (yielded ops a.tmps) = false := by
  simp only [Region.wanted, hy]
  cases b <;> rfl
 rw [if_neg (by rw [hw]; simp)]
 exact h _ _ (he.put hd _) hk hs
theorem G.grun {ops : Array Oper} {d : Option Nat} {op : Op} {ty : TypeId} {pos : String} {aft : Array Edge} {rest : List Oper} {j t : Nat} {b c : Bool}
  (hj : DN ops j = some t) (hl : look E t = some (.bool c)) (hbc : (c == b) = true)
  (h : G W n ds E L (wpList P ops Q (⟨d, op, ty, pos, aft, none⟩ :: rest))) : G W n ds E L (wpList P ops Q (⟨d, op, ty, pos, aft, some (j, b)⟩ :: rest)) := by
 intro a w he hk hs
 have hh := h a w he hk hs
 unfold wpList at hh ⊢
 have hw : Region.wanted ⟨d, op, ty, pos, aft, some (j, b)⟩ (yielded ops a.tmps) = true := by
  simp only [Region.wanted, LI hj he hl]
  simpa using hbc
 have hw' : Region.wanted ⟨d, op, ty, pos, aft, none⟩ (yielded ops a.tmps) = true := rfl
 rw [if_pos hw]
 rw [if_pos hw'] at hh
 exact hh
theorem AI.call {f : FuncId} {fn : Func} {c : Code} {xs : Array Operand} {ts : Array TypeId} {ty : TypeId} {vs : List Value} {pre : List HP} {post : Value → List HP → Prop}
    (hf : P.funcs[f]? = some fn) (hb : fn.body = some c) (hnm : (fn.name == "runtime.NumGoroutine") = false) (hx : xs.toList.map (ev E) = vs.map some) (h : Fn P f vs.toArray pre post) :
    AI P ⟨none, .call { callee := .value (.func f), args := xs, argTypes := ts }, ty, "", #[], none⟩ E pre post := by
  intro ρ w F ha hs
  have hv : xs.map ρ = vs.toArray := by
    apply Array.ext'
    rw [Array.toList_map]
    have : ∀ (l : List Operand) (us : List Value), l.map (ev E) = us.map some → l.map ρ = us := by
      intro l
      induction l with
      | nil => intro us h; cases us with
        | nil => rfl
        | cons u us => simp at h
      | cons x l ih => intro us h; cases us with
        | nil => simp at h
        | cons u us =>
          simp only [map_cons, List.cons.injEq] at h ⊢
          exact ⟨ha _ _ h.1, ih us h.2⟩
    exact this _ _ hx
  have hfn : ρ (.func f) = .func (.func f) #[] #[] := ha (.func f) _ rfl
  unfold Du
  have : (execOp ρ ⟨none, .call { callee := .value (.func f), args := xs, argTypes := ts }, ty, "", #[], none⟩).run P w = .ok (.enter f vs.toArray) w := by
    have hnm' : ¬ fn.name = "runtime.NumGoroutine" := by simpa using hnm
    simp [execOp, resolve, hfn, Deferred.ofValue, invoke, callFunc, program, Bind.bind, Sem.bind, Pure.pure, Sem.run, hf, hb, hnm', hv]
  rw [this]
  refine (h F w hs).mono ?_
  rintro e w' ⟨v, L, hv', he, hs', hk⟩
  exact ⟨v, he, L, hv', hs', hk⟩
end code
/-! ### Entering and leaving -/
def Tt (P : Program) (fn : Func) (post : Value → List HP → Prop) (F : List HP) (W : World) : Exit → Act → World → Prop :=
 bodyPost P fn fun e w' => ∃ v L, post v L ∧ e = .returned v ∧ St (L ++ F) w' ∧ Az W w'
def UC : Nat → List Value → By
 | _, [] => []
 | i, v :: vs => (i, v) :: UC (i + 1) vs
theorem J0 : ∀ (vs : List Value) (i t : Nat) (v : Value), look (UC i vs) t = some v → i ≤ t ∧ vs[t - i]? = some v := by
 intro vs
 induction vs with
 | nil => intro i t v h; cases h
 | cons u vs ih =>
  intro i t v h
  simp only [UC, look] at h
  by_cases hk : i = t
  ·subst hk; simp at h; simp [h]
  ·have hb : Nat.beq i t = false := by
    cases e : Nat.beq i t with
    | false => rfl
    | true => exact absurd (Nat.eq_of_beq_eq_true e) hk
   rw [hb] at h
   obtain ⟨h1, h2⟩ := ih _ _ _ h
   refine ⟨by omega, ?_⟩
   have : t - i = (t - (i + 1)) + 1 := by omega
   rw [this]; simpa using h2
theorem Fn.intro {P : Program} {f : FuncId} {fn : Func} {c : Code} {vs : List Value} {pre : List HP} {post : Value → List HP → Prop} {n : Nat}
    (hf : P.funcs[f]? = some fn) (hb : fn.body = some c) (hn : vs.length + (fn.ntmps - vs.length) = n)
    (h : ∀ F W, G W n [] (UC 0 vs) (pre ++ F) (c.wp P (Tt P fn post F W))) : Fn P f vs.toArray pre post := by
  intro F w hs
  refine calls_of_wp hf hb (h F w _ w ⟨?_, rfl, fun t v hl => ?_⟩ (.refl w) hs)
  · simp [← hn]
  obtain ⟨-, h2⟩ := J0 _ _ _ _ hl
  have hlt : t < vs.length := by
    rcases Nat.lt_or_ge t vs.length with h | h
    · exact h
    simp [List.getElem?_eq_none h] at h2
  simp only [Nat.sub_zero] at h2
  rw [List.getElem?_eq_getElem hlt] at h2
  simp only [Option.some.injEq] at h2
  simp [Array.getElem?_append, hlt, h2]
def VD : List ResultVar → By → Option Value
 | [], _ => some (.tuple #[])
 | [.tmp t], E => look E t
 | [.tmp t, .tmp u], E => match look E t, look E u with | some v, some v' => some (.tuple #[v, v']) | _, _ => none
 | [.tmp t, .tmp u, .tmp r], E => match look E t, look E u, look E r with | some v, some v', some v'' => some (.tuple #[v, v', v'']) | _, _, _ => none
 | _, _ => none
theorem Wd {P : Program} {fn : Func} {E : By} {n : Nat} {ds : List Deferred} {a : Act} {v : Value} {l : List ResultVar} (he : Ef n ds E a) (hl : fn.results = l.toArray) (h : VD l E = some v) (w : World) :
  (results fn a.tmps).run P w = .ok v w := by
 have hg : ∀ t u, look E t = some u → a.tmps.getD t undef = u := fun t u hu => by simp [he.slots t u hu]
 unfold VD at h
 split at h
 ·rw [results_none (by rw [hl])]; simpa using h
 ·rw [results_tmp (by rw [hl]), hg _ _ h]
 ·split at h
  ·rename_i h1 h2
   rw [results_tmp2 (by rw [hl]), hg _ _ h1, hg _ _ h2]; simpa using h
  ·cases h
 ·split at h
  ·rename_i h1 h2 h3
   simp only [Option.some.injEq] at h
   subst h
   simp [results, hl, ← hg _ _ h1, ← hg _ _ h2, ← hg _ _ h3]
  ·cases h
 ·cases h
theorem G.done {P : Program} {fn : Func} {post : Value → List HP → Prop} {F : List HP} {W : World} {n : Nat} {E : By} {L L' R : List HP} {v : Value} {l : List ResultVar}
  (hl : fn.results = l.toArray) (hr : VD l E = some v) (hp : post v L') (hL : Am L' L R) (hF : H0 F R) : G W n [] E L (Tt P fn post F W .ret) := by
 intro a w he hk hs
 exact ⟨he.defers, v, Wd he hl hr w, v, L', hp, rfl, hF.st (hs.picks hL), hk⟩
theorem G.done_n {P : Program} {fn : Func} {post : Value → List HP → Prop} {F : List HP} {W : World} {n : Nat} {E : By} {L : List HP}
  (h : G W n [] E L (Tt P fn post F W .ret)) : G W n [] E L (Tt P fn post F W .normal) := h
abbrev bs (l : List UInt8) : ByteArray := ⟨l.toArray⟩
abbrev AU (l : List UInt8) : Value := .string (bs l)
abbrev AA (n : Int) : Value := .int .i64 n
abbrev Bx (c : UInt8) : Value := .int .u8 (c.toNat : Int)
abbrev AG (b : Nat) : Value := .pointer (some ⟨b, 0, none⟩)
abbrev Ar (b : Nat) (l : List Value) (T : TypeId) : HP := pt b (.cells l.toArray T (0, 0))
/-! ### Facts of the program's tables, as computed words -/
def AC (P : Program) (s : TypeId) (i : Nat) : Option Nat :=
  match P.underlying s with
  | some (.struct fs) => match fs[i]? with
    | some f => match P.info? f.type with
      | some inf => if inf.size = 0 then none else some f.offset
      | none => none
    | none => none
  | _ => none
def A7 (P : Program) (t : TypeId) : Option (Option Nat) :=
 match P.underlying t, P.info? t with
 | some (.struct _), some i => some (some i.size)
 | some (.array _ _), some i => some (some i.size)
 | some _, some _ => some none
 | _, _ => none
def Ah (P : Program) (t : TypeId) : Option (TypeId × Nat × Nat) :=
  match P.underlying t with
  | some (.slice e) => match P.info? e with
    | some i => some (e, i.size, i.bytes)
    | none => none
  | _ => none
def WB (P : Program) (t : TypeId) : Option (Nat × TypeId × Nat) :=
  match P.underlying t with
  | some (.array n e) => match P.info? e with
    | some i => some (n, e, i.size)
    | none => none
  | _ => none
def Av (P : Program) (t : TypeId) : Option Value := (P.info? t).bind (·.zero)
def Ai (P : Program) (t : TypeId) : Option Nat := (P.info? t).map (·.size)
section
variable {P : Program} {E : By} {L R : List HP} {ty : TypeId} {w : World}
theorem Bn {t : TypeId} {k : Nat} (h : Ai P t = some k) : (sizeOf t).run P w = .ok k w := by
 unfold Ai at h
 cases hi : P.info? t with
 | none => simp [hi] at h
 | some i =>
  simp [hi] at h
  simp [sizeOf, typeInfo, program, Bind.bind, Sem.bind, Pure.pure, Sem.run, hi, h]
theorem MY {t : TypeId} {k : Nat} (h : A7 P t = some (some k)) : Ai P t = some k := by
 unfold A7 at h
 unfold Ai
 split at h <;> simp_all
theorem NP {t : TypeId} {k : Option Nat} (h : A7 P t = some k) : (isAgg t).run P w = .ok k.isSome w := by
 unfold A7 at h
 split at h <;> (try cases h) <;> rename_i hu hi <;> simp [isAgg, underlying, program, Bind.bind, Sem.bind, Pure.pure, Sem.run, hu]
theorem run_bind {α β : Type} {x : Sem α} {f : α → Sem β} {a : α} {w' : World} (h : x.run P w = .ok a w') : (x >>= f).run P w = (f a).run P w' := by
 show (x.bind f).run P w = _
 rw [Sem.run_bind' P, h]; rfl
theorem Be {α : Type} {a : α} : (pure a : Sem α).run P w = .ok a w := rfl
theorem Sb {b off : Nat} {l : List Value} {T : TypeId} {fr : Nat × Nat} {v : Value} (hb : w.heap[b]? = some (.cells l.toArray T fr)) (hc : l[off]? = some v) : w.cell? ⟨b, off, none⟩ = some v := by
 simp [World.cell?, hb, hc]
theorem PM {b off : Nat} {l : List Value} {T : TypeId} {fr : Nat × Nat} {v : Value} (hb : w.heap[b]? = some (.cells l.toArray T fr)) (hc : l[off]? = some v) : (load ⟨b, off, none⟩).run P w = .ok v w := by
 simp [load, Sem.run, Sb hb hc]
theorem Addr.add_eq (b off k : Nat) : (⟨b, off, none⟩ : Addr).add k = ⟨b, off + k, none⟩ := by
 unfold Addr.add; split
 ·rename_i h; subst h; rfl
 ·rfl
theorem Io {b off : Nat} {l : List Value} {T : TypeId} {fr : Nat × Nat} (hb : w.heap[b]? = some (.cells l.toArray T fr)) :
  ∀ (n i : Nat) (acc : Array Value), off + i + n ≤ l.length → (loadCellsFrom ⟨b, off, none⟩ i n acc).run P w = .ok (acc ++ ((l.drop (off + i)).take n).toArray) w := by
 intro n
 induction n with
 | zero => intro i acc h; simp [loadCellsFrom, Be]
 | succ n ih =>
  intro i acc h
  have hlt : off + i < l.length := by omega
  unfold loadCellsFrom
  rw [Addr.add_eq, run_bind (PM hb (List.getElem?_eq_getElem hlt)), ih (i + 1) _ (by omega)]
  congr 1
  apply Array.ext'
  rw [show l.drop (off + i) = l[off + i] :: l.drop (off + (i + 1)) from by rw [drop_eq_getElem_cons hlt]; rfl]
  simp
theorem Eb {b off n : Nat} {l : List Value} {T : TypeId} {fr : Nat × Nat} (hb : w.heap[b]? = some (.cells l.toArray T fr)) (h : off + n ≤ l.length) :
  (loadCells ⟨b, off, none⟩ n).run P w = .ok ((l.drop off).take n).toArray w := by
 unfold loadCells; rw [Io hb n 0 #[] (by omega)]; simp
theorem Gf {t : TypeId} {b off : Nat} {l : List Value} {T : TypeId} {fr : Nat × Nat} {v : Value} (hp : A7 P t = some none) (hb : w.heap[b]? = some (.cells l.toArray T fr)) (hc : l[off]? = some v) :
  (loadVar t ⟨b, off, none⟩).run P w = .ok v w := by
 unfold loadVar; rw [run_bind (NP hp)]; exact PM hb hc
theorem FD {t : TypeId} {b off k : Nat} {l : List Value} {T : TypeId} {fr : Nat × Nat} (hp : A7 P t = some (some k)) (hb : w.heap[b]? = some (.cells l.toArray T fr)) (h : off + k ≤ l.length) :
  (loadVar t ⟨b, off, none⟩).run P w = .ok (.agg ((l.drop off).take k).toArray) w := by
 unfold loadVar; rw [run_bind (NP hp)]
 simp only [Option.isSome_some, if_true]
 rw [run_bind (Bn (MY hp)), run_bind (Eb hb h)]; rfl
theorem AH.move {x : Operand} {v : Value} (hx : ev E x = some v) : AH P ⟨none, .move x, ty, "", #[], none⟩ E L v :=
 fun ρ w ha _ => by simp [execOp, ha x v hx, Pure.pure, Sem.run]
theorem AH.assign {x : Operand} {v : Value} (hx : ev E x = some v) : AH P ⟨none, .assign x, ty, "", #[], none⟩ E L v :=
 fun ρ w ha _ => by simp [execOp, ha x v hx, Pure.pure, Sem.run]
theorem AH.pickT {c x y : Operand} {v : Value} (hc : ev E c = some (.bool true)) (hx : ev E x = some v) : AH P ⟨none, .pick c x y, ty, "", #[], none⟩ E L v :=
 fun ρ w ha _ => by simp [execOp, ha c _ hc, ha x v hx, asBool, Bind.bind, Sem.bind, Pure.pure, Sem.run]
theorem AH.pickF {c x y : Operand} {v : Value} (hc : ev E c = some (.bool false)) (hx : ev E y = some v) : AH P ⟨none, .pick c x y, ty, "", #[], none⟩ E L v :=
 fun ρ w ha _ => by simp [execOp, ha c _ hc, ha y v hx, asBool, Bind.bind, Sem.bind, Pure.pure, Sem.run]
theorem AH.nilp {x : Operand} {a : Addr} (hx : ev E x = some (.pointer (some a))) : AH P ⟨none, .nilCheck x, ty, "", #[], none⟩ E L (.pointer (some a)) :=
 fun ρ w ha _ => by simp [execOp, ha x _ hx, Pure.pure, Sem.run]
theorem AH.fieldAddr {s : TypeId} {x : Operand} {i k b off : Nat} (hx : ev E x = some (.pointer (some ⟨b, off, none⟩))) (hf : AC P s i = some k) :
  AH P ⟨none, .fieldAddr s x i, ty, "", #[], none⟩ E L (.pointer (some ⟨b, off + k, none⟩)) := by
 intro ρ w ha _
 unfold AC at hf
 split at hf <;> (try cases hf)
 rename_i fs hu
 split at hf <;> (try cases hf)
 rename_i f hfi
 split at hf <;> (try cases hf)
 rename_i inf hin
 split at hf <;> (try cases hf)
 rename_i hne
 simp [execOp, ha x _ hx, Instr.fieldAt, underlying, program, Bind.bind, Sem.bind, Pure.pure, Sem.run, hu, hfi, Instr.sureAddr, fieldPlace, sizeOf, typeInfo, hin, hne, Addr.add_eq]
theorem AH.load {t : TypeId} {x : Operand} {b off : Nat} {l : List Value} {T : TypeId} {fr : Nat × Nat} {v : Value} (hx : ev E x = some (.pointer (some ⟨b, off, none⟩)))
  (hp : A7 P t = some none) (hL : BT (pt b (.cells l.toArray T fr)) L R) (hc : l[off]? = some v) : AH P ⟨none, .load t x, ty, "", #[], none⟩ E L v := by
 intro ρ w ha hs
 have hb := (hs.pick hL).pt
 show (do pure (Next.value (← Instr.loadAt t (ρ x))) : Sem Next).run P w = _
 rw [ha x _ hx]
 have : (Instr.loadAt t (.pointer (some ⟨b, off, none⟩))).run P w = .ok v w := by
  unfold Instr.loadAt; exact Gf hp hb hc
 rw [run_bind this]; rfl
theorem AH.loadA {t : TypeId} {x : Operand} {b off k : Nat} {l : List Value} {T : TypeId} {fr : Nat × Nat} (hx : ev E x = some (.pointer (some ⟨b, off, none⟩)))
  (hp : A7 P t = some (some k)) (hL : BT (pt b (.cells l.toArray T fr)) L R) (hc : off + k ≤ l.length) : AH P ⟨none, .load t x, ty, "", #[], none⟩ E L (.agg ((l.drop off).take k).toArray) := by
 intro ρ w ha hs
 have hb := (hs.pick hL).pt
 show (do pure (Next.value (← Instr.loadAt t (ρ x))) : Sem Next).run P w = _
 rw [ha x _ hx]
 have : (Instr.loadAt t (.pointer (some ⟨b, off, none⟩))).run P w = .ok (.agg ((l.drop off).take k).toArray) w := by
  unfold Instr.loadAt; exact FD hp hb hc
 rw [run_bind this]; rfl
theorem AH.loadAs {t : TypeId} {x : Operand} {b off k : Nat} {l vs : List Value} {T : TypeId} {fr : Nat × Nat} (hx : ev E x = some (.pointer (some ⟨b, off, none⟩)))
  (hp : A7 P t = some (some k)) (hL : BT (pt b (.cells l.toArray T fr)) L R) (hc : off + k ≤ l.length) (hv : (l.drop off).take k = vs) : AH P ⟨none, .load t x, ty, "", #[], none⟩ E L (.agg vs.toArray) :=
 hv ▸ AH.loadA hx hp hL hc
/-! Integers. -/
def NA : BinOp → IntKind → Int → Int → Option Value
 | .add, k, a, b => some (.int k (k.wrap (a + b)))
 | .sub, k, a, b => some (.int k (k.wrap (a - b)))
 | .mul, k, a, b => some (.int k (k.wrap (a * b)))
 | .eql, _, a, b => some (.bool (decide (a = b)))
 | .neq, _, a, b => some (.bool (!decide (a = b)))
 | .lss, _, a, b => some (.bool (decide (a < b)))
 | .leq, _, a, b => some (.bool (decide (a ≤ b)))
 | .gtr, _, a, b => some (.bool (decide (a > b)))
 | .geq, _, a, b => some (.bool (decide (a ≥ b)))
 | _, _, _, _ => none
theorem OP (a b : Int) : (a == b) = decide (a = b) := by
 by_cases h : a = b
 ·subst h; simp
 ·simp [h]
theorem YX (a b : Int) : (a != b) = !decide (a = b) := by rw [bne, OP]
theorem AH.int {op : BinOp} {t t' : TypeId} {x y : Operand} {k : IntKind} {a b : Int} {v : Value} (hx : ev E x = some (.int k a)) (hy : ev E y = some (.int k b)) (hv : NA op k a b = some v) :
  AH P ⟨none, .binOp op t x y t', ty, "", #[], none⟩ E L v := by
 intro ρ w ha _
 cases op <;> simp [NA] at hv <;> subst hv <;>
  simp [execOp, ha x _ hx, ha y _ hy, eqGuard, binOp, Op.intArith, Op.intCmp, Bind.bind, Sem.bind, Pure.pure, Sem.run, OP, YX]
theorem I5 {n : Int} (h : -9223372036854775808 ≤ n ∧ n ≤ 9223372036854775807) : IntKind.i64.wrap n = n := by rw [IntKind.wrap_i64]; omega
theorem AH.add {t t' : TypeId} {x y : Operand} {a b : Int} (hx : ev E x = some (.int .i64 a)) (hy : ev E y = some (.int .i64 b)) (hb : -9223372036854775808 ≤ a + b ∧ a + b ≤ 9223372036854775807) :
  AH P ⟨none, .binOp .add t x y t', ty, "", #[], none⟩ E L (.int .i64 (a + b)) := AH.int hx hy (by simp only [NA, I5 hb])
theorem AH.sub {t t' : TypeId} {x y : Operand} {a b : Int} (hx : ev E x = some (.int .i64 a)) (hy : ev E y = some (.int .i64 b)) (hb : -9223372036854775808 ≤ a - b ∧ a - b ≤ 9223372036854775807) :
  AH P ⟨none, .binOp .sub t x y t', ty, "", #[], none⟩ E L (.int .i64 (a - b)) := AH.int hx hy (by simp only [NA, I5 hb])
theorem AH.mul {t t' : TypeId} {x y : Operand} {a b : Int} (hx : ev E x = some (.int .i64 a)) (hy : ev E y = some (.int .i64 b)) (hb : -9223372036854775808 ≤ a * b ∧ a * b ≤ 9223372036854775807) :
  AH P ⟨none, .binOp .mul t x y t', ty, "", #[], none⟩ E L (.int .i64 (a * b)) := AH.int hx hy (by simp only [NA, I5 hb])
theorem AH.quo {t t' : TypeId} {x y : Operand} {a b : Int} (hx : ev E x = some (.int .i64 a)) (hy : ev E y = some (.int .i64 b)) (h0 : b ≠ 0) (hb : -9223372036854775808 ≤ a.tdiv b ∧ a.tdiv b ≤ 9223372036854775807) :
  AH P ⟨none, .binOp .quo t x y t', ty, "", #[], none⟩ E L (.int .i64 (a.tdiv b)) := by
 intro ρ w ha _
 simp [execOp, ha x _ hx, ha y _ hy, eqGuard, binOp, Op.intDiv, Bind.bind, Sem.bind, Pure.pure, Sem.run, h0, I5 hb]
theorem AH.rem {t t' : TypeId} {x y : Operand} {a b : Int} (hx : ev E x = some (.int .i64 a)) (hy : ev E y = some (.int .i64 b)) (h0 : b ≠ 0) :
  AH P ⟨none, .binOp .rem t x y t', ty, "", #[], none⟩ E L (.int .i64 (a.tmod b)) := by
 intro ρ w ha _
 simp [execOp, ha x _ hx, ha y _ hy, eqGuard, binOp, Op.intDiv, Bind.bind, Sem.bind, Pure.pure, Sem.run, h0]
theorem AH.quoE {t t' : TypeId} {x y : Operand} {a b : Int} (hx : ev E x = some (.int .i64 a)) (hy : ev E y = some (.int .i64 b)) (h0 : 0 ≤ a ∧ a ≤ 9223372036854775807) (hb : 0 < b) :
  AH P ⟨none, .binOp .quo t x y t', ty, "", #[], none⟩ E L (.int .i64 (a / b)) := by
 have e : a.tdiv b = a / b := Int.tdiv_eq_ediv_of_nonneg h0.1
 have h1 : a / b ≤ a := Int.ediv_le_self b h0.1
 have h2 : 0 ≤ a / b := Int.ediv_nonneg h0.1 (by omega)
 rw [← e]; rw [← e] at h1 h2
 exact AH.quo hx hy (by omega) (by omega)
theorem AH.remE {t t' : TypeId} {x y : Operand} {a b : Int} (hx : ev E x = some (.int .i64 a)) (hy : ev E y = some (.int .i64 b)) (h0 : 0 ≤ a) (hb : 0 < b) :
  AH P ⟨none, .binOp .rem t x y t', ty, "", #[], none⟩ E L (.int .i64 (a % b)) := by
 have e : a.tmod b = a % b := Int.tmod_eq_emod_of_nonneg h0
 rw [← e]; exact AH.rem hx hy (by omega)
theorem AH.not {t : TypeId} {x : Operand} {b : Bool} (hx : ev E x = some (.bool b)) : AH P ⟨none, .unOp .not t x, ty, "", #[], none⟩ E L (.bool (!b)) := by
 intro ρ w ha _
 simp [execOp, ha x _ hx, Op.unary, Bind.bind, Sem.bind, Pure.pure, Sem.run]
theorem AH.neg {t : TypeId} {x : Operand} {a : Int} (hx : ev E x = some (.int .i64 a)) (hb : -9223372036854775808 ≤ -a ∧ -a ≤ 9223372036854775807) : AH P ⟨none, .unOp .neg t x, ty, "", #[], none⟩ E L (.int .i64 (-a)) := by
 intro ρ w ha _
 simp [execOp, ha x _ hx, Op.unary, Op.intArith, Bind.bind, Sem.bind, Pure.pure, Sem.run, I5 hb]
theorem AJ {t : TypeId} {d : TypeDesc} (h : P.underlying t = some d) : (underlying t).run P w = .ok d w := by
 simp [underlying, program, Bind.bind, Sem.bind, Pure.pure, Sem.run, h]
theorem Ct {s : Sem Value} {v : Value} {w' : World} (h : s.run P w = .ok v w') : (do pure (Next.value (← s)) : Sem Next).run P w = .ok (.value v) w' := by
 rw [run_bind h]; rfl
theorem H8 {t e : TypeId} {a : Option Addr} (ht : P.underlying t = some (.pointer e)) : (Op.equal t (.pointer a) (.pointer none)).run P w = .ok a.isNone w := by
 unfold Op.equal
 rw [show Op.maxDepth = 9999 + 1 from rfl]
 generalize 9999 = d
 unfold Op.equalIn
 rw [run_bind (AJ ht)]; cases a <;> rfl
theorem Se {t t' : TypeId} {x y : Operand} {u v : Value} {r : Bool} {ρ : Operand → Value} (hx : ρ x = u) (hy : ρ y = v) (hg : eqGuard .eql t x y u v = pure ()) (hb : binOp .eql t u v = do pure (.bool (← Op.equal t u v)))
  (he : (Op.equal t u v).run P w = .ok r w) : (execOp ρ ⟨none, .binOp .eql t x y t', ty, "", #[], none⟩).run P w = .ok (.value (.bool r)) w := by
 show (do pure (Next.value (← (do eqGuard .eql t x y (ρ x) (ρ y); binOp .eql t (ρ x) (ρ y)))) : Sem Next).run P w = _
 rw [hx, hy]
 refine Ct ?_
 rw [hg, run_bind Be, hb, run_bind he]; rfl
theorem Xv {t t' : TypeId} {x y : Operand} {u v : Value} {r : Bool} {ρ : Operand → Value} (hx : ρ x = u) (hy : ρ y = v) (hg : eqGuard .neq t x y u v = pure ()) (hb : binOp .neq t u v = do pure (.bool (!(← Op.equal t u v))))
  (he : (Op.equal t u v).run P w = .ok r w) : (execOp ρ ⟨none, .binOp .neq t x y t', ty, "", #[], none⟩).run P w = .ok (.value (.bool (!r))) w := by
 show (do pure (Next.value (← (do eqGuard .neq t x y (ρ x) (ρ y); binOp .neq t (ρ x) (ρ y)))) : Sem Next).run P w = _
 rw [hx, hy]
 refine Ct ?_
 rw [hg, run_bind Be, hb, run_bind he]; rfl
theorem AH.ptreq {t t' e : TypeId} {x y : Operand} {a : Option Addr} (hx : ev E x = some (.pointer a)) (hy : ev E y = some (.pointer none)) (ht : P.underlying t = some (.pointer e)) : AH P ⟨none, .binOp .eql t x y t', ty, "", #[], none⟩ E L (.bool a.isNone) :=
 fun _ _ ha _ => Se (ha x _ hx) (ha y _ hy) rfl rfl (H8 ht)
theorem AH.ptrne {t t' e : TypeId} {x y : Operand} {a : Option Addr} (hx : ev E x = some (.pointer a)) (hy : ev E y = some (.pointer none)) (ht : P.underlying t = some (.pointer e)) : AH P ⟨none, .binOp .neq t x y t', ty, "", #[], none⟩ E L (.bool (!a.isNone)) :=
 fun _ _ ha _ => Xv (ha x _ hx) (ha y _ hy) rfl rfl (H8 ht)
/-! Strings. -/
theorem AH.strne {t t' : TypeId} {x y : Operand} {a b : List UInt8} (hx : ev E x = some (AU a)) (hy : ev E y = some (AU b)) : AH P ⟨none, .binOp .neq t x y t', ty, "", #[], none⟩ E L (.bool (!decide (a = b))) := by
 intro ρ w ha _
 simp [execOp, ha x _ hx, ha y _ hy, eqGuard, binOp, Op.stringOp, Bind.bind, Sem.bind, Pure.pure, Sem.run]
 by_cases h : a = b <;> simp [h]
theorem UG (a b : List UInt8) : bs a ++ bs b = bs (a ++ b) := by
 apply ByteArray.ext; simp
theorem DF (a : List UInt8) : (bs a).size = a.length := by show a.toArray.size = _; exact size_toArray
theorem Le (a : List UInt8) (i j : Nat) : (bs a).extract i j = bs ((a.take j).drop i) := by
 apply ByteArray.ext; rw [ByteArray.data_extract]; simp only [extract_toArray, extract_eq_take_drop, drop_take]
theorem AH.concat {t t' : TypeId} {x y : Operand} {a b : List UInt8} (hx : ev E x = some (AU a)) (hy : ev E y = some (AU b)) (hl : (a.length : Int) + b.length ≤ 9223372036854775807) :
  AH P ⟨none, .binOp .add t x y t', ty, "", #[], none⟩ E L (AU (a ++ b)) := by
 intro ρ w ha _
 have h1 : ¬ ((((bs a).size + (bs b).size : Nat)) : Int) > IntKind.i64.max := by
  rw [DF, DF, show IntKind.i64.max = 9223372036854775807 from by decide]; omega
 show (do pure (Next.value (← (do eqGuard .add t x y (ρ x) (ρ y); binOp .add t (ρ x) (ρ y)))) : Sem Next).run P w = _
 rw [ha x _ hx, ha y _ hy]
 refine Ct ?_
 have h2 : binOp .add t (AU a) (AU b) = pure (AU (a ++ b)) := by
  show (if ((((bs a).size + (bs b).size : Nat)) : Int) > IntKind.i64.max then unsupported _ else pure (.string (bs a ++ bs b)) : Sem Value) = _
  rw [if_neg h1, UG]
 rw [h2]; rfl
theorem CZ {b : Builtin} {xs : Array Operand} {ts : Array TypeId} {ρ : Operand → Value} : execOp ρ ⟨none, .call { callee := .builtin b, args := xs, argTypes := ts }, ty, "", #[], none⟩ =
  builtin b ts ty (xs.map fun | .const _ => true | _ => false) (xs.map ρ) := rfl
theorem AH.strlen {t : TypeId} {x : Operand} {a : List UInt8} {ts : Array TypeId} (hx : ev E x = some (AU a)) (ht : P.underlying t = some .string) (hts : ts = #[t]) :
  AH P ⟨none, .call { callee := .builtin .len, args := #[x], argTypes := ts }, ty, "", #[], none⟩ E L (.int .i64 (a.length : Int)) := by
 intro ρ w ha _
 subst hts
 rw [CZ]
 refine Ct ?_
 simp only [map_toArray, map_cons, map_nil]
 rw [ha x _ hx]
 unfold Builtin.len_
 simp only [List.getElem?_toArray, List.getElem?_cons_zero]
 rw [run_bind (AJ ht)]
 show Result.ok (goInt (bs a).size) w = _
 rw [DF]; rfl
theorem AH.slen {t : TypeId} {x : Operand} {a : Option Addr} {n c : Nat} {e : TypeId} {ts : Array TypeId} (hx : ev E x = some (.slice a n c)) (ht : P.underlying t = some (.slice e)) (hts : ts = #[t]) :
  AH P ⟨none, .call { callee := .builtin .len, args := #[x], argTypes := ts }, ty, "", #[], none⟩ E L (.int .i64 (n : Int)) := by
 intro ρ w ha _
 subst hts
 rw [CZ]
 refine Ct ?_
 simp only [map_toArray, map_cons, map_nil]
 rw [ha x _ hx]
 unfold Builtin.len_
 simp only [List.getElem?_toArray, List.getElem?_cons_zero]
 rw [run_bind (AJ ht)]; rfl
theorem AH.extract {x : Operand} {vs : List Value} {i : Nat} {v : Value} (hx : ev E x = some (.tuple vs.toArray)) (hi : vs[i]? = some v) : AH P ⟨none, .extract x i, ty, "", #[], none⟩ E L v := by
 intro ρ w ha _
 simp [execOp, ha x _ hx, Instr.extract, hi, Bind.bind, Sem.bind, Pure.pure, Sem.run]
theorem AH.strIndex {t : TypeId} {x y : Operand} {a : List UInt8} {k : IntKind} {i : Int} {c : UInt8} (hx : ev E x = some (AU a)) (hy : ev E y = some (.int k i)) (ht : P.underlying t = some .string)
  (h0 : 0 ≤ i) (hc : a[i.toNat]? = some c) : AH P ⟨none, .index t x y, ty, "", #[], none⟩ E L (Bx c) := by
 intro ρ w ha _
 obtain ⟨hlt, hce⟩ := List.getElem?_eq_some_iff.1 hc
 have : (bs a)[i.toNat]? = some c := by
  rw [getElem?_def]
  simp [DF, hlt]
  exact hce
 simp [execOp, ha x _ hx, ha y _ hy, Instr.index, asIntOf, underlying, program, ht, h0, this, Bind.bind, Sem.bind, Pure.pure, Sem.run]
theorem AH.indexAddr {t : TypeId} {x y : Operand} {b off n c e sz by' : Nat} {k : IntKind} {i : Int} (hx : ev E x = some (.slice (some ⟨b, off, none⟩) n c)) (hy : ev E y = some (.int k i)) (ht : Ah P t = some (e, sz, by'))
  (h0 : 0 ≤ i ∧ i < n) : AH P ⟨none, .indexAddr t x y, ty, "", #[], none⟩ E L (.pointer (some ⟨b, off + i.toNat * sz, none⟩)) := by
 intro ρ w ha _
 unfold Ah at ht
 split at ht <;> (try cases ht)
 rename_i e' hu
 split at ht <;> (try cases ht)
 rename_i inf hin
 simp [execOp, ha x _ hx, ha y _ hy, Instr.indexAt, asIntOf, underlying, program, hu, h0, sizeOf, typeInfo, hin, Addr.add_eq, Bind.bind, Sem.bind, Pure.pure, Sem.run]
theorem E3 {s : Bool} {n c : Nat} {lo hi : Option Value} {i j : Int} (hlo : lo = some (.int .i64 i) ∨ (lo = none ∧ i = 0)) (hhi : hi = some (.int .i64 j) ∨ (hi = none ∧ j = n)) (hb : 0 ≤ i ∧ i ≤ j ∧ j ≤ c) :
  (Instr.sliceBounds s n c lo hi none).run P w = .ok (i.toNat, j.toNat, c) w := by
 obtain ⟨h0, h1, h2⟩ := hb
 have hj : 0 ≤ j := by omega
 have h1' : i ≤ (j.toNat : Int) := by omega
 have h3 : max j 0 = j := by omega
 rcases hlo with rfl | ⟨rfl, rfl⟩ <;> rcases hhi with rfl | ⟨rfl, rfl⟩ <;>
  simp [Instr.sliceBounds, Instr.sliceBound, asIntOf, Bind.bind, Sem.bind, Pure.pure, Sem.run, h0, h1, h2, hj, h3]
theorem Od {ρ : Operand → Value} (ha : IZ E ρ) {lo : Option Operand} {i z : Int} (h : match lo with | none => i = z | some y => ev E y = some (.int .i64 i)) : lo.map ρ = some (.int .i64 i) ∨ (lo.map ρ = none ∧ i = z) := by
 cases lo with
 | none => exact .inr ⟨rfl, h⟩
 | some y => exact .inl (by simp [ha y _ h])
theorem AH.strSlice {t : TypeId} {x : Operand} {lo hi : Option Operand} {a : List UInt8} {i j : Int} (hx : ev E x = some (AU a)) (ht : P.underlying t = some .string)
  (hlo : match lo with | none => i = 0 | some y => ev E y = some (.int .i64 i)) (hhi : match hi with | none => j = a.length | some y => ev E y = some (.int .i64 j))
  (hb : 0 ≤ i ∧ i ≤ j ∧ j ≤ a.length) : AH P ⟨none, .slice t x lo hi none, ty, "", #[], none⟩ E L (AU ((a.take j.toNat).drop i.toNat)) := by
 intro ρ w ha _
 refine Ct ?_
 show (Instr.sliceAt t (ρ x) (lo.map ρ) (hi.map ρ) none).run P w = _
 rw [ha x _ hx]
 unfold Instr.sliceAt
 rw [run_bind (AJ ht)]
 show (Instr.slice t (AU a) (lo.map ρ) (hi.map ρ) none).run P w = _
 unfold Instr.slice
 rw [run_bind (AJ ht)]
 show (do let (l, h, _) ← Instr.sliceBounds false (bs a).size (bs a).size (lo.map ρ) (hi.map ρ) none; pure (.string ((bs a).extract l h)) : Sem Value).run P w = _
 rw [run_bind (E3 (i := i) (j := j) (Od ha hlo) (Od ha (by simpa [DF] using hhi)) (by rw [DF]; exact hb))]
 show Result.ok (Value.string ((bs a).extract i.toNat j.toNat)) w = _
 rw [Le]
theorem AH.strTo {t : TypeId} {x y : Operand} {a : List UInt8} {j : Int} (hx : ev E x = some (AU a)) (hy : ev E y = some (.int .i64 j)) (ht : P.underlying t = some .string) (hb : 0 ≤ j ∧ j ≤ a.length) :
  AH P ⟨none, .slice t x none (some y) none, ty, "", #[], none⟩ E L (AU (a.take j.toNat)) := by
 have := AH.strSlice (P := P) (L := L) (ty := ty) (lo := none) (hi := some y) (i := 0) (j := j) hx ht rfl hy ⟨Int.le_refl _, hb.1, hb.2⟩
 simpa using this
theorem AH.strFrom {t : TypeId} {x y : Operand} {a : List UInt8} {i : Int} (hx : ev E x = some (AU a)) (hy : ev E y = some (.int .i64 i)) (ht : P.underlying t = some .string) (hb : 0 ≤ i ∧ i ≤ a.length) :
  AH P ⟨none, .slice t x (some y) none none, ty, "", #[], none⟩ E L (AU (a.drop i.toNat)) := by
 have := AH.strSlice (P := P) (L := L) (ty := ty) (lo := some y) (hi := none) (i := i) (j := a.length) hx ht hy rfl ⟨hb.1, hb.2, Int.le_refl _⟩
 simpa using this
theorem AH.strMid {t : TypeId} {x y z : Operand} {a : List UInt8} {i j : Int} (hx : ev E x = some (AU a)) (hy : ev E y = some (.int .i64 i)) (hz : ev E z = some (.int .i64 j)) (ht : P.underlying t = some .string) (hb : 0 ≤ i ∧ i ≤ j ∧ j ≤ a.length) :
  AH P ⟨none, .slice t x (some y) (some z) none, ty, "", #[], none⟩ E L (AU ((a.take j.toNat).drop i.toNat)) :=
 AH.strSlice (lo := some y) (hi := some z) hx ht hy hz hb
theorem AH.slSlice {t : TypeId} {x : Operand} {lo hi : Option Operand} {b off n c e sz by' : Nat} {i j : Int} (hx : ev E x = some (.slice (some ⟨b, off, none⟩) n c)) (ht : Ah P t = some (e, sz, by'))
  (hlo : match lo with | none => i = 0 | some y => ev E y = some (.int .i64 i)) (hhi : match hi with | none => j = n | some y => ev E y = some (.int .i64 j))
  (hb : 0 ≤ i ∧ i ≤ j ∧ j ≤ c) : AH P ⟨none, .slice t x lo hi none, ty, "", #[], none⟩ E L
   (.slice (some (if c = i.toNat then ⟨b, off, none⟩ else ⟨b, off + i.toNat * sz, none⟩)) (j.toNat - i.toNat) (c - i.toNat)) := by
 intro ρ w ha _
 unfold Ah at ht
 split at ht <;> (try cases ht)
 rename_i e' hu
 split at ht <;> (try cases ht)
 rename_i inf hin
 refine Ct ?_
 show (Instr.sliceAt t (ρ x) (lo.map ρ) (hi.map ρ) none).run P w = _
 rw [ha x _ hx]
 unfold Instr.sliceAt
 rw [run_bind (AJ hu)]
 show (Instr.slice t (.slice (some ⟨b, off, none⟩) n c) (lo.map ρ) (hi.map ρ) none).run P w = _
 unfold Instr.slice
 rw [run_bind (AJ hu)]
 show (do let (l, h, m) ← Instr.sliceBounds true n c (lo.map ρ) (hi.map ρ) none; let size ← sizeOf e; pure (.slice (if m = l then some ⟨b, off, none⟩ else (some ⟨b, off, none⟩ : Option Addr).map (·.add (l * size))) (h - l) (m - l)) : Sem Value).run P w = _
 rw [run_bind (E3 (i := i) (j := j) (Od ha hlo) (Od ha hhi) hb)]
 show (do let size ← sizeOf e; pure (.slice (if c = i.toNat then some ⟨b, off, none⟩ else (some ⟨b, off, none⟩ : Option Addr).map (·.add (i.toNat * size))) (j.toNat - i.toNat) (c - i.toNat)) : Sem Value).run P w = _
 rw [run_bind (Bn (k := inf.size) (by simp [Ai, hin]))]
 simp only [Option.map_some, Addr.add_eq, Be]
 split <;> rfl
theorem AH.conv {s d : TypeId} {x : Operand} {k k' : IntKind} {a : Int} {de : TypeDesc} (hx : ev E x = some (.int k' a)) (hs : P.underlying s = some de) (hd : P.underlying d = some (.int k)) :
  AH P ⟨none, .convert s d x, ty, "", #[], none⟩ E L (.int k (k.wrap a)) := by
 intro ρ w ha _
 simp [execOp, ha x _ hx, convert, underlying, program, hs, hd, Conv.intToInt, Bind.bind, Sem.bind, Pure.pure, Sem.run]
theorem AH.func {fn : Go.Fn} {xs ys : Array Operand} {us vs : List Value} (hx : xs.toList.map (ev E) = us.map some) (hy : ys.toList.map (ev E) = vs.map some) :
    AH P ⟨none, .makeFunc fn xs ys, ty, "", #[], none⟩ E L (.func fn us.toArray vs.toArray) := by
  intro ρ w ha _
  have : ∀ (l : List Operand) (us : List Value), l.map (ev E) = us.map some → l.map ρ = us := by
    intro l
    induction l with
    | nil => intro us h; cases us with
      | nil => rfl
      | cons u us => simp at h
    | cons x l ih => intro us h; cases us with
      | nil => simp at h
      | cons u us =>
        simp only [map_cons, List.cons.injEq] at h ⊢
        exact ⟨ha _ _ h.1, ih us h.2⟩
  have h1 : xs.map ρ = us.toArray := by apply Array.ext'; rw [Array.toList_map]; exact this _ _ hx
  have h2 : ys.map ρ = vs.toArray := by apply Array.ext'; rw [Array.toList_map]; exact this _ _ hy
  simp [execOp, Instr.makeFunc, h1, h2, Bind.bind, Sem.bind, Pure.pure, Sem.run]
end
def AD : Value → Bool
 | .agg _ => false
 | .tuple _ => false
 | _ => true
theorem Dt {v : Value} (h : AD v = true) : v.cells = #[v] := by cases v <;> first | rfl | cases h
def HJ (l : List Value) (off : Nat) (vs : List Value) : List Value := l.take off ++ vs ++ l.drop (off + vs.length)
theorem Xy {l : List Value} {off : Nat} {v : Value} (h : off < l.length) : HJ l off [v] = l.set off v := by
 simp [HJ, set_eq_take_append_cons_drop, h]
theorem Vo {l : List Value} {off : Nat} {v : Value} {vs : List Value} (h : off + (v :: vs).length ≤ l.length) : HJ l off (v :: vs) = HJ (l.set off v) (off + 1) vs := by
 have hlt : off < l.length := by simp at h; omega
 simp only [HJ]
 have e1 : (l.set off v).take (off + 1) = l.take off ++ [v] := by
  apply ext_getElem?
  intro i
  simp only [List.getElem?_take, List.getElem?_append, List.getElem?_set, length_take]
  rw [Nat.min_eq_left (Nat.le_of_lt hlt)]
  by_cases h1 : i < off
  ·rw [if_pos h1, if_pos (by omega), if_neg (by omega), if_pos h1]
  ·by_cases h2 : i = off
   ·subst h2; simp [hlt]
   ·rw [if_neg (by omega), if_neg h1]
    have : i - off ≠ 0 := by omega
    simp [this]
 have e2 : (l.set off v).drop (off + 1 + vs.length) = l.drop (off + (v :: vs).length) := by
  rw [drop_set_of_lt (by omega)]; congr 1; simp; omega
 rw [e1, e2]; simp
section
variable {P : Program} {E : By} {L R : List HP} {ty : TypeId} {w : World}
def upd (w : World) (b : Nat) (o : Obj) : World := { w with heap := w.heap.setIfInBounds b o }
theorem Kb {b : Nat} {o o' : Obj} (h : w.heap[b]? = some o) : (upd w b o').heap[b]? = some o' := by
 have : b < w.heap.size := by
  rcases Nat.lt_or_ge b w.heap.size with h1 | h1
  ·exact h1
  ·rw [Array.getElem?_eq_none h1] at h; cases h
 simp [upd, this]
theorem Xa {b : Nat} {o o' : Obj} : upd (upd w b o) b o' = upd w b o' := by
 simp [upd]
theorem W1 {b : Nat} {o : Obj} (h : w.heap[b]? = some o) : upd w b o = w := by
 have : w.heap.setIfInBounds b o = w.heap := by
  apply Array.ext_getElem?
  intro i
  by_cases hi : b = i
  ·subst hi
   have hlt : b < w.heap.size := by
    rcases Nat.lt_or_ge b w.heap.size with h1 | h1
    ·exact h1
    ·rw [Array.getElem?_eq_none h1] at h; cases h
   rw [Array.getElem?_setIfInBounds_self_of_lt hlt, h]
  ·rw [Array.getElem?_setIfInBounds_ne hi]
 simp [upd, this]
theorem St.upd {b : Nat} {o o' : Obj} (h : St (Go.Proofs.YtjhlofbhpjakgaaGreat.pt b o :: L) w) : St (Go.Proofs.YtjhlofbhpjakgaaGreat.pt b o' :: L) (Go.Proofs.YtjhlofbhpjakgaaGreat.upd w b o') := h.set
theorem Az.upd (w : World) (b : Nat) (o : Obj) : Az w (Go.Proofs.YtjhlofbhpjakgaaGreat.upd w b o) := Az.set w b o
def Rj (fr : Nat × Nat) (off n : Nat) : Prop := ∀ i, off ≤ i → i < off + n → ¬ (fr.1 ≤ i ∧ i < fr.2)
theorem Bk (off n : Nat) : Rj (0, 0) off n := fun _ _ _ h => by simp at h
theorem Tg {b off : Nat} {l : List Value} {T : TypeId} {fr : Nat × Nat} {v : Value} (hb : w.heap[b]? = some (.cells l.toArray T fr)) (hc : off < l.length) (hv : AD v = true) (hf : Rj fr off 1) :
  (store ⟨b, off, none⟩ v).run P w = .ok () (upd w b (.cells (l.set off v).toArray T fr)) := by
 have hcell : w.cell? ⟨b, off, none⟩ = some (l[off]) := Sb hb (List.getElem?_eq_getElem hc)
 have hfr : w.frozen? ⟨b, off, none⟩ = false := by
  have := hf off (Nat.le_refl _) (by omega)
  simp only [World.frozen?, hb]
  cases e : (decide (fr.1 ≤ off) && decide (off < fr.2)) with
  | false => rfl
  | true => simp at e; exact absurd e this
 have hw : w.setCell ⟨b, off, none⟩ v = upd w b (.cells (l.set off v).toArray T fr) := by
  have : w.heap.modify b (fun | .cells c elem frozen => .cells (if Option.isSome (none : Option Nat) then c else c.setIfInBounds off v) elem frozen | o => o) = w.heap.setIfInBounds b (.cells (l.set off v).toArray T fr) := by
   apply Array.ext_getElem?
   intro i
   rw [Array.getElem?_modify]
   by_cases hi : b = i
   ·subst hi
    have hlt : b < w.heap.size := by
     rcases Nat.lt_or_ge b w.heap.size with h | h
     ·exact h
     ·rw [Array.getElem?_eq_none h] at hb; cases hb
    rw [if_pos rfl, hb, Array.getElem?_setIfInBounds_self_of_lt hlt]
    simp
   ·rw [if_neg hi, Array.getElem?_setIfInBounds_ne hi]
  unfold World.setCell upd
  rw [← this]; rfl
 have : (store ⟨b, off, none⟩ v).run P w = .ok () (w.setCell ⟨b, off, none⟩ v) := by
  cases v <;> first | (simp [AD] at hv; done) | simp [store, Sem.run, hcell, hfr]
 rw [this, hw]
theorem DP {b : Nat} {T : TypeId} {fr : Nat × Nat} : ∀ (vs : List Value) (w : World) (l : List Value) (off i : Nat), w.heap[b]? = some (.cells l.toArray T fr) → off + i + vs.length ≤ l.length → (∀ v ∈ vs, AD v = true) → Rj fr (off + i) vs.length →
  (storeCells ⟨b, off, none⟩ vs i).run P w = .ok () (upd w b (.cells (HJ l (off + i) vs).toArray T fr)) := by
 intro vs
 induction vs with
 | nil =>
  intro w l off i hb _ _ _
  have : HJ l (off + i) [] = l := by simp [HJ]
  rw [this, W1 hb]; rfl
 | cons v vs ih =>
  intro w l off i hb hlen hv hf
  simp only [length_cons] at hlen
  unfold storeCells
  rw [Addr.add_eq, run_bind (Tg hb (by omega) (hv v (by simp)) (fun j h1 h2 => hf j h1 (by simp only [length_cons]; omega)))]
  rw [ih _ (l.set (off + i) v) off (i + 1) (Kb hb) (by simp; omega) (fun u hu => hv u (by simp [hu])) (fun j h1 h2 => hf j (by omega) (by simp only [length_cons]; omega))]
  rw [Xa, Vo (by simp only [length_cons]; omega)]
  rfl
theorem Uo {s : Sem Unit} {w' : World} (h : s.run P w = .ok () w') : (do s; pure Next.skip : Sem Next).run P w = .ok .skip w' := by
 rw [run_bind h]; rfl
theorem AI.store {t : TypeId} {x y : Operand} {b off : Nat} {l : List Value} {T : TypeId} {fr : Nat × Nat} {v : Value} (hx : ev E x = some (.pointer (some ⟨b, off, none⟩))) (hy : ev E y = some v)
  (hv : AD v = true) (ht : Ai P t = some 1) (hc : off < l.length) (hf : Rj fr off 1) :
  AI P ⟨none, .store t x y, ty, "", #[], none⟩ E [pt b (.cells l.toArray T fr)] fun _ L' => L' = [pt b (.cells (l.set off v).toArray T fr)] := by
 intro ρ w F ha hs
 have hb : w.heap[b]? = some (.cells l.toArray T fr) := St.pt (L := F) hs
 have hr : (execOp ρ ⟨none, .store t x y, ty, "", #[], none⟩).run P w = .ok .skip (Go.Proofs.YtjhlofbhpjakgaaGreat.upd w b (.cells (l.set off v).toArray T fr)) := by
  refine Uo ?_
  show (Instr.storeAt t (ρ x) (ρ y)).run P w = _
  rw [ha x _ hx, ha y _ hy]
  show (storeVar t ⟨b, off, none⟩ v).run P w = _
  unfold storeVar
  rw [run_bind (Bn ht), Dt hv]
  simp only [size_toArray, length_cons, length_nil]
  have := DP (P := P) [v] w l off 0 hb (by simp; omega) (by simp [hv]) (by simpa using hf)
  rw [Nat.add_zero, Xy hc] at this
  simpa using this
 unfold Du; rw [hr]
 exact ⟨_, rfl, St.upd (L := F) hs, Az.upd _ _ _⟩
theorem AI.storeA {t : TypeId} {x y : Operand} {b off : Nat} {l vs : List Value} {T : TypeId} {fr : Nat × Nat} (hx : ev E x = some (.pointer (some ⟨b, off, none⟩))) (hy : ev E y = some (.agg vs.toArray))
  {k : Nat} (hv : ∀ v ∈ vs, AD v = true) (ht : Ai P t = some k) (hk : vs.length = k) (hc : off + vs.length ≤ l.length) (hf : Rj fr off vs.length) :
  AI P ⟨none, .store t x y, ty, "", #[], none⟩ E [pt b (.cells l.toArray T fr)] fun _ L' => L' = [pt b (.cells (HJ l off vs).toArray T fr)] := by
 subst hk
 intro ρ w F ha hs
 have hb : w.heap[b]? = some (.cells l.toArray T fr) := St.pt (L := F) hs
 have hr : (execOp ρ ⟨none, .store t x y, ty, "", #[], none⟩).run P w = .ok .skip (Go.Proofs.YtjhlofbhpjakgaaGreat.upd w b (.cells (HJ l off vs).toArray T fr)) := by
  refine Uo ?_
  show (Instr.storeAt t (ρ x) (ρ y)).run P w = _
  rw [ha x _ hx, ha y _ hy]
  show (storeVar t ⟨b, off, none⟩ (.agg vs.toArray)).run P w = _
  unfold storeVar
  rw [run_bind (Bn ht)]
  simp only [Value.cells, size_toArray, ne_eq, not_true_eq_false, if_false]
  have := DP (P := P) vs w l off 0 hb (by omega) hv (by simpa using hf)
  simpa using this
 unfold Du; rw [hr]
 exact ⟨_, rfl, St.upd (L := F) hs, Az.upd _ _ _⟩
theorem Cy (e : TypeId) (l : Array Value) : (newRow e l).run P w = .ok ⟨w.heap.size, 0, none⟩ { w with heap := w.heap.push (.cells l e) } := rfl
theorem El {t : TypeId} {v : Value} (h : Av P t = some v) : (zeroValue t).run P w = .ok v w := by
 unfold Av at h
 cases hi : P.info? t with
 | none => simp [hi] at h
 | some i =>
  simp [hi] at h
  simp [zeroValue, typeInfo, program, Bind.bind, Sem.bind, Pure.pure, Sem.run, hi, h]
theorem AI.newCells {op : Op} {l : List Value} {T : TypeId} (h : ∀ ρ w, IZ E ρ → (execOp ρ ⟨none, op, ty, "", #[], none⟩).run P w = .ok (.value (AG w.heap.size)) { w with heap := w.heap.push (.cells l.toArray T) }) :
  AI P ⟨none, op, ty, "", #[], none⟩ E [] fun v L' => ∃ b, v = AG b ∧ L' = [Ar b l T] := by
 intro ρ w F ha hs
 unfold Du; rw [h ρ w ha]
 exact ⟨_, ⟨_, rfl, rfl⟩, St.new (L := F) hs _, Az.new _ _⟩
theorem AI.box {t : TypeId} {x : Operand} {v : Value} (hx : ev E x = some v) : AI P ⟨none, .box t x, ty, "", #[], none⟩ E [] fun u L' => ∃ b, u = AG b ∧ L' = [Ar b v.cells.toList t] :=
 AI.newCells fun ρ w ha => by
  refine Ct ?_
  show (Instr.box t (ρ x)).run P w = _
  rw [ha x _ hx]
  unfold Instr.box newVar
  rw [run_bind (Cy _ _)]; rfl
theorem AI.alloc {t : TypeId} {v : Value} (hz : Av P t = some v) : AI P ⟨none, .alloc t, ty, "", #[], none⟩ E [] fun u L' => ∃ b, u = AG b ∧ L' = [Ar b v.cells.toList t] :=
 AI.newCells fun ρ w ha => by
  refine Ct ?_
  show (Instr.alloc t true (.tuple #[])).run P w = _
  unfold Instr.alloc
  rw [run_bind (El hz)]
  show (do pure (.pointer (some (← newVar t v))) : Sem Value).run P w = _
  unfold newVar
  rw [run_bind (Cy _ _)]; rfl
theorem AI.makeMap {t : TypeId} {k e : TypeId} (ht : P.underlying t = some (.map k e)) : AI P ⟨none, .makeMap t none, ty, "", #[], none⟩ E [] fun u L' => ∃ b, u = .map (some b) ∧ L' = [pt b (.map #[] 0)] := by
 intro ρ w F ha hs
 have : (execOp ρ ⟨none, .makeMap t none, ty, "", #[], none⟩).run P w = .ok (.value (.map (some w.heap.size))) { w with heap := w.heap.push (.map #[] 0) } := by
  refine Ct ?_
  show (Instr.makeMap t none).run P w = _
  unfold Instr.makeMap
  rfl
 unfold Du; rw [this]
 exact ⟨_, ⟨_, rfl, rfl⟩, St.new (L := F) hs _, Az.new _ _⟩
end
abbrev EF := Nat → Option Value
def C1 (d : Option Nat) (v : Value) (e : EF) : EF :=
 match d with
 | some d => fun t => if t = d then some v else e t
 | none => e
def Xe (e : EF) : Operand → Option Value
 | .tmp t => e t
 | .const v => some v
 | .global g => some (.pointer (some ⟨g, 0, none⟩))
 | .func f => some (.func (.func f) #[] #[])
def Uc (e : EF) (ρ : Operand → Value) : Prop := ∀ x v, Xe e x = some v → ρ x = v
structure MA (n : Nat) (ds : List Deferred) (e : EF) (a : Act) : Prop where
 size : a.tmps.size = n
 defers : a.defers = ds
 slots : ∀ t v, e t = some v → a.tmps[t]? = some v
theorem MA.agrees {n : Nat} {ds : List Deferred} {e : EF} {a : Act} (h : MA n ds e a) : Uc e a.eval := by
 intro x v hv
 cases x with
 | tmp t => simp only [Xe] at hv; simp [Act.eval, h.slots t v hv]
 | const c => simpa [Xe, Act.eval] using hv
 | global g => simpa [Xe, Act.eval] using hv
 | func f => simpa [Xe, Act.eval] using hv
theorem MA.put {n : Nat} {ds : List Deferred} {e : EF} {a : Act} (h : MA n ds e a) {dst : Option Nat} (hd : CY dst n = true) (v : Value) :
  MA n ds (C1 dst v e) (a.put dst v) := by
 cases dst with
 | none => exact h
 | some d =>
  have hd' : d < n := by simpa [CY, Nat.blt_eq] using hd
  refine ⟨by simpa [Act.put] using h.size, h.defers, fun t u hu => ?_⟩
  simp only [C1] at hu
  by_cases hk : t = d
  ·subst hk; simp at hu; subst hu; simp [Act.put, h.size, hd']
  ·rw [if_neg hk] at hu
   simpa [Act.put, Array.getElem?_setIfInBounds, Ne.symm hk] using h.slots t u hu
theorem Ja {e : EF} {d d' : Option Nat} {v v' : Value} (h : ∀ t, d = some t → d' ≠ some t) : C1 d v (C1 d' v' e) = C1 d' v' (C1 d v e) := by
 cases d with
 | none => rfl
 | some d =>
  cases d' with
  | none => rfl
  | some d' =>
   have hne : d ≠ d' := fun he => h d rfl (he ▸ rfl)
   funext t
   simp only [C1]
   by_cases h1 : t = d
   ·subst h1; simp [hne]
   ·by_cases h2 : t = d'
    ·subst h2; simp [h1]
    ·simp [h1, h2]
theorem GG (d : Nat) (v : Value) (E : By) : look ((d, v) :: E) = C1 (some d) v (look E) := by
 funext t
 simp only [look, C1]
 by_cases h : t = d
 ·subst h; simp
 ·have : Nat.beq d t = false := by
   cases e : Nat.beq d t with
   | false => rfl
   | true => exact absurd (Nat.eq_of_beq_eq_true e).symm h
  simp [this, h]
theorem Da (d : Option Nat) (v : Value) (E : By) : look (F9 d v E) = C1 d v (look E) := by
 cases d with
 | none => rfl
 | some d => exact GG d v E
theorem Qw (E : By) (x : Operand) : ev E x = Xe (look E) x := by cases x <;> rfl
section
variable (P : Program) (ops : Array Oper) (n : Nat) (RO : List HP) (H : List Nat) (I : List HP → Prop) (Fin : EF → List HP → Prop)
def Db (o : Oper) (e : EF) (pre : List HP) (K : Value → List HP → Prop) : Prop :=
 ∀ ρ w F, Uc e ρ → St (pre ++ F) w → Du P o ρ w fun v w' => ∃ L', K v L' ∧ St (L' ++ F) w' ∧ Az w w'
def Eo (o : Oper) (e : EF) (pre : List HP) (K : Value → List HP → Prop) : Prop :=
 ∀ ρ w F, Uc e ρ → St (pre ++ (RO ++ F)) w → Du P o ρ w fun v w' => ∃ L', K v L' ∧ St (L' ++ (RO ++ F)) w' ∧ Az w w'
def Fv (o : Oper) (e : EF) (L : List HP) (v : Value) : Prop := Db P o e L fun u L' => u = v ∧ L' = L
def Ap (S : List Nat) (i : Nat) : Bool :=
 match ops[i]? with
 | some o => o.after.all fun e => !Region.binds .any e || !S.contains e.on
 | none => false
def ES (o : Oper) (j : Nat) : Bool := o.after.any fun e => Region.binds .any e && e.on == j
def EA : Bool :=
 (List.range ops.size).all fun i => (ops[i]?).any fun oi =>
  (oi.after.all fun e => Nat.blt e.on ops.size) && (match oi.op with | .select .. => false | _ => true) &&
  (List.range i).all fun j => (ops[j]?).any fun oj => ES oi j || ES oj i || (oj.apart ops oi && oi.apart ops oj)
def EX (j : Nat) (S A : List Nat) : Bool :=
 (A.all fun i => S.contains i && (ops[i]?).any fun o => o.after.any fun e => Region.binds .any e && (e.on == j || A.contains e.on)) &&
 (S.all fun h => !H.contains h || A.contains h)
def CS (o : Oper) (e : EF) : Prop := o.guard = none ∨ ∃ j b t, o.guard = some (j, b) ∧ DN ops j = some t ∧ e t = some (.bool b)
def DR (o : Oper) (e : EF) : Prop := ∃ j b t u, o.guard = some (j, b) ∧ DN ops j = some t ∧ e t = some u ∧ (u = .bool (!b) ∨ u = undef)
def Jb (o : Oper) (e : EF) (L : List HP) (v : Value) : Prop := (CS ops o e ∧ Fv P o e L v) ∨ (DR ops o e ∧ v = undef)
inductive D : List Nat → EF → List HP → Prop
 | done {e : EF} {RW : List HP} : Fin e RW → D [] e RW
 | quiet {j : Nat} {S : List Nat} {e : EF} {RW : List HP} {o : Oper} {v : Value} : ops[j]? = some o → Ap ops (j :: S) j = true → CY o.dst n = true →
   Jb P ops o e RO v → D S (C1 o.dst v e) RW → D (j :: S) e RW
 | quietW {j : Nat} {S : List Nat} {e : EF} {RW : List HP} {o : Oper} {v : Value} (A : List Nat) : ops[j]? = some o → Ap ops (j :: S) j = true → CY o.dst n = true →
   EX ops H j S A = true → Jb P ops o e (RO ++ RW) v → D S (C1 o.dst v e) RW → D (j :: S) e RW
 | heavy {S : List Nat} {e : EF} {RW : List HP} (o : Nat → Oper) (pre F : Nat → List HP) (K : Nat → Value → List HP → Prop) :
   (∃ i, i ∈ S ∧ Ap ops S i = true) →
   (∀ i, i ∈ S → Ap ops S i = true → H.contains i = true ∧ ops[i]? = some (o i) ∧ CS ops (o i) e ∧ CY (o i).dst n = true ∧ Am (pre i) RW (F i) ∧ Eo P RO (o i) e (pre i) (K i)) →
   (∀ i, i ∈ S → Ap ops S i = true → ∀ v L', K i v L' → I (L' ++ F i)) →
   (∀ i, i ∈ S → Ap ops S i = true → ∀ v L', K i v L' → D (S.erase i) (C1 (o i).dst v e) (L' ++ F i)) → D S e RW
 | stable {j : Nat} {S : List Nat} {e : EF} {RW : List HP} {o : Oper} {v : Value} : ops[j]? = some o → Ap ops (j :: S) j = true → CY o.dst n = true →
   I RW → (∀ RW', I RW' → Jb P ops o e (RO ++ RW') v) → D S (C1 o.dst v e) RW → D (j :: S) e RW
end
def Qj : List HP → Prop := fun _ => True
section
variable {P : Program} {ops : Array Oper} {n : Nat} {RO : List HP} {H : List Nat} {I : List HP → Prop} {Fin : EF → List HP → Prop}
theorem CC {S : List Nat} {i j : Nat} {o : Oper} (ho : ops[i]? = some o) (hr : Ap ops S i = true) (hj : j ∈ S) : ES o j = false := by
 simp only [Ap, ho, Array.all_eq_true'] at hr
 cases he : ES o j with
 | false => rfl
 | true =>
  simp only [ES, Array.any_eq_true'] at he
  obtain ⟨e, hm, he⟩ := he
  have := hr e hm
  simp at he
  obtain ⟨hb, hon⟩ := he
  simp [hb, hon, hj] at this
theorem Dy {S S' : List Nat} {i : Nat} (hs : ∀ x, x ∈ S' → x ∈ S) (hr : Ap ops S i = true) : Ap ops S' i = true := by
 unfold Ap at hr ⊢
 cases ho : ops[i]? with
 | none => rw [ho] at hr; cases hr
 | some o =>
  rw [ho] at hr
  simp only [Array.all_eq_true'] at hr ⊢
  intro e hm
  have := hr e hm
  simp only [Bool.or_eq_true, Bool.not_eq_true', contains_eq_mem, decide_eq_false_iff_not] at this ⊢
  exact this.imp id (fun h hx => h (hs _ hx))
theorem HZ (hd : EA ops = true) {i j : Nat} {oi oj : Oper} (hi : ops[i]? = some oi) (hj : ops[j]? = some oj) (hne : i ≠ j) (h1 : ES oi j = false) (h2 : ES oj i = false) :
  oj.apart ops oi = true ∧ oi.apart ops oj = true := by
 have lt : ∀ {k : Nat} {o : Oper}, ops[k]? = some o → k < ops.size := fun {k o} h => by
  rcases Nat.lt_or_ge k ops.size with h' | h'
  ·exact h'
  ·rw [Array.getElem?_eq_none h'] at h; cases h
 have key : ∀ {i j : Nat} {oi oj : Oper}, ops[i]? = some oi → ops[j]? = some oj → j < i → ES oi j = false → ES oj i = false → oj.apart ops oi = true ∧ oi.apart ops oj = true := by
  intro i j oi oj hi hj hlt h1 h2
  unfold EA at hd
  have a := all_eq_true.1 hd i (mem_range.2 (lt hi))
  simp only [hi, Option.any_some, Bool.and_eq_true] at a
  have b := all_eq_true.1 a.2 j (mem_range.2 hlt)
  simp only [hj, Option.any_some, h1, h2, Bool.false_or, Bool.and_eq_true] at b
  exact b
 rcases Nat.lt_or_gt_of_ne hne with h | h
 ·exact (key hj hi h h2 h1).symm
 ·exact key hi hj h h1 h2
theorem DW (hd : EA ops = true) {i : Nat} {o : Oper} (hi : ops[i]? = some o) : ∀ cs b, o.op ≠ .select cs b := by
 have hlt : i < ops.size := by
  rcases Nat.lt_or_ge i ops.size with h' | h'
  ·exact h'
  ·rw [Array.getElem?_eq_none h'] at hi; cases hi
 unfold EA at hd
 have a := all_eq_true.1 hd i (mem_range.2 hlt)
 simp only [hi, Option.any_some, Bool.and_eq_true] at a
 intro cs b he
 have := a.1.2
 rw [he] at this
 cases this
theorem Nu (hd : EA ops = true) {i : Nat} {o : Oper} (hi : ops[i]? = some o) {e : Edge} (he : e ∈ o.after) : e.on < ops.size := by
 have hlt : i < ops.size := by
  rcases Nat.lt_or_ge i ops.size with h' | h'
  ·exact h'
  ·rw [Array.getElem?_eq_none h'] at hi; cases hi
 unfold EA at hd
 have a := all_eq_true.1 hd i (mem_range.2 hlt)
 simp only [hi, Option.any_some, Bool.and_eq_true, Array.all_eq_true'] at a
 simpa [Nat.blt_eq] using a.1.1 e he
theorem My {o : Oper} {x : Operand} {t : Nat} (hx : x ∈ o.op.operands) (ht : x = .tmp t) : t ∈ o.looksAt ops := by
 subst ht
 exact mem_append_left _ (mem_filterMap.2 ⟨.tmp t, by simpa using hx, rfl⟩)
def rho (t : Nat) (u : Value) (ρ : Operand → Value) : Operand → Value
 | .tmp s => if s = t then u else ρ (.tmp s)
 | x => ρ x
theorem N9 {t : Nat} {u : Value} {ρ : Operand → Value} {x : Operand} (h : x ≠ .tmp t) : rho t u ρ x = ρ x := by
 cases x with
 | tmp s => exact if_neg (fun hs => h (by rw [hs]))
 | const c => rfl
 | global g => rfl
 | func f => rfl
theorem Uc.swap {o : Oper} (hs : ∀ cs b, o.op ≠ .select cs b) {e : EF} {d : Option Nat} {u : Value} (hd : ∀ t, d = some t → t ∉ o.looksAt ops) {ρ : Operand → Value} (ha : Uc e ρ) :
  ∃ ρ', Uc (C1 d u e) ρ' ∧ execOp ρ' o = execOp ρ o := by
 cases d with
 | none => exact ⟨ρ, ha, rfl⟩
 | some t =>
  refine ⟨rho t u ρ, fun x v hv => ?_, execOp_congr o hs fun x hx => N9 (fun h => hd t rfl (My hx h))⟩
  cases x with
  | tmp s =>
   simp only [Xe, C1] at hv
   by_cases hst : s = t
   ·subst hst; simp at hv; simp [rho, hv]
   ·rw [if_neg hst] at hv
    rw [N9 (fun h => hst (by injection h))]; exact ha _ _ hv
  | const c => exact ha (.const c) _ hv
  | global g => exact ha (.global g) _ hv
  | func f => exact ha (.func f) _ hv
theorem Uc.drop {o : Oper} (hs : ∀ cs b, o.op ≠ .select cs b) {e : EF} {d : Option Nat} {u : Value} (hd : ∀ t, d = some t → t ∉ o.looksAt ops) {ρ : Operand → Value} (ha : Uc (C1 d u e) ρ) :
  ∃ ρ', Uc e ρ' ∧ execOp ρ' o = execOp ρ o := by
 cases d with
 | none => exact ⟨ρ, ha, rfl⟩
 | some t =>
  refine ⟨rho t ((e t).getD undef) ρ, fun x v hv => ?_, execOp_congr o hs fun x hx => N9 (fun h => hd t rfl (My hx h))⟩
  cases x with
  | tmp s =>
   simp only [Xe] at hv
   by_cases hst : s = t
   ·subst hst; simp [rho, hv]
   ·rw [N9 (fun h => hst (by injection h))]
    exact ha (.tmp s) v (by simp [Xe, C1, hst, hv])
  | const c => exact ha (.const c) _ hv
  | global g => exact ha (.global g) _ hv
  | func f => exact ha (.func f) _ hv
theorem Db.take {o : Oper} (hs : ∀ cs b, o.op ≠ .select cs b) {e : EF} {d : Option Nat} {u : Value} (hd : ∀ t, d = some t → t ∉ o.looksAt ops) {pre : List HP} {K : Value → List HP → Prop} (h : Db P o (C1 d u e) pre K) : Db P o e pre K := by
 intro ρ w F ha hst
 obtain ⟨ρ', ha', he⟩ := Uc.swap hs hd (u := u) ha
 have := h ρ' w F ha' hst
 unfold Du at this ⊢
 rw [← he]; exact this
theorem Eo.take {o : Oper} (hs : ∀ cs b, o.op ≠ .select cs b) {e : EF} {d : Option Nat} {u : Value} (hd : ∀ t, d = some t → t ∉ o.looksAt ops) {pre : List HP} {K : Value → List HP → Prop} (h : Eo P RO o (C1 d u e) pre K) : Eo P RO o e pre K := by
 intro ρ w F ha hst
 obtain ⟨ρ', ha', he⟩ := Uc.swap hs hd (u := u) ha
 have := h ρ' w F ha' hst
 unfold Du at this ⊢
 rw [← he]; exact this
theorem Db.give {o : Oper} (hs : ∀ cs b, o.op ≠ .select cs b) {e : EF} {d : Option Nat} {u : Value} (hd : ∀ t, d = some t → t ∉ o.looksAt ops) {pre : List HP} {K : Value → List HP → Prop} (h : Db P o e pre K) : Db P o (C1 d u e) pre K := by
 intro ρ w F ha hst
 obtain ⟨ρ', ha', he⟩ := Uc.drop hs hd ha
 have := h ρ' w F ha' hst
 unfold Du at this ⊢
 rw [← he]; exact this
theorem Fv.more {o : Oper} {e : EF} {L L' : List HP} {v : Value} (h : Fv P o e L v) : Fv P o e (L ++ L') v := by
 intro ρ w F ha hs
 rw [append_assoc] at hs
 refine (h ρ w (L' ++ F) ha hs).mono ?_
 rintro u w' ⟨_, ⟨rfl, rfl⟩, hs', hk⟩
 exact ⟨_, ⟨rfl, rfl⟩, by rw [append_assoc]; exact hs', hk⟩
theorem Gq {o : Oper} {j : Nat} {b : Bool} {t : Nat} (hg : o.guard = some (j, b)) (ht : DN ops j = some t) : t ∈ o.looksAt ops := by
 unfold DN at ht
 simp [Oper.looksAt, hg, ht]
theorem Hu {e : EF} {d : Option Nat} {u : Value} {t : Nat} (h : ∀ s, d = some s → s ≠ t) : C1 d u e t = e t := by
 cases d with
 | none => rfl
 | some s => simp [C1, Ne.symm (h s rfl)]
theorem CS.iff {o : Oper} {e : EF} {d : Option Nat} {u : Value} (hd : ∀ t, d = some t → t ∉ o.looksAt ops) : CS ops o (C1 d u e) ↔ CS ops o e := by
 unfold CS
 refine or_congr Iff.rfl ⟨?_, ?_⟩
 ·rintro ⟨j, b, t, h1, h2, h3⟩
  exact ⟨j, b, t, h1, h2, by rwa [Hu (fun s hs hst => hd s hs (hst ▸ Gq h1 h2))] at h3⟩
 ·rintro ⟨j, b, t, h1, h2, h3⟩
  exact ⟨j, b, t, h1, h2, by rwa [Hu (fun s hs hst => hd s hs (hst ▸ Gq h1 h2))]⟩
theorem DR.iff {o : Oper} {e : EF} {d : Option Nat} {u : Value} (hd : ∀ t, d = some t → t ∉ o.looksAt ops) : DR ops o (C1 d u e) ↔ DR ops o e := by
 unfold DR
 refine ⟨?_, ?_⟩
 ·rintro ⟨j, b, t, u, h1, h2, h3, h4⟩
  exact ⟨j, b, t, u, h1, h2, by rwa [Hu (fun s hs hst => hd s hs (hst ▸ Gq h1 h2))] at h3, h4⟩
 ·rintro ⟨j, b, t, u, h1, h2, h3, h4⟩
  exact ⟨j, b, t, u, h1, h2, by rwa [Hu (fun s hs hst => hd s hs (hst ▸ Gq h1 h2))], h4⟩
theorem Jb.take {o : Oper} (hs : ∀ cs b, o.op ≠ .select cs b) {e : EF} {d : Option Nat} {u : Value} (hd : ∀ t, d = some t → t ∉ o.looksAt ops) {L : List HP} {v : Value} (h : Jb P ops o (C1 d u e) L v) : Jb P ops o e L v :=
 h.imp (fun ⟨a, b⟩ => ⟨(CS.iff hd).1 a, Db.take hs hd b⟩) (fun ⟨a, b⟩ => ⟨(DR.iff hd).1 a, b⟩)
theorem Jb.give {o : Oper} (hs : ∀ cs b, o.op ≠ .select cs b) {e : EF} {d : Option Nat} {u : Value} (hd : ∀ t, d = some t → t ∉ o.looksAt ops) {L : List HP} {v : Value} (h : Jb P ops o e L v) : Jb P ops o (C1 d u e) L v :=
 h.imp (fun ⟨a, b⟩ => ⟨(CS.iff hd).2 a, Db.give hs hd b⟩) (fun ⟨a, b⟩ => ⟨(DR.iff hd).2 a, b⟩)
theorem Jb.more {o : Oper} {e : EF} {L L' : List HP} {v : Value} (h : Jb P ops o e L v) : Jb P ops o e (L ++ L') v :=
 h.imp (fun ⟨a, b⟩ => ⟨a, b.more⟩) id
def ZQ (P : Program) (ops : Array Oper) (n : Nat) (RO : List HP) (H : List Nat) (I : List HP → Prop) (Fin : EF → List HP → Prop) (S : List Nat) (e : EF) (RW : List HP) (i : Nat) : Prop :=
 (∃ o v, ops[i]? = some o ∧ CY o.dst n = true ∧ Jb P ops o e (RO ++ RW) v ∧ D P ops n RO H I Fin (S.erase i) (C1 o.dst v e) RW) ∨
 (∃ o pre F K, H.contains i = true ∧ ops[i]? = some o ∧ CS ops o e ∧ CY o.dst n = true ∧ Am pre RW F ∧ Eo P RO o e pre K ∧ ∀ v L', K v L' → I (L' ++ F) ∧ D P ops n RO H I Fin (S.erase i) (C1 o.dst v e) (L' ++ F))
theorem D.step (hd : EA ops = true) {S : List Nat} {e : EF} {RW : List HP} (h : D P ops n RO H I Fin S e RW) : S.Nodup → ∀ i, i ∈ S → Ap ops S i = true → ZQ P ops n RO H I Fin S e RW i := by
 induction h with
 | done _ => intro _ i hi; cases hi
 | @quiet j S e RW o v ho hr hds ha hD ih =>
  intro hn i hi hri
  by_cases hij : i = j
  ·subst hij
   exact .inl ⟨o, v, ho, hds, ha.more, by simpa using hD⟩
  ·have hiS : i ∈ S := (mem_cons.1 hi).resolve_left hij
   have hn' := (nodup_cons.1 hn)
   obtain ⟨oi, hoi⟩ : ∃ oi, ops[i]? = some oi := by
    unfold Ap at hri
    cases hx : ops[i]? with
    | none => rw [hx] at hri; cases hri
    | some x => exact ⟨x, rfl⟩
   have e1 : ES oi j = false := CC hoi hri (by simp)
   have e2 : ES o i = false := CC ho hr hi
   obtain ⟨ap1, ap2⟩ := HZ hd hoi ho hij e1 e2
   obtain ⟨p1, p2, p3⟩ := Oper.apart_spec ap1
   have er : (j :: S).erase i = j :: S.erase i := erase_cons_tail (by simp [Ne.symm hij])
   have rest : ∀ (u : Value) (RW' : List HP), D P ops n RO H I Fin (S.erase i) (C1 oi.dst u (C1 o.dst v e)) RW' → D P ops n RO H I Fin ((j :: S).erase i) (C1 oi.dst u e) RW' := by
    intro u RW' hx
    rw [er]
    refine D.quiet ho (Dy (fun x hx => ?_) hr) hds (ha.give (DW hd ho) (fun t ht => p3 t ht)) ?_
    ·rcases mem_cons.1 hx with h | h
     ·exact h ▸ mem_cons_self
     ·exact mem_cons_of_mem _ (mem_of_mem_erase h)
    ·rw [Ja (fun t h1 h2 => p2 t h1 h2)]; exact hx
   rcases ih hn'.2 i hiS (Dy (fun x hx => mem_cons_of_mem _ hx) hri) with ⟨o', u, ho', hd', ha', hD'⟩ | ⟨o', pre, F, K, hH, ho', hg, hd', hp, hspec, hD'⟩
   ·obtain rfl : oi = o' := by rw [hoi] at ho'; injection ho'
    exact .inl ⟨oi, u, hoi, hd', ha'.take (DW hd hoi) (fun t ht => p1 t ht), rest _ _ hD'⟩
   ·obtain rfl : oi = o' := by rw [hoi] at ho'; injection ho'
    exact .inr ⟨oi, pre, F, K, hH, hoi, (CS.iff (fun t ht => p1 t ht)).1 hg, hd', hp, hspec.take (DW hd hoi) (fun t ht => p1 t ht), fun u L' hu => ⟨(hD' u L' hu).1, rest _ _ (hD' u L' hu).2⟩⟩
 | @quietW j S e RW o v A ho hr hds hw ha hD ih =>
  intro hn i hi hri
  by_cases hij : i = j
  ·subst hij
   exact .inl ⟨o, v, ho, hds, ha, by simpa using hD⟩
  ·have hiS : i ∈ S := (mem_cons.1 hi).resolve_left hij
   have hn' := (nodup_cons.1 hn)
   obtain ⟨oi, hoi⟩ : ∃ oi, ops[i]? = some oi := by
    unfold Ap at hri
    cases hx : ops[i]? with
    | none => rw [hx] at hri; cases hri
    | some x => exact ⟨x, rfl⟩
   have e1 : ES oi j = false := CC hoi hri (by simp)
   have e2 : ES o i = false := CC ho hr hi
   obtain ⟨ap1, ap2⟩ := HZ hd hoi ho hij e1 e2
   obtain ⟨p1, p2, p3⟩ := Oper.apart_spec ap1
   have er : (j :: S).erase i = j :: S.erase i := erase_cons_tail (by simp [Ne.symm hij])
   simp only [EX, Bool.and_eq_true] at hw
   have hiA : i ∉ A := by
    intro hA
    have := all_eq_true.1 hw.1 i hA
    simp only [hoi, Option.any_some, Bool.and_eq_true, Array.any_eq_true'] at this
    obtain ⟨-, ed, hm, hb⟩ := this
    simp only [Bool.and_eq_true, Bool.or_eq_true, beq_iff_eq] at hb
    obtain ⟨hb, hon⟩ := hb
    have hin : ed.on ∈ j :: S := by
     rcases hon with hon | hon
     ·rw [hon]; simp
     ·have hc := all_eq_true.1 hw.1 ed.on (by simpa using hon)
      simp only [Bool.and_eq_true] at hc
      exact mem_cons_of_mem _ (by simpa using hc.1)
    have := CC hoi hri hin
    have ht : ES oi ed.on = true := by
     simp only [ES, Array.any_eq_true']
     exact ⟨ed, hm, by simp [hb]⟩
    rw [ht] at this; cases this
   have hw' : EX ops H j (S.erase i) A = true := by
    simp only [EX, Bool.and_eq_true]
    refine ⟨all_eq_true.2 fun x hx => ?_, all_eq_true.2 fun x hx => all_eq_true.1 hw.2 x (mem_of_mem_erase hx)⟩
    have hc := all_eq_true.1 hw.1 x hx
    simp only [Bool.and_eq_true] at hc ⊢
    refine ⟨?_, hc.2⟩
    have : x ≠ i := fun h => hiA (h ▸ hx)
    simpa [mem_erase_of_ne this] using hc.1
   have hiH : H.contains i = false := by
    have := all_eq_true.1 hw.2 i hiS
    simp only [Bool.or_eq_true, Bool.not_eq_true'] at this
    exact this.resolve_right (by simpa using hiA)
   have rest : ∀ (u : Value), D P ops n RO H I Fin (S.erase i) (C1 oi.dst u (C1 o.dst v e)) RW → D P ops n RO H I Fin ((j :: S).erase i) (C1 oi.dst u e) RW := by
    intro u hx
    rw [er]
    refine D.quietW A ho (Dy (fun x hx => ?_) hr) hds hw' (ha.give (DW hd ho) (fun t ht => p3 t ht)) ?_
    ·rcases mem_cons.1 hx with h | h
     ·exact h ▸ mem_cons_self
     ·exact mem_cons_of_mem _ (mem_of_mem_erase h)
    ·rw [Ja (fun t h1 h2 => p2 t h1 h2)]; exact hx
   rcases ih hn'.2 i hiS (Dy (fun x hx => mem_cons_of_mem _ hx) hri) with ⟨o', u, ho', hd', ha', hD'⟩ | ⟨o', pre, F, K, hH, ho', hg, hd', hp, hspec, hD'⟩
   ·obtain rfl : oi = o' := by rw [hoi] at ho'; injection ho'
    exact .inl ⟨oi, u, hoi, hd', ha'.take (DW hd hoi) (fun t ht => p1 t ht), rest _ hD'⟩
   ·rw [hiH] at hH; cases hH
 | heavy o pre F K _ h1 h2 h3 _ =>
  intro _ i hi hri
  obtain ⟨a, b, c, d, f, g⟩ := h1 i hi hri
  exact .inr ⟨o i, pre i, F i, K i, a, b, c, d, f, g, fun v L' hv => ⟨h2 i hi hri v L' hv, h3 i hi hri v L' hv⟩⟩
 | @stable j S e RW o v ho hr hds hI ha hD ih =>
  intro hn i hi hri
  by_cases hij : i = j
  ·subst hij
   exact .inl ⟨o, v, ho, hds, ha RW hI, by simpa using hD⟩
  ·have hiS : i ∈ S := (mem_cons.1 hi).resolve_left hij
   have hn' := (nodup_cons.1 hn)
   obtain ⟨oi, hoi⟩ : ∃ oi, ops[i]? = some oi := by
    unfold Ap at hri
    cases hx : ops[i]? with
    | none => rw [hx] at hri; cases hri
    | some x => exact ⟨x, rfl⟩
   have e1 : ES oi j = false := CC hoi hri (by simp)
   have e2 : ES o i = false := CC ho hr hi
   obtain ⟨ap1, ap2⟩ := HZ hd hoi ho hij e1 e2
   obtain ⟨p1, p2, p3⟩ := Oper.apart_spec ap1
   have er : (j :: S).erase i = j :: S.erase i := erase_cons_tail (by simp [Ne.symm hij])
   have rest : ∀ (u : Value) (RW' : List HP), I RW' → D P ops n RO H I Fin (S.erase i) (C1 oi.dst u (C1 o.dst v e)) RW' → D P ops n RO H I Fin ((j :: S).erase i) (C1 oi.dst u e) RW' := by
    intro u RW' hI' hx
    rw [er]
    refine D.stable ho (Dy (fun x hx => ?_) hr) hds hI' (fun RW'' h => (ha RW'' h).give (DW hd ho) (fun t ht => p3 t ht)) ?_
    ·rcases mem_cons.1 hx with h | h
     ·exact h ▸ mem_cons_self
     ·exact mem_cons_of_mem _ (mem_of_mem_erase h)
    ·rw [Ja (fun t h1 h2 => p2 t h1 h2)]; exact hx
   rcases ih hn'.2 i hiS (Dy (fun x hx => mem_cons_of_mem _ hx) hri) with ⟨o', u, ho', hd', ha', hD'⟩ | ⟨o', pre, F, K, hH, ho', hg, hd', hp, hspec, hD'⟩
   ·obtain rfl : oi = o' := by rw [hoi] at ho'; injection ho'
    exact .inl ⟨oi, u, hoi, hd', ha'.take (DW hd hoi) (fun t ht => p1 t ht), rest _ _ hI hD'⟩
   ·obtain rfl : oi = o' := by rw [hoi] at ho'; injection ho'
    exact .inr ⟨oi, pre, F, K, hH, hoi, (CS.iff (fun t ht => p1 t ht)).1 hg, hd', hp, hspec.take (DW hd hoi) (fun t ht => p1 t ht), fun u L' hu => ⟨(hD' u L' hu).1, rest _ _ (hD' u L' hu).1 (hD' u L' hu).2⟩⟩
theorem D.some_ready {S : List Nat} {e : EF} {RW : List HP} (h : D P ops n RO H I Fin S e RW) : S = [] ∧ Fin e RW ∨ ∃ i, i ∈ S ∧ Ap ops S i = true := by
 cases h with
 | done h => exact .inl ⟨rfl, h⟩
 | quiet _ hr => exact .inr ⟨_, mem_cons_self, hr⟩
 | quietW _ _ hr => exact .inr ⟨_, mem_cons_self, hr⟩
 | heavy _ _ _ _ hx => exact .inr hx
 | stable _ hr => exact .inr ⟨_, mem_cons_self, hr⟩
theorem Ln {o : Oper} {e : EF} {ds : List Deferred} {a : Act} (he : MA n ds e a) (h : CS ops o e) : Region.wanted o (yielded ops a.tmps) = true := by
 rcases h with h | ⟨j, b, t, h1, h2, h3⟩
 ·simp [Region.wanted, h]
 ·have : yielded ops a.tmps j = some b := by
   unfold yielded
   rw [show ((ops[j]?).bind (·.dst)) = some t from h2]
   simp [he.slots t _ h3]
  simp [Region.wanted, h1, this]
theorem O3 {o : Oper} {e : EF} {ds : List Deferred} {a : Act} (he : MA n ds e a) (h : DR ops o e) : Region.wanted o (yielded ops a.tmps) = false := by
 obtain ⟨j, b, t, u, h1, h2, h3, h4⟩ := h
 rcases h4 with rfl | rfl
 ·have : yielded ops a.tmps j = some (!b) := by
   unfold yielded
   rw [show ((ops[j]?).bind (·.dst)) = some t from h2]
   simp [he.slots t _ h3]
  simp only [Region.wanted, h1, this]
  cases b <;> rfl
 ·have : yielded ops a.tmps j = none := by
   unfold yielded
   rw [show ((ops[j]?).bind (·.dst)) = some t from h2]
   simp [he.slots t _ h3, undef]
  simp only [Region.wanted, h1, this]
  cases b <;> rfl
def E7 (ops : Array Oper) (y x : Nat) : Bool := (ops[y]?).any fun o => ES o x
def JJ (ops : Array Oper) (S R : List Nat) : List Nat := S.foldr (fun x R => if R.contains x || R.any (fun y => E7 ops y x) then x :: R else R) R
def RN (ops : Array Oper) (S T : List Nat) : Bool :=
 T.all fun t => T.any (fun u => E7 ops t u) || S.all fun x => (JJ ops S (S.filter fun y => E7 ops t y)).contains x
theorem TE {S0 U0 : List Nat} (hcl : ∀ y ∈ S0, y ∉ U0 → ∀ x ∈ U0, E7 ops y x = false) : ∀ (S R : List Nat), (∀ x ∈ S, x ∈ S0) → (∀ y ∈ R, y ∈ S0 ∧ y ∉ U0) → ∀ y ∈ JJ ops S R, y ∈ S0 ∧ y ∉ U0 := by
 intro S
 induction S with
 | nil => exact fun R _ hR y hy => hR y hy
 | cons x S ih =>
  intro R hS hR y hy
  have hrec := ih R (fun z hz => hS z (mem_cons_of_mem _ hz)) hR
  rw [show JJ ops (x :: S) R = (if (JJ ops S R).contains x || (JJ ops S R).any (fun y => E7 ops y x) then x :: JJ ops S R else JJ ops S R) from rfl] at hy
  by_cases hc : ((JJ ops S R).contains x || (JJ ops S R).any (fun y => E7 ops y x)) = true
  ·rw [if_pos hc] at hy
   rcases mem_cons.1 hy with rfl | hy
   ·simp only [Bool.or_eq_true] at hc
    rcases hc with hc | hc
    ·exact hrec _ (by simpa using hc)
    ·obtain ⟨z, hz, he⟩ := any_eq_true.1 hc
     obtain ⟨z1, z2⟩ := hrec z hz
     refine ⟨hS _ mem_cons_self, fun hy0 => ?_⟩
     rw [hcl z z1 z2 _ hy0] at he; cases he
   ·exact hrec y hy
  ·rw [if_neg hc] at hy
   exact hrec y hy
theorem E5 {U : List Nat} {t x : Nat} (hr : Ap ops U t = true) (hx : x ∈ U) : E7 ops t x = false := by
 unfold E7
 cases ho : ops[t]? with
 | none => rfl
 | some o => simpa using CC ho hr hx
theorem X9 {S0 T U0 : List Nat} (hb : RN ops S0 T = true) (hcl : ∀ y ∈ S0, y ∉ U0 → ∀ x ∈ U0, E7 ops y x = false) {s t : Nat} (hs : s ∈ S0) (hs0 : s ∈ U0) (ht : t ∈ T) (hr : Ap ops (U0 ++ T) t = true) : False := by
 have h1 := all_eq_true.1 hb t ht
 simp only [Bool.or_eq_true] at h1
 rcases h1 with h1 | h1
 ·obtain ⟨u, hu, he⟩ := any_eq_true.1 h1
  rw [E5 hr (mem_append_right _ hu)] at he; cases he
 ·have h2 := all_eq_true.1 h1 s hs
  have := TE hcl S0 (S0.filter fun y => E7 ops t y) (fun _ h => h) (fun y hy => by
   obtain ⟨y1, y2⟩ := mem_filter.1 hy
   refine ⟨y1, fun hy0 => ?_⟩
   rw [E5 hr (mem_append_left _ hy0)] at y2; cases y2) s (by simpa using h2)
  exact this.2 hs0
theorem Mr {listed : Array Bool} {U : List Nat} (hd : EA ops = true) (hlist : ∀ i, listed.getD i true = false ↔ i ∈ U) (hsz : listed.size = ops.size) (i : Nat) :
  i ∈ Region.ready .any ops listed ↔ (i ∈ U ∧ Ap ops U i = true) := by
 simp only [Region.ready, mem_filter, mem_range, Bool.and_eq_true, Bool.not_eq_true']
 constructor
 ·rintro ⟨hlt, h1, h2⟩
  refine ⟨(hlist i).1 h1, ?_⟩
  unfold Ap
  cases ho : ops[i]? with
  | none => rw [ho] at h2; simp at h2
  | some o =>
   rw [ho] at h2
   simp only [Option.map_some, Option.getD_some, Array.all_eq_true'] at h2
   simp only [Array.all_eq_true']
   intro ed hm
   have := h2 ed hm
   simp only [Bool.or_eq_true, Bool.not_eq_true'] at this ⊢
   refine this.imp id (fun hb => ?_)
   have : ed.on ∉ U := fun hc => by
    have hf := (hlist ed.on).2 hc
    simp only [Array.getD_eq_getD_getElem?] at hf hb
    cases hx : listed[ed.on]? with
    | none => rw [hx] at hb; simp at hb
    | some x => rw [hx] at hb hf; simp at hb hf; rw [hb] at hf; cases hf
   simpa using this
 ·rintro ⟨hi, hr⟩
  have hlt : i < ops.size := by
   unfold Ap at hr
   rcases Nat.lt_or_ge i ops.size with h | h
   ·exact h
   ·rw [Array.getElem?_eq_none h] at hr; cases hr
  refine ⟨hlt, (hlist i).2 hi, ?_⟩
  obtain ⟨o, ho⟩ : ∃ o, ops[i]? = some o := ⟨ops[i], Array.getElem?_eq_getElem hlt⟩
  simp only [Ap, ho, Array.all_eq_true'] at hr
  simp only [ho, Option.map_some, Option.getD_some, Array.all_eq_true']
  intro ed hm
  have := hr ed hm
  simp only [Bool.or_eq_true, Bool.not_eq_true'] at this ⊢
  refine this.imp id (fun hb => ?_)
  have hb' : ed.on ∉ U := by simpa using hb
  have hlt2 := Nu hd ho hm
  have hf : listed.getD ed.on true = true := by
   cases hx : listed.getD ed.on true with
   | true => rfl
   | false => exact absurd ((hlist ed.on).1 hx) hb'
  have hlt3 : ed.on < listed.size := by omega
  simp only [Array.getD, hlt3, dif_pos] at hf ⊢
  exact hf
def WO (ops : Array Oper) (S T : List Nat) : Bool := S.all fun k => (ops[k]?).any fun o => o.after.all fun e => !Region.binds .any e || !T.contains e.on
theorem Tl {S0 S T : List Nat} (hb : WO ops S0 T = true) {i : Nat} (hi : i ∈ S0) (hr : Ap ops S i = true) : Ap ops (S ++ T) i = true := by
 have h0 := all_eq_true.1 hb i hi
 unfold Ap at hr ⊢
 cases ho : ops[i]? with
 | none => rw [ho] at hr; cases hr
 | some o =>
  rw [ho] at hr h0
  simp only [Option.any_some, Array.all_eq_true'] at hr h0 ⊢
  intro ed hm
  have h1 := hr ed hm
  have h2 := h0 ed hm
  cases hbi : Region.binds .any ed with
  | false => rfl
  | true =>
   simp only [hbi, Bool.not_true, Bool.false_or, Bool.not_eq_true', contains_eq_mem, decide_eq_false_iff_not] at h1 h2 ⊢
   rw [mem_append]; exact fun h => h.elim h1 h2
theorem D.sound (hd : EA ops = true) {W : World} {ds : List Deferred} {Q : Exit → Act → World → Prop} {S0 T : List Nat} (hblk : RN ops S0 T = true) (hback : WO ops S0 T = true)
  (hfin : ∀ e RW a w fuel listed, Fin e RW → T.length ≤ fuel → (∀ i, listed.getD i true = false ↔ i ∈ T) → listed.size = ops.size → MA n ds e a → Az W w → St (RO ++ RW) w → wpAny P .any ops Q fuel listed a w) :
  ∀ (fuel : Nat) (S : List Nat) (e : EF) (RW : List HP) (listed : Array Bool) (a : Act) (w : World), D P ops n RO H I Fin S e RW → (∀ x ∈ S, x ∈ S0) →
  S.Nodup → (∀ x ∈ S, x ∉ T) → S.length + T.length ≤ fuel → (∀ i, listed.getD i true = false ↔ i ∈ S ++ T) → listed.size = ops.size →
  MA n ds e a → Az W w → St (RO ++ RW) w → (∀ y ∈ S0, y ∉ S → ∀ x ∈ S, E7 ops y x = false) → wpAny P .any ops Q fuel listed a w := by
 intro fuel
 induction fuel with
 | zero =>
  intro S e RW listed a w hD hS0 hn hdis hl hlist hsz he hk hs hcl
  have hS : S = [] := length_eq_zero_iff.1 (by omega)
  subst hS
  rcases hD.some_ready with ⟨_, hf⟩ | ⟨i, hi, _⟩
  ·exact hfin _ _ _ _ _ _ hf (by omega) (by simpa using hlist) hsz he hk hs
  ·cases hi
 | succ fuel ih =>
  intro S e RW listed a w hD hS0 hn hdis hl hlist hsz he hk hs hcl
  rcases hD.some_ready with ⟨hS, hf⟩ | ⟨i0, hi0, hr0⟩
  ·subst hS
   exact hfin _ _ _ _ _ _ hf (by simpa using hl) (by simpa using hlist) hsz he hk hs
  have mem := Mr hd hlist hsz
  refine ⟨fun hnil => ?_, fun i hi => ?_⟩
  ·have := (mem i0).2 ⟨by simp [hi0], Tl hback (hS0 _ hi0) hr0⟩
   rw [hnil] at this; cases this
  ·obtain ⟨hiU, hriU⟩ := (mem i).1 hi
   have hiS : i ∈ S := by
    rcases mem_append.1 hiU with h | h
    ·exact h
    ·exact (X9 hblk hcl (hS0 _ hi0) hi0 h hriU).elim
   have hri : Ap ops S i = true := Dy (fun x hx => by simp [hx]) hriU
   have hlt : i < listed.size := by
    have := (mem_filter.1 hi).1
    rw [hsz]; exact mem_range.1 this
   have hiT : i ∉ T := hdis i hiS
   have hlist' : ∀ k, (listed.setIfInBounds i true).getD k true = false ↔ k ∈ S.erase i ++ T := by
    intro k
    by_cases hki : k = i
    ·subst hki
     have : k ∉ S.erase k := fun h => (List.Nodup.mem_erase_iff hn).1 h |>.1 rfl
     simp [Array.getD_eq_getD_getElem?, hlt, this, hiT]
    ·rw [mem_append, mem_erase_of_ne hki, ← mem_append, ← hlist k]
     simp [Array.getD_eq_getD_getElem?, Array.getElem?_setIfInBounds, Ne.symm hki]
   have hlen : (S.erase i).length + T.length ≤ fuel := by
    rw [length_erase_of_mem hiS]
    have := length_pos_of_mem hiS
    omega
   have hnd : (S.erase i).Nodup := hn.erase i
   have hsz' : (listed.setIfInBounds i true).size = ops.size := by simpa using hsz
   have hS0' : ∀ x ∈ S.erase i, x ∈ S0 := fun x hx => hS0 x (mem_of_mem_erase hx)
   have hdis' : ∀ x ∈ S.erase i, x ∉ T := fun x hx => hdis x (mem_of_mem_erase hx)
   have hcl' : ∀ y ∈ S0, y ∉ S.erase i → ∀ x ∈ S.erase i, E7 ops y x = false := by
    intro y hy hyS x hx
    by_cases hyi : y = i
    ·rw [hyi]; exact E5 hri (mem_of_mem_erase hx)
    ·exact hcl y hy (fun h => hyS ((mem_erase_of_ne hyi).2 h)) x (mem_of_mem_erase hx)
   rcases hD.step hd hn i hiS hri with ⟨o, v, ho, hds, ha, hD'⟩ | ⟨o, pre, F, K, _, ho, hg, hds, hp, hspec, hD'⟩
   ·unfold wpOp
    simp only [ho]
    rcases ha with ⟨hg, hq⟩ | ⟨hg, rfl⟩
    ·rw [if_pos (Ln he hg)]
     refine .inl ?_
     refine (hq a.eval w [] he.agrees (by rw [append_nil]; exact hs)).wp ?_
     rintro u w' ⟨_, ⟨rfl, rfl⟩, hs2, hk2⟩
     rw [append_nil] at hs2
     exact ih _ _ _ _ _ _ hD' hS0' hnd hdis' hlen hlist' hsz' (he.put hds _) (hk.trans hk2) hs2 hcl'
    ·rw [if_neg (by rw [O3 he hg]; simp)]
     exact ih _ _ _ _ _ _ hD' hS0' hnd hdis' hlen hlist' hsz' (he.put hds _) hk hs hcl'
   ·unfold wpOp
    simp only [ho]
    rw [if_pos (Ln he hg)]
    refine .inl ?_
    have hs' : St (pre ++ (RO ++ F)) w := hs.perm (by
     have h1 : (RO ++ RW).Perm (RO ++ (pre ++ F)) := List.Perm.append_left _ hp.perm
     refine h1.trans ?_
     rw [← append_assoc, ← append_assoc]
     exact List.Perm.append_right _ perm_append_comm)
    refine (hspec a.eval w F he.agrees hs').wp ?_
    rintro v w' ⟨L', hv, hs2, hk2⟩
    refine ih _ _ _ _ _ _ (hD' v L' hv).2 hS0' hnd hdis' hlen hlist' hsz' (he.put hds _) (hk.trans hk2) (hs2.perm ?_) hcl'
    rw [← append_assoc, ← append_assoc]
    exact List.Perm.append_right _ perm_append_comm
def Ni : List Nat → Bool
 | [] => true
 | x :: xs => !xs.contains x && Ni xs
theorem We {S : List Nat} (h : Ni S = true) : S.Nodup := by
 induction S with
 | nil => exact nodup_nil
 | cons x xs ih =>
  simp only [Ni, Bool.and_eq_true, Bool.not_eq_true'] at h
  exact nodup_cons.2 ⟨by simpa using h.1, ih h.2⟩
def Yi (n : Nat) (S : List Nat) : Bool := Nat.beq S.length n && S.all (fun i => Nat.blt i n) && Ni S && (List.range n).all fun i => S.contains i
def DC (P : Program) (ops : Array Oper) (n : Nat) (H : List Nat) (W : World) (ds : List Deferred) (X : Act → World → Prop) : List (List Nat) → EF → List HP → Prop
 | [], e, L => ∀ a w, MA n ds e a → Az W w → St L w → X a w
 | S :: Ss, e, L => ∃ (RO RW : List HP) (I : List HP → Prop), Am RO L RW ∧ D P ops n RO H I (fun e' RW' => DC P ops n H W ds X Ss e' (RO ++ RW')) S e RW
def Nj (ops : Array Oper) : List (List Nat) → Bool
 | [] => true
 | S :: Ss => RN ops S Ss.flatten && WO ops S Ss.flatten && Nj ops Ss
theorem DC.sound (hd : EA ops = true) {W : World} {ds : List Deferred} {Q : Exit → Act → World → Prop} : ∀ (Ss : List (List Nat)), Nj ops Ss = true → Ss.flatten.Nodup →
  ∀ (e : EF) (L : List HP) (fuel : Nat) (listed : Array Bool) (a : Act) (w : World), DC P ops n H W ds (Q .normal) Ss e L → Ss.flatten.length ≤ fuel → (∀ i, listed.getD i true = false ↔ i ∈ Ss.flatten) → listed.size = ops.size →
  MA n ds e a → Az W w → St L w → wpAny P .any ops Q fuel listed a w := by
 intro Ss
 induction Ss with
 | nil =>
  intro _ _ e L fuel listed a w hP hl hlist hsz he hk hs
  have hq := hP a w he hk hs
  have hnil : Region.ready .any ops listed = [] := by
   rw [eq_nil_iff_forall_not_mem]
   intro i hi
   have := ((Mr hd hlist hsz i).1 hi).1
   cases this
  cases fuel with
  | zero => exact ⟨hnil, hq⟩
  | succ fuel => exact ⟨fun _ => hq, fun i hi => by rw [hnil] at hi; cases hi⟩
 | cons S Ss ih =>
  intro hc hn e L fuel listed a w hP hl hlist hsz he hk hs
  simp only [Nj, Bool.and_eq_true] at hc
  simp only [flatten_cons] at hn hl hlist
  obtain ⟨RO, RW, I, hL, hD⟩ := hP
  have hn' := nodup_append.1 hn
  refine D.sound hd (RO := RO) (T := Ss.flatten) hc.1.1 hc.1.2 (fun e' RW' a' w' fuel' listed' hf hl' hlist' hsz' he' hk' hs' => ?_) fuel S e RW listed a w hD (fun x hx => hx) hn'.1 (fun x hx hx' => hn'.2.2 x hx x hx' rfl) (by simpa using hl) hlist hsz he hk (hs.picks hL) (fun y hy hyS => absurd hy hyS)
  exact ih hc.2 hn'.2.1 e' _ fuel' listed' a' w' hf hl' hlist' hsz' he' hk' hs'
theorem G.draw {W : World} {ds : List Deferred} {Q : Exit → Act → World → Prop} {E : By} {L : List HP} {id : Nat} {l : List Oper} (H : List Nat) (Ss : List (List Nat)) (hm : P.follows .mixedOrders = true)
  (hc : (EA l.toArray && Yi l.toArray.size Ss.flatten && Nj l.toArray Ss) = true)
  (h : DC P l.toArray n H W ds (Q .normal) Ss (look E) L) : G W n ds E L ((Code.region id l.toArray true).wp P Q) := by
 intro a w he hk hs
 simp only [Bool.and_eq_true] at hc
 have hp := hc.1.2
 simp only [Yi, Bool.and_eq_true, Nat.beq_eq] at hp
 have hlen : Ss.flatten.length = l.toArray.size := hp.1.1.1
 have hmem : ∀ i, i ∈ Ss.flatten ↔ i < l.toArray.size := by
  intro i
  constructor
  ·intro hi; have := all_eq_true.1 hp.1.1.2 i hi; simpa [Nat.blt_eq] using this
  ·intro hi; have := all_eq_true.1 hp.2 i (mem_range.2 hi); simpa using this
 have hn : Ss.flatten.Nodup := We hp.1.2
 refine wp_region_any hm (DC.sound (H := H) hc.1.1 Ss hc.2 hn (look E) L _ _ _ _ h (by omega) ?_ (by simp) ⟨he.size, he.defers, he.slots⟩ (hk.trans (Az.drew w)) hs.drew)
 intro i
 rw [hmem]
 simp only [Array.getD_eq_getD_getElem?, Array.getElem?_replicate, size_toArray]
 by_cases hlt : i < l.length <;> simp [hlt]
theorem DC.go {W : World} {ds : List Deferred} {X : Act → World → Prop} {e : EF} {L RW : List HP} {S : List Nat} {Ss : List (List Nat)} (RO : List HP) (hL : Am RO L RW)
  (h : D P ops n RO H Qj (fun e' RW' => DC P ops n H W ds X Ss e' (RO ++ RW')) S e RW) : DC P ops n H W ds X (S :: Ss) e L := ⟨RO, RW, Qj, hL, h⟩
theorem D.ph {W : World} {ds : List Deferred} {X : Act → World → Prop} {e : EF} {RW : List HP} {Ss : List (List Nat)} (h : DC P ops n H W ds X Ss e (RO ++ RW)) :
  D P ops n RO H I (fun e' RW' => DC P ops n H W ds X Ss e' (RO ++ RW')) [] e RW := .done h
theorem DC.fin {W : World} {ds : List Deferred} {X : Act → World → Prop} {E : By} {L : List HP} (h : G W n ds E L X) : DC P ops n H W ds X [] (look E) L :=
 fun a w he hk hs => h a w ⟨he.size, he.defers, he.slots⟩ hk hs
theorem Db.of {o : Oper} {E : By} {pre : List HP} {K : Value → List HP → Prop} (h : AI P ⟨none, o.op, o.type, "", #[], none⟩ E pre K) : Db P o (look E) pre K :=
 fun ρ w F ha hs => h ρ w F (fun x u hx => ha x u (by rwa [← Qw])) hs
theorem Eo.own {RO : List HP} {o : Oper} {E : By} {pre : List HP} {K : Value → List HP → Prop} (h : AI P ⟨none, o.op, o.type, "", #[], none⟩ E pre K) : Eo P RO o (look E) pre K :=
 fun ρ w F ha hs => h ρ w (RO ++ F) (fun x u hx => ha x u (by rwa [← Qw])) hs
theorem Eo.ro {RO : List HP} {o : Oper} {E : By} (qs : List HP) {pre R : List HP} {K : Value → List HP → Prop} (h : AI P ⟨none, o.op, o.type, "", #[], none⟩ E (qs ++ pre) (fun v L => ∃ L', L = qs ++ L' ∧ K v L')) (hq : Am qs RO R) : Eo P RO o (look E) pre K := by
 intro ρ w F ha hs
 have hp : (pre ++ (RO ++ F)).Perm ((qs ++ pre) ++ (R ++ F)) := by
  have h1 : (RO ++ F).Perm (qs ++ (R ++ F)) := by rw [← append_assoc]; exact List.Perm.append_right F hq.perm
  refine (List.Perm.append_left pre h1).trans ?_
  rw [← append_assoc]
  exact List.Perm.append_right _ perm_append_comm
 refine (h ρ w (R ++ F) (fun x u hx => ha x u (by rwa [← Qw])) (hs.perm hp)).mono ?_
 rintro v w' ⟨L0, ⟨L', rfl, hv⟩, hs', hk⟩
 refine ⟨L', hv, hs'.perm ?_, hk⟩
 have h1 : (RO ++ F).Perm (qs ++ (R ++ F)) := by rw [← append_assoc]; exact List.Perm.append_right F hq.perm
 refine List.Perm.trans ?_ (List.Perm.append_left L' h1.symm)
 have h2 : ((qs ++ L') ++ (R ++ F)).Perm ((L' ++ qs) ++ (R ++ F)) := List.Perm.append_right _ perm_append_comm
 rw [append_assoc L'] at h2
 exact h2
theorem Fv.of {o : Oper} {E : By} {L : List HP} {v : Value} (h : AH P ⟨none, o.op, o.type, "", #[], none⟩ E L v) : Fv P o (look E) L v := Db.of h.spec
theorem Fv.ofSpec {o : Oper} {E : By} {L L0 R : List HP} {v : Value} (h : AI P ⟨none, o.op, o.type, "", #[], none⟩ E L0 fun u L' => u = v ∧ L' = L0) (hL : Am L0 L R) : Fv P o (look E) L v := by
 intro ρ w F ha hs
 have hp : (L ++ F).Perm (L0 ++ (R ++ F)) := by
  rw [← append_assoc]; exact List.Perm.append_right F hL.perm
 refine ((Db.of h) ρ w (R ++ F) ha (hs.perm hp)).mono ?_
 rintro u w' ⟨_, ⟨rfl, rfl⟩, hs', hk⟩
 exact ⟨_, ⟨rfl, rfl⟩, hs'.perm hp.symm, hk⟩
section
variable {j : Nat} {S : List Nat} {E : By} {RW : List HP} {d : Nat} {op : Op} {ty : TypeId} {pos : String} {aft : Array Edge} {v : Value}
theorem D.q (hi : ops[j]? = some ⟨some d, op, ty, pos, aft, none⟩) (hc : (Ap ops (j :: S) j && Nat.blt d n) = true) (hq : AH P ⟨none, op, ty, "", #[], none⟩ E RO v)
  (h : D P ops n RO H I Fin S (look ((d, v) :: E)) RW) : D P ops n RO H I Fin (j :: S) (look E) RW := by
 simp only [Bool.and_eq_true] at hc
 exact .quiet hi hc.1 hc.2 (.inl ⟨.inl rfl, Fv.of hq⟩) (by rw [GG] at h; exact h)
theorem D.qw (A : List Nat) (hi : ops[j]? = some ⟨some d, op, ty, pos, aft, none⟩) (hc : (Ap ops (j :: S) j && Nat.blt d n && EX ops H j S A) = true) (hq : AH P ⟨none, op, ty, "", #[], none⟩ E (RO ++ RW) v)
  (h : D P ops n RO H I Fin S (look ((d, v) :: E)) RW) : D P ops n RO H I Fin (j :: S) (look E) RW := by
 simp only [Bool.and_eq_true] at hc
 exact .quietW A hi hc.1.1 hc.1.2 hc.2 (.inl ⟨.inl rfl, Fv.of hq⟩) (by rw [GG] at h; exact h)
theorem D.gqw (A : List Nat) {k t : Nat} {b : Bool} (hi : ops[j]? = some ⟨some d, op, ty, pos, aft, some (k, b)⟩) (hk : DN ops k = some t) (hl : look E t = some (.bool b)) (hc : (Ap ops (j :: S) j && Nat.blt d n && EX ops H j S A) = true) (hq : AH P ⟨none, op, ty, "", #[], none⟩ E (RO ++ RW) v)
  (h : D P ops n RO H I Fin S (look ((d, v) :: E)) RW) : D P ops n RO H I Fin (j :: S) (look E) RW := by
 simp only [Bool.and_eq_true] at hc
 exact .quietW A hi hc.1.1 hc.1.2 hc.2 (.inl ⟨.inr ⟨k, b, t, rfl, hk, hl⟩, Fv.of hq⟩) (by rw [GG] at h; exact h)
theorem D.m {dd : Option Nat} {L0 R : List HP} (hi : ops[j]? = some ⟨dd, op, ty, pos, aft, none⟩) (hc : (Ap ops (j :: S) j && CY dd n) = true) (hq : AI P ⟨none, op, ty, "", #[], none⟩ E L0 fun u L' => u = v ∧ L' = L0) (hL : Am L0 RO R)
  (h : D P ops n RO H I Fin S (look (F9 dd v E)) RW) : D P ops n RO H I Fin (j :: S) (look E) RW := by
 simp only [Bool.and_eq_true] at hc
 exact .quiet hi hc.1 hc.2 (.inl ⟨.inl rfl, Fv.ofSpec hq hL⟩) (by rw [Da] at h; exact h)
theorem D.gm {dd : Option Nat} {L0 R : List HP} {k t : Nat} {b : Bool} (hi : ops[j]? = some ⟨dd, op, ty, pos, aft, some (k, b)⟩) (hk : DN ops k = some t) (hl : look E t = some (.bool b)) (hc : (Ap ops (j :: S) j && CY dd n) = true) (hq : AI P ⟨none, op, ty, "", #[], none⟩ E L0 fun u L' => u = v ∧ L' = L0) (hL : Am L0 RO R)
  (h : D P ops n RO H I Fin S (look (F9 dd v E)) RW) : D P ops n RO H I Fin (j :: S) (look E) RW := by
 simp only [Bool.and_eq_true] at hc
 exact .quiet hi hc.1 hc.2 (.inl ⟨.inr ⟨k, b, t, rfl, hk, hl⟩, Fv.ofSpec hq hL⟩) (by rw [Da] at h; exact h)
theorem D.mw (A : List Nat) {dd : Option Nat} {L0 R : List HP} (hi : ops[j]? = some ⟨dd, op, ty, pos, aft, none⟩) (hc : (Ap ops (j :: S) j && CY dd n && EX ops H j S A) = true) (hq : AI P ⟨none, op, ty, "", #[], none⟩ E L0 fun u L' => u = v ∧ L' = L0) (hL : Am L0 (RO ++ RW) R)
  (h : D P ops n RO H I Fin S (look (F9 dd v E)) RW) : D P ops n RO H I Fin (j :: S) (look E) RW := by
 simp only [Bool.and_eq_true] at hc
 exact .quietW A hi hc.1.1 hc.1.2 hc.2 (.inl ⟨.inl rfl, Fv.ofSpec hq hL⟩) (by rw [Da] at h; exact h)
theorem D.gs {dd : Option Nat} {k t : Nat} {b c : Bool} (hi : ops[j]? = some ⟨dd, op, ty, pos, aft, some (k, b)⟩) (hk : DN ops k = some t) (hl : look E t = some (.bool c)) (hbc : (c == !b) = true) (hc : (Ap ops (j :: S) j && CY dd n) = true)
  (h : D P ops n RO H I Fin S (look (F9 dd undef E)) RW) : D P ops n RO H I Fin (j :: S) (look E) RW := by
 simp only [Bool.and_eq_true] at hc
 have : c = !b := by simpa using hbc
 subst this
 exact .quiet hi hc.1 hc.2 (.inr ⟨⟨k, b, t, _, rfl, hk, hl, .inl rfl⟩, rfl⟩) (by rw [Da] at h; exact h)
def J2 (ops : Array Oper) (j : Nat) (S : List Nat) : Bool := Ap ops (j :: S) j && S.all fun i => Nat.beq i j || !Ap ops (j :: S) i
theorem D.h {dd : Option Nat} {pre F : List HP} {K : Value → List HP → Prop} (hi : ops[j]? = some ⟨dd, op, ty, pos, aft, none⟩) (hc : (J2 ops j S && H.contains j && CY dd n) = true) (hp : AI P ⟨none, op, ty, "", #[], none⟩ E pre K) (hL : Am pre RW F)
  (h : ∀ v L', K v L' → D P ops n RO H Qj Fin S (look (F9 dd v E)) (L' ++ F)) : D P ops n RO H Qj Fin (j :: S) (look E) RW := by
 simp only [Bool.and_eq_true, J2] at hc
 have only : ∀ i, i ∈ j :: S → Ap ops (j :: S) i = true → i = j := by
  intro i hi hr
  rcases mem_cons.1 hi with rfl | hi
  ·rfl
  ·have := all_eq_true.1 hc.1.1.2 i hi
   rw [hr] at this
   simpa using this
 refine .heavy (fun _ => ⟨dd, op, ty, pos, aft, none⟩) (fun _ => pre) (fun _ => F) (fun _ => K) ⟨j, by simp, hc.1.1.1⟩ ?_ (fun _ _ _ _ _ _ => trivial) ?_
 ·intro i hi' hr
  obtain rfl := only i hi' hr
  exact ⟨hc.1.2, hi, .inl rfl, hc.2, hL, Eo.own hp⟩
 ·intro i hi' hr v L' hv
  obtain rfl := only i hi' hr
  have := h v L' hv
  rw [Da] at this
  simpa using this
theorem D.hR {dd : Option Nat} {pre F : List HP} {K : Value → List HP → Prop} (hi : ops[j]? = some ⟨dd, op, ty, pos, aft, none⟩) (hc : (J2 ops j S && H.contains j && CY dd n) = true) (hp : Eo P RO ⟨none, op, ty, "", #[], none⟩ (look E) pre K) (hL : Am pre RW F)
  (h : ∀ v L', K v L' → D P ops n RO H Qj Fin S (look (F9 dd v E)) (L' ++ F)) : D P ops n RO H Qj Fin (j :: S) (look E) RW := by
 simp only [Bool.and_eq_true, J2] at hc
 have only : ∀ i, i ∈ j :: S → Ap ops (j :: S) i = true → i = j := by
  intro i hi hr
  rcases mem_cons.1 hi with rfl | hi
  ·rfl
  ·have := all_eq_true.1 hc.1.1.2 i hi
   rw [hr] at this
   simpa using this
 refine .heavy (fun _ => ⟨dd, op, ty, pos, aft, none⟩) (fun _ => pre) (fun _ => F) (fun _ => K) ⟨j, by simp, hc.1.1.1⟩ ?_ (fun _ _ _ _ _ _ => trivial) ?_
 ·intro i hi' hr
  obtain rfl := only i hi' hr
  exact ⟨hc.1.2, hi, .inl rfl, hc.2, hL, fun ρ w F ha hs => hp ρ w F ha hs⟩
 ·intro i hi' hr v L' hv
  obtain rfl := only i hi' hr
  have := h v L' hv
  rw [Da] at this
  simpa using this
def Vn (ops : Array Oper) (j k : Nat) (S : List Nat) : Bool := Ap ops (j :: S) j && Ap ops (j :: S) k && S.contains k && !Nat.beq k j && S.all fun i => Nat.beq i j || Nat.beq i k || !Ap ops (j :: S) i
theorem D.h2R {k : Nat} {dd dk : Option Nat} {op' : Op} {ty' : TypeId} {pos' : String} {aft' : Array Edge} {pre F pre' F' : List HP} {K K' : Value → List HP → Prop} {S2 : List Nat} (hi : ops[j]? = some ⟨dd, op, ty, pos, aft, none⟩) (hk : ops[k]? = some ⟨dk, op', ty', pos', aft', none⟩)
  (hc : (Vn ops j k S && H.contains j && H.contains k && CY dd n && CY dk n) = true) (hS2 : (j :: S).erase k = S2) (hp : Eo P RO ⟨none, op, ty, "", #[], none⟩ (look E) pre K) (hL : Am pre RW F) (hp' : Eo P RO ⟨none, op', ty', "", #[], none⟩ (look E) pre' K') (hL' : Am pre' RW F')
  (h : ∀ v L', K v L' → D P ops n RO H Qj Fin S (look (F9 dd v E)) (L' ++ F)) (h' : ∀ v L', K' v L' → D P ops n RO H Qj Fin S2 (look (F9 dk v E)) (L' ++ F')) : D P ops n RO H Qj Fin (j :: S) (look E) RW := by
 simp only [Bool.and_eq_true, Vn] at hc
 obtain ⟨⟨⟨⟨⟨⟨⟨⟨c1, c2⟩, c3⟩, c4⟩, c5⟩, c6⟩, c7⟩, c8⟩, c9⟩ := hc
 have hkj : k ≠ j := by rintro rfl; simp at c4
 have only : ∀ i, i ∈ j :: S → Ap ops (j :: S) i = true → i = j ∨ i = k := by
  intro i hi hr
  rcases mem_cons.1 hi with rfl | hi
  ·exact .inl rfl
  ·have := all_eq_true.1 c5 i hi
   rw [hr] at this
   simpa using this
 refine .heavy (fun i => if i = j then ⟨dd, op, ty, pos, aft, none⟩ else ⟨dk, op', ty', pos', aft', none⟩) (fun i => if i = j then pre else pre') (fun i => if i = j then F else F') (fun i => if i = j then K else K') ⟨j, by simp, c1⟩ ?_ (fun _ _ _ _ _ _ => trivial) ?_
 ·intro i hi' hr
  rcases only i hi' hr with rfl | rfl
  ·simp only [if_true]
   exact ⟨c6, hi, .inl rfl, c8, hL, fun ρ w F ha hs => hp ρ w F ha hs⟩
  ·simp only [if_neg hkj]
   exact ⟨c7, hk, .inl rfl, c9, hL', fun ρ w F ha hs => hp' ρ w F ha hs⟩
 ·intro i hi' hr v L' hv
  rcases only i hi' hr with rfl | rfl
  ·simp only [if_true] at hv ⊢
   have := h v L' hv
   rw [Da] at this
   simpa using this
  ·simp only [if_neg hkj] at hv ⊢
   have := h' v L' hv
   rw [Da] at this
   rw [hS2]
   exact this
theorem D.gh {dd : Option Nat} {k t : Nat} {b : Bool} {pre F : List HP} {K : Value → List HP → Prop} (hi : ops[j]? = some ⟨dd, op, ty, pos, aft, some (k, b)⟩) (hk : DN ops k = some t) (hl : look E t = some (.bool b)) (hc : (J2 ops j S && H.contains j && CY dd n) = true) (hp : AI P ⟨none, op, ty, "", #[], none⟩ E pre K) (hL : Am pre RW F)
  (h : ∀ v L', K v L' → D P ops n RO H Qj Fin S (look (F9 dd v E)) (L' ++ F)) : D P ops n RO H Qj Fin (j :: S) (look E) RW := by
 simp only [Bool.and_eq_true, J2] at hc
 have only : ∀ i, i ∈ j :: S → Ap ops (j :: S) i = true → i = j := by
  intro i hi hr
  rcases mem_cons.1 hi with rfl | hi
  ·rfl
  ·have := all_eq_true.1 hc.1.1.2 i hi
   rw [hr] at this
   simpa using this
 refine .heavy (fun _ => ⟨dd, op, ty, pos, aft, some (k, b)⟩) (fun _ => pre) (fun _ => F) (fun _ => K) ⟨j, by simp, hc.1.1.1⟩ ?_ (fun _ _ _ _ _ _ => trivial) ?_
 ·intro i hi' hr
  obtain rfl := only i hi' hr
  exact ⟨hc.1.2, hi, .inr ⟨k, b, t, rfl, hk, hl⟩, hc.2, hL, Eo.own hp⟩
 ·intro i hi' hr v L' hv
  obtain rfl := only i hi' hr
  have := h v L' hv
  rw [Da] at this
  simpa using this
theorem D.bool {t : Nat} {b : Bool} (hl : look E t = some (.bool b)) (hT : b = true → D P ops n RO H I Fin S (look ((t, .bool true) :: E)) RW) (hF : b = false → D P ops n RO H I Fin S (look ((t, .bool false) :: E)) RW) : D P ops n RO H I Fin S (look E) RW := by
 have key : look ((t, Value.bool b) :: E) = look E := by
  rw [GG]; funext s; simp only [C1]
  by_cases h : s = t
  ·subst h; rw [if_pos rfl, hl]
  ·rw [if_neg h]
 cases b
 ·rw [← key]; exact hF rfl
 ·rw [← key]; exact hT rfl
theorem D.kB {t : Nat} {b c : Bool} (hl : look E t = some (.bool b)) (hb : b = c) (h : D P ops n RO H I Fin S (look ((t, .bool c) :: E)) RW) : D P ops n RO H I Fin S (look E) RW := by
 subst hb
 exact D.bool hl (fun e => by subst e; exact h) (fun e => by subst e; exact h)
theorem D.kDT {t : Nat} {φ : Prop} [Decidable φ] (hl : look E t = some (.bool (decide φ))) (hb : φ) (h : D P ops n RO H I Fin S (look ((t, .bool true) :: E)) RW) : D P ops n RO H I Fin S (look E) RW := D.kB hl (decide_eq_true hb) h
theorem D.kDF {t : Nat} {φ : Prop} [Decidable φ] (hl : look E t = some (.bool (decide φ))) (hb : ¬ φ) (h : D P ops n RO H I Fin S (look ((t, .bool false) :: E)) RW) : D P ops n RO H I Fin S (look E) RW := D.kB hl (decide_eq_false hb) h
theorem D.kNT {t : Nat} {φ : Prop} [Decidable φ] (hl : look E t = some (.bool (!decide φ))) (hb : ¬ φ) (h : D P ops n RO H I Fin S (look ((t, .bool true) :: E)) RW) : D P ops n RO H I Fin S (look E) RW := D.kB hl (by simpa using hb) h
theorem D.kNF {t : Nat} {φ : Prop} [Decidable φ] (hl : look E t = some (.bool (!decide φ))) (hb : φ) (h : D P ops n RO H I Fin S (look ((t, .bool false) :: E)) RW) : D P ops n RO H I Fin S (look E) RW := D.kB hl (by simpa using hb) h
theorem D.dec {t : Nat} {φ : Prop} [Decidable φ] (hl : look E t = some (.bool (decide φ))) (hT : φ → D P ops n RO H I Fin S (look ((t, .bool true) :: E)) RW) (hF : ¬ φ → D P ops n RO H I Fin S (look ((t, .bool false) :: E)) RW) : D P ops n RO H I Fin S (look E) RW :=
 D.bool hl (fun e => hT (of_decide_eq_true e)) (fun e => hF (of_decide_eq_false e))
theorem D.ndec {t : Nat} {φ : Prop} [Decidable φ] (hl : look E t = some (.bool (!decide φ))) (hT : ¬ φ → D P ops n RO H I Fin S (look ((t, .bool true) :: E)) RW) (hF : φ → D P ops n RO H I Fin S (look ((t, .bool false) :: E)) RW) : D P ops n RO H I Fin S (look E) RW :=
 D.bool hl (fun e => hT (by simpa using e)) (fun e => hF (by simpa using e))
end
end
section
variable {P : Program} {W : World} {n : Nat} {ds : List Deferred} {E : By} {L : List HP} {Q : Exit → Act → World → Prop} {next : Act → World → Prop}
theorem G.mv {ops : Array Oper} {d : Nat} {x : Operand} {ty : TypeId} {pos : String} {aft : Array Edge} {rest : List Oper} {v : Value} (hx : ev E x = some v) (hd : Nat.blt d n = true) (h : G W n ds ((d, v) :: E) L (wpList P ops Q rest)) : G W n ds E L (wpList P ops Q (⟨some d, .move x, ty, pos, aft, none⟩ :: rest)) := G.q (AH.move hx) hd h
theorem G.ag {ops : Array Oper} {d : Nat} {x : Operand} {ty : TypeId} {pos : String} {aft : Array Edge} {rest : List Oper} {v : Value} (hx : ev E x = some v) (hd : Nat.blt d n = true) (h : G W n ds ((d, v) :: E) L (wpList P ops Q rest)) : G W n ds E L (wpList P ops Q (⟨some d, .assign x, ty, pos, aft, none⟩ :: rest)) := G.q (AH.assign hx) hd h
theorem G.oq {ops : Array Oper} {d : Option Nat} {op : Op} {ty : TypeId} {pos : String} {aft : Array Edge} {rest : List Oper} {pre F : List HP} {K : Value → List HP → Prop}
  (hp : AI P ⟨none, op, ty, "", #[], none⟩ E pre K) (h : ∀ v L', K v L' → G W n ds (F9 d v E) (L' ++ F) (wpList P ops Q rest)) (hL : Am pre L F := by repeat' constructor) (hd : CY d n = true := by rfl) : G W n ds E L (wpList P ops Q (⟨d, op, ty, pos, aft, none⟩ :: rest)) := G.op hp hL hd h
theorem AH.ld {R : List HP} {ty t : TypeId} {x : Operand} {b off : Nat} {l : List Value} {T : TypeId} {fr : Nat × Nat} {v : Value} (hx : ev E x = some (.pointer (some ⟨b, off, none⟩)))
  (hp : A7 P t = some none) (hL : BT (pt b (.cells l.toArray T fr)) L R := by repeat' constructor) (hc : l[off]? = some v := by rfl) : AH P ⟨none, .load t x, ty, "", #[], none⟩ E L v := AH.load hx hp hL hc
theorem G.u {ops : Array Oper} {d : Nat} {op : Op} {ty : TypeId} {pos : String} {aft : Array Edge} {rest : List Oper} {v : Value} (hp : AH P ⟨none, op, ty, "", #[], none⟩ E L v) (h : G W n ds ((d, v) :: E) L (wpList P ops Q rest)) (hd : Nat.blt d n = true := by rfl) : G W n ds E L (wpList P ops Q (⟨some d, op, ty, pos, aft, none⟩ :: rest)) := G.q hp hd h
theorem G.ui {ops : Array Oper} {d : Nat} {op : BinOp} {t t' ty : TypeId} {x y : Operand} {k : IntKind} {a b : Int} {v : Value} {pos : String} {aft : Array Edge} {rest : List Oper} (hx : ev E x = some (.int k a)) (hy : ev E y = some (.int k b)) (hv : NA op k a b = some v) (h : G W n ds ((d, v) :: E) L (wpList P ops Q rest)) (hd : Nat.blt d n = true := by rfl) : G W n ds E L (wpList P ops Q (⟨some d, .binOp op t x y t', ty, pos, aft, none⟩ :: rest)) := G.q (AH.int hx hy hv) hd h
theorem G.m {ops : Array Oper} {d : Nat} {x : Operand} {ty : TypeId} {pos : String} {aft : Array Edge} {rest : List Oper} {v : Value} (hx : ev E x = some v) (h : G W n ds ((d, v) :: E) L (wpList P ops Q rest)) (hd : Nat.blt d n = true := by rfl) : G W n ds E L (wpList P ops Q (⟨some d, .move x, ty, pos, aft, none⟩ :: rest)) := G.q (AH.move hx) hd h
theorem G.a {ops : Array Oper} {d : Nat} {x : Operand} {ty : TypeId} {pos : String} {aft : Array Edge} {rest : List Oper} {v : Value} (hx : ev E x = some v) (h : G W n ds ((d, v) :: E) L (wpList P ops Q rest)) (hd : Nat.blt d n = true := by rfl) : G W n ds E L (wpList P ops Q (⟨some d, .assign x, ty, pos, aft, none⟩ :: rest)) := G.q (AH.assign hx) hd h
theorem G.nt {ops : Array Oper} (h : G W n ds E L next) : G W n ds E L (wpList P ops (Exit.then next Q) []) := h
theorem G.sr {id : Nat} {l : List Oper} {y : Code} (h : G W n ds E L (wpList P l.toArray (Exit.then (y.wp P Q) Q) l)) : G W n ds E L ((Code.seq (Code.region id l.toArray false) y).wp P Q) := G.seq (G.region h)
theorem G.an {ops : Array Oper} {d : Nat} {x : Operand} {ty : TypeId} {pos : String} {aft : Array Edge} {v : Value} (hx : ev E x = some v) (h : G W n ds ((d, v) :: E) L next) (hd : Nat.blt d n = true := by rfl) : G W n ds E L (wpList P ops (Exit.then next Q) (⟨some d, .assign x, ty, pos, aft, none⟩ :: [])) := G.a hx (G.nt h) hd
theorem G.sm {id d : Nat} {x : Operand} {ty : TypeId} {pos : String} {aft : Array Edge} {rest : List Oper} {v : Value} {y : Code} (hx : ev E x = some v) (h : G W n ds ((d, v) :: E) L (wpList P ((⟨some d, .move x, ty, pos, aft, none⟩ :: rest : List Oper).toArray) (Exit.then (y.wp P Q) Q) rest)) (hd : Nat.blt d n = true := by rfl) :
  G W n ds E L ((Code.seq (Code.region id (⟨some d, .move x, ty, pos, aft, none⟩ :: rest : List Oper).toArray false) y).wp P Q) := G.sr (G.m hx h hd)
theorem G.rt (h : G W n ds E L (Q .ret)) : G W n ds E L (Code.ret.wp P (Exit.then next Q)) := G.ret (G.then_r h)
theorem G.sk (h : G W n ds E L next) : G W n ds E L (Code.skip.wp P (Exit.then next Q)) := G.skip (G.then_n h)
theorem G.nf {ops : Array Oper} {d1 d2 : Nat} {x : Operand} {ty1 ty2 s : TypeId} {pos1 pos2 : String} {aft1 aft2 : Array Edge} {rest : List Oper} {i b off k : Nat} (hx : ev E x = some (.pointer (some ⟨b, off, none⟩))) (hf : AC P s i = some k)
  (h : G W n ds ((d2, .pointer (some ⟨b, off + k, none⟩)) :: (d1, .pointer (some ⟨b, off, none⟩)) :: E) L (wpList P ops Q rest)) (h1 : Nat.blt d1 n = true := by rfl) (h2 : Nat.blt d2 n = true := by rfl) : G W n ds E L (wpList P ops Q (⟨some d1, .nilCheck x, ty1, pos1, aft1, none⟩ :: ⟨some d2, .fieldAddr s (.tmp d1) i, ty2, pos2, aft2, none⟩ :: rest)) :=
 G.q (AH.nilp hx) h1 (G.q (AH.fieldAddr (by simp [ev, look]) hf) h2 h)
theorem G.gk {ops : Array Oper} {d : Option Nat} {op : Op} {ty : TypeId} {pos : String} {aft : Array Edge} {rest : List Oper} {j t : Nat} {b c : Bool} (h : G W n ds (F9 d undef E) L (wpList P ops Q rest)) (hj : DN ops j = some t := by rfl) (hl : look E t = some (.bool c) := by rfl) (hbc : (c == b) = false := by rfl) (hd : CY d n = true := by rfl) :
  G W n ds E L (wpList P ops Q (⟨d, op, ty, pos, aft, some (j, b)⟩ :: rest)) := G.gskip hj hl hbc hd h
theorem G.st {ops : Array Oper} {t ty : TypeId} {x y : Operand} {pos : String} {aft : Array Edge} {rest : List Oper} {b off : Nat} {l : List Value} {T : TypeId} {v : Value} {F : List HP} (hx : ev E x = some (.pointer (some ⟨b, off, none⟩))) (hy : ev E y = some v) (hv : AD v = true) (ht : Ai P t = some 1)
  (h : G W n ds E ([pt b (.cells (l.set off v).toArray T (0, 0))] ++ F) (wpList P ops Q rest)) (hL : Am [pt b (.cells l.toArray T (0, 0))] L F := by repeat' constructor) (hc : off < l.length := by first | decide | (simp; omega) | simp) : G W n ds E L (wpList P ops Q (⟨none, .store t x y, ty, pos, aft, none⟩ :: rest)) :=
 G.op (AI.store hx hy hv ht hc (Bk _ _)) hL rfl fun _ _ e => by subst e; exact h
theorem G.sw {ops : Array Oper} {t ty : TypeId} {x y : Operand} {pos : String} {aft : Array Edge} {rest : List Oper} {b off : Nat} {l : List Value} {T : TypeId} {v : Value} {F : List HP} (hx : ev E x = some (.pointer (some ⟨b, off, none⟩))) (hy : ev E y = some v) (hv : AD v = true) (ht : Ai P t = some 1)
  (h : G W n ds E ([pt b (.cells (l.set off v).toArray T (0, 0))] ++ F) (wpList P ops Q rest)) (hL : Am [pt b (.cells l.toArray T (0, 0))] L F := by repeat' constructor) (hc : off < l.length := by exact Nat.le_of_ble_eq_true rfl) : G W n ds E L (wpList P ops Q (⟨none, .store t x y, ty, pos, aft, none⟩ :: rest)) :=
 G.op (AI.store hx hy hv ht hc (Bk _ _)) hL rfl fun _ _ e => by subst e; exact h
theorem G.sa {ops : Array Oper} {t ty : TypeId} {x y : Operand} {pos : String} {aft : Array Edge} {rest : List Oper} {b off k : Nat} {l vs : List Value} {T : TypeId} {F : List HP} (hx : ev E x = some (.pointer (some ⟨b, off, none⟩))) (hy : ev E y = some (.agg vs.toArray)) (ht : Ai P t = some k) (hv : ∀ v ∈ vs, AD v = true)
  (h : G W n ds E ([pt b (.cells (HJ l off vs).toArray T (0, 0))] ++ F) (wpList P ops Q rest)) (hL : Am [pt b (.cells l.toArray T (0, 0))] L F := by repeat' constructor) (hk : vs.length = k := by rfl) (hc : off + vs.length ≤ l.length := by exact Nat.le_of_ble_eq_true rfl) : G W n ds E L (wpList P ops Q (⟨none, .store t x y, ty, pos, aft, none⟩ :: rest)) :=
 G.op (AI.storeA hx hy hv ht hk hc (Bk _ _)) hL rfl fun _ _ e => by subst e; exact h
theorem AI.c {f : FuncId} {fn : Func} {c : Code} {xs : Array Operand} {ts : Array TypeId} {ty : TypeId} (hf : P.funcs[f]? = some fn) (vs : List Value) {pre : List HP} {post : Value → List HP → Prop} (h : Fn P f vs.toArray pre post) (hx : xs.toList.map (ev E) = vs.map some := by rfl) (hb : fn.body = some c := by rfl) (hnm : (fn.name == "runtime.NumGoroutine") = false := by rfl) :
  AI P ⟨none, .call { callee := .value (.func f), args := xs, argTypes := ts }, ty, "", #[], none⟩ E pre post := AI.call hf hb hnm hx h
theorem G.cv {ops : Array Oper} {d : Option Nat} {f : FuncId} {fn : Func} {c : Code} {xs : Array Operand} {ts : Array TypeId} {ty : TypeId} {pos : String} {aft : Array Edge} {rest : List Oper} {pre F L1 : List HP} {u : Value} (hf : P.funcs[f]? = some fn) (vs : List Value) (h : Fn P f vs.toArray pre fun v L => v = u ∧ L = L1)
  (hn : G W n ds (F9 d u E) (L1 ++ F) (wpList P ops Q rest)) (hL : Am pre L F := by repeat' constructor) (hx : xs.toList.map (ev E) = vs.map some := by rfl) (hb : fn.body = some c := by rfl) (hnm : (fn.name == "runtime.NumGoroutine") = false := by rfl) (hd : CY d n = true := by rfl) :
  G W n ds E L (wpList P ops Q (⟨d, .call { callee := .value (.func f), args := xs, argTypes := ts }, ty, pos, aft, none⟩ :: rest)) := G.op (AI.call hf hb hnm hx h) hL hd fun _ _ e => by obtain ⟨rfl, rfl⟩ := e; exact hn
theorem G.dn {P : Program} {fn : Func} {post : Value → List HP → Prop} {F : List HP} {W : World} {n : Nat} {E : By} {L L' R : List HP} {v : Value} {l : List ResultVar}
  (hl : fn.results = l.toArray) (hr : VD l E = some v) (hp : post v L') (hL : Am L' L R := by repeat' constructor) (hF : H0 F R := by repeat' constructor) : G W n [] E L (Tt P fn post F W .ret) := G.done hl hr hp hL hF
theorem G.vv {P : Program} {fn : Func} {F : List HP} {W : World} {n : Nat} {E : By} {L L1 R : List HP} {u : Value} {l : List ResultVar} (hl : fn.results = l.toArray := by rfl) (hr : VD l E = some u := by rfl) (hL : Am L1 L R := by repeat' constructor) (hF : H0 F R := by repeat' constructor) : G W n [] E L (Tt P fn (fun v L => v = u ∧ L = L1) F W .ret) := G.done hl hr ⟨rfl, rfl⟩ hL hF
end
section
variable {P : Program} {ops : Array Oper} {n : Nat} {RO : List HP} {H : List Nat} {I : List HP → Prop} {Fin : EF → List HP → Prop}
variable {j : Nat} {S : List Nat} {E : By} {RW : List HP} {d : Nat} {op : Op} {ty : TypeId} {pos : String} {aft : Array Edge} {v : Value}
theorem D.k (hi : ops[j]? = some ⟨some d, op, ty, pos, aft, none⟩) (hq : AH P ⟨none, op, ty, "", #[], none⟩ E RO v)
  (h : D P ops n RO H I Fin S (look ((d, v) :: E)) RW) (hc : (Ap ops (j :: S) j && Nat.blt d n) = true := by kernel_rfl) : D P ops n RO H I Fin (j :: S) (look E) RW := D.q hi hc hq h
theorem D.hh {dd : Option Nat} {pre F : List HP} {K : Value → List HP → Prop} (hi : ops[j]? = some ⟨dd, op, ty, pos, aft, none⟩) (hp : AI P ⟨none, op, ty, "", #[], none⟩ E pre K)
  (h : ∀ v L', K v L' → D P ops n RO H Qj Fin S (look (F9 dd v E)) (L' ++ F)) (hL : Am pre RW F := by repeat' constructor) (hc : (J2 ops j S && H.contains j && CY dd n) = true := by kernel_rfl) : D P ops n RO H Qj Fin (j :: S) (look E) RW := D.h hi hc hp hL h
theorem D.sa {t : TypeId} {x y : Operand} {b off k : Nat} {l vs : List Value} {T : TypeId} {F : List HP} (hi : ops[j]? = some ⟨none, .store t x y, ty, pos, aft, none⟩) (hx : ev E x = some (.pointer (some ⟨b, off, none⟩))) (hy : ev E y = some (.agg vs.toArray)) (ht : Ai P t = some k) (hv : ∀ v ∈ vs, AD v = true)
  (h : D P ops n RO H Qj Fin S (look E) ([pt b (.cells (HJ l off vs).toArray T (0, 0))] ++ F)) (hL : Am [pt b (.cells l.toArray T (0, 0))] RW F := by repeat' constructor) (hk : vs.length = k := by rfl) (hc : off + vs.length ≤ l.length := by exact Nat.le_of_ble_eq_true rfl) (hr : (J2 ops j S && H.contains j && CY none n) = true := by kernel_rfl) : D P ops n RO H Qj Fin (j :: S) (look E) RW :=
 D.h hi hr (AI.storeA hx hy hv ht hk hc (Bk _ _)) hL fun _ _ e => by subst e; exact h
def TT (ops : Array Oper) (j : Nat) : List Nat → List Nat → List Nat
 | [], A => A
 | i :: S, A => TT ops j S (if (ops[i]?).any fun o => o.after.any fun e => Region.binds .any e && (e.on == j || A.contains e.on) then i :: A else A)
theorem D.kv (hi : ops[j]? = some ⟨some d, op, ty, pos, aft, none⟩) (hq : AH P ⟨none, op, ty, "", #[], none⟩ E (RO ++ RW) v)
  (h : D P ops n RO H I Fin S (look ((d, v) :: E)) RW) (hc : (Ap ops (j :: S) j && Nat.blt d n && EX ops H j S (TT ops j S [])) = true := by kernel_rfl) : D P ops n RO H I Fin (j :: S) (look E) RW := D.qw _ hi hc hq h
theorem D.gv {k t : Nat} {b : Bool} (hi : ops[j]? = some ⟨some d, op, ty, pos, aft, some (k, b)⟩) (hq : AH P ⟨none, op, ty, "", #[], none⟩ E (RO ++ RW) v)
  (h : D P ops n RO H I Fin S (look ((d, v) :: E)) RW) (hk : DN ops k = some t := by rfl) (hl : look E t = some (.bool b) := by rfl) (hc : (Ap ops (j :: S) j && Nat.blt d n && EX ops H j S (TT ops j S [])) = true := by kernel_rfl) : D P ops n RO H I Fin (j :: S) (look E) RW := D.gqw _ hi hk hl hc hq h
theorem D.gz {dd : Option Nat} {k t : Nat} {b c : Bool} (hi : ops[j]? = some ⟨dd, op, ty, pos, aft, some (k, b)⟩) 
  (h : D P ops n RO H I Fin S (look (F9 dd undef E)) RW) (hk : DN ops k = some t := by rfl) (hl : look E t = some (.bool c) := by rfl) (hbc : (c == !b) = true := by rfl) (hc : (Ap ops (j :: S) j && CY dd n) = true := by kernel_rfl) : D P ops n RO H I Fin (j :: S) (look E) RW := D.gs hi hk hl hbc hc h
theorem D.pf {W : World} {ds : List Deferred} {Q : Exit → Act → World → Prop} {next : Act → World → Prop} (h : G W n ds E (RO ++ RW) next) : D P ops n RO H I (fun e' RW' => DC P ops n H W ds (Exit.then next Q .normal) [] e' (RO ++ RW')) [] (look E) RW := D.ph (DC.fin (G.then_n h))
theorem D.mv {x : Operand} (hi : ops[j]? = some ⟨some d, .move x, ty, pos, aft, none⟩) (hx : ev E x = some v)
  (h : D P ops n RO H I Fin S (look ((d, v) :: E)) RW) (hc : (Ap ops (j :: S) j && Nat.blt d n && EX ops H j S (TT ops j S [])) = true := by kernel_rfl) : D P ops n RO H I Fin (j :: S) (look E) RW := D.kv hi (AH.move hx) h hc
theorem D.nf {j2 d2 i b off k : Nat} {x : Operand} {s ty2 : TypeId} {pos2 : String} {aft2 : Array Edge} (hi : ops[j]? = some ⟨some d, .nilCheck x, ty, pos, aft, none⟩) (hx : ev E x = some (.pointer (some ⟨b, off, none⟩))) (hi2 : ops[j2]? = some ⟨some d2, .fieldAddr s (.tmp d) i, ty2, pos2, aft2, none⟩) (hf : AC P s i = some k)
  (h : D P ops n RO H I Fin S (look ((d2, .pointer (some ⟨b, off + k, none⟩)) :: (d, .pointer (some ⟨b, off, none⟩)) :: E)) RW) (hc : (Ap ops (j :: j2 :: S) j && Nat.blt d n && EX ops H j (j2 :: S) (TT ops j (j2 :: S) [])) = true := by kernel_rfl)
  (hc2 : (Ap ops (j2 :: S) j2 && Nat.blt d2 n && EX ops H j2 S (TT ops j2 S [])) = true := by kernel_rfl) : D P ops n RO H I Fin (j :: j2 :: S) (look E) RW := D.kv hi (AH.nilp hx) (D.kv hi2 (AH.fieldAddr (by simp [ev, look]) hf) h hc2) hc
theorem DC.g0 {W : World} {ds : List Deferred} {X : Act → World → Prop} {e : EF} {L : List HP} {S : List Nat} {Ss : List (List Nat)}
  (h : D P ops n [] H Qj (fun e' RW' => DC P ops n H W ds X Ss e' ([] ++ RW')) S e L) : DC P ops n H W ds X (S :: Ss) e L := DC.go [] (.nil) h
theorem D.kw (A : List Nat) (hi : ops[j]? = some ⟨some d, op, ty, pos, aft, none⟩) (hq : AH P ⟨none, op, ty, "", #[], none⟩ E (RO ++ RW) v)
  (h : D P ops n RO H I Fin S (look ((d, v) :: E)) RW) (hc : (Ap ops (j :: S) j && Nat.blt d n && EX ops H j S A) = true := by kernel_rfl) : D P ops n RO H I Fin (j :: S) (look E) RW := D.qw A hi hc hq h
end
theorem Y.{u} {α : Sort u} {a : α} : a = a := rfl
theorem O {α : Prop} (h : α := by repeat' constructor) : α := h
theorem om {α : Prop} (h : α := by omega) : α := h
theorem kQ {α : Prop} (h : α := by kernel_rfl) : α := h
theorem dQ {α : Prop} (h : α := by decide) : α := h
theorem cQ {α : Prop} (h : α := by first | (simp [Value.cells]; done) | (intro v hv; simp only [mem_cons, not_mem_nil, or_false] at hv; (repeat (first | (subst hv; rfl) | (rcases hv with hv | hv; (subst hv; rfl)))))) : α := h
section
variable {P : Program} {W : World} {n : Nat} {ds : List Deferred} {E : By} {L : List HP} {Q : Exit → Act → World → Prop} {next : Act → World → Prop}
variable {ops : Array Oper} {d : Nat} {ty : TypeId} {pos : String} {aft : Array Edge} {rest : List Oper}
theorem G.gr {d : Option Nat} {op : Op} {j t : Nat} {b c : Bool} (h : G W n ds E L (wpList P ops Q (⟨d, op, ty, pos, aft, none⟩ :: rest))) (hj : DN ops j = some t := by rfl) (hl : look E t = some (.bool c) := by rfl) (hbc : (c == b) = true := by rfl) : G W n ds E L (wpList P ops Q (⟨d, op, ty, pos, aft, some (j, b)⟩ :: rest)) := G.grun hj hl hbc h
theorem G.gn {d : Option Nat} {op : Op} {j t : Nat} {b : Bool} (h : G W n ds (F9 d undef E) L (wpList P ops Q rest)) (hj : DN ops j = some t := by rfl) (hl : look E t = some undef := by rfl) (hd : CY d n = true := by rfl) : G W n ds E L (wpList P ops Q (⟨d, op, ty, pos, aft, some (j, b)⟩ :: rest)) := G.gskipU hj hl hd h
theorem G.fa {s : TypeId} {x : Operand} {i k b off : Nat} (hx : ev E x = some (.pointer (some ⟨b, off, none⟩))) (hf : AC P s i = some k) (h : G W n ds ((d, .pointer (some ⟨b, off + k, none⟩)) :: E) L (wpList P ops Q rest)) (hd : Nat.blt d n = true := by rfl) : G W n ds E L (wpList P ops Q (⟨some d, .fieldAddr s x i, ty, pos, aft, none⟩ :: rest)) := G.q (AH.fieldAddr hx hf) hd h
theorem G.pT {c x y : Operand} {v : Value} (hc : ev E c = some (.bool true)) (hx : ev E x = some v) (h : G W n ds ((d, v) :: E) L (wpList P ops Q rest)) (hd : Nat.blt d n = true := by rfl) : G W n ds E L (wpList P ops Q (⟨some d, .pick c x y, ty, pos, aft, none⟩ :: rest)) := G.q (AH.pickT hc hx) hd h
theorem G.pF {c x y : Operand} {v : Value} (hc : ev E c = some (.bool false)) (hx : ev E y = some v) (h : G W n ds ((d, v) :: E) L (wpList P ops Q rest)) (hd : Nat.blt d n = true := by rfl) : G W n ds E L (wpList P ops Q (⟨some d, .pick c x y, ty, pos, aft, none⟩ :: rest)) := G.q (AH.pickF hc hx) hd h
theorem G.ex {x : Operand} {vs : List Value} {i : Nat} {v : Value} (hx : ev E x = some (.tuple vs.toArray)) (hi : vs[i]? = some v) (h : G W n ds ((d, v) :: E) L (wpList P ops Q rest)) (hd : Nat.blt d n = true := by rfl) : G W n ds E L (wpList P ops Q (⟨some d, .extract x i, ty, pos, aft, none⟩ :: rest)) := G.q (AH.extract hx hi) hd h
theorem G.xe {id : Nat} {Q1 : Exit → Act → World → Prop} {n1 n2 : Act → World → Prop} (h : G W n ds E L next) : G W n ds E L ((Code.exit id).wp P (Exit.then n1 (Exit.then n2 (Exit.inBlock id (Exit.then next Q1))))) := G.exit (G.then_e (G.then_e (G.blk_e (G.then_n h))))
end
section assoc
variable {K β : Type} [DecidableEq K]
def BA : List (K × β) → K → Option β
 | [], _ => none
 | (a, b) :: m, k => if k = a then some b else BA m k
def MX : List (K × β) → K → β → List (K × β)
 | [], k, v => [(k, v)]
 | (a, b) :: m, k, v => if k = a then (k, v) :: m else (a, b) :: MX m k v
def Xq : List (K × β) → K → List (K × β)
 | [], _ => []
 | (a, b) :: m, k => if k = a then m else (a, b) :: Xq m k
end assoc
def mapR (r : Nat) (ents : List (Value × Value)) : HP := fun h => ∃ (es : List MapEntry) (clock : Nat), h r = some (.map es.toArray clock) ∧
 es.map (fun e => (e.key, e.val)) = ents ∧ (∀ e ∈ es, e.born < clock) ∧ (es.map (·.born)).Nodup
theorem VI {r : Nat} {h : Hp} (hh : pt r (.map #[] 0) h) : mapR r [] h := ⟨[], 0, hh, rfl, by simp, by simp⟩
def Jg {K : Type} [DecidableEq K] (k : K) : List K → Option Nat
 | [] => none
 | a :: l => if k = a then some 0 else (Jg k l).map (· + 1)
structure E1 (P : Program) (kt : TypeId) {K : Type} [DecidableEq K] (kv : K → Value) : Prop where
 find : ∀ (k : K) (es : List MapEntry) (ks : List K) (w : World), es.map (·.key) = ks.map kv → (Instr.findKey kt (kv k) es).run P w = .ok ((Jg k ks).bind fun j => (es[j]?).map fun e => (j, e.val)) w
 check : ∀ a e w, (Instr.checkKey e 10000 kt (kv a)).run P w = .ok () w
 same : ∀ a, Instr.sameBits 10000 (kv a) (kv a) = true
theorem QZ {K : Type} [DecidableEq K] {kv : K → Value} {d : TypeDesc} (hs : ∀ a b, Instr.sameNow d (kv a) (kv b) = some (decide (a = b))) (k : K) : ∀ (es : List MapEntry) (ks : List K) (i : Nat), es.map (·.key) = ks.map kv →
    Instr.findNow d (kv k) es i = some ((Jg k ks).bind fun j => (es[j]?).map fun e => (i + j, e.val)) := by
  intro es
  induction es with
  | nil => intro ks i h; cases ks with
    | nil => rfl
    | cons a l => simp at h
  | cons e es ih =>
    intro ks i h
    cases ks with
    | nil => simp at h
    | cons a l =>
      simp only [map_cons, List.cons.injEq] at h
      by_cases hk : k = a
      · subst hk
        simp [Instr.findNow, h.1, hs, Jg]
      · rw [Instr.findNow, h.1, hs, decide_eq_false hk]
        dsimp only
        rw [ih l (i + 1) h.2, Jg, if_neg hk]
        cases Jg k l with
        | none => rfl
        | some j => simp only [Option.map_some, Option.bind_some, List.getElem?_cons_succ, show i + 1 + j = i + (j + 1) by omega]
theorem E1.ofNow {P : Program} {kt : TypeId} {K : Type} [DecidableEq K] {kv : K → Value} (hd : ∃ d, P.underlying kt = some d ∧ (∀ a b, Instr.sameNow d (kv a) (kv b) = some (decide (a = b))))
  (hc : ∀ a e w, (Instr.checkKey e 10000 kt (kv a)).run P w = .ok () w) (hb : ∀ a, Instr.sameBits 10000 (kv a) (kv a) = true) : E1 P kt kv where
 find := fun k es ks w h => by
  obtain ⟨d, hd, hs⟩ := hd
  unfold Instr.findKey
  rw [run_bind (AJ hd), QZ hs k es ks 0 h]
  simp only [Nat.zero_add]; rfl
 check := hc
 same := hb
section
variable {P : Program} {E : By} {L R : List HP} {ty : TypeId} {w : World}
theorem E1.int {kt : TypeId} (hd : P.underlying kt = some (.int .i64)) : E1 P kt (fun n : Int => AA n) := by
 refine E1.ofNow ⟨_, hd, fun a b => by simp [Instr.sameNow, OP]⟩ (fun a e w => ?_) (fun a => by rw [show (10000 : Nat) = 9999 + 1 from rfl]; simp [Instr.sameBits])
 ·
  rw [show (10000 : Nat) = 9999 + 1 from rfl]
  generalize 9999 = n
  unfold Instr.checkKey
  rw [run_bind (AJ hd)]; rfl
section laws
variable {K β : Type} [DecidableEq K] {kv : K → Value} {enc : β → Value} {kt et : TypeId}
theorem SJ (k : K) : ∀ (es : List MapEntry) (m : List (K × β)),
  es.map (fun e => (e.key, e.val)) = m.map (fun x => (kv x.1, enc x.2)) →
  (BA m k = none ∧ Jg k (m.map (·.1)) = none) ∨
  (∃ b j, BA m k = some b ∧ Jg k (m.map (·.1)) = some j ∧ j < es.length ∧ (∃ e, es[j]? = some e ∧ e.key = kv k ∧ e.val = enc b) ∧
   (∀ v, (es.modify j fun e => { e with key := kv k, val := enc v }).map (fun e => (e.key, e.val)) = (MX m k v).map (fun x => (kv x.1, enc x.2))) ∧
   ((es.eraseIdx j).map (fun e => (e.key, e.val)) = (Xq m k).map (fun x => (kv x.1, enc x.2)))) := by
 intro es
 induction es with
 | nil =>
  intro m h
  cases m with
  | nil => exact .inl ⟨rfl, rfl⟩
  | cons x m => simp at h
 | cons e es ih =>
  intro m h
  cases m with
  | nil => simp at h
  | cons x m =>
   obtain ⟨a, b⟩ := x
   simp only [map_cons, List.cons.injEq, Prod.mk.injEq] at h
   obtain ⟨⟨h1, h2⟩, h3⟩ := h
   by_cases hk : k = a
   ·subst hk
    refine .inr ⟨b, 0, by simp [BA], by simp [Jg], by simp, ⟨e, rfl, h1, h2⟩, fun v => ?_, ?_⟩
    ·simp [MX, h3]
    ·simp [Xq, h3]
   ·rcases ih m h3 with ⟨q1, q2⟩ | ⟨b', j, q1, q2, q3, ⟨e', q4, q5, q5'⟩, q6, q7⟩
    ·exact .inl ⟨by simp [BA, hk, q1], by simp [Jg, hk, q2]⟩
    ·refine .inr ⟨b', j + 1, by simp [BA, hk, q1], by simp [Jg, hk, q2], by simp [q3], ⟨e', by simpa using q4, q5, q5'⟩, fun v => ?_, ?_⟩
     ·simp [MX, hk, h1, h2, q6 v]
     ·simp [Xq, hk, h1, h2, q7]
theorem Ho {m : List (K × β)} {k : K} {v : β} (h : BA m k = none) : MX m k v = m ++ [(k, v)] := by
 induction m with
 | nil => rfl
 | cons x m ih =>
  obtain ⟨a, b⟩ := x
  by_cases hk : k = a
  ·simp [BA, hk] at h
  ·simp [BA, hk] at h; simp [MX, hk, ih h]
omit [DecidableEq K] in
theorem SG {es : List MapEntry} {m : List (K × β)} (h : es.map (fun e => (e.key, e.val)) = m.map (fun x => (kv x.1, enc x.2))) : es.map (·.key) = (m.map (·.1)).map kv := by
 have := congrArg (List.map Prod.fst) h
 rw [map_map, map_map] at this
 rw [map_map]
 exact this
theorem Mn (hl : E1 P kt kv) {k : K} {es : List MapEntry} {m : List (K × β)} (h : es.map (fun e => (e.key, e.val)) = m.map (fun x => (kv x.1, enc x.2))) (hp : Jg k (m.map (·.1)) = none) : (Instr.findKey kt (kv k) es).run P w = .ok none w := by
 rw [hl.find k es _ w (SG h), hp]; rfl
theorem ND (hl : E1 P kt kv) {k : K} {es : List MapEntry} {m : List (K × β)} (h : es.map (fun e => (e.key, e.val)) = m.map (fun x => (kv x.1, enc x.2))) {j : Nat} {b : β} (hp : Jg k (m.map (·.1)) = some j) (he : ∃ e, es[j]? = some e ∧ e.key = kv k ∧ e.val = enc b) : (Instr.findKey kt (kv k) es).run P w = .ok (some (j, enc b)) w := by
 obtain ⟨e, e1, -, e3⟩ := he
 rw [hl.find k es _ w (SG h), hp, Option.bind_some, e1, Option.map_some, e3]
theorem IV {r : Nat} {es : Array MapEntry} {c : Nat} (h : w.heap[r]? = some (.map es c)) : (getObj r).run P w = .ok (.map es c) w := by
 simp [getObj, Sem.run, h]
theorem IX {r : Nat} {es : Array MapEntry} {c : Nat} {o : Obj} (h : w.heap[r]? = some (.map es c)) : (setObj r o).run P w = .ok () (upd w r o) := by
 simp [setObj, Sem.run, h, upd]
theorem RT (hl : E1 P kt kv) {t : TypeId} (ht : P.underlying t = some (.map kt et)) {z : Value} (hz : Av P et = some z) {m : List (K × β)} {r : Nat} (hm : ∃ h1 : Hp, (∀ b o, h1 b = some o → w.heap[b]? = some o) ∧ mapR r (m.map fun x => (kv x.1, enc x.2)) h1) (k : K) (ok : Bool) :
  (Instr.lookup t (.map (some r)) (kv k) ok).run P w = .ok (if ok then .tuple #[match BA m k with | some b => enc b | none => z, .bool (BA m k).isSome] else match BA m k with | some b => enc b | none => z) w := by
 obtain ⟨h1, a1, es, c, hb, hes, -, -⟩ := hm
 have hb' := a1 _ _ hb
 unfold Instr.lookup
 rw [run_bind (AJ ht)]
 dsimp only
 rw [run_bind (IV hb')]
 dsimp only
 rw [run_bind Be, run_bind (hl.check k _ w)]
 rcases SJ (enc := enc) (kv := kv) k es m hes with ⟨q1, q2⟩ | ⟨b, j, q1, q2, q3, q4, q5, q6⟩
 ·rw [run_bind (Mn hl hes q2), q1]
  dsimp only
  rw [run_bind (El hz), run_bind Be]
  rfl
 ·rw [run_bind (ND hl hes q2 q4), q1]
  rfl
theorem AH.lookupOk (hl : E1 P kt kv) {t : TypeId} {x y : Operand} {m : List (K × β)} {r : Nat} {k : K} {z : Value} {ents : List (Value × Value)} (hx : ev E x = some (.map (some r))) (hy : ev E y = some (kv k)) (ht : P.underlying t = some (.map kt et)) (hz : Av P et = some z)
  (hL : BT (mapR r ents) L R) (he : ents = m.map fun x => (kv x.1, enc x.2)) : AH P ⟨none, .lookup t x y true, ty, "", #[], none⟩ E L (.tuple #[match BA m k with | some b => enc b | none => z, .bool (BA m k).isSome]) := by
 intro ρ w ha hs
 subst he
 refine Ct ?_
 show (Instr.lookup t (ρ x) (ρ y) true).run P w = _
 rw [ha x _ hx, ha y _ hy]
 exact RT hl ht hz (AZ (hs.pick hL)) k true
theorem Ul {r : Nat} {ents ents' : List (Value × Value)} {es' : List MapEntry} {c' : Nat} {F : List HP} {h h' : Hp} (hs : CG (mapR r ents :: F) h) (hb : h' r = some (.map es'.toArray c')) (hne : ∀ b, b ≠ r → h' b = h b)
  (he : es'.map (fun e => (e.key, e.val)) = ents') (hbo : ∀ e ∈ es', e.born < c') (hnd : (es'.map (·.born)).Nodup) : CG (mapR r ents' :: F) h' := by
 obtain ⟨h1, h2, hd, a1, a2, ⟨es, c, hr, _⟩, hL⟩ := hs
 have h2r : h2 r = none := (hd r).resolve_left (by rw [hr]; simp)
 refine ⟨fun b => if b = r then some (.map es'.toArray c') else none, h2, fun b => ?_, fun b o e => ?_, fun b o e => ?_, ⟨es', c', if_pos rfl, he, hbo, hnd⟩, hL⟩
 ·by_cases e : b = r
  ·exact .inr (e ▸ h2r)
  ·exact .inl (if_neg e)
 ·by_cases hb' : b = r
  ·subst hb'; simp at e; rw [← e]; exact hb
  ·simp [hb'] at e
 ·have hb' : b ≠ r := by rintro rfl; rw [h2r] at e; cases e
  rw [hne _ hb']; exact a2 _ _ e
theorem St.mapR {r : Nat} {ents ents' : List (Value × Value)} {es es' : List MapEntry} {c c' : Nat} {F : List HP} (hs : St (Go.Proofs.YtjhlofbhpjakgaaGreat.mapR r ents :: F) w) (hr : w.heap[r]? = some (.map es.toArray c))
  (he : es'.map (fun e => (e.key, e.val)) = ents') (hbo : ∀ e ∈ es', e.born < c') (hnd : (es'.map (·.born)).Nodup) : St (Go.Proofs.YtjhlofbhpjakgaaGreat.mapR r ents' :: F) (Go.Proofs.YtjhlofbhpjakgaaGreat.upd w r (.map es'.toArray c')) := by
 refine Ul hs (es' := es') (c' := c') (Kb hr) (fun b hb => ?_) he hbo hnd
 simp [Go.Proofs.YtjhlofbhpjakgaaGreat.upd, Ne.symm hb]
theorem AI.mapSet (hl : E1 P kt kv) {t : TypeId} {x y z : Operand} {m : List (K × β)} {r : Nat} {k : K} {v : β} {ents : List (Value × Value)} (hx : ev E x = some (.map (some r))) (hy : ev E y = some (kv k)) (hz : ev E z = some (enc v)) (ht : P.underlying t = some (.map kt et))
  (he : ents = m.map fun x => (kv x.1, enc x.2)) : AI P ⟨none, .mapUpdate t x y z, ty, "", #[], none⟩ E [mapR r ents] fun _ L' => L' = [mapR r ((MX m k v).map fun x => (kv x.1, enc x.2))] := by
 intro ρ w F ha hs
 subst he
 obtain ⟨h1, a1, es, c, hb, hes, hbo, hnd⟩ := AZ hs
 have hb' := a1 _ _ hb
 have key : ∃ es' c', (Instr.mapUpdate t (.map (some r)) (kv k) (enc v)).run P w = .ok () (upd w r (.map (List.toArray es') c')) ∧ es'.map (fun e => (e.key, e.val)) = (MX m k v).map (fun x => (kv x.1, enc x.2)) ∧ (∀ e ∈ es', e.born < c') ∧ (es'.map (·.born)).Nodup := by
  unfold Instr.mapUpdate
  rw [run_bind (AJ ht)]
  dsimp only
  rw [run_bind (IV hb')]
  dsimp only
  rw [run_bind (hl.check k _ w)]
  rcases SJ (enc := enc) (kv := kv) k es m hes with ⟨q1, q2⟩ | ⟨b, j, q1, q2, q3, ⟨e, q4, q4', q4v⟩, q5, q6⟩
  ·rw [run_bind (Mn hl hes q2)]
   refine ⟨es ++ [{ key := kv k, val := enc v, born := c }], c + 1, ?_, ?_, ?_, ?_⟩
   ·show (setObj r (.map (es.toArray.push { key := kv k, val := enc v, born := c }) (c + 1))).run P w = _
    rw [IX hb']; simp
   ·rw [Ho q1]; simp [hes]
   ·intro e he
    simp only [mem_append, mem_singleton] at he
    rcases he with he | rfl
    ·have := hbo e he; omega
    ·simp
   ·simp only [map_append, map_cons, map_nil]
    refine nodup_append.2 ⟨hnd, by simp, ?_⟩
    intro a ha b hb
    simp only [mem_singleton] at hb
    subst hb
    obtain ⟨e, he, rfl⟩ := mem_map.1 ha
    have := hbo e he; omega
  ·rw [run_bind (ND hl hes q2 ⟨e, q4, q4', q4v⟩)]
   refine ⟨es.modify j fun e => { e with key := kv k, val := enc v }, c, ?_, q5 v, ?_, ?_⟩
   ·show (do let key ← Instr.keyThatStays (((es.toArray[j]?).map (·.key)).getD (kv k)) (kv k); setObj r (.map (es.toArray.modify j fun e => { e with key, val := enc v }) c) : Sem Unit).run P w = _
    have hk : ((es.toArray[j]?).map (·.key)).getD (kv k) = kv k := by simp [q4, q4']
    rw [hk, run_bind (a := kv k) (w' := w) (by unfold Instr.keyThatStays; rw [if_pos (hl.same k)]; rfl), IX hb']
    simp
   ·intro e' he'
    obtain ⟨i, hi, rfl⟩ := mem_iff_getElem.1 he'
    simp only [length_modify] at hi
    rw [getElem_modify]
    split
    ·exact hbo es[i] (getElem_mem _)
    ·exact hbo _ (getElem_mem _)
   ·have : (es.modify j fun e => { e with key := kv k, val := enc v }).map (·.born) = es.map (·.born) := by
     apply ext_getElem (by simp)
     intro i h1 h2
     simp only [getElem_map, getElem_modify]
     split <;> rfl
    rw [this]; exact hnd
 obtain ⟨es', c', hr, k1, k2, k3⟩ := key
 have hrun : (execOp ρ ⟨none, .mapUpdate t x y z, ty, "", #[], none⟩).run P w = .ok .skip (upd w r (.map (List.toArray es') c')) := by
  refine Uo ?_
  show (Instr.mapUpdate t (ρ x) (ρ y) (ρ z)).run P w = _
  rw [ha x _ hx, ha y _ hy, ha z _ hz]; exact hr
 unfold Du; rw [hrun]
 exact ⟨_, rfl, St.mapR (F := F) hs hb' k1 k2 k3, Az.upd _ _ _⟩
theorem AI.mapClear {t kt et : TypeId} {x : Operand} {r : Nat} {ents : List (Value × Value)} {ts : Array TypeId} (hts : ts[0]? = some t) (hx : ev E x = some (.map (some r))) (ht : P.underlying t = some (.map kt et)) :
  AI P ⟨none, .call { callee := .builtin .clear, args := #[x], argTypes := ts }, ty, "", #[], none⟩ E [mapR r ents] fun _ L' => L' = [mapR r []] := by
 intro ρ w F ha hs
 obtain ⟨h1, a1, es, c, hb, hes, hbo, hnd⟩ := AZ hs
 have hb' := a1 _ _ hb
 have hrun : (execOp ρ ⟨none, .call { callee := .builtin .clear, args := #[x], argTypes := ts }, ty, "", #[], none⟩).run P w = .ok (.value (.tuple #[])) (upd w r (.map (List.toArray []) c)) := by
  rw [CZ]
  refine Ct ?_
  simp only [map_toArray, map_cons, map_nil]
  rw [ha x _ hx]
  unfold Builtin.clear_
  simp only [hts, List.getElem?_toArray, List.getElem?_cons_zero]
  rw [run_bind (AJ ht)]
  try dsimp only
  rw [run_bind (IV hb')]
  try dsimp only
  rw [run_bind (IX hb')]; rfl
 unfold Du; rw [hrun]
 exact ⟨_, rfl, St.mapR (F := F) (es' := []) hs hb' rfl (by simp) (by simp), Az.upd _ _ _⟩
end laws
end
def B5 (sz : Nat) (h : Hp) (v : Value) (n : Nat) (ys : List Value) : Prop :=
 (n = 0 ∧ ys = [] ∧ ∃ (a : Option Addr) (c : Nat), v = .slice a 0 c) ∨
 ∃ b off cap l T fr, v = .slice (some ⟨b, off, none⟩) n cap ∧ h b = some (.cells (List.toArray l) T fr) ∧ (l.drop off).take (n * sz) = ys ∧ off + n * sz ≤ l.length ∧ n ≤ cap
def AV (T : TypeId) (sz : Nat) (v : Value) (n : Nat) (xs : List Value) : HP := fun h =>
 (v = .slice none 0 0 ∧ n = 0 ∧ xs = []) ∨
 ∃ b cap rest fr, v = .slice (some ⟨b, 0, none⟩) n cap ∧ h b = some (.cells (List.toArray (xs ++ rest)) T fr) ∧ xs.length = n * sz ∧ cap * sz ≤ xs.length + rest.length ∧ n ≤ cap ∧ Rj fr 0 (cap * sz)
theorem AE {T : TypeId} {sz : Nat} {v : Value} {n : Nat} {xs : List Value} {h : Hp} (hs : AV T sz v n xs h) : B5 sz h v n xs := by
 rcases hs with ⟨rfl, rfl, rfl⟩ | ⟨b, cap, rest, fr, hv, hb, h1, h2, h3, h4⟩
 ·exact .inl ⟨rfl, rfl, none, 0, rfl⟩
 ·refine .inr ⟨b, 0, cap, xs ++ rest, T, fr, hv, hb, ?_, by simp; omega, h3⟩
  rw [← h1]; simp
theorem Bm {sz : Nat} {h h' : Hp} {v : Value} {n : Nat} {ys : List Value} (hr : B5 sz h v n ys) (hle : ∀ b o, h b = some o → h' b = some o) : B5 sz h' v n ys := by
 rcases hr with hr | ⟨b, off, cap, l, T, fr, h1, h2, h3⟩
 ·exact .inl hr
 ·exact .inr ⟨b, off, cap, l, T, fr, h1, hle _ _ h2, h3⟩
theorem FG {sz : Nat} {h : Hp} {v : Value} {n : Nat} {ys : List Value} (hr : B5 sz h v n ys) : ys.length = n * sz := by
 rcases hr with ⟨rfl, rfl, -⟩ | ⟨b, off, cap, l, T, fr, h1, h2, h3, h4, h5⟩
 ·simp
 ·rw [← h3]; simp; omega
theorem SD {l vs : List Value} (h : vs.length = l.length) : HJ l 0 vs = vs := by
 simp [HJ, h]
theorem Qs {sz b off n cap : Nat} {l ys : List Value} {T : TypeId} {fr : Nat × Nat} {h : Hp} (hp : pt b (.cells l.toArray T fr) h) (e : (l.drop off).take (n * sz) = ys) (hl : off + n * sz ≤ l.length) (hc : n ≤ cap) : B5 sz h (.slice (some ⟨b, off, none⟩) n cap) n ys :=
 .inr ⟨b, off, cap, l, T, fr, rfl, hp, e, hl, hc⟩
theorem Ak (T : TypeId) (sz : Nat) (h : Hp) : AV T sz (.slice none 0 0) 0 [] h := .inl ⟨rfl, rfl, rfl⟩
theorem HI {T : TypeId} {sz b n : Nat} {xs : List Value} {h : Hp} (hp : Ar b xs T h) (hl : xs.length = n * sz) : AV T sz (.slice (some ⟨b, 0, none⟩) n n) n xs h :=
 .inr ⟨b, n, [], (0, 0), rfl, by rw [append_nil]; exact hp, hl, by simp [hl], Nat.le_refl _, Bk _ _⟩
theorem Hn {T : TypeId} {sz n : Nat} {v : Value} {xs : List Value} {h : Hp} (hs : AV T sz v n xs h) : ∃ a c, v = .slice a n c := by
 rcases hs with ⟨rfl, rfl, -⟩ | ⟨b, cap, rest, fr, hv, -⟩
 ·exact ⟨_, _, rfl⟩
 ·exact ⟨_, _, hv⟩
theorem RY {T : TypeId} {sz n : Nat} {v : Value} {xs : List Value} {h : Hp} (hs : AV T sz v n xs h) : xs.length = n * sz := FG (AE hs)
section
variable {P : Program} {E : By} {L R : List HP} {ty : TypeId} {w : World}
theorem AH.max2 {x y : Operand} {a b : Int} {ts : Array TypeId} (hx : ev E x = some (AA a)) (hy : ev E y = some (AA b)) :
  AH P ⟨none, .call { callee := .builtin .max, args := #[x, y], argTypes := ts }, ty, "", #[], none⟩ E L (AA (max a b)) := by
 intro ρ w ha _
 rw [CZ]
 refine Ct ?_
 simp only [map_toArray, map_cons, map_nil]
 rw [ha x _ hx, ha y _ hy]
 show Result.ok (Value.int .i64 (if b > a then b else a)) w = _
 congr 2
 by_cases h : b > a
 ·rw [if_pos h]; omega
 ·rw [if_neg h]; omega
theorem AH.min2 {x y : Operand} {a b : Int} {ts : Array TypeId} (hx : ev E x = some (AA a)) (hy : ev E y = some (AA b)) :
  AH P ⟨none, .call { callee := .builtin .min, args := #[x, y], argTypes := ts }, ty, "", #[], none⟩ E L (AA (min a b)) := by
 intro ρ w ha _
 rw [CZ]
 refine Ct ?_
 simp only [map_toArray, map_cons, map_nil]
 rw [ha x _ hx, ha y _ hy]
 show Result.ok (Value.int .i64 (if b < a then b else a)) w = _
 congr 2
 by_cases h : b < a
 ·rw [if_pos h]; omega
 ·rw [if_neg h]; omega
theorem AH.toArr {t : TypeId} {x : Operand} {a : Addr} {n m c e sz : Nat} (hx : ev E x = some (.slice (some a) m c)) (ht : WB P t = some (n, e, sz)) (h : n ≤ m) :
  AH P ⟨none, .sliceToArrayPointer t x, ty, "", #[], none⟩ E L (.pointer (some a)) := by
 intro ρ w ha _
 unfold WB at ht
 split at ht <;> (try cases ht)
 rename_i n' e' hu
 split at ht <;> (try cases ht)
 refine Ct ?_
 show (Instr.arrayAt t (ρ x)).run P w = _
 rw [ha x _ hx]
 unfold Instr.arrayAt
 rw [run_bind (AJ hu)]
 show (if m < n then runtimePanic _ else pure (.pointer (some a)) : Sem Value).run P w = _
 rw [if_neg om]; rfl
theorem S9 (f : Value → ByteArray → Sem (ForInStep ByteArray)) (hf : ∀ c s, f (Bx c) s = pure (ForInStep.yield (s.push c))) (cs : List UInt8) :
  ∀ (acc : ByteArray), (forIn (m := Sem) ((cs.map Bx).toArray) acc f).run P w = .ok (⟨acc.data ++ cs.toArray⟩ : ByteArray) w := by
 induction cs with
 | nil => intro acc; rw [forIn_toArray]; simp [Be]
 | cons c cs ih =>
  intro acc
  have ih' := ih (acc.push c)
  rw [forIn_toArray] at ih' ⊢
  simp only [map_cons, forIn_cons]
  rw [hf, run_bind Be]
  dsimp only
  rw [ih']
  congr 1
  apply ByteArray.ext
  simp [ByteArray.push]
theorem AH.bytesBy {s d e : TypeId} {x : Operand} {v : Value} {n : Nat} {cs : List UInt8} {p : HP} (hx : ev E x = some v) (hs : P.underlying s = some (.slice e)) (he : P.underlying e = some (.int .u8)) (hd : P.underlying d = some .string)
  (hr : ∀ h : Hp, p h → B5 1 h v n (cs.map Bx)) (hL : BT p L R) : AH P ⟨none, .convert s d x, ty, "", #[], none⟩ E L (AU cs) := by
 intro ρ w ha hst
 obtain ⟨h1, a1, hp⟩ := AZ (hst.pick hL)
 have hr' := Bm (hr _ hp) a1
 refine Ct ?_
 show (convert s d (ρ x)).run P w = _
 rw [ha x _ hx]
 unfold convert
 rw [run_bind (AJ hs), run_bind (AJ hd)]
 rcases hr' with ⟨-, hcs, a, c, rfl⟩ | ⟨b, off, cap, l, T, fr, rfl, hb, hcs, hlen, -⟩
 ·have : cs = [] := by simpa using hcs
  subst this
  dsimp only
  rw [run_bind (AJ he)]
  cases a <;> rfl
 ·dsimp only
  rw [run_bind (AJ he)]
  dsimp only
  unfold Conv.bytesToString
  dsimp only
  have hlen' : off + n ≤ l.length := by omega
  rw [Nat.mul_one] at hcs
  rw [run_bind (Eb hb hlen'), hcs, run_bind (S9 _ (fun c s => by show pure (ForInStep.yield (s.push (UInt8.ofNat (c.toNat : Int).toNat))) = _; simp) cs _)]
  simp [Be]
theorem AH.bytesPt {s d e : TypeId} {x : Operand} {b off n c : Nat} {l : List Value} {T : TypeId} {fr : Nat × Nat} {cs : List UInt8} (hx : ev E x = some (.slice (some ⟨b, off, none⟩) n c)) (hs : P.underlying s = some (.slice e)) (he : P.underlying e = some (.int .u8)) (hd : P.underlying d = some .string)
  (hL : BT (pt b (.cells l.toArray T fr)) L R) (hv : (l.drop off).take n = cs.map Bx) (hl : off + n ≤ l.length) (hc : n ≤ c) : AH P ⟨none, .convert s d x, ty, "", #[], none⟩ E L (AU cs) :=
 AH.bytesBy (n := n) hx hs he hd (fun _ hp => Qs hp (by rw [Nat.mul_one]; exact hv) (by rw [Nat.mul_one]; exact hl) hc) hL
theorem AI.strBytes {s d e : TypeId} {x : Operand} {cs : List UInt8} (hx : ev E x = some (AU cs)) {u : TypeDesc} (hs : P.underlying s = some u) (hd : P.underlying d = some (.slice e)) (he : P.underlying e = some (.int .u8)) :
  AI P ⟨none, .convert s d x, ty, "", #[], none⟩ E [] fun v L' => L' = [AV e 1 v cs.length (cs.map Bx)] ∧ ∃ b c, v = .slice (some ⟨b, 0, none⟩) cs.length c := by
 intro ρ w F ha hst
 let q : Question := .appendCap cs.length 0 e
 let cap := q.cut (w.tape w.drawn q)
 let l := cs.map Bx ++ List.replicate (cap - cs.length) (Value.int .u8 0)
 have hcap : cs.length ≤ cap := by show cs.length ≤ cs.length + _; omega
 have hll : l.length = cap := by simp [l]; omega
 let w1 : World := { w with drawn := w.drawn + 1 }
 have hrun : (execOp ρ ⟨none, .convert s d x, ty, "", #[], none⟩).run P w = .ok (.value (.slice (some ⟨w.heap.size, 0, none⟩) cs.length cap)) { w1 with heap := w.heap.push (.cells l.toArray e (cap, cap + 1)) } := by
  refine Ct ?_
  show (convert s d (ρ x)).run P w = _
  rw [ha x _ hx]
  unfold convert
  rw [run_bind (AJ hs), run_bind (AJ hd)]
  have : ∀ u : TypeDesc, (match u, TypeDesc.slice e, AU cs with
   | _, .int k, .int _ n => Conv.intToInt k n
   | _, .float k, .int _ n => Conv.intToFloat k n
   | _, .int k, .float s b => Conv.floatToInt s b k
   | _, .float k, .float s b => Conv.floatToFloat s b k
   | _, .complex k, .complex s a b => Conv.complexToComplex s a b k
   | _, .string, .int _ n => Conv.intToString n
   | _, .string, .string _ => pure (AU cs)
   | _, .slice e, .string s => (do match ← underlying e with | .int .u8 => Conv.stringToBytes e s | .int .i32 => Conv.stringToRunes e s | _ => stuck "Convert: string to a slice of what?")
   | .slice _, .slice e, .slice (some a) _ _ => (do match s == d, ← underlying e with | true, .int .u8 => do markStringish a; pure (AU cs) | _, _ => unsupported (.noEntry "convert/other"))
   | .slice e, .string, x => (do match ← underlying e with | .int .u8 => Conv.bytesToString x | .int .i32 => Conv.runesToString x | _ => stuck "Convert: a slice of what to string?")
   | .unsafePointer, _, x | _, .unsafePointer, x => Conv.unsafePointer s d x
   | .int _, _, .pointer (some _) => unsupported .addressObserved
   | _, _, _ => unsupported (.noEntry "convert/other") : Sem Value) = (do match ← underlying e with | .int .u8 => Conv.stringToBytes e (bs cs) | .int .i32 => Conv.stringToRunes e (bs cs) | _ => stuck "Convert: string to a slice of what?") := by
   intro u; cases u <;> rfl
  refine (congrArg (fun z : Sem Value => z.run P w) (this u)).trans ?_
  rw [run_bind (AJ he)]
  dsimp only
  unfold Conv.stringToBytes
  have hch : (choose (.appendCap (bs cs).size 0 e)).run P w = .ok cap w1 := by
   rw [DF]; simp [choose, Sem.run, Question.forced, cap, q, w1]
  rw [run_bind hch]
  have helems : (Array.map (fun b : UInt8 => Value.int .u8 (b.toNat : Int)) (bs cs).data ++ Array.replicate (cap - (bs cs).size) (Value.int .u8 0)) = l.toArray := by
   rw [DF]; apply Array.ext'; simp [l]
  dsimp only
  rw [helems, run_bind (Cy e l.toArray)]
  have hmark : (markStringish ⟨w.heap.size, 0, none⟩).run P { w1 with heap := w.heap.push (.cells l.toArray e) } = .ok () { w1 with heap := w.heap.push (.cells l.toArray e (cap, cap + 1)) } := by
   unfold markStringish
   have hsh : (shape w.heap.size).run P { w1 with heap := w.heap.push (.cells l.toArray e) } = .ok (some (e, cap)) { w1 with heap := w.heap.push (.cells l.toArray e) } := by
    simp [shape, Sem.run, World.shape?, hll]
   rw [run_bind hsh]
   dsimp only
   simp only [freeze, Sem.run]
   congr 1
   simp only [World.freeze]
   have : w.heap.push (.cells l.toArray e) = (w.heap.push (.cells l.toArray e)) := rfl
   simp only [Nat.reduceEqDiff, if_false]
   congr 1
   apply Array.ext_getElem?
   intro i
   rw [Array.getElem?_modify]
   by_cases hi : w.heap.size = i
   ·subst hi; simp
   ·rw [if_neg hi, Array.getElem?_push, Array.getElem?_push, if_neg (Ne.symm hi), if_neg (Ne.symm hi)]
  rw [run_bind hmark, DF]; rfl
 unfold Du; rw [hrun]
 refine ⟨[AV e 1 (.slice (some ⟨w.heap.size, 0, none⟩) cs.length cap) cs.length (cs.map Bx)], ⟨rfl, _, _, rfl⟩, ?_, ?_⟩
 ·have h1 : St (pt w.heap.size (.cells l.toArray e (cap, cap + 1)) :: F) { w1 with heap := w.heap.push (.cells l.toArray e (cap, cap + 1)) } := St.of_heap (St.new (L := F) hst _) rfl
  refine BS (fun h hp => ?_) h1
  refine .inr ⟨w.heap.size, cap, List.replicate (cap - cs.length) (Value.int .u8 0), (cap, cap + 1), rfl, hp, by simp, by simp; omega, hcap, fun i _ h2 h3 => by simp at h2 h3; omega⟩
 ·exact (Az.drew w).trans (Az.new w1 _)
theorem Wc {z : Value} {l : List Value} {n : Nat} (hz : z.cells = l.toArray) {z0 : Value} (hl : l ≠ [] ∧ ∀ v ∈ l, v = z0) : (Array.range n).map (fun i => z.cells[i % z.cells.size]!) = (List.replicate n z0).toArray := by
 apply Array.ext
 ·simp
 ·intro i h1 h2
  have hpos : 0 < l.length := length_pos_iff.2 hl.1
  have hlt : i % l.length < l.length := Nat.mod_lt _ hpos
  simp only [Array.getElem_map, Array.getElem_range, hz, size_toArray, getElem_toArray, getElem_replicate]
  rw [List.getElem!_toArray, getElem!_pos l (i % l.length) hlt]
  exact hl.2 _ (getElem_mem _)
theorem AI.make {t e : TypeId} {x y : Operand} {i j : Int} {sz by' : Nat} {z z0 : Value} {l : List Value} (hx : ev E x = some (AA i)) (hy : ev E y = some (AA j)) (ht : Ah P t = some (e, sz, by')) (hz : Av P e = some z) (hzc : z.cells = l.toArray) (hl : (l ≠ [] ∧ ∀ v ∈ l, v = z0))
  (hb : 0 ≤ i ∧ i ≤ j ∧ (by' : Int) * j ≤ 281474976710656 ∧ j ≤ 9223372036854775807) : AI P ⟨none, .makeSlice t x y, ty, "", #[], none⟩ E [] fun v L' => ∃ b, v = .slice (some ⟨b, 0, none⟩) i.toNat j.toNat ∧ L' = [Ar b (List.replicate (j.toNat * sz) z0) e] := by
 intro ρ w F ha hs
 unfold Ah at ht
 split at ht <;> (try cases ht)
 rename_i e' hu
 split at ht <;> (try cases ht)
 rename_i inf hin
 obtain ⟨h0, h1, h2, h3⟩ := hb
 have hwi : IntKind.i64.wrap i = i := I5 om
 have hwj : IntKind.i64.wrap j = j := I5 om
 have hrun : (execOp ρ ⟨none, .makeSlice t x y, ty, "", #[], none⟩).run P w = .ok (.value (.slice (some ⟨w.heap.size, 0, none⟩) i.toNat j.toNat)) { w with heap := w.heap.push (.cells (List.replicate (j.toNat * inf.size) z0).toArray e) } := by
  refine Ct ?_
  show (Instr.makeSlice t (ρ x) (ρ y)).run P w = _
  rw [ha x _ hx, ha y _ hy]
  unfold Instr.makeSlice
  rw [run_bind (AJ hu)]
  dsimp only
  have hti : (typeInfo e).run P w = .ok inf w := by simp [typeInfo, program, Bind.bind, Sem.bind, Pure.pure, Sem.run, hin]
  rw [run_bind (a := i) (w' := w) rfl, run_bind (a := j) (w' := w) rfl, run_bind hti]
  simp only [hwi, hwj]
  have c1 : ((decide (j < 0) || decide ((inf.bytes : Int) * j > 2 ^ 48)) || decide (i < 0) || decide (i > j)) = false := by
   simp only [Bool.or_eq_false_iff, decide_eq_false_iff_not]
   refine ⟨⟨⟨by omega, ?_⟩, by omega⟩, by omega⟩
   have : (2 : Int) ^ 48 = 281474976710656 := by decide
   omega
  rw [c1]
  simp only [Bool.false_eq_true, if_false]
  rw [run_bind (run_askRoom (P := P) (w := w) _), run_bind (Bn (k := inf.size) (by simp [Ai, hin]))]
  by_cases hn : j.toNat * inf.size = 0
  ·rw [if_pos hn, run_bind Be]
   rw [hn]
   have he : (Array.range 0).map (fun x => (#[] : Array Value)[x % (#[] : Array Value).size]!) = (List.replicate 0 z0).toArray := by simp
   rw [he, run_bind (Cy e _)]
   rfl
  ·rw [if_neg hn]
   rw [run_bind (El hz), run_bind Be, Wc hzc hl, run_bind (Cy e _)]
   rfl
 unfold Du; rw [hrun]
 exact ⟨_, ⟨_, rfl, rfl⟩, St.new (L := F) hs _, Az.new _ _⟩
theorem MP {sz b off n c : Nat} {ys : List Value} {h : Hp} (hr : B5 sz h (.slice (some ⟨b, off, none⟩) n c) n ys) (hn : n ≠ 0) : ∃ (T : TypeId) (fr : Nat × Nat) (l : List Value), h b = some (.cells l.toArray T fr) ∧ off + n * sz ≤ l.length ∧ (l.drop off).take (n * sz) = ys ∧ n ≤ c := by
 rcases hr with ⟨h1, -⟩ | ⟨b', off', cap, l, T, fr, h1, h2, h3, h4, h5⟩
 ·exact absurd h1 hn
 ·simp only [Value.slice.injEq, Option.some.injEq, Addr.mk.injEq] at h1
  obtain ⟨⟨rfl, rfl, -⟩, -, rfl⟩ := h1
  exact ⟨T, fr, l, h2, h4, h3, h5⟩
theorem AH.loadAr {t : TypeId} {x : Operand} {b off k m c sz : Nat} {ys vs : List Value} {p : HP} (hx : ev E x = some (.pointer (some ⟨b, off, none⟩))) (hp : A7 P t = some (some k)) (hL : BT p L R)
  (hr : ∀ h : Hp, p h → B5 sz h (.slice (some ⟨b, off, none⟩) m c) m ys) (hk : k ≤ m * sz) (hv : ys.take k = vs) (hm : m ≠ 0 := by omega) : AH P ⟨none, .load t x, ty, "", #[], none⟩ E L (.agg vs.toArray) := by
 intro ρ w ha hs
 obtain ⟨h1, a1, hp1⟩ := AZ (hs.pick hL)
 obtain ⟨T, fr, l, hb, hl, hys, -⟩ := MP (hr _ hp1) hm
 show (do pure (Next.value (← Instr.loadAt t (ρ x))) : Sem Next).run P w = _
 rw [ha x _ hx]
 have : (Instr.loadAt t (.pointer (some ⟨b, off, none⟩))).run P w = .ok (.agg vs.toArray) w := by
  unfold Instr.loadAt
  rw [← hv, ← hys, take_take, Nat.min_eq_left hk]
  exact FD hp (a1 _ _ hb) om
 rw [run_bind this]; rfl
theorem AH.loadEl {t : TypeId} {x : Operand} {b off n c i : Nat} {ys : List Value} {v : Value} {p : HP} (hx : ev E x = some (.pointer (some ⟨b, off + i, none⟩))) (hp : A7 P t = some none) (hL : BT p L R)
  (hr : ∀ h : Hp, p h → B5 1 h (.slice (some ⟨b, off, none⟩) n c) n ys) (hv : ys[i]? = some v) : AH P ⟨none, .load t x, ty, "", #[], none⟩ E L v := by
 intro ρ w ha hs
 obtain ⟨h1, a1, hp1⟩ := AZ (hs.pick hL)
 obtain ⟨T, fr, l, hb, hl, hys, -⟩ := MP (hr _ hp1) (fun h0 => by have := FG (hr _ hp1); rw [h0] at this; rw [eq_nil_of_length_eq_zero (by omega : ys.length = 0)] at hv; cases hv)
 show (do pure (Next.value (← Instr.loadAt t (ρ x))) : Sem Next).run P w = _
 rw [ha x _ hx]
 have hlv : l[off + i]? = some v := by
  rw [← hys, List.getElem?_take] at hv
  split at hv
  ·simpa using hv
  ·cases hv
 have : (Instr.loadAt t (.pointer (some ⟨b, off + i, none⟩))).run P w = .ok v w := by
  unfold Instr.loadAt
  exact Gf hp (a1 _ _ hb) hlv
 rw [run_bind this]; rfl
theorem ID {sz n : Nat} {v : Value} {ys : List Value} (hr : B5 sz (fun b => w.heap[b]?) v n ys) : (Builtin.firstCells sz n v).run P w = .ok ys.toArray w := by
 rcases hr with ⟨rfl, rfl, a, c, rfl⟩ | ⟨b, off, cap, l, T, fr, rfl, hb, h3, h4, -⟩
 ·cases a with
  | none => rfl
  | some a => show (loadCells a (0 * sz)).run P w = _; rw [Nat.zero_mul]; rfl
 ·show (loadCells ⟨b, off, none⟩ (n * sz)).run P w = _
  rw [Eb hb h4, h3]
def Iw (sz : Nat) (h : Hp) (u : Value) (m : Nat) (ys : List Value) : Prop := B5 sz h u m ys ∨ ∃ s : List UInt8, u = AU s ∧ sz = 1 ∧ m = s.length ∧ ys = s.map Bx
theorem JY {sz : Nat} {h h' : Hp} {v : Value} {n : Nat} {ys : List Value} (hr : Iw sz h v n ys) (hle : ∀ b o, h b = some o → h' b = some o) : Iw sz h' v n ys := hr.imp (fun h => Bm h hle) id
theorem Di {sz : Nat} {h : Hp} {v : Value} {n : Nat} {ys : List Value} (hr : Iw sz h v n ys) : ys.length = n * sz := by
 rcases hr with hr | ⟨s, -, rfl, rfl, rfl⟩
 ·exact FG hr
 ·simp
theorem Jy {sz m : Nat} {u : Value} {ys : List Value} (hr : Iw sz (fun b => w.heap[b]?) u m ys) : (Builtin.lenOf u).run P w = .ok m w := by
 rcases hr with (⟨rfl, -, a, c, rfl⟩ | ⟨b, off, cap, l, T, fr, rfl, -⟩) | ⟨s, rfl, -, rfl, -⟩
 ·rfl
 ·rfl
 ·show (pure (bs s).size : Sem Nat).run P w = _
  rw [DF]; rfl
theorem NY {sz m k : Nat} {u : Value} {ys : List Value} (hr : Iw sz (fun b => w.heap[b]?) u m ys) (hk : k ≤ m) : (Builtin.firstCells sz k u).run P w = .ok (ys.take (k * sz)).toArray w := by
 rcases hr with (⟨rfl, rfl, a, c, rfl⟩ | ⟨b, off, cap, l, T, fr, rfl, hb, h3, h4, -⟩) | ⟨s, rfl, rfl, rfl, rfl⟩
 ·obtain rfl : k = 0 := by omega
  cases a with
  | none => simp [Builtin.firstCells, Be]
  | some a => show (loadCells a (0 * sz)).run P w = _; rw [Nat.zero_mul]; rfl
 ·show (loadCells ⟨b, off, none⟩ (k * sz)).run P w = _
  have hle : k * sz ≤ m * sz := Nat.mul_le_mul_right _ hk
  rw [Eb hb om, ← h3, take_take, Nat.min_eq_left hle]
 ·show (pure (((bs s).extract 0 k).data.map fun b => Value.int .u8 b.toNat) : Sem (Array Value)).run P w = _
  rw [Le]
  simp [Be, map_take]
theorem Kl {sz m : Nat} {u : Value} {ys : List Value} (hr : Iw sz (fun b => w.heap[b]?) u m ys) : (Builtin.firstCells sz m u).run P w = .ok ys.toArray w := by
 rw [NY hr (Nat.le_refl _), take_of_length_le (Nat.le_of_eq (Di hr))]
theorem AI.appendG {t tx e : TypeId} {x y : Operand} {v u : Value} {n m sz by' : Nat} {xs ys : List Value} {z : Value} {zl : List Value} {p : HP} {ts : Array TypeId} (hts : ts = #[t, tx]) (hx : ev E x = some v) (hy : ev E y = some u) (ht : Ah P t = some (e, sz, by')) (htx : (∃ e', P.underlying tx = some (.slice e')) ∨ P.underlying tx = some .string)
  (hz : Av P e = some z) (hzc : z.cells = zl.toArray) (hzl : zl.length = sz) (hcell : ∀ y ∈ ys, AD y = true) (hrd : ∀ h : Hp, p h → Iw sz h u m ys) (hb : (n + m) * by' ≤ 140737488355328) (hb0 : 0 < by') :
  AI P ⟨none, .call { callee := .builtin .append, args := #[x, y], argTypes := ts }, ty, "", #[], none⟩ E [AV e sz v n xs, p] fun v' L' => (∃ a c, v' = .slice a (n + m) c) ∧ L' = [AV e sz v' (n + m) (xs ++ ys), p] := by
 intro ρ w F ha hs
 subst hts
 have hs2 : St (p :: AV e sz v n xs :: F) w := DL hs
 obtain ⟨hp1, ap, hpp⟩ := AZ hs2
 have hru : Iw sz (fun b => w.heap[b]?) u m ys := JY (hrd _ hpp) ap
 obtain ⟨hv1, av, hvv⟩ := AZ hs
 have hrv : B5 sz (fun b => w.heap[b]?) v n xs := Bm (AE hvv) av
 unfold Ah at ht
 split at ht <;> (try cases ht)
 rename_i e' hu
 split at ht <;> (try cases ht)
 rename_i inf hin
 have hti : ∀ w : World, (typeInfo e).run P w = .ok inf w := fun w => by simp [typeInfo, program, Bind.bind, Sem.bind, Pure.pure, Sem.run, hin]
 have hsz : ∀ w : World, (sizeOf e).run P w = .ok inf.size w := fun w => Bn (by simp [Ai, hin])
 have hlen : (Builtin.lenOf u).run P w = .ok m w := Jy hru
 obtain ⟨a, sCap, hva⟩ : ∃ a sCap, v = .slice a n sCap := Hn hvv
 have main : ∃ v' w', (Builtin.append_ #[t, tx] ty #[v, u]).run P w = .ok v' w' ∧ St (AV e inf.size v' (n + m) (xs ++ ys) :: p :: F) w' ∧ Az w w' := by
  rcases htx with ⟨e', htx⟩ | htx
  all_goals
   unfold Builtin.append_
   simp only [List.getElem?_toArray, List.getElem?_cons_zero, List.getElem?_cons_succ]
   subst hva
   rw [run_bind (AJ hu)]
   dsimp only
   rw [run_bind (hsz w)]
   rw [run_bind (AJ htx), run_bind Be]
   dsimp only
   simp only [Bool.false_eq_true, if_false, Bool.not_false, if_true]
   rw [run_bind hlen]
   by_cases hroom : n + m ≤ sCap
   ·rw [if_pos hroom, run_bind (Kl hru)]
    rcases hvv with ⟨hv0, rfl, rfl⟩ | ⟨b, cap, rest, fr, hv0, hb1, hl1, hl2, hl3, hl4⟩
    ·simp only [Value.slice.injEq] at hv0
     obtain ⟨rfl, -, rfl⟩ := hv0
     have hm0 : m = 0 := by omega
     subst hm0
     have hys : ys = [] := by
      have := Di hru; simpa using this
     subst hys
     refine ⟨_, w, rfl, ?_, .refl _⟩
     exact hs
    ·simp only [Value.slice.injEq] at hv0
     obtain ⟨rfl, -, rfl⟩ := hv0
     have hyl := Di hru
     have hbw := av _ _ hb1
     have hmul : n * inf.size + m * inf.size ≤ sCap * inf.size := by rw [← Nat.add_mul]; exact Nat.mul_le_mul_right _ hroom
     have hst := DP (P := P) ys w (xs ++ rest) (n * inf.size) 0 hbw (by simp; omega) hcell (fun i h1 h2 => hl4 i om om)
     dsimp only
     rw [Addr.add_eq, Nat.zero_add, run_bind hst]
     refine ⟨_, _, rfl, ?_, Az.upd _ _ _⟩
     rw [Nat.add_zero]
     have hspl : HJ (xs ++ rest) (n * inf.size) ys = (xs ++ ys) ++ rest.drop ys.length := by
      unfold HJ
      rw [← hl1, take_left, append_assoc, append_assoc]
      congr 2
      rw [drop_append, drop_eq_nil_of_le om]
      simp
     rw [hspl]
     -- the block is owned: its frame stays
     obtain ⟨g1, g2, gd, b1, b2, gp, gL⟩ := hs
     have gp' := gp
     rcases gp with ⟨gv, -, -⟩ | ⟨b', cap', rest', fr', gv, gb, gl1, gl2, gl3, gl4⟩
     ·simp at gv
     ·simp only [Value.slice.injEq, Option.some.injEq, Addr.mk.injEq] at gv
      obtain ⟨⟨rfl, -, -⟩, -, rfl⟩ := gv
      have h2b : g2 b = none := (gd b).resolve_left (by rw [gb]; simp)
      refine ⟨fun c => if c = b then some (.cells ((xs ++ ys) ++ rest.drop ys.length).toArray e fr) else none, g2, fun c => ?_, fun c o ec => ?_, fun c o ec => ?_, ?_, gL⟩
      ·by_cases ec : c = b
       ·exact .inr (ec ▸ h2b)
       ·exact .inl (if_neg ec)
      ·by_cases hc : c = b
       ·subst hc; simp only [if_true] at ec; injection ec with ec; rw [← ec]; exact Kb hbw
       ·simp [hc] at ec
      ·have hc : c ≠ b := by rintro rfl; rw [h2b] at ec; cases ec
       have := b2 _ _ ec
       simpa [upd, Ne.symm hc] using this
      ·refine .inr ⟨b, sCap, rest.drop ys.length, fr, rfl, by simp, ?_, ?_, hroom, hl4⟩
       ·simp [hl1, hyl, Nat.add_mul]
       ·simp; omega
   ·rw [if_neg hroom]
    have hn1 : ¬ (((n + m : Nat) : Int) > IntKind.i64.max ∧ (False ∨ inf.bytes = 0)) := by
     rintro ⟨-, h⟩
     rcases h with h | h
     ·cases h
     ·omega
    rw [run_bind (hti w)]
    rw [if_neg hn1]
    rw [run_bind (hti w)]
    have hfit := growslice_fits (need := n + m) (old := sCap) (bytes := inf.bytes) om hb
    rw [if_neg om]
    let q : Question := .appendCap (n + m) sCap e
    let cap := q.cut (w.tape w.drawn q)
    have hcap : n + m ≤ cap := by show n + m ≤ n + m + _; omega
    let w1 : World := { w with drawn := w.drawn + 1 }
    have hch : (choose (.appendCap (n + m) sCap e)).run P w = .ok cap w1 := by simp [choose, Sem.run, Question.forced, cap, q, w1]
    rw [run_bind hch, run_bind (hti w1), run_bind (run_askRoom (P := P) (w := w1) _)]
    have hrv1 : B5 inf.size (fun b => w1.heap[b]?) (.slice a n sCap) n xs := hrv
    have hru1 : Iw inf.size (fun b => w1.heap[b]?) u m ys := hru
    rw [run_bind (ID hrv1), run_bind (Kl hru1), run_bind (El hz)]
    have hzs : (Builtin.zeroCells z.cells (cap - (n + m))) = ((List.range ((cap - (n + m)) * zl.length)).map fun i => zl[i % zl.length]!).toArray := by
     unfold Builtin.zeroCells
     rw [hzc]
     apply Array.ext'
     simp [List.getElem!_toArray]
    rw [hzs]
    let rest := (List.range ((cap - (n + m)) * zl.length)).map fun i => zl[i % zl.length]!
    have hcells : xs.toArray ++ ys.toArray ++ rest.toArray = ((xs ++ ys) ++ rest).toArray := by simp
    rw [show xs.toArray ++ ys.toArray ++ ((List.range ((cap - (n + m)) * zl.length)).map fun i => zl[i % zl.length]!).toArray = ((xs ++ ys) ++ rest).toArray from hcells]
    rw [run_bind (Cy e _)]
    refine ⟨_, _, rfl, ?_, (Az.drew w).trans (Az.new w1 _)⟩
    have hsF : St (p :: F) w1 := (St.tail hs).drew
    have h1 := St.new hsF (.cells ((xs ++ ys) ++ rest).toArray e (0, 0))
    refine BS (fun h hp => ?_) h1
    refine .inr ⟨w1.heap.size, cap, rest, (0, 0), rfl, hp, ?_, ?_, hcap, Bk _ _⟩
    ·simp [FG hrv, Di hru, Nat.add_mul]
    ·simp only [length_append, FG hrv, Di hru, rest, length_map, length_range, hzl]
     rw [← Nat.add_mul, ← Nat.add_mul]
     exact Nat.le_of_eq (by congr 1; omega)
 obtain ⟨v', w', hr, h1, h2⟩ := main
 have hrun : (execOp ρ ⟨none, .call { callee := .builtin .append, args := #[x, y], argTypes := #[t, tx] }, ty, "", #[], none⟩).run P w = .ok (.value v') w' := by
  rw [CZ]
  refine Ct ?_
  simp only [map_toArray, map_cons, map_nil]
  rw [ha x _ hx, ha y _ hy]; exact hr
 obtain ⟨hq1, -, hqq⟩ := AZ h1
 unfold Du; rw [hrun]
 exact ⟨_, ⟨Hn hqq, rfl⟩, h1, h2⟩
theorem AI.append {t tx e : TypeId} {x y : Operand} {v u : Value} {n m sz by' : Nat} {xs ys : List Value} {z : Value} {zl : List Value} {p : HP} {ts : Array TypeId} (hts : ts = #[t, tx]) (hx : ev E x = some v) (hy : ev E y = some u) (ht : Ah P t = some (e, sz, by')) (htx : (∃ e', P.underlying tx = some (.slice e')) ∨ P.underlying tx = some .string)
  (hz : Av P e = some z) (hzc : z.cells = zl.toArray) (hzl : zl.length = sz) (hcell : ∀ y ∈ ys, AD y = true) (hrd : ∀ h : Hp, p h → B5 sz h u m ys) (hb : (n + m) * by' ≤ 140737488355328) (hb0 : 0 < by') :
  AI P ⟨none, .call { callee := .builtin .append, args := #[x, y], argTypes := ts }, ty, "", #[], none⟩ E [AV e sz v n xs, p] fun v' L' => (∃ a c, v' = .slice a (n + m) c) ∧ L' = [AV e sz v' (n + m) (xs ++ ys), p] :=
 AI.appendG hts hx hy ht htx hz hzc hzl hcell (fun h hp => .inl (hrd h hp)) hb hb0
theorem St.emp2 {p : HP} {F : List HP} (hs : St (p :: F) w) : St (p :: (fun _ => True) :: F) w :=
 EJ (L := F) (L' := (fun _ => True) :: F) (fun h hs => ⟨fun _ => none, h, fun _ => .inl rfl, fun _ _ e => (by cases e), fun _ _ e => e, trivial, hs⟩) hs
theorem AI.appendS {t tx e : TypeId} {x y : Operand} {v : Value} {s : List UInt8} {n by' : Nat} {xs : List Value} {z : Value} {zl : List Value} {ts : Array TypeId} (hts : ts = #[t, tx]) (hx : ev E x = some v) (hy : ev E y = some (AU s)) (ht : Ah P t = some (e, 1, by')) (htx : P.underlying tx = some .string)
  (hz : Av P e = some z) (hzc : z.cells = zl.toArray) (hzl : zl.length = 1) (hb : (n + s.length) * by' ≤ 140737488355328) (hb0 : 0 < by') :
  AI P ⟨none, .call { callee := .builtin .append, args := #[x, y], argTypes := ts }, ty, "", #[], none⟩ E [AV e 1 v n xs] fun v' L' => (∃ a c, v' = .slice a (n + s.length) c) ∧ L' = [AV e 1 v' (n + s.length) (xs ++ s.map Bx)] := by
 intro ρ w F ha hs
 have q := AI.appendG (P := P) (E := E) (ty := ty) (p := fun _ => True) (n := n) (xs := xs) hts hx hy ht (.inr htx) hz hzc hzl (ys := s.map Bx) (by simp [AD]) (fun h _ => .inr ⟨s, rfl, rfl, rfl, rfl⟩) hb hb0 ρ w F ha (St.emp2 hs)
 refine q.mono ?_
 rintro v' w' ⟨L', ⟨h1, rfl⟩, h2, h3⟩
 exact ⟨_, ⟨h1, rfl⟩, Es (DL h2), h3⟩
theorem AI.post {op : Op} {pre : List HP} {K K' : Value → List HP → Prop} (h : AI P ⟨none, op, ty, "", #[], none⟩ E pre K) (hk : ∀ v L', K v L' → ∃ L'', K' v L'' ∧ ∀ F w, St (L' ++ F) w → St (L'' ++ F) w) : AI P ⟨none, op, ty, "", #[], none⟩ E pre K' := by
 intro ρ w F ha hs
 refine (h ρ w F ha hs).mono ?_
 rintro v w' ⟨L', hv, hs', hk'⟩
 obtain ⟨L'', h1, h2⟩ := hk v L' hv
 exact ⟨L'', h1, h2 F w' hs', hk'⟩
theorem AI.append1 {t e : TypeId} {x y : Operand} {v : Value} {b n m c sz by' : Nat} {xs l : List Value} {T : TypeId} {z : Value} {zl : List Value} {ts : Array TypeId} (hts : ts = #[t, t]) (hx : ev E x = some v) (hy : ev E y = some (.slice (some ⟨b, 0, none⟩) m c)) (ht : Ah P t = some (e, sz, by'))
  (hz : Av P e = some z) (hzc : z.cells = zl.toArray) (hzl : zl.length = sz) (hcell : ∀ y ∈ l, AD y = true) (hl : l.length = m * sz) (hmc : m ≤ c) (hb : (n + m) * by' ≤ 140737488355328) (hb0 : 0 < by') :
  AI P ⟨none, .call { callee := .builtin .append, args := #[x, y], argTypes := ts }, ty, "", #[], none⟩ E [AV e sz v n xs, Ar b l T] fun v' L' => (∃ a c, v' = .slice a (n + m) c) ∧ L' = [AV e sz v' (n + m) (xs ++ l)] := by
 have ht' : ∃ e', P.underlying t = some (.slice e') := by
  unfold Ah at ht
  split at ht <;> (try cases ht)
  rename_i e' hu
  exact ⟨e', hu⟩
 refine AI.post (AI.append (p := Ar b l T) (ys := l) (m := m) hts hx hy ht (.inl ht') hz hzc hzl hcell (fun h hp => Qs hp (by rw [drop_zero, ← hl, take_length]) om hmc) hb hb0) ?_
 rintro v' L' ⟨h1, rfl⟩
 exact ⟨_, ⟨h1, rfl⟩, fun F w hs => Es (DL hs)⟩
theorem AI.storeEl {t : TypeId} {x y : Operand} {b n c i : Nat} {xs : List Value} {T : TypeId} {v : Value} (hx : ev E x = some (.pointer (some ⟨b, 0 + i, none⟩))) (hy : ev E y = some v) (hv : AD v = true) (ht : Ai P t = some 1) (hi : i < n) :
  AI P ⟨none, .store t x y, ty, "", #[], none⟩ E [AV T 1 (.slice (some ⟨b, 0, none⟩) n c) n xs] fun _ L' => L' = [AV T 1 (.slice (some ⟨b, 0, none⟩) n c) n (xs.set i v)] := by
 intro ρ w F ha hs
 have hs' : St ((fun h => ∃ y : List Value × (Nat × Nat), (h b = some (.cells (List.toArray (xs ++ y.1)) T y.2)) ∧ xs.length = n * 1 ∧ c * 1 ≤ xs.length + y.1.length ∧ n ≤ c ∧ Rj y.2 0 (c * 1)) :: F) w := by
  refine BS (fun h hp => ?_) hs
  rcases hp with ⟨h1, -⟩ | ⟨b', cap, rest, fr, h1, h2, h3, h4, h5, h6⟩
  ·simp at h1
  ·simp only [Value.slice.injEq, Option.some.injEq, Addr.mk.injEq] at h1
   obtain ⟨⟨rfl, -, -⟩, -, rfl⟩ := h1
   exact ⟨(rest, fr), h2, h3, h4, h5, h6⟩
 obtain ⟨⟨rest, fr⟩, h1, h2, hd, a1, a2, ⟨p1, p2, p3, p4, p5⟩, hF⟩ := Jv hs'
 have hpt : St ([pt b (.cells (xs ++ rest).toArray T fr)] ++ F) w := ⟨h1, h2, hd, a1, a2, p1, hF⟩
 have := AI.store (P := P) (E := E) (ty := ty) hx hy hv ht (by simp; omega) (fun j q1 q2 => p5 j om (by simp at *; omega)) ρ w F ha hpt
 refine this.mono ?_
 rintro u w' ⟨L', rfl, hs2, hk⟩
 refine ⟨_, rfl, BS (fun h hp => ?_) hs2, hk⟩
 refine .inr ⟨b, c, rest, fr, rfl, ?_, by simpa using p2, by simpa using p3, p4, p5⟩
 have e : (xs ++ rest).set (0 + i) v = xs.set i v ++ rest := by
  rw [Nat.zero_add, set_append_left _ _ om]
 rw [← e]; exact hp
theorem AI.copyG {dT sT e : TypeId} {x y : Operand} {u : Value} {b off dLen dCap m sz by' : Nat} {l ys : List Value} {T : TypeId} {fr : Nat × Nat} {p : HP} {ts : Array TypeId} (hts : ts = #[dT, sT]) (hx : ev E x = some (.slice (some ⟨b, off, none⟩) dLen dCap)) (hy : ev E y = some u) (ht : Ah P dT = some (e, sz, by'))
  (hrd : ∀ h : Hp, p h → Iw sz h u m ys) (hcell : ∀ y ∈ ys, AD y = true) (hoff : off + dLen * sz ≤ l.length) (hf : Rj fr off (dLen * sz)) :
  AI P ⟨none, .call { callee := .builtin .copy, args := #[x, y], argTypes := ts }, ty, "", #[], none⟩ E [pt b (.cells l.toArray T fr), p] fun v' L' => v' = AA (min m dLen : Nat) ∧ L' = [pt b (.cells (HJ l off (ys.take (min m dLen * sz))).toArray T fr), p] := by
 intro ρ w F ha hs
 subst hts
 have hs2 : St (p :: pt b (.cells l.toArray T fr) :: F) w := DL hs
 obtain ⟨hp1, ap, hpp⟩ := AZ hs2
 have hru : Iw sz (fun b => w.heap[b]?) u m ys := JY (hrd _ hpp) ap
 have hbw : w.heap[b]? = some (.cells l.toArray T fr) := St.pt (L := p :: F) hs
 unfold Ah at ht
 split at ht <;> (try cases ht)
 rename_i e' hu
 split at ht <;> (try cases ht)
 rename_i inf hin
 have hlen : (Builtin.lenOf u).run P w = .ok m w := Jy hru
 have hyl := Di hru
 have hfc : (Builtin.firstCells inf.size (min m dLen) u).run P w = .ok (ys.take (min m dLen * inf.size)).toArray w := NY hru (Nat.min_le_left _ _)
 have hle2 : min m dLen * inf.size ≤ dLen * inf.size := Nat.mul_le_mul_right _ (Nat.min_le_right _ _)
 have hcl : (ys.take (min m dLen * inf.size)).length ≤ dLen * inf.size := by simp; omega
 have hrun : (execOp ρ ⟨none, .call { callee := .builtin .copy, args := #[x, y], argTypes := #[dT, sT] }, ty, "", #[], none⟩).run P w = .ok (.value (AA (min m dLen : Nat))) (upd w b (.cells (HJ l off (ys.take (min m dLen * inf.size))).toArray T fr)) := by
  rw [CZ]
  refine Ct ?_
  simp only [map_toArray, map_cons, map_nil]
  rw [ha x _ hx, ha y _ hy]
  unfold Builtin.copy_
  simp only [List.getElem?_toArray, List.getElem?_cons_zero, List.getElem?_cons_succ]
  rw [run_bind (AJ hu)]
  dsimp only
  rw [run_bind hlen, run_bind (Bn (k := inf.size) (by simp [Ai, hin]))]
  rw [show Nat.min m dLen = min m dLen from rfl, run_bind hfc]
  have hst := DP (P := P) (ys.take (min m dLen * inf.size)) w l off 0 hbw om (fun y hy => hcell y (mem_of_mem_take hy)) (fun i h1 h2 => hf i om om)
  dsimp only
  rw [run_bind hst]; rfl
 unfold Du; rw [hrun]
 exact ⟨_, ⟨rfl, rfl⟩, St.upd (L := p :: F) hs, Az.upd _ _ _⟩
theorem AI.copy {dT sT e : TypeId} {x y : Operand} {u : Value} {b off dLen dCap m sz by' : Nat} {l ys : List Value} {T : TypeId} {fr : Nat × Nat} {p : HP} {ts : Array TypeId} (hts : ts = #[dT, sT]) (hx : ev E x = some (.slice (some ⟨b, off, none⟩) dLen dCap)) (hy : ev E y = some u) (ht : Ah P dT = some (e, sz, by'))
  (hrd : ∀ h : Hp, p h → B5 sz h u m ys) (hcell : ∀ y ∈ ys, AD y = true) (hoff : off + dLen * sz ≤ l.length) (hf : Rj fr off (dLen * sz)) :
  AI P ⟨none, .call { callee := .builtin .copy, args := #[x, y], argTypes := ts }, ty, "", #[], none⟩ E [pt b (.cells l.toArray T fr), p] fun v' L' => v' = AA (min m dLen : Nat) ∧ L' = [pt b (.cells (HJ l off (ys.take (min m dLen * sz))).toArray T fr), p] :=
 AI.copyG hts hx hy ht (fun h hp => .inl (hrd h hp)) hcell hoff hf
theorem AI.copyS {dT sT e : TypeId} {x y : Operand} {s : List UInt8} {b off dLen dCap by' : Nat} {l : List Value} {T : TypeId} {fr : Nat × Nat} {ts : Array TypeId} (hts : ts = #[dT, sT]) (hx : ev E x = some (.slice (some ⟨b, off, none⟩) dLen dCap)) (hy : ev E y = some (AU s)) (ht : Ah P dT = some (e, 1, by'))
  (hoff : off + dLen ≤ l.length) (hf : Rj fr off dLen) :
  AI P ⟨none, .call { callee := .builtin .copy, args := #[x, y], argTypes := ts }, ty, "", #[], none⟩ E [pt b (.cells l.toArray T fr)] fun v' L' => v' = AA (min s.length dLen : Nat) ∧ L' = [pt b (.cells (HJ l off ((s.map Bx).take (min s.length dLen))).toArray T fr)] := by
 intro ρ w F ha hs
 have q := AI.copyG (P := P) (E := E) (ty := ty) (p := fun _ => True) (m := s.length) (ys := s.map Bx) hts hx hy ht (fun h _ => .inr ⟨s, rfl, rfl, rfl, rfl⟩) (by simp [AD]) (by simpa using hoff) (by simpa using hf) ρ w F ha (St.emp2 hs)
 refine q.mono ?_
 rintro v' w' ⟨L', ⟨h1, rfl⟩, h2, h3⟩
 refine ⟨_, ⟨h1, rfl⟩, ?_, h3⟩
 have := Es (DL h2)
 rw [Nat.mul_one] at this
 exact this
theorem AH.loadSl {t : TypeId} {x : Operand} {b n c i : Nat} {ys : List Value} {v : Value} {T : TypeId} (hx : ev E x = some (.pointer (some ⟨b, 0 + i, none⟩))) (hp : A7 P t = some none) (hL : BT (AV T 1 (.slice (some ⟨b, 0, none⟩) n c) n ys) L R)
  (hv : ys[i]? = some v) : AH P ⟨none, .load t x, ty, "", #[], none⟩ E L v := AH.loadEl hx hp hL (fun _ hp => AE hp) hv
theorem G.rdAny {W : World} {n : Nat} {ds : List Deferred} {X : Act → World → Prop} {p : HP} {sz m : Nat} {v : Value} {ys : List Value} (hr : ∀ h : Hp, p h → B5 sz h v m ys) (hL : BT p L R)
  (h : ∀ a c, v = .slice a m c → ys.length = m * sz → G W n ds E L X) : G W n ds E L X := by
 intro a w he hk hs
 obtain ⟨h1, -, hp⟩ := AZ (hs.pick hL)
 have hl := FG (hr _ hp)
 rcases hr _ hp with ⟨rfl, rfl, ad, c, rfl⟩ | ⟨b, off, cap, l, T, fr, hv, -⟩
 ·exact h _ _ rfl hl a w he hk hs
 ·exact h _ _ hv hl a w he hk hs
theorem G.rdShape {W : World} {n : Nat} {ds : List Deferred} {X : Act → World → Prop} {p : HP} {sz m c : Nat} {ad : Option Addr} {ys : List Value} (hr : ∀ h : Hp, p h → B5 sz h (.slice ad m c) m ys) (hL : BT p L R) (hm : 0 < m)
  (h : ∀ b off, ad = some ⟨b, off, none⟩ → G W n ds E L X) : G W n ds E L X := by
 intro a w he hk hs
 obtain ⟨h1, -, hp⟩ := AZ (hs.pick hL)
 rcases hr _ hp with ⟨rfl, -⟩ | ⟨b, off, cap, l, T, fr, hv, -⟩
 ·omega
 ·simp only [Value.slice.injEq] at hv
  exact h b off hv.1 a w he hk hs
theorem IC {α : Type} {l m : List α} {i : Nat} (h1 : i < l.length) (h2 : m.length = l.length) : (l.take i ++ m.drop i).set i l[i] = l.take (i + 1) ++ m.drop (i + 1) := by
 have e1 : (l.take i).length = i := by simp; omega
 have e3 : m.drop i = m[i]'om :: m.drop (i + 1) := drop_eq_getElem_cons om
 have e2 : l.take (i + 1) = l.take i ++ [l[i]] := by rw [take_succ_eq_append_getElem h1]
 rw [set_append_right _ _ om, e1, Nat.sub_self, e3, set_cons_zero, e2, append_assoc]
 rfl
theorem G.slShape {W : World} {n : Nat} {ds : List Deferred} {X : Act → World → Prop} {T : TypeId} {sz m : Nat} {v : Value} {xs : List Value} (hL : BT (AV T sz v m xs) L R) (hm : 0 < m)
  (h : ∀ b c, v = .slice (some ⟨b, 0, none⟩) m c → m ≤ c → xs.length = m * sz → G W n ds E L X) : G W n ds E L X := by
 intro a w he hk hs
 obtain ⟨h1, -, hp⟩ := AZ (hs.pick hL)
 rcases hp with ⟨-, h2, -⟩ | ⟨b, cap, rest, fr, hv, -, h3, -, h4, -⟩
 ·omega
 ·exact h b cap hv h4 h3 a w he hk hs
theorem G.slAny {W : World} {n : Nat} {ds : List Deferred} {X : Act → World → Prop} {T : TypeId} {sz m : Nat} {v : Value} {xs : List Value} (hL : BT (AV T sz v m xs) L R)
  (h : ∀ a c, v = .slice a m c → xs.length = m * sz → G W n ds E L X) : G W n ds E L X := by
 intro a w he hk hs
 obtain ⟨h1, -, hp⟩ := AZ (hs.pick hL)
 obtain ⟨x, c, hv⟩ := Hn hp
 exact h x c hv (RY hp) a w he hk hs
end
end Go.Proofs.YtjhlofbhpjakgaaGreat
