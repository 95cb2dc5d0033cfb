/- Own work: rules of the walk over the code, and the operations that only read. -/
import Derived.Test.YtnnbelmpbmfdnaaDoorSlCore
import Derived.Deep.LoopGhost
namespace Go.Proofs.YtnnbelmpbmfdnaaDoor
open Go

section code
variable {P : Program} {W : World} {n : Nat} {ds : List Deferred} {E : Env} {L : List HP} {Q : Exit → Act → World → Prop} {next : Act → World → Prop}

theorem G.seq {x y : Code} (h : G W n ds E L (x.wp P (Exit.then (y.wp P Q) Q))) : G W n ds E L ((Code.seq x y).wp P Q) :=
  fun a w he hk hs => wp_seq (h a w he hk hs)
theorem G.region {id : Nat} {l : List Oper} (h : G W n ds E L (wpList P l.toArray Q l)) : G W n ds E L ((Code.region id l.toArray false).wp P Q) :=
  fun a w he hk hs => wp_region_lit (h a w he hk hs)
theorem G.block {id : Nat} {c : Code} (h : G W n ds E L (c.wp P (Exit.inBlock id Q))) : G W n ds E L ((Code.block id c).wp P Q) :=
  fun a w he hk hs => wp_block (h a w he hk hs)
theorem G.ret (h : G W n ds E L (Q .ret)) : G W n ds E L (Code.ret.wp P Q) := fun a w he hk hs => wp_ret (h a w he hk hs)
theorem G.skip (h : G W n ds E L (Q .normal)) : G W n ds E L (Code.skip.wp P Q) := fun a w he hk hs => wp_skip (h a w he hk hs)
theorem G.exit {id : Nat} (h : G W n ds E L (Q (.exit id))) : G W n ds E L ((Code.exit id).wp P Q) := fun a w he hk hs => wp_exit (h a w he hk hs)
theorem G.condT {c : Operand} {x y : Code} (hc : ev E c = some (.bool true)) (h : G W n ds E L (x.wp P Q)) : G W n ds E L ((Code.cond c x y).wp P Q) :=
  fun a w he hk hs => wp_cond_true (he.agrees _ _ hc) (h a w he hk hs)
theorem G.condF {c : Operand} {x y : Code} (hc : ev E c = some (.bool false)) (h : G W n ds E L (y.wp P Q)) : G W n ds E L ((Code.cond c x y).wp P Q) :=
  fun a w he hk hs => wp_cond_false (he.agrees _ _ hc) (h a w he hk hs)
theorem G.condB {c : Operand} {x y : Code} {t : Bool} (hc : ev E c = some (.bool t)) (ht : t = true → G W n ds E L (x.wp P Q)) (hf : t = false → G W n ds E L (y.wp P Q)) :
    G W n ds E L ((Code.cond c x y).wp P Q) :=
  fun a w he hk hs => wp_cond_split (he.agrees _ _ hc) (fun e => ht e a w he hk hs) (fun e => hf e a w he hk hs)
theorem G.condD {c : Operand} {x y : Code} {φ : Prop} [Decidable φ] (hc : ev E c = some (.bool (decide φ))) (ht : φ → G W n ds E L (x.wp P Q)) (hf : ¬ φ → G W n ds E L (y.wp P Q)) :
    G W n ds E L ((Code.cond c x y).wp P Q) :=
  G.condB hc (fun e => ht (of_decide_eq_true e)) (fun e => hf (of_decide_eq_false e))
theorem G.condN {c : Operand} {x y : Code} {φ : Prop} [Decidable φ] (hc : ev E c = some (.bool (!decide φ))) (ht : ¬ φ → G W n ds E L (x.wp P Q)) (hf : φ → G W n ds E L (y.wp P Q)) :
    G W n ds E L ((Code.cond c x y).wp P Q) :=
  G.condB hc (fun e => ht (by simpa using e)) (fun e => hf (by simpa using e))
theorem G.nil {ops : Array Oper} (h : G W n ds E L (Q .normal)) : G W n ds E L (wpList P ops Q []) := h
theorem G.then_n (h : G W n ds E L next) : G W n ds E L (Exit.then next Q .normal) := h
theorem G.then_r (h : G W n ds E L (Q .ret)) : G W n ds E L (Exit.then next Q .ret) := h
theorem G.then_e {id : Nat} (h : G W n ds E L (Q (.exit id))) : G W n ds E L (Exit.then next Q (.exit id)) := h
theorem G.blk_n {id : Nat} (h : G W n ds E L (Q .normal)) : G W n ds E L (Exit.inBlock id Q .normal) := h
theorem G.blk_r {id : Nat} (h : G W n ds E L (Q .ret)) : G W n ds E L (Exit.inBlock id Q .ret) := h
theorem G.blk_e {id : Nat} (h : G W n ds E L (Q .normal)) : G W n ds E L (Exit.inBlock id Q (.exit id)) :=
  fun a w he hk hs => by simp only [Exit.inBlock, if_true]; exact h a w he hk hs
theorem G.blk_o {id id' : Nat} (hne : Nat.beq id' id = false) (h : G W n ds E L (Q (.exit id'))) : G W n ds E L (Exit.inBlock id Q (.exit id')) :=
  fun a w he hk hs => by
    have : id' ≠ id := fun e => by subst e; simp at hne
    simp only [Exit.inBlock, if_neg this]; exact h a w he hk hs
theorem G.weak {X : Act → World → Prop} {E' : Env} {L' R : List HP} (hE : SubE E' E) (hL : Picks L' L R) (h : G W n ds E' (L' ++ R) X) : G W n ds E L X :=
  fun a w he hk hs => h a w (he.sub hE) hk (hs.picks hL)
theorem G.env {X : Act → World → Prop} (E' : Env) (hE : SubE E' E) (h : G W n ds E' L X) : G W n ds E L X :=
  fun a w he hk hs => h a w (he.sub hE) hk hs
theorem G.perm {X : Act → World → Prop} {L' : List HP} (hL : L.Perm L') (h : G W n ds E L' X) : G W n ds E L X :=
  fun a w he hk hs => h a w he hk (hs.perm hL)
theorem G.focus {X : Act → World → Prop} {p : HP} {R : List HP} (hL : Pick p L R) (h : G W n ds E (p :: R) X) : G W n ds E L X :=
  fun a w he hk hs => h a w he hk (hs.pick hL)
theorem G.ex {X : Act → World → Prop} {α : Sort _} {p : α → HP} (h : ∀ x, G W n ds E (p x :: L) X) : G W n ds E ((fun hp => ∃ x, p x hp) :: L) X :=
  fun a w he hk hs => by obtain ⟨x, hx⟩ := sep_ex hs; exact h x a w he hk hx
theorem G.unfold {X : Act → World → Prop} {p : HP} {q : List HP} (hi : ∀ hp, p hp → sep q hp) (h : G W n ds E (q ++ L) X) : G W n ds E (p :: L) X :=
  fun a w he hk hs => h a w he hk (sep_flat (sep_imp hi hs))
/-- What an atom says beside: φ may be used. -/
theorem G.learn {X : Act → World → Prop} {p : HP} {φ : Prop} (hi : ∀ hp, p hp → φ) (h : φ → G W n ds E (p :: L) X) : G W n ds E (p :: L) X :=
  fun a w he hk hs => h (let ⟨_, _, hp⟩ := sep_head hs; hi _ hp) a w he hk hs
/-- An atom, opened by its words. -/
theorem G.open {X : Act → World → Prop} {p : HP} {α : Sort _} {φ : α → Prop} {q : α → List HP} (hi : ∀ hp, p hp → ∃ x, φ x ∧ sep (q x) hp)
    (h : ∀ x, φ x → G W n ds E (q x ++ L) X) : G W n ds E (p :: L) X :=
  fun a w he hk hs => by
    have hs' : St ((fun hp => ∃ x, φ x ∧ sep (q x) hp) :: L) w := sep_imp hi hs
    obtain ⟨x, h1, h2, hd, a1, a2, ⟨hx, hp⟩, hL⟩ := sep_ex hs'
    exact h x hx a w he hk (sep_join hd a1 a2 hp hL)
theorem G.fold {X : Act → World → Prop} {p : HP} {q R : List HP} (hL : Picks q L R) (hi : ∀ hp, sep q hp → p hp) (h : G W n ds E (p :: R) X) : G W n ds E L X :=
  fun a w he hk hs => h a w he hk (sep_imp hi (sep_fold (hs.picks hL)))
/-- An atom that holds of every heap. -/
theorem G.add {X : Act → World → Prop} {p : HP} (hp : ∀ h, p h) (h : G W n ds E (p :: L) X) : G W n ds E L X :=
  fun a w he hk hs => h a w he hk ⟨fun _ => none, _, fun _ => .inl rfl, fun _ _ e => (by cases e), fun _ _ e => e, hp _, hs⟩
theorem G.ne {X : Act → World → Prop} {b c : Nat} {o o' : Obj} {R : List HP} (hL : Picks [pt b o, pt c o'] L R) (h : b ≠ c → G W n ds E L X) : G W n ds E L X :=
  fun a w he hk hs => h (sep_pts_ne (hs.picks hL)) a w he hk hs
theorem EnvOK.cons {a : Act} {t : Nat} {v : Value} (h : EnvOK n ds E a) (hl : look E t = some v) : EnvOK n ds ((t, v) :: E) a :=
  ⟨h.size, h.defers, fun s u hu => by
    simp only [look] at hu
    cases e : Nat.beq t s with
    | true =>
      rw [e] at hu
      have := Nat.eq_of_beq_eq_true e
      subst this
      simp at hu; subst hu; exact h.slots _ _ hl
    | false => rw [e] at hu; exact h.slots _ _ hu⟩
theorem G.bool {X : Act → World → Prop} {t : Nat} {b : Bool} (hl : look E t = some (.bool b)) (hT : b = true → G W n ds ((t, .bool true) :: E) L X)
    (hF : b = false → G W n ds ((t, .bool false) :: E) L X) : G W n ds E L X := by
  intro a w he hk hs
  cases b
  · exact hF rfl a w (he.cons hl) hk hs
  · exact hT rfl a w (he.cons hl) hk hs
theorem G.dec {X : Act → World → Prop} {t : Nat} {φ : Prop} [Decidable φ] (hl : look E t = some (.bool (decide φ))) (hT : φ → G W n ds ((t, .bool true) :: E) L X)
    (hF : ¬ φ → G W n ds ((t, .bool false) :: E) L X) : G W n ds E L X :=
  G.bool hl (fun e => hT (of_decide_eq_true e)) (fun e => hF (of_decide_eq_false e))
theorem G.ndec {X : Act → World → Prop} {t : Nat} {φ : Prop} [Decidable φ] (hl : look E t = some (.bool (!decide φ))) (hT : ¬ φ → G W n ds ((t, .bool true) :: E) L X)
    (hF : φ → G W n ds ((t, .bool false) :: E) L X) : G W n ds E L X :=
  G.bool hl (fun e => hT (by simpa using e)) (fun e => hF (by simpa using e))

theorem G.kB {X : Act → World → Prop} {t : Nat} {b c : Bool} (hl : look E t = some (.bool b)) (hb : b = c) (h : G W n ds ((t, .bool c) :: E) L X) : G W n ds E L X :=
  fun a w he hk hs => by subst hb; exact h a w (he.cons hl) hk hs
theorem G.kDT {X : Act → World → Prop} {t : Nat} {φ : Prop} [Decidable φ] (hl : look E t = some (.bool (decide φ))) (hb : φ) (h : G W n ds ((t, .bool true) :: E) L X) : G W n ds E L X := G.kB hl (decide_eq_true hb) h
theorem G.kDF {X : Act → World → Prop} {t : Nat} {φ : Prop} [Decidable φ] (hl : look E t = some (.bool (decide φ))) (hb : ¬ φ) (h : G W n ds ((t, .bool false) :: E) L X) : G W n ds E L X := G.kB hl (decide_eq_false hb) h
theorem G.kNT {X : Act → World → Prop} {t : Nat} {φ : Prop} [Decidable φ] (hl : look E t = some (.bool (!decide φ))) (hb : ¬ φ) (h : G W n ds ((t, .bool true) :: E) L X) : G W n ds E L X := G.kB hl (by simpa using hb) h
theorem G.kNF {X : Act → World → Prop} {t : Nat} {φ : Prop} [Decidable φ] (hl : look E t = some (.bool (!decide φ))) (hb : φ) (h : G W n ds ((t, .bool false) :: E) L X) : G W n ds E L X := G.kB hl (by simpa using hb) h

inductive Suff : List HP → List HP → Prop
  | here {F : List HP} : Suff F F
  | there {q : HP} {F R : List HP} : Suff F R → Suff F (q :: R)
theorem Suff.st {F R L : List HP} (h : Suff F R) : ∀ {hp : Hp}, sep (L ++ R) hp → sep (L ++ F) hp := by
  induction h with
  | here => exact id
  | @there q F R _ ih =>
    intro hp hs
    refine ih ?_
    have : (L ++ q :: R).Perm (q :: (L ++ R)) := List.perm_middle
    exact sep_tail (sep_perm this hs)
def RoundQ {ι : Type} (n : Nat) (ds : List Deferred) (W : World) (Ei : ι → Env) (Li : ι → List HP) (φ : ι → Prop) (μ : ι → Nat) (F : List HP) (i : ι) : Act → World → Prop :=
  fun a w => ∃ j, φ j ∧ μ j < μ i ∧ EnvOK n ds (Ei j) a ∧ Keeps W w ∧ St (Li j ++ F) w
def MeetQ {ι : Sort _} (n : Nat) (ds : List Deferred) (W : World) (Ei : ι → Env) (Li : ι → List HP) (φ : ι → Prop) (F : List HP) : Act → World → Prop :=
  fun a w => ∃ i, φ i ∧ EnvOK n ds (Ei i) a ∧ Keeps W w ∧ St (Li i ++ F) w
theorem G.loop {ι : Type} (Ei : ι → Env) (Li : ι → List HP) (φ : ι → Prop) (μ : ι → Nat) (i0 : ι) {F : List HP} {c : Code} {R : List HP} (h0 : φ i0) (hE : SubE (Ei i0) E) (hL : Picks (Li i0) L R) (hF : Suff F R)
    (round : ∀ i, φ i → G W n ds (Ei i) (Li i ++ F) (c.wp P (Exit.then (RoundQ n ds W Ei Li φ μ F i) Q))) :
    G W n ds E L ((Code.loop c).wp P Q) := by
  intro a w he hk hs
  refine wp_loop_ghost (fun k a w => ∃ i, φ i ∧ μ i = k ∧ EnvOK n ds (Ei i) a ∧ Keeps W w ∧ St (Li i ++ F) w) (μ i0) ⟨i0, h0, rfl, he.sub hE, hk, hF.st (hs.picks hL)⟩ ?_
  rintro k a w ⟨i, hi, rfl, he, hk, hs⟩
  refine Code.wp_mono ?_ (round i hi a w he hk hs)
  intro e a' w' hq
  cases e <;> first | exact hq | skip
  obtain ⟨j, h1, h2, h3, h4, h5⟩ := hq
  exact ⟨μ j, h2, j, h1, rfl, h3, h4, h5⟩
/-- The end of a round. -/
theorem G.round {ι : Type} {Ei : ι → Env} {Li : ι → List HP} {φ : ι → Prop} {μ : ι → Nat} {i : ι} {F R : List HP} (j : ι) (hj : φ j) (hm : μ j < μ i) (hE : SubE (Ei j) E) (hL : Picks (Li j) L R) (hF : Suff F R) :
    G W n ds E L (RoundQ n ds W Ei Li φ μ F i) :=
  fun a w he hk hs => ⟨j, hj, hm, he.sub hE, hk, hF.st (hs.picks hL)⟩
/-- Where ways meet again: what holds there. -/
theorem G.join {ι : Sort _} (Ei : ι → Env) (Li : ι → List HP) (φ : ι → Prop) {F : List HP} {x : Code} {next : Act → World → Prop}
    (h1 : G W n ds E L (x.wp P (Exit.then (MeetQ n ds W Ei Li φ F) Q))) (h2 : ∀ i, φ i → G W n ds (Ei i) (Li i ++ F) next) : G W n ds E L (x.wp P (Exit.then next Q)) := by
  intro a w he hk hs
  refine Code.wp_mono ?_ (h1 a w he hk hs)
  intro e a' w' hq
  cases e <;> first | exact hq | skip
  obtain ⟨i, q1, q2, q3, q4⟩ := hq
  exact h2 i q1 a' w' q2 q3 q4
theorem G.meet {ι : Sort _} {Ei : ι → Env} {Li : ι → List HP} {φ : ι → Prop} {F R : List HP} (i : ι) (hi : φ i) (hE : SubE (Ei i) E) (hL : Picks (Li i) L R) (hF : Suff F R) :
    G W n ds E L (MeetQ n ds W Ei Li φ F) :=
  fun a w he hk hs => ⟨i, hi, he.sub hE, hk, hF.st (hs.picks hL)⟩

/-- One operation. -/
theorem G.op {ops : Array Oper} {d : Option Nat} {op : Op} {ty : TypeId} {pos : String} {aft : Array Edge} {rest : List Oper} {pre F : List HP} {K : Value → List HP → Prop}
    (hp : OpSpec P ⟨none, op, ty, "", #[], none⟩ E pre K) (hL : Picks pre L F) (hd : dstOk d n = true)
    (h : ∀ v L', K v L' → G W n ds (putE d v E) (L' ++ F) (wpList P ops Q rest)) : G W n ds E L (wpList P ops Q (⟨d, op, ty, pos, aft, none⟩ :: rest)) := by
  intro a w he hk hs
  refine wpList_plain rfl fun K' hK' => ?_
  have hr : Runs P ⟨d, op, ty, pos, aft, none⟩ a.eval w _ := hp a.eval w F he.agrees (hs.picks hL)
  refine hr.wp fun v w' ⟨L', hv, hs', hk'⟩ => hK' _ _ ?_
  exact h v L' hv _ _ (he.put hd v) (hk.trans hk') hs'
theorem G.q {ops : Array Oper} {d : Nat} {op : Op} {ty : TypeId} {pos : String} {aft : Array Edge} {rest : List Oper} {v : Value}
    (hp : Quiet P ⟨none, op, ty, "", #[], none⟩ E L v) (hd : Nat.blt d n = true)
    (h : G W n ds ((d, v) :: E) L (wpList P ops Q rest)) : G W n ds E L (wpList P ops Q (⟨some d, op, ty, pos, aft, none⟩ :: rest)) := by
  intro a w he hk hs
  refine wpList_plain rfl fun K' hK' => ?_
  have hr : Runs P ⟨some d, op, ty, pos, aft, none⟩ a.eval w fun u w' => u = v ∧ w' = w := by
    have := hp a.eval w he.agrees hs
    unfold Runs
    rw [show execOp a.eval ⟨some d, op, ty, pos, aft, none⟩ = execOp a.eval ⟨none, op, ty, "", #[], none⟩ from rfl, this]
    exact ⟨rfl, rfl⟩
  refine hr.wp fun u w' ⟨hu, hw⟩ => hK' _ _ ?_
  subst hu; subst hw
  exact h _ _ (he.put (dst := some d) hd _) hk hs
/-- An operation whose guard says yes, or no. -/
def slotOf (ops : Array Oper) (j : Nat) : Option Nat := (ops[j]?).bind (·.dst)
theorem yielded_of {ops : Array Oper} {j t : Nat} {b : Bool} {a : Act} (hj : slotOf ops j = some t) (he : EnvOK n ds E a) (hl : look E t = some (.bool b)) : yielded ops a.tmps j = some b := by
  unfold yielded
  have : ((ops[j]?).bind (·.dst)) = some t := hj
  rw [this]
  simp [he.slots t _ hl]
theorem G.gskip {ops : Array Oper} {d : Option Nat} {op : Op} {ty : TypeId} {pos : String} {aft : Array Edge} {rest : List Oper} {j t : Nat} {b c : Bool}
    (hj : slotOf ops j = some t) (hl : look E t = some (.bool c)) (hbc : (c == b) = false) (hd : dstOk d n = true)
    (h : G W n ds (putE d undef E) L (wpList P ops Q rest)) : G W n ds E L (wpList P ops Q (⟨d, op, ty, pos, aft, some (j, b)⟩ :: rest)) := by
  intro a w he hk hs
  unfold wpList
  have hw : Region.wanted ⟨d, op, ty, pos, aft, some (j, b)⟩ (yielded ops a.tmps) = false := by
    simp only [Region.wanted, yielded_of hj he hl]
    simpa using hbc
  rw [if_neg (by rw [hw]; simp)]
  exact h _ _ (he.put hd _) hk hs
theorem G.gskipU {ops : Array Oper} {d : Option Nat} {op : Op} {ty : TypeId} {pos : String} {aft : Array Edge} {rest : List Oper} {j t : Nat} {b : Bool}
    (hj : slotOf ops j = some t) (hl : look E t = some undef) (hd : dstOk d n = true)
    (h : G W n ds (putE d undef E) L (wpList P ops Q rest)) : G W n ds E L (wpList P ops Q (⟨d, op, ty, pos, aft, some (j, b)⟩ :: rest)) := by
  intro a w he hk hs
  unfold wpList
  have hy : yielded ops a.tmps j = none := by
    unfold yielded
    have : ((ops[j]?).bind (·.dst)) = some t := hj
    rw [this]
    simp [he.slots t _ hl, undef]
  have hw : Region.wanted ⟨d, op, ty, pos, aft, some (j, b)⟩ (yielded ops a.tmps) = false := by
    simp only [Region.wanted, hy]
    cases b <;> rfl
  rw [if_neg (by rw [hw]; simp)]
  exact h _ _ (he.put hd _) hk hs
theorem G.grun {ops : Array Oper} {d : Option Nat} {op : Op} {ty : TypeId} {pos : String} {aft : Array Edge} {rest : List Oper} {j t : Nat} {b c : Bool}
    (hj : slotOf ops j = some t) (hl : look E t = some (.bool c)) (hbc : (c == b) = true)
    (h : G W n ds E L (wpList P ops Q (⟨d, op, ty, pos, aft, none⟩ :: rest))) : G W n ds E L (wpList P ops Q (⟨d, op, ty, pos, aft, some (j, b)⟩ :: rest)) := by
  intro a w he hk hs
  have hh := h a w he hk hs
  unfold wpList at hh ⊢
  have hw : Region.wanted ⟨d, op, ty, pos, aft, some (j, b)⟩ (yielded ops a.tmps) = true := by
    simp only [Region.wanted, yielded_of hj he hl]
    simpa using hbc
  have hw' : Region.wanted ⟨d, op, ty, pos, aft, none⟩ (yielded ops a.tmps) = true := rfl
  rw [if_pos hw]
  rw [if_pos hw'] at hh
  exact hh

/-- A call by its contract. -/
theorem OpSpec.call {f : FuncId} {fn : Func} {c : Code} {xs : Array Operand} {ts : Array TypeId} {ty : TypeId} {vs : List Value} {pre : List HP} {post : Value → List HP → Prop}
    (hf : P.funcs[f]? = some fn) (hb : fn.body = some c) (hnm : (fn.name == "runtime.NumGoroutine") = false) (hx : xs.toList.map (ev E) = vs.map some) (h : Fn P f vs.toArray pre post) :
    OpSpec P ⟨none, .call { callee := .value (.func f), args := xs, argTypes := ts }, ty, "", #[], none⟩ E pre post := by
  intro ρ w F ha hs
  have hv : xs.map ρ = vs.toArray := by
    apply Array.ext'
    rw [Array.toList_map]
    have : ∀ (l : List Operand) (us : List Value), l.map (ev E) = us.map some → l.map ρ = us := by
      intro l
      induction l with
      | nil => intro us h; cases us with
        | nil => rfl
        | cons u us => simp at h
      | cons x l ih => intro us h; cases us with
        | nil => simp at h
        | cons u us =>
          simp only [List.map_cons, List.cons.injEq] at h ⊢
          exact ⟨ha _ _ h.1, ih us h.2⟩
    exact this _ _ hx
  have hfn : ρ (.func f) = .func (.func f) #[] #[] := ha (.func f) _ rfl
  unfold Runs
  have : (execOp ρ ⟨none, .call { callee := .value (.func f), args := xs, argTypes := ts }, ty, "", #[], none⟩).run P w = .ok (.enter f vs.toArray) w := by
    have hnm' : ¬ fn.name = "runtime.NumGoroutine" := by simpa using hnm
    simp [execOp, resolve, hfn, Deferred.ofValue, invoke, callFunc, program, Bind.bind, Sem.bind, Pure.pure, Sem.run, hf, hb, hnm', hv]
  rw [this]
  refine (h F w hs).mono ?_
  rintro e w' ⟨v, L, hv', he, hs', hk⟩
  exact ⟨v, he, L, hv', hs', hk⟩
end code

/-! ### Entering and leaving -/
def FnQ (P : Program) (fn : Func) (post : Value → List HP → Prop) (F : List HP) (W : World) : Exit → Act → World → Prop :=
  bodyPost P fn fun e w' => ∃ v L, post v L ∧ e = .returned v ∧ St (L ++ F) w' ∧ Keeps W w'
def argE : Nat → List Value → Env
  | _, [] => []
  | i, v :: vs => (i, v) :: argE (i + 1) vs
theorem look_argE : ∀ (vs : List Value) (i t : Nat) (v : Value), look (argE i vs) t = some v → i ≤ t ∧ vs[t - i]? = some v := by
  intro vs
  induction vs with
  | nil => intro i t v h; cases h
  | cons u vs ih =>
    intro i t v h
    simp only [argE, look] at h
    by_cases hk : i = t
    · subst hk; simp at h; simp [h]
    · have hb : Nat.beq i t = false := by
        cases e : Nat.beq i t with
        | false => rfl
        | true => exact absurd (Nat.eq_of_beq_eq_true e) hk
      rw [hb] at h
      obtain ⟨h1, h2⟩ := ih _ _ _ h
      refine ⟨by omega, ?_⟩
      have : t - i = (t - (i + 1)) + 1 := by omega
      rw [this]; simpa using h2
theorem Fn.intro {P : Program} {f : FuncId} {fn : Func} {c : Code} {vs : List Value} {pre : List HP} {post : Value → List HP → Prop} {n : Nat}
    (hf : P.funcs[f]? = some fn) (hb : fn.body = some c) (hn : vs.length + (fn.ntmps - vs.length) = n)
    (h : ∀ F W, G W n [] (argE 0 vs) (pre ++ F) (c.wp P (FnQ P fn post F W))) : Fn P f vs.toArray pre post := by
  intro F w hs
  refine calls_of_wp hf hb (h F w _ w ⟨?_, rfl, fun t v hl => ?_⟩ (.refl w) hs)
  · simp [← hn]
  · obtain ⟨-, h2⟩ := look_argE _ _ _ _ hl
    have hlt : t < vs.length := by
      rcases Nat.lt_or_ge t vs.length with h | h
      · exact h
      · simp [List.getElem?_eq_none h] at h2
    simp only [Nat.sub_zero] at h2
    rw [List.getElem?_eq_getElem hlt] at h2
    simp only [Option.some.injEq] at h2
    simp [Array.getElem?_append, hlt, h2]
def resE : List ResultVar → Env → Option Value
  | [], _ => some (.tuple #[])
  | [.tmp t], E => look E t
  | [.tmp t, .tmp u], E => match look E t, look E u with | some v, some v' => some (.tuple #[v, v']) | _, _ => none
  | [.tmp t, .tmp u, .tmp r], E => match look E t, look E u, look E r with | some v, some v', some v'' => some (.tuple #[v, v', v'']) | _, _, _ => none
  | _, _ => none
theorem run_resE {P : Program} {fn : Func} {E : Env} {n : Nat} {ds : List Deferred} {a : Act} {v : Value} {l : List ResultVar} (he : EnvOK n ds E a) (hl : fn.results = l.toArray) (h : resE l E = some v) (w : World) :
    (results fn a.tmps).run P w = .ok v w := by
  have hg : ∀ t u, look E t = some u → a.tmps.getD t undef = u := fun t u hu => by simp [he.slots t u hu]
  unfold resE at h
  split at h
  · rw [results_none (by rw [hl])]; simpa using h
  · rw [results_tmp (by rw [hl]), hg _ _ h]
  · split at h
    · rename_i h1 h2
      rw [results_tmp2 (by rw [hl]), hg _ _ h1, hg _ _ h2]; simpa using h
    · cases h
  · split at h
    · rename_i h1 h2 h3
      simp only [Option.some.injEq] at h
      subst h
      simp [results, hl, ← hg _ _ h1, ← hg _ _ h2, ← hg _ _ h3]
    · cases h
  · cases h
theorem G.done {P : Program} {fn : Func} {post : Value → List HP → Prop} {F : List HP} {W : World} {n : Nat} {E : Env} {L L' R : List HP} {v : Value} {l : List ResultVar}
    (hl : fn.results = l.toArray) (hr : resE l E = some v) (hp : post v L') (hL : Picks L' L R) (hF : Suff F R) : G W n [] E L (FnQ P fn post F W .ret) := by
  intro a w he hk hs
  exact ⟨he.defers, v, run_resE he hl hr w, v, L', hp, rfl, hF.st (hs.picks hL), hk⟩
theorem G.done_n {P : Program} {fn : Func} {post : Value → List HP → Prop} {F : List HP} {W : World} {n : Nat} {E : Env} {L : List HP}
    (h : G W n [] E L (FnQ P fn post F W .ret)) : G W n [] E L (FnQ P fn post F W .normal) := h
end Go.Proofs.YtnnbelmpbmfdnaaDoor
