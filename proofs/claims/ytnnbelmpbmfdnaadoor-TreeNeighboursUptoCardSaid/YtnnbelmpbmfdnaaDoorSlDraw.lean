/- Own work: a region that draws its order: one walk serves every order, where what only reads is walked first. -/
import Derived.Test.YtnnbelmpbmfdnaaDoorSlEff
import Derived.Orders
namespace Go.Proofs.YtnnbelmpbmfdnaaDoor
open Go

abbrev EF := Nat → Option Value
def putF (d : Option Nat) (v : Value) (e : EF) : EF :=
  match d with
  | some d => fun t => if t = d then some v else e t
  | none => e
def evF (e : EF) : Operand → Option Value
  | .tmp t => e t
  | .const v => some v
  | .global g => some (.pointer (some ⟨g, 0, none⟩))
  | .func f => some (.func (.func f) #[] #[])
def AgF (e : EF) (ρ : Operand → Value) : Prop := ∀ x v, evF e x = some v → ρ x = v
structure EnvF (n : Nat) (ds : List Deferred) (e : EF) (a : Act) : Prop where
  size : a.tmps.size = n
  defers : a.defers = ds
  slots : ∀ t v, e t = some v → a.tmps[t]? = some v
theorem EnvF.agrees {n : Nat} {ds : List Deferred} {e : EF} {a : Act} (h : EnvF n ds e a) : AgF e a.eval := by
  intro x v hv
  cases x with
  | tmp t => simp only [evF] at hv; simp [Act.eval, h.slots t v hv]
  | const c => simpa [evF, Act.eval] using hv
  | global g => simpa [evF, Act.eval] using hv
  | func f => simpa [evF, Act.eval] using hv
theorem EnvF.put {n : Nat} {ds : List Deferred} {e : EF} {a : Act} (h : EnvF n ds e a) {dst : Option Nat} (hd : dstOk dst n = true) (v : Value) :
    EnvF n ds (putF dst v e) (a.put dst v) := by
  cases dst with
  | none => exact h
  | some d =>
    have hd' : d < n := by simpa [dstOk, Nat.blt_eq] using hd
    refine ⟨by simpa [Act.put] using h.size, h.defers, fun t u hu => ?_⟩
    simp only [putF] at hu
    by_cases hk : t = d
    · subst hk; simp at hu; subst hu; simp [Act.put, h.size, hd']
    · rw [if_neg hk] at hu
      simpa [Act.put, Array.getElem?_setIfInBounds, Ne.symm hk] using h.slots t u hu
theorem putF_comm {e : EF} {d d' : Option Nat} {v v' : Value} (h : ∀ t, d = some t → d' ≠ some t) : putF d v (putF d' v' e) = putF d' v' (putF d v e) := by
  cases d with
  | none => rfl
  | some d =>
    cases d' with
    | none => rfl
    | some d' =>
      have hne : d ≠ d' := fun he => h d rfl (he ▸ rfl)
      funext t
      simp only [putF]
      by_cases h1 : t = d
      · subst h1; simp [hne]
      · by_cases h2 : t = d'
        · subst h2; simp [h1]
        · simp [h1, h2]
theorem look_cons (d : Nat) (v : Value) (E : Env) : look ((d, v) :: E) = putF (some d) v (look E) := by
  funext t
  simp only [look, putF]
  by_cases h : t = d
  · subst h; simp
  · have : Nat.beq d t = false := by
      cases e : Nat.beq d t with
      | false => rfl
      | true => exact absurd (Nat.eq_of_beq_eq_true e).symm h
    simp [this, h]
theorem look_putE (d : Option Nat) (v : Value) (E : Env) : look (putE d v E) = putF d v (look E) := by
  cases d with
  | none => rfl
  | some d => exact look_cons d v E
theorem ev_evF (E : Env) (x : Operand) : ev E x = evF (look E) x := by cases x <;> rfl

section
variable (P : Program) (ops : Array Oper) (n : Nat) (RO : List HP) (H : List Nat) (Fin : EF → List HP → Prop)

def QuietF (o : Oper) (e : EF) (L : List HP) (v : Value) : Prop := ∀ ρ w, AgF e ρ → St L w → (execOp ρ o).run P w = .ok (.value v) w
def OpSpecF (o : Oper) (e : EF) (pre : List HP) (K : Value → List HP → Prop) : Prop :=
  ∀ ρ w F, AgF e ρ → St (pre ++ F) w → Runs P o ρ w fun v w' => ∃ L', K v L' ∧ St (L' ++ F) w' ∧ Keeps w w'
/-- What leaves its atoms as they were, and answers one value. -/
def MildF (o : Oper) (e : EF) (L : List HP) (v : Value) : Prop := OpSpecF P o e L fun u L' => u = v ∧ L' = L
def readyB (S : List Nat) (i : Nat) : Bool :=
  match ops[i]? with
  | some o => o.after.all fun e => !Region.binds .any e || !S.contains e.on
  | none => false
def edgeB (o : Oper) (j : Nat) : Bool := o.after.any fun e => Region.binds .any e && e.on == j
/-- Two operations without an edge between them do not touch each other's slots; each edge leads to an operation; no select. -/
def directB : Bool :=
  (List.range ops.size).all fun i => (ops[i]?).any fun oi =>
    (oi.after.all fun e => Nat.blt e.on ops.size) && (match oi.op with | .select .. => false | _ => true) &&
    (List.range i).all fun j => (ops[j]?).any fun oj => edgeB oi j || edgeB oj i || (oj.apart ops oi && oi.apart ops oj)
/-- While j waits, no heavy operation is ready: A are those behind j. -/
def wcheck (j : Nat) (S A : List Nat) : Bool :=
  (A.all fun i => S.contains i && (ops[i]?).any fun o => o.after.any fun e => Region.binds .any e && (e.on == j || A.contains e.on)) &&
  (S.all fun h => !H.contains h || A.contains h)
def GuardRuns (o : Oper) (e : EF) : Prop := o.guard = none ∨ ∃ j b t, o.guard = some (j, b) ∧ slotOf ops j = some t ∧ e t = some (.bool b)
def GuardSkips (o : Oper) (e : EF) : Prop := ∃ j b t u, o.guard = some (j, b) ∧ slotOf ops j = some t ∧ e t = some u ∧ (u = .bool (!b) ∨ u = undef)
def Act1 (o : Oper) (e : EF) (L : List HP) (v : Value) : Prop := (GuardRuns ops o e ∧ MildF P o e L v) ∨ (GuardSkips ops o e ∧ v = undef)

inductive D : List Nat → EF → List HP → Prop
  | done {e : EF} {RW : List HP} : Fin e RW → D [] e RW
  | quiet {j : Nat} {S : List Nat} {e : EF} {RW : List HP} {o : Oper} {v : Value} : ops[j]? = some o → readyB ops (j :: S) j = true → dstOk o.dst n = true →
      Act1 P ops o e RO v → D S (putF o.dst v e) RW → D (j :: S) e RW
  | quietW {j : Nat} {S : List Nat} {e : EF} {RW : List HP} {o : Oper} {v : Value} (A : List Nat) : ops[j]? = some o → readyB ops (j :: S) j = true → dstOk o.dst n = true →
      wcheck ops H j S A = true → Act1 P ops o e (RO ++ RW) v → D S (putF o.dst v e) RW → D (j :: S) e RW
  | heavy {S : List Nat} {e : EF} {RW : List HP} (o : Nat → Oper) (pre F : Nat → List HP) (K : Nat → Value → List HP → Prop) :
      (∃ i, i ∈ S ∧ readyB ops S i = true) →
      (∀ i, i ∈ S → readyB ops S i = true → H.contains i = true ∧ ops[i]? = some (o i) ∧ GuardRuns ops (o i) e ∧ dstOk (o i).dst n = true ∧ Picks (pre i) RW (F i) ∧ OpSpecF P (o i) e (pre i) (K i)) →
      (∀ i, i ∈ S → readyB ops S i = true → ∀ v L', K i v L' → D (S.erase i) (putF (o i).dst v e) (L' ++ F i)) → D S e RW
end

section
variable {P : Program} {ops : Array Oper} {n : Nat} {RO : List HP} {H : List Nat} {Fin : EF → List HP → Prop}

theorem edge_of_ready {S : List Nat} {i j : Nat} {o : Oper} (ho : ops[i]? = some o) (hr : readyB ops S i = true) (hj : j ∈ S) : edgeB o j = false := by
  simp only [readyB, ho, Array.all_eq_true'] at hr
  cases he : edgeB o j with
  | false => rfl
  | true =>
    simp only [edgeB, Array.any_eq_true'] at he
    obtain ⟨e, hm, he⟩ := he
    have := hr e hm
    simp at he
    obtain ⟨hb, hon⟩ := he
    simp [hb, hon, hj] at this
theorem ready_mono {S S' : List Nat} {i : Nat} (hs : ∀ x, x ∈ S' → x ∈ S) (hr : readyB ops S i = true) : readyB ops S' i = true := by
  unfold readyB at hr ⊢
  cases ho : ops[i]? with
  | none => rw [ho] at hr; cases hr
  | some o =>
    rw [ho] at hr
    simp only [Array.all_eq_true'] at hr ⊢
    intro e hm
    have := hr e hm
    simp only [Bool.or_eq_true, Bool.not_eq_true', List.contains_eq_mem, decide_eq_false_iff_not] at this ⊢
    exact this.imp id (fun h hx => h (hs _ hx))
theorem direct_spec (hd : directB ops = true) {i j : Nat} {oi oj : Oper} (hi : ops[i]? = some oi) (hj : ops[j]? = some oj) (hne : i ≠ j) (h1 : edgeB oi j = false) (h2 : edgeB oj i = false) :
    oj.apart ops oi = true ∧ oi.apart ops oj = true := by
  have lt : ∀ {k : Nat} {o : Oper}, ops[k]? = some o → k < ops.size := fun {k o} h => by
    rcases Nat.lt_or_ge k ops.size with h' | h'
    · exact h'
    · rw [Array.getElem?_eq_none h'] at h; cases h
  have key : ∀ {i j : Nat} {oi oj : Oper}, ops[i]? = some oi → ops[j]? = some oj → j < i → edgeB oi j = false → edgeB oj i = false → oj.apart ops oi = true ∧ oi.apart ops oj = true := by
    intro i j oi oj hi hj hlt h1 h2
    unfold directB at hd
    have a := List.all_eq_true.1 hd i (List.mem_range.2 (lt hi))
    simp only [hi, Option.any_some, Bool.and_eq_true] at a
    have b := List.all_eq_true.1 a.2 j (List.mem_range.2 hlt)
    simp only [hj, Option.any_some, h1, h2, Bool.false_or, Bool.and_eq_true] at b
    exact b
  rcases Nat.lt_or_gt_of_ne hne with h | h
  · exact (key hj hi h h2 h1).symm
  · exact key hi hj h h1 h2
theorem direct_sel (hd : directB ops = true) {i : Nat} {o : Oper} (hi : ops[i]? = some o) : ∀ cs b, o.op ≠ .select cs b := by
  have hlt : i < ops.size := by
    rcases Nat.lt_or_ge i ops.size with h' | h'
    · exact h'
    · rw [Array.getElem?_eq_none h'] at hi; cases hi
  unfold directB at hd
  have a := List.all_eq_true.1 hd i (List.mem_range.2 hlt)
  simp only [hi, Option.any_some, Bool.and_eq_true] at a
  intro cs b he
  have := a.1.2
  rw [he] at this
  cases this
theorem direct_bound (hd : directB ops = true) {i : Nat} {o : Oper} (hi : ops[i]? = some o) {e : Edge} (he : e ∈ o.after) : e.on < ops.size := by
  have hlt : i < ops.size := by
    rcases Nat.lt_or_ge i ops.size with h' | h'
    · exact h'
    · rw [Array.getElem?_eq_none h'] at hi; cases hi
  unfold directB at hd
  have a := List.all_eq_true.1 hd i (List.mem_range.2 hlt)
  simp only [hi, Option.any_some, Bool.and_eq_true, Array.all_eq_true'] at a
  simpa [Nat.blt_eq] using a.1.1 e he

/-- What an operation looks at: outside it the environment is free. -/
theorem looks_tmp {o : Oper} {x : Operand} {t : Nat} (hx : x ∈ o.op.operands) (ht : x = .tmp t) : t ∈ o.looksAt ops := by
  subst ht
  exact List.mem_append_left _ (List.mem_filterMap.2 ⟨.tmp t, by simpa using hx, rfl⟩)
def rho (t : Nat) (u : Value) (ρ : Operand → Value) : Operand → Value
  | .tmp s => if s = t then u else ρ (.tmp s)
  | x => ρ x
theorem rho_ne {t : Nat} {u : Value} {ρ : Operand → Value} {x : Operand} (h : x ≠ .tmp t) : rho t u ρ x = ρ x := by
  cases x with
  | tmp s => exact if_neg (fun hs => h (by rw [hs]))
  | const c => rfl
  | global g => rfl
  | func f => rfl
theorem AgF.swap {o : Oper} (hs : ∀ cs b, o.op ≠ .select cs b) {e : EF} {d : Option Nat} {u : Value} (hd : ∀ t, d = some t → t ∉ o.looksAt ops) {ρ : Operand → Value} (ha : AgF e ρ) :
    ∃ ρ', AgF (putF d u e) ρ' ∧ execOp ρ' o = execOp ρ o := by
  cases d with
  | none => exact ⟨ρ, ha, rfl⟩
  | some t =>
    refine ⟨rho t u ρ, fun x v hv => ?_, execOp_congr o hs fun x hx => rho_ne (fun h => hd t rfl (looks_tmp hx h))⟩
    cases x with
    | tmp s =>
      simp only [evF, putF] at hv
      by_cases hst : s = t
      · subst hst; simp at hv; simp [rho, hv]
      · rw [if_neg hst] at hv
        rw [rho_ne (fun h => hst (by injection h))]; exact ha _ _ hv
    | const c => exact ha (.const c) _ hv
    | global g => exact ha (.global g) _ hv
    | func f => exact ha (.func f) _ hv
theorem AgF.drop {o : Oper} (hs : ∀ cs b, o.op ≠ .select cs b) {e : EF} {d : Option Nat} {u : Value} (hd : ∀ t, d = some t → t ∉ o.looksAt ops) {ρ : Operand → Value} (ha : AgF (putF d u e) ρ) :
    ∃ ρ', AgF e ρ' ∧ execOp ρ' o = execOp ρ o := by
  cases d with
  | none => exact ⟨ρ, ha, rfl⟩
  | some t =>
    refine ⟨rho t ((e t).getD undef) ρ, fun x v hv => ?_, execOp_congr o hs fun x hx => rho_ne (fun h => hd t rfl (looks_tmp hx h))⟩
    cases x with
    | tmp s =>
      simp only [evF] at hv
      by_cases hst : s = t
      · subst hst; simp [rho, hv]
      · rw [rho_ne (fun h => hst (by injection h))]
        exact ha (.tmp s) v (by simp [evF, putF, hst, hv])
    | const c => exact ha (.const c) _ hv
    | global g => exact ha (.global g) _ hv
    | func f => exact ha (.func f) _ hv
theorem QuietF.take {o : Oper} (hs : ∀ cs b, o.op ≠ .select cs b) {e : EF} {d : Option Nat} {u : Value} (hd : ∀ t, d = some t → t ∉ o.looksAt ops) {L : List HP} {v : Value} (h : QuietF P o (putF d u e) L v) : QuietF P o e L v := by
  intro ρ w ha hst
  obtain ⟨ρ', ha', he⟩ := AgF.swap hs hd (u := u) ha
  rw [← he]; exact h ρ' w ha' hst
theorem QuietF.give {o : Oper} (hs : ∀ cs b, o.op ≠ .select cs b) {e : EF} {d : Option Nat} {u : Value} (hd : ∀ t, d = some t → t ∉ o.looksAt ops) {L : List HP} {v : Value} (h : QuietF P o e L v) : QuietF P o (putF d u e) L v := by
  intro ρ w ha hst
  obtain ⟨ρ', ha', he⟩ := AgF.drop hs hd ha
  rw [← he]; exact h ρ' w ha' hst
theorem OpSpecF.take {o : Oper} (hs : ∀ cs b, o.op ≠ .select cs b) {e : EF} {d : Option Nat} {u : Value} (hd : ∀ t, d = some t → t ∉ o.looksAt ops) {pre : List HP} {K : Value → List HP → Prop} (h : OpSpecF P o (putF d u e) pre K) : OpSpecF P o e pre K := by
  intro ρ w F ha hst
  obtain ⟨ρ', ha', he⟩ := AgF.swap hs hd (u := u) ha
  have := h ρ' w F ha' hst
  unfold Runs at this ⊢
  rw [← he]; exact this
theorem OpSpecF.give {o : Oper} (hs : ∀ cs b, o.op ≠ .select cs b) {e : EF} {d : Option Nat} {u : Value} (hd : ∀ t, d = some t → t ∉ o.looksAt ops) {pre : List HP} {K : Value → List HP → Prop} (h : OpSpecF P o e pre K) : OpSpecF P o (putF d u e) pre K := by
  intro ρ w F ha hst
  obtain ⟨ρ', ha', he⟩ := AgF.drop hs hd ha
  have := h ρ' w F ha' hst
  unfold Runs at this ⊢
  rw [← he]; exact this
theorem MildF.more {o : Oper} {e : EF} {L L' : List HP} {v : Value} (h : MildF P o e L v) : MildF P o e (L ++ L') v := by
  intro ρ w F ha hs
  rw [List.append_assoc] at hs
  refine (h ρ w (L' ++ F) ha hs).mono ?_
  rintro u w' ⟨_, ⟨rfl, rfl⟩, hs', hk⟩
  exact ⟨_, ⟨rfl, rfl⟩, by rw [List.append_assoc]; exact hs', hk⟩
theorem guard_slot {o : Oper} {j : Nat} {b : Bool} {t : Nat} (hg : o.guard = some (j, b)) (ht : slotOf ops j = some t) : t ∈ o.looksAt ops := by
  unfold slotOf at ht
  simp [Oper.looksAt, hg, ht]
theorem putF_look {e : EF} {d : Option Nat} {u : Value} {t : Nat} (h : ∀ s, d = some s → s ≠ t) : putF d u e t = e t := by
  cases d with
  | none => rfl
  | some s => simp [putF, Ne.symm (h s rfl)]
theorem GuardRuns.iff {o : Oper} {e : EF} {d : Option Nat} {u : Value} (hd : ∀ t, d = some t → t ∉ o.looksAt ops) : GuardRuns ops o (putF d u e) ↔ GuardRuns ops o e := by
  unfold GuardRuns
  refine or_congr Iff.rfl ⟨?_, ?_⟩
  · rintro ⟨j, b, t, h1, h2, h3⟩
    exact ⟨j, b, t, h1, h2, by rwa [putF_look (fun s hs hst => hd s hs (hst ▸ guard_slot h1 h2))] at h3⟩
  · rintro ⟨j, b, t, h1, h2, h3⟩
    exact ⟨j, b, t, h1, h2, by rwa [putF_look (fun s hs hst => hd s hs (hst ▸ guard_slot h1 h2))]⟩
theorem GuardSkips.iff {o : Oper} {e : EF} {d : Option Nat} {u : Value} (hd : ∀ t, d = some t → t ∉ o.looksAt ops) : GuardSkips ops o (putF d u e) ↔ GuardSkips ops o e := by
  unfold GuardSkips
  refine ⟨?_, ?_⟩
  · rintro ⟨j, b, t, u, h1, h2, h3, h4⟩
    exact ⟨j, b, t, u, h1, h2, by rwa [putF_look (fun s hs hst => hd s hs (hst ▸ guard_slot h1 h2))] at h3, h4⟩
  · rintro ⟨j, b, t, u, h1, h2, h3, h4⟩
    exact ⟨j, b, t, u, h1, h2, by rwa [putF_look (fun s hs hst => hd s hs (hst ▸ guard_slot h1 h2))], h4⟩
theorem Act1.take {o : Oper} (hs : ∀ cs b, o.op ≠ .select cs b) {e : EF} {d : Option Nat} {u : Value} (hd : ∀ t, d = some t → t ∉ o.looksAt ops) {L : List HP} {v : Value} (h : Act1 P ops o (putF d u e) L v) : Act1 P ops o e L v :=
  h.imp (fun ⟨a, b⟩ => ⟨(GuardRuns.iff hd).1 a, OpSpecF.take hs hd b⟩) (fun ⟨a, b⟩ => ⟨(GuardSkips.iff hd).1 a, b⟩)
theorem Act1.give {o : Oper} (hs : ∀ cs b, o.op ≠ .select cs b) {e : EF} {d : Option Nat} {u : Value} (hd : ∀ t, d = some t → t ∉ o.looksAt ops) {L : List HP} {v : Value} (h : Act1 P ops o e L v) : Act1 P ops o (putF d u e) L v :=
  h.imp (fun ⟨a, b⟩ => ⟨(GuardRuns.iff hd).2 a, OpSpecF.give hs hd b⟩) (fun ⟨a, b⟩ => ⟨(GuardSkips.iff hd).2 a, b⟩)
theorem QuietF.more {o : Oper} {e : EF} {L L' : List HP} {v : Value} (h : QuietF P o e L v) : QuietF P o e (L ++ L') v := by
  intro ρ w ha hs
  obtain ⟨h1, h2, hd, a1, a2, s1, s2⟩ := sep_append hs
  exact h ρ w ha (sep_mono s1 a1)
theorem Act1.more {o : Oper} {e : EF} {L L' : List HP} {v : Value} (h : Act1 P ops o e L v) : Act1 P ops o e (L ++ L') v :=
  h.imp (fun ⟨a, b⟩ => ⟨a, b.more⟩) id

def StepOk (P : Program) (ops : Array Oper) (n : Nat) (RO : List HP) (H : List Nat) (Fin : EF → List HP → Prop) (S : List Nat) (e : EF) (RW : List HP) (i : Nat) : Prop :=
  (∃ o v, ops[i]? = some o ∧ dstOk o.dst n = true ∧ Act1 P ops o e (RO ++ RW) v ∧ D P ops n RO H Fin (S.erase i) (putF o.dst v e) RW) ∨
  (∃ o pre F K, H.contains i = true ∧ ops[i]? = some o ∧ GuardRuns ops o e ∧ dstOk o.dst n = true ∧ Picks pre RW F ∧ OpSpecF P o e pre K ∧ ∀ v L', K v L' → D P ops n RO H Fin (S.erase i) (putF o.dst v e) (L' ++ F))

theorem D.step (hd : directB ops = true) {S : List Nat} {e : EF} {RW : List HP} (h : D P ops n RO H Fin S e RW) : S.Nodup → ∀ i, i ∈ S → readyB ops S i = true → StepOk P ops n RO H Fin S e RW i := by
  induction h with
  | done _ => intro _ i hi; cases hi
  | @quiet j S e RW o v ho hr hds ha hD ih =>
    intro hn i hi hri
    by_cases hij : i = j
    · subst hij
      exact .inl ⟨o, v, ho, hds, ha.more, by simpa using hD⟩
    · have hiS : i ∈ S := (List.mem_cons.1 hi).resolve_left hij
      have hn' := (List.nodup_cons.1 hn)
      obtain ⟨oi, hoi⟩ : ∃ oi, ops[i]? = some oi := by
        unfold readyB at hri
        cases hx : ops[i]? with
        | none => rw [hx] at hri; cases hri
        | some x => exact ⟨x, rfl⟩
      have e1 : edgeB oi j = false := edge_of_ready hoi hri (by simp)
      have e2 : edgeB o i = false := edge_of_ready ho hr hi
      obtain ⟨ap1, ap2⟩ := direct_spec hd hoi ho hij e1 e2
      obtain ⟨p1, p2, p3⟩ := Oper.apart_spec ap1
      have er : (j :: S).erase i = j :: S.erase i := List.erase_cons_tail (by simp [Ne.symm hij])
      have rest : ∀ (u : Value) (RW' : List HP), D P ops n RO H Fin (S.erase i) (putF oi.dst u (putF o.dst v e)) RW' → D P ops n RO H Fin ((j :: S).erase i) (putF oi.dst u e) RW' := by
        intro u RW' hx
        rw [er]
        refine D.quiet ho (ready_mono (fun x hx => ?_) hr) hds (ha.give (direct_sel hd ho) (fun t ht => p3 t ht)) ?_
        · rcases List.mem_cons.1 hx with h | h
          · exact h ▸ List.mem_cons_self
          · exact List.mem_cons_of_mem _ (List.mem_of_mem_erase h)
        · rw [putF_comm (fun t h1 h2 => p2 t h1 h2)]; exact hx
      rcases ih hn'.2 i hiS (ready_mono (fun x hx => List.mem_cons_of_mem _ hx) hri) with ⟨o', u, ho', hd', ha', hD'⟩ | ⟨o', pre, F, K, hH, ho', hg, hd', hp, hspec, hD'⟩
      · obtain rfl : oi = o' := by rw [hoi] at ho'; injection ho'
        exact .inl ⟨oi, u, hoi, hd', ha'.take (direct_sel hd hoi) (fun t ht => p1 t ht), rest _ _ hD'⟩
      · obtain rfl : oi = o' := by rw [hoi] at ho'; injection ho'
        exact .inr ⟨oi, pre, F, K, hH, hoi, (GuardRuns.iff (fun t ht => p1 t ht)).1 hg, hd', hp, hspec.take (direct_sel hd hoi) (fun t ht => p1 t ht), fun u L' hu => rest _ _ (hD' u L' hu)⟩
  | @quietW j S e RW o v A ho hr hds hw ha hD ih =>
    intro hn i hi hri
    by_cases hij : i = j
    · subst hij
      exact .inl ⟨o, v, ho, hds, ha, by simpa using hD⟩
    · have hiS : i ∈ S := (List.mem_cons.1 hi).resolve_left hij
      have hn' := (List.nodup_cons.1 hn)
      obtain ⟨oi, hoi⟩ : ∃ oi, ops[i]? = some oi := by
        unfold readyB at hri
        cases hx : ops[i]? with
        | none => rw [hx] at hri; cases hri
        | some x => exact ⟨x, rfl⟩
      have e1 : edgeB oi j = false := edge_of_ready hoi hri (by simp)
      have e2 : edgeB o i = false := edge_of_ready ho hr hi
      obtain ⟨ap1, ap2⟩ := direct_spec hd hoi ho hij e1 e2
      obtain ⟨p1, p2, p3⟩ := Oper.apart_spec ap1
      have er : (j :: S).erase i = j :: S.erase i := List.erase_cons_tail (by simp [Ne.symm hij])
      simp only [wcheck, Bool.and_eq_true] at hw
      have hiA : i ∉ A := by
        intro hA
        have := List.all_eq_true.1 hw.1 i hA
        simp only [hoi, Option.any_some, Bool.and_eq_true, Array.any_eq_true'] at this
        obtain ⟨-, ed, hm, hb⟩ := this
        simp only [Bool.and_eq_true, Bool.or_eq_true, beq_iff_eq] at hb
        obtain ⟨hb, hon⟩ := hb
        have hin : ed.on ∈ j :: S := by
          rcases hon with hon | hon
          · rw [hon]; simp
          · have hc := List.all_eq_true.1 hw.1 ed.on (by simpa using hon)
            simp only [Bool.and_eq_true] at hc
            exact List.mem_cons_of_mem _ (by simpa using hc.1)
        have := edge_of_ready hoi hri hin
        have ht : edgeB oi ed.on = true := by
          simp only [edgeB, Array.any_eq_true']
          exact ⟨ed, hm, by simp [hb]⟩
        rw [ht] at this; cases this
      have hw' : wcheck ops H j (S.erase i) A = true := by
        simp only [wcheck, Bool.and_eq_true]
        refine ⟨List.all_eq_true.2 fun x hx => ?_, List.all_eq_true.2 fun x hx => List.all_eq_true.1 hw.2 x (List.mem_of_mem_erase hx)⟩
        have hc := List.all_eq_true.1 hw.1 x hx
        simp only [Bool.and_eq_true] at hc ⊢
        refine ⟨?_, hc.2⟩
        have : x ≠ i := fun h => hiA (h ▸ hx)
        simpa [List.mem_erase_of_ne this] using hc.1
      have hiH : H.contains i = false := by
        have := List.all_eq_true.1 hw.2 i hiS
        simp only [Bool.or_eq_true, Bool.not_eq_true'] at this
        exact this.resolve_right (by simpa using hiA)
      have rest : ∀ (u : Value), D P ops n RO H Fin (S.erase i) (putF oi.dst u (putF o.dst v e)) RW → D P ops n RO H Fin ((j :: S).erase i) (putF oi.dst u e) RW := by
        intro u hx
        rw [er]
        refine D.quietW A ho (ready_mono (fun x hx => ?_) hr) hds hw' (ha.give (direct_sel hd ho) (fun t ht => p3 t ht)) ?_
        · rcases List.mem_cons.1 hx with h | h
          · exact h ▸ List.mem_cons_self
          · exact List.mem_cons_of_mem _ (List.mem_of_mem_erase h)
        · rw [putF_comm (fun t h1 h2 => p2 t h1 h2)]; exact hx
      rcases ih hn'.2 i hiS (ready_mono (fun x hx => List.mem_cons_of_mem _ hx) hri) with ⟨o', u, ho', hd', ha', hD'⟩ | ⟨o', pre, F, K, hH, ho', hg, hd', hp, hspec, hD'⟩
      · obtain rfl : oi = o' := by rw [hoi] at ho'; injection ho'
        exact .inl ⟨oi, u, hoi, hd', ha'.take (direct_sel hd hoi) (fun t ht => p1 t ht), rest _ hD'⟩
      · rw [hiH] at hH; cases hH
  | heavy o pre F K _ h1 h2 _ =>
    intro _ i hi hri
    obtain ⟨a, b, c, d, f, g⟩ := h1 i hi hri
    exact .inr ⟨o i, pre i, F i, K i, a, b, c, d, f, g, fun v L' hv => h2 i hi hri v L' hv⟩

theorem D.some_ready {S : List Nat} {e : EF} {RW : List HP} (h : D P ops n RO H Fin S e RW) : S = [] ∧ Fin e RW ∨ ∃ i, i ∈ S ∧ readyB ops S i = true := by
  cases h with
  | done h => exact .inl ⟨rfl, h⟩
  | quiet _ hr => exact .inr ⟨_, List.mem_cons_self, hr⟩
  | quietW _ _ hr => exact .inr ⟨_, List.mem_cons_self, hr⟩
  | heavy _ _ _ _ hx => exact .inr hx

theorem guard_runs {o : Oper} {e : EF} {ds : List Deferred} {a : Act} (he : EnvF n ds e a) (h : GuardRuns ops o e) : Region.wanted o (yielded ops a.tmps) = true := by
  rcases h with h | ⟨j, b, t, h1, h2, h3⟩
  · simp [Region.wanted, h]
  · have : yielded ops a.tmps j = some b := by
      unfold yielded
      rw [show ((ops[j]?).bind (·.dst)) = some t from h2]
      simp [he.slots t _ h3]
    simp [Region.wanted, h1, this]
theorem guard_skips {o : Oper} {e : EF} {ds : List Deferred} {a : Act} (he : EnvF n ds e a) (h : GuardSkips ops o e) : Region.wanted o (yielded ops a.tmps) = false := by
  obtain ⟨j, b, t, u, h1, h2, h3, h4⟩ := h
  rcases h4 with rfl | rfl
  · have : yielded ops a.tmps j = some (!b) := by
      unfold yielded
      rw [show ((ops[j]?).bind (·.dst)) = some t from h2]
      simp [he.slots t _ h3]
    simp only [Region.wanted, h1, this]
    cases b <;> rfl
  · have : yielded ops a.tmps j = none := by
      unfold yielded
      rw [show ((ops[j]?).bind (·.dst)) = some t from h2]
      simp [he.slots t _ h3, undef]
    simp only [Region.wanted, h1, this]
    cases b <;> rfl

/-- y waits for x. -/
def edgeTo (ops : Array Oper) (y x : Nat) : Bool := (ops[y]?).any fun o => edgeB o x
/-- Those of S from which a way leads to R. -/
def backR (ops : Array Oper) (S R : List Nat) : List Nat := S.foldr (fun x R => if R.contains x || R.any (fun y => edgeTo ops y x) then x :: R else R) R
/-- While something of S waits, nothing of T is ready. -/
def blockB (ops : Array Oper) (S T : List Nat) : Bool :=
  T.all fun t => T.any (fun u => edgeTo ops t u) || S.all fun x => (backR ops S (S.filter fun y => edgeTo ops t y)).contains x
theorem backR_not {S0 U0 : List Nat} (hcl : ∀ y ∈ S0, y ∉ U0 → ∀ x ∈ U0, edgeTo ops y x = false) : ∀ (S R : List Nat), (∀ x ∈ S, x ∈ S0) → (∀ y ∈ R, y ∈ S0 ∧ y ∉ U0) → ∀ y ∈ backR ops S R, y ∈ S0 ∧ y ∉ U0 := by
  intro S
  induction S with
  | nil => exact fun R _ hR y hy => hR y hy
  | cons x S ih =>
    intro R hS hR y hy
    have hrec := ih R (fun z hz => hS z (List.mem_cons_of_mem _ hz)) hR
    rw [show backR ops (x :: S) R = (if (backR ops S R).contains x || (backR ops S R).any (fun y => edgeTo ops y x) then x :: backR ops S R else backR ops S R) from rfl] at hy
    by_cases hc : ((backR ops S R).contains x || (backR ops S R).any (fun y => edgeTo ops y x)) = true
    · rw [if_pos hc] at hy
      rcases List.mem_cons.1 hy with rfl | hy
      · simp only [Bool.or_eq_true] at hc
        rcases hc with hc | hc
        · exact hrec _ (by simpa using hc)
        · obtain ⟨z, hz, he⟩ := List.any_eq_true.1 hc
          obtain ⟨z1, z2⟩ := hrec z hz
          refine ⟨hS _ List.mem_cons_self, fun hy0 => ?_⟩
          rw [hcl z z1 z2 _ hy0] at he; cases he
      · exact hrec y hy
    · rw [if_neg hc] at hy
      exact hrec y hy
theorem edgeTo_of_ready {U : List Nat} {t x : Nat} (hr : readyB ops U t = true) (hx : x ∈ U) : edgeTo ops t x = false := by
  unfold edgeTo
  cases ho : ops[t]? with
  | none => rfl
  | some o => simpa using edge_of_ready ho hr hx
theorem blocked {S0 T U0 : List Nat} (hb : blockB ops S0 T = true) (hcl : ∀ y ∈ S0, y ∉ U0 → ∀ x ∈ U0, edgeTo ops y x = false) {s t : Nat} (hs : s ∈ S0) (hs0 : s ∈ U0) (ht : t ∈ T) (hr : readyB ops (U0 ++ T) t = true) : False := by
  have h1 := List.all_eq_true.1 hb t ht
  simp only [Bool.or_eq_true] at h1
  rcases h1 with h1 | h1
  · obtain ⟨u, hu, he⟩ := List.any_eq_true.1 h1
    rw [edgeTo_of_ready hr (List.mem_append_right _ hu)] at he; cases he
  · have h2 := List.all_eq_true.1 h1 s hs
    have := backR_not hcl S0 (S0.filter fun y => edgeTo ops t y) (fun _ h => h) (fun y hy => by
      obtain ⟨y1, y2⟩ := List.mem_filter.1 hy
      refine ⟨y1, fun hy0 => ?_⟩
      rw [edgeTo_of_ready hr (List.mem_append_left _ hy0)] at y2; cases y2) s (by simpa using h2)
    exact this.2 hs0

theorem ready_mem {listed : Array Bool} {U : List Nat} (hd : directB ops = true) (hlist : ∀ i, listed.getD i true = false ↔ i ∈ U) (hsz : listed.size = ops.size) (i : Nat) :
    i ∈ Region.ready .any ops listed ↔ (i ∈ U ∧ readyB ops U i = true) := by
  simp only [Region.ready, List.mem_filter, List.mem_range, Bool.and_eq_true, Bool.not_eq_true']
  constructor
  · rintro ⟨hlt, h1, h2⟩
    refine ⟨(hlist i).1 h1, ?_⟩
    unfold readyB
    cases ho : ops[i]? with
    | none => rw [ho] at h2; simp at h2
    | some o =>
      rw [ho] at h2
      simp only [Option.map_some, Option.getD_some, Array.all_eq_true'] at h2
      simp only [Array.all_eq_true']
      intro ed hm
      have := h2 ed hm
      simp only [Bool.or_eq_true, Bool.not_eq_true'] at this ⊢
      refine this.imp id (fun hb => ?_)
      have : ed.on ∉ U := fun hc => by
        have hf := (hlist ed.on).2 hc
        simp only [Array.getD_eq_getD_getElem?] at hf hb
        cases hx : listed[ed.on]? with
        | none => rw [hx] at hb; simp at hb
        | some x => rw [hx] at hb hf; simp at hb hf; rw [hb] at hf; cases hf
      simpa using this
  · rintro ⟨hi, hr⟩
    have hlt : i < ops.size := by
      unfold readyB at hr
      rcases Nat.lt_or_ge i ops.size with h | h
      · exact h
      · rw [Array.getElem?_eq_none h] at hr; cases hr
    refine ⟨hlt, (hlist i).2 hi, ?_⟩
    obtain ⟨o, ho⟩ : ∃ o, ops[i]? = some o := ⟨ops[i], Array.getElem?_eq_getElem hlt⟩
    simp only [readyB, ho, Array.all_eq_true'] at hr
    simp only [ho, Option.map_some, Option.getD_some, Array.all_eq_true']
    intro ed hm
    have := hr ed hm
    simp only [Bool.or_eq_true, Bool.not_eq_true'] at this ⊢
    refine this.imp id (fun hb => ?_)
    have hb' : ed.on ∉ U := by simpa using hb
    have hlt2 := direct_bound hd ho hm
    have hf : listed.getD ed.on true = true := by
      cases hx : listed.getD ed.on true with
      | true => rfl
      | false => exact absurd ((hlist ed.on).1 hx) hb'
    have hlt3 : ed.on < listed.size := by omega
    simp only [Array.getD, hlt3, dif_pos] at hf ⊢
    exact hf

/-- Nothing of S waits for something of T. -/
def backB (ops : Array Oper) (S T : List Nat) : Bool := S.all fun k => (ops[k]?).any fun o => o.after.all fun e => !Region.binds .any e || !T.contains e.on
theorem ready_app {S0 S T : List Nat} (hb : backB ops S0 T = true) {i : Nat} (hi : i ∈ S0) (hr : readyB ops S i = true) : readyB ops (S ++ T) i = true := by
  have h0 := List.all_eq_true.1 hb i hi
  unfold readyB at hr ⊢
  cases ho : ops[i]? with
  | none => rw [ho] at hr; cases hr
  | some o =>
    rw [ho] at hr h0
    simp only [Option.any_some, Array.all_eq_true'] at hr h0 ⊢
    intro ed hm
    have h1 := hr ed hm
    have h2 := h0 ed hm
    cases hbi : Region.binds .any ed with
    | false => rfl
    | true =>
      simp only [hbi, Bool.not_true, Bool.false_or, Bool.not_eq_true', List.contains_eq_mem, decide_eq_false_iff_not] at h1 h2 ⊢
      rw [List.mem_append]; exact fun h => h.elim h1 h2

/-- One phase: what is behind it (T) waits for all of it. -/
theorem D.sound (hd : directB ops = true) {W : World} {ds : List Deferred} {Q : Exit → Act → World → Prop} {S0 T : List Nat} (hblk : blockB ops S0 T = true) (hback : backB ops S0 T = true)
    (hfin : ∀ e RW a w fuel listed, Fin e RW → T.length ≤ fuel → (∀ i, listed.getD i true = false ↔ i ∈ T) → listed.size = ops.size → EnvF n ds e a → Keeps W w → St (RO ++ RW) w → wpAny P .any ops Q fuel listed a w) :
    ∀ (fuel : Nat) (S : List Nat) (e : EF) (RW : List HP) (listed : Array Bool) (a : Act) (w : World), D P ops n RO H Fin S e RW → (∀ x ∈ S, x ∈ S0) →
    S.Nodup → (∀ x ∈ S, x ∉ T) → S.length + T.length ≤ fuel → (∀ i, listed.getD i true = false ↔ i ∈ S ++ T) → listed.size = ops.size →
    EnvF n ds e a → Keeps W w → St (RO ++ RW) w → (∀ y ∈ S0, y ∉ S → ∀ x ∈ S, edgeTo ops y x = false) → wpAny P .any ops Q fuel listed a w := by
  intro fuel
  induction fuel with
  | zero =>
    intro S e RW listed a w hD hS0 hn hdis hl hlist hsz he hk hs hcl
    have hS : S = [] := List.length_eq_zero_iff.1 (by omega)
    subst hS
    rcases hD.some_ready with ⟨_, hf⟩ | ⟨i, hi, _⟩
    · exact hfin _ _ _ _ _ _ hf (by omega) (by simpa using hlist) hsz he hk hs
    · cases hi
  | succ fuel ih =>
    intro S e RW listed a w hD hS0 hn hdis hl hlist hsz he hk hs hcl
    rcases hD.some_ready with ⟨hS, hf⟩ | ⟨i0, hi0, hr0⟩
    · subst hS
      exact hfin _ _ _ _ _ _ hf (by simpa using hl) (by simpa using hlist) hsz he hk hs
    have mem := ready_mem hd hlist hsz
    refine ⟨fun hnil => ?_, fun i hi => ?_⟩
    · have := (mem i0).2 ⟨by simp [hi0], ready_app hback (hS0 _ hi0) hr0⟩
      rw [hnil] at this; cases this
    · obtain ⟨hiU, hriU⟩ := (mem i).1 hi
      have hiS : i ∈ S := by
        rcases List.mem_append.1 hiU with h | h
        · exact h
        · exact (blocked hblk hcl (hS0 _ hi0) hi0 h hriU).elim
      have hri : readyB ops S i = true := ready_mono (fun x hx => by simp [hx]) hriU
      have hlt : i < listed.size := by
        have := (List.mem_filter.1 hi).1
        rw [hsz]; exact List.mem_range.1 this
      have hiT : i ∉ T := hdis i hiS
      have hlist' : ∀ k, (listed.setIfInBounds i true).getD k true = false ↔ k ∈ S.erase i ++ T := by
        intro k
        by_cases hki : k = i
        · subst hki
          have : k ∉ S.erase k := fun h => (List.Nodup.mem_erase_iff hn).1 h |>.1 rfl
          simp [Array.getD_eq_getD_getElem?, hlt, this, hiT]
        · rw [List.mem_append, List.mem_erase_of_ne hki, ← List.mem_append, ← hlist k]
          simp [Array.getD_eq_getD_getElem?, Array.getElem?_setIfInBounds, Ne.symm hki]
      have hlen : (S.erase i).length + T.length ≤ fuel := by
        rw [List.length_erase_of_mem hiS]
        have := List.length_pos_of_mem hiS
        omega
      have hnd : (S.erase i).Nodup := hn.erase i
      have hsz' : (listed.setIfInBounds i true).size = ops.size := by simpa using hsz
      have hS0' : ∀ x ∈ S.erase i, x ∈ S0 := fun x hx => hS0 x (List.mem_of_mem_erase hx)
      have hdis' : ∀ x ∈ S.erase i, x ∉ T := fun x hx => hdis x (List.mem_of_mem_erase hx)
      have hcl' : ∀ y ∈ S0, y ∉ S.erase i → ∀ x ∈ S.erase i, edgeTo ops y x = false := by
        intro y hy hyS x hx
        by_cases hyi : y = i
        · rw [hyi]; exact edgeTo_of_ready hri (List.mem_of_mem_erase hx)
        · exact hcl y hy (fun h => hyS ((List.mem_erase_of_ne hyi).2 h)) x (List.mem_of_mem_erase hx)
      rcases hD.step hd hn i hiS hri with ⟨o, v, ho, hds, ha, hD'⟩ | ⟨o, pre, F, K, _, ho, hg, hds, hp, hspec, hD'⟩
      · unfold wpOp
        simp only [ho]
        rcases ha with ⟨hg, hq⟩ | ⟨hg, rfl⟩
        · rw [if_pos (guard_runs he hg)]
          refine .inl ?_
          refine (hq a.eval w [] he.agrees (by rw [List.append_nil]; exact hs)).wp ?_
          rintro u w' ⟨_, ⟨rfl, rfl⟩, hs2, hk2⟩
          rw [List.append_nil] at hs2
          exact ih _ _ _ _ _ _ hD' hS0' hnd hdis' hlen hlist' hsz' (he.put hds _) (hk.trans hk2) hs2 hcl'
        · rw [if_neg (by rw [guard_skips he hg]; simp)]
          exact ih _ _ _ _ _ _ hD' hS0' hnd hdis' hlen hlist' hsz' (he.put hds _) hk hs hcl'
      · unfold wpOp
        simp only [ho]
        rw [if_pos (guard_runs he hg)]
        refine .inl ?_
        have hs' : St (pre ++ (F ++ RO)) w := hs.perm (by
          have h1 : (RO ++ RW).Perm (RO ++ (pre ++ F)) := List.Perm.append_left _ hp.perm
          refine h1.trans ((List.perm_append_comm).trans ?_)
          rw [List.append_assoc])
        refine (hspec a.eval w (F ++ RO) he.agrees hs').wp ?_
        rintro v w' ⟨L', hv, hs2, hk2⟩
        refine ih _ _ _ _ _ _ (hD' v L' hv) hS0' hnd hdis' hlen hlist' hsz' (he.put hds _) (hk.trans hk2) (hs2.perm ?_) hcl'
        rw [← List.append_assoc]
        exact List.perm_append_comm

/-- The region. -/
def nodupB : List Nat → Bool
  | [] => true
  | x :: xs => !xs.contains x && nodupB xs
theorem nodup_of {S : List Nat} (h : nodupB S = true) : S.Nodup := by
  induction S with
  | nil => exact List.nodup_nil
  | cons x xs ih =>
    simp only [nodupB, Bool.and_eq_true, Bool.not_eq_true'] at h
    exact List.nodup_cons.2 ⟨by simpa using h.1, ih h.2⟩
def permB (n : Nat) (S : List Nat) : Bool := Nat.beq S.length n && S.all (fun i => Nat.blt i n) && nodupB S && (List.range n).all fun i => S.contains i
/-- Phases, one behind the other. -/
def Phases (P : Program) (ops : Array Oper) (n : Nat) (H : List Nat) (W : World) (ds : List Deferred) (X : Act → World → Prop) : List (List Nat) → EF → List HP → Prop
  | [], e, L => ∀ a w, EnvF n ds e a → Keeps W w → St L w → X a w
  | S :: Ss, e, L => ∃ RO RW, Picks RO L RW ∧ D P ops n RO H (fun e' RW' => Phases P ops n H W ds X Ss e' (RO ++ RW')) S e RW
def chainB (ops : Array Oper) : List (List Nat) → Bool
  | [] => true
  | S :: Ss => blockB ops S Ss.flatten && backB ops S Ss.flatten && chainB ops Ss
theorem Phases.sound (hd : directB ops = true) {W : World} {ds : List Deferred} {Q : Exit → Act → World → Prop} : ∀ (Ss : List (List Nat)), chainB ops Ss = true → Ss.flatten.Nodup →
    ∀ (e : EF) (L : List HP) (fuel : Nat) (listed : Array Bool) (a : Act) (w : World), Phases P ops n H W ds (Q .normal) Ss e L → Ss.flatten.length ≤ fuel → (∀ i, listed.getD i true = false ↔ i ∈ Ss.flatten) → listed.size = ops.size →
    EnvF n ds e a → Keeps W w → St L w → wpAny P .any ops Q fuel listed a w := by
  intro Ss
  induction Ss with
  | nil =>
    intro _ _ e L fuel listed a w hP hl hlist hsz he hk hs
    have hq := hP a w he hk hs
    have hnil : Region.ready .any ops listed = [] := by
      rw [List.eq_nil_iff_forall_not_mem]
      intro i hi
      have := ((ready_mem hd hlist hsz i).1 hi).1
      cases this
    cases fuel with
    | zero => exact ⟨hnil, hq⟩
    | succ fuel => exact ⟨fun _ => hq, fun i hi => by rw [hnil] at hi; cases hi⟩
  | cons S Ss ih =>
    intro hc hn e L fuel listed a w hP hl hlist hsz he hk hs
    simp only [chainB, Bool.and_eq_true] at hc
    simp only [List.flatten_cons] at hn hl hlist
    obtain ⟨RO, RW, hL, hD⟩ := hP
    have hn' := List.nodup_append.1 hn
    refine D.sound hd (RO := RO) (T := Ss.flatten) hc.1.1 hc.1.2 (fun e' RW' a' w' fuel' listed' hf hl' hlist' hsz' he' hk' hs' => ?_) fuel S e RW listed a w hD (fun x hx => hx) hn'.1 (fun x hx hx' => hn'.2.2 x hx x hx' rfl) (by simpa using hl) hlist hsz he hk (hs.picks hL) (fun y hy hyS => absurd hy hyS)
    exact ih hc.2 hn'.2.1 e' _ fuel' listed' a' w' hf hl' hlist' hsz' he' hk' hs'
theorem G.draw {W : World} {ds : List Deferred} {Q : Exit → Act → World → Prop} {E : Env} {L : List HP} {id : Nat} {l : List Oper} (H : List Nat) (Ss : List (List Nat)) (hm : P.follows .mixedOrders = true)
    (hc : (directB l.toArray && permB l.toArray.size Ss.flatten && chainB l.toArray Ss) = true)
    (h : Phases P l.toArray n H W ds (Q .normal) Ss (look E) L) : G W n ds E L ((Code.region id l.toArray true).wp P Q) := by
  intro a w he hk hs
  simp only [Bool.and_eq_true] at hc
  have hp := hc.1.2
  simp only [permB, Bool.and_eq_true, Nat.beq_eq] at hp
  have hlen : Ss.flatten.length = l.toArray.size := hp.1.1.1
  have hmem : ∀ i, i ∈ Ss.flatten ↔ i < l.toArray.size := by
    intro i
    constructor
    · intro hi; have := List.all_eq_true.1 hp.1.1.2 i hi; simpa [Nat.blt_eq] using this
    · intro hi; have := List.all_eq_true.1 hp.2 i (List.mem_range.2 hi); simpa using this
  have hn : Ss.flatten.Nodup := nodup_of hp.1.2
  refine wp_region_any hm (Phases.sound (H := H) hc.1.1 Ss hc.2 hn (look E) L _ _ _ _ h (by omega) ?_ (by simp) ⟨he.size, he.defers, he.slots⟩ (hk.trans (Keeps.drew w)) hs.drew)
  intro i
  rw [hmem]
  simp only [Array.getD_eq_getD_getElem?, Array.getElem?_replicate, List.size_toArray]
  by_cases hlt : i < l.length <;> simp [hlt]
/-- A phase begins: RO may be read by all, the rest is RW's. -/
theorem Phases.go {W : World} {ds : List Deferred} {X : Act → World → Prop} {e : EF} {L RW : List HP} {S : List Nat} {Ss : List (List Nat)} (RO : List HP) (hL : Picks RO L RW)
    (h : D P ops n RO H (fun e' RW' => Phases P ops n H W ds X Ss e' (RO ++ RW')) S e RW) : Phases P ops n H W ds X (S :: Ss) e L := ⟨RO, RW, hL, h⟩
theorem D.ph {W : World} {ds : List Deferred} {X : Act → World → Prop} {e : EF} {RW : List HP} {Ss : List (List Nat)} (h : Phases P ops n H W ds X Ss e (RO ++ RW)) :
    D P ops n RO H (fun e' RW' => Phases P ops n H W ds X Ss e' (RO ++ RW')) [] e RW := .done h
theorem Phases.fin {W : World} {ds : List Deferred} {X : Act → World → Prop} {E : Env} {L : List HP} (h : G W n ds E L X) : Phases P ops n H W ds X [] (look E) L :=
  fun a w he hk hs => h a w ⟨he.size, he.defers, he.slots⟩ hk hs

theorem QuietF.of {o : Oper} {E : Env} {L : List HP} {v : Value} (h : Quiet P ⟨none, o.op, o.type, "", #[], none⟩ E L v) : QuietF P o (look E) L v :=
  fun ρ w ha hs => h ρ w (fun x u hx => ha x u (by rwa [← ev_evF])) hs
theorem OpSpecF.of {o : Oper} {E : Env} {pre : List HP} {K : Value → List HP → Prop} (h : OpSpec P ⟨none, o.op, o.type, "", #[], none⟩ E pre K) : OpSpecF P o (look E) pre K :=
  fun ρ w F ha hs => h ρ w F (fun x u hx => ha x u (by rwa [← ev_evF])) hs

theorem MildF.of {o : Oper} {E : Env} {L : List HP} {v : Value} (h : Quiet P ⟨none, o.op, o.type, "", #[], none⟩ E L v) : MildF P o (look E) L v := OpSpecF.of h.spec
theorem MildF.ofSpec {o : Oper} {E : Env} {L L0 R : List HP} {v : Value} (h : OpSpec P ⟨none, o.op, o.type, "", #[], none⟩ E L0 fun u L' => u = v ∧ L' = L0) (hL : Picks L0 L R) : MildF P o (look E) L v := by
  intro ρ w F ha hs
  have hp : (L ++ F).Perm (L0 ++ (R ++ F)) := by
    rw [← List.append_assoc]; exact List.Perm.append_right F hL.perm
  refine ((OpSpecF.of h) ρ w (R ++ F) ha (hs.perm hp)).mono ?_
  rintro u w' ⟨_, ⟨rfl, rfl⟩, hs', hk⟩
  exact ⟨_, ⟨rfl, rfl⟩, hs'.perm hp.symm, hk⟩
section
variable {j : Nat} {S : List Nat} {E : Env} {RW : List HP} {d : Nat} {op : Op} {ty : TypeId} {pos : String} {aft : Array Edge} {v : Value}
theorem D.q (hi : ops[j]? = some ⟨some d, op, ty, pos, aft, none⟩) (hc : (readyB ops (j :: S) j && Nat.blt d n) = true) (hq : Quiet P ⟨none, op, ty, "", #[], none⟩ E RO v)
    (h : D P ops n RO H Fin S (look ((d, v) :: E)) RW) : D P ops n RO H Fin (j :: S) (look E) RW := by
  simp only [Bool.and_eq_true] at hc
  exact .quiet hi hc.1 hc.2 (.inl ⟨.inl rfl, MildF.of hq⟩) (by rw [look_cons] at h; exact h)
theorem D.qw (A : List Nat) (hi : ops[j]? = some ⟨some d, op, ty, pos, aft, none⟩) (hc : (readyB ops (j :: S) j && Nat.blt d n && wcheck ops H j S A) = true) (hq : Quiet P ⟨none, op, ty, "", #[], none⟩ E (RO ++ RW) v)
    (h : D P ops n RO H Fin S (look ((d, v) :: E)) RW) : D P ops n RO H Fin (j :: S) (look E) RW := by
  simp only [Bool.and_eq_true] at hc
  exact .quietW A hi hc.1.1 hc.1.2 hc.2 (.inl ⟨.inl rfl, MildF.of hq⟩) (by rw [look_cons] at h; exact h)
theorem D.gq {k t : Nat} {b : Bool} (hi : ops[j]? = some ⟨some d, op, ty, pos, aft, some (k, b)⟩) (hk : slotOf ops k = some t) (hl : look E t = some (.bool b)) (hc : (readyB ops (j :: S) j && Nat.blt d n) = true) (hq : Quiet P ⟨none, op, ty, "", #[], none⟩ E RO v)
    (h : D P ops n RO H Fin S (look ((d, v) :: E)) RW) : D P ops n RO H Fin (j :: S) (look E) RW := by
  simp only [Bool.and_eq_true] at hc
  exact .quiet hi hc.1 hc.2 (.inl ⟨.inr ⟨k, b, t, rfl, hk, hl⟩, MildF.of hq⟩) (by rw [look_cons] at h; exact h)
theorem D.gqw (A : List Nat) {k t : Nat} {b : Bool} (hi : ops[j]? = some ⟨some d, op, ty, pos, aft, some (k, b)⟩) (hk : slotOf ops k = some t) (hl : look E t = some (.bool b)) (hc : (readyB ops (j :: S) j && Nat.blt d n && wcheck ops H j S A) = true) (hq : Quiet P ⟨none, op, ty, "", #[], none⟩ E (RO ++ RW) v)
    (h : D P ops n RO H Fin S (look ((d, v) :: E)) RW) : D P ops n RO H Fin (j :: S) (look E) RW := by
  simp only [Bool.and_eq_true] at hc
  exact .quietW A hi hc.1.1 hc.1.2 hc.2 (.inl ⟨.inr ⟨k, b, t, rfl, hk, hl⟩, MildF.of hq⟩) (by rw [look_cons] at h; exact h)
/-- A call that leaves all as it was. -/
theorem D.m {dd : Option Nat} {L0 R : List HP} (hi : ops[j]? = some ⟨dd, op, ty, pos, aft, none⟩) (hc : (readyB ops (j :: S) j && dstOk dd n) = true) (hq : OpSpec P ⟨none, op, ty, "", #[], none⟩ E L0 fun u L' => u = v ∧ L' = L0) (hL : Picks L0 RO R)
    (h : D P ops n RO H Fin S (look (putE dd v E)) RW) : D P ops n RO H Fin (j :: S) (look E) RW := by
  simp only [Bool.and_eq_true] at hc
  exact .quiet hi hc.1 hc.2 (.inl ⟨.inl rfl, MildF.ofSpec hq hL⟩) (by rw [look_putE] at h; exact h)
theorem D.gm {dd : Option Nat} {L0 R : List HP} {k t : Nat} {b : Bool} (hi : ops[j]? = some ⟨dd, op, ty, pos, aft, some (k, b)⟩) (hk : slotOf ops k = some t) (hl : look E t = some (.bool b)) (hc : (readyB ops (j :: S) j && dstOk dd n) = true) (hq : OpSpec P ⟨none, op, ty, "", #[], none⟩ E L0 fun u L' => u = v ∧ L' = L0) (hL : Picks L0 RO R)
    (h : D P ops n RO H Fin S (look (putE dd v E)) RW) : D P ops n RO H Fin (j :: S) (look E) RW := by
  simp only [Bool.and_eq_true] at hc
  exact .quiet hi hc.1 hc.2 (.inl ⟨.inr ⟨k, b, t, rfl, hk, hl⟩, MildF.ofSpec hq hL⟩) (by rw [look_putE] at h; exact h)
theorem D.mw (A : List Nat) {dd : Option Nat} {L0 R : List HP} (hi : ops[j]? = some ⟨dd, op, ty, pos, aft, none⟩) (hc : (readyB ops (j :: S) j && dstOk dd n && wcheck ops H j S A) = true) (hq : OpSpec P ⟨none, op, ty, "", #[], none⟩ E L0 fun u L' => u = v ∧ L' = L0) (hL : Picks L0 (RO ++ RW) R)
    (h : D P ops n RO H Fin S (look (putE dd v E)) RW) : D P ops n RO H Fin (j :: S) (look E) RW := by
  simp only [Bool.and_eq_true] at hc
  exact .quietW A hi hc.1.1 hc.1.2 hc.2 (.inl ⟨.inl rfl, MildF.ofSpec hq hL⟩) (by rw [look_putE] at h; exact h)
theorem D.gmw (A : List Nat) {dd : Option Nat} {L0 R : List HP} {k t : Nat} {b : Bool} (hi : ops[j]? = some ⟨dd, op, ty, pos, aft, some (k, b)⟩) (hk : slotOf ops k = some t) (hl : look E t = some (.bool b)) (hc : (readyB ops (j :: S) j && dstOk dd n && wcheck ops H j S A) = true) (hq : OpSpec P ⟨none, op, ty, "", #[], none⟩ E L0 fun u L' => u = v ∧ L' = L0) (hL : Picks L0 (RO ++ RW) R)
    (h : D P ops n RO H Fin S (look (putE dd v E)) RW) : D P ops n RO H Fin (j :: S) (look E) RW := by
  simp only [Bool.and_eq_true] at hc
  exact .quietW A hi hc.1.1 hc.1.2 hc.2 (.inl ⟨.inr ⟨k, b, t, rfl, hk, hl⟩, MildF.ofSpec hq hL⟩) (by rw [look_putE] at h; exact h)
theorem D.gs {dd : Option Nat} {k t : Nat} {b c : Bool} (hi : ops[j]? = some ⟨dd, op, ty, pos, aft, some (k, b)⟩) (hk : slotOf ops k = some t) (hl : look E t = some (.bool c)) (hbc : (c == !b) = true) (hc : (readyB ops (j :: S) j && dstOk dd n) = true)
    (h : D P ops n RO H Fin S (look (putE dd undef E)) RW) : D P ops n RO H Fin (j :: S) (look E) RW := by
  simp only [Bool.and_eq_true] at hc
  have : c = !b := by simpa using hbc
  subst this
  exact .quiet hi hc.1 hc.2 (.inr ⟨⟨k, b, t, _, rfl, hk, hl, .inl rfl⟩, rfl⟩) (by rw [look_putE] at h; exact h)
theorem D.gsU {dd : Option Nat} {k t : Nat} {b : Bool} (hi : ops[j]? = some ⟨dd, op, ty, pos, aft, some (k, b)⟩) (hk : slotOf ops k = some t) (hl : look E t = some undef) (hc : (readyB ops (j :: S) j && dstOk dd n) = true)
    (h : D P ops n RO H Fin S (look (putE dd undef E)) RW) : D P ops n RO H Fin (j :: S) (look E) RW := by
  simp only [Bool.and_eq_true] at hc
  exact .quiet hi hc.1 hc.2 (.inr ⟨⟨k, b, t, _, rfl, hk, hl, .inr rfl⟩, rfl⟩) (by rw [look_putE] at h; exact h)
/-- The only one that is ready. -/
def onlyB (ops : Array Oper) (j : Nat) (S : List Nat) : Bool := readyB ops (j :: S) j && S.all fun i => Nat.beq i j || !readyB ops (j :: S) i
theorem D.h {dd : Option Nat} {pre F : List HP} {K : Value → List HP → Prop} (hi : ops[j]? = some ⟨dd, op, ty, pos, aft, none⟩) (hc : (onlyB ops j S && H.contains j && dstOk dd n) = true) (hp : OpSpec P ⟨none, op, ty, "", #[], none⟩ E pre K) (hL : Picks pre RW F)
    (h : ∀ v L', K v L' → D P ops n RO H Fin S (look (putE dd v E)) (L' ++ F)) : D P ops n RO H Fin (j :: S) (look E) RW := by
  simp only [Bool.and_eq_true, onlyB] at hc
  have only : ∀ i, i ∈ j :: S → readyB ops (j :: S) i = true → i = j := by
    intro i hi hr
    rcases List.mem_cons.1 hi with rfl | hi
    · rfl
    · have := List.all_eq_true.1 hc.1.1.2 i hi
      rw [hr] at this
      simpa using this
  refine .heavy (fun _ => ⟨dd, op, ty, pos, aft, none⟩) (fun _ => pre) (fun _ => F) (fun _ => K) ⟨j, by simp, hc.1.1.1⟩ ?_ ?_
  · intro i hi' hr
    obtain rfl := only i hi' hr
    exact ⟨hc.1.2, hi, .inl rfl, hc.2, hL, OpSpecF.of hp⟩
  · intro i hi' hr v L' hv
    obtain rfl := only i hi' hr
    have := h v L' hv
    rw [look_putE] at this
    simpa using this
/-- Two that are ready: each may come first. -/
def only2B (ops : Array Oper) (j k : Nat) (S : List Nat) : Bool := readyB ops (j :: S) j && readyB ops (j :: S) k && S.contains k && !Nat.beq k j && S.all fun i => Nat.beq i j || Nat.beq i k || !readyB ops (j :: S) i
theorem D.h2 {k : Nat} {dd dk : Option Nat} {op' : Op} {ty' : TypeId} {pos' : String} {aft' : Array Edge} {pre F pre' F' : List HP} {K K' : Value → List HP → Prop} {S2 : List Nat} (hi : ops[j]? = some ⟨dd, op, ty, pos, aft, none⟩) (hk : ops[k]? = some ⟨dk, op', ty', pos', aft', none⟩)
    (hc : (only2B ops j k S && H.contains j && H.contains k && dstOk dd n && dstOk dk n) = true) (hS2 : (j :: S).erase k = S2) (hp : OpSpec P ⟨none, op, ty, "", #[], none⟩ E pre K) (hL : Picks pre RW F) (hp' : OpSpec P ⟨none, op', ty', "", #[], none⟩ E pre' K') (hL' : Picks pre' RW F')
    (h : ∀ v L', K v L' → D P ops n RO H Fin S (look (putE dd v E)) (L' ++ F)) (h' : ∀ v L', K' v L' → D P ops n RO H Fin S2 (look (putE dk v E)) (L' ++ F')) : D P ops n RO H Fin (j :: S) (look E) RW := by
  simp only [Bool.and_eq_true, only2B] at hc
  obtain ⟨⟨⟨⟨⟨⟨⟨⟨c1, c2⟩, c3⟩, c4⟩, c5⟩, c6⟩, c7⟩, c8⟩, c9⟩ := hc
  have hkj : k ≠ j := by rintro rfl; simp at c4
  have only : ∀ i, i ∈ j :: S → readyB ops (j :: S) i = true → i = j ∨ i = k := by
    intro i hi hr
    rcases List.mem_cons.1 hi with rfl | hi
    · exact .inl rfl
    · have := List.all_eq_true.1 c5 i hi
      rw [hr] at this
      simpa using this
  refine .heavy (fun i => if i = j then ⟨dd, op, ty, pos, aft, none⟩ else ⟨dk, op', ty', pos', aft', none⟩) (fun i => if i = j then pre else pre') (fun i => if i = j then F else F') (fun i => if i = j then K else K') ⟨j, by simp, c1⟩ ?_ ?_
  · intro i hi' hr
    rcases only i hi' hr with rfl | rfl
    · simp only [if_true]
      exact ⟨c6, hi, .inl rfl, c8, hL, OpSpecF.of hp⟩
    · simp only [if_neg hkj]
      exact ⟨c7, hk, .inl rfl, c9, hL', OpSpecF.of hp'⟩
  · intro i hi' hr v L' hv
    rcases only i hi' hr with rfl | rfl
    · simp only [if_true] at hv ⊢
      have := h v L' hv
      rw [look_putE] at this
      simpa using this
    · simp only [if_neg hkj] at hv ⊢
      have := h' v L' hv
      rw [look_putE] at this
      rw [hS2]
      exact this
theorem D.gh2 {k kg tg kg' tg' : Nat} {bg bg' : Bool} {dd dk : Option Nat} {op' : Op} {ty' : TypeId} {pos' : String} {aft' : Array Edge} {pre F pre' F' : List HP} {K K' : Value → List HP → Prop} {S2 : List Nat} (hi : ops[j]? = some ⟨dd, op, ty, pos, aft, some (kg, bg)⟩) (hg : slotOf ops kg = some tg) (hl : look E tg = some (.bool bg)) (hk : ops[k]? = some ⟨dk, op', ty', pos', aft', some (kg', bg')⟩) (hg' : slotOf ops kg' = some tg') (hl' : look E tg' = some (.bool bg'))
    (hc : (only2B ops j k S && H.contains j && H.contains k && dstOk dd n && dstOk dk n) = true) (hS2 : (j :: S).erase k = S2) (hp : OpSpec P ⟨none, op, ty, "", #[], none⟩ E pre K) (hL : Picks pre RW F) (hp' : OpSpec P ⟨none, op', ty', "", #[], none⟩ E pre' K') (hL' : Picks pre' RW F')
    (h : ∀ v L', K v L' → D P ops n RO H Fin S (look (putE dd v E)) (L' ++ F)) (h' : ∀ v L', K' v L' → D P ops n RO H Fin S2 (look (putE dk v E)) (L' ++ F')) : D P ops n RO H Fin (j :: S) (look E) RW := by
  simp only [Bool.and_eq_true, only2B] at hc
  obtain ⟨⟨⟨⟨⟨⟨⟨⟨c1, c2⟩, c3⟩, c4⟩, c5⟩, c6⟩, c7⟩, c8⟩, c9⟩ := hc
  have hkj : k ≠ j := by rintro rfl; simp at c4
  have only : ∀ i, i ∈ j :: S → readyB ops (j :: S) i = true → i = j ∨ i = k := by
    intro i hi hr
    rcases List.mem_cons.1 hi with rfl | hi
    · exact .inl rfl
    · have := List.all_eq_true.1 c5 i hi
      rw [hr] at this
      simpa using this
  refine .heavy (fun i => if i = j then ⟨dd, op, ty, pos, aft, some (kg, bg)⟩ else ⟨dk, op', ty', pos', aft', some (kg', bg')⟩) (fun i => if i = j then pre else pre') (fun i => if i = j then F else F') (fun i => if i = j then K else K') ⟨j, by simp, c1⟩ ?_ ?_
  · intro i hi' hr
    rcases only i hi' hr with rfl | rfl
    · simp only [if_true]
      exact ⟨c6, hi, .inr ⟨kg, bg, tg, rfl, hg, hl⟩, c8, hL, OpSpecF.of hp⟩
    · simp only [if_neg hkj]
      exact ⟨c7, hk, .inr ⟨kg', bg', tg', rfl, hg', hl'⟩, c9, hL', OpSpecF.of hp'⟩
  · intro i hi' hr v L' hv
    rcases only i hi' hr with rfl | rfl
    · simp only [if_true] at hv ⊢
      have := h v L' hv
      rw [look_putE] at this
      simpa using this
    · simp only [if_neg hkj] at hv ⊢
      have := h' v L' hv
      rw [look_putE] at this
      rw [hS2]
      exact this
theorem D.gh {dd : Option Nat} {k t : Nat} {b : Bool} {pre F : List HP} {K : Value → List HP → Prop} (hi : ops[j]? = some ⟨dd, op, ty, pos, aft, some (k, b)⟩) (hk : slotOf ops k = some t) (hl : look E t = some (.bool b)) (hc : (onlyB ops j S && H.contains j && dstOk dd n) = true) (hp : OpSpec P ⟨none, op, ty, "", #[], none⟩ E pre K) (hL : Picks pre RW F)
    (h : ∀ v L', K v L' → D P ops n RO H Fin S (look (putE dd v E)) (L' ++ F)) : D P ops n RO H Fin (j :: S) (look E) RW := by
  simp only [Bool.and_eq_true, onlyB] at hc
  have only : ∀ i, i ∈ j :: S → readyB ops (j :: S) i = true → i = j := by
    intro i hi hr
    rcases List.mem_cons.1 hi with rfl | hi
    · rfl
    · have := List.all_eq_true.1 hc.1.1.2 i hi
      rw [hr] at this
      simpa using this
  refine .heavy (fun _ => ⟨dd, op, ty, pos, aft, some (k, b)⟩) (fun _ => pre) (fun _ => F) (fun _ => K) ⟨j, by simp, hc.1.1.1⟩ ?_ ?_
  · intro i hi' hr
    obtain rfl := only i hi' hr
    exact ⟨hc.1.2, hi, .inr ⟨k, b, t, rfl, hk, hl⟩, hc.2, hL, OpSpecF.of hp⟩
  · intro i hi' hr v L' hv
    obtain rfl := only i hi' hr
    have := h v L' hv
    rw [look_putE] at this
    simpa using this
theorem D.bool {t : Nat} {b : Bool} (hl : look E t = some (.bool b)) (hT : b = true → D P ops n RO H Fin S (look ((t, .bool true) :: E)) RW) (hF : b = false → D P ops n RO H Fin S (look ((t, .bool false) :: E)) RW) : D P ops n RO H Fin S (look E) RW := by
  have key : look ((t, Value.bool b) :: E) = look E := by
    rw [look_cons]; funext s; simp only [putF]
    by_cases h : s = t
    · subst h; rw [if_pos rfl, hl]
    · rw [if_neg h]
  cases b
  · rw [← key]; exact hF rfl
  · rw [← key]; exact hT rfl
theorem D.kB {t : Nat} {b c : Bool} (hl : look E t = some (.bool b)) (hb : b = c) (h : D P ops n RO H Fin S (look ((t, .bool c) :: E)) RW) : D P ops n RO H Fin S (look E) RW := by
  subst hb
  exact D.bool hl (fun e => by subst e; exact h) (fun e => by subst e; exact h)
theorem D.kDT {t : Nat} {φ : Prop} [Decidable φ] (hl : look E t = some (.bool (decide φ))) (hb : φ) (h : D P ops n RO H Fin S (look ((t, .bool true) :: E)) RW) : D P ops n RO H Fin S (look E) RW := D.kB hl (decide_eq_true hb) h
theorem D.kDF {t : Nat} {φ : Prop} [Decidable φ] (hl : look E t = some (.bool (decide φ))) (hb : ¬ φ) (h : D P ops n RO H Fin S (look ((t, .bool false) :: E)) RW) : D P ops n RO H Fin S (look E) RW := D.kB hl (decide_eq_false hb) h
theorem D.kNT {t : Nat} {φ : Prop} [Decidable φ] (hl : look E t = some (.bool (!decide φ))) (hb : ¬ φ) (h : D P ops n RO H Fin S (look ((t, .bool true) :: E)) RW) : D P ops n RO H Fin S (look E) RW := D.kB hl (by simpa using hb) h
theorem D.kNF {t : Nat} {φ : Prop} [Decidable φ] (hl : look E t = some (.bool (!decide φ))) (hb : φ) (h : D P ops n RO H Fin S (look ((t, .bool false) :: E)) RW) : D P ops n RO H Fin S (look E) RW := D.kB hl (by simpa using hb) h
theorem D.dec {t : Nat} {φ : Prop} [Decidable φ] (hl : look E t = some (.bool (decide φ))) (hT : φ → D P ops n RO H Fin S (look ((t, .bool true) :: E)) RW) (hF : ¬ φ → D P ops n RO H Fin S (look ((t, .bool false) :: E)) RW) : D P ops n RO H Fin S (look E) RW :=
  D.bool hl (fun e => hT (of_decide_eq_true e)) (fun e => hF (of_decide_eq_false e))
theorem D.ndec {t : Nat} {φ : Prop} [Decidable φ] (hl : look E t = some (.bool (!decide φ))) (hT : ¬ φ → D P ops n RO H Fin S (look ((t, .bool true) :: E)) RW) (hF : φ → D P ops n RO H Fin S (look ((t, .bool false) :: E)) RW) : D P ops n RO H Fin S (look E) RW :=
  D.bool hl (fun e => hT (by simpa using e)) (fun e => hF (by simpa using e))
end
end
end Go.Proofs.YtnnbelmpbmfdnaaDoor
