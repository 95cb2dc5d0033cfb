/- Own work: calls of function values; results that lie in cells; deferred calls. -/
import Derived.Test.YtnnbelmpbmfdnaaDoorSlMore
import Derived.Defers
namespace Go.Proofs.YtnnbelmpbmfdnaaDoor
open Go

section
variable {P : Program} {W : World} {n : Nat} {ds : List Deferred} {E : Env} {L R : List HP} {Q : Exit → Act → World → Prop}
theorem agree_list {ρ : Operand → Value} (ha : Agrees E ρ) : ∀ (l : List Operand) (us : List Value), l.map (ev E) = us.map some → l.map ρ = us := by
  intro l
  induction l with
  | nil => intro us h; cases us with
    | nil => rfl
    | cons u us => simp at h
  | cons x l ih => intro us h; cases us with
    | nil => simp at h
    | cons u us =>
      simp only [List.map_cons, List.cons.injEq] at h ⊢
      exact ⟨ha _ _ h.1, ih us h.2⟩
/-- A call of a function value. -/
theorem OpSpec.callV {f : FuncId} {fn : Func} {c : Code} {x : Operand} {xs : Array Operand} {ts : Array TypeId} {ty : TypeId} {us vs ws : List Value} {pre : List HP} {post : Value → List HP → Prop}
    (hf : P.funcs[f]? = some fn) (hb : fn.body = some c) (hnm : (fn.name == "runtime.NumGoroutine") = false) (hv : ev E x = some (.func (.func f) us.toArray ws.toArray)) (hx : xs.toList.map (ev E) = vs.map some) (h : Fn P f (us ++ vs ++ ws).toArray pre post) :
    OpSpec P ⟨none, .call { callee := .value x, args := xs, argTypes := ts }, ty, "", #[], none⟩ E pre post := by
  intro ρ w F ha hs
  have hvs : xs.map ρ = vs.toArray := by
    apply Array.ext'
    rw [Array.toList_map]
    exact agree_list ha _ _ hx
  have hfn : ρ x = .func (.func f) us.toArray ws.toArray := ha x _ hv
  unfold Runs
  have : (execOp ρ ⟨none, .call { callee := .value x, args := xs, argTypes := ts }, ty, "", #[], none⟩).run P w = .ok (.enter f (us ++ vs ++ ws).toArray) w := by
    have hnm' : ¬ fn.name = "runtime.NumGoroutine" := by simpa using hnm
    simp [execOp, resolve, hfn, Deferred.ofValue, invoke, callFunc, program, Bind.bind, Sem.bind, Pure.pure, Sem.run, hf, hb, hnm', hvs]
  rw [this]
  refine (h F w hs).mono ?_
  rintro e w' ⟨v, L, hv', he, hs', hk⟩
  exact ⟨v, he, L, hv', hs', hk⟩

/-! ### Results -/
def resRun (tmps : Array Value) : ResultVar → Sem Value
  | .tmp t => pure (tmps.getD t undef)
  | .cell a t => do loadVar t (← asAddr (tmps.getD a undef))
def ResR (P : Program) (E : Env) (L : List HP) (r : ResultVar) (v : Value) : Prop := ∀ (tmps : Array Value) (w : World), (∀ t v, look E t = some v → tmps[t]? = some v) → St L w → (resRun tmps r).run P w = .ok v w
theorem getD_of {tmps : Array Value} {t : Nat} {v : Value} (h : tmps[t]? = some v) : tmps.getD t undef = v := by simp [h]
theorem ResR.tmp {t : Nat} {v : Value} (h : look E t = some v) : ResR P E L (.tmp t) v := fun tmps w ht _ => by
  show (pure (tmps.getD t undef) : Sem Value).run P w = _
  rw [getD_of (ht _ _ h)]; rfl
theorem ResR.cell {a t : Nat} {b off : Nat} {l : List Value} {T : TypeId} {fr : Nat × Nat} {v : Value} (h : look E a = some (.pointer (some ⟨b, off, none⟩))) (hp : aggOf P t = some none) (hL : Pick (pt b (.cells l.toArray T fr)) L R) (hv : l[off]? = some v) :
    ResR P E L (.cell a t) v := fun tmps w ht hs => by
  show (do loadVar t (← asAddr (tmps.getD a undef)) : Sem Value).run P w = _
  rw [getD_of (ht _ _ h)]
  show (loadVar t ⟨b, off, none⟩).run P w = _
  exact run_loadVar1 hp (hs.pick hL).pt hv
theorem ResR.cellA {a t : Nat} {b off k : Nat} {l vs : List Value} {T : TypeId} {fr : Nat × Nat} (h : look E a = some (.pointer (some ⟨b, off, none⟩))) (hp : aggOf P t = some (some k)) (hL : Pick (pt b (.cells l.toArray T fr)) L R) (hc : off + k ≤ l.length) (hv : (l.drop off).take k = vs) :
    ResR P E L (.cell a t) (.agg vs.toArray) := fun tmps w ht hs => by
  show (do loadVar t (← asAddr (tmps.getD a undef)) : Sem Value).run P w = _
  rw [getD_of (ht _ _ h)]
  show (loadVar t ⟨b, off, none⟩).run P w = _
  rw [← hv]; exact run_loadVarA hp (hs.pick hL).pt hc
theorem results_eq (fn : Func) (tmps : Array Value) : results fn tmps = (do let vs ← fn.results.mapM (resRun tmps); pure (if h : vs.size = 1 then vs[0] else .tuple vs) : Sem Value) := by
  unfold results
  have e : (fun r : ResultVar => (match r with | .tmp t => pure (tmps.getD t undef) | .cell a t => do loadVar t (← asAddr (tmps.getD a undef)) : Sem Value)) = resRun tmps := by
    funext r; cases r <;> rfl
  rw [← e]
  rfl
theorem results_1 {fn : Func} {r : ResultVar} {tmps : Array Value} {w : World} {v : Value} (hl : fn.results = #[r]) (h : (resRun tmps r).run P w = .ok v w) : (results fn tmps).run P w = .ok v w := by
  simp [results_eq, hl, Sem.run_bind, Result.andThen, h]
theorem results_2 {fn : Func} {r s : ResultVar} {tmps : Array Value} {w : World} {v u : Value} (hl : fn.results = #[r, s]) (h : (resRun tmps r).run P w = .ok v w) (h' : (resRun tmps s).run P w = .ok u w) : (results fn tmps).run P w = .ok (.tuple #[v, u]) w := by
  simp [results_eq, hl, Sem.run_bind, Result.andThen, h, h']
theorem results_3 {fn : Func} {r s q : ResultVar} {tmps : Array Value} {w : World} {v u z : Value} (hl : fn.results = #[r, s, q]) (h : (resRun tmps r).run P w = .ok v w) (h' : (resRun tmps s).run P w = .ok u w) (h'' : (resRun tmps q).run P w = .ok z w) : (results fn tmps).run P w = .ok (.tuple #[v, u, z]) w := by
  simp [results_eq, hl, Sem.run_bind, Result.andThen, h, h', h'']
theorem G.done1 {fn : Func} {post : Value → List HP → Prop} {F : List HP} {L' : List HP} {r : ResultVar} {v : Value} (hl : fn.results = #[r]) (hr : ResR P E L r v) (hp : post v L') (hL : Picks L' L R) (hF : Suff F R) : G W n [] E L (FnQ P fn post F W .ret) := by
  intro a w he hk hs
  exact ⟨he.defers, v, results_1 hl (hr _ _ he.slots hs), v, L', hp, rfl, hF.st (hs.picks hL), hk⟩
theorem G.done2 {fn : Func} {post : Value → List HP → Prop} {F : List HP} {L' : List HP} {r s : ResultVar} {v u : Value} (hl : fn.results = #[r, s]) (hr : ResR P E L r v) (hr' : ResR P E L s u) (hp : post (.tuple #[v, u]) L') (hL : Picks L' L R) (hF : Suff F R) : G W n [] E L (FnQ P fn post F W .ret) := by
  intro a w he hk hs
  exact ⟨he.defers, _, results_2 hl (hr _ _ he.slots hs) (hr' _ _ he.slots hs), _, L', hp, rfl, hF.st (hs.picks hL), hk⟩
theorem G.done3 {fn : Func} {post : Value → List HP → Prop} {F : List HP} {L' : List HP} {r s q : ResultVar} {v u z : Value} (hl : fn.results = #[r, s, q]) (hr : ResR P E L r v) (hr' : ResR P E L s u) (hr'' : ResR P E L q z) (hp : post (.tuple #[v, u, z]) L') (hL : Picks L' L R) (hF : Suff F R) : G W n [] E L (FnQ P fn post F W .ret) := by
  intro a w he hk hs
  exact ⟨he.defers, _, results_3 hl (hr _ _ he.slots hs) (hr' _ _ he.slots hs) (hr'' _ _ he.slots hs), _, L', hp, rfl, hF.st (hs.picks hL), hk⟩

/-! ### Deferred calls -/
def FnQD (P : Program) (fn : Func) (post : Value → List HP → Prop) (F : List HP) (W : World) : Exit → Act → World → Prop :=
  bodyPostD P fn fun e w' => ∃ v L, post v L ∧ e = .returned v ∧ St (L ++ F) w' ∧ Keeps W w'
def FnD (P : Program) (f : FuncId) (args : Array Value) (pre : List HP) (post : Value → List HP → Prop) : Prop :=
  ∀ (F : List HP) (w : World) (u : FrameMode), St (pre ++ F) w → CallsD P f args u w fun e u' w' => u' = u ∧ ∃ v L, post v L ∧ e = .returned v ∧ St (L ++ F) w' ∧ Keeps w w'
theorem FnD.intro {f : FuncId} {fn : Func} {c : Code} {vs : List Value} {pre : List HP} {post : Value → List HP → Prop} {n : Nat}
    (hf : P.funcs[f]? = some fn) (hb : fn.body = some c) (hn : vs.length + (fn.ntmps - vs.length) = n)
    (h : ∀ F W, G W n [] (argE 0 vs) (pre ++ F) (c.wp P (FnQ P fn post F W))) : FnD P f vs.toArray pre post := by
  intro F w u hs
  refine callsD_of_wp hf hb (h F w _ w ⟨?_, rfl, fun t v hl => ?_⟩ (.refl w) hs)
  · simp [← hn]
  · obtain ⟨-, h2⟩ := look_argE _ _ _ _ hl
    have hlt : t < vs.length := by
      rcases Nat.lt_or_ge t vs.length with h | h
      · exact h
      · simp [List.getElem?_eq_none h] at h2
    simp only [Nat.sub_zero] at h2
    rw [List.getElem?_eq_getElem hlt] at h2
    simp only [Option.some.injEq] at h2
    simp [Array.getElem?_append, hlt, h2]
theorem Fn.introD {f : FuncId} {fn : Func} {c : Code} {vs : List Value} {pre : List HP} {post : Value → List HP → Prop} {n : Nat}
    (hf : P.funcs[f]? = some fn) (hb : fn.body = some c) (hn : vs.length + (fn.ntmps - vs.length) = n)
    (h : ∀ F W, G W n [] (argE 0 vs) (pre ++ F) (c.wp P (FnQD P fn post F W))) : Fn P f vs.toArray pre post := by
  intro F w hs
  refine calls_of_wp_defers hf hb (h F w _ w ⟨?_, rfl, fun t v hl => ?_⟩ (.refl w) hs)
  · simp [← hn]
  · obtain ⟨-, h2⟩ := look_argE _ _ _ _ hl
    have hlt : t < vs.length := by
      rcases Nat.lt_or_ge t vs.length with h | h
      · exact h
      · simp [List.getElem?_eq_none h] at h2
    simp only [Nat.sub_zero] at h2
    rw [List.getElem?_eq_getElem hlt] at h2
    simp only [Option.some.injEq] at h2
    simp [Array.getElem?_append, hlt, h2]
theorem G.defer {ops : Array Oper} {f : FuncId} {xs : Array Operand} {ts : Array TypeId} {ty : TypeId} {pos : String} {aft : Array Edge} {rest : List Oper} {vs : List Value} (hx : xs.toList.map (ev E) = vs.map some)
    (h : G W n ({ target := .fn (.func f) #[], args := vs.toArray } :: ds) E L (wpList P ops Q rest)) : G W n ds E L (wpList P ops Q (⟨none, .defer { callee := .value (.func f), args := xs, argTypes := ts }, ty, pos, aft, none⟩ :: rest)) := by
  intro a w he hk hs
  refine wpList_plain rfl fun K' hK' => ?_
  have hvs : xs.map a.eval = vs.toArray := by
    apply Array.ext'
    rw [Array.toList_map]
    exact agree_list he.agrees _ _ hx
  have hfn : a.eval (.func f) = .func (.func f) #[] #[] := rfl
  have hrun : (execOp a.eval ⟨none, .defer { callee := .value (.func f), args := xs, argTypes := ts }, ty, pos, aft, none⟩).run P w = .ok (.defer { target := .fn (.func f) #[], args := vs.toArray }) w := by
    simp [execOp, resolve, hfn, Deferred.ofValue, Bind.bind, Sem.bind, Pure.pure, Sem.run, hvs]
  unfold Oper.wp
  rw [hrun, Oper.upon_defer]
  refine hK' _ _ (h _ _ ⟨he.size, by show _ :: a.defers = _; rw [he.defers], he.slots⟩ hk hs)
theorem G.doneD {fn gn : Func} {gc : Code} {g : FuncId} {vs : List Value} {post postD : Value → List HP → Prop} {F preD : List HP} (hf : P.funcs[g]? = some gn) (hb : gn.body = some gc) (hnm : (gn.name == "runtime.NumGoroutine") = false)
    (hd : FnD P g vs.toArray preD postD) (hL : Picks preD L R) (h : ∀ u L', postD u L' → G W n [] E (L' ++ R) (FnQ P fn post F W .ret)) :
    G W n [{ target := .fn (.func g) #[], args := vs.toArray }] E L (FnQD P fn post F W .ret) := by
  intro a w he hk hs
  show Leaves P fn a.tmps _ a.defers .returning w
  rw [he.defers]
  have hi : (invoke (.fn (.func g) #[]) vs.toArray).run P w = .ok (.enter g vs.toArray) w := by
    have hnm' : ¬ gn.name = "runtime.NumGoroutine" := by simpa using hnm
    simp [invoke, callFunc, program, Bind.bind, Sem.bind, Pure.pure, Sem.run, hf, hb, hnm']
  refine leaves_cons (by simp) hi ((hd R w .returning (hs.picks hL)).mono ?_)
  rintro e u' w' ⟨rfl, v, L', hv, rfl, hs', hk'⟩
  obtain ⟨-, v', hr, hR⟩ := h v L' hv { a with defers := [] } w' ⟨he.size, rfl, he.slots⟩ (hk.trans hk') hs'
  exact ⟨v', hr, hR⟩
theorem G.doneD_n {fn : Func} {post : Value → List HP → Prop} {F : List HP} (h : G W n ds E L (FnQD P fn post F W .ret)) : G W n ds E L (FnQD P fn post F W .normal) := h
end
end Go.Proofs.YtnnbelmpbmfdnaaDoor
