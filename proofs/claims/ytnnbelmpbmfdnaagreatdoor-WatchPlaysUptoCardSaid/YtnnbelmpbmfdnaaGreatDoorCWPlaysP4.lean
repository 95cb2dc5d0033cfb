/- Own work, some of it printed by program, texts that were built one by one and are laid one behind the other here: what a sound history tells of one path, and what its states show of it: plain. | a watch that is carried to another table: the state of the loop: plain. | law 11: Told, awake, WatchGone, WatchApart, WatchOnce: walked. | law 07: pick, Events, awake, texts, numbers: walked. | the document's tree: soundness: walked. | law 07: a part of a sound history: walked. | law 07: acts made small: walked. | law 07: transactions of a sound history: walked. | package tree: a tree and itself: walked. | package watch: since, Arm: walked. | law 11: WatchMoves: walked. | the document's table of watches in memory: a list, in its order. | the document's table of watches: walked. | the document's table of watches: Since: walked. | the document's table of watches: fire, Fire: walked. | law 11: made: walked. | any entries, as arguments: what they may be, and how great a tree they make: plain. | steps on a table of watches and a tree: plain. -/
import Derived.Test.YtnnbelmpbmfdnaaGreatDoorCWPlaysP2
import Derived.Test.YtnnbelmpbmfdnaaGreatDoorCWPlaysP3
set_option linter.unusedSimpArgs false
set_option linter.unusedVariables false
/- Own work: what a sound history tells of one path, and what its states show of it: plain. -/

namespace Go.Proofs.YtnnbelmpbmfdnaaGreatDoor
open Go

abbrev Sp := Option (Int × Int × Int)
def stp (τ : Tr) (p : Bs) : Sp := (alook τ.nodes p).map fun n => (n.st.cz, n.st.mz, n.st.pz)
def kindsAt (p : Bs) (es : List Ev) : List Int := (es.filter fun e => decide (e.2.1 = p)).map (·.1)
theorem kindsAt_app (p : Bs) (a b : List Ev) : kindsAt p (a ++ b) = kindsAt p a ++ kindsAt p b := by unfold kindsAt; rw [List.filter_append, List.map_append]
/-- One sound part, seen from a path. -/
def Stp1 (z : Int) (s : Sp) (E : List Int) (s' : Sp) : Prop :=
  (E = [] ∧ s' = s) ∨ (E = [1] ∧ s = none ∧ s' = some (z, z, z)) ∨ (E = [4] ∧ ∃ c m q, s = some (c, m, q) ∧ s' = some (c, m, z)) ∨ (E = [2] ∧ (∃ c m q, s = some (c, m, q)) ∧ s' = none) ∨ (E = [3] ∧ ∃ c m q, s = some (c, m, q) ∧ s' = some (c, z, q))
/-- Parts, one behind the other. -/
inductive StpR (z : Int) : Sp → List Int → Sp → Prop
  | nil {s : Sp} : StpR z s [] s
  | cons {s s' s'' : Sp} {E E' : List Int} (h : Stp1 z s E s') (h' : StpR z s' E' s'') : StpR z s (E ++ E') s''
def runE : Tr → List Pz → List Ev
  | _, [] => []
  | τ, x :: l => (partZ τ x.1 x.2).2 ++ runE (partZ τ x.1 x.2).1 l
/-! ### Watches of one path -/
def hitsK (k : Int) (E : List Int) : Bool := E.any fun e => decide (k ∈ kindsZ e)
theorem hits_app (k : Int) (a b : List Int) : hitsK k (a ++ b) = (hitsK k a || hitsK k b) := by unfold hitsK; rw [List.any_append]
/-- The stamp that a kind of watch looks at. -/
def stampK (k : Int) (s : Int × Int × Int) : Int := if k = 3 then s.2.2 else s.2.1
/-- Something that such a watch is told of has happened behind A. -/
def goneK (k A : Int) : Sp → Prop
  | none => True
  | some s => A < s.1 ∨ A < stampK k s
def sameK (k : Int) (s s' : Sp) : Prop := ∃ a b, s = some a ∧ s' = some b ∧ b.1 = a.1 ∧ stampK k b = stampK k a
theorem sameK.trans {k : Int} {s t u : Sp} (h1 : sameK k s t) (h2 : sameK k t u) : sameK k s u := by
  obtain ⟨a, b, rfl, rfl, h3, h4⟩ := h1
  obtain ⟨c, d, h5, rfl, h6, h7⟩ := h2
  cases h5
  exact ⟨a, d, rfl, rfl, h6.trans h3, h7.trans h4⟩
def leK (A : Int) : Sp → Prop
  | none => True
  | some s => s.1 ≤ A ∧ s.2.1 ≤ A ∧ s.2.2 ≤ A
theorem leK.more {A B : Int} (h : A ≤ B) {s : Sp} (hs : leK A s) : leK B s := by
  cases s with
  | none => trivial
  | some a => obtain ⟨h1, h2, h3⟩ := hs; exact ⟨by omega, by omega, by omega⟩
/-! ### One history -/
def tauI (l : List En) (i : Nat) : Tr := appL newT (l.take i)
def evsI (l : List En) (i : Nat) : List Ev := (applyZ (tauI l i) (l.getD i (enS 0 0 [] [] 0)).zx (l.getD i (enS 0 0 [] [] 0)).x (l.getD i (enS 0 0 [] [] 0)).subs).2.1
def hitI (l : List En) (p : Bs) (k : Int) (i : Nat) : Bool := hitsK k (kindsAt p (evsI l i))
def hitF (l : List En) (p : Bs) (k : Int) (a b : Nat) : Bool := (List.range b).any fun j => decide (a ≤ j) && hitI l p k j
theorem hitF_succ (l : List En) (p : Bs) (k : Int) {a b : Nat} (h : a ≤ b) : hitF l p k a (b + 1) = (hitF l p k a b || hitI l p k b) := by
  unfold hitF
  rw [List.range_succ, List.any_append]
  simp [h]
theorem hitF_self (l : List En) (p : Bs) (k : Int) (a : Nat) : hitF l p k a a = false := by
  unfold hitF
  rw [List.any_eq_false]
  intro j hj
  have := List.mem_range.1 hj
  simp; omega
section
variable {z0 : Int} {l : List En} {τ : Tr}
end
/-! ### What has happened since -/
def sinceZ (τ : Tr) (a : Arm) : Ev × Bool :=
  if a.1 = 2 then ((1, (a.2.1, (statD τ a.2.1).cz)), decide (thereT τ a.2.1))
  else if ¬ thereT τ a.2.1 ∨ (statD τ a.2.1).cz ≠ a.2.2.1 then ((2, (a.2.1, τ.zx)), true)
  else if a.1 = 3 then ((4, (a.2.1, (statD τ a.2.1).pz)), decide ((statD τ a.2.1).pz ≠ a.2.2.2.2))
  else ((3, (a.2.1, (statD τ a.2.1).mz)), decide ((statD τ a.2.1).mz ≠ a.2.2.2.1))
def armI (l : List En) (d : Nat) (p : Bs) (k : Int) : Arm := (k, (p, ((statD (tauI l d) p).cz, ((statD (tauI l d) p).mz, (statD (tauI l d) p).pz))))
/-- Watches that are armed, one by one. -/
def armS (τ : Tr) (s : Int) (r : List Wt × List Ev) (a : Arm) : List Wt × List Ev :=
  if ¬ isWt a.1 a.2.1 then r else if (sinceZ τ a).2 = false then ((addW r.1 s a.1 a.2.1).1, r.2) else if (sinceZ τ a).1 ∈ r.2 then r else (r.1, r.2 ++ [(sinceZ τ a).1])
def armL (τ : Tr) (s : Int) (ω : List Wt) (l : List Arm) : List Wt × List Ev := l.foldl (armS τ s) (ω, [])
theorem armL_step (τ : Tr) (s : Int) (ω : List Wt) {l : List Arm} {i : Nat} (hi : i < l.length) : armL τ s ω (l.take (i + 1)) = armS τ s (armL τ s ω (l.take i)) l[i] := by
  unfold armL; rw [List.take_succ_eq_append_getElem hi, List.foldl_append]; rfl
theorem armS_len (τ : Tr) (s : Int) (r : List Wt × List Ev) (a : Arm) : (armS τ s r a).2.length ≤ r.2.length + 1 := by
  unfold armS
  split
  · omega
  · split
    · show r.2.length ≤ _; omega
    · split
      · omega
      · simp
theorem armL_len (τ : Tr) (s : Int) (ω : List Wt) (l : List Arm) : ∀ i, i ≤ l.length → (armL τ s ω (l.take i)).2.length ≤ i
  | 0, _ => by rw [List.take_zero]; exact Nat.le_refl _
  | i + 1, hi => by
    rw [armL_step τ s ω (by omega)]
    have h1 := armS_len τ s (armL τ s ω (l.take i)) l[i]
    have h2 := armL_len τ s ω l i (by omega)
    omega
/-! ### A table with one watch, or none -/
theorem tell_nil (k : Int) (p : Bs) : tellW [] k p = [] ∧ leftW [] k p = [] := by
  refine ⟨?_, rfl⟩
  rcases tell_one (ω := []) (s := 1) (fun w hw => by cases hw) k p with ⟨h, -⟩ | ⟨-, w, hw, -⟩
  · exact h
  · cases hw
theorem fire_nil (es : List Ev) : fireL [] es = ([], []) := by
  unfold fireL
  have : ∀ i, fireTo [] es i = ([], []) := by
    intro i
    induction i with
    | zero => rfl
    | succ i ih =>
      unfold fireTo
      rw [ih]
      dsimp only
      rw [(tell_nil _ _).1, (tell_nil _ _).2]
      rfl
  exact this _
def oneW (k : Int) (p : Bs) : List Wt := [(1, (k, p))]
theorem one_fire (k : Int) (p : Bs) (es : List Ev) : (fireL (oneW k p) es).1 = (if hitsK k (kindsAt p es) = true then [] else oneW k p) ∧ (fireL (oneW k p) es).2.length = if hitsK k (kindsAt p es) = true then 1 else 0 := by
  have key : ∀ i, i ≤ es.length → (fireTo (oneW k p) es i).1 = (if hitsK k (kindsAt p (es.take i)) = true then [] else oneW k p) ∧ (fireTo (oneW k p) es i).2.length = if hitsK k (kindsAt p (es.take i)) = true then 1 else 0 := by
    intro i
    induction i with
    | zero => intro _; rw [List.take_zero]; exact ⟨rfl, rfl⟩
    | succ i ih =>
      intro hi
      obtain ⟨h1, h2⟩ := ih (by omega)
      have hg : es.getD i (0, ([], 0)) = es[i] := by rw [List.getD_eq_getElem?_getD, List.getElem?_eq_getElem (by omega)]; rfl
      rw [fire_succ hg, List.take_succ_eq_append_getElem (by omega), kindsAt_app, hits_app]
      dsimp only
      rw [List.length_append, List.length_map]
      by_cases g : hitsK k (kindsAt p (es.take i)) = true
      · rw [if_pos g] at h1 h2
        rw [h1, h2, (tell_nil _ _).1, (tell_nil _ _).2, g, Bool.true_or]
        exact ⟨rfl, rfl⟩
      · rw [if_neg g] at h1 h2
        rw [h1, h2, Bool.eq_false_iff.2 g, Bool.false_or]
        have hm : hitsK k (kindsAt p [es[i]]) = meetW es[i].1 es[i].2.1 (1, (k, p)) := by
          unfold hitsK kindsAt meetW
          by_cases e : es[i].2.1 = p
          · rw [List.filter_cons_of_pos (by simpa using e), decide_eq_true e.symm]; simp
          · rw [List.filter_cons_of_neg (by simpa using e), decide_eq_false (fun g => e g.symm)]; simp
        rw [hm]
        rcases tell_one (ω := oneW k p) (s := 1) (fun w hw => by rw [oneW, List.mem_singleton] at hw; rw [hw]) es[i].1 es[i].2.1 with ⟨t1, t2⟩ | ⟨t1, w, hw, t2⟩
        · rw [t1, t2]
          have hn : meetW es[i].1 es[i].2.1 (1, (k, p)) = false := by
            have q : (1, (k, p)) ∈ leftW (oneW k p) es[i].1 es[i].2.1 := by rw [t2]; simp [oneW]
            unfold leftW at q
            simpa using (List.mem_filter.1 q).2
          rw [hn]; exact ⟨rfl, rfl⟩
        · rw [oneW, List.mem_singleton] at hw
          subst hw
          rw [t1, t2]
          refine ⟨?_, rfl⟩
          unfold leftW oneW
          rw [List.filter_cons_of_neg (by simpa using t2)]
          rfl
  have := key es.length (Nat.le_refl _)
  rwa [List.take_length] at this
end Go.Proofs.YtnnbelmpbmfdnaaGreatDoor

/- Own work: a watch that is carried to another table: the state of the loop: plain. -/

namespace Go.Proofs.YtnnbelmpbmfdnaaGreatDoor
open Go

noncomputable section
def effK (l : List En) (d : Nat) (p : Bs) (k0 : Int) : Int := if thereT (tauI l d) p then (if k0 = 2 then 1 else k0) else 2
structure MvS (l : List En) (d m : Nat) (p : Bs) (k0 : Int) (on ar : Bool) (i : Nat) (ω ω2 : List Wt) (got thn told th : Bool) (k : Int) (a : Arm) : Prop where
  hω : ω = if (on && !hitF l p (effK l d p k0) d i) = true then oneW (effK l d p k0) p else []
  hgot : got = (on && hitF l p (effK l d p k0) d i)
  hω2 : ω2 = if (ar && !((sinceZ (tauI l m) (armI l d p (effK l d p k0))).2 || hitF l p (effK l d p k0) m i)) = true then oneW (effK l d p k0) p else []
  hthn : thn = (ar && (sinceZ (tauI l m) (armI l d p (effK l d p k0))).2)
  htold : told = (ar && (!(sinceZ (tauI l m) (armI l d p (effK l d p k0))).2 && hitF l p (effK l d p k0) m i))
  hth : th = (on && decide (thereT (tauI l d) p))
  hk : k = if on = true then effK l d p k0 else k0
  ha : on = true → a = armI l d p (effK l d p k0)
  hwt : on = true → isWt (effK l d p k0) p
end
section
variable {l : List En} {d m : Nat} {p : Bs} {k0 : Int}
theorem MvS.init (a : Arm) : MvS l d m p k0 (decide (d < 0)) (decide (m < 0)) 0 [] [] false false false false k0 a := by
  have h1 : decide (d < 0) = false := decide_eq_false (by omega)
  have h2 : decide (m < 0) = false := decide_eq_false (by omega)
  rw [h1, h2]
  exact ⟨rfl, rfl, rfl, rfl, rfl, rfl, rfl, fun h => (by cases h), fun h => (by cases h)⟩
theorem MvS.skip {ar : Bool} {i : Nat} {ω ω2 : List Wt} {got thn told th : Bool} {k : Int} {a : Arm} (h : MvS l d m p k0 (decide (d < i)) ar i ω ω2 got thn told th k a) (hi : i ≠ d) : MvS l d m p k0 (decide (d ≤ i)) ar i ω ω2 got thn told th k a := by
  have : decide (d ≤ i) = decide (d < i) := decide_eq_decide.2 (by omega)
  rw [this]; exact h
theorem MvS.lay {ω2 : List Wt} {ω : List Wt} {got thn told th : Bool} {k : Int} {a : Arm} {i : Nat} (h : MvS l d m p k0 (decide (d < i)) (decide (m < i)) i ω ω2 got thn told th k a) (hi : i = d) (hw : isWt (effK l d p k0) p) :
    MvS l d m p k0 (decide (d ≤ i)) (decide (m < i)) i (oneW (effK l d p k0) p) ω2 got thn told (decide (thereT (tauI l d) p)) (effK l d p k0) (armI l d p (effK l d p k0)) := by
  subst hi
  have h1 : decide (i < i) = false := decide_eq_false (by omega)
  have h2 : decide (i ≤ i) = true := decide_eq_true (by omega)
  obtain ⟨g1, g2, g3, g4, g5, g6, g7, g8, g9⟩ := h
  rw [h1] at g2
  rw [h2]
  refine ⟨?_, ?_, g3, g4, g5, rfl, rfl, fun _ => rfl, fun _ => hw⟩
  · rw [hitF_self]; rfl
  · rw [g2, hitF_self]; rfl
theorem MvS.arm {on : Bool} {i : Nat} {ω ω2 : List Wt} {got thn told th : Bool} {k : Int} {a : Arm} (h : MvS l d m p k0 on (decide (m < i)) i ω ω2 got thn told th k a) (hi : i = m) :
    MvS l d m p k0 on (decide (m ≤ i)) i ω (if (sinceZ (tauI l m) (armI l d p (effK l d p k0))).2 = true then [] else oneW (effK l d p k0) p) got (sinceZ (tauI l m) (armI l d p (effK l d p k0))).2 told th k a := by
  subst hi
  have h1 : decide (i < i) = false := decide_eq_false (by omega)
  have h2 : decide (i ≤ i) = true := decide_eq_true (by omega)
  obtain ⟨g1, g2, g3, g4, g5, g6, g7, g8, g9⟩ := h
  rw [h1] at g5
  rw [h2]
  refine ⟨g1, g2, ?_, by rw [Bool.true_and], ?_, g6, g7, g8, g9⟩
  · rw [hitF_self, Bool.or_false, Bool.true_and]
    cases (sinceZ (tauI l i) (armI l d p (effK l d p k0))).2 <;> rfl
  · rw [g5, hitF_self, Bool.and_false]; rfl
/-- An entry. -/
theorem MvS.next {i : Nat} {ω ω2 : List Wt} {got thn told th : Bool} {k : Int} {a : Arm} (h : MvS l d m p k0 (decide (d ≤ i)) (decide (m ≤ i)) i ω ω2 got thn told th k a) {b : Bool} (hb : b = (told || decide (0 < (fireL ω2 (evsI l i)).2.length))) :
    MvS l d m p k0 (decide (d < i + 1)) (decide (m < i + 1)) (i + 1) (fireL ω (evsI l i)).1 (fireL ω2 (evsI l i)).1 (got || decide (0 < (fireL ω (evsI l i)).2.length)) thn b th k a := by
  have h1 : decide (d < i + 1) = decide (d ≤ i) := decide_eq_decide.2 (by omega)
  have h2 : decide (m < i + 1) = decide (m ≤ i) := decide_eq_decide.2 (by omega)
  obtain ⟨g1, g2, g3, g4, g5, g6, g7, g8, g9⟩ := h
  rw [h1, h2]
  have hf := one_fire (effK l d p k0) p (evsI l i)
  have hE : hitsK (effK l d p k0) (kindsAt p (evsI l i)) = hitI l p (effK l d p k0) i := rfl
  rw [hE] at hf
  refine ⟨?_, ?_, ?_, g4, ?_, g6, g7, g8, g9⟩
  · by_cases hd : d ≤ i
    · rw [hitF_succ l p _ hd, g1, decide_eq_true hd]
      cases hitF l p (effK l d p k0) d i
      · simp only [Bool.true_and, Bool.false_or, Bool.not_false, if_true]
        rw [hf.1]
        cases hitI l p (effK l d p k0) i <;> simp
      · simp [fire_nil]
    · rw [g1, decide_eq_false hd]
      simp [fire_nil]
  · by_cases hd : d ≤ i
    · rw [hitF_succ l p _ hd, g2, g1, decide_eq_true hd]
      cases hitF l p (effK l d p k0) d i
      · simp only [Bool.true_and, Bool.false_or, Bool.not_false, if_true]
        rw [hf.2]
        cases hitI l p (effK l d p k0) i <;> simp
      · simp
    · rw [g2, g1, decide_eq_false hd]
      simp [fire_nil]
  · by_cases hd : m ≤ i
    · rw [hitF_succ l p _ hd, g3, decide_eq_true hd]
      cases (sinceZ (tauI l m) (armI l d p (effK l d p k0))).2
      · cases hitF l p (effK l d p k0) m i
        · simp only [Bool.true_and, Bool.false_or, Bool.not_false, if_true]
          rw [hf.1]
          cases hitI l p (effK l d p k0) i <;> simp
        · simp [fire_nil]
      · simp [fire_nil]
    · rw [g3, decide_eq_false hd]
      simp [fire_nil]
  · subst hb
    by_cases hd : m ≤ i
    · rw [hitF_succ l p _ hd, g5, g3, decide_eq_true hd]
      cases (sinceZ (tauI l m) (armI l d p (effK l d p k0))).2
      · cases hitF l p (effK l d p k0) m i
        · simp only [Bool.true_and, Bool.false_or, Bool.not_false, if_true]
          rw [hf.2]
          cases hitI l p (effK l d p k0) i <;> simp
        · simp [fire_nil]
      · simp [fire_nil]
    · rw [g5, g3, decide_eq_false hd]
      simp [fire_nil]
theorem MvS.few {on ar : Bool} {i : Nat} {ω ω2 : List Wt} {got thn told th : Bool} {k : Int} {a : Arm} (h : MvS l d m p k0 on ar i ω ω2 got thn told th k a) : ω.length ≤ 1 ∧ ω2.length ≤ 1 := by
  rw [h.hω, h.hω2]
  constructor <;> (split <;> simp [oneW])
end
end Go.Proofs.YtnnbelmpbmfdnaaGreatDoor

/- Own work, by program: law 11: Told, awake, WatchGone, WatchApart, WatchOnce: walked. -/

namespace Go.Proofs.YtnnbelmpbmfdnaaGreatDoor
open Go
set_option maxRecDepth 100000 in
theorem told_spec (xs ys : List Tld) (va vb : Value) (h1 : xs.length ≤ 4611686018427387904) : Fn Tryz.prog 78 #[va, vb] [slR 147 4 va xs.length (xs.flatMap tldC), slR 147 4 vb ys.length (ys.flatMap tldC)] fun v L => v = .bool (decide (xs = ys)) ∧ L = [slR 147 4 va xs.length (xs.flatMap tldC), slR 147 4 vb ys.length (ys.flatMap tldC)] := by
 refine Fn.intro (vs := [va, vb]) Tryz.func78 rfl rfl ?_
 intro F W
 refine G.slAny (v := va) (by (repeat' constructor)) fun aa ca e0 _ => ?_
 subst e0
 refine G.slAny (v := vb) (by (repeat' constructor)) fun ab cb e0 _ => ?_
 subst e0
 refine G.seq (G.region (G.q (Quiet.assign rfl) rfl (G.nil (G.then_n (G.seq (G.seq (G.region (G.q (Quiet.move rfl) rfl (G.q (Quiet.slen rfl Tryz.underlying76 rfl) rfl (G.q (Quiet.move rfl) rfl (G.q (Quiet.slen rfl Tryz.underlying76 rfl) rfl (G.q (Quiet.int rfl rfl rfl) rfl (G.nil (G.then_n ?_))))))))))))))
 refine G.condN rfl (fun h10 => ?_) (fun h10 => ?_)
 ·refine G.seq (G.region (G.q (Quiet.assign rfl) rfl (G.nil (G.then_n (G.ret (G.then_r ?_))))))
  exact G.done (l := [.tmp 4]) rfl rfl ⟨by rw [decide_eq_false (fun e => h10 (by rw [e]))], rfl⟩ (by (repeat' constructor)) (by (repeat' constructor))
 ·have hlen : xs.length = ys.length := by omega
  refine G.skip (G.then_n (G.seq (G.seq (G.region (G.q (Quiet.assign rfl) rfl (G.nil (G.then_n (G.block ?_))))))))
  refine G.loopK (ι := Nat) (fun q E => (5, vint q) :: E) (fun q => []) (fun q => q ≤ xs.length ∧ xs.take q = ys.take q) (fun q => xs.length - q) (0) (ts := [0, 1]) (.cons rfl (.cons rfl (.nil))) (⟨Nat.zero_le _, rfl⟩) ⟨rfl, rfl, rfl, trivial⟩ (by (repeat' constructor)) ?_
  rintro i ⟨hi, hpre⟩
  refine G.seq (G.seq (G.region (G.q (Quiet.move rfl) rfl (G.q (Quiet.move rfl) rfl (G.q (Quiet.slen rfl Tryz.underlying76 rfl) rfl (G.q (Quiet.int rfl rfl rfl) rfl (G.nil (G.then_n ?_))))))))
  refine G.condD rfl (fun h14 => ?_) (fun h14 => ?_)
  ·have hi2 : i < xs.length := by omega
   have hi3 : i < ys.length := by omega
   refine G.slShape (v := .slice aa _ ca) (by (repeat' constructor)) (by omega) fun ba ba' e0 mba _ => ?_
   simp only [Value.slice.injEq, true_and] at e0
   obtain ⟨rfl, rfl⟩ := e0
   refine G.slShape (v := .slice ab _ cb) (by (repeat' constructor)) (by omega) fun bb bb' e0 mbb _ => ?_
   simp only [Value.slice.injEq, true_and] at e0
   obtain ⟨rfl, rfl⟩ := e0
   refine G.skip (G.then_n (G.seq (G.block (G.seq ?_))))
   refine G.draw [] [[0, 1, 2, 3, 4, 5, 6, 7, 8]] mixed (by kernel_rfl) ?_
   refine Phases.go [] (by (repeat' constructor)) ?_
   refine D.qw [2, 3, 8] rfl (by kernel_rfl) (Quiet.move rfl) ?_
   refine D.qw [2, 3, 8] rfl (by kernel_rfl) (Quiet.move rfl) ?_
   refine D.qw [3, 8] rfl (by kernel_rfl) (Quiet.indexAddr rfl rfl el_76 (by omega)) ?_
   refine D.qw [8] rfl (by kernel_rfl) (Quiet.loadRdA (sz := 4) (j := i * 4) (k := 4) (p := slR 147 4 _ xs.length (xs.flatMap tldC)) (vs := tldC xs[i]) rfl ag_147 (by (repeat' constructor)) (fun h hp => slR_rd hp) (by simp) (by omega) (by omega) (flatMap_at (f := tldC) (sz := 4) (fun _ _ => rfl) (by omega))) ?_
   refine D.qw [6, 7, 8] rfl (by kernel_rfl) (Quiet.move rfl) ?_
   refine D.qw [6, 7, 8] rfl (by kernel_rfl) (Quiet.move rfl) ?_
   refine D.qw [7, 8] rfl (by kernel_rfl) (Quiet.indexAddr rfl rfl el_76 (by omega)) ?_
   refine D.qw [8] rfl (by kernel_rfl) (Quiet.loadRdA (sz := 4) (j := i * 4) (k := 4) (p := slR 147 4 _ ys.length (ys.flatMap tldC)) (vs := tldC ys[i]) rfl ag_147 (by (repeat' constructor)) (fun h hp => slR_rd hp) (by simp) (by omega) (by omega) (flatMap_at (f := tldC) (sz := 4) (fun _ _ => rfl) (by omega))) ?_
   refine D.qw [] rfl (by kernel_rfl) (Quiet.structNe (r := decide (xs[i] = ys[i])) rfl rfl (by kernel_rfl) (tld_eq 9997 _ _)) ?_
   refine D.ph (Phases.fin (G.then_n ?_))
   refine G.condN rfl (fun h25 => ?_) (fun h25 => ?_)
   ·refine G.seq (G.region (G.q (Quiet.assign rfl) rfl (G.nil (G.then_n (G.ret (G.blk_r (G.then_r (G.then_r (G.blk_r (G.then_r ?_))))))))))
    exact G.done (l := [.tmp 4]) rfl rfl ⟨by rw [decide_eq_false (fun e => h25 (by simp only [e]))], rfl⟩ (by (repeat' constructor)) (by (repeat' constructor))
   ·refine G.skip (G.blk_n (G.then_n (G.region (G.q (Quiet.move rfl) rfl ?_))))
    refine G.q (Quiet.add rfl rfl (by omega)) rfl ?_
    refine G.q (Quiet.assign rfl) rfl (G.nil (G.then_n ?_))
    exact G.roundK (i + 1) (⟨by omega, by rw [List.take_succ_eq_append_getElem hi2, List.take_succ_eq_append_getElem hi3, hpre, h25]⟩) (by omega) ⟨rfl, rfl, rfl, trivial⟩ (by (repeat' constructor)) (by ((repeat (apply Have.cons; (repeat (first | exact Pick.here | apply Pick.there)))); apply Have.base; repeat' constructor))
  ·refine G.exit (G.then_e (G.then_e (G.blk_e (G.then_n (G.seq (G.region (G.q (Quiet.assign rfl) rfl (G.nil (G.then_n (G.ret ?_))))))))))
   exact G.done (l := [.tmp 4]) rfl rfl ⟨by rw [decide_eq_true (by have hii : i = xs.length := (by omega); rw [hii, List.take_length] at hpre; rw [hlen, List.take_length] at hpre; exact hpre)], rfl⟩ (by (repeat' constructor)) (by (repeat' constructor))

set_option maxRecDepth 100000 in
theorem awake11_spec : Fn Tryz.prog 31 #[] [] fun v L => v = .bool true ∧ L = [] := by
 refine Fn.intro (vs := []) Tryz.func31 rfl rfl ?_
 intro F W
 refine G.seq (G.region (G.q (Quiet.assign rfl) rfl (G.nil (G.then_n (G.seq (G.region ?_))))))
 refine G.op (OpSpec.call Tryz.func32 rfl rfl (vs := []) rfl (wnew_spec)) (by (repeat' constructor)) rfl ?nx2
 rintro v L' ⟨t, rfl, rfl⟩
 refine G.q (Quiet.assign rfl) rfl (G.nil (G.then_n (G.seq (G.seq (G.region (G.q (Quiet.move rfl) rfl ?_))))))
 refine G.q (Quiet.as (v' := .bool false) (by rfl) (Quiet.ptreq rfl rfl Tryz.underlying67)) rfl ?_
 refine G.nil (G.then_n (G.condF rfl (G.skip (G.then_n (G.seq (G.region (G.q (Quiet.move rfl) rfl ?_)))))))
 refine G.op (OpSpec.call Tryz.func34 rfl rfl (vs := [_, _, _, _]) rfl (wadd_spec t [] 1 1 wA (by decide) (by decide))) (by (repeat' constructor)) rfl ?nx5
 rintro v L' ⟨rfl, rfl⟩; rw [awake_1]; dsimp only
 refine G.q (Quiet.assign rfl) rfl (G.nil (G.then_n (G.seq (G.region (G.q (Quiet.move rfl) rfl ?_)))))
 refine G.op (OpSpec.call Tryz.func34 rfl rfl (vs := [_, _, _, _]) rfl (wadd_spec t aw1 1 3 wA (by decide) (by decide))) (by (repeat' constructor)) rfl ?nx7
 rintro v L' ⟨rfl, rfl⟩; rw [awake_2]; dsimp only
 refine G.q (Quiet.assign rfl) rfl (G.nil (G.then_n (G.seq (G.region (G.q (Quiet.move rfl) rfl ?_)))))
 refine G.op (OpSpec.call Tryz.func34 rfl rfl (vs := [_, _, _, _]) rfl (wadd_spec t aw2 2 1 wA (by decide) (by decide))) (by (repeat' constructor)) rfl ?nx9
 rintro v L' ⟨rfl, rfl⟩; rw [awake_3]; dsimp only
 refine G.q (Quiet.assign rfl) rfl (G.nil (G.then_n (G.seq (G.region (G.q (Quiet.move rfl) rfl ?_)))))
 refine G.op (OpSpec.call Tryz.func34 rfl rfl (vs := [_, _, _, _]) rfl (wadd_spec t aw3 2 2 wB (by decide) (by decide))) (by (repeat' constructor)) rfl ?nx11
 rintro v L' ⟨rfl, rfl⟩; rw [awake_4]; dsimp only
 refine G.q (Quiet.assign rfl) rfl (G.nil (G.then_n (G.seq (G.region ?_))))
 refine G.q (Quiet.build (us := [(0, _), (1, _), (2, _)]) fl_75 ze_75 rfl rfl (by simp [isCell])) rfl ?_
 refine G.op (OpSpec.allocA ze_75) (by (repeat' constructor)) rfl ?nx14
 rintro v L' ⟨be, rfl, rfl⟩
 refine G.op (OpSpec.storeA rfl rfl ?c16 sz_75 ?c19 ?c17 ?c18) (by (repeat' constructor)) rfl ?nx20
 case c16 => (first | (simp [isCell]; done) | (simp [isCell, setAll, Value.cells]; done))
 case c19 => (first | (simp; done) | (simp [setAll, spl, Value.cells]; done))
 case c17 => (first | (simp; done) | (simp [setAll, spl, Value.cells]; done))
 case c18 => exact nfz0 _ _
 rintro v L' rfl
 refine G.nil ?_
 refine G.ptCast (b := be) (l' := [vint 3, vstr wA, vint 4]) (by (repeat' constructor)) rfl ?_
 refine G.then_n (G.seq (G.region (G.q (Quiet.move rfl) rfl ?_)))
 refine G.q (Quiet.loadAs (vs := [vint 3, vstr wA, vint 4]) rfl ag_75 (by (repeat' constructor)) (by simp) rfl) rfl ?_
 refine G.op (OpSpec.buildSlice (vs := [_]) el_30 ze_75 rfl rfl rfl rfl (by first | (simp [Value.cells]; done) | (intro v hv; simp only [List.mem_cons, List.not_mem_nil, or_false] at hv; (repeat (first | (subst hv; rfl) | (rcases hv with hv | hv; (subst hv; rfl)))))) (by decide)) (by (repeat' constructor)) rfl ?nx22
 rintro v L' ⟨bl, rfl, rfl⟩
 refine G.slMakeN 3 1 (b := bl) (xs := ([(3, (wA, 4))] : List Ev).flatMap evC) (by (repeat' constructor)) (by simp [evC, Value.cells]) rfl ?_
 refine G.op (OpSpec.call Tryz.func37 rfl rfl (vs := [_, _]) rfl (wfire_spec t aw4 _ [(3, (wA, 4))] (slR 75 3 (.slice (some ⟨bl, 0, none⟩) 1 1) 1 (([(3, (wA, 4))] : List Ev).flatMap evC)) (fun h hp => slR_rd hp) (by decide) (by decide))) (by (repeat' constructor)) rfl ?nx24
 rintro v L' ⟨al, cl, rfl, rfl⟩; rw [awake_5]; dsimp only
 refine G.q (Quiet.assign rfl) rfl (G.nil (G.then_n (G.seq (G.region (G.q (Quiet.move rfl) rfl ?_)))))
 refine G.op (OpSpec.call Tryz.func35 rfl rfl (vs := [_, _]) rfl (wcount_spec t aw5 1)) (by (repeat' constructor)) rfl ?nx26
 rintro v L' ⟨rfl, rfl⟩; rw [awake_6.1]
 refine G.q (Quiet.assign rfl) rfl (G.nil (G.then_n (G.seq (G.region (G.q (Quiet.move rfl) rfl ?_)))))
 refine G.q (Quiet.loadAs (vs := [vint 3, vstr wA, vint 4]) rfl ag_75 (by (repeat' constructor)) (by simp) rfl) rfl ?_
 refine G.q (Quiet.buildN (pl := [(0, 1), (1, 3)]) (us := [(0, vint 1), (1, .agg ([vint 3, vstr wA, vint 4] : List Value).toArray)]) (cells := [vint 1, vint 3, vstr wA, vint 4]) Tryz.underlying147 (by kernel_rfl) ze_147 rfl rfl) rfl ?_
 refine G.q (Quiet.loadAs (vs := [vint 3, vstr wA, vint 4]) rfl ag_75 (by (repeat' constructor)) (by simp) rfl) rfl ?_
 refine G.q (Quiet.buildN (pl := [(0, 1), (1, 3)]) (us := [(0, vint 2), (1, .agg ([vint 3, vstr wA, vint 4] : List Value).toArray)]) (cells := [vint 2, vint 3, vstr wA, vint 4]) Tryz.underlying147 (by kernel_rfl) ze_147 rfl rfl) rfl ?_
 refine G.op (OpSpec.buildSlice (vs := [_, _]) el_76 ze_147 rfl rfl rfl rfl (by first | (simp [Value.cells]; done) | (intro v hv; simp only [List.mem_cons, List.not_mem_nil, or_false] at hv; (repeat (first | (subst hv; rfl) | (rcases hv with hv | hv; (subst hv; rfl)))))) (by decide)) (by (repeat' constructor)) rfl ?nx32
 rintro v L' ⟨bt, rfl, rfl⟩
 refine G.slMakeN 4 2 (b := bt) (xs := ([(1, (3, (wA, 4))), (2, (3, (wA, 4)))] : List Tld).flatMap tldC) (by (repeat' constructor)) (by simp [tldC, Value.cells]) rfl ?_
 refine G.op (OpSpec.call Tryz.func78 rfl rfl (vs := [_, _]) rfl (told_spec ([(1, (3, (wA, 4))), (2, (3, (wA, 4)))] : List Tld) ([(1, (3, (wA, 4))), (2, (3, (wA, 4)))] : List Tld) _ _ (by decide))) (by (repeat' constructor)) rfl ?nx34
 rintro v L' ⟨rfl, rfl⟩; rw [decide_eq_true rfl]
 refine G.q (Quiet.assign rfl) rfl (G.nil (G.then_n (G.seq (G.region (G.q (Quiet.move rfl) rfl ?_)))))
 refine G.q (Quiet.as (v' := .bool true) (by rfl) (Quiet.int rfl rfl rfl)) rfl ?_
 refine G.q (Quiet.move rfl) rfl (G.grun (t := 37) rfl rfl rfl (G.q (Quiet.move rfl) rfl (G.grun (t := 37) rfl rfl rfl ?_)))
 refine G.q (Quiet.as (v' := .bool true) (by rfl) (Quiet.int rfl rfl rfl)) rfl ?_
 refine G.q (Quiet.pickT rfl rfl) rfl (G.q (Quiet.move rfl) rfl (G.grun (t := 41) rfl rfl rfl (G.q (Quiet.move rfl) rfl (G.grun (t := 41) rfl rfl rfl ?_))))
 refine G.q (Quiet.as (v' := .bool true) (by rfl) (Quiet.int rfl rfl rfl)) rfl ?_
 refine G.q (Quiet.pickT rfl rfl) rfl (G.q (Quiet.move rfl) rfl (G.grun (t := 45) rfl rfl rfl (G.q (Quiet.move rfl) rfl (G.grun (t := 45) rfl rfl rfl ?_))))
 refine G.q (Quiet.as (v' := .bool true) (by rfl) (Quiet.int rfl rfl rfl)) rfl ?_
 refine G.q (Quiet.pickT rfl rfl) rfl (G.q (Quiet.move rfl) rfl (G.grun (t := 49) rfl rfl rfl (G.q (Quiet.move rfl) rfl (G.q (Quiet.pickT rfl rfl) rfl (G.q (Quiet.move rfl) rfl (G.grun (t := 52) rfl rfl rfl (G.q (Quiet.move rfl) rfl (G.grun (t := 52) rfl rfl rfl ?_))))))))
 refine G.q (Quiet.as (v' := .bool true) (by rfl) (Quiet.int rfl rfl rfl)) rfl ?_
 refine G.q (Quiet.pickT rfl rfl) rfl (G.q (Quiet.move rfl) rfl (G.grun (t := 56) rfl rfl rfl (G.q (Quiet.move rfl) rfl (G.grun (t := 56) rfl rfl rfl ?_))))
 refine G.op (OpSpec.call Tryz.func35 rfl rfl (vs := [_, _]) rfl (wcount_spec t aw5 2)) (by (repeat' constructor)) rfl ?nx41
 rintro v L' ⟨rfl, rfl⟩; rw [awake_6.2]
 refine G.grun (t := 56) rfl rfl rfl ?_
 refine G.q (Quiet.as (v' := .bool true) (by rfl) (Quiet.int rfl rfl rfl)) rfl ?_
 refine G.q (Quiet.pickT rfl rfl) rfl (G.q (Quiet.assign rfl) rfl (G.nil (G.then_n (G.ret ?_))))
 exact G.done (l := [.tmp 0]) rfl rfl ⟨rfl, rfl⟩ (by (repeat' constructor)) (by (repeat' constructor))

end Go.Proofs.YtnnbelmpbmfdnaaGreatDoor

/- Own work, by program: law 07: pick, Events, awake, texts, numbers: walked. -/

namespace Go.Proofs.YtnnbelmpbmfdnaaGreatDoor
open Go
def nilA : HP := fun _ => True
end Go.Proofs.YtnnbelmpbmfdnaaGreatDoor

/- Own work, by program: the document's tree: soundness: walked. -/

namespace Go.Proofs.YtnnbelmpbmfdnaaGreatDoor
open Go
end Go.Proofs.YtnnbelmpbmfdnaaGreatDoor

/- Own work, by program: law 07: a part of a sound history: walked. -/

namespace Go.Proofs.YtnnbelmpbmfdnaaGreatDoor
open Go
def names6 : List Bs := [[97], [98], [99], [120], [121], [122]]
def nm6 (k : Int) : Bs := names6.getD k.toNat []
structure IntsOk (a : Ac0) : Prop where
  h1 : -9223372036854775808 ≤ a.1 ∧ a.1 ≤ 9223372036854775807
  h2 : -9223372036854775808 ≤ a.2.1 ∧ a.2.1 ≤ 9223372036854775807
  h3 : -9223372036854775808 ≤ a.2.2.1 ∧ a.2.2.1 ≤ 9223372036854775807
/-- What a part is, whether it may be or not. -/
structure PtB (y : Pt) : Prop where
  cell : isCell y.aclV = true
  subs : y.subsV = .slice none 0 0
  acl : y.acl.length ≤ 1
  path : y.path.length ≤ 62
end Go.Proofs.YtnnbelmpbmfdnaaGreatDoor

/- Own work, by program: law 07: acts made small: walked. -/

namespace Go.Proofs.YtnnbelmpbmfdnaaGreatDoor
open Go
def smA (s : Ac0) : Ac0 := (s.1, (s.2.1, (s.2.2.1, (s.2.2.2.1.take 100, .slice none 0 0))))
structure Smalls (ss : List Ac0) : Prop where
  few : ss.length ≤ 6
  ok : ∀ s ∈ ss, IntsOk s ∧ s.2.2.2.1.length ≤ 100
end Go.Proofs.YtnnbelmpbmfdnaaGreatDoor

/- Own work, by program: law 07: transactions of a sound history: walked. -/
namespace Go.Proofs.YtnnbelmpbmfdnaaGreatDoor
open Go
end Go.Proofs.YtnnbelmpbmfdnaaGreatDoor

/- Own work, by program: package tree: a tree and itself: walked. -/
namespace Go.Proofs.YtnnbelmpbmfdnaaGreatDoor
open Go
end Go.Proofs.YtnnbelmpbmfdnaaGreatDoor

/- Own work, by program: package watch: since, Arm: walked. -/
namespace Go.Proofs.YtnnbelmpbmfdnaaGreatDoor
open Go
set_option maxRecDepth 100000 in
theorem evidx_spec (xs : List Ev) (e : Ev) (v : Value) (h1 : xs.length ≤ 4611686018427387904) : Fn Tryz.prog 113 #[v, .agg (evC e).toArray] [slR 75 3 v xs.length (xs.flatMap evC)] fun r L => ∃ k : Int, r = vint k ∧ (0 ≤ k ↔ e ∈ xs) ∧ L = [slR 75 3 v xs.length (xs.flatMap evC)] := by
 refine Fn.intro (vs := [v, .agg (evC e).toArray]) Tryz.func113 rfl rfl ?_
 intro F W
 refine G.slAny (v := v) (by (repeat' constructor)) fun aa ca e0 _ => ?_
 subst e0
 refine G.seq (G.region ?_)
 refine G.op (OpSpec.box rfl) (by (repeat' constructor)) rfl ?nx1
 rintro v L' ⟨b3, rfl, rfl⟩
 refine G.q (Quiet.assign rfl) rfl (G.nil ?_)
 refine G.ptCast (b := b3) (l' := evC e) (by (repeat' constructor)) rfl ?_
 refine G.then_n (G.seq (G.seq (G.region (G.q (Quiet.move rfl) rfl (G.q (Quiet.slen rfl Tryz.underlying30 rfl) rfl (G.q (Quiet.move rfl) rfl (G.nil (G.then_n (G.block ?_)))))))))
 refine G.loopK (ι := Nat) (fun q E => (8, vint q) :: E) (fun q => []) (fun q => q ≤ xs.length ∧ e ∉ xs.take q) (fun q => xs.length - q) (0) (ts := [0, 3, 7]) (.cons rfl (.cons rfl (.cons rfl (.nil)))) (⟨Nat.zero_le _, by simp⟩) ⟨rfl, rfl, rfl, rfl, trivial⟩ (by (repeat' constructor)) ?_
 rintro i ⟨hi, hno⟩
 refine G.seq (G.region (G.q (Quiet.int rfl rfl rfl) rfl (G.nil (G.then_n (G.seq ?_)))))
 refine G.condD rfl (fun h9 => ?_) (fun h9 => ?_)
 ·have hi2 : i < xs.length := by omega
  refine G.slShape (v := .slice aa _ ca) (by (repeat' constructor)) (by omega) fun ba ba' e0 mba _ => ?_
  simp only [Value.slice.injEq, true_and] at e0
  obtain ⟨rfl, rfl⟩ := e0
  refine G.skip (G.then_n (G.seq (G.block (G.seq (G.region (G.q (Quiet.move rfl) rfl (G.q (Quiet.assign rfl) rfl (G.nil (G.then_n (G.seq ?_))))))))))
  refine G.draw [] [[0, 1, 2, 3, 4, 5]] mixed (by kernel_rfl) ?_
  refine Phases.go [] (by (repeat' constructor)) ?_
  refine D.qw [5] rfl (by kernel_rfl) (Quiet.loadAs (vs := evC e) rfl ag_75 (by (repeat' constructor)) (by simp [evC]) rfl) ?_
  refine D.qw [3, 4, 5] rfl (by kernel_rfl) (Quiet.move rfl) ?_
  refine D.qw [3, 4, 5] rfl (by kernel_rfl) (Quiet.move rfl) ?_
  refine D.qw [4, 5] rfl (by kernel_rfl) (Quiet.indexAddr rfl rfl el_30 (by omega)) ?_
  refine D.qw [5] rfl (by kernel_rfl) (Quiet.loadRdA (sz := 3) (j := i * 3) (k := 3) (p := slR 75 3 _ xs.length (xs.flatMap evC)) (vs := evC xs[i]) rfl ag_75 (by (repeat' constructor)) (fun h hp => slR_rd hp) (by simp) (by omega) (by omega) (flatMap_at (f := evC) (sz := 3) (fun _ _ => rfl) (by omega))) ?_
  refine D.qw [] rfl (by kernel_rfl) (Quiet.structEq (r := decide (e = xs[i])) rfl rfl (by kernel_rfl) (ev_eq 9998 _ _)) ?_
  refine D.ph (Phases.fin (G.then_n ?_))
  refine G.condD rfl (fun h16 => ?_) (fun h16 => ?_)
  ·refine G.seq (G.region (G.q (Quiet.move rfl) rfl (G.q (Quiet.assign rfl) rfl (G.nil (G.then_n (G.ret (G.blk_r (G.then_r (G.then_r (G.blk_r (G.then_r ?_)))))))))))
   exact G.done (l := [.tmp 4]) rfl rfl ⟨i, rfl, ⟨fun _ => by rw [h16]; exact List.getElem_mem hi2, fun _ => by omega⟩, rfl⟩ (by (repeat' constructor)) (by (repeat' constructor))
  ·refine G.skip (G.blk_n (G.then_n (G.region ?_)))
   refine G.q (Quiet.add rfl rfl (by omega)) rfl ?_
   refine G.q (Quiet.move rfl) rfl (G.nil (G.then_n ?_))
   exact G.roundK (i + 1) (⟨by omega, by rw [List.take_succ_eq_append_getElem hi2, List.mem_append, List.mem_singleton]; rintro (g | g); exact hno g; exact h16 g⟩) (by omega) ⟨rfl, rfl, rfl, rfl, trivial⟩ (by (repeat' constructor)) (by ((repeat (apply Have.cons; (repeat (first | exact Pick.here | apply Pick.there)))); apply Have.base; repeat' constructor))
 ·refine G.exit (G.then_e (G.then_e (G.blk_e (G.then_n (G.seq (G.region (G.q (Quiet.assign rfl) rfl (G.nil (G.then_n (G.ret ?_))))))))))
  exact G.done (l := [.tmp 4]) rfl rfl ⟨-1, rfl, ⟨fun g => absurd g (by decide), fun g => absurd g (by have hii : i = xs.length := (by omega); rw [hii, List.take_length] at hno; exact hno)⟩, rfl⟩ (by (repeat' constructor)) (by (repeat' constructor))

set_option maxRecDepth 100000 in
theorem evhas_spec (xs : List Ev) (e : Ev) (v : Value) (h1 : xs.length ≤ 4611686018427387904) : Fn Tryz.prog 81 #[v, .agg (evC e).toArray] [slR 75 3 v xs.length (xs.flatMap evC)] fun r L => r = .bool (decide (e ∈ xs)) ∧ L = [slR 75 3 v xs.length (xs.flatMap evC)] := by
 refine Fn.intro (vs := [v, .agg (evC e).toArray]) Tryz.func81 rfl rfl ?_
 intro F W
 refine G.seq (G.region ?_)
 refine G.op (OpSpec.box rfl) (by (repeat' constructor)) rfl ?nx1
 rintro v L' ⟨b3, rfl, rfl⟩
 refine G.q (Quiet.assign rfl) rfl (G.nil ?_)
 refine G.ptCast (b := b3) (l' := evC e) (by (repeat' constructor)) rfl ?_
 refine G.then_n (G.seq (G.region (G.q (Quiet.move rfl) rfl ?_)))
 refine G.q (Quiet.loadAs (vs := evC e) rfl ag_75 (by (repeat' constructor)) (by simp [evC]) rfl) rfl ?_
 refine G.op (OpSpec.call Tryz.func113 rfl rfl (vs := [_, _]) rfl (evidx_spec xs e v h1)) (by (repeat' constructor)) rfl ?nx6
 rintro r L' ⟨k, rfl, hk, rfl⟩
 refine G.q (Quiet.int rfl rfl rfl) rfl (G.q (Quiet.assign rfl) rfl (G.nil (G.then_n (G.ret ?_))))
 exact G.done (l := [.tmp 4]) rfl rfl ⟨congrArg Value.bool (decide_eq_decide.2 hk), rfl⟩ (by (repeat' constructor)) (by (repeat' constructor))

set_option maxRecDepth 100000 in
theorem wsince_spec (t : Nat) (τ : Tr) (a : Arm) (N : Nat) (ho : τ.Ok N) (hN : N ≤ 1099511627776) : Fn Tryz.prog 80 #[vptr t, .agg (armC a).toArray] [treeR t τ] fun v L => v = .tuple #[.agg (evC (sinceZ τ a).1).toArray, .bool (sinceZ τ a).2] ∧ L = [treeR t τ] := by
 refine Fn.intro (vs := [vptr t, .agg (armC a).toArray]) Tryz.func80 rfl rfl ?_
 intro F W
 refine G.seq (G.region ?_)
 refine G.op (OpSpec.box rfl) (by (repeat' constructor)) rfl ?nx1
 rintro v L' ⟨b3, rfl, rfl⟩
 refine G.op (OpSpec.allocA ze_75) (by (repeat' constructor)) rfl ?nx3
 rintro v L' ⟨b4, rfl, rfl⟩
 refine G.q (Quiet.assign rfl) rfl (G.nil ?_)
 refine G.ptCast (b := b3) (l' := armC a) (by (repeat' constructor)) rfl ?_
 refine G.then_n (G.seq (G.region ?_))
 rcases Decidable.em (thereT τ a.2.1) with hth | hth
 ·refine G.q (Quiet.move rfl) rfl (G.q (Quiet.fieldAddr rfl fo_70_1) rfl ?_)
  refine G.q (Quiet.load rfl ag_9 (by (repeat' constructor)) (rfl)) rfl ?_
  refine G.op (OpSpec.call Tryz.func16 rfl rfl (vs := [_, _]) rfl (trstat_spec t τ a.2.1 N ho (by omega))) (by (repeat' constructor)) rfl ?nx9
  rintro v L' ⟨rfl, rfl⟩; rw [decide_eq_true hth]
  refine G.q (Quiet.move rfl) rfl (G.q (Quiet.extract rfl rfl) rfl (G.q (Quiet.extract rfl rfl) rfl ?_))
  refine G.op (OpSpec.allocA ze_43) (by (repeat' constructor)) rfl ?nx13
  rintro v L' ⟨b6, rfl, rfl⟩
  refine G.op (OpSpec.storeA rfl rfl ?c15 sz_43 ?c18 ?c16 ?c17) (by (repeat' constructor)) rfl ?nx19
  case c15 => simp [stC, isCell]
  case c18 => rfl
  case c16 => simp [stC]
  case c17 => exact nfz0 _ _
  rintro v L' rfl
  refine G.q (Quiet.assign rfl) rfl (G.nil ?_)
  refine G.ptCast (b := b6) (l' := stC (statD τ a.2.1)) (by (repeat' constructor)) rfl ?_
  refine G.then_n (G.seq (G.region (G.q (Quiet.fieldAddr rfl fo_70_1) rfl ?_)))
  refine G.q (Quiet.load rfl ag_9 (by (repeat' constructor)) (rfl)) rfl ?_
  refine G.q (Quiet.to (v' := .agg (evC ((0, (a.2.1, 0)) : Ev)).toArray) (Quiet.build (us := [(1, _)]) fl_75 ze_75 rfl rfl (by simp [isCell])) rfl) rfl ?_
  refine G.op (OpSpec.allocA ze_75) (by (repeat' constructor)) rfl ?nx23
  rintro v L' ⟨b8, rfl, rfl⟩
  refine G.op (OpSpec.storeA rfl rfl ?c25 sz_75 ?c28 ?c26 ?c27) (by (repeat' constructor)) rfl ?nx29
  case c25 => simp [evC, isCell]
  case c28 => rfl
  case c26 => simp [evC]
  case c27 => exact nfz0 _ _
  rintro v L' rfl
  refine G.nil ?_
  refine G.ptCast (b := b8) (l' := [vint 0, vstr a.2.1, vint 0]) (by (repeat' constructor)) rfl ?_
  refine G.then_n (G.seq (G.region (G.q (Quiet.assign rfl) rfl (G.nil (G.then_n (G.seq (G.block (G.seq (G.region (G.q (Quiet.fieldAddr rfl fo_70_0) rfl ?_))))))))))
  refine G.q (Quiet.load rfl ag_3 (by (repeat' constructor)) (rfl)) rfl ?_
  refine G.q (Quiet.int rfl rfl rfl) rfl (G.q (Quiet.assign rfl) rfl (G.nil (G.then_n ?_)))
  refine G.condD rfl (fun h29 => ?_) (fun h29 => ?_)
  ·refine G.draw [4, 6] [[0, 1, 2, 3, 4, 5, 6], [7]] mixed (by kernel_rfl) ?_
   refine Phases.go [ptc b6 _ _] (by (repeat' constructor)) ?_
   refine D.q rfl (by kernel_rfl) (Quiet.fieldAddr rfl fo_43_0) ?_
   refine D.q rfl (by kernel_rfl) (Quiet.load rfl ag_3 (by (repeat' constructor)) (rfl)) ?_
   refine D.q rfl (by kernel_rfl) (Quiet.move rfl) ?_
   refine D.qw [4, 5, 6] rfl (by kernel_rfl) (Quiet.fieldAddr rfl fo_75_0) ?_
   refine D.h rfl (by kernel_rfl) (OpSpec.store rfl rfl rfl sz_3 ?c37 ?c38) (by (repeat' constructor)) ?nx39
   case c37 => first | decide | (simp; omega) | simp
   case c38 => exact nfz0 _ _
   rintro v L' rfl
   refine D.qw [6] rfl (by kernel_rfl) (Quiet.fieldAddr rfl fo_75_2) ?_
   refine D.h rfl (by kernel_rfl) (OpSpec.store rfl rfl rfl sz_3 ?c41 ?c42) (by (repeat' constructor)) ?nx43
   case c41 => first | decide | (simp; omega) | simp
   case c42 => exact nfz0 _ _
   rintro v L' rfl
   refine D.ph ?_
   refine Phases.go [] (by (repeat' constructor)) ?_
   refine D.qw [] rfl (by kernel_rfl) (Quiet.assign rfl) ?_
   refine D.ph (Phases.fin (G.blk_n (G.then_n (G.seq (G.region ?_)))))
   refine G.q (Quiet.loadA rfl ag_75 (by (repeat' constructor)) (by simp)) rfl ?_
   refine G.q (Quiet.move rfl) rfl ?_
   refine G.op (OpSpec.storeA rfl rfl ?c45 sz_75 ?c48 ?c46 ?c47) (by (repeat' constructor)) rfl ?nx49
   case c45 => simp [evC, isCell]
   case c48 => rfl
   case c46 => simp [evC]
   case c47 => exact nfz0 _ _
   rintro v L' rfl
   refine G.q (Quiet.assign rfl) rfl (G.nil (G.then_n (G.ret ?_)))
   have hz : sinceZ τ a = ((1, (a.2.1, (statD τ a.2.1).cz)), true) := by unfold sinceZ; rw [if_pos h29, decide_eq_true hth]
   rw [hz]
   refine G.ptCast (b := b4) (l' := evC ((1, (a.2.1, (statD τ a.2.1).cz)), true).1) (by (repeat' constructor)) (by exact rfl) ?_
   exact G.done2 rfl (.cellA rfl ag_75 (by (repeat' constructor)) (by simp [evC]) rfl) (.tmp rfl) ⟨rfl, rfl⟩ (by (repeat' constructor)) (by (repeat' constructor))
  ·refine G.seq (G.region (G.q (Quiet.move rfl) rfl (G.q (Quiet.not rfl) rfl (G.q (Quiet.move rfl) rfl (G.grun (t := 41) rfl rfl rfl (G.q (Quiet.fieldAddr rfl fo_43_0) rfl (G.grun (t := 41) rfl rfl rfl ?_)))))))
   refine G.q (Quiet.load rfl ag_3 (by (repeat' constructor)) (rfl)) rfl ?_
   refine G.grun (t := 41) rfl rfl rfl (G.q (Quiet.fieldAddr rfl fo_70_2) rfl (G.grun (t := 41) rfl rfl rfl ?_))
   refine G.q (Quiet.load rfl ag_3 (by (repeat' constructor)) (rfl)) rfl ?_
   refine G.grun (t := 41) rfl rfl rfl (G.q (Quiet.int rfl rfl rfl) rfl (G.q (Quiet.pickF rfl rfl) rfl (G.q (Quiet.assign rfl) rfl (G.nil (G.then_n ?_)))))
   refine G.condN rfl (fun h38 => ?_) (fun h38 => ?_)
   ·refine G.region (G.q (Quiet.move rfl) rfl ?_)
    refine G.op (OpSpec.call Tryz.func22 rfl rfl (vs := [_]) rfl (trzxid_spec t τ)) (by (repeat' constructor)) rfl ?nx57
    rintro v L' ⟨rfl, rfl⟩
    refine G.q (Quiet.fieldAddr rfl fo_75_0) rfl ?_
    refine G.op (OpSpec.store rfl rfl rfl sz_3 ?c60 ?c61) (by (repeat' constructor)) rfl ?nx62
    case c60 => first | decide | (simp; omega) | simp
    case c61 => exact nfz0 _ _
    rintro v L' rfl
    refine G.q (Quiet.fieldAddr rfl fo_75_2) rfl ?_
    refine G.op (OpSpec.store rfl rfl rfl sz_3 ?c64 ?c65) (by (repeat' constructor)) rfl ?nx66
    case c64 => first | decide | (simp; omega) | simp
    case c65 => exact nfz0 _ _
    rintro v L' rfl
    refine G.q (Quiet.assign rfl) rfl (G.nil (G.blk_n (G.then_n (G.seq (G.region ?_)))))
    refine G.q (Quiet.loadA rfl ag_75 (by (repeat' constructor)) (by simp)) rfl ?_
    refine G.q (Quiet.move rfl) rfl ?_
    refine G.op (OpSpec.storeA rfl rfl ?c69 sz_75 ?c72 ?c70 ?c71) (by (repeat' constructor)) rfl ?nx73
    case c69 => simp [evC, isCell]
    case c72 => rfl
    case c70 => simp [evC]
    case c71 => exact nfz0 _ _
    rintro v L' rfl
    refine G.q (Quiet.assign rfl) rfl (G.nil (G.then_n (G.ret ?_)))
    have hz : sinceZ τ a = ((2, (a.2.1, τ.zx)), true) := by unfold sinceZ; rw [if_neg h29, if_pos (by first | exact .inl hth | exact .inr h38 | exact .inr (by simpa using h38))]
    rw [hz]
    refine G.ptCast (b := b4) (l' := evC ((2, (a.2.1, τ.zx)), true).1) (by (repeat' constructor)) (by exact rfl) ?_
    exact G.done2 rfl (.cellA rfl ag_75 (by (repeat' constructor)) (by simp [evC]) rfl) (.tmp rfl) ⟨rfl, rfl⟩ (by (repeat' constructor)) (by (repeat' constructor))
   ·refine G.seq (G.region (G.q (Quiet.fieldAddr rfl fo_70_0) rfl ?_))
    refine G.q (Quiet.load rfl ag_3 (by (repeat' constructor)) (rfl)) rfl ?_
    refine G.q (Quiet.int rfl rfl rfl) rfl (G.q (Quiet.assign rfl) rfl (G.nil (G.then_n ?_)))
    refine G.condD rfl (fun h52 => ?_) (fun h52 => ?_)
    ·refine G.draw [8, 10] [[0, 1, 2, 3, 4, 5, 6, 7, 8, 9, 10], [11]] mixed (by kernel_rfl) ?_
     refine Phases.go [ptc b6 _ _, ptc b3 _ _] (by (repeat' constructor)) ?_
     refine D.q rfl (by kernel_rfl) (Quiet.fieldAddr rfl fo_43_2) ?_
     refine D.q rfl (by kernel_rfl) (Quiet.load rfl ag_3 (by (repeat' constructor)) (rfl)) ?_
     refine D.q rfl (by kernel_rfl) (Quiet.fieldAddr rfl fo_43_2) ?_
     refine D.q rfl (by kernel_rfl) (Quiet.load rfl ag_3 (by (repeat' constructor)) (rfl)) ?_
     refine D.q rfl (by kernel_rfl) (Quiet.fieldAddr rfl fo_70_4) ?_
     refine D.q rfl (by kernel_rfl) (Quiet.load rfl ag_3 (by (repeat' constructor)) (rfl)) ?_
     refine D.q rfl (by kernel_rfl) (Quiet.int rfl rfl rfl) ?_
     refine D.qw [8, 9, 10] rfl (by kernel_rfl) (Quiet.fieldAddr rfl fo_75_0) ?_
     refine D.h rfl (by kernel_rfl) (OpSpec.store rfl rfl rfl sz_3 ?c85 ?c86) (by (repeat' constructor)) ?nx87
     case c85 => first | decide | (simp; omega) | simp
     case c86 => exact nfz0 _ _
     rintro v L' rfl
     refine D.qw [10] rfl (by kernel_rfl) (Quiet.fieldAddr rfl fo_75_2) ?_
     refine D.h rfl (by kernel_rfl) (OpSpec.store rfl rfl rfl sz_3 ?c89 ?c90) (by (repeat' constructor)) ?nx91
     case c89 => first | decide | (simp; omega) | simp
     case c90 => exact nfz0 _ _
     rintro v L' rfl
     refine D.ph ?_
     refine Phases.go [] (by (repeat' constructor)) ?_
     refine D.qw [] rfl (by kernel_rfl) (Quiet.assign rfl) ?_
     refine D.ph (Phases.fin (G.blk_n (G.then_n (G.seq (G.region ?_)))))
     refine G.q (Quiet.loadA rfl ag_75 (by (repeat' constructor)) (by simp)) rfl ?_
     refine G.q (Quiet.move rfl) rfl ?_
     refine G.op (OpSpec.storeA rfl rfl ?c93 sz_75 ?c96 ?c94 ?c95) (by (repeat' constructor)) rfl ?nx97
     case c93 => simp [evC, isCell]
     case c96 => rfl
     case c94 => simp [evC]
     case c95 => exact nfz0 _ _
     rintro v L' rfl
     refine G.q (Quiet.assign rfl) rfl (G.nil (G.then_n (G.ret ?_)))
     have hz : sinceZ τ a = ((4, (a.2.1, (statD τ a.2.1).pz)), !decide ((statD τ a.2.1).pz = a.2.2.2.2)) := by unfold sinceZ; rw [if_neg h29, if_neg (by rintro (g | g); exact g hth; exact g h38), if_pos h52, decide_not]
     rw [hz]
     refine G.ptCast (b := b4) (l' := evC ((4, (a.2.1, (statD τ a.2.1).pz)), !decide ((statD τ a.2.1).pz = a.2.2.2.2)).1) (by (repeat' constructor)) (by exact rfl) ?_
     exact G.done2 rfl (.cellA rfl ag_75 (by (repeat' constructor)) (by simp [evC]) rfl) (.tmp rfl) ⟨rfl, rfl⟩ (by (repeat' constructor)) (by (repeat' constructor))
    ·refine G.draw [8, 10] [[0, 1, 2, 3, 4, 5, 6, 7, 8, 9, 10], [11]] mixed (by kernel_rfl) ?_
     refine Phases.go [ptc b6 _ _, ptc b3 _ _] (by (repeat' constructor)) ?_
     refine D.q rfl (by kernel_rfl) (Quiet.fieldAddr rfl fo_43_1) ?_
     refine D.q rfl (by kernel_rfl) (Quiet.load rfl ag_3 (by (repeat' constructor)) (rfl)) ?_
     refine D.q rfl (by kernel_rfl) (Quiet.fieldAddr rfl fo_43_1) ?_
     refine D.q rfl (by kernel_rfl) (Quiet.load rfl ag_3 (by (repeat' constructor)) (rfl)) ?_
     refine D.q rfl (by kernel_rfl) (Quiet.fieldAddr rfl fo_70_3) ?_
     refine D.q rfl (by kernel_rfl) (Quiet.load rfl ag_3 (by (repeat' constructor)) (rfl)) ?_
     refine D.q rfl (by kernel_rfl) (Quiet.int rfl rfl rfl) ?_
     refine D.qw [8, 9, 10] rfl (by kernel_rfl) (Quiet.fieldAddr rfl fo_75_0) ?_
     refine D.h rfl (by kernel_rfl) (OpSpec.store rfl rfl rfl sz_3 ?c106 ?c107) (by (repeat' constructor)) ?nx108
     case c106 => first | decide | (simp; omega) | simp
     case c107 => exact nfz0 _ _
     rintro v L' rfl
     refine D.qw [10] rfl (by kernel_rfl) (Quiet.fieldAddr rfl fo_75_2) ?_
     refine D.h rfl (by kernel_rfl) (OpSpec.store rfl rfl rfl sz_3 ?c110 ?c111) (by (repeat' constructor)) ?nx112
     case c110 => first | decide | (simp; omega) | simp
     case c111 => exact nfz0 _ _
     rintro v L' rfl
     refine D.ph ?_
     refine Phases.go [] (by (repeat' constructor)) ?_
     refine D.qw [] rfl (by kernel_rfl) (Quiet.assign rfl) ?_
     refine D.ph (Phases.fin (G.blk_n (G.then_n (G.seq (G.region ?_)))))
     refine G.q (Quiet.loadA rfl ag_75 (by (repeat' constructor)) (by simp)) rfl ?_
     refine G.q (Quiet.move rfl) rfl ?_
     refine G.op (OpSpec.storeA rfl rfl ?c114 sz_75 ?c117 ?c115 ?c116) (by (repeat' constructor)) rfl ?nx118
     case c114 => simp [evC, isCell]
     case c117 => rfl
     case c115 => simp [evC]
     case c116 => exact nfz0 _ _
     rintro v L' rfl
     refine G.q (Quiet.assign rfl) rfl (G.nil (G.then_n (G.ret ?_)))
     have hz : sinceZ τ a = ((3, (a.2.1, (statD τ a.2.1).mz)), !decide ((statD τ a.2.1).mz = a.2.2.2.1)) := by unfold sinceZ; rw [if_neg h29, if_neg (by rintro (g | g); exact g hth; exact g h38), if_neg h52, decide_not]
     rw [hz]
     refine G.ptCast (b := b4) (l' := evC ((3, (a.2.1, (statD τ a.2.1).mz)), !decide ((statD τ a.2.1).mz = a.2.2.2.1)).1) (by (repeat' constructor)) (by exact rfl) ?_
     exact G.done2 rfl (.cellA rfl ag_75 (by (repeat' constructor)) (by simp [evC]) rfl) (.tmp rfl) ⟨rfl, rfl⟩ (by (repeat' constructor)) (by (repeat' constructor))
 ·refine G.q (Quiet.move rfl) rfl (G.q (Quiet.fieldAddr rfl fo_70_1) rfl ?_)
  refine G.q (Quiet.load rfl ag_9 (by (repeat' constructor)) (rfl)) rfl ?_
  refine G.op (OpSpec.call Tryz.func16 rfl rfl (vs := [_, _]) rfl (trstat_spec t τ a.2.1 N ho (by omega))) (by (repeat' constructor)) rfl ?nx122
  rintro v L' ⟨rfl, rfl⟩; rw [decide_eq_false hth]
  refine G.q (Quiet.move rfl) rfl (G.q (Quiet.extract rfl rfl) rfl (G.q (Quiet.extract rfl rfl) rfl ?_))
  refine G.op (OpSpec.allocA ze_43) (by (repeat' constructor)) rfl ?nx126
  rintro v L' ⟨b6, rfl, rfl⟩
  refine G.op (OpSpec.storeA rfl rfl ?c128 sz_43 ?c131 ?c129 ?c130) (by (repeat' constructor)) rfl ?nx132
  case c128 => simp [stC, isCell]
  case c131 => rfl
  case c129 => simp [stC]
  case c130 => exact nfz0 _ _
  rintro v L' rfl
  refine G.q (Quiet.assign rfl) rfl (G.nil ?_)
  refine G.ptCast (b := b6) (l' := stC (statD τ a.2.1)) (by (repeat' constructor)) rfl ?_
  refine G.then_n (G.seq (G.region (G.q (Quiet.fieldAddr rfl fo_70_1) rfl ?_)))
  refine G.q (Quiet.load rfl ag_9 (by (repeat' constructor)) (rfl)) rfl ?_
  refine G.q (Quiet.to (v' := .agg (evC ((0, (a.2.1, 0)) : Ev)).toArray) (Quiet.build (us := [(1, _)]) fl_75 ze_75 rfl rfl (by simp [isCell])) rfl) rfl ?_
  refine G.op (OpSpec.allocA ze_75) (by (repeat' constructor)) rfl ?nx136
  rintro v L' ⟨b8, rfl, rfl⟩
  refine G.op (OpSpec.storeA rfl rfl ?c138 sz_75 ?c141 ?c139 ?c140) (by (repeat' constructor)) rfl ?nx142
  case c138 => simp [evC, isCell]
  case c141 => rfl
  case c139 => simp [evC]
  case c140 => exact nfz0 _ _
  rintro v L' rfl
  refine G.nil ?_
  refine G.ptCast (b := b8) (l' := [vint 0, vstr a.2.1, vint 0]) (by (repeat' constructor)) rfl ?_
  refine G.then_n (G.seq (G.region (G.q (Quiet.assign rfl) rfl (G.nil (G.then_n (G.seq (G.block (G.seq (G.region (G.q (Quiet.fieldAddr rfl fo_70_0) rfl ?_))))))))))
  refine G.q (Quiet.load rfl ag_3 (by (repeat' constructor)) (rfl)) rfl ?_
  refine G.q (Quiet.int rfl rfl rfl) rfl (G.q (Quiet.assign rfl) rfl (G.nil (G.then_n ?_)))
  refine G.condD rfl (fun h29 => ?_) (fun h29 => ?_)
  ·refine G.draw [4, 6] [[0, 1, 2, 3, 4, 5, 6], [7]] mixed (by kernel_rfl) ?_
   refine Phases.go [ptc b6 _ _] (by (repeat' constructor)) ?_
   refine D.q rfl (by kernel_rfl) (Quiet.fieldAddr rfl fo_43_0) ?_
   refine D.q rfl (by kernel_rfl) (Quiet.load rfl ag_3 (by (repeat' constructor)) (rfl)) ?_
   refine D.q rfl (by kernel_rfl) (Quiet.move rfl) ?_
   refine D.qw [4, 5, 6] rfl (by kernel_rfl) (Quiet.fieldAddr rfl fo_75_0) ?_
   refine D.h rfl (by kernel_rfl) (OpSpec.store rfl rfl rfl sz_3 ?c150 ?c151) (by (repeat' constructor)) ?nx152
   case c150 => first | decide | (simp; omega) | simp
   case c151 => exact nfz0 _ _
   rintro v L' rfl
   refine D.qw [6] rfl (by kernel_rfl) (Quiet.fieldAddr rfl fo_75_2) ?_
   refine D.h rfl (by kernel_rfl) (OpSpec.store rfl rfl rfl sz_3 ?c154 ?c155) (by (repeat' constructor)) ?nx156
   case c154 => first | decide | (simp; omega) | simp
   case c155 => exact nfz0 _ _
   rintro v L' rfl
   refine D.ph ?_
   refine Phases.go [] (by (repeat' constructor)) ?_
   refine D.qw [] rfl (by kernel_rfl) (Quiet.assign rfl) ?_
   refine D.ph (Phases.fin (G.blk_n (G.then_n (G.seq (G.region ?_)))))
   refine G.q (Quiet.loadA rfl ag_75 (by (repeat' constructor)) (by simp)) rfl ?_
   refine G.q (Quiet.move rfl) rfl ?_
   refine G.op (OpSpec.storeA rfl rfl ?c158 sz_75 ?c161 ?c159 ?c160) (by (repeat' constructor)) rfl ?nx162
   case c158 => simp [evC, isCell]
   case c161 => rfl
   case c159 => simp [evC]
   case c160 => exact nfz0 _ _
   rintro v L' rfl
   refine G.q (Quiet.assign rfl) rfl (G.nil (G.then_n (G.ret ?_)))
   have hz : sinceZ τ a = ((1, (a.2.1, (statD τ a.2.1).cz)), false) := by unfold sinceZ; rw [if_pos h29, decide_eq_false hth]
   rw [hz]
   refine G.ptCast (b := b4) (l' := evC ((1, (a.2.1, (statD τ a.2.1).cz)), false).1) (by (repeat' constructor)) (by exact rfl) ?_
   exact G.done2 rfl (.cellA rfl ag_75 (by (repeat' constructor)) (by simp [evC]) rfl) (.tmp rfl) ⟨rfl, rfl⟩ (by (repeat' constructor)) (by (repeat' constructor))
  ·refine G.seq (G.region (G.q (Quiet.move rfl) rfl (G.q (Quiet.not rfl) rfl (G.q (Quiet.move rfl) rfl (G.gskip (t := 41) rfl rfl rfl rfl (G.gskip (t := 41) rfl rfl rfl rfl (G.gskip (t := 41) rfl rfl rfl rfl (G.gskip (t := 41) rfl rfl rfl rfl (G.gskip (t := 41) rfl rfl rfl rfl (G.q (Quiet.pickT rfl rfl) rfl (G.q (Quiet.assign rfl) rfl (G.nil (G.then_n (G.condT rfl (G.region (G.q (Quiet.move rfl) rfl ?_))))))))))))))))
   refine G.op (OpSpec.call Tryz.func22 rfl rfl (vs := [_]) rfl (trzxid_spec t τ)) (by (repeat' constructor)) rfl ?nx166
   rintro v L' ⟨rfl, rfl⟩
   refine G.q (Quiet.fieldAddr rfl fo_75_0) rfl ?_
   refine G.op (OpSpec.store rfl rfl rfl sz_3 ?c169 ?c170) (by (repeat' constructor)) rfl ?nx171
   case c169 => first | decide | (simp; omega) | simp
   case c170 => exact nfz0 _ _
   rintro v L' rfl
   refine G.q (Quiet.fieldAddr rfl fo_75_2) rfl ?_
   refine G.op (OpSpec.store rfl rfl rfl sz_3 ?c173 ?c174) (by (repeat' constructor)) rfl ?nx175
   case c173 => first | decide | (simp; omega) | simp
   case c174 => exact nfz0 _ _
   rintro v L' rfl
   refine G.q (Quiet.assign rfl) rfl (G.nil (G.blk_n (G.then_n (G.seq (G.region ?_)))))
   refine G.q (Quiet.loadA rfl ag_75 (by (repeat' constructor)) (by simp)) rfl ?_
   refine G.q (Quiet.move rfl) rfl ?_
   refine G.op (OpSpec.storeA rfl rfl ?c178 sz_75 ?c181 ?c179 ?c180) (by (repeat' constructor)) rfl ?nx182
   case c178 => simp [evC, isCell]
   case c181 => rfl
   case c179 => simp [evC]
   case c180 => exact nfz0 _ _
   rintro v L' rfl
   refine G.q (Quiet.assign rfl) rfl (G.nil (G.then_n (G.ret ?_)))
   have hz : sinceZ τ a = ((2, (a.2.1, τ.zx)), true) := by unfold sinceZ; rw [if_neg h29, if_pos (by first | exact .inl hth | exact .inr h38 | exact .inr (by simpa using h38))]
   rw [hz]
   refine G.ptCast (b := b4) (l' := evC ((2, (a.2.1, τ.zx)), true).1) (by (repeat' constructor)) (by exact rfl) ?_
   exact G.done2 rfl (.cellA rfl ag_75 (by (repeat' constructor)) (by simp [evC]) rfl) (.tmp rfl) ⟨rfl, rfl⟩ (by (repeat' constructor)) (by (repeat' constructor))

set_option maxRecDepth 100000 in
theorem warm_spec (t u : Nat) (ω : List Wt) (τ : Tr) (s : Int) (va : Value) (l : List Arm) (p : HP) (hl : ArmsA p va l) (N : Nat) (ho : τ.Ok N) (hN : N ≤ 1099511627776) (h1 : 1 ≤ s) (hs : s ≤ 9223372036854775807) : Fn Tryz.prog 36 #[vptr t, vint s, vptr u, va] [tbR t ω, treeR u τ, p] fun v L => ∃ a c, v = .slice a (armL τ s ω l).2.length c ∧ L = [tbR t (armL τ s ω l).1, treeR u τ, p, slR 75 3 v (armL τ s ω l).2.length ((armL τ s ω l).2.flatMap evC)] := by
 refine Fn.intro (vs := [vptr t, vint s, vptr u, va]) Tryz.func36 rfl rfl ?_
 intro F W
 refine G.rdAny (p := p) hl.cells (by (repeat' constructor)) fun aa ca e0 _ => ?_
 subst e0
 have hll := hl.len
 refine G.seq (G.region (G.q (Quiet.assign rfl) rfl (G.nil (G.then_n (G.seq (G.seq (G.region (G.q (Quiet.move rfl) rfl ?_))))))))
 refine G.q (Quiet.as (v' := .bool false) (by simp; omega) (Quiet.int rfl rfl rfl)) rfl ?_
 refine G.q (Quiet.move rfl) rfl (G.grun (t := 16) rfl rfl rfl (G.q (Quiet.move rfl) rfl (G.grun (t := 16) rfl rfl rfl ?_)))
 refine G.q (Quiet.as (v' := .bool false) (by rfl) (Quiet.ptreq rfl rfl Tryz.underlying28)) rfl ?_
 refine G.q (Quiet.pickF rfl rfl) rfl (G.nil (G.then_n (G.condF rfl (G.skip (G.then_n (G.seq (G.add (slR_nil 75 3) (G.region (G.q (Quiet.assign rfl) rfl (G.nil (G.then_n (G.seq (G.seq (G.region (G.q (Quiet.move rfl) rfl (G.q (Quiet.slen rfl Tryz.underlying82 rfl) rfl (G.q (Quiet.move rfl) rfl (G.nil (G.then_n (G.block ?_))))))))))))))))))))
 refine G.tbCast (t := t) (ω' := (armL τ s ω (l.take 0)).1) (by (repeat' constructor)) (by rw [List.take_zero]; rfl) ?_
 refine G.loopK (ι := Nat × Value) (fun q E => (22, vint q.1) :: (9, q.2) :: E) (fun q => [tbR t (armL τ s ω (l.take q.1)).1, slR 75 3 q.2 (armL τ s ω (l.take q.1)).2.length ((armL τ s ω (l.take q.1)).2.flatMap evC)]) (fun q => q.1 ≤ l.length ∧ ∃ a c, q.2 = .slice a (armL τ s ω (l.take q.1)).2.length c) (fun q => l.length - q.1) (0, .slice none 0 0) (ts := [0, 1, 2, 8, 20, 21]) (.cons rfl (.cons rfl (.cons rfl (.cons rfl (.cons rfl (.cons rfl (.nil))))))) (⟨Nat.zero_le _, none, 0, rfl⟩) ⟨rfl, rfl, rfl, rfl, rfl, rfl, rfl, rfl, trivial⟩ (by (repeat' constructor)) ?_
 rintro ⟨i, w⟩ ⟨hi, au, cu, hw⟩
 dsimp only
 dsimp only at hi hw
 subst hw
 have hal := armL_len τ s ω l i hi
 refine G.seq (G.region (G.q (Quiet.int rfl rfl rfl) rfl (G.nil (G.then_n (G.seq ?_)))))
 refine G.condD rfl (fun h23 => ?_) (fun h23 => ?_)
 ·have hi2 : i < l.length := by omega
  have hp1 := hl.paths _ (List.getElem_mem hi2)
  refine G.rdShape (p := p) hl.cells (by (repeat' constructor)) (by omega) fun bl ol e1 => ?_
  subst e1
  refine G.skip (G.then_n (G.seq (G.block (G.seq (G.region ?_)))))
  refine G.q (Quiet.indexAddr rfl rfl el_82 (by omega)) rfl ?_
  refine G.q (Quiet.loadRdA (sz := 5) (j := i * 5) (k := 5) (p := p) (vs := armC l[i]) rfl ag_70 (by (repeat' constructor)) hl.cells (by simp) (by omega) (by omega) (flatMap_at (f := armC) (sz := 5) (fun _ _ => rfl) (by omega))) rfl ?_
  refine G.op (OpSpec.allocA ze_70) (by (repeat' constructor)) rfl ?nx13
  rintro v L' ⟨b11, rfl, rfl⟩
  refine G.op (OpSpec.storeA rfl rfl ?c15 sz_70 ?c18 ?c16 ?c17) (by (repeat' constructor)) rfl ?nx19
  case c15 => simp [armC, isCell]
  case c18 => rfl
  case c16 => simp [armC]
  case c17 => exact nfz0 _ _
  rintro v L' rfl
  refine G.nil ?_
  refine G.ptCast (b := b11) (l' := armC l[i]) (by (repeat' constructor)) (by exact rfl) ?_
  refine G.then_n (G.seq (G.seq (G.region (G.q (Quiet.fieldAddr rfl fo_70_0) rfl ?_))))
  refine G.q (Quiet.load rfl ag_3 (by (repeat' constructor)) (rfl)) rfl ?_
  refine G.q (Quiet.fieldAddr rfl fo_70_1) rfl ?_
  refine G.q (Quiet.load rfl ag_9 (by (repeat' constructor)) (rfl)) rfl ?_
  refine G.op (OpSpec.call Tryz.func79 rfl rfl (vs := [_, _]) rfl (wis_spec l[i].1 l[i].2.1 hp1)) (by (repeat' constructor)) rfl ?nx24
  rintro v L' ⟨rfl, rfl⟩
  refine G.q (Quiet.not rfl) rfl (G.nil (G.then_n ?_))
  refine G.condB rfl (fun h31 => ?_) (fun h31 => ?_)
  ·have h31 : ¬ isWt l[i].1 l[i].2.1 := by simpa using h31
   refine G.exit (G.then_e (G.blk_e (G.then_n (G.region ?_))))
   refine G.q (Quiet.add rfl rfl (by omega)) rfl ?_
   refine G.q (Quiet.move rfl) rfl (G.nil (G.then_n ?_))
   have hA : (armL τ s ω (l.take (i + 1))) = (armL τ s ω (l.take i)) := by rw [armL_step τ s ω hi2]; unfold armS; rw [if_pos h31]
   refine G.tbCast (t := t) (ω' := (armL τ s ω (l.take (i + 1))).1) (by (repeat' constructor)) (by rw [hA]) ?_
   rw [show (armL τ s ω (l.take i)).2.length = (armL τ s ω (l.take (i + 1))).2.length by rw [hA]]
   refine G.slCast (T := 75) (sz := 3) (m' := (armL τ s ω (l.take (i + 1))).2.length) (xs' := (armL τ s ω (l.take (i + 1))).2.flatMap evC) (by (repeat' constructor)) (by exact rfl) (by rw [hA]) ?_
   exact G.roundK ((i + 1, .slice au (armL τ s ω (l.take (i + 1))).2.length cu)) (⟨by dsimp only; omega, _, _, rfl⟩) (by dsimp only; omega) ⟨rfl, rfl, rfl, rfl, rfl, rfl, rfl, rfl, trivial⟩ (by (repeat' constructor)) (by ((repeat (apply Have.cons; (repeat (first | exact Pick.here | apply Pick.there)))); apply Have.base; repeat' constructor))
  ·have h31 : isWt l[i].1 l[i].2.1 := by simpa using h31
   refine G.skip (G.then_n (G.seq (G.region (G.q (Quiet.move rfl) rfl ?_))))
   refine G.q (Quiet.loadAs (vs := armC l[i]) rfl ag_70 (by (repeat' constructor)) (by simp [armC]) rfl) rfl ?_
   refine G.op (OpSpec.call Tryz.func80 rfl rfl (vs := [_, _]) rfl (wsince_spec u τ l[i] N ho hN)) (by (repeat' constructor)) rfl ?nx30
   rintro v L' ⟨rfl, rfl⟩
   refine G.q (Quiet.move rfl) rfl (G.q (Quiet.extract rfl rfl) rfl (G.q (Quiet.extract rfl rfl) rfl ?_))
   refine G.op (OpSpec.allocA ze_75) (by (repeat' constructor)) rfl ?nx34
   rintro v L' ⟨b12, rfl, rfl⟩
   refine G.op (OpSpec.storeA rfl rfl ?c36 sz_75 ?c39 ?c37 ?c38) (by (repeat' constructor)) rfl ?nx40
   case c36 => simp [evC, isCell]
   case c39 => rfl
   case c37 => simp [evC]
   case c38 => exact nfz0 _ _
   rintro v L' rfl
   refine G.q (Quiet.assign rfl) rfl (G.nil ?_)
   refine G.ptCast (b := b12) (l' := evC (sinceZ τ l[i]).1) (by (repeat' constructor)) (by exact rfl) ?_
   refine G.then_n (G.block (G.seq (G.region (G.q (Quiet.move rfl) rfl (G.q (Quiet.not rfl) rfl (G.q (Quiet.assign rfl) rfl (G.nil (G.then_n ?_))))))))
   refine G.condB rfl (fun h38 => ?_) (fun h38 => ?_)
   ·have h38 : (sinceZ τ l[i]).2 = false := by simpa using h38
    refine G.region (G.q (Quiet.move rfl) rfl (G.q (Quiet.move rfl) rfl (G.q (Quiet.fieldAddr rfl fo_70_0) rfl ?_)))
    refine G.q (Quiet.load rfl ag_3 (by (repeat' constructor)) (rfl)) rfl ?_
    refine G.q (Quiet.fieldAddr rfl fo_70_1) rfl ?_
    refine G.q (Quiet.load rfl ag_9 (by (repeat' constructor)) (rfl)) rfl ?_
    refine G.op (OpSpec.call Tryz.func34 rfl rfl (vs := [_, _, _, _]) rfl (wadd_spec t (armL τ s ω (l.take i)).1 s l[i].1 l[i].2.1 hs hp1)) (by (repeat' constructor)) rfl ?nx48
    rintro v L' ⟨rfl, rfl⟩
    refine G.nil (G.blk_n (G.blk_n (G.then_n (G.region ?_))))
    refine G.q (Quiet.add rfl rfl (by omega)) rfl ?_
    refine G.q (Quiet.move rfl) rfl (G.nil (G.then_n ?_))
    have hA : (armL τ s ω (l.take (i + 1))) = ((addW (armL τ s ω (l.take i)).1 s l[i].1 l[i].2.1).1, (armL τ s ω (l.take i)).2) := by rw [armL_step τ s ω hi2]; unfold armS; rw [if_neg (fun g => g h31), if_pos h38]
    refine G.tbCast (t := t) (ω' := (armL τ s ω (l.take (i + 1))).1) (by (repeat' constructor)) (by rw [hA]) ?_
    rw [show (armL τ s ω (l.take i)).2.length = (armL τ s ω (l.take (i + 1))).2.length by rw [hA]]
    refine G.slCast (T := 75) (sz := 3) (m' := (armL τ s ω (l.take (i + 1))).2.length) (xs' := (armL τ s ω (l.take (i + 1))).2.flatMap evC) (by (repeat' constructor)) (by exact rfl) (by rw [hA]) ?_
    exact G.roundK ((i + 1, .slice au (armL τ s ω (l.take (i + 1))).2.length cu)) (⟨by dsimp only; omega, _, _, rfl⟩) (by dsimp only; omega) ⟨rfl, rfl, rfl, rfl, rfl, rfl, rfl, rfl, trivial⟩ (by (repeat' constructor)) (by ((repeat (apply Have.cons; (repeat (first | exact Pick.here | apply Pick.there)))); apply Have.base; repeat' constructor))
   ·have h38 : (sinceZ τ l[i]).2 = true := by simpa using h38
    refine G.seq (G.region (G.q (Quiet.move rfl) rfl ?_))
    refine G.q (Quiet.loadAs (vs := evC (sinceZ τ l[i]).1) rfl ag_75 (by (repeat' constructor)) (by simp [evC]) rfl) rfl ?_
    refine G.op (OpSpec.call Tryz.func81 rfl rfl (vs := [_, _]) rfl (evhas_spec (armL τ s ω (l.take i)).2 (sinceZ τ l[i]).1 _ (by omega))) (by (repeat' constructor)) rfl ?nx53
    rintro v L' ⟨rfl, rfl⟩
    refine G.q (Quiet.not rfl) rfl (G.q (Quiet.assign rfl) rfl (G.nil (G.then_n ?_)))
    refine G.condB rfl (fun h48 => ?_) (fun h48 => ?_)
    ·have h48 : ¬ (sinceZ τ l[i]).1 ∈ (armL τ s ω (l.take i)).2 := by simpa using h48
     refine G.region (G.q (Quiet.move rfl) rfl ?_)
     refine G.q (Quiet.loadAs (vs := evC (sinceZ τ l[i]).1) rfl ag_75 (by (repeat' constructor)) (by simp [evC]) rfl) rfl ?_
     refine G.op (OpSpec.buildSlice (vs := [_]) el_30 ze_75 rfl rfl rfl rfl (by first | (simp [Value.cells]; done) | (intro v hv; simp only [List.mem_cons, List.not_mem_nil, or_false] at hv; (repeat (first | (subst hv; rfl) | (rcases hv with hv | hv; (subst hv; rfl)))))) (by decide)) (by (repeat' constructor)) rfl ?nx58
     rintro v L' ⟨b13, rfl, rfl⟩
     refine G.op (OpSpec.append1 rfl rfl rfl el_30 ze_75 rfl rfl ?c60 ?c61 (Nat.le_refl _) ?c62 (by decide)) (by (repeat' constructor)) rfl ?nx63
     case c60 => simp only [List.map_cons, List.map_nil, List.flatten_cons, List.flatten_nil, List.append_nil]; simp [Value.cells, evC, isCell]
     case c61 => rfl
     case c62 => omega
     rintro v L' ⟨⟨a12_3, c12_3, rfl⟩, rfl⟩
     refine G.q (Quiet.assign rfl) rfl (G.nil (G.blk_n (G.blk_n (G.then_n (G.region ?_)))))
     refine G.q (Quiet.add rfl rfl (by omega)) rfl ?_
     refine G.q (Quiet.move rfl) rfl (G.nil (G.then_n ?_))
     have hA : (armL τ s ω (l.take (i + 1))) = ((armL τ s ω (l.take i)).1, (armL τ s ω (l.take i)).2 ++ [(sinceZ τ l[i]).1]) := by rw [armL_step τ s ω hi2]; unfold armS; rw [if_neg (fun g => g h31), if_neg (by rw [h38]; decide), if_neg h48]
     refine G.tbCast (t := t) (ω' := (armL τ s ω (l.take (i + 1))).1) (by (repeat' constructor)) (by rw [hA]) ?_
     rw [show (armL τ s ω (l.take i)).2.length + 1 = (armL τ s ω (l.take (i + 1))).2.length by rw [hA]; simp]
     refine G.slCast (T := 75) (sz := 3) (m' := (armL τ s ω (l.take (i + 1))).2.length) (xs' := (armL τ s ω (l.take (i + 1))).2.flatMap evC) (by (repeat' constructor)) (by exact rfl) (by rw [hA]; rw [List.flatMap_append]; simp [Value.cells, evC]) ?_
     exact G.roundK ((i + 1, .slice a12_3 (armL τ s ω (l.take (i + 1))).2.length c12_3)) (⟨by dsimp only; omega, _, _, rfl⟩) (by dsimp only; omega) ⟨rfl, rfl, rfl, rfl, rfl, rfl, rfl, rfl, trivial⟩ (by (repeat' constructor)) (by ((repeat (apply Have.cons; (repeat (first | exact Pick.here | apply Pick.there)))); apply Have.base; repeat' constructor))
    ·have h48 : (sinceZ τ l[i]).1 ∈ (armL τ s ω (l.take i)).2 := by simpa using h48
     refine G.skip (G.blk_n (G.blk_n (G.then_n (G.region ?_))))
     refine G.q (Quiet.add rfl rfl (by omega)) rfl ?_
     refine G.q (Quiet.move rfl) rfl (G.nil (G.then_n ?_))
     have hA : (armL τ s ω (l.take (i + 1))) = (armL τ s ω (l.take i)) := by rw [armL_step τ s ω hi2]; unfold armS; rw [if_neg (fun g => g h31), if_neg (by rw [h38]; decide), if_pos h48]
     refine G.tbCast (t := t) (ω' := (armL τ s ω (l.take (i + 1))).1) (by (repeat' constructor)) (by rw [hA]) ?_
     rw [show (armL τ s ω (l.take i)).2.length = (armL τ s ω (l.take (i + 1))).2.length by rw [hA]]
     refine G.slCast (T := 75) (sz := 3) (m' := (armL τ s ω (l.take (i + 1))).2.length) (xs' := (armL τ s ω (l.take (i + 1))).2.flatMap evC) (by (repeat' constructor)) (by exact rfl) (by rw [hA]) ?_
     exact G.roundK ((i + 1, .slice au (armL τ s ω (l.take (i + 1))).2.length cu)) (⟨by dsimp only; omega, _, _, rfl⟩) (by dsimp only; omega) ⟨rfl, rfl, rfl, rfl, rfl, rfl, rfl, rfl, trivial⟩ (by (repeat' constructor)) (by ((repeat (apply Have.cons; (repeat (first | exact Pick.here | apply Pick.there)))); apply Have.base; repeat' constructor))
 ·have hii : i = l.length := by omega
  rw [hii, List.take_length]
  refine G.exit (G.then_e (G.then_e (G.blk_e (G.then_n (G.seq (G.region (G.q (Quiet.move rfl) rfl (G.q (Quiet.assign rfl) rfl (G.nil (G.then_n (G.ret ?_)))))))))))
  exact G.done (l := [.tmp 8]) rfl rfl ⟨_, _, rfl, rfl⟩ (by (repeat' constructor)) (by (repeat' constructor))

set_option maxRecDepth 100000 in
theorem warm0_spec (vt u va : Value) (s : Int) (hs : s < 1) : Fn Tryz.prog 36 #[vt, vint s, u, va] [] fun v L => v = .slice none 0 0 ∧ L = [] := by
 refine Fn.intro (vs := [vt, vint s, u, va]) Tryz.func36 rfl rfl ?_
 intro F W
 refine G.seq (G.region (G.q (Quiet.assign rfl) rfl (G.nil (G.then_n (G.seq (G.seq (G.region (G.q (Quiet.move rfl) rfl ?_))))))))
 refine G.q (Quiet.as (v' := .bool true) (by simp; omega) (Quiet.int rfl rfl rfl)) rfl ?_
 refine G.q (Quiet.move rfl) rfl (G.gskip (t := 16) rfl rfl rfl rfl (G.gskip (t := 16) rfl rfl rfl rfl (G.q (Quiet.pickT rfl rfl) rfl (G.nil (G.then_n (G.condT rfl (G.seq (G.region (G.q (Quiet.assign rfl) rfl (G.nil (G.then_n (G.ret (G.then_r ?_)))))))))))))
 exact G.done (l := [.tmp 8]) rfl rfl ⟨rfl, rfl⟩ (by (repeat' constructor)) (by (repeat' constructor))

set_option maxRecDepth 100000 in
theorem warmnil_spec (vt va : Value) (s : Int) (hs : 1 ≤ s) : Fn Tryz.prog 36 #[vt, vint s, .pointer none, va] [] fun v L => v = .slice none 0 0 ∧ L = [] := by
 refine Fn.intro (vs := [vt, vint s, .pointer none, va]) Tryz.func36 rfl rfl ?_
 intro F W
 refine G.seq (G.region (G.q (Quiet.assign rfl) rfl (G.nil (G.then_n (G.seq (G.seq (G.region (G.q (Quiet.move rfl) rfl ?_))))))))
 refine G.q (Quiet.as (v' := .bool false) (by simp; omega) (Quiet.int rfl rfl rfl)) rfl ?_
 refine G.q (Quiet.move rfl) rfl (G.grun (t := 16) rfl rfl rfl (G.q (Quiet.move rfl) rfl (G.grun (t := 16) rfl rfl rfl ?_)))
 refine G.q (Quiet.as (v' := .bool true) (by rfl) (Quiet.ptreq rfl rfl Tryz.underlying28)) rfl ?_
 refine G.q (Quiet.pickF rfl rfl) rfl (G.nil (G.then_n (G.condT rfl (G.seq (G.region (G.q (Quiet.assign rfl) rfl (G.nil (G.then_n (G.ret (G.then_r ?_))))))))))
 exact G.done (l := [.tmp 8]) rfl rfl ⟨rfl, rfl⟩ (by (repeat' constructor)) (by (repeat' constructor))

end Go.Proofs.YtnnbelmpbmfdnaaGreatDoor

/- Own work, by program: law 11: WatchMoves: walked. -/

namespace Go.Proofs.YtnnbelmpbmfdnaaGreatDoor
open Go
theorem pE_len (τ : Tr) (x : Pt) (zx : Int) : (partZ τ x zx).2.length ≤ 2 := by
  unfold partZ createZ eraseZ
  split
  · split <;> simp
  · split
    · split
      · dsimp only; split
        · split <;> simp
        · simp
      · simp
    · split
      · simp
      · split <;> simp
theorem psE_len (τ : Tr) (zx : Int) (l : List Pt) : (partsZ τ zx l).2.length ≤ 2 * l.length := by
  induction l using snocInd with
  | h0 => simp [parts_nil]
  | h1 l x ih =>
    rw [parts_snoc]
    dsimp only
    rw [List.length_append, List.length_append]
    have := pE_len (partsZ τ zx l).1 x zx
    simp only [List.length_cons, List.length_nil]
    omega
theorem apE_len (τ : Tr) (zx : Int) (x : Pt) (subs : List Pt) : (applyZ τ zx x subs).2.1.length ≤ 2 * subs.length + 2 := by
  unfold applyZ
  dsimp only
  split
  · simp
  · split
    · have := psE_len (zxT τ zx) zx (subs.filter isDel)
      have := List.length_filter_le isDel subs
      dsimp only; omega
    · split
      · have := psE_len (zxT τ zx) zx subs
        dsimp only; omega
      · split
        · simp
        · have := pE_len (zxT τ zx) x zx
          dsimp only; omega
end Go.Proofs.YtnnbelmpbmfdnaaGreatDoor

/- Own work: the document's table of watches in memory: a list, in its order. -/

namespace Go.Proofs.YtnnbelmpbmfdnaaGreatDoor
open Go

def wtC (w : Wt) : List Value := [vint w.1, vint w.2.1, vstr w.2.2]
theorem wt_cell {l : List Wt} {i k : Nat} (hi : i < l.length) (hk : k < 3) : (l.flatMap wtC)[i * 3 + k]? = (wtC l[i])[k]? := flatMap_cell (f := wtC) (sz := 3) (fun _ _ => rfl) hi hk
def rwR (x : Nat) (ω : List Wt) : HP := fun h => ∃ y : Option Addr × Nat, True ∧ sep [ptc x [.slice y.1 ω.length y.2] 164, slR 168 3 (.slice y.1 ω.length y.2) ω.length (ω.flatMap wtC)] h
section
variable {W : World} {n : Nat} {ds : List Deferred} {E : Env} {L R : List HP} {X : Act → World → Prop}
theorem G.rwOpen {x : Nat} {ω : List Wt} (hL : Pick (rwR x ω) L R) (h : ∀ aw cw, G W n ds E (ptc x [.slice aw ω.length cw] 164 :: slR 168 3 (.slice aw ω.length cw) ω.length (ω.flatMap wtC) :: R) X) : G W n ds E L X :=
  G.focus hL (G.open (q := fun y : Option Addr × Nat => [ptc x [.slice y.1 ω.length y.2] 164, slR 168 3 (.slice y.1 ω.length y.2) ω.length (ω.flatMap wtC)]) (φ := fun _ => True) (fun _ hp => hp) fun y _ => h y.1 y.2)
theorem G.rwFold {x : Nat} (ω : List Wt) {l xs : List Value} {a : Option Addr} {c m : Nat} (hL : Picks [ptc x l 164, slR 168 3 (.slice a m c) m xs] L R) (hl : l = [.slice a m c]) (hm : m = ω.length) (hx : xs = ω.flatMap wtC) (h : G W n ds E (rwR x ω :: R) X) : G W n ds E L X := by
  subst hl; subst hm; subst hx
  exact G.fold hL (fun _ hp => ⟨(a, c), trivial, hp⟩) h
end
theorem wt_eq (d : Nat) (a b : Wt) : EqAt Tryz.prog (d + 2) 168 (.agg (wtC a).toArray) (.agg (wtC b).toArray) (decide (a = b)) := by
  have h := EqAt.struct (d := d + 1) (xs := wtC a) (ys := wtC b) Tryz.underlying168 (by kernel_rfl)
    (.cons (FEq.cell (by decide) ag_3 rfl rfl (EqAt.int Tryz.underlying3 a.1 b.1)) (.cons (FEq.cell (by decide) ag_3 rfl rfl (EqAt.int Tryz.underlying3 a.2.1 b.2.1)) (.cons (FEq.cell (by decide) ag_9 rfl rfl (EqAt.str Tryz.underlying9 a.2.2 b.2.2)) .nil)))
  have e : ([decide (a.1 = b.1), decide (a.2.1 = b.2.1), decide (a.2.2 = b.2.2)].all id) = decide (a = b) := by
    obtain ⟨a1, a2, a3⟩ := a; obtain ⟨b1, b2, b3⟩ := b
    simp [Bool.decide_and]
  rw [← e]; exact h
theorem cnt_take {ω : List Wt} {i : Nat} (hi : i < ω.length) (s : Int) : cntW (ω.take (i + 1)) s = cntW (ω.take i) s + if ω[i].1 = s then 1 else 0 := by
  unfold cntW
  rw [List.take_succ_eq_append_getElem hi, List.filter_append, List.length_append]
  by_cases h : ω[i].1 = s
  · rw [List.filter_cons_of_pos (by simpa using h), if_pos h]; rfl
  · rw [List.filter_cons_of_neg (by simpa using h), if_neg h]; rfl
/-- Sizes that a table keeps. -/
structure Wk (ω : List Wt) (N : Nat) : Prop where
  few : ∀ s, cntW ω s ≤ 64
  len : ω.length ≤ N
theorem cnt_snoc (ω : List Wt) (w : Wt) (s : Int) : cntW (ω ++ [w]) s = cntW ω s + if w.1 = s then 1 else 0 := by
  unfold cntW
  rw [List.filter_append, List.length_append]
  by_cases h : w.1 = s
  · rw [List.filter_cons_of_pos (by simpa using h), if_pos h]; rfl
  · rw [List.filter_cons_of_neg (by simpa using h), if_neg h]; rfl
theorem cnt_filter (ω : List Wt) (f : Wt → Bool) (s : Int) : cntW (ω.filter f) s ≤ cntW ω s := by
  unfold cntW
  exact (List.filter_sublist.filter _).length_le
theorem Wk.add {ω : List Wt} {N : Nat} (h : Wk ω N) (s k : Int) (p : Bs) : Wk (addW ω s k p).1 (N + 1) := by
  refine ⟨fun t => ?_, Nat.le_trans (add_len ω s k p) (by have := h.len; omega)⟩
  unfold addW
  split
  · exact h.few t
  · split
    · exact h.few t
    · split
      · exact h.few t
      · rename_i h1 h2 h3
        dsimp only
        rw [cnt_snoc]
        by_cases e : s = t
        · subst e; have := h.few s; rw [if_pos rfl]; omega
        · rw [if_neg e]; exact h.few t
theorem Wk.more {ω : List Wt} {N M : Nat} (h : Wk ω N) (hm : N ≤ M) : Wk ω M := ⟨h.few, Nat.le_trans h.len hm⟩
theorem Wk.filter {ω : List Wt} {N : Nat} (h : Wk ω N) (f : Wt → Bool) : Wk (ω.filter f) N := ⟨fun s => Nat.le_trans (cnt_filter ω f s) (h.few s), Nat.le_trans (List.length_filter_le _ _) h.len⟩
theorem Wk.armS {τ : Tr} {s : Int} {r : List Wt × List Ev} {N : Nat} (h : Wk r.1 N) (a : Arm) : Wk (armS τ s r a).1 (N + 1) := by
  unfold Go.Proofs.YtnnbelmpbmfdnaaGreatDoor.armS
  split
  · exact h.more (by omega)
  · split
    · exact h.add _ _ _
    · split
      · exact h.more (by omega)
      · exact h.more (by omega)
theorem Wk.armL {τ : Tr} {s : Int} {ω : List Wt} {N : Nat} (h : Wk ω N) (l : List Arm) : ∀ i, i ≤ l.length → Wk (armL τ s ω (l.take i)).1 (N + i)
  | 0, _ => by rw [List.take_zero]; exact h
  | i + 1, hi => by
    rw [armL_step τ s ω (by omega)]
    exact (Wk.armL h l i (by omega)).armS _
/-! ### Who is told, one watch behind the other -/
theorem left_step {ω : List Wt} {i : Nat} (hi : i < ω.length) (k : Int) (p : Bs) : leftW (ω.take (i + 1)) k p = leftW (ω.take i) k p ++ if meetW k p ω[i] = true then [] else [ω[i]] := by
  unfold leftW
  rw [List.take_succ_eq_append_getElem hi, List.filter_append]
  cases h : meetW k p ω[i] with
  | true => rw [List.filter_cons_of_neg (by simp [h]), if_pos rfl]; rfl
  | false => rw [List.filter_cons_of_pos (by simp [h]), if_neg (by decide)]; rfl
theorem tell_step {ω : List Wt} {i : Nat} (hi : i < ω.length) (k : Int) (p : Bs) (x : Int) : x ∈ tellW (ω.take (i + 1)) k p ↔ x ∈ tellW (ω.take i) k p ∨ (meetW k p ω[i] = true ∧ x = ω[i].1) := by
  rw [tell_mem, tell_mem, List.take_succ_eq_append_getElem hi]
  constructor
  · rintro ⟨w, hw, hm, rfl⟩
    rcases List.mem_append.1 hw with hw | hw
    · exact .inl ⟨w, hw, hm, rfl⟩
    · rw [List.mem_singleton] at hw; subst hw; exact .inr ⟨hm, rfl⟩
  · rintro (⟨w, hw, hm, rfl⟩ | ⟨hm, rfl⟩)
    · exact ⟨w, List.mem_append_left _ hw, hm, rfl⟩
    · exact ⟨ω[i], List.mem_append_right _ (by simp), hm, rfl⟩
theorem tell_out {ω : List Wt} {i : Nat} (hi : i < ω.length) {k : Int} {p : Bs} (h : meetW k p ω[i] = false) : tellW (ω.take (i + 1)) k p = tellW (ω.take i) k p :=
  sorted_ext (tell_sorted _ _ _) (tell_sorted _ _ _) fun x => by rw [tell_step hi, h]; simp
theorem tell_twin {ω : List Wt} {i : Nat} (hi : i < ω.length) {k : Int} {p : Bs} (h : ω[i].1 ∈ tellW (ω.take i) k p) : tellW (ω.take (i + 1)) k p = tellW (ω.take i) k p :=
  sorted_ext (tell_sorted _ _ _) (tell_sorted _ _ _) fun x => by
    rw [tell_step hi]
    constructor
    · rintro (g | ⟨-, rfl⟩)
      · exact g
      · exact h
    · exact .inl
theorem ins_sorted {l : List Int} (hs : l.Pairwise (· < ·)) {s : Int} {n : Nat} (h1 : ∀ j (hj : j < l.length), j < n → l[j] < s) (h2 : ∀ (h : n < l.length), s < l[n]) : (l.take n ++ [s] ++ l.drop n).Pairwise (· < ·) := by
  have hp := List.pairwise_iff_getElem.1 hs
  have ht : ∀ x ∈ l.take n, x < s := fun x hx => by
    obtain ⟨j, hj, rfl⟩ := List.mem_iff_getElem.1 hx
    rw [List.length_take] at hj
    rw [List.getElem_take]
    exact h1 j (by omega) (by omega)
  have hd : ∀ x ∈ l.drop n, s < x := fun x hx => by
    obtain ⟨j, hj, rfl⟩ := List.mem_iff_getElem.1 hx
    rw [List.length_drop] at hj
    rw [List.getElem_drop]
    have h3 := h2 (by omega)
    rcases Nat.eq_zero_or_pos j with rfl | g
    · simpa using h3
    · have := hp n (n + j) (by omega) (by omega) (by omega); omega
  rw [List.append_assoc, List.pairwise_append]
  refine ⟨hs.sublist (List.take_sublist _ _), ?_, fun a ha b hb => ?_⟩
  · rw [List.singleton_append, List.pairwise_cons]
    exact ⟨hd, hs.sublist (List.drop_sublist _ _)⟩
  · rw [List.singleton_append] at hb
    rcases List.mem_cons.1 hb with rfl | hb
    · exact ht a ha
    · have := ht a ha; have := hd b hb; omega
theorem tell_ins {ω : List Wt} {i : Nat} (hi : i < ω.length) {k : Int} {p : Bs} (hm : meetW k p ω[i] = true) {n : Nat} (h1 : ∀ j (hj : j < (tellW (ω.take i) k p).length), j < n → (tellW (ω.take i) k p)[j] < ω[i].1) (h2 : ∀ (h : n < (tellW (ω.take i) k p).length), ω[i].1 < (tellW (ω.take i) k p)[n]) :
    tellW (ω.take (i + 1)) k p = (tellW (ω.take i) k p).take n ++ [ω[i].1] ++ (tellW (ω.take i) k p).drop n :=
  sorted_ext (tell_sorted _ _ _) (ins_sorted (tell_sorted _ _ _) h1 h2) fun x => by
    rw [tell_step hi, hm]
    have e : x ∈ tellW (ω.take i) k p ↔ x ∈ (tellW (ω.take i) k p).take n ∨ x ∈ (tellW (ω.take i) k p).drop n := by
      rw [← List.mem_append, List.take_append_drop]
    rw [e]
    simp only [List.mem_append, List.mem_singleton, true_and]
    constructor
    · rintro ((g | g) | g)
      · exact .inl (.inl g)
      · exact .inr g
      · exact .inl (.inr g)
    · rintro ((g | g) | g)
      · exact .inl (.inl g)
      · exact .inr g
      · exact .inl (.inr g)
def armZ (τ : Tr) (s : Int) (ω : List Wt) (l : List Arm) : List Wt × List Ev := if s < 1 then (ω, []) else armL τ s ω l
end Go.Proofs.YtnnbelmpbmfdnaaGreatDoor

/- Own work, by program: the document's table of watches: walked. -/
namespace Go.Proofs.YtnnbelmpbmfdnaaGreatDoor
open Go
set_option maxRecDepth 100000 in
theorem rwcount_spec (x : Nat) (ω : List Wt) (s : Int) (hn : ω.length ≤ 1099511627776) : Fn Tryz.prog 40 #[vptr x, vint s] [rwR x ω] fun v L => v = vint (cntW ω s : Nat) ∧ L = [rwR x ω] := by
 refine Fn.intro (vs := [vptr x, vint s]) Tryz.func40 rfl rfl ?_
 intro F W
 refine G.rwOpen (x := x) (ω := ω) (by (repeat' constructor)) fun aw cw => ?_
 refine G.seq (G.region (G.q (Quiet.assign rfl) rfl (G.nil (G.then_n (G.seq (G.region (G.q (Quiet.assign rfl) rfl (G.nil (G.then_n (G.seq (G.seq (G.region (G.q (Quiet.assign rfl) rfl (G.nil (G.then_n (G.block ?_))))))))))))))))
 refine G.loopK (ι := Nat) (fun q E => (6, vint q) :: (5, vint ((cntW (ω.take q) s : Nat) : Int)) :: E) (fun q => []) (fun q => q ≤ ω.length) (fun q => ω.length - q) (0) (ts := [0, 1, 4]) (.cons rfl (.cons rfl (.cons rfl (.nil)))) (Nat.zero_le _) ⟨rfl, rfl, rfl, rfl, rfl, trivial⟩ (by (repeat' constructor)) ?_
 rintro i hi
 have hcl : cntW (ω.take i) s ≤ i := by unfold cntW; exact Nat.le_trans (List.length_filter_le _ _) (by rw [List.length_take]; omega)
 refine G.seq (G.seq (G.region (G.q (Quiet.move rfl) rfl (G.q (Quiet.move rfl) rfl (G.q (Quiet.nilp rfl) rfl (G.q (Quiet.fieldAddr rfl fo_164_0) rfl ?_))))))
 refine G.q (Quiet.load rfl ag_162 (by (repeat' constructor)) (rfl)) rfl ?_
 refine G.q (Quiet.slen rfl Tryz.underlying162 rfl) rfl (G.q (Quiet.int rfl rfl rfl) rfl (G.nil (G.then_n ?_)))
 refine G.condD rfl (fun h13 => ?_) (fun h13 => ?_)
 ·have hi2 : i < ω.length := by omega
  refine G.slShape (T := 168) (sz := 3) (v := .slice aw ω.length cw) (xs := ω.flatMap wtC) (by (repeat' constructor)) (by omega) fun bw bw' e0 mbw _ => ?_
  simp only [Value.slice.injEq, true_and] at e0
  obtain ⟨rfl, rfl⟩ := e0
  refine G.skip (G.then_n (G.seq (G.block (G.seq (G.region (G.q (Quiet.move rfl) rfl (G.q (Quiet.nilp rfl) rfl (G.q (Quiet.fieldAddr rfl fo_164_0) rfl ?_))))))))
  refine G.q (Quiet.load rfl ag_162 (by (repeat' constructor)) (rfl)) rfl ?_
  refine G.q (Quiet.move rfl) rfl ?_
  refine G.q (Quiet.indexAddr rfl rfl el_162 (by omega)) rfl ?_
  refine G.q (Quiet.fieldAddr rfl fo_168_0) rfl ?_
  refine G.q (Quiet.loadRd (sz := 3) (j := i * 3 + 0) (p := slR 168 3 _ ω.length (ω.flatMap wtC)) rfl ag_3 (by (repeat' constructor)) (fun h hp => slR_rd hp) (by omega) ((wt_cell (l := ω) (i := i) (k := 0) (by omega) (by decide)).trans rfl)) rfl ?_
  refine G.q (Quiet.move rfl) rfl (G.q (Quiet.int rfl rfl rfl) rfl (G.nil (G.then_n ?_)))
  refine G.condD rfl (fun h25 => ?_) (fun h25 => ?_)
  ·refine G.region (G.q (Quiet.move rfl) rfl ?_)
   refine G.q (Quiet.add rfl rfl (by omega)) rfl ?_
   refine G.q (Quiet.assign rfl) rfl (G.nil (G.blk_n (G.then_n (G.region (G.q (Quiet.move rfl) rfl ?_)))))
   refine G.q (Quiet.add rfl rfl (by omega)) rfl ?_
   refine G.q (Quiet.assign rfl) rfl (G.nil (G.then_n ?_))
   have hc := cnt_take hi2 s
   rw [if_pos h25] at hc
   rw [show (((cntW (ω.take i) s : Nat) : Int) + 1) = ((cntW (ω.take (i + 1)) s : Nat) : Int) by rw [hc]; rfl]
   exact G.roundK (i + 1) (by omega) (by omega) ⟨rfl, rfl, rfl, rfl, rfl, trivial⟩ (by (repeat' constructor)) (by ((repeat (apply Have.cons; (repeat (first | exact Pick.here | apply Pick.there)))); apply Have.base; repeat' constructor))
  ·refine G.skip (G.blk_n (G.then_n (G.region (G.q (Quiet.move rfl) rfl ?_))))
   refine G.q (Quiet.add rfl rfl (by omega)) rfl ?_
   refine G.q (Quiet.assign rfl) rfl (G.nil (G.then_n ?_))
   have hc := cnt_take hi2 s
   rw [if_neg h25] at hc
   rw [show ((cntW (ω.take i) s : Nat) : Int) = ((cntW (ω.take (i + 1)) s : Nat) : Int) by rw [hc]; rfl]
   exact G.roundK (i + 1) (by omega) (by omega) ⟨rfl, rfl, rfl, rfl, rfl, trivial⟩ (by (repeat' constructor)) (by ((repeat (apply Have.cons; (repeat (first | exact Pick.here | apply Pick.there)))); apply Have.base; repeat' constructor))
 ·have hii : i = ω.length := by omega
  rw [hii, List.take_length]
  refine G.exit (G.then_e (G.then_e (G.blk_e (G.then_n (G.seq (G.region (G.q (Quiet.move rfl) rfl (G.q (Quiet.assign rfl) rfl (G.nil (G.then_n (G.ret ?_)))))))))))
  refine G.rwFold (x := x) ω (by (repeat' constructor)) rfl (rfl) (rfl) ?_
  exact G.done (l := [.tmp 4]) rfl rfl ⟨rfl, rfl⟩ (by (repeat' constructor)) (by (repeat' constructor))

set_option maxRecDepth 100000 in
theorem rmeets_spec (e : Ev) (w : Wt) (hw : 1 ≤ w.2.1 ∧ w.2.1 ≤ 3) : Fn Tryz.prog 166 #[.agg (evC e).toArray, .agg (wtC w).toArray] [] fun v L => v = .bool (meetW e.1 e.2.1 w) ∧ L = [] := by
 refine Fn.intro (vs := [.agg (evC e).toArray, .agg (wtC w).toArray]) Tryz.func166 rfl rfl ?_
 intro F W
 refine G.seq (G.region ?_)
 refine G.op (OpSpec.box rfl) (by (repeat' constructor)) rfl ?nx1
 rintro v L' ⟨b2, rfl, rfl⟩
 refine G.op (OpSpec.box rfl) (by (repeat' constructor)) rfl ?nx3
 rintro v L' ⟨b3, rfl, rfl⟩
 refine G.q (Quiet.assign rfl) rfl (G.nil ?_)
 refine G.ptCast (b := b2) (l' := evC e) (by (repeat' constructor)) rfl ?_
 refine G.ptCast (b := b3) (l' := wtC w) (by (repeat' constructor)) rfl ?_
 refine G.then_n (G.seq (G.seq (G.region (G.q (Quiet.fieldAddr rfl fo_75_1) rfl ?_))))
 refine G.q (Quiet.load rfl ag_9 (by (repeat' constructor)) (rfl)) rfl ?_
 refine G.q (Quiet.fieldAddr rfl fo_168_2) rfl ?_
 refine G.q (Quiet.load rfl ag_9 (by (repeat' constructor)) (rfl)) rfl ?_
 refine G.q (Quiet.strne rfl rfl) rfl (G.nil (G.then_n ?_))
 refine G.condN rfl (fun h9 => ?_) (fun h9 => ?_)
 ·refine G.seq (G.region (G.q (Quiet.assign rfl) rfl (G.nil (G.then_n (G.ret (G.then_r ?_))))))
  exact G.done (l := [.tmp 4]) rfl rfl ⟨by rw [show meetW e.1 e.2.1 w = false from by unfold meetW; rw [decide_eq_false (fun g => h9 g.symm), Bool.false_and]], rfl⟩ (by (repeat' constructor)) (by (repeat' constructor))
 ·refine G.skip (G.then_n (G.seq (G.seq (G.region (G.q (Quiet.fieldAddr rfl fo_75_0) rfl ?_)))))
  refine G.q (Quiet.load rfl ag_3 (by (repeat' constructor)) (rfl)) rfl ?_
  refine G.nil (G.then_n (G.block (G.seq (G.region (G.q (Quiet.int rfl rfl rfl) rfl (G.q (Quiet.assign rfl) rfl (G.nil (G.then_n ?_))))))))
  refine G.condD rfl (fun h12 => ?_) (fun h12 => ?_)
  ·refine G.seq (G.region (G.q (Quiet.fieldAddr rfl fo_168_1) rfl ?_))
   refine G.q (Quiet.load rfl ag_3 (by (repeat' constructor)) (rfl)) rfl ?_
   refine G.q (Quiet.int rfl rfl rfl) rfl (G.q (Quiet.assign rfl) rfl (G.nil (G.then_n (G.ret (G.blk_r (G.then_r ?_))))))
   exact G.done (l := [.tmp 4]) rfl rfl ⟨by rw [show meetW e.1 e.2.1 w = decide (w.2.1 = 2) from by unfold meetW kindsZ; rw [decide_eq_true h9.symm, Bool.true_and, if_pos h12]; simp], rfl⟩ (by (repeat' constructor)) (by (repeat' constructor))
  ·refine G.seq (G.region (G.q (Quiet.int rfl rfl rfl) rfl (G.q (Quiet.assign rfl) rfl (G.nil (G.then_n ?_)))))
   refine G.condD rfl (fun h17 => ?_) (fun h17 => ?_)
   ·refine G.seq (G.region (G.q (Quiet.assign rfl) rfl (G.nil (G.then_n (G.ret (G.blk_r (G.then_r ?_)))))))
    exact G.done (l := [.tmp 4]) rfl rfl ⟨by rw [show meetW e.1 e.2.1 w = true from by unfold meetW kindsZ; rw [decide_eq_true h9.symm, Bool.true_and, if_neg h12, if_pos h17]; simp; omega], rfl⟩ (by (repeat' constructor)) (by (repeat' constructor))
   ·refine G.seq (G.region (G.q (Quiet.int rfl rfl rfl) rfl (G.q (Quiet.assign rfl) rfl (G.nil (G.then_n ?_)))))
    refine G.condD rfl (fun h19 => ?_) (fun h19 => ?_)
    ·refine G.seq (G.region (G.q (Quiet.fieldAddr rfl fo_168_1) rfl ?_))
     refine G.q (Quiet.load rfl ag_3 (by (repeat' constructor)) (rfl)) rfl ?_
     refine G.q (Quiet.int rfl rfl rfl) rfl (G.q (Quiet.assign rfl) rfl (G.nil (G.then_n (G.ret (G.blk_r (G.then_r ?_))))))
     exact G.done (l := [.tmp 4]) rfl rfl ⟨by rw [show meetW e.1 e.2.1 w = !decide (w.2.1 = 3) from by unfold meetW kindsZ; rw [decide_eq_true h9.symm, Bool.true_and, if_neg h12, if_neg h17, if_pos h19]; rw [← decide_not]; exact decide_eq_decide.2 (by simp; omega)], rfl⟩ (by (repeat' constructor)) (by (repeat' constructor))
    ·refine G.seq (G.region (G.q (Quiet.int rfl rfl rfl) rfl (G.q (Quiet.assign rfl) rfl (G.nil (G.then_n ?_)))))
     refine G.condD rfl (fun h24 => ?_) (fun h24 => ?_)
     ·refine G.seq (G.region (G.q (Quiet.fieldAddr rfl fo_168_1) rfl ?_))
      refine G.q (Quiet.load rfl ag_3 (by (repeat' constructor)) (rfl)) rfl ?_
      refine G.q (Quiet.int rfl rfl rfl) rfl (G.q (Quiet.assign rfl) rfl (G.nil (G.then_n (G.ret (G.blk_r (G.then_r ?_))))))
      exact G.done (l := [.tmp 4]) rfl rfl ⟨by rw [show meetW e.1 e.2.1 w = decide (w.2.1 = 3) from by unfold meetW kindsZ; rw [decide_eq_true h9.symm, Bool.true_and, if_neg h12, if_neg h17, if_neg h19, if_pos h24]; simp], rfl⟩ (by (repeat' constructor)) (by (repeat' constructor))
     ·refine G.skip (G.blk_n (G.then_n (G.seq (G.region (G.q (Quiet.assign rfl) rfl (G.nil (G.then_n (G.ret ?_))))))))
      exact G.done (l := [.tmp 4]) rfl rfl ⟨by rw [show meetW e.1 e.2.1 w = false from by unfold meetW kindsZ; rw [decide_eq_true h9.symm, Bool.true_and, if_neg h12, if_neg h17, if_neg h19, if_neg h24]; simp], rfl⟩ (by (repeat' constructor)) (by (repeat' constructor))

set_option maxRecDepth 100000 in
theorem rwadd_spec (x : Nat) (ω : List Wt) (s k : Int) (pa : Bs) (hs : pa.length ≤ 1048576) (hf : cntW ω s ≤ 64) (hn : ω.length ≤ 1048576) : Fn Tryz.prog 86 #[vptr x, vint s, vint k, vstr pa] [rwR x ω] fun v L => v = vint (addW ω s k pa).2 ∧ L = [rwR x (addW ω s k pa).1] := by
 refine Fn.intro (vs := [vptr x, vint s, vint k, vstr pa]) Tryz.func86 rfl rfl ?_
 intro F W
 refine G.rwOpen (x := x) (ω := ω) (by (repeat' constructor)) fun aw cw => ?_
 refine G.seq (G.region (G.q (Quiet.assign rfl) rfl (G.nil (G.then_n (G.seq (G.seq (G.region (G.q (Quiet.move rfl) rfl (G.q (Quiet.int rfl rfl rfl) rfl (G.q (Quiet.move rfl) rfl ?_))))))))))
 refine G.dec (t := 13) rfl (fun h1_13 => ?_) (fun h1_13 => ?_)
 ·refine G.kDT (t := 12) rfl h1_13 (G.gskip (t := 13) rfl rfl rfl rfl (G.gskip (t := 13) rfl rfl rfl rfl (G.q (Quiet.pickT rfl rfl) rfl (G.q (Quiet.move rfl) rfl (G.gskip (t := 17) rfl rfl rfl rfl (G.gskip (t := 17) rfl rfl rfl rfl (G.q (Quiet.pickT rfl rfl) rfl (G.q (Quiet.move rfl) rfl (G.gskip (t := 21) rfl rfl rfl rfl (G.gskip (t := 21) rfl rfl rfl rfl (G.gskip (t := 21) rfl rfl rfl rfl (G.q (Quiet.pickT rfl rfl) rfl (G.nil (G.then_n (G.condT rfl (G.seq (G.region (G.q (Quiet.assign rfl) rfl (G.nil (G.then_n (G.ret (G.then_r ?_))))))))))))))))))))))
  have hz : addW ω s k pa = (ω, 1) := by unfold addW; rw [if_pos (by first | exact .inl h1_13 | exact .inr (fun g => by obtain ⟨g1, g2, g3⟩ := g; omega) | exact .inr (fun g => by obtain ⟨g1, g2, g3⟩ := g; simp [g3] at h25) | exact .inr (fun g => h25 g.2.2))]
  rw [hz]
  refine G.rwFold (x := x) ω (by (repeat' constructor)) rfl (rfl) (rfl) ?_
  exact G.done (l := [.tmp 8]) rfl rfl ⟨rfl, rfl⟩ (by (repeat' constructor)) (by (repeat' constructor))
 ·refine G.kDF (t := 12) rfl h1_13 (G.grun (t := 13) rfl rfl rfl (G.q (Quiet.move rfl) rfl (G.grun (t := 13) rfl rfl rfl (G.q (Quiet.int rfl rfl rfl) rfl (G.q (Quiet.pickF rfl rfl) rfl (G.q (Quiet.move rfl) rfl ?_))))))
  refine G.dec (t := 17) rfl (fun h1_17 => ?_) (fun h1_17 => ?_)
  ·refine G.kDT (t := 15) rfl h1_17 (G.kDT (t := 16) rfl h1_17 (G.gskip (t := 17) rfl rfl rfl rfl (G.gskip (t := 17) rfl rfl rfl rfl (G.q (Quiet.pickT rfl rfl) rfl (G.q (Quiet.move rfl) rfl (G.gskip (t := 21) rfl rfl rfl rfl (G.gskip (t := 21) rfl rfl rfl rfl (G.gskip (t := 21) rfl rfl rfl rfl (G.q (Quiet.pickT rfl rfl) rfl (G.nil (G.then_n (G.condT rfl (G.seq (G.region (G.q (Quiet.assign rfl) rfl (G.nil (G.then_n (G.ret (G.then_r ?_)))))))))))))))))))
   have hz : addW ω s k pa = (ω, 1) := by unfold addW; rw [if_pos (by first | exact .inl h1_13 | exact .inr (fun g => by obtain ⟨g1, g2, g3⟩ := g; omega) | exact .inr (fun g => by obtain ⟨g1, g2, g3⟩ := g; simp [g3] at h25) | exact .inr (fun g => h25 g.2.2))]
   rw [hz]
   refine G.rwFold (x := x) ω (by (repeat' constructor)) rfl (rfl) (rfl) ?_
   exact G.done (l := [.tmp 8]) rfl rfl ⟨rfl, rfl⟩ (by (repeat' constructor)) (by (repeat' constructor))
  ·refine G.kDF (t := 15) rfl h1_17 (G.kDF (t := 16) rfl h1_17 (G.grun (t := 17) rfl rfl rfl (G.q (Quiet.move rfl) rfl (G.grun (t := 17) rfl rfl rfl (G.q (Quiet.int rfl rfl rfl) rfl (G.q (Quiet.pickF rfl rfl) rfl (G.q (Quiet.move rfl) rfl ?_)))))))
   refine G.dec (t := 21) rfl (fun h1_21 => ?_) (fun h1_21 => ?_)
   ·refine G.kDT (t := 19) rfl h1_21 (G.kDT (t := 20) rfl h1_21 (G.gskip (t := 21) rfl rfl rfl rfl (G.gskip (t := 21) rfl rfl rfl rfl (G.gskip (t := 21) rfl rfl rfl rfl (G.q (Quiet.pickT rfl rfl) rfl (G.nil (G.then_n (G.condT rfl (G.seq (G.region (G.q (Quiet.assign rfl) rfl (G.nil (G.then_n (G.ret (G.then_r ?_)))))))))))))))
    have hz : addW ω s k pa = (ω, 1) := by unfold addW; rw [if_pos (by first | exact .inl h1_13 | exact .inr (fun g => by obtain ⟨g1, g2, g3⟩ := g; omega) | exact .inr (fun g => by obtain ⟨g1, g2, g3⟩ := g; simp [g3] at h25) | exact .inr (fun g => h25 g.2.2))]
    rw [hz]
    refine G.rwFold (x := x) ω (by (repeat' constructor)) rfl (rfl) (rfl) ?_
    exact G.done (l := [.tmp 8]) rfl rfl ⟨rfl, rfl⟩ (by (repeat' constructor)) (by (repeat' constructor))
   ·refine G.kDF (t := 19) rfl h1_21 (G.kDF (t := 20) rfl h1_21 (G.grun (t := 21) rfl rfl rfl (G.q (Quiet.move rfl) rfl (G.grun (t := 21) rfl rfl rfl ?_))))
    refine G.op (OpSpec.call Tryz.func111 rfl rfl (vs := [_]) rfl (rcheck_spec _ ?hs18)) (by (repeat' constructor)) rfl ?nx19
    case hs18 => first | assumption | omega
    rintro v L' ⟨rfl, rfl⟩
    refine G.grun (t := 21) rfl rfl rfl (G.q (Quiet.int rfl rfl rfl) rfl (G.q (Quiet.pickF rfl rfl) rfl (G.nil (G.then_n ?_))))
    refine G.condN rfl (fun h25 => ?_) (fun h25 => ?_)
    ·refine G.seq (G.region (G.q (Quiet.assign rfl) rfl (G.nil (G.then_n (G.ret (G.then_r ?_))))))
     have hz : addW ω s k pa = (ω, 1) := by unfold addW; rw [if_pos (by first | exact .inl h1_13 | exact .inr (fun g => by obtain ⟨g1, g2, g3⟩ := g; omega) | exact .inr (fun g => by obtain ⟨g1, g2, g3⟩ := g; simp [g3] at h25) | exact .inr (fun g => h25 g.2.2))]
     rw [hz]
     refine G.rwFold (x := x) ω (by (repeat' constructor)) rfl (rfl) (rfl) ?_
     exact G.done (l := [.tmp 8]) rfl rfl ⟨rfl, rfl⟩ (by (repeat' constructor)) (by (repeat' constructor))
    ·have hwt : isWt k pa := ⟨by omega, by omega, by first | exact h25 | simpa using h25⟩
     refine G.skip (G.then_n (G.seq (G.region (G.q (Quiet.move rfl) rfl (G.q (Quiet.move rfl) rfl (G.q (Quiet.move rfl) rfl ?_))))))
     refine G.q (Quiet.to (v' := .agg (wtC ((s, (k, pa)) : Wt)).toArray) (Quiet.build (us := [(0, _), (1, _), (2, _)]) fl_168 ze_168 rfl rfl (by simp [isCell])) rfl) rfl ?_
     refine G.op (OpSpec.allocA ze_168) (by (repeat' constructor)) rfl ?nx27
     rintro v L' ⟨b9, rfl, rfl⟩
     refine G.op (OpSpec.storeA rfl rfl ?c29 sz_168 ?c32 ?c30 ?c31) (by (repeat' constructor)) rfl ?nx33
     case c29 => simp [wtC, isCell]
     case c32 => rfl
     case c30 => simp [wtC]
     case c31 => exact nfz0 _ _
     rintro v L' rfl
     refine G.nil ?_
     refine G.ptCast (b := b9) (l' := wtC ((s, (k, pa)) : Wt)) (by (repeat' constructor)) (by exact rfl) ?_
     refine G.then_n (G.seq (G.seq (G.region (G.q (Quiet.assign rfl) rfl (G.nil (G.then_n (G.block ?_)))))))
     refine G.loopK (ι := Nat) (fun q E => (10, vint q) :: E) (fun q => []) (fun q => q ≤ ω.length ∧ ((s, (k, pa)) : Wt) ∉ ω.take q) (fun q => ω.length - q) (0) (ts := [0, 1, 9]) (.cons rfl (.cons rfl (.cons rfl (.nil)))) (⟨Nat.zero_le _, by simp⟩) ⟨rfl, rfl, rfl, rfl, trivial⟩ (by (repeat' constructor)) ?_
     rintro i ⟨hi, hno⟩
     refine G.seq (G.seq (G.region (G.q (Quiet.move rfl) rfl (G.q (Quiet.move rfl) rfl (G.q (Quiet.nilp rfl) rfl (G.q (Quiet.fieldAddr rfl fo_164_0) rfl ?_))))))
     refine G.q (Quiet.load rfl ag_162 (by (repeat' constructor)) (rfl)) rfl ?_
     refine G.q (Quiet.slen rfl Tryz.underlying162 rfl) rfl (G.q (Quiet.int rfl rfl rfl) rfl (G.nil (G.then_n ?_)))
     refine G.condD rfl (fun h36 => ?_) (fun h36 => ?_)
     ·have hi2 : i < ω.length := by omega
      refine G.slShape (T := 168) (sz := 3) (v := .slice aw ω.length cw) (xs := ω.flatMap wtC) (by (repeat' constructor)) (by omega) fun bw bw' e0 mbw _ => ?_
      simp only [Value.slice.injEq, true_and] at e0
      obtain ⟨rfl, rfl⟩ := e0
      refine G.skip (G.then_n (G.seq (G.block (G.seq ?_))))
      refine G.draw [] [[0, 1, 2, 3, 4, 5, 6, 7, 8]] mixed (by kernel_rfl) ?_
      refine Phases.go [] (by (repeat' constructor)) ?_
      refine D.qw [1, 2, 3, 5, 6, 8] rfl (by kernel_rfl) (Quiet.move rfl) ?_
      refine D.qw [2, 3, 5, 6, 8] rfl (by kernel_rfl) (Quiet.nilp rfl) ?_
      refine D.qw [3, 5, 6, 8] rfl (by kernel_rfl) (Quiet.fieldAddr rfl fo_164_0) ?_
      refine D.qw [5, 6, 8] rfl (by kernel_rfl) (Quiet.load rfl ag_162 (by (repeat' constructor)) (rfl)) ?_
      refine D.qw [5, 6, 8] rfl (by kernel_rfl) (Quiet.move rfl) ?_
      refine D.qw [6, 8] rfl (by kernel_rfl) (Quiet.indexAddr rfl rfl el_162 (by omega)) ?_
      refine D.qw [8] rfl (by kernel_rfl) (Quiet.loadRdA (sz := 3) (j := i * 3) (k := 3) (p := slR 168 3 _ ω.length (ω.flatMap wtC)) (vs := wtC ω[i]) rfl ag_168 (by (repeat' constructor)) (fun h hp => slR_rd hp) (by simp) (by omega) (by omega) (flatMap_at (f := wtC) (sz := 3) (fun _ _ => rfl) (by omega))) ?_
      refine D.qw [8] rfl (by kernel_rfl) (Quiet.loadAs (vs := wtC ((s, (k, pa)) : Wt)) rfl ag_168 (by (repeat' constructor)) (by simp [wtC]) rfl) ?_
      refine D.qw [] rfl (by kernel_rfl) (Quiet.structEq (r := decide (ω[i] = ((s, (k, pa)) : Wt))) rfl rfl (by kernel_rfl) (wt_eq 9998 _ _)) ?_
      refine D.ph (Phases.fin (G.then_n ?_))
      refine G.condD rfl (fun h47 => ?_) (fun h47 => ?_)
      ·refine G.seq (G.region (G.q (Quiet.assign rfl) rfl (G.nil (G.then_n (G.ret (G.blk_r (G.then_r (G.then_r (G.blk_r (G.then_r ?_))))))))))
       have hz : addW ω s k pa = (ω, 0) := by unfold addW; rw [if_neg (by rintro (g | g); exact absurd g (by omega); exact g hwt), if_pos (by rw [← h47]; exact List.getElem_mem hi2)]
       rw [hz]
       refine G.rwFold (x := x) ω (by (repeat' constructor)) rfl (rfl) (rfl) ?_
       exact G.done (l := [.tmp 8]) rfl rfl ⟨rfl, rfl⟩ (by (repeat' constructor)) (by (repeat' constructor))
      ·refine G.skip (G.blk_n (G.then_n (G.region (G.q (Quiet.move rfl) rfl ?_))))
       refine G.q (Quiet.add rfl rfl (by omega)) rfl ?_
       refine G.q (Quiet.assign rfl) rfl (G.nil (G.then_n ?_))
       exact G.roundK (i + 1) (⟨by omega, by rw [List.take_succ_eq_append_getElem hi2, List.mem_append, List.mem_singleton]; rintro (g | g); exact hno g; exact h47 g.symm⟩) (by omega) ⟨rfl, rfl, rfl, rfl, trivial⟩ (by (repeat' constructor)) (by ((repeat (apply Have.cons; (repeat (first | exact Pick.here | apply Pick.there)))); apply Have.base; repeat' constructor))
     ·have hii : i = ω.length := by omega
      rw [hii, List.take_length] at hno
      refine G.rwFold (x := x) ω (by (repeat' constructor)) rfl (rfl) (rfl) ?_
      refine G.exit (G.then_e (G.then_e (G.blk_e (G.then_n (G.seq (G.seq (G.region (G.q (Quiet.move rfl) rfl (G.q (Quiet.move rfl) rfl ?_)))))))))
      refine G.op (OpSpec.call Tryz.func40 rfl rfl (vs := [_, _]) rfl (rwcount_spec x ω s (by omega))) (by (repeat' constructor)) rfl ?nx56
      rintro v L' ⟨rfl, rfl⟩
      refine G.q (Quiet.int rfl rfl rfl) rfl (G.nil (G.then_n ?_))
      refine G.condD rfl (fun h51 => ?_) (fun h51 => ?_)
      ·refine G.seq (G.region (G.q (Quiet.assign rfl) rfl (G.nil (G.then_n (G.ret (G.then_r ?_))))))
       have hz : addW ω s k pa = (ω, 91) := by unfold addW; rw [if_neg (by rintro (g | g); exact absurd g (by omega); exact g hwt), if_neg hno, if_pos (by omega)]
       rw [hz]
       exact G.done (l := [.tmp 8]) rfl rfl ⟨rfl, rfl⟩ (by (repeat' constructor)) (by (repeat' constructor))
      ·refine G.skip (G.then_n (G.seq ?_))
       refine G.rwOpen (x := x) (ω := ω) (by (repeat' constructor)) fun aw cw => ?_
       refine G.draw [6, 7, 10] [[0, 1, 2, 3, 4, 5, 6, 7], [8, 9, 10]] mixed (by kernel_rfl) ?_
       refine Phases.go [ptc x _ _, ptc b9 _ _] (by (repeat' constructor)) ?_
       refine D.q rfl (by kernel_rfl) (Quiet.move rfl) ?_
       refine D.q rfl (by kernel_rfl) (Quiet.move rfl) ?_
       refine D.q rfl (by kernel_rfl) (Quiet.nilp rfl) ?_
       refine D.q rfl (by kernel_rfl) (Quiet.fieldAddr rfl fo_164_0) ?_
       refine D.q rfl (by kernel_rfl) (Quiet.load rfl ag_162 (by (repeat' constructor)) (rfl)) ?_
       refine D.qw [6, 7] rfl (by kernel_rfl) (Quiet.loadAs (vs := wtC ((s, (k, pa)) : Wt)) rfl ag_168 (by (repeat' constructor)) (by simp [wtC]) rfl) ?_
       refine D.h rfl (by kernel_rfl) (OpSpec.buildSlice (vs := [_]) el_162 ze_168 rfl rfl rfl rfl (by first | (simp [Value.cells]; done) | (intro v hv; simp only [List.mem_cons, List.not_mem_nil, or_false] at hv; (repeat (first | (subst hv; rfl) | (rcases hv with hv | hv; (subst hv; rfl)))))) (by decide)) (by (repeat' constructor)) ?nx66
       rintro v L' ⟨b11, rfl, rfl⟩
       refine D.h rfl (by kernel_rfl) (OpSpec.append1 rfl rfl rfl el_162 ze_168 rfl rfl ?c68 ?c69 (Nat.le_refl _) ?c70 (by decide)) (by (repeat' constructor)) ?nx71
       case c68 => simp only [List.map_cons, List.map_nil, List.flatten_cons, List.flatten_nil, List.append_nil]; simp [Value.cells, wtC, isCell]
       case c69 => rfl
       case c70 => omega
       rintro v L' ⟨⟨a11_7, c11_7, rfl⟩, rfl⟩
       refine D.ph ?_
       refine Phases.go [] (by (repeat' constructor)) ?_
       refine D.qw [9, 10] rfl (by kernel_rfl) (Quiet.nilp rfl) ?_
       refine D.qw [10] rfl (by kernel_rfl) (Quiet.fieldAddr rfl fo_164_0) ?_
       refine D.h rfl (by kernel_rfl) (OpSpec.store rfl rfl rfl sz_162 ?c75 ?c76) (by (repeat' constructor)) ?nx77
       case c75 => first | decide | (simp; omega) | simp
       case c76 => exact nfz0 _ _
       rintro v L' rfl
       refine D.ph (Phases.fin (G.then_n (G.seq (G.region (G.q (Quiet.assign rfl) rfl (G.nil (G.then_n (G.ret ?_))))))))
       have hz : addW ω s k pa = (ω ++ [((s, (k, pa)) : Wt)], 0) := by unfold addW; rw [if_neg (by rintro (g | g); exact absurd g (by omega); exact g hwt), if_neg hno, if_neg (by omega)]
       rw [hz]
       refine G.rwFold (x := x) (ω ++ [((s, (k, pa)) : Wt)]) (by (repeat' constructor)) rfl (by simp) (by rw [List.flatMap_append]; rfl) ?_
       exact G.done (l := [.tmp 8]) rfl rfl ⟨rfl, rfl⟩ (by (repeat' constructor)) (by (repeat' constructor))

theorem drop_yes {ω : List Wt} {s : Int} {i : Nat} (hi : i < ω.length) (h : ω[i].1 ≠ s) : dropW (ω.take (i + 1)) s = dropW (ω.take i) s ++ [ω[i]] := by
  unfold dropW
  rw [List.take_succ_eq_append_getElem hi, List.filter_append, List.filter_cons_of_pos (by simpa using h)]; rfl
theorem drop_no {ω : List Wt} {s : Int} {i : Nat} (hi : i < ω.length) (h : ω[i].1 = s) : dropW (ω.take (i + 1)) s = dropW (ω.take i) s := by
  unfold dropW
  rw [List.take_succ_eq_append_getElem hi, List.filter_append, List.filter_cons_of_neg (by simpa using h)]; simp
set_option maxRecDepth 100000 in
theorem rwdrop_spec (x : Nat) (ω : List Wt) (s : Int) (hn : ω.length ≤ 1048576) : Fn Tryz.prog 90 #[vptr x, vint s] [rwR x ω] fun v L => v = .tuple #[] ∧ L = [rwR x (dropW ω s)] := by
 refine Fn.intro (vs := [vptr x, vint s]) Tryz.func90 rfl rfl ?_
 intro F W
 refine G.rwOpen (x := x) (ω := ω) (by (repeat' constructor)) fun aw cw => ?_
 refine G.seq (G.region (G.q (Quiet.assign rfl) rfl (G.nil (G.then_n (G.seq (G.seq (G.add (slR_nil 168 3) (G.region (G.q (Quiet.assign rfl) rfl (G.nil (G.then_n (G.block ?_))))))))))))
 refine G.loopK (ι := Nat × Value) (fun q E => (5, vint q.1) :: (4, q.2) :: E) (fun q => [slR 168 3 q.2 (dropW (ω.take q.1) s).length ((dropW (ω.take q.1) s).flatMap wtC)]) (fun q => q.1 ≤ ω.length ∧ ∃ a c, q.2 = .slice a (dropW (ω.take q.1) s).length c) (fun q => ω.length - q.1) (0, .slice none 0 0) (ts := [0, 1]) (.cons rfl (.cons rfl (.nil))) (⟨Nat.zero_le _, none, 0, rfl⟩) ⟨rfl, rfl, rfl, rfl, trivial⟩ (by (repeat' constructor)) ?_
 rintro ⟨i, u⟩ ⟨hi, au, cu, hu⟩
 dsimp only
 dsimp only at hi hu
 subst hu
 have hdl : (dropW (ω.take i) s).length ≤ i := Nat.le_trans (List.length_filter_le _ _) (by rw [List.length_take]; omega)
 refine G.seq (G.seq (G.region (G.q (Quiet.move rfl) rfl (G.q (Quiet.move rfl) rfl (G.q (Quiet.nilp rfl) rfl (G.q (Quiet.fieldAddr rfl fo_164_0) rfl ?_))))))
 refine G.q (Quiet.load rfl ag_162 (by (repeat' constructor)) (rfl)) rfl ?_
 refine G.q (Quiet.slen rfl Tryz.underlying162 rfl) rfl (G.q (Quiet.int rfl rfl rfl) rfl (G.nil (G.then_n ?_)))
 refine G.condD rfl (fun h12 => ?_) (fun h12 => ?_)
 ·have hi2 : i < ω.length := by omega
  refine G.slShape (T := 168) (sz := 3) (v := .slice aw ω.length cw) (xs := ω.flatMap wtC) (by (repeat' constructor)) (by omega) fun bw bw' e0 mbw _ => ?_
  simp only [Value.slice.injEq, true_and] at e0
  obtain ⟨rfl, rfl⟩ := e0
  refine G.skip (G.then_n (G.seq (G.block (G.seq (G.region (G.q (Quiet.move rfl) rfl (G.q (Quiet.nilp rfl) rfl (G.q (Quiet.fieldAddr rfl fo_164_0) rfl ?_))))))))
  refine G.q (Quiet.load rfl ag_162 (by (repeat' constructor)) (rfl)) rfl ?_
  refine G.q (Quiet.move rfl) rfl ?_
  refine G.q (Quiet.indexAddr rfl rfl el_162 (by omega)) rfl ?_
  refine G.q (Quiet.fieldAddr rfl fo_168_0) rfl ?_
  refine G.q (Quiet.loadRd (sz := 3) (j := i * 3 + 0) (p := slR 168 3 _ ω.length (ω.flatMap wtC)) rfl ag_3 (by (repeat' constructor)) (fun h hp => slR_rd hp) (by omega) ((wt_cell (l := ω) (i := i) (k := 0) (by omega) (by decide)).trans rfl)) rfl ?_
  refine G.q (Quiet.move rfl) rfl (G.q (Quiet.int rfl rfl rfl) rfl (G.nil (G.then_n ?_)))
  refine G.condN rfl (fun h24 => ?_) (fun h24 => ?_)
  ·refine G.region (G.q (Quiet.move rfl) rfl (G.q (Quiet.move rfl) rfl (G.q (Quiet.nilp rfl) rfl (G.q (Quiet.fieldAddr rfl fo_164_0) rfl ?_))))
   refine G.q (Quiet.load rfl ag_162 (by (repeat' constructor)) (rfl)) rfl ?_
   refine G.q (Quiet.move rfl) rfl ?_
   refine G.q (Quiet.indexAddr rfl rfl el_162 (by omega)) rfl ?_
   refine G.q (Quiet.loadRdA (sz := 3) (j := i * 3) (k := 3) (p := slR 168 3 _ ω.length (ω.flatMap wtC)) (vs := wtC ω[i]) rfl ag_168 (by (repeat' constructor)) (fun h hp => slR_rd hp) (by simp) (by omega) (by omega) (flatMap_at (f := wtC) (sz := 3) (fun _ _ => rfl) (by omega))) rfl ?_
   refine G.op (OpSpec.buildSlice (vs := [_]) el_162 ze_168 rfl rfl rfl rfl (by first | (simp [Value.cells]; done) | (intro v hv; simp only [List.mem_cons, List.not_mem_nil, or_false] at hv; (repeat (first | (subst hv; rfl) | (rcases hv with hv | hv; (subst hv; rfl)))))) (by decide)) (by (repeat' constructor)) rfl ?nx28
   rintro v L' ⟨b5, rfl, rfl⟩
   refine G.op (OpSpec.append1 rfl rfl rfl el_162 ze_168 rfl rfl ?c30 ?c31 (Nat.le_refl _) ?c32 (by decide)) (by (repeat' constructor)) rfl ?nx33
   case c30 => simp only [List.map_cons, List.map_nil, List.flatten_cons, List.flatten_nil, List.append_nil]; simp [Value.cells, wtC, isCell]
   case c31 => rfl
   case c32 => omega
   rintro v L' ⟨⟨a5_9, c5_9, rfl⟩, rfl⟩
   refine G.q (Quiet.assign rfl) rfl (G.nil (G.blk_n (G.then_n (G.region (G.q (Quiet.move rfl) rfl ?_)))))
   refine G.q (Quiet.add rfl rfl (by omega)) rfl ?_
   refine G.q (Quiet.assign rfl) rfl (G.nil (G.then_n ?_))
   have hst := drop_yes hi2 h24
   rw [show (dropW (ω.take i) s).length + 1 = (dropW (ω.take (i + 1)) s).length by rw [hst]; simp]
   refine G.slCast (T := 168) (sz := 3) (m' := (dropW (ω.take (i + 1)) s).length) (xs' := (dropW (ω.take (i + 1)) s).flatMap wtC) (by (repeat' constructor)) (by exact rfl) (by rw [hst, List.flatMap_append]; simp [Value.cells, wtC]) ?_
   exact G.roundK ((i + 1, .slice a5_9 (dropW (ω.take (i + 1)) s).length c5_9)) (⟨by dsimp only; omega, _, _, rfl⟩) (by dsimp only; omega) ⟨rfl, rfl, rfl, rfl, trivial⟩ (by (repeat' constructor)) (by ((repeat (apply Have.cons; (repeat (first | exact Pick.here | apply Pick.there)))); apply Have.base; repeat' constructor))
  ·refine G.skip (G.blk_n (G.then_n (G.region (G.q (Quiet.move rfl) rfl ?_))))
   refine G.q (Quiet.add rfl rfl (by omega)) rfl ?_
   refine G.q (Quiet.assign rfl) rfl (G.nil (G.then_n ?_))
   have hst := drop_no hi2 (by first | exact h24 | simpa using h24 | exact Classical.not_not.1 h24)
   rw [← hst]
   exact G.roundK ((i + 1, .slice au (dropW (ω.take (i + 1)) s).length cu)) (⟨by dsimp only; omega, _, _, rfl⟩) (by dsimp only; omega) ⟨rfl, rfl, rfl, rfl, trivial⟩ (by (repeat' constructor)) (by ((repeat (apply Have.cons; (repeat (first | exact Pick.here | apply Pick.there)))); apply Have.base; repeat' constructor))
 ·have hii : i = ω.length := by omega
  rw [hii, List.take_length]
  refine G.exit (G.then_e (G.then_e (G.blk_e (G.then_n (G.region (G.q (Quiet.move rfl) rfl (G.q (Quiet.move rfl) rfl (G.q (Quiet.nilp rfl) rfl (G.q (Quiet.fieldAddr rfl fo_164_0) rfl ?_)))))))))
  refine G.op (OpSpec.store rfl rfl rfl sz_162 ?c43 ?c44) (by (repeat' constructor)) rfl ?nx45
  case c43 => first | decide | (simp; omega) | simp
  case c44 => exact nfz0 _ _
  rintro v L' rfl
  refine G.nil (G.done_n ?_)
  refine G.rwFold (x := x) (dropW ω s) (a := au) (c := cu) (m := (dropW ω s).length) (by (repeat' constructor)) rfl rfl rfl ?_
  exact G.done (l := []) rfl rfl ⟨rfl, rfl⟩ (by (repeat' constructor)) (by (repeat' constructor))

end Go.Proofs.YtnnbelmpbmfdnaaGreatDoor

/- Own work, by program: the document's table of watches: Since: walked. -/
namespace Go.Proofs.YtnnbelmpbmfdnaaGreatDoor
open Go
set_option maxRecDepth 100000 in
theorem rsince_spec (x : Nat) (τ : Tr) (a : Arm) (N : Nat) (ho : τ.Ok N) (hN : N ≤ 1073741824) : Fn Tryz.prog 144 #[vptr x, .agg (armC a).toArray] [refR x τ] fun v L => v = .tuple #[.agg (evC (sinceZ τ a).1).toArray, .bool (sinceZ τ a).2] ∧ L = [refR x τ] := by
 refine Fn.intro (vs := [vptr x, .agg (armC a).toArray]) Tryz.func144 rfl rfl ?_
 intro F W
 have hofew := ho.few
 refine G.seq (G.region ?_)
 refine G.op (OpSpec.box rfl) (by (repeat' constructor)) rfl ?nx1
 rintro v L' ⟨b3, rfl, rfl⟩
 refine G.op (OpSpec.allocA ze_75) (by (repeat' constructor)) rfl ?nx3
 rintro v L' ⟨b4, rfl, rfl⟩
 refine G.q (Quiet.assign rfl) rfl (G.nil ?_)
 refine G.ptCast (b := b3) (l' := armC a) (by (repeat' constructor)) rfl ?_
 refine G.then_n (G.seq (G.region ?_))
 rcases Decidable.em (thereT τ a.2.1) with hth | hth
 ·refine G.q (Quiet.move rfl) rfl (G.q (Quiet.fieldAddr rfl fo_70_1) rfl ?_)
  refine G.q (Quiet.load rfl ag_9 (by (repeat' constructor)) (rfl)) rfl ?_
  refine G.op (OpSpec.call Tryz.func62 rfl rfl (vs := [_, _]) rfl (rstat_spec x τ a.2.1 N ho hN)) (by (repeat' constructor)) rfl ?nx9
  rintro v L' ⟨rfl, rfl⟩; rw [decide_eq_true hth]
  refine G.q (Quiet.move rfl) rfl (G.q (Quiet.extract rfl rfl) rfl (G.q (Quiet.extract rfl rfl) rfl ?_))
  refine G.op (OpSpec.allocA ze_43) (by (repeat' constructor)) rfl ?nx13
  rintro v L' ⟨b6, rfl, rfl⟩
  refine G.op (OpSpec.storeA rfl rfl ?c15 sz_43 ?c18 ?c16 ?c17) (by (repeat' constructor)) rfl ?nx19
  case c15 => simp [stC, isCell]
  case c18 => rfl
  case c16 => simp [stC]
  case c17 => exact nfz0 _ _
  rintro v L' rfl
  refine G.q (Quiet.assign rfl) rfl (G.nil ?_)
  refine G.ptCast (b := b6) (l' := stC (statD τ a.2.1)) (by (repeat' constructor)) rfl ?_
  refine G.then_n (G.seq (G.seq (G.region (G.q (Quiet.fieldAddr rfl fo_70_0) rfl ?_))))
  refine G.q (Quiet.load rfl ag_3 (by (repeat' constructor)) (rfl)) rfl ?_
  refine G.q (Quiet.int rfl rfl rfl) rfl (G.nil (G.then_n ?_))
  refine G.condD rfl (fun h17 => ?_) (fun h17 => ?_)
  ·refine G.seq (G.region (G.q (Quiet.fieldAddr rfl fo_70_1) rfl ?_))
   refine G.q (Quiet.load rfl ag_9 (by (repeat' constructor)) (rfl)) rfl ?_
   refine G.q (Quiet.fieldAddr rfl fo_43_0) rfl ?_
   refine G.q (Quiet.load rfl ag_3 (by (repeat' constructor)) (rfl)) rfl ?_
   refine G.q (Quiet.to (v' := .agg (evC (1, (a.2.1, (statD τ a.2.1).cz))).toArray) (Quiet.build (us := [(0, _), (1, _), (2, _)]) fl_75 ze_75 rfl rfl (by simp [isCell])) rfl) rfl ?_
   refine G.q (Quiet.move rfl) rfl ?_
   refine G.op (OpSpec.storeA rfl rfl ?c28 sz_75 ?c31 ?c29 ?c30) (by (repeat' constructor)) rfl ?nx32
   case c28 => simp [evC, isCell]
   case c31 => rfl
   case c29 => simp [evC]
   case c30 => exact nfz0 _ _
   rintro v L' rfl
   refine G.q (Quiet.assign rfl) rfl (G.nil (G.then_n (G.ret (G.then_r ?_))))
   have hz : sinceZ τ a = ((1, (a.2.1, (statD τ a.2.1).cz)), true) := by unfold sinceZ; rw [if_pos h17, decide_eq_true hth]
   rw [hz]
   refine G.ptCast (b := b4) (l' := evC ((1, (a.2.1, (statD τ a.2.1).cz)), true).1) (by (repeat' constructor)) (by exact rfl) ?_
   exact G.done2 rfl (.cellA rfl ag_75 (by (repeat' constructor)) (by simp [evC]) rfl) (.tmp rfl) ⟨rfl, rfl⟩ (by (repeat' constructor)) (by (repeat' constructor))
  ·refine G.skip (G.then_n (G.seq (G.seq (G.region (G.q (Quiet.move rfl) rfl (G.q (Quiet.not rfl) rfl (G.q (Quiet.move rfl) rfl (G.grun (t := 26) rfl rfl rfl (G.q (Quiet.fieldAddr rfl fo_43_0) rfl (G.grun (t := 26) rfl rfl rfl ?_))))))))))
   refine G.q (Quiet.load rfl ag_3 (by (repeat' constructor)) (rfl)) rfl ?_
   refine G.grun (t := 26) rfl rfl rfl (G.q (Quiet.fieldAddr rfl fo_70_2) rfl (G.grun (t := 26) rfl rfl rfl ?_))
   refine G.q (Quiet.load rfl ag_3 (by (repeat' constructor)) (rfl)) rfl ?_
   refine G.grun (t := 26) rfl rfl rfl (G.q (Quiet.int rfl rfl rfl) rfl (G.q (Quiet.pickF rfl rfl) rfl (G.nil (G.then_n ?_))))
   refine G.condN rfl (fun h32 => ?_) (fun h32 => ?_)
   ·refine G.seq ?_
    refine G.rfOpen (x := x) (τ := τ) (by (repeat' constructor)) fun an cn as1 cs l hl => ?_
    refine G.draw [7] [[0, 1, 2, 3, 4, 5, 6, 7], [8]] mixed (by kernel_rfl) ?_
    refine Phases.go [] (by (repeat' constructor)) ?_
    refine D.qw [1, 6, 7] rfl (by kernel_rfl) (Quiet.fieldAddr rfl fo_70_1) ?_
    refine D.qw [6, 7] rfl (by kernel_rfl) (Quiet.load rfl ag_9 (by (repeat' constructor)) (rfl)) ?_
    refine D.qw [3, 4, 5, 6, 7] rfl (by kernel_rfl) (Quiet.move rfl) ?_
    refine D.qw [4, 5, 6, 7] rfl (by kernel_rfl) (Quiet.nilp rfl) ?_
    refine D.qw [5, 6, 7] rfl (by kernel_rfl) (Quiet.fieldAddr rfl fo_101_2) ?_
    refine D.qw [6, 7] rfl (by kernel_rfl) (Quiet.load rfl ag_3 (by (repeat' constructor)) (rfl)) ?_
    refine D.qw [7] rfl (by kernel_rfl) (Quiet.to (v' := .agg (evC (2, (a.2.1, τ.zx))).toArray) (Quiet.build (us := [(0, _), (1, _), (2, _)]) fl_75 ze_75 rfl rfl (by simp [isCell])) rfl) ?_
    refine D.h rfl (by kernel_rfl) (OpSpec.storeA rfl rfl ?c46 sz_75 ?c49 ?c47 ?c48) (by (repeat' constructor)) ?nx50
    case c46 => simp [evC, isCell]
    case c49 => rfl
    case c47 => simp [evC]
    case c48 => exact nfz0 _ _
    rintro v L' rfl
    refine D.ph ?_
    refine Phases.go [] (by (repeat' constructor)) ?_
    refine D.qw [] rfl (by kernel_rfl) (Quiet.assign rfl) ?_
    refine D.ph (Phases.fin ?_)
    refine G.rfFold (x := x) (τ := τ) (l := l) hl (by (repeat' constructor)) rfl rfl rfl rfl rfl ?_
    refine G.then_n (G.ret (G.then_r ?_))
    have hz : sinceZ τ a = ((2, (a.2.1, τ.zx)), true) := by unfold sinceZ; rw [if_neg h17, if_pos (by first | exact .inl hth | exact .inr h32 | exact .inr (by simpa using h32))]
    rw [hz]
    refine G.ptCast (b := b4) (l' := evC ((2, (a.2.1, τ.zx)), true).1) (by (repeat' constructor)) (by exact rfl) ?_
    exact G.done2 rfl (.cellA rfl ag_75 (by (repeat' constructor)) (by simp [evC]) rfl) (.tmp rfl) ⟨rfl, rfl⟩ (by (repeat' constructor)) (by (repeat' constructor))
   ·refine G.skip (G.then_n (G.seq (G.seq (G.region (G.q (Quiet.fieldAddr rfl fo_70_0) rfl ?_)))))
    refine G.q (Quiet.load rfl ag_3 (by (repeat' constructor)) (rfl)) rfl ?_
    refine G.q (Quiet.int rfl rfl rfl) rfl (G.nil (G.then_n ?_))
    refine G.condD rfl (fun h42 => ?_) (fun h42 => ?_)
    ·refine G.seq ?_
     refine G.draw [10] [[0, 1, 2, 3, 4, 5, 6, 7, 8, 9, 10], [11]] mixed (by kernel_rfl) ?_
     refine Phases.go [ptc b3 _ _, ptc b6 _ _] (by (repeat' constructor)) ?_
     refine D.qw [1, 4, 10] rfl (by kernel_rfl) (Quiet.fieldAddr rfl fo_70_1) ?_
     refine D.qw [4, 10] rfl (by kernel_rfl) (Quiet.load rfl ag_9 (by (repeat' constructor)) (rfl)) ?_
     refine D.qw [3, 4, 10] rfl (by kernel_rfl) (Quiet.fieldAddr rfl fo_43_2) ?_
     refine D.qw [4, 10] rfl (by kernel_rfl) (Quiet.load rfl ag_3 (by (repeat' constructor)) (rfl)) ?_
     refine D.qw [10] rfl (by kernel_rfl) (Quiet.to (v' := .agg (evC (4, (a.2.1, (statD τ a.2.1).pz))).toArray) (Quiet.build (us := [(0, _), (1, _), (2, _)]) fl_75 ze_75 rfl rfl (by simp [isCell])) rfl) ?_
     refine D.q rfl (by kernel_rfl) (Quiet.fieldAddr rfl fo_43_2) ?_
     refine D.q rfl (by kernel_rfl) (Quiet.load rfl ag_3 (by (repeat' constructor)) (rfl)) ?_
     refine D.q rfl (by kernel_rfl) (Quiet.fieldAddr rfl fo_70_4) ?_
     refine D.q rfl (by kernel_rfl) (Quiet.load rfl ag_3 (by (repeat' constructor)) (rfl)) ?_
     refine D.q rfl (by kernel_rfl) (Quiet.int rfl rfl rfl) ?_
     refine D.h rfl (by kernel_rfl) (OpSpec.storeA rfl rfl ?c65 sz_75 ?c68 ?c66 ?c67) (by (repeat' constructor)) ?nx69
     case c65 => simp [evC, isCell]
     case c68 => rfl
     case c66 => simp [evC]
     case c67 => exact nfz0 _ _
     rintro v L' rfl
     refine D.ph ?_
     refine Phases.go [] (by (repeat' constructor)) ?_
     refine D.qw [] rfl (by kernel_rfl) (Quiet.assign rfl) ?_
     refine D.ph (Phases.fin (G.then_n (G.ret (G.then_r ?_))))
     have hz : sinceZ τ a = ((4, (a.2.1, (statD τ a.2.1).pz)), !decide ((statD τ a.2.1).pz = a.2.2.2.2)) := by unfold sinceZ; rw [if_neg h17, if_neg (by rintro (g | g); exact g hth; exact g h32), if_pos h42, decide_not]
     rw [hz]
     refine G.ptCast (b := b4) (l' := evC ((4, (a.2.1, (statD τ a.2.1).pz)), !decide ((statD τ a.2.1).pz = a.2.2.2.2)).1) (by (repeat' constructor)) (by exact rfl) ?_
     exact G.done2 rfl (.cellA rfl ag_75 (by (repeat' constructor)) (by simp [evC]) rfl) (.tmp rfl) ⟨rfl, rfl⟩ (by (repeat' constructor)) (by (repeat' constructor))
    ·refine G.skip (G.then_n (G.seq ?_))
     refine G.draw [10] [[0, 1, 2, 3, 4, 5, 6, 7, 8, 9, 10], [11]] mixed (by kernel_rfl) ?_
     refine Phases.go [ptc b3 _ _, ptc b6 _ _] (by (repeat' constructor)) ?_
     refine D.qw [1, 4, 10] rfl (by kernel_rfl) (Quiet.fieldAddr rfl fo_70_1) ?_
     refine D.qw [4, 10] rfl (by kernel_rfl) (Quiet.load rfl ag_9 (by (repeat' constructor)) (rfl)) ?_
     refine D.qw [3, 4, 10] rfl (by kernel_rfl) (Quiet.fieldAddr rfl fo_43_1) ?_
     refine D.qw [4, 10] rfl (by kernel_rfl) (Quiet.load rfl ag_3 (by (repeat' constructor)) (rfl)) ?_
     refine D.qw [10] rfl (by kernel_rfl) (Quiet.to (v' := .agg (evC (3, (a.2.1, (statD τ a.2.1).mz))).toArray) (Quiet.build (us := [(0, _), (1, _), (2, _)]) fl_75 ze_75 rfl rfl (by simp [isCell])) rfl) ?_
     refine D.q rfl (by kernel_rfl) (Quiet.fieldAddr rfl fo_43_1) ?_
     refine D.q rfl (by kernel_rfl) (Quiet.load rfl ag_3 (by (repeat' constructor)) (rfl)) ?_
     refine D.q rfl (by kernel_rfl) (Quiet.fieldAddr rfl fo_70_3) ?_
     refine D.q rfl (by kernel_rfl) (Quiet.load rfl ag_3 (by (repeat' constructor)) (rfl)) ?_
     refine D.q rfl (by kernel_rfl) (Quiet.int rfl rfl rfl) ?_
     refine D.h rfl (by kernel_rfl) (OpSpec.storeA rfl rfl ?c80 sz_75 ?c83 ?c81 ?c82) (by (repeat' constructor)) ?nx84
     case c80 => simp [evC, isCell]
     case c83 => rfl
     case c81 => simp [evC]
     case c82 => exact nfz0 _ _
     rintro v L' rfl
     refine D.ph ?_
     refine Phases.go [] (by (repeat' constructor)) ?_
     refine D.qw [] rfl (by kernel_rfl) (Quiet.assign rfl) ?_
     refine D.ph (Phases.fin (G.then_n (G.ret ?_)))
     have hz : sinceZ τ a = ((3, (a.2.1, (statD τ a.2.1).mz)), !decide ((statD τ a.2.1).mz = a.2.2.2.1)) := by unfold sinceZ; rw [if_neg h17, if_neg (by rintro (g | g); exact g hth; exact g h32), if_neg h42, decide_not]
     rw [hz]
     refine G.ptCast (b := b4) (l' := evC ((3, (a.2.1, (statD τ a.2.1).mz)), !decide ((statD τ a.2.1).mz = a.2.2.2.1)).1) (by (repeat' constructor)) (by exact rfl) ?_
     exact G.done2 rfl (.cellA rfl ag_75 (by (repeat' constructor)) (by simp [evC]) rfl) (.tmp rfl) ⟨rfl, rfl⟩ (by (repeat' constructor)) (by (repeat' constructor))
 ·refine G.q (Quiet.move rfl) rfl (G.q (Quiet.fieldAddr rfl fo_70_1) rfl ?_)
  refine G.q (Quiet.load rfl ag_9 (by (repeat' constructor)) (rfl)) rfl ?_
  refine G.op (OpSpec.call Tryz.func62 rfl rfl (vs := [_, _]) rfl (rstat_spec x τ a.2.1 N ho hN)) (by (repeat' constructor)) rfl ?nx88
  rintro v L' ⟨rfl, rfl⟩; rw [decide_eq_false hth]
  refine G.q (Quiet.move rfl) rfl (G.q (Quiet.extract rfl rfl) rfl (G.q (Quiet.extract rfl rfl) rfl ?_))
  refine G.op (OpSpec.allocA ze_43) (by (repeat' constructor)) rfl ?nx92
  rintro v L' ⟨b6, rfl, rfl⟩
  refine G.op (OpSpec.storeA rfl rfl ?c94 sz_43 ?c97 ?c95 ?c96) (by (repeat' constructor)) rfl ?nx98
  case c94 => simp [stC, isCell]
  case c97 => rfl
  case c95 => simp [stC]
  case c96 => exact nfz0 _ _
  rintro v L' rfl
  refine G.q (Quiet.assign rfl) rfl (G.nil ?_)
  refine G.ptCast (b := b6) (l' := stC (statD τ a.2.1)) (by (repeat' constructor)) rfl ?_
  refine G.then_n (G.seq (G.seq (G.region (G.q (Quiet.fieldAddr rfl fo_70_0) rfl ?_))))
  refine G.q (Quiet.load rfl ag_3 (by (repeat' constructor)) (rfl)) rfl ?_
  refine G.q (Quiet.int rfl rfl rfl) rfl (G.nil (G.then_n ?_))
  refine G.condD rfl (fun h17 => ?_) (fun h17 => ?_)
  ·refine G.seq (G.region (G.q (Quiet.fieldAddr rfl fo_70_1) rfl ?_))
   refine G.q (Quiet.load rfl ag_9 (by (repeat' constructor)) (rfl)) rfl ?_
   refine G.q (Quiet.fieldAddr rfl fo_43_0) rfl ?_
   refine G.q (Quiet.load rfl ag_3 (by (repeat' constructor)) (rfl)) rfl ?_
   refine G.q (Quiet.to (v' := .agg (evC (1, (a.2.1, (statD τ a.2.1).cz))).toArray) (Quiet.build (us := [(0, _), (1, _), (2, _)]) fl_75 ze_75 rfl rfl (by simp [isCell])) rfl) rfl ?_
   refine G.q (Quiet.move rfl) rfl ?_
   refine G.op (OpSpec.storeA rfl rfl ?c107 sz_75 ?c110 ?c108 ?c109) (by (repeat' constructor)) rfl ?nx111
   case c107 => simp [evC, isCell]
   case c110 => rfl
   case c108 => simp [evC]
   case c109 => exact nfz0 _ _
   rintro v L' rfl
   refine G.q (Quiet.assign rfl) rfl (G.nil (G.then_n (G.ret (G.then_r ?_))))
   have hz : sinceZ τ a = ((1, (a.2.1, (statD τ a.2.1).cz)), false) := by unfold sinceZ; rw [if_pos h17, decide_eq_false hth]
   rw [hz]
   refine G.ptCast (b := b4) (l' := evC ((1, (a.2.1, (statD τ a.2.1).cz)), false).1) (by (repeat' constructor)) (by exact rfl) ?_
   exact G.done2 rfl (.cellA rfl ag_75 (by (repeat' constructor)) (by simp [evC]) rfl) (.tmp rfl) ⟨rfl, rfl⟩ (by (repeat' constructor)) (by (repeat' constructor))
  ·refine G.skip (G.then_n (G.seq (G.seq (G.region (G.q (Quiet.move rfl) rfl (G.q (Quiet.not rfl) rfl (G.q (Quiet.move rfl) rfl (G.gskip (t := 26) rfl rfl rfl rfl (G.gskip (t := 26) rfl rfl rfl rfl (G.gskip (t := 26) rfl rfl rfl rfl (G.gskip (t := 26) rfl rfl rfl rfl (G.gskip (t := 26) rfl rfl rfl rfl (G.q (Quiet.pickT rfl rfl) rfl (G.nil (G.then_n (G.condT rfl (G.seq ?_)))))))))))))))))
   refine G.rfOpen (x := x) (τ := τ) (by (repeat' constructor)) fun an cn as1 cs l hl => ?_
   refine G.draw [7] [[0, 1, 2, 3, 4, 5, 6, 7], [8]] mixed (by kernel_rfl) ?_
   refine Phases.go [] (by (repeat' constructor)) ?_
   refine D.qw [1, 6, 7] rfl (by kernel_rfl) (Quiet.fieldAddr rfl fo_70_1) ?_
   refine D.qw [6, 7] rfl (by kernel_rfl) (Quiet.load rfl ag_9 (by (repeat' constructor)) (rfl)) ?_
   refine D.qw [3, 4, 5, 6, 7] rfl (by kernel_rfl) (Quiet.move rfl) ?_
   refine D.qw [4, 5, 6, 7] rfl (by kernel_rfl) (Quiet.nilp rfl) ?_
   refine D.qw [5, 6, 7] rfl (by kernel_rfl) (Quiet.fieldAddr rfl fo_101_2) ?_
   refine D.qw [6, 7] rfl (by kernel_rfl) (Quiet.load rfl ag_3 (by (repeat' constructor)) (rfl)) ?_
   refine D.qw [7] rfl (by kernel_rfl) (Quiet.to (v' := .agg (evC (2, (a.2.1, τ.zx))).toArray) (Quiet.build (us := [(0, _), (1, _), (2, _)]) fl_75 ze_75 rfl rfl (by simp [isCell])) rfl) ?_
   refine D.h rfl (by kernel_rfl) (OpSpec.storeA rfl rfl ?c121 sz_75 ?c124 ?c122 ?c123) (by (repeat' constructor)) ?nx125
   case c121 => simp [evC, isCell]
   case c124 => rfl
   case c122 => simp [evC]
   case c123 => exact nfz0 _ _
   rintro v L' rfl
   refine D.ph ?_
   refine Phases.go [] (by (repeat' constructor)) ?_
   refine D.qw [] rfl (by kernel_rfl) (Quiet.assign rfl) ?_
   refine D.ph (Phases.fin ?_)
   refine G.rfFold (x := x) (τ := τ) (l := l) hl (by (repeat' constructor)) rfl rfl rfl rfl rfl ?_
   refine G.then_n (G.ret (G.then_r ?_))
   have hz : sinceZ τ a = ((2, (a.2.1, τ.zx)), true) := by unfold sinceZ; rw [if_neg h17, if_pos (by first | exact .inl hth | exact .inr h32 | exact .inr (by simpa using h32))]
   rw [hz]
   refine G.ptCast (b := b4) (l' := evC ((2, (a.2.1, τ.zx)), true).1) (by (repeat' constructor)) (by exact rfl) ?_
   exact G.done2 rfl (.cellA rfl ag_75 (by (repeat' constructor)) (by simp [evC]) rfl) (.tmp rfl) ⟨rfl, rfl⟩ (by (repeat' constructor)) (by (repeat' constructor))

theorem G.rwCast {W : World} {n : Nat} {ds : List Deferred} {E : Env} {L R : List HP} {X : Act → World → Prop} {x : Nat} {ω ω' : List Wt} (hL : Pick (rwR x ω) L R) (hw : ω' = ω) (h : G W n ds E (rwR x ω' :: R) X) : G W n ds E L X := by
  subst hw; exact G.perm hL.perm h
set_option maxRecDepth 100000 in
theorem rwarm_spec (x y : Nat) (ω : List Wt) (τ : Tr) (s : Int) (va : Value) (l : List Arm) (p : HP) (hl : ArmsA p va l) (N : Nat) (ho : τ.Ok N) (hN : N ≤ 1073741824) (M : Nat) (hk : Wk ω M) (hM : M + l.length ≤ 1048576) : Fn Tryz.prog 117 #[vptr x, vint s, vptr y, va] [rwR x ω, refR y τ, p] fun v L => ∃ a c, v = .slice a (armZ τ s ω l).2.length c ∧ L = [rwR x (armZ τ s ω l).1, refR y τ, p, slR 75 3 v (armZ τ s ω l).2.length ((armZ τ s ω l).2.flatMap evC)] := by
 refine Fn.intro (vs := [vptr x, vint s, vptr y, va]) Tryz.func117 rfl rfl ?_
 intro F W
 refine G.rdAny (p := p) hl.cells (by (repeat' constructor)) fun aa ca e0 _ => ?_
 subst e0
 have hll := hl.len
 refine G.seq (G.region (G.q (Quiet.assign rfl) rfl (G.nil (G.then_n (G.seq (G.add (slR_nil 75 3) (G.region (G.q (Quiet.assign rfl) rfl (G.nil (G.then_n (G.seq (G.seq (G.region (G.q (Quiet.assign rfl) rfl (G.nil (G.then_n (G.block ?_)))))))))))))))))
 refine G.rwCast (x := x) (ω' := (armL τ s ω (l.take 0)).1) (by (repeat' constructor)) (by rw [List.take_zero]; rfl) ?_
 refine G.loopK (ι := Nat × Value) (fun q E => (10, vint q.1) :: (9, q.2) :: E) (fun q => [rwR x (armL τ s ω (l.take q.1)).1, slR 75 3 q.2 (armL τ s ω (l.take q.1)).2.length ((armL τ s ω (l.take q.1)).2.flatMap evC)]) (fun q => q.1 ≤ l.length ∧ (s < 1 → q.1 = 0) ∧ ∃ a c, q.2 = .slice a (armL τ s ω (l.take q.1)).2.length c) (fun q => l.length - q.1) (0, .slice none 0 0) (ts := [0, 1, 2, 3, 8]) (.cons rfl (.cons rfl (.cons rfl (.cons rfl (.cons rfl (.nil)))))) (⟨Nat.zero_le _, fun _ => rfl, none, 0, rfl⟩) ⟨rfl, rfl, rfl, rfl, rfl, rfl, rfl, trivial⟩ (by (repeat' constructor)) ?_
 rintro ⟨i, w⟩ ⟨hi, hs0, au, cu, hw⟩
 dsimp only
 dsimp only at hi hs0 hw
 subst hw
 have hal := armL_len τ s ω l i hi
 have hwk := hk.armL (τ := τ) (s := s) l i hi
 have hwl := hwk.len
 refine G.seq (G.seq (G.region (G.q (Quiet.move rfl) rfl (G.q (Quiet.move rfl) rfl (G.q (Quiet.slen rfl Tryz.underlying82 rfl) rfl (G.q (Quiet.int rfl rfl rfl) rfl (G.q (Quiet.move rfl) rfl ?_)))))))
 refine G.dec (t := 20) rfl (fun h3_20 => ?_) (fun h3_20 => ?_)
 ·refine G.kDT (t := 19) rfl h3_20 (G.grun (t := 20) rfl rfl rfl (G.q (Quiet.move rfl) rfl (G.grun (t := 20) rfl rfl rfl (G.q (Quiet.int rfl rfl rfl) rfl (G.q (Quiet.pickT rfl rfl) rfl (G.nil (G.then_n ?_)))))))
  refine G.condD rfl (fun h23 => ?_) (fun h23 => ?_)
  ·have hi2 : i < l.length := by omega
   have hs1 : 1 ≤ s := by omega
   have hp1 := hl.paths _ (List.getElem_mem hi2)
   refine G.rdShape (p := p) hl.cells (by (repeat' constructor)) (by omega) fun bl ol e1 => ?_
   subst e1
   refine G.skip (G.then_n (G.seq (G.block (G.seq (G.region (G.q (Quiet.move rfl) rfl (G.q (Quiet.move rfl) rfl ?_)))))))
   refine G.q (Quiet.indexAddr rfl rfl el_82 (by omega)) rfl ?_
   refine G.q (Quiet.loadRdA (sz := 5) (j := i * 5) (k := 5) (p := p) (vs := armC l[i]) rfl ag_70 (by (repeat' constructor)) hl.cells (by simp) (by omega) (by omega) (flatMap_at (f := armC) (sz := 5) (fun _ _ => rfl) (by omega))) rfl ?_
   refine G.op (OpSpec.allocA ze_70) (by (repeat' constructor)) rfl ?nx14
   rintro v L' ⟨b11, rfl, rfl⟩
   refine G.op (OpSpec.storeA rfl rfl ?c16 sz_70 ?c19 ?c17 ?c18) (by (repeat' constructor)) rfl ?nx20
   case c16 => simp [armC, isCell]
   case c19 => rfl
   case c17 => simp [armC]
   case c18 => exact nfz0 _ _
   rintro v L' rfl
   refine G.nil ?_
   refine G.ptCast (b := b11) (l' := armC l[i]) (by (repeat' constructor)) (by exact rfl) ?_
   refine G.then_n (G.seq (G.seq (G.region (G.q (Quiet.fieldAddr rfl fo_70_0) rfl ?_))))
   refine G.q (Quiet.load rfl ag_3 (by (repeat' constructor)) (rfl)) rfl ?_
   refine G.q (Quiet.int rfl rfl rfl) rfl (G.q (Quiet.move rfl) rfl ?_)
   refine G.dec (t := 33) rfl (fun h6_33 => ?_) (fun h6_33 => ?_)
   ·refine G.kDT (t := 32) rfl h6_33 (G.gskip (t := 33) rfl rfl rfl rfl (G.gskip (t := 33) rfl rfl rfl rfl (G.gskip (t := 33) rfl rfl rfl rfl (G.q (Quiet.pickT rfl rfl) rfl (G.q (Quiet.move rfl) rfl (G.gskip (t := 38) rfl rfl rfl rfl (G.gskip (t := 38) rfl rfl rfl rfl (G.gskip (t := 38) rfl rfl rfl rfl (G.gskip (t := 38) rfl rfl rfl rfl (G.q (Quiet.pickT rfl rfl) rfl (G.nil (G.then_n (G.condT rfl (G.exit (G.then_e (G.blk_e (G.then_n (G.region (G.q (Quiet.move rfl) rfl ?_)))))))))))))))))))
    refine G.q (Quiet.add rfl rfl (by omega)) rfl ?_
    refine G.q (Quiet.assign rfl) rfl (G.nil (G.then_n ?_))
    have hA : (armL τ s ω (l.take (i + 1))) = (armL τ s ω (l.take i)) := by rw [armL_step τ s ω hi2]; unfold armS; rw [if_pos (fun g => by obtain ⟨g1, g2, g3⟩ := g; first | omega | (simp [g3] at h43))]
    refine G.rwCast (x := x) (ω' := (armL τ s ω (l.take (i + 1))).1) (by (repeat' constructor)) (by rw [hA]) ?_
    rw [show (armL τ s ω (l.take i)).2.length = (armL τ s ω (l.take (i + 1))).2.length by rw [hA]]
    refine G.slCast (T := 75) (sz := 3) (m' := (armL τ s ω (l.take (i + 1))).2.length) (xs' := (armL τ s ω (l.take (i + 1))).2.flatMap evC) (by (repeat' constructor)) (by exact rfl) (by rw [hA]) ?_
    exact G.roundK ((i + 1, .slice au (armL τ s ω (l.take (i + 1))).2.length cu)) (⟨by dsimp only; omega, fun g => absurd g (by omega), _, _, rfl⟩) (by dsimp only; omega) ⟨rfl, rfl, rfl, rfl, rfl, rfl, rfl, trivial⟩ (by (repeat' constructor)) (by ((repeat (apply Have.cons; (repeat (first | exact Pick.here | apply Pick.there)))); apply Have.base; repeat' constructor))
   ·refine G.kDF (t := 32) rfl h6_33 (G.grun (t := 33) rfl rfl rfl (G.q (Quiet.fieldAddr rfl fo_70_0) rfl (G.grun (t := 33) rfl rfl rfl ?_)))
    refine G.q (Quiet.load rfl ag_3 (by (repeat' constructor)) (rfl)) rfl ?_
    refine G.grun (t := 33) rfl rfl rfl (G.q (Quiet.int rfl rfl rfl) rfl (G.q (Quiet.pickF rfl rfl) rfl (G.q (Quiet.move rfl) rfl ?_)))
    refine G.dec (t := 38) rfl (fun h6_38 => ?_) (fun h6_38 => ?_)
    ·refine G.kDT (t := 36) rfl h6_38 (G.kDT (t := 37) rfl h6_38 (G.gskip (t := 38) rfl rfl rfl rfl (G.gskip (t := 38) rfl rfl rfl rfl (G.gskip (t := 38) rfl rfl rfl rfl (G.gskip (t := 38) rfl rfl rfl rfl (G.q (Quiet.pickT rfl rfl) rfl (G.nil (G.then_n (G.condT rfl (G.exit (G.then_e (G.blk_e (G.then_n (G.region (G.q (Quiet.move rfl) rfl ?_)))))))))))))))
     refine G.q (Quiet.add rfl rfl (by omega)) rfl ?_
     refine G.q (Quiet.assign rfl) rfl (G.nil (G.then_n ?_))
     have hA : (armL τ s ω (l.take (i + 1))) = (armL τ s ω (l.take i)) := by rw [armL_step τ s ω hi2]; unfold armS; rw [if_pos (fun g => by obtain ⟨g1, g2, g3⟩ := g; first | omega | (simp [g3] at h43))]
     refine G.rwCast (x := x) (ω' := (armL τ s ω (l.take (i + 1))).1) (by (repeat' constructor)) (by rw [hA]) ?_
     rw [show (armL τ s ω (l.take i)).2.length = (armL τ s ω (l.take (i + 1))).2.length by rw [hA]]
     refine G.slCast (T := 75) (sz := 3) (m' := (armL τ s ω (l.take (i + 1))).2.length) (xs' := (armL τ s ω (l.take (i + 1))).2.flatMap evC) (by (repeat' constructor)) (by exact rfl) (by rw [hA]) ?_
     exact G.roundK ((i + 1, .slice au (armL τ s ω (l.take (i + 1))).2.length cu)) (⟨by dsimp only; omega, fun g => absurd g (by omega), _, _, rfl⟩) (by dsimp only; omega) ⟨rfl, rfl, rfl, rfl, rfl, rfl, rfl, trivial⟩ (by (repeat' constructor)) (by ((repeat (apply Have.cons; (repeat (first | exact Pick.here | apply Pick.there)))); apply Have.base; repeat' constructor))
    ·refine G.kDF (t := 36) rfl h6_38 (G.kDF (t := 37) rfl h6_38 (G.grun (t := 38) rfl rfl rfl (G.q (Quiet.fieldAddr rfl fo_70_1) rfl (G.grun (t := 38) rfl rfl rfl ?_))))
     refine G.q (Quiet.load rfl ag_9 (by (repeat' constructor)) (rfl)) rfl ?_
     refine G.grun (t := 38) rfl rfl rfl ?_
     refine G.op (OpSpec.call Tryz.func111 rfl rfl (vs := [_]) rfl (rcheck_spec _ ?hs36)) (by (repeat' constructor)) rfl ?nx37
     case hs36 => first | assumption | omega
     rintro v L' ⟨rfl, rfl⟩
     refine G.grun (t := 38) rfl rfl rfl (G.q (Quiet.int rfl rfl rfl) rfl (G.q (Quiet.pickF rfl rfl) rfl (G.nil (G.then_n ?_))))
     refine G.condN rfl (fun h43 => ?_) (fun h43 => ?_)
     ·refine G.exit (G.then_e (G.blk_e (G.then_n (G.region (G.q (Quiet.move rfl) rfl ?_)))))
      refine G.q (Quiet.add rfl rfl (by omega)) rfl ?_
      refine G.q (Quiet.assign rfl) rfl (G.nil (G.then_n ?_))
      have hA : (armL τ s ω (l.take (i + 1))) = (armL τ s ω (l.take i)) := by rw [armL_step τ s ω hi2]; unfold armS; rw [if_pos (fun g => by obtain ⟨g1, g2, g3⟩ := g; first | omega | (simp [g3] at h43))]
      refine G.rwCast (x := x) (ω' := (armL τ s ω (l.take (i + 1))).1) (by (repeat' constructor)) (by rw [hA]) ?_
      rw [show (armL τ s ω (l.take i)).2.length = (armL τ s ω (l.take (i + 1))).2.length by rw [hA]]
      refine G.slCast (T := 75) (sz := 3) (m' := (armL τ s ω (l.take (i + 1))).2.length) (xs' := (armL τ s ω (l.take (i + 1))).2.flatMap evC) (by (repeat' constructor)) (by exact rfl) (by rw [hA]) ?_
      exact G.roundK ((i + 1, .slice au (armL τ s ω (l.take (i + 1))).2.length cu)) (⟨by dsimp only; omega, fun g => absurd g (by omega), _, _, rfl⟩) (by dsimp only; omega) ⟨rfl, rfl, rfl, rfl, rfl, rfl, rfl, trivial⟩ (by (repeat' constructor)) (by ((repeat (apply Have.cons; (repeat (first | exact Pick.here | apply Pick.there)))); apply Have.base; repeat' constructor))
     ·have h43 : isWt l[i].1 l[i].2.1 := ⟨by omega, by omega, by first | exact h43 | simpa using h43⟩
      refine G.skip (G.then_n (G.seq (G.region (G.q (Quiet.move rfl) rfl ?_))))
      refine G.q (Quiet.loadAs (vs := armC l[i]) rfl ag_70 (by (repeat' constructor)) (by simp [armC]) rfl) rfl ?_
      refine G.op (OpSpec.call Tryz.func144 rfl rfl (vs := [_, _]) rfl (rsince_spec y τ l[i] N ho hN)) (by (repeat' constructor)) rfl ?nx44
      rintro v L' ⟨rfl, rfl⟩
      refine G.q (Quiet.move rfl) rfl (G.q (Quiet.extract rfl rfl) rfl (G.q (Quiet.extract rfl rfl) rfl ?_))
      refine G.op (OpSpec.allocA ze_75) (by (repeat' constructor)) rfl ?nx48
      rintro v L' ⟨b12, rfl, rfl⟩
      refine G.op (OpSpec.storeA rfl rfl ?c50 sz_75 ?c53 ?c51 ?c52) (by (repeat' constructor)) rfl ?nx54
      case c50 => simp [evC, isCell]
      case c53 => rfl
      case c51 => simp [evC]
      case c52 => exact nfz0 _ _
      rintro v L' rfl
      refine G.q (Quiet.assign rfl) rfl (G.nil ?_)
      refine G.ptCast (b := b12) (l' := evC (sinceZ τ l[i]).1) (by (repeat' constructor)) (by exact rfl) ?_
      refine G.then_n (G.seq (G.seq (G.region (G.q (Quiet.move rfl) rfl (G.q (Quiet.not rfl) rfl (G.nil (G.then_n ?_)))))))
      refine G.condB rfl (fun h51 => ?_) (fun h51 => ?_)
      ·have h51 : (sinceZ τ l[i]).2 = false := by simpa using h51
       refine G.seq (G.region (G.q (Quiet.move rfl) rfl (G.q (Quiet.move rfl) rfl (G.q (Quiet.fieldAddr rfl fo_70_0) rfl ?_))))
       refine G.q (Quiet.load rfl ag_3 (by (repeat' constructor)) (rfl)) rfl ?_
       refine G.q (Quiet.fieldAddr rfl fo_70_1) rfl ?_
       refine G.q (Quiet.load rfl ag_9 (by (repeat' constructor)) (rfl)) rfl ?_
       refine G.op (OpSpec.call Tryz.func86 rfl rfl (vs := [_, _, _, _]) rfl (rwadd_spec x (armL τ s ω (l.take i)).1 s l[i].1 l[i].2.1 hp1 (hwk.few s) (by omega))) (by (repeat' constructor)) rfl ?nx62
       rintro v L' ⟨rfl, rfl⟩
       refine G.nil (G.then_n (G.exit (G.then_e (G.blk_e (G.then_n (G.region (G.q (Quiet.move rfl) rfl ?_)))))))
       refine G.q (Quiet.add rfl rfl (by omega)) rfl ?_
       refine G.q (Quiet.assign rfl) rfl (G.nil (G.then_n ?_))
       have hA : (armL τ s ω (l.take (i + 1))) = ((addW (armL τ s ω (l.take i)).1 s l[i].1 l[i].2.1).1, (armL τ s ω (l.take i)).2) := by rw [armL_step τ s ω hi2]; unfold armS; rw [if_neg (fun g => g h43), if_pos h51]
       refine G.rwCast (x := x) (ω' := (armL τ s ω (l.take (i + 1))).1) (by (repeat' constructor)) (by rw [hA]) ?_
       rw [show (armL τ s ω (l.take i)).2.length = (armL τ s ω (l.take (i + 1))).2.length by rw [hA]]
       refine G.slCast (T := 75) (sz := 3) (m' := (armL τ s ω (l.take (i + 1))).2.length) (xs' := (armL τ s ω (l.take (i + 1))).2.flatMap evC) (by (repeat' constructor)) (by exact rfl) (by rw [hA]) ?_
       exact G.roundK ((i + 1, .slice au (armL τ s ω (l.take (i + 1))).2.length cu)) (⟨by dsimp only; omega, fun g => absurd g (by omega), _, _, rfl⟩) (by dsimp only; omega) ⟨rfl, rfl, rfl, rfl, rfl, rfl, rfl, trivial⟩ (by (repeat' constructor)) (by ((repeat (apply Have.cons; (repeat (first | exact Pick.here | apply Pick.there)))); apply Have.base; repeat' constructor))
      ·have h51 : (sinceZ τ l[i]).2 = true := by simpa using h51
       refine G.skip (G.then_n (G.seq (G.region (G.q (Quiet.assign rfl) rfl (G.nil (G.then_n (G.seq (G.seq (G.region (G.q (Quiet.assign rfl) rfl (G.nil (G.then_n (G.block ?_)))))))))))))
       refine G.loopK (ι := Nat × Bool) (fun q E => (15, vint q.1) :: (14, .bool q.2) :: E) (fun q => []) (fun q => q.1 ≤ (armL τ s ω (l.take i)).2.length ∧ q.2 = decide ((sinceZ τ l[i]).1 ∈ (armL τ s ω (l.take i)).2.take q.1)) (fun q => (armL τ s ω (l.take i)).2.length - q.1) (0, false) (ts := [0, 1, 2, 3, 8, 9, 10, 11, 12, 13, 16, 17, 18, 19, 20, 21, 22, 23, 26, 27, 28, 29, 30, 31, 32, 33, 34, 35, 36, 37, 38, 39, 40, 41, 42, 43, 44, 45, 46, 47, 48, 49, 50, 51]) (.cons rfl (.cons rfl (.cons rfl (.cons rfl (.cons rfl (.cons rfl (.cons rfl (.cons rfl (.cons rfl (.cons rfl (.cons rfl (.cons rfl (.cons rfl (.cons rfl (.cons rfl (.cons rfl (.cons rfl (.cons rfl (.cons rfl (.cons rfl (.cons rfl (.cons rfl (.cons rfl (.cons rfl (.cons rfl (.cons rfl (.cons rfl (.cons rfl (.cons rfl (.cons rfl (.cons rfl (.cons rfl (.cons rfl (.cons rfl (.cons rfl (.cons rfl (.cons rfl (.cons rfl (.cons rfl (.cons rfl (.cons rfl (.cons rfl (.cons rfl (.cons rfl (.nil))))))))))))))))))))))))))))))))))))))))))))) (⟨Nat.zero_le _, by simp⟩) ⟨rfl, rfl, rfl, rfl, rfl, rfl, rfl, rfl, rfl, rfl, rfl, rfl, rfl, rfl, rfl, rfl, rfl, rfl, rfl, rfl, rfl, rfl, rfl, rfl, rfl, rfl, rfl, rfl, rfl, rfl, rfl, rfl, rfl, rfl, rfl, rfl, rfl, rfl, rfl, rfl, rfl, rfl, rfl, rfl, rfl, rfl, trivial⟩ (by (repeat' constructor)) ?_
       rintro ⟨k, tw⟩ ⟨hk0, htw⟩
       dsimp only
       dsimp only at hk0 htw
       rw [htw]
       refine G.seq (G.seq (G.region (G.q (Quiet.move rfl) rfl (G.q (Quiet.move rfl) rfl (G.q (Quiet.slen rfl Tryz.underlying30 rfl) rfl (G.q (Quiet.int rfl rfl rfl) rfl (G.nil (G.then_n ?_))))))))
       refine G.condD rfl (fun h62 => ?_) (fun h62 => ?_)
       ·have hk2 : k < (armL τ s ω (l.take i)).2.length := by omega
        refine G.slShape (v := .slice au _ cu) (xs := (armL τ s ω (l.take i)).2.flatMap evC) (by (repeat' constructor)) (by omega) fun bu bu' e0 mbu _ => ?_
        simp only [Value.slice.injEq, true_and] at e0
        obtain ⟨rfl, rfl⟩ := e0
        refine G.skip (G.then_n (G.seq (G.block ?_)))
        refine G.draw [] [[0, 1, 2, 3, 4, 5, 6, 7, 8, 9]] mixed (by kernel_rfl) ?_
        refine Phases.go [] (by (repeat' constructor)) ?_
        refine D.qw [1, 2, 3, 4, 5, 6, 7, 8, 9] rfl (by kernel_rfl) (Quiet.move rfl) ?_
        refine D.qw [2, 3, 4, 5, 6, 7, 8, 9] rfl (by kernel_rfl) (Quiet.move rfl) ?_
        refine D.dec (t := 66) rfl (fun h14_66 => ?_) (fun h14_66 => ?_)
        ·refine D.kDT (t := 65) rfl h14_66 ?_
         refine D.gs (t := 66) rfl rfl rfl rfl (by kernel_rfl) ?_
         refine D.gs (t := 66) rfl rfl rfl rfl (by kernel_rfl) ?_
         refine D.gs (t := 66) rfl rfl rfl rfl (by kernel_rfl) ?_
         refine D.gs (t := 66) rfl rfl rfl rfl (by kernel_rfl) ?_
         refine D.gs (t := 66) rfl rfl rfl rfl (by kernel_rfl) ?_
         refine D.gs (t := 66) rfl rfl rfl rfl (by kernel_rfl) ?_
         refine D.qw [9] rfl (by kernel_rfl) (Quiet.pickT rfl rfl) ?_
         refine D.qw [] rfl (by kernel_rfl) (Quiet.as (v' := .bool (decide ((sinceZ τ l[i]).1 ∈ (armL τ s ω (l.take i)).2.take (k + 1)))) (by rw [decide_eq_true (show ((sinceZ τ l[i]).1 ∈ (armL τ s ω (l.take i)).2.take (k + 1)) by rw [List.take_succ_eq_append_getElem hk2]; exact List.mem_append_left _ h14_66)]) (Quiet.assign rfl)) ?_
         refine D.ph (Phases.fin (G.blk_n (G.then_n (G.region (G.q (Quiet.move rfl) rfl ?_)))))
         refine G.q (Quiet.add rfl rfl (by omega)) rfl ?_
         refine G.q (Quiet.assign rfl) rfl (G.nil (G.then_n ?_))
         exact G.roundK ((k + 1, decide ((sinceZ τ l[i]).1 ∈ (armL τ s ω (l.take i)).2.take (k + 1)))) (⟨by dsimp only; omega, rfl⟩) (by dsimp only; omega) ⟨rfl, rfl, rfl, rfl, rfl, rfl, rfl, rfl, rfl, rfl, rfl, rfl, rfl, rfl, rfl, rfl, rfl, rfl, rfl, rfl, rfl, rfl, rfl, rfl, rfl, rfl, rfl, rfl, rfl, rfl, rfl, rfl, rfl, rfl, rfl, rfl, rfl, rfl, rfl, rfl, rfl, rfl, rfl, rfl, rfl, rfl, trivial⟩ (by (repeat' constructor)) (by ((repeat (apply Have.cons; (repeat (first | exact Pick.here | apply Pick.there)))); apply Have.base; repeat' constructor))
        ·refine D.kDF (t := 65) rfl h14_66 ?_
         refine D.gqw [4, 5, 7, 8, 9] (t := 66) rfl rfl rfl (by kernel_rfl) (Quiet.move rfl) ?_
         refine D.gqw [4, 5, 7, 8, 9] (t := 66) rfl rfl rfl (by kernel_rfl) (Quiet.move rfl) ?_
         refine D.gqw [5, 7, 8, 9] (t := 66) rfl rfl rfl (by kernel_rfl) (Quiet.indexAddr rfl rfl el_30 (by omega)) ?_
         refine D.gqw [7, 8, 9] (t := 66) rfl rfl rfl (by kernel_rfl) (Quiet.loadRdA (sz := 3) (j := k * 3) (k := 3) (p := slR 75 3 _ (armL τ s ω (l.take i)).2.length ((armL τ s ω (l.take i)).2.flatMap evC)) (vs := evC (armL τ s ω (l.take i)).2[k]) rfl ag_75 (by (repeat' constructor)) (fun h hp => slR_rd hp) (by simp) (by omega) (by omega) (flatMap_at (f := evC) (sz := 3) (fun _ _ => rfl) (by omega))) ?_
         refine D.gqw [7, 8, 9] (t := 66) rfl rfl rfl (by kernel_rfl) (Quiet.loadAs (vs := evC (sinceZ τ l[i]).1) rfl ag_75 (by (repeat' constructor)) (by simp [evC]) rfl) ?_
         refine D.gqw [8, 9] (t := 66) rfl rfl rfl (by kernel_rfl) (Quiet.structEq (r := decide ((armL τ s ω (l.take i)).2[k] = (sinceZ τ l[i]).1)) rfl rfl (by kernel_rfl) (ev_eq 9998 _ _)) ?_
         refine D.qw [9] rfl (by kernel_rfl) (Quiet.pickF rfl rfl) ?_
         refine D.qw [] rfl (by kernel_rfl) (Quiet.as (v' := .bool (decide ((sinceZ τ l[i]).1 ∈ (armL τ s ω (l.take i)).2.take (k + 1)))) (by exact congrArg Value.bool (decide_eq_decide.2 (by rw [List.take_succ_eq_append_getElem hk2, List.mem_append, List.mem_singleton]; exact ⟨fun g => .inr g.symm, fun g => g.elim (fun z => absurd z h14_66) Eq.symm⟩))) (Quiet.assign rfl)) ?_
         refine D.ph (Phases.fin (G.blk_n (G.then_n (G.region (G.q (Quiet.move rfl) rfl ?_)))))
         refine G.q (Quiet.add rfl rfl (by omega)) rfl ?_
         refine G.q (Quiet.assign rfl) rfl (G.nil (G.then_n ?_))
         exact G.roundK ((k + 1, decide ((sinceZ τ l[i]).1 ∈ (armL τ s ω (l.take i)).2.take (k + 1)))) (⟨by dsimp only; omega, rfl⟩) (by dsimp only; omega) ⟨rfl, rfl, rfl, rfl, rfl, rfl, rfl, rfl, rfl, rfl, rfl, rfl, rfl, rfl, rfl, rfl, rfl, rfl, rfl, rfl, rfl, rfl, rfl, rfl, rfl, rfl, rfl, rfl, rfl, rfl, rfl, rfl, rfl, rfl, rfl, rfl, rfl, rfl, rfl, rfl, rfl, rfl, rfl, rfl, rfl, rfl, trivial⟩ (by (repeat' constructor)) (by ((repeat (apply Have.cons; (repeat (first | exact Pick.here | apply Pick.there)))); apply Have.base; repeat' constructor))
       ·have hkk : k = (armL τ s ω (l.take i)).2.length := by omega
        rw [hkk, List.take_length]
        refine G.exit (G.then_e (G.then_e (G.blk_e (G.then_n (G.seq (G.region (G.q (Quiet.move rfl) rfl (G.q (Quiet.not rfl) rfl (G.nil (G.then_n ?_))))))))))
        refine G.condN rfl (fun h75 => ?_) (fun h75 => ?_)
        ·have h75 : ¬ (sinceZ τ l[i]).1 ∈ (armL τ s ω (l.take i)).2 := by simpa using h75
         refine G.region (G.q (Quiet.move rfl) rfl ?_)
         refine G.q (Quiet.loadAs (vs := evC (sinceZ τ l[i]).1) rfl ag_75 (by (repeat' constructor)) (by simp [evC]) rfl) rfl ?_
         refine G.op (OpSpec.buildSlice (vs := [_]) el_30 ze_75 rfl rfl rfl rfl (by first | (simp [Value.cells]; done) | (intro v hv; simp only [List.mem_cons, List.not_mem_nil, or_false] at hv; (repeat (first | (subst hv; rfl) | (rcases hv with hv | hv; (subst hv; rfl)))))) (by decide)) (by (repeat' constructor)) rfl ?nx88
         rintro v L' ⟨b16, rfl, rfl⟩
         refine G.op (OpSpec.append1 rfl rfl rfl el_30 ze_75 rfl rfl ?c90 ?c91 (Nat.le_refl _) ?c92 (by decide)) (by (repeat' constructor)) rfl ?nx93
         case c90 => simp only [List.map_cons, List.map_nil, List.flatten_cons, List.flatten_nil, List.append_nil]; simp [Value.cells, evC, isCell]
         case c91 => rfl
         case c92 => omega
         rintro v L' ⟨⟨a16_3, c16_3, rfl⟩, rfl⟩
         refine G.q (Quiet.assign rfl) rfl (G.nil (G.blk_n (G.then_n (G.region (G.q (Quiet.move rfl) rfl ?_)))))
         refine G.q (Quiet.add rfl rfl (by omega)) rfl ?_
         refine G.q (Quiet.assign rfl) rfl (G.nil (G.then_n ?_))
         have hA : (armL τ s ω (l.take (i + 1))) = ((armL τ s ω (l.take i)).1, (armL τ s ω (l.take i)).2 ++ [(sinceZ τ l[i]).1]) := by rw [armL_step τ s ω hi2]; unfold armS; rw [if_neg (fun g => g h43), if_neg (by rw [h51]; decide), if_neg h75]
         refine G.rwCast (x := x) (ω' := (armL τ s ω (l.take (i + 1))).1) (by (repeat' constructor)) (by rw [hA]) ?_
         rw [show (armL τ s ω (l.take i)).2.length + 1 = (armL τ s ω (l.take (i + 1))).2.length by rw [hA]; simp]
         refine G.slCast (T := 75) (sz := 3) (m' := (armL τ s ω (l.take (i + 1))).2.length) (xs' := (armL τ s ω (l.take (i + 1))).2.flatMap evC) (by (repeat' constructor)) (by exact rfl) (by rw [hA]; rw [List.flatMap_append]; simp [Value.cells, evC]) ?_
         exact G.roundK ((i + 1, .slice a16_3 (armL τ s ω (l.take (i + 1))).2.length c16_3)) (⟨by dsimp only; omega, fun g => absurd g (by omega), _, _, rfl⟩) (by dsimp only; omega) ⟨rfl, rfl, rfl, rfl, rfl, rfl, rfl, trivial⟩ (by (repeat' constructor)) (by ((repeat (apply Have.cons; (repeat (first | exact Pick.here | apply Pick.there)))); apply Have.base; repeat' constructor))
        ·have h75 : (sinceZ τ l[i]).1 ∈ (armL τ s ω (l.take i)).2 := by simpa using h75
         refine G.skip (G.blk_n (G.then_n (G.region (G.q (Quiet.move rfl) rfl ?_))))
         refine G.q (Quiet.add rfl rfl (by omega)) rfl ?_
         refine G.q (Quiet.assign rfl) rfl (G.nil (G.then_n ?_))
         have hA : (armL τ s ω (l.take (i + 1))) = (armL τ s ω (l.take i)) := by rw [armL_step τ s ω hi2]; unfold armS; rw [if_neg (fun g => g h43), if_neg (by rw [h51]; decide), if_pos h75]
         refine G.rwCast (x := x) (ω' := (armL τ s ω (l.take (i + 1))).1) (by (repeat' constructor)) (by rw [hA]) ?_
         rw [show (armL τ s ω (l.take i)).2.length = (armL τ s ω (l.take (i + 1))).2.length by rw [hA]]
         refine G.slCast (T := 75) (sz := 3) (m' := (armL τ s ω (l.take (i + 1))).2.length) (xs' := (armL τ s ω (l.take (i + 1))).2.flatMap evC) (by (repeat' constructor)) (by exact rfl) (by rw [hA]) ?_
         exact G.roundK ((i + 1, .slice au (armL τ s ω (l.take (i + 1))).2.length cu)) (⟨by dsimp only; omega, fun g => absurd g (by omega), _, _, rfl⟩) (by dsimp only; omega) ⟨rfl, rfl, rfl, rfl, rfl, rfl, rfl, trivial⟩ (by (repeat' constructor)) (by ((repeat (apply Have.cons; (repeat (first | exact Pick.here | apply Pick.there)))); apply Have.base; repeat' constructor))
  ·refine G.exit (G.then_e (G.then_e (G.blk_e (G.then_n (G.seq ?_)))))
   have hz : armZ τ s ω l = (armL τ s ω (l.take i)) := by unfold armZ; by_cases g : s < 1; (rw [if_pos g, hs0 g, List.take_zero]; rfl); rw [if_neg g, show i = l.length by omega, List.take_length]
   rw [← hz]
   refine G.region (G.q (Quiet.move rfl) rfl (G.q (Quiet.assign rfl) rfl (G.nil (G.then_n (G.ret ?_)))))
   exact G.done (l := [.tmp 8]) rfl rfl ⟨_, _, rfl, rfl⟩ (by (repeat' constructor)) (by (repeat' constructor))
 ·refine G.kDF (t := 19) rfl h3_20 (G.gskip (t := 20) rfl rfl rfl rfl (G.gskip (t := 20) rfl rfl rfl rfl (G.q (Quiet.pickF rfl rfl) rfl (G.nil (G.then_n (G.condF rfl (G.exit (G.then_e (G.then_e (G.blk_e (G.then_n (G.seq ?_))))))))))))
  have hz : armZ τ s ω l = (armL τ s ω (l.take i)) := by unfold armZ; by_cases g : s < 1; (rw [if_pos g, hs0 g, List.take_zero]; rfl); rw [if_neg g, show i = l.length by omega, List.take_length]
  rw [← hz]
  refine G.region (G.q (Quiet.move rfl) rfl (G.q (Quiet.assign rfl) rfl (G.nil (G.then_n (G.ret ?_)))))
  exact G.done (l := [.tmp 8]) rfl rfl ⟨_, _, rfl, rfl⟩ (by (repeat' constructor)) (by (repeat' constructor))

end Go.Proofs.YtnnbelmpbmfdnaaGreatDoor

/- Own work, by program: the document's table of watches: fire, Fire: walked. -/

namespace Go.Proofs.YtnnbelmpbmfdnaaGreatDoor
open Go
theorem tld_cells1 (t : Tld) : ∀ y ∈ tldC t, isCell y = true := by
  intro y hy
  simp only [tldC, List.mem_cons, List.not_mem_nil, or_false] at hy
  rcases hy with rfl | rfl | rfl | rfl <;> rfl
theorem tld_cells (l : List Tld) : ∀ y ∈ l.flatMap tldC, isCell y = true := by
  intro y hy
  obtain ⟨a, -, h⟩ := List.mem_flatMap.1 hy
  exact tld_cells1 a y h
set_option maxHeartbeats 1000000 in
set_option maxRecDepth 100000 in
theorem rwfire1_spec (x : Nat) (ω : List Wt) (e : Ev) (M : Nat) (hk : Wk ω M) (hM : M ≤ 1048576) (hfit : ∀ w ∈ ω, 1 ≤ w.2.1 ∧ w.2.1 ≤ 3) : Fn Tryz.prog 143 #[vptr x, .agg (evC e).toArray] [rwR x ω] fun v L => ∃ a c, v = .slice a (fire1 ω e).2.length c ∧ L = [rwR x (fire1 ω e).1, slR 147 4 v (fire1 ω e).2.length ((fire1 ω e).2.flatMap tldC)] := by
 refine Fn.intro (vs := [vptr x, .agg (evC e).toArray]) Tryz.func143 rfl rfl ?_
 intro F W
 refine G.rwOpen (x := x) (ω := ω) (by (repeat' constructor)) fun aw cw => ?_
 have hwl := hk.len
 refine G.seq (G.region ?_)
 refine G.op (OpSpec.box rfl) (by (repeat' constructor)) rfl ?nx1
 rintro v L' ⟨b3, rfl, rfl⟩
 refine G.q (Quiet.assign rfl) rfl (G.nil ?_)
 refine G.ptCast (b := b3) (l' := evC e) (by (repeat' constructor)) rfl ?_
 refine G.then_n (G.seq (G.add (slR_nil 147 4) (G.region (G.q (Quiet.assign rfl) rfl (G.nil (G.then_n (G.seq (G.add (slR_nil 168 3) (G.region (G.q (Quiet.assign rfl) rfl (G.nil (G.then_n (G.seq (G.seq (G.region (G.q (Quiet.assign rfl) rfl (G.nil (G.then_n (G.block ?_)))))))))))))))))))
 have ht0 : ((tellW (ω.take 0) e.1 e.2.1).map fun j => (j, e)) = [] := by rw [List.take_zero, (tell_nil _ _).1]; rfl
 refine G.slCast (T := 147) (sz := 4) (v := .slice none 0 0) (m' := ((tellW (ω.take 0) e.1 e.2.1).map fun j => (j, e)).length) (xs' := ((tellW (ω.take 0) e.1 e.2.1).map fun j => (j, e)).flatMap tldC) (by (repeat' constructor)) (by rw [ht0]; rfl) (by rw [ht0]; rfl) ?_
 refine G.loopK (ι := Nat × Value × Value) (fun q E => (7, vint q.1) :: (5, q.2.1) :: (6, q.2.2) :: E) (fun q => [slR 147 4 q.2.1 ((tellW (ω.take q.1) e.1 e.2.1).map fun j => (j, e)).length (((tellW (ω.take q.1) e.1 e.2.1).map fun j => (j, e)).flatMap tldC), slR 168 3 q.2.2 (leftW (ω.take q.1) e.1 e.2.1).length ((leftW (ω.take q.1) e.1 e.2.1).flatMap wtC)]) (fun q => q.1 ≤ ω.length ∧ (∃ a c, q.2.1 = .slice a ((tellW (ω.take q.1) e.1 e.2.1).map fun j => (j, e)).length c) ∧ (∃ a c, q.2.2 = .slice a (leftW (ω.take q.1) e.1 e.2.1).length c) ∧ (((tellW (ω.take q.1) e.1 e.2.1).map fun j => (j, e)).length = 0 → q.2.1 = .slice none 0 0)) (fun q => ω.length - q.1) (0, .slice none 0 0, .slice none 0 0) (ts := [0, 3, 4]) (.cons rfl (.cons rfl (.cons rfl (.nil)))) (⟨Nat.zero_le _, ⟨none, 0, by dsimp only; rw [ht0]; rfl⟩, ⟨none, 0, rfl⟩, fun _ => rfl⟩) ⟨rfl, rfl, rfl, rfl, rfl, rfl, trivial⟩ (by (repeat' constructor)) ?_
 rintro ⟨i, u, r⟩ ⟨hi, ⟨au, cu, hu⟩, ⟨ar, cr, hr⟩, hu0⟩
 dsimp only
 dsimp only at hi hu hr hu0
 subst hu
 subst hr
 have hLl := left_len (ω.take i) e.1 e.2.1
 have hTl := tell_len (ω.take i) e.1 e.2.1
 rw [List.length_take] at hLl hTl
 have hlm : ((tellW (ω.take i) e.1 e.2.1).map fun j => (j, e)).length = (tellW (ω.take i) e.1 e.2.1).length := List.length_map _
 refine G.seq (G.seq (G.region (G.q (Quiet.move rfl) rfl (G.q (Quiet.move rfl) rfl (G.q (Quiet.nilp rfl) rfl (G.q (Quiet.fieldAddr rfl fo_164_0) rfl ?_))))))
 refine G.q (Quiet.load rfl ag_162 (by (repeat' constructor)) (rfl)) rfl ?_
 refine G.q (Quiet.slen rfl Tryz.underlying162 rfl) rfl (G.q (Quiet.int rfl rfl rfl) rfl (G.nil (G.then_n ?_)))
 refine G.condD rfl (fun h18 => ?_) (fun h18 => ?_)
 ·have hi2 : i < ω.length := by omega
  refine G.slShape (T := 168) (sz := 3) (v := .slice aw ω.length cw) (xs := ω.flatMap wtC) (by (repeat' constructor)) (by omega) fun bw bw' e0 mbw _ => ?_
  simp only [Value.slice.injEq, true_and] at e0
  obtain ⟨rfl, rfl⟩ := e0
  refine G.skip (G.then_n (G.seq (G.block (G.seq (G.region (G.q (Quiet.move rfl) rfl (G.q (Quiet.nilp rfl) rfl (G.q (Quiet.fieldAddr rfl fo_164_0) rfl ?_))))))))
  refine G.q (Quiet.load rfl ag_162 (by (repeat' constructor)) (rfl)) rfl ?_
  refine G.q (Quiet.move rfl) rfl ?_
  refine G.q (Quiet.indexAddr rfl rfl el_162 (by omega)) rfl ?_
  refine G.q (Quiet.loadRdA (sz := 3) (j := i * 3) (k := 3) (p := slR 168 3 _ ω.length (ω.flatMap wtC)) (vs := wtC ω[i]) rfl ag_168 (by (repeat' constructor)) (fun h hp => slR_rd hp) (by simp) (by omega) (by omega) (flatMap_at (f := wtC) (sz := 3) (fun _ _ => rfl) (by omega))) rfl ?_
  refine G.op (OpSpec.allocA ze_168) (by (repeat' constructor)) rfl ?nx21
  rintro v L' ⟨b8, rfl, rfl⟩
  refine G.op (OpSpec.storeA rfl rfl ?c23 sz_168 ?c26 ?c24 ?c25) (by (repeat' constructor)) rfl ?nx27
  case c23 => simp [wtC, isCell]
  case c26 => rfl
  case c24 => simp [wtC]
  case c25 => exact nfz0 _ _
  rintro v L' rfl
  refine G.nil ?_
  refine G.ptCast (b := b8) (l' := wtC ω[i]) (by (repeat' constructor)) (by exact rfl) ?_
  refine G.then_n (G.seq (G.region ?_))
  refine G.q (Quiet.loadAs (vs := evC e) rfl ag_75 (by (repeat' constructor)) (by simp [evC]) rfl) rfl ?_
  refine G.q (Quiet.loadAs (vs := wtC ω[i]) rfl ag_168 (by (repeat' constructor)) (by simp [wtC]) rfl) rfl ?_
  refine G.op (OpSpec.call Tryz.func166 rfl rfl (vs := [_, _]) rfl (rmeets_spec e ω[i] (hfit _ (List.getElem_mem hi2)))) (by (repeat' constructor)) rfl ?nx30
  rintro v L' ⟨rfl, rfl⟩
  refine G.q (Quiet.assign rfl) rfl (G.nil (G.then_n (G.seq (G.seq (G.region (G.q (Quiet.move rfl) rfl (G.q (Quiet.not rfl) rfl (G.nil (G.then_n ?_)))))))))
  refine G.condB rfl (fun h32 => ?_) (fun h32 => ?_)
  ·refine G.seq (G.region (G.q (Quiet.move rfl) rfl ?_))
   refine G.q (Quiet.loadAs (vs := wtC ω[i]) rfl ag_168 (by (repeat' constructor)) (by simp [wtC]) rfl) rfl ?_
   refine G.op (OpSpec.buildSlice (vs := [_]) el_162 ze_168 rfl rfl rfl rfl (by first | (simp [Value.cells]; done) | (intro v hv; simp only [List.mem_cons, List.not_mem_nil, or_false] at hv; (repeat (first | (subst hv; rfl) | (rcases hv with hv | hv; (subst hv; rfl)))))) (by decide)) (by (repeat' constructor)) rfl ?nx35
   rintro v L' ⟨b9, rfl, rfl⟩
   refine G.op (OpSpec.append1 rfl rfl rfl el_162 ze_168 rfl rfl ?c37 ?c38 (Nat.le_refl _) ?c39 (by decide)) (by (repeat' constructor)) rfl ?nx40
   case c37 => simp only [List.map_cons, List.map_nil, List.flatten_cons, List.flatten_nil, List.append_nil]; simp [Value.cells, wtC, isCell]
   case c38 => rfl
   case c39 => omega
   rintro v L' ⟨⟨a9_3, c9_3, rfl⟩, rfl⟩
   refine G.q (Quiet.assign rfl) rfl (G.nil (G.then_n (G.exit (G.then_e (G.blk_e (G.then_n (G.region (G.q (Quiet.move rfl) rfl ?_))))))))
   refine G.q (Quiet.add rfl rfl (by omega)) rfl ?_
   refine G.q (Quiet.assign rfl) rfl (G.nil (G.then_n ?_))
   have hme : meetW e.1 e.2.1 ω[i] = false := by simpa using h32
   have hL := left_step hi2 e.1 e.2.1
   rw [if_neg (by rw [hme]; decide)] at hL
   have hT := tell_out hi2 hme
   rw [show (leftW (ω.take i) e.1 e.2.1).length + 1 = (leftW (ω.take (i + 1)) e.1 e.2.1).length by rw [hL]; simp]
   refine G.slCast (T := 168) (sz := 3) (v := .slice a9_3 _ c9_3) (m' := (leftW (ω.take (i + 1)) e.1 e.2.1).length) (xs' := (leftW (ω.take (i + 1)) e.1 e.2.1).flatMap wtC) (by (repeat' constructor)) (by exact rfl) (by rw [hL, List.flatMap_append]; simp [Value.cells, wtC]) ?_
   rw [← hT]
   exact G.roundK ((i + 1, .slice au ((tellW (ω.take (i + 1)) e.1 e.2.1).map fun j => (j, e)).length cu, .slice a9_3 (leftW (ω.take (i + 1)) e.1 e.2.1).length c9_3)) (⟨by dsimp only; omega, ⟨_, _, rfl⟩, ⟨_, _, rfl⟩, fun g => by dsimp only; rw [hT] at g ⊢; exact hu0 g⟩) (by dsimp only; omega) ⟨rfl, rfl, rfl, rfl, rfl, rfl, trivial⟩ (by (repeat' constructor)) (by ((repeat (apply Have.cons; (repeat (first | exact Pick.here | apply Pick.there)))); apply Have.base; repeat' constructor))
  ·refine G.skip (G.then_n (G.seq (G.region ?_)))
   rcases Nat.eq_zero_or_pos ((tellW (ω.take i) e.1 e.2.1).map fun j => (j, e)).length with hT0 | hTp
   ·have hu1 := hu0 hT0
    simp only [Value.slice.injEq] at hu1
    obtain ⟨rfl, -, rfl⟩ := hu1
    have hcu : ((tellW (ω.take i) e.1 e.2.1).map fun j => (j, e)).length ≤ 0 := by omega
    refine G.q (Quiet.assign rfl) rfl (G.nil (G.then_n (G.seq (G.block ?_))))
    refine G.loopK (ι := Nat) (fun q E => (10, vint q) :: E) (fun q => []) (fun q => q ≤ (tellW (ω.take i) e.1 e.2.1).length ∧ ∀ j (hj : j < (tellW (ω.take i) e.1 e.2.1).length), j < q → (tellW (ω.take i) e.1 e.2.1)[j] < ω[i].1) (fun q => (tellW (ω.take i) e.1 e.2.1).length - q) (0) (ts := [0, 3, 4, 5, 6, 7, 8, 9, 12, 13, 14, 15, 16, 17, 18, 21, 22, 23, 24, 25, 26, 27, 28, 29, 30, 31, 32]) (.cons rfl (.cons rfl (.cons rfl (.cons rfl (.cons rfl (.cons rfl (.cons rfl (.cons rfl (.cons rfl (.cons rfl (.cons rfl (.cons rfl (.cons rfl (.cons rfl (.cons rfl (.cons rfl (.cons rfl (.cons rfl (.cons rfl (.cons rfl (.cons rfl (.cons rfl (.cons rfl (.cons rfl (.cons rfl (.cons rfl (.cons rfl (.nil)))))))))))))))))))))))))))) (⟨Nat.zero_le _, fun j _ g => absurd g (by omega)⟩) ⟨rfl, rfl, rfl, rfl, rfl, rfl, rfl, rfl, rfl, rfl, rfl, rfl, rfl, rfl, rfl, rfl, rfl, rfl, rfl, rfl, rfl, rfl, rfl, rfl, rfl, rfl, rfl, rfl, trivial⟩ (by (repeat' constructor)) ?_
    rintro n ⟨hn, hlt⟩
    refine G.seq (G.seq ?_)
    refine G.draw [] [[0, 1, 2, 3, 4, 5, 6, 7, 8, 9, 10, 11, 12, 13]] mixed (by kernel_rfl) ?_
    refine Phases.go [] (by (repeat' constructor)) ?_
    refine D.qw [3, 4, 5, 6, 7, 8, 9, 10, 11, 12, 13] rfl (by kernel_rfl) (Quiet.move rfl) ?_
    refine D.qw [2, 3, 4, 5, 6, 7, 8, 9, 10, 11, 12, 13] rfl (by kernel_rfl) (Quiet.move rfl) ?_
    refine D.qw [3, 4, 5, 6, 7, 8, 9, 10, 11, 12, 13] rfl (by kernel_rfl) (Quiet.slen rfl Tryz.underlying76 rfl) ?_
    refine D.qw [4, 5, 6, 7, 8, 9, 10, 11, 12, 13] rfl (by kernel_rfl) (Quiet.as (v' := .bool false) (by exact congrArg Value.bool (decide_eq_false (by omega))) (Quiet.int rfl rfl rfl)) ?_
    refine D.qw [5, 6, 7, 8, 9, 10, 11, 12, 13] rfl (by kernel_rfl) (Quiet.move rfl) ?_
    refine D.gs (t := 41) rfl rfl rfl rfl (by kernel_rfl) ?_
    refine D.gs (t := 41) rfl rfl rfl rfl (by kernel_rfl) ?_
    refine D.gs (t := 41) rfl rfl rfl rfl (by kernel_rfl) ?_
    refine D.gs (t := 41) rfl rfl rfl rfl (by kernel_rfl) ?_
    refine D.gs (t := 41) rfl rfl rfl rfl (by kernel_rfl) ?_
    refine D.gs (t := 41) rfl rfl rfl rfl (by kernel_rfl) ?_
    refine D.gs (t := 41) rfl rfl rfl rfl (by kernel_rfl) ?_
    refine D.gs (t := 41) rfl rfl rfl rfl (by kernel_rfl) ?_
    refine D.qw [] rfl (by kernel_rfl) (Quiet.pickF rfl rfl) ?_
    refine D.ph (Phases.fin (G.then_n (G.condF rfl (G.exit (G.then_e (G.then_e (G.blk_e (G.then_n (G.seq (G.seq ?_))))))))))
    refine G.draw [] [[0, 1, 2, 3, 4, 5, 6, 7, 8, 9, 10, 11, 12, 13]] mixed (by kernel_rfl) ?_
    refine Phases.go [] (by (repeat' constructor)) ?_
    refine D.qw [3, 4, 5, 6, 7, 8, 9, 10, 11, 12, 13] rfl (by kernel_rfl) (Quiet.move rfl) ?_
    refine D.qw [2, 3, 4, 5, 6, 7, 8, 9, 10, 11, 12, 13] rfl (by kernel_rfl) (Quiet.move rfl) ?_
    refine D.qw [3, 4, 5, 6, 7, 8, 9, 10, 11, 12, 13] rfl (by kernel_rfl) (Quiet.slen rfl Tryz.underlying76 rfl) ?_
    refine D.qw [4, 5, 6, 7, 8, 9, 10, 11, 12, 13] rfl (by kernel_rfl) (Quiet.as (v' := .bool false) (by exact congrArg Value.bool (decide_eq_false (by omega))) (Quiet.int rfl rfl rfl)) ?_
    refine D.qw [5, 6, 7, 8, 9, 10, 11, 12, 13] rfl (by kernel_rfl) (Quiet.move rfl) ?_
    refine D.gs (t := 57) rfl rfl rfl rfl (by kernel_rfl) ?_
    refine D.gs (t := 57) rfl rfl rfl rfl (by kernel_rfl) ?_
    refine D.gs (t := 57) rfl rfl rfl rfl (by kernel_rfl) ?_
    refine D.gs (t := 57) rfl rfl rfl rfl (by kernel_rfl) ?_
    refine D.gs (t := 57) rfl rfl rfl rfl (by kernel_rfl) ?_
    refine D.gs (t := 57) rfl rfl rfl rfl (by kernel_rfl) ?_
    refine D.gs (t := 57) rfl rfl rfl rfl (by kernel_rfl) ?_
    refine D.gs (t := 57) rfl rfl rfl rfl (by kernel_rfl) ?_
    refine D.qw [] rfl (by kernel_rfl) (Quiet.pickF rfl rfl) ?_
    refine D.ph (Phases.fin (G.then_n (G.condF rfl (G.skip (G.then_n (G.seq (G.add (slR_nil 147 4) (G.region (G.q (Quiet.assign rfl) rfl (G.nil (G.then_n (G.seq (G.region (G.q (Quiet.move rfl) rfl (G.q (Quiet.move rfl) rfl (G.q (Quiet.move rfl) rfl ?_))))))))))))))))
    refine G.q (Quiet.to (v' := .slice none n 0) (Quiet.slTo rfl el_76 rfl (by omega) (.inl rfl)) (by simp)) rfl ?_
    refine G.op (OpSpec.append (n := 0) (m := n) (ys := (((tellW (ω.take i) e.1 e.2.1).map fun j => (j, e)).take n).flatMap tldC) (p := slR 147 4 (.slice none ((tellW (ω.take i) e.1 e.2.1).map fun j => (j, e)).length 0) ((tellW (ω.take i) e.1 e.2.1).map fun j => (j, e)).length (((tellW (ω.take i) e.1 e.2.1).map fun j => (j, e)).flatMap tldC)) rfl rfl rfl el_76 (.inl ⟨_, Tryz.underlying76⟩) ze_147 rfl rfl ?hc59 ?hr60 ?hb61 (by decide)) (by (repeat' constructor)) rfl ?nx62
    case hc59 => exact tld_cells _
    case hr60 => exact fun h hp => by have := slR_rd_to (k := n) (by omega) hp; rw [(flat_take (f := tldC) (sz := 4) (fun _ => rfl) _ n).1] at this; exact this
    case hb61 => omega
    rintro v L' ⟨⟨a15, c15, rfl⟩, rfl⟩; rw [Nat.zero_add, List.nil_append]
    refine G.q (Quiet.assign rfl) rfl (G.nil (G.then_n (G.seq (G.region (G.q (Quiet.move rfl) rfl (G.q (Quiet.fieldAddr rfl fo_168_0) rfl ?_))))))
    refine G.q (Quiet.load rfl ag_3 (by (repeat' constructor)) (rfl)) rfl ?_
    refine G.q (Quiet.loadAs (vs := evC e) rfl ag_75 (by (repeat' constructor)) (by simp [evC]) rfl) rfl ?_
    refine G.q (Quiet.to (v' := .agg (tldC (ω[i].1, e)).toArray) (Quiet.buildN (pl := [(0, 1), (1, 3)]) (us := [(0, vint ω[i].1), (1, .agg (evC e).toArray)]) (cells := tldC (ω[i].1, e)) Tryz.underlying147 (by kernel_rfl) ze_147 rfl rfl) rfl) rfl ?_
    refine G.op (OpSpec.buildSlice (vs := [_]) el_76 ze_147 rfl rfl rfl rfl (by first | (simp [Value.cells]; done) | (intro v hv; simp only [List.mem_cons, List.not_mem_nil, or_false] at hv; (repeat (first | (subst hv; rfl) | (rcases hv with hv | hv; (subst hv; rfl)))))) (by decide)) (by (repeat' constructor)) rfl ?nx68
    rintro v L' ⟨b16, rfl, rfl⟩
    refine G.op (OpSpec.append1 rfl rfl rfl el_76 ze_147 rfl rfl ?c70 ?c71 (Nat.le_refl _) ?c72 (by decide)) (by (repeat' constructor)) rfl ?nx73
    case c70 => simp only [List.map_cons, List.map_nil, List.flatten_cons, List.flatten_nil, List.append_nil]; exact tld_cells1 _
    case c71 => rfl
    case c72 => omega
    rintro v L' ⟨⟨a16_6, c16_6, rfl⟩, rfl⟩
    refine G.q (Quiet.assign rfl) rfl (G.nil (G.then_n (G.region (G.q (Quiet.move rfl) rfl (G.q (Quiet.move rfl) rfl (G.q (Quiet.move rfl) rfl ?_))))))
    refine G.q (Quiet.slFromO (i := (n : Int)) rfl el_76 rfl (by omega)) rfl ?_
    refine G.op (OpSpec.append (n := n + 1) (m := ((tellW (ω.take i) e.1 e.2.1).map fun j => (j, e)).length - (n : Int).toNat) (ys := (((tellW (ω.take i) e.1 e.2.1).map fun j => (j, e)).drop n).flatMap tldC) (p := slR 147 4 (.slice none ((tellW (ω.take i) e.1 e.2.1).map fun j => (j, e)).length 0) ((tellW (ω.take i) e.1 e.2.1).map fun j => (j, e)).length (((tellW (ω.take i) e.1 e.2.1).map fun j => (j, e)).flatMap tldC)) rfl rfl rfl el_76 (.inl ⟨_, Tryz.underlying76⟩) ze_147 rfl rfl ?hc78 ?hr79 ?hb80 (by decide)) (by (repeat' constructor)) rfl ?nx81
    case hc78 => exact tld_cells _
    case hr79 => exact fun h hp => by rw [Int.toNat_natCast]; have := slR_rd_from (k := n) (by omega) hp; rw [(flat_take (f := tldC) (sz := 4) (fun _ => rfl) _ n).2] at this; exact this
    case hb80 => omega
    rintro v L' ⟨⟨a17, c17, rfl⟩, rfl⟩
    refine G.q (Quiet.assign rfl) rfl (G.nil (G.blk_n (G.then_n (G.region (G.q (Quiet.move rfl) rfl ?_)))))
    refine G.q (Quiet.add rfl rfl (by omega)) rfl ?_
    refine G.q (Quiet.assign rfl) rfl (G.nil (G.then_n ?_))
    have hme : meetW e.1 e.2.1 ω[i] = true := by simpa using h32
    have hL := left_step hi2 e.1 e.2.1
    rw [if_pos hme, List.append_nil] at hL
    have hT := tell_ins hi2 hme (n := n) (fun j hj hjn => hlt j hj hjn) (fun h => by first | omega | exact absurd h (by omega))
    have hO : ((tellW (ω.take (i + 1)) e.1 e.2.1).map fun j => (j, e)) = ((tellW (ω.take i) e.1 e.2.1).map fun j => (j, e)).take n ++ [(ω[i].1, e)] ++ ((tellW (ω.take i) e.1 e.2.1).map fun j => (j, e)).drop n := by rw [hT]; simp [List.map_take, List.map_drop]
    have hOl : n + 1 + (((tellW (ω.take i) e.1 e.2.1).map fun j => (j, e)).length - (n : Int).toNat) = ((tellW (ω.take (i + 1)) e.1 e.2.1).map fun j => (j, e)).length := by rw [hO, List.length_append, List.length_append, List.length_take, List.length_drop, Int.toNat_natCast]; simp only [List.length_cons, List.length_nil]; omega
    rw [hOl]
    refine G.slCast (T := 147) (sz := 4) (v := .slice a17 _ c17) (m' := ((tellW (ω.take (i + 1)) e.1 e.2.1).map fun j => (j, e)).length) (xs' := ((tellW (ω.take (i + 1)) e.1 e.2.1).map fun j => (j, e)).flatMap tldC) (by (repeat' constructor)) (by exact rfl) (by rw [hO, List.flatMap_append, List.flatMap_append]; simp [Value.cells]) ?_
    rw [← hL]
    exact G.roundK ((i + 1, .slice a17 ((tellW (ω.take (i + 1)) e.1 e.2.1).map fun j => (j, e)).length c17, .slice ar (leftW (ω.take (i + 1)) e.1 e.2.1).length cr)) (⟨by dsimp only; omega, ⟨_, _, rfl⟩, ⟨_, _, rfl⟩, fun g => absurd g (by dsimp only; rw [hO]; simp)⟩) (by dsimp only; omega) ⟨rfl, rfl, rfl, rfl, rfl, rfl, trivial⟩ (by (repeat' constructor)) (by ((repeat (apply Have.cons; (repeat (first | exact Pick.here | apply Pick.there)))); apply Have.base; repeat' constructor))
   ·refine G.slShape (T := 147) (sz := 4) (v := .slice au _ cu) (xs := ((tellW (ω.take i) e.1 e.2.1).map fun j => (j, e)).flatMap tldC) (by (repeat' constructor)) hTp fun bo bo' e0 hcu _ => ?_
    simp only [Value.slice.injEq, true_and] at e0
    obtain ⟨rfl, rfl⟩ := e0
    refine G.q (Quiet.assign rfl) rfl (G.nil (G.then_n (G.seq (G.block ?_))))
    refine G.loopK (ι := Nat) (fun q E => (10, vint q) :: E) (fun q => []) (fun q => q ≤ (tellW (ω.take i) e.1 e.2.1).length ∧ ∀ j (hj : j < (tellW (ω.take i) e.1 e.2.1).length), j < q → (tellW (ω.take i) e.1 e.2.1)[j] < ω[i].1) (fun q => (tellW (ω.take i) e.1 e.2.1).length - q) (0) (ts := [0, 3, 4, 5, 6, 7, 8, 9, 12, 13, 14, 15, 16, 17, 18, 21, 22, 23, 24, 25, 26, 27, 28, 29, 30, 31, 32]) (.cons rfl (.cons rfl (.cons rfl (.cons rfl (.cons rfl (.cons rfl (.cons rfl (.cons rfl (.cons rfl (.cons rfl (.cons rfl (.cons rfl (.cons rfl (.cons rfl (.cons rfl (.cons rfl (.cons rfl (.cons rfl (.cons rfl (.cons rfl (.cons rfl (.cons rfl (.cons rfl (.cons rfl (.cons rfl (.cons rfl (.cons rfl (.nil)))))))))))))))))))))))))))) (⟨Nat.zero_le _, fun j _ g => absurd g (by omega)⟩) ⟨rfl, rfl, rfl, rfl, rfl, rfl, rfl, rfl, rfl, rfl, rfl, rfl, rfl, rfl, rfl, rfl, rfl, rfl, rfl, rfl, rfl, rfl, rfl, rfl, rfl, rfl, rfl, rfl, trivial⟩ (by (repeat' constructor)) ?_
    rintro n ⟨hn, hlt⟩
    refine G.seq (G.seq ?_)
    refine G.draw [] [[0, 1, 2, 3, 4, 5, 6, 7, 8, 9, 10, 11, 12, 13]] mixed (by kernel_rfl) ?_
    refine Phases.go [] (by (repeat' constructor)) ?_
    refine D.qw [3, 4, 5, 6, 7, 8, 9, 10, 11, 12, 13] rfl (by kernel_rfl) (Quiet.move rfl) ?_
    refine D.qw [2, 3, 4, 5, 6, 7, 8, 9, 10, 11, 12, 13] rfl (by kernel_rfl) (Quiet.move rfl) ?_
    refine D.qw [3, 4, 5, 6, 7, 8, 9, 10, 11, 12, 13] rfl (by kernel_rfl) (Quiet.slen rfl Tryz.underlying76 rfl) ?_
    refine D.qw [4, 5, 6, 7, 8, 9, 10, 11, 12, 13] rfl (by kernel_rfl) (Quiet.int rfl rfl rfl) ?_
    refine D.qw [5, 6, 7, 8, 9, 10, 11, 12, 13] rfl (by kernel_rfl) (Quiet.move rfl) ?_
    refine D.dec (t := 41) rfl (fun h11_41 => ?_) (fun h11_41 => ?_)
    ·refine D.kDT (t := 40) rfl h11_41 ?_
     refine D.gqw [7, 8, 9, 12, 13] (t := 41) rfl rfl rfl (by kernel_rfl) (Quiet.move rfl) ?_
     refine D.gqw [7, 8, 9, 12, 13] (t := 41) rfl rfl rfl (by kernel_rfl) (Quiet.move rfl) ?_
     refine D.gqw [8, 9, 12, 13] (t := 41) rfl rfl rfl (by kernel_rfl) (Quiet.indexAddr rfl rfl el_76 (by omega)) ?_
     refine D.gqw [9, 12, 13] (t := 41) rfl rfl rfl (by kernel_rfl) (Quiet.fieldAddr rfl fo_147_0) ?_
     refine D.gqw [12, 13] (t := 41) rfl rfl rfl (by kernel_rfl) (Quiet.loadRd (sz := 4) (j := n * 4 + 0) (p := slR 147 4 _ ((tellW (ω.take i) e.1 e.2.1).map fun j => (j, e)).length (((tellW (ω.take i) e.1 e.2.1).map fun j => (j, e)).flatMap tldC)) (v := vint ((tellW (ω.take i) e.1 e.2.1)[n]'(by omega))) rfl ag_3 (by (repeat' constructor)) (fun h hp => slR_rd hp) (by omega) (by rw [tld_cell (l := ((tellW (ω.take i) e.1 e.2.1).map fun j => (j, e))) (i := n) (k := 0) (by omega) (by decide)]; simp [tldC])) ?_
     refine D.gqw [11, 12, 13] (t := 41) rfl rfl rfl (by kernel_rfl) (Quiet.fieldAddr rfl fo_168_0) ?_
     refine D.gqw [12, 13] (t := 41) rfl rfl rfl (by kernel_rfl) (Quiet.load rfl ag_3 (by (repeat' constructor)) (rfl)) ?_
     refine D.gqw [13] (t := 41) rfl rfl rfl (by kernel_rfl) (Quiet.int rfl rfl rfl) ?_
     refine D.qw [] rfl (by kernel_rfl) (Quiet.pickT rfl rfl) ?_
     refine D.ph (Phases.fin (G.then_n ?_))
     refine G.condD rfl (fun h50 => ?_) (fun h50 => ?_)
     ·refine G.skip (G.then_n (G.block (G.region (G.q (Quiet.move rfl) rfl ?_))))
      refine G.q (Quiet.add rfl rfl (by omega)) rfl ?_
      refine G.q (Quiet.assign rfl) rfl (G.nil (G.blk_n (G.then_n ?_)))
      exact G.roundK (n + 1) (⟨by omega, fun j hj hjn => by by_cases g : j = n; (subst g; exact h50); exact hlt j hj (by omega)⟩) (by omega) ⟨rfl, rfl, rfl, rfl, rfl, rfl, rfl, rfl, rfl, rfl, rfl, rfl, rfl, rfl, rfl, rfl, rfl, rfl, rfl, rfl, rfl, rfl, rfl, rfl, rfl, rfl, rfl, rfl, trivial⟩ (by (repeat' constructor)) (by ((repeat (apply Have.cons; (repeat (first | exact Pick.here | apply Pick.there)))); apply Have.base; repeat' constructor))
     ·refine G.exit (G.then_e (G.then_e (G.blk_e (G.then_n (G.seq (G.seq ?_))))))
      refine G.draw [] [[0, 1, 2, 3, 4, 5, 6, 7, 8, 9, 10, 11, 12, 13]] mixed (by kernel_rfl) ?_
      refine Phases.go [] (by (repeat' constructor)) ?_
      refine D.qw [3, 4, 5, 6, 7, 8, 9, 10, 11, 12, 13] rfl (by kernel_rfl) (Quiet.move rfl) ?_
      refine D.qw [2, 3, 4, 5, 6, 7, 8, 9, 10, 11, 12, 13] rfl (by kernel_rfl) (Quiet.move rfl) ?_
      refine D.qw [3, 4, 5, 6, 7, 8, 9, 10, 11, 12, 13] rfl (by kernel_rfl) (Quiet.slen rfl Tryz.underlying76 rfl) ?_
      refine D.qw [4, 5, 6, 7, 8, 9, 10, 11, 12, 13] rfl (by kernel_rfl) (Quiet.as (v' := .bool true) (by exact congrArg Value.bool (decide_eq_true (by omega))) (Quiet.int rfl rfl rfl)) ?_
      refine D.qw [5, 6, 7, 8, 9, 10, 11, 12, 13] rfl (by kernel_rfl) (Quiet.move rfl) ?_
      refine D.gqw [7, 8, 9, 12, 13] (t := 57) rfl rfl rfl (by kernel_rfl) (Quiet.move rfl) ?_
      refine D.gqw [7, 8, 9, 12, 13] (t := 57) rfl rfl rfl (by kernel_rfl) (Quiet.move rfl) ?_
      refine D.gqw [8, 9, 12, 13] (t := 57) rfl rfl rfl (by kernel_rfl) (Quiet.indexAddr rfl rfl el_76 (by omega)) ?_
      refine D.gqw [9, 12, 13] (t := 57) rfl rfl rfl (by kernel_rfl) (Quiet.fieldAddr rfl fo_147_0) ?_
      refine D.gqw [12, 13] (t := 57) rfl rfl rfl (by kernel_rfl) (Quiet.loadRd (sz := 4) (j := n * 4 + 0) (p := slR 147 4 _ ((tellW (ω.take i) e.1 e.2.1).map fun j => (j, e)).length (((tellW (ω.take i) e.1 e.2.1).map fun j => (j, e)).flatMap tldC)) (v := vint ((tellW (ω.take i) e.1 e.2.1)[n]'(by omega))) rfl ag_3 (by (repeat' constructor)) (fun h hp => slR_rd hp) (by omega) (by rw [tld_cell (l := ((tellW (ω.take i) e.1 e.2.1).map fun j => (j, e))) (i := n) (k := 0) (by omega) (by decide)]; simp [tldC])) ?_
      refine D.gqw [11, 12, 13] (t := 57) rfl rfl rfl (by kernel_rfl) (Quiet.fieldAddr rfl fo_168_0) ?_
      refine D.gqw [12, 13] (t := 57) rfl rfl rfl (by kernel_rfl) (Quiet.load rfl ag_3 (by (repeat' constructor)) (rfl)) ?_
      refine D.gqw [13] (t := 57) rfl rfl rfl (by kernel_rfl) (Quiet.int rfl rfl rfl) ?_
      refine D.qw [] rfl (by kernel_rfl) (Quiet.pickT rfl rfl) ?_
      refine D.ph (Phases.fin (G.then_n ?_))
      refine G.condD rfl (fun h66 => ?_) (fun h66 => ?_)
      ·refine G.exit (G.then_e (G.blk_e (G.then_n (G.region (G.q (Quiet.move rfl) rfl ?_)))))
       refine G.q (Quiet.add rfl rfl (by omega)) rfl ?_
       refine G.q (Quiet.assign rfl) rfl (G.nil (G.then_n ?_))
       have hme : meetW e.1 e.2.1 ω[i] = true := by simpa using h32
       have hL := left_step hi2 e.1 e.2.1
       rw [if_pos hme, List.append_nil] at hL
       have hT := tell_twin hi2 (k := e.1) (p := e.2.1) (by rw [← h66]; exact List.getElem_mem _)
       rw [show ((tellW (ω.take i) e.1 e.2.1).map fun j => (j, e)).length = ((tellW (ω.take (i + 1)) e.1 e.2.1).map fun j => (j, e)).length by rw [hT]]
       refine G.slCast (T := 147) (sz := 4) (v := .slice (some ⟨bo, 0, none⟩) _ cu) (m' := ((tellW (ω.take (i + 1)) e.1 e.2.1).map fun j => (j, e)).length) (xs' := ((tellW (ω.take (i + 1)) e.1 e.2.1).map fun j => (j, e)).flatMap tldC) (by (repeat' constructor)) (by exact rfl) (by rw [hT]) ?_
       rw [← hL]
       exact G.roundK ((i + 1, .slice (some ⟨bo, 0, none⟩) ((tellW (ω.take (i + 1)) e.1 e.2.1).map fun j => (j, e)).length cu, .slice ar (leftW (ω.take (i + 1)) e.1 e.2.1).length cr)) (⟨by dsimp only; omega, ⟨_, _, rfl⟩, ⟨_, _, rfl⟩, fun g => absurd g (by dsimp only; rw [hT]; omega)⟩) (by dsimp only; omega) ⟨rfl, rfl, rfl, rfl, rfl, rfl, trivial⟩ (by (repeat' constructor)) (by ((repeat (apply Have.cons; (repeat (first | exact Pick.here | apply Pick.there)))); apply Have.base; repeat' constructor))
      ·refine G.skip (G.then_n (G.seq (G.add (slR_nil 147 4) (G.region (G.q (Quiet.assign rfl) rfl (G.nil (G.then_n (G.seq (G.region (G.q (Quiet.move rfl) rfl (G.q (Quiet.move rfl) rfl (G.q (Quiet.move rfl) rfl ?_))))))))))))
       refine G.q (Quiet.to (v' := .slice (some ⟨bo, 0, none⟩) n cu) (Quiet.slTo rfl el_76 rfl (by omega) (.inr ⟨_, _, rfl⟩)) (by simp)) rfl ?_
       refine G.op (OpSpec.append (n := 0) (m := n) (ys := (((tellW (ω.take i) e.1 e.2.1).map fun j => (j, e)).take n).flatMap tldC) (p := slR 147 4 (.slice (some ⟨bo, 0, none⟩) ((tellW (ω.take i) e.1 e.2.1).map fun j => (j, e)).length cu) ((tellW (ω.take i) e.1 e.2.1).map fun j => (j, e)).length (((tellW (ω.take i) e.1 e.2.1).map fun j => (j, e)).flatMap tldC)) rfl rfl rfl el_76 (.inl ⟨_, Tryz.underlying76⟩) ze_147 rfl rfl ?hc118 ?hr119 ?hb120 (by decide)) (by (repeat' constructor)) rfl ?nx121
       case hc118 => exact tld_cells _
       case hr119 => exact fun h hp => by have := slR_rd_to (k := n) (by omega) hp; rw [(flat_take (f := tldC) (sz := 4) (fun _ => rfl) _ n).1] at this; exact this
       case hb120 => omega
       rintro v L' ⟨⟨a15, c15, rfl⟩, rfl⟩; rw [Nat.zero_add, List.nil_append]
       refine G.q (Quiet.assign rfl) rfl (G.nil (G.then_n (G.seq (G.region (G.q (Quiet.move rfl) rfl (G.q (Quiet.fieldAddr rfl fo_168_0) rfl ?_))))))
       refine G.q (Quiet.load rfl ag_3 (by (repeat' constructor)) (rfl)) rfl ?_
       refine G.q (Quiet.loadAs (vs := evC e) rfl ag_75 (by (repeat' constructor)) (by simp [evC]) rfl) rfl ?_
       refine G.q (Quiet.to (v' := .agg (tldC (ω[i].1, e)).toArray) (Quiet.buildN (pl := [(0, 1), (1, 3)]) (us := [(0, vint ω[i].1), (1, .agg (evC e).toArray)]) (cells := tldC (ω[i].1, e)) Tryz.underlying147 (by kernel_rfl) ze_147 rfl rfl) rfl) rfl ?_
       refine G.op (OpSpec.buildSlice (vs := [_]) el_76 ze_147 rfl rfl rfl rfl (by first | (simp [Value.cells]; done) | (intro v hv; simp only [List.mem_cons, List.not_mem_nil, or_false] at hv; (repeat (first | (subst hv; rfl) | (rcases hv with hv | hv; (subst hv; rfl)))))) (by decide)) (by (repeat' constructor)) rfl ?nx127
       rintro v L' ⟨b16, rfl, rfl⟩
       refine G.op (OpSpec.append1 rfl rfl rfl el_76 ze_147 rfl rfl ?c129 ?c130 (Nat.le_refl _) ?c131 (by decide)) (by (repeat' constructor)) rfl ?nx132
       case c129 => simp only [List.map_cons, List.map_nil, List.flatten_cons, List.flatten_nil, List.append_nil]; exact tld_cells1 _
       case c130 => rfl
       case c131 => omega
       rintro v L' ⟨⟨a16_6, c16_6, rfl⟩, rfl⟩
       refine G.q (Quiet.assign rfl) rfl (G.nil (G.then_n (G.region (G.q (Quiet.move rfl) rfl (G.q (Quiet.move rfl) rfl (G.q (Quiet.move rfl) rfl ?_))))))
       refine G.q (Quiet.slFromO (i := (n : Int)) rfl el_76 rfl (by omega)) rfl ?_
       refine G.op (OpSpec.append (n := n + 1) (m := ((tellW (ω.take i) e.1 e.2.1).map fun j => (j, e)).length - (n : Int).toNat) (ys := (((tellW (ω.take i) e.1 e.2.1).map fun j => (j, e)).drop n).flatMap tldC) (p := slR 147 4 (.slice (some ⟨bo, 0, none⟩) ((tellW (ω.take i) e.1 e.2.1).map fun j => (j, e)).length cu) ((tellW (ω.take i) e.1 e.2.1).map fun j => (j, e)).length (((tellW (ω.take i) e.1 e.2.1).map fun j => (j, e)).flatMap tldC)) rfl rfl rfl el_76 (.inl ⟨_, Tryz.underlying76⟩) ze_147 rfl rfl ?hc137 ?hr138 ?hb139 (by decide)) (by (repeat' constructor)) rfl ?nx140
       case hc137 => exact tld_cells _
       case hr138 => exact fun h hp => by rw [Int.toNat_natCast]; have := slR_rd_from (k := n) (by omega) hp; rw [(flat_take (f := tldC) (sz := 4) (fun _ => rfl) _ n).2] at this; exact this
       case hb139 => omega
       rintro v L' ⟨⟨a17, c17, rfl⟩, rfl⟩
       refine G.q (Quiet.assign rfl) rfl (G.nil (G.blk_n (G.then_n (G.region (G.q (Quiet.move rfl) rfl ?_)))))
       refine G.q (Quiet.add rfl rfl (by omega)) rfl ?_
       refine G.q (Quiet.assign rfl) rfl (G.nil (G.then_n ?_))
       have hme : meetW e.1 e.2.1 ω[i] = true := by simpa using h32
       have hL := left_step hi2 e.1 e.2.1
       rw [if_pos hme, List.append_nil] at hL
       have hT := tell_ins hi2 hme (n := n) (fun j hj hjn => hlt j hj hjn) (fun h => by first | omega | exact absurd h (by omega))
       have hO : ((tellW (ω.take (i + 1)) e.1 e.2.1).map fun j => (j, e)) = ((tellW (ω.take i) e.1 e.2.1).map fun j => (j, e)).take n ++ [(ω[i].1, e)] ++ ((tellW (ω.take i) e.1 e.2.1).map fun j => (j, e)).drop n := by rw [hT]; simp [List.map_take, List.map_drop]
       have hOl : n + 1 + (((tellW (ω.take i) e.1 e.2.1).map fun j => (j, e)).length - (n : Int).toNat) = ((tellW (ω.take (i + 1)) e.1 e.2.1).map fun j => (j, e)).length := by rw [hO, List.length_append, List.length_append, List.length_take, List.length_drop, Int.toNat_natCast]; simp only [List.length_cons, List.length_nil]; omega
       rw [hOl]
       refine G.slCast (T := 147) (sz := 4) (v := .slice a17 _ c17) (m' := ((tellW (ω.take (i + 1)) e.1 e.2.1).map fun j => (j, e)).length) (xs' := ((tellW (ω.take (i + 1)) e.1 e.2.1).map fun j => (j, e)).flatMap tldC) (by (repeat' constructor)) (by exact rfl) (by rw [hO, List.flatMap_append, List.flatMap_append]; simp [Value.cells]) ?_
       rw [← hL]
       exact G.roundK ((i + 1, .slice a17 ((tellW (ω.take (i + 1)) e.1 e.2.1).map fun j => (j, e)).length c17, .slice ar (leftW (ω.take (i + 1)) e.1 e.2.1).length cr)) (⟨by dsimp only; omega, ⟨_, _, rfl⟩, ⟨_, _, rfl⟩, fun g => absurd g (by dsimp only; rw [hO]; simp)⟩) (by dsimp only; omega) ⟨rfl, rfl, rfl, rfl, rfl, rfl, trivial⟩ (by (repeat' constructor)) (by ((repeat (apply Have.cons; (repeat (first | exact Pick.here | apply Pick.there)))); apply Have.base; repeat' constructor))
    ·refine D.kDF (t := 40) rfl h11_41 ?_
     refine D.gs (t := 41) rfl rfl rfl rfl (by kernel_rfl) ?_
     refine D.gs (t := 41) rfl rfl rfl rfl (by kernel_rfl) ?_
     refine D.gs (t := 41) rfl rfl rfl rfl (by kernel_rfl) ?_
     refine D.gs (t := 41) rfl rfl rfl rfl (by kernel_rfl) ?_
     refine D.gs (t := 41) rfl rfl rfl rfl (by kernel_rfl) ?_
     refine D.gs (t := 41) rfl rfl rfl rfl (by kernel_rfl) ?_
     refine D.gs (t := 41) rfl rfl rfl rfl (by kernel_rfl) ?_
     refine D.gs (t := 41) rfl rfl rfl rfl (by kernel_rfl) ?_
     refine D.qw [] rfl (by kernel_rfl) (Quiet.pickF rfl rfl) ?_
     refine D.ph (Phases.fin (G.then_n (G.condF rfl (G.exit (G.then_e (G.then_e (G.blk_e (G.then_n (G.seq (G.seq ?_))))))))))
     refine G.draw [] [[0, 1, 2, 3, 4, 5, 6, 7, 8, 9, 10, 11, 12, 13]] mixed (by kernel_rfl) ?_
     refine Phases.go [] (by (repeat' constructor)) ?_
     refine D.qw [3, 4, 5, 6, 7, 8, 9, 10, 11, 12, 13] rfl (by kernel_rfl) (Quiet.move rfl) ?_
     refine D.qw [2, 3, 4, 5, 6, 7, 8, 9, 10, 11, 12, 13] rfl (by kernel_rfl) (Quiet.move rfl) ?_
     refine D.qw [3, 4, 5, 6, 7, 8, 9, 10, 11, 12, 13] rfl (by kernel_rfl) (Quiet.slen rfl Tryz.underlying76 rfl) ?_
     refine D.qw [4, 5, 6, 7, 8, 9, 10, 11, 12, 13] rfl (by kernel_rfl) (Quiet.as (v' := .bool false) (by exact congrArg Value.bool (decide_eq_false (by omega))) (Quiet.int rfl rfl rfl)) ?_
     refine D.qw [5, 6, 7, 8, 9, 10, 11, 12, 13] rfl (by kernel_rfl) (Quiet.move rfl) ?_
     refine D.gs (t := 57) rfl rfl rfl rfl (by kernel_rfl) ?_
     refine D.gs (t := 57) rfl rfl rfl rfl (by kernel_rfl) ?_
     refine D.gs (t := 57) rfl rfl rfl rfl (by kernel_rfl) ?_
     refine D.gs (t := 57) rfl rfl rfl rfl (by kernel_rfl) ?_
     refine D.gs (t := 57) rfl rfl rfl rfl (by kernel_rfl) ?_
     refine D.gs (t := 57) rfl rfl rfl rfl (by kernel_rfl) ?_
     refine D.gs (t := 57) rfl rfl rfl rfl (by kernel_rfl) ?_
     refine D.gs (t := 57) rfl rfl rfl rfl (by kernel_rfl) ?_
     refine D.qw [] rfl (by kernel_rfl) (Quiet.pickF rfl rfl) ?_
     refine D.ph (Phases.fin (G.then_n (G.condF rfl (G.skip (G.then_n (G.seq (G.add (slR_nil 147 4) (G.region (G.q (Quiet.assign rfl) rfl (G.nil (G.then_n (G.seq (G.region (G.q (Quiet.move rfl) rfl (G.q (Quiet.move rfl) rfl (G.q (Quiet.move rfl) rfl ?_))))))))))))))))
     refine G.q (Quiet.to (v' := .slice (some ⟨bo, 0, none⟩) n cu) (Quiet.slTo rfl el_76 rfl (by omega) (.inr ⟨_, _, rfl⟩)) (by simp)) rfl ?_
     refine G.op (OpSpec.append (n := 0) (m := n) (ys := (((tellW (ω.take i) e.1 e.2.1).map fun j => (j, e)).take n).flatMap tldC) (p := slR 147 4 (.slice (some ⟨bo, 0, none⟩) ((tellW (ω.take i) e.1 e.2.1).map fun j => (j, e)).length cu) ((tellW (ω.take i) e.1 e.2.1).map fun j => (j, e)).length (((tellW (ω.take i) e.1 e.2.1).map fun j => (j, e)).flatMap tldC)) rfl rfl rfl el_76 (.inl ⟨_, Tryz.underlying76⟩) ze_147 rfl rfl ?hc154 ?hr155 ?hb156 (by decide)) (by (repeat' constructor)) rfl ?nx157
     case hc154 => exact tld_cells _
     case hr155 => exact fun h hp => by have := slR_rd_to (k := n) (by omega) hp; rw [(flat_take (f := tldC) (sz := 4) (fun _ => rfl) _ n).1] at this; exact this
     case hb156 => omega
     rintro v L' ⟨⟨a15, c15, rfl⟩, rfl⟩; rw [Nat.zero_add, List.nil_append]
     refine G.q (Quiet.assign rfl) rfl (G.nil (G.then_n (G.seq (G.region (G.q (Quiet.move rfl) rfl (G.q (Quiet.fieldAddr rfl fo_168_0) rfl ?_))))))
     refine G.q (Quiet.load rfl ag_3 (by (repeat' constructor)) (rfl)) rfl ?_
     refine G.q (Quiet.loadAs (vs := evC e) rfl ag_75 (by (repeat' constructor)) (by simp [evC]) rfl) rfl ?_
     refine G.q (Quiet.to (v' := .agg (tldC (ω[i].1, e)).toArray) (Quiet.buildN (pl := [(0, 1), (1, 3)]) (us := [(0, vint ω[i].1), (1, .agg (evC e).toArray)]) (cells := tldC (ω[i].1, e)) Tryz.underlying147 (by kernel_rfl) ze_147 rfl rfl) rfl) rfl ?_
     refine G.op (OpSpec.buildSlice (vs := [_]) el_76 ze_147 rfl rfl rfl rfl (by first | (simp [Value.cells]; done) | (intro v hv; simp only [List.mem_cons, List.not_mem_nil, or_false] at hv; (repeat (first | (subst hv; rfl) | (rcases hv with hv | hv; (subst hv; rfl)))))) (by decide)) (by (repeat' constructor)) rfl ?nx163
     rintro v L' ⟨b16, rfl, rfl⟩
     refine G.op (OpSpec.append1 rfl rfl rfl el_76 ze_147 rfl rfl ?c165 ?c166 (Nat.le_refl _) ?c167 (by decide)) (by (repeat' constructor)) rfl ?nx168
     case c165 => simp only [List.map_cons, List.map_nil, List.flatten_cons, List.flatten_nil, List.append_nil]; exact tld_cells1 _
     case c166 => rfl
     case c167 => omega
     rintro v L' ⟨⟨a16_6, c16_6, rfl⟩, rfl⟩
     refine G.q (Quiet.assign rfl) rfl (G.nil (G.then_n (G.region (G.q (Quiet.move rfl) rfl (G.q (Quiet.move rfl) rfl (G.q (Quiet.move rfl) rfl ?_))))))
     refine G.q (Quiet.slFromO (i := (n : Int)) rfl el_76 rfl (by omega)) rfl ?_
     refine G.op (OpSpec.append (n := n + 1) (m := ((tellW (ω.take i) e.1 e.2.1).map fun j => (j, e)).length - (n : Int).toNat) (ys := (((tellW (ω.take i) e.1 e.2.1).map fun j => (j, e)).drop n).flatMap tldC) (p := slR 147 4 (.slice (some ⟨bo, 0, none⟩) ((tellW (ω.take i) e.1 e.2.1).map fun j => (j, e)).length cu) ((tellW (ω.take i) e.1 e.2.1).map fun j => (j, e)).length (((tellW (ω.take i) e.1 e.2.1).map fun j => (j, e)).flatMap tldC)) rfl rfl rfl el_76 (.inl ⟨_, Tryz.underlying76⟩) ze_147 rfl rfl ?hc173 ?hr174 ?hb175 (by decide)) (by (repeat' constructor)) rfl ?nx176
     case hc173 => exact tld_cells _
     case hr174 => exact fun h hp => by rw [Int.toNat_natCast]; have := slR_rd_from (k := n) (by omega) hp; rw [(flat_take (f := tldC) (sz := 4) (fun _ => rfl) _ n).2] at this; exact this
     case hb175 => omega
     rintro v L' ⟨⟨a17, c17, rfl⟩, rfl⟩
     refine G.q (Quiet.assign rfl) rfl (G.nil (G.blk_n (G.then_n (G.region (G.q (Quiet.move rfl) rfl ?_)))))
     refine G.q (Quiet.add rfl rfl (by omega)) rfl ?_
     refine G.q (Quiet.assign rfl) rfl (G.nil (G.then_n ?_))
     have hme : meetW e.1 e.2.1 ω[i] = true := by simpa using h32
     have hL := left_step hi2 e.1 e.2.1
     rw [if_pos hme, List.append_nil] at hL
     have hT := tell_ins hi2 hme (n := n) (fun j hj hjn => hlt j hj hjn) (fun h => by first | omega | exact absurd h (by omega))
     have hO : ((tellW (ω.take (i + 1)) e.1 e.2.1).map fun j => (j, e)) = ((tellW (ω.take i) e.1 e.2.1).map fun j => (j, e)).take n ++ [(ω[i].1, e)] ++ ((tellW (ω.take i) e.1 e.2.1).map fun j => (j, e)).drop n := by rw [hT]; simp [List.map_take, List.map_drop]
     have hOl : n + 1 + (((tellW (ω.take i) e.1 e.2.1).map fun j => (j, e)).length - (n : Int).toNat) = ((tellW (ω.take (i + 1)) e.1 e.2.1).map fun j => (j, e)).length := by rw [hO, List.length_append, List.length_append, List.length_take, List.length_drop, Int.toNat_natCast]; simp only [List.length_cons, List.length_nil]; omega
     rw [hOl]
     refine G.slCast (T := 147) (sz := 4) (v := .slice a17 _ c17) (m' := ((tellW (ω.take (i + 1)) e.1 e.2.1).map fun j => (j, e)).length) (xs' := ((tellW (ω.take (i + 1)) e.1 e.2.1).map fun j => (j, e)).flatMap tldC) (by (repeat' constructor)) (by exact rfl) (by rw [hO, List.flatMap_append, List.flatMap_append]; simp [Value.cells]) ?_
     rw [← hL]
     exact G.roundK ((i + 1, .slice a17 ((tellW (ω.take (i + 1)) e.1 e.2.1).map fun j => (j, e)).length c17, .slice ar (leftW (ω.take (i + 1)) e.1 e.2.1).length cr)) (⟨by dsimp only; omega, ⟨_, _, rfl⟩, ⟨_, _, rfl⟩, fun g => absurd g (by dsimp only; rw [hO]; simp)⟩) (by dsimp only; omega) ⟨rfl, rfl, rfl, rfl, rfl, rfl, trivial⟩ (by (repeat' constructor)) (by ((repeat (apply Have.cons; (repeat (first | exact Pick.here | apply Pick.there)))); apply Have.base; repeat' constructor))
 ·have hii : i = ω.length := by omega
  rw [hii, List.take_length]
  refine G.exit (G.then_e (G.then_e (G.blk_e (G.then_n (G.seq (G.region (G.q (Quiet.move rfl) rfl (G.q (Quiet.move rfl) rfl (G.q (Quiet.nilp rfl) rfl (G.q (Quiet.fieldAddr rfl fo_164_0) rfl ?_))))))))))
  refine G.op (OpSpec.store rfl rfl rfl sz_162 ?c184 ?c185) (by (repeat' constructor)) rfl ?nx186
  case c184 => first | decide | (simp; omega) | simp
  case c185 => exact nfz0 _ _
  rintro v L' rfl
  refine G.nil (G.then_n (G.seq (G.region (G.q (Quiet.move rfl) rfl (G.q (Quiet.assign rfl) rfl (G.nil (G.then_n (G.ret ?_))))))))
  refine G.rwFold (x := x) (leftW ω e.1 e.2.1) (a := ar) (c := cr) (m := (leftW ω e.1 e.2.1).length) (by (repeat' constructor)) rfl rfl rfl ?_
  exact G.done (l := [.tmp 4]) rfl rfl ⟨_, _, rfl, rfl⟩ (by (repeat' constructor)) (by (repeat' constructor))

theorem fireTo_sub (ω : List Wt) (es : List Ev) : ∀ i, ∀ w ∈ (fireTo ω es i).1, w ∈ ω
  | 0, w, h => h
  | i + 1, w, h => fireTo_sub ω es i w (left_mem h)
theorem Wk.fireTo {ω : List Wt} {M : Nat} (h : Wk ω M) (es : List Ev) : ∀ i, Wk (fireTo ω es i).1 M
  | 0 => h
  | i + 1 => (Wk.fireTo h es i).filter _
set_option maxRecDepth 100000 in
theorem rwfire_spec (x : Nat) (ω : List Wt) (va : Value) (es : List Ev) (p : HP) (hp : ∀ h : Hp, p h → rdS 3 h va es.length (es.flatMap evC)) (M : Nat) (hk : Wk ω M) (hM : M ≤ 1048576) (hfit : ∀ w ∈ ω, 1 ≤ w.2.1 ∧ w.2.1 ≤ 3) (hel : es.length ≤ 3145728) : Fn Tryz.prog 116 #[vptr x, va] [rwR x ω, p] fun v L => ∃ a c, v = .slice a (fireL ω es).2.length c ∧ L = [rwR x (fireL ω es).1, p, slR 147 4 v (fireL ω es).2.length ((fireL ω es).2.flatMap tldC)] := by
 refine Fn.intro (vs := [vptr x, va]) Tryz.func116 rfl rfl ?_
 intro F W
 refine G.rdAny (p := p) hp (by (repeat' constructor)) fun aa ca e0 _ => ?_
 subst e0
 have hwl := hk.len
 refine G.seq (G.region (G.q (Quiet.assign rfl) rfl (G.nil (G.then_n (G.seq (G.add (slR_nil 147 4) (G.region (G.q (Quiet.assign rfl) rfl (G.nil (G.then_n (G.seq (G.seq (G.region (G.q (Quiet.assign rfl) rfl (G.nil (G.then_n (G.block ?_)))))))))))))))))
 refine G.rwCast (x := x) (ω' := (fireTo ω es 0).1) (by (repeat' constructor)) rfl ?_
 refine G.loopK (ι := Nat × Value) (fun q E => (6, vint q.1) :: (5, q.2) :: E) (fun q => [rwR x (fireTo ω es q.1).1, slR 147 4 q.2 (fireTo ω es q.1).2.length ((fireTo ω es q.1).2.flatMap tldC)]) (fun q => q.1 ≤ es.length ∧ ∃ a c, q.2 = .slice a (fireTo ω es q.1).2.length c) (fun q => es.length - q.1) (0, .slice none 0 0) (ts := [0, 1, 4]) (.cons rfl (.cons rfl (.cons rfl (.nil)))) (⟨Nat.zero_le _, none, 0, rfl⟩) ⟨rfl, rfl, rfl, rfl, rfl, trivial⟩ (by (repeat' constructor)) ?_
 rintro ⟨i, u⟩ ⟨hi, au, cu, hu⟩
 dsimp only
 dsimp only at hi hu
 subst hu
 have hfl := fire_len ω es i
 have hml : i * ω.length ≤ 3145728 * 1048576 := Nat.mul_le_mul (by omega) (by omega)
 refine G.seq (G.seq (G.region (G.q (Quiet.move rfl) rfl (G.q (Quiet.move rfl) rfl (G.q (Quiet.slen rfl Tryz.underlying30 rfl) rfl (G.q (Quiet.int rfl rfl rfl) rfl (G.nil (G.then_n ?_))))))))
 refine G.condD rfl (fun h11 => ?_) (fun h11 => ?_)
 ·have hi2 : i < es.length := by omega
  refine G.rdShape (p := p) hp (by (repeat' constructor)) (by omega) fun be oe e1 => ?_
  subst e1
  have hwk := hk.fireTo es i
  have htl : (fire1 (fireTo ω es i).1 es[i]).2.length ≤ 1048576 := by show (List.map _ _).length ≤ _; rw [List.length_map]; have := tell_len (fireTo ω es i).1 es[i].1 es[i].2.1; omega
  refine G.skip (G.then_n (G.seq (G.block (G.seq (G.region (G.q (Quiet.move rfl) rfl (G.q (Quiet.move rfl) rfl (G.q (Quiet.move rfl) rfl ?_))))))))
  refine G.q (Quiet.indexAddr rfl rfl el_30 (by omega)) rfl ?_
  refine G.q (Quiet.loadRdA (sz := 3) (j := i * 3) (k := 3) (p := p) (vs := evC es[i]) rfl ag_75 (by (repeat' constructor)) hp (by simp) (by omega) (by omega) (flatMap_at (f := evC) (sz := 3) (fun _ _ => rfl) (by omega))) rfl ?_
  refine G.op (OpSpec.call Tryz.func143 rfl rfl (vs := [_, _]) rfl (rwfire1_spec x (fireTo ω es i).1 es[i] M hwk hM (fun w hw => hfit w (fireTo_sub ω es i w hw)))) (by (repeat' constructor)) rfl ?nx13
  rintro v L' ⟨a5, c5, rfl, rfl⟩
  refine G.q (Quiet.assign rfl) rfl (G.nil (G.then_n (G.region (G.q (Quiet.move rfl) rfl (G.q (Quiet.move rfl) rfl ?_)))))
  refine G.op (OpSpec.append (n := (fireTo ω es i).2.length) (m := (fire1 (fireTo ω es i).1 es[i]).2.length) (ys := (fire1 (fireTo ω es i).1 es[i]).2.flatMap tldC) (p := slR 147 4 (.slice a5 (fire1 (fireTo ω es i).1 es[i]).2.length c5) (fire1 (fireTo ω es i).1 es[i]).2.length ((fire1 (fireTo ω es i).1 es[i]).2.flatMap tldC)) rfl rfl rfl el_76 (.inl ⟨_, Tryz.underlying76⟩) ze_147 rfl rfl ?hc16 ?hr17 ?hb18 (by decide)) (by (repeat' constructor)) rfl ?nx19
  case hc16 => exact tld_cells _
  case hr17 => exact fun h hp => slR_rd hp
  case hb18 => omega
  rintro v L' ⟨⟨a6, c6, rfl⟩, rfl⟩
  refine G.q (Quiet.assign rfl) rfl (G.nil (G.blk_n (G.then_n (G.region (G.q (Quiet.move rfl) rfl ?_)))))
  refine G.q (Quiet.add rfl rfl (by omega)) rfl ?_
  refine G.q (Quiet.assign rfl) rfl (G.nil (G.then_n ?_))
  have hF : (fireTo ω es (i + 1)) = ((fire1 (fireTo ω es i).1 es[i]).1, (fireTo ω es i).2 ++ (fire1 (fireTo ω es i).1 es[i]).2) := fire_succ (by rw [List.getD_eq_getElem?_getD, List.getElem?_eq_getElem hi2]; rfl)
  refine G.rwCast (x := x) (ω' := (fireTo ω es (i + 1)).1) (by (repeat' constructor)) (by rw [hF]) ?_
  rw [show (fireTo ω es i).2.length + (fire1 (fireTo ω es i).1 es[i]).2.length = (fireTo ω es (i + 1)).2.length by rw [hF]; simp]
  refine G.slCast (T := 147) (sz := 4) (v := .slice a6 _ c6) (m' := (fireTo ω es (i + 1)).2.length) (xs' := (fireTo ω es (i + 1)).2.flatMap tldC) (by (repeat' constructor)) (by exact rfl) (by rw [hF, List.flatMap_append]) ?_
  exact G.roundK ((i + 1, .slice a6 (fireTo ω es (i + 1)).2.length c6)) (⟨by dsimp only; omega, _, _, rfl⟩) (by dsimp only; omega) ⟨rfl, rfl, rfl, rfl, rfl, trivial⟩ (by (repeat' constructor)) (by ((repeat (apply Have.cons; (repeat (first | exact Pick.here | apply Pick.there)))); apply Have.base; repeat' constructor))
 ·have hii : i = es.length := by omega
  rw [hii]
  refine G.exit (G.then_e (G.then_e (G.blk_e (G.then_n (G.seq (G.region (G.q (Quiet.move rfl) rfl (G.q (Quiet.assign rfl) rfl (G.nil (G.then_n (G.ret ?_)))))))))))
  exact G.done (l := [.tmp 4]) rfl rfl ⟨_, _, rfl, rfl⟩ (by (repeat' constructor)) (by (repeat' constructor))

end Go.Proofs.YtnnbelmpbmfdnaaGreatDoor

/- Own work, by program: law 11: made: walked. -/

namespace Go.Proofs.YtnnbelmpbmfdnaaGreatDoor
open Go
set_option maxRecDepth 100000 in
theorem made11_spec : Fn Tryz.prog 38 #[] [] fun v L => ∃ s w t x y, v = vptr s ∧ L = [ptc s [vptr w, vptr t, vptr x, vptr y] 88, tbR w [], treeR t newT, rwR x [], refR y newT] := by
 refine Fn.intro (vs := []) Tryz.func38 rfl rfl ?_
 intro F W
 refine G.seq (G.region (G.q (Quiet.assign rfl) rfl (G.nil (G.then_n (G.seq (G.region ?_))))))
 refine G.op (OpSpec.call Tryz.func32 rfl rfl (vs := []) rfl (wnew_spec)) (by (repeat' constructor)) rfl ?nx2
 rintro v L' ⟨w, rfl, rfl⟩
 refine G.q (Quiet.assign rfl) rfl (G.nil (G.then_n (G.seq (G.region ?_))))
 refine G.op (OpSpec.call Tryz.func13 rfl rfl (vs := []) rfl (trnew_spec)) (by (repeat' constructor)) rfl ?nx4
 rintro v L' ⟨t, rfl, rfl⟩
 refine G.q (Quiet.assign rfl) rfl (G.nil (G.then_n (G.seq (G.seq (G.region (G.q (Quiet.move rfl) rfl ?_))))))
 refine G.q (Quiet.as (v' := .bool false) (by rfl) (Quiet.ptreq rfl rfl Tryz.underlying67)) rfl ?_
 refine G.q (Quiet.move rfl) rfl (G.grun (t := 7) rfl rfl rfl (G.q (Quiet.move rfl) rfl (G.grun (t := 7) rfl rfl rfl ?_)))
 refine G.q (Quiet.as (v' := .bool false) (by rfl) (Quiet.ptreq rfl rfl Tryz.underlying28)) rfl ?_
 refine G.q (Quiet.pickF rfl rfl) rfl (G.nil (G.then_n (G.condF rfl (G.skip (G.then_n (G.seq (G.region (G.q (Quiet.move rfl) rfl (G.q (Quiet.move rfl) rfl ?_)))))))))
 refine G.q (Quiet.build (us := []) fl_164 ze_164 rfl rfl (by simp [isCell])) rfl ?_
 refine G.op (OpSpec.box rfl) (by (repeat' constructor)) rfl ?nx9
 rintro v L' ⟨x, rfl, rfl⟩
 refine G.op (OpSpec.call Tryz.func25 rfl rfl (vs := []) rfl (rfnew_spec)) (by (repeat' constructor)) rfl ?nx11
 rintro v L' ⟨y, rfl, rfl⟩
 refine G.q (Quiet.build (us := [(0, _), (1, _), (2, _), (3, _)]) fl_88 ze_88 rfl rfl (by simp [isCell])) rfl ?_
 refine G.op (OpSpec.box rfl) (by (repeat' constructor)) rfl ?nx14
 rintro v L' ⟨s, rfl, rfl⟩
 refine G.q (Quiet.assign rfl) rfl (G.nil (G.then_n (G.ret (G.add (slR_nil 168 3) ?_))))
 refine G.rwFold (x := x) [] (a := none) (c := 0) (m := 0) (by (repeat' constructor)) rfl rfl rfl ?_
 exact G.done (l := [.tmp 0]) rfl rfl ⟨s, w, t, x, y, rfl, rfl⟩ (by (repeat' constructor)) (by (repeat' constructor))

set_option maxRecDepth 100000 in
theorem evsR_spec (xs ys : List Ev) (va vb : Value) (p q : HP) (hp : ∀ h : Hp, p h → rdS 3 h va xs.length (xs.flatMap evC)) (hq : ∀ h : Hp, q h → rdS 3 h vb ys.length (ys.flatMap evC)) (h1 : xs.length ≤ 4611686018427387904) : Fn Tryz.prog 42 #[va, vb] [p, q] fun v L => v = .bool (decide (xs = ys)) ∧ L = [p, q] := by
 refine Fn.intro (vs := [va, vb]) Tryz.func42 rfl rfl ?_
 intro F W
 refine G.rdAny (p := p) hp (by (repeat' constructor)) fun aa ca e0 _ => ?_
 subst e0
 refine G.rdAny (p := q) hq (by (repeat' constructor)) fun ab cb e0 _ => ?_
 subst e0
 refine G.seq (G.region (G.q (Quiet.assign rfl) rfl (G.nil (G.then_n (G.seq (G.seq (G.region (G.q (Quiet.move rfl) rfl (G.q (Quiet.slen rfl Tryz.underlying30 rfl) rfl (G.q (Quiet.move rfl) rfl (G.q (Quiet.slen rfl Tryz.underlying30 rfl) rfl (G.q (Quiet.int rfl rfl rfl) rfl (G.nil (G.then_n ?_))))))))))))))
 refine G.condN rfl (fun h10 => ?_) (fun h10 => ?_)
 ·refine G.seq (G.region (G.q (Quiet.assign rfl) rfl (G.nil (G.then_n (G.ret (G.then_r ?_))))))
  exact G.done (l := [.tmp 4]) rfl rfl ⟨by rw [decide_eq_false (fun e => h10 (by rw [e]))], rfl⟩ (by (repeat' constructor)) (by (repeat' constructor))
 ·have hlen : xs.length = ys.length := by omega
  refine G.skip (G.then_n (G.seq (G.seq (G.region (G.q (Quiet.assign rfl) rfl (G.nil (G.then_n (G.block ?_))))))))
  refine G.loopK (ι := Nat) (fun q E => (5, vint q) :: E) (fun q => []) (fun q => q ≤ xs.length ∧ xs.take q = ys.take q) (fun q => xs.length - q) (0) (ts := [0, 1]) (.cons rfl (.cons rfl (.nil))) (⟨Nat.zero_le _, rfl⟩) ⟨rfl, rfl, rfl, trivial⟩ (by (repeat' constructor)) ?_
  rintro i ⟨hi, hpre⟩
  refine G.seq (G.seq (G.region (G.q (Quiet.move rfl) rfl (G.q (Quiet.move rfl) rfl (G.q (Quiet.slen rfl Tryz.underlying30 rfl) rfl (G.q (Quiet.int rfl rfl rfl) rfl (G.nil (G.then_n ?_))))))))
  refine G.condD rfl (fun h14 => ?_) (fun h14 => ?_)
  ·have hi2 : i < xs.length := by omega
   have hi3 : i < ys.length := by omega
   refine G.rdShape (p := p) hp (by (repeat' constructor)) (by omega) fun ba oa e => ?_
   subst e
   refine G.rdShape (p := q) hq (by (repeat' constructor)) (by omega) fun bb ob e => ?_
   subst e
   refine G.skip (G.then_n (G.seq (G.block (G.seq ?_))))
   refine G.draw [] [[0, 1, 2, 3, 4, 5, 6, 7, 8]] mixed (by kernel_rfl) ?_
   refine Phases.go [] (by (repeat' constructor)) ?_
   refine D.qw [2, 3, 8] rfl (by kernel_rfl) (Quiet.move rfl) ?_
   refine D.qw [2, 3, 8] rfl (by kernel_rfl) (Quiet.move rfl) ?_
   refine D.qw [3, 8] rfl (by kernel_rfl) (Quiet.indexAddr rfl rfl el_30 (by omega)) ?_
   refine D.qw [8] rfl (by kernel_rfl) (Quiet.loadRdA (sz := 3) (j := i * 3) (k := 3) (p := p) (vs := evC xs[i]) rfl ag_75 (by (repeat' constructor)) hp (by simp) (by omega) (by omega) (flatMap_at (f := evC) (sz := 3) (fun _ _ => rfl) (by omega))) ?_
   refine D.qw [6, 7, 8] rfl (by kernel_rfl) (Quiet.move rfl) ?_
   refine D.qw [6, 7, 8] rfl (by kernel_rfl) (Quiet.move rfl) ?_
   refine D.qw [7, 8] rfl (by kernel_rfl) (Quiet.indexAddr rfl rfl el_30 (by omega)) ?_
   refine D.qw [8] rfl (by kernel_rfl) (Quiet.loadRdA (sz := 3) (j := i * 3) (k := 3) (p := q) (vs := evC ys[i]) rfl ag_75 (by (repeat' constructor)) hq (by simp) (by omega) (by omega) (flatMap_at (f := evC) (sz := 3) (fun _ _ => rfl) (by omega))) ?_
   refine D.qw [] rfl (by kernel_rfl) (Quiet.structNe (r := decide (xs[i] = ys[i])) rfl rfl (by kernel_rfl) (ev_eq 9998 _ _)) ?_
   refine D.ph (Phases.fin (G.then_n ?_))
   refine G.condN rfl (fun h25 => ?_) (fun h25 => ?_)
   ·refine G.seq (G.region (G.q (Quiet.assign rfl) rfl (G.nil (G.then_n (G.ret (G.blk_r (G.then_r (G.then_r (G.blk_r (G.then_r ?_))))))))))
    exact G.done (l := [.tmp 4]) rfl rfl ⟨by rw [decide_eq_false (fun e => h25 (by simp only [e]))], rfl⟩ (by (repeat' constructor)) (by (repeat' constructor))
   ·refine G.skip (G.blk_n (G.then_n (G.region (G.q (Quiet.move rfl) rfl ?_))))
    refine G.q (Quiet.add rfl rfl (by omega)) rfl ?_
    refine G.q (Quiet.assign rfl) rfl (G.nil (G.then_n ?_))
    exact G.roundK (i + 1) (⟨by omega, by rw [List.take_succ_eq_append_getElem hi2, List.take_succ_eq_append_getElem hi3, hpre, h25]⟩) (by omega) ⟨rfl, rfl, rfl, trivial⟩ (by (repeat' constructor)) (by ((repeat (apply Have.cons; (repeat (first | exact Pick.here | apply Pick.there)))); apply Have.base; repeat' constructor))
  ·refine G.exit (G.then_e (G.then_e (G.blk_e (G.then_n (G.seq (G.region (G.q (Quiet.assign rfl) rfl (G.nil (G.then_n (G.ret ?_))))))))))
   exact G.done (l := [.tmp 4]) rfl rfl ⟨by rw [decide_eq_true (by have hii : i = xs.length := (by omega); rw [hii, List.take_length] at hpre; rw [hlen, List.take_length] at hpre; exact hpre)], rfl⟩ (by (repeat' constructor)) (by (repeat' constructor))

theorem OpSpec.shapedW {P : Program} {E : Env} {o : Oper} {pre R : List HP} {e : TypeId} {sz k : Nat} {ys : List Value} (hk : 0 < k) (h : OpSpec P o E pre fun v L' => (∃ a c, v = .slice a k c) ∧ L' = slR e sz v k ys :: R) :
    OpSpec P o E pre fun v L' => ∃ b c, k ≤ c ∧ v = .slice (some ⟨b, 0, none⟩) k c ∧ L' = slR e sz v k ys :: R := by
  intro ρ w F ha hs
  refine (h ρ w F ha hs).mono ?_
  rintro v w' ⟨L', ⟨-, rfl⟩, hs', hk'⟩
  obtain ⟨h1, -, hp⟩ := sep_head hs'
  rcases hp with ⟨-, h2, -⟩ | ⟨b, cap, rest, fr, hv, -, -, -, h4, -⟩
  · omega
  · exact ⟨_, ⟨b, cap, h4, hv, rfl⟩, hs', hk'⟩
def ev77 : Ev := (77, ([], 0))
theorem lent_rdE {T : TypeId} {b c : Nat} {l : List Ev} : ∀ h : Hp, slR T 3 (.slice (some ⟨b, 0, none⟩) (l.length + 1) c) (l.length + 1) ((l ++ [ev77]).flatMap evC) h → rdS 3 h (.slice (some ⟨b, 0, none⟩) l.length c) l.length (l.flatMap evC) := by
  intro h hs
  rw [List.flatMap_append] at hs
  have q := slR_rd_to (k := l.length) (n := l.length + 1) (by omega) hs
  rwa [← show (l.flatMap evC).length = l.length * 3 from flatMap_len (fun _ _ => rfl), List.take_left] at q
theorem overE_at (l : List Ev) : ((l ++ [ev77]).flatMap evC)[l.length * 3 + 0]? = some (vint 77) := by
  rw [flatMap_cell (f := evC) (sz := 3) (fun _ _ => rfl) (by simp) (by decide)]
  simp [ev77, evC]
set_option maxRecDepth 100000 in
theorem fires11_spec (s w t x y : Nat) (ω : List Wt) (va : Value) (es : List Ev) (p : HP) (hp : ∀ h : Hp, p h → rdS 3 h va es.length (es.flatMap evC)) (M : Nat) (hk : Wk ω M) (hM : M ≤ 1048576) (hfit : ∀ w ∈ ω, 1 ≤ w.2.1 ∧ w.2.1 ≤ 3) (hel : es.length ≤ 3145728) : Fn Tryz.prog 87 #[vptr s, va] [ptc s [vptr w, vptr t, vptr x, vptr y] 88, tbR w ω, rwR x ω, p] fun r L => r = .bool true ∧ L = [ptc s [vptr w, vptr t, vptr x, vptr y] 88, tbR w (fireL ω es).1, rwR x (fireL ω es).1, p] := by
 refine Fn.intro (vs := [vptr s, va]) Tryz.func87 rfl rfl ?_
 intro F W
 refine G.rdAny (p := p) hp (by (repeat' constructor)) fun aa ca e0 _ => ?_
 subst e0
 have hwl := hk.len
 have hfl := fire_len ω es es.length
 have hml : es.length * ω.length ≤ 3145728 * 1048576 := Nat.mul_le_mul (by omega) (by omega)
 have hfz : (fireL ω es).2.length ≤ es.length * ω.length := hfl.2
 refine G.seq (G.region (G.q (Quiet.assign rfl) rfl (G.nil (G.then_n (G.seq (G.add (slR_nil 75 3) (G.region (G.q (Quiet.move rfl) rfl ?_))))))))
 refine G.op (OpSpec.append (n := 0) (m := es.length) (ys := es.flatMap evC) (p := p) rfl rfl rfl el_30 (.inl ⟨_, Tryz.underlying30⟩) ze_75 rfl rfl ?hc3 hp ?hb4 (by decide)) (by (repeat' constructor)) rfl ?nx5
 case hc3 => exact evC_cells _
 case hb4 => omega
 rintro v L' ⟨⟨a3, c3, rfl⟩, rfl⟩; rw [Nat.zero_add, List.nil_append]
 refine G.q (Quiet.to (v' := .agg (evC ev77).toArray) (Quiet.build (us := [(0, _)]) fl_75 ze_75 rfl rfl (by simp [isCell])) rfl) rfl ?_
 refine G.op (OpSpec.buildSlice (vs := [_]) el_30 ze_75 rfl rfl rfl rfl (by first | (simp [Value.cells]; done) | (intro v hv; simp only [List.mem_cons, List.not_mem_nil, or_false] at hv; (repeat (first | (subst hv; rfl) | (rcases hv with hv | hv; (subst hv; rfl)))))) (by decide)) (by (repeat' constructor)) rfl ?nx8
 rintro v L' ⟨b4, rfl, rfl⟩
 refine G.op (OpSpec.shapedW (k := es.length + 1) ?hk10 (OpSpec.append1 rfl rfl rfl el_30 ze_75 rfl rfl ?h111 ?h212 (Nat.le_refl _) ?h313 (by decide))) (by (repeat' constructor)) rfl ?nx14
 case hk10 => omega
 case h111 => simp only [List.map_cons, List.map_nil, List.flatten_cons, List.flatten_nil, List.append_nil]; simp [Value.cells, evC, isCell]
 case h212 => rfl
 case h313 => omega
 rintro v L' ⟨b6, c6, hc6, rfl, rfl⟩
 refine G.q (Quiet.move rfl) rfl (G.q (Quiet.slen rfl Tryz.underlying30 rfl) rfl ?_)
 refine G.q (Quiet.to (v' := (.slice (some ⟨b6, 0, none⟩) es.length c6)) (Quiet.slTo rfl el_30 rfl (by omega) (.inr ⟨_, _, rfl⟩)) (by simp)) rfl ?_
 refine G.q (Quiet.assign rfl) rfl (G.nil ?_)
 refine G.slCast (T := 75) (sz := 3) (m' := es.length + 1) (xs' := (es ++ [ev77]).flatMap evC) (by (repeat' constructor)) rfl (by rw [List.flatMap_append]; rfl) ?_
 refine G.then_n (G.seq (G.region (G.q (Quiet.move rfl) rfl (G.q (Quiet.nilp rfl) rfl (G.q (Quiet.fieldAddr rfl fo_88_0) rfl ?_)))))
 refine G.q (Quiet.load rfl ag_67 (by (repeat' constructor)) (rfl)) rfl ?_
 refine G.q (Quiet.move rfl) rfl ?_
 refine G.op (OpSpec.call Tryz.func37 rfl rfl (vs := [_, _]) rfl (wfire_spec w ω _ es (slR 75 3 (.slice (some ⟨b6, 0, none⟩) (es.length + 1) c6) (es.length + 1) ((es ++ [ev77]).flatMap evC)) lent_rdE (by omega) hel)) (by (repeat' constructor)) rfl ?nx23
 rintro v L' ⟨a2, c2, rfl, rfl⟩
 refine G.q (Quiet.assign rfl) rfl (G.nil (G.then_n (G.seq (G.region (G.q (Quiet.move rfl) rfl (G.q (Quiet.move rfl) rfl ?_))))))
 refine G.op (OpSpec.call Tryz.func42 rfl rfl (vs := [_, _]) rfl (evsR_spec es es _ _ (slR 75 3 (.slice (some ⟨b6, 0, none⟩) (es.length + 1) c6) (es.length + 1) ((es ++ [ev77]).flatMap evC)) p lent_rdE hp (by omega))) (by (repeat' constructor)) rfl ?nx26
 rintro v L' ⟨rfl, rfl⟩; rw [decide_eq_true rfl]
 refine G.q (Quiet.move rfl) rfl (G.grun (t := 27) rfl rfl rfl (G.q (Quiet.move rfl) rfl (G.grun (t := 27) rfl rfl rfl (G.q (Quiet.move rfl) rfl (G.grun (t := 27) rfl rfl rfl (G.q (Quiet.slen rfl Tryz.underlying30 rfl) rfl (G.grun (t := 27) rfl rfl rfl ?_)))))))
 refine G.q (Quiet.add rfl rfl (by omega)) rfl ?_
 refine G.grun (t := 27) rfl rfl rfl ?_
 refine G.q (Quiet.to (v' := (.slice (some ⟨b6, 0, none⟩) (es.length + 1) c6)) (Quiet.slTo rfl el_30 rfl (by omega) (.inr ⟨_, _, rfl⟩)) (by simp)) rfl ?_
 refine G.grun (t := 27) rfl rfl rfl (G.q (Quiet.move rfl) rfl (G.grun (t := 27) rfl rfl rfl (G.q (Quiet.slen rfl Tryz.underlying30 rfl) rfl (G.grun (t := 27) rfl rfl rfl ?_))))
 refine G.q (Quiet.indexAddr rfl rfl el_30 (by omega)) rfl ?_
 refine G.grun (t := 27) rfl rfl rfl (G.q (Quiet.fieldAddr rfl fo_75_0) rfl (G.grun (t := 27) rfl rfl rfl ?_))
 refine G.q (Quiet.loadRd (sz := 3) (j := es.length * 3 + 0) (p := slR 75 3 (.slice (some ⟨b6, 0, none⟩) (es.length + 1) c6) (es.length + 1) ((es ++ [ev77]).flatMap evC)) (v := vint 77) rfl ag_3 (by (repeat' constructor)) (fun h hp => slR_rd hp) (by omega) (overE_at es)) rfl ?_
 refine G.grun (t := 27) rfl rfl rfl ?_
 refine G.q (Quiet.as (v' := .bool true) (by rfl) (Quiet.int rfl rfl rfl)) rfl ?_
 refine G.q (Quiet.pickT rfl rfl) rfl (G.q (Quiet.assign rfl) rfl (G.nil (G.then_n (G.seq (G.region (G.q (Quiet.move rfl) rfl (G.q (Quiet.move rfl) rfl (G.q (Quiet.nilp rfl) rfl (G.q (Quiet.fieldAddr rfl fo_88_2) rfl ?_)))))))))
 refine G.q (Quiet.load rfl ag_86 (by (repeat' constructor)) (rfl)) rfl ?_
 refine G.q (Quiet.move rfl) rfl ?_
 refine G.op (OpSpec.call Tryz.func116 rfl rfl (vs := [_, _]) rfl (rwfire_spec x ω _ es p hp M hk hM hfit hel)) (by (repeat' constructor)) rfl ?nx43
 rintro v L' ⟨a4, c4, rfl, rfl⟩
 refine G.op (OpSpec.call Tryz.func78 rfl rfl (vs := [_, _]) rfl (told_spec (fireL ω es).2 (fireL ω es).2 _ _ (by omega))) (by (repeat' constructor)) rfl ?nx45
 rintro v L' ⟨rfl, rfl⟩; rw [decide_eq_true rfl]
 refine G.q (Quiet.assign rfl) rfl (G.nil (G.then_n (G.seq (G.seq (G.region (G.q (Quiet.assign rfl) rfl (G.nil (G.then_n (G.block ?_)))))))))
 refine G.loopK (ι := Nat × (List Value)) (fun q E => (9, vint q.1) :: E) (fun q => [slR 147 4 (.slice a2 (fireL ω es).2.length c2) (fireL ω es).2.length q.2]) (fun q => q.1 ≤ (fireL ω es).2.length) (fun q => (fireL ω es).2.length - q.1) (0, (fireL ω es).2.flatMap tldC) (ts := [4, 6, 7, 8]) (.cons rfl (.cons rfl (.cons rfl (.cons rfl (.nil))))) (Nat.zero_le _) ⟨rfl, rfl, rfl, rfl, rfl, trivial⟩ (by (repeat' constructor)) ?_
 rintro ⟨j, zs⟩ hj
 dsimp only
 dsimp only at hj
 refine G.seq (G.seq (G.region (G.q (Quiet.move rfl) rfl (G.q (Quiet.move rfl) rfl (G.q (Quiet.slen rfl Tryz.underlying76 rfl) rfl (G.q (Quiet.int rfl rfl rfl) rfl (G.nil (G.then_n ?_))))))))
 refine G.condD rfl (fun h51 => ?_) (fun h51 => ?_)
 ·have hj2 : j < (fireL ω es).2.length := by omega
  refine G.slShape (T := 147) (sz := 4) (v := .slice a2 (fireL ω es).2.length c2) (xs := zs) (by (repeat' constructor)) (by omega) fun bo bo' e0 mbo _ => ?_
  simp only [Value.slice.injEq, true_and] at e0
  obtain ⟨rfl, rfl⟩ := e0
  refine G.skip (G.then_n (G.seq (G.block (G.region (G.q (Quiet.move rfl) rfl (G.q (Quiet.move rfl) rfl ?_))))))
  refine G.q (Quiet.to (v' := .agg (tldC ((-1, (0, ([], 0))) : Tld)).toArray) (Quiet.buildN (pl := [(0, 1), (1, 3)]) (us := [(0, vint (-1))]) (cells := tldC ((-1, (0, ([], 0))) : Tld)) Tryz.underlying147 (by kernel_rfl) ze_147 rfl rfl) rfl) rfl ?_
  refine G.q (Quiet.indexAddr rfl rfl el_76 (by omega)) rfl ?_
  refine G.op (OpSpec.storeRdA (sz := 4) (j := j * 4) (k := 4) (vs := tldC ((-1, (0, ([], 0))) : Tld)) rfl rfl (tld_cells1 _) sz_147 rfl ?ho56 ?hi57) (by (repeat' constructor)) rfl ?nx58
  case ho56 => omega
  case hi57 => omega
  rintro v L' rfl
  refine G.nil (G.blk_n (G.then_n (G.region (G.q (Quiet.move rfl) rfl ?_))))
  refine G.q (Quiet.add rfl rfl (by omega)) rfl ?_
  refine G.q (Quiet.assign rfl) rfl (G.nil (G.then_n ?_))
  exact G.roundK ((j + 1, spl zs (j * 4) (tldC ((-1, (0, ([], 0))) : Tld)))) (by dsimp only; omega) (by dsimp only; omega) ⟨rfl, rfl, rfl, rfl, rfl, trivial⟩ (by (repeat' constructor)) (by ((repeat (apply Have.cons; (repeat (first | exact Pick.here | apply Pick.there)))); apply Have.base; repeat' constructor))
 ·refine G.exit (G.then_e (G.then_e (G.blk_e (G.then_n (G.seq (G.region (G.q (Quiet.move rfl) rfl ?_)))))))
  refine G.q (Quiet.to (v' := .agg (tldC ((0, (0, ([], 0))) : Tld)).toArray) (Quiet.buildN (pl := [(0, 1), (1, 3)]) (us := []) (cells := tldC ((0, (0, ([], 0))) : Tld)) Tryz.underlying147 (by kernel_rfl) ze_147 rfl rfl) rfl) rfl ?_
  refine G.op (OpSpec.buildSlice (vs := [_]) el_76 ze_147 rfl rfl rfl rfl (by first | (simp [Value.cells]; done) | (intro v hv; simp only [List.mem_cons, List.not_mem_nil, or_false] at hv; (repeat (first | (subst hv; rfl) | (rcases hv with hv | hv; (subst hv; rfl)))))) (by decide)) (by (repeat' constructor)) rfl ?nx63
  rintro v L' ⟨b9, rfl, rfl⟩
  refine G.op (OpSpec.append1 rfl rfl rfl el_76 ze_147 rfl rfl ?c65 ?c66 (Nat.le_refl _) ?c67 (by decide)) (by (repeat' constructor)) rfl ?nx68
  case c65 => simp only [List.map_cons, List.map_nil, List.flatten_cons, List.flatten_nil, List.append_nil]; exact tld_cells1 _
  case c66 => rfl
  case c67 => omega
  rintro v L' ⟨⟨a9_3, c9_3, rfl⟩, rfl⟩
  refine G.q (Quiet.assign rfl) rfl (G.nil (G.then_n (G.seq (G.region (G.q (Quiet.move rfl) rfl (G.q (Quiet.move rfl) rfl (G.grun (t := 63) rfl rfl rfl (G.q (Quiet.move rfl) rfl (G.q (Quiet.pickT rfl rfl) rfl (G.q (Quiet.move rfl) rfl (G.grun (t := 66) rfl rfl rfl (G.q (Quiet.move rfl) rfl (G.grun (t := 66) rfl rfl rfl (G.q (Quiet.slen rfl Tryz.underlying76 rfl) rfl (G.grun (t := 66) rfl rfl rfl ?_)))))))))))))))
  refine G.q (Quiet.as (v' := .bool true) (by exact congrArg Value.bool (decide_eq_true (by omega))) (Quiet.int rfl rfl rfl)) rfl ?_
  refine G.q (Quiet.pickT rfl rfl) rfl (G.q (Quiet.assign rfl) rfl (G.nil (G.then_n (G.ret ?_))))
  exact G.done (l := [.tmp 4]) rfl rfl ⟨rfl, rfl⟩ (by (repeat' constructor)) (by (repeat' constructor))

end Go.Proofs.YtnnbelmpbmfdnaaGreatDoor

/- Own work: any entries, as arguments: what they may be, and how great a tree they make: plain. -/
namespace Go.Proofs.YtnnbelmpbmfdnaaGreatDoor
open Go

def wtL (l : List En) : Nat := (l.map fun e => 1 + e.subs.length).sum
theorem wt_take {l : List En} (i : Nat) : wtL (l.take i) ≤ wtL l := by
  unfold wtL
  induction l generalizing i with
  | nil => simp
  | cons e l ih =>
    cases i with
    | zero => simp
    | succ i =>
      rw [List.take_succ_cons, List.map_cons, List.sum_cons, List.map_cons, List.sum_cons]
      have := ih i
      omega
def SesB (τ : Tr) : Prop := ∀ y ∈ τ.sess, y.1 ≤ 9223372036854775807
structure EntsA (p : HP) (v : Value) (es : List En) : Prop where
  cells : ∀ h : Hp, p h → rdS 11 h v es.length (es.flatMap enC)
  len : es.length ≤ 1048576
  tx : ∀ e ∈ es, TxA p e.x e.subs
  own : ∀ e ∈ es, e.x.own ≤ 9223372036854775807
  total : wtL es ≤ 2097152
theorem apply_ok {τ : Tr} {N : Nat} (h : τ.Ok N) {p : HP} {e : En} (ht : TxA p e.x e.subs) : (appE τ e).Ok (N + (1 + e.subs.length)) :=
  (h.apply e.zx e.x e.subs ht.own.few (fun y hy => (ht.each y hy).few)).more (by omega)
theorem ents_ok {p : HP} : ∀ {l : List En} {τ : Tr} {N : Nat}, τ.Ok N → (∀ e ∈ l, TxA p e.x e.subs) → (appL τ l).Ok (N + wtL l)
  | [], _, _, h, _ => h
  | e :: l, τ, N, h, hl => (ents_ok (apply_ok h (hl e List.mem_cons_self)) (fun x hx => hl x (List.mem_cons_of_mem _ hx))).more (by unfold wtL; rw [List.map_cons, List.sum_cons]; omega)
theorem EntsA.ok {p : HP} {v : Value} {es : List En} (h : EntsA p v es) {τ : Tr} {N : Nat} (ho : τ.Ok N) (i : Nat) : (appL τ (es.take i)).Ok (N + 2097152) :=
  (ents_ok ho fun e he => h.tx e (List.mem_of_mem_take he)).more (by have := wt_take (l := es) i; have := h.total; omega)
theorem EntsA.few {p : HP} {v : Value} {es : List En} (h : EntsA p v es) {i : Nat} (hi : i < es.length) : es[i].subs.length ≤ 1048576 := (h.tx _ (List.getElem_mem hi)).few
end Go.Proofs.YtnnbelmpbmfdnaaGreatDoor

/- Own work: steps on a table of watches and a tree: plain. -/
namespace Go.Proofs.YtnnbelmpbmfdnaaGreatDoor
open Go

structure Op11 where
  kind : Int
  ses : Int
  watch : Int
  path : Bs
  evsV : Value
  evs : List Ev
  armV : Value
  arm : List Arm
  e : En
  other : Bool
def op11C (o : Op11) : List Value := [vint o.kind, vint o.ses, vint o.watch, vstr o.path, o.evsV, o.armV] ++ enC o.e ++ [.bool o.other]
structure Op11A (p : HP) (o : Op11) : Prop where
  tx : TxA p o.e.x o.e.subs
  evs : ∀ h : Hp, p h → rdS 3 h o.evsV o.evs.length (o.evs.flatMap evC)
  efew : o.evs.length ≤ 1048576
  ecell : isCell o.evsV = true
  arm : ArmsA p o.armV o.arm
  acell : isCell o.armV = true
  plen : o.path.length ≤ 1048576
  ses : o.ses ≤ 9223372036854775807
theorem Op11A.all {p : HP} {o : Op11} (h : Op11A p o) : ∀ v ∈ op11C o, isCell v = true := by
  intro v hv
  unfold op11C enC at hv
  simp only [List.append_assoc, List.mem_append] at hv
  rcases hv with hv | hv | hv | hv
  · simp at hv
    rcases hv with rfl | rfl | rfl | rfl | rfl | rfl
    case inr.inr.inr.inr.inl => exact h.ecell
    case inr.inr.inr.inr.inr => exact h.acell
    all_goals rfl
  · simp at hv; rcases hv with rfl | rfl | rfl <;> rfl
  · exact h.tx.own.all v hv
  · simp at hv; subst hv; rfl
def Fit (ω : List Wt) : Prop := ∀ w ∈ ω, 1 ≤ w.2.1 ∧ w.2.1 ≤ 3
def stepW (ω : List Wt) (τ : Tr) (o : Op11) : List Wt :=
  if o.kind = 1 then (addW ω o.ses o.watch o.path).1 else if o.kind = 2 then (fireL ω o.evs).1 else if o.kind = 3 then (armZ τ o.ses ω o.arm).1 else if o.kind = 4 then dropW ω o.ses
  else if o.kind = 5 then ω else if o.kind = 6 then (fireL ω (applyZ τ o.e.zx o.e.x o.e.subs).2.1).1 else ω
def stepT (τ : Tr) (o : Op11) : Tr :=
  if o.kind = 1 then τ else if o.kind = 2 then τ else if o.kind = 3 then τ else if o.kind = 4 then τ else if o.kind = 5 then τ else if o.kind = 6 then (applyZ τ o.e.zx o.e.x o.e.subs).1 else τ
theorem Fit.sub {ω ω' : List Wt} (h : Fit ω) (hs : ∀ w ∈ ω', w ∈ ω) : Fit ω' := fun w hw => h w (hs w hw)
theorem Fit.add {ω : List Wt} (h : Fit ω) (s k : Int) (p : Bs) : Fit (addW ω s k p).1 := by
  unfold addW
  split
  · exact h
  · rename_i h1
    split
    · exact h
    · split
      · exact h
      · intro w hw
        rcases List.mem_append.1 hw with hw | hw
        · exact h w hw
        · rw [List.mem_singleton] at hw; subst hw
          have h2 : isWt k p := by
            rcases Decidable.em (isWt k p) with g | g
            · exact g
            · exact absurd (.inr g) h1
          exact ⟨h2.1, h2.2.1⟩
theorem Fit.armS {τ : Tr} {s : Int} {r : List Wt × List Ev} (h : Fit r.1) (a : Arm) : Fit (armS τ s r a).1 := by
  unfold Go.Proofs.YtnnbelmpbmfdnaaGreatDoor.armS
  split
  · exact h
  · split
    · exact h.add _ _ _
    · split
      · exact h
      · exact h
theorem Fit.armL {τ : Tr} {s : Int} {ω : List Wt} (h : Fit ω) (l : List Arm) : ∀ i, i ≤ l.length → Fit (armL τ s ω (l.take i)).1
  | 0, _ => by rw [List.take_zero]; exact h
  | i + 1, hi => by
    rw [armL_step τ s ω (by omega)]
    exact (Fit.armL h l i (by omega)).armS _
theorem Fit.armZ {τ : Tr} {s : Int} {ω : List Wt} (h : Fit ω) (l : List Arm) : Fit (armZ τ s ω l).1 := by
  unfold Go.Proofs.YtnnbelmpbmfdnaaGreatDoor.armZ
  split
  · exact h
  · have := Fit.armL (τ := τ) (s := s) h l l.length (Nat.le_refl _)
    rwa [List.take_length] at this
theorem Wk.armZ {τ : Tr} {s : Int} {ω : List Wt} {N : Nat} (h : Wk ω N) (l : List Arm) : Wk (armZ τ s ω l).1 (N + l.length) := by
  unfold Go.Proofs.YtnnbelmpbmfdnaaGreatDoor.armZ
  split
  · exact h.more (by omega)
  · have := Wk.armL (τ := τ) (s := s) h l l.length (Nat.le_refl _)
    rwa [List.take_length] at this
theorem armZ_len (τ : Tr) (s : Int) (ω : List Wt) (l : List Arm) : (armZ τ s ω l).2.length ≤ l.length := by
  unfold Go.Proofs.YtnnbelmpbmfdnaaGreatDoor.armZ
  split
  · simp
  · have := armL_len τ s ω l l.length (Nat.le_refl _)
    rwa [List.take_length] at this
theorem step_wk {p : HP} {ω : List Wt} {M : Nat} (h : Wk ω M) (τ : Tr) {o : Op11} (_ : Op11A p o) : Wk (stepW ω τ o) (M + (1 + o.arm.length)) := by
  unfold stepW
  split
  · exact (h.add _ _ _).more (by omega)
  · split
    · exact (h.fireTo _ _).more (by omega)
    · split
      · exact (h.armZ _).more (by omega)
      · split
        · exact (h.filter _).more (by omega)
        · split
          · exact h.more (by omega)
          · split
            · exact (h.fireTo _ _).more (by omega)
            · exact h.more (by omega)
theorem step_fit {ω : List Wt} (h : Fit ω) (τ : Tr) (o : Op11) : Fit (stepW ω τ o) := by
  unfold stepW
  split
  · exact h.add _ _ _
  · split
    · exact h.sub fun w hw => fireTo_sub ω o.evs _ w hw
    · split
      · exact h.armZ _
      · split
        · exact h.sub fun w hw => (List.mem_filter.1 hw).1
        · split
          · exact h
          · split
            · exact h.sub fun w hw => fireTo_sub ω _ _ w hw
            · exact h
theorem step_ok11 {p : HP} {o : Op11} {τ : Tr} {N : Nat} (h : τ.Ok N) (ho : Op11A p o) : (stepT τ o).Ok (N + (1 + o.e.subs.length)) := by
  unfold stepT
  split
  · exact h.more (by omega)
  · split
    · exact h.more (by omega)
    · split
      · exact h.more (by omega)
      · split
        · exact h.more (by omega)
        · split
          · exact h.more (by omega)
          · split
            · exact apply_ok h ho.tx
            · exact h.more (by omega)
def wtT (l : List Op11) : Nat := (l.map fun o => 1 + o.e.subs.length).sum
def wtM (l : List Op11) : Nat := (l.map fun o => 1 + o.arm.length).sum
theorem sum_step {α : Type} (f : α → Nat) {l : List α} {i : Nat} (hi : i < l.length) : ((l.take (i + 1)).map f).sum = ((l.take i).map f).sum + f l[i] := by
  rw [List.take_succ_eq_append_getElem hi, List.map_append, List.sum_append]; simp
theorem sum_take {α : Type} (f : α → Nat) (l : List α) : ∀ i, ((l.take i).map f).sum ≤ (l.map f).sum := by
  induction l with
  | nil => intro i; simp
  | cons e l ih =>
    intro i
    cases i with
    | zero => simp
    | succ i =>
      rw [List.take_succ_cons, List.map_cons, List.sum_cons, List.map_cons, List.sum_cons]
      have := ih i
      omega
theorem wtT_step {l : List Op11} {i : Nat} (hi : i < l.length) : wtT (l.take (i + 1)) = wtT (l.take i) + (1 + l[i].e.subs.length) := sum_step _ hi
theorem wtT_take (l : List Op11) (i : Nat) : wtT (l.take i) ≤ wtT l := sum_take _ l i
theorem wtM_step {l : List Op11} {i : Nat} (hi : i < l.length) : wtM (l.take (i + 1)) = wtM (l.take i) + (1 + l[i].arm.length) := sum_step _ hi
theorem wtM_take (l : List Op11) (i : Nat) : wtM (l.take i) ≤ wtM l := sum_take _ l i
structure Ops11A (p : HP) (v : Value) (os : List Op11) : Prop where
  cells : ∀ h : Hp, p h → rdS 18 h v os.length (os.flatMap op11C)
  len : os.length ≤ 1048576
  each : ∀ o ∈ os, Op11A p o
  totT : wtT os ≤ 2097152
  totM : wtM os ≤ 1048576
/-! ### Rows of watches that are lent -/
def arm77 : Arm := (77, ([], (0, (0, 0))))
theorem armC_cells (l : List Arm) : ∀ v ∈ l.flatMap armC, isCell v = true := by
  intro v hv
  obtain ⟨a, -, ha⟩ := List.mem_flatMap.1 hv
  simp [armC] at ha
  rcases ha with rfl | rfl | rfl | rfl | rfl <;> rfl
theorem lent_rdA {T : TypeId} {b c : Nat} {l : List Arm} : ∀ h : Hp, slR T 5 (.slice (some ⟨b, 0, none⟩) (l.length + 1) c) (l.length + 1) ((l ++ [arm77]).flatMap armC) h → rdS 5 h (.slice (some ⟨b, 0, none⟩) l.length c) l.length (l.flatMap armC) := by
  intro h hs
  rw [List.flatMap_append] at hs
  have q := slR_rd_to (k := l.length) (n := l.length + 1) (by omega) hs
  rwa [← show (l.flatMap armC).length = l.length * 5 from flatMap_len (fun _ _ => rfl), List.take_left] at q
theorem overA_at (l : List Arm) : ((l ++ [arm77]).flatMap armC)[l.length * 5 + 0]? = some (vint 77) := by
  rw [flatMap_cell (f := armC) (sz := 5) (fun _ _ => rfl) (by simp) (by decide)]
  simp [arm77, armC]
theorem overA_el (l : List Arm) {i : Nat} (hi : i < l.length) : (((l ++ [arm77]).flatMap armC).drop (i * 5)).take 5 = armC l[i] := by
  rw [flatMap_at (f := armC) (sz := 5) (fun _ _ => rfl) (by simp; omega), List.getElem_append_left hi]
theorem arm_eq (d : Nat) (a b : Arm) : EqAt Tryz.prog (d + 2) 70 (.agg (armC a).toArray) (.agg (armC b).toArray) (decide (a = b)) := by
  have q := fun x y : Int => EqAt.int (d := d) Tryz.underlying3 x y
  have h := EqAt.struct (d := d + 1) (xs := armC a) (ys := armC b) Tryz.underlying70 (by kernel_rfl)
    (.cons (FEq.cell (by decide) ag_3 rfl rfl (q a.1 b.1)) (.cons (FEq.cell (by decide) ag_9 rfl rfl (EqAt.str Tryz.underlying9 a.2.1 b.2.1)) (.cons (FEq.cell (by decide) ag_3 rfl rfl (q a.2.2.1 b.2.2.1)) (.cons (FEq.cell (by decide) ag_3 rfl rfl (q a.2.2.2.1 b.2.2.2.1)) (.cons (FEq.cell (by decide) ag_3 rfl rfl (q a.2.2.2.2 b.2.2.2.2)) .nil)))))
  have e : ([decide (a.1 = b.1), decide (a.2.1 = b.2.1), decide (a.2.2.1 = b.2.2.1), decide (a.2.2.2.1 = b.2.2.2.1), decide (a.2.2.2.2 = b.2.2.2.2)].all id) = decide (a = b) := by
    obtain ⟨a1, a2, a3, a4, a5⟩ := a; obtain ⟨b1, b2, b3, b4, b5⟩ := b
    simp [Bool.decide_and]
  rw [← e]; exact h
/-! ### Arm, whoever asks -/
theorem st_add {q : HP} {L : List HP} {w : World} (hq : ∀ h, q h) (hs : St L w) : St (q :: L) w := ⟨fun _ => none, _, fun _ => .inl rfl, fun _ _ e => (by cases e), fun _ _ e => e, hq _, hs⟩
theorem warmZ_spec (t u : Nat) (ω : List Wt) (τ : Tr) (s : Int) (va : Value) (l : List Arm) (p : HP) (hl : ArmsA p va l) (N : Nat) (ho : τ.Ok N) (hN : N ≤ 1099511627776) (hs : s ≤ 9223372036854775807) : Fn Tryz.prog 36 #[vptr t, vint s, vptr u, va] [tbR t ω, treeR u τ, p]
    fun v L => ∃ a c, v = .slice a (armZ τ s ω l).2.length c ∧ L = [tbR t (armZ τ s ω l).1, treeR u τ, p, slR 75 3 v (armZ τ s ω l).2.length ((armZ τ s ω l).2.flatMap evC)] := by
  unfold armZ
  by_cases h : s < 1
  · rw [if_pos h]
    intro F w hst
    refine (warm0_spec (vptr t) (vptr u) va s h ([tbR t ω, treeR u τ, p] ++ F) w hst).mono ?_
    rintro e w' ⟨v, L, ⟨rfl, rfl⟩, he, hs', hk⟩
    refine ⟨_, _, ⟨none, 0, rfl, rfl⟩, he, ?_, hk⟩
    have q := st_add (q := slR 75 3 (.slice none 0 0) 0 []) (slR_nil _ _) hs'
    exact q.perm (by
      show (slR 75 3 (.slice none 0 0) 0 [] :: tbR t ω :: treeR u τ :: p :: F).Perm (tbR t ω :: treeR u τ :: p :: slR 75 3 (.slice none 0 0) 0 [] :: F)
      exact (List.perm_middle (l₁ := [tbR t ω, treeR u τ, p])).symm)
  · rw [if_neg h]
    exact warm_spec t u ω τ s va l p hl N ho hN (by omega) hs
theorem warmN_spec (vt va : Value) (s : Int) : Fn Tryz.prog 36 #[vt, vint s, .pointer none, va] [] fun v L => v = .slice none 0 0 ∧ L = [] := by
  by_cases h : s < 1
  · exact warm0_spec vt _ va s h
  · exact warmnil_spec vt va s (by omega)
end Go.Proofs.YtnnbelmpbmfdnaaGreatDoor

