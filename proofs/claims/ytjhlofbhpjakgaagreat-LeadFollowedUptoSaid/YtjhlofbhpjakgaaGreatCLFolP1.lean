/- Own work, some of it printed by program, texts that were built one by one: a part of the proof of leadFollowed.proved. -/
import Derived.Test.YtjhlofbhpjakgaaGreatCLFolP0
import Derived.Defers
import Derived.Test.YtjhlofbhpjakgaaGreatRows
import Derived.KernelRfl
import Derived.Laws.StructEq
set_option maxRecDepth 100000
namespace Go.Proofs.YtjhlofbhpjakgaaGreat
open Go List Go.Proofs.Tryz 
inductive Qb : List Nat → By → By → Prop
 | nil {E : By} : Qb [] E []
 | cons {t : Nat} {ts : List Nat} {E E' : By} {v : Value} (h : look E t = some v) (k : Qb ts E E') : Qb (t :: ts) E ((t, v) :: E')
inductive Jf : List HP → List HP → Prop
 | base {F R : List HP} : H0 F R → Jf F R
 | cons {p : HP} {F R R' : List HP} : BT p R R' → Jf F R' → Jf (p :: F) R
theorem Jf.st {F R : List HP} (h : Jf F R) : ∀ {L : List HP} {hp : Hp}, CG (L ++ R) hp → CG (L ++ F) hp := by
 induction h with
 | base h => exact fun hs => h.st hs
 | @cons p F R R' hp _ ih =>
  intro L h hs
  have h1 : (L ++ R).Perm (p :: (L ++ R')) := (List.Perm.append_left L hp.perm).trans perm_middle
  have h2 := EJ (L' := L ++ F) (fun h hs => ih hs) (C8 h1 hs)
  exact C8 perm_middle.symm h2
section
variable {P : Program} {W : World} {n : Nat} {ds : List Deferred} {E : By} {L : List HP} {Q : Exit → Act → World → Prop} {next : Act → World → Prop}
theorem G.loopK {ι : Type} (Ei : ι → By → By) (Li : ι → List HP) (φ : ι → Prop) (μ : ι → Nat) (i0 : ι) {ts : List Nat} {K : By} {c : Code} {R : List HP} (_ : Qb ts E K) (h0 : φ i0) (hE : K6 (Ei i0 K) E) (hL : Am (Li i0) L R)
  (round : ∀ i, φ i → G W n ds (Ei i K) (Li i ++ R) (c.wp P (Exit.then (Lf n ds W (fun i => Ei i K) Li φ μ R i) Q))) :
  G W n ds E L ((Code.loop c).wp P Q) :=
 G.loop (fun i => Ei i K) Li φ μ i0 h0 hE hL .here round
theorem G.roundK {ι : Type} {Ei : ι → By} {Li : ι → List HP} {φ : ι → Prop} {μ : ι → Nat} {i : ι} {F R : List HP} (j : ι) (hj : φ j) (hm : μ j < μ i) (hE : K6 (Ei j) E) (hL : Am (Li j) L R) (hF : Jf F R) :
  G W n ds E L (Lf n ds W Ei Li φ μ F i) :=
 fun a w he hk hs => ⟨j, hj, hm, he.sub hE, hk, hF.st (hs.picks hL)⟩
theorem G.joinK {ι : Sort _} (Ei : ι → By → By) (Li : ι → List HP) (φ : ι → Prop) {pre : List HP} {ts : List Nat} {K : By} {R : List HP} {x : Code} (_ : Qb ts E K) (_ : Am pre L R)
  (h1 : G W n ds E L (x.wp P (Exit.then (Sd n ds W (fun i => Ei i K) Li φ R) Q))) (h2 : ∀ i, φ i → G W n ds (Ei i K) (Li i ++ R) next) : G W n ds E L (x.wp P (Exit.then next Q)) :=
 G.join (fun i => Ei i K) Li φ h1 h2
theorem G.meetK {ι : Sort _} {Ei : ι → By} {Li : ι → List HP} {φ : ι → Prop} {F R : List HP} (i : ι) (hi : φ i) (hE : K6 (Ei i) E) (hL : Am (Li i) L R) (hF : Jf F R) :
  G W n ds E L (Sd n ds W Ei Li φ F) :=
 fun a w he hk hs => ⟨i, hi, he.sub hE, hk, hF.st (hs.picks hL)⟩
end
section
variable {P : Program} {W : World} {n : Nat} {ds : List Deferred} {E : By} {L R : List HP} {Q : Exit → Act → World → Prop} {next : Act → World → Prop}
theorem G.rk {ι : Type} {Ei : ι → By} {Li : ι → List HP} {φ : ι → Prop} {μ : ι → Nat} {i : ι} {F R : List HP} (j : ι) (hj : φ j) (hm : μ j < μ i) (hE : K6 (Ei j) E) (hL : Am (Li j) L R := by repeat' constructor) (hF : Jf F R := by ((repeat (apply Jf.cons; (repeat (first | exact BT.here | apply BT.there)))); apply Jf.base; repeat' constructor)) :
  G W n ds E L (Lf n ds W Ei Li φ μ F i) := G.roundK j hj hm hE hL hF
theorem G.mk {ι : Sort _} {Ei : ι → By} {Li : ι → List HP} {φ : ι → Prop} {F R : List HP} (i : ι) (hi : φ i) (hE : K6 (Ei i) E) (hL : Am (Li i) L R := by repeat' constructor) (hF : Jf F R := by ((repeat (apply Jf.cons; (repeat (first | exact BT.here | apply BT.there)))); apply Jf.base; repeat' constructor)) :
  G W n ds E L (Sd n ds W Ei Li φ F) := G.meetK i hi hE hL hF
end
section assoc
variable {K β : Type} [DecidableEq K]
end assoc
def Aj {α : Type} (f : α → HP) (m : List α) : HP := CG (m.map f)
theorem Hc {α : Type} {f : α → HP} {m m' : List α} (hp : m.Perm m') {h : Hp} (hs : Aj f m h) : Aj f m' h := C8 (hp.map f) hs
theorem Iv {α : Type} {f : α → HP} (h : Hp) : Aj f [] h := trivial
theorem K5 {α : Type} {f : α → HP} {x : α} {m : List α} {h : Hp} (hs : Aj f (x :: m) h) : CG [f x, Aj f m] h := by
 obtain ⟨h1, h2, hd, a1, a2, hp, hL⟩ := hs
 exact ⟨h1, h2, hd, a1, a2, hp, h2, fun _ => none, fun _ => .inr rfl, fun _ _ e => e, fun _ _ e => (by cases e), hL, trivial⟩
theorem Fq {α : Type} {f : α → HP} {x : α} {m : List α} {h : Hp} (hs : CG [f x, Aj f m] h) : Aj f (x :: m) h := by
 obtain ⟨h1, h2, hd, a1, a2, hp, g1, g2, gd, b1, b2, hq, -⟩ := hs
 exact ⟨h1, h2, hd, a1, a2, hp, I4 hq b1⟩
section
variable {P : Program} {W : World} {n : Nat} {ds : List Deferred} {E : By} {L R : List HP} {ty : TypeId} {X : Act → World → Prop}
section laws
variable {K β : Type} [DecidableEq K] {kv : K → Value} {enc : β → Value} {kt et : TypeId}
end laws
theorem AH.as {o : Oper} {v v' : Value} (h : v = v') (q : AH P o E L v) : AH P o E L v' := h ▸ q
theorem AH.to {o : Oper} {v v' : Value} (q : AH P o E L v) (h : v = v') : AH P o E L v' := h ▸ q
theorem AI.allocA {t : TypeId} {zl : List Value} (hz : Av P t = some (.agg zl.toArray)) : AI P ⟨none, .alloc t, ty, "", #[], none⟩ E [] fun u L' => ∃ b, u = AG b ∧ L' = [Ar b zl t] := by
 have h := AI.alloc (P := P) (E := E) (ty := ty) hz
 simpa [Value.cells] using h
theorem AH.loadRd {t : TypeId} {x : Operand} {b o off n c sz j : Nat} {ys : List Value} {v : Value} {p : HP} (hx : ev E x = some (.pointer (some ⟨b, o, none⟩))) (hp : A7 P t = some none) (hL : BT p L R)
  (hr : ∀ h : Hp, p h → B5 sz h (.slice (some ⟨b, off, none⟩) n c) n ys) (ho : o = off + j) (hv : ys[j]? = some v) : AH P ⟨none, .load t x, ty, "", #[], none⟩ E L v := by
 subst ho
 refine AH.loadEl (n := n * sz) (c := n * sz) (ys := ys) (i := j) hx hp hL (fun h hh => ?_) hv
 have hl := FG (hr h hh)
 obtain ⟨T, fr, l, hb, hl2, hys, -⟩ := MP (hr h hh) (fun h0 => by rw [h0] at hl; rw [eq_nil_of_length_eq_zero (by omega : ys.length = 0)] at hv; cases hv)
 exact .inr ⟨b, off, n * sz, l, T, fr, rfl, hb, by rw [Nat.mul_one]; exact hys, by rw [Nat.mul_one]; exact hl2, Nat.le_refl _⟩
theorem AH.loadRdA {t : TypeId} {x : Operand} {b o off n c sz j k : Nat} {ys vs : List Value} {p : HP} (hx : ev E x = some (.pointer (some ⟨b, o, none⟩))) (hp : A7 P t = some (some k)) (hL : BT p L R)
  (hr : ∀ h : Hp, p h → B5 sz h (.slice (some ⟨b, off, none⟩) n c) n ys) (ho : o = off + j) (hn : n ≠ 0) (hk : j + k ≤ n * sz) (hv : (ys.drop j).take k = vs) : AH P ⟨none, .load t x, ty, "", #[], none⟩ E L (.agg vs.toArray) := by
 subst ho
 intro ρ w ha hs
 obtain ⟨h1, a1, hp1⟩ := AZ (hs.pick hL)
 obtain ⟨T, fr, l, hb, hl, hys, -⟩ := MP (hr _ hp1) hn
 show (do pure (Next.value (← Instr.loadAt t (ρ x))) : Sem Next).run P w = _
 rw [ha x _ hx]
 have : (Instr.loadAt t (.pointer (some ⟨b, off + j, none⟩))).run P w = .ok (.agg vs.toArray) w := by
  unfold Instr.loadAt
  rw [← hv, ← hys, drop_take, take_take, Nat.min_eq_left om, drop_drop]
  exact FD hp (a1 _ _ hb) om
 rw [run_bind this]; rfl
theorem Nf {T : TypeId} {sz b n c : Nat} {xs : List Value} {h : Hp} (hp : AV T sz (.slice (some ⟨b, 0, none⟩) n c) n xs h) : ∃ y : List Value × (Nat × Nat), h b = some (.cells (List.toArray (xs ++ y.1)) T y.2) ∧ xs.length = n * sz ∧ c * sz ≤ xs.length + y.1.length ∧ n ≤ c ∧ Rj y.2 0 (c * sz) := by
 rcases hp with ⟨h1, -⟩ | ⟨b', cap, rest, fr, h1, h2, h3, h4, h5, h6⟩
 ·simp at h1
 ·simp only [Value.slice.injEq, Option.some.injEq, Addr.mk.injEq] at h1
  obtain ⟨⟨rfl, -, -⟩, -, rfl⟩ := h1
  exact ⟨(rest, fr), h2, h3, h4, h5, h6⟩
theorem AI.storeRd {t : TypeId} {x y : Operand} {b o n c sz j : Nat} {xs : List Value} {T : TypeId} {v : Value} (hx : ev E x = some (.pointer (some ⟨b, o, none⟩))) (hy : ev E y = some v) (hv : AD v = true) (ht : Ai P t = some 1) (ho : o = j) (hi : j < n * sz) :
  AI P ⟨none, .store t x y, ty, "", #[], none⟩ E [AV T sz (.slice (some ⟨b, 0, none⟩) n c) n xs] fun _ L' => L' = [AV T sz (.slice (some ⟨b, 0, none⟩) n c) n (xs.set j v)] := by
 subst ho
 intro ρ w F ha hs
 obtain ⟨⟨rest, fr⟩, h1, h2, hd, a1, a2, ⟨p1, p2, p3, p4, p5⟩, hF⟩ := Jv (BS (q := fun h => ∃ y : List Value × (Nat × Nat), h b = some (.cells (List.toArray (xs ++ y.1)) T y.2) ∧ xs.length = n * sz ∧ c * sz ≤ xs.length + y.1.length ∧ n ≤ c ∧ Rj y.2 0 (c * sz)) (fun h hp => Nf hp) hs)
 have hpt : St ([pt b (.cells (xs ++ rest).toArray T fr)] ++ F) w := ⟨h1, h2, hd, a1, a2, p1, hF⟩
 have hnc := Nat.mul_le_mul_right sz p4
 have := AI.store (P := P) (E := E) (ty := ty) hx hy hv ht (by simp; omega) (fun j q1 q2 => p5 j om (by simp at *; omega)) ρ w F ha hpt
 refine this.mono ?_
 rintro u w' ⟨L', rfl, hs2, hk⟩
 refine ⟨_, rfl, BS (fun h hp => ?_) hs2, hk⟩
 refine .inr ⟨b, c, rest, fr, rfl, ?_, by simpa using p2, by simpa using p3, p4, p5⟩
 have e : (xs ++ rest).set o v = xs.set o v ++ rest := by rw [set_append_left _ _ om]
 rw [← e]; exact hp
theorem Uh {T : TypeId} {b n c : Nat} {l : List Value} {h : Hp} (hn : n ≤ c) (hc : c ≤ l.length) (hp : Ar b l T h) : AV T 1 (.slice (some ⟨b, 0, none⟩) n c) n (l.take n) h :=
 .inr ⟨b, c, l.drop n, (0, 0), rfl, by rw [take_append_drop]; exact hp, by rw [length_take]; omega, by rw [length_take, length_drop]; omega, hn, Bk _ _⟩
theorem G.slMake {n' : Nat} {T : TypeId} {b n c : Nat} {l xs : List Value} (hL : BT (Ar b l T) L R) (hn : n ≤ c) (hc : c ≤ l.length) (hx : l.take n = xs) (h : G W n' ds E (AV T 1 (.slice (some ⟨b, 0, none⟩) n c) n xs :: R) X) : G W n' ds E L X := by
 subst hx
 exact fun a w he hk hs => h a w he hk (BS (fun _ hp => Uh hn hc hp) (hs.pick hL))
theorem VF {T : TypeId} {sz b n c : Nat} {xs : List Value} {h : Hp} (hp : AV T sz (.slice (some ⟨b, 0, none⟩) n c) n xs h) : AV T sz (.slice (some ⟨b, 0, none⟩) n n) n xs h := by
 obtain ⟨⟨rest, fr⟩, h1, h2, h3, h4, h5⟩ := Nf hp
 have := Nat.mul_le_mul_right sz h4
 exact .inr ⟨b, n, rest, fr, rfl, h1, h2, by omega, Nat.le_refl _, fun i q1 q2 => h5 i q1 (by dsimp only at *; omega)⟩
theorem G.slClip {T : TypeId} {sz b m c : Nat} {xs : List Value} (hL : BT (AV T sz (.slice (some ⟨b, 0, none⟩) m c) m xs) L R) (h : G W n ds E (AV T sz (.slice (some ⟨b, 0, none⟩) m m) m xs :: R) X) : G W n ds E L X :=
 fun a w he hk hs => h a w he hk (BS (fun _ hp => VF hp) (hs.pick hL))
theorem G.slCast {T : TypeId} {sz m m' : Nat} {v : Value} {xs xs' : List Value} (hL : BT (AV T sz v m xs) L R) (hm : m = m') (hx : xs = xs') (h : G W n ds E (AV T sz v m' xs' :: R) X) : G W n ds E L X := by
 subst hm; subst hx; exact G.focus hL h
theorem G.ptCast {b : Nat} {l l' : List Value} {T : TypeId} (hL : BT (Ar b l T) L R) (hl : l = l') (h : G W n ds E (Ar b l' T :: R) X) : G W n ds E L X := by
 subst hl; exact G.focus hL h
theorem AH.clip {t : TypeId} {x y z : Operand} {a : Option Addr} {n c e sz by' : Nat} (hx : ev E x = some (.slice a n c)) (ht : Ah P t = some (e, sz, by')) (hy : ev E y = some (.int .i64 n)) (hz : ev E z = some (.int .i64 n)) (hb : n ≤ c)
  (ha' : a = none ∨ ∃ b off, a = some ⟨b, off, none⟩) : AH P ⟨none, .slice t x none (some y) (some z), ty, "", #[], none⟩ E L (.slice a n n) := by
 intro ρ w ha _
 unfold Ah at ht
 split at ht <;> (try cases ht)
 rename_i e' hu
 split at ht <;> (try cases ht)
 rename_i inf hin
 refine Ct ?_
 show (Instr.sliceAt t (ρ x) none (some (ρ y)) (some (ρ z))).run P w = _
 rw [ha x _ hx, ha y _ hy, ha z _ hz]
 unfold Instr.sliceAt
 rw [run_bind (AJ hu)]
 show (Instr.slice t (.slice a n c) none (some (.int .i64 n)) (some (.int .i64 n))).run P w = _
 unfold Instr.slice
 rw [run_bind (AJ hu)]
 show (do let (l, h, m) ← Instr.sliceBounds true n c none (some (.int .i64 n)) (some (.int .i64 n)); let size ← sizeOf e; pure (.slice (if m = l then a else a.map (·.add (l * size))) (h - l) (m - l)) : Sem Value).run P w = _
 have hbd : (Instr.sliceBounds true n c none (some (.int .i64 n)) (some (.int .i64 n))).run P w = .ok (0, n, n) w := by
  simp [Instr.sliceBounds, Instr.sliceBound, asIntOf, Bind.bind, Sem.bind, Pure.pure, Sem.run, hb]
 rw [run_bind hbd]
 show (do let size ← sizeOf e; pure (.slice (if n = 0 then a else a.map (·.add (0 * size))) (n - 0) (n - 0)) : Sem Value).run P w = _
 rw [run_bind (Bn (k := inf.size) (by simp [Ai, hin]))]
 have : (if n = 0 then a else a.map (·.add (0 * inf.size))) = a := by
  split
  ·rfl
  ·rcases ha' with rfl | ⟨b, off, rfl⟩
   ·rfl
   ·simp [Addr.add_eq]
 rw [this]; rfl
theorem Wn {sz b off n c k : Nat} {ys : List Value} {h : Hp} (hr : B5 sz h (.slice (some ⟨b, off, none⟩) n c) n ys) (hk : k < n) : B5 sz h (.slice (some ⟨b, off + k * sz, none⟩) (n - k) (c - k)) (n - k) (ys.drop (k * sz)) := by
 obtain ⟨T, fr, l, hb, hl, hys, hc⟩ := MP hr om
 have h1 : k * sz + (n - k) * sz = n * sz := by rw [← Nat.add_mul]; congr 1; omega
 refine .inr ⟨b, off + k * sz, c - k, l, T, fr, rfl, hb, ?_, by omega, by omega⟩
 rw [← hys, drop_take, drop_drop, ← h1, Nat.add_sub_cancel_left]
theorem G.rdShapeC {p : HP} {sz m c : Nat} {ad : Option Addr} {ys : List Value} (hr : ∀ h : Hp, p h → B5 sz h (.slice ad m c) m ys) (hL : BT p L R) (hm : 0 < m)
  (h : ∀ b off, ad = some ⟨b, off, none⟩ → m ≤ c → G W n ds E L X) : G W n ds E L X := by
 intro a w he hk hs
 obtain ⟨h1, -, hp⟩ := AZ (hs.pick hL)
 rcases hr _ hp with ⟨rfl, -⟩ | ⟨b, off, cap, l, T, fr, hv, -, -, -, hc⟩
 ·omega
 ·simp only [Value.slice.injEq] at hv
  exact h b off hv.1 om a w he hk hs
theorem VH {T : TypeId} {n k c : Nat} {a : Option Addr} {xs : List Value} {h : Hp} (hk : k ≤ n) (hp : AV T 1 (.slice a n c) n xs h) : AV T 1 (.slice a k c) k (xs.take k) h := by
 rcases hp with ⟨h1, h2, h3⟩ | ⟨b', cap, rest, fr, h1, h2, h3, h4, h5, h6⟩
 ·subst h2
  obtain rfl : k = 0 := by omega
  simp only [Value.slice.injEq] at h1
  obtain ⟨rfl, -, rfl⟩ := h1
  exact .inl ⟨rfl, rfl, by simp⟩
 ·simp only [Value.slice.injEq] at h1
  obtain ⟨rfl, -, rfl⟩ := h1
  refine .inr ⟨b', c, xs.drop k ++ rest, fr, rfl, ?_, by simp; omega, by simp; omega, by omega, h6⟩
  rw [← append_assoc, take_append_drop]; exact h2
theorem G.slTo {T : TypeId} {m k c : Nat} {a : Option Addr} {xs : List Value} (hk : k ≤ m) (hL : BT (AV T 1 (.slice a m c) m xs) L R) (h : G W n ds E (AV T 1 (.slice a k c) k (xs.take k) :: R) X) : G W n ds E L X :=
 fun ac w he hk' hs => h ac w he hk' (BS (fun _ hp => VH hk hp) (hs.pick hL))
theorem G.slAddr {T : TypeId} {sz m c : Nat} {a : Option Addr} {xs : List Value} (hL : BT (AV T sz (.slice a m c) m xs) L R) (h : m ≤ c → (a = none ∨ ∃ b off, a = some ⟨b, off, none⟩) → G W n ds E L X) : G W n ds E L X := by
 intro ac w he hk hs
 obtain ⟨g1, -, hp⟩ := AZ (hs.pick hL)
 rcases hp with ⟨h1, h2, -⟩ | ⟨b', cap, rest, fr, h1, -, -, -, h5, -⟩
 ·simp only [Value.slice.injEq] at h1
  exact h om (.inl h1.1) ac w he hk hs
 ·simp only [Value.slice.injEq] at h1
  exact h om (.inr ⟨b', 0, h1.1⟩) ac w he hk hs
theorem AH.slTo {t : TypeId} {x y : Operand} {a : Option Addr} {n c e sz by' : Nat} {j : Int} (hx : ev E x = some (.slice a n c)) (ht : Ah P t = some (e, sz, by')) (hy : ev E y = some (.int .i64 j)) (hb : 0 ≤ j ∧ j ≤ c)
  (ha' : a = none ∨ ∃ b off, a = some ⟨b, off, none⟩) : AH P ⟨none, .slice t x none (some y) none, ty, "", #[], none⟩ E L (.slice a j.toNat c) := by
 intro ρ w ha _
 unfold Ah at ht
 split at ht <;> (try cases ht)
 rename_i e' hu
 split at ht <;> (try cases ht)
 rename_i inf hin
 refine Ct ?_
 show (Instr.sliceAt t (ρ x) none (some (ρ y)) none).run P w = _
 rw [ha x _ hx, ha y _ hy]
 unfold Instr.sliceAt
 rw [run_bind (AJ hu)]
 show (Instr.slice t (.slice a n c) none (some (.int .i64 j)) none).run P w = _
 unfold Instr.slice
 rw [run_bind (AJ hu)]
 show (do let (l, h, m) ← Instr.sliceBounds true n c none (some (.int .i64 j)) none; let size ← sizeOf e; pure (.slice (if m = l then a else a.map (·.add (l * size))) (h - l) (m - l)) : Sem Value).run P w = _
 rw [run_bind (E3 (i := 0) (j := j) (.inr ⟨rfl, rfl⟩) (.inl rfl) ⟨by omega, hb.1, hb.2⟩)]
 show (do let size ← sizeOf e; pure (.slice (if c = 0 then a else a.map (·.add (0 * size))) (j.toNat - 0) (c - 0)) : Sem Value).run P w = _
 rw [run_bind (Bn (k := inf.size) (by simp [Ai, hin]))]
 have : (if c = 0 then a else a.map (·.add (0 * inf.size))) = a := by
  split
  ·rfl
  ·rcases ha' with rfl | ⟨b, off, rfl⟩
   ·rfl
   ·simp [Addr.add_eq]
 rw [this]; rfl
theorem BE {α : Type} {f : α → List Value} {sz : Nat} : ∀ {l : List α} {i : Nat} (hf : ∀ x ∈ l, (f x).length = sz) (hi : i < l.length), ((l.flatMap f).drop (i * sz)).take sz = f l[i] := by
 intro l
 induction l with
 | nil => intro i _ hi; simp at hi
 | cons x l ih =>
  intro i hf hi
  have hx := hf x (by simp)
  cases i with
  | zero => simp [take_append, hx]
  | succ i =>
   have e : (i + 1) * sz = (f x).length + i * sz := by rw [hx, Nat.add_mul]; omega
   rw [flatMap_cons, e, drop_append, drop_eq_nil_of_le om, nil_append, Nat.add_sub_cancel_left]
   exact ih (fun y hy => hf y (mem_cons_of_mem _ hy)) (by simpa using hi)
end
/-! ### Rows of numbers, strings, flags -/
abbrev Bs := List UInt8
abbrev Bo (l : List (List UInt8)) : List Value := l.map AU
abbrev HL (l : List Bool) : List Value := l.map Value.bool
abbrev Cp (v : Value) (l : List (List UInt8)) : HP := AV 9 1 v l.length (Bo l)
abbrev M7 (v : Value) (l : List Bool) : HP := AV 4 1 v l.length (HL l)
abbrev Aq (l : List Int) : List Value := l.map AA
abbrev Cr (v : Value) (l : List Int) : HP := AV 3 1 v l.length (Aq l)
def E8 (c n : Int) : Int := (if c < 0 then -(c + 1) else c) % n
theorem Cw (c : Int) {n : Int} (h : 0 < n) : 0 ≤ E8 c n ∧ E8 c n < n := ⟨Int.emod_nonneg _ om, Int.emod_lt_of_pos _ h⟩
def A4 (s : Bs) : List Value := s.map Bx
abbrev EN (v : Value) (s : Bs) : HP := AV 5 1 v s.length (A4 s)
theorem Cu (s t : Bs) : A4 (s ++ t) = A4 s ++ A4 t := by simp [A4]
theorem BQ (s : Bs) : (A4 s).length = s.length := by simp [A4]
theorem EV (s : Bs) : ∀ y ∈ A4 s, AD y = true := by
 intro y hy; obtain ⟨c, -, rfl⟩ := mem_map.1 hy; rfl
section
variable {P : Program} {E : By} {L R : List HP} {ty : TypeId} {w : World}
theorem AH.shl {t t' : TypeId} {x y : Operand} {k yk : IntKind} {a b : Int} (hx : ev E x = some (.int k a)) (hy : ev E y = some (.int yk b)) (hb : 0 ≤ b) :
  AH P ⟨none, .binOp .shl t x y t', ty, "", #[], none⟩ E L (.int k (k.wrap (a * 2 ^ min b.toNat k.bits))) := by
 intro ρ w ha _
 have hb' : ¬ b < 0 := by omega
 simp [execOp, ha x _ hx, ha y _ hy, eqGuard, binOp, Op.shift, Bind.bind, Sem.bind, Pure.pure, Sem.run, hb']
theorem AH.shr {t t' : TypeId} {x y : Operand} {k yk : IntKind} {a b : Int} (hx : ev E x = some (.int k a)) (hy : ev E y = some (.int yk b)) (hb : 0 ≤ b) :
  AH P ⟨none, .binOp .shr t x y t', ty, "", #[], none⟩ E L (.int k (a.fdiv (2 ^ min b.toNat k.bits))) := by
 intro ρ w ha _
 have hb' : ¬ b < 0 := by omega
 simp [execOp, ha x _ hx, ha y _ hy, eqGuard, binOp, Op.shift, Bind.bind, Sem.bind, Pure.pure, Sem.run, hb']
theorem AH.or {t t' : TypeId} {x y : Operand} {k : IntKind} {a b : Int} (hx : ev E x = some (.int k a)) (hy : ev E y = some (.int k b)) :
  AH P ⟨none, .binOp .or t x y t', ty, "", #[], none⟩ E L (.int k (k.wrap (BitVec.ofInt k.bits a ||| BitVec.ofInt k.bits b).toNat)) := by
 intro ρ w ha _
 simp [execOp, ha x _ hx, ha y _ hy, eqGuard, binOp, Op.intBits, Bind.bind, Sem.bind, Pure.pure, Sem.run]
theorem AH.xor {t t' : TypeId} {x y : Operand} {k : IntKind} {a b : Int} (hx : ev E x = some (.int k a)) (hy : ev E y = some (.int k b)) :
  AH P ⟨none, .binOp .xor t x y t', ty, "", #[], none⟩ E L (.int k (k.wrap (BitVec.ofInt k.bits a ^^^ BitVec.ofInt k.bits b).toNat)) := by
 intro ρ w ha _
 simp [execOp, ha x _ hx, ha y _ hy, eqGuard, binOp, Op.intBits, Bind.bind, Sem.bind, Pure.pure, Sem.run]
theorem AH.and {t t' : TypeId} {x y : Operand} {k : IntKind} {a b : Int} (hx : ev E x = some (.int k a)) (hy : ev E y = some (.int k b)) :
  AH P ⟨none, .binOp .and t x y t', ty, "", #[], none⟩ E L (.int k (k.wrap (BitVec.ofInt k.bits a &&& BitVec.ofInt k.bits b).toNat)) := by
 intro ρ w ha _
 simp [execOp, ha x _ hx, ha y _ hy, eqGuard, binOp, Op.intBits, Bind.bind, Sem.bind, Pure.pure, Sem.run]
theorem KV {t e : TypeId} {a : Option Addr} {n c : Nat} (ht : P.underlying t = some (.slice e)) : (Op.equal t (.slice a n c) (.slice none 0 0)).run P w = .ok a.isNone w := by
 unfold Op.equal
 rw [show Op.maxDepth = 9999 + 1 from rfl]
 generalize 9999 = d
 unfold Op.equalIn
 rw [run_bind (AJ ht)]; cases a <;> rfl
theorem AH.sleq {t t' e : TypeId} {x y : Operand} {a : Option Addr} {n c : Nat} (hx : ev E x = some (.slice a n c)) (hy : ev E y = some (.slice none 0 0)) (ht : P.underlying t = some (.slice e)) : AH P ⟨none, .binOp .eql t x y t', ty, "", #[], none⟩ E L (.bool a.isNone) :=
 fun _ _ ha _ => Se (ha x _ hx) (ha y _ hy) rfl rfl (KV ht)
end
def Rr : List UInt8 → Int → Int
 | [], n => n
 | c :: s, n => Rr s (n * 256 + c.toNat)
theorem N3 (x : Int) : IntKind.i64.wrap x = (x + 9223372036854775808) % 18446744073709551616 - 9223372036854775808 := by rw [IntKind.wrap_i64]
section
variable {P : Program} {W : World} {n : Nat} {ds : List Deferred} {E : By} {L R : List HP} {Q : Exit → Act → World → Prop}
theorem K9 {ρ : Operand → Value} (ha : IZ E ρ) : ∀ (l : List Operand) (us : List Value), l.map (ev E) = us.map some → l.map ρ = us := by
  intro l
  induction l with
  | nil => intro us h; cases us with
    | nil => rfl
    | cons u us => simp at h
  | cons x l ih => intro us h; cases us with
    | nil => simp at h
    | cons u us =>
      simp only [map_cons, List.cons.injEq] at h ⊢
      exact ⟨ha _ _ h.1, ih us h.2⟩
theorem AI.callV {f : FuncId} {fn : Func} {c : Code} {x : Operand} {xs : Array Operand} {ts : Array TypeId} {ty : TypeId} {us vs ws : List Value} {pre : List HP} {post : Value → List HP → Prop}
  (hf : P.funcs[f]? = some fn) (hb : fn.body = some c) (hnm : (fn.name == "runtime.NumGoroutine") = false) (hv : ev E x = some (.func (.func f) us.toArray ws.toArray)) (hx : xs.toList.map (ev E) = vs.map some) (h : Fn P f (us ++ vs ++ ws).toArray pre post) :
  AI P ⟨none, .call { callee := .value x, args := xs, argTypes := ts }, ty, "", #[], none⟩ E pre post := by
 intro ρ w F ha hs
 have hvs : xs.map ρ = vs.toArray := by
  apply Array.ext'
  rw [Array.toList_map]
  exact K9 ha _ _ hx
 have hfn : ρ x = .func (.func f) us.toArray ws.toArray := ha x _ hv
 unfold Du
 have : (execOp ρ ⟨none, .call { callee := .value x, args := xs, argTypes := ts }, ty, "", #[], none⟩).run P w = .ok (.enter f (us ++ vs ++ ws).toArray) w := by
  have hnm' : ¬ fn.name = "runtime.NumGoroutine" := by simpa using hnm
  simp [execOp, resolve, hfn, Deferred.ofValue, invoke, callFunc, program, Bind.bind, Sem.bind, Pure.pure, Sem.run, hf, hb, hnm', hvs]
 rw [this]
 refine (h F w hs).mono ?_
 rintro e w' ⟨v, L, hv', he, hs', hk⟩
 exact ⟨v, he, L, hv', hs', hk⟩
/-! ### Results -/
def JZ (tmps : Array Value) : ResultVar → Sem Value
 | .tmp t => pure (tmps.getD t undef)
 | .cell a t => do loadVar t (← asAddr (tmps.getD a undef))
def KY (P : Program) (E : By) (L : List HP) (r : ResultVar) (v : Value) : Prop := ∀ (tmps : Array Value) (w : World), (∀ t v, look E t = some v → tmps[t]? = some v) → St L w → (JZ tmps r).run P w = .ok v w
theorem OD {tmps : Array Value} {t : Nat} {v : Value} (h : tmps[t]? = some v) : tmps.getD t undef = v := by simp [h]
theorem KY.tmp {t : Nat} {v : Value} (h : look E t = some v) : KY P E L (.tmp t) v := fun tmps w ht _ => by
 show (pure (tmps.getD t undef) : Sem Value).run P w = _
 rw [OD (ht _ _ h)]; rfl
theorem KY.cell {a t : Nat} {b off : Nat} {l : List Value} {T : TypeId} {fr : Nat × Nat} {v : Value} (h : look E a = some (.pointer (some ⟨b, off, none⟩))) (hp : A7 P t = some none) (hL : BT (pt b (.cells l.toArray T fr)) L R) (hv : l[off]? = some v) :
  KY P E L (.cell a t) v := fun tmps w ht hs => by
 show (do loadVar t (← asAddr (tmps.getD a undef)) : Sem Value).run P w = _
 rw [OD (ht _ _ h)]
 show (loadVar t ⟨b, off, none⟩).run P w = _
 exact Gf hp (hs.pick hL).pt hv
theorem KY.cellA {a t : Nat} {b off k : Nat} {l vs : List Value} {T : TypeId} {fr : Nat × Nat} (h : look E a = some (.pointer (some ⟨b, off, none⟩))) (hp : A7 P t = some (some k)) (hL : BT (pt b (.cells l.toArray T fr)) L R) (hc : off + k ≤ l.length) (hv : (l.drop off).take k = vs) :
  KY P E L (.cell a t) (.agg vs.toArray) := fun tmps w ht hs => by
 show (do loadVar t (← asAddr (tmps.getD a undef)) : Sem Value).run P w = _
 rw [OD (ht _ _ h)]
 show (loadVar t ⟨b, off, none⟩).run P w = _
 rw [← hv]; exact FD hp (hs.pick hL).pt hc
theorem MJ (fn : Func) (tmps : Array Value) : results fn tmps = (do let vs ← fn.results.mapM (JZ tmps); pure (if h : vs.size = 1 then vs[0] else .tuple vs) : Sem Value) := by
 unfold results
 have e : (fun r : ResultVar => (match r with | .tmp t => pure (tmps.getD t undef) | .cell a t => do loadVar t (← asAddr (tmps.getD a undef)) : Sem Value)) = JZ tmps := by
  funext r; cases r <;> rfl
 rw [← e]
 rfl
theorem Ta {fn : Func} {r : ResultVar} {tmps : Array Value} {w : World} {v : Value} (hl : fn.results = #[r]) (h : (JZ tmps r).run P w = .ok v w) : (results fn tmps).run P w = .ok v w := by
 simp [MJ, hl, Sem.run_bind, Result.andThen, h]
theorem UR {fn : Func} {r s : ResultVar} {tmps : Array Value} {w : World} {v u : Value} (hl : fn.results = #[r, s]) (h : (JZ tmps r).run P w = .ok v w) (h' : (JZ tmps s).run P w = .ok u w) : (results fn tmps).run P w = .ok (.tuple #[v, u]) w := by
 simp [MJ, hl, Sem.run_bind, Result.andThen, h, h']
theorem G.done1 {fn : Func} {post : Value → List HP → Prop} {F : List HP} {L' : List HP} {r : ResultVar} {v : Value} (hl : fn.results = #[r]) (hr : KY P E L r v) (hp : post v L') (hL : Am L' L R) (hF : H0 F R) : G W n [] E L (Tt P fn post F W .ret) := by
 intro a w he hk hs
 exact ⟨he.defers, v, Ta hl (hr _ _ he.slots hs), v, L', hp, rfl, hF.st (hs.picks hL), hk⟩
theorem G.done2 {fn : Func} {post : Value → List HP → Prop} {F : List HP} {L' : List HP} {r s : ResultVar} {v u : Value} (hl : fn.results = #[r, s]) (hr : KY P E L r v) (hr' : KY P E L s u) (hp : post (.tuple #[v, u]) L') (hL : Am L' L R) (hF : H0 F R) : G W n [] E L (Tt P fn post F W .ret) := by
 intro a w he hk hs
 exact ⟨he.defers, _, UR hl (hr _ _ he.slots hs) (hr' _ _ he.slots hs), _, L', hp, rfl, hF.st (hs.picks hL), hk⟩
/-! ### Deferred calls -/
def AAX (P : Program) (fn : Func) (post : Value → List HP → Prop) (F : List HP) (W : World) : Exit → Act → World → Prop :=
 bodyPostD P fn fun e w' => ∃ v L, post v L ∧ e = .returned v ∧ St (L ++ F) w' ∧ Az W w'
def FnD (P : Program) (f : FuncId) (args : Array Value) (pre : List HP) (post : Value → List HP → Prop) : Prop :=
 ∀ (F : List HP) (w : World) (u : FrameMode), St (pre ++ F) w → CallsD P f args u w fun e u' w' => u' = u ∧ ∃ v L, post v L ∧ e = .returned v ∧ St (L ++ F) w' ∧ Az w w'
theorem FnD.intro {f : FuncId} {fn : Func} {c : Code} {vs : List Value} {pre : List HP} {post : Value → List HP → Prop} {n : Nat}
  (hf : P.funcs[f]? = some fn) (hb : fn.body = some c) (hn : vs.length + (fn.ntmps - vs.length) = n)
  (h : ∀ F W, G W n [] (UC 0 vs) (pre ++ F) (c.wp P (Tt P fn post F W))) : FnD P f vs.toArray pre post := by
 intro F w u hs
 refine callsD_of_wp hf hb (h F w _ w ⟨?_, rfl, fun t v hl => ?_⟩ (.refl w) hs)
 ·simp [← hn]
 ·obtain ⟨-, h2⟩ := J0 _ _ _ _ hl
  have hlt : t < vs.length := by
   rcases Nat.lt_or_ge t vs.length with h | h
   ·exact h
   ·simp [List.getElem?_eq_none h] at h2
  simp only [Nat.sub_zero] at h2
  rw [List.getElem?_eq_getElem hlt] at h2
  simp only [Option.some.injEq] at h2
  simp [Array.getElem?_append, hlt, h2]
theorem Fn.introD {f : FuncId} {fn : Func} {c : Code} {vs : List Value} {pre : List HP} {post : Value → List HP → Prop} {n : Nat}
    (hf : P.funcs[f]? = some fn) (hb : fn.body = some c) (hn : vs.length + (fn.ntmps - vs.length) = n)
    (h : ∀ F W, G W n [] (UC 0 vs) (pre ++ F) (c.wp P (AAX P fn post F W))) : Fn P f vs.toArray pre post := by
  intro F w hs
  refine calls_of_wp_defers hf hb (h F w _ w ⟨?_, Y, fun t v hl => ?_⟩ (.refl w) hs)
  · simp [← hn]
  obtain ⟨-, h2⟩ := J0 _ _ _ _ hl
  have hlt : t < vs.length := by
    rcases Nat.lt_or_ge t vs.length with h | h
    · exact h
    simp [List.getElem?_eq_none h] at h2
  simp only [Nat.sub_zero] at h2
  rw [List.getElem?_eq_getElem hlt] at h2
  simp only [Option.some.injEq] at h2
  simp [Array.getElem?_append, hlt, h2]
theorem G.defer {ops : Array Oper} {f : FuncId} {xs : Array Operand} {ts : Array TypeId} {ty : TypeId} {pos : String} {aft : Array Edge} {rest : List Oper} {vs : List Value} (hx : xs.toList.map (ev E) = vs.map some)
  (h : G W n ({ target := .fn (.func f) #[], args := vs.toArray } :: ds) E L (wpList P ops Q rest)) : G W n ds E L (wpList P ops Q (⟨none, .defer { callee := .value (.func f), args := xs, argTypes := ts }, ty, pos, aft, none⟩ :: rest)) := by
 intro a w he hk hs
 refine wpList_plain rfl fun K' hK' => ?_
 have hvs : xs.map a.eval = vs.toArray := by
  apply Array.ext'
  rw [Array.toList_map]
  exact K9 he.agrees _ _ hx
 have hfn : a.eval (.func f) = .func (.func f) #[] #[] := rfl
 have hrun : (execOp a.eval ⟨none, .defer { callee := .value (.func f), args := xs, argTypes := ts }, ty, pos, aft, none⟩).run P w = .ok (.defer { target := .fn (.func f) #[], args := vs.toArray }) w := by
  simp [execOp, resolve, hfn, Deferred.ofValue, Bind.bind, Sem.bind, Pure.pure, Sem.run, hvs]
 unfold Oper.wp
 rw [hrun, Oper.upon_defer]
 refine hK' _ _ (h _ _ ⟨he.size, by show _ :: a.defers = _; rw [he.defers], he.slots⟩ hk hs)
theorem G.doneD {fn gn : Func} {gc : Code} {g : FuncId} {vs : List Value} {post postD : Value → List HP → Prop} {F preD : List HP} (hf : P.funcs[g]? = some gn) (hb : gn.body = some gc) (hnm : (gn.name == "runtime.NumGoroutine") = false)
  (hd : FnD P g vs.toArray preD postD) (hL : Am preD L R) (h : ∀ u L', postD u L' → G W n [] E (L' ++ R) (Tt P fn post F W .ret)) :
  G W n [{ target := .fn (.func g) #[], args := vs.toArray }] E L (AAX P fn post F W .ret) := by
 intro a w he hk hs
 show Leaves P fn a.tmps _ a.defers .returning w
 rw [he.defers]
 have hi : (invoke (.fn (.func g) #[]) vs.toArray).run P w = .ok (.enter g vs.toArray) w := by
  have hnm' : ¬ gn.name = "runtime.NumGoroutine" := by simpa using hnm
  simp [invoke, callFunc, program, Bind.bind, Sem.bind, Pure.pure, Sem.run, hf, hb, hnm']
 refine leaves_cons (by simp) hi ((hd R w .returning (hs.picks hL)).mono ?_)
 rintro e u' w' ⟨rfl, v, L', hv, rfl, hs', hk'⟩
 obtain ⟨-, v', hr, hR⟩ := h v L' hv { a with defers := [] } w' ⟨he.size, rfl, he.slots⟩ (hk.trans hk') hs'
 exact ⟨v', hr, hR⟩
end
section
variable {P : Program} {W : World} {n : Nat} {ds : List Deferred} {E : By} {L R : List HP} {Q : Exit → Act → World → Prop} {next : Act → World → Prop}
theorem G.d1 {fn : Func} {post : Value → List HP → Prop} {F : List HP} {L' : List HP} {r : ResultVar} {v : Value} (hl : fn.results = #[r]) (hr : KY P E L r v) (hp : post v L') (hL : Am L' L R := by repeat' constructor) (hF : H0 F R := by repeat' constructor) : G W n [] E L (Tt P fn post F W .ret) := G.done1 hl hr hp hL hF
theorem G.d2 {fn : Func} {post : Value → List HP → Prop} {F : List HP} {L' : List HP} {r s : ResultVar} {v u : Value} (hl : fn.results = #[r, s]) (hr : KY P E L r v) (hr' : KY P E L s u) (hp : post (.tuple #[v, u]) L') (hL : Am L' L R := by repeat' constructor) (hF : H0 F R := by repeat' constructor) : G W n [] E L (Tt P fn post F W .ret) := G.done2 hl hr hr' hp hL hF
end
def Dv (P : Program) (t : TypeId) : Option Nat :=
 match P.underlying t with
 | some (.struct fs) => if (List.range fs.size).all (fun i => (fs[i]?).any fun f => f.offset == i && ((P.info? f.type).map (·.size)) == some 1) then some fs.size else none
 | _ => none
section
variable {P : Program} {E : By} {L R : List HP} {ty : TypeId} {w : World}
theorem Pm {fs : Array Field} (h : (List.range fs.size).all (fun i => (fs[i]?).any fun f => f.offset == i && ((P.info? f.type).map (·.size)) == some 1) = true) :
  (fs.mapM (m := Sem) fun f => do pure (f.offset, ← sizeOf f.type)).run P w = .ok ((List.range fs.size).map fun i => (i, 1)).toArray w := by
 have key : ∀ (l : List Field) (k : Nat), (∀ i f, l[i]? = some f → f.offset = k + i ∧ (P.info? f.type).map (·.size) = some 1) →
   (l.mapM (m := Sem) fun f => do pure (f.offset, ← sizeOf f.type)).run P w = .ok ((List.range' k l.length).map fun i => (i, 1)) w := by
  intro l
  induction l with
  | nil => intro k _; rfl
  | cons f l ih =>
   intro k hl
   rw [mapM_cons]
   obtain ⟨h1, h2⟩ := hl 0 f rfl
   rw [run_bind (a := (k, 1)) (w' := w) (by rw [run_bind (Bn (k := 1) h2), h1]; rfl)]
   rw [run_bind (ih (k + 1) (fun i f' hf => by have := hl (i + 1) f' (by simpa using hf); exact ⟨by omega, this.2⟩))]
   simp [Be, List.range'_succ]
 have hk := key fs.toList 0 (fun i f hf => by
  have hlt : i < fs.size := by
   rcases Nat.lt_or_ge i fs.size with h' | h'
   ·exact h'
   ·rw [List.getElem?_eq_none (by simpa using h')] at hf; cases hf
  have := all_eq_true.1 h i (mem_range.2 hlt)
  rw [show fs[i]? = some f from by rw [← Array.getElem?_toList]; exact hf] at this
  simp only [Option.any_some, Bool.and_eq_true, beq_iff_eq] at this
  exact ⟨by omega, this.2⟩)
 have hm : (fs.mapM (m := Sem) fun f => do pure (f.offset, ← sizeOf f.type)) = (Functor.map List.toArray (fs.toList.mapM (m := Sem) fun f => do pure (f.offset, ← sizeOf f.type))) := by
  rw [Array.mapM_eq_mapM_toList]
 rw [hm]
 show (Functor.map List.toArray _ : Sem _).run P w = _
 rw [show (Functor.map List.toArray (fs.toList.mapM (m := Sem) fun f => do pure (f.offset, ← sizeOf f.type)) : Sem _) = ((fs.toList.mapM (m := Sem) fun f => do pure (f.offset, ← sizeOf f.type)) >>= fun l => pure l.toArray) from rfl]
 rw [run_bind hk]
 simp [Be, range_eq_range']
def Cd : List Value → List (Nat × Value) → List Value
 | l, [] => l
 | l, (i, v) :: us => Cd (l.set i v) us
theorem T5 {n : Nat} (place : Nat → Option (Nat × Nat)) (hp : ∀ i, i < n → place i = some (i, 1)) : ∀ (us : List (Nat × Value)) (l : List Value), l.length = n → (∀ u ∈ us, u.1 < n ∧ AD u.2 = true) →
  Instr.fill place l.toArray us = some (Cd l us).toArray := by
 intro us
 induction us with
 | nil => intro l _ _; rfl
 | cons u us ih =>
  intro l hl hu
  obtain ⟨i, v⟩ := u
  obtain ⟨h1, h2⟩ := hu (i, v) (by simp)
  unfold Instr.fill
  rw [hp i h1]
  dsimp only
  rw [Dt h2, if_neg (by simp; omega)]
  have : (#[v].zipIdx.foldl (fun cs (c, j) => cs.setIfInBounds (i + j) c) l.toArray : Array Value) = (l.set i v).toArray := by simp
  rw [this]
  exact ih _ (by simpa using hl) (fun u hu' => hu u (by simp [hu']))
theorem HD {ρ : Operand → Value} (ha : IZ E ρ) : ∀ (ps : List (Nat × Operand)) (us : List (Nat × Value)), ps.map (fun p => (p.1, ev E p.2)) = us.map (fun p => (p.1, some p.2)) → ps.map (fun p => (p.1, ρ p.2)) = us := by
  intro ps
  induction ps with
  | nil => intro us h; cases us with
    | nil => rfl
    | cons u us => simp at h
  | cons p ps ih => intro us h; cases us with
    | nil => simp at h
    | cons u us =>
      simp only [map_cons, List.cons.injEq, Prod.mk.injEq] at h ⊢
      refine ⟨?_, ih us h.2⟩
      obtain ⟨i, v⟩ := u
      obtain ⟨⟨h1, h2⟩, -⟩ := h
      simp only at h1 h2
      rw [h1, ha _ _ h2]
theorem AH.build {t : TypeId} {parts : Array (Nat × Operand)} {n : Nat} {zl : List Value} {us : List (Nat × Value)} (hf : Dv P t = some n) (hz : Av P t = some (.agg zl.toArray)) (hzl : zl.length = n)
  (hu : parts.toList.map (fun p => (p.1, ev E p.2)) = us.map (fun p => (p.1, some p.2))) (hc : ∀ u ∈ us, u.1 < n ∧ AD u.2 = true) :
  AH P ⟨none, .build t parts, ty, "", #[], none⟩ E L (.agg (Cd zl us).toArray) := by
 intro ρ w ha _
 unfold Dv at hf
 split at hf <;> (try cases hf)
 rename_i fs hus
 split at hf <;> (try cases hf)
 rename_i hall
 refine Ct ?_
 show (Instr.build t (parts.map fun p => (p.1, ρ p.2))).run P w = _
 unfold Instr.build
 rw [run_bind (El hz)]
 dsimp only
 rw [run_bind (AJ hus)]
 dsimp only
 have hpl := Pm (P := P) (w := w) hall
 rw [run_bind hpl]
 have hparts : (parts.map fun p => (p.1, ρ p.2)).toList = us := by
  rw [Array.toList_map]; exact HD ha _ _ hu
 rw [hparts]
 rw [show Value.cells (.agg zl.toArray) = zl.toArray from rfl, T5 (n := fs.size) (fun i => ((List.range fs.size).map fun i => (i, 1)).toArray[i]?) (fun i hi => by simp [hi]) us zl hzl hc]
 rfl
theorem Wa {sz : Nat} : ∀ (vs : List (List Value)) (k : Nat) (pre post : List Value), pre.length = k * sz → (∀ v ∈ vs, v.length = sz) → post.length = vs.length * sz →
  ∀ (us : List (Nat × Value)), us.map (fun u => (u.1, u.2.cells)) = (vs.zipIdx k).map (fun p => (p.2, p.1.toArray)) → Instr.fill (fun i => some (i * sz, sz)) (pre ++ post).toArray us = some (pre ++ vs.flatten).toArray := by
 intro vs
 induction vs with
 | nil =>
  intro k pre post _ _ hp us hu
  have : us = [] := by simpa using hu
  subst this
  have : post = [] := by simpa using hp
  subst this
  simp [Instr.fill]
 | cons v vs ih =>
  intro k pre post h1 h2 h3 us hu
  cases us with
  | nil => simp at hu
  | cons u us =>
   obtain ⟨i, x⟩ := u
   simp only [zipIdx_cons, map_cons, List.cons.injEq, Prod.mk.injEq] at hu
   obtain ⟨⟨rfl, hx⟩, hu⟩ := hu
   have hv := h2 v (by simp)
   unfold Instr.fill
   dsimp only
   rw [hx]
   simp only [length_cons, Nat.add_mul, Nat.one_mul] at h3
   rw [if_neg (by simp [hv]; omega)]
   have hfold : ∀ (v : List Value) (j : Nat) (pre post : List Value), pre.length = i * sz + j → v.length ≤ post.length → ((v.zipIdx j).foldl (fun cs x => cs.setIfInBounds (i * sz + x.2) x.1) (pre ++ post).toArray : Array Value) = (pre ++ v ++ post.drop v.length).toArray := by
    intro v
    induction v with
    | nil => intro j pre post _ _; simp
    | cons c v ihv =>
     intro j pre post hpre hle
     cases post with
     | nil => simp at hle
     | cons q post =>
      simp only [zipIdx_cons, foldl_cons, length_cons] at *
      have hset : ((pre ++ q :: post).toArray.setIfInBounds (i * sz + j) c) = ((pre ++ [c]) ++ post).toArray := by
       rw [← hpre]; simp
      have := ihv (j + 1) (pre ++ [c]) post (by simp; omega) om
      rw [hset, this]
      simp
   have hf := hfold v 0 pre post (by simpa using h1) (by rw [hv]; omega)
   have hz0 : (Array.foldl (fun (cs : Array Value) (x : Value × Nat) => cs.setIfInBounds (i * sz + x.2) x.1) (pre ++ post).toArray v.toArray.zipIdx) = (pre ++ v ++ post.drop v.length).toArray := by
    rw [← Array.foldl_toList, Array.toList_zipIdx]; exact hf
   rw [show (v.toArray.zipIdx.foldl (fun cs (c, j) => cs.setIfInBounds (i * sz + j) c) (pre ++ post).toArray : Array Value) = (pre ++ v ++ post.drop v.length).toArray from hz0]
   have := ih (i + 1) (pre ++ v) (post.drop v.length) (by simp [h1, hv, Nat.add_mul]) (fun y hy => h2 y (by simp [hy])) (by simp [hv]; omega) us hu
   rw [this]
   simp
theorem AI.buildSlice {t e : TypeId} {len : Nat} {parts : Array (Nat × Operand)} {sz by' : Nat} {z : Value} {zl : List Value} {vs : List Value} (ht : Ah P t = some (e, sz, by')) (hz : Av P e = some z) (hzc : z.cells = zl.toArray) (hzl : zl.length = sz)
    (hu : parts.toList.map (fun p => (p.1, ev E p.2)) = vs.zipIdx.map (fun p => (p.2, some p.1))) (hlen : vs.length = len) (hc : ∀ v ∈ vs, v.cells.size = sz) (hsmall : len * sz ≤ 16777216) :
    AI P ⟨none, .buildSlice t len parts, ty, "", #[], none⟩ E [] fun v L' => ∃ b, v = .slice (some ⟨b, 0, none⟩) len len ∧ L' = [Ar b (vs.map fun v => v.cells.toList).flatten e] := by
  intro ρ w F ha hs
  unfold Ah at ht
  split at ht <;> (try cases ht)
  rename_i e' hu'
  split at ht <;> (try cases ht)
  rename_i inf hin
  have hparts : (parts.map fun p => (p.1, ρ p.2)).toList = (vs.zipIdx.map fun p => (p.2, p.1)) := by
    rw [Array.toList_map]
    refine HD ha _ _ ?_
    rw [hu]; simp
  have hrun : (execOp ρ ⟨none, .buildSlice t len parts, ty, "", #[], none⟩).run P w = .ok (.value (.slice (some ⟨w.heap.size, 0, none⟩) len len)) { w with heap := w.heap.push (.cells (vs.map fun v => v.cells.toList).flatten.toArray e) } := by
    refine Ct ?_
    show (Instr.buildSlice t len (parts.map fun p => (p.1, ρ p.2))).run P w = _
    unfold Instr.buildSlice
    rw [run_bind (AJ hu')]
    dsimp only
    rw [run_bind (Bn (k := inf.size) (by simp [Ai, hin]))]
    rw [if_neg (by have : (2 : Nat) ^ 24 = 16777216 := by decide
                   omega)]
    have hfill : ∀ cells : List Value, cells.length = len * inf.size → Instr.fill (fun i => some (i * inf.size, inf.size)) cells.toArray (parts.map fun p => (p.1, ρ p.2)).toList = some (vs.map fun v => v.cells.toList).flatten.toArray := by
      intro cells hcl
      rw [hparts]
      have := Wa (sz := inf.size) (vs.map fun v => v.cells.toList) 0 [] cells (by simp) (fun x hx => by
        obtain ⟨v, hv, rfl⟩ := mem_map.1 hx
        simpa using hc v hv) (by simpa [hlen] using hcl) (vs.zipIdx.map fun p => (p.2, p.1)) (by
        rw [zipIdx_map]; simp)
      simpa using this
    by_cases h0 : len * inf.size = 0
    · rw [if_pos h0, run_bind Be, h0]
      have he : (Array.range 0).map (fun x => (#[] : Array Value)[x % (#[] : Array Value).size]!) = ([] : List Value).toArray := by simp
      rw [he, hfill [] (by simp [h0])]
      dsimp only
      rw [run_bind (Cy e _)]; rfl
    · rw [if_neg h0, run_bind (El hz), run_bind Be]
      have he : (Array.range (len * inf.size)).map (fun x => z.cells[x % z.cells.size]!) = ((List.range (len * inf.size)).map fun x => z.cells[x % z.cells.size]!).toArray := by
        apply Array.ext'; simp
      rw [he, hfill _ (by simp)]
      dsimp only
      rw [run_bind (Cy e _)]; rfl
  unfold Du; rw [hrun]
  exact ⟨_, ⟨_, rfl, rfl⟩, St.new (L := F) hs _, Az.new _ _⟩
theorem AAW : ∀ (vs : List Value), (∀ v ∈ vs, AD v = true) → (vs.map fun v => v.cells.toList).flatten = vs := by
 intro vs
 induction vs with
 | nil => intro _; rfl
 | cons v vs ih =>
  intro h
  rw [map_cons, flatten_cons, Dt (h v (by simp)), ih (fun u hu => h u (by simp [hu]))]
  rfl
theorem AI.buildSlice1 {t e : TypeId} {len : Nat} {parts : Array (Nat × Operand)} {by' : Nat} {z : Value} {zl : List Value} {vs : List Value} (ht : Ah P t = some (e, 1, by')) (hz : Av P e = some z) (hzc : z.cells = zl.toArray) (hzl : zl.length = 1)
  (hu : parts.toList.map (fun p => (p.1, ev E p.2)) = vs.zipIdx.map (fun p => (p.2, some p.1))) (hlen : vs.length = len) (hc : (vs.all AD) = true) (hsmall : len * 1 ≤ 16777216) :
  AI P ⟨none, .buildSlice t len parts, ty, "", #[], none⟩ E [] fun v L' => ∃ b, v = .slice (some ⟨b, 0, none⟩) len len ∧ L' = [Ar b vs e] := by
 have hc' : ∀ v ∈ vs, AD v = true := fun v hv => all_eq_true.1 hc v hv
 have := AI.buildSlice (P := P) (E := E) (ty := ty) ht hz hzc hzl hu hlen (fun v hv => by rw [Dt (hc' v hv)]; rfl) hsmall
 rwa [AAW vs hc'] at this
end
theorem mixed : prog.follows .mixedOrders = true := by kernel_rfl
theorem AF : A7 prog 3 = some none := by kernel_rfl
theorem BV : Ai prog 3 = some 1 := by kernel_rfl
theorem Fk : Av prog 3 = some (.int .i64 0) := by kernel_rfl
theorem FV : A7 prog 4 = some none := by kernel_rfl
theorem Og : Ai prog 4 = some 1 := by kernel_rfl
theorem AAu : Av prog 4 = some (.bool false) := by kernel_rfl
theorem AAs : A7 prog 5 = some none := by kernel_rfl
theorem AAS : Ai prog 5 = some 1 := by kernel_rfl
theorem Fo : Av prog 5 = some (.int .u8 0) := by kernel_rfl
theorem G9 : A7 prog 9 = some none := by kernel_rfl
theorem Wt : Ai prog 9 = some 1 := by kernel_rfl
theorem Fp : Av prog 9 = some (.string (bs [])) := by kernel_rfl
theorem DM : A7 prog 22 = some none := by kernel_rfl
theorem HV : Ai prog 22 = some 1 := by kernel_rfl
theorem BC : Ah prog 22 = some (3, 1, 8) := by kernel_rfl
theorem Pd : Ah prog 23 = some (56, 2, 16) := by kernel_rfl
theorem G3 : A7 prog 26 = some none := by kernel_rfl
theorem B1 : A7 prog 27 = some none := by kernel_rfl
theorem Yw : Av prog 27 = some (.pointer none) := by kernel_rfl
theorem Qh : A7 prog 28 = some none := by kernel_rfl
theorem ST : Ah prog 32 = some (27, 1, 8) := by kernel_rfl
theorem HW : Ah prog 33 = some (45, 1, 8) := by kernel_rfl
theorem BH : Ah prog 34 = some (49, 3, 40) := by kernel_rfl
theorem Bj : A7 prog 35 = some none := by kernel_rfl
theorem CD : Ai prog 35 = some 1 := by kernel_rfl
theorem O4 : Av prog 35 = some (.int .i64 0) := by kernel_rfl
theorem Yp : A7 prog 37 = some none := by kernel_rfl
theorem Z9 : Ai prog 37 = some 1 := by kernel_rfl
theorem PW : Ah prog 37 = some (231, 2, 24) := by kernel_rfl
theorem NI : A7 prog 38 = some none := by kernel_rfl
theorem AAb : Ai prog 38 = some 1 := by kernel_rfl
theorem Ow : Ah prog 38 = some (40, 8, 112) := by kernel_rfl
theorem IF : A7 prog 40 = some (some 8) := by kernel_rfl
theorem WP : Ai prog 40 = some 8 := by kernel_rfl
theorem Yv : Dv prog 40 = some 8 := by kernel_rfl
theorem Nv : AC prog 40 0 = some 0 := by kernel_rfl
theorem OW : AC prog 40 1 = some 1 := by kernel_rfl
theorem Ng : AC prog 40 2 = some 2 := by kernel_rfl
theorem OF : AC prog 40 3 = some 3 := by kernel_rfl
theorem Oc : AC prog 40 4 = some 4 := by kernel_rfl
theorem OK : AC prog 40 5 = some 5 := by kernel_rfl
theorem Nc : AC prog 40 6 = some 6 := by kernel_rfl
theorem Gk : AC prog 40 7 = some 7 := by kernel_rfl
theorem Kr : Av prog 40 = some (.agg #[.int .i64 0, .string (bs []), .string (bs []), .slice none 0 0, .int .i64 0, .int .i64 0, .int .i64 0, .slice none 0 0]) := by kernel_rfl
theorem D3 : A7 prog 42 = some (some 11) := by kernel_rfl
theorem H9 : Ai prog 42 = some 11 := by kernel_rfl
theorem EH : AC prog 42 0 = some 0 := by kernel_rfl
theorem OI : AC prog 42 1 = some 1 := by kernel_rfl
theorem No : AC prog 42 2 = some 2 := by kernel_rfl
theorem Hj : AC prog 42 3 = some 3 := by kernel_rfl
theorem Et : Av prog 42 = some (.agg #[.int .i64 0, .int .i64 0, .int .i64 0, .int .i64 0, .string (bs []), .string (bs []), .slice none 0 0, .int .i64 0, .int .i64 0, .int .i64 0, .slice none 0 0]) := by kernel_rfl
theorem Ir : A7 prog 45 = some none := by kernel_rfl
theorem Yo : Av prog 45 = some (.pointer none) := by kernel_rfl
theorem EG : A7 prog 47 = some none := by kernel_rfl
theorem Ls : Ai prog 47 = some 1 := by kernel_rfl
theorem Ft : Ah prog 47 = some (67, 19, 272) := by kernel_rfl
theorem Yf : Dv prog 49 = some 3 := by kernel_rfl
theorem Kf : AC prog 49 0 = some 0 := by kernel_rfl
theorem DY : AC prog 49 1 = some 1 := by kernel_rfl
theorem BM : AC prog 49 2 = some 2 := by kernel_rfl
theorem SA : Av prog 49 = some (.agg #[.int .i64 0, .int .i64 0, .slice none 0 0]) := by kernel_rfl
theorem WU : A7 prog 53 = some none := by kernel_rfl
theorem VC : Ai prog 53 = some 1 := by kernel_rfl
theorem G6 : Ah prog 53 = some (77, 20, 280) := by kernel_rfl
theorem XA : AC prog 56 0 = some 0 := by kernel_rfl
theorem Kj : AC prog 56 1 = some 1 := by kernel_rfl
theorem H7 : A7 prog 60 = some none := by kernel_rfl
theorem Ym : Ai prog 60 = some 1 := by kernel_rfl
theorem Fr : Ah prog 60 = some (42, 11, 136) := by kernel_rfl
theorem Ch : A7 prog 65 = some none := by kernel_rfl
theorem II : Ai prog 65 = some 1 := by kernel_rfl
theorem Bu : Ah prog 65 = some (9, 1, 16) := by kernel_rfl
theorem DJ : A7 prog 67 = some (some 19) := by kernel_rfl
theorem J1 : Ai prog 67 = some 19 := by kernel_rfl
theorem Kn : AC prog 67 0 = some 0 := by kernel_rfl
theorem EI : AC prog 67 1 = some 1 := by kernel_rfl
theorem Cx : AC prog 67 2 = some 2 := by kernel_rfl
theorem Hi : AC prog 67 3 = some 3 := by kernel_rfl
theorem Kg : AC prog 67 5 = some 5 := by kernel_rfl
theorem YO : AC prog 67 6 = some 6 := by kernel_rfl
theorem Dq : AC prog 67 7 = some 7 := by kernel_rfl
theorem CO : Av prog 67 = some (.agg #[.int .i64 0, .int .i64 0, .int .i64 0, .int .i64 0, .int .i64 0, .slice none 0 0, .string (bs []), .slice none 0 0, .int .i64 0, .int .i64 0, .string (bs []), .string (bs []), .slice none 0 0, .int .i64 0, .int .i64 0, .bool false, .slice none 0 0, .slice none 0 0, .slice none 0 0]) := by kernel_rfl
theorem Sz : AC prog 77 0 = some 0 := by kernel_rfl
theorem N0 : AC prog 77 1 = some 1 := by kernel_rfl
theorem J9 : Av prog 77 = some (.agg #[.int .i64 0, .int .i64 0, .int .i64 0, .int .i64 0, .int .i64 0, .int .i64 0, .slice none 0 0, .string (bs []), .slice none 0 0, .int .i64 0, .int .i64 0, .string (bs []), .string (bs []), .slice none 0 0, .int .i64 0, .int .i64 0, .bool false, .slice none 0 0, .slice none 0 0, .slice none 0 0]) := by kernel_rfl
theorem Ht : AC prog 87 0 = some 0 := by kernel_rfl
theorem Kd : AC prog 87 1 = some 1 := by kernel_rfl
theorem LR : A7 prog 88 = some none := by kernel_rfl
theorem AAE : A7 prog 90 = some (some 8) := by kernel_rfl
theorem AAJ : Ai prog 90 = some 8 := by kernel_rfl
theorem DG : AC prog 90 0 = some 0 := by kernel_rfl
theorem Gr : AC prog 90 1 = some 2 := by kernel_rfl
theorem FC : AC prog 90 2 = some 3 := by kernel_rfl
theorem Kc : AC prog 90 3 = some 4 := by kernel_rfl
theorem Ds : AC prog 90 4 = some 5 := by kernel_rfl
theorem Cl : AC prog 90 5 = some 6 := by kernel_rfl
theorem F0 : AC prog 90 6 = some 7 := by kernel_rfl
theorem VS : Av prog 90 = some (.agg #[.int .i64 0, .int .i64 0, .pointer none, .int .i64 0, .string (bs []), .slice none 0 0, .slice none 0 0, .bool false]) := by kernel_rfl
theorem AAY : Dv prog 98 = some 7 := by kernel_rfl
theorem Xh : AC prog 98 0 = some 0 := by kernel_rfl
theorem C4 : AC prog 98 1 = some 1 := by kernel_rfl
theorem CA : AC prog 98 2 = some 2 := by kernel_rfl
theorem FA : AC prog 98 3 = some 3 := by kernel_rfl
theorem Gh : AC prog 98 4 = some 4 := by kernel_rfl
theorem JQ : AC prog 98 5 = some 5 := by kernel_rfl
theorem ED : AC prog 98 6 = some 6 := by kernel_rfl
theorem AAP : Av prog 98 = some (.agg #[.int .i64 0, .pointer none, .int .i64 0, .int .i64 0, .int .i64 0, .int .i64 0, .slice none 0 0]) := by kernel_rfl
theorem F6 : A7 prog 99 = some none := by kernel_rfl
theorem AAd : Ai prog 99 = some 1 := by kernel_rfl
theorem G1 : Ah prog 99 = some (103, 8, 80) := by kernel_rfl
theorem Za : Dv prog 101 = some 10 := by kernel_rfl
theorem QX : AC prog 101 1 = some 1 := by kernel_rfl
theorem Bv : AC prog 101 2 = some 2 := by kernel_rfl
theorem BR : AC prog 101 3 = some 3 := by kernel_rfl
theorem EB : AC prog 101 4 = some 4 := by kernel_rfl
theorem JE : AC prog 101 5 = some 5 := by kernel_rfl
theorem FP : AC prog 101 6 = some 6 := by kernel_rfl
theorem GF : AC prog 101 7 = some 7 := by kernel_rfl
theorem CH : AC prog 101 8 = some 8 := by kernel_rfl
theorem GI : AC prog 101 9 = some 9 := by kernel_rfl
theorem ZN : Av prog 101 = some (.agg #[.int .i64 0, .int .i64 0, .pointer none, .int .i64 0, .int .i64 0, .int .i64 0, .int .i64 0, .int .i64 0, .slice none 0 0, .slice none 0 0]) := by kernel_rfl
theorem MR : A7 prog 103 = some (some 8) := by kernel_rfl
theorem LY : Ai prog 103 = some 8 := by kernel_rfl
theorem ZS : Dv prog 103 = some 8 := by kernel_rfl
theorem GE : AC prog 103 0 = some 0 := by kernel_rfl
theorem B6 : AC prog 103 1 = some 1 := by kernel_rfl
theorem Qf : AC prog 103 2 = some 2 := by kernel_rfl
theorem JP : AC prog 103 3 = some 3 := by kernel_rfl
theorem MS : AC prog 103 4 = some 4 := by kernel_rfl
theorem QV : AC prog 103 5 = some 5 := by kernel_rfl
theorem JK : AC prog 103 6 = some 6 := by kernel_rfl
theorem LP : AC prog 103 7 = some 7 := by kernel_rfl
theorem HE : Av prog 103 = some (.agg #[.int .i64 0, .int .i64 0, .int .i64 0, .int .i64 0, .int .i64 0, .int .i64 0, .bool false, .slice none 0 0]) := by kernel_rfl
theorem MC : A7 prog 114 = some none := by kernel_rfl
theorem OV : Ah prog 114 = some (204, 64, 64) := by kernel_rfl
theorem Q4 : A7 prog 115 = some none := by kernel_rfl
theorem Zh : Dv prog 117 = some 5 := by kernel_rfl
theorem HK : AC prog 117 0 = some 0 := by kernel_rfl
theorem Lw : AC prog 117 1 = some 1 := by kernel_rfl
theorem Pn : AC prog 117 2 = some 2 := by kernel_rfl
theorem I7 : AC prog 117 3 = some 3 := by kernel_rfl
theorem Lu : AC prog 117 4 = some 4 := by kernel_rfl
theorem Yx : Av prog 117 = some (.agg #[.slice none 0 0, .map none, .int .i64 0, .int .i64 0, .bool false]) := by kernel_rfl
theorem Ud : A7 prog 118 = some none := by kernel_rfl
theorem RV : Ah prog 118 = some (4, 1, 1) := by kernel_rfl
theorem ZK : Dv prog 120 = some 6 := by kernel_rfl
theorem Fe : AC prog 120 0 = some 0 := by kernel_rfl
theorem LN : AC prog 120 1 = some 1 := by kernel_rfl
theorem Pb : AC prog 120 2 = some 2 := by kernel_rfl
theorem LB : AC prog 120 3 = some 3 := by kernel_rfl
theorem QA : AC prog 120 4 = some 4 := by kernel_rfl
theorem GM : AC prog 120 5 = some 5 := by kernel_rfl
theorem Y6 : Av prog 120 = some (.agg #[.slice none 0 0, .slice none 0 0, .slice none 0 0, .int .i64 0, .int .i64 0, .bool false]) := by kernel_rfl
theorem Y5 : Dv prog 129 = some 7 := by kernel_rfl
theorem Zb : Av prog 129 = some (.agg #[.pointer none, .int .i64 0, .string (bs []), .slice none 0 0, .int .i64 0, .int .i64 0, .bool false]) := by kernel_rfl
theorem GB : A7 prog 133 = some none := by kernel_rfl
theorem Ql : Ai prog 133 = some 1 := by kernel_rfl
theorem A8 : Ah prog 133 = some (5, 1, 1) := by kernel_rfl
theorem Zz : Dv prog 135 = some 9 := by kernel_rfl
theorem Fb : AC prog 135 0 = some 0 := by kernel_rfl
theorem EE : AC prog 135 1 = some 1 := by kernel_rfl
theorem I3 : AC prog 135 2 = some 2 := by kernel_rfl
theorem FW : AC prog 135 3 = some 3 := by kernel_rfl
theorem FM : AC prog 135 4 = some 4 := by kernel_rfl
theorem GQ : AC prog 135 5 = some 5 := by kernel_rfl
theorem QT : AC prog 135 6 = some 6 := by kernel_rfl
theorem Pg : AC prog 135 7 = some 7 := by kernel_rfl
theorem GN : AC prog 135 8 = some 8 := by kernel_rfl
theorem ZC : Av prog 135 = some (.agg #[.pointer none, .slice none 0 0, .int .i64 0, .slice none 0 0, .int .i64 0, .int .i64 0, .int .i64 0, .int .i64 0, .bool false]) := by kernel_rfl
theorem Z1 : A7 prog 145 = some (some 6) := by kernel_rfl
theorem Re : Dv prog 145 = some 6 := by kernel_rfl
theorem HH : AC prog 145 0 = some 0 := by kernel_rfl
theorem Vh : AC prog 145 1 = some 1 := by kernel_rfl
theorem VY : AC prog 145 2 = some 2 := by kernel_rfl
theorem U1 : AC prog 145 3 = some 3 := by kernel_rfl
theorem WV : AC prog 145 4 = some 4 := by kernel_rfl
theorem V5 : AC prog 145 5 = some 5 := by kernel_rfl
theorem RQ : Av prog 145 = some (.agg #[.int .i64 0, .int .i64 0, .int .i64 0, .int .i64 0, .int .i64 0, .int .i64 0]) := by kernel_rfl
theorem OS : Ah prog 161 = some (44, 1, 8) := by kernel_rfl
theorem ZP : Dv prog 167 = some 8 := by kernel_rfl
theorem HO : AC prog 167 0 = some 0 := by kernel_rfl
theorem Fg : AC prog 167 1 = some 1 := by kernel_rfl
theorem QY : AC prog 167 2 = some 2 := by kernel_rfl
theorem Lk : AC prog 167 3 = some 3 := by kernel_rfl
theorem JA : AC prog 167 4 = some 4 := by kernel_rfl
theorem V6 : AC prog 167 5 = some 5 := by kernel_rfl
theorem V7 : AC prog 167 6 = some 6 := by kernel_rfl
theorem Lx : AC prog 167 7 = some 7 := by kernel_rfl
theorem Zt : Av prog 167 = some (.agg #[.pointer none, .slice none 0 0, .int .i64 0, .int .i64 0, .int .i64 0, .int .i64 0, .int .i64 0, .bool false]) := by kernel_rfl
theorem Z3 : A7 prog 200 = some none := by kernel_rfl
theorem WN : Av prog 200 = some (.pointer none) := by kernel_rfl
theorem RS : A7 prog 204 = some (some 64) := by kernel_rfl
theorem Ob : Ai prog 204 = some 64 := by kernel_rfl
theorem Wp : WB prog 204 = some (64, 5, 1) := by kernel_rfl
theorem ON : Av prog 204 = some (.agg #[.int .u8 0, .int .u8 0, .int .u8 0, .int .u8 0, .int .u8 0, .int .u8 0, .int .u8 0, .int .u8 0, .int .u8 0, .int .u8 0, .int .u8 0, .int .u8 0, .int .u8 0, .int .u8 0, .int .u8 0, .int .u8 0, .int .u8 0, .int .u8 0, .int .u8 0, .int .u8 0, .int .u8 0, .int .u8 0, .int .u8 0, .int .u8 0, .int .u8 0, .int .u8 0, .int .u8 0, .int .u8 0, .int .u8 0, .int .u8 0, .int .u8 0, .int .u8 0, .int .u8 0, .int .u8 0, .int .u8 0, .int .u8 0, .int .u8 0, .int .u8 0, .int .u8 0, .int .u8 0, .int .u8 0, .int .u8 0, .int .u8 0, .int .u8 0, .int .u8 0, .int .u8 0, .int .u8 0, .int .u8 0, .int .u8 0, .int .u8 0, .int .u8 0, .int .u8 0, .int .u8 0, .int .u8 0, .int .u8 0, .int .u8 0, .int .u8 0, .int .u8 0, .int .u8 0, .int .u8 0, .int .u8 0, .int .u8 0, .int .u8 0, .int .u8 0]) := by kernel_rfl
theorem Y9 : Dv prog 207 = some 2 := by kernel_rfl
theorem GR : AC prog 207 0 = some 0 := by kernel_rfl
theorem C6 : AC prog 207 1 = some 1 := by kernel_rfl
theorem ZR : Av prog 207 = some (.agg #[.slice none 0 0, .int .i64 0]) := by kernel_rfl
theorem I0 : AC prog 209 0 = some 0 := by kernel_rfl
theorem Zm : Av prog 209 = some (.agg #[.slice none 0 0, .int .i64 0]) := by kernel_rfl
theorem B8 : AC prog 226 0 = some 0 := by kernel_rfl
theorem GS : AC prog 226 1 = some 2 := by kernel_rfl
theorem Zo : Av prog 226 = some (.agg #[.slice none 0 0, .int .i64 0, .int .i64 0]) := by kernel_rfl
theorem Qq : Ah prog 227 = some (200, 1, 8) := by kernel_rfl
theorem Ri : A7 prog 231 = some (some 2) := by kernel_rfl
theorem Vq : Ai prog 231 = some 2 := by kernel_rfl
theorem Zx : Dv prog 231 = some 2 := by kernel_rfl
theorem PR : AC prog 231 0 = some 0 := by kernel_rfl
theorem Qe : AC prog 231 1 = some 1 := by kernel_rfl
theorem LZ : Av prog 231 = some (.agg #[.int .i64 0, .string (bs [])]) := by kernel_rfl
def DK (u : Nat) : Bs := if u < 128 then [UInt8.ofNat u] else UInt8.ofNat (u % 128 + 128) :: DK (u / 128)
 termination_by u
 decreasing_by omega
def Hx (n : Int) : Nat := if 0 ≤ n then (2 * n).toNat else (2 * (-(n + 1)) + 1).toNat
def KX (u : Nat) : Int := if u % 2 = 0 then (u / 2 : Nat) else -((u / 2 : Nat) : Int) - 1
def Bc (n : Int) : Bs := DK (Hx n)
def Bp (n : Nat) : Bs := DK n
def Cs (s : Bs) : Bs := Bp s.length ++ s
abbrev FI : Nat := 18446744073709551616
theorem YQ {n : Int} : KX (Hx n) = n := by
 unfold KX Hx
 by_cases h : 0 ≤ n
 ·rw [if_pos h, if_pos om]; omega
 ·rw [if_neg h, if_neg om]; omega
theorem Xo (u : Nat) : Hx (KX u) = u := by
 unfold KX Hx
 by_cases h : u % 2 = 0
 ·rw [if_pos h, if_pos om]; omega
 ·rw [if_neg h, if_neg om]; omega
theorem Jl {n : Int} (h : -9223372036854775808 ≤ n ∧ n ≤ 9223372036854775807) : Hx n < FI := by
 unfold Hx FI; split <;> omega
theorem Tz {u : Nat} (h : u < FI) : -9223372036854775808 ≤ KX u ∧ KX u ≤ 9223372036854775807 := by
 unfold KX; unfold FI at h; split <;> omega
theorem Sx (u : Nat) : 0 < (DK u).length := by unfold DK; split <;> simp
theorem RM : ∀ (k u : Nat), u < 128 ^ k → 0 < k → (DK u).length ≤ k := by
 intro k
 induction k with
 | zero => intro u _ h; omega
 | succ k ih =>
  intro u h _
  unfold DK
  split
  ·simp
  ·rename_i h1
   have h2 : u / 128 < 128 ^ k := by rw [Nat.pow_succ] at h; omega
   have h3 : 0 < k := by
    rcases Nat.eq_zero_or_pos k with rfl | h3
    ·simp at h; omega
    ·exact h3
   have := ih _ h2 h3
   rw [length_cons]; omega
theorem DB {u : Nat} (h : u < FI) : (DK u).length ≤ 10 := RM 10 u (Nat.lt_of_lt_of_le h dQ) dQ
def Ez : Nat → Nat → Bs → Option (Nat × Bs)
 | _, _, [] => none
 | k, u, c :: s => if (k = 9 ∧ 1 < c.toNat) ∨ (c.toNat = 0 ∧ 0 < k) then none else if c.toNat < 128 then some (u + c.toNat % 128 * 128 ^ k, s) else Ez (k + 1) (u + c.toNat % 128 * 128 ^ k) s
abbrev Pa (α : Type) := Bs → Option (α × Bs)
def Jh : Pa Int := fun s => (Ez 0 0 s).map fun x => (KX x.1, x.2)
def D7 (most : Nat) : Pa Nat := fun s => match Ez 0 0 s with
 | some x => if most < x.1 then none else some x
 | none => none
def Gn (most : Nat) : Pa Bs := fun s => match D7 most s with
 | some x => if x.2.length < x.1 then none else some (x.2.take x.1, x.2.drop x.1)
 | none => none
def AA2 {α β : Type} (p : Pa α) (f : α → Pa β) : Pa β := fun s => match p s with
 | some x => f x.1 x.2
 | none => none
theorem Zc (k : Nat) : 0 < 128 ^ k := Nat.pow_pos dQ
theorem HQ {u : Nat} (h : u < 256) : (UInt8.ofNat u).toNat = u := by
 rw [UInt8.toNat_ofNat']; exact Nat.mod_eq_of_lt h
theorem Qd : ∀ (k u v : Nat) (r : Bs), v + u * 128 ^ k < FI → k ≤ 9 → (0 < k → 0 < u) → Ez k v (DK u ++ r) = some (v + u * 128 ^ k, r)
 | k, u, v, r, h, hk, h0 => by
  unfold DK
  have hp := Zc k
  split
  ·rename_i hu
   rw [singleton_append]
   unfold Ez
   rw [HQ om, if_neg, if_pos hu, Nat.mod_eq_of_lt hu]
   rintro (⟨rfl, h1⟩ | ⟨h1, h2⟩)
   ·have : u * 128 ^ 9 < FI := by omega
    unfold FI at this; omega
   ·have := h0 h2; omega
  ·rename_i hu
   rw [cons_append]
   unfold Ez
   rw [HQ om, if_neg, if_neg om]
   ·have hk9 : k + 1 ≤ 9 := by
     rcases Nat.lt_or_ge k 9 with h2 | h2
     ·omega
     ·have : k = 9 := by omega
      subst this
      have : u * 128 ^ 9 < FI := by omega
      unfold FI at this; omega
    have e : v + (u % 128 + 128) % 128 * 128 ^ k + u / 128 * 128 ^ (k + 1) = v + u * 128 ^ k := by
     rw [Nat.add_mod_right, Nat.mod_mod, Nat.pow_succ, Nat.add_assoc, Nat.mul_comm (128 ^ k) 128, ← Nat.mul_assoc, ← Nat.add_mul]
     congr 2; omega
    rw [Qd (k + 1) (u / 128) _ r (by rw [e]; exact h) hk9 (fun _ => by omega), e]
   ·rintro (⟨rfl, -⟩ | ⟨h1, -⟩)
    ·have : u * 128 ^ 9 < FI := by omega
     unfold FI at this; omega
    ·omega
 termination_by _ u => u
 decreasing_by omega
theorem Jr {u : Nat} (h : u < FI) (r : Bs) : Ez 0 0 (DK u ++ r) = some (u, r) := by
 have := Qd 0 u 0 r om om (fun h => absurd h dQ)
 simpa using this
theorem P3 : ∀ (k u : Nat) (s : Bs) (v : Nat) (r : Bs), Ez k u s = some (v, r) → k ≤ 9 → u < 128 ^ k → ∃ x, v = u + x * 128 ^ k ∧ s = DK x ++ r ∧ (k + (DK x).length ≤ 10) ∧ (k = 9 → x ≤ 1) ∧ (0 < k → 0 < x)
 | k, u, [], v, r, h, _, _ => by unfold Ez at h; cases h
 | k, u, c :: s, v, r, h, hk, hu => by
  unfold Ez at h
  split at h
  ·cases h
  ·rename_i h1
   have h9 : k = 9 → c.toNat ≤ 1 := fun e => by
    rcases Nat.lt_or_ge 1 c.toNat with g | g
    ·exact absurd (.inl ⟨e, g⟩) h1
    ·exact g
   have h0 : 0 < k → 0 < c.toNat := fun e => by
    rcases Nat.eq_zero_or_pos c.toNat with g | g
    ·exact absurd (.inr ⟨g, e⟩) h1
    ·exact g
   split at h
   ·rename_i h2
    simp only [Option.some.injEq, Prod.mk.injEq] at h
    obtain ⟨rfl, rfl⟩ := h
    have e : DK c.toNat = [c] := by unfold DK; rw [if_pos h2]; congr 1; exact UInt8.ofNat_toNat
    refine ⟨c.toNat, by rw [Nat.mod_eq_of_lt h2], by rw [e]; rfl, by rw [e]; simp; omega, h9, h0⟩
   ·rename_i h2
    have hk9 : k + 1 ≤ 9 := by
     rcases Nat.lt_or_ge k 9 with g | g
     ·omega
     ·have := h9 om; omega
    have hc := c.toNat_lt
    have hu' : u + c.toNat % 128 * 128 ^ k < 128 ^ (k + 1) := by
     have h3 : c.toNat % 128 * 128 ^ k ≤ 127 * 128 ^ k := Nat.mul_le_mul_right _ om
     rw [Nat.pow_succ]; omega
    obtain ⟨x, e1, e2, e3, e4, e5⟩ := P3 (k + 1) _ s v r h hk9 hu'
    have hx := e5 om
    have e : DK (c.toNat % 128 + x * 128) = c :: DK x := by
     rw [DK, if_neg om, show (c.toNat % 128 + x * 128) / 128 = x by omega, show (c.toNat % 128 + x * 128) % 128 + 128 = c.toNat by omega]
     congr 1; exact UInt8.ofNat_toNat
    refine ⟨c.toNat % 128 + x * 128, ?_, by rw [e, e2]; rfl, by rw [e, length_cons]; omega, fun g => by omega, fun _ => by omega⟩
    rw [e1, Nat.pow_succ, Nat.add_mul, Nat.mul_comm (128 ^ k) 128, ← Nat.mul_assoc, Nat.add_assoc]
theorem OC : ∀ (k u : Nat) (s : Bs) (v : Nat) (r : Bs), Ez k u s = some (v, r) → k ≤ 9 → u < 128 ^ k → v < FI
 | k, u, [], v, r, h, _, _ => by unfold Ez at h; cases h
 | k, u, c :: s, v, r, h, hk, hu => by
  unfold Ez at h
  split at h
  ·cases h
  ·rename_i h1
   have h9 : k = 9 → c.toNat ≤ 1 := fun e => by
    rcases Nat.lt_or_ge 1 c.toNat with g | g
    ·exact absurd (.inl ⟨e, g⟩) h1
    ·exact g
   have h3 : c.toNat % 128 * 128 ^ k ≤ 127 * 128 ^ k := Nat.mul_le_mul_right _ om
   split at h
   ·simp only [Option.some.injEq, Prod.mk.injEq] at h
    obtain ⟨rfl, rfl⟩ := h
    rcases Nat.lt_or_ge k 9 with g | g
    ·have h4 : 128 ^ k ≤ 128 ^ 8 := Nat.pow_le_pow_right dQ om
     have e8 : (128 : Nat) ^ 8 = 72057594037927936 := by decide
     unfold FI; omega
    ·have : k = 9 := by omega
     subst this
     have h5 := h9 rfl
     have h6 : c.toNat % 128 * 128 ^ 9 ≤ 1 * 128 ^ 9 := Nat.mul_le_mul_right _ om
     have e9 : (128 : Nat) ^ 9 = 9223372036854775808 := by decide
     unfold FI; omega
   ·have hk9 : k + 1 ≤ 9 := by
     rcases Nat.lt_or_ge k 9 with g | g
     ·omega
     ·have := h9 om; omega
    exact OC (k + 1) _ s v r h hk9 (by rw [Nat.pow_succ]; omega)
theorem NB {s : Bs} {v : Nat} {r : Bs} (h : Ez 0 0 s = some (v, r)) : s = DK v ++ r ∧ v < FI := by
 obtain ⟨x, e1, e2, e3, -, -⟩ := P3 0 0 s v r h dQ dQ
 have e1 : v = x := by simpa using e1
 subst e1
 refine ⟨e2, ?_⟩
 exact OC 0 0 _ _ _ h dQ dQ
theorem Pv {n : Int} (h : -9223372036854775808 ≤ n ∧ n ≤ 9223372036854775807) (r : Bs) : Jh (Bc n ++ r) = some (n, r) := by
 unfold Jh Bc
 rw [Jr (Jl h)]
 simp [YQ]
theorem Pw {s r : Bs} {n : Int} (h : Jh s = some (n, r)) : s = Bc n ++ r ∧ -9223372036854775808 ≤ n ∧ n ≤ 9223372036854775807 := by
 unfold Jh at h
 cases e : Ez 0 0 s with
 | none => rw [e] at h; cases h
 | some x =>
  obtain ⟨u, q⟩ := x
  rw [e] at h
  simp only [Option.map_some, Option.some.injEq, Prod.mk.injEq] at h
  obtain ⟨rfl, rfl⟩ := h
  obtain ⟨h1, h2⟩ := NB e
  unfold Bc
  rw [Xo]
  exact ⟨h1, Tz h2⟩
theorem Lh {n most : Nat} (h : n ≤ most) (hm : most < FI) (r : Bs) : D7 most (Bp n ++ r) = some (n, r) := by
 unfold D7 Bp
 rw [Jr om]
 dsimp only
 rw [if_neg om]
theorem Pk {n most : Nat} (h : most < n) (hm : n < FI) (r : Bs) : D7 most (Bp n ++ r) = none := by
 unfold D7 Bp
 rw [Jr om]
 dsimp only
 rw [if_pos h]
theorem L8 {s r : Bs} {n most : Nat} (h : D7 most s = some (n, r)) : s = Bp n ++ r ∧ n ≤ most := by
 unfold D7 at h
 cases e : Ez 0 0 s with
 | none => rw [e] at h; cases h
 | some x =>
  obtain ⟨u, q⟩ := x
  rw [e] at h
  dsimp only at h
  split at h
  ·cases h
  ·rename_i h1
   simp only [Option.some.injEq, Prod.mk.injEq] at h
   obtain ⟨rfl, rfl⟩ := h
   exact ⟨(NB e).1, by omega⟩
theorem PO {s : Bs} {most : Nat} (h : s.length ≤ most) (hm : most < FI) (r : Bs) : Gn most (Cs s ++ r) = some (s, r) := by
 unfold Gn Cs
 rw [append_assoc, Lh h hm]
 dsimp only
 rw [if_neg (by simp)]
 simp
theorem VG {s : Bs} {most : Nat} (h : most < s.length) (hm : s.length < FI) (r : Bs) : Gn most (Cs s ++ r) = none := by
 unfold Gn Cs
 rw [append_assoc, Pk h hm]
theorem O1 {s r x : Bs} {most : Nat} (h : Gn most s = some (x, r)) : s = Cs x ++ r ∧ x.length ≤ most := by
 unfold Gn at h
 cases e : D7 most s with
 | none => rw [e] at h; cases h
 | some y =>
  obtain ⟨n, q⟩ := y
  rw [e] at h
  dsimp only at h
  split at h
  ·cases h
  ·rename_i h1
   simp only [Option.some.injEq, Prod.mk.injEq] at h
   obtain ⟨rfl, rfl⟩ := h
   obtain ⟨e1, e2⟩ := L8 e
   have hl : (q.take n).length = n := by rw [length_take]; omega
   refine ⟨?_, by omega⟩
   unfold Cs
   rw [hl, append_assoc, take_append_drop]
   exact e1
/-! ### A reader's state: what is still to be read, or that something was wrong -/
abbrev Rs := Option Bs
def BY {α : Type} (d : α) (p : Pa α) : Rs → α × Rs
  | none => (d, none)
  | some s => match p s with
    | some x => (x.1, some x.2)
    | none => (d, none)
abbrev Ac := Int × Bs
def Il (a : Ac) : List Value := [AA a.1, AU a.2]
structure Pt where
 kind : Int
 path : Bs
 data : Bs
 aclV : Value
 acl : List Ac
 own : Int
 num : Int
 err : Int
 subsV : Value
def C5 (x : Pt) : List Value := [AA x.kind, AU x.path, AU x.data, x.aclV, AA x.own, AA x.num, AA x.err, x.subsV]
structure En where
 zx : Int
 ses : Int
 xid : Int
 x : Pt
 subs : List Pt
def BX (e : En) : List Value := [AA e.zx, AA e.ses, AA e.xid] ++ C5 e.x
abbrev I64 (n : Int) : Prop := -9223372036854775808 ≤ n ∧ n ≤ 9223372036854775807
abbrev BK : Value := .slice none 0 0
def JN (a : Ac) : Bs := Bc a.1 ++ Cs a.2
def H1 (l : List Ac) : Bs := Bp l.length ++ l.flatMap JN
def Fi (y : Pt) : Bs := Bc y.kind ++ Cs y.path ++ Cs y.data ++ H1 y.acl ++ [y.own, y.num, y.err].flatMap Bc
def EP (l : List Pt) : Bs := Bp l.length ++ l.flatMap Fi
def Bd (e : En) : Bs := [e.zx, e.ses, e.xid].flatMap Bc ++ Fi e.x ++ EP e.subs
def Pt.pl (y : Pt) : Pt := ⟨y.kind, y.path, y.data, BK, y.acl, y.own, y.num, y.err, BK⟩
def En.pl (e : En) : En := ⟨e.zx, e.ses, e.xid, e.x.pl, e.subs.map Pt.pl⟩
theorem PP (l : List Pt) : EP (l.map Pt.pl) = EP l := by
 unfold EP
 rw [length_map, flatMap_map]; rfl
theorem OM (e : En) : Bd e.pl = Bd e := by
 unfold Bd
 rw [show e.pl.subs = e.subs.map Pt.pl from rfl, PP]; rfl
/-! ### Readings, whatever the state -/
abbrev Rn (α : Type) := Rs → α × Rs
def JT {α : Type} (x : α) : Rn α := fun st => (x, st)
def CJ {α β : Type} (f : Rn α) (g : α → Rn β) : Rn β := fun st => g (f st).1 (f st).2
def Aa {α : Type} (f : Rn α) : Nat → Rn (List α)
 | 0, st => ([], st)
 | n + 1, st => ((Aa f n st).1 ++ [(f (Aa f n st).2).1], (f (Aa f n st).2).2)
def AP : Rn Int := BY 0 Jh
def A6 : Rn Bs := BY [] (Gn 4096)
def Ic : Rn Nat := BY 0 (D7 256)
def Bh {α : Type} (f : Rn α) : Rn (List α) := CJ Ic (Aa f)
def GC : Rn Ac := CJ AP fun n => CJ A6 fun s => JT (n, s)
def I9 : Rn Pt := CJ AP fun k => CJ A6 fun p => CJ A6 fun d => CJ (Bh GC) fun l => CJ AP fun o => CJ AP fun n => CJ AP fun x => JT ⟨k, p, d, BK, l, o, n, x, BK⟩
def Ub : Rn En := CJ AP fun z => CJ AP fun s => CJ AP fun x => CJ I9 fun y => CJ (Bh I9) fun l => JT ⟨z, s, x, y, l⟩
def UX (x : En × Rs) : Option En := match x with
 | (q, some []) => some q
 | _ => none
def ET (s : Bs) : Option En := UX (Ub (some s))
def Bt {α : Type} (f : Rn α) : Prop := (f none).2 = none
theorem Bt.ret {α : Type} (x : α) : Bt (JT x) := rfl
theorem Bt.run {α : Type} (d : α) (p : Pa α) : Bt (BY d p) := rfl
theorem Bt.bind {α β : Type} {f : Rn α} {g : α → Rn β} (hf : Bt f) (hg : ∀ x, Bt (g x)) : Bt (CJ f g) := by
 unfold Bt CJ
 rw [hf]; exact hg _
theorem Bt.many {α : Type} {f : Rn α} (hf : Bt f) : ∀ n, Bt (Aa f n)
 | 0 => rfl
 | n + 1 => by
  have h := Bt.many hf n
  unfold Bt at h ⊢
  show (f (Aa f n none).2).2 = none
  rw [h]; exact hf
theorem Bt.rows {α : Type} {f : Rn α} (hf : Bt f) : Bt (Bh f) := .bind (.run _ _) (.many hf)
theorem Dc : Bt GC := .bind (.run _ _) fun _ => .bind (.run _ _) fun _ => .ret _
theorem Bf : Bt I9 := .bind (.run _ _) fun _ => .bind (.run _ _) fun _ => .bind (.run _ _) fun _ => .bind (.rows Dc) fun _ => .bind (.run _ _) fun _ => .bind (.run _ _) fun _ => .bind (.run _ _) fun _ => .ret _
def CB {α : Type} (f : Rn α) (b : Bs) (x : α) : Prop := ∀ r, f (some (b ++ r)) = (x, some r) ∨ (f (some (b ++ r))).2 = none
theorem CB.bind {α β : Type} {f : Rn α} {g : α → Rn β} {b c : Bs} {x : α} {y : β} (hf : CB f b x) (hs : ∀ x, Bt (g x)) (hg : CB (g x) c y) : CB (CJ f g) (b ++ c) y := by
 intro r
 rw [append_assoc]
 rcases hf (c ++ r) with h | h
 ·unfold CJ; rw [h]; exact hg r
 ·right; unfold CJ; rw [h]; exact hs _
theorem CB.end_ {α β : Type} {f : Rn α} {g : α → β} {b : Bs} {x : α} (hf : CB f b x) : CB (CJ f fun x => JT (g x)) b (g x) := by
 intro r
 rcases hf r with h | h
 ·left; unfold CJ JT; rw [h]
 ·right; unfold CJ JT; exact h
theorem Eg {n : Int} (h : I64 n) : CB AP (Bc n) n := fun r => .inl (by unfold AP BY; dsimp only; rw [Pv h])
theorem MK {s : Bs} (h : s.length < FI) : CB A6 (Cs s) s := fun r => by
 unfold A6 BY
 dsimp only
 rcases Nat.lt_or_ge 4096 s.length with g | g
 ·right; rw [VG g h]
 ·left; rw [PO g dQ]
theorem WX {n : Nat} (h : n < FI) : CB Ic (Bp n) n := fun r => by
 unfold Ic BY
 dsimp only
 rcases Nat.lt_or_ge 256 n with g | g
 ·right; rw [Pk g h]
 ·left; rw [Lh g dQ]
theorem M5 {α : Type} {f : Rn α} {E : α → Bs} (hs : Bt f) {l : List α} (h : ∀ x ∈ l, CB f (E x) x) : ∀ i, i ≤ l.length → CB (Aa f i) ((l.take i).flatMap E) (l.take i)
 | 0, _ => by rw [take_zero]; exact fun r => .inl rfl
 | i + 1, hi => by
  have ih := M5 hs h i om
  rw [take_succ_eq_append_getElem om, flatMap_append]
  intro r
  rw [append_assoc]
  have hx := h l[i] (getElem_mem om)
  rcases ih ([l[i]].flatMap E ++ r) with g | g
  ·have e : [l[i]].flatMap E = E l[i] := by simp
   rcases hx r with k | k
   ·left
    show ((Aa f i _).1 ++ [(f (Aa f i _).2).1], (f (Aa f i _).2).2) = _
    rw [g, e, k]
   ·right
    show (f (Aa f i _).2).2 = none
    rw [g, e, k]
  ·right
   show (f (Aa f i _).2).2 = none
   rw [g]; exact hs
theorem M3 {α : Type} {f : Rn α} {E : α → Bs} (hs : Bt f) {l : List α} (hl : l.length < FI) (h : ∀ x ∈ l, CB f (E x) x) : CB (Bh f) (Bp l.length ++ l.flatMap E) l := by
 have := M5 hs h l.length (Nat.le_refl _)
 rw [take_length] at this
 exact CB.bind (WX hl) (fun n => .many hs n) this
/-! ### What may be XY -/
structure AcI (a : Ac) : Prop where
 n : I64 a.1
 s : a.2.length < FI
structure Yj (y : Pt) : Prop where
 kind : I64 y.kind
 own : I64 y.own
 num : I64 y.num
 err : I64 y.err
 path : y.path.length < FI
 data : y.data.length < FI
 many : y.acl.length < FI
 acl : ∀ a ∈ y.acl, AcI a
structure Wj (e : En) : Prop where
 zx : I64 e.zx
 ses : I64 e.ses
 xid : I64 e.xid
 x : Yj e.x
 many : e.subs.length < FI
 subs : ∀ y ∈ e.subs, Yj y
theorem YY {a : Ac} (h : AcI a) : CB GC (JN a) a :=
 CB.bind (Eg h.n) (fun _ => .bind (.run _ _) fun _ => .ret _) (CB.end_ (g := fun s => (a.1, s)) (MK h.s))
theorem Sn {y : Pt} (h : Yj y) : CB I9 (Fi y) y.pl := by
 have e : Fi y = Bc y.kind ++ (Cs y.path ++ (Cs y.data ++ (H1 y.acl ++ (Bc y.own ++ (Bc y.num ++ Bc y.err))))) := by
  unfold Fi; simp [append_assoc]
 rw [e]
 refine CB.bind (Eg h.kind) (fun _ => .bind (.run _ _) fun _ => .bind (.run _ _) fun _ => .bind (.rows Dc) fun _ => .bind (.run _ _) fun _ => .bind (.run _ _) fun _ => .bind (.run _ _) fun _ => .ret _) (CB.bind (MK h.path) (fun _ => .bind (.run _ _) fun _ => .bind (.rows Dc) fun _ => .bind (.run _ _) fun _ => .bind (.run _ _) fun _ => .bind (.run _ _) fun _ => .ret _) (CB.bind (MK h.data) (fun _ => .bind (.rows Dc) fun _ => .bind (.run _ _) fun _ => .bind (.run _ _) fun _ => .bind (.run _ _) fun _ => .ret _) (CB.bind (M3 Dc h.many fun a ha => YY (h.acl a ha)) (fun _ => .bind (.run _ _) fun _ => .bind (.run _ _) fun _ => .bind (.run _ _) fun _ => .ret _) (CB.bind (Eg h.own) (fun _ => .bind (.run _ _) fun _ => .bind (.run _ _) fun _ => .ret _) (CB.bind (Eg h.num) (fun _ => .bind (.run _ _) fun _ => .ret _) ?_)))))
 exact CB.end_ (g := fun x => (⟨y.kind, y.path, y.data, BK, y.acl, y.own, y.num, x, BK⟩ : Pt)) (Eg h.err)
theorem Yj.pl {y : Pt} (h : Yj y) : Yj y.pl := ⟨h.kind, h.own, h.num, h.err, h.path, h.data, h.many, h.acl⟩
theorem XH {e : En} (h : Wj e) : CB Ub (Bd e) e.pl := by
 have e1 : Bd e = Bc e.zx ++ (Bc e.ses ++ (Bc e.xid ++ (Fi e.x ++ (Bp (e.subs.map Pt.pl).length ++ (e.subs.map Pt.pl).flatMap Fi)))) := by
  have : Bp (e.subs.map Pt.pl).length ++ (e.subs.map Pt.pl).flatMap Fi = EP e.subs := PP e.subs
  rw [this]
  unfold Bd; simp [append_assoc]
 rw [e1]
 refine CB.bind (Eg h.zx) (fun _ => .bind (.run _ _) fun _ => .bind (.run _ _) fun _ => .bind Bf fun _ => .bind (.rows Bf) fun _ => .ret _) (CB.bind (Eg h.ses) (fun _ => .bind (.run _ _) fun _ => .bind Bf fun _ => .bind (.rows Bf) fun _ => .ret _) (CB.bind (Eg h.xid) (fun _ => .bind Bf fun _ => .bind (.rows Bf) fun _ => .ret _) (CB.bind (Sn h.x) (fun _ => .bind (.rows Bf) fun _ => .ret _) (CB.end_ (g := fun l => (⟨e.zx, e.ses, e.xid, e.x.pl, l⟩ : En)) (M3 Bf (by rw [length_map]; exact h.many) fun y hy => ?_)))))
 obtain ⟨z, hz, rfl⟩ := mem_map.1 hy
 exact Sn (h.subs z hz).pl
theorem Ot {e q : En} (h : Wj e) (hg : ET (Bd e) = some q) : q = e.pl := by
 have hb := XH h []
 rw [append_nil] at hb
 unfold ET at hg
 rcases hb with hb | hb
 ·rw [hb] at hg; exact (Option.some.inj hg).symm
 ·unfold UX at hg
  split at hg
  ·rename_i q' heq
   rw [heq] at hb; cases hb
  ·cases hg
/-! ### What is read was XY so -/
theorem bind_some {α β : Type} {f : Rn α} {g : α → Rn β} (hs : ∀ x, Bt (g x)) {st : Rs} {z : β} {r : Bs} (h : CJ f g st = (z, some r)) : ∃ y s', f st = (y, some s') ∧ g y (some s') = (z, some r) := by
 unfold CJ at h
 cases e : (f st).2 with
 | none =>
  rw [e] at h
  have := hs (f st).1
  unfold Bt at this
  rw [h] at this; cases this
 | some s' =>
  rw [e] at h
  exact ⟨(f st).1, s', by rw [← e], h⟩
theorem Ek {s r : Bs} {n : Int} (h : AP (some s) = (n, some r)) : s = Bc n ++ r ∧ I64 n := by
 unfold AP BY at h
 dsimp only at h
 split at h
 ·rename_i x hx
  simp only [Prod.mk.injEq, Option.some.injEq] at h
  obtain ⟨rfl, rfl⟩ := h
  exact Pw hx
 ·cases h
theorem L7 {s r x : Bs} (h : A6 (some s) = (x, some r)) : s = Cs x ++ r ∧ x.length ≤ 4096 := by
 unfold A6 BY at h
 dsimp only at h
 split at h
 ·rename_i y hy
  simp only [Prod.mk.injEq, Option.some.injEq] at h
  obtain ⟨rfl, rfl⟩ := h
  exact O1 hy
 ·cases h
theorem Vf {s r : Bs} {n : Nat} (h : Ic (some s) = (n, some r)) : s = Bp n ++ r ∧ n ≤ 256 := by
 unfold Ic BY at h
 dsimp only at h
 split at h
 ·rename_i y hy
  simp only [Prod.mk.injEq, Option.some.injEq] at h
  obtain ⟨rfl, rfl⟩ := h
  exact L8 hy
 ·cases h
theorem NH {α : Type} {f : Rn α} {E : α → Bs} {Q : α → Prop} (hs : Bt f) (hf : ∀ s x r, f (some s) = (x, some r) → s = E x ++ r ∧ Q x) : ∀ n s l r, Aa f n (some s) = (l, some r) → s = l.flatMap E ++ r ∧ l.length = n ∧ ∀ x ∈ l, Q x
 | 0, s, l, r, h => by
  simp only [Aa, Prod.mk.injEq, Option.some.injEq] at h
  obtain ⟨rfl, rfl⟩ := h
  exact ⟨rfl, rfl, fun x hx => by cases hx⟩
 | n + 1, s, l, r, h => by
  simp only [Aa, Prod.mk.injEq] at h
  obtain ⟨rfl, h2⟩ := h
  cases e : (Aa f n (some s)).2 with
  | none => rw [e] at h2; unfold Bt at hs; rw [hs] at h2; cases h2
  | some s' =>
   rw [e] at h2
   obtain ⟨h3, h4, h5⟩ := NH hs hf n s (Aa f n (some s)).1 s' (by rw [← e])
   obtain ⟨h6, h7⟩ := hf s' (f (some s')).1 r (by rw [← h2])
   refine ⟨?_, by simp [h4], fun x hx => ?_⟩
   ·rw [flatMap_append, append_assoc]
    simp only [flatMap_cons, flatMap_nil, append_nil]
    rw [← h6, ← h3]
   ·rcases mem_append.1 hx with hx | hx
    ·exact h5 x hx
    ·rw [mem_singleton] at hx; subst hx; exact h7
theorem Mt {α : Type} {f : Rn α} {E : α → Bs} {Q : α → Prop} (hs : Bt f) (hf : ∀ s x r, f (some s) = (x, some r) → s = E x ++ r ∧ Q x) {s : Bs} {l : List α} {r : Bs} (h : Bh f (some s) = (l, some r)) : s = Bp l.length ++ l.flatMap E ++ r ∧ l.length ≤ 256 ∧ ∀ x ∈ l, Q x := by
 obtain ⟨n, s', h1, h2⟩ := bind_some (fun n => .many hs n) h
 obtain ⟨h3, h4⟩ := Vf h1
 obtain ⟨h5, h6, h7⟩ := NH hs hf n s' l r h2
 subst h6
 exact ⟨by rw [h3, h5, append_assoc], h4, h7⟩
structure PtF (y : Pt) : Prop where
 kind : I64 y.kind
 own : I64 y.own
 num : I64 y.num
 err : I64 y.err
 path : y.path.length ≤ 4096
 data : y.data.length ≤ 4096
 many : y.acl.length ≤ 256
 acl : ∀ a ∈ y.acl, I64 a.1 ∧ a.2.length ≤ 4096
 pl : y.pl = y
structure EnF (e : En) : Prop where
 zx : I64 e.zx
 ses : I64 e.ses
 xid : I64 e.xid
 x : PtF e.x
 many : e.subs.length ≤ 256
 subs : ∀ y ∈ e.subs, PtF y
theorem XC (s : Bs) (a : Ac) (r : Bs) (h : GC (some s) = (a, some r)) : s = JN a ++ r ∧ (I64 a.1 ∧ a.2.length ≤ 4096) := by
 obtain ⟨n, s1, h1, h2⟩ := bind_some (fun _ => .bind (.run _ _) fun _ => .ret _) h
 obtain ⟨t, s2, h3, h4⟩ := bind_some (fun _ => .ret _) h2
 simp only [JT, Prod.mk.injEq, Option.some.injEq] at h4
 obtain ⟨rfl, rfl⟩ := h4
 obtain ⟨e1, i1⟩ := Ek h1
 obtain ⟨e2, i2⟩ := L7 h3
 exact ⟨by rw [e1, e2]; unfold JN; rw [append_assoc], i1, i2⟩
theorem SQ (s : Bs) (y : Pt) (r : Bs) (h : I9 (some s) = (y, some r)) : s = Fi y ++ r ∧ PtF y := by
 obtain ⟨k, s1, h1, h⟩ := bind_some (fun _ => .bind (.run _ _) fun _ => .bind (.run _ _) fun _ => .bind (.rows Dc) fun _ => .bind (.run _ _) fun _ => .bind (.run _ _) fun _ => .bind (.run _ _) fun _ => .ret _) h
 obtain ⟨p, s2, h2, h⟩ := bind_some (fun _ => .bind (.run _ _) fun _ => .bind (.rows Dc) fun _ => .bind (.run _ _) fun _ => .bind (.run _ _) fun _ => .bind (.run _ _) fun _ => .ret _) h
 obtain ⟨d, s3, h3, h⟩ := bind_some (fun _ => .bind (.rows Dc) fun _ => .bind (.run _ _) fun _ => .bind (.run _ _) fun _ => .bind (.run _ _) fun _ => .ret _) h
 obtain ⟨l, s4, h4, h⟩ := bind_some (fun _ => .bind (.run _ _) fun _ => .bind (.run _ _) fun _ => .bind (.run _ _) fun _ => .ret _) h
 obtain ⟨o, s5, h5, h⟩ := bind_some (fun _ => .bind (.run _ _) fun _ => .bind (.run _ _) fun _ => .ret _) h
 obtain ⟨n, s6, h6, h⟩ := bind_some (fun _ => .bind (.run _ _) fun _ => .ret _) h
 obtain ⟨x, s7, h7, h⟩ := bind_some (fun _ => .ret _) h
 simp only [JT, Prod.mk.injEq, Option.some.injEq] at h
 obtain ⟨rfl, rfl⟩ := h
 obtain ⟨e1, i1⟩ := Ek h1
 obtain ⟨e2, i2⟩ := L7 h2
 obtain ⟨e3, i3⟩ := L7 h3
 obtain ⟨e4, i4, j4⟩ := Mt Dc XC h4
 obtain ⟨e5, i5⟩ := Ek h5
 obtain ⟨e6, i6⟩ := Ek h6
 obtain ⟨e7, i7⟩ := Ek h7
 refine ⟨?_, ⟨i1, i5, i6, i7, i2, i3, i4, j4, rfl⟩⟩
 rw [e1, e2, e3, e4, e5, e6, e7]
 unfold Fi H1
 simp [append_assoc]
theorem XS {s : Bs} {e : En} {r : Bs} (h : Ub (some s) = (e, some r)) : s = Bd e ++ r ∧ EnF e := by
 obtain ⟨z, s1, h1, h⟩ := bind_some (fun _ => .bind (.run _ _) fun _ => .bind (.run _ _) fun _ => .bind Bf fun _ => .bind (.rows Bf) fun _ => .ret _) h
 obtain ⟨n, s2, h2, h⟩ := bind_some (fun _ => .bind (.run _ _) fun _ => .bind Bf fun _ => .bind (.rows Bf) fun _ => .ret _) h
 obtain ⟨x, s3, h3, h⟩ := bind_some (fun _ => .bind Bf fun _ => .bind (.rows Bf) fun _ => .ret _) h
 obtain ⟨y, s4, h4, h⟩ := bind_some (fun _ => .bind (.rows Bf) fun _ => .ret _) h
 obtain ⟨l, s5, h5, h⟩ := bind_some (fun _ => .ret _) h
 simp only [JT, Prod.mk.injEq, Option.some.injEq] at h
 obtain ⟨rfl, rfl⟩ := h
 obtain ⟨e1, i1⟩ := Ek h1
 obtain ⟨e2, i2⟩ := Ek h2
 obtain ⟨e3, i3⟩ := Ek h3
 obtain ⟨e4, i4⟩ := SQ _ _ _ h4
 obtain ⟨e5, i5, j5⟩ := Mt Bf SQ h5
 refine ⟨?_, ⟨i1, i2, i3, i4, i5, j5⟩⟩
 rw [e1, e2, e3, e4, e5]
 unfold Bd EP
 simp [append_assoc]
theorem Ue {s : Bs} {q : En} (h : ET s = some q) : s = Bd q ∧ EnF q := by
 unfold ET UX at h
 split at h
 ·rename_i q' heq
  cases h
  obtain ⟨h1, h2⟩ := XS heq
  exact ⟨by rw [h1, append_nil], h2⟩
 ·cases h
def Hw (w : Nat) (bs : Bs) : HP := fun h => ∃ y : Option Addr × Nat, True ∧ CG [Ar w [.slice y.1 bs.length y.2, AA 0] 209, EN (.slice y.1 bs.length y.2) bs] h
def Je (r : Nat) (s : Bs) (at' : Nat) (e : Int) : HP := fun h => ∃ y : Nat × Nat, (at' ≤ s.length ∧ s.length ≤ 70368744177664) ∧ CG [Ar r [.slice (some ⟨y.1, 0, none⟩) s.length y.2, AA at', AA e] 226, EN (.slice (some ⟨y.1, 0, none⟩) s.length y.2) s] h
def ER (s : Bs) (at' : Nat) (e : Int) : Rs := if e = 0 then some (s.drop at') else none
def Hq (r : Nat) (st : Rs) : HP := fun h => ∃ y : Bs × (Nat × Int), ER y.1 y.2.1 y.2.2 = st ∧ CG [Je r y.1 y.2.1 y.2.2] h
section
variable {P : Program} {W : World} {n : Nat} {ds : List Deferred} {E : By} {L R : List HP} {X : Act → World → Prop}
theorem G.wrOpen {w : Nat} {bs : Bs} (hL : BT (Hw w bs) L R) (h : ∀ a c, G W n ds E (Ar w [.slice a bs.length c, AA 0] 209 :: EN (.slice a bs.length c) bs :: R) X) : G W n ds E L X :=
 G.focus hL (G.open (q := fun y : Option Addr × Nat => [Ar w [.slice y.1 bs.length y.2, AA 0] 209, EN (.slice y.1 bs.length y.2) bs]) (φ := fun _ => True) (fun _ hp => hp) fun y _ => h y.1 y.2)
theorem G.wrFold {w : Nat} (bs : Bs) {l xs : List Value} {a : Option Addr} {c m : Nat} (hL : Am [Ar w l 209, AV 5 1 (.slice a m c) m xs] L R) (hl : l = [.slice a m c, AA 0]) (hm : m = bs.length) (hx : xs = A4 bs) (h : G W n ds E (Hw w bs :: R) X) : G W n ds E L X := by
 subst hl; subst hm; subst hx
 exact G.fold hL (fun _ hp => ⟨(a, c), trivial, hp⟩) h
theorem G.rdOpen {r : Nat} {s : Bs} {k : Nat} {e : Int} (hL : BT (Je r s k e) L R) (h : ∀ a c, k ≤ s.length → s.length ≤ 70368744177664 → G W n ds E (Ar r [.slice (some ⟨a, 0, none⟩) s.length c, AA k, AA e] 226 :: EN (.slice (some ⟨a, 0, none⟩) s.length c) s :: R) X) : G W n ds E L X :=
 G.focus hL (G.open (q := fun y : Nat × Nat => [Ar r [.slice (some ⟨y.1, 0, none⟩) s.length y.2, AA k, AA e] 226, EN (.slice (some ⟨y.1, 0, none⟩) s.length y.2) s]) (φ := fun _ => k ≤ s.length ∧ s.length ≤ 70368744177664) (fun _ hp => hp) fun y hy => h y.1 y.2 hy.1 hy.2)
theorem G.rdFold {r : Nat} (s : Bs) (k : Nat) (e : Int) {l : List Value} {a c : Nat} (hL : Am [Ar r l 226, EN (.slice (some ⟨a, 0, none⟩) s.length c) s] L R) (hl : l = [.slice (some ⟨a, 0, none⟩) s.length c, AA k, AA e]) (hk : k ≤ s.length) (hs : s.length ≤ 70368744177664) (h : G W n ds E (Je r s k e :: R) X) : G W n ds E L X := by
 subst hl
 exact G.fold hL (fun _ hp => ⟨(a, c), ⟨hk, hs⟩, hp⟩) h
theorem Fn.rdUp {f : FuncId} {args : Array Value} {r : Nat} {α : Type} {d : α} {p : Pa α} {v : α → Value} (h : ∀ s k e, Fn P f args [Je r s k e] fun u L => ∃ k' e', ER s k' e' = (BY d p (ER s k e)).2 ∧ u = v (BY d p (ER s k e)).1 ∧ L = [Je r s k' e']) (st : Rs) :
  Fn P f args [Hq r st] fun u L => u = v (BY d p st).1 ∧ L = [Hq r (BY d p st).2] := by
 intro F w hs
 obtain ⟨h1, h2, hd, a1, a2, ⟨y, hy, hp⟩, hF⟩ := hs
 subst hy
 have hs' : St ([Je r y.1 y.2.1 y.2.2] ++ F) w := FQ ⟨h1, h2, hd, a1, a2, hp, hF⟩
 refine (h _ _ _ F w hs').mono ?_
 rintro e w' ⟨u, L, ⟨k', e', h3, rfl, rfl⟩, he, hs2, hk⟩
 refine ⟨_, _, ⟨rfl, rfl⟩, he, BS (fun hh hq => ⟨(y.1, (k', e')), h3, hh, fun _ => none, fun _ => .inr rfl, fun _ _ e => e, fun _ _ e => (by cases e), hq, trivial⟩) hs2, hk⟩
theorem Fn.rdEnd {f : FuncId} {args : Array Value} {r : Nat} (h : ∀ s k e, Fn P f args [Je r s k e] fun u L => ∃ e1, (e1 = 0 ↔ ER s k e = some []) ∧ u = AA e1 ∧ L = [Je r s k e1]) (st : Rs) :
  Fn P f args [Hq r st] fun u L => ∃ e1, (e1 = 0 ↔ st = some []) ∧ u = AA e1 ∧ ∃ st', L = [Hq r st'] := by
 intro F w hs
 obtain ⟨h1, h2, hd, a1, a2, ⟨y, hy, hp⟩, hF⟩ := hs
 subst hy
 have hs' : St ([Je r y.1 y.2.1 y.2.2] ++ F) w := FQ ⟨h1, h2, hd, a1, a2, hp, hF⟩
 refine (h _ _ _ F w hs').mono ?_
 rintro e w' ⟨u, L, ⟨e1, h3, rfl, rfl⟩, he, hs2, hk⟩
 refine ⟨_, _, ⟨e1, h3, rfl, _, rfl⟩, he, BS (fun hh hq => ⟨(y.1, (y.2.1, e1)), rfl, hh, fun _ => none, fun _ => .inr rfl, fun _ _ e => e, fun _ _ e => (by cases e), hq, trivial⟩) hs2, hk⟩
theorem Zq {r : Nat} {s : Bs} {k : Nat} {e : Int} {h : Hp} (hp : CG [Je r s k e] h) : Hq r (ER s k e) h := ⟨(s, (k, e)), rfl, hp⟩
theorem G.rdUpF {r : Nat} {s : Bs} {k : Nat} {e : Int} {st : Rs} (hL : BT (Je r s k e) L R) (hs : ER s k e = st) (h : G W n ds E (Hq r st :: R) X) : G W n ds E L X := by
 subst hs; exact G.fold (.cons hL .nil) (fun _ hp => Zq hp) h
end
theorem X8 {b i j c : Nat} {s : Bs} {h : Hp} (hi : i ≤ j) (hj : j ≤ s.length) (hp : EN (.slice (some ⟨b, 0, none⟩) s.length c) s h) : B5 1 h (.slice (some (if c = i then ⟨b, 0, none⟩ else ⟨b, 0 + i * 1, none⟩)) (j - i) (c - i)) ((s.take j).drop i).length (((s.take j).drop i).map Bx) := by
 obtain ⟨⟨rest, fr⟩, h1, h2, h3, h4, h5⟩ := Nf hp
 have hl : ((s.take j).drop i).length = j - i := by rw [length_drop, length_take]; omega
 rcases Nat.lt_or_ge i j with g | g
 ·refine .inr ⟨b, i, c - i, A4 s ++ rest, 5, fr, ?_, h1, ?_, ?_, by omega⟩
  ·rw [if_neg om, hl]; simp
  ·rw [hl, Nat.mul_one, drop_append_of_le_length (by simp [A4]; omega), take_append_of_le_length (by simp [A4]; omega)]
   unfold A4
   rw [← map_drop, ← map_take, drop_take]
  ·rw [hl]; simp [A4]; omega
 ·refine .inl ⟨by omega, ?_, ?_⟩
  ·rw [drop_eq_nil_of_le (by rw [length_take]; omega)]; rfl
  ·rw [show j - i = 0 by omega]; exact ⟨_, _, rfl⟩
/-! ### Bits -/
theorem B0 (x : Int) : IntKind.u64.wrap x = x % 18446744073709551616 := rfl
theorem OU (x : Int) : IntKind.u8.wrap x = x % 256 := rfl
theorem Y7 : ∀ b : BitVec 8, (b ||| 128#8).toNat = b.toNat % 128 + 128 := by decide +kernel
theorem YN (u : Nat) : Value.int .u8 (IntKind.u8.wrap (BitVec.ofInt IntKind.u8.bits (IntKind.u8.wrap (u : Int)) ||| BitVec.ofInt IntKind.u8.bits 128).toNat) = Bx (UInt8.ofNat (u % 128 + 128)) := by
 show Value.int .u8 _ = Value.int .u8 _
 congr 1
 have h : (BitVec.ofInt 8 (IntKind.u8.wrap (u : Int)) ||| BitVec.ofInt 8 128).toNat = u % 128 + 128 := by
  rw [show BitVec.ofInt 8 128 = 128#8 from rfl, Y7, BitVec.toNat_ofInt, OU]
  omega
 show IntKind.u8.wrap ((BitVec.ofInt 8 (IntKind.u8.wrap (u : Int)) ||| BitVec.ofInt 8 128).toNat : Int) = _
 rw [h, OU, HQ om]
 omega
theorem Vz {u : Nat} (h : u < 128) : Value.int .u8 (IntKind.u8.wrap (u : Int)) = Bx (UInt8.ofNat u) := by
 show Value.int .u8 _ = Value.int .u8 _
 rw [OU, HQ om]
 congr 1; omega
theorem Ve {n : Int} (h : -9223372036854775808 ≤ n ∧ n ≤ 9223372036854775807) : IntKind.u64.wrap (BitVec.ofInt IntKind.u64.bits (IntKind.u64.wrap (IntKind.u64.wrap n * 2 ^ min (1 : Int).toNat IntKind.u64.bits)) ^^^ BitVec.ofInt IntKind.u64.bits (IntKind.u64.wrap (n.fdiv (2 ^ min (63 : Int).toNat IntKind.i64.bits)))).toNat = (Hx n : Int) := by
 have e1 : (2 : Int) ^ min (1 : Int).toNat IntKind.u64.bits = 2 := rfl
 have e2 : (2 : Int) ^ min (63 : Int).toNat IntKind.i64.bits = 9223372036854775808 := rfl
 rw [e1, e2, Int.fdiv_eq_ediv_of_nonneg _ dQ]
 show IntKind.u64.wrap ((BitVec.ofInt 64 (IntKind.u64.wrap (IntKind.u64.wrap n * 2)) ^^^ BitVec.ofInt 64 (IntKind.u64.wrap (n / 9223372036854775808))).toNat : Int) = _
 unfold Hx
 by_cases h0 : 0 ≤ n
 ·rw [if_pos h0, show n / 9223372036854775808 = 0 by omega, show BitVec.ofInt 64 (IntKind.u64.wrap 0) = 0#64 from rfl, BitVec.xor_zero, BitVec.toNat_ofInt, B0, B0, B0]
  omega
 ·rw [if_neg h0, show n / 9223372036854775808 = -1 by omega, show BitVec.ofInt 64 (IntKind.u64.wrap (-1)) = BitVec.allOnes 64 from rfl, BitVec.xor_allOnes, BitVec.toNat_not, BitVec.toNat_ofInt, B0, B0, B0]
  omega
theorem Vr (u : Nat) : IntKind.u64.wrap (BitVec.ofInt IntKind.u64.bits (u : Int) &&& BitVec.ofInt IntKind.u64.bits 1).toNat = ((u % 2 : Nat) : Int) := by
 show IntKind.u64.wrap ((BitVec.ofInt 64 (u : Int) &&& BitVec.ofInt 64 1).toNat : Int) = _
 have h : (BitVec.ofInt 64 (u : Int) &&& BitVec.ofInt 64 1).toNat = u % 2 := by
  rw [BitVec.toNat_and, show (BitVec.ofInt 64 1).toNat = 1 from rfl, Nat.and_one_is_mod, BitVec.toNat_ofInt]
  have e : ((2 ^ 64 : Nat) : Int) = 18446744073709551616 := rfl
  rw [e]; omega
 rw [h, B0]; omega
theorem VE {u : Nat} (h : u < FI) : IntKind.i64.wrap (BitVec.ofInt IntKind.i64.bits (IntKind.i64.wrap ((u : Int).fdiv (2 ^ min (1 : Int).toNat IntKind.u64.bits))) ^^^ BitVec.ofInt IntKind.i64.bits (-((u % 2 : Nat) : Int))).toNat = KX u := by
 have e1 : (2 : Int) ^ min (1 : Int).toNat IntKind.u64.bits = 2 := rfl
 have e64 : ((2 ^ 64 : Nat) : Int) = 18446744073709551616 := rfl
 unfold FI at h
 rw [e1, Int.fdiv_eq_ediv_of_nonneg _ dQ]
 show IntKind.i64.wrap ((BitVec.ofInt 64 (IntKind.i64.wrap ((u : Int) / 2)) ^^^ BitVec.ofInt 64 (-((u % 2 : Nat) : Int))).toNat : Int) = _
 have e3 : IntKind.i64.wrap ((u : Int) / 2) = (u : Int) / 2 := I5 om
 rw [e3]
 unfold KX
 by_cases h0 : u % 2 = 0
 ·rw [if_pos h0, h0, show BitVec.ofInt 64 (-((0 : Nat) : Int)) = 0#64 from rfl, BitVec.xor_zero, BitVec.toNat_ofInt, N3, e64]
  omega
 ·rw [if_neg h0, show u % 2 = 1 by omega, show BitVec.ofInt 64 (-((1 : Nat) : Int)) = BitVec.allOnes 64 from rfl, BitVec.xor_allOnes, BitVec.toNat_not, BitVec.toNat_ofInt, N3, e64]
  omega
theorem W7 : ∀ b : BitVec 8, (b &&& 127#8).toNat = b.toNat % 128 := by decide +kernel
theorem Vx (c : UInt8) : IntKind.u64.wrap (IntKind.u8.wrap (BitVec.ofInt IntKind.u8.bits (c.toNat : Int) &&& BitVec.ofInt IntKind.u8.bits 127).toNat) = ((c.toNat % 128 : Nat) : Int) := by
 have hc := c.toNat_lt
 have h : (BitVec.ofInt 8 (c.toNat : Int) &&& BitVec.ofInt 8 127).toNat = c.toNat % 128 := by
  rw [show BitVec.ofInt 8 127 = 127#8 from rfl, W7, BitVec.toNat_ofInt]
  have e : ((2 ^ 8 : Nat) : Int) = 256 := rfl
  rw [e]; omega
 show IntKind.u64.wrap (IntKind.u8.wrap ((BitVec.ofInt 8 (c.toNat : Int) &&& BitVec.ofInt 8 127).toNat : Int)) = _
 rw [h, OU, B0]; omega
theorem Zl (k : Nat) : (2 : Nat) ^ (7 * k) = 128 ^ k := by rw [Nat.pow_mul]
theorem VJ {k u x : Nat} (hk : k ≤ 9) (hu : u < 128 ^ k) (hx : x < 128) (h9 : k = 9 → x ≤ 1) :
  IntKind.u64.wrap (BitVec.ofInt IntKind.u64.bits (u : Int) ||| BitVec.ofInt IntKind.u64.bits (IntKind.u64.wrap ((x : Int) * 2 ^ min (7 * (k : Int)).toNat IntKind.u64.bits))).toNat = ((u + x * 128 ^ k : Nat) : Int) := by
 have em : min (7 * (k : Int)).toNat IntKind.u64.bits = 7 * k := by
  have : IntKind.u64.bits = 64 := rfl
  omega
 have hb : x * 128 ^ k < 18446744073709551616 := by
  rcases Nat.lt_or_ge k 9 with g | g
  ·have h4 : 128 ^ k ≤ 128 ^ 8 := Nat.pow_le_pow_right dQ om
   have e8 : (128 : Nat) ^ 8 = 72057594037927936 := by decide
   have : x * 128 ^ k ≤ 127 * 128 ^ 8 := Nat.mul_le_mul om h4
   omega
  ·have : k = 9 := by omega
   subst this
   have := h9 rfl
   have e9 : (128 : Nat) ^ 9 = 9223372036854775808 := by decide
   have : x * 128 ^ 9 ≤ 1 * 128 ^ 9 := Nat.mul_le_mul_right _ om
   omega
 have hu64 : u < 18446744073709551616 := by
  have h4 : 128 ^ k ≤ 128 ^ 9 := Nat.pow_le_pow_right dQ hk
  have e9 : (128 : Nat) ^ 9 = 9223372036854775808 := by decide
  omega
 have hs : u + x * 128 ^ k < 18446744073709551616 := by
  rcases Nat.lt_or_ge k 9 with g | g
  ·have h4 : 128 ^ (k + 1) ≤ 128 ^ 9 := Nat.pow_le_pow_right dQ om
   have e9 : (128 : Nat) ^ 9 = 9223372036854775808 := by decide
   have : x * 128 ^ k ≤ 127 * 128 ^ k := Nat.mul_le_mul_right _ om
   rw [Nat.pow_succ] at h4
   omega
  ·have : k = 9 := by omega
   subst this
   have := h9 rfl
   have e9 : (128 : Nat) ^ 9 = 9223372036854775808 := by decide
   have : x * 128 ^ 9 ≤ 1 * 128 ^ 9 := Nat.mul_le_mul_right _ om
   omega
 rw [em]
 have e2 : (x : Int) * 2 ^ (7 * k) = ((x * 128 ^ k : Nat) : Int) := by
  rw [← Zl]; simp
 have e4 : IntKind.u64.wrap ((x * 128 ^ k : Nat) : Int) = ((x * 128 ^ k : Nat) : Int) := by rw [B0]; exact Int.emod_eq_of_lt om om
 rw [e2, e4]
 show IntKind.u64.wrap ((BitVec.ofInt 64 (u : Int) ||| BitVec.ofInt 64 ((x * 128 ^ k : Nat) : Int)).toNat : Int) = _
 have e3 : (BitVec.ofInt 64 (u : Int) ||| BitVec.ofInt 64 ((x * 128 ^ k : Nat) : Int)).toNat = u + x * 128 ^ k := by
  have e64 : ((2 ^ 64 : Nat) : Int) = 18446744073709551616 := rfl
  have f1 : (BitVec.ofInt 64 (u : Int)).toNat = u := by rw [BitVec.toNat_ofInt, e64]; omega
  have f2 : (BitVec.ofInt 64 ((x * 128 ^ k : Nat) : Int)).toNat = x * 128 ^ k := by rw [BitVec.toNat_ofInt, e64]; omega
  rw [BitVec.toNat_or, f1, f2, Nat.or_comm, ← Zl, ← Nat.shiftLeft_eq, ← Nat.shiftLeft_add_eq_or_of_lt (by rw [Zl]; exact hu), Nat.add_comm]
 rw [e3, B0]
 omega
def FEq (P : Program) (d : Nat) (xs ys : Array Value) (f : Field) (r : Bool) : Prop :=
 f.name ≠ "_" ∧ ∀ w, ∃ a b, (part f.type xs f.offset).run P w = .ok a w ∧ (part f.type ys f.offset).run P w = .ok b w ∧ (Op.equalIn d f.type a b).run P w = .ok r w
inductive Z4 (P : Program) (d : Nat) (xs ys : Array Value) : List Field → List Bool → Prop
 | nil : Z4 P d xs ys [] []
 | cons {f fs r rs} : FEq P d xs ys f r → Z4 P d xs ys fs rs → Z4 P d xs ys (f :: fs) (r :: rs)
section parts
variable {P : Program} {w : World}
end parts
section
variable {P : Program} {E : By} {L R : List HP} {ty : TypeId} {w : World}
end
/-! ### Structs of bigger parts -/
def Su (P : Program) (fs : Array Field) : Option (List (Nat × Nat)) := fs.toList.mapM fun f => (P.info? f.type).map fun i => (f.offset, i.size)
theorem OA {P : Program} {fs : Array Field} {pl : List (Nat × Nat)} (h : Su P fs = some pl) (w : World) : (fs.mapM (m := Sem) fun f => do pure (f.offset, ← sizeOf f.type)).run P w = .ok pl.toArray w := by
 have key : ∀ (l : List Field) (pl : List (Nat × Nat)), (l.mapM fun f => (P.info? f.type).map fun i => (f.offset, i.size)) = some pl → (l.mapM (m := Sem) fun f => do pure (f.offset, ← sizeOf f.type)).run P w = .ok pl w := by
  intro l
  induction l with
  | nil => intro pl h; simp at h; subst h; rfl
  | cons f l ih =>
   intro pl h
   rw [mapM_cons] at h
   simp only [bind, Option.bind_eq_some_iff, pure, Option.some.injEq, Option.map_eq_some_iff] at h
   obtain ⟨a, ⟨i, hi, rfl⟩, bs, hb, rfl⟩ := h
   rw [mapM_cons]
   have h2 : Ai P f.type = some i.size := by unfold Ai; rw [hi]; rfl
   rw [run_bind (a := (f.offset, i.size)) (w' := w) (by rw [run_bind (Bn h2)]; rfl), run_bind (ih bs hb)]
   rfl
 have hm : (fs.mapM (m := Sem) fun f => do pure (f.offset, ← sizeOf f.type)) = (Functor.map List.toArray (fs.toList.mapM (m := Sem) fun f => do pure (f.offset, ← sizeOf f.type))) := by
  rw [Array.mapM_eq_mapM_toList]
 rw [hm]
 rw [show (Functor.map List.toArray (fs.toList.mapM (m := Sem) fun f => do pure (f.offset, ← sizeOf f.type)) : Sem _) = ((fs.toList.mapM (m := Sem) fun f => do pure (f.offset, ← sizeOf f.type)) >>= fun l => pure l.toArray) from rfl]
 rw [run_bind (key _ _ h)]
 rfl
theorem AH.buildN {P : Program} {E : By} {L : List HP} {ty : TypeId} {t : TypeId} {parts : Array (Nat × Operand)} {fs : Array Field} {pl : List (Nat × Nat)} {zl cells : List Value} {us : List (Nat × Value)} (hus : P.underlying t = some (.struct fs)) (hpl : Su P fs = some pl) (hz : Av P t = some (.agg zl.toArray))
  (hu : parts.toList.map (fun p => (p.1, ev E p.2)) = us.map (fun p => (p.1, some p.2))) (hfill : Instr.fill (fun i => pl.toArray[i]?) zl.toArray us = some cells.toArray) : AH P ⟨none, .build t parts, ty, "", #[], none⟩ E L (.agg cells.toArray) := by
 intro ρ w ha _
 refine Ct ?_
 show (Instr.build t (parts.map fun p => (p.1, ρ p.2))).run P w = _
 unfold Instr.build
 rw [run_bind (El hz)]
 dsimp only
 rw [run_bind (AJ hus)]
 dsimp only
 rw [run_bind (OA hpl w)]
 have hparts : (parts.map fun p => (p.1, ρ p.2)).toList = us := by
  rw [Array.toList_map]; exact HD ha _ _ hu
 rw [hparts]
 rw [show Value.cells (.agg zl.toArray) = zl.toArray from rfl, hfill]
 rfl
/-! ### Keys -/
theorem Mu : Fn prog 101 #[] [] fun v L => ∃ w, v = AG w ∧ L = [Hw w []] := by
 refine Fn.intro func101 Y Y fun F W => ?_
 refine .sr (.an Y (.sr (.q (.to (v' := .agg [.slice none 0 0, AA 0].toArray) (.buildN (pl := [(0, 2)]) (us := []) (cells := [.slice none 0 0, AA 0]) underlying209 kQ Zm Y Y) Y) Y (.oq (.box Y) ?_))))
 rintro v L' ⟨w, rfl, rfl⟩
 refine .an Y (.ret (.add (Ak 5 1) (.wrFold (w := w) [] (a := none) (c := 0) (m := 0) O Y Y Y ?_)))
 exact .dn Y Y ⟨w, Y, Y⟩
theorem Jn (w : Nat) (bs cs : Bs) (va : Value) (p : HP) (hp : ∀ h : Hp, p h → B5 1 h va cs.length (A4 cs)) (hl : bs.length + cs.length ≤ 70368744177664) : Fn prog 176 #[AG w, va] [Hw w bs, p] fun v L => v = .tuple #[] ∧ L = [Hw w (bs ++ cs), p] := by
 refine Fn.intro func176 Y Y fun F W => ?_
 refine .wrOpen O fun wa wc => (.region (.m Y (.m Y (.nf Y GR (.u (.ld Y GB) (.m Y (.oq (.append (n := bs.length) (m := cs.length) (ys := A4 cs) (p := p) Y Y Y A8 (.inl ⟨_, underlying133⟩) Fo Y Y ?hc7 hp ?hb8 dQ) ?_)))))))
 case hc7 => exact EV _
 case hb8 => omega
 rintro v L' ⟨⟨a6, c6, rfl⟩, rfl⟩
 refine .nf Y GR (.st Y Y Y Ql ?_)
 refine .nil (.done_n (.wrFold (w := w) (bs ++ cs) (a := a6) (c := c6) O (by rfl) (by simp) (by rw [Cu]) ?_))
 exact .vv
theorem VX {u : Nat} (h : 127 < u) (bs : Bs) : bs ++ [UInt8.ofNat (u % 128 + 128)] ++ DK (u / 128) = bs ++ DK u := by
 rw [DK.eq_1 u, if_neg om, append_assoc]; rfl
theorem V4 {u : Nat} (h : ¬ 127 < u) (bs : Bs) : bs ++ [UInt8.ofNat u] = bs ++ DK u := by
 rw [DK.eq_1 u, if_pos om]
theorem AAn (u : Nat) : Value.int .u64 ((u : Int).fdiv (2 ^ min (7 : Int).toNat IntKind.u64.bits)) = .int .u64 ((u / 128 : Nat) : Int) := by
 have e1 : (2 : Int) ^ min (7 : Int).toNat IntKind.u64.bits = 128 := rfl
 rw [e1, Int.fdiv_eq_ediv_of_nonneg _ dQ]; rfl
theorem Im (w : Nat) (bs0 : Bs) (u0 : Nat) (hu : u0 < FI) (hl : bs0.length ≤ 70368744177568) : Fn prog 149 #[AG w, .int .u64 u0] [Hw w bs0] fun v L => v = .tuple #[] ∧ L = [Hw w (bs0 ++ DK u0)] := by
 refine Fn.intro func149 Y Y fun F W => ?_
 have hs10 := DB hu
 refine .seq (.block (.loopK (ι := Nat × Bs) (fun q E => (1, .int .u64 q.1) :: E) (fun q => [Hw w q.2]) (fun q => q.1 ≤ u0 ∧ q.2 ++ DK q.1 = bs0 ++ DK u0) (fun q => q.1) (u0, bs0) (ts := [0]) O (⟨Nat.le_refl _, Y⟩) O O ?_))
 rintro ⟨u, bs⟩ ⟨hu0, heq⟩
 dsimp only
 dsimp only at hu0 heq
 have hbl := congrArg List.length heq
 simp only [length_append] at hbl
 have hsl := Sx u
 refine .seq (.sm Y (.ui Y Y Y (.nt (.condD Y (fun h5 => ?_) (fun h5 => ?_)))))
 ·have h127 : 127 < u := by omega
  refine .sk (.seq (.block (.region (.m Y (.nf Y I0 (.m Y (.q (.conv Y underlying193 underlying5) Y (.q (.as (v' := Bx (UInt8.ofNat (u % 128 + 128))) (by exact YN u) (.or Y Y)) Y (.oq (.buildSlice1 (vs := [_]) A8 Fo Y Y Y Y Y dQ) ?_)))))))))
  rintro v L' ⟨b2, rfl, rfl⟩
  refine .slMake (b := b2) (n := 1) (c := 1) (xs := [Bx (UInt8.ofNat (u % 128 + 128))]) O dQ (by simp) Y (.oq (.call func176 Y Y (vs := [_, _]) Y (Jn w bs [(UInt8.ofNat (u % 128 + 128))] _ (AV 5 1 (.slice (some ⟨b2, 0, none⟩) 1 1) 1 [Bx (UInt8.ofNat (u % 128 + 128))]) (fun h hp => AE hp) (by simp; omega))) ?_)
  rintro v L' ⟨rfl, rfl⟩
  refine .nil (.blk_n (.then_n (.region (.m Y (.q (.as (v' := .int .u64 ((u / 128 : Nat) : Int)) (by exact AAn u) (.shr Y Y (by first | decide | omega))) Y (.an Y ?_))))))
  exact .rk ((u / 128, bs ++ [(UInt8.ofNat (u % 128 + 128))])) (⟨by dsimp only; omega, by dsimp only; rw [VX om]; exact heq⟩) (by dsimp only; omega) O
 have h127 : ¬ 127 < u := by omega
 refine .xe (.region (.m Y (.nf Y I0 (.m Y (.q (.as (v' := Bx (UInt8.ofNat u)) (by exact Vz om) (.conv Y underlying193 underlying5)) Y (.oq (.buildSlice1 (vs := [_]) A8 Fo Y Y Y Y Y dQ) ?_))))))
 rintro v L' ⟨b3, rfl, rfl⟩
 refine .slMake (b := b3) (n := 1) (c := 1) (xs := [Bx (UInt8.ofNat u)]) O dQ (by simp) Y (.oq (.call func176 Y Y (vs := [_, _]) Y (Jn w bs [(UInt8.ofNat u)] _ (AV 5 1 (.slice (some ⟨b3, 0, none⟩) 1 1) 1 [Bx (UInt8.ofNat u)]) (fun h hp => AE hp) (by simp; omega))) ?_)
 rintro v L' ⟨rfl, rfl⟩
 refine .nil (.done_n ?_)
 rw [V4 h127, heq]
 exact .vv
theorem Hs (w : Nat) (bs : Bs) (n : Int) (hn : -9223372036854775808 ≤ n ∧ n ≤ 9223372036854775807) (hl : bs.length ≤ 70368744177568) : Fn prog 102 #[AG w, AA n] [Hw w bs] fun v L => v = .tuple #[] ∧ L = [Hw w (bs ++ Bc n)] := by
 refine Fn.intro func102 Y Y fun F W => ?_
 have hz := Jl hn
 refine .region (.m Y (.m Y (.q (.conv Y underlying3 underlying193) Y (.q (.shl Y Y (by first | decide | omega)) Y (.m Y (.q (.shr Y Y (by first | decide | omega)) Y (.q (.conv Y underlying3 underlying193) Y (.q (.as (v' := .int .u64 (Hx n : Nat)) (by exact congrArg (Value.int .u64) (Ve hn)) (.xor Y Y)) Y (.oq (.c func149 [_, _] (Im _ _ _ ?hu9 ?hl10)) ?_)))))))))
 case hu9 => assumption
 case hl10 => omega
 rintro v L' ⟨rfl, rfl⟩
 refine .nil (.done_n ?_)
 exact .vv
theorem F4 (w : Nat) (bs : Bs) (n : Nat) (hn : n ≤ 70368744177664) (hl : bs.length ≤ 70368744177568) : Fn prog 103 #[AG w, AA n] [Hw w bs] fun v L => v = .tuple #[] ∧ L = [Hw w (bs ++ Bp n)] := by
 refine Fn.intro func103 Y Y fun F W => ?_
 have hz : n < FI := by unfold FI; omega
 refine .region (.m Y (.m Y (.u (.max2 Y Y) (.q (.as (v' := .int .u64 (n : Nat)) (by exact congrArg (Value.int .u64) (by rw [B0]; omega)) (.conv Y underlying3 underlying193)) Y (.oq (.c func149 [_, _] (Im _ _ _ ?hu5 ?hl6)) ?_)))))
 case hu5 => assumption
 case hl6 => omega
 rintro v L' ⟨rfl, rfl⟩
 refine .nil (.done_n ?_)
 exact .vv
theorem If (w : Nat) (bs s : Bs) (hl : bs.length + s.length ≤ 70368744177368) : Fn prog 177 #[AG w, AU s] [Hw w bs] fun v L => v = .tuple #[] ∧ L = [Hw w (bs ++ Cs s)] := by
 refine Fn.intro func177 Y Y fun F W => ?_
 have hc : (Bp s.length).length ≤ 10 := DB (by unfold FI; omega)
 refine .sm Y (.m Y (.q (.strlen Y underlying9 Y) Y (.oq (.c func103 [_, _] (F4 _ _ _ ?hn4 ?hb5)) ?_)))
 case hn4 => first | assumption | omega
 case hb5 => omega
 rintro v L' ⟨rfl, rfl⟩
 refine .nt (.region (.m Y (.nf Y I0 (.m Y (.oq (.strBytes Y underlying9 underlying133 underlying5) ?_)))))
 rintro v L' ⟨rfl, b8, c8, rfl⟩
 refine .oq (.call func176 Y Y (vs := [_, _]) Y (Jn w (bs ++ Bp s.length) s _ (AV 5 1 (.slice (some ⟨b8, 0, none⟩) s.length c8) s.length (s.map Bx)) (fun h hp => AE hp) (by simp; omega))) ?_
 rintro v L' ⟨rfl, rfl⟩
 refine .nil (.done_n ?_)
 rw [append_assoc]
 exact .vv
theorem KM (w : Nat) (bs : Bs) : Fn prog 104 #[AG w] [Hw w bs] fun v L => v = AU bs ∧ L = [Hw w bs] := by
 refine Fn.intro func104 Y Y fun F W => ?_
 refine .wrOpen O fun wa wc => (.sr (.an Y (.sm Y (.nf Y I0 (.fa Y GR (.u (.ld Y GB) (.q (.bytesBy (cs := bs) (n := bs.length) (p := EN (.slice wa bs.length wc) bs) Y underlying133 underlying5 underlying9 (fun h hp => AE hp) O) Y (.an Y (.ret (.wrFold (w := w) bs O Y Y Y ?_))))))))))
 exact .vv
theorem IW (r : Nat) (s : Bs) (k : Nat) (e : Int) : Fn prog 167 #[AG r] [Je r s k e] fun v L => v = AA ((s.length : Int) - k) ∧ L = [Je r s k e] := by
 refine Fn.intro func167 Y Y fun F W => ?_
 refine .rdOpen O fun ra rc hkl hsz => (.sr (.an Y (.seq (.draw [] [[0, 1, 2, 3, 4, 5, 6, 7, 8, 9, 10]] mixed kQ (.g0 (.mv Y Y (.nf Y Y Y GR (.kv Y (.ld Y GB) (.kv Y (.slen Y underlying133 Y) (.mv Y Y (.nf Y Y Y C6 (.kv Y (.ld Y AF) (.kv Y (.sub Y Y om) (.kv Y (.assign Y) (.pf (.ret (.rdFold (r := r) s (k) (e) O (by first | rfl | (simp only [List.set]; congr; omega)) om hsz ?_)))))))))))))))))
 exact .vv
theorem Ex (r : Nat) (s : Bs) (k : Nat) (e e' : Int) : Fn prog 184 #[AG r, AA e'] [Je r s k e] fun v L => v = .tuple #[] ∧ L = [Je r s k (if e = 0 then e' else e)] := by
 refine Fn.intro func184 Y Y fun F W => ?_
 refine .rdOpen O fun ra rc hkl hsz => (.sm Y (.nf Y GS (.u (.ld Y Bj) (.ui Y Y Y (.nt (.condD Y (fun h8 => ?_) (fun h8 => ?_)))))))
 ·refine .region (.m Y (.m Y (.nf Y GS (.st Y Y Y CD ?_))))
  refine .nil (.done_n (.rdFold (r := r) s (k) (if e = 0 then e' else e) O (by rw [if_pos h8]; rfl) om hsz ?_))
  exact .vv
 refine .skip (.done_n (.rdFold (r := r) s (k) (if e = 0 then e' else e) O (by rw [if_neg h8]) om hsz ?_))
 exact .vv
theorem Ra (r : Nat) (s : Bs) (k : Nat) (e : Int) : Fn prog 168 #[AG r] [Je r s k e] fun v L => v = .tuple #[] ∧ L = [Je r s k (if e = 0 then 11 else e)] := by
 refine Fn.intro func168 Y Y fun F W => ?_
 refine .region (.m Y (.cv func184 [_, _] (Ex _ _ _ _ _) ?_))
 refine .nil (.done_n ?_)
 exact .vv
def K7 (s : Bs) (k : Nat) (e : Int) (u m : Nat) (e' : Int) : Prop :=
 ((e ≠ 0 ∨ Ez 0 0 (s.drop k) = none) ∧ u = 0 ∧ m = 0 ∧ e' ≠ 0) ∨ (e = 0 ∧ e' = 0 ∧ k + m ≤ s.length ∧ Ez 0 0 (s.drop k) = some (u, s.drop (k + m)))
def Y4 (k : Nat) (c : UInt8) : Prop := (k = 9 ∧ 1 < c.toNat) ∨ (c.toNat = 0 ∧ 0 < k)
instance (k : Nat) (c : UInt8) : Decidable (Y4 k c) := inferInstanceAs (Decidable (_ ∨ _))
theorem Nx {s : Bs} {k j u : Nat} (h : k + j < s.length) : Ez j u (s.drop (k + j)) = if Y4 j s[k + j] then none else if s[k + j].toNat < 128 then some (u + s[k + j].toNat % 128 * 128 ^ j, s.drop (k + j + 1)) else Ez (j + 1) (u + s[k + j].toNat % 128 * 128 ^ j) (s.drop (k + j + 1)) := by
 rw [drop_eq_getElem_cons h]
 conv => lhs; unfold Ez
 rfl
theorem Vj {s : Bs} {k j u : Nat} (h : s.length ≤ k + j) : Ez j u (s.drop (k + j)) = none := by
 rw [drop_eq_nil_of_le h]; unfold Ez; rfl
theorem JF (r : Nat) (s : Bs) (k : Nat) (e : Int) : Fn prog 185 #[AG r] [Je r s k e] fun v L => ∃ u m e', K7 s k e u m e' ∧ v = .tuple #[.int .u64 (u : Nat), AA (m : Nat)] ∧ L = [Je r s k e'] := by
 refine Fn.intro func185 Y Y fun F W => ?_
 refine .rdOpen O fun ra rc hkl hsz => (.sr (.a Y (.an Y (.seq (.sr ?_)))))
 rcases Decidable.em (e = 0) with he0 | he0
 ·subst he0
  refine .m Y (.nf Y GS (.u (.ld Y Bj) (.q (.as (v' := .bool false) (by rfl) (.int Y Y Y)) Y (.nt (.condF Y (.sk (.sr (.an Y (.seq (.sm Y (.nf Y B8 (.rdFold (r := r) s (k) (0) O (by first | rfl | (simp only [List.set]; congr; omega)) om hsz (.cv func167 [_] (IW r s k 0) ?_)))))))))))))
  refine .m Y (.nil (.rdOpen O fun ra1 rc1 _ _ => (.then_n (.block (.loopK (ι := Nat × Nat) (fun q E => (16, AA q.1) :: (4, .int .u64 q.2) :: E) (fun q => []) (fun q => k + q.1 ≤ s.length ∧ q.1 ≤ 9 ∧ q.2 < 128 ^ q.1 ∧ Ez q.1 q.2 (s.drop (k + q.1)) = Ez 0 0 (s.drop k)) (fun q => s.length - q.1) (0, 0) (ts := [0, 15]) O (⟨by dsimp only; omega, by dsimp only; omega, by dsimp only; decide, rfl⟩) O O ?_)))))
  rintro ⟨j, u⟩ ⟨hj, hj9, huj, hsv⟩
  dsimp only
  dsimp only at hj hj9 huj hsv
  refine .sr (.ui Y Y Y (.nt (.seq (.condD Y (fun h17 => ?_) (fun h17 => ?_)))))
  ·have hlt : k + j < s.length := by omega
   have hxl := s[k + j].toNat_lt
   refine .sk (.seq (.block (.sm Y (.an Y (.seq (.draw [] [[0, 1, 2, 3, 4, 5, 6, 7, 8, 9, 10, 11, 12, 13, 14]] mixed kQ (.g0 (.mv Y Y (.nf Y Y Y B8 (.kv Y (.fieldAddr Y GR) (.kv Y (.ld Y GB) (.mv Y Y (.nf Y Y Y B8 (.kv Y (.fieldAddr Y C6) (.kv Y (.ld Y AF) (.mv Y Y (.kv Y (.add Y Y om) (.kv Y (.indexAddr Y Y A8 om) (.kv Y (.loadRd (sz := 1) (j := k + j) (p := EN (.slice _ s.length _) s) (v := Bx s[k + j]) Y AAs O (fun h hp => AE hp) om (by simp [A4, List.getElem?_eq_getElem hlt])) ?_)))))))))))))))))))
   refine D.kv Y (.assign Y) (.pf (.seq (.seq (.joinK (ι := Bool) (fun q E => (46, .bool q) :: E) (fun q => []) (fun q => q = decide (Y4 j s[k + j])) (pre := []) (ts := [0, 4, 5, 6, 15, 16, 17, 18, 19, 20, 21, 22, 23, 24, 25, 26, 27, 28, 29, 30, 31, 32]) O O ?_ ?_))))
   ·refine .region (.m Y (.ui Y Y Y (.m Y (.dec (t := 35) Y (fun h8_35 => ?_) (fun h8_35 => ?_)))))
    ·refine .kDT (t := 34) Y h8_35 (.gr (.m Y (.gr (.ui Y Y Y (.pT Y Y (.m Y (.dec (t := 39) Y (fun h8_39 => ?_) (fun h8_39 => ?_))))))))
     ·refine .kDT (t := 37) Y h8_39 (.kDT (t := 38) Y h8_39 (.gk (.gk (.gk (.gn (.gn (.gk (.pT Y Y (.nt ?_)))))))))
      exact .mk (true) ((by rw [decide_eq_true]; exact .inl ⟨by omega, by omega⟩)) O
     refine .kDF (t := 37) Y h8_39 (.kDF (t := 38) Y h8_39 (.gr (.m Y (.gr (.ui Y Y Y (.gr (.m Y (.dec (t := 42) Y (fun h8_42 => ?_) (fun h8_42 => ?_)))))))))
     ·refine .kDT (t := 41) Y h8_42 (.gr (.m Y (.gr (.ui Y Y Y (.gr (.pT Y Y (.pF Y Y (.nt ?_))))))))
      exact .mk ((decide ((j : Int) > 0))) ((by exact decide_eq_decide.2 ⟨fun g => .inr ⟨by omega, by omega⟩, fun g => by rcases g with ⟨g1, g2⟩ | ⟨g1, g2⟩ <;> omega⟩)) O
     refine .kDF (t := 41) Y h8_42 (.gk (.gk (.gr (.pF Y Y (.pF Y Y (.nt ?_))))))
     exact .mk (false) ((by exact (decide_eq_false (by rintro (⟨g1, g2⟩ | ⟨g1, g2⟩) <;> omega)).symm)) O
    refine .kDF (t := 34) Y h8_35 (.gk (.gk (.pF Y Y (.m Y (.gr (.m Y (.gr (.ui Y Y Y (.gr (.m Y (.dec (t := 42) Y (fun h8_42 => ?_) (fun h8_42 => ?_))))))))))))
    ·refine .kDT (t := 41) Y h8_42 (.gr (.m Y (.gr (.ui Y Y Y (.gr (.pT Y Y (.pF Y Y (.nt ?_))))))))
     exact .mk ((decide ((j : Int) > 0))) ((by exact decide_eq_decide.2 ⟨fun g => .inr ⟨by omega, by omega⟩, fun g => by rcases g with ⟨g1, g2⟩ | ⟨g1, g2⟩ <;> omega⟩)) O
    refine .kDF (t := 41) Y h8_42 (.gk (.gk (.gr (.pF Y Y (.pF Y Y (.nt ?_))))))
    exact .mk (false) ((by exact (decide_eq_false (by rintro (⟨g1, g2⟩ | ⟨g1, g2⟩) <;> omega)).symm)) O
   rintro b hb
   subst hb
   refine .condD Y (fun h46 => ?_) (fun h46 => ?_)
   ·refine .seq (.rdFold (r := r) s (k) (0) O (by first | rfl | (simp only [List.set]; congr; omega)) om hsz (.region (.m Y (.oq (.c func184 [_, _] (Ex r s k 0 11)) ?_))))
    rintro v L' ⟨rfl, rfl⟩; rw [if_pos rfl]
    refine .nt (.sr (.a Y (.an Y (.rt (.blk_r (.then_r (.then_r (.blk_r (.then_r ?_)))))))))
    exact .dn Y Y ⟨0, 0, 11, .inl ⟨.inr (by rw [← hsv, Nx hlt, if_pos h46]), Y, Y, by decide⟩, rfl, rfl⟩
   have h9 : j = 9 → s[k + j].toNat ≤ 1 := fun g => by rcases Nat.lt_or_ge 1 s[k + j].toNat with g2 | g2; exact absurd (.inl ⟨g, g2⟩) h46; exact g2
   refine .sk (.sm Y (.m Y (.u (.and Y Y) (.q (.as (v' := .int .u64 ((s[k + j].toNat % 128 : Nat) : Int)) (by exact congrArg (Value.int .u64) (Vx _)) (.conv Y underlying5 underlying193)) Y (.m Y (.q (.mul Y Y om) Y (.q (.shl Y Y (by first | decide | omega)) Y (.q (.as (v' := .int .u64 ((u + s[k + j].toNat % 128 * 128 ^ j : Nat) : Int)) (by exact congrArg (Value.int .u64) (VJ hj9 huj om (fun g => by have := h9 g; omega))) (.or Y Y)) Y (.an Y (.sm Y (.ui Y Y Y (.nt (.condD Y (fun h58 => ?_) (fun h58 => ?_))))))))))))))
   ·refine .sm Y (.m Y (.q (.add Y Y om) Y (.a Y (.an Y (.ret (.blk_r (.then_r (.then_r (.blk_r (.then_r (.rdFold (r := r) s (k) (0) O (by first | rfl | (simp only [List.set]; congr; omega)) om hsz ?_)))))))))))
    exact .dn Y Y ⟨_, j + 1, 0, .inr ⟨Y, Y, by omega, by rw [← hsv, Nx hlt, if_neg h46, if_pos om]; rfl⟩, rfl, rfl⟩
   refine .skip (.blk_n (.then_n (.region (.q (.add Y Y om) Y (.m Y (.nt ?_))))))
   exact .rk ((j + 1, u + s[k + j].toNat % 128 * 128 ^ j)) (⟨by dsimp only; omega, by dsimp only; rcases Nat.lt_or_ge j 9 with g | g; (omega); exact absurd (h9 om) om, by dsimp only; rw [Nat.pow_succ]; have := Nat.mul_le_mul_right (128 ^ j) (show s[k + j].toNat % 128 ≤ 127 by omega); omega, by dsimp only; rw [← hsv, Nx hlt, if_neg h46, if_neg om]; rfl⟩) (by dsimp only; omega) O
  refine .xe (.seq (.rdFold (r := r) s (k) (0) O (by first | rfl | (simp only [List.set]; congr; omega)) om hsz (.region (.m Y (.oq (.c func184 [_, _] (Ex r s k 0 10)) ?_)))))
  rintro v L' ⟨rfl, rfl⟩; rw [if_pos rfl]
  refine .nt (.sr (.a Y (.an Y (.ret ?_))))
  exact .dn Y Y ⟨0, 0, 10, .inl ⟨.inr (by rw [← hsv]; exact Vj om), Y, Y, by decide⟩, rfl, rfl⟩
 refine .m Y (.nf Y GS (.u (.ld Y Bj) (.q (.as (v' := .bool true) (by simp [he0]) (.int Y Y Y)) Y (.nt (.condT Y (.sr (.a Y (.an Y (.rt (.rdFold (r := r) s (k) (e) O (by first | rfl | (simp only [List.set]; congr; omega)) om hsz ?_))))))))))
 exact .dn Y Y ⟨0, 0, e, .inl ⟨.inl he0, Y, Y, he0⟩, Y, Y⟩
theorem K7.lt {s : Bs} {k : Nat} {e : Int} {u m : Nat} {e' : Int} (h : K7 s k e u m e') : u < FI := by
 rcases h with ⟨-, rfl, -⟩ | ⟨-, -, -, h⟩
 ·decide
 ·exact OC 0 0 _ _ _ h dQ dQ
theorem K7.le {s : Bs} {k : Nat} {e : Int} {u m : Nat} {e' : Int} (h : K7 s k e u m e') (hk : k ≤ s.length) : k + m ≤ s.length := by
 rcases h with ⟨-, -, rfl, -⟩ | ⟨-, -, h, -⟩
 ·exact hk
 ·exact h
theorem K7.num {s : Bs} {k : Nat} {e : Int} {u m : Nat} {e' : Int} (h : K7 s k e u m e') : ER s (k + m) e' = (BY 0 Jh (ER s k e)).2 ∧ KX u = (BY 0 Jh (ER s k e)).1 := by
 rcases h with ⟨h1, rfl, rfl, h2⟩ | ⟨rfl, rfl, -, h⟩
 ·have e2 : ER s (k + 0) e' = none := if_neg h2
  rw [e2]
  rcases h1 with h1 | h1
  ·have e1 : ER s k e = none := if_neg h1
   rw [e1]; exact ⟨rfl, rfl⟩
  ·unfold ER
   split
   ·unfold BY Jh; dsimp only; rw [h1]; exact ⟨rfl, rfl⟩
   ·exact ⟨rfl, rfl⟩
 ·have e1 : ER s k 0 = some (s.drop k) := if_pos rfl
  have e2 : ER s (k + m) 0 = some (s.drop (k + m)) := if_pos rfl
  rw [e1, e2]
  unfold BY Jh; dsimp only; rw [h]; exact ⟨rfl, rfl⟩
theorem K7.cntT {s : Bs} {k : Nat} {e : Int} {u m : Nat} {e' : Int} {most : Nat} (h : K7 s k e u m e') (hm : most < u) : BY 0 (D7 most) (ER s k e) = (0, none) := by
 rcases h with ⟨h1, rfl, rfl, h2⟩ | ⟨rfl, rfl, -, h⟩
 ·omega
 ·have e1 : ER s k 0 = some (s.drop k) := if_pos rfl
  rw [e1]
  unfold BY D7; dsimp only; rw [h]; dsimp only; rw [if_pos hm]
theorem K7.cntF {s : Bs} {k : Nat} {e : Int} {u m : Nat} {e' : Int} {most : Nat} (h : K7 s k e u m e') (hm : ¬ most < u) : ER s (k + m) e' = (BY 0 (D7 most) (ER s k e)).2 ∧ u = (BY 0 (D7 most) (ER s k e)).1 := by
 rcases h with ⟨h1, rfl, rfl, h2⟩ | ⟨rfl, rfl, -, h⟩
 ·have e2 : ER s (k + 0) e' = none := if_neg h2
  rw [e2]
  rcases h1 with h1 | h1
  ·have e1 : ER s k e = none := if_neg h1
   rw [e1]; exact ⟨rfl, rfl⟩
  ·unfold ER
   split
   ·unfold BY D7; dsimp only; rw [h1]; exact ⟨rfl, rfl⟩
   ·exact ⟨rfl, rfl⟩
 ·have e1 : ER s k 0 = some (s.drop k) := if_pos rfl
  have e2 : ER s (k + m) 0 = some (s.drop (k + m)) := if_pos rfl
  rw [e1, e2]
  unfold BY D7; dsimp only; rw [h]; dsimp only; rw [if_neg hm]; exact ⟨rfl, rfl⟩
theorem Sf {s : Bs} {k : Nat} {e x : Int} (hx : x ≠ 0) : ER s k (if e = 0 then x else e) = none := by
 refine if_neg ?_
 split
 ·exact hx
 ·assumption
theorem YW {s : Bs} {k : Nat} {e : Int} {most n k1 : Nat} {e1 : Int} (h1 : ER s k1 e1 = (BY 0 (D7 most) (ER s k e)).2) (hn : n = (BY 0 (D7 most) (ER s k e)).1) (hk : k1 ≤ s.length) :
  ((s.length : Int) - k1 < n → BY [] (Gn most) (ER s k e) = ([], none)) ∧ (¬ (s.length : Int) - k1 < n → ER s (k1 + n) e1 = (BY [] (Gn most) (ER s k e)).2 ∧ (s.take (k1 + n)).drop k1 = (BY [] (Gn most) (ER s k e)).1) := by
 cases hst : ER s k e with
 | none =>
  rw [hst] at h1 hn
  have h1 : ER s k1 e1 = none := h1
  have hn : n = 0 := hn
  subst hn
  refine ⟨fun h => by omega, fun _ => ⟨?_, ?_⟩⟩
  ·unfold ER at h1 ⊢
   split at h1
   ·cases h1
   ·rename_i g; rw [if_neg g]; rfl
  ·rw [Nat.add_zero, drop_eq_nil_of_le (by rw [length_take]; omega)]; rfl
 | some q =>
  rw [hst] at h1 hn
  cases hc : D7 most q with
  | none =>
   have f : BY 0 (D7 most) (some q) = (0, none) := by unfold BY; dsimp only; rw [hc]
   have f2 : BY [] (Gn most) (some q) = ([], none) := by unfold BY Gn; dsimp only; rw [hc]
   rw [f] at h1 hn
   rw [f2]
   have h1 : ER s k1 e1 = none := h1
   have hn : n = 0 := hn
   subst hn
   refine ⟨fun h => by omega, fun _ => ⟨?_, ?_⟩⟩
   ·unfold ER at h1 ⊢
    split at h1
    ·cases h1
    ·rename_i g; rw [if_neg g]
   ·rw [Nat.add_zero, drop_eq_nil_of_le (by rw [length_take]; omega)]
  | some x =>
   obtain ⟨m, z⟩ := x
   have f : BY 0 (D7 most) (some q) = (m, some z) := by unfold BY; dsimp only; rw [hc]
   rw [f] at h1 hn
   have h1 : ER s k1 e1 = some z := h1
   have hn : n = m := hn
   subst hn
   unfold ER at h1
   split at h1
   ·rename_i g
    subst g
    have h1 : s.drop k1 = z := Option.some.inj h1
    subst h1
    have hl : (s.drop k1).length = s.length - k1 := length_drop
    refine ⟨fun h => ?_, fun h => ?_⟩
    ·unfold BY Gn; dsimp only; rw [hc]; dsimp only; rw [if_pos om]
    ·have e2 : ER s (k1 + n) 0 = some (s.drop (k1 + n)) := if_pos rfl
     have f2 : BY [] (Gn most) (some q) = ((s.drop k1).take n, some ((s.drop k1).drop n)) := by unfold BY Gn; dsimp only; rw [hc]; dsimp only; rw [if_neg om]
     rw [e2, f2, drop_drop, drop_take]
     exact ⟨rfl, by rw [show k1 + n - k1 = n by omega]⟩
   ·cases h1
theorem R4 (r : Nat) (s : Bs) (k : Nat) (e : Int) : Fn prog 169 #[AG r] [Je r s k e] fun v L => ∃ k' e', ER s k' e' = (BY 0 Jh (ER s k e)).2 ∧ v = AA (BY 0 Jh (ER s k e)).1 ∧ L = [Je r s k' e'] := by
 refine Fn.intro func169 Y Y fun F W => ?_
 refine .sr (.an Y (.sm Y (.oq (.c func185 [_] (JF r s k e)) ?_)))
 rintro v L' ⟨u, m, e', hA, rfl, rfl⟩; have hu := hA.lt
 refine .m Y (.ex Y Y (.ex Y Y (.a Y (.an Y (.seq (.rdOpen O fun ra rc hkl hsz => ?_))))))
 have hkm := hA.le hkl
 refine .region (.m Y (.nf Y B8 (.fa Y C6 (.u (.ld Y AF) (.m Y (.q (.add Y Y om) Y (.nf Y B8 (.fa Y C6 (.st Y Y Y BV ?_)))))))))
 refine .nt (.sm Y (.q (.shr Y Y (by first | decide | omega)) Y (.q (.conv Y underlying193 underlying3) Y (.m Y (.q (.as (v' := .int .u64 ((u % 2 : Nat) : Int)) (by exact congrArg (Value.int .u64) (Vr u)) (.and Y Y)) Y (.q (.as (v' := AA ((u % 2 : Nat) : Int)) (by rw [I5 om]) (.conv Y underlying193 underlying3)) Y (.q (.neg Y om) Y (.q (.as (v' := AA (KX u)) (by exact congrArg (Value.int .i64) (VE hu)) (.xor Y Y)) Y (.an Y (.ret (.rdFold (r := r) s (k + m) (e') O (by first | rfl | (simp only [List.set]; congr; omega)) om hsz ?_)))))))))))
 rw [hA.num.2]
 exact .dn Y Y ⟨k + m, e', hA.num.1, Y, Y⟩
theorem Ix (r most : Nat) (hm : most ≤ 70368744177664) (s : Bs) (k : Nat) (e : Int) : Fn prog 173 #[AG r, AA most] [Je r s k e] fun v L => ∃ k' e', ER s k' e' = (BY 0 (D7 most) (ER s k e)).2 ∧ v = AA ((BY 0 (D7 most) (ER s k e)).1 : Nat) ∧ L = [Je r s k' e'] := by
 refine Fn.intro func173 Y Y fun F W => ?_
 refine .sr (.an Y (.sm Y (.oq (.c func185 [_] (JF r s k e)) ?_)))
 rintro v L' ⟨u, m, e', hA, rfl, rfl⟩; have hu := hA.lt
 refine .m Y (.ex Y Y (.ex Y Y (.a Y (.an Y (.seq (.sm Y (.m Y (.u (.max2 Y Y) (.q (.as (v' := .int .u64 (most : Nat)) (by exact congrArg (Value.int .u64) (by rw [B0]; omega)) (.conv Y underlying3 underlying193)) Y (.ui Y Y Y (.nt (.condD Y (fun h16 => ?_) (fun h16 => ?_)))))))))))))
 ·refine .sm Y (.cv func184 [_, _] (Ex r s k e' 12) ?_)
  refine .nt (.sr (.an Y (.rt ?_)))
  rw [hA.cntT (most := most) om]
  exact .dn Y Y ⟨k, _, Sf (x := 12) dQ, Y, Y⟩
 refine .sk (.seq (.rdOpen O fun ra rc hkl hsz => ?_))
 have hkm := hA.le hkl
 refine .region (.m Y (.nf Y B8 (.fa Y C6 (.u (.ld Y AF) (.m Y (.q (.add Y Y om) Y (.nf Y B8 (.fa Y C6 (.st Y Y Y BV ?_)))))))))
 refine .nt (.sm Y (.q (.as (v' := AA (u : Nat)) (by rw [I5 om]) (.conv Y underlying193 underlying3)) Y (.an Y (.ret (.rdFold (r := r) s (k + m) (e') O (by first | rfl | (simp only [List.set]; congr; omega)) om hsz ?_)))))
 obtain ⟨hc1, hc2⟩ := hA.cntF (most := most) om
 rw [hc2]
 exact .dn Y Y ⟨k + m, e', hc1, Y, Y⟩
theorem Qa (r most : Nat) (hm : most ≤ 70368744177664) (s : Bs) (k : Nat) (e : Int) : Fn prog 186 #[AG r, AA most] [Je r s k e] fun v L => ∃ k' e', ER s k' e' = (BY [] (Gn most) (ER s k e)).2 ∧ v = AU (BY [] (Gn most) (ER s k e)).1 ∧ L = [Je r s k' e'] := by
 refine Fn.intro func186 Y Y fun F W => ?_
 refine .rdOpen O fun ra rc hkl hsz => (.sr (.an Y (.sm Y (.nf Y B8 (.fa Y C6 (.u (.ld Y AF) (.a Y (.nil (.rdFold (r := r) s (k) (e) O (by first | rfl | (simp only [List.set]; congr; omega)) om hsz (.then_n (.sm Y (.m Y (.oq (.c func173 [_, _] (Ix r most hm s k e)) ?_)))))))))))))
 rintro v L' ⟨k1, e1, hs1, rfl, rfl⟩
 obtain ⟨n, hn⟩ : ∃ n, n = (BY 0 (D7 most) (ER s k e)).1 := ⟨_, rfl⟩
 rw [← hn]
 refine .a Y (.nil (.rdOpen O fun ra2 rc2 hk1 _ => ?_))
 have hrun := YW hs1 hn hk1
 refine .rdFold (r := r) s k1 e1 O Y hk1 hsz (.then_n (.seq (.sm Y (.nf Y B8 (.cv func167 [_] (IW r s k1 e1) ?_)))))
 refine .m Y (.ui Y Y Y (.nt (.condD Y (fun h20 => ?_) (fun h20 => ?_))))
 ·refine .seq (.rdOpen O fun ra3 rc3 _ _ => (.region (.m Y (.m Y (.nf Y B8 (.fa Y C6 (.st Y Y Y BV ?_)))))))
  refine .nil (.rdFold (r := r) s (k) (e1) O (by first | rfl | (simp only [List.set]; congr; omega)) om hsz (.then_n (.sm Y (.cv func184 [_, _] (Ex r s k e1 10) ?_))))
  refine .nt (.sr (.an Y (.rt ?_)))
  rw [hrun.1 h20]
  exact .dn Y Y ⟨k, _, Sf (x := 10) dQ, Y, Y⟩
 refine .sk (.seq (.rdOpen O fun ra3 rc3 _ _ => ?_))
 obtain ⟨hr1, hr2⟩ := hrun.2 h20
 refine .region (.m Y (.nf Y B8 (.fa Y C6 (.u (.ld Y AF) (.m Y (.q (.add Y Y om) Y (.nf Y B8 (.fa Y C6 (.st Y Y Y BV ?_)))))))))
 refine .nil (.ptCast (b := r) (l' := [.slice (some ⟨ra3, 0, none⟩) s.length rc3, AA ((k1 + n : Nat) : Int), AA e1]) O Y (.slAddr O fun hcap _ => (.then_n (.seq (.draw [] [[0, 1, 2, 3, 4, 5, 6, 7, 8, 9, 10, 11, 12, 13, 14, 15, 16, 17, 18, 19]] mixed kQ (.g0 (.mv Y Y (.nf Y Y Y B8 (.kv Y (.fieldAddr Y GR) (.kv Y (.ld Y GB) (.mv Y Y (.nf Y Y Y B8 (.kv Y (.fieldAddr Y C6) (.kv Y (.ld Y AF) (.mv Y Y (.kv Y (.as (v' := AA (k1 : Nat)) (by congr 1; omega) (.sub Y Y om)) (.mv Y Y (.nf Y Y Y B8 (.kv Y (.fieldAddr Y C6) (.kv Y (.ld Y AF) (.kv Y (.to (v' := .slice (some (if rc3 = k1 then ⟨ra3, 0, none⟩ else ⟨ra3, 0 + k1 * 1, none⟩)) (k1 + n - k1) (rc3 - k1)) (.slSlice (i := (k1 : Int)) (j := ((k1 + n : Nat) : Int)) Y A8 (by exact rfl) (by exact rfl) om) (by simp only [Int.toNat_natCast])) ?_)))))))))))))))))))))
 refine D.kv Y (.bytesBy (cs := (s.take (k1 + n)).drop k1) (n := ((s.take (k1 + n)).drop k1).length) (p := EN (.slice (some ⟨ra3, 0, none⟩) s.length rc3) s) Y underlying133 underlying5 underlying9 (fun h hp => X8 om om hp) O) (.kv Y (.assign Y) (.pf (.ret (.rdFold (r := r) s (k1 + n) (e1) O (by first | rfl | (simp only [List.set]; congr; omega)) om hsz ?_))))
 rw [hr2]
 exact .dn Y Y ⟨k1 + n, e1, hr1, Y, Y⟩
theorem AAc {s : Bs} {k : Nat} {e : Int} (h : k < s.length) : (if e = 0 then (11 : Int) else e) = 0 ↔ ER s k e = some [] := by
 have hl : (s.drop k).length = s.length - k := length_drop
 unfold ER
 split
 ·refine ⟨fun g => absurd g dQ, fun g => ?_⟩
  rw [Option.some.inj g] at hl; simp at hl; omega
 ·rename_i g; exact ⟨fun q => absurd q g, fun q => by cases q⟩
theorem AAC {s : Bs} {k : Nat} {e : Int} (h : s.length ≤ k) : e = 0 ↔ ER s k e = some [] := by
 unfold ER
 split
 ·rename_i g; exact ⟨fun _ => by rw [drop_eq_nil_of_le h], fun _ => g⟩
 ·rename_i g; exact ⟨fun q => absurd q g, fun q => by cases q⟩
theorem Rm (r : Nat) (s : Bs) (k : Nat) (e : Int) : Fn prog 142 #[AG r] [Je r s k e] fun v L => ∃ e1, (e1 = 0 ↔ ER s k e = some []) ∧ v = AA e1 ∧ L = [Je r s k e1] := by
 refine Fn.intro func142 Y Y fun F W => ?_
 refine .rdOpen O fun ra rc hkl hsz => (.rdFold (r := r) s (k) (e) O (by first | rfl | (simp only [List.set]; congr; omega)) om hsz (.sr (.an Y (.seq (.sm Y (.nf Y B8 (.cv func167 [_] (IW r s k e) ?_)))))))
 refine .ui Y Y Y (.nt (.condD Y (fun h7 => ?_) (fun h7 => ?_)))
 ·refine .region (.m Y (.cv func168 [_] (Ra r s k e) ?_))
  refine .nt (.seq (.rdOpen O fun ra3 rc3 _ _ => (.region (.m Y (.nf Y GS (.u (.ld Y Bj) (.an Y (.ret (.rdFold (r := r) s (k) (if e = 0 then 11 else e) O (by first | rfl | (simp only [List.set]; congr; omega)) om hsz ?_)))))))))
  exact .dn Y Y ⟨_, AAc om, Y, Y⟩
 refine .sk (.seq (.rdOpen O fun ra3 rc3 _ _ => (.region (.m Y (.nf Y GS (.u (.ld Y Bj) (.an Y (.ret (.rdFold (r := r) s (k) (e) O (by first | rfl | (simp only [List.set]; congr; omega)) om hsz ?_)))))))))
 exact .dn Y Y ⟨_, AAC om, Y, Y⟩
theorem R7 (s : Bs) (hs : s.length ≤ 70368744177664) : Fn prog 141 #[AU s] [] fun v L => ∃ r, v = AG r ∧ L = [Hq r (some s)] := by
 refine Fn.intro func141 Y Y fun F W => ?_
 refine .sr (.an Y (.sm Y (.oq (.strBytes Y underlying9 underlying133 underlying5) ?_)))
 rintro v L' ⟨rfl, b8, c8, rfl⟩
 refine .q (.to (v' := .agg [.slice (some ⟨b8, 0, none⟩) s.length c8, AA 0].toArray) (.build (us := [(0, _)]) Y9 ZR Y Y (by simp [AD])) Y) Y (.q (.to (v' := .agg [.slice (some ⟨b8, 0, none⟩) s.length c8, AA 0, AA 0].toArray) (.buildN (pl := [(0, 2), (2, 1)]) (us := [(0, _)]) (cells := [.slice (some ⟨b8, 0, none⟩) s.length c8, AA 0, AA 0]) underlying226 kQ Zo Y Y) Y) Y (.oq (.box Y) ?_))
 rintro v L' ⟨r, rfl, rfl⟩
 refine .an Y (.ret (.rdFold (r := r) s 0 0 O Y (Nat.zero_le _) hs (.rdUpF (r := r) (st := some s) O Y ?_)))
 exact .dn Y Y ⟨r, Y, Y⟩
theorem S4 (r : Nat) (st : Rs) : Fn prog 169 #[AG r] [Hq r st] fun v L => v = AA (BY 0 Jh st).1 ∧ L = [Hq r (BY 0 Jh st).2] := Fn.rdUp (v := AA) (fun s k e => R4 r s k e) st
theorem J8 (r most : Nat) (hm : most ≤ 70368744177664) (st : Rs) : Fn prog 173 #[AG r, AA most] [Hq r st] fun v L => v = AA ((BY 0 (D7 most) st).1 : Nat) ∧ L = [Hq r (BY 0 (D7 most) st).2] := Fn.rdUp (v := fun n : Nat => AA n) (fun s k e => Ix r most hm s k e) st
theorem Q8 (r most : Nat) (hm : most ≤ 70368744177664) (st : Rs) : Fn prog 186 #[AG r, AA most] [Hq r st] fun v L => v = AU (BY [] (Gn most) st).1 ∧ L = [Hq r (BY [] (Gn most) st).2] := Fn.rdUp (v := AU) (fun s k e => Qa r most hm s k e) st
theorem UQ (r : Nat) (st : Rs) : Fn prog 142 #[AG r] [Hq r st] fun v L => ∃ e1, (e1 = 0 ↔ st = some []) ∧ v = AA e1 ∧ ∃ st', L = [Hq r st'] := Fn.rdEnd (fun s k e => Rm r s k e) st
def Pt.wa (y : Pt) (v : Value) : Pt := ⟨y.kind, y.path, y.data, v, y.acl, y.own, y.num, y.err, y.subsV⟩
def Pt.ws (y : Pt) (v : Value) : Pt := ⟨y.kind, y.path, y.data, y.aclV, y.acl, y.own, y.num, y.err, v⟩
def KR (y : Pt) : HP := AV 231 2 y.aclV y.acl.length (y.acl.flatMap Il)
def Ye (e : En) : HP := AV 40 8 e.x.subsV e.subs.length (e.subs.flatMap C5)
def entR (e : En) : HP := CG [KR e.x, Ye e, Aj KR e.subs]
structure ZM (p : HP) (y : Pt) : Prop where
 i : Yj y
 acl : ∀ h : Hp, p h → B5 2 h y.aclV y.acl.length (y.acl.flatMap Il)
structure EnW (p : HP) (e : En) : Prop where
 i : Wj e
 acl : ∀ h : Hp, p h → B5 2 h e.x.aclV e.x.acl.length (e.x.acl.flatMap Il)
 subs : ∀ h : Hp, p h → B5 8 h e.x.subsV e.subs.length (e.subs.flatMap C5)
 each : ∀ y ∈ e.subs, ∀ h : Hp, p h → B5 2 h y.aclV y.acl.length (y.acl.flatMap Il)
theorem EnW.x {p : HP} {e : En} (h : EnW p e) : ZM p e.x := ⟨h.i.x, h.acl⟩
theorem EnW.sub {p : HP} {e : En} (h : EnW p e) {y : Pt} (hy : y ∈ e.subs) : ZM p y := ⟨h.i.subs y hy, h.each y hy⟩
theorem Ns {α : Type} (f : α → Bs) (l : List α) (j : Nat) : ((l.take j).flatMap f).length ≤ (l.flatMap f).length := by
 conv => rhs; rw [← take_append_drop j l]
 rw [flatMap_append, length_append]; omega
theorem Gm {α : Type} (f : α → Bs) {l : List α} {j : Nat} (hj : j < l.length) : (l.take (j + 1)).flatMap f = (l.take j).flatMap f ++ f l[j] := by
 rw [take_succ_eq_append_getElem hj, flatMap_append]; simp
theorem JM {α : Type} (f : α → Bs) {l : List α} {j : Nat} (hj : j < l.length) : ((l.take j).flatMap f).length + (f l[j]).length ≤ (l.flatMap f).length := by
 have := Ns f l (j + 1)
 rw [Gm f hj, length_append] at this
 exact this
theorem I6 {α : Type} (f : Rn α) (st : Rs) : ∀ n, (Aa f n st).1.length = n
 | 0 => rfl
 | n + 1 => by show ((Aa f n st).1 ++ [_]).length = n + 1; rw [length_append, I6 f st n]; rfl
theorem N6 (st : Rs) : (Ic st).1 ≤ 256 := by
 unfold Ic BY
 split
 ·exact Nat.zero_le _
 ·split
  ·rename_i x hx; exact (L8 hx).2
  ·exact Nat.zero_le _
theorem X3 {p : HP} {h : Hp} (hp : p h) : CG [p] h := ⟨h, fun _ => none, fun _ => .inr rfl, fun _ _ e => e, fun _ _ e => (by cases e), hp, trivial⟩
theorem XG {b : Nat} {l : List Value} {T : TypeId} {h : Hp} (hp : CG [Ar b l T] h) : Ar b l T h := HX hp
theorem Ya {α : Type} {f : α → HP} {l : List α} {y : α} {h : Hp} (hs : CG [f y, Aj f l] h) : Aj f (l ++ [y]) h :=
 Hc (perm_append_comm (l₁ := [y])) (Fq hs)
section
variable {P : Program} {W : World} {n : Nat} {ds : List Deferred} {E : By} {L R : List HP} {X : Act → World → Prop} {ty : TypeId}
theorem G.bigAdd {α : Type} {f : α → HP} {l : List α} (y : α) {p : HP} (hp : p = f y) (hL : Am [p, Aj f l] L R) (h : G W n ds E (Aj f (l ++ [y]) :: R) X) : G W n ds E L X := by
 subst hp
 exact G.fold hL (fun w hw => Ya hw) h
theorem G.wrCast {w : Nat} {bs bs' : Bs} (hL : BT (Hw w bs) L R) (hb : bs = bs') (h : G W n ds E (Hw w bs' :: R) X) : G W n ds E L X := by
 subst hb; exact G.perm hL.perm h
theorem AI.inL {o : Oper} {p p' q : HP} (h : AI P o E [p] fun _ L' => L' = [p']) : AI P o E [CG [p, q]] fun _ L' => L' = [CG [p', q]] := by
 intro ρ w F ha hs
 have hs' : St ([p] ++ ([q] ++ F)) w := FQ (L1 := [p, q]) hs
 refine (h ρ w _ ha hs').mono ?_
 rintro v w' ⟨L', rfl, hs2, hk⟩
 exact ⟨_, rfl, Ee (L1 := [p', q]) hs2, hk⟩
theorem AI.inR {o : Oper} {p q q' : HP} (h : AI P o E [q] fun _ L' => L' = [q']) : AI P o E [CG [p, q]] fun _ L' => L' = [CG [p, q']] := by
 intro ρ w F ha hs
 have hs1 : St (p :: q :: F) w := FQ (L1 := [p, q]) hs
 have hs' : St ([q] ++ ([p] ++ F)) w := DL hs1
 refine (h ρ w _ ha hs').mono ?_
 rintro v w' ⟨L', rfl, hs2, hk⟩
 exact ⟨_, rfl, Ee (L1 := [p, q']) (DL hs2), hk⟩
end
def I1 (a : Nat × Nat) : Value := .pointer (some ⟨a.1, a.2, none⟩)
theorem LE (w : Nat) (bs : Bs) (va : Value) (ns : List Int) (p : HP) (hp : ∀ h : Hp, p h → B5 1 h va ns.length (Aq ns)) (hi : ∀ n ∈ ns, I64 n) (hl : bs.length + (ns.flatMap Bc).length ≤ 4294900000) (hn : ns.length ≤ 1048576) : Fn prog 156 #[AG w, va] [Hw w bs, p] fun v L => v = .tuple #[] ∧ L = [Hw w (bs ++ ns.flatMap Bc), p] := by
 refine Fn.intro func156 Y Y fun F W => ?_
 refine .rdAny (p := p) hp O fun aa ca e0 _ => ?_
 subst e0
 refine .sm Y (.q (.slen Y underlying22 Y) Y (.m Y (.nt (.block (.wrCast (w := w) (bs' := bs ++ (ns.take 0).flatMap Bc) O (by simp) (.loopK (ι := Nat) (fun q E => (8, AA q) :: E) (fun q => [Hw w (bs ++ (ns.take q).flatMap Bc)]) (fun q => q ≤ ns.length) (fun q => ns.length - q) (0) (ts := [0, 6, 7]) O (Nat.zero_le _) O O ?_))))))
 rintro j hj
 refine .sr (.ui Y Y Y (.nt (.seq (.condD Y (fun h9 => ?_) (fun h9 => ?_)))))
 ·have hj2 : j < ns.length := by omega
  have hft := Ns Bc ns j
  refine .rdShape (p := p) hp O om fun ba oa e => ?_
  subst e
  refine .sk (.seq (.block (.sr (.q (.indexAddr Y Y BC om) Y (.q (.loadEl (p := p) (i := j * 1) (v := AA ns[j]) Y AF O hp (by simp [hj2])) Y (.an Y (.region (.m Y (.m Y (.oq (.c func102 [_, _] (Hs w _ ns[j] (hi _ (getElem_mem hj2)) ?hb8)) ?_))))))))))
  case hb8 => rw [length_append]; omega
  rintro v L' ⟨rfl, rfl⟩
  refine .nil (.blk_n (.then_n (.region (.q (.add Y Y om) Y (.m Y (.nt (.wrCast (w := w) (bs' := bs ++ (ns.take (j + 1)).flatMap Bc) O (by rw [Gm Bc hj2, append_assoc]) ?_)))))))
  exact .rk (j + 1) om om O
 have hjj : j = ns.length := by omega
 rw [hjj, take_length]
 refine .exit (.then_e (.then_e (.blk_e (.done_n ?_))))
 exact .vv
theorem UT (w : Nat) (bs : Bs) (a : Ac) (hi : AcI a) (hl : bs.length + (JN a).length ≤ 4294900000) : Fn prog 179 #[AG w, .agg (Il a).toArray] [Hw w bs] fun v L => v = .tuple #[] ∧ L = [Hw w (bs ++ JN a)] := by
 refine Fn.intro func179 Y Y fun F W => ?_
 have hab : (JN a).length = (Bc a.1).length + ((Bp a.2.length).length + a.2.length) := by unfold JN Cs; simp
 refine .sr (.oq (.box Y) ?_)
 rintro v L' ⟨b3, rfl, rfl⟩
 refine .nil (.ptCast (b := b3) (l' := Il a) O Y (.then_n (.sm Y (.fa Y PR (.u (.ld Y AF) (.cv func102 [_, _] (Hs w bs a.1 hi.n om) ?_))))))
 refine .nt (.region (.m Y (.fa Y Qe (.u (.ld Y G9) (.oq (.c func177 [_, _] (If w _ a.2 ?hb11)) ?_)))))
 case hb11 => rw [length_append]; omega
 rintro v L' ⟨rfl, rfl⟩
 refine .nil (.done_n (.wrCast (w := w) (bs' := bs ++ JN a) O (by unfold JN; rw [append_assoc]) ?_))
 exact .vv
theorem Q3 (w : Nat) (bs : Bs) (va : Value) (l : List Ac) (p : HP) (hp : ∀ h : Hp, p h → B5 2 h va l.length (l.flatMap Il)) (hi : ∀ a ∈ l, AcI a) (hl : bs.length + (Bp l.length ++ l.flatMap JN).length ≤ 4294900000) (hn : l.length ≤ 1048576) : Fn prog 178 #[AG w, va, .func (.func 179) #[] #[]] [Hw w bs, p] fun v L => v = .tuple #[] ∧ L = [Hw w (bs ++ (Bp l.length ++ l.flatMap JN)), p] := by
 refine Fn.intro func178 Y Y fun F W => ?_
 refine .rdAny (p := p) hp O fun aa ca e0 _ => ?_
 subst e0
 rw [length_append] at hl
 refine .sm Y (.m Y (.q (.slen Y underlying37 Y) Y (.cv func103 [_, _] (F4 w bs l.length om om) ?_)))
 refine .nt (.sm Y (.q (.slen Y underlying37 Y) Y (.m Y (.nt (.block (.wrCast (w := w) (bs' := bs ++ Bp l.length ++ (l.take 0).flatMap JN) O (by simp) (.loopK (ι := Nat) (fun q E => (14, AA q) :: E) (fun q => [Hw w (bs ++ Bp l.length ++ (l.take q).flatMap JN)]) (fun q => q ≤ l.length) (fun q => l.length - q) (0) (ts := [0, 2, 12, 13]) O (Nat.zero_le _) O O ?_)))))))
 rintro j hj
 refine .sr (.ui Y Y Y (.nt (.seq (.condD Y (fun h15 => ?_) (fun h15 => ?_)))))
 ·have hj2 : j < l.length := by omega
  have hft := JM JN hj2
  refine .rdShape (p := p) hp O om fun ba oa e => ?_
  subst e
  refine .sk (.seq (.block (.sr (.q (.indexAddr Y Y PW om) Y (.q (.loadRdA (sz := 2) (j := j * 2) (k := 2) (p := p) (vs := Il l[j]) Y Ri O hp (by simp) om om (BE (f := Il) (sz := 2) (fun _ _ => Y) om)) Y (.oq (.allocA LZ) ?_))))))
  rintro v L' ⟨b7, rfl, rfl⟩
  refine .sa Y Y Vq (by simp [Il, AD]) ?_
  refine .nil (.ptCast (b := b7) (l' := Il l[j]) O (by exact rfl) (.then_n (.region (.m Y (.m Y (.q (.loadAs (vs := Il l[j]) Y Ri O (by simp [Il]) Y) Y (.oq (.callV func179 Y Y (us := []) (vs := [_, _]) (ws := []) Y Y (UT w _ l[j] (hi _ (getElem_mem hj2)) ?hb22)) ?_)))))))
  case hb22 => rw [length_append, length_append]; omega
  rintro v L' ⟨rfl, rfl⟩
  refine .nil (.blk_n (.then_n (.region (.q (.add Y Y om) Y (.m Y (.nt (.wrCast (w := w) (bs' := bs ++ Bp l.length ++ (l.take (j + 1)).flatMap JN) O (by rw [Gm JN hj2, ← append_assoc]) ?_)))))))
  exact .rk (j + 1) om om O
 have hjj : j = l.length := by omega
 rw [hjj, take_length, append_assoc]
 refine .exit (.then_e (.then_e (.blk_e (.done_n ?_))))
 exact .vv
theorem OH (y : Pt) : (Fi y).length = (Bc y.kind).length + ((Bp y.path.length).length + y.path.length) + ((Bp y.data.length).length + y.data.length) + (H1 y.acl).length + ([y.own, y.num, y.err].flatMap Bc).length := by unfold Fi Cs; simp only [length_append]
theorem LD (w : Nat) (bs : Bs) (y : Pt) (p : HP) (hy : ZM p y) (hl : bs.length + (Fi y).length ≤ 4294900000) (hn : y.acl.length ≤ 1048576) : Fn prog 157 #[AG w, .agg (C5 y).toArray] [Hw w bs, p] fun v L => v = .tuple #[] ∧ L = [Hw w (bs ++ Fi y), p] := by
 refine Fn.intro func157 Y Y fun F W => ?_
 have hpl := OH y
 have hal : (Bp y.acl.length ++ y.acl.flatMap JN).length = (H1 y.acl).length := rfl
 have hiy := hy.i
 refine .sr (.oq (.box Y) ?_)
 rintro v L' ⟨b3, rfl, rfl⟩
 refine .nil (.ptCast (b := b3) (l' := C5 y) O Y (.then_n (.sm Y (.fa Y Nv (.u (.ld Y AF) (.cv func102 [_, _] (Hs w bs y.kind hiy.kind om) ?_))))))
 refine .nt (.sm Y (.fa Y OW (.u (.ld Y G9) (.oq (.c func177 [_, _] (If w _ y.path ?hb11)) ?_))))
 case hb11 => rw [length_append]; omega
 rintro v L' ⟨rfl, rfl⟩
 refine .nt (.sm Y (.fa Y Ng (.u (.ld Y G9) (.oq (.c func177 [_, _] (If w _ y.data ?hb17)) ?_))))
 case hb17 => simp only [length_append, Cs]; omega
 rintro v L' ⟨rfl, rfl⟩
 refine .nt (.sm Y (.fa Y OF (.u (.ld Y Yp) (.oq (.c func178 [_, _, _] (Q3 w _ _ y.acl p hy.acl hiy.acl ?hb23 hn)) ?_))))
 case hb23 => rw [hal]; simp only [length_append, Cs]; omega
 rintro v L' ⟨rfl, rfl⟩
 refine .nt (.region (.m Y (.fa Y Oc (.u (.ld Y AF) (.fa Y OK (.u (.ld Y AF) (.fa Y Nc (.u (.ld Y Bj) (.oq (.buildSlice1 (vs := [_, _, _]) BC Fk Y Y Y Y Y dQ) ?_)))))))))
 rintro v L' ⟨b5, rfl, rfl⟩
 refine .slMake (b := b5) (n := 3) (c := 3) (xs := Aq [y.own, y.num, y.err]) O dQ (by simp) Y (.oq (.call func156 Y Y (vs := [_, _]) Y (LE w _ _ [y.own, y.num, y.err] (AV 3 1 (.slice (some ⟨b5, 0, none⟩) 3 3) 3 (Aq [y.own, y.num, y.err])) (fun h hp => AE hp) (fun n hn => by simp only [mem_cons, not_mem_nil, or_false] at hn; rcases hn with rfl | rfl | rfl; exact hiy.own; exact hiy.num; exact hiy.err) ?hb35 (by simp))) ?_)
 case hb35 => have h9 : (Bp y.acl.length ++ y.acl.flatMap JN).length = (H1 y.acl).length := rfl; simp only [length_append, Cs] at h9 ⊢; omega
 rintro v L' ⟨rfl, rfl⟩
 refine .nil (.done_n (.wrCast (w := w) (bs' := bs ++ Fi y) O (by unfold Fi H1; simp only [append_assoc]) ?_))
 exact .vv
theorem PZ (w : Nat) (bs : Bs) (va : Value) (l : List Pt) (p : HP) (hp : ∀ h : Hp, p h → B5 8 h va l.length (l.flatMap C5)) (hi : ∀ y ∈ l, ZM p y ∧ y.acl.length ≤ 1048576) (hl : bs.length + (Bp l.length ++ l.flatMap Fi).length ≤ 4294900000) (hn : l.length ≤ 1048576) (hcl : ∀ y ∈ l, ∀ v ∈ C5 y, AD v = true) : Fn prog 158 #[AG w, va, .func (.func 157) #[] #[]] [Hw w bs, p] fun v L => v = .tuple #[] ∧ L = [Hw w (bs ++ (Bp l.length ++ l.flatMap Fi)), p] := by
 refine Fn.intro func158 Y Y fun F W => ?_
 refine .rdAny (p := p) hp O fun aa ca e0 _ => ?_
 subst e0
 rw [length_append] at hl
 refine .sm Y (.m Y (.q (.slen Y underlying38 Y) Y (.cv func103 [_, _] (F4 w bs l.length om om) ?_)))
 refine .nt (.sm Y (.q (.slen Y underlying38 Y) Y (.m Y (.nt (.block (.wrCast (w := w) (bs' := bs ++ Bp l.length ++ (l.take 0).flatMap Fi) O (by simp) (.loopK (ι := Nat) (fun q E => (14, AA q) :: E) (fun q => [Hw w (bs ++ Bp l.length ++ (l.take q).flatMap Fi)]) (fun q => q ≤ l.length) (fun q => l.length - q) (0) (ts := [0, 2, 12, 13]) O (Nat.zero_le _) O O ?_)))))))
 rintro j hj
 refine .sr (.ui Y Y Y (.nt (.seq (.condD Y (fun h15 => ?_) (fun h15 => ?_)))))
 ·have hj2 : j < l.length := by omega
  have hft := JM Fi hj2
  refine .rdShape (p := p) hp O om fun ba oa e => ?_
  subst e
  refine .sk (.seq (.block (.sr (.q (.indexAddr Y Y Ow om) Y (.q (.loadRdA (sz := 8) (j := j * 8) (k := 8) (p := p) (vs := C5 l[j]) Y IF O hp (by simp) om om (BE (f := C5) (sz := 8) (fun _ _ => Y) om)) Y (.oq (.allocA Kr) ?_))))))
  rintro v L' ⟨b7, rfl, rfl⟩
  refine .sa Y Y WP (by exact hcl _ (getElem_mem hj2)) ?_
  refine .nil (.ptCast (b := b7) (l' := C5 l[j]) O (by exact rfl) (.then_n (.region (.m Y (.m Y (.q (.loadAs (vs := C5 l[j]) Y IF O (by simp [C5]) Y) Y (.oq (.callV func157 Y Y (us := []) (vs := [_, _]) (ws := []) Y Y (LD w _ l[j] p (hi _ (getElem_mem hj2)).1 ?hb22 (hi _ (getElem_mem hj2)).2)) ?_)))))))
  case hb22 => rw [length_append, length_append]; omega
  rintro v L' ⟨rfl, rfl⟩
  refine .nil (.blk_n (.then_n (.region (.q (.add Y Y om) Y (.m Y (.nt (.wrCast (w := w) (bs' := bs ++ Bp l.length ++ (l.take (j + 1)).flatMap Fi) O (by rw [Gm Fi hj2, ← append_assoc]) ?_)))))))
  exact .rk (j + 1) om om O
 have hjj : j = l.length := by omega
 rw [hjj, take_length, append_assoc]
 refine .exit (.then_e (.then_e (.blk_e (.done_n ?_))))
 exact .vv
theorem Na (e : En) : (Bd e).length = ([e.zx, e.ses, e.xid].flatMap Bc).length + (Fi e.x).length + (EP e.subs).length := by unfold Bd; simp only [length_append]
theorem GJ {y : Pt} (h1 : AD y.aclV = true) (h2 : AD y.subsV = true) : ∀ v ∈ C5 y, AD v = true := by
 intro v hv
 simp only [C5, mem_cons, not_mem_nil, or_false] at hv
 rcases hv with rfl | rfl | rfl | rfl | rfl | rfl | rfl | rfl
 case inr.inr.inr.inl => exact h1
 case inr.inr.inr.inr.inr.inr.inr => exact h2
 all_goals rfl
structure Uy (p : HP) (e : En) : Prop where
 w : EnW p e
 len : (Bd e).length ≤ 1073741824
 few : e.subs.length ≤ 1048576 ∧ e.x.acl.length ≤ 1048576 ∧ ∀ y ∈ e.subs, y.acl.length ≤ 1048576
 cx : AD e.x.aclV = true ∧ AD e.x.subsV = true
 cs : ∀ y ∈ e.subs, AD y.aclV = true ∧ AD y.subsV = true
theorem Uy.cells {p : HP} {e : En} (h : Uy p e) : ∀ v ∈ BX e, AD v = true := by
 intro v hv
 unfold BX at hv
 rcases mem_append.1 hv with hv | hv
 ·simp at hv; rcases hv with rfl | rfl | rfl <;> rfl
 ·exact GJ h.cx.1 h.cx.2 v hv
theorem QN (w : Nat) (e : En) (p : HP) (he : Uy p e) : Fn prog 119 #[AG w, .agg (BX e).toArray] [Hw w [], p] fun v L => v = .tuple #[] ∧ L = [Hw w (Bd e), p] := by
 refine Fn.intro func119 Y Y fun F W => ?_
 have hel := Na e
 have hle := he.len
 have hie := he.w.i
 have hsb : (Bp e.subs.length ++ e.subs.flatMap Fi).length = (EP e.subs).length := rfl
 refine .sr (.oq (.box Y) ?_)
 rintro v L' ⟨b3, rfl, rfl⟩
 refine .nil (.ptCast (b := b3) (l' := BX e) O (by exact rfl) (.then_n (.sm Y (.fa Y EH (.u (.ld Y AF) (.fa Y OI (.u (.ld Y AF) (.fa Y No (.u (.ld Y AF) (.oq (.buildSlice1 (vs := [_, _, _]) BC Fk Y Y Y Y Y dQ) ?_))))))))))
 rintro v L' ⟨b4, rfl, rfl⟩
 refine .slMake (b := b4) (n := 3) (c := 3) (xs := Aq [e.zx, e.ses, e.xid]) O dQ (by simp) Y (.oq (.call func156 Y Y (vs := [_, _]) Y (LE w [] _ [e.zx, e.ses, e.xid] (AV 3 1 (.slice (some ⟨b4, 0, none⟩) 3 3) 3 (Aq [e.zx, e.ses, e.xid])) (fun h hp => AE hp) (fun n hn => by simp only [mem_cons, not_mem_nil, or_false] at hn; rcases hn with rfl | rfl | rfl; exact hie.zx; exact hie.ses; exact hie.xid) (by simp only [length_nil]; omega) (by simp))) ?_)
 rintro v L' ⟨rfl, rfl⟩; rw [nil_append]
 refine .nt (.sm Y (.fa Y Hj (.q (.loadAs (vs := C5 e.x) Y IF O (by simp [BX, C5]) Y) Y (.oq (.c func157 [_, _] (LD w _ e.x p he.w.x ?hb17 he.few.2.1)) ?_))))
 case hb17 => omega
 rintro v L' ⟨rfl, rfl⟩
 refine .nt (.region (.m Y (.fa Y Hj (.fa Y Gk (.u (.ld Y NI) (.oq (.c func158 [_, _, _] (PZ w _ _ e.subs p he.w.subs (fun y hy => ⟨he.w.sub hy, he.few.2.2 y hy⟩) ?hb24 he.few.1 (fun y hy => GJ (he.cs y hy).1 (he.cs y hy).2))) ?_))))))
 case hb24 => rw [hsb, length_append]; omega
 rintro v L' ⟨rfl, rfl⟩
 refine .nil (.done_n (.wrCast (w := w) (bs' := Bd e) O (by unfold Bd EP; simp only [append_assoc]) ?_))
 exact .vv
def MZ (m0 m1 m2 : Int) : List Value := [AA m0, AA m1, AA m2, AA 0, AU [], AU [], BK, AA 0, AA 0, AA 0, BK]
def WJ (b3 : Nat) (n0 n1 n2 : Int) : Nat → HP
 | 0 => Ar b3 (MZ 0 0 0) 42
 | 1 => Ar b3 (MZ n0 0 0) 42
 | 2 => Ar b3 (MZ n0 n1 0) 42
 | _ => Ar b3 (MZ n0 n1 n2) 42
theorem WL (b3 : Nat) (st : Rs) :
  ∀ j (hj : j < [(b3, 0), (b3, 1), (b3, 2)].length) (E : By) (x y : Operand) (ty : TypeId), ev E x = some (I1 [(b3, 0), (b3, 1), (b3, 2)][j]) → ev E y = some (AA (AP (Aa AP j st).2).1) →
  AI prog ⟨none, .store 3 x y, ty, "", #[], none⟩ E [WJ b3 (AP (Aa AP 0 st).2).1 (AP (Aa AP 1 st).2).1 (AP (Aa AP 2 st).2).1 j]
   fun _ L' => L' = [WJ b3 (AP (Aa AP 0 st).2).1 (AP (Aa AP 1 st).2).1 (AP (Aa AP 2 st).2).1 (j + 1)] := by
 intro j hj E x y ty hx hy
 match j, hj with
 | 0, _ => exact AI.store (off := 0) hx hy rfl BV (by simp [MZ]) (Bk _ _)
 | 1, _ => exact AI.store (off := 1) hx hy rfl BV (by simp [MZ]) (Bk _ _)
 | 2, _ => exact AI.store (off := 2) hx hy rfl BV (by simp [MZ]) (Bk _ _)
def H6 (v0 : Int) (v1 v2 : Bs) (v3 : Value) (m0 m1 : Int) : List Value := [AA v0, AU v1, AU v2, v3, AA m0, AA m1, AA 0, BK]
def Ox (b3 b4 : Nat) (v0 : Int) (v1 v2 : Bs) (v3 : Value) (n0 n1 n2 : Int) : Nat → HP
 | 0 => CG [Ar b3 (H6 v0 v1 v2 v3 0 0) 40, Ar b4 [AA 0] 3]
 | 1 => CG [Ar b3 (H6 v0 v1 v2 v3 n0 0) 40, Ar b4 [AA 0] 3]
 | 2 => CG [Ar b3 (H6 v0 v1 v2 v3 n0 n1) 40, Ar b4 [AA 0] 3]
 | _ => CG [Ar b3 (H6 v0 v1 v2 v3 n0 n1) 40, Ar b4 [AA n2] 3]
theorem T8 (b3 b4 : Nat) (v0 : Int) (v1 v2 : Bs) (v3 : Value) (st : Rs) :
  ∀ j (hj : j < [(b3, 4), (b3, 5), (b4, 0)].length) (E : By) (x y : Operand) (ty : TypeId), ev E x = some (I1 [(b3, 4), (b3, 5), (b4, 0)][j]) → ev E y = some (AA (AP (Aa AP j st).2).1) →
  AI prog ⟨none, .store 3 x y, ty, "", #[], none⟩ E [Ox b3 b4 v0 v1 v2 v3 (AP (Aa AP 0 st).2).1 (AP (Aa AP 1 st).2).1 (AP (Aa AP 2 st).2).1 j]
   fun _ L' => L' = [Ox b3 b4 v0 v1 v2 v3 (AP (Aa AP 0 st).2).1 (AP (Aa AP 1 st).2).1 (AP (Aa AP 2 st).2).1 (j + 1)] := by
 intro j hj E x y ty hx hy
 match j, hj with
 | 0, _ => exact AI.inL (AI.store (off := 4) hx hy rfl BV (by simp [H6]) (Bk _ _))
 | 1, _ => exact AI.inL (AI.store (off := 5) hx hy rfl BV (by simp [H6]) (Bk _ _))
 | 2, _ => exact AI.inR (AI.store (off := 0) hx hy rfl BV (by simp) (Bk _ _))
theorem RK (e : En) (p : HP) (he : Uy p e) : Fn prog 118 #[.agg (BX e).toArray, .func (.func 119) #[] #[]] [p] fun v L => v = AU (Bd e) ∧ L = [p] := by
 refine Fn.intro func118 Y Y fun F W => ?_
 refine .sr (.oq (.box Y) ?_)
 rintro v L' ⟨b2, rfl, rfl⟩
 refine .a Y (.nil (.ptCast (b := b2) (l' := BX e) O (by exact rfl) (.then_n (.sr (.oq (.c func101 [] (Mu)) ?_)))))
 rintro v L' ⟨cw, rfl, rfl⟩
 refine .an Y (.sm Y (.m Y (.q (.loadAs (vs := BX e) Y D3 O (by simp [BX, C5]) Y) Y (.oq (.callV func119 Y Y (us := []) (vs := [_, _]) (ws := []) Y Y (QN cw e p he)) ?_))))
 rintro v L' ⟨rfl, rfl⟩
 refine .nt (.sm Y (.cv func104 [_] (KM _ _) ?_))
 refine .an Y (.ret ?_)
 exact .vv
theorem TF (e : En) (p : HP) (he : Uy p e) : Fn prog 68 #[.agg (BX e).toArray] [p] fun v L => v = AU (Bd e) ∧ L = [p] := by
 refine Fn.intro func68 Y Y fun F W => ?_
 refine .sr (.oq (.box Y) ?_)
 rintro v L' ⟨b1, rfl, rfl⟩
 refine .a Y (.nil (.ptCast (b := b1) (l' := BX e) O (by exact rfl) (.then_n (.sr (.q (.loadAs (vs := BX e) Y D3 O (by simp [BX, C5]) Y) Y (.cv func118 [_, _] (RK e p he) ?_))))))
 refine .an Y (.ret ?_)
 exact .vv
theorem Ie (r : Nat) (st : Rs) : Fn prog 170 #[AG r] [Hq r st] fun v L => v = AU (A6 st).1 ∧ L = [Hq r (A6 st).2] := by
 refine Fn.intro func170 Y Y fun F W => ?_
 refine .sr (.an Y (.sm Y (.cv func186 [_, _] (Q8 r 4096 dQ st) ?_)))
 refine .an Y (.ret ?_)
 exact .vv
theorem Jx (r : Nat) (st : Rs) : Fn prog 169 #[AG r] [Hq r st] fun v L => v = AA (AP st).1 ∧ L = [Hq r (AP st).2] := S4 r st
theorem Ly (r : Nat) (st : Rs) (va : Value) (ad : List (Nat × Nat)) (q : HP) (hq : ∀ h : Hp, q h → B5 1 h va ad.length (ad.map I1)) (B : Nat → HP)
    (hB : ∀ j (hj : j < ad.length) (E : By) (x y : Operand) (ty : TypeId), ev E x = some (I1 ad[j]) → ev E y = some (AA (AP (Aa AP j st).2).1) → AI prog ⟨none, .store 3 x y, ty, "", #[], none⟩ E [B j] fun _ L' => L' = [B (j + 1)]) (hn : ad.length ≤ 1048576) :
    Fn prog 143 #[AG r, va] [Hq r st, q, B 0] fun v L => v = .tuple #[] ∧ L = [Hq r (Aa AP ad.length st).2, q, B ad.length] := by
 refine Fn.intro func143 Y Y fun F W => ?_
 refine .rdAny (p := q) hq O fun aa ca e0 _ => ?_
 subst e0
 refine .sm Y (.q (.slen Y underlying227 Y) Y (.m Y (.nt (.block (.loopK (ι := Nat) (fun q E => (8, AA q) :: E) (fun q => [Hq r (Aa AP q st).2, B q]) (fun q => q ≤ ad.length) (fun q => ad.length - q) (0) (ts := [0, 6, 7]) O (Nat.zero_le _) O O ?_)))))
 rintro j hj
 refine .sr (.ui Y Y Y (.nt (.seq (.condD Y (fun h9 => ?_) (fun h9 => ?_)))))
 ·have hj2 : j < ad.length := by omega
  refine .rdShape (p := q) hq O om fun ba oa e => ?_
  subst e
  refine .sk (.seq (.block (.sr (.q (.indexAddr Y Y Qq om) Y (.q (.loadEl (p := q) (i := j * 1) (v := I1 ad[j]) Y Z3 O hq (by simp [hj2])) Y (.an Y (.region (.m Y (.m Y (.cv func169 [_] (Jx r _) ?_))))))))))
  refine .u (.nilp Y) (.oq (hB j hj2 _ _ _ _ Y Y) ?_)
  rintro v L' rfl
  refine .nil (.blk_n (.then_n (.region (.q (.add Y Y om) Y (.m Y (.nt ?_))))))
  exact .rk (j + 1) om om O
 have hjj : j = ad.length := by omega
 rw [hjj]
 refine .exit (.then_e (.then_e (.blk_e (.done_n ?_))))
 exact .vv
theorem Q7 (r : Nat) (st : Rs) : Fn prog 172 #[AG r] [Hq r st] fun v L => v = .agg (Il (GC st).1).toArray ∧ L = [Hq r (GC st).2] := by
 refine Fn.intro func172 Y Y fun F W => ?_
 refine .sr (.oq (.allocA LZ) ?_)
 rintro v L' ⟨b2, rfl, rfl⟩
 refine .nt (.sm Y (.cv func169 [_] (Jx r st) ?_))
 refine .an Y (.sm Y (.m Y (.cv func170 [_] (Ie r _) ?_)))
 refine .q (.to (v' := .agg (Il (GC st).1).toArray) (.build (us := [(0, _), (1, _)]) Zx LZ Y Y (by simp [AD])) Y) Y (.sa Y Y Vq (by simp [Il, AD]) ?_)
 refine .nt (.ret (.ptCast (b := b2) (l' := Il (GC st).1) O (by exact rfl) ?_))
 exact .d1 Y (.cellA Y Ri O (by simp [Il]) Y) ⟨Y, Y⟩
theorem Ru (r : Nat) (st : Rs) : Fn prog 171 #[AG r, .func (.func 172) #[] #[]] [Hq r st] fun v L => ∃ a c, v = .slice a (Bh GC st).1.length c ∧ L = [Hq r (Bh GC st).2, AV 231 2 v (Bh GC st).1.length ((Bh GC st).1.flatMap Il)] := by
 refine Fn.intro func171 Y Y fun F W => ?_
 obtain ⟨m, hm⟩ : ∃ m, m = (Ic st).1 := ⟨_, rfl⟩
 obtain ⟨st1, hst1⟩ : ∃ s, s = (Ic st).2 := ⟨_, rfl⟩
 have hm2 := N6 st
 have hrow : Bh GC st = Aa GC m st1 := by rw [hm, hst1]; rfl
 have hml := I6 GC st1 m
 rw [hrow, hml]
 refine .sr (.an Y (.seq (.add (Ak 231 2) (.region (.an Y (.seq (.sm Y (.oq (.c func173 [_, _] (J8 r 256 dQ st)) ?_))))))))
 rintro v L' ⟨rfl, rfl⟩; rw [show (BY 0 (D7 256) st).1 = m from hm.symm, show (BY 0 (D7 256) st).2 = st1 from hst1.symm]
 refine .m Y (.nt (.block (.loopK (ι := Nat × Value) (fun q E => (8, AA q.1) :: (5, q.2) :: E) (fun q => [Hq r (Aa GC q.1 st1).2, AV 231 2 q.2 q.1 ((Aa GC q.1 st1).1.flatMap Il)]) (fun q => q.1 ≤ m ∧ ∃ a c, q.2 = .slice a q.1 c) (fun q => m - q.1) (0, .slice none 0 0) (ts := [0, 1, 4, 7]) O (⟨Nat.zero_le _, none, 0, Y⟩) O O ?_)))
 rintro ⟨j, u⟩ ⟨hj, au, cu, hu⟩
 dsimp only
 dsimp only at hj hu
 subst hu
 refine .sr (.ui Y Y Y (.nt (.seq (.condD Y (fun h9 => ?_) (fun h9 => ?_)))))
 ·have hj2 : j < m := by omega
  refine .sk (.seq (.block (.region (.m Y (.m Y (.m Y (.oq (.callV func172 Y Y (us := []) (vs := [_]) (ws := []) Y Y (Q7 r _)) ?_)))))))
  rintro v L' ⟨rfl, rfl⟩
  refine .oq (.buildSlice (vs := [_]) PW LZ Y Y Y Y cQ dQ) ?_
  rintro v L' ⟨b4, rfl, rfl⟩
  refine .oq (.append1 Y Y Y PW LZ Y Y ?c15 ?c16 (Nat.le_refl _) ?c17 dQ) ?_
  case c15 => simp only [map_cons, map_nil, flatten_cons, flatten_nil, append_nil]; simp [Value.cells, Il, AD]
  case c16 => rfl
  case c17 => omega
  rintro v L' ⟨⟨a5, c5, rfl⟩, rfl⟩
  refine .a Y (.nil (.blk_n (.then_n (.region (.q (.add Y Y om) Y (.m Y (.nt (.slCast (T := 231) (sz := 2) (m' := j + 1) (xs' := (Aa GC (j + 1) st1).1.flatMap Il) O (by exact rfl) (by show _ = ((Aa GC j st1).1 ++ [_]).flatMap Il; rw [flatMap_append]; simp [Value.cells, Il]) ?_))))))))
  exact .rk ((j + 1, .slice a5 (j + 1) c5)) (⟨by dsimp only; omega, _, _, rfl⟩) (by dsimp only; omega) O
 have hjj : j = m := by omega
 subst hjj
 refine .xe (.sm Y (.an Y (.ret ?_)))
 exact .dn Y Y ⟨_, _, Y, Y⟩
theorem J7 (r : Nat) (st : Rs) : Fn prog 144 #[AG r] [Hq r st] fun v L => ∃ aa ca, v = .agg (C5 ((I9 st).1.wa (.slice aa (I9 st).1.acl.length ca))).toArray ∧ L = [Hq r (I9 st).2, KR ((I9 st).1.wa (.slice aa (I9 st).1.acl.length ca))] := by
 refine Fn.intro func144 Y Y fun F W => ?_
 refine .sr (.oq (.allocA Kr) ?_)
 rintro v L' ⟨b2, rfl, rfl⟩
 refine .nt (.sr (.oq (.allocA Kr) ?_))
 rintro v L' ⟨b3, rfl, rfl⟩
 refine .nt (.sm Y (.cv func169 [_] (Jx r st) ?_))
 refine .fa Y Nv (.st Y Y Y BV ?_)
 refine .nt (.sm Y (.cv func170 [_] (Ie r _) ?_))
 refine .fa Y OW (.st Y Y Y Wt ?_)
 refine .nt (.sm Y (.cv func170 [_] (Ie r _) ?_))
 refine .fa Y Ng (.st Y Y Y Wt ?_)
 refine .nt (.sm Y (.oq (.c func171 [_, _] (Ru r _)) ?_))
 rintro v L' ⟨aa, ca, rfl, rfl⟩
 refine .fa Y OF (.st Y Y Y Z9 ?_)
 refine .nt (.sr (.oq (.alloc Fk) ?_))
 rintro v L' ⟨b4, rfl, rfl⟩
 refine .nt (.sm Y (.fa Y Oc (.fa Y OK (.oq (.buildSlice1 (vs := [_, _, _]) Qq WN Y Y Y Y Y dQ) ?_))))
 rintro v L' ⟨b5, rfl, rfl⟩
 refine .slMake (b := b5) (n := 3) (c := 3) (xs := [(b3, 4), (b3, 5), (b4, 0)].map I1) O dQ (by simp) Y (.ptCast (b := b3) (l' := H6 (AP st).1 (A6 (AP st).2).1 (A6 (A6 (AP st).2).2).1 (.slice aa (Bh GC (A6 (A6 (AP st).2).2).2).1.length ca) 0 0) O (by exact rfl) (.fold (p := Ox b3 b4 (AP st).1 (A6 (AP st).2).1 (A6 (A6 (AP st).2).2).1 (.slice aa (Bh GC (A6 (A6 (AP st).2).2).2).1.length ca) (AP (Aa AP 0 (Bh GC (A6 (A6 (AP st).2).2).2).2).2).1 (AP (Aa AP 1 (Bh GC (A6 (A6 (AP st).2).2).2).2).2).1 (AP (Aa AP 2 (Bh GC (A6 (A6 (AP st).2).2).2).2).2).1 0) (q := [Ar b3 (H6 (AP st).1 (A6 (AP st).2).1 (A6 (A6 (AP st).2).2).1 (.slice aa (Bh GC (A6 (A6 (AP st).2).2).2).1.length ca) 0 0) 40, Ar b4 [AA 0] 3]) O (fun _ hp => hp) ?_))
 refine .oq (.call func143 Y Y (vs := [_, _]) Y (Ly r (Bh GC (A6 (A6 (AP st).2).2).2).2 _ [(b3, 4), (b3, 5), (b4, 0)] (AV 200 1 (.slice (some ⟨b5, 0, none⟩) 3 3) 3 ([(b3, 4), (b3, 5), (b4, 0)].map I1)) (fun h hp => AE hp) (Ox b3 b4 (AP st).1 (A6 (AP st).2).1 (A6 (A6 (AP st).2).2).1 (.slice aa (Bh GC (A6 (A6 (AP st).2).2).2).1.length ca) (AP (Aa AP 0 (Bh GC (A6 (A6 (AP st).2).2).2).2).2).1 (AP (Aa AP 1 (Bh GC (A6 (A6 (AP st).2).2).2).2).2).1 (AP (Aa AP 2 (Bh GC (A6 (A6 (AP st).2).2).2).2).2).1) ?hB40 (by simp))) ?_
 case hB40 => exact T8 b3 b4 _ _ _ _ _
 rintro v L' ⟨rfl, rfl⟩
 refine .nil (.focus (p := Ox b3 b4 (AP st).1 (A6 (AP st).2).1 (A6 (A6 (AP st).2).2).1 (.slice aa (Bh GC (A6 (A6 (AP st).2).2).2).1.length ca) (AP (Aa AP 0 (Bh GC (A6 (A6 (AP st).2).2).2).2).2).1 (AP (Aa AP 1 (Bh GC (A6 (A6 (AP st).2).2).2).2).2).1 (AP (Aa AP 2 (Bh GC (A6 (A6 (AP st).2).2).2).2).2).1 3) O (.unfold (q := [Ar b3 (H6 (AP st).1 (A6 (AP st).2).1 (A6 (A6 (AP st).2).2).1 (.slice aa (Bh GC (A6 (A6 (AP st).2).2).2).1.length ca) (AP (Aa AP 0 (Bh GC (A6 (A6 (AP st).2).2).2).2).2).1 (AP (Aa AP 1 (Bh GC (A6 (A6 (AP st).2).2).2).2).2).1) 40, Ar b4 [AA (AP (Aa AP 2 (Bh GC (A6 (A6 (AP st).2).2).2).2).2).1] 3]) (fun _ hp => hp) ?_))
 simp only [cons_append, nil_append]
 refine .then_n (.sr (.u (.ld Y AF) (.fa Y Nc (.oq (.store Y Y Y CD ?c45 (Bk _ _)) ?_))))
 case c45 => simp [H6]
 rintro v L' rfl
 refine .nil (.ptCast (b := b3) (l' := C5 ((I9 st).1.wa (.slice aa (Bh GC (A6 (A6 (AP st).2).2).2).1.length ca))) O (by exact rfl) (.then_n (.sr (.q (.loadAs (vs := C5 ((I9 st).1.wa (.slice aa (Bh GC (A6 (A6 (AP st).2).2).2).1.length ca))) Y IF O (by simp [C5]) Y) Y (.sa Y Y WP (by exact GJ rfl rfl) ?_)))))
 refine .nt (.ret (.ptCast (b := b2) (l' := C5 ((I9 st).1.wa (.slice aa (Bh GC (A6 (A6 (AP st).2).2).2).1.length ca))) O (by exact rfl) ?_))
 exact .d1 Y (.cellA Y IF O (by simp [C5]) Y) ⟨_, _, Y, Y⟩
structure Sg (e : En) : Prop where
 x : AD e.x.aclV = true ∧ AD e.x.subsV = true
 subs : ∀ y ∈ e.subs, AD y.aclV = true ∧ y.subsV = BK
theorem Sg.cells {e : En} (h : Sg e) : ∀ v ∈ BX e, AD v = true := by
 intro v hv
 unfold BX at hv
 rcases mem_append.1 hv with hv | hv
 ·simp at hv; rcases hv with rfl | rfl | rfl <;> rfl
 ·exact GJ h.x.1 h.x.2 v hv
def pt0 : Pt := ⟨0, [], [], BK, [], 0, 0, 0, BK⟩
def Yl : En := ⟨0, 0, 0, pt0, []⟩
theorem Zk : ∀ h, entR Yl h := fun h => ⟨fun _ => none, h, fun _ => .inl rfl, fun _ _ e => (by cases e), fun _ _ e => e, Ak _ _ _, fun _ => none, h, fun _ => .inl rfl, fun _ _ e => (by cases e), fun _ _ e => e, Ak _ _ _, fun _ => none, h, fun _ => .inl rfl, fun _ _ e => (by cases e), fun _ _ e => e, trivial, trivial⟩
def TG (s : Bs) (e : En) (er : Int) : Prop := (er = 0 ∧ ET s = some e.pl ∧ Sg e) ∨ (er = 120 ∧ ET s = none ∧ e = Yl)
theorem Oz (r : Nat) (st : Rs) : Fn prog 145 #[AG r, .func (.func 144) #[] #[]] [Hq r st] fun v L => ∃ a c, ∃ ys : List Pt, ys.map Pt.pl = (Bh I9 st).1 ∧ (∀ y ∈ ys, AD y.aclV = true ∧ y.subsV = BK) ∧ v = .slice a ys.length c ∧ L = [Hq r (Bh I9 st).2, AV 40 8 v ys.length (ys.flatMap C5), Aj KR ys] := by
 refine Fn.intro func145 Y Y fun F W => ?_
 obtain ⟨m, hm⟩ : ∃ m, m = (Ic st).1 := ⟨_, rfl⟩
 obtain ⟨st1, hst1⟩ : ∃ s, s = (Ic st).2 := ⟨_, rfl⟩
 have hm2 := N6 st
 have hrow : Bh I9 st = Aa I9 m st1 := by rw [hm, hst1]; rfl
 rw [hrow]
 refine .sr (.an Y (.seq (.add (Ak 40 8) (.add (p := Aj KR []) (fun h => Iv h) (.region (.an Y (.seq (.sm Y (.oq (.c func173 [_, _] (J8 r 256 dQ st)) ?_)))))))))
 rintro v L' ⟨rfl, rfl⟩; rw [show (BY 0 (D7 256) st).1 = m from hm.symm, show (BY 0 (D7 256) st).2 = st1 from hst1.symm]
 refine .m Y (.nt (.block (.loopK (ι := Nat × Value × (List Pt)) (fun q E => (8, AA q.1) :: (5, q.2.1) :: E) (fun q => [Hq r (Aa I9 q.1 st1).2, AV 40 8 q.2.1 q.1 (q.2.2.flatMap C5), Aj KR q.2.2]) (fun q => q.1 ≤ m ∧ (∃ a c, q.2.1 = .slice a q.1 c) ∧ q.2.2.map Pt.pl = (Aa I9 q.1 st1).1 ∧ ∀ y ∈ q.2.2, AD y.aclV = true ∧ y.subsV = BK) (fun q => m - q.1) (0, .slice none 0 0, []) (ts := [0, 1, 4, 7]) O (⟨Nat.zero_le _, ⟨none, 0, Y⟩, Y, fun y hy => by cases hy⟩) O O ?_)))
 rintro ⟨j, u, ys⟩ ⟨hj, ⟨au, cu, hu⟩, hys, hyc⟩
 dsimp only
 dsimp only at hj hu hys hyc
 subst hu
 refine .sr (.ui Y Y Y (.nt (.seq (.condD Y (fun h9 => ?_) (fun h9 => ?_)))))
 ·have hj2 : j < m := by omega
  refine .sk (.seq (.block (.region (.m Y (.m Y (.m Y (.oq (.callV func144 Y Y (us := []) (vs := [_]) (ws := []) Y Y (J7 r _)) ?_)))))))
  rintro v L' ⟨ab, cb, rfl, rfl⟩; obtain ⟨y, hy⟩ : ∃ y : Pt, y = ((I9 (Aa I9 j st1).2).1.wa (.slice ab (I9 (Aa I9 j st1).2).1.acl.length cb)) := ⟨_, rfl⟩; rw [← hy]; have hyk : AD y.aclV = true ∧ y.subsV = BK := by (rw [hy]; exact ⟨rfl, rfl⟩)
  refine .oq (.buildSlice (vs := [_]) Ow Kr Y Y Y Y cQ dQ) ?_
  rintro v L' ⟨b4, rfl, rfl⟩
  refine .oq (.append1 Y Y Y Ow Kr Y Y ?c15 ?c16 (Nat.le_refl _) ?c17 dQ) ?_
  case c15 => simp only [map_cons, map_nil, flatten_cons, flatten_nil, append_nil]; simp only [Value.cells]; intro z hz; exact GJ (y := y) hyk.1 (by rw [hyk.2]; rfl) z (by simpa using hz)
  case c16 => rfl
  case c17 => omega
  rintro v L' ⟨⟨a5, c5, rfl⟩, rfl⟩
  refine .a Y (.nil (.blk_n (.then_n (.region (.q (.add Y Y om) Y (.m Y (.nt (.bigAdd (f := KR) (l := ys) (p := KR y) y Y O (.slCast (T := 40) (sz := 8) (m' := j + 1) (xs' := (ys ++ [y]).flatMap C5) O (by exact rfl) (by rw [flatMap_append]; simp [Value.cells]) ?_)))))))))
  exact .rk ((j + 1, .slice a5 (j + 1) c5, ys ++ [y])) (⟨by dsimp only; omega, ⟨_, _, rfl⟩, by show (ys ++ [y]).map Pt.pl = (Aa I9 j st1).1 ++ [_]; rw [map_append, hys, hy]; rfl, fun z hz => by rcases mem_append.1 hz with hz | hz; exact hyc z hz; rw [mem_singleton] at hz; subst hz; rw [hy]; exact ⟨rfl, rfl⟩⟩) (by dsimp only; omega) O
 have hjj : j = m := by omega
 subst hjj
 have hyl : ys.length = j := by have h := congrArg List.length hys; rw [length_map, I6] at h; exact h
 refine .slCast (T := 40) (sz := 8) (m' := ys.length) (xs' := ys.flatMap C5) O (by rw [hyl]) Y (.xe (.sm Y (.an Y (.ret ?_))))
 exact .dn Y Y ⟨au, cu, ys, hys, hyc, by rw [hyl], rfl⟩
theorem Rd (r : Nat) (st : Rs) : Fn prog 93 #[AG r] [Hq r st] fun v L => ∃ e : En, e.pl = (Ub st).1 ∧ Sg e ∧ v = .agg (BX e).toArray ∧ L = [Hq r (Ub st).2, entR e] := by
 refine Fn.intro func93 Y Y fun F W => ?_
 refine .sr (.oq (.allocA Et) ?_)
 rintro v L' ⟨b2, rfl, rfl⟩
 refine .nt (.sr (.oq (.allocA Et) ?_))
 rintro v L' ⟨b3, rfl, rfl⟩
 refine .nil (.ptCast (b := b3) (l' := MZ 0 0 0) O Y (.fold (p := WJ b3 (AP (Aa AP 0 st).2).1 (AP (Aa AP 1 st).2).1 (AP (Aa AP 2 st).2).1 0) (q := [Ar b3 (MZ 0 0 0) 42]) O (fun _ hp => (XG hp)) (.then_n (.sm Y (.fa Y EH (.fa Y OI (.fa Y No (.oq (.buildSlice1 (vs := [_, _, _]) Qq WN Y Y Y Y Y dQ) ?_))))))))
 rintro v L' ⟨b5, rfl, rfl⟩
 refine .slMake (b := b5) (n := 3) (c := 3) (xs := [(b3, 0), (b3, 1), (b3, 2)].map I1) O dQ (by simp) Y (.oq (.call func143 Y Y (vs := [_, _]) Y (Ly r st _ [(b3, 0), (b3, 1), (b3, 2)] (AV 200 1 (.slice (some ⟨b5, 0, none⟩) 3 3) 3 ([(b3, 0), (b3, 1), (b3, 2)].map I1)) (fun h hp => AE hp) (WJ b3 (AP (Aa AP 0 st).2).1 (AP (Aa AP 1 st).2).1 (AP (Aa AP 2 st).2).1) ?hB11 (by simp))) ?_)
 case hB11 => exact WL b3 st
 rintro v L' ⟨rfl, rfl⟩
 refine .nil (.focus (p := WJ b3 (AP (Aa AP 0 st).2).1 (AP (Aa AP 1 st).2).1 (AP (Aa AP 2 st).2).1 3) O (.unfold (q := [Ar b3 (MZ (AP (Aa AP 0 st).2).1 (AP (Aa AP 1 st).2).1 (AP (Aa AP 2 st).2).1) 42]) (fun _ hp => X3 hp) ?_))
 simp only [cons_append, nil_append]
 refine .then_n (.sm Y (.oq (.c func144 [_] (J7 r (Aa AP 3 st).2)) ?_))
 rintro v L' ⟨ab, cb, rfl, rfl⟩; obtain ⟨y, hy⟩ : ∃ y : Pt, y = ((I9 (Aa AP 3 st).2).1.wa (.slice ab (I9 (Aa AP 3 st).2).1.acl.length cb)) := ⟨_, rfl⟩; rw [← hy]; have hyk : AD y.aclV = true ∧ y.subsV = BK := by (rw [hy]; exact ⟨rfl, rfl⟩)
 refine .fa Y Hj (.sa Y Y WP (by exact GJ (y := y) hyk.1 (by rw [hyk.2]; rfl)) ?_)
 refine .nil (.ptCast (b := b3) (l' := [AA (AP (Aa AP 0 st).2).1, AA (AP (Aa AP 1 st).2).1, AA (AP (Aa AP 2 st).2).1] ++ C5 y) O (by exact rfl) (.then_n (.sm Y (.oq (.c func145 [_, _] (Oz r _)) ?_))))
 rintro v L' ⟨sa, sc, ys, hys, hyc, rfl, rfl⟩
 refine .fa Y Hj (.fa Y Gk (.oq (.store Y Y Y AAb ?c28 (Bk _ _)) ?_))
 case c28 => simp [C5]
 rintro v L' rfl
 refine .nil ?_
 obtain ⟨e, he⟩ : ∃ e : En, e = (⟨(AP (Aa AP 0 st).2).1, (AP (Aa AP 1 st).2).1, (AP (Aa AP 2 st).2).1, y.ws (.slice sa ys.length sc), ys⟩ : En) := ⟨_, rfl⟩
 have hek : Sg e := by rw [he]; exact ⟨⟨hyk.1, rfl⟩, hyc⟩
 refine .ptCast (b := b3) (l' := BX e) O (by rw [he]; rfl) (.fold (p := entR e) (q := [KR y, AV 40 8 (.slice sa ys.length sc) ys.length (ys.flatMap C5), Aj KR ys]) O (fun _ hp => by rw [he]; exact hp) (.then_n (.sr (.q (.loadAs (vs := BX e) rfl D3 O (by simp [BX, C5]) rfl) rfl (.sa rfl rfl H9 (by exact hek.cells) ?_)))))
 refine .nt (.ret (.ptCast (b := b2) (l' := BX e) O (by exact rfl) ?_))
 exact .d1 Y (.cellA Y D3 O (by simp [BX, C5]) Y) ⟨e, by rw [he]; unfold En.pl; dsimp only; rw [hys, hy]; rfl, hek, rfl, rfl⟩
theorem YS {s : Bs} (h : ¬ (Ub (some s)).2 = some []) : ET s = none := by
 unfold ET UX
 split
 ·rename_i q hq; rw [hq] at h; exact absurd rfl h
 ·rfl
theorem ZL {s : Bs} (h : (Ub (some s)).2 = some []) : ET s = some (Ub (some s)).1 := by
 unfold ET UX
 split
 ·rename_i q hq; rw [hq]
 ·rename_i h2; exact absurd (show Ub (some s) = ((Ub (some s)).1, some []) by rw [← h]) (h2 _)
theorem Rh (s : Bs) (hs : s.length ≤ 2147483648) : Fn prog 92 #[AU s, .func (.func 93) #[] #[]] [] fun v L => ∃ e er, TG s e er ∧ v = .tuple #[.agg (BX e).toArray, AA er] ∧ L = [entR e] := by
 refine Fn.intro func92 Y Y fun F W => ?_
 refine .sr (.oq (.allocA Et) ?_)
 rintro v L' ⟨b4, rfl, rfl⟩
 refine .an Y (.sm Y (.oq (.c func141 [_] (R7 s om)) ?_))
 rintro v L' ⟨r, rfl, rfl⟩
 refine .an Y (.sm Y (.m Y (.oq (.callV func93 Y Y (us := []) (vs := [_]) (ws := []) Y Y (Rd r (some s))) ?_)))
 rintro v L' ⟨e, hpl, hek, rfl, rfl⟩
 refine .oq (.allocA Et) ?_
 rintro v L' ⟨b7, rfl, rfl⟩
 refine .sa Y Y H9 (by exact hek.cells) ?_
 refine .nil (.ptCast (b := b7) (l' := BX e) O (by exact rfl) (.then_n (.seq (.sm Y (.oq (.c func142 [_] (UQ r _)) ?_)))))
 rintro v L' ⟨e1, he1, rfl, st', rfl⟩
 refine .ui Y Y Y (.nt (.condN Y (fun h16 => ?_) (fun h16 => ?_)))
 ·refine .sr (.oq (.allocA Et) ?_)
  rintro v L' ⟨b8, rfl, rfl⟩
  refine .nil (.ptCast (b := b8) (l' := BX Yl) O (by exact rfl) (.add Zk (.then_n (.sr (.q (.loadAs (vs := BX Yl) Y D3 O (by simp [BX, C5]) Y) Y (.sa Y Y H9 dQ ?_))))))
  refine .a Y (.nil (.ptCast (b := b4) (l' := BX Yl) O (by exact rfl) (.then_n (.rt ?_))))
  exact .d2 Y (.cellA Y D3 O (by simp [BX, C5]) Y) (.tmp Y) ⟨Yl, 120, .inr ⟨Y, YS (fun g => h16 (he1.2 g)), Y⟩, Y, Y⟩
 refine .sk (.sr (.q (.loadAs (vs := BX e) Y D3 O (by simp [BX, C5]) Y) Y (.sa Y Y H9 (by exact hek.cells) ?_)))
 refine .a Y (.nil (.ptCast (b := b4) (l' := BX e) O (by exact rfl) (.then_n (.ret ?_))))
 exact .d2 Y (.cellA Y D3 O (by simp [BX, C5]) Y) (.tmp Y) ⟨e, 0, .inl ⟨Y, by rw [hpl]; exact ZL (he1.1 h16), hek⟩, rfl, rfl⟩
theorem TG.cells {s : Bs} {e : En} {er : Int} (h : TG s e er) : ∀ v ∈ BX e, AD v = true := by
 rcases h with ⟨-, -, h⟩ | ⟨-, -, rfl⟩
 ·exact h.cells
 ·decide
theorem Mw (s : Bs) (hs : s.length ≤ 2147483648) : Fn prog 57 #[AU s] [] fun v L => ∃ e er, TG s e er ∧ v = .tuple #[.agg (BX e).toArray, AA er] ∧ L = [entR e] := by
 refine Fn.intro func57 Y Y fun F W => ?_
 refine .sr (.oq (.allocA Et) ?_)
 rintro v L' ⟨b2, rfl, rfl⟩
 refine .an Y (.sm Y (.oq (.c func92 [_, _] (Rh s hs)) ?_))
 rintro v L' ⟨e, er, hg, rfl, rfl⟩
 refine .ex Y Y (.ex Y Y (.sa Y Y H9 (by exact hg.cells) ?_))
 refine .a Y (.nil (.ptCast (b := b2) (l' := BX e) O (by exact rfl) (.then_n (.ret ?_))))
 exact .d2 Y (.cellA Y D3 O (by simp [BX, C5]) Y) (.tmp Y) ⟨e, er, hg, Y, Y⟩
def zs : List UInt8 := List.replicate 64 0
theorem MN : zs.length = 64 := rfl
structure Dk where
 now : List (List UInt8)
 old : List (Int × List UInt8)
 acts : Int
 left : Int
 dead : Bool
structure Dk.Ok (δ : Dk) : Prop where
 sec : ∀ s ∈ δ.now, s.length = 64
 olds : ∀ x ∈ δ.old, x.2.length = 64 ∧ 0 ≤ x.1 ∧ x.1 < δ.now.length
 nodup : (δ.old.map (·.1)).Nodup
 big : δ.now.length ≤ 32768
 acts0 : 0 ≤ δ.acts
 left0 : 0 ≤ δ.left ∧ δ.left ≤ 9223372036854775807
abbrev Oo (s : List UInt8) : List Value := s.map Bx
def Zn (s : List UInt8) : Value := .agg (Oo s).toArray
def DH (l : List (List UInt8)) : List Value := l.flatMap Oo
def Ml (m : List (Int × List UInt8)) : List (Value × Value) := m.map fun x => (AA x.1, Zn x.2)
theorem MO (s : List UInt8) : ∀ v ∈ Oo s, AD v = true := by simp [AD]
theorem Nz {l : List (List UInt8)} (h : ∀ s ∈ l, s.length = 64) : (DH l).length = l.length * 64 := by
 induction l with
 | nil => rfl
 | cons s l ih => simp [DH] at *; rw [ih h.2, h.1]; omega
theorem Wq {l : List (List UInt8)} (h : ∀ s ∈ l, s.length = 64) {n : Nat} (hn : n < l.length) : ((DH l).drop (n * 64)).take 64 = Oo l[n] := by
 induction l generalizing n with
 | nil => simp at hn
 | cons s l ih =>
  have hs := h s (by simp)
  have hl : ∀ t ∈ l, t.length = 64 := fun t ht => h t (mem_cons_of_mem _ ht)
  cases n with
  | zero => simp [DH, take_append, hs]
  | succ n =>
   have : (n + 1) * 64 = s.length + n * 64 := by omega
   rw [show DH (s :: l) = Oo s ++ DH l from by simp [DH], this]
   rw [drop_append, drop_eq_nil_of_le (by simp), nil_append]
   simp only [length_map, Nat.add_sub_cancel_left]
   exact ih hl (by simpa using hn)
theorem NQ {l : List (List UInt8)} (h : ∀ s ∈ l, s.length = 64) {n : Nat} (hn : n < l.length) {t : List UInt8} (ht : t.length = 64) : HJ (DH l) (n * 64) (Oo t) = DH (l.set n t) := by
 induction l generalizing n with
 | nil => simp at hn
 | cons s l ih =>
  have hs := h s (by simp)
  have hl : ∀ t ∈ l, t.length = 64 := fun t ht => h t (mem_cons_of_mem _ ht)
  cases n with
  | zero =>
   simp only [Nat.zero_mul, set_cons_zero]
   simp [HJ, DH, ht, hs, drop_append]
  | succ n =>
   have e : (n + 1) * 64 = s.length + n * 64 := by omega
   have := ih hl (n := n) (by simpa using hn)
   simp only [set_cons_succ]
   rw [show DH (s :: l) = Oo s ++ DH l from by simp [DH], show DH (s :: l.set n t) = Oo s ++ DH (l.set n t) from by simp [DH], ← this, e]
   simp [HJ, take_append, drop_append, take_of_length_le, drop_eq_nil_of_le, Nat.add_sub_cancel_left, Nat.add_assoc]
def Bg (d : Nat) (δ : Dk) : HP := fun h => ∃ x : Nat × Nat, δ.Ok ∧
 CG [Ar d [.slice (some ⟨x.1, 0, none⟩) δ.now.length δ.now.length, .map (some x.2), AA δ.acts, AA δ.left, .bool δ.dead] 117,
  Ar x.1 (DH δ.now) 204, mapR x.2 (Ml δ.old)] h
section
variable {W : World} {n : Nat} {ds : List Deferred} {E : By} {L R : List HP} {X : Act → World → Prop}
theorem G.dkOpen {d : Nat} {δ : Dk} (hL : BT (Bg d δ) L R) (h : ∀ nb ob, δ.Ok → G W n ds E (Ar d [.slice (some ⟨nb, 0, none⟩) δ.now.length δ.now.length, .map (some ob), AA δ.acts, AA δ.left, .bool δ.dead] 117 ::
  Ar nb (DH δ.now) 204 :: mapR ob (Ml δ.old) :: R) X) : G W n ds E L X :=
 G.focus hL (G.open (q := fun x : Nat × Nat => [Ar d [.slice (some ⟨x.1, 0, none⟩) δ.now.length δ.now.length, .map (some x.2), AA δ.acts, AA δ.left, .bool δ.dead] 117,
  Ar x.1 (DH δ.now) 204, mapR x.2 (Ml δ.old)]) (φ := fun _ => δ.Ok) (fun _ hp => hp) fun x hx => h x.1 x.2 hx)
theorem G.dkFold {d nb ob : Nat} {δ : Dk} {l l1 : List Value} {ents : List (Value × Value)} (hL : Am [Ar d l 117, Ar nb l1 204, mapR ob ents] L R)
  (h1 : l = [.slice (some ⟨nb, 0, none⟩) δ.now.length δ.now.length, .map (some ob), AA δ.acts, AA δ.left, .bool δ.dead]) (h2 : l1 = DH δ.now) (h3 : ents = Ml δ.old) (hok : δ.Ok)
  (h : G W n ds E (Bg d δ :: R) X) : G W n ds E L X := by
 subst h1; subst h2; subst h3
 exact G.fold hL (fun _ hp => ⟨(nb, ob), hok, hp⟩) h
end
def Dk.new (n : Int) : Dk := ⟨List.replicate n.toNat zs, [], 0, 0, false⟩
def actE (left : Int) : Int := if left = 0 then 0 else if left - 1 > 0 then 0 else 2
def Ii (left : Int) : Int := if left = 0 then 0 else left - 1
def JS (left : Int) (dead : Bool) : Bool := if left = 0 then dead else if left - 1 > 0 then dead else true
def Dk.act (δ : Dk) : Dk × Int := ({ δ with acts := δ.acts + 1, left := Ii δ.left, dead := JS δ.left δ.dead }, actE δ.left)
def Dk.has (δ : Dk) (n : Int) : Bool := decide (0 ≤ n) && decide (n < δ.now.length)
def Dk.read (δ : Dk) (n : Int) : List UInt8 × Int :=
 if δ.dead then ([], 2) else if δ.has n = false then ([], 20) else (δ.now.getD n.toNat [], 0)
def Dk.put (δ : Dk) (n : Int) (s : List UInt8) : Dk :=
 { δ with now := δ.now.set n.toNat s, old := if (BA δ.old n).isSome then δ.old else MX δ.old n (δ.now.getD n.toNat []) }
def Dk.write (δ : Dk) (n : Int) (s : List UInt8) : Dk × Int :=
 if δ.dead then (δ, 2) else if δ.has n = false ∨ s.length ≠ 64 then (δ, 20) else (δ.put n s).act
def Dk.sync (δ : Dk) : Dk × Int :=
 if δ.dead then (δ, 2) else if δ.act.2 = 0 then ({ δ.act.1 with old := [] }, 0) else (δ.act.1, δ.act.2)
theorem Dk.Ok.acted {δ : Dk} (h : δ.Ok) : δ.act.1.Ok := by
 obtain ⟨a, b, c, d, e, f⟩ := h
 refine ⟨a, b, c, d, by simp [Dk.act]; omega, ?_⟩
 simp only [Dk.act, Ii]
 split <;> omega
theorem S5 {β : Type} {m : List (Int × β)} {k : Int} {b : β} (h : BA m k = some b) : (k, b) ∈ m := by
 induction m with
 | nil => cases h
 | cons x m ih =>
  obtain ⟨a, c⟩ := x
  by_cases hk : k = a
  ·subst hk; simp [BA] at h; simp [h]
  ·simp [BA, hk] at h; exact mem_cons_of_mem _ (ih h)
theorem Q6 {β : Type} {m : List (Int × β)} {k : Int} (h : BA m k = none) : k ∉ m.map (·.1) := by
 induction m with
 | nil => simp
 | cons x m ih =>
  obtain ⟨a, c⟩ := x
  by_cases hk : k = a
  ·subst hk; simp [BA] at h
  ·simp [BA, hk] at h; simp [hk, ih h]
theorem Oh {δ : Dk} {n : Int} (h : δ.has n = true) : 0 ≤ n ∧ n < δ.now.length ∧ n.toNat < δ.now.length := by
 simp [Dk.has] at h; omega
theorem Dk.Ok.putOk {δ : Dk} (h : δ.Ok) {n : Int} {s : List UInt8} (hn : δ.has n = true) (hs : s.length = 64) : (δ.put n s).Ok := by
 obtain ⟨a, b, c, d, e, f⟩ := h
 obtain ⟨h0, h1, h2⟩ := Oh hn
 have hget : δ.now.getD n.toNat [] = δ.now[n.toNat] := by simp [h2]
 refine ⟨fun t ht => ?_, fun x hx => ?_, ?_, by simpa [Dk.put] using d, e, f⟩
 ·simp only [Dk.put] at ht
  rcases mem_or_eq_of_mem_set ht with ht | rfl
  ·exact a t ht
  ·exact hs
 ·simp only [Dk.put, length_set] at hx ⊢
  split at hx
  ·exact b x hx
  ·rename_i hn'
   rw [Ho (by simpa using hn')] at hx
   simp only [mem_append, mem_singleton] at hx
   rcases hx with hx | rfl
   ·exact b x hx
   ·exact ⟨by rw [hget]; exact a _ (getElem_mem _), h0, h1⟩
 ·simp only [Dk.put]
  split
  ·exact c
  ·rename_i hn'
   have hn' : BA δ.old n = none := by simpa using hn'
   rw [Ho hn', map_append]
   refine nodup_append.2 ⟨c, by simp, fun a ha b hb => ?_⟩
   simp at hb; subst hb
   exact fun hab => Q6 hn' (hab ▸ ha)
theorem Dk.Ok.cleared {δ : Dk} (h : δ.Ok) : ({ δ with old := [] } : Dk).Ok := ⟨h.sec, by simp, by simp, h.big, h.acts0, h.left0⟩
def Hd (x : Int) : UInt8 := UInt8.ofNat (x % 256).toNat
def Br (n : Int) : Nat → Bs
 | 0 => []
 | k + 1 => Br (n / 256) k ++ [Hd n]
theorem AN (k : Nat) : ∀ n, (Br n k).length = k := by
 induction k with
 | zero => intro n; rfl
 | succ k ih => intro n; simp [Br, ih]
theorem Y8 (k : Nat) : ∀ (n : Int) (i : Nat), i < k → (Br n k)[k - 1 - i]? = some (Hd (n / 256 ^ i)) := by
 induction k with
 | zero => intro n i h; omega
 | succ k ih =>
  intro n i h
  simp only [Br]
  cases i with
  | zero =>
   rw [List.getElem?_append_right (by rw [AN]; omega), AN]
   simp
  | succ i =>
   have := ih (n / 256) i om
   rw [List.getElem?_append_left (by rw [AN]; omega), show k + 1 - 1 - (i + 1) = k - 1 - i by omega, this, Int.ediv_ediv_of_nonneg om]
   congr 3
   rw [Int.pow_succ]; exact Int.mul_comm _ _
theorem V2 (x : Int) : Bx (Hd x) = .int .u8 (IntKind.u8.wrap x) := by
 show Value.int .u8 _ = Value.int .u8 (x % 256)
 congr 1
 simp [Hd]; omega
def GT (l : List Value) (off : Nat) (n : Int) (k i : Nat) : List Value := l.take (off + (k - i)) ++ A4 ((Br n k).drop (k - i)) ++ l.drop (off + k)
theorem Sm (l : List Value) (off : Nat) (n : Int) (k : Nat) : GT l off n k 0 = l := by
 simp [GT, A4, drop_eq_nil_of_le, AN]
theorem SF (l : List Value) (off : Nat) (n : Int) (k : Nat) : GT l off n k k = HJ l off (A4 (Br n k)) := by
 simp [GT, HJ, A4, AN]
theorem MD {l : List Value} {off : Nat} {n : Int} {k i : Nat} (hi : i < k) (hl : off + k ≤ l.length) : (GT l off n k i).set (off + (k - 1 - i)) (Bx (Hd (n / 256 ^ i))) = GT l off n k (i + 1) := by
 have h1 := Y8 k n i hi
 have hlen : (Br n k).length = k := AN k n
 unfold GT
 have e1 : l.take (off + (k - i)) = l.take (off + (k - 1 - i)) ++ [l[off + (k - 1 - i)]'om] := by
  rw [show off + (k - i) = off + (k - 1 - i) + 1 by omega, take_succ_eq_append_getElem om]
 have e2 : (Br n k).drop (k - (i + 1)) = Hd (n / 256 ^ i) :: (Br n k).drop (k - i) := by
  have : k - (i + 1) = k - 1 - i := by omega
  rw [this, drop_eq_getElem_cons om]
  have h3 : (Br n k)[k - 1 - i]'om = Hd (n / 256 ^ i) := by
   rw [List.getElem?_eq_getElem om] at h1; exact Option.some.inj h1
  rw [h3, show k - 1 - i + 1 = k - i by omega]
 rw [e1, e2, show off + (k - (i + 1)) = off + (k - 1 - i) by omega]
 rw [append_assoc, append_assoc, append_assoc, set_append_right _ _ (by simp; omega)]
 have : (l.take (off + (k - 1 - i))).length = off + (k - 1 - i) := by rw [length_take]; omega
 rw [this, Nat.sub_self]
 simp [A4]
theorem Mq {l : List Value} {off : Nat} {n : Int} {k i : Nat} (hi : i ≤ k) (hl : off + k ≤ l.length) : (GT l off n k i).length = l.length := by
 simp [GT, A4, AN]; omega
theorem ZY (i : Nat) : (2 : Int) ^ (8 * i) = 256 ^ i := by rw [Int.pow_mul]; rfl
theorem ZI {n : Int} {i : Nat} (hi : i ≤ 7) : IntKind.u8.wrap (n.fdiv (2 ^ min (8 * (i : Int)).toNat IntKind.i64.bits)) = IntKind.u8.wrap (n / 256 ^ i) := by
 have e : min (8 * (i : Int)).toNat IntKind.i64.bits = 8 * i := by
  have : IntKind.i64.bits = 64 := rfl
  omega
 rw [e, ZY, Int.fdiv_eq_ediv_of_nonneg _ (Int.le_of_lt (Int.pow_pos dQ))]
def Bb (s : Bs) : Int := IntKind.i64.wrap (Rr s 0)
theorem RL (s t : Bs) : ∀ n, Rr (s ++ t) n = Rr t (Rr s n) := by
 induction s with
 | nil => intro n; rfl
 | cons c s ih => intro n; simp [Rr, ih]
/-! ### The sum -/
def OZ (h : Int) (c : UInt8) : Int := IntKind.u32.wrap (IntKind.u32.wrap (BitVec.ofInt 32 h ^^^ BitVec.ofInt 32 (IntKind.u32.wrap c.toNat)).toNat * 16777619)
def F8 (s : Bs) : Int := s.foldl OZ 2166136261
theorem NE {s : Bs} {i : Nat} (hi : i < s.length) : F8 (s.take (i + 1)) = OZ (F8 (s.take i)) s[i] := by
 rw [take_succ_eq_append_getElem hi, F8, foldl_append]; rfl
theorem X0 (x : Int) : IntKind.u32.wrap x = x % 4294967296 := rfl
theorem Kz (s : Bs) : 0 ≤ F8 s ∧ F8 s < 4294967296 := by
 rcases eq_nil_or_concat s with rfl | ⟨t, c, rfl⟩
 ·exact ⟨by decide, by decide⟩
 ·rw [F8, concat_eq_append, foldl_append]
  simp only [foldl_cons, foldl_nil]
  rw [OZ, X0]; omega
/-! ### Records, marks -/
def Ci (s : Bs) : Bs := Br s.length 2 ++ s
def BI (s : Bs) : Bs := Ci s ++ Br (F8 (Ci s)) 4
theorem B9 (s : Bs) : (BI s).length = s.length + 6 := by simp [BI, Ci, AN]; omega
def AB (l : List Bs) : Bs := l.flatMap BI
theorem CV (l m : List Bs) : AB (l ++ m) = AB l ++ AB m := by simp [AB]
theorem VO {l : List Bs} {s : Bs} (h : s ∈ l) : s.length + 6 ≤ (AB l).length := by
 induction l with
 | nil => simp at h
 | cons x l ih =>
  have e : AB (x :: l) = BI x ++ AB l := by simp [AB]
  rw [e, length_append, B9]
  rcases mem_cons.1 h with rfl | h
  ·omega
  ·have := ih h; omega
theorem BU (l : List Bs) : l.length ≤ (AB l).length := by
 induction l with
 | nil => simp
 | cons x l ih =>
  have e : AB (x :: l) = BI x ++ AB l := by simp [AB]
  rw [e, length_append, B9, length_cons]; omega
theorem CM (l : List Bs) (i : Nat) : (AB (l.take i)).length ≤ (AB l).length := by
 have e : AB l = AB (l.take i) ++ AB (l.drop i) := by rw [← CV, take_append_drop]
 rw [e, length_append]; omega
theorem Fc {l : List Bs} {i : Nat} (hi : i < l.length) : AB (l.take (i + 1)) = AB (l.take i) ++ BI l[i] := by
 rw [take_succ_eq_append_getElem hi, CV]; simp [AB]
theorem QC {p q : Bs} {k off : Nat} {z : Value} (ho : off = p.length) (hq : q.length ≤ k) : HJ (A4 p ++ List.replicate k z) off (A4 q) = A4 (p ++ q) ++ List.replicate (k - q.length) z := by
 subst ho
 rw [← BQ p, Cu]
 simp [HJ, drop_append, BQ]
structure Mk where
 count : Int
 area : Int
 len : Int
 num : Int
 a : Int
 b : Int
def Xc (m : Mk) : List Value := [AA m.count, AA m.area, AA m.len, AA m.num, AA m.a, AA m.b]
def Mk.sec (m : Mk) : Bs := [87, 77] ++ Br m.count 4 ++ Br m.area 1 ++ Br m.len 4 ++ Br m.num 4 ++ Br m.a 8 ++ Br m.b 8 ++ List.replicate 29 0 ++ Br m.count 4
def Mk.part (m : Mk) : Nat → Bs
 | 0 => [87, 77]
 | 1 => Br m.count 4
 | 2 => Br m.area 1
 | 3 => Br m.len 4
 | 4 => Br m.num 4
 | 5 => Br m.a 8
 | _ => Br m.b 8
def Mk.pre (m : Mk) (j : Nat) : Bs := (List.range (j + 1)).flatMap m.part
theorem Mk.pre_succ (m : Mk) (j : Nat) : m.pre (j + 1) = m.pre j ++ m.part (j + 1) := by
 unfold Mk.pre; rw [range_succ, flatMap_append]; simp
theorem Mk.pre_len (m : Mk) : (m.pre 0).length = 2 ∧ (m.pre 1).length = 6 ∧ (m.pre 2).length = 7 ∧ (m.pre 3).length = 11 ∧ (m.pre 4).length = 15 ∧ (m.pre 5).length = 23 ∧ (m.pre 6).length = 31 := by
 simp [Mk.pre, range_succ, Mk.part, AN]
abbrev zB : Value := .int .u8 0
def Mk.at (m : Mk) (j k : Nat) : List Value := A4 (m.pre j) ++ List.replicate k zB
theorem Mk.at_step (m : Mk) {j k off : Nat} {q : Bs} (ho : off = (m.pre j).length) (hq : q = m.part (j + 1)) (hl : q.length ≤ k) : HJ (m.at j k) off (A4 q) = m.at (j + 1) (k - q.length) := by
 unfold Mk.at; rw [QC ho hl, m.pre_succ, hq]
theorem Mk.at_end (m : Mk) : HJ (m.at 6 33) 60 (A4 (Br m.count 4)) = A4 m.sec := by
 have e : m.at 6 33 = A4 (m.pre 6 ++ List.replicate 29 0) ++ List.replicate 4 zB := by
  unfold Mk.at
  rw [Cu, append_assoc]
  rfl
 rw [e, QC (by rw [length_append, m.pre_len.2.2.2.2.2.2, length_replicate]) (by simp [AN]), AN]
 unfold Mk.sec
 generalize List.replicate 29 (0 : UInt8) = z29
 simp [Mk.pre, range_succ, Mk.part]
theorem Mk.sec_len (m : Mk) : m.sec.length = 64 := by simp [Mk.sec, AN]
def Ag (δ : Dk) : Int := ((δ.now.length : Int) - 2) / 2
theorem D8 (b off k c : Nat) (n : Int) (l : List Value) (T : TypeId) (hk : k ≤ 8) (hl : off + k ≤ l.length) : Fn prog 121 #[.slice (some ⟨b, off, none⟩) k c, AA n] [Ar b l T] fun v L => v = .tuple #[] ∧ L = [Ar b (HJ l off (A4 (Br n k))) T] := by
 refine Fn.intro func121 Y Y fun F W => ?_
 refine .sm Y (.q (.slen Y underlying133 Y) Y (.m Y (.nt (.block (.ptCast O (Sm l off n k).symm (.loopK (ι := Nat) (fun q E => (7, AA q) :: E) (fun q => [Ar b (GT l off n k q) T]) (fun q => q ≤ k) (fun q => k - q) (0) (ts := [0, 1, 6]) O (Nat.zero_le _) O O ?_))))))
 rintro i hi
 refine .sr (.ui Y Y Y (.nt (.seq (.condD Y (fun h8 => ?_) (fun h8 => ?_)))))
 ·have hi2 : i < k := by omega
  refine .sk (.seq (.block (.sm Y (.an Y (.region (.m Y (.m Y (.q (.slen Y underlying133 Y) Y (.q (.sub Y Y om) Y (.m Y (.q (.sub Y Y om) Y (.m Y (.m Y (.q (.mul Y Y om) Y (.q (.shr Y Y (by first | decide | omega)) Y (.q (.conv Y underlying3 underlying5) Y (.q (.indexAddr Y Y A8 om) Y (.oq (.store Y Y Y AAS ?c16 (Bk _ _)) ?_))))))))))))))))))
  case c16 => rw [Mq om hl]; omega
  rintro v L' rfl
  refine .nil (.blk_n (.then_n (.region (.q (.add Y Y om) Y (.m Y (.nt (.ptCast (l' := GT l off n k (i + 1)) O (by rw [ZI om, ← V2, show off + ((k : Int) - 1 - i).toNat * 1 = off + (k - 1 - i) by omega]; exact MD om hl) ?_)))))))
  exact .rk (i + 1) om om O
 refine .exit (.then_e (.then_e (.blk_e (.done_n ?_))))
 have hi3 : i = k := by omega
 subst hi3
 refine .ptCast O (SF l off n i) ?_
 exact .vv
/- not in this seat -/
theorem Vm (s : Bs) (hs : s.length ≤ 9223372036854775807) : Fn prog 122 #[AU s] [] fun v L => v = .int .u32 (F8 s) ∧ L = [] := by
 refine Fn.intro func122 Y Y fun F W => ?_
 refine .sr (.an Y (.sr (.an Y (.seq (.sm Y (.q (.strlen Y underlying9 Y) Y (.m Y (.nt (.block (.loopK (ι := Nat) (fun q E => (7, AA q) :: (3, .int .u32 (F8 (s.take q))) :: E) (fun q => []) (fun q => q ≤ s.length) (fun q => s.length - q) (0) (ts := [0, 2, 6]) O (Nat.zero_le _) O O ?_))))))))))
 rintro i hi
 refine .sr (.ui Y Y Y (.nt (.seq (.condD Y (fun h8 => ?_) (fun h8 => ?_)))))
 ·have hi2 : i < s.length := by simpa [DF] using h8
  refine .sk (.seq (.block (.sm Y (.an Y (.region (.m Y (.m Y (.m Y (.q (.strIndex (c := s[i]) Y Y underlying9 om (by simp)) Y (.q (.conv Y underlying5 underlying179) Y (.u (.xor Y Y) (.q (.as (v' := .int .u32 (F8 (s.take (i + 1)))) (by rw [NE hi2]; rfl) (.int Y Y Y)) Y (.a Y (.nil (.blk_n (.then_n (.region (.q (.add Y Y om) Y (.m Y (.nt ?_))))))))))))))))))))
  exact .rk (i + 1) om om O
 refine .xe (.sm Y (.an Y (.ret ?_)))
 exact .dn Y Y ⟨by have hi3 : i = s.length := (by have h9 : ¬ (i : Int) < s.length := (by simpa [DF] using h8); omega); rw [hi3, take_length], rfl⟩
theorem TL (s : Bs) (hs : s.length ≤ 9223372036854775807) : Fn prog 152 #[AU s] [] fun v L => v = .int .u32 (F8 s) ∧ L = [] := by
 refine Fn.intro func152 Y Y fun F W => ?_
 refine .sr (.an Y (.sr (.an Y (.seq (.sr (.an Y (.block (.loopK (ι := Nat) (fun q E => (4, AA q) :: (3, .int .u32 (F8 (s.take q))) :: E) (fun q => []) (fun q => q ≤ s.length) (fun q => s.length - q) (0) (ts := [0, 2]) O (Nat.zero_le _) O O ?_))))))))
 rintro i hi
 refine .seq (.sm Y (.m Y (.q (.strlen Y underlying9 Y) Y (.ui Y Y Y (.nt (.condD Y (fun h8 => ?_) (fun h8 => ?_)))))))
 ·have hi2 : i < s.length := by simpa [DF] using h8
  refine .sk (.seq (.block (.region (.m Y (.m Y (.m Y (.q (.strIndex (c := s[i]) Y Y underlying9 om (by simp)) Y (.q (.conv Y underlying5 underlying179) Y (.u (.xor Y Y) (.q (.as (v' := .int .u32 (F8 (s.take (i + 1)))) (by rw [NE hi2]; rfl) (.int Y Y Y)) Y (.a Y (.nil (.blk_n (.then_n (.region (.m Y (.q (.add Y Y om) Y (.an Y ?_))))))))))))))))))
  exact .rk (i + 1) om om O
 refine .xe (.sm Y (.an Y (.ret ?_)))
 exact .dn Y Y ⟨by have hi3 : i = s.length := (by have h9 : ¬ (i : Int) < s.length := (by simpa [DF] using h8); omega); rw [hi3, take_length], rfl⟩
theorem Ku (d : Nat) (now old : Value) (acts left : Int) (dead : Bool) (hA : 0 ≤ acts ∧ acts < 4611686018427387904) (hl : 0 ≤ left ∧ left ≤ 9223372036854775807) : Fn prog 148 #[AG d] [Ar d [now, old, AA acts, AA left, .bool dead] 117] fun v L => v = AA (actE left) ∧ L = [Ar d [now, old, AA (acts + 1), AA (Ii left), .bool (JS left dead)] 117] := by
 refine Fn.intro func148 Y Y fun F W => ?_
 refine .sr (.an Y (.sm Y (.nf Y Pn (.u (.ld Y AF) (.q (.add Y Y om) Y (.nf Y Pn (.st Y Y Y BV ?_)))))))
 refine .nt (.seq (.sm Y (.nf Y I7 (.u (.ld Y AF) (.ui Y Y Y (.nt (.condD Y (fun h14 => ?_) (fun h14 => ?_))))))))
 ·refine .sr (.an Y (.rt ?_))
  have e1 : actE left = 0 := by unfold actE; rw [if_pos h14]
  have e2 : Ii left = left := by unfold Ii; rw [if_pos h14, h14]
  have e3 : JS left dead = dead := by unfold JS; rw [if_pos h14]
  rw [e1, e2, e3]
  exact .vv
 refine .sk (.sm Y (.nf Y I7 (.u (.ld Y AF) (.q (.sub Y Y om) Y (.nf Y I7 (.st Y Y Y BV ?_))))))
 refine .nt (.seq (.sm Y (.nf Y I7 (.u (.ld Y AF) (.ui Y Y Y (.nt (.condD Y (fun h26 => ?_) (fun h26 => ?_))))))))
 ·refine .sr (.an Y (.rt ?_))
  have e1 : actE left = 0 := by unfold actE; rw [if_neg h14, if_pos h26]
  have e2 : Ii left = left - 1 := by unfold Ii; rw [if_neg h14]
  have e3 : JS left dead = dead := by unfold JS; rw [if_neg h14, if_pos h26]
  rw [e1, e2, e3]
  exact .vv
 refine .sk (.sm Y (.nf Y Lu (.st Y Y Y Og ?_)))
 refine .nt (.sr (.an Y (.ret ?_)))
 have e1 : actE left = 2 := by unfold actE; rw [if_neg h14, if_neg h26]
 have e2 : Ii left = left - 1 := by unfold Ii; rw [if_neg h14]
 have e3 : JS left dead = true := by unfold JS; rw [if_neg h14, if_neg h26]
 rw [e1, e2, e3]
 exact .vv
theorem Vc (d : Nat) (a : Option Addr) (k c : Nat) (x y z u : Value) (n : Int) : Fn prog 147 #[AG d, AA n] [Ar d [.slice a k c, x, y, z, u] 117] fun v L => v = .bool (decide (0 ≤ n) && decide (n < k)) ∧ L = [Ar d [.slice a k c, x, y, z, u] 117] := by
 refine Fn.intro func147 Y Y fun F W => ?_
 refine .sr (.an Y (.sm Y (.ui Y Y Y (.m Y (.dec (t := 7) Y (fun h1_7 => ?_) (fun h1_7 => ?_))))))
 ·refine .kDT (t := 6) Y h1_7 (.gr (.m Y (.gr (.m Y (.gr (.u (.nilp Y) (.gr (.fa Y HK (.gr (.u (.ld Y MC) (.gr (.q (.slen Y underlying114 Y) Y (.gr (.ui Y Y Y (.pT Y Y (.an Y (.ret ?_)))))))))))))))))
  exact .dn Y Y ⟨by simp; omega, rfl⟩
 refine .kDF (t := 6) Y h1_7 (.gk (.gk (.gk (.gk (.gk (.gk (.gk (.pF Y Y (.an Y (.ret ?_))))))))))
 exact .dn Y Y ⟨by simp; omega, rfl⟩
theorem T1 (d : Nat) (δ : Dk) : Fn prog 120 #[AG d] [Bg d δ] fun v L => v = AA δ.now.length ∧ L = [Bg d δ] := by
 refine Fn.intro func120 Y Y fun F W => ?_
 refine .dkOpen .here fun nb ob hok => (.sr (.an Y (.sm Y (.nf Y HK (.u (.ld Y MC) (.q (.slen Y underlying114 Y) Y (.an Y (.ret (.dkFold (δ := δ) O Y Y Y hok ?_)))))))))
 exact .vv
/- not in this seat -/
/- not in this seat -/
/- not in this seat -/
theorem Jj (d : Nat) (δ : Dk) (hA : δ.acts < 4611686018427387904) : Fn prog 100 #[AG d] [Bg d δ] fun v L => v = AA δ.sync.2 ∧ L = [Bg d δ.sync.1] := by
 refine Fn.intro func100 Y Y fun F W => ?_
 refine .dkOpen .here fun nb ob hok => ?_
 have hl0 := hok.left0
 have ha0 := hok.acts0
 refine .sr (.an Y (.seq (.sm Y (.nf Y Lu (.u (.ld Y FV) (.nt (.condB Y (fun h7 => ?_) (fun h7 => ?_))))))))
 ·refine .sr (.an Y (.rt ?_))
  have e : δ.sync = (δ, 2) := by unfold Dk.sync; simp only [h7, if_true]
  rw [e]
  refine .dkFold (δ := δ) O Y Y Y hok ?_
  exact .vv
 refine .sk (.sm Y (.oq (.c func148 [_] (Ku _ _ _ _ _ _ ?hA8 ?hl9)) ?_))
 case hA8 => omega
 case hl9 => omega
 rintro v L' ⟨rfl, rfl⟩
 refine .an Y (.seq (.sm Y (.ui Y Y Y (.nt (.condD Y (fun h11 => ?_) (fun h11 => ?_))))))
 ·refine .region (.m Y (.nf Y Lw (.u (.ld Y Q4) (.oq (.mapClear Y Y underlying115) ?_))))
  rintro v L' rfl
  refine .nt (.sm Y (.an Y (.ret ?_)))
  have e : δ.sync = ({ δ.act.1 with old := [] }, 0) := by unfold Dk.sync Dk.act; simp only [h7, h11, if_true, if_false, Bool.false_eq_true]
  rw [e, h11]
  refine .dkFold (δ := { δ.act.1 with old := [] }) O Y Y Y hok.acted.cleared ?_
  exact .vv
 refine .sk (.sm Y (.an Y (.ret ?_)))
 have e : δ.sync = (δ.act.1, δ.act.2) := by unfold Dk.sync Dk.act; simp only [h7, h11, if_false, Bool.false_eq_true]
 rw [e]
 refine .dkFold (δ := δ.act.1) O Y Y Y hok.acted ?_
 exact .vv
/- not in this seat -/
theorem GY (d : Nat) (δ : Dk) (n : Int) (s : List UInt8) (hA : δ.acts < 4611686018427387904) : Fn prog 97 #[AG d, AA n, AU s] [Bg d δ] fun v L => v = AA (δ.write n s).2 ∧ L = [Bg d (δ.write n s).1] := by
 refine Fn.intro func97 Y Y fun F W => ?_
 refine .dkOpen .here fun nb ob hok => ?_
 have hl0 := hok.left0
 have ha0 := hok.acts0
 refine .sr (.an Y (.seq (.block (.sm Y (.nf Y Lu (.u (.ld Y FV) (.an Y (.condB Y (fun h9 => ?_) (fun h9 => ?_)))))))))
 ·refine .sr (.an Y (.ret (.blk_r (.then_r ?_))))
  have e : δ.write n s = (δ, 2) := by unfold Dk.write; simp only [h9, if_true]
  rw [e]
  refine .dkFold (δ := δ) O Y Y Y hok ?_
  exact .vv
 refine .sm Y (.m Y (.cv func147 [_, _] (Vc _ _ _ _ _ _ _ _ _) ?_))
 refine .u (.not Y) (.m Y (.bool (t := 19) Y (fun h3_19 => ?_) (fun h3_19 => ?_)))
 ·refine .kB (t := 18) Y h3_19 (.gk (.gk (.gk (.pT Y Y (.an Y (.condT Y (.sr (.an Y (.ret (.blk_r (.then_r ?_)))))))))))
  have e : δ.write n s = (δ, 20) := by unfold Dk.write; have hh : δ.has n = false := (by have := h3_19; simp only [Bool.not_eq_true'] at this; exact this); simp [h9, hh]
  rw [e]
  refine .dkFold (δ := δ) O Y Y Y hok ?_
  exact .vv
 have hh : δ.has n = true := by simpa [Dk.has] using h3_19
 obtain ⟨q0, q1, q2⟩ := Oh hh
 have q3 : (Oo δ.now[n.toNat]).length = 64 := by simpa using hok.sec _ (getElem_mem q2)
 have q4 := Nz hok.sec
 refine .kB (t := 18) Y h3_19 (.gr (.m Y (.gr (.q (.strlen Y underlying9 Y) Y (.gr (.ui Y Y Y (.pF Y Y (.an Y (.condN Y (fun h14 => ?_) (fun h14 => ?_))))))))))
 ·refine .sr (.an Y (.ret (.blk_r (.then_r ?_))))
  have e : δ.write n s = (δ, 20) := by unfold Dk.write; have q6 : s.length ≠ 64 := om; simp [h9, q6]
  rw [e]
  refine .dkFold (δ := δ) O Y Y Y hok ?_
  exact .vv
 refine .skip (.blk_n (.then_n (.seq (.sm Y (.nf Y Lw (.u (.ld Y Q4) (.m Y (.q (.lookupOk (m := δ.old) (enc := Zn) (E1.int underlying3) Y Y underlying115 ON O Y) Y ?_))))))))
 rcases hq : BA δ.old n with _ | s0
 ·refine .m Y (.ex Y Y (.ex Y Y (.oq (.allocA ON) ?_)))
  rintro v L' ⟨b5_9, rfl, rfl⟩
  refine .oq (.storeA Y Y ?c28 Ob ?c31 ?c29 (Bk _ _)) ?_
  case c28 => (first | (simp [AD]; done) | (simp [AD, Cd, Value.cells]; done))
  case c31 => rfl
  case c29 => decide
  rintro v L' rfl
  refine .an Y (.sm Y (.u (.not Y) (.nt (.condT Y (.draw [12] [[0, 1, 2, 3, 4, 5, 6, 7, 8, 9, 10, 11, 12]] mixed kQ (.g0 (.mv Y Y (.nf Y Y Y Lw (.kv Y (.ld Y Q4) (.mv Y Y (.mv Y Y (.nf Y Y Y HK (.kv Y (.ld Y MC) (.mv Y Y (.kv Y (.indexAddr Y Y OV om) (.kv Y (.loadAs (vs := Oo δ.now[n.toNat]) Y RS O om (by rw [Nat.zero_add]; exact Wq hok.sec q2)) (.hh Y (.mapSet (m := δ.old) (enc := Zn) (E1.int underlying3) Y Y (v := δ.now[n.toNat]) Y underlying115 Y) ?_)))))))))))))))))
  rintro v L' rfl
  refine D.pf (.seq ?_)
  have q6 : s.length = 64 := by omega
  have q7 : (Oo s).length = 64 := by simpa using q6
  refine .draw [6, 10] [[0, 1, 2, 3, 4, 5, 6, 7, 8], [9, 10]] mixed kQ (.go [Ar d _ 117] O (.k Y (.move Y) (.k Y (.nilp Y) (.k Y (.fieldAddr Y HK) (.k Y (.ld Y MC) (.k Y (.move Y) (.mv Y Y (.hh Y (.strBytes Y underlying9 underlying133 underlying5) ?_))))))))
  rintro v L' ⟨rfl, b8, c8, rfl⟩
  refine D.kv Y (.toArr Y Wp om) (.kv Y (.loadAr (vs := Oo s) (m := s.length) (sz := 1) Y RS O (fun h hp => AE hp) om (by rw [take_of_length_le (by simp; omega)])) (.ph (.g0 (.kv Y (.indexAddr Y Y OV om) (.hh Y (.storeA Y Y ?c58 Ob ?c61 ?c59 (Bk _ _)) ?_)))))
  case c58 => exact MO _
  case c61 => exact q7
  case c59 => rw [q7, q4]; omega
  rintro v L' rfl
  refine D.ph (.fin ?_)
  rw [Nat.zero_add, NQ hok.sec q2 q6]
  refine .then_n (.sm Y (.oq (.c func148 [_] (Ku _ _ _ _ _ _ ?hA64 ?hl65)) ?_))
  case hA64 => omega
  case hl65 => omega
  rintro v L' ⟨rfl, rfl⟩
  refine .an Y (.ret ?_)
  have e : δ.write n s = (δ.put n s).act := by unfold Dk.write; simp [h9, hh, q6]
  rw [e]
  refine .dkFold (δ := (δ.put n s).act.1) O (by simp [Dk.act, Dk.put]) Y (by simp [Dk.act, Dk.put, hq, q2, Ml]) (hok.putOk hh q6).acted ?_
  exact .vv
 have q5 : (Oo s0).length = 64 := by simpa using (hok.olds _ (S5 hq)).1
 refine .m Y (.ex Y Y (.ex Y Y (.oq (.allocA ON) ?_)))
 rintro v L' ⟨b5_9, rfl, rfl⟩
 refine .oq (.storeA Y Y ?c72 Ob ?c75 ?c73 (Bk _ _)) ?_
 case c72 => exact MO _
 case c75 => exact q5
 case c73 => rw [q5]; decide
 rintro v L' rfl
 refine .an Y (.sm Y (.u (.not Y) (.nt (.condF Y (.sk (.seq ?_))))))
 have q6 : s.length = 64 := by omega
 have q7 : (Oo s).length = 64 := by simpa using q6
 refine .draw [6, 10] [[0, 1, 2, 3, 4, 5, 6, 7, 8], [9, 10]] mixed kQ (.go [Ar d _ 117] O (.k Y (.move Y) (.k Y (.nilp Y) (.k Y (.fieldAddr Y HK) (.k Y (.ld Y MC) (.k Y (.move Y) (.mv Y Y (.hh Y (.strBytes Y underlying9 underlying133 underlying5) ?_))))))))
 rintro v L' ⟨rfl, b8, c8, rfl⟩
 refine D.kv Y (.toArr Y Wp om) (.kv Y (.loadAr (vs := Oo s) (m := s.length) (sz := 1) Y RS O (fun h hp => AE hp) om (by rw [take_of_length_le (by simp; omega)])) (.ph (.g0 (.kv Y (.indexAddr Y Y OV om) (.hh Y (.storeA Y Y ?c89 Ob ?c92 ?c90 (Bk _ _)) ?_)))))
 case c89 => exact MO _
 case c92 => exact q7
 case c90 => rw [q7, q4]; omega
 rintro v L' rfl
 refine D.ph (.fin ?_)
 rw [Nat.zero_add, NQ hok.sec q2 q6]
 refine .then_n (.sm Y (.oq (.c func148 [_] (Ku _ _ _ _ _ _ ?hA95 ?hl96)) ?_))
 case hA95 => omega
 case hl96 => omega
 rintro v L' ⟨rfl, rfl⟩
 refine .an Y (.ret ?_)
 have e : δ.write n s = (δ.put n s).act := by unfold Dk.write; simp [h9, hh, q6]
 rw [e]
 refine .dkFold (δ := (δ.put n s).act.1) O (by simp [Dk.act, Dk.put]) Y (by simp [Dk.act, Dk.put, hq, q2, Ml]) (hok.putOk hh q6).acted ?_
 exact .vv
theorem J6 (s : Bs) (hs : s.length ≤ 2147483648) : Fn prog 73 #[AU s] [] fun v L => (∃ a c, v = .slice a (BI s).length c) ∧ L = [EN v (BI s)] := by
 refine Fn.intro func73 Y Y fun F W => ?_
 have hsum := Kz (Ci s)
 have hh : (Ci s).length = s.length + 2 := by simp [Ci, AN]; omega
 refine .sr (.an Y (.sm Y (.q (.strlen Y underlying9 Y) Y (.q (.add Y Y om) Y (.oq (.make Y Y A8 Fo Y ⟨by simp, by simp; rfl⟩ ?hc5) ?_)))))
 case hc5 => omega
 rintro v L' ⟨b, rfl, rfl⟩; rw [show ((s.length : Int) + 6).toNat = s.length + 6 by omega, show (2 : Int).toNat = 2 from rfl]
 refine .an Y (.sm Y (.m Y (.q (.strlen Y underlying9 Y) Y (.oq (.call func121 Y Y (vs := [_, _]) Y (D8 b 0 2 (s.length + 6) s.length _ _ dQ ?hl10)) ?_))))
 case hl10 => simp
 rintro v L' ⟨rfl, rfl⟩
 refine .nil (.slMake (n := 2) (c := s.length + 6) (xs := A4 (Br s.length 2)) O om (by simp [HJ, BQ, AN]; omega) (by simp [HJ, BQ, AN]) (.then_n (.sm Y (.m Y (.oq (.appendS Y Y Y A8 underlying9 Fo Y Y ?hb14 dQ) ?_)))))
 case hb14 => omega
 rintro v L' ⟨⟨a1, c1, rfl⟩, rfl⟩; rw [show 2 + s.length = (Ci s).length by omega, show A4 (Br (s.length : Int) 2) ++ s.map Bx = A4 (Ci s) from (Cu _ _).symm]
 refine .an Y (.sr (.oq (.make Y Y A8 Fo Y ⟨by simp, by simp; rfl⟩ ?hc17) ?_))
 case hc17 => omega
 rintro v L' ⟨b2, rfl, rfl⟩; rw [show (4 : Int).toNat = 4 from rfl]
 refine .an Y (.sm Y (.m Y (.q (.bytesBy (cs := Ci s) (n := (Ci s).length) (p := EN (.slice a1 (Ci s).length c1) (Ci s)) Y underlying133 underlying5 underlying9 (fun h hp => AE hp) O) Y (.cv func122 [_] (Vm (Ci s) om) ?_))))
 refine .q (.as (v' := AA (F8 (Ci s))) (by rw [I5 om]) (.conv Y underlying179 underlying3)) Y (.oq (.call func121 Y Y (vs := [_, _]) Y (D8 b2 0 4 4 (F8 (Ci s)) _ _ dQ ?hl24)) ?_)
 case hl24 => simp
 rintro v L' ⟨rfl, rfl⟩
 refine .nil (.ptCast (l' := A4 (Br (F8 (Ci s)) 4)) O (SD (by simp [BQ, AN])) (.then_n (.sm Y (.m Y (.oq (.append1 (m := 4) Y Y Y A8 Fo Y Y ?c127 ?c228 (Nat.le_refl _) ?c329 dQ) ?_)))))
 case c127 => exact EV _
 case c228 => simp [BQ, AN]
 case c329 => omega
 rintro v L' ⟨⟨a2, c2, rfl⟩, rfl⟩; rw [show (Ci s).length + 4 = (BI s).length by rw [B9]; omega, show A4 (Ci s) ++ A4 (Br (F8 (Ci s)) 4) = A4 (BI s) from (Cu _ _).symm]
 refine .an Y (.ret ?_)
 exact .dn Y Y ⟨⟨_, _, Y⟩, Y⟩
theorem JX (v : Value) (l : List Bs) (p : HP) (hr : ∀ h : Hp, p h → B5 1 h v l.length (Bo l)) (hl : (AB l).length ≤ 2147483648) : Fn prog 76 #[v] [p] fun u L => (∃ a c, u = .slice a (AB l).length c) ∧ L = [EN u (AB l), p] := by
 refine Fn.intro func76 Y Y fun F W => ?_
 have hll : l.length ≤ (AB l).length := BU l
 refine .rdAny (p := p) hr O fun aa ca e _ => ?_
 subst e
 refine .sr (.an Y (.seq (.add (Ak 5 1) (.region (.an Y (.seq (.sm Y (.q (.slen Y underlying65 Y) Y (.m Y (.nt (.block (.loopK (ι := Nat × Value) (fun q E => (8, AA q.1) :: (3, q.2) :: E) (fun q => [EN q.2 (AB (l.take q.1))]) (fun q => q.1 ≤ l.length ∧ ∃ a c, q.2 = .slice a (AB (l.take q.1)).length c) (fun q => l.length - q.1) (0, .slice none 0 0) (ts := [2, 6, 7]) O (⟨Nat.zero_le _, _, _, Y⟩) O O ?_))))))))))))
 rintro ⟨i, u⟩ ⟨hi, au, cu, hu⟩
 dsimp only
 dsimp only at hi hu
 subst hu
 refine .sr (.ui Y Y Y (.nt (.seq (.condD Y (fun h9 => ?_) (fun h9 => ?_)))))
 ·have hi2 : i < l.length := by omega
  refine .rdShape (p := p) hr O om fun ba oa e => ?_
  subst e
  have hm := VO (getElem_mem hi2)
  have ht := CM l (i + 1)
  rw [Fc hi2, length_append] at ht
  have hrl := B9 l[i]
  refine .sk (.seq (.block (.sr (.q (.indexAddr Y Y Bu om) Y (.q (.loadRd (sz := 1) (j := i) (p := p) (v := AU l[i]) Y G9 O hr (by simp) (by simp [hi2])) Y (.an Y (.region (.m Y (.m Y (.oq (.c func73 [_] (J6 l[i] om)) ?_))))))))))
  rintro v L' ⟨⟨ar, cr, rfl⟩, rfl⟩
  refine .oq (.append (n := (AB (l.take i)).length) (m := (BI l[i]).length) (ys := A4 (BI l[i])) (p := EN (.slice ar (BI l[i]).length cr) (BI l[i])) Y Y Y A8 (.inl ⟨_, underlying133⟩) Fo Y Y ?hc12 ?hr13 ?hb14 dQ) ?_
  case hc12 => exact EV _
  case hr13 => exact fun h hp => AE hp
  case hb14 => omega
  rintro v L' ⟨⟨a5, c5, rfl⟩, rfl⟩
  refine .a Y (.nil (.blk_n (.then_n (.region (.q (.add Y Y om) Y (.m Y (.nt ?_)))))))
  rw [show (AB (l.take i)).length + (BI l[i]).length = (AB (l.take (i + 1))).length by rw [Fc hi2, length_append], show A4 (AB (l.take i)) ++ A4 (BI l[i]) = A4 (AB (l.take (i + 1))) by rw [Fc hi2, Cu]]
  exact .rk ((i + 1, .slice a5 (AB (l.take (i + 1))).length c5)) (⟨by dsimp only; omega, _, _, rfl⟩) (by dsimp only; omega) O
 have hi3 : i = l.length := by omega
 subst hi3
 rw [take_length]
 refine .xe (.sm Y (.an Y (.ret ?_)))
 exact .dn Y Y ⟨⟨_, _, Y⟩, Y⟩
theorem KB (m : Mk) : Fn prog 99 #[.agg (Xc m).toArray] [] fun v L => v = AU m.sec ∧ L = [] := by
 refine Fn.intro func99 Y Y fun F W => ?_
 obtain ⟨p0, p1, p2, p3, p4, p5, p6⟩ := m.pre_len
 refine .sr (.oq (.box Y) ?_)
 rintro v L' ⟨bm, rfl, rfl⟩
 refine .an Y (.sr (.oq (.make Y Y A8 Fo Y ⟨by simp, by simp; rfl⟩ ?hc4) ?_))
 case hc4 => omega
 rintro v L' ⟨b, rfl, rfl⟩; rw [show (64 : Int).toNat = 64 from rfl]
 refine .an Y (.sm Y (.oq (.copyS (s := [87, 77]) Y Y Y A8 ?h17 ?h28) ?_))
 case h17 => simp
 case h28 => exact Bk _ _
 rintro v L' ⟨rfl, rfl⟩
 refine .nil (.ptCast (l' := m.at 0 62) O Y (.then_n (.seq (.draw [4] [[0, 1, 2, 3, 4]] mixed kQ (.g0 (.mv Y Y (.kv Y (.to (v' := .slice (some ⟨b, 2, none⟩) 4 62) (.slSlice (i := 2) (j := 6) Y A8 (by exact rfl) (by exact rfl) dQ) Y) (.kv Y (.fieldAddr Y HH) (.kv Y (.ld Y AF) (.hh Y (.call func121 Y Y (vs := [_, _]) Y (D8 b 2 4 62 m.count (m.at 0 62) _ dQ (by simp [Mk.at, BQ, p0]))) ?_))))))))))
 rintro v L' ⟨rfl, rfl⟩
 refine D.ph (.fin (.ptCast (l' := m.at 1 58) O (by have := m.at_step (j := 0) (k := 62) (off := 2) (q := Br m.count 4) p0.symm rfl (by simp [AN]); rw [AN] at this; exact this) (.then_n (.seq (.draw [4] [[0, 1, 2, 3, 4]] mixed kQ (.g0 (.mv Y Y (.kv Y (.to (v' := .slice (some ⟨b, 6, none⟩) 1 58) (.slSlice (i := 6) (j := 7) Y A8 (by exact rfl) (by exact rfl) dQ) Y) (.kv Y (.fieldAddr Y Vh) (.kv Y (.ld Y AF) (.hh Y (.call func121 Y Y (vs := [_, _]) Y (D8 b 6 1 58 m.area (m.at 1 58) _ dQ (by simp [Mk.at, BQ, p1]))) ?_)))))))))))
 rintro v L' ⟨rfl, rfl⟩
 refine D.ph (.fin (.ptCast (l' := m.at 2 57) O (by have := m.at_step (j := 1) (k := 58) (off := 6) (q := Br m.area 1) p1.symm rfl (by simp [AN]); rw [AN] at this; exact this) (.then_n (.seq (.draw [4] [[0, 1, 2, 3, 4]] mixed kQ (.g0 (.mv Y Y (.kv Y (.to (v' := .slice (some ⟨b, 7, none⟩) 4 57) (.slSlice (i := 7) (j := 11) Y A8 (by exact rfl) (by exact rfl) dQ) Y) (.kv Y (.fieldAddr Y VY) (.kv Y (.ld Y AF) (.hh Y (.call func121 Y Y (vs := [_, _]) Y (D8 b 7 4 57 m.len (m.at 2 57) _ dQ (by simp [Mk.at, BQ, p2]))) ?_)))))))))))
 rintro v L' ⟨rfl, rfl⟩
 refine D.ph (.fin (.ptCast (l' := m.at 3 53) O (by have := m.at_step (j := 2) (k := 57) (off := 7) (q := Br m.len 4) p2.symm rfl (by simp [AN]); rw [AN] at this; exact this) (.then_n (.seq (.draw [4] [[0, 1, 2, 3, 4]] mixed kQ (.g0 (.mv Y Y (.kv Y (.to (v' := .slice (some ⟨b, 11, none⟩) 4 53) (.slSlice (i := 11) (j := 15) Y A8 (by exact rfl) (by exact rfl) dQ) Y) (.kv Y (.fieldAddr Y U1) (.kv Y (.ld Y AF) (.hh Y (.call func121 Y Y (vs := [_, _]) Y (D8 b 11 4 53 m.num (m.at 3 53) _ dQ (by simp [Mk.at, BQ, p3]))) ?_)))))))))))
 rintro v L' ⟨rfl, rfl⟩
 refine D.ph (.fin (.ptCast (l' := m.at 4 49) O (by have := m.at_step (j := 3) (k := 53) (off := 11) (q := Br m.num 4) p3.symm rfl (by simp [AN]); rw [AN] at this; exact this) (.then_n (.seq (.draw [4] [[0, 1, 2, 3, 4]] mixed kQ (.g0 (.mv Y Y (.kv Y (.to (v' := .slice (some ⟨b, 15, none⟩) 8 49) (.slSlice (i := 15) (j := 23) Y A8 (by exact rfl) (by exact rfl) dQ) Y) (.kv Y (.fieldAddr Y WV) (.kv Y (.ld Y AF) (.hh Y (.call func121 Y Y (vs := [_, _]) Y (D8 b 15 8 49 m.a (m.at 4 49) _ dQ (by simp [Mk.at, BQ, p4]))) ?_)))))))))))
 rintro v L' ⟨rfl, rfl⟩
 refine D.ph (.fin (.ptCast (l' := m.at 5 41) O (by have := m.at_step (j := 4) (k := 49) (off := 15) (q := Br m.a 8) p4.symm rfl (by simp [AN]); rw [AN] at this; exact this) (.then_n (.seq (.draw [4] [[0, 1, 2, 3, 4]] mixed kQ (.g0 (.mv Y Y (.kv Y (.to (v' := .slice (some ⟨b, 23, none⟩) 8 41) (.slSlice (i := 23) (j := 31) Y A8 (by exact rfl) (by exact rfl) dQ) Y) (.kv Y (.fieldAddr Y V5) (.kv Y (.ld Y AF) (.hh Y (.call func121 Y Y (vs := [_, _]) Y (D8 b 23 8 41 m.b (m.at 5 41) _ dQ (by simp [Mk.at, BQ, p5]))) ?_)))))))))))
 rintro v L' ⟨rfl, rfl⟩
 refine D.ph (.fin (.ptCast (l' := m.at 6 33) O (by have := m.at_step (j := 5) (k := 41) (off := 23) (q := Br m.b 8) p5.symm rfl (by simp [AN]); rw [AN] at this; exact this) (.then_n (.seq (.draw [4] [[0, 1, 2, 3, 4]] mixed kQ (.g0 (.mv Y Y (.kv Y (.to (v' := .slice (some ⟨b, 60, none⟩) 4 4) (.slSlice (i := 60) (j := 64) Y A8 (by exact rfl) (by exact rfl) dQ) Y) (.kv Y (.fieldAddr Y HH) (.kv Y (.ld Y AF) (.hh Y (.call func121 Y Y (vs := [_, _]) Y (D8 b 60 4 4 m.count (m.at 6 33) _ dQ (by simp [Mk.at, BQ, p6]))) ?_)))))))))))
 rintro v L' ⟨rfl, rfl⟩
 refine D.ph (.fin (.ptCast (l' := A4 m.sec) O m.at_end (.then_n (.sm Y (.q (.bytesPt (cs := m.sec) Y underlying133 underlying5 underlying9 O (by rw [drop_zero]; exact take_of_length_le (by simp [BQ, m.sec_len])) (by simp [BQ, m.sec_len]) dQ) Y (.an Y (.ret ?_)))))))
 exact .vv
theorem Jk (d : Nat) (δ : Dk) (hn : 2 ≤ δ.now.length ∧ δ.now.length ≤ 32768) : Fn prog 69 #[AG d] [Bg d δ] fun v L => v = AA (Ag δ) ∧ L = [Bg d δ] := by
 refine Fn.intro func69 Y Y fun F W => ?_
 refine .sr (.an Y (.sm Y (.cv func120 [_] (T1 d δ) ?_)))
 refine .q (.sub Y Y om) Y (.q (.quoE Y Y om om) Y (.an Y (.ret ?_)))
 exact .vv
def sub (s : Bs) (i j : Nat) : Bs := (s.take j).drop i
def Jd (s : Bs) : Mk := ⟨Bb (sub s 2 6), Bb (sub s 6 7), Bb (sub s 7 11), Bb (sub s 11 15), Bb (sub s 15 23), Bb (sub s 23 31)⟩
def PY (δ : Dk) (n : Int) (s : Bs) (m : Mk) : Prop := m.count < 1 ∨ m.count % 2 ≠ n ∨ m.area > 1 ∨ m.len > 64 * Ag δ ∨ m.a < 0 ∨ m.b < 0 ∨ s ≠ m.sec
instance (δ : Dk) (n : Int) (s : Bs) (m : Mk) : Decidable (PY δ n s m) := inferInstanceAs (Decidable (_ ∨ _))
def Dx (δ : Dk) (n : Int) : Option Mk := if (δ.read n).2 ≠ 0 then none else if PY δ n (δ.read n).1 (Jd (δ.read n).1) then none else some (Jd (δ.read n).1)
theorem WE {δ : Dk} (h : δ.Ok) {n : Int} (he : (δ.read n).2 = 0) : (δ.read n).1.length = 64 := by
 unfold Dk.read at he ⊢
 split
 ·rename_i hd; rw [if_pos hd] at he; cases he
 ·rename_i hd
  rw [if_neg hd] at he
  split
  ·rename_i hh; rw [if_pos hh] at he; cases he
  ·rename_i hh
   have hh' : δ.has n = true := by simpa using hh
   obtain ⟨h0, h1, h2⟩ := Oh hh'
   have e : δ.now.getD n.toNat [] = δ.now[n.toNat] := by simp [h2]
   rw [e]; exact h.sec _ (getElem_mem _)
theorem Pj {l : List (List UInt8)} (h : ∀ s ∈ l, s.length = 64) {i : Nat} (hi : i < l.length) : (l.getD i []).length = 64 := by
 have : l.getD i [] = l[i] := by simp [hi]
 rw [this]; exact h _ (getElem_mem _)
def QP : Nat → Bs → List Bs → Int → Option (List Bs)
 | 0, _, _, _ => none
 | f + 1, s, out, num =>
  if s = [] then (if (out.length : Int) = num then some out else none)
  else if (out.length : Int) = num ∨ s.length < 6 then none
  else if Bb (s.take 2) > 4000 ∨ Bb (s.take 2) + 6 > s.length then none
  else if s.take ((Bb (s.take 2)).toNat + 6) ≠ BI (sub s 2 ((Bb (s.take 2)).toNat + 2)) then none
  else QP f (s.drop ((Bb (s.take 2)).toNat + 6)) (out ++ [sub s 2 ((Bb (s.take 2)).toNat + 2)]) num
def Sj (s : Bs) (num : Int) : Option (List Bs) := QP (s.length + 1) s [] num
theorem Q0 : ∀ (s : Bs) (n : Int), 0 ≤ n → 0 ≤ Rr s n := by
 intro s
 induction s with
 | nil => intro n h; exact h
 | cons c s ih => intro n h; exact ih _ om
theorem ZZ : ∀ (s : Bs) (n : Int), 0 ≤ n → Rr s n < (n + 1) * 256 ^ s.length := by
 intro s
 induction s with
 | nil => intro n h; simp [Rr]; omega
 | cons c s ih =>
  intro n h
  have hc : c.toNat < 256 := c.toNat_lt
  have h1 := ih (n * 256 + c.toNat) om
  simp only [Rr, length_cons]
  refine Int.lt_of_lt_of_le h1 ?_
  rw [Int.pow_succ, Int.mul_comm (256 ^ s.length) 256, ← Int.mul_assoc]
  exact Int.mul_le_mul_of_nonneg_right om (Int.le_of_lt (Int.pow_pos dQ))
theorem IA {s : Bs} (h : s.length ≤ 7) : 0 ≤ Bb s ∧ Bb s < 256 ^ s.length ∧ Bb s = Rr s 0 := by
 have h0 := Q0 s 0 om
 have h1 := ZZ s 0 om
 have h2 : ∀ k, k ≤ 7 → (256 : Int) ^ k ≤ 72057594037927936 := by decide
 have h2 := h2 _ h
 have e : Bb s = Rr s 0 := I5 om
 rw [e]; omega
theorem Sk {s : Bs} {i j : Nat} (h : j ≤ s.length) : (sub s i j).length = j - i := by simp [sub]; omega
structure Wl where
 recs : List Bs
 synced : Int
 area : Int
 count : Int
 a : Int
 b : Int
 doubt : Bool
def KL (δ : Dk) (area : Int) (n : Nat) : Bs := (List.range n).flatMap fun i : Nat => δ.now.getD (2 + area * Ag δ + (i : Int)).toNat []
def SE (δ : Dk) : Option Mk :=
 match Dx δ 0, Dx δ 1 with
 | some m, some k => some (if k.count > m.count then k else m)
 | some m, none => some m
 | none, o => o
def RE (δ : Dk) (m : Mk) : Bs := (KL δ m.area ((m.len.toNat + 63) / 64)).take m.len.toNat
def SI (δ : Dk) : Option Wl :=
  match SE δ with
  | none => none
  | some m => match Sj (RE δ m) m.num with
    | none => none
    | some l => some ⟨l, l.length, m.area, m.count, m.a, m.b, false⟩
def CX (x d : Nat) (ω : Wl) : HP := fun h => ∃ v : Value × Value, CG [Ar x [AG d, v.1, AA ω.synced, v.2, AA ω.area, AA ω.count, AA ω.a, AA ω.b, .bool ω.doubt] 135, Cp v.1 ω.recs, EN v.2 (AB ω.recs)] h
structure MkI (δ : Dk) (m : Mk) : Prop where
 count : 1 ≤ m.count ∧ m.count ≤ 4294967295
 area : 0 ≤ m.area ∧ m.area ≤ 1
 len : 0 ≤ m.len ∧ m.len ≤ 64 * Ag δ
 num : 0 ≤ m.num ∧ m.num ≤ 4294967295
 a : 0 ≤ m.a ∧ m.a ≤ 9223372036854775807
 b : 0 ≤ m.b ∧ m.b ≤ 9223372036854775807
theorem Rc {s : Bs} {i j : Nat} (h : j ≤ s.length) (hk : j - i = 4) : 0 ≤ Bb (sub s i j) ∧ Bb (sub s i j) ≤ 4294967295 := by
 have hl := Sk (i := i) h
 obtain ⟨h1, h2, -⟩ := IA (s := sub s i j) om
 rw [hl, hk] at h2
 have e : (256 : Int) ^ 4 = 4294967296 := rfl
 omega
theorem Lt (s : Bs) : -9223372036854775808 ≤ Bb s ∧ Bb s ≤ 9223372036854775807 := by unfold Bb; rw [N3]; omega
theorem Px {δ : Dk} (hok : δ.Ok) {n : Int} {m : Mk} (h : Dx δ n = some m) : MkI δ m ∧ m.count % 2 = n ∧ (δ.read n).1 = m.sec ∧ (δ.read n).2 = 0 := by
 unfold Dx at h
 by_cases h0 : (δ.read n).2 ≠ 0
 ·rw [if_pos h0] at h; cases h
 ·rw [if_neg h0] at h
  have h0' : (δ.read n).2 = 0 := by simpa using h0
  by_cases hb : PY δ n (δ.read n).1 (Jd (δ.read n).1)
  ·rw [if_pos hb] at h; cases h
  ·rw [if_neg hb] at h
   have hl := WE hok h0'
   generalize (δ.read n).1 = s at *
   have h := Option.some.inj h
   unfold PY at hb
   simp only [not_or] at hb
   obtain ⟨b1, b2, b3, b4, b5, b6, b7⟩ := hb
   have q1 := Rc (s := s) (i := 2) (j := 6) om rfl
   have q3 := Rc (s := s) (i := 7) (j := 11) om rfl
   have q4 := Rc (s := s) (i := 11) (j := 15) om rfl
   have q2 := (IA (s := sub s 6 7) (by rw [Sk om]; decide)).1
   have q5 := Lt (sub s 15 23)
   have q6 := Lt (sub s 23 31)
   subst h
   simp only [Jd] at *
   have c1 : Bb (sub s 6 7) ≤ 1 := by omega
   have c2 : Bb (sub s 7 11) ≤ 64 * Ag δ := by omega
   have c3 : 1 ≤ Bb (sub s 2 6) := by omega
   have c4 : 0 ≤ Bb (sub s 15 23) := by omega
   have c5 : 0 ≤ Bb (sub s 23 31) := by omega
   have c6 : Bb (sub s 2 6) % 2 = n := by omega
   exact ⟨⟨⟨c3, q1.2⟩, ⟨q2, c1⟩, ⟨q3.1, c2⟩, q4, ⟨c4, q5.2⟩, ⟨c5, q6.2⟩⟩, c6, by simpa using b7, h0'⟩
theorem Lr (δ : Dk) (area : Int) (i : Nat) : KL δ area (i + 1) = KL δ area i ++ δ.now.getD (2 + area * Ag δ + (i : Int)).toNat [] := by
 unfold KL; rw [range_succ, flatMap_append]; simp
theorem Uj {δ : Dk} (hn : 2 ≤ δ.now.length) {area : Int} (ha : 0 ≤ area ∧ area ≤ 1) {i : Nat} (hi : (i : Int) < Ag δ) : 0 ≤ 2 + area * Ag δ + i ∧ 2 + area * Ag δ + i < δ.now.length := by
 unfold Ag at *
 rcases (by omega : area = 0 ∨ area = 1) with rfl | rfl <;> omega
theorem TB {δ : Dk} (hok : δ.Ok) (hn : 2 ≤ δ.now.length) {area : Int} (ha : 0 ≤ area ∧ area ≤ 1) : ∀ i : Nat, (i : Int) ≤ Ag δ → (KL δ area i).length = 64 * i := by
 intro i
 induction i with
 | zero => intro _; rfl
 | succ i ih =>
  intro hi
  have h1 := Uj hn ha (i := i) om
  rw [Lr, length_append, ih om, Pj hok.sec om]; omega
def Yu (δ : Dk) (m : Mk) : Option Wl := match Sj (RE δ m) m.num with
 | none => none
 | some l => some ⟨l, l.length, m.area, m.count, m.a, m.b, false⟩
theorem Rb {δ : Dk} {m : Mk} (h : SE δ = some m) : SI δ = Yu δ m := by unfold SI; rw [h]; rfl
section
variable {W : World} {n : Nat} {ds : List Deferred} {E : By} {L R : List HP} {X : Act → World → Prop}
theorem G.wlOpen {x d : Nat} {ω : Wl} (hL : BT (CX x d ω) L R) (h : ∀ vr vb, G W n ds E (Ar x [AG d, vr, AA ω.synced, vb, AA ω.area, AA ω.count, AA ω.a, AA ω.b, .bool ω.doubt] 135 :: Cp vr ω.recs :: EN vb (AB ω.recs) :: R) X) : G W n ds E L X :=
 G.focus hL (G.open (q := fun v : Value × Value => [Ar x [AG d, v.1, AA ω.synced, v.2, AA ω.area, AA ω.count, AA ω.a, AA ω.b, .bool ω.doubt] 135, Cp v.1 ω.recs, EN v.2 (AB ω.recs)]) (φ := fun _ => True) (fun h hp => by obtain ⟨v, hv⟩ := hp; exact ⟨v, trivial, hv⟩) fun v _ => h v.1 v.2)
theorem G.wlFold {x d m k : Nat} {ω : Wl} {vr vb : Value} {l ys zs : List Value} (hL : Am [Ar x l 135, AV 9 1 vr m ys, AV 5 1 vb k zs] L R) (h0 : l = [AG d, vr, AA ω.synced, vb, AA ω.area, AA ω.count, AA ω.a, AA ω.b, .bool ω.doubt])
  (h1 : m = ω.recs.length) (h2 : ys = Bo ω.recs) (h3 : k = (AB ω.recs).length) (h4 : zs = A4 (AB ω.recs)) (h : G W n ds E (CX x d ω :: R) X) : G W n ds E L X := by
 subst h0; subst h1; subst h2; subst h3; subst h4
 exact G.fold hL (fun _ hp => ⟨(vr, vb), hp⟩) h
end
/- not in this seat -/
/- not in this seat -/
theorem G.nilEmpty {W : World} {k : Nat} {ds : List Deferred} {E : By} {L R : List HP} {X : Act → World → Prop} {p : HP} {sz n c : Nat} {xs : List Value} (hr : ∀ h : Hp, p h → B5 sz h (.slice none n c) n xs) (hL : BT p L R)
  (h : n = 0 → xs = [] → G W k ds E L X) : G W k ds E L X := by
 intro a w he hk hs
 obtain ⟨g1, -, hp⟩ := AZ (hs.pick hL)
 rcases hr _ hp with ⟨h1, h2, -⟩ | ⟨b, off, cap, l, T, fr, hv, -⟩
 ·exact h h1 h2 a w he hk hs
 ·simp at hv
/- not in this seat -/
/- not in this seat -/
/- not in this seat: clipB_spec -/
/- not in this seat -/
/- not in this seat -/
/- not in this seat: clipT_spec -/
theorem KP (v : Value) (n : Nat) (xs : List Value) (p : HP) (hr : ∀ h : Hp, p h → B5 1 h v n xs) (hc : ∀ y ∈ xs, AD y = true) (hb : n ≤ 4294967296) : Fn prog 72 #[v] [p] fun u L => (∃ a c, u = .slice a n c) ∧ L = [AV 5 1 u n xs, p] := by
 refine Fn.intro func72 Y Y fun F W => ?_
 refine .rdAny (p := p) hr O fun aa ca e hlen => ?_
 subst e
 refine .sr (.an Y (.seq (.sm Y ?_)))
 rcases aa with _ | aa
 ·refine .q (.sleq Y Y underlying133) Y (.nt (.condT Y (.sr (.an Y (.rt (.nilEmpty (p := p) hr O fun e1 e2 => ?_))))))
  subst e1; subst e2
  refine .add (Ak 5 1) ?_
  exact .dn Y Y ⟨⟨_, _, Y⟩, Y⟩
 refine .q (.sleq Y Y underlying133) Y (.nt (.condF Y (.sk (.sr (.oq (.buildSlice1 (vs := []) A8 Fo Y Y Y Y Y dQ) ?_)))))
 rintro v L' ⟨b0, rfl, rfl⟩
 refine .m Y (.slMake (n := 0) (c := 0) (xs := []) (b := b0) O (Nat.le_refl _) (Nat.zero_le _) Y (.oq (.append (n := 0) (m := n) (xs := []) (ys := xs) (p := p) Y Y Y A8 (.inl ⟨_, underlying133⟩) Fo Y Y ?hc9 ?hr10 ?hb11 dQ) ?_))
 case hc9 => exact hc
 case hr10 => exact hr
 case hb11 => omega
 rintro v L' ⟨⟨a1, c1, rfl⟩, rfl⟩; rw [Nat.zero_add, nil_append]
 refine .an Y (.ret ?_)
 exact .dn Y Y ⟨⟨_, _, Y⟩, Y⟩
theorem KJ (v : Value) (n : Nat) (xs : List Value) (p : HP) (hr : ∀ h : Hp, p h → B5 1 h v n xs) (hc : ∀ y ∈ xs, AD y = true) (hb : n ≤ 4294967296) : Fn prog 123 #[v] [p] fun u L => (∃ a c, u = .slice a n c) ∧ L = [AV 9 1 u n xs, p] := by
 refine Fn.intro func123 Y Y fun F W => ?_
 refine .rdAny (p := p) hr O fun aa ca e hlen => ?_
 subst e
 refine .sr (.an Y (.seq (.sm Y ?_)))
 rcases aa with _ | aa
 ·refine .q (.sleq Y Y underlying65) Y (.nt (.condT Y (.sr (.an Y (.rt (.nilEmpty (p := p) hr O fun e1 e2 => ?_))))))
  subst e1; subst e2
  refine .add (Ak 9 1) ?_
  exact .dn Y Y ⟨⟨_, _, Y⟩, Y⟩
 refine .q (.sleq Y Y underlying65) Y (.nt (.condF Y (.sk (.sr (.oq (.buildSlice1 (vs := []) Bu Fp Y Y Y Y Y dQ) ?_)))))
 rintro v L' ⟨b0, rfl, rfl⟩
 refine .m Y (.slMake (n := 0) (c := 0) (xs := []) (b := b0) O (Nat.le_refl _) (Nat.zero_le _) Y (.oq (.append (n := 0) (m := n) (xs := []) (ys := xs) (p := p) Y Y Y Bu (.inl ⟨_, underlying65⟩) Fp Y Y ?hc9 ?hr10 ?hb11 dQ) ?_))
 case hc9 => exact hc
 case hr10 => exact hr
 case hb11 => omega
 rintro v L' ⟨⟨a1, c1, rfl⟩, rfl⟩; rw [Nat.zero_add, nil_append]
 refine .an Y (.ret ?_)
 exact .dn Y Y ⟨⟨_, _, Y⟩, Y⟩
/- not in this seat -/
def Bq (all : Bs) (i : Nat) : Bs := (all.drop (i * 64)).take 64 ++ List.replicate (64 - ((all.drop (i * 64)).take 64).length) 0
theorem Ib (all : Bs) (i : Nat) : (Bq all i).length = 64 := by simp [Bq]; omega
def GD : Nat → Dk → Int → Bs → Nat → Dk × Int
  | 0, δ, _, _, _ => (δ, 0)
  | f + 1, δ, area, all, i =>
    if i * 64 < all.length then
      (if (δ.write (2 + area * Ag δ + i) (Bq all i)).2 ≠ 0 then ((δ.write (2 + area * Ag δ + i) (Bq all i)).1, 2)
       else GD f (δ.write (2 + area * Ag δ + i) (Bq all i)).1 area all (i + 1))
    else (δ, 0)
def Ca (δ : Dk) (area : Int) (all : Bs) (frm : Nat) : Dk × Int := GD (all.length + 1) δ area all (frm / 64)
theorem PA {f : Nat} {δ : Dk} {area : Int} {all : Bs} {i : Nat} (h : ¬ i * 64 < all.length) : GD f δ area all i = (δ, 0) := by
 cases f with
 | zero => rfl
 | succ f => simp only [GD]; rw [if_neg h]
theorem Bi (δ : Dk) (n : Int) (s : Bs) : (δ.write n s).1.now.length = δ.now.length ∧ (δ.write n s).1.acts ≤ δ.acts + 1 := by
 unfold Dk.write
 split
 ·exact ⟨rfl, by simp; omega⟩
 ·split
  ·exact ⟨rfl, by simp; omega⟩
  ·exact ⟨by simp [Dk.act, Dk.put], by simp [Dk.act, Dk.put]⟩
theorem EZ (δ : Dk) : δ.sync.1.now = δ.now ∧ δ.sync.1.acts ≤ δ.acts + 1 := by
 unfold Dk.sync
 split
 ·exact ⟨rfl, by simp; omega⟩
 ·split <;> exact ⟨by simp [Dk.act], by simp [Dk.act]⟩
theorem Dp {δ δ' : Dk} (h : δ'.now.length = δ.now.length) : Ag δ' = Ag δ := by unfold Ag; rw [h]
def BB (δ : Dk) (m : Mk) : Dk × Int :=
 if (δ.write (m.count % 2) m.sec).2 ≠ 0 then ((δ.write (m.count % 2) m.sec).1, 2)
 else if (δ.write (m.count % 2) m.sec).1.sync.2 ≠ 0 then ((δ.write (m.count % 2) m.sec).1.sync.1, 2) else ((δ.write (m.count % 2) m.sec).1.sync.1, 0)
def Wl.mark (ω : Wl) (area : Int) (l : List Bs) (a b : Int) : Mk := ⟨ω.count + 1, area, (AB l).length, l.length, a, b⟩
def Ax (δ : Dk) (ω : Wl) (area : Int) (l : List Bs) : Dk × Wl × Int :=
 if δ.sync.2 ≠ 0 then (δ.sync.1, ω, 2)
 else if (BB δ.sync.1 (ω.mark area l ω.a ω.b)).2 ≠ 0 then ((BB δ.sync.1 (ω.mark area l ω.a ω.b)).1, ω, 2)
 else ((BB δ.sync.1 (ω.mark area l ω.a ω.b)).1, { ω with recs := l, synced := l.length, area := area, count := ω.count + 1 }, 0)
def IQ (r : Dk × Wl × Int) : Dk × Wl × Int := if r.2.2 = 2 then (r.1, { r.2.1 with doubt := true }, r.2.2) else r
def AM (δ : Dk) (ω : Wl) (s : Bs) : Dk × Wl × Int :=
 if ω.doubt then (δ, ω, 34) else if s.length > 4000 then (δ, ω, 33) else if ¬ ((AB ω.recs).length + s.length + 6 : Int) ≤ 64 * Ag δ then (δ, ω, 30)
 else if (Ca δ ω.area (AB ω.recs ++ BI s) (AB ω.recs).length).2 ≠ 0 then IQ ((Ca δ ω.area (AB ω.recs ++ BI s) (AB ω.recs).length).1, ω, (Ca δ ω.area (AB ω.recs ++ BI s) (AB ω.recs).length).2)
 else ((Ca δ ω.area (AB ω.recs ++ BI s) (AB ω.recs).length).1, { ω with recs := ω.recs ++ [s] }, 0)
def Ay (δ : Dk) (ω : Wl) : Dk × Wl × Int :=
 if ω.doubt then (δ, ω, 34) else if ω.synced = ω.recs.length then (δ, ω, 0) else if ω.count = 4294967295 then (δ, ω, 30) else IQ (Ax δ ω ω.area ω.recs)
def CK (δ : Dk) (ω : Wl) (n : Int) : Dk × Wl × Int :=
 if ω.doubt then (δ, ω, 34) else if n < 0 ∨ n > ω.recs.length then (δ, ω, 32) else if ω.count = 4294967295 then (δ, ω, 30) else IQ (Ax δ ω ω.area (ω.recs.take n.toNat))
def A1 (δ : Dk) (ω : Wl) (l : List Bs) : Dk × Wl × Int :=
 if ω.doubt then (δ, ω, 34) else if l.any (fun s => decide (s.length > 4000)) then (δ, ω, 33) else if ¬ ((l.length : Int) * 6 ≤ 64 * Ag δ) ∨ ω.count = 4294967295 then (δ, ω, 30)
 else if ¬ ((AB l).length : Int) ≤ 64 * Ag δ then (δ, ω, 30)
 else if (Ca δ (1 - ω.area) (AB l) 0).2 ≠ 0 then IQ ((Ca δ (1 - ω.area) (AB l) 0).1, ω, (Ca δ (1 - ω.area) (AB l) 0).2)
 else IQ (Ax (Ca δ (1 - ω.area) (AB l) 0).1 ω (1 - ω.area) l)
def Af (δ : Dk) (ω : Wl) (a b : Int) : Dk × Wl × Int :=
 if ω.doubt then (δ, ω, 34) else if a < 0 ∨ b < 0 then (δ, ω, 1) else if ω.count = 4294967295 then (δ, ω, 30)
 else if (BB δ (ω.mark ω.area (ω.recs.take ω.synced.toNat) a b)).2 ≠ 0 then IQ ((BB δ (ω.mark ω.area (ω.recs.take ω.synced.toNat) a b)).1, ω, (BB δ (ω.mark ω.area (ω.recs.take ω.synced.toNat) a b)).2)
 else ((BB δ (ω.mark ω.area (ω.recs.take ω.synced.toNat) a b)).1, { ω with a := a, b := b, count := ω.count + 1 }, 0)
structure MV (δ : Dk) (ω : Wl) : Prop where
 size : 2 ≤ δ.now.length ∧ δ.now.length ≤ 32768
 acts : δ.acts + 10000000 < 4611686018427387904
 area : 0 ≤ ω.area ∧ ω.area ≤ 1
 count : 0 ≤ ω.count ∧ ω.count ≤ 4294967295
 synced : 0 ≤ ω.synced ∧ ω.synced ≤ ω.recs.length
 fits : ((AB ω.recs).length : Int) ≤ 64 * Ag δ
theorem CP {δ : Dk} (h : 2 ≤ δ.now.length ∧ δ.now.length ≤ 32768) : 0 ≤ Ag δ ∧ Ag δ ≤ 16383 := by unfold Ag; omega
abbrev wc (d : Nat) (vr : Value) (sy : Int) (vb : Value) (ar ct a b : Int) (db : Bool) : List Value := [AG d, vr, AA sy, vb, AA ar, AA ct, AA a, AA b, .bool db]
theorem UM (all : Bs) (i k : Nat) (hk : k = all.length - i * 64) : HJ (List.replicate 64 zB) 0 ((A4 (all.drop (i * 64))).take (min k 64 * 1)) = A4 (Bq all i) := by
 subst hk
 unfold Bq
 rw [Cu, Nat.mul_one]
 have e : (A4 (all.drop (i * 64))).take (min (all.length - i * 64) 64) = A4 ((all.drop (i * 64)).take 64) := by
  rw [show A4 ((all.drop (i * 64)).take 64) = (A4 (all.drop (i * 64))).take 64 from map_take]
  rcases Nat.le_total (all.length - i * 64) 64 with h | h
  ·rw [Nat.min_eq_left h, take_of_length_le (by simp [A4]), take_of_length_le (by simp [A4]; omega)]
  ·rw [Nat.min_eq_right h]
 rw [e]
 have hl : (A4 ((all.drop (i * 64)).take 64)).length = ((all.drop (i * 64)).take 64).length := BQ _
 generalize (all.drop (i * 64)).take 64 = t at *
 show (List.replicate 64 zB).take 0 ++ A4 t ++ (List.replicate 64 zB).drop (0 + (A4 t).length) = A4 t ++ A4 (List.replicate (64 - t.length) 0)
 rw [hl, Nat.zero_add, take_zero, nil_append, drop_replicate]
 congr 1
 show _ = (List.replicate (64 - t.length) (0 : UInt8)).map Bx
 rw [map_replicate]; rfl
theorem Uf : ∀ (f : Nat) (δ : Dk) (area : Int) (all : Bs) (i : Nat), (GD f δ area all i).2 = 0 ∨ (GD f δ area all i).2 = 2 := by
 intro f
 induction f with
 | zero => intro δ area all i; exact .inl rfl
 | succ f ih =>
  intro δ area all i
  simp only [GD]
  split
  ·split
   ·exact .inr rfl
   ·exact ih _ _ _ _
  ·exact .inl rfl
theorem MB (δ : Dk) (area : Int) (all : Bs) (frm : Nat) : (Ca δ area all frm).2 = 0 ∨ (Ca δ area all frm).2 = 2 := Uf _ _ _ _ _
theorem Lc : ∀ (f : Nat) (δ : Dk) (area : Int) (all : Bs) (i : Nat), (GD f δ area all i).1.now.length = δ.now.length ∧ (GD f δ area all i).1.acts ≤ δ.acts + f := by
 intro f
 induction f with
 | zero => intro δ area all i; exact ⟨rfl, by simp [GD]⟩
 | succ f ih =>
  intro δ area all i
  simp only [GD]
  have hw := Bi δ (2 + area * Ag δ + i) (Bq all i)
  split
  ·split
   ·exact ⟨hw.1, by dsimp only; omega⟩
   ·have := ih (δ.write (2 + area * Ag δ + i) (Bq all i)).1 area all (i + 1)
    exact ⟨by rw [this.1, hw.1], by omega⟩
  ·exact ⟨rfl, by dsimp only; omega⟩
theorem D1 (δ : Dk) (m : Mk) : (BB δ m).1.now.length = δ.now.length ∧ (BB δ m).1.acts ≤ δ.acts + 2 ∧ ((BB δ m).2 = 0 ∨ (BB δ m).2 = 2) := by
 have h1 := Bi δ (m.count % 2) m.sec
 have h2 := EZ (δ.write (m.count % 2) m.sec).1
 unfold BB
 split
 ·exact ⟨h1.1, by dsimp only; omega, .inr rfl⟩
 ·split
  ·exact ⟨by rw [h2.1, h1.1], by dsimp only; omega, .inr rfl⟩
  ·exact ⟨by rw [h2.1, h1.1], by dsimp only; omega, .inl rfl⟩
theorem Jp (x d : Nat) (vr : Value) (sy : Int) (vb : Value) (ar ct a b : Int) (db : Bool) (δ : Dk) (n : Int) (hn : 2 ≤ δ.now.length ∧ δ.now.length ≤ 32768) : Fn prog 71 #[AG x, AA n] [Ar x (wc d vr sy vb ar ct a b db) 135, Bg d δ] fun v L => v = .bool (decide (n ≤ 64 * Ag δ)) ∧ L = [Ar x (wc d vr sy vb ar ct a b db) 135, Bg d δ] := by
 refine Fn.intro func71 Y Y fun F W => ?_
 have hh := CP hn
 refine .sr (.an Y (.sm Y (.m Y (.nf Y Fb (.u (.ld Y G3) (.cv func69 [_] (Jk d δ hn) ?_))))))
 refine .q (.mul Y Y om) Y (.ui Y Y Y (.an Y (.ret ?_)))
 exact .vv
theorem AW (x d : Nat) (vr : Value) (sy : Int) (vb : Value) (ar ct a b : Int) (db : Bool) (e : Nat) (er : Int) : FnD prog 70 #[AG x, AG e] [Ar x (wc d vr sy vb ar ct a b db) 135, Ar e [AA er] 35] fun v L => v = .tuple #[] ∧ L = [Ar x (wc d vr sy vb ar ct a b (if er = 2 then true else db)) 135, Ar e [AA er] 35] := by
 refine FnD.intro (vs := [AG x, AG e]) func70 rfl rfl ?_
 intro F W
 refine G.sm rfl (G.u (AH.nilp rfl) (G.u (AH.ld rfl Bj) (G.ui rfl rfl rfl (G.nt (G.condD rfl (fun h7 => ?_) (fun h7 => ?_))))))
 ·refine G.region (G.m rfl (G.nf rfl GN (G.st rfl rfl rfl Og ?_)))
  refine G.nil (G.done_n ?_)
  rw [if_pos h7]
  exact G.dn rfl rfl ⟨rfl, rfl⟩
 ·refine G.skip (G.done_n ?_)
  rw [if_neg h7]
  exact G.dn rfl rfl ⟨rfl, rfl⟩
theorem M8 (x d : Nat) (vr : Value) (sy : Int) (vb : Value) (ar ct a b : Int) (db : Bool) (va : Value) (δ : Dk) (area : Int) (all : Bs) (frm : Nat) (p : HP) (hn : 2 ≤ δ.now.length ∧ δ.now.length ≤ 32768) (ha : 0 ≤ area ∧ area ≤ 1) (hA : δ.acts + 70000 < 4611686018427387904) (hr : ∀ h : Hp, p h → B5 1 h va all.length (A4 all)) (hl0 : all.length ≤ 2000000) (hfrm : frm ≤ all.length) : Fn prog 74 #[AG x, AA area, va, AA frm] [Ar x (wc d vr sy vb ar ct a b db) 135, Bg d δ, p] fun v L => v = AA (Ca δ area all frm).2 ∧ L = [Ar x (wc d vr sy vb ar ct a b db) 135, Bg d (Ca δ area all frm).1, p] := by
 refine Fn.intro func74 Y Y fun F W => ?_
 have hh := CP hn
 refine .rdAny (p := p) hr O fun aa ca e _ => ?_
 subst e
 refine .sr (.an Y (.seq (.sm Y (.q (.as (v' := AA ((frm / 64 : Nat) : Int)) (by exact congrArg AA om) (.quoE Y Y om om)) Y (.an Y (.block (.loopK (ι := Nat × Dk × Nat) (fun q E => (9, AA q.1) :: E) (fun q => [Bg d q.2.1]) (fun q => all.length < q.2.2 + q.1 * 64 ∧ GD q.2.2 q.2.1 area all q.1 = Ca δ area all frm ∧ q.2.1.now.length = δ.now.length ∧ q.2.1.acts ≤ δ.acts + q.1 ∧ q.1 ≤ all.length / 64 + frm + 1) (fun q => all.length - q.1 * 64) (frm / 64, δ, all.length + 1) (ts := [0, 1, 2]) O (⟨by dsimp only; omega, rfl, rfl, by dsimp only; omega, by dsimp only; omega⟩) O O ?_)))))))
 rintro ⟨i, δ2, f⟩ ⟨hf, hl, hnl, hac, hib⟩
 dsimp only
 dsimp only at hf hl hnl hac hib
 have hhz := Dp hnl
 refine .seq (.sm Y (.q (.mul Y Y om) Y (.m Y (.q (.slen Y underlying133 Y) Y (.ui Y Y Y (.nt (.condD Y (fun h18 => ?_) (fun h18 => ?_))))))))
 ·obtain ⟨f, rfl⟩ : ∃ k, f = k + 1 := ⟨f - 1, by omega⟩
  have hi2 : i * 64 < all.length := by omega
  simp only [GD] at hl
  rw [if_pos hi2, hhz] at hl
  refine .rdShapeC (p := p) hr O om fun ba oa e hac2 => ?_
  subst e
  have hmul : 0 ≤ area * Ag δ ∧ area * Ag δ ≤ 16383 := by rcases (by omega : area = 0 ∨ area = 1) with h | h <;> rw [h] <;> omega
  refine .sk (.seq (.block (.sr (.oq (.make Y Y A8 Fo Y ⟨by simp, by simp; rfl⟩ ?hc9) ?_))))
  case hc9 => omega
  rintro v L' ⟨bs, rfl, rfl⟩; rw [show (64 : Int).toNat = 64 from rfl]
  refine .an Y (.sm Y (.m Y (.m Y (.q (.mul Y Y om) Y (.q (.to (v' := .slice (some ⟨ba, oa + i * 64 * 1, none⟩) (all.length - i * 64) (ca - i * 64)) (.slSlice (i := (i : Int) * 64) (j := all.length) Y A8 (by exact rfl) (by exact rfl) om) (by rw [show ((i : Int) * 64).toNat = i * 64 by omega, if_neg om]; simp)) Y (.oq (.copy (m := all.length - i * 64) (ys := (A4 all).drop (i * 64 * 1)) (p := p) Y Y Y A8 ?h116 ?h217 ?h318 ?h419) ?_))))))
  case h116 => exact fun h hp => Wn (hr h hp) hi2
  case h217 => exact fun y hy => EV _ y (mem_of_mem_drop hy)
  case h318 => simp
  case h419 => exact Bk _ _
  rintro v L' ⟨rfl, rfl⟩
  refine .nil (.ptCast (b := bs) (l' := A4 (Bq all i)) O (by rw [show (A4 all).drop (i * 64 * 1) = A4 (all.drop (i * 64)) from by rw [Nat.mul_one]; exact map_drop.symm]; exact UM all i _ rfl) (.then_n (.seq (.draw [16] [[0, 1, 2, 3, 4, 5, 6, 7, 8, 9, 10, 11, 12, 13, 14, 15, 16], [17]] mixed kQ (.go [Ar x _ _, Ar bs _ _] O (.mv Y Y (.nf Y Y Y Fb (.kv Y (.ld Y G3) (.mv Y Y (.mv Y Y (.nf Y Y Y Fb (.kv Y (.ld Y G3) (.mw [10, 11, 13, 16] Y kQ (.c func69 [_] (Jk d δ2 om)) O ?_)))))))))))))
  rw [hhz]
  refine D.kv Y (.mul Y Y om) (.kv Y (.add Y Y om) (.mv Y Y (.kv Y (.add Y Y om) (.mv Y Y (.kv Y (.bytesPt (cs := Bq all i) Y underlying133 underlying5 underlying9 O (by rw [drop_zero]; exact take_of_length_le (by simp [BQ, Ib])) (by simp [BQ, Ib]) dQ) (.hh Y (.c func97 [_, _, _] (GY d δ2 (2 + area * Ag δ + i) (Bq all i) om)) ?_))))))
  rintro v L' ⟨rfl, rfl⟩
  refine D.ph (.g0 (.kv Y (.assign Y) (.pf (.sm Y (.ui Y Y Y (.nt (.condN Y (fun h46 => ?_) (fun h46 => ?_))))))))
  ·refine .seq ?_
   have h46 : (δ2.write (2 + area * Ag δ + i) (Bq all i)).2 ≠ 0 := by simpa using h46
   rw [if_pos h46] at hl
   rw [← hl]
   refine .region (.an Y (.ret (.blk_r (.then_r (.then_r (.blk_r (.then_r ?_)))))))
   exact .vv
  have h46 : ¬ (δ2.write (2 + area * Ag δ + i) (Bq all i)).2 ≠ 0 := by simpa using h46
  rw [if_neg h46] at hl
  refine .skip (.blk_n (.then_n (.region (.m Y (.q (.add Y Y om) Y (.an Y ?_))))))
  exact .rk ((i + 1, (δ2.write (2 + area * Ag δ + i) (Bq all i)).1, f)) (⟨by dsimp only; omega, hl, by rw [(Bi _ _ _).1]; exact hnl, by have := (Bi δ2 (2 + area * Ag δ + i) (Bq all i)).2; dsimp only; omega, by dsimp only; omega⟩) (by dsimp only; omega) O
 have hq := PA (f := f) (δ := δ2) (area := area) (all := all) (i := i) om
 rw [hq] at hl
 rw [← hl]
 refine .xe (.sr (.an Y (.ret ?_)))
 exact .vv
theorem M9 (x d : Nat) (vr : Value) (sy : Int) (vb : Value) (ar ct a b : Int) (db : Bool) (m : Mk) (δ : Dk) (hc : 0 ≤ ct ∧ ct ≤ 4294967295) (hA : δ.acts + 2 < 4611686018427387904) : Fn prog 75 #[AG x, .agg (Xc m).toArray] [Ar x (wc d vr sy vb ar ct a b db) 135, Bg d δ] fun v L => v = AA (BB δ (⟨ct + 1, m.area, m.len, m.num, m.a, m.b⟩ : Mk)).2 ∧ L = [Ar x (wc d vr sy vb ar (if (BB δ (⟨ct + 1, m.area, m.len, m.num, m.a, m.b⟩ : Mk)).2 = 0 then ct + 1 else ct) a b db) 135, Bg d (BB δ (⟨ct + 1, m.area, m.len, m.num, m.a, m.b⟩ : Mk)).1] := by
 refine Fn.intro func75 Y Y fun F W => ?_
 generalize hM : (⟨ct + 1, m.area, m.len, m.num, m.a, m.b⟩ : Mk) = M
 have hMc : M.count = ct + 1 := by rw [← hM]
 have hwk := Bi δ (M.count % 2) M.sec
 refine .sr (.oq (.box Y) ?_)
 rintro v L' ⟨b3, rfl, rfl⟩
 refine .an Y (.sm Y (.nf Y GQ (.u (.ld Y AF) (.q (.add Y Y om) Y (.fa Y HH (.oq (.store Y Y Y BV ?c10 (Bk _ _)) ?_))))))
 case c10 => simp [Value.cells, Xc]
 rintro v L' rfl
 refine .nil (.ptCast (b := b3) (l' := Xc M) O (by rw [← hM]; rfl) (.then_n (.seq (.seq (.draw [9, 16] [[0, 1, 2, 3, 4, 5, 6, 7, 8, 9], [10, 11, 12, 13, 14, 15, 16], [17, 18]] mixed kQ (.go [Ar x _ _, Ar b3 _ _] O (.mv Y Y (.nf Y Y Y Fb (.kv Y (.ld Y G3) (.kv Y (.fieldAddr Y HH) (.kv Y (.ld Y AF) (.kv Y (.remE (a := M.count) Y Y (by rw [hMc]; omega) dQ) (.kv Y (.loadAs (vs := Xc M) Y Z1 O (by simp [Xc]) Y) (.m Y kQ (.c func99 [_] (KB M)) O ?_))))))))))))))
 refine D.hh Y (.c func97 [_, _, _] (GY d δ (M.count % 2) M.sec om)) ?_
 rintro v L' ⟨rfl, rfl⟩
 refine D.ph (.g0 (.kv Y (.int Y Y Y) (.mv Y Y (.ndec (t := 22) Y (fun h2_22 => ?_) (fun h2_22 => ?_)))))
 ·refine D.kNT (t := 21) Y h2_22 (.gz Y (.gz Y (.gz Y (.gz Y (.gz Y (.ph (.g0 (.gz Y (.kv Y (.pickT Y Y) (.pf (.condT Y (.sr (.an Y (.rt ?_))))))))))))))
  have e : BB δ M = ((δ.write (M.count % 2) M.sec).1, 2) := by unfold BB; rw [if_pos (by simpa using h2_22)]
  rw [e]
  rw [if_neg (show ¬ (2 : Int) = 0 by decide)]
  exact .vv
 refine D.kNF (t := 21) Y h2_22 (.gv Y (.move Y) (.gv Y (.nilp Y) (.gv Y (.fieldAddr Y Fb) (.gv Y (.ld Y G3) (.gh (t := 22) Y Y Y kQ (.c func100 [_] (Jj d (δ.write (M.count % 2) M.sec).1 om)) O ?_)))))
 rintro v L' ⟨rfl, rfl⟩
 refine D.ph (.g0 (.gv Y (.int Y Y Y) (.kv Y (.pickF Y Y) (.pf (.condN Y (fun h29 => ?_) (fun h29 => ?_))))))
 ·refine .sr (.an Y (.rt ?_))
  have e : BB δ M = ((δ.write (M.count % 2) M.sec).1.sync.1, 2) := by unfold BB; rw [if_neg (by simpa using h2_22), if_pos (by simpa using h29)]
  rw [e]
  rw [if_neg (show ¬ (2 : Int) = 0 by decide)]
  exact .vv
 refine .sk (.sm Y (.fa Y HH (.u (.ld Y AF) (.nf Y GQ (.st Y Y Y BV ?_)))))
 refine .nt (.sr (.an Y (.ret ?_)))
 have e : BB δ M = ((δ.write (M.count % 2) M.sec).1.sync.1, 0) := by unfold BB; rw [if_neg (by simpa using h2_22), if_neg (by simpa using h29)]
 rw [e]
 rw [if_pos rfl, ← hMc]
 exact .vv
theorem NL (l : List Bs) : ∀ y ∈ Bo l, AD y = true := by
 intro y hy; obtain ⟨c, -, rfl⟩ := mem_map.1 hy; rfl
theorem JU (x d : Nat) (vr vb : Value) (ω : Wl) (δ : Dk) (area : Int) (v1 v2 : Value) (l : List Bs) (p q : HP) (hc : 0 ≤ ω.count ∧ ω.count ≤ 4294967295) (hA : δ.acts + 10 < 4611686018427387904) (hl : (AB l).length ≤ 4000000) (hp : ∀ h : Hp, p h → B5 1 h v1 l.length (Bo l)) (hq : ∀ h : Hp, q h → B5 1 h v2 (AB l).length (A4 (AB l))) :
    Fn prog 77 #[AG x, AA area, v1, v2] [Ar x (wc d vr ω.synced vb ω.area ω.count ω.a ω.b ω.doubt) 135, Bg d δ, p, q] fun v L => (∃ δ', Ax δ ω area l = (δ', ω, 2) ∧ v = AA 2 ∧ L = [Ar x (wc d vr ω.synced vb ω.area ω.count ω.a ω.b ω.doubt) 135, Bg d δ', p, q]) ∨
      (∃ δ', Ax δ ω area l = (δ', { ω with recs := l, synced := l.length, area := area, count := ω.count + 1 }, 0) ∧ v = AA 0 ∧ ∃ vr' vb', L = [Ar x (wc d vr' l.length vb' area (ω.count + 1) ω.a ω.b ω.doubt) 135, Bg d δ', Cp vr' l, EN vb' (AB l), p, q]) := by
 refine Fn.intro func77 Y Y fun F W => ?_
 have hsk := EZ δ
 have hll := BU l
 refine .rdAny (p := p) hp O fun ap cp e _ => ?_
 subst e
 refine .rdAny (p := q) hq O fun aq cq e _ => ?_
 subst e
 refine .sr (.an Y (.seq (.sm Y (.nf Y Fb (.u (.ld Y G3) (.cv func100 [_] (Jj d δ om) ?_))))))
 refine .ui Y Y Y (.nt (.condN Y (fun h15 => ?_) (fun h15 => ?_)))
 ·refine .sr (.an Y (.rt ?_))
  have e : Ax δ ω area l = (δ.sync.1, ω, 2) := by unfold Ax; rw [if_pos (by simpa using h15)]
  exact .dn Y Y (.inl ⟨_, e, Y, Y⟩)
 refine .sk (.seq (.seq (.draw [15] [[0, 1, 2, 3, 4, 5, 6, 7, 8, 9, 10, 11, 12, 13, 14, 15], [16]] mixed kQ (.g0 (.mv Y Y (.mv Y Y (.mv Y Y (.kv Y (.slen Y underlying133 Y) (.mv Y Y (.kv Y (.slen Y underlying65 Y) (.mv Y Y (.nf Y Y Y QT (.kv Y (.ld Y AF) (.mv Y Y (.nf Y Y Y Pg (.kv Y (.ld Y AF) (.kv Y (.to (v' := .agg (Xc ⟨0, area, (AB l).length, l.length, ω.a, ω.b⟩).toArray) (.build (us := [(1, _), (2, _), (3, _), (4, _), (5, _)]) Re RQ Y Y (by simp [AD])) Y) (.hh Y (.c func75 [_, _] (M9 x d vr ω.synced vb ω.area ω.count ω.a ω.b ω.doubt ⟨0, area, (AB l).length, l.length, ω.a, ω.b⟩ δ.sync.1 hc om)) ?_))))))))))))))))))
 rintro v L' ⟨rfl, rfl⟩; rw [show (⟨ω.count + 1, area, ((AB l).length : Int), (l.length : Int), ω.a, ω.b⟩ : Mk) = ω.mark area l ω.a ω.b from rfl]
 refine D.ph (.g0 (.kv Y (.assign Y) (.pf (.sm Y (.ui Y Y Y (.nt (.condN Y (fun h33 => ?_) (fun h33 => ?_))))))))
 ·refine .sm Y (.an Y (.rt ?_))
  have e : Ax δ ω area l = ((BB δ.sync.1 (ω.mark area l ω.a ω.b)).1, ω, 2) := by unfold Ax; rw [if_neg (by simpa using h15), if_pos (by simpa using h33)]
  have hn2 : (BB δ.sync.1 (ω.mark area l ω.a ω.b)).2 = 2 := by rcases (D1 δ.sync.1 (ω.mark area l ω.a ω.b)).2.2 with h | h; exact absurd h (by simpa using h33); exact h
  rw [hn2, if_neg (show ¬ (2 : Int) = 0 by decide)]
  exact .dn Y Y (.inl ⟨_, e, Y, Y⟩)
 refine .sk (.seq ?_)
 have h33b : (BB δ.sync.1 (ω.mark area l ω.a ω.b)).2 = 0 := by simpa using h33
 rw [if_pos h33b]
 refine .region (.m Y (.m Y (.m Y (.m Y (.m Y (.m Y (.oq (.c func123 [_] (KJ _ l.length (Bo l) p hp ?h134 ?h235)) ?_)))))))
 case h134 => exact NL l
 case h235 => omega
 rintro v L' ⟨⟨ar', cr', rfl⟩, rfl⟩
 refine .m Y (.oq (.c func72 [_] (KP _ (AB l).length (A4 (AB l)) q hq ?h139 ?h240)) ?_)
 case h139 => exact EV _
 case h240 => omega
 rintro v L' ⟨⟨ab', cb', rfl⟩, rfl⟩
 refine .m Y (.q (.slen Y underlying65 Y) Y (.nf Y FM (.st Y Y Y BV ?_)))
 refine .nf Y EE (.st Y Y Y II ?_)
 refine .nf Y FW (.st Y Y Y Ql ?_)
 refine .nf Y I3 (.st Y Y Y BV ?_)
 refine .nt (.sr (.an Y (.ret ?_)))
 have e : Ax δ ω area l = ((BB δ.sync.1 (ω.mark area l ω.a ω.b)).1, { ω with recs := l, synced := l.length, area := area, count := ω.count + 1 }, 0) := by unfold Ax; rw [if_neg (by simpa using h15), if_neg (by simpa using h33)]
 exact .dn Y Y (.inr ⟨_, e, Y, _, _, Y⟩)
end Go.Proofs.YtjhlofbhpjakgaaGreat
