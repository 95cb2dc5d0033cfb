/- Own work: association lists as maps; many objects as one atom; elements of several cells; look-ups whose answer is known. -/
import Derived.Test.YtnnbelmpbmfdnaaDoorSlSlice
import Derived.Test.YtnnbelmpbmfdnaaDoorSlAuto
namespace Go.Proofs.YtnnbelmpbmfdnaaDoor
open Go

section assoc
variable {K β : Type} [DecidableEq K]
theorem al_mem {m : List (K × β)} {k : K} {b : β} (h : alook m k = some b) : (k, b) ∈ m := by
  induction m with
  | nil => cases h
  | cons x m ih =>
    obtain ⟨a, c⟩ := x
    by_cases hk : k = a
    · subst hk; simp [alook] at h; simp [h]
    · simp [alook, hk] at h; exact List.mem_cons_of_mem _ (ih h)
theorem al_none {m : List (K × β)} {k : K} : alook m k = none ↔ k ∉ m.map (·.1) := by
  induction m with
  | nil => simp [alook]
  | cons x m ih =>
    obtain ⟨a, c⟩ := x
    by_cases hk : k = a
    · subst hk; simp [alook]
    · simp only [alook, hk, if_false, ih, List.map_cons, List.mem_cons, false_or]
theorem al_isSome {m : List (K × β)} {k : K} : (alook m k).isSome = true ↔ k ∈ m.map (·.1) := by
  have := al_none (m := m) (k := k)
  cases h : alook m k with
  | none => rw [h] at this; simpa using this
  | some b => rw [h] at this; simpa using this
theorem al_of_mem {m : List (K × β)} (hn : (m.map (·.1)).Nodup) {k : K} {b : β} (h : (k, b) ∈ m) : alook m k = some b := by
  induction m with
  | nil => simp at h
  | cons x m ih =>
    obtain ⟨a, c⟩ := x
    simp only [List.map_cons, List.nodup_cons] at hn
    rcases List.mem_cons.1 h with h1 | h1
    · cases h1; simp [alook]
    · have hk : k ≠ a := by rintro rfl; exact hn.1 (List.mem_map_of_mem (f := Prod.fst) h1)
      simp [alook, hk, ih hn.2 h1]
theorem al_perm {m m' : List (K × β)} (hp : m.Perm m') (hn : (m.map (·.1)).Nodup) (k : K) : alook m k = alook m' k := by
  have hn' : (m'.map (·.1)).Nodup := (hp.map _).nodup_iff.1 hn
  cases h : alook m' k with
  | none => rw [al_none] at h ⊢; exact fun hm => h ((hp.map _).mem_iff.1 hm)
  | some b => exact al_of_mem hn (hp.mem_iff.2 (al_mem h))
theorem al_aset {m : List (K × β)} {k : K} {v : β} (x : K) : alook (aset m k v) x = if x = k then some v else alook m x := by
  induction m with
  | nil => simp [aset, alook]
  | cons y m ih =>
    obtain ⟨a, c⟩ := y
    by_cases hk : k = a
    · subst hk
      by_cases hx : x = k <;> simp [aset, alook, hx]
    · by_cases hx : x = a
      · subst hx; simp [aset, alook, hk, Ne.symm hk]
      · simp [aset, alook, hk, hx, ih]
theorem adel_perm {m : List (K × β)} {k : K} {b : β} (h : alook m k = some b) : m.Perm ((k, b) :: adel m k) := by
  induction m with
  | nil => cases h
  | cons y m ih =>
    obtain ⟨a, c⟩ := y
    by_cases hk : k = a
    · subst hk; simp [alook] at h; subst h; simp [adel]
    · simp [alook, hk] at h
      simp only [adel, hk, if_false]
      exact (List.Perm.cons _ (ih h)).trans (List.Perm.swap _ _ _)
theorem aset_perm {m : List (K × β)} {k : K} {v : β} : (aset m k v).Perm ((k, v) :: adel m k) := by
  induction m with
  | nil => simp [aset, adel]
  | cons y m ih =>
    obtain ⟨a, c⟩ := y
    by_cases hk : k = a
    · subst hk; simp [aset, adel]
    · simp only [aset, adel, hk, if_false]
      exact (List.Perm.cons _ ih).trans (List.Perm.swap _ _ _)
theorem adel_sub (m : List (K × β)) (k : K) : (adel m k).Sublist m := by
  induction m with
  | nil => simp [adel]
  | cons y m ih =>
    obtain ⟨a, c⟩ := y
    by_cases hk : k = a
    · subst hk; simp [adel]
    · simp only [adel, hk, if_false]; exact ih.cons_cons _
theorem nodup_adel {m : List (K × β)} (hn : (m.map (·.1)).Nodup) (k : K) : ((adel m k).map (·.1)).Nodup := ((adel_sub m k).map _).nodup hn
theorem al_adel {m : List (K × β)} (hn : (m.map (·.1)).Nodup) {k : K} (x : K) : alook (adel m k) x = if x = k then none else alook m x := by
  induction m with
  | nil => simp [adel, alook]
  | cons y m ih =>
    obtain ⟨a, c⟩ := y
    simp only [List.map_cons, List.nodup_cons] at hn
    by_cases hk : k = a
    · subst hk
      simp only [adel, if_true]
      by_cases hx : x = k
      · subst hx; rw [if_pos rfl]; exact al_none.2 hn.1
      · simp [alook, hx]
    · simp only [adel, hk, if_false, alook, ih hn.2]
      by_cases hx : x = k
      · subst hx; simp [hk]
      · simp [hx]
theorem aset_keys {m : List (K × β)} {k : K} {b v : β} (h : alook m k = some b) : (aset m k v).map (·.1) = m.map (·.1) := by
  induction m with
  | nil => cases h
  | cons y m ih =>
    obtain ⟨a, c⟩ := y
    by_cases hk : k = a
    · subst hk; simp [aset]
    · simp [alook, hk] at h
      simp [aset, hk, ih h]
theorem nodup_aset {m : List (K × β)} (hn : (m.map (·.1)).Nodup) (k : K) (v : β) : ((aset m k v).map (·.1)).Nodup := by
  cases h : alook m k with
  | some b => rw [aset_keys h]; exact hn
  | none =>
    rw [aset_none h, List.map_append]
    exact List.nodup_append.2 ⟨hn, by simp, fun a ha b hb => by
      simp at hb; subst hb
      exact fun hab => al_none.1 h (hab ▸ ha)⟩
theorem aset_self {m : List (K × β)} {k : K} {v : β} (h : alook m k = some v) : aset m k v = m := by
  induction m with
  | nil => cases h
  | cons y m ih =>
    obtain ⟨a, c⟩ := y
    by_cases hk : k = a
    · subst hk; simp [alook] at h; subst h; simp [aset]
    · simp [alook, hk] at h
      simp [aset, hk, ih h]
theorem aset_map {γ : Type} {f : K × β → γ} {m : List (K × β)} {k : K} {b v : β} (h : alook m k = some b) (hf : f (k, v) = f (k, b)) : (aset m k v).map f = m.map f := by
  induction m with
  | nil => cases h
  | cons y m ih =>
    obtain ⟨a, c⟩ := y
    by_cases hk : k = a
    · subst hk; simp [alook] at h; subst h; simp [aset, hf]
    · simp [alook, hk] at h
      simp [aset, hk, ih h]
theorem aset_aset {m : List (K × β)} {k : K} {v w : β} : aset (aset m k v) k w = aset m k w := by
  induction m with
  | nil => simp [aset]
  | cons y m ih =>
    obtain ⟨a, c⟩ := y
    by_cases hk : k = a
    · simp [aset, hk]
    · simp [aset, hk, ih]
theorem perm_aset {m m' : List (K × β)} (hp : m.Perm m') (hn : (m.map (·.1)).Nodup) (k : K) (v : β) : (aset m k v).Perm (aset m' k v) := by
  have hn' : (m'.map (·.1)).Nodup := (hp.map _).nodup_iff.1 hn
  have e := al_perm hp hn k
  refine aset_perm.trans (List.Perm.trans ?_ aset_perm.symm)
  refine List.Perm.cons _ ?_
  cases h : alook m k with
  | none => rw [adel_none h, adel_none (e ▸ h)]; exact hp
  | some b => exact List.Perm.cons_inv ((adel_perm h).symm.trans (hp.trans (adel_perm (e ▸ h))))
theorem perm_adel {m m' : List (K × β)} (hp : m.Perm m') (hn : (m.map (·.1)).Nodup) (k : K) : (adel m k).Perm (adel m' k) := by
  have e := al_perm hp hn k
  cases h : alook m k with
  | none => rw [adel_none h, adel_none (e ▸ h)]; exact hp
  | some b => exact List.Perm.cons_inv ((adel_perm h).symm.trans (hp.trans (adel_perm (e ▸ h))))
theorem al_ext_perm {m m' : List (K × β)} (hn : (m.map (·.1)).Nodup) (hn' : (m'.map (·.1)).Nodup) (h : ∀ k, alook m k = alook m' k) : m.Perm m' := by
  have nd : ∀ {l : List (K × β)}, (l.map (·.1)).Nodup → l.Nodup := fun {l} h => by
    induction l with
    | nil => simp
    | cons a l ih =>
      simp only [List.map_cons, List.nodup_cons] at h ⊢
      exact ⟨fun hm => h.1 (List.mem_map.2 ⟨_, hm, rfl⟩), ih h.2⟩
  refine (List.perm_ext_iff_of_nodup (nd hn) (nd hn')).2 fun x => ?_
  obtain ⟨k, b⟩ := x
  constructor
  · intro hx; have := al_of_mem hn hx; rw [h k] at this; exact al_mem this
  · intro hx; have := al_of_mem hn' hx; rw [← h k] at this; exact al_mem this
end assoc

/-- Many objects, each by itself. -/
def bigR {α : Type} (f : α → HP) (m : List α) : HP := sep (m.map f)
theorem big_perm {α : Type} {f : α → HP} {m m' : List α} (hp : m.Perm m') {h : Hp} (hs : bigR f m h) : bigR f m' h := sep_perm (hp.map f) hs
theorem big_nil {α : Type} {f : α → HP} (h : Hp) : bigR f [] h := trivial
theorem big_cons {α : Type} {f : α → HP} {x : α} {m : List α} {h : Hp} (hs : bigR f (x :: m) h) : sep [f x, bigR f m] h := by
  obtain ⟨h1, h2, hd, a1, a2, hp, hL⟩ := hs
  exact ⟨h1, h2, hd, a1, a2, hp, h2, fun _ => none, fun _ => .inr rfl, fun _ _ e => e, fun _ _ e => (by cases e), hL, trivial⟩
theorem big_of_cons {α : Type} {f : α → HP} {x : α} {m : List α} {h : Hp} (hs : sep [f x, bigR f m] h) : bigR f (x :: m) h := by
  obtain ⟨h1, h2, hd, a1, a2, hp, g1, g2, gd, b1, b2, hq, -⟩ := hs
  exact ⟨h1, h2, hd, a1, a2, hp, sep_mono hq b1⟩
theorem big_take {K β : Type} [DecidableEq K] {f : K × β → HP} {m : List (K × β)} {k : K} {b : β} (h : alook m k = some b) {hp : Hp} (hs : bigR f m hp) : sep [f (k, b), bigR f (adel m k)] hp := big_cons (big_perm (adel_perm h) hs)
theorem big_put {K β : Type} [DecidableEq K] {f : K × β → HP} {m : List (K × β)} {k : K} {b : β} {hp : Hp} (hs : sep [f (k, b), bigR f (adel m k)] hp) : bigR f (aset m k b) hp := big_perm aset_perm.symm (big_of_cons hs)
section
variable {P : Program} {W : World} {n : Nat} {ds : List Deferred} {E : Env} {L R : List HP} {ty : TypeId} {X : Act → World → Prop}
theorem G.bigTake {K β : Type} [DecidableEq K] {f : K × β → HP} {m : List (K × β)} {k : K} {b : β} (h : alook m k = some b) (hL : Pick (bigR f m) L R) (hg : G W n ds E (f (k, b) :: bigR f (adel m k) :: R) X) : G W n ds E L X :=
  G.focus hL (G.unfold (q := [f (k, b), bigR f (adel m k)]) (fun _ hp => big_take h hp) hg)
theorem G.bigPut {K β : Type} [DecidableEq K] {f : K × β → HP} {m : List (K × β)} (k : K) (b : β) {p : HP} (hp : p = f (k, b)) (hL : Picks [p, bigR f (adel m k)] L R) (hg : G W n ds E (bigR f (aset m k b) :: R) X) : G W n ds E L X := by
  subst hp
  exact G.fold hL (fun _ hp => big_put hp) hg

section laws
variable {K β : Type} [DecidableEq K] {kv : K → Value} {enc : β → Value} {kt et : TypeId}
theorem Quiet.lookupY (hl : KeyLaw P kt kv) {t : TypeId} {x y : Operand} {m : List (K × β)} {r : Nat} {k : K} {b : β} {z : Value} {ents : List (Value × Value)} (hb : alook m k = some b) (hx : ev E x = some (.map (some r))) (hy : ev E y = some (kv k)) (ht : P.underlying t = some (.map kt et)) (hz : zeroOf P et = some z)
    (hL : Pick (mapR r ents) L R) (he : ents = m.map fun x => (kv x.1, enc x.2)) : Quiet P ⟨none, .lookup t x y false, ty, "", #[], none⟩ E L (enc b) := by
  have q := Quiet.lookup (enc := enc) (ty := ty) hl hx hy ht hz hL he
  rw [hb] at q; exact q
theorem Quiet.lookupN (hl : KeyLaw P kt kv) {t : TypeId} {x y : Operand} {m : List (K × β)} {r : Nat} {k : K} {z : Value} {ents : List (Value × Value)} (hb : alook m k = none) (hx : ev E x = some (.map (some r))) (hy : ev E y = some (kv k)) (ht : P.underlying t = some (.map kt et)) (hz : zeroOf P et = some z)
    (hL : Pick (mapR r ents) L R) (he : ents = m.map fun x => (kv x.1, enc x.2)) : Quiet P ⟨none, .lookup t x y false, ty, "", #[], none⟩ E L z := by
  have q := Quiet.lookup (enc := enc) (ty := ty) hl hx hy ht hz hL he
  rw [hb] at q; exact q
theorem Quiet.lookupOkY (hl : KeyLaw P kt kv) {t : TypeId} {x y : Operand} {m : List (K × β)} {r : Nat} {k : K} {b : β} {z : Value} {ents : List (Value × Value)} (hb : alook m k = some b) (hx : ev E x = some (.map (some r))) (hy : ev E y = some (kv k)) (ht : P.underlying t = some (.map kt et)) (hz : zeroOf P et = some z)
    (hL : Pick (mapR r ents) L R) (he : ents = m.map fun x => (kv x.1, enc x.2)) : Quiet P ⟨none, .lookup t x y true, ty, "", #[], none⟩ E L (.tuple #[enc b, .bool true]) := by
  have q := Quiet.lookupOk (enc := enc) (ty := ty) hl hx hy ht hz hL he
  rw [hb] at q; exact q
theorem Quiet.lookupOkN (hl : KeyLaw P kt kv) {t : TypeId} {x y : Operand} {m : List (K × β)} {r : Nat} {k : K} {z : Value} {ents : List (Value × Value)} (hb : alook m k = none) (hx : ev E x = some (.map (some r))) (hy : ev E y = some (kv k)) (ht : P.underlying t = some (.map kt et)) (hz : zeroOf P et = some z)
    (hL : Pick (mapR r ents) L R) (he : ents = m.map fun x => (kv x.1, enc x.2)) : Quiet P ⟨none, .lookup t x y true, ty, "", #[], none⟩ E L (.tuple #[z, .bool false]) := by
  have q := Quiet.lookupOk (enc := enc) (ty := ty) hl hx hy ht hz hL he
  rw [hb] at q; exact q
end laws

theorem Quiet.as {o : Oper} {v v' : Value} (h : v = v') (q : Quiet P o E L v) : Quiet P o E L v' := h ▸ q
theorem Quiet.to {o : Oper} {v v' : Value} (q : Quiet P o E L v) (h : v = v') : Quiet P o E L v' := h ▸ q
theorem OpSpec.allocA {t : TypeId} {zl : List Value} (hz : zeroOf P t = some (.agg zl.toArray)) : OpSpec P ⟨none, .alloc t, ty, "", #[], none⟩ E [] fun u L' => ∃ b, u = vptr b ∧ L' = [ptc b zl t] := by
  have h := OpSpec.alloc (P := P) (E := E) (ty := ty) hz
  simpa [Value.cells] using h
/-- One cell out of a slice's memory. -/
theorem Quiet.loadRd {t : TypeId} {x : Operand} {b o off n c sz j : Nat} {ys : List Value} {v : Value} {p : HP} (hx : ev E x = some (.pointer (some ⟨b, o, none⟩))) (hp : aggOf P t = some none) (hL : Pick p L R)
    (hr : ∀ h : Hp, p h → rdS sz h (.slice (some ⟨b, off, none⟩) n c) n ys) (ho : o = off + j) (hv : ys[j]? = some v) : Quiet P ⟨none, .load t x, ty, "", #[], none⟩ E L v := by
  subst ho
  refine Quiet.loadEl (n := n * sz) (c := n * sz) (ys := ys) (i := j) hx hp hL (fun h hh => ?_) hv
  have hl := rdS_len (hr h hh)
  obtain ⟨T, fr, l, hb, hl2, hys, -⟩ := rdS_at (hr h hh) (fun h0 => by rw [h0] at hl; rw [List.eq_nil_of_length_eq_zero (by omega : ys.length = 0)] at hv; cases hv)
  exact .inr ⟨b, off, n * sz, l, T, fr, rfl, hb, by rw [Nat.mul_one]; exact hys, by rw [Nat.mul_one]; exact hl2, Nat.le_refl _⟩
/-- A struct or array out of a slice's memory. -/
theorem Quiet.loadRdA {t : TypeId} {x : Operand} {b o off n c sz j k : Nat} {ys vs : List Value} {p : HP} (hx : ev E x = some (.pointer (some ⟨b, o, none⟩))) (hp : aggOf P t = some (some k)) (hL : Pick p L R)
    (hr : ∀ h : Hp, p h → rdS sz h (.slice (some ⟨b, off, none⟩) n c) n ys) (ho : o = off + j) (hn : n ≠ 0) (hk : j + k ≤ n * sz) (hv : (ys.drop j).take k = vs) : Quiet P ⟨none, .load t x, ty, "", #[], none⟩ E L (.agg vs.toArray) := by
  subst ho
  intro ρ w ha hs
  obtain ⟨h1, a1, hp1⟩ := sep_head (hs.pick hL)
  obtain ⟨T, fr, l, hb, hl, hys, -⟩ := rdS_at (hr _ hp1) hn
  show (do pure (Next.value (← Instr.loadAt t (ρ x))) : Sem Next).run P w = _
  rw [ha x _ hx]
  have : (Instr.loadAt t (.pointer (some ⟨b, off + j, none⟩))).run P w = .ok (.agg vs.toArray) w := by
    unfold Instr.loadAt
    rw [← hv, ← hys, List.drop_take, List.take_take, Nat.min_eq_left (by omega), List.drop_drop]
    exact run_loadVarA hp (a1 _ _ hb) (by omega)
  rw [run_bind this]; rfl
theorem slR_get {T : TypeId} {sz b n c : Nat} {xs : List Value} {h : Hp} (hp : slR T sz (.slice (some ⟨b, 0, none⟩) n c) n xs h) : ∃ y : List Value × (Nat × Nat), h b = some (.cells (List.toArray (xs ++ y.1)) T y.2) ∧ xs.length = n * sz ∧ c * sz ≤ xs.length + y.1.length ∧ n ≤ c ∧ nfz y.2 0 (c * sz) := by
  rcases hp with ⟨h1, -⟩ | ⟨b', cap, rest, fr, h1, h2, h3, h4, h5, h6⟩
  · simp at h1
  · simp only [Value.slice.injEq, Option.some.injEq, Addr.mk.injEq] at h1
    obtain ⟨⟨rfl, -, -⟩, -, rfl⟩ := h1
    exact ⟨(rest, fr), h2, h3, h4, h5, h6⟩
/-- A store to one cell of a slice that is owned. -/
theorem OpSpec.storeRd {t : TypeId} {x y : Operand} {b o n c sz j : Nat} {xs : List Value} {T : TypeId} {v : Value} (hx : ev E x = some (.pointer (some ⟨b, o, none⟩))) (hy : ev E y = some v) (hv : isCell v = true) (ht : sizeOf' P t = some 1) (ho : o = j) (hi : j < n * sz) :
    OpSpec P ⟨none, .store t x y, ty, "", #[], none⟩ E [slR T sz (.slice (some ⟨b, 0, none⟩) n c) n xs] fun _ L' => L' = [slR T sz (.slice (some ⟨b, 0, none⟩) n c) n (xs.set j v)] := by
  subst ho
  intro ρ w F ha hs
  obtain ⟨⟨rest, fr⟩, h1, h2, hd, a1, a2, ⟨p1, p2, p3, p4, p5⟩, hF⟩ := sep_ex (sep_imp (q := fun h => ∃ y : List Value × (Nat × Nat), h b = some (.cells (List.toArray (xs ++ y.1)) T y.2) ∧ xs.length = n * sz ∧ c * sz ≤ xs.length + y.1.length ∧ n ≤ c ∧ nfz y.2 0 (c * sz)) (fun h hp => slR_get hp) hs)
  have hpt : St ([pt b (.cells (xs ++ rest).toArray T fr)] ++ F) w := ⟨h1, h2, hd, a1, a2, p1, hF⟩
  have hnc := Nat.mul_le_mul_right sz p4
  have := OpSpec.store (P := P) (E := E) (ty := ty) hx hy hv ht (by simp; omega) (fun j q1 q2 => p5 j (by omega) (by simp at *; omega)) ρ w F ha hpt
  refine this.mono ?_
  rintro u w' ⟨L', rfl, hs2, hk⟩
  refine ⟨_, rfl, sep_imp (fun h hp => ?_) hs2, hk⟩
  refine .inr ⟨b, c, rest, fr, rfl, ?_, by simpa using p2, by simpa using p3, p4, p5⟩
  have e : (xs ++ rest).set o v = xs.set o v ++ rest := by rw [List.set_append_left _ _ (by omega)]
  rw [← e]; exact hp
/-- A store of a struct into a slice that is owned. -/
theorem OpSpec.storeRdA {t : TypeId} {x y : Operand} {b o n c sz j k : Nat} {xs vs : List Value} {T : TypeId} (hx : ev E x = some (.pointer (some ⟨b, o, none⟩))) (hy : ev E y = some (.agg vs.toArray)) (hv : ∀ v ∈ vs, isCell v = true) (ht : sizeOf' P t = some k) (hk : vs.length = k) (ho : o = j) (hi : j + k ≤ n * sz) :
    OpSpec P ⟨none, .store t x y, ty, "", #[], none⟩ E [slR T sz (.slice (some ⟨b, 0, none⟩) n c) n xs] fun _ L' => L' = [slR T sz (.slice (some ⟨b, 0, none⟩) n c) n (spl xs j vs)] := by
  subst ho; subst hk
  intro ρ w F ha hs
  obtain ⟨⟨rest, fr⟩, h1, h2, hd, a1, a2, ⟨p1, p2, p3, p4, p5⟩, hF⟩ := sep_ex (sep_imp (q := fun h => ∃ y : List Value × (Nat × Nat), h b = some (.cells (List.toArray (xs ++ y.1)) T y.2) ∧ xs.length = n * sz ∧ c * sz ≤ xs.length + y.1.length ∧ n ≤ c ∧ nfz y.2 0 (c * sz)) (fun h hp => slR_get hp) hs)
  have hpt : St ([pt b (.cells (xs ++ rest).toArray T fr)] ++ F) w := ⟨h1, h2, hd, a1, a2, p1, hF⟩
  have hnc := Nat.mul_le_mul_right sz p4
  have := OpSpec.storeA (P := P) (E := E) (ty := ty) hx hy hv ht rfl (by simp; omega) (fun j q1 q2 => p5 j (by omega) (by dsimp only at *; omega)) ρ w F ha hpt
  refine this.mono ?_
  rintro u w' ⟨L', rfl, hs2, hk⟩
  refine ⟨_, rfl, sep_imp (fun h hp => ?_) hs2, hk⟩
  dsimp only at p2 p3
  have hl : (spl xs o vs).length = xs.length := spl_length (by omega)
  refine .inr ⟨b, c, rest, fr, rfl, ?_, by rw [hl]; exact p2, by rw [hl]; exact p3, p4, p5⟩
  have e : spl (xs ++ rest) o vs = spl xs o vs ++ rest := by
    unfold spl
    rw [List.take_append_of_le_length (by omega), List.drop_append_of_le_length (by omega)]
    simp
  rw [← e]; exact hp
theorem slR_take {T : TypeId} {b n c : Nat} {l : List Value} {h : Hp} (hn : n ≤ c) (hc : c ≤ l.length) (hp : ptc b l T h) : slR T 1 (.slice (some ⟨b, 0, none⟩) n c) n (l.take n) h :=
  .inr ⟨b, c, l.drop n, (0, 0), rfl, by rw [List.take_append_drop]; exact hp, by rw [List.length_take]; omega, by rw [List.length_take, List.length_drop]; omega, hn, nfz0 _ _⟩
theorem G.slMake {n' : Nat} {T : TypeId} {b n c : Nat} {l xs : List Value} (hL : Pick (ptc b l T) L R) (hn : n ≤ c) (hc : c ≤ l.length) (hx : l.take n = xs) (h : G W n' ds E (slR T 1 (.slice (some ⟨b, 0, none⟩) n c) n xs :: R) X) : G W n' ds E L X := by
  subst hx
  exact fun a w he hk hs => h a w he hk (sep_imp (fun _ hp => slR_take hn hc hp) (hs.pick hL))
theorem slR_clip {T : TypeId} {sz b n c : Nat} {xs : List Value} {h : Hp} (hp : slR T sz (.slice (some ⟨b, 0, none⟩) n c) n xs h) : slR T sz (.slice (some ⟨b, 0, none⟩) n n) n xs h := by
  obtain ⟨⟨rest, fr⟩, h1, h2, h3, h4, h5⟩ := slR_get hp
  have := Nat.mul_le_mul_right sz h4
  exact .inr ⟨b, n, rest, fr, rfl, h1, h2, by omega, Nat.le_refl _, fun i q1 q2 => h5 i q1 (by dsimp only at *; omega)⟩
theorem G.slClip {T : TypeId} {sz b m c : Nat} {xs : List Value} (hL : Pick (slR T sz (.slice (some ⟨b, 0, none⟩) m c) m xs) L R) (h : G W n ds E (slR T sz (.slice (some ⟨b, 0, none⟩) m m) m xs :: R) X) : G W n ds E L X :=
  fun a w he hk hs => h a w he hk (sep_imp (fun _ hp => slR_clip hp) (hs.pick hL))
theorem G.slCases {T : TypeId} {sz m : Nat} {v : Value} {xs : List Value} (hL : Pick (slR T sz v m xs) L R) (h0 : v = .slice none 0 0 → m = 0 → xs = [] → G W n ds E L X)
    (h1 : ∀ b c, v = .slice (some ⟨b, 0, none⟩) m c → m ≤ c → G W n ds E L X) : G W n ds E L X := by
  intro a w he hk hs
  obtain ⟨g1, -, hp⟩ := sep_head (hs.pick hL)
  rcases hp with ⟨q1, q2, q3⟩ | ⟨b, cap, rest, fr, hv, -, -, -, h4, -⟩
  · exact h0 q1 q2 q3 a w he hk hs
  · exact h1 b cap hv h4 a w he hk hs
theorem G.slCast {T : TypeId} {sz m m' : Nat} {v : Value} {xs xs' : List Value} (hL : Pick (slR T sz v m xs) L R) (hm : m = m') (hx : xs = xs') (h : G W n ds E (slR T sz v m' xs' :: R) X) : G W n ds E L X := by
  subst hm; subst hx; exact G.focus hL h
theorem G.ptCast {b : Nat} {l l' : List Value} {T : TypeId} (hL : Pick (ptc b l T) L R) (hl : l = l') (h : G W n ds E (ptc b l' T :: R) X) : G W n ds E L X := by
  subst hl; exact G.focus hL h
theorem Quiet.clip {t : TypeId} {x y z : Operand} {a : Option Addr} {n c e sz by' : Nat} (hx : ev E x = some (.slice a n c)) (ht : elemOf' P t = some (e, sz, by')) (hy : ev E y = some (.int .i64 n)) (hz : ev E z = some (.int .i64 n)) (hb : n ≤ c)
    (ha' : a = none ∨ ∃ b off, a = some ⟨b, off, none⟩) : Quiet P ⟨none, .slice t x none (some y) (some z), ty, "", #[], none⟩ E L (.slice a n n) := by
  intro ρ w ha _
  unfold elemOf' at ht
  split at ht <;> (try cases ht)
  rename_i e' hu
  split at ht <;> (try cases ht)
  rename_i inf hin
  refine run_v ?_
  show (Instr.sliceAt t (ρ x) none (some (ρ y)) (some (ρ z))).run P w = _
  rw [ha x _ hx, ha y _ hy, ha z _ hz]
  unfold Instr.sliceAt
  rw [run_bind (run_underlying hu)]
  show (Instr.slice t (.slice a n c) none (some (.int .i64 n)) (some (.int .i64 n))).run P w = _
  unfold Instr.slice
  rw [run_bind (run_underlying hu)]
  show (do let (l, h, m) ← Instr.sliceBounds true n c none (some (.int .i64 n)) (some (.int .i64 n)); let size ← sizeOf e; pure (.slice (if m = l then a else a.map (·.add (l * size))) (h - l) (m - l)) : Sem Value).run P w = _
  have hbd : (Instr.sliceBounds true n c none (some (.int .i64 n)) (some (.int .i64 n))).run P w = .ok (0, n, n) w := by
    simp [Instr.sliceBounds, Instr.sliceBound, asIntOf, Bind.bind, Sem.bind, Pure.pure, Sem.run, hb]
  rw [run_bind hbd]
  show (do let size ← sizeOf e; pure (.slice (if n = 0 then a else a.map (·.add (0 * size))) (n - 0) (n - 0)) : Sem Value).run P w = _
  rw [run_bind (run_sizeOf (k := inf.size) (by simp [sizeOf', hin]))]
  have : (if n = 0 then a else a.map (·.add (0 * inf.size))) = a := by
    split
    · rfl
    · rcases ha' with rfl | ⟨b, off, rfl⟩
      · rfl
      · simp [Addr.add_eq]
  rw [this]; rfl
theorem rdS_drop {sz b off n c k : Nat} {ys : List Value} {h : Hp} (hr : rdS sz h (.slice (some ⟨b, off, none⟩) n c) n ys) (hk : k < n) : rdS sz h (.slice (some ⟨b, off + k * sz, none⟩) (n - k) (c - k)) (n - k) (ys.drop (k * sz)) := by
  obtain ⟨T, fr, l, hb, hl, hys, hc⟩ := rdS_at hr (by omega)
  have h1 : k * sz + (n - k) * sz = n * sz := by rw [← Nat.add_mul]; congr 1; omega
  refine .inr ⟨b, off + k * sz, c - k, l, T, fr, rfl, hb, ?_, by omega, by omega⟩
  rw [← hys, List.drop_take, List.drop_drop, ← h1, Nat.add_sub_cancel_left]
theorem G.rdShapeC {p : HP} {sz m c : Nat} {ad : Option Addr} {ys : List Value} (hr : ∀ h : Hp, p h → rdS sz h (.slice ad m c) m ys) (hL : Pick p L R) (hm : 0 < m)
    (h : ∀ b off, ad = some ⟨b, off, none⟩ → m ≤ c → G W n ds E L X) : G W n ds E L X := by
  intro a w he hk hs
  obtain ⟨h1, -, hp⟩ := sep_head (hs.pick hL)
  rcases hr _ hp with ⟨rfl, -⟩ | ⟨b, off, cap, l, T, fr, hv, -, -, -, hc⟩
  · omega
  · simp only [Value.slice.injEq] at hv
    exact h b off hv.1 (by omega) a w he hk hs
theorem slR_to {T : TypeId} {n k c : Nat} {a : Option Addr} {xs : List Value} {h : Hp} (hk : k ≤ n) (hp : slR T 1 (.slice a n c) n xs h) : slR T 1 (.slice a k c) k (xs.take k) h := by
  rcases hp with ⟨h1, h2, h3⟩ | ⟨b', cap, rest, fr, h1, h2, h3, h4, h5, h6⟩
  · subst h2
    obtain rfl : k = 0 := by omega
    simp only [Value.slice.injEq] at h1
    obtain ⟨rfl, -, rfl⟩ := h1
    exact .inl ⟨rfl, rfl, by simp⟩
  · simp only [Value.slice.injEq] at h1
    obtain ⟨rfl, -, rfl⟩ := h1
    refine .inr ⟨b', c, xs.drop k ++ rest, fr, rfl, ?_, by simp; omega, by simp; omega, by omega, h6⟩
    rw [← List.append_assoc, List.take_append_drop]; exact h2
theorem G.slTo {T : TypeId} {m k c : Nat} {a : Option Addr} {xs : List Value} (hk : k ≤ m) (hL : Pick (slR T 1 (.slice a m c) m xs) L R) (h : G W n ds E (slR T 1 (.slice a k c) k (xs.take k) :: R) X) : G W n ds E L X :=
  fun ac w he hk' hs => h ac w he hk' (sep_imp (fun _ hp => slR_to hk hp) (hs.pick hL))
theorem G.slAddr {T : TypeId} {sz m c : Nat} {a : Option Addr} {xs : List Value} (hL : Pick (slR T sz (.slice a m c) m xs) L R) (h : m ≤ c → (a = none ∨ ∃ b off, a = some ⟨b, off, none⟩) → G W n ds E L X) : G W n ds E L X := by
  intro ac w he hk hs
  obtain ⟨g1, -, hp⟩ := sep_head (hs.pick hL)
  rcases hp with ⟨h1, h2, -⟩ | ⟨b', cap, rest, fr, h1, -, -, -, h5, -⟩
  · simp only [Value.slice.injEq] at h1
    exact h (by omega) (.inl h1.1) ac w he hk hs
  · simp only [Value.slice.injEq] at h1
    exact h (by omega) (.inr ⟨b', 0, h1.1⟩) ac w he hk hs
theorem Quiet.slTo {t : TypeId} {x y : Operand} {a : Option Addr} {n c e sz by' : Nat} {j : Int} (hx : ev E x = some (.slice a n c)) (ht : elemOf' P t = some (e, sz, by')) (hy : ev E y = some (.int .i64 j)) (hb : 0 ≤ j ∧ j ≤ c)
    (ha' : a = none ∨ ∃ b off, a = some ⟨b, off, none⟩) : Quiet P ⟨none, .slice t x none (some y) none, ty, "", #[], none⟩ E L (.slice a j.toNat c) := by
  intro ρ w ha _
  unfold elemOf' at ht
  split at ht <;> (try cases ht)
  rename_i e' hu
  split at ht <;> (try cases ht)
  rename_i inf hin
  refine run_v ?_
  show (Instr.sliceAt t (ρ x) none (some (ρ y)) none).run P w = _
  rw [ha x _ hx, ha y _ hy]
  unfold Instr.sliceAt
  rw [run_bind (run_underlying hu)]
  show (Instr.slice t (.slice a n c) none (some (.int .i64 j)) none).run P w = _
  unfold Instr.slice
  rw [run_bind (run_underlying hu)]
  show (do let (l, h, m) ← Instr.sliceBounds true n c none (some (.int .i64 j)) none; let size ← sizeOf e; pure (.slice (if m = l then a else a.map (·.add (l * size))) (h - l) (m - l)) : Sem Value).run P w = _
  rw [run_bind (run_sliceBounds (i := 0) (j := j) (.inr ⟨rfl, rfl⟩) (.inl rfl) ⟨by omega, hb.1, hb.2⟩)]
  show (do let size ← sizeOf e; pure (.slice (if c = 0 then a else a.map (·.add (0 * size))) (j.toNat - 0) (c - 0)) : Sem Value).run P w = _
  rw [run_bind (run_sizeOf (k := inf.size) (by simp [sizeOf', hin]))]
  have : (if c = 0 then a else a.map (·.add (0 * inf.size))) = a := by
    split
    · rfl
    · rcases ha' with rfl | ⟨b, off, rfl⟩
      · rfl
      · simp [Addr.add_eq]
  rw [this]; rfl
theorem flatMap_at {α : Type} {f : α → List Value} {sz : Nat} : ∀ {l : List α} {i : Nat} (hf : ∀ x ∈ l, (f x).length = sz) (hi : i < l.length), ((l.flatMap f).drop (i * sz)).take sz = f l[i] := by
  intro l
  induction l with
  | nil => intro i _ hi; simp at hi
  | cons x l ih =>
    intro i hf hi
    have hx := hf x (by simp)
    cases i with
    | zero => simp [List.take_append, hx]
    | succ i =>
      have e : (i + 1) * sz = (f x).length + i * sz := by rw [hx, Nat.add_mul]; omega
      rw [List.flatMap_cons, e, List.drop_append, List.drop_eq_nil_of_le (by omega), List.nil_append, Nat.add_sub_cancel_left]
      exact ih (fun y hy => hf y (List.mem_cons_of_mem _ hy)) (by simpa using hi)
theorem flatMap_len {α : Type} {f : α → List Value} {sz : Nat} : ∀ {l : List α} (_ : ∀ x ∈ l, (f x).length = sz), (l.flatMap f).length = l.length * sz := by
  intro l
  induction l with
  | nil => intro _; simp
  | cons x l ih => intro hf; rw [List.flatMap_cons, List.length_append, hf x (by simp), ih (fun y hy => hf y (List.mem_cons_of_mem _ hy)), List.length_cons, Nat.add_mul]; omega
theorem flatMap_get {α : Type} {f : α → List Value} {sz : Nat} {l : List α} {i j : Nat} (hf : ∀ x ∈ l, (f x).length = sz) (hi : i < l.length) (hj : j < sz) : (l.flatMap f)[i * sz + j]? = (f l[i])[j]? := by
  have h := flatMap_at hf hi
  rw [← h, List.getElem?_take_of_lt hj, List.getElem?_drop]
theorem flatMap_spl {α : Type} {f : α → List Value} {sz : Nat} : ∀ {l : List α} {i : Nat} {y : α} (_ : ∀ x ∈ l, (f x).length = sz) (_ : (f y).length = sz) (_ : i < l.length), spl (l.flatMap f) (i * sz) (f y) = (l.set i y).flatMap f := by
  intro l
  induction l with
  | nil => intro i y _ _ hi; simp at hi
  | cons x l ih =>
    intro i y hf hy hi
    have hx := hf x (by simp)
    cases i with
    | zero => simp [spl, hx, hy, List.drop_append]
    | succ i =>
      have e : (i + 1) * sz = (f x).length + i * sz := by rw [hx, Nat.add_mul]; omega
      have := ih (i := i) (y := y) (fun z hz => hf z (List.mem_cons_of_mem _ hz)) hy (by simpa using hi)
      simp only [List.set_cons_succ, List.flatMap_cons]
      rw [← this, e]
      simp [spl, List.take_append, List.drop_append, List.take_of_length_le, List.drop_eq_nil_of_le, Nat.add_assoc]
end
/-! ### Rows of numbers, strings, flags -/
abbrev strs (l : List (List UInt8)) : List Value := l.map vstr
abbrev bools (l : List Bool) : List Value := l.map Value.bool
abbrev strR (v : Value) (l : List (List UInt8)) : HP := slR 9 1 v l.length (strs l)
abbrev boolR (v : Value) (l : List Bool) : HP := slR 4 1 v l.length (bools l)
abbrev ints (l : List Int) : List Value := l.map vint
abbrev intR (v : Value) (l : List Int) : HP := slR 3 1 v l.length (ints l)
def pickZ (c n : Int) : Int := (if c < 0 then -(c + 1) else c) % n
theorem pickZ_range (c : Int) {n : Int} (h : 0 < n) : 0 ≤ pickZ c n ∧ pickZ c n < n := ⟨Int.emod_nonneg _ (by omega), Int.emod_lt_of_pos _ h⟩
theorem take_same {a b : List Int} {i : Nat} (h1 : i < a.length) (h2 : i < b.length) (h : a.take i = b.take i) (he : a[i] = b[i]) : a.take (i + 1) = b.take (i + 1) := by
  rw [List.take_succ_eq_append_getElem h1, List.take_succ_eq_append_getElem h2, h, he]
end Go.Proofs.YtnnbelmpbmfdnaaDoor
