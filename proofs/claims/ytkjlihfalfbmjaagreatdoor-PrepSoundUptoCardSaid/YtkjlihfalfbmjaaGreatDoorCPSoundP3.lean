/- Own work, some of it printed by program, texts that were built one by one: a part of the proof of prepSound.proved. -/
import Derived.Test.YtkjlihfalfbmjaaGreatDoorCPSoundP1
import Derived.Sort.Walk0
import Derived.Test.YtkjlihfalfbmjaaGreatDoorCPSoundP2
import Derived.Test.YtkjlihfalfbmjaaGreatDoorCPSoundP0
import Derived.RangeFuncRecord
set_option maxRecDepth 100000
namespace Go.Proofs.YtkjlihfalfbmjaaGreatDoor
open Go
section
variable {P : Program} {E : Env} {L : List HP} {ty : TypeId}
theorem Quiet.strge {t t' : TypeId} {x y : Operand} {a b : List UInt8} (hx : ev E x = some (vstr a)) (hy : ev E y = some (vstr b)) : Quiet P ⟨none, .binOp .geq t x y t', ty, "", #[], none⟩ E L (.bool (decide (¬ a < b))) := by
 intro ρ w ha _
 have key : (!Op.bytesLess a b) = decide (¬ a < b) := by rw [bytesLess_eq, decide_not]
 rw [← key]
 simp [execOp, ha x _ hx, ha y _ hy, eqGuard, binOp, Op.stringOp, Bind.bind, Sem.bind, Pure.pure, Sem.run]
end
abbrev Rno := Bs × (Value × Nd)
def rnC (z : Rno) : List Value := [vstr z.1, vstr z.2.2.data, z.2.1, vint z.2.2.st.cz, vint z.2.2.st.mz, vint z.2.2.st.pz, vint z.2.2.st.ver, vint z.2.2.st.cver, vint z.2.2.st.av, vint z.2.2.st.own, vint z.2.2.st.len, vint z.2.2.st.kids]
def rsC (y : Int × (Int × Bs)) : List Value := [vint y.1, vint y.2.1, vstr y.2.2]
def inA (z : Rno) : HP := rdO 2 z.2.1 z.2.2.acl.length (z.2.2.acl.flatMap acC)
def ndsZ (l : List Rno) : List (Bs × Nd) := l.map fun z => (z.1, z.2.2)
abbrev rnR (v : Value) (l : List Rno) : HP := slR 112 12 v l.length (l.flatMap rnC)
abbrev rsR (v : Value) (l : SsM) : HP := slR 122 3 v l.length (l.flatMap rsC)
def refR (x : Nat) (τ : Tr) : HP := fun h => ∃ y : (Value × Value) × List Rno, ndsZ y.2 = τ.nodes ∧ sep [ptc x [y.1.1, y.1.2, vint τ.zx] 110, rnR y.1.1 y.2, rsR y.1.2 τ.sess, bigR inA y.2] h
section
variable {W : World} {n : Nat} {ds : List Deferred} {E : Env} {L R : List HP} {X : Act → World → Prop}
theorem G.rtOpen {x : Nat} {τ : Tr} (hL : Pick (refR x τ) L R) (h : ∀ (an cn as' cs : _) (l : List Rno), ndsZ l = τ.nodes → G W n ds E (ptc x [.slice an l.length cn, .slice as' τ.sess.length cs, vint τ.zx] 110 :: rnR (.slice an l.length cn) l :: rsR (.slice as' τ.sess.length cs) τ.sess :: bigR inA l :: R) X) : G W n ds E L X := by
 refine G.focus hL (G.open (q := fun y : (Value × Value) × List Rno => [ptc x [y.1.1, y.1.2, vint τ.zx] 110, rnR y.1.1 y.2, rsR y.1.2 τ.sess, bigR inA y.2]) (φ := fun y : (Value × Value) × List Rno => ndsZ y.2 = τ.nodes) (fun _ hp => hp) fun y hy => ?_)
 obtain ⟨⟨v1, v2⟩, l⟩ := y
 dsimp only at hy ⊢
 refine G.slAny (v := v1) (by repeat (first | exact Pick.here | apply Pick.there)) fun an cn e0 _ => ?_
 subst e0
 refine G.slAny (v := v2) (by repeat (first | exact Pick.here | apply Pick.there)) fun as' cs e0 _ => ?_
 subst e0
 exact fun a w he hk hs => h an cn as' cs l hy a w he hk (hs.picks (by repeat (first | exact Picks.nil | (apply Picks.cons; (repeat (first | exact Pick.here | apply Pick.there))))))
theorem G.rtFold {x : Nat} {τ : Tr} {l : List Rno} {v1 v2 : Value} {c : List Value} {k1 k2 : Nat} {y1 y2 : List Value} (hn : ndsZ l = τ.nodes) (hL : Picks [ptc x c 110, slR 112 12 v1 k1 y1, slR 122 3 v2 k2 y2, bigR inA l] L R) (hc : c = [v1, v2, vint τ.zx]) (h1 : k1 = l.length) (h2 : y1 = l.flatMap rnC) (h3 : k2 = τ.sess.length) (h4 : y2 = τ.sess.flatMap rsC)
  (h : G W n ds E (refR x τ :: R) X) : G W n ds E L X := by
 subst hc; subst h1; subst h2; subst h3; subst h4
 exact G.fold hL (fun _ hp => ⟨((v1, v2), l), hn, hp⟩) h
theorem G.rfCast {x : Nat} {τ τ' : Tr} (hL : Pick (refR x τ) L R) (hw : τ' = τ) (h : G W n ds E (refR x τ' :: R) X) : G W n ds E L X := by
 subst hw; exact G.focus hL h
end
theorem nds_len {l : List Rno} {m : List (Bs × Nd)} (h : ndsZ l = m) : l.length = m.length := by rw [← h]; simp [ndsZ]
theorem nds_get {l : List Rno} {m : List (Bs × Nd)} (h : ndsZ l = m) {i : Nat} (hi : i < l.length) : m[i]'(by rw [← nds_len h]; exact hi) = (l[i].1, l[i].2.2) := by
 subst h; simp [ndsZ]
theorem rn_cell {l : List Rno} {i k : Nat} (hi : i < l.length) (hk : k < 12) : (l.flatMap rnC)[i * 12 + k]? = (rnC l[i])[k]? := flatMap_cell (f := rnC) (sz := 12) (fun _ _ => rfl) hi hk
theorem rs_cell {l : SsM} {i k : Nat} (hi : i < l.length) (hk : k < 3) : (l.flatMap rsC)[i * 3 + k]? = (rsC l[i])[k]? := flatMap_cell (f := rsC) (sz := 3) (fun _ _ => rfl) hi hk
/-! ### Places -/
def placeTo {β : Type} (l : List (Bs × β)) (p : Bs) : Int := match posK p (l.map (·.1)) with
 | some i => i
 | none => -1
def placeZ (τ : Tr) (p : Bs) : Int := placeTo τ.nodes p
theorem posK_at {K : Type} [DecidableEq K] {l : List K} {k : K} : ∀ {i : Nat} (hi : i < l.length), l[i] = k → (∀ j (hj : j < i), l[j]'(by omega) ≠ k) → posK k l = some i := by
 induction l with
 | nil => intro i hi; simp at hi
 | cons a l ih =>
  intro i hi h1 h2
  unfold posK
  cases i with
  | zero => simp at h1; rw [if_pos h1.symm]
  | succ i =>
   rw [if_neg (fun e => h2 0 (by omega) (by simpa using e.symm)), ih (i := i) (by simpa using hi) (by simpa using h1) (fun j hj => by simpa using h2 (j + 1) (by omega))]
   rfl
theorem posK_none {K : Type} [DecidableEq K] {l : List K} {k : K} (h : k ∉ l) : posK k l = none := by
 induction l with
 | nil => rfl
 | cons a l ih =>
  unfold posK
  rw [if_neg (fun e => h (by rw [e]; exact List.mem_cons_self)), ih (fun g => h (List.mem_cons_of_mem _ g))]; rfl
theorem posK_get {K : Type} [DecidableEq K] {l : List K} {k : K} : ∀ {i : Nat}, posK k l = some i → ∃ hi : i < l.length, l[i] = k ∧ ∀ j (hj : j < i), l[j]'(by omega) ≠ k := by
 induction l with
 | nil => intro i h; cases h
 | cons a l ih =>
  intro i h
  unfold posK at h
  split at h
  ·rename_i e; cases h; exact ⟨by simp, by simp [e], fun j hj => by omega⟩
  ·rename_i e
   rcases h2 : posK k l with _ | i'
   ·rw [h2] at h; cases h
   ·rw [h2] at h; cases h
    obtain ⟨g1, g2, g3⟩ := ih h2
    refine ⟨by simp; omega, by simpa using g2, fun j hj => ?_⟩
    cases j with
    | zero => simpa using fun e2 => e e2.symm
    | succ j => simpa using g3 j (by have hj' : j + 1 < i' + 1 := hj; omega)
theorem place_at {β : Type} {l : List (Bs × β)} {p : Bs} {i : Nat} (hi : i < l.length) (h1 : l[i].1 = p) (h2 : ∀ j (hj : j < i), l[j].1 ≠ p) : placeTo l p = i := by
 unfold placeTo
 rw [posK_at (i := i) (by simpa using hi) (by simpa using h1) (fun j hj => by simpa using h2 j hj)]
theorem place_none {β : Type} {l : List (Bs × β)} {p : Bs} (h : ∀ j (hj : j < l.length), l[j].1 ≠ p) : placeTo l p = -1 := by
 unfold placeTo
 rw [posK_none]
 intro hm
 obtain ⟨x, hx, e⟩ := List.mem_map.1 hm
 obtain ⟨j, hj, rfl⟩ := List.mem_iff_getElem.1 hx
 exact h j hj e
theorem place_get {β : Type} {l : List (Bs × β)} {p : Bs} (h : 0 ≤ placeTo l p) : ∃ k : Nat, ∃ hk : k < l.length, placeTo l p = k ∧ l[k].1 = p := by
 unfold placeTo at h ⊢
 rcases e : posK p (l.map (·.1)) with _ | k
 ·rw [e] at h; exact absurd h (by decide)
 ·obtain ⟨g1, g2, -⟩ := posK_get e
  exact ⟨k, by simpa using g1, by rw [e], by simpa using g2⟩
theorem place_iff {β : Type} {l : List (Bs × β)} {p : Bs} : 0 ≤ placeTo l p ↔ (alook l p).isSome = true := by
 rw [al_isSome]
 constructor
 ·intro h
  obtain ⟨k, hk, -, e⟩ := place_get h
  exact List.mem_map.2 ⟨l[k], List.getElem_mem hk, e⟩
 ·intro h
  unfold placeTo
  rcases e : posK p (l.map (·.1)) with _ | k
  ·exfalso
   have key : ∀ l : List Bs, p ∈ l → posK p l ≠ none := by
    intro l
    induction l with
    | nil => intro h; cases h
    | cons a l ih =>
     intro h
     unfold posK
     split
     ·simp
     ·rename_i hne
      rcases List.mem_cons.1 h with g | g
      ·exact absurd g hne
      ·intro e2
       have := ih g
       rcases e3 : posK p l with _ | j
       ·exact this e3
       ·rw [e3] at e2; cases e2
   exact key _ h e
  ·first | (rw [e]; exact Int.natCast_nonneg _) | exact Int.natCast_nonneg _
theorem place_nds (l : List Rno) (p : Bs) : placeTo (ndsZ l) p = placeTo l p := by
 unfold placeTo ndsZ; rw [List.map_map]; rfl
theorem amod_set {β : Type} {l : List (Bs × β)} (hn : (l.map (·.1)).Nodup) {k : Nat} (hk : k < l.length) (f : β → β) : amod l l[k].1 f = l.set k (l[k].1, f l[k].2) := by
 apply List.ext_getElem
 ·simp [amod]
 ·intro i h1 h2
  have hi : i < l.length := by simpa [amod] using h1
  simp only [amod, List.getElem_map, List.getElem_set]
  by_cases e : k = i
  ·subst e; simp
  ·have : l[i].1 ≠ l[k].1 := fun g => by
    have := (List.getElem_inj (i := i) (j := k) (h₀ := by simpa using hi) (h₁ := by simpa using hk) hn).1 (by simpa using g)
    exact e this.symm
   rw [if_neg this, if_neg e]
theorem flatMap_set {α : Type} {f : α → List Value} {sz : Nat} : ∀ {l : List α} {i k : Nat} {v : Value} {y : α} (hf : ∀ x, (f x).length = sz) (hi : i < l.length) (hk : k < sz) (hy : (f l[i]).set k v = f y), (l.flatMap f).set (i * sz + k) v = (l.set i y).flatMap f
 | x :: l, 0, k, v, y, hf, hi, hk, hy => by
  simp only [List.flatMap_cons, List.set_cons_zero, Nat.zero_mul, Nat.zero_add]
  rw [List.set_append_left _ _ (by rw [hf]; exact hk)]
  congr 1
 | x :: l, i + 1, k, v, y, hf, hi, hk, hy => by
  simp only [List.flatMap_cons, List.set_cons_succ]
  rw [List.set_append_right _ _ (by rw [hf, Nat.add_mul]; omega), hf, show (i + 1) * sz + k - sz = i * sz + k by rw [Nat.add_mul]; omega]
  congr 1
  exact flatMap_set hf (by simpa using hi) hk (by simpa using hy)
theorem nds_set {l : List Rno} {i : Nat} (y : Rno) : ndsZ (l.set i y) = (ndsZ l).set i (y.1, y.2.2) := by unfold ndsZ; rw [List.map_set]
theorem big_set {l : List Rno} {i : Nat} {y : Rno} (hi : i < l.length) (h1 : inA y = inA l[i]) {h : Hp} (hs : bigR inA l h) : bigR inA (l.set i y) h := by
 unfold bigR at hs ⊢
 rw [List.map_set, h1]
 have : (l.map inA).set i (inA l[i]) = l.map inA := by
  apply List.ext_getElem
  ·simp
  ·intro j _ _
   rw [List.getElem_set]
   split
   ·rename_i e; subst e; simp
   ·rfl
 rw [this]; exact hs
theorem G.bigSet {W : World} {n : Nat} {ds : List Deferred} {E : Env} {L R : List HP} {X : Act → World → Prop} {l : List Rno} {i : Nat} {y : Rno} (hi : i < l.length) (h1 : inA y = inA l[i]) (hL : Pick (bigR inA l) L R) (h : G W n ds E (bigR inA (l.set i y) :: R) X) : G W n ds E L X :=
 fun a w he hk hs => h a w he hk (sep_imp (fun _ hp => big_set hi h1 hp) (hs.pick hL))
theorem nds_sset {l : List Rno} (p : Bs) (y : Value × Nd) : ndsZ (sset l p y) = sset (ndsZ l) p y.2 := by
 induction l with
 | nil => rfl
 | cons x l ih =>
  show ndsZ (sset (x :: l) p y) = sset ((x.1, x.2.2) :: ndsZ l) p y.2
  unfold sset
  dsimp only
  split
  ·rfl
  ·split
   ·rfl
   ·show (x.1, x.2.2) :: ndsZ (sset l p y) = _
    rw [ih]
theorem nds_sorted {l : List Rno} (h : SortedK (ndsZ l)) : SortedK l := by
 unfold SortedK ndsZ at *
 rw [List.map_map] at h; exact h
theorem sset_perm {K β : Type} [LT K] [DecidableEq K] [DecidableLT K] (ho : Lin K) {l : List (K × β)} (h : SortedK l) (k : K) (v : β) : (sset l k v).Perm ((k, v) :: adel l k) := by
 have hn := h.nodup ho
 refine al_ext_perm ((h.sset ho k v).nodup ho) ?_ fun x => ?_
 ·rw [List.map_cons]
  refine List.nodup_cons.2 ⟨fun g => ?_, nodup_adel hn k⟩
  have := al_isSome.2 g
  rw [al_adel hn, if_pos rfl] at this; cases this
 ·rw [al_sset]
  by_cases e : x = k
  ·subst e; simp [alook]
  ·rw [if_neg e]; simp only [alook, e, if_false]; rw [al_adel hn, if_neg e]
theorem big_sset {l : List Rno} (hs : SortedK l) {k : Bs} {v : Value × Nd} {h : Hp} (hp : sep [inA (k, v), bigR inA l] h) : bigR inA (sset l k v) h := by
 refine big_perm (sset_perm linB hs k v).symm (big_of_cons ?_)
 obtain ⟨h1, h2, hd, a1, a2, p1, h3, h4, hd2, b1, b2, p2, p3⟩ := hp
 exact ⟨h1, h2, hd, a1, a2, p1, h3, h4, hd2, b1, b2, big_del k p2, p3⟩
theorem G.bigSset {W : World} {n : Nat} {ds : List Deferred} {E : Env} {L R : List HP} {X : Act → World → Prop} {l : List Rno} (hs : SortedK l) (k : Bs) (v : Value × Nd) {p : HP} (hp : p = inA (k, v)) (hL : Picks [p, bigR inA l] L R) (h : G W n ds E (bigR inA (sset l k v) :: R) X) : G W n ds E L X := by
 subst hp
 exact G.fold hL (fun _ hp => big_sset hs hp) h
theorem big_sub {α : Type} {f : α → HP} {l m : List α} (hs : l.Sublist m) {h : Hp} (hp : bigR f m h) : bigR f l h := by
 induction hs generalizing h with
 | slnil => exact hp
 | cons a _ ih =>
  obtain ⟨h1, h2, -, -, a2, -, p2⟩ := hp
  exact sep_mono (ih p2) a2
 | cons_cons a _ ih =>
  obtain ⟨h1, h2, hd, a1, a2, p1, p2⟩ := hp
  exact ⟨h1, h2, hd, a1, a2, p1, ih p2⟩
theorem G.bigSub {W : World} {n : Nat} {ds : List Deferred} {E : Env} {L R : List HP} {X : Act → World → Prop} {l m : List Rno} (hs : l.Sublist m) (hL : Pick (bigR inA m) L R) (h : G W n ds E (bigR inA l :: R) X) : G W n ds E L X :=
 fun a w he hk hs' => h a w he hk (sep_imp (fun _ hp => big_sub hs hp) (hs'.pick hL))
theorem nds_filter {l : List Rno} (f : Bs → Bool) : ndsZ (l.filter fun y => f y.1) = (ndsZ l).filter fun y => f y.1 := by
 unfold ndsZ
 rw [List.filter_map]; rfl
structure LayI {β : Type} (l : List (Bs × β)) (p : Bs) (v : β) (i : Nat) (b : Bool) (acc : List (Bs × β)) : Prop where
 no : b = false → acc = l.take i ∧ ∀ x ∈ l.take i, x.1 < p
 yes : b = true → acc = sset (l.take i) p v ∧ ∃ x ∈ l.take i, ¬ x.1 < p
theorem sset_end {β : Type} {l : List (Bs × β)} {p : Bs} (v : β) (h : ∀ x ∈ l, x.1 < p) : sset l p v = l ++ [(p, v)] := by
 induction l with
 | nil => rfl
 | cons x l ih =>
  have hx := h x List.mem_cons_self
  unfold sset
  rw [if_neg (fun e => linB.irr p (by rw [← e] at hx ⊢; exact hx)), if_neg (fun g => linB.irr _ (linB.tr _ _ _ hx g)), ih (fun y hy => h y (List.mem_cons_of_mem _ hy))]; rfl
theorem sset_past {β : Type} {l : List (Bs × β)} {p : Bs} (v : β) (y : Bs × β) (h : ∃ x ∈ l, ¬ x.1 < p) : sset (l ++ [y]) p v = sset l p v ++ [y] := by
 induction l with
 | nil => obtain ⟨x, hx, -⟩ := h; cases hx
 | cons x l ih =>
  rw [List.cons_append]
  unfold sset
  split
  ·rfl
  ·split
   ·rfl
   ·rename_i e1 e2
    have hx : x.1 < p := by
     rcases linB.tri x.1 p with g | g | g
     ·exact g
     ·exact absurd g e1
     ·exact absurd g e2
    rw [ih]; rfl
    obtain ⟨z, hz, g⟩ := h
    rcases List.mem_cons.1 hz with rfl | hz
    ·exact absurd hx g
    ·exact ⟨z, hz, g⟩
theorem LayI.start {β : Type} (l : List (Bs × β)) (p : Bs) (v : β) : LayI l p v 0 false [] := ⟨fun _ => ⟨by simp, by simp⟩, fun h => by cases h⟩
theorem take_lt {β : Type} {l : List (Bs × β)} (hs : SortedK l) {i : Nat} (hi : i < l.length) : ∀ x ∈ l.take i, x.1 < l[i].1 := fun x hx => by
 obtain ⟨j, hj, rfl⟩ := List.mem_iff_getElem.1 hx
 rw [List.length_take] at hj
 rw [List.getElem_take]
 have := List.pairwise_iff_getElem.1 hs j i (by simp; omega) (by simpa using hi) (by omega)
 simpa using this
theorem LayI.low {β : Type} {l : List (Bs × β)} {p : Bs} {v : β} {i : Nat} {acc : List (Bs × β)} (h : LayI l p v i false acc) (hi : i < l.length) (hl : l[i].1 < p) : LayI l p v (i + 1) false (acc ++ [l[i]]) := by
 obtain ⟨h1, h2⟩ := h.no rfl
 refine ⟨fun _ => ⟨by rw [h1, List.take_succ_eq_append_getElem hi], fun x hx => ?_⟩, fun g => by cases g⟩
 rw [List.take_succ_eq_append_getElem hi] at hx
 rcases List.mem_append.1 hx with hx | hx
 ·exact h2 x hx
 ·simp at hx; rw [hx]; exact hl
theorem LayI.put {β : Type} {l : List (Bs × β)} {p : Bs} {v : β} {i : Nat} {acc : List (Bs × β)} (h : LayI l p v i false acc) (hi : i < l.length) (hl : ¬ l[i].1 < p) (hne : l[i].1 ≠ p) : LayI l p v (i + 1) true ((acc ++ [(p, v)]) ++ [l[i]]) := by
 obtain ⟨h1, h2⟩ := h.no rfl
 refine ⟨(fun g => by cases g), fun _ => ⟨?_, l[i], by rw [List.take_succ_eq_append_getElem hi]; exact List.mem_append_right _ List.mem_cons_self, hl⟩⟩
 have hgt : p < l[i].1 := by
  rcases linB.tri l[i].1 p with g | g | g
  ·exact absurd g hl
  ·exact absurd g hne
  ·exact g
 rw [List.take_succ_eq_append_getElem hi, h1]
 have key : ∀ (m : List (Bs × β)), (∀ x ∈ m, x.1 < p) → sset (m ++ [l[i]]) p v = m ++ [(p, v)] ++ [l[i]] := by
  intro m
  induction m with
  | nil => intro _; show sset [l[i]] p v = _; unfold sset; rw [if_neg hne, if_pos hgt]; rfl
  | cons x m ih =>
   intro hm
   have hx := hm x List.mem_cons_self
   rw [List.cons_append]
   unfold sset
   rw [if_neg (fun e => linB.irr p (by rw [← e] at hx ⊢; exact hx)), if_neg (fun g => linB.irr _ (linB.tr _ _ _ hx g)), ih (fun y hy => hm y (List.mem_cons_of_mem _ hy))]; rfl
 exact (key _ h2).symm
theorem LayI.sub {β : Type} {l : List (Bs × β)} {p : Bs} {v : β} {i : Nat} {acc : List (Bs × β)} (h : LayI l p v i false acc) (hi : i < l.length) (he : l[i].1 = p) : LayI l p v (i + 1) true (acc ++ [(p, v)]) := by
 obtain ⟨h1, h2⟩ := h.no rfl
 refine ⟨(fun g => by cases g), fun _ => ⟨?_, l[i], by rw [List.take_succ_eq_append_getElem hi]; exact List.mem_append_right _ List.mem_cons_self, by rw [he]; exact linB.irr p⟩⟩
 rw [List.take_succ_eq_append_getElem hi, h1]
 have key : ∀ (m : List (Bs × β)), (∀ x ∈ m, x.1 < p) → sset (m ++ [l[i]]) p v = m ++ [(p, v)] := by
  intro m
  induction m with
  | nil => intro _; show sset [l[i]] p v = _; unfold sset; rw [if_pos he]; rfl
  | cons x m ih =>
   intro hm
   have hx := hm x List.mem_cons_self
   rw [List.cons_append]
   unfold sset
   rw [if_neg (fun e => linB.irr p (by rw [← e] at hx ⊢; exact hx)), if_neg (fun g => linB.irr _ (linB.tr _ _ _ hx g)), ih (fun y hy => hm y (List.mem_cons_of_mem _ hy))]; rfl
 exact (key _ h2).symm
theorem LayI.more {β : Type} {l : List (Bs × β)} {p : Bs} {v : β} {i : Nat} {acc : List (Bs × β)} (h : LayI l p v i true acc) (hi : i < l.length) : LayI l p v (i + 1) true (acc ++ [l[i]]) := by
 obtain ⟨h1, h2⟩ := h.yes rfl
 refine ⟨(fun g => by cases g), fun _ => ⟨by rw [h1, List.take_succ_eq_append_getElem hi, sset_past v _ h2], ?_⟩⟩
 obtain ⟨x, hx, g⟩ := h2
 exact ⟨x, by rw [List.take_succ_eq_append_getElem hi]; exact List.mem_append_left _ hx, g⟩
theorem LayI.not {β : Type} {l : List (Bs × β)} (hs : SortedK l) {p : Bs} {v : β} {i : Nat} {acc : List (Bs × β)} (h : LayI l p v i true acc) (hi : i < l.length) : l[i].1 ≠ p := by
 obtain ⟨-, x, hx, g⟩ := h.yes rfl
 intro e
 exact g (by rw [← e]; exact take_lt hs hi x hx)
theorem LayI.last {β : Type} {l : List (Bs × β)} {p : Bs} {v : β} {acc : List (Bs × β)} {b : Bool} (h : LayI l p v l.length b acc) : (if b then acc else acc ++ [(p, v)]) = sset l p v := by
 cases b with
 | true => obtain ⟨h1, -⟩ := h.yes rfl; rw [List.take_length] at h1; exact h1
 | false =>
  obtain ⟨h1, h2⟩ := h.no rfl
  rw [List.take_length] at h1 h2
  rw [sset_end v h2, h1]; rfl
theorem sset_at {β : Type} {l : List (Int × β)} {k : Int} {v : β} {i : Nat} (hi : i ≤ l.length) (h1 : ∀ x ∈ l.take i, x.1 < k) (h2 : ∀ h : i < l.length, ¬ l[i].1 < k) (h3 : ∀ x ∈ l, x.1 ≠ k) : l.take i ++ [(k, v)] ++ l.drop i = sset l k v := by
 induction l generalizing i with
 | nil => simp at hi; subst hi; rfl
 | cons x l ih =>
  have hx3 := h3 x List.mem_cons_self
  cases i with
  | zero =>
   have hx2 := h2 (by simp)
   simp at hx2
   unfold sset
   rw [if_neg hx3, if_pos (by omega)]; rfl
  | succ i =>
   have hx1 := h1 x (by simp)
   unfold sset
   rw [if_neg hx3, if_neg (by omega), ← ih (i := i) (by simpa using hi) (fun y hy => h1 y (by simp [hy])) (fun h => by have := h2 (by simpa using h); simpa using this) (fun y hy => h3 y (List.mem_cons_of_mem _ hy))]
   simp
theorem open_drop {τ : Tr} {N : Nat} (ho : τ.Ok N) (id n : Int) (s : Bs) : openS (dropS τ id) id n s = openS τ id n s := by
 refine Tr.ext' rfl ?_ rfl
 show sset (τ.sess.filter _) id (n, s) = sset τ.sess id (n, s)
 refine sorted_same linI ((ho.ssorted.filter _).sset linI _ _) (ho.ssorted.sset linI _ _) fun i => ?_
 rw [al_sset, al_sset, al_filter (fun k => !decide (k = id))]
 by_cases e : i = id
 ·rw [if_pos e, if_pos e]
 ·rw [if_neg e, if_neg e]; simp [e]
theorem nds_mod {l : List Rno} {m : List (Bs × Nd)} (hl : ndsZ l = m) (hn : (m.map (·.1)).Nodup) {k : Nat} (hk : k < l.length) {p : Bs} (hp : l[k].1 = p) (f : Nd → Nd) {v : Value} {n : Nd} (hy : n = f l[k].2.2) : ndsZ (l.set k (l[k].1, (v, n))) = amod m p f := by
 subst hl; subst hp; subst hy
 have h2 : (ndsZ l)[k]'(by simpa [ndsZ] using hk) = (l[k].1, l[k].2.2) := by simp [ndsZ]
 have := amod_set hn (k := k) (by simpa [ndsZ] using hk) f
 rw [h2] at this
 rw [nds_set, this]
theorem big_rep {l : List Rno} {k : Nat} {y : Rno} (hk : k < l.length) {h : Hp} (hs : sep [inA y, bigR inA l] h) : bigR inA (l.set k y) h := by
 have e1 : (l.set k y).Perm (y :: (l.take k ++ l.drop (k + 1))) := by
  rw [List.set_eq_take_append_cons_drop, if_pos hk]
  exact List.perm_middle
 have e2 : (l.take k ++ l.drop (k + 1)).Sublist l := by
  have : l.take k ++ l.drop (k + 1) = l.eraseIdx k := (List.eraseIdx_eq_take_drop_succ l k).symm
  rw [this]; exact List.eraseIdx_sublist l k
 refine big_perm e1.symm (big_of_cons ?_)
 obtain ⟨h1, h2, hd, a1, a2, p1, h3, h4, hd2, b1, b2, p2, p3⟩ := hs
 exact ⟨h1, h2, hd, a1, a2, p1, h3, h4, hd2, b1, b2, big_sub e2 p2, p3⟩
theorem G.bigRep {W : World} {n : Nat} {ds : List Deferred} {E : Env} {L R : List HP} {X : Act → World → Prop} {l : List Rno} {k : Nat} (y : Rno) (hk : k < l.length) {p : HP} (hp : p = inA y) (hL : Picks [p, bigR inA l] L R) (h : G W n ds E (bigR inA (l.set k y) :: R) X) : G W n ds E L X := by
 subst hp
 exact G.fold hL (fun _ hp => big_rep hk hp) h
theorem Fn.pre2 {P : Program} {f : FuncId} {args : Array Value} {pre pre' : List HP} {post : Value → List HP → Prop} (h : Fn P f args pre post) (hp : ∀ F w, St (pre' ++ F) w → St (pre ++ F) w) : Fn P f args pre' post := fun F w hs => h F w (hp F w hs)
/-! ### Parts of slices -/
def cutA (a : Option Addr) (c i sz : Nat) : Option Addr := if c = i then a else a.map (·.add (i * sz))
section
variable {P : Program} {E : Env} {L : List HP} {ty : TypeId}
theorem Quiet.slFromO {t : TypeId} {x y : Operand} {a : Option Addr} {n c e sz by' : Nat} {i : Int} (hx : ev E x = some (.slice a n c)) (ht : elemOf' P t = some (e, sz, by')) (hy : ev E y = some (.int .i64 i)) (hb : 0 ≤ i ∧ i ≤ n ∧ n ≤ c) :
  Quiet P ⟨none, .slice t x (some y) none none, ty, "", #[], none⟩ E L (.slice (cutA a c i.toNat sz) (n - i.toNat) (c - i.toNat)) := by
 intro ρ w ha _
 unfold elemOf' at ht
 split at ht <;> (try cases ht)
 rename_i e' hu
 split at ht <;> (try cases ht)
 rename_i inf hin
 refine run_v ?_
 show (Instr.sliceAt t (ρ x) (some (ρ y)) none none).run P w = _
 rw [ha x _ hx, ha y _ hy]
 unfold Instr.sliceAt
 rw [run_bind (run_underlying hu)]
 show (Instr.slice t (.slice a n c) (some (.int .i64 i)) none none).run P w = _
 unfold Instr.slice
 rw [run_bind (run_underlying hu)]
 show (do let (l, h, m) ← Instr.sliceBounds true n c (some (.int .i64 i)) none none; let size ← sizeOf e; pure (.slice (if m = l then a else a.map (·.add (l * size))) (h - l) (m - l)) : Sem Value).run P w = _
 rw [run_bind (run_sliceBounds (i := i) (j := n) (.inl rfl) (.inr ⟨rfl, rfl⟩) ⟨hb.1, by omega, by omega⟩)]
 show (do let size ← sizeOf e; pure (.slice (if c = i.toNat then a else a.map (·.add (i.toNat * size))) ((n : Int).toNat - i.toNat) (c - i.toNat)) : Sem Value).run P w = _
 rw [run_bind (run_sizeOf (k := inf.size) (by simp [sizeOf', hin]))]
 rw [Int.toNat_natCast]; rfl
end
theorem slR_rd_to {T : TypeId} {sz n k c : Nat} {a : Option Addr} {xs : List Value} {h : Hp} (hk : k ≤ n) (hp : slR T sz (.slice a n c) n xs h) : rdS sz h (.slice a k c) k (xs.take (k * sz)) := by
 rcases hp with ⟨h1, h2, h3⟩ | ⟨b, cap, rest, fr, hv, hb, h1, h2, h3, h4⟩
 ·subst h2; subst h3
  obtain rfl : k = 0 := by omega
  exact .inl ⟨rfl, by simp, a, c, rfl⟩
 ·simp only [Value.slice.injEq, true_and] at hv
  obtain ⟨rfl, rfl⟩ := hv
  have hm := Nat.mul_le_mul_right sz hk
  refine .inr ⟨b, 0, c, xs ++ rest, T, fr, rfl, hb, ?_, by simp; omega, by omega⟩
  rw [List.drop_zero, List.take_append_of_le_length (by omega)]
theorem slR_rd_from {T : TypeId} {sz n k c : Nat} {a : Option Addr} {xs : List Value} {h : Hp} (hk : k ≤ n) (hp : slR T sz (.slice a n c) n xs h) : rdS sz h (.slice (cutA a c k sz) (n - k) (c - k)) (n - k) (xs.drop (k * sz)) := by
 rcases hp with ⟨h1, h2, h3⟩ | ⟨b, cap, rest, fr, hv, hb, h1, h2, h3, h4⟩
 ·subst h2; subst h3
  obtain rfl : k = 0 := by omega
  exact .inl ⟨rfl, by simp, _, _, rfl⟩
 ·simp only [Value.slice.injEq, true_and] at hv
  obtain ⟨rfl, rfl⟩ := hv
  unfold cutA
  by_cases e : c = k
  ·rw [if_pos e]
   have hnk : n = k := by omega
   subst hnk
   have h0 : n - n = 0 := by omega
   rw [h0]
   exact .inl ⟨rfl, List.drop_eq_nil_of_le (by omega), _, _, rfl⟩
  ·rw [if_neg e]
   have hm := Nat.mul_le_mul_right sz hk
   have hms : (n - k) * sz = n * sz - k * sz := Nat.sub_mul n k sz
   refine .inr ⟨b, k * sz, c - k, xs ++ rest, T, fr, ?_, hb, ?_, by simp; omega, by omega⟩
   ·simp [Addr.add_eq]
   ·rw [List.drop_append_of_le_length (by omega), List.take_append_of_le_length (by rw [List.length_drop]; omega), List.take_of_length_le (by rw [List.length_drop]; omega)]
theorem flat_take {α : Type} {f : α → List Value} {sz : Nat} (hf : ∀ x, (f x).length = sz) : ∀ (l : List α) (k : Nat), (l.flatMap f).take (k * sz) = (l.take k).flatMap f ∧ (l.flatMap f).drop (k * sz) = (l.drop k).flatMap f
 | [], k => by simp
 | x :: l, 0 => by simp
 | x :: l, k + 1 => by
  have hx := hf x
  obtain ⟨h1, h2⟩ := flat_take hf l k
  rw [List.flatMap_cons, List.take_succ_cons, List.drop_succ_cons, List.flatMap_cons, show (k + 1) * sz = sz + k * sz by rw [Nat.add_mul]; omega]
  refine ⟨?_, ?_⟩
  ·rw [List.take_append, hx, List.take_of_length_le (by omega), show sz + k * sz - sz = k * sz by omega, h1]
  ·rw [List.drop_append, hx, List.drop_eq_nil_of_le (by omega), show sz + k * sz - sz = k * sz by omega, h2]; rfl
theorem G.slForm {W : World} {n' : Nat} {ds : List Deferred} {E : Env} {L R : List HP} {X : Act → World → Prop} {T : TypeId} {sz m c : Nat} {a : Option Addr} {xs : List Value} (hL : Pick (slR T sz (.slice a m c) m xs) L R) (h0 : a = none → m = 0 → c = 0 → G W n' ds E L X) (h1 : ∀ b, a = some ⟨b, 0, none⟩ → m ≤ c → G W n' ds E L X) : G W n' ds E L X := by
 intro ac w he hk hs
 obtain ⟨g1, -, hp⟩ := sep_head (hs.pick hL)
 rcases hp with ⟨e1, e2, -⟩ | ⟨b', cap, rest, fr, e1, -, -, -, e5, -⟩
 ·simp only [Value.slice.injEq] at e1
  exact h0 e1.1 e2 e1.2.2 ac w he hk hs
 ·simp only [Value.slice.injEq] at e1
  exact h1 b' e1.1 (by omega) ac w he hk hs
/-! ### What is told -/
def kidsN (l : List Rno) (p : Bs) : List Bs := (l.filter fun y => !decide (y.1 = [47]) && decide (parentZ y.1 = p)).map fun y => baseZ y.1
theorem kidsN_eq {l : List Rno} {τ : Tr} (h : ndsZ l = τ.nodes) (p : Bs) : kidsN l p = kidsZ τ p := by
 unfold kidsN kidsZ
 rw [← h]
 unfold ndsZ
 rw [List.filter_map, List.map_map]; rfl
theorem kidsN_len (l : List Rno) (p : Bs) : (kidsN l p).length ≤ l.length := by
 unfold kidsN; rw [List.length_map]; exact List.length_filter_le _ _
theorem owned_len (τ : Tr) (s : Int) : (ownedZ τ s).length ≤ τ.nodes.length := by
 unfold ownedZ; rw [List.length_map]; exact List.length_filter_le _ _
theorem big_rd {l : List Rno} {i : Nat} (hi : i < l.length) : ∀ h : Hp, bigR inA l h → rdS 2 h l[i].2.1 l[i].2.2.acl.length (l[i].2.2.acl.flatMap acC) := by
 induction l generalizing i with
 | nil => simp at hi
 | cons x l ih =>
  intro h hs
  obtain ⟨h1, h2, -, a1, a2, p1, p2⟩ := hs
  cases i with
  | zero => exact rdS_mono p1 a1
  | succ i => exact rdS_mono (ih (by simpa using hi) h2 p2) a2
theorem big_snoc {l : List Rno} {y : Rno} {h : Hp} (hs : sep [inA y, bigR inA l] h) : bigR inA (l ++ [y]) h := by
 refine big_perm ?_ (big_of_cons hs)
 exact (List.perm_append_singleton y l).symm
theorem G.bigSnoc {W : World} {n : Nat} {ds : List Deferred} {E : Env} {L R : List HP} {X : Act → World → Prop} {l : List Rno} (y : Rno) {p : HP} (hp : p = inA y) (hL : Picks [p, bigR inA l] L R) (h : G W n ds E (bigR inA (l ++ [y]) :: R) X) : G W n ds E L X := by
 subst hp
 exact G.fold hL (fun _ hp => big_snoc hp) h
/-! ### Soundness -/
def findsZ (τ : Tr) (x : Pt) : Bool :=
 if x.kind = 1 then decide (ableZ x.path ∧ ¬ thereT τ x.path ∧ thereT τ (parentZ x.path))
 else if x.kind = 2 then decide (x.path ≠ [47] ∧ thereT τ x.path ∧ (kidsZ τ x.path).length = 0)
 else if x.kind = 3 ∨ x.kind = 4 then decide (thereT τ x.path) else false
def soundL (τ : Tr) (zx : Int) (cl : Bool) : List Pt → Bool
 | [] => true
 | x :: l => findsZ τ x && (!cl || decide (x.kind = 2)) && soundL (partZ τ x zx).1 zx cl l
def soundZ (τ : Tr) (zx : Int) (x : Pt) (subs : List Pt) : Bool :=
 if x.kind = 1 ∨ x.kind = 2 ∨ x.kind = 3 ∨ x.kind = 4 then findsZ τ x
 else if x.kind = 6 ∨ x.kind = 7 then soundL τ zx (decide (x.kind = 6)) subs else true
theorem sound_step {τ : Tr} {zx : Int} {cl : Bool} {l : List Pt} {i : Nat} (hi : i < l.length) : soundL (partsZ τ zx (l.take i)).1 zx cl (l.drop i) = (findsZ (partsZ τ zx (l.take i)).1 l[i] && (!cl || decide (l[i].kind = 2)) && soundL (partsZ τ zx (l.take (i + 1))).1 zx cl (l.drop (i + 1))) := by
 rw [List.drop_eq_getElem_cons hi, soundL, List.take_succ_eq_append_getElem hi, parts_snoc]
/-! ### Paths -/
theorem lt_pre (p : Bs) {r : Bs} (h : r ≠ []) : p < p ++ r := by
 have : p ++ [] < p ++ r ↔ [] < r := lt_cut p
 rw [List.append_nil] at this
 refine this.2 ?_
 cases r with
 | nil => exact absurd rfl h
 | cons a r => exact List.nil_lt_cons _ _
theorem under_pre {q p : Bs} (h : underZ q p) : ∃ d, d ≠ [] ∧ q = kidZ p [] ++ d := by
 obtain ⟨h1, h2⟩ := h
 unfold pfx at h1
 have e : q = kidZ p [] ++ q.drop (kidZ p []).length := by
  conv => lhs; rw [← List.take_append_drop (kidZ p []).length q, h1]
 refine ⟨q.drop (kidZ p []).length, fun g => h2 ?_, e⟩
 rw [e, g, List.append_nil]
theorem hit_under {q p d : Bs} (hd : d ≠ []) (e : q = kidZ p [] ++ d) : hitT q p = true := by
 have : underZ q p := by
  subst e
  refine ⟨by unfold pfx; rw [List.take_left], fun g => hd ?_⟩
  have := congrArg List.length g
  rw [List.length_append] at this
  exact List.eq_nil_of_length_eq_zero (by omega)
 unfold hitT
 rw [decide_eq_true this, Bool.or_true]
theorem kid_root (n : Bs) : kidZ [47] n = 47 :: n := by unfold kidZ; rw [if_pos rfl]; rfl
theorem kid_else {p : Bs} (h : p ≠ [47]) (n : Bs) : kidZ p n = p ++ 47 :: n := by unfold kidZ; rw [if_neg h, List.append_assoc]; rfl
theorem hit_pre {q p : Bs} (h : hitT q p = true) : ∃ r, q = p ++ r := by
 unfold hitT at h
 rw [Bool.or_eq_true, decide_eq_true_iff, decide_eq_true_iff] at h
 rcases h with rfl | h
 ·exact ⟨[], (List.append_nil _).symm⟩
 ·obtain ⟨d, -, rfl⟩ := under_pre h
  by_cases e : p = [47]
  ·subst e; exact ⟨d, by rw [kid_root]⟩
  ·exact ⟨47 :: d, by rw [kid_else e, List.append_assoc]; rfl⟩
theorem base_ne {q : Bs} (h : ableZ q) : baseZ q ≠ [] := by
 obtain ⟨-, -, -, h⟩ := able_cut h
 intro e
 rw [e] at h; revert h; decide
theorem kid_parent {q : Bs} (h : ableZ q) : q = kidZ (parentZ q) (baseZ q) := by
 obtain ⟨h0, h1, h2, -⟩ := able_cut h
 rw [able_parent h]
 by_cases e : preZ q = []
 ·rw [if_pos e, kid_root]; rw [e] at h2; exact h2
 ·rw [if_neg e, kid_else h1]; exact h2
theorem parent_pre {q : Bs} (h : ableZ q) : ∃ r, r ≠ [] ∧ q = parentZ q ++ r := by
 have h1 := kid_parent h
 by_cases e : parentZ q = [47]
 ·rw [e, kid_root] at h1
  exact ⟨baseZ q, base_ne h, by rw [e]; exact h1⟩
 ·rw [kid_else e] at h1
  exact ⟨47 :: baseZ q, by simp, h1⟩
theorem hit_le {q p : Bs} (h : hitT q p = true) : ¬ q < p := by
 obtain ⟨r, rfl⟩ := hit_pre h
 intro g
 by_cases e : r = []
 ·subst e; rw [List.append_nil] at g; exact linB.irr _ g
 ·exact linB.irr _ (linB.tr _ _ _ g (lt_pre p e))
theorem hit_parent {q p : Bs} (hq : ableZ q) (hp : p ≠ [47]) (h : hitT (parentZ q) p = true) : hitT q p = true := by
 obtain ⟨r, hr, e⟩ := parent_pre hq
 have key : ∃ d, d ≠ [] ∧ q = kidZ p [] ++ d := by
  unfold hitT at h
  rw [Bool.or_eq_true, decide_eq_true_iff, decide_eq_true_iff] at h
  rcases h with h | h
  ·have h1 := kid_parent hq
   rw [h, kid_else hp] at h1
   refine ⟨baseZ q, base_ne hq, ?_⟩
   rw [kid_else hp, List.append_assoc]; exact h1
  ·obtain ⟨d, hd, h2⟩ := under_pre h
   refine ⟨d ++ r, by simp [hd], ?_⟩
   rw [← List.append_assoc, ← h2]; exact e
 obtain ⟨d, hd, e2⟩ := key
 exact hit_under hd e2
/-! ### What a part does, path by path -/
theorem create_at {τ : Tr} {y : Pt} {zx : Int} (h1 : y.kind = 1) (ha : ableZ y.path) (hu : thereT τ (parentZ y.path)) (q : Bs) : alook (partZ τ y zx).1.nodes q = (if q = parentZ y.path then (if q = y.path then some (newN y zx) else alook τ.nodes q).map (kidN y.num zx) else if q = y.path then some (newN y zx) else alook τ.nodes q) := by
 unfold partZ createZ
 rw [if_pos h1, if_pos ⟨ha, hu⟩]
 show alook (amod (sset _ _ _) _ _) q = _
 rw [al_amod, al_sset]
theorem erase_at {τ : Tr} {y : Pt} {zx : Int} (h2 : y.kind = 2) (ha : ableZ y.path) (q : Bs) : alook (partZ τ y zx).1.nodes q = (if q = parentZ y.path then (if hitT q y.path = true then none else alook τ.nodes q).map (kidN y.num zx) else if hitT q y.path = true then none else alook τ.nodes q) := by
 unfold partZ eraseZ
 rw [if_neg (by omega), if_pos h2, if_pos ha]
 show alook (amod (τ.nodes.filter _) _ _) q = _
 rw [al_amod, al_filter (fun k => !hitT k y.path)]
 cases hitT q y.path <;> simp
theorem set_at {τ : Tr} {y : Pt} {zx : Int} (h3 : y.kind = 3) (ht : thereT τ y.path) (q : Bs) : alook (partZ τ y zx).1.nodes q = if q = y.path then (alook τ.nodes q).map (setN y.data y.num zx) else alook τ.nodes q := by
 unfold partZ
 rw [if_neg (by omega), if_neg (by omega), if_pos ⟨h3, ht⟩]
 show alook (amod _ _ _) q = _
 rw [al_amod]
theorem acl_at {τ : Tr} {y : Pt} {zx : Int} (h4 : y.kind = 4) (ht : thereT τ y.path) (q : Bs) : alook (partZ τ y zx).1.nodes q = if q = y.path then (alook τ.nodes q).map (aclN y.acl y.num) else alook τ.nodes q := by
 unfold partZ
 rw [if_neg (by omega), if_neg (by omega), if_neg (by rintro ⟨g, -⟩; omega), if_pos ⟨h4, ht⟩]
 show alook (amod _ _ _) q = _
 rw [al_amod]
/-! ### What an entry may be -/
def wldZ : Bs := [119, 111, 114, 108, 100]
def wld (l : List Ac) : Prop := l = [] ∨ ∃ q : Int, 1 ≤ q ∧ q ≤ 31 ∧ l = [(q, wldZ)]
structure PartH (τ : Tr) (y : Pt) (K : Int) : Prop where
 kind : 0 ≤ y.kind ∧ y.kind ≤ 4
 path : y.path.length ≤ 62
 data : y.data.length ≤ 100
 acl : wld y.acl
 own : y.own = 0 ∨ ∃ s, alook τ.sess y.own = some s
 num : 0 ≤ y.num ∧ y.num ≤ K + 1
 err : y.err = 0
 room : y.kind = 1 → τ.nodes.length < 60
def PartsH (τ : Tr) (zx : Int) (subs : List Pt) (K : Int) : Prop := ∀ i (hi : i < subs.length), PartH (partsZ τ zx (subs.take i)).1 subs[i] (K + i)
structure CloseH (τ : Tr) (x : Pt) (subs : List Pt) : Prop where
 own : 1 ≤ x.own ∧ x.own ≤ 5
 paths : subs.map (·.path) = (ownedZ τ x.own).reverse
 kinds : ∀ y ∈ subs, y.kind = 2
inductive ShapeH (τ : Tr) (zx : Int) (x : Pt) (subs : List Pt) (K : Int) : Prop
 | part (hs : subs = []) (h : PartH τ x K)
 | opens (hk : x.kind = 5) (hs : subs = []) (ho : 1 ≤ x.own ∧ x.own ≤ 5) (hn : 4 ≤ x.num ∧ x.num ≤ 53) (hd : x.data.length ≤ 100) (ha : x.acl = []) (hp : x.path = [])
 | close (hk : x.kind = 6) (h : CloseH τ x subs) (hp : PartsH τ zx subs K) (ha : x.acl = []) (hd : x.data = []) (hl : subs.length ≤ 60) (hp : x.path = [])
 | multi (hk : x.kind = 7) (h : PartsH τ zx subs K) (ha : x.acl = []) (hd : x.data = []) (hl : subs.length ≤ 6) (hp : x.path = [])
 | error (hk : x.kind = 8) (hs : subs = []) (he : 0 ≤ x.err ∧ x.err < 99) (hn : x.num = -1) (ha : x.acl = []) (hd : x.data = []) (hp : x.path = [])
def TxC (x : Pt) (subs : List Pt) : Prop := isCell x.aclV = true ∧ isCell x.subsV = true ∧ ∀ y ∈ subs, isCell y.aclV = true ∧ isCell y.subsV = true
structure EntH (τ : Tr) (e : En) (K : Int) : Prop where
 sound : soundZ τ e.zx e.x e.subs = true
 shape : ShapeH τ e.zx e.x e.subs K
 ses : 0 ≤ e.ses ∧ e.ses < 9
 cells : TxC e.x e.subs
/-! ### What is so in a sound history -/
structure HInv (τ : Tr) (K : Int) : Prop where
 ok : τ.Ok 60
 root : ∃ n, alook τ.nodes [47] = some n ∧ n.st.own = 0
 closed : ∀ q, thereT τ q → q ≠ [47] → thereT τ (parentZ q)
 ver : ∀ q n, alook τ.nodes q = some n → (0 ≤ n.st.ver ∧ n.st.ver ≤ K) ∧ (0 ≤ n.st.cver ∧ n.st.cver ≤ K) ∧ (0 ≤ n.st.av ∧ n.st.av ≤ K)
 own : ∀ q n, alook τ.nodes q = some n → n.st.own = 0 ∨ ∃ s, alook τ.sess n.st.own = some s
 ids : ∀ i s, alook τ.sess i = some s → 1 ≤ i ∧ i ≤ 5
 data : ∀ q n, alook τ.nodes q = some n → n.data.length ≤ 100
 acl : ∀ q n, alook τ.nodes q = some n → wld n.acl
 bare : ∀ q n, alook τ.nodes q = some n → n.st.len = 0 ∧ n.st.kids = 0
 zx0 : 0 ≤ K
theorem map_some {α β : Type} {f : α → β} {o : Option α} {b : β} (h : o.map f = some b) : ∃ a, o = some a ∧ b = f a := by
 cases o with
 | none => cases h
 | some a => exact ⟨a, rfl, by simpa using h.symm⟩
theorem there_some {τ : Tr} {p : Bs} : thereT τ p ↔ ∃ n, alook τ.nodes p = some n := Option.isSome_iff_exists
/-! ### Parts, one by one -/
theorem snocInd {α : Type} {P : List α → Prop} (h0 : P []) (h1 : ∀ l x, P l → P (l ++ [x])) (l : List α) : P l := by
 have : ∀ m : List α, P m.reverse := by
  intro m
  induction m with
  | nil => exact h0
  | cons x m ih => rw [List.reverse_cons]; exact h1 _ _ ih
 have := this l.reverse
 rwa [List.reverse_reverse] at this
theorem parts_at {τ : Tr} {zx : Int} {subs : List Pt} {i : Nat} (hi : i < subs.length) : (partsZ τ zx (subs.take (i + 1))).1 = (partZ (partsZ τ zx (subs.take i)).1 subs[i] zx).1 := by
 rw [List.take_succ_eq_append_getElem hi, parts_snoc]
theorem soundL_at {τ : Tr} {zx : Int} {cl : Bool} {subs : List Pt} (hs : soundL τ zx cl subs = true) : ∀ i, i ≤ subs.length → soundL (partsZ τ zx (subs.take i)).1 zx cl (subs.drop i) = true := by
 intro i
 induction i with
 | zero => intro _; rw [List.take_zero]; exact hs
 | succ i ih =>
  intro hi
  have := ih (by omega)
  rw [sound_step (by omega)] at this
  simp only [Bool.and_eq_true] at this
  exact this.2
theorem HInv.sfew {l : List (Int × (Int × Bs))} (hs : SortedK l) (h : ∀ i s, alook l i = some s → 1 ≤ i ∧ i ≤ 5) : l.length ≤ 5 := by
 have hn := hs.nodup linI
 have := nodup_len (l := l.map (·.1)) (m := [1, 2, 3, 4, 5]) hn fun x hx => by
  have h1 := al_isSome.2 hx
  obtain ⟨s, e⟩ := Option.isSome_iff_exists.1 h1
  have := h x s e
  have : x = 1 ∨ x = 2 ∨ x = 3 ∨ x = 4 ∨ x = 5 := by omega
  simpa using this
 simpa using this
theorem dels_left {τ : Tr} {zx : Int} {subs : List Pt} (hk : ∀ y ∈ subs, y.kind = 2) : ∀ i, i ≤ subs.length → (∀ j (hj : j < subs.length), j < i → ableZ subs[j].path) → ∀ q n, alook (partsZ τ zx (subs.take i)).1.nodes q = some n → (∃ n0, alook τ.nodes q = some n0 ∧ n0.st.own = n.st.own) ∧ ∀ j (hj : j < subs.length), j < i → hitT q subs[j].path = false := by
 intro i
 induction i with
 | zero => intro _ _ q n hq; exact ⟨⟨n, by rw [List.take_zero] at hq; exact hq, rfl⟩, fun j _ hj => by omega⟩
 | succ i ih =>
  intro hi ha q n hq
  have hi2 : i < subs.length := by omega
  rw [parts_at hi2, erase_at (hk _ (List.getElem_mem hi2)) (ha i hi2 (by omega))] at hq
  have key : ∃ n0, alook (partsZ τ zx (subs.take i)).1.nodes q = some n0 ∧ n0.st.own = n.st.own ∧ hitT q subs[i].path = false := by
   split at hq
   ·obtain ⟨n0, g, rfl⟩ := map_some hq
    split at g
    ·cases g
    ·rename_i e; exact ⟨n0, g, rfl, by simpa using e⟩
   ·split at hq
    ·cases hq
    ·rename_i e; exact ⟨n, hq, rfl, by simpa using e⟩
  obtain ⟨n0, g1, g2, g3⟩ := key
  obtain ⟨⟨n1, k1, k2⟩, k3⟩ := ih (by omega) (fun j hj hji => ha j hj (by omega)) q n0 g1
  refine ⟨⟨n1, k1, k2.trans g2⟩, fun j hj hji => ?_⟩
  by_cases e : j = i
  ·subst e; exact g3
  ·exact k3 j hj (by omega)
theorem hit_self (q : Bs) : hitT q q = true := by unfold hitT; simp
theorem owned_mem {τ : Tr} {s : Int} {q : Bs} (hn : (τ.nodes.map (·.1)).Nodup) : q ∈ ownedZ τ s ↔ s ≠ 0 ∧ ∃ n, alook τ.nodes q = some n ∧ n.st.own = s := by
 unfold ownedZ
 rw [List.mem_map]
 constructor
 ·rintro ⟨⟨q', n⟩, hm, rfl⟩
  obtain ⟨h1, h2⟩ := List.mem_filter.1 hm
  simp at h2
  exact ⟨h2.1, n, al_of_mem hn h1, h2.2⟩
 ·rintro ⟨h0, n, h1, h2⟩
  exact ⟨(q, n), List.mem_filter.2 ⟨al_mem h1, by simp [h0, h2]⟩, rfl⟩
theorem filter_del {subs : List Pt} (h : ∀ y ∈ subs, y.kind = 2) : subs.filter isDel = subs := List.filter_eq_self.2 fun y hy => by unfold isDel; rw [decide_eq_true (h y hy)]
theorem part_zero {τ : Tr} {x : Pt} {zx : Int} (h : x.kind = 0) : (partZ τ x zx).1 = τ := by
 unfold partZ
 rw [if_neg (by omega), if_neg (by omega), if_neg (by rintro ⟨g, -⟩; omega), if_neg (by rintro ⟨g, -⟩; omega)]
inductive Hist (z0 : Int) : List En → Tr → Prop
 | nil : Hist z0 [] newT
 | snoc {l : List En} {τ : Tr} {e : En} (h : Hist z0 l τ) (he : EntH τ e (60 * l.length)) (hz : e.zx = z0 + l.length) (hx : 0 ≤ e.xid ∧ e.xid < 150) : Hist z0 (l ++ [e]) (appE τ e)
/-! ### In memory -/
/-! ### A session's end, path by path -/
theorem owned_sorted {τ : Tr} {N : Nat} (ho : τ.Ok N) (s : Int) : (ownedZ τ s).Pairwise (· < ·) := ho.sorted.filter _
theorem dels_there {τ : Tr} {zx : Int} {q : Bs} (l : List Pt) : (∀ y ∈ l, y.kind = 2 ∧ ableZ y.path) → (thereT (partsZ τ zx l).1 q ↔ thereT τ q ∧ ∀ y ∈ l, hitT q y.path = false) := by
 induction l using snocInd with
 | h0 => intro _; exact ⟨fun h => ⟨h, fun y hy => by cases hy⟩, fun h => h.1⟩
 | h1 l x ih =>
  intro hl
  obtain ⟨k1, k2⟩ := hl x (by simp)
  have ih2 := ih fun y hy => hl y (by simp [hy])
  have e : thereT (partsZ τ zx (l ++ [x])).1 q ↔ thereT (partsZ τ zx l).1 q ∧ hitT q x.path = false := by
   rw [parts_snoc]
   unfold thereT
   dsimp only
   rw [erase_at k1 k2]
   cases hitT q x.path <;> split <;> simp
  rw [e, ih2]
  constructor
  ·rintro ⟨⟨a, b⟩, c⟩
   refine ⟨a, fun y hy => ?_⟩
   rcases List.mem_append.1 hy with hy | hy
   ·exact b y hy
   ·rw [List.mem_singleton] at hy; subst hy; exact c
  ·rintro ⟨a, b⟩
   exact ⟨⟨a, fun y hy => b y (by simp [hy])⟩, b x (by simp)⟩
theorem TabP.up {a p : HP} (hT : TabP p) : TabP (sep [a, p]) := by
 intro h w hp hle
 obtain ⟨h1, h2, _, a1, a2, _, h3⟩ := hp
 obtain ⟨h4, a4, hp4⟩ := sep_head (p := p) (L := []) h3
 exact hT h4 w hp4 (fun b o e => hle b o (a2 b o (a4 b o e)))
def acl31 : List Ac := [(31, [119, 111, 114, 108, 100])]
def open12 : Pt := ⟨5, [], [], nilV, [], 7, 10, 0, nilV⟩
def aw12 : Tr := (applyZ newT 1 open12 []).1
def u12 : Who := ⟨7, []⟩
def rqA12 (v : Value) : Rq := ⟨1, 0, [47, 97], [120], v, acl31, 0, 0, false, nilV, nilV⟩
def rqB12 (v : Value) : Rq := ⟨1, 0, [47, 113, 45], [], v, acl31, 3, 0, false, nilV, nilV⟩
def rqC12 : Rq := ⟨7, 0, [], [], nilV, [], 0, 0, false, nilV, nilV⟩
def rqD12 (v : Value) : Rq := ⟨6, 0, [], [], nilV, [], 0, 0, false, v, nilV⟩
def rqD1 (v : Value) : Rq := ⟨1, 0, [47, 97], [], v, acl31, 0, 0, false, nilV, nilV⟩
def rqD2 : Rq := ⟨5, 0, [47, 97], [], nilV, [], 0, 0, false, nilV, nilV⟩
def rqD3 : Rq := ⟨2, 0, [47, 98], [], nilV, [], 0, -1, false, nilV, nilV⟩
theorem aw12_A0 : firstZ (createE aw12 u12 (rqA12 nilV)) = 0 := by decide
theorem itoa_0 : Lib.itoa 0 = [48] := by
 unfold Lib.itoa
 rw [if_neg (by decide)]
 show Lib.decDigits 0 = [48]
 rw [Lib.decDigits]; rfl
theorem aw12_Bn : fullZ aw12 (rqB12 nilV) = [47, 113, 45, 48, 48, 48, 48, 48, 48, 48, 48, 48, 48] := by
 unfold fullZ
 rw [if_pos (by decide), show (upS aw12 (rqB12 nilV)).cver = 0 by decide]
 unfold numbered
 rw [show max (0 : Int) 0 = 0 by decide, itoa_0]; rfl
theorem aw12_B0 : firstZ (createE aw12 u12 (rqB12 nilV)) = 0 := by
 unfold createE
 rw [aw12_Bn]; decide
theorem aw12_ses : sesT aw12 7 := by decide
theorem aw12_up : (upS aw12 (rqA12 nilV)).cver = 0 := by decide
theorem part12_A (v : Value) : partP aw12 u12 (rqA12 v) = (⟨1, [47, 97], [120], nilV, acl31, 0, 1, 0, nilV⟩, 0) := by
 rw [part_one rfl]
 have e : firstZ (createE aw12 u12 (rqA12 v)) = 0 := aw12_A0
 rw [e]
 have e2 : createX aw12 u12 (rqA12 v) = createX aw12 u12 (rqA12 nilV) := rfl
 rw [e2]
 show ((⟨1, fullZ aw12 (rqA12 nilV), [120], nilV, acl31, if andI 0 1 ≠ 0 then 7 else 0, wrapI ((upS aw12 (rqA12 nilV)).cver + 1), 0, nilV⟩ : Pt), (0 : Int)) = _
 rw [aw12_up, show fullZ aw12 (rqA12 nilV) = [47, 97] by decide, show wrapI (0 + 1) = 1 by decide, if_neg (by decide)]
theorem part12_B (v : Value) : partP aw12 u12 (rqB12 v) = (⟨1, [47, 113, 45, 48, 48, 48, 48, 48, 48, 48, 48, 48, 48], [], nilV, acl31, 7, 1, 0, nilV⟩, 0) := by
 rw [part_one rfl]
 have e : firstZ (createE aw12 u12 (rqB12 v)) = 0 := aw12_B0
 rw [e]
 show ((⟨1, fullZ aw12 (rqB12 nilV), [], nilV, acl31, if andI 3 1 ≠ 0 then 7 else 0, wrapI ((upS aw12 (rqB12 nilV)).cver + 1), 0, nilV⟩ : Pt), (0 : Int)) = _
 rw [aw12_Bn, show (upS aw12 (rqB12 nilV)).cver = 0 by decide, show wrapI (0 + 1) = 1 by decide, if_pos (by decide)]
theorem txn12_A (v : Value) : txnP aw12 u12 (rqA12 v) [] = (⟨1, [47, 97], [120], nilV, acl31, 0, 1, 0, nilV⟩, []) := by
 unfold txnP
 rw [if_neg (by show ¬ ¬ changesK 1 = true; decide), if_neg (fun g => g aw12_ses), if_neg (by show ¬ (1 : Int) = 6; decide), if_neg (by show ¬ (1 : Int) = 7; decide), if_neg (by show ¬ (1 : Int) = 8; decide), part12_A, if_neg (by decide)]
theorem txn12_B (v : Value) : txnP aw12 u12 (rqB12 v) [] = (⟨1, [47, 113, 45, 48, 48, 48, 48, 48, 48, 48, 48, 48, 48], [], nilV, acl31, 7, 1, 0, nilV⟩, []) := by
 unfold txnP
 rw [if_neg (by show ¬ ¬ changesK 1 = true; decide), if_neg (fun g => g aw12_ses), if_neg (by show ¬ (1 : Int) = 6; decide), if_neg (by show ¬ (1 : Int) = 7; decide), if_neg (by show ¬ (1 : Int) = 8; decide), part12_B, if_neg (by decide)]
theorem multi12_0 : (multiL u12 [rqD1 nilV, rqD2, rqD3] aw12).2.2 = some (2, 60) := by decide
theorem txn12_D (v w : Value) : txnP aw12 u12 (rqD12 w) [rqD1 v, rqD2, rqD3] = (refusal 60 2, []) := by
 unfold txnP
 rw [if_neg (by show ¬ ¬ changesK 6 = true; decide), if_neg (fun g => g aw12_ses), if_pos (by rfl)]
 unfold multiP
 have e : (multiL u12 [rqD1 v, rqD2, rqD3] aw12).2.2 = some (2, 60) := by
  have h : partP aw12 u12 (rqD1 v) = partP aw12 u12 (rqD1 nilV) := by rw [part_one (r := rqD1 v) rfl, part_one (r := rqD1 nilV) rfl]; rfl
  rw [multi_cons, h, ← multi_cons]; exact multi12_0
 rw [if_neg (by simp), e]
 rfl
theorem aw12_ok : aw12.Ok 2 := newT_ok.apply 1 open12 [] (by decide) (by simp)
theorem aw12_w : TrW aw12 := TrW.new.app (e := ⟨1, 0, 0, open12, []⟩) ⟨⟨by decide, by decide⟩, ⟨⟨by decide, by decide⟩, ⟨by decide, by decide⟩, by decide, ⟨by decide, by simp [open12, aclB, cntB, sevZ], fun a ha => by cases ha⟩⟩, fun _ h => by cases h⟩
theorem aw12_C : txnP aw12 ⟨8, []⟩ rqC12 [] = (refusal 67 (-1), []) := by
 rfl
theorem WiA.mk0 {p : HP} {s : Int} {r : Rq} (hs : I64 s) (hT : TabP p) (hk : I64 r.kind ∧ I64 r.xid ∧ I64 r.flags ∧ I64 r.ver) (hl : r.path.length ≤ 64 ∧ r.data.length ≤ 64) (ha : ∀ h : Hp, p h → rdS 2 h r.aclV r.acl.length (r.acl.flatMap acC))
  (hm : r.acl.length ≤ 8 ∧ ∀ a ∈ r.acl, I64 a.1 ∧ a.2.length ≤ 64) (h1 : ∃ a n c, r.aclV = .slice a n c) (h2 : ∃ a n c, r.subsV = .slice a n c) (h3 : ∃ a n c, r.armV = .slice a n c) : WiA p ⟨s, []⟩ nilV r :=
 ⟨⟨hk.1, hk.2.1, hk.2.2.1, hk.2.2.2, by omega, by omega, ha, by omega, fun a h => ⟨(hm.2 a h).1, by have := (hm.2 a h).2; omega⟩, h2, h3⟩, hs, fun _ _ => .inl ⟨rfl, rfl, none, 0, rfl⟩, by show 0 ≤ _; decide, ⟨none, 0, 0, rfl⟩, h1, hT⟩
theorem tx12 (p : HP) : TxA p open12 [] := ⟨⟨fun _ _ => .inl ⟨rfl, rfl, none, 0, rfl⟩, by decide, by decide, rfl, rfl⟩, fun _ _ => .inl ⟨rfl, rfl, none, 0, rfl⟩, by decide, fun _ h => by cases h⟩
theorem rd_head {a p : HP} {sz n : Nat} {v : Value} {xs : List Value} (ha : ∀ h : Hp, a h → rdS sz h v n xs) : ∀ h : Hp, sep [a, p] h → rdS sz h v n xs := by
 intro h hp
 obtain ⟨h1, a1, hp1⟩ := sep_head hp
 exact rdS_mono (ha h1 hp1) a1
theorem rd_tail {a p : HP} {sz n : Nat} {v : Value} {xs : List Value} (ha : ∀ h : Hp, p h → rdS sz h v n xs) : ∀ h : Hp, sep [a, p] h → rdS sz h v n xs := by
 intro h hp
 obtain ⟨h1, h2, _, a1, a2, _, h3⟩ := hp
 obtain ⟨h4, a4, hp4⟩ := sep_head (p := p) (L := []) h3
 exact rdS_mono (ha h4 hp4) (fun b o e => a2 b o (a4 b o e))
theorem within12 {y : Pt} {ys : List Pt} (hy : y.pl = (refusal 60 2)) (z s x : Int) : withinR aw12 ⟨z, s, x, y, ys⟩ = [errR 111, errR 111, errR 60] := by
 have hk : y.kind = 8 := congrArg Pt.kind hy
 have hn : y.num = 2 := congrArg Pt.num hy
 have he : y.err = 60 := congrArg Pt.err hy
 unfold withinR
 rw [if_neg (by show ¬ y.kind = 7; omega), if_pos ⟨hk, by show 0 ≤ y.num; omega, by show y.num < 8; omega⟩]
 show List.replicate y.num.toNat (errR 111) ++ [errR y.err] = _
 rw [hn, he]; rfl
theorem acl31_w : AclW acl31 := ⟨by decide, by simp [acl31, aclB, acB, cntB, txtB, numB, zigZ, sevZ], fun a ha => by
 obtain rfl := List.mem_singleton.1 ha
 exact ⟨⟨⟨by decide, by decide⟩, by decide⟩, by decide⟩⟩
theorem acl_nil_w : AclW [] := ⟨by decide, by simp [aclB, cntB, sevZ], fun a ha => by cases ha⟩
theorem rd_acl {a p : HP} {v : Value} (ha : ∀ h : Hp, a h → rdS 2 h v 1 (acl31.flatMap acC)) : ∀ h : Hp, sep [a, p] h → rdS 2 h v acl31.length (acl31.flatMap acC) := by
 intro h hp
 obtain ⟨h1, a1, hp1⟩ := sep_head hp
 exact rdS_mono (ha h1 hp1) a1
theorem wi_31 {p : HP} {s k f : Int} {v : Value} {q d : Bs} (hs : I64 s) (hT : TabP p) (ha : ∀ h : Hp, p h → rdS 2 h v acl31.length (acl31.flatMap acC)) (hv : ∃ a n c, v = .slice a n c) (hk : I64 k ∧ I64 f) (hl : q.length ≤ 64 ∧ d.length ≤ 64) : WiA p ⟨s, []⟩ nilV ⟨k, 0, q, d, v, acl31, f, 0, false, nilV, nilV⟩ :=
 WiA.mk0 hs hT ⟨hk.1, I64.zero, hk.2, I64.zero⟩ hl ha ⟨by show 1 ≤ 8; decide, fun a h => by obtain rfl := List.mem_singleton.1 h; exact ⟨⟨by decide, by decide⟩, by decide⟩⟩ hv ⟨none, 0, 0, rfl⟩ ⟨none, 0, 0, rfl⟩
theorem wi_nil {p : HP} {s k f ver : Int} {w : Value} {q d : Bs} (hs : I64 s) (hT : TabP p) (hw : ∃ a n c, w = .slice a n c) (hk : I64 k ∧ I64 f ∧ I64 ver) (hl : q.length ≤ 64 ∧ d.length ≤ 64) : WiA p ⟨s, []⟩ nilV ⟨k, 0, q, d, nilV, [], f, ver, false, w, nilV⟩ :=
 WiA.mk0 hs hT ⟨hk.1, I64.zero, hk.2.1, hk.2.2⟩ hl (fun _ _ => .inl ⟨rfl, rfl, none, 0, rfl⟩) ⟨by show 0 ≤ 8; decide, fun a h => by cases h⟩ ⟨none, 0, 0, rfl⟩ hw ⟨none, 0, 0, rfl⟩
theorem fill_e5 (s0 s1 s2 s3 s4 s5 s6 s7 : Value) : Instr.fill (fun i => [(0, 1), (1, 1), (2, 1), (3, 8)].toArray[i]?) ([.int .i64 0, .int .i64 0, .int .i64 0, .int .i64 0, .string (bs []), .string (bs []), .slice none 0 0, .int .i64 0, .int .i64 0, .int .i64 0, .slice none 0 0] : List Value).toArray [(0, vint 5), (2, vint 6), (3, .agg ([s0, s1, s2, s3, s4, s5, s6, s7] : List Value).toArray)] = some (([vint 5, vint 0, vint 6] ++ [s0, s1, s2, s3, s4, s5, s6, s7] : List Value).toArray) := by kernel_rfl
theorem awake12_spec (T0 : HP) (hT : TabP T0) : Fn Tryz.prog 10 #[] [T0] fun v L => v = .bool true ∧ L = [T0] := by
 refine Fn.intro Tryz.func10 rfl rfl fun F W => ?_
 refine .sr (.an rfl (.sr (.oq (.c Tryz.func26 [] (trnew_spec)) ?_)))
 rintro v L' ⟨t, rfl, rfl⟩
 refine .an rfl (.seq (.sm rfl (.q (.ptreq rfl rfl Tryz.underlying30) rfl (.nt (.condF rfl (.sk (.sm rfl (.q (.to (v' := .agg (ptC open12).toArray) (.build (us := [(0, _), (4, _), (5, _)]) fl_43 ze_43 rfl rfl (by simp [isCell])) rfl) rfl (.q (.buildN (pl := [(0, 1), (1, 1), (2, 1), (3, 8)]) (us := [(0, vint 1), (3, .agg (ptC open12).toArray)]) (cells := [vint 1, vint 0, vint 0] ++ ptC open12) Tryz.underlying54 (by kernel_rfl) ze_54 rfl (fill_entry _ _ _ _ _ _ _ _ _)) rfl (.oq (.c Tryz.func33 [_, _] (trapply_spec t newT 1 0 0 open12 [] T0 (tx12 T0) 1 newT_ok (by decide))) ?_))))))))))
 rintro v L' ⟨ue, ee, rfl, -, ⟨ae, ce, rfl⟩, rfl⟩; rw [show (applyZ newT 1 open12 []).1 = aw12 from rfl]
 refine .nt (.sr (.q (.build (us := [(0, _), (1, _)]) fl_85 ze_85 rfl rfl (by simp [isCell])) rfl (.oq (.buildSlice (vs := [_]) el_24 ze_85 rfl rfl rfl rfl (by first | (simp [Value.cells]; done) | (intro v hv; simp only [List.mem_cons, List.not_mem_nil, or_false] at hv; (repeat (first | (subst hv; rfl) | (rcases hv with hv | hv; (subst hv; rfl)))))) (by decide)) ?_)))
 rintro v L' ⟨ba, rfl, rfl⟩
 refine .a rfl (.nil (.slMakeN 2 1 (b := ba) (xs := acl31.flatMap acC) (by repeat' constructor) rfl rfl (.fold (p := (sep [slR 85 2 (.slice (some ⟨ba, 0, none⟩) 1 1) 1 (acl31.flatMap acC), T0])) (q := [slR 85 2 (.slice (some ⟨ba, 0, none⟩) 1 1) 1 (acl31.flatMap acC), T0]) (by repeat' constructor) (fun _ h => h) ?_)))
 have hT1 : TabP (sep [slR 85 2 (.slice (some ⟨ba, 0, none⟩) 1 1) 1 (acl31.flatMap acC), T0]) := hT.up
 have hra : ∀ h : Hp, (sep [slR 85 2 (.slice (some ⟨ba, 0, none⟩) 1 1) 1 (acl31.flatMap acC), T0]) h → rdS 2 h (.slice (some ⟨ba, 0, none⟩) 1 1) acl31.length (acl31.flatMap acC) := rd_acl (fun _ => slR_rd)
 refine .then_n (.sm rfl (.m rfl (.q (.to (v' := .agg (rqC (rqA12 (.slice (some ⟨ba, 0, none⟩) 1 1))).toArray) (.build (us := [(0, _), (2, _), (3, _), (4, _)]) fl_28 ze_28 rfl rfl (by simp [isCell])) rfl) rfl (.oq (.call Tryz.func14 rfl rfl (vs := [_, _, _, _]) rfl (ptxn_spec t aw12 u12 nilV (rqA12 (.slice (some ⟨ba, 0, none⟩) 1 1)) (sep [slR 85 2 (.slice (some ⟨ba, 0, none⟩) 1 1) 1 (acl31.flatMap acC), T0]) (wi_31 (s := 7) (k := 1) (f := 0) (q := [47, 97]) (d := [120]) ⟨by decide, by decide⟩ hT1 hra ⟨_, _, _, rfl⟩ ⟨⟨by decide, by decide⟩, ⟨by decide, by decide⟩⟩ ⟨by decide, by decide⟩) 2 aw12_ok (by decide) aw12_w (by decide) [] (fun _ _ => .inl ⟨rfl, rfl, none, 0, rfl⟩) (fun x h => by cases h) (fun x h => by cases h) (by show (1 : Int) ≠ 8; decide))) ?_))))
 rintro v L' ⟨y1, ys1, rfl, hy1, hys1, ⟨hc1, as1, cs1, hsub1⟩, hyk1, rfl⟩; rw [txn12_A] at hy1 hys1
 refine .oq (.allocA ze_43) ?_
 rintro v L' ⟨b3, rfl, rfl⟩
 refine .oq (.storeA rfl rfl ?c17 sz_43 ?c20 ?c18 (nfz0 _ _)) ?_
 case c17 => exact pt_cells hc1 (by rw [hsub1]; rfl)
 case c20 => rfl
 case c18 => simp [ptC]
 rintro v L' rfl
 refine .nil (.ptCast (b := b3) (l' := ptC y1) (by repeat' constructor) (by exact rfl) (.then_n (.sm rfl (.m rfl (.q (.to (v' := .agg (rqC (rqB12 (.slice (some ⟨ba, 0, none⟩) 1 1))).toArray) (.build (us := [(0, _), (2, _), (4, _), (5, _)]) fl_28 ze_28 rfl rfl (by simp [isCell])) rfl) rfl (.oq (.call Tryz.func14 rfl rfl (vs := [_, _, _, _]) rfl (ptxn_spec t aw12 u12 nilV (rqB12 (.slice (some ⟨ba, 0, none⟩) 1 1)) (sep [slR 85 2 (.slice (some ⟨ba, 0, none⟩) 1 1) 1 (acl31.flatMap acC), T0]) (wi_31 (s := 7) (k := 1) (f := 3) (q := [47, 113, 45]) (d := []) ⟨by decide, by decide⟩ hT1 hra ⟨_, _, _, rfl⟩ ⟨⟨by decide, by decide⟩, ⟨by decide, by decide⟩⟩ ⟨by decide, by decide⟩) 2 aw12_ok (by decide) aw12_w (by decide) [] (fun _ _ => .inl ⟨rfl, rfl, none, 0, rfl⟩) (fun x h => by cases h) (fun x h => by cases h) (by show (1 : Int) ≠ 8; decide))) ?_))))))
 rintro v L' ⟨y2, ys2, rfl, hy2, hys2, ⟨hc2, as2, cs2, hsub2⟩, hyk2, rfl⟩; rw [txn12_B] at hy2 hys2
 refine .oq (.allocA ze_43) ?_
 rintro v L' ⟨b4, rfl, rfl⟩
 refine .oq (.storeA rfl rfl ?c27 sz_43 ?c30 ?c28 (nfz0 _ _)) ?_
 case c27 => exact pt_cells hc2 (by rw [hsub2]; rfl)
 case c30 => rfl
 case c28 => simp [ptC]
 rintro v L' rfl
 refine .nil (.ptCast (b := b4) (l' := ptC y2) (by repeat' constructor) (by exact rfl) (.then_n (.sm rfl (.q (.to (v' := .agg (rqC rqC12).toArray) (.build (us := [(0, _)]) fl_28 ze_28 rfl rfl (by simp [isCell])) rfl) rfl (.oq (.call Tryz.func14 rfl rfl (vs := [_, _, _, _]) rfl (ptxn_spec t aw12 ⟨8, []⟩ nilV rqC12 (sep [slR 85 2 (.slice (some ⟨ba, 0, none⟩) 1 1) 1 (acl31.flatMap acC), T0]) (wi_nil (s := 8) (k := 7) (f := 0) (ver := 0) (w := nilV) (q := []) (d := []) ⟨by decide, by decide⟩ hT1 ⟨_, _, _, rfl⟩ ⟨⟨by decide, by decide⟩, ⟨by decide, by decide⟩, ⟨by decide, by decide⟩⟩ ⟨by decide, by decide⟩) 2 aw12_ok (by decide) aw12_w (by decide) [] (fun _ _ => .inl ⟨rfl, rfl, none, 0, rfl⟩) (fun x h => by cases h) (fun x h => by cases h) (by show (7 : Int) ≠ 8; decide))) ?_)))))
 rintro v L' ⟨y3, ys3, rfl, hy3, hys3, ⟨hc3, as3, cs3, hsub3⟩, hyk3, rfl⟩; rw [aw12_C] at hy3 hys3
 refine .oq (.allocA ze_43) ?_
 rintro v L' ⟨b5, rfl, rfl⟩
 refine .oq (.storeA rfl rfl ?c37 sz_43 ?c40 ?c38 (nfz0 _ _)) ?_
 case c37 => exact pt_cells hc3 (by rw [hsub3]; rfl)
 case c40 => rfl
 case c38 => simp [ptC]
 rintro v L' rfl
 refine .nil (.ptCast (b := b5) (l' := ptC y3) (by repeat' constructor) (by exact rfl) (.then_n (.sm rfl (.m rfl (.q (.to (v' := .agg (rqC (rqD1 (.slice (some ⟨ba, 0, none⟩) 1 1))).toArray) (.build (us := [(0, _), (2, _), (4, _)]) fl_28 ze_28 rfl rfl (by simp [isCell])) rfl) rfl (.q (.to (v' := .agg (rqC rqD2).toArray) (.build (us := [(0, _), (2, _)]) fl_28 ze_28 rfl rfl (by simp [isCell])) rfl) rfl (.q (.to (v' := .agg (rqC rqD3).toArray) (.build (us := [(0, _), (2, _), (6, _)]) fl_28 ze_28 rfl rfl (by simp [isCell])) rfl) rfl (.oq (.buildSlice (vs := [_, _, _]) el_25 ze_28 rfl rfl rfl rfl (by first | (simp [Value.cells]; done) | (intro v hv; simp only [List.mem_cons, List.not_mem_nil, or_false] at hv; (repeat (first | (subst hv; rfl) | (rcases hv with hv | hv; (subst hv; rfl)))))) (by decide)) ?_))))))))
 rintro v L' ⟨bs, rfl, rfl⟩
 refine .slMakeN 10 3 (b := bs) (xs := [rqD1 (.slice (some ⟨ba, 0, none⟩) 1 1), rqD2, rqD3].flatMap rqC) (by repeat' constructor) rfl rfl (.fold (p := (sep [slR 28 10 (.slice (some ⟨bs, 0, none⟩) 3 3) 3 ([rqD1 (.slice (some ⟨ba, 0, none⟩) 1 1), rqD2, rqD3].flatMap rqC), (sep [slR 85 2 (.slice (some ⟨ba, 0, none⟩) 1 1) 1 (acl31.flatMap acC), T0])])) (q := [slR 28 10 (.slice (some ⟨bs, 0, none⟩) 3 3) 3 ([rqD1 (.slice (some ⟨ba, 0, none⟩) 1 1), rqD2, rqD3].flatMap rqC), (sep [slR 85 2 (.slice (some ⟨ba, 0, none⟩) 1 1) 1 (acl31.flatMap acC), T0])]) (by repeat' constructor) (fun _ h => h) ?_)
 have hT4 : TabP (sep [slR 28 10 (.slice (some ⟨bs, 0, none⟩) 3 3) 3 ([rqD1 (.slice (some ⟨ba, 0, none⟩) 1 1), rqD2, rqD3].flatMap rqC), (sep [slR 85 2 (.slice (some ⟨ba, 0, none⟩) 1 1) 1 (acl31.flatMap acC), T0])]) := hT1.up
 have hra4 : ∀ h : Hp, (sep [slR 28 10 (.slice (some ⟨bs, 0, none⟩) 3 3) 3 ([rqD1 (.slice (some ⟨ba, 0, none⟩) 1 1), rqD2, rqD3].flatMap rqC), (sep [slR 85 2 (.slice (some ⟨ba, 0, none⟩) 1 1) 1 (acl31.flatMap acC), T0])]) h → rdS 2 h (.slice (some ⟨ba, 0, none⟩) 1 1) acl31.length (acl31.flatMap acC) := rd_tail hra
 have hS4 : ∀ x ∈ [rqD1 (.slice (some ⟨ba, 0, none⟩) 1 1), rqD2, rqD3], WiA (sep [slR 28 10 (.slice (some ⟨bs, 0, none⟩) 3 3) 3 ([rqD1 (.slice (some ⟨ba, 0, none⟩) 1 1), rqD2, rqD3].flatMap rqC), (sep [slR 85 2 (.slice (some ⟨ba, 0, none⟩) 1 1) 1 (acl31.flatMap acC), T0])]) u12 nilV x := by
    intro x hx
    simp only [List.mem_cons, List.not_mem_nil, or_false] at hx
    rcases hx with rfl | rfl | rfl
    · exact wi_31 (s := 7) (k := 1) (f := 0) (q := [47, 97]) (d := []) ⟨by decide, by decide⟩ hT4 hra4 ⟨_, _, _, rfl⟩ ⟨⟨by decide, by decide⟩, ⟨by decide, by decide⟩⟩ ⟨by decide, by decide⟩
    · exact wi_nil (s := 7) (k := 5) (f := 0) (ver := 0) (w := nilV) (q := [47, 97]) (d := []) ⟨by decide, by decide⟩ hT4 ⟨_, _, _, rfl⟩ ⟨⟨by decide, by decide⟩, ⟨by decide, by decide⟩, ⟨by decide, by decide⟩⟩ ⟨by decide, by decide⟩
    exact wi_nil (s := 7) (k := 2) (f := 0) (ver := -1) (w := nilV) (q := [47, 98]) (d := []) ⟨by decide, by decide⟩ hT4 ⟨_, _, _, rfl⟩ ⟨⟨by decide, by decide⟩, ⟨by decide, by decide⟩, ⟨by decide, by decide⟩⟩ ⟨by decide, by decide⟩
 have hSa4 : ∀ x ∈ [rqD1 (.slice (some ⟨ba, 0, none⟩) 1 1), rqD2, rqD3], AclW x.acl := by
    intro x hx
    simp only [List.mem_cons, List.not_mem_nil, or_false] at hx
    rcases hx with rfl | rfl | rfl
    · exact acl31_w
    · exact acl_nil_w
    exact acl_nil_w
 refine .q (.to (v' := .agg (rqC (rqD12 (.slice (some ⟨bs, 0, none⟩) 3 3))).toArray) (.build (us := [(0, _), (8, _)]) fl_28 ze_28 rfl rfl (by simp [isCell])) rfl) rfl (.oq (.call Tryz.func14 rfl rfl (vs := [_, _, _, _]) rfl (ptxn_spec t aw12 u12 nilV (rqD12 (.slice (some ⟨bs, 0, none⟩) 3 3)) (sep [slR 28 10 (.slice (some ⟨bs, 0, none⟩) 3 3) 3 ([rqD1 (.slice (some ⟨ba, 0, none⟩) 1 1), rqD2, rqD3].flatMap rqC), (sep [slR 85 2 (.slice (some ⟨ba, 0, none⟩) 1 1) 1 (acl31.flatMap acC), T0])]) (wi_nil (s := 7) (k := 6) (f := 0) (ver := 0) (w := .slice (some ⟨bs, 0, none⟩) 3 3) (q := []) (d := []) ⟨by decide, by decide⟩ hT4 ⟨_, _, _, rfl⟩ ⟨⟨by decide, by decide⟩, ⟨by decide, by decide⟩, ⟨by decide, by decide⟩⟩ ⟨by decide, by decide⟩) 2 aw12_ok (by decide) aw12_w (by decide) [rqD1 (.slice (some ⟨ba, 0, none⟩) 1 1), rqD2, rqD3] (rd_head (fun _ => slR_rd)) hS4 hSa4 (by show (6 : Int) ≠ 8; decide))) ?_)
 rintro v L' ⟨y4, ys4, rfl, hy4, hys4, ⟨hc4, as4, cs4, hsub4⟩, hyk4, rfl⟩; rw [txn12_D] at hy4 hys4
 refine .oq (.allocA ze_43) ?_
 rintro v L' ⟨b6, rfl, rfl⟩
 refine .oq (.storeA rfl rfl ?c52 sz_43 ?c55 ?c53 (nfz0 _ _)) ?_
 case c52 => exact pt_cells hc4 (by rw [hsub4]; rfl)
 case c55 => rfl
 case c53 => simp [ptC]
 rintro v L' rfl
 refine .nil (.ptCast (b := b6) (l' := ptC y4) (by repeat' constructor) (by exact rfl) (.then_n (.sm rfl (.q (.to (v' := .agg (ptC y4).toArray) (.loadA rfl ag_43 (by repeat' constructor) (by simp [ptC])) (by rfl)) rfl (.q (.to (v' := .agg (enC (⟨5, 0, 6, y4, ys4⟩ : En)).toArray) (.buildN (pl := [(0, 1), (1, 1), (2, 1), (3, 8)]) (us := [(0, vint 5), (2, vint 6), (3, .agg (ptC y4).toArray)]) (cells := enC (⟨5, 0, 6, y4, ys4⟩ : En)) Tryz.underlying54 (by kernel_rfl) ze_54 rfl (fill_e5 _ _ _ _ _ _ _ _)) rfl) rfl (.oq (.call Tryz.func23 rfl rfl (vs := [_, _]) rfl (preply_spec t aw12 (⟨5, 0, 6, y4, ys4⟩ : En) 2 aw12_ok (by decide) (slR 43 8 y4.subsV ys4.length (ys4.flatMap ptC)) (fun _ => slR_rd) (by have h := congrArg List.length hys4; simp at h; simp [h]) hc4 (by show isCell y4.subsV = true; rw [hsub4]; rfl) (fun y h => ⟨(hyk4 y h).1, by rw [(hyk4 y h).2]; rfl⟩))) ?_))))))
 rintro v L' ⟨w, rfl, ⟨aw, cw, rfl⟩, rfl⟩; rw [within12 hy4]
 refine .oq (.allocA ze_57) ?_
 rintro v L' ⟨b7, rfl, rfl⟩
 refine .oq (.storeA rfl rfl ?c63 sz_57 ?c66 ?c64 (nfz0 _ _)) ?_
 case c63 => exact rp_cells rfl rfl rfl
 case c66 => rfl
 case c64 => simp
 rintro v L' rfl
 refine .nil (.ptCast (b := b7) (l' := rpC ((headR aw12 (⟨5, 0, 6, y4, ys4⟩ : En)).ws (.slice aw 3 cw))) (by repeat' constructor) (by exact rfl) (.rdShape (p := slR 57 17 (.slice aw 3 cw) 3 ([errR 111, errR 111, errR 60].flatMap rpC)) (fun _ => slR_rd) (by repeat' constructor) (by decide) fun bw ow ee => ?_))
 subst ee
 refine .then_n (.sr (.u (.fieldAddr rfl fo_43_0) (.u (.ld rfl ag_3) (.q (.as (v' := .bool true) (by exact congrArg Value.bool (decide_eq_true (congrArg Pt.kind hy1))) (.int rfl rfl rfl)) rfl (.m rfl (.grun (t := 45) rfl rfl rfl (.u (.fieldAddr rfl fo_43_1) (.grun (t := 45) rfl rfl rfl (.u (.ld rfl ag_9) (.grun (t := 45) rfl rfl rfl (.q (.as (v' := .bool true) (by exact congrArg Value.bool (decide_eq_true (congrArg Pt.path hy1))) (.streq rfl rfl)) rfl (.u (.pickT rfl rfl) (.m rfl (.grun (t := 50) rfl rfl rfl (.u (.fieldAddr rfl fo_43_2) (.grun (t := 50) rfl rfl rfl (.u (.ld rfl ag_9) (.grun (t := 50) rfl rfl rfl (.q (.as (v' := .bool true) (by exact congrArg Value.bool (decide_eq_true (congrArg Pt.data hy1))) (.streq rfl rfl)) rfl (.u (.pickT rfl rfl) (.m rfl (.grun (t := 55) rfl rfl rfl (.u (.fieldAddr rfl fo_43_5) (.grun (t := 55) rfl rfl rfl (.u (.ld rfl ag_3) ?_)))))))))))))))))))))))))
 refine .grun (t := 55) rfl rfl rfl (.q (.as (v' := .bool true) (by exact congrArg Value.bool (decide_eq_true (congrArg Pt.num hy1))) (.int rfl rfl rfl)) rfl (.u (.pickT rfl rfl) (.m rfl (.grun (t := 60) rfl rfl rfl (.u (.fieldAddr rfl fo_43_1) (.grun (t := 60) rfl rfl rfl (.u (.ld rfl ag_9) (.grun (t := 60) rfl rfl rfl (.q (.as (v' := .bool true) (by exact congrArg Value.bool (decide_eq_true (congrArg Pt.path hy2))) (.streq rfl rfl)) rfl (.u (.pickT rfl rfl) (.m rfl (.grun (t := 65) rfl rfl rfl (.u (.fieldAddr rfl fo_43_4) (.grun (t := 65) rfl rfl rfl (.u (.ld rfl ag_3) (.grun (t := 65) rfl rfl rfl (.q (.as (v' := .bool true) (by exact congrArg Value.bool (decide_eq_true (congrArg Pt.own hy2))) (.int rfl rfl rfl)) rfl (.u (.pickT rfl rfl) (.an rfl (.sr (.u (.fieldAddr rfl fo_43_6) (.u (.ld rfl ag_40) (.q (.as (v' := .bool true) (by exact congrArg Value.bool (decide_eq_true (congrArg Pt.err hy3))) (.int rfl rfl rfl)) rfl ?_)))))))))))))))))))))))
 refine .m rfl (.grun (t := 73) rfl rfl rfl (.u (.fieldAddr rfl fo_43_5) (.grun (t := 73) rfl rfl rfl (.u (.ld rfl ag_3) (.grun (t := 73) rfl rfl rfl (.q (.as (v' := .bool true) (by exact congrArg Value.bool (decide_eq_true (congrArg Pt.num hy3))) (.int rfl rfl rfl)) rfl (.u (.pickT rfl rfl) (.m rfl (.grun (t := 78) rfl rfl rfl (.u (.fieldAddr rfl fo_43_0) (.grun (t := 78) rfl rfl rfl (.u (.ld rfl ag_3) (.grun (t := 78) rfl rfl rfl (.q (.as (v' := .bool true) (by exact congrArg Value.bool (decide_eq_true (congrArg Pt.kind hy4))) (.int rfl rfl rfl)) rfl (.u (.pickT rfl rfl) (.m rfl (.grun (t := 83) rfl rfl rfl (.u (.fieldAddr rfl fo_43_6) (.grun (t := 83) rfl rfl rfl (.u (.ld rfl ag_40) (.grun (t := 83) rfl rfl rfl (.q (.as (v' := .bool true) (by exact congrArg Value.bool (decide_eq_true (congrArg Pt.err hy4))) (.int rfl rfl rfl)) rfl (.u (.pickT rfl rfl) (.m rfl (.grun (t := 88) rfl rfl rfl (.u (.fieldAddr rfl fo_43_5) (.grun (t := 88) rfl rfl rfl ?_)))))))))))))))))))))))))))
 refine .u (.ld rfl ag_3) (.grun (t := 88) rfl rfl rfl (.q (.as (v' := .bool true) (by exact congrArg Value.bool (decide_eq_true (congrArg Pt.num hy4))) (.int rfl rfl rfl)) rfl (.u (.pickT rfl rfl) (.an rfl (.sm rfl (.m rfl (.grun (t := 94) rfl rfl rfl (.m rfl (.u (.pickT rfl rfl) (.m rfl (.grun (t := 97) rfl rfl rfl (.u (.fieldAddr rfl fo_57_0) (.grun (t := 97) rfl rfl rfl (.u (.ld rfl ag_3) (.grun (t := 97) rfl rfl rfl (.q (.as (v' := .bool true) (by exact congrArg Value.bool (decide_eq_true (rfl))) (.int rfl rfl rfl)) rfl (.u (.pickT rfl rfl) (.m rfl (.grun (t := 102) rfl rfl rfl (.u (.fieldAddr rfl fo_57_1) (.grun (t := 102) rfl rfl rfl (.u (.ld rfl ag_3) (.grun (t := 102) rfl rfl rfl (.q (.as (v' := .bool true) (by exact congrArg Value.bool (decide_eq_true (rfl))) (.int rfl rfl rfl)) rfl ?_))))))))))))))))))))))))
 refine .u (.pickT rfl rfl) (.m rfl (.grun (t := 107) rfl rfl rfl (.u (.fieldAddr rfl fo_57_2) (.grun (t := 107) rfl rfl rfl (.u (.ld rfl ag_40) (.grun (t := 107) rfl rfl rfl (.q (.as (v' := .bool true) (by exact congrArg Value.bool (decide_eq_true (by show (if y4.kind = 8 then y4.err else 0) = 60; rw [if_pos (show y4.kind = 8 from congrArg Pt.kind hy4)]; exact congrArg Pt.err hy4))) (.int rfl rfl rfl)) rfl (.u (.pickT rfl rfl) (.m rfl (.grun (t := 112) rfl rfl rfl (.u (.fieldAddr rfl fo_57_8) (.grun (t := 112) rfl rfl rfl (.u (.ld rfl ag_55) (.grun (t := 112) rfl rfl rfl (.q (.slen rfl Tryz.underlying55 rfl) rfl (.grun (t := 112) rfl rfl rfl (.q (.as (v' := .bool true) (by exact congrArg Value.bool (decide_eq_true (rfl))) (.int rfl rfl rfl)) rfl (.u (.pickT rfl rfl) (.m rfl (.grun (t := 118) rfl rfl rfl (.u (.fieldAddr rfl fo_57_8) (.grun (t := 118) rfl rfl rfl (.u (.ld rfl ag_55) (.grun (t := 118) rfl rfl rfl (.q (.indexAddr rfl rfl el_55 (by omega)) rfl ?_)))))))))))))))))))))))))
 refine .grun (t := 118) rfl rfl rfl (.u (.fieldAddr rfl fo_57_2) (.grun (t := 118) rfl rfl rfl (.q (.loadRd (sz := 17) (j := 2) (ys := ([errR 111, errR 111, errR 60] : List Rp).flatMap rpC) (p := slR 57 17 (.slice (some ⟨bw, ow, none⟩) 3 cw) 3 ([errR 111, errR 111, errR 60].flatMap rpC)) (v := vint 111) rfl ag_40 (by repeat' constructor) (fun _ => slR_rd) (by simp; try omega) rfl) rfl (.grun (t := 118) rfl rfl rfl (.q (.as (v' := .bool true) (by exact congrArg Value.bool (decide_eq_true (rfl))) (.int rfl rfl rfl)) rfl (.u (.pickT rfl rfl) (.m rfl (.grun (t := 126) rfl rfl rfl (.u (.fieldAddr rfl fo_57_8) (.grun (t := 126) rfl rfl rfl (.u (.ld rfl ag_55) (.grun (t := 126) rfl rfl rfl (.q (.indexAddr rfl rfl el_55 (by omega)) rfl (.grun (t := 126) rfl rfl rfl (.u (.fieldAddr rfl fo_57_2) (.grun (t := 126) rfl rfl rfl (.q (.loadRd (sz := 17) (j := 36) (ys := ([errR 111, errR 111, errR 60] : List Rp).flatMap rpC) (p := slR 57 17 (.slice (some ⟨bw, ow, none⟩) 3 cw) 3 ([errR 111, errR 111, errR 60].flatMap rpC)) (v := vint 60) rfl ag_40 (by repeat' constructor) (fun _ => slR_rd) (by simp; try omega) rfl) rfl ?_)))))))))))))))))
 refine .grun (t := 126) rfl rfl rfl (.q (.as (v' := .bool true) (by exact congrArg Value.bool (decide_eq_true (rfl))) (.int rfl rfl rfl)) rfl (.u (.pickT rfl rfl) (.a rfl (.nil (.focus (p := (sep [slR 28 10 (.slice (some ⟨bs, 0, none⟩) 3 3) 3 ([rqD1 (.slice (some ⟨ba, 0, none⟩) 1 1), rqD2, rqD3].flatMap rqC), (sep [slR 85 2 (.slice (some ⟨ba, 0, none⟩) 1 1) 1 (acl31.flatMap acC), T0])])) (by repeat' constructor) (.unfold (q := [slR 28 10 (.slice (some ⟨bs, 0, none⟩) 3 3) 3 ([rqD1 (.slice (some ⟨ba, 0, none⟩) 1 1), rqD2, rqD3].flatMap rqC), (sep [slR 85 2 (.slice (some ⟨ba, 0, none⟩) 1 1) 1 (acl31.flatMap acC), T0])]) (fun _ h => h) (.focus (p := (sep [slR 85 2 (.slice (some ⟨ba, 0, none⟩) 1 1) 1 (acl31.flatMap acC), T0])) (by repeat' constructor) (.unfold (q := [slR 85 2 (.slice (some ⟨ba, 0, none⟩) 1 1) 1 (acl31.flatMap acC), T0]) (fun _ h => h) (.then_n (.ret ?_))))))))))
 exact .vv
def segsZ : Bs → List Bs
 | [] => []
 | _ :: r => splitZ r
def okZ (s : Bs) : Bool := decide (s.head? = some 47) && (segsZ s).all isNameZ
theorem seg_step {r : Bs} {k : Nat} (hk : k ≤ r.length) (h1 : ∀ j, j < k → r.getD j 0 ≠ 47) (h2 : k = r.length ∨ r.getD k 0 = 47) : splitZ r = r.take k :: segsZ (r.drop k) := by
 have hno : (47 : UInt8) ∉ r.take k := fun hm => by
  obtain ⟨i, hi, e⟩ := List.mem_iff_getElem.1 hm
  rw [List.length_take] at hi
  rw [List.getElem_take] at e
  refine h1 i (by omega) ?_
  rw [List.getD_eq_getElem?_getD, List.getElem?_eq_getElem (by omega), Option.getD_some]; exact e
 rcases Nat.lt_or_ge k r.length with hlt | hge
 ·have h3 : r[k] = 47 := by
   rcases h2 with h2 | h2
   ·omega
   ·rw [List.getD_eq_getElem?_getD, List.getElem?_eq_getElem hlt, Option.getD_some] at h2; exact h2
  have e : r = r.take k ++ 47 :: r.drop (k + 1) := by
   have := (List.take_append_drop k r).symm
   rw [List.drop_eq_getElem_cons hlt, h3] at this; exact this
  have e2 : r.drop k = 47 :: r.drop (k + 1) := by rw [List.drop_eq_getElem_cons hlt, h3]
  rw [e2]
  conv => lhs; rw [e]
  exact split_at hno
 ·have : k = r.length := by omega
  subst this
  rw [List.take_length] at hno ⊢
  rw [List.drop_length, split_none hno]; rfl
theorem check_ok {p : Bs} (h1 : p ≠ [47]) : checkZ p = if okZ p = true then (if p.length > 60 ∨ (segsZ p).length > 6 then 41 else 0) else 40 := by
 unfold checkZ
 rw [if_neg h1]
 cases p with
 | nil => decide
 | cons c r =>
  by_cases hc : c = 47
  ·subst hc
   have e : splitZ (47 :: r) = [] :: splitZ r := by rw [split_cons, if_pos rfl]
   have hne := splitZ_ne r
   rw [e]
   unfold okZ
   rw [show segsZ (47 :: r) = splitZ r from rfl]
   by_cases ha : (splitZ r).all isNameZ = true
   ·rw [if_neg, ha, if_pos (show (decide ((47 :: r).head? = some 47) && true) = true from by simp)]
    ·have e7 : ([] :: splitZ r).length = (splitZ r).length + 1 := rfl
     by_cases h60 : (47 :: r).length > 60 ∨ (splitZ r).length > 6
     ·rw [if_pos h60, if_pos (by rw [e7]; omega)]
     ·rw [if_neg h60, if_neg (by rw [e7]; omega)]
    ·simp only [List.head?_cons, List.tail_cons, List.length_cons]
     rintro (g | g | g)
     ·exact g rfl
     ·exact hne (List.eq_nil_of_length_eq_zero (by omega))
     ·rw [ha] at g; cases g
   ·rw [if_pos (.inr (.inr (by rw [List.tail_cons]; simpa using ha))), if_neg]
    simp; simpa using ha
  ·rw [if_pos, if_neg]
   ·unfold okZ; simp [hc]
   ·left
    rw [split_cons, if_neg hc]
    rcases e : splitZ r with _ | ⟨h, t⟩ <;> simp
theorem rletter_spec (c : UInt8) : Fn Tryz.prog 191 #[vbyte c] [] fun v L => v = .bool (letterB c) ∧ L = [] := by
 refine Fn.intro Tryz.func191 rfl rfl fun F W => ?_
 refine .sr (.an rfl (.sm rfl (.ui rfl rfl rfl (.m rfl (.dec (t := 5) rfl (fun h1_5 => ?_) (fun h1_5 => ?_))))))
 ·refine .kDT (t := 4) rfl h1_5 (.grun (t := 5) rfl rfl rfl (.m rfl (.grun (t := 5) rfl rfl rfl (.ui rfl rfl rfl (.u (.pickT rfl rfl) (.m rfl (.dec (t := 9) rfl (fun h1_9 => ?_) (fun h1_9 => ?_))))))))
  ·refine .kDT (t := 7) rfl h1_9 (.kDT (t := 8) rfl h1_9 (.gk (.gk (.gk (.gskipU (t := 12) rfl rfl rfl (.gskipU (t := 12) rfl rfl rfl (.gk (.u (.pickT rfl rfl) (.m rfl (.gk (.gk (.gk (.gskipU (t := 20) rfl rfl rfl (.gskipU (t := 20) rfl rfl rfl (.gk (.u (.pickT rfl rfl) (.m rfl (.gk (.gk (.u (.pickT rfl rfl) (.m rfl (.gk (.gk (.u (.pickT rfl rfl) (.m rfl (.gk (.gk (.u (.pickT rfl rfl) (.an rfl (.ret ?_))))))))))))))))))))))))))))))
   exact .dn rfl rfl ⟨by first | (rw [letter_of (by omega)]; done) | (rcases Decidable.em ((c.toNat : Int) = 46) with hd | hd; (rw [decide_eq_true hd, letter_of (by omega)]); (rw [decide_eq_false hd, letter_not (by omega)])), rfl⟩
  refine .kDF (t := 7) rfl h1_9 (.kDF (t := 8) rfl h1_9 (.grun (t := 9) rfl rfl rfl (.m rfl (.grun (t := 9) rfl rfl rfl (.ui rfl rfl rfl (.grun (t := 9) rfl rfl rfl (.m rfl (.dec (t := 12) rfl (fun h1_12 => ?_) (fun h1_12 => ?_)))))))))
  ·refine .kDT (t := 11) rfl h1_12 (.grun (t := 12) rfl rfl rfl (.m rfl (.grun (t := 12) rfl rfl rfl (.ui rfl rfl rfl (.grun (t := 9) rfl rfl rfl (.u (.pickT rfl rfl) (.u (.pickF rfl rfl) (.m rfl (.dec (t := 17) rfl (fun h1_17 => ?_) (fun h1_17 => ?_))))))))))
   ·refine .kDT (t := 14) rfl h1_17 (.kDT (t := 15) rfl h1_17 (.kDT (t := 16) rfl h1_17 (.gk (.gk (.gk (.gskipU (t := 20) rfl rfl rfl (.gskipU (t := 20) rfl rfl rfl (.gk (.u (.pickT rfl rfl) (.m rfl (.gk (.gk (.u (.pickT rfl rfl) (.m rfl (.gk (.gk (.u (.pickT rfl rfl) (.m rfl (.gk (.gk (.u (.pickT rfl rfl) (.an rfl (.ret ?_)))))))))))))))))))))))
    exact .dn rfl rfl ⟨by first | (rw [letter_of (by omega)]; done) | (rcases Decidable.em ((c.toNat : Int) = 46) with hd | hd; (rw [decide_eq_true hd, letter_of (by omega)]); (rw [decide_eq_false hd, letter_not (by omega)])), rfl⟩
   refine .kDF (t := 14) rfl h1_17 (.kDF (t := 15) rfl h1_17 (.kDF (t := 16) rfl h1_17 (.grun (t := 17) rfl rfl rfl (.m rfl (.grun (t := 17) rfl rfl rfl (.ui rfl rfl rfl (.grun (t := 17) rfl rfl rfl (.m rfl (.dec (t := 20) rfl (fun h1_20 => ?_) (fun h1_20 => ?_))))))))))
   ·refine .kDT (t := 19) rfl h1_20 (.grun (t := 20) rfl rfl rfl (.m rfl (.grun (t := 20) rfl rfl rfl (.ui rfl rfl rfl (.grun (t := 17) rfl rfl rfl (.u (.pickT rfl rfl) (.u (.pickF rfl rfl) (.m rfl (.dec (t := 25) rfl (fun h1_25 => ?_) (fun h1_25 => ?_))))))))))
    ·refine .kDT (t := 22) rfl h1_25 (.kDT (t := 23) rfl h1_25 (.kDT (t := 24) rfl h1_25 (.gk (.gk (.u (.pickT rfl rfl) (.m rfl (.gk (.gk (.u (.pickT rfl rfl) (.m rfl (.gk (.gk (.u (.pickT rfl rfl) (.an rfl (.ret ?_)))))))))))))))
     exact .dn rfl rfl ⟨by first | (rw [letter_of (by omega)]; done) | (rcases Decidable.em ((c.toNat : Int) = 46) with hd | hd; (rw [decide_eq_true hd, letter_of (by omega)]); (rw [decide_eq_false hd, letter_not (by omega)])), rfl⟩
    refine .kDF (t := 22) rfl h1_25 (.kDF (t := 23) rfl h1_25 (.kDF (t := 24) rfl h1_25 (.grun (t := 25) rfl rfl rfl (.m rfl (.grun (t := 25) rfl rfl rfl (.ui rfl rfl rfl (.u (.pickF rfl rfl) (.m rfl (.dec (t := 29) rfl (fun h1_29 => ?_) (fun h1_29 => ?_))))))))))
    ·refine .kDT (t := 27) rfl h1_29 (.kDT (t := 28) rfl h1_29 (.gk (.gk (.u (.pickT rfl rfl) (.m rfl (.gk (.gk (.u (.pickT rfl rfl) (.an rfl (.ret ?_))))))))))
     exact .dn rfl rfl ⟨by first | (rw [letter_of (by omega)]; done) | (rcases Decidable.em ((c.toNat : Int) = 46) with hd | hd; (rw [decide_eq_true hd, letter_of (by omega)]); (rw [decide_eq_false hd, letter_not (by omega)])), rfl⟩
    refine .kDF (t := 27) rfl h1_29 (.kDF (t := 28) rfl h1_29 (.grun (t := 29) rfl rfl rfl (.m rfl (.grun (t := 29) rfl rfl rfl (.ui rfl rfl rfl (.u (.pickF rfl rfl) (.m rfl (.dec (t := 33) rfl (fun h1_33 => ?_) (fun h1_33 => ?_)))))))))
    ·refine .kDT (t := 31) rfl h1_33 (.kDT (t := 32) rfl h1_33 (.gk (.gk (.u (.pickT rfl rfl) (.an rfl (.ret ?_))))))
     exact .dn rfl rfl ⟨by first | (rw [letter_of (by omega)]; done) | (rcases Decidable.em ((c.toNat : Int) = 46) with hd | hd; (rw [decide_eq_true hd, letter_of (by omega)]); (rw [decide_eq_false hd, letter_not (by omega)])), rfl⟩
    refine .kDF (t := 31) rfl h1_33 (.kDF (t := 32) rfl h1_33 (.grun (t := 33) rfl rfl rfl (.m rfl (.grun (t := 33) rfl rfl rfl (.ui rfl rfl rfl (.u (.pickF rfl rfl) (.an rfl (.ret ?_))))))))
    exact .dn rfl rfl ⟨by first | (rw [letter_of (by omega)]; done) | (rcases Decidable.em ((c.toNat : Int) = 46) with hd | hd; (rw [decide_eq_true hd, letter_of (by omega)]); (rw [decide_eq_false hd, letter_not (by omega)])), rfl⟩
   refine .kDF (t := 19) rfl h1_20 (.gk (.gk (.grun (t := 17) rfl rfl rfl (.u (.pickF rfl rfl) (.u (.pickF rfl rfl) (.m rfl (.grun (t := 25) rfl rfl rfl (.m rfl (.grun (t := 25) rfl rfl rfl (.ui rfl rfl rfl (.u (.pickF rfl rfl) (.m rfl (.dec (t := 29) rfl (fun h1_29 => ?_) (fun h1_29 => ?_))))))))))))))
   ·refine .kDT (t := 27) rfl h1_29 (.kDT (t := 28) rfl h1_29 (.gk (.gk (.u (.pickT rfl rfl) (.m rfl (.gk (.gk (.u (.pickT rfl rfl) (.an rfl (.ret ?_))))))))))
    exact .dn rfl rfl ⟨by first | (rw [letter_of (by omega)]; done) | (rcases Decidable.em ((c.toNat : Int) = 46) with hd | hd; (rw [decide_eq_true hd, letter_of (by omega)]); (rw [decide_eq_false hd, letter_not (by omega)])), rfl⟩
   refine .kDF (t := 27) rfl h1_29 (.kDF (t := 28) rfl h1_29 (.grun (t := 29) rfl rfl rfl (.m rfl (.grun (t := 29) rfl rfl rfl (.ui rfl rfl rfl (.u (.pickF rfl rfl) (.m rfl (.dec (t := 33) rfl (fun h1_33 => ?_) (fun h1_33 => ?_)))))))))
   ·refine .kDT (t := 31) rfl h1_33 (.kDT (t := 32) rfl h1_33 (.gk (.gk (.u (.pickT rfl rfl) (.an rfl (.ret ?_))))))
    exact .dn rfl rfl ⟨by first | (rw [letter_of (by omega)]; done) | (rcases Decidable.em ((c.toNat : Int) = 46) with hd | hd; (rw [decide_eq_true hd, letter_of (by omega)]); (rw [decide_eq_false hd, letter_not (by omega)])), rfl⟩
   refine .kDF (t := 31) rfl h1_33 (.kDF (t := 32) rfl h1_33 (.grun (t := 33) rfl rfl rfl (.m rfl (.grun (t := 33) rfl rfl rfl (.ui rfl rfl rfl (.u (.pickF rfl rfl) (.an rfl (.ret ?_))))))))
   exact .dn rfl rfl ⟨by first | (rw [letter_of (by omega)]; done) | (rcases Decidable.em ((c.toNat : Int) = 46) with hd | hd; (rw [decide_eq_true hd, letter_of (by omega)]); (rw [decide_eq_false hd, letter_not (by omega)])), rfl⟩
  refine .kDF (t := 11) rfl h1_12 (.gk (.gk (.grun (t := 9) rfl rfl rfl (.u (.pickF rfl rfl) (.u (.pickF rfl rfl) (.m rfl (.grun (t := 17) rfl rfl rfl (.m rfl (.grun (t := 17) rfl rfl rfl (.ui rfl rfl rfl (.grun (t := 17) rfl rfl rfl (.m rfl (.dec (t := 20) rfl (fun h1_20 => ?_) (fun h1_20 => ?_))))))))))))))
  ·refine .kDT (t := 19) rfl h1_20 (.grun (t := 20) rfl rfl rfl (.m rfl (.grun (t := 20) rfl rfl rfl (.ui rfl rfl rfl (.grun (t := 17) rfl rfl rfl (.u (.pickT rfl rfl) (.u (.pickF rfl rfl) (.m rfl (.dec (t := 25) rfl (fun h1_25 => ?_) (fun h1_25 => ?_))))))))))
   ·refine .kDT (t := 22) rfl h1_25 (.kDT (t := 23) rfl h1_25 (.kDT (t := 24) rfl h1_25 (.gk (.gk (.u (.pickT rfl rfl) (.m rfl (.gk (.gk (.u (.pickT rfl rfl) (.m rfl (.gk (.gk (.u (.pickT rfl rfl) (.an rfl (.ret ?_)))))))))))))))
    exact .dn rfl rfl ⟨by first | (rw [letter_of (by omega)]; done) | (rcases Decidable.em ((c.toNat : Int) = 46) with hd | hd; (rw [decide_eq_true hd, letter_of (by omega)]); (rw [decide_eq_false hd, letter_not (by omega)])), rfl⟩
   refine .kDF (t := 22) rfl h1_25 (.kDF (t := 23) rfl h1_25 (.kDF (t := 24) rfl h1_25 (.grun (t := 25) rfl rfl rfl (.m rfl (.grun (t := 25) rfl rfl rfl (.ui rfl rfl rfl (.u (.pickF rfl rfl) (.m rfl (.dec (t := 29) rfl (fun h1_29 => ?_) (fun h1_29 => ?_))))))))))
   ·refine .kDT (t := 27) rfl h1_29 (.kDT (t := 28) rfl h1_29 (.gk (.gk (.u (.pickT rfl rfl) (.m rfl (.gk (.gk (.u (.pickT rfl rfl) (.an rfl (.ret ?_))))))))))
    exact .dn rfl rfl ⟨by first | (rw [letter_of (by omega)]; done) | (rcases Decidable.em ((c.toNat : Int) = 46) with hd | hd; (rw [decide_eq_true hd, letter_of (by omega)]); (rw [decide_eq_false hd, letter_not (by omega)])), rfl⟩
   refine .kDF (t := 27) rfl h1_29 (.kDF (t := 28) rfl h1_29 (.grun (t := 29) rfl rfl rfl (.m rfl (.grun (t := 29) rfl rfl rfl (.ui rfl rfl rfl (.u (.pickF rfl rfl) (.m rfl (.dec (t := 33) rfl (fun h1_33 => ?_) (fun h1_33 => ?_)))))))))
   ·refine .kDT (t := 31) rfl h1_33 (.kDT (t := 32) rfl h1_33 (.gk (.gk (.u (.pickT rfl rfl) (.an rfl (.ret ?_))))))
    exact .dn rfl rfl ⟨by first | (rw [letter_of (by omega)]; done) | (rcases Decidable.em ((c.toNat : Int) = 46) with hd | hd; (rw [decide_eq_true hd, letter_of (by omega)]); (rw [decide_eq_false hd, letter_not (by omega)])), rfl⟩
   refine .kDF (t := 31) rfl h1_33 (.kDF (t := 32) rfl h1_33 (.grun (t := 33) rfl rfl rfl (.m rfl (.grun (t := 33) rfl rfl rfl (.ui rfl rfl rfl (.u (.pickF rfl rfl) (.an rfl (.ret ?_))))))))
   exact .dn rfl rfl ⟨by first | (rw [letter_of (by omega)]; done) | (rcases Decidable.em ((c.toNat : Int) = 46) with hd | hd; (rw [decide_eq_true hd, letter_of (by omega)]); (rw [decide_eq_false hd, letter_not (by omega)])), rfl⟩
  refine .kDF (t := 19) rfl h1_20 (.gk (.gk (.grun (t := 17) rfl rfl rfl (.u (.pickF rfl rfl) (.u (.pickF rfl rfl) (.m rfl (.grun (t := 25) rfl rfl rfl (.m rfl (.grun (t := 25) rfl rfl rfl (.ui rfl rfl rfl (.u (.pickF rfl rfl) (.m rfl (.dec (t := 29) rfl (fun h1_29 => ?_) (fun h1_29 => ?_))))))))))))))
  ·refine .kDT (t := 27) rfl h1_29 (.kDT (t := 28) rfl h1_29 (.gk (.gk (.u (.pickT rfl rfl) (.m rfl (.gk (.gk (.u (.pickT rfl rfl) (.an rfl (.ret ?_))))))))))
   exact .dn rfl rfl ⟨by first | (rw [letter_of (by omega)]; done) | (rcases Decidable.em ((c.toNat : Int) = 46) with hd | hd; (rw [decide_eq_true hd, letter_of (by omega)]); (rw [decide_eq_false hd, letter_not (by omega)])), rfl⟩
  refine .kDF (t := 27) rfl h1_29 (.kDF (t := 28) rfl h1_29 (.grun (t := 29) rfl rfl rfl (.m rfl (.grun (t := 29) rfl rfl rfl (.ui rfl rfl rfl (.u (.pickF rfl rfl) (.m rfl (.dec (t := 33) rfl (fun h1_33 => ?_) (fun h1_33 => ?_)))))))))
  ·refine .kDT (t := 31) rfl h1_33 (.kDT (t := 32) rfl h1_33 (.gk (.gk (.u (.pickT rfl rfl) (.an rfl (.ret ?_))))))
   exact .dn rfl rfl ⟨by first | (rw [letter_of (by omega)]; done) | (rcases Decidable.em ((c.toNat : Int) = 46) with hd | hd; (rw [decide_eq_true hd, letter_of (by omega)]); (rw [decide_eq_false hd, letter_not (by omega)])), rfl⟩
  refine .kDF (t := 31) rfl h1_33 (.kDF (t := 32) rfl h1_33 (.grun (t := 33) rfl rfl rfl (.m rfl (.grun (t := 33) rfl rfl rfl (.ui rfl rfl rfl (.u (.pickF rfl rfl) (.an rfl (.ret ?_))))))))
  exact .dn rfl rfl ⟨by first | (rw [letter_of (by omega)]; done) | (rcases Decidable.em ((c.toNat : Int) = 46) with hd | hd; (rw [decide_eq_true hd, letter_of (by omega)]); (rw [decide_eq_false hd, letter_not (by omega)])), rfl⟩
 refine .kDF (t := 4) rfl h1_5 (.gk (.gk (.u (.pickF rfl rfl) (.m rfl (.grun (t := 9) rfl rfl rfl (.m rfl (.grun (t := 9) rfl rfl rfl (.ui rfl rfl rfl (.grun (t := 9) rfl rfl rfl (.m rfl (.dec (t := 12) rfl (fun h1_12 => ?_) (fun h1_12 => ?_))))))))))))
 ·refine .kDT (t := 11) rfl h1_12 (.grun (t := 12) rfl rfl rfl (.m rfl (.grun (t := 12) rfl rfl rfl (.ui rfl rfl rfl (.grun (t := 9) rfl rfl rfl (.u (.pickT rfl rfl) (.u (.pickF rfl rfl) (.m rfl (.dec (t := 17) rfl (fun h1_17 => ?_) (fun h1_17 => ?_))))))))))
  ·refine .kDT (t := 14) rfl h1_17 (.kDT (t := 15) rfl h1_17 (.kDT (t := 16) rfl h1_17 (.gk (.gk (.gk (.gskipU (t := 20) rfl rfl rfl (.gskipU (t := 20) rfl rfl rfl (.gk (.u (.pickT rfl rfl) (.m rfl (.gk (.gk (.u (.pickT rfl rfl) (.m rfl (.gk (.gk (.u (.pickT rfl rfl) (.m rfl (.gk (.gk (.u (.pickT rfl rfl) (.an rfl (.ret ?_)))))))))))))))))))))))
   exact .dn rfl rfl ⟨by first | (rw [letter_of (by omega)]; done) | (rcases Decidable.em ((c.toNat : Int) = 46) with hd | hd; (rw [decide_eq_true hd, letter_of (by omega)]); (rw [decide_eq_false hd, letter_not (by omega)])), rfl⟩
  refine .kDF (t := 14) rfl h1_17 (.kDF (t := 15) rfl h1_17 (.kDF (t := 16) rfl h1_17 (.grun (t := 17) rfl rfl rfl (.m rfl (.grun (t := 17) rfl rfl rfl (.ui rfl rfl rfl (.grun (t := 17) rfl rfl rfl (.m rfl (.dec (t := 20) rfl (fun h1_20 => ?_) (fun h1_20 => ?_))))))))))
  ·refine .kDT (t := 19) rfl h1_20 (.grun (t := 20) rfl rfl rfl (.m rfl (.grun (t := 20) rfl rfl rfl (.ui rfl rfl rfl (.grun (t := 17) rfl rfl rfl (.u (.pickT rfl rfl) (.u (.pickF rfl rfl) (.m rfl (.dec (t := 25) rfl (fun h1_25 => ?_) (fun h1_25 => ?_))))))))))
   ·refine .kDT (t := 22) rfl h1_25 (.kDT (t := 23) rfl h1_25 (.kDT (t := 24) rfl h1_25 (.gk (.gk (.u (.pickT rfl rfl) (.m rfl (.gk (.gk (.u (.pickT rfl rfl) (.m rfl (.gk (.gk (.u (.pickT rfl rfl) (.an rfl (.ret ?_)))))))))))))))
    exact .dn rfl rfl ⟨by first | (rw [letter_of (by omega)]; done) | (rcases Decidable.em ((c.toNat : Int) = 46) with hd | hd; (rw [decide_eq_true hd, letter_of (by omega)]); (rw [decide_eq_false hd, letter_not (by omega)])), rfl⟩
   refine .kDF (t := 22) rfl h1_25 (.kDF (t := 23) rfl h1_25 (.kDF (t := 24) rfl h1_25 (.grun (t := 25) rfl rfl rfl (.m rfl (.grun (t := 25) rfl rfl rfl (.ui rfl rfl rfl (.u (.pickF rfl rfl) (.m rfl (.dec (t := 29) rfl (fun h1_29 => ?_) (fun h1_29 => ?_))))))))))
   ·refine .kDT (t := 27) rfl h1_29 (.kDT (t := 28) rfl h1_29 (.gk (.gk (.u (.pickT rfl rfl) (.m rfl (.gk (.gk (.u (.pickT rfl rfl) (.an rfl (.ret ?_))))))))))
    exact .dn rfl rfl ⟨by first | (rw [letter_of (by omega)]; done) | (rcases Decidable.em ((c.toNat : Int) = 46) with hd | hd; (rw [decide_eq_true hd, letter_of (by omega)]); (rw [decide_eq_false hd, letter_not (by omega)])), rfl⟩
   refine .kDF (t := 27) rfl h1_29 (.kDF (t := 28) rfl h1_29 (.grun (t := 29) rfl rfl rfl (.m rfl (.grun (t := 29) rfl rfl rfl (.ui rfl rfl rfl (.u (.pickF rfl rfl) (.m rfl (.dec (t := 33) rfl (fun h1_33 => ?_) (fun h1_33 => ?_)))))))))
   ·refine .kDT (t := 31) rfl h1_33 (.kDT (t := 32) rfl h1_33 (.gk (.gk (.u (.pickT rfl rfl) (.an rfl (.ret ?_))))))
    exact .dn rfl rfl ⟨by first | (rw [letter_of (by omega)]; done) | (rcases Decidable.em ((c.toNat : Int) = 46) with hd | hd; (rw [decide_eq_true hd, letter_of (by omega)]); (rw [decide_eq_false hd, letter_not (by omega)])), rfl⟩
   refine .kDF (t := 31) rfl h1_33 (.kDF (t := 32) rfl h1_33 (.grun (t := 33) rfl rfl rfl (.m rfl (.grun (t := 33) rfl rfl rfl (.ui rfl rfl rfl (.u (.pickF rfl rfl) (.an rfl (.ret ?_))))))))
   exact .dn rfl rfl ⟨by first | (rw [letter_of (by omega)]; done) | (rcases Decidable.em ((c.toNat : Int) = 46) with hd | hd; (rw [decide_eq_true hd, letter_of (by omega)]); (rw [decide_eq_false hd, letter_not (by omega)])), rfl⟩
  refine .kDF (t := 19) rfl h1_20 (.gk (.gk (.grun (t := 17) rfl rfl rfl (.u (.pickF rfl rfl) (.u (.pickF rfl rfl) (.m rfl (.grun (t := 25) rfl rfl rfl (.m rfl (.grun (t := 25) rfl rfl rfl (.ui rfl rfl rfl (.u (.pickF rfl rfl) (.m rfl (.dec (t := 29) rfl (fun h1_29 => ?_) (fun h1_29 => ?_))))))))))))))
  ·refine .kDT (t := 27) rfl h1_29 (.kDT (t := 28) rfl h1_29 (.gk (.gk (.u (.pickT rfl rfl) (.m rfl (.gk (.gk (.u (.pickT rfl rfl) (.an rfl (.ret ?_))))))))))
   exact .dn rfl rfl ⟨by first | (rw [letter_of (by omega)]; done) | (rcases Decidable.em ((c.toNat : Int) = 46) with hd | hd; (rw [decide_eq_true hd, letter_of (by omega)]); (rw [decide_eq_false hd, letter_not (by omega)])), rfl⟩
  refine .kDF (t := 27) rfl h1_29 (.kDF (t := 28) rfl h1_29 (.grun (t := 29) rfl rfl rfl (.m rfl (.grun (t := 29) rfl rfl rfl (.ui rfl rfl rfl (.u (.pickF rfl rfl) (.m rfl (.dec (t := 33) rfl (fun h1_33 => ?_) (fun h1_33 => ?_)))))))))
  ·refine .kDT (t := 31) rfl h1_33 (.kDT (t := 32) rfl h1_33 (.gk (.gk (.u (.pickT rfl rfl) (.an rfl (.ret ?_))))))
   exact .dn rfl rfl ⟨by first | (rw [letter_of (by omega)]; done) | (rcases Decidable.em ((c.toNat : Int) = 46) with hd | hd; (rw [decide_eq_true hd, letter_of (by omega)]); (rw [decide_eq_false hd, letter_not (by omega)])), rfl⟩
  refine .kDF (t := 31) rfl h1_33 (.kDF (t := 32) rfl h1_33 (.grun (t := 33) rfl rfl rfl (.m rfl (.grun (t := 33) rfl rfl rfl (.ui rfl rfl rfl (.u (.pickF rfl rfl) (.an rfl (.ret ?_))))))))
  exact .dn rfl rfl ⟨by first | (rw [letter_of (by omega)]; done) | (rcases Decidable.em ((c.toNat : Int) = 46) with hd | hd; (rw [decide_eq_true hd, letter_of (by omega)]); (rw [decide_eq_false hd, letter_not (by omega)])), rfl⟩
 refine .kDF (t := 11) rfl h1_12 (.gk (.gk (.grun (t := 9) rfl rfl rfl (.u (.pickF rfl rfl) (.u (.pickF rfl rfl) (.m rfl (.grun (t := 17) rfl rfl rfl (.m rfl (.grun (t := 17) rfl rfl rfl (.ui rfl rfl rfl (.grun (t := 17) rfl rfl rfl (.m rfl (.dec (t := 20) rfl (fun h1_20 => ?_) (fun h1_20 => ?_))))))))))))))
 ·refine .kDT (t := 19) rfl h1_20 (.grun (t := 20) rfl rfl rfl (.m rfl (.grun (t := 20) rfl rfl rfl (.ui rfl rfl rfl (.grun (t := 17) rfl rfl rfl (.u (.pickT rfl rfl) (.u (.pickF rfl rfl) (.m rfl (.dec (t := 25) rfl (fun h1_25 => ?_) (fun h1_25 => ?_))))))))))
  ·refine .kDT (t := 22) rfl h1_25 (.kDT (t := 23) rfl h1_25 (.kDT (t := 24) rfl h1_25 (.gk (.gk (.u (.pickT rfl rfl) (.m rfl (.gk (.gk (.u (.pickT rfl rfl) (.m rfl (.gk (.gk (.u (.pickT rfl rfl) (.an rfl (.ret ?_)))))))))))))))
   exact .dn rfl rfl ⟨by first | (rw [letter_of (by omega)]; done) | (rcases Decidable.em ((c.toNat : Int) = 46) with hd | hd; (rw [decide_eq_true hd, letter_of (by omega)]); (rw [decide_eq_false hd, letter_not (by omega)])), rfl⟩
  refine .kDF (t := 22) rfl h1_25 (.kDF (t := 23) rfl h1_25 (.kDF (t := 24) rfl h1_25 (.grun (t := 25) rfl rfl rfl (.m rfl (.grun (t := 25) rfl rfl rfl (.ui rfl rfl rfl (.u (.pickF rfl rfl) (.m rfl (.dec (t := 29) rfl (fun h1_29 => ?_) (fun h1_29 => ?_))))))))))
  ·refine .kDT (t := 27) rfl h1_29 (.kDT (t := 28) rfl h1_29 (.gk (.gk (.u (.pickT rfl rfl) (.m rfl (.gk (.gk (.u (.pickT rfl rfl) (.an rfl (.ret ?_))))))))))
   exact .dn rfl rfl ⟨by first | (rw [letter_of (by omega)]; done) | (rcases Decidable.em ((c.toNat : Int) = 46) with hd | hd; (rw [decide_eq_true hd, letter_of (by omega)]); (rw [decide_eq_false hd, letter_not (by omega)])), rfl⟩
  refine .kDF (t := 27) rfl h1_29 (.kDF (t := 28) rfl h1_29 (.grun (t := 29) rfl rfl rfl (.m rfl (.grun (t := 29) rfl rfl rfl (.ui rfl rfl rfl (.u (.pickF rfl rfl) (.m rfl (.dec (t := 33) rfl (fun h1_33 => ?_) (fun h1_33 => ?_)))))))))
  ·refine .kDT (t := 31) rfl h1_33 (.kDT (t := 32) rfl h1_33 (.gk (.gk (.u (.pickT rfl rfl) (.an rfl (.ret ?_))))))
   exact .dn rfl rfl ⟨by first | (rw [letter_of (by omega)]; done) | (rcases Decidable.em ((c.toNat : Int) = 46) with hd | hd; (rw [decide_eq_true hd, letter_of (by omega)]); (rw [decide_eq_false hd, letter_not (by omega)])), rfl⟩
  refine .kDF (t := 31) rfl h1_33 (.kDF (t := 32) rfl h1_33 (.grun (t := 33) rfl rfl rfl (.m rfl (.grun (t := 33) rfl rfl rfl (.ui rfl rfl rfl (.u (.pickF rfl rfl) (.an rfl (.ret ?_))))))))
  exact .dn rfl rfl ⟨by first | (rw [letter_of (by omega)]; done) | (rcases Decidable.em ((c.toNat : Int) = 46) with hd | hd; (rw [decide_eq_true hd, letter_of (by omega)]); (rw [decide_eq_false hd, letter_not (by omega)])), rfl⟩
 refine .kDF (t := 19) rfl h1_20 (.gk (.gk (.grun (t := 17) rfl rfl rfl (.u (.pickF rfl rfl) (.u (.pickF rfl rfl) (.m rfl (.grun (t := 25) rfl rfl rfl (.m rfl (.grun (t := 25) rfl rfl rfl (.ui rfl rfl rfl (.u (.pickF rfl rfl) (.m rfl (.dec (t := 29) rfl (fun h1_29 => ?_) (fun h1_29 => ?_))))))))))))))
 ·refine .kDT (t := 27) rfl h1_29 (.kDT (t := 28) rfl h1_29 (.gk (.gk (.u (.pickT rfl rfl) (.m rfl (.gk (.gk (.u (.pickT rfl rfl) (.an rfl (.ret ?_))))))))))
  exact .dn rfl rfl ⟨by first | (rw [letter_of (by omega)]; done) | (rcases Decidable.em ((c.toNat : Int) = 46) with hd | hd; (rw [decide_eq_true hd, letter_of (by omega)]); (rw [decide_eq_false hd, letter_not (by omega)])), rfl⟩
 refine .kDF (t := 27) rfl h1_29 (.kDF (t := 28) rfl h1_29 (.grun (t := 29) rfl rfl rfl (.m rfl (.grun (t := 29) rfl rfl rfl (.ui rfl rfl rfl (.u (.pickF rfl rfl) (.m rfl (.dec (t := 33) rfl (fun h1_33 => ?_) (fun h1_33 => ?_)))))))))
 ·refine .kDT (t := 31) rfl h1_33 (.kDT (t := 32) rfl h1_33 (.gk (.gk (.u (.pickT rfl rfl) (.an rfl (.ret ?_))))))
  exact .dn rfl rfl ⟨by first | (rw [letter_of (by omega)]; done) | (rcases Decidable.em ((c.toNat : Int) = 46) with hd | hd; (rw [decide_eq_true hd, letter_of (by omega)]); (rw [decide_eq_false hd, letter_not (by omega)])), rfl⟩
 refine .kDF (t := 31) rfl h1_33 (.kDF (t := 32) rfl h1_33 (.grun (t := 33) rfl rfl rfl (.m rfl (.grun (t := 33) rfl rfl rfl (.ui rfl rfl rfl (.u (.pickF rfl rfl) (.an rfl (.ret ?_))))))))
 exact .dn rfl rfl ⟨by first | (rw [letter_of (by omega)]; done) | (rcases Decidable.em ((c.toNat : Int) = 46) with hd | hd; (rw [decide_eq_true hd, letter_of (by omega)]); (rw [decide_eq_false hd, letter_not (by omega)])), rfl⟩
theorem risname_spec (s : Bs) (hs : s.length ≤ 1099511627776) : Fn Tryz.prog 136 #[vstr s] [] fun v L => v = .bool (isNameZ s) ∧ L = [] := by
 refine Fn.intro Tryz.func136 rfl rfl fun F W => ?_
 have hbs := bs_size s
 refine .sr (.an rfl (.seq (.sm rfl (.u (.streq rfl rfl) (.m rfl (.dec (t := 7) rfl (fun h1_7 => ?_) (fun h1_7 => ?_)))))))
 ·refine .kDT (t := 6) rfl h1_7 (.gk (.gk (.u (.pickT rfl rfl) (.m rfl (.gk (.gk (.u (.pickT rfl rfl) (.nt (.condT rfl (.sr (.an rfl (.rt ?_))))))))))))
  exact .dn rfl rfl ⟨by rw [show isNameZ s = false by unfold isNameZ; first | (rw [show s = [] from by assumption]; rfl) | (rw [show s = [46] from by assumption]; rfl) | (rw [show s = [46, 46] from by assumption]; rfl)], rfl⟩
 refine .kDF (t := 6) rfl h1_7 (.grun (t := 7) rfl rfl rfl (.m rfl (.grun (t := 7) rfl rfl rfl (.u (.streq rfl rfl) (.u (.pickF rfl rfl) (.m rfl (.dec (t := 11) rfl (fun h1_11 => ?_) (fun h1_11 => ?_))))))))
 ·refine .kDT (t := 9) rfl h1_11 (.kDT (t := 10) rfl h1_11 (.gk (.gk (.u (.pickT rfl rfl) (.nt (.condT rfl (.sr (.an rfl (.rt ?_)))))))))
  exact .dn rfl rfl ⟨by rw [show isNameZ s = false by unfold isNameZ; first | (rw [show s = [] from by assumption]; rfl) | (rw [show s = [46] from by assumption]; rfl) | (rw [show s = [46, 46] from by assumption]; rfl)], rfl⟩
 refine .kDF (t := 9) rfl h1_11 (.kDF (t := 10) rfl h1_11 (.grun (t := 11) rfl rfl rfl (.m rfl (.grun (t := 11) rfl rfl rfl (.u (.streq rfl rfl) (.u (.pickF rfl rfl) (.nt (.condD rfl (fun h14 => ?_) (fun h14 => ?_)))))))))
 ·refine .sr (.an rfl (.rt ?_))
  exact .dn rfl rfl ⟨by rw [show isNameZ s = false by unfold isNameZ; first | (rw [show s = [] from by assumption]; rfl) | (rw [show s = [46] from by assumption]; rfl) | (rw [show s = [46, 46] from by assumption]; rfl)], rfl⟩
 refine .sk (.seq (.sr (.an rfl (.block (.loopK (ι := Nat) (fun q E => (3, vint q) :: E) (fun q => []) (fun q => q ≤ s.length ∧ (s.take q).all letterB = true) (fun q => s.length - q) (0) (ts := [0]) (.cons rfl (.nil)) (⟨Nat.zero_le _, rfl⟩) ⟨rfl, rfl, trivial⟩ (by repeat' constructor) ?_)))))
 rintro i ⟨hi, hall⟩
 refine .seq (.sm rfl (.m rfl (.q (.strlen rfl Tryz.underlying9 rfl) rfl (.ui rfl rfl rfl (.nt (.condD rfl (fun h18 => ?_) (fun h18 => ?_)))))))
 ·have hi2 : i < s.length := by omega
  refine .sk (.seq (.block (.sm rfl (.m rfl (.q (.strIndex (c := s[i]) rfl rfl Tryz.underlying9 (by omega) (by simp)) rfl (.cv Tryz.func191 [_] (rletter_spec _) ?_))))))
  refine .an rfl (.sm rfl (.u (.not rfl) (.nt (.condB rfl (fun h26 => ?_) (fun h26 => ?_)))))
  ·refine .sr (.an rfl (.ret (.blk_r (.then_r (.then_r (.blk_r (.then_r ?_)))))))
   exact .dn rfl rfl ⟨by rw [name_bad hi2 (by simpa using h26)], rfl⟩
  refine .skip (.blk_n (.then_n (.region (.m rfl (.q (.add rfl rfl (by omega)) rfl (.an rfl ?_))))))
  exact .rk (i + 1) (⟨by omega, all_next hi2 hall (by simpa using h26)⟩) (by omega) ⟨rfl, rfl, trivial⟩
 have hii : i = s.length := by omega
 rw [hii, List.take_length] at hall
 refine .exit (.then_e (.then_e (.blk_e (.then_n (.sr (.an rfl (.ret ?_)))))))
 exact .dn rfl rfl ⟨by rw [show isNameZ s = true by unfold isNameZ; rw [decide_eq_false h1_7, decide_eq_false h1_11, decide_eq_false h14, hall]; rfl], rfl⟩
theorem rnames_spec (s : Bs) (hs : s.length ≤ 1099511627776) : Fn Tryz.prog 85 #[vstr s] [] fun v L => ∃ (n : Nat) (b : Bool), (∃ a c, v = .tuple #[.slice a n c, .bool b]) ∧ b = okZ s ∧ (b = true → n = (segsZ s).length) ∧ L = [] := by
 refine Fn.intro Tryz.func85 rfl rfl fun F W => ?_
 refine .add (slR_nil 9 1) (.sr (.a rfl (.an rfl (.sr (.an rfl (.seq (.block (.loopK (ι := Bs × Value × (List Bs)) (fun q E => (0, vstr q.1) :: (4, q.2.1) :: E) (fun q => [slR 9 1 q.2.1 q.2.2.length (strs q.2.2)]) (fun q => (∃ a c, q.2.1 = .slice a q.2.2.length c) ∧ q.2.2.all isNameZ = true ∧ segsZ s = q.2.2 ++ segsZ q.1 ∧ q.1.length + q.2.2.length ≤ s.length ∧ (q.2.2 = [] → q.1 = s) ∧ (q.2.2 ≠ [] → s.head? = some 47 ∧ (q.1 = [] ∨ q.1.head? = some 47))) (fun q => q.1.length) (s, .slice none 0 0, []) (ts := []) (.nil) (⟨⟨none, 0, rfl⟩, rfl, rfl, by simp, fun _ => rfl, fun h => absurd rfl h⟩) ⟨rfl, rfl, trivial⟩ (by repeat' constructor) ?_))))))))
 rintro ⟨cur, u, acc⟩ ⟨⟨au, cu, hu⟩, hall, hseg, hcl, hfst, hrest⟩
 dsimp only
 dsimp only at hu hall hseg hcl hfst hrest
 subst hu
 have hbs := bs_size cur
 refine .seq (.sm rfl (.u (.strne rfl rfl) (.nt (.condN rfl (fun h8 => ?_) (fun h8 => ?_)))))
 ·obtain ⟨c0, r, rfl⟩ : ∃ c0 r, cur = c0 :: r := by cases cur with | nil => exact absurd rfl h8 | cons c r => exact ⟨c, r, rfl⟩
  have hrl : (c0 :: r).length = r.length + 1 := rfl
  refine .sk (.block (.seq (.sm rfl (.q (.strIndex (c := c0) rfl rfl Tryz.underlying9 (by omega) (by simp)) rfl (.ui rfl rfl rfl (.nt (.condN rfl (fun h11 => ?_) (fun h11 => ?_))))))))
  ·refine .sr (.a rfl (.an rfl (.rt (.blk_r (.then_r (.blk_r (.then_r ?_)))))))
   exact .dn rfl rfl ⟨_, _, ⟨_, _, rfl⟩, (by rw [show okZ s = false by unfold okZ; rcases acc with _ | ⟨x, l⟩; (rw [← hfst rfl]; simp; intro e; exact absurd (by rw [e]; rfl) h11); (obtain ⟨-, g⟩ := hrest (by simp); rcases g with g | g; (cases g); (simp at g; exact absurd (by rw [g]; rfl) h11))]), (fun h => by cases h), rfl⟩
  have hc0 : c0 = 47 := byte_eq (d := 47) (by first | exact h11 | simpa using h11)
  subst hc0
  have hs47 : s.head? = some 47 := by rcases acc with _ | ⟨x, l⟩; rw [← hfst rfl]; rfl; exact (hrest (by simp)).1
  refine .sk (.sr (.an rfl (.seq (.joinK (ι := Nat) (fun q E => (5, vint q) :: E) (fun q => []) (fun q => 1 ≤ q ∧ q ≤ r.length + 1 ∧ (∀ j, j < q - 1 → r.getD j 0 ≠ 47) ∧ (q - 1 = r.length ∨ r.getD (q - 1) 0 = 47)) (pre := []) (ts := [0, 4, 7, 8, 9, 10, 11]) (.cons rfl (.cons rfl (.cons rfl (.cons rfl (.cons rfl (.cons rfl (.cons rfl (.nil)))))))) (by repeat' constructor) ?_ ?_))))
  ·refine .block (.loopK (ι := Nat) (fun q E => (5, vint q) :: E) (fun q => []) (fun q => 1 ≤ q ∧ q ≤ r.length + 1 ∧ ∀ j, j < q - 1 → r.getD j 0 ≠ 47) (fun q => r.length + 1 - q) (1) (ts := [0, 4, 7, 8, 9, 10, 11]) (.cons rfl (.cons rfl (.cons rfl (.cons rfl (.cons rfl (.cons rfl (.cons rfl (.nil)))))))) (⟨by omega, by omega, fun j hj => by omega⟩) ⟨rfl, rfl, rfl, rfl, rfl, rfl, rfl, rfl, trivial⟩ (by repeat' constructor) ?_)
   rintro n ⟨hn1, hn2, hno⟩
   refine .seq (.sm rfl (.m rfl (.q (.strlen rfl Tryz.underlying9 rfl) rfl (.ui rfl rfl rfl (.m rfl (.dec (t := 16) rfl (fun h6_16 => ?_) (fun h6_16 => ?_)))))))
   ·have hn3 : n < r.length + 1 := by omega
    have hn4 : n - 1 < r.length := by omega
    have hat : (47 :: r)[n]? = some r[n - 1] := by obtain ⟨m, rfl⟩ : ∃ m, n = m + 1 := ⟨n - 1, by omega⟩; simp [show m < r.length by omega]
    refine .kDT (t := 15) rfl h6_16 (.grun (t := 16) rfl rfl rfl (.m rfl (.grun (t := 16) rfl rfl rfl (.m rfl (.grun (t := 16) rfl rfl rfl (.q (.strIndex (c := r[n - 1]) rfl rfl Tryz.underlying9 (by omega) (by rw [Int.toNat_natCast]; exact hat)) rfl (.grun (t := 16) rfl rfl rfl (.ui rfl rfl rfl (.u (.pickT rfl rfl) (.nt (.condN rfl (fun h21 => ?_) (fun h21 => ?_))))))))))))
    ·have hne : r[n - 1] ≠ 47 := fun e => h21 (by rw [e]; rfl)
     refine .sk (.block (.region (.m rfl (.q (.add rfl rfl (by omega)) rfl (.a rfl (.nil (.blk_n (.then_n ?_))))))))
     exact .rk (n + 1) (⟨by omega, by omega, fun j hj => by by_cases e : j = n - 1; (subst e; rw [List.getD_eq_getElem?_getD, List.getElem?_eq_getElem hn4, Option.getD_some]; exact hne); exact hno j (by omega)⟩) (by omega) ⟨rfl, rfl, rfl, rfl, rfl, rfl, rfl, rfl, trivial⟩
    have hlast : r[n - 1] = 47 := byte_eq (d := 47) (by first | exact h21 | simpa using h21)
    refine .exit (.then_e (.then_e (.blk_e (.then_n ?_))))
    exact .mk (n) (⟨hn1, hn2, hno, .inr (by rw [List.getD_eq_getElem?_getD, List.getElem?_eq_getElem hn4, Option.getD_some]; exact hlast)⟩) ⟨rfl, rfl, rfl, rfl, rfl, rfl, rfl, rfl, trivial⟩
   refine .kDF (t := 15) rfl h6_16 (.gk (.gk (.gk (.gk (.u (.pickF rfl rfl) (.nt (.condF rfl (.exit (.then_e (.then_e (.blk_e (.then_n ?_))))))))))))
   exact .mk (n) (⟨hn1, hn2, hno, .inl (by omega)⟩) ⟨rfl, rfl, rfl, rfl, rfl, rfl, rfl, rfl, trivial⟩
  rintro n ⟨hn1, hn2, hno, hend⟩
  have hstep := seg_step (r := r) (k := n - 1) (by omega) hno hend
  have htk : ((47 :: r).take n).drop 1 = r.take (n - 1) := by obtain ⟨m, rfl⟩ : ∃ m, n = m + 1 := ⟨n - 1, by omega⟩; simp
  have hdr : (47 :: r).drop n = r.drop (n - 1) := by obtain ⟨m, rfl⟩ : ∃ m, n = m + 1 := ⟨n - 1, by omega⟩; simp
  have hsplit : segsZ (47 :: r) = ((47 :: r).take n).drop 1 :: segsZ ((47 :: r).drop n) := by rw [htk, hdr]; exact hstep
  have hdrop : (47 :: r).drop n = [] ∨ ((47 :: r).drop n).head? = some 47 := by rw [hdr]; rcases hend with h | h; (left; rw [h, List.drop_length]); (rcases Nat.lt_or_ge (n - 1) r.length with g | g; (right; rw [List.drop_eq_getElem_cons g]; rw [List.getD_eq_getElem?_getD, List.getElem?_eq_getElem g, Option.getD_some] at h; rw [h]; rfl); (left; exact List.drop_eq_nil_of_le g))
  refine .sm rfl (.m rfl (.q (.to (v' := vstr (((47 :: r).take n).drop 1)) (.strMid (i := 1) (j := n) rfl rfl rfl Tryz.underlying9 (by omega)) (by rw [Int.toNat_natCast]; rfl)) rfl (.oq (.call Tryz.func136 rfl rfl (vs := [_]) rfl (risname_spec _ (by simp; omega))) ?_)))
  rintro v L' ⟨rfl, rfl⟩
  refine .an rfl (.seq (.sm rfl (.u (.not rfl) (.nt (.condB rfl (fun h29 => ?_) (fun h29 => ?_))))))
  ·refine .sr (.a rfl (.an rfl (.rt (.blk_r (.then_r (.blk_r (.then_r ?_)))))))
   exact .dn rfl rfl ⟨_, _, ⟨_, _, rfl⟩, (by rw [show okZ s = false by unfold okZ; rw [hseg, hsplit, List.all_append, List.all_cons]; rw [show isNameZ (((47 :: r).take n).drop 1) = false by simpa using h29]; simp]), (fun h => by cases h), rfl⟩
  refine .sk (.sm rfl (.m rfl (.m rfl (.q (.to (v' := vstr (((47 :: r).take n).drop 1)) (.strMid (i := 1) (j := n) rfl rfl rfl Tryz.underlying9 (by omega)) (by rw [Int.toNat_natCast]; rfl)) rfl (.oq (.buildSlice1 (vs := [_]) el_23 ze_9 rfl rfl rfl rfl rfl (by decide)) ?_)))))
  rintro v L' ⟨b11_4, rfl, rfl⟩
  refine .oq (.append1 rfl rfl rfl el_23 ze_9 rfl rfl ?c37 ?c38 (Nat.le_refl _) ?c39 (by decide)) ?_
  case c37 => (first | (simp [isCell]; done) | (simp [isCell, setAll, Value.cells]; done))
  case c38 => rfl
  case c39 => omega
  rintro v L' ⟨⟨a11_5, c11_5, rfl⟩, rfl⟩
  refine .an rfl (.region (.m rfl (.m rfl (.q (.to (v' := vstr ((47 :: r).drop n)) (.strFrom (i := n) rfl rfl Tryz.underlying9 (by omega)) (by simp)) rfl (.a rfl (.nil (.blk_n (.then_n ?_))))))))
  have hin := h29
  rw [show strs acc ++ [vstr (((47 :: r).take n).drop 1)] = strs (acc ++ [((47 :: r).take n).drop 1]) by simp [strs], show acc.length + 1 = (acc ++ [((47 :: r).take n).drop 1]).length by simp]
  exact .rk (((47 :: r).drop n, .slice a11_5 (acc ++ [((47 :: r).take n).drop 1]).length c11_5, acc ++ [((47 :: r).take n).drop 1])) (⟨⟨_, _, rfl⟩, by dsimp only; rw [List.all_append, hall]; simpa using hin, by dsimp only; rw [hseg, hsplit, List.append_assoc]; rfl, by dsimp only; rw [List.length_drop, List.length_append]; simp; omega, fun h => by simp at h, fun _ => ⟨hs47, hdrop⟩⟩) (by dsimp only; rw [List.length_drop]; omega) ⟨rfl, rfl, trivial⟩
 have hcn : cur = [] := h8
 subst hcn
 refine .exit (.then_e (.then_e (.blk_e (.then_n (.sm rfl (.m rfl (.q (.slen rfl Tryz.underlying23 rfl) rfl (.ui rfl rfl rfl (.a rfl (.an rfl (.ret ?_)))))))))))
 exact .dn rfl rfl ⟨_, _, ⟨_, _, rfl⟩, (by unfold okZ; rw [hseg, show segsZ [] = [] from rfl, List.append_nil, hall, Bool.and_true]; refine decide_eq_decide.2 ?_; rcases acc with _ | ⟨x, l⟩; (rw [← hfst rfl]; simp); (simp only [(hrest (by simp)).1, iff_true, List.length_cons]; omega)), (fun _ => by rw [hseg]; simp [segsZ]), rfl⟩
theorem rcheck_spec (s : Bs) (hs : s.length ≤ 1099511627776) : Fn Tryz.prog 39 #[vstr s] [] fun v L => v = vint (checkZ s) ∧ L = [] := by
 refine Fn.intro Tryz.func39 rfl rfl fun F W => ?_
 have hbs := bs_size s
 refine .sr (.an rfl (.seq (.sm rfl (.u (.streq rfl rfl) (.nt (.condD rfl (fun h6 => ?_) (fun h6 => ?_)))))))
 ·refine .sr (.an rfl (.rt ?_))
  exact .dn rfl rfl ⟨by rw [show s = [47] from h6]; rfl, rfl⟩
 have hchk := check_ok h6
 refine .sk (.sm rfl (.oq (.c Tryz.func85 [_] (rnames_spec s hs)) ?_))
 rintro v L' ⟨nn, b, ⟨a3, c3, rfl⟩, hb, hnn, rfl⟩
 refine .m rfl (.u (.extract rfl rfl) (.u (.extract rfl rfl) (.a rfl (.an rfl (.seq (.sm rfl (.u (.not rfl) (.nt (.condB rfl (fun h13 => ?_) (fun h13 => ?_))))))))))
 ·have hbf : b = false := by simpa using h13
  rw [← hb, hbf, if_neg (by simp)] at hchk
  refine .sr (.an rfl (.rt ?_))
  exact .dn rfl rfl ⟨by rw [hchk], rfl⟩
 have hbt : b = true := by simpa using h13
 have hnl := hnn hbt
 rw [← hb, hbt, if_pos rfl] at hchk
 refine .sk (.seq (.sm rfl (.q (.strlen rfl Tryz.underlying9 rfl) rfl (.ui rfl rfl rfl (.m rfl (.dec (t := 17) rfl (fun h6_17 => ?_) (fun h6_17 => ?_)))))))
 ·refine .kDT (t := 16) rfl h6_17 (.gk (.gk (.gk (.u (.pickT rfl rfl) (.nt (.condT rfl (.sr (.an rfl (.rt ?_)))))))))
  exact .dn rfl rfl ⟨by rw [hchk, if_pos (by left; omega)], rfl⟩
 refine .kDF (t := 16) rfl h6_17 (.grun (t := 17) rfl rfl rfl (.m rfl (.grun (t := 17) rfl rfl rfl (.q (.slen rfl Tryz.underlying23 rfl) rfl (.grun (t := 17) rfl rfl rfl (.ui rfl rfl rfl (.u (.pickF rfl rfl) (.nt (.condD rfl (fun h21 => ?_) (fun h21 => ?_))))))))))
 ·refine .sr (.an rfl (.rt ?_))
  exact .dn rfl rfl ⟨by rw [hchk, if_pos (by right; omega)], rfl⟩
 refine .sk (.sr (.an rfl (.ret ?_)))
 exact .dn rfl rfl ⟨by rw [hchk, if_neg (by omega)], rfl⟩
theorem rslash_spec (s : Bs) (hs : s.length ≤ 1099511627776) : Fn Tryz.prog 171 #[vstr s] [] fun v L => v = vint (lidxZ s) ∧ L = [] := by
 refine Fn.intro Tryz.func171 rfl rfl fun F W => ?_
 have hbs := bs_size s
 refine .sr (.an rfl (.seq (.sm rfl (.q (.strlen rfl Tryz.underlying9 rfl) rfl (.q (.sub rfl rfl (by omega)) rfl (.an rfl (.block (.loopK (ι := Nat) (fun q E => (3, vint (dnL s.length q)) :: E) (fun q => []) (fun q => q ≤ s.length ∧ lidxTo s (s.length - q) = lidxZ s) (fun q => s.length - q) (0) (ts := [0]) (.cons rfl (.nil)) (⟨Nat.zero_le _, rfl⟩) ⟨rfl, rfl, trivial⟩ (by repeat' constructor) ?_))))))))
 rintro k ⟨hk, hl⟩
 have hdn := dnL_eq s.length k
 refine .seq (.sm rfl (.ui rfl rfl rfl (.nt (.condD rfl (fun h8 => ?_) (fun h8 => ?_)))))
 ·have hk2 : k < s.length := by omega
  have hat : s[s.length - (k + 1)] = s.getD (s.length - (k + 1)) 0 := by rw [List.getD_eq_getElem?_getD, List.getElem?_eq_getElem (by omega), Option.getD_some]
  refine .sk (.seq (.block (.sm rfl (.m rfl (.q (.strIndex (c := s[s.length - (k + 1)]) rfl rfl Tryz.underlying9 (by omega) (by rw [show (dnL s.length k).toNat = s.length - (k + 1) by omega]; simp [show s.length - (k + 1) < s.length by omega])) rfl (.ui rfl rfl rfl (.nt (.condD rfl (fun h14 => ?_) (fun h14 => ?_)))))))))
  ·have he : s.getD (s.length - (k + 1)) 0 = 47 := by rw [← hat]; exact byte_eq h14
   refine .sm rfl (.an rfl (.ret (.blk_r (.then_r (.then_r (.blk_r (.then_r ?_)))))))
   exact .dn rfl rfl ⟨by rw [← hl, show s.length - k = (s.length - (k + 1)) + 1 by omega, lidxTo, if_pos he, hdn]; congr 1; omega, rfl⟩
  have hne : ¬ s.getD (s.length - (k + 1)) 0 = 47 := by rw [← hat]; exact fun e => h14 (by rw [e]; rfl)
  refine .skip (.blk_n (.then_n (.region (.m rfl (.q (.sub rfl rfl (by omega)) rfl (.an rfl ?_))))))
  exact .rk (k + 1) (⟨by omega, by rw [← hl, show s.length - k = (s.length - (k + 1)) + 1 by omega, lidxTo, if_neg hne]⟩) (by omega) ⟨rfl, rfl, trivial⟩
 refine .exit (.then_e (.then_e (.blk_e (.then_n (.sr (.an rfl (.ret ?_)))))))
 exact .dn rfl rfl ⟨by rw [← hl, show s.length - k = 0 by omega]; rfl, rfl⟩
theorem rparent_spec (s : Bs) (hs : s.length ≤ 1099511627776) : Fn Tryz.prog 110 #[vstr s] [] fun v L => v = vstr (parentZ s) ∧ L = [] := by
 refine Fn.intro Tryz.func110 rfl rfl fun F W => ?_
 have hr := lidx_range s
 refine .sr (.an rfl (.sm rfl (.oq (.c Tryz.func171 [_] (rslash_spec _ ?hs3)) ?_)))
 case hs3 => first | assumption | omega
 rintro v L' ⟨rfl, rfl⟩
 refine .an rfl (.seq (.sm rfl (.ui rfl rfl rfl (.m rfl (.dec (t := 8) rfl (fun h2_8 => ?_) (fun h2_8 => ?_))))))
 ·refine .kDT (t := 7) rfl h2_8 (.gk (.gk (.u (.pickT rfl rfl) (.nt (.condT rfl (.sr (.an rfl (.rt ?_))))))))
  exact .dn rfl rfl ⟨by unfold parentZ; rw [if_pos (by first | exact .inl (by omega) | exact .inr (by assumption))], rfl⟩
 refine .kDF (t := 7) rfl h2_8 (.grun (t := 8) rfl rfl rfl (.m rfl (.grun (t := 8) rfl rfl rfl (.u (.streq rfl rfl) (.u (.pickF rfl rfl) (.nt (.dec (t := 11) rfl (fun h11 => ?_) (fun h11 => ?_))))))))
 ·refine .condT rfl (.sr (.an rfl (.rt ?_)))
  exact .dn rfl rfl ⟨by unfold parentZ; rw [if_pos (by first | exact .inl (by omega) | exact .inr (by assumption))], rfl⟩
 refine .condF rfl (.sk (.seq (.sm rfl (.ui rfl rfl rfl (.nt (.condD rfl (fun h13 => ?_) (fun h13 => ?_)))))))
 ·refine .sr (.an rfl (.rt ?_))
  exact .dn rfl rfl ⟨by unfold parentZ; rw [if_neg (by rintro (g | g); omega; exact absurd g h11), if_pos h13], rfl⟩
 refine .sk (.sm rfl (.m rfl (.q (.strTo rfl rfl Tryz.underlying9 (by omega)) rfl (.an rfl (.ret ?_)))))
 exact .dn rfl rfl ⟨by unfold parentZ; rw [if_neg (by rintro (g | g); omega; exact absurd g h11), if_neg h13], rfl⟩
theorem rbase_spec (s : Bs) (hs : s.length ≤ 1099511627776) : Fn Tryz.prog 121 #[vstr s] [] fun v L => v = vstr (baseZ s) ∧ L = [] := by
 refine Fn.intro Tryz.func121 rfl rfl fun F W => ?_
 have hr := lidx_range s
 refine .sr (.an rfl (.sm rfl (.m rfl (.oq (.c Tryz.func171 [_] (rslash_spec _ ?hs4)) ?_))))
 case hs4 => first | assumption | omega
 rintro v L' ⟨rfl, rfl⟩
 refine .q (.add rfl rfl (by omega)) rfl (.q (.strFrom rfl rfl Tryz.underlying9 (by omega)) rfl (.an rfl (.ret ?_)))
 exact .vv
theorem rkid_spec (s name : Bs) (hs : s.length ≤ 1099511627776) (hn : name.length ≤ 1099511627776) : Fn Tryz.prog 215 #[vstr s, vstr name] [] fun v L => v = vstr (kidZ s name) ∧ L = [] := by
 refine Fn.intro Tryz.func215 rfl rfl fun F W => ?_
 refine .sr (.an rfl (.seq (.sm rfl (.u (.streq rfl rfl) (.nt (.condD rfl (fun h6 => ?_) (fun h6 => ?_)))))))
 ·refine .sm rfl (.m rfl (.q (.concat rfl rfl (by omega)) rfl (.an rfl (.rt ?_))))
  exact .dn rfl rfl ⟨by unfold kidZ; rw [if_pos h6, h6], rfl⟩
 refine .sk (.sm rfl (.q (.concat rfl rfl (by simp; omega)) rfl (.m rfl (.q (.concat rfl rfl (by simp; omega)) rfl (.an rfl (.ret ?_))))))
 exact .dn rfl rfl ⟨by unfold kidZ; rw [if_neg h6], rfl⟩
theorem runder_spec (s q0 : Bs) (hq : q0.length ≤ 1099511627776) : Fn Tryz.prog 186 #[vstr s, vstr q0] [] fun v L => v = .bool (decide (underZ s q0)) ∧ L = [] := by
 refine Fn.intro Tryz.func186 rfl rfl fun F W => ?_
 have hb1 := bs_size s
 have hb2 := bs_size (kidZ q0 [])
 have hkl := kid_len q0 []
 refine .sr (.an rfl (.sm rfl (.cv Tryz.func215 [_, _] (rkid_spec q0 [] (by omega) (by simp)) ?_)))
 refine .an rfl (.sm rfl (.q (.strlen rfl Tryz.underlying9 rfl) rfl (.m rfl (.q (.strlen rfl Tryz.underlying9 rfl) rfl (.ui rfl rfl rfl (.m rfl (.dec (t := 13) rfl (fun h2_13 => ?_) (fun h2_13 => ?_))))))))
 ·refine .kDT (t := 12) rfl h2_13 (.grun (t := 13) rfl rfl rfl (.m rfl (.grun (t := 13) rfl rfl rfl (.m rfl (.grun (t := 13) rfl rfl rfl (.q (.strlen rfl Tryz.underlying9 rfl) rfl (.grun (t := 13) rfl rfl rfl (.q (.to (v' := vstr (s.take (kidZ q0 []).length)) (.strTo rfl rfl Tryz.underlying9 (by omega)) (by rw [Int.toNat_natCast])) rfl (.grun (t := 13) rfl rfl rfl (.m rfl (.grun (t := 13) rfl rfl rfl (.u (.streq rfl rfl) (.u (.pickT rfl rfl) (.an rfl (.ret ?_)))))))))))))))
  exact .dn rfl rfl ⟨by congr 1; exact decide_eq_decide.2 ⟨fun e => ⟨e, fun g => by rw [g] at h2_13; omega⟩, fun e => e.1⟩, rfl⟩
 refine .kDF (t := 12) rfl h2_13 (.gk (.gk (.gk (.gk (.gk (.gk (.u (.pickF rfl rfl) (.an rfl (.ret ?_)))))))))
 exact .dn rfl rfl ⟨by rw [decide_eq_false (fun e => by obtain ⟨e1, e2⟩ := e; unfold pfx at e1; have h3 := congrArg List.length e1; rw [List.length_take] at h3; exact e2 (by rw [← e1, List.take_of_length_le (by omega)]))], rfl⟩
theorem rplace_spec (x : Nat) (τ : Tr) (p : Bs) (hn : τ.nodes.length ≤ 1099511627776) : Fn Tryz.prog 95 #[vptr x, vstr p] [refR x τ] fun v L => v = vint (placeZ τ p) ∧ L = [refR x τ] := by
 refine Fn.intro Tryz.func95 rfl rfl fun F W => ?_
 refine .rtOpen (x := x) (τ := τ) (by repeat' constructor) fun an cn as1 cs l hl => ?_
 have hll := nds_len hl
 refine .sr (.an rfl (.seq (.sr (.an rfl (.block (.loopK (ι := Nat) (fun q E => (5, vint q) :: E) (fun q => []) (fun q => q ≤ l.length ∧ ∀ j (hj : j < q), ∀ (hj2 : j < l.length), l[j].1 ≠ p) (fun q => l.length - q) (0) (ts := [0, 1]) (.cons rfl (.cons rfl (.nil))) (⟨Nat.zero_le _, fun j hj => by omega⟩) ⟨rfl, rfl, rfl, trivial⟩ (by repeat' constructor) ?_))))))
 rintro i ⟨hi, hno⟩
 refine .seq (.sm rfl (.m rfl (.nf rfl fo_110_0 (.u (.ld rfl ag_107) (.q (.slen rfl Tryz.underlying107 rfl) rfl (.ui rfl rfl rfl (.nt (.condD rfl (fun h12 => ?_) (fun h12 => ?_)))))))))
 ·have hi2 : i < l.length := by omega
  refine .slShape (T := 112) (sz := 12) (v := .slice an l.length cn) (xs := l.flatMap rnC) (by repeat' constructor) (by omega) fun bn bn' e0 mbn _ => ?_
  simp only [Value.slice.injEq, true_and] at e0
  obtain ⟨rfl, rfl⟩ := e0
  refine .sk (.seq (.block (.sm rfl (.nf rfl fo_110_0 (.u (.ld rfl ag_107) (.m rfl (.q (.indexAddr rfl rfl el_107 (by omega)) rfl (.u (.fieldAddr rfl fo_112_0) (.q (.loadRd (sz := 12) (j := i * 12 + 0) (p := rnR _ l) rfl ag_9 (by repeat' constructor) (fun h hp => slR_rd hp) (by omega) ((rn_cell (l := l) (i := i) (k := 0) (by omega) (by decide)).trans rfl)) rfl (.m rfl (.u (.streq rfl rfl) (.nt (.condD rfl (fun h24 => ?_) (fun h24 => ?_))))))))))))))
  ·refine .sm rfl (.an rfl (.ret (.blk_r (.then_r (.then_r (.blk_r (.then_r ?_)))))))
   have hz : placeZ τ p = (i : Int) := by unfold placeZ; rw [← hl, place_nds]; exact place_at hi2 h24 (fun j hj => hno j hj (by omega))
   refine .rtFold (x := x) (τ := τ) (l := l) hl (by repeat' constructor) rfl rfl rfl rfl rfl ?_
   exact .dn rfl rfl ⟨by rw [hz], rfl⟩
  refine .skip (.blk_n (.then_n (.region (.m rfl (.q (.add rfl rfl (by omega)) rfl (.an rfl ?_))))))
  exact .rk (i + 1) (⟨by omega, fun j hj hj2 => by by_cases e : j = i; (subst e; exact h24); exact hno j (by omega) hj2⟩) (by omega) ⟨rfl, rfl, rfl, trivial⟩
 refine .exit (.then_e (.then_e (.blk_e (.then_n (.sr (.an rfl (.ret ?_)))))))
 have hz : placeZ τ p = -1 := by unfold placeZ; rw [← hl, place_nds]; exact place_none (fun j hj => hno j (by omega) hj)
 refine .rtFold (x := x) (τ := τ) (l := l) hl (by repeat' constructor) rfl rfl rfl rfl rfl ?_
 exact .dn rfl rfl ⟨by rw [hz], rfl⟩
theorem rable_spec (p : Bs) (hs : p.length ≤ 1099511627776) : Fn Tryz.prog 127 #[vstr p] [] fun v L => v = .bool (decide (ableZ p)) ∧ L = [] := by
 refine Fn.intro Tryz.func127 rfl rfl fun F W => ?_
 refine .sr (.an rfl (.sm rfl (.u (.strne rfl rfl) (.m rfl (.ndec (t := 5) rfl (fun h1_5 => ?_) (fun h1_5 => ?_))))))
 ·refine .kNT (t := 4) rfl h1_5 (.grun (t := 5) rfl rfl rfl (.m rfl (.grun (t := 5) rfl rfl rfl (.cv Tryz.func39 [_] (rcheck_spec p hs) ?_))))
  refine .grun (t := 5) rfl rfl rfl (.ui rfl rfl rfl (.u (.pickT rfl rfl) (.an rfl (.ret ?_))))
  exact .dn rfl rfl ⟨congrArg Value.bool (decide_eq_decide.2 ⟨fun e => ⟨h1_5, e⟩, fun e => e.2⟩), rfl⟩
 refine .kNF (t := 4) rfl h1_5 (.gk (.gk (.gk (.u (.pickF rfl rfl) (.an rfl (.ret ?_))))))
 exact .dn rfl rfl ⟨by rw [decide_eq_false (fun e => e.1 h1_5)], rfl⟩
theorem rrows_spec (v : Value) (xs : List Ac) (p : HP) (hp : ∀ h : Hp, p h → rdS 2 h v xs.length (xs.flatMap acC)) (hn : xs.length ≤ 1048576) : Fn Tryz.prog 126 #[v] [p] fun u L => (∃ a c, u = .slice a xs.length c) ∧ L = [p, slR 85 2 u xs.length (xs.flatMap acC)] := by
 refine Fn.intro Tryz.func126 rfl rfl fun F W => ?_
 refine .rdAny (p := p) hp (by repeat' constructor) fun a c e0 hl => ?_
 subst e0
 refine .add (slR_nil 85 2) (.sr (.an rfl (.sr (.an rfl (.sm rfl (.m rfl (.oq (.append (n := 0) (m := xs.length) (ys := xs.flatMap acC) (p := p) rfl rfl rfl el_24 (.inl ⟨_, Tryz.underlying24⟩) ze_85 rfl rfl ?hc4 hp ?hb5 (by decide)) ?_)))))))
 case hc4 => exact acC_cells _
 case hb5 => omega
 rintro v L' ⟨⟨a3, c3, rfl⟩, rfl⟩; rw [Nat.zero_add, List.nil_append]
 refine .an rfl (.ret ?_)
 exact .dn rfl rfl ⟨⟨_, _, rfl⟩, rfl⟩
theorem fill_rnode0 (p : Bs) (ad : Option Addr) (n c : Nat) : Instr.fill (fun i => [(0, 1), (1, 1), (2, 1), (3, 9)].toArray[i]?) ([.string (bs []), .string (bs []), .slice none 0 0, .int .i64 0, .int .i64 0, .int .i64 0, .int .i64 0, .int .i64 0, .int .i64 0, .int .i64 0, .int .i64 0, .int .i64 0] : List Value).toArray [(0, vstr p), (2, .slice ad n c)] = some (([vstr p, .string (bs []), .slice ad n c, vint 0, vint 0, vint 0, vint 0, vint 0, vint 0, vint 0, vint 0, vint 0] : List Value).toArray) := by kernel_rfl
theorem fill_rnode (p d : Bs) (ad : Option Addr) (n c : Nat) (s0 s1 s2 s3 s4 s5 s6 s7 s8 : Value) : Instr.fill (fun i => [(0, 1), (1, 1), (2, 1), (3, 9)].toArray[i]?) ([.string (bs []), .string (bs []), .slice none 0 0, .int .i64 0, .int .i64 0, .int .i64 0, .int .i64 0, .int .i64 0, .int .i64 0, .int .i64 0, .int .i64 0, .int .i64 0] : List Value).toArray [(0, vstr p), (1, vstr d), (2, .slice ad n c), (3, .agg ([s0, s1, s2, s3, s4, s5, s6, s7, s8] : List Value).toArray)] = some (([vstr p, vstr d, .slice ad n c] ++ [s0, s1, s2, s3, s4, s5, s6, s7, s8] : List Value).toArray) := by kernel_rfl
theorem rfnew_spec : Fn Tryz.prog 27 #[] [] fun v L => ∃ x, v = vptr x ∧ L = [refR x newT] := by
 refine Fn.intro Tryz.func27 rfl rfl fun F W => ?_
 refine .sr (.an rfl (.sr (.q (.build (us := [(0, _), (1, _)]) fl_85 ze_85 rfl rfl (by simp [isCell])) rfl (.oq (.buildSlice (vs := [_]) el_24 ze_85 rfl rfl rfl rfl (by first | (simp [Value.cells]; done) | (intro v hv; simp only [List.mem_cons, List.not_mem_nil, or_false] at hv; (repeat (first | (subst hv; rfl) | (rcases hv with hv | hv; (subst hv; rfl)))))) (by decide)) ?_))))
 rintro v L' ⟨ba, rfl, rfl⟩
 refine .q (.buildN (pl := [(0, 1), (1, 1), (2, 1), (3, 9)]) (us := [(0, vstr [47]), (2, .slice (some ⟨ba, 0, none⟩) 1 1)]) (cells := rnC (([47], (.slice (some ⟨ba, 0, none⟩) 1 1, ⟨[], [(31, [119, 111, 114, 108, 100])], st0⟩)) : Rno)) Tryz.underlying112 (by kernel_rfl) ze_112 rfl (fill_rnode0 _ _ _ _)) rfl (.oq (.buildSlice (vs := [_]) el_107 ze_112 rfl rfl rfl rfl (by first | (simp [Value.cells]; done) | (intro v hv; simp only [List.mem_cons, List.not_mem_nil, or_false] at hv; (repeat (first | (subst hv; rfl) | (rcases hv with hv | hv; (subst hv; rfl)))))) (by decide)) ?_)
 rintro v L' ⟨bn, rfl, rfl⟩
 refine .q (.build (us := [(0, _)]) fl_110 ze_110 rfl rfl (by simp [isCell])) rfl (.oq (.box rfl) ?_)
 rintro v L' ⟨x, rfl, rfl⟩
 refine .an rfl (.ret (.slMakeN 2 1 (b := ba) (xs := ([(31, [119, 111, 114, 108, 100])] : List Ac).flatMap acC) (by repeat' constructor) rfl rfl (.toRd (m := 1) (by repeat' constructor) (.slMakeN 12 1 (b := bn) (xs := [(([47], (.slice (some ⟨ba, 0, none⟩) 1 1, ⟨[], [(31, [119, 111, 114, 108, 100])], st0⟩)) : Rno)].flatMap rnC) (by repeat' constructor) rfl rfl (.add (slR_nil 122 3) (.fold (p := bigR inA [(([47], (.slice (some ⟨ba, 0, none⟩) 1 1, ⟨[], [(31, [119, 111, 114, 108, 100])], st0⟩)) : Rno)]) (.cons (p := rdO 2 (.slice (some ⟨ba, 0, none⟩) 1 1) 1 (([(31, [119, 111, 114, 108, 100])] : List Ac).flatMap acC)) (by repeat' constructor) .nil) (fun h hp => hp) (.rtFold (x := x) (τ := newT) (l := [(([47], (.slice (some ⟨ba, 0, none⟩) 1 1, ⟨[], [(31, [119, 111, 114, 108, 100])], st0⟩)) : Rno)]) rfl (by repeat' constructor) rfl rfl rfl rfl rfl ?_)))))))
 exact .dn rfl rfl ⟨_, rfl, rfl⟩
theorem rn_cells {z : Rno} (hz : isCell z.2.1 = true) : ∀ y ∈ (Value.agg (rnC z).toArray).cells.toList, isCell y = true := by
 intro v hv
 simp only [Value.cells, rnC, List.mem_cons, List.not_mem_nil, or_false] at hv
 rcases hv with rfl | rfl | rfl | rfl | rfl | rfl | rfl | rfl | rfl | rfl | rfl | rfl
 case inr.inr.inl => exact hz
 all_goals rfl
theorem rdO_cell {sz n : Nat} {v : Value} {ys : List Value} {h : Hp} (hr : rdO sz v n ys h) : isCell v = true := by
 rcases hr with ⟨-, -, a, c, rfl⟩ | ⟨b, off, cap, l, T, fr, rfl, -⟩ <;> rfl
theorem big_get {α : Type} {f : α → HP} {l : List α} {i : Nat} (hi : i < l.length) {h : Hp} (hs : bigR f l h) : ∃ h1, f l[i] h1 := by
 induction l generalizing i h with
 | nil => simp at hi
 | cons x l ih =>
  obtain ⟨h1, h2, -, -, -, p1, p2⟩ := hs
  cases i with
  | zero => exact ⟨h1, p1⟩
  | succ i => exact ih (by simpa using hi) p2
theorem G.aclShape {W : World} {n : Nat} {ds : List Deferred} {E : Env} {L R : List HP} {X : Act → World → Prop} {l : List Rno} {i : Nat} (hi : i < l.length) (hL : Pick (bigR inA l) L R) (h : isCell l[i].2.1 = true → G W n ds E L X) : G W n ds E L X := by
 intro a w he hk hs
 obtain ⟨h1, -, hp⟩ := sep_head (hs.pick hL)
 obtain ⟨h2, hq⟩ := big_get hi hp
 exact h (rdO_cell hq) a w he hk hs
theorem rlay_spec (x : Nat) (τ : Tr) (z : Rno) (hzc : isCell z.2.1 = true) (N : Nat) (ho : τ.Ok N) (hN : N ≤ 1073741824) : Fn Tryz.prog 184 #[vptr x, .agg (rnC z).toArray] [refR x τ, inA z] fun v L => v = .tuple #[] ∧ L = [refR x { τ with nodes := sset τ.nodes z.1 z.2.2 }] := by
 refine Fn.intro Tryz.func184 rfl rfl fun F W => ?_
 refine .rtOpen (x := x) (τ := τ) (by repeat' constructor) fun an cn as1 cs l hl => ?_
 have hsrt := nds_sorted (hl ▸ ho.sorted)
 have hll := nds_len hl
 have hofew := ho.few
 refine .sr (.oq (.box rfl) ?_)
 rintro v L' ⟨bz, rfl, rfl⟩
 refine .nil (.ptCast (b := bz) (l' := rnC z) (by repeat' constructor) rfl (.then_n (.seq (.add (slR_nil 112 12) (.region (.an rfl (.sr (.an rfl (.seq (.sr (.an rfl (.block (.loopK (ι := Nat × Bool × Value × (List Rno)) (fun q E => (6, vint q.1) :: (5, .bool q.2.1) :: (4, q.2.2.1) :: E) (fun q => [rnR q.2.2.1 q.2.2.2]) (fun q => q.1 ≤ l.length ∧ LayI l z.1 z.2 q.1 q.2.1 q.2.2.2 ∧ (∃ a c, q.2.2.1 = .slice a q.2.2.2.length c) ∧ q.2.2.2.length ≤ q.1 + q.2.1.toNat) (fun q => l.length - q.1) (0, false, .slice none 0 0, []) (ts := [0, 3]) (.cons rfl (.cons rfl (.nil))) (⟨Nat.zero_le _, LayI.start _ _ _, ⟨none, 0, rfl⟩, by simp⟩) ⟨rfl, rfl, rfl, rfl, rfl, trivial⟩ (by repeat' constructor) ?_)))))))))))))
 rintro ⟨i, b, u, acc⟩ ⟨hi, hLay, ⟨au, cu, hu⟩, hal⟩
 dsimp only
 dsimp only at hi hLay hu hal
 subst hu
 refine .seq (.sm rfl (.m rfl (.nf rfl fo_110_0 (.u (.ld rfl ag_107) (.q (.slen rfl Tryz.underlying107 rfl) rfl (.ui rfl rfl rfl (.nt (.condD rfl (fun h13 => ?_) (fun h13 => ?_)))))))))
 ·have hi2 : i < l.length := by omega
  refine .slShape (T := 112) (sz := 12) (v := .slice an l.length cn) (xs := l.flatMap rnC) (by repeat' constructor) (by omega) fun bn bn' e0 mbn _ => ?_
  simp only [Value.slice.injEq, true_and] at e0
  obtain ⟨rfl, rfl⟩ := e0
  refine .sk (.seq (.block (.seq (.seq (.draw [] [[0, 1, 2, 3, 4, 5, 6, 7, 8, 9, 10, 11, 12, 13, 14]] mixed (by kernel_rfl) (.g0 (.mv rfl rfl (.kv rfl (.not rfl) (.mv rfl rfl (.bool (t := 18) rfl (fun h6_18 => ?_) (fun h6_18 => ?_)))))))))))
  ·have hbf : b = false := by simpa using h6_18
   subst hbf
   have hal : acc.length ≤ i + 0 := hal
   refine D.kB (t := 17) rfl h6_18 (.gv rfl (.move rfl) (.gv rfl (.nilp rfl) (.gv rfl (.fieldAddr rfl fo_110_0) (.gv rfl (.ld rfl ag_107) (.gv rfl (.move rfl) (.gv rfl (.indexAddr rfl rfl el_107 (by omega)) (.gv rfl (.fieldAddr rfl fo_112_0) (.gv rfl (.loadRd (sz := 12) (j := i * 12 + 0) (p := rnR _ l) rfl ag_9 (by repeat' constructor) (fun h hp => slR_rd hp) (by omega) ((rn_cell (l := l) (i := i) (k := 0) (by omega) (by decide)).trans rfl)) (.gv rfl (.fieldAddr rfl fo_112_0) (.gv rfl (.load rfl ag_9 (by repeat' constructor) rfl) (.gv rfl (.strge rfl rfl) (.kv rfl (.pickT rfl rfl) (.pf (.condD rfl (fun h30 => ?_) (fun h30 => ?_)))))))))))))))
   ·refine .sm rfl (.q (.loadAs (vs := rnC z) rfl ag_112 (by repeat' constructor) (by simp [rnC]) rfl) rfl (.oq (.buildSlice (vs := [_]) el_107 ze_112 rfl rfl rfl rfl (by first | (simp [Value.cells]; done) | (intro v hv; simp only [List.mem_cons, List.not_mem_nil, or_false] at hv; (repeat (first | (subst hv; rfl) | (rcases hv with hv | hv; (subst hv; rfl)))))) (by decide)) ?_))
    rintro v L' ⟨b7_2, rfl, rfl⟩
    refine .oq (.append1 rfl rfl rfl el_107 ze_112 rfl rfl ?c30 ?c31 (Nat.le_refl _) ?c32 (by decide)) ?_
    case c30 => first | exact rn_cells hzc | (simp only [List.map_cons, List.map_nil, List.flatten_cons, List.flatten_nil, List.append_nil]; exact rn_cells hzc)
    case c31 => rfl
    case c32 => first | omega | (simp; omega)
    rintro v L' ⟨⟨a7_3, c7_3, rfl⟩, rfl⟩
    refine .a rfl (.nil ?_)
    rw [show acc.length + 1 = (acc ++ [z]).length by rw [List.length_append]; rfl]
    refine .slCast (T := 112) (sz := 12) (m' := (acc ++ [z]).length) (xs' := (acc ++ [z]).flatMap rnC) (by repeat' constructor) rfl (by simp; rfl) (.then_n (.region (.an rfl (.seq (.draw [] [[0, 1, 2, 3, 4, 5, 6, 7, 8, 9, 10]] mixed (by kernel_rfl) (.g0 (.mv rfl rfl (.nf rfl rfl rfl fo_110_0 (.kv rfl (.ld rfl ag_107) (.mv rfl rfl (.kv rfl (.indexAddr rfl rfl el_107 (by omega)) (.kv rfl (.fieldAddr rfl fo_112_0) (.kv rfl (.loadRd (sz := 12) (j := i * 12 + 0) (p := rnR _ l) rfl ag_9 (by repeat' constructor) (fun h hp => slR_rd hp) (by omega) ((rn_cell (l := l) (i := i) (k := 0) (by omega) (by decide)).trans rfl)) (.kv rfl (.fieldAddr rfl fo_112_0) (.kv rfl (.ld rfl ag_9) (.kv rfl (.strne rfl rfl) (.pf (.condN rfl (fun h45 => ?_) (fun h45 => ?_)))))))))))))))))))
    ·refine .aclShape (l := l) (i := i) hi2 (by repeat' constructor) fun hcl => (.region (.m rfl (.m rfl (.nf rfl fo_110_0 (.u (.ld rfl ag_107) (.m rfl (.q (.indexAddr rfl rfl el_107 (by omega)) rfl (.q (.loadRdA (sz := 12) (j := i * 12) (k := 12) (p := rnR _ l) (vs := rnC l[i]) rfl ag_112 (by repeat' constructor) (fun h hp => slR_rd hp) (by omega) (by omega) (by omega) (flatMap_at (f := rnC) (sz := 12) (fun _ _ => rfl) (by omega))) rfl (.oq (.buildSlice (vs := [_]) el_107 ze_112 rfl rfl rfl rfl (by first | (simp [Value.cells]; done) | (intro v hv; simp only [List.mem_cons, List.not_mem_nil, or_false] at hv; (repeat (first | (subst hv; rfl) | (rcases hv with hv | hv; (subst hv; rfl)))))) (by decide)) ?_)))))))))
     rintro v L' ⟨b10_8, rfl, rfl⟩
     refine .oq (.append1 rfl rfl rfl el_107 ze_112 rfl rfl ?c56 ?c57 (Nat.le_refl _) ?c58 (by decide)) ?_
     case c56 => first | exact rn_cells hcl | (simp only [List.map_cons, List.map_nil, List.flatten_cons, List.flatten_nil, List.append_nil]; exact rn_cells hcl)
     case c57 => rfl
     case c58 => first | omega | (simp; omega)
     rintro v L' ⟨⟨a10_9, c10_9, rfl⟩, rfl⟩
     refine .a rfl (.nil ?_)
     rw [show (acc ++ [z]).length + 1 = ((acc ++ [z]) ++ [l[i]]).length by simp]
     refine .slCast (T := 112) (sz := 12) (m' := ((acc ++ [z]) ++ [l[i]]).length) (xs' := ((acc ++ [z]) ++ [l[i]]).flatMap rnC) (by repeat' constructor) rfl (by simp; rfl) (.blk_n (.then_n (.region (.m rfl (.q (.add rfl rfl (by omega)) rfl (.an rfl ?_))))))
     exact .rk ((i + 1, true, .slice a10_9 ((acc ++ [z]) ++ [l[i]]).length c10_9, ((acc ++ [z]) ++ [l[i]]))) (⟨by dsimp only; omega, by dsimp only; exact hLay.put hi2 h30 h45, ⟨_, _, rfl⟩, by dsimp only; simp; omega⟩) (by dsimp only; omega) ⟨rfl, rfl, rfl, rfl, rfl, trivial⟩
    refine .skip (.blk_n (.then_n (.region (.m rfl (.q (.add rfl rfl (by omega)) rfl (.an rfl ?_))))))
    exact .rk ((i + 1, true, .slice a7_3 (acc ++ [z]).length c7_3, (acc ++ [z]))) (⟨by dsimp only; omega, by dsimp only; exact hLay.sub hi2 h45, ⟨_, _, rfl⟩, by dsimp only; simp; omega⟩) (by dsimp only; omega) ⟨rfl, rfl, rfl, rfl, rfl, trivial⟩
   refine .sk (.seq (.draw [] [[0, 1, 2, 3, 4, 5, 6, 7, 8, 9, 10]] mixed (by kernel_rfl) (.g0 (.mv rfl rfl (.nf rfl rfl rfl fo_110_0 (.kv rfl (.ld rfl ag_107) (.mv rfl rfl (.kv rfl (.indexAddr rfl rfl el_107 (by omega)) (.kv rfl (.fieldAddr rfl fo_112_0) (.kv rfl (.loadRd (sz := 12) (j := i * 12 + 0) (p := rnR _ l) rfl ag_9 (by repeat' constructor) (fun h hp => slR_rd hp) (by omega) ((rn_cell (l := l) (i := i) (k := 0) (by omega) (by decide)).trans rfl)) (.kv rfl (.fieldAddr rfl fo_112_0) (.kv rfl (.ld rfl ag_9) (.kv rfl (.strne rfl rfl) (.pf (.condN rfl (fun h45 => ?_) (fun h45 => ?_))))))))))))))))
   ·refine .aclShape (l := l) (i := i) hi2 (by repeat' constructor) fun hcl => (.region (.m rfl (.m rfl (.nf rfl fo_110_0 (.u (.ld rfl ag_107) (.m rfl (.q (.indexAddr rfl rfl el_107 (by omega)) rfl (.q (.loadRdA (sz := 12) (j := i * 12) (k := 12) (p := rnR _ l) (vs := rnC l[i]) rfl ag_112 (by repeat' constructor) (fun h hp => slR_rd hp) (by omega) (by omega) (by omega) (flatMap_at (f := rnC) (sz := 12) (fun _ _ => rfl) (by omega))) rfl (.oq (.buildSlice (vs := [_]) el_107 ze_112 rfl rfl rfl rfl (by first | (simp [Value.cells]; done) | (intro v hv; simp only [List.mem_cons, List.not_mem_nil, or_false] at hv; (repeat (first | (subst hv; rfl) | (rcases hv with hv | hv; (subst hv; rfl)))))) (by decide)) ?_)))))))))
    rintro v L' ⟨b10_8, rfl, rfl⟩
    refine .oq (.append1 rfl rfl rfl el_107 ze_112 rfl rfl ?c86 ?c87 (Nat.le_refl _) ?c88 (by decide)) ?_
    case c86 => first | exact rn_cells hcl | (simp only [List.map_cons, List.map_nil, List.flatten_cons, List.flatten_nil, List.append_nil]; exact rn_cells hcl)
    case c87 => rfl
    case c88 => first | omega | (simp; omega)
    rintro v L' ⟨⟨a10_9, c10_9, rfl⟩, rfl⟩
    refine .a rfl (.nil ?_)
    rw [show acc.length + 1 = (acc ++ [l[i]]).length by simp]
    refine .slCast (T := 112) (sz := 12) (m' := (acc ++ [l[i]]).length) (xs' := (acc ++ [l[i]]).flatMap rnC) (by repeat' constructor) rfl (by simp; rfl) (.blk_n (.then_n (.region (.m rfl (.q (.add rfl rfl (by omega)) rfl (.an rfl ?_))))))
    exact .rk ((i + 1, false, .slice a10_9 (acc ++ [l[i]]).length c10_9, (acc ++ [l[i]]))) (⟨by dsimp only; omega, by dsimp only; exact hLay.low hi2 (Decidable.byContradiction h30), ⟨_, _, rfl⟩, by dsimp only; simp; omega⟩) (by dsimp only; omega) ⟨rfl, rfl, rfl, rfl, rfl, trivial⟩
   refine .skip (.blk_n (.then_n (.region (.m rfl (.q (.add rfl rfl (by omega)) rfl (.an rfl ?_))))))
   exact .rk ((i + 1, false, .slice au acc.length cu, acc)) (⟨by dsimp only; omega, by dsimp only; exact absurd (by rw [h45]; exact linB.irr z.1) h30, ⟨_, _, rfl⟩, by dsimp only; simp; omega⟩) (by dsimp only; omega) ⟨rfl, rfl, rfl, rfl, rfl, trivial⟩
  have hbt : b = true := by simpa using h6_18
  subst hbt
  have hal : acc.length ≤ i + 1 := hal
  refine D.kB (t := 17) rfl h6_18 (.gz rfl (.gz rfl (.gz rfl (.gz rfl (.gz rfl (.gz rfl (.gz rfl (.gz rfl (.gz rfl (.gz rfl (.gz rfl (.kv rfl (.pickF rfl rfl) (.pf (.condF rfl (.sk (.seq (.draw [] [[0, 1, 2, 3, 4, 5, 6, 7, 8, 9, 10]] mixed (by kernel_rfl) (.g0 (.mv rfl rfl (.nf rfl rfl rfl fo_110_0 (.kv rfl (.ld rfl ag_107) (.mv rfl rfl (.kv rfl (.indexAddr rfl rfl el_107 (by omega)) (.kv rfl (.fieldAddr rfl fo_112_0) (.kv rfl (.loadRd (sz := 12) (j := i * 12 + 0) (p := rnR _ l) rfl ag_9 (by repeat' constructor) (fun h hp => slR_rd hp) (by omega) ((rn_cell (l := l) (i := i) (k := 0) (by omega) (by decide)).trans rfl)) (.kv rfl (.fieldAddr rfl fo_112_0) (.kv rfl (.ld rfl ag_9) (.kv rfl (.strne rfl rfl) ?_))))))))))))))))))))))))))))
  refine D.pf (.condN rfl (fun h45 => ?_) (fun h45 => ?_))
  ·refine .aclShape (l := l) (i := i) hi2 (by repeat' constructor) fun hcl => (.region (.m rfl (.m rfl (.nf rfl fo_110_0 (.u (.ld rfl ag_107) (.m rfl (.q (.indexAddr rfl rfl el_107 (by omega)) rfl (.q (.loadRdA (sz := 12) (j := i * 12) (k := 12) (p := rnR _ l) (vs := rnC l[i]) rfl ag_112 (by repeat' constructor) (fun h hp => slR_rd hp) (by omega) (by omega) (by omega) (flatMap_at (f := rnC) (sz := 12) (fun _ _ => rfl) (by omega))) rfl (.oq (.buildSlice (vs := [_]) el_107 ze_112 rfl rfl rfl rfl (by first | (simp [Value.cells]; done) | (intro v hv; simp only [List.mem_cons, List.not_mem_nil, or_false] at hv; (repeat (first | (subst hv; rfl) | (rcases hv with hv | hv; (subst hv; rfl)))))) (by decide)) ?_)))))))))
   rintro v L' ⟨b10_8, rfl, rfl⟩
   refine .oq (.append1 rfl rfl rfl el_107 ze_112 rfl rfl ?c117 ?c118 (Nat.le_refl _) ?c119 (by decide)) ?_
   case c117 => first | exact rn_cells hcl | (simp only [List.map_cons, List.map_nil, List.flatten_cons, List.flatten_nil, List.append_nil]; exact rn_cells hcl)
   case c118 => rfl
   case c119 => first | omega | (simp; omega)
   rintro v L' ⟨⟨a10_9, c10_9, rfl⟩, rfl⟩
   refine .a rfl (.nil ?_)
   rw [show acc.length + 1 = (acc ++ [l[i]]).length by simp]
   refine .slCast (T := 112) (sz := 12) (m' := (acc ++ [l[i]]).length) (xs' := (acc ++ [l[i]]).flatMap rnC) (by repeat' constructor) rfl (by simp; rfl) (.blk_n (.then_n (.region (.m rfl (.q (.add rfl rfl (by omega)) rfl (.an rfl ?_))))))
   exact .rk ((i + 1, true, .slice a10_9 (acc ++ [l[i]]).length c10_9, (acc ++ [l[i]]))) (⟨by dsimp only; omega, by dsimp only; exact hLay.more hi2, ⟨_, _, rfl⟩, by dsimp only; simp; omega⟩) (by dsimp only; omega) ⟨rfl, rfl, rfl, rfl, rfl, trivial⟩
  refine .skip (.blk_n (.then_n (.region (.m rfl (.q (.add rfl rfl (by omega)) rfl (.an rfl ?_))))))
  exact .rk ((i + 1, true, .slice au acc.length cu, acc)) (⟨by dsimp only; omega, by dsimp only; exact absurd h45 (hLay.not hsrt hi2), ⟨_, _, rfl⟩, by dsimp only; simp; omega⟩) (by dsimp only; omega) ⟨rfl, rfl, rfl, rfl, rfl, trivial⟩
 have hii : i = l.length := by omega
 rw [hii] at hLay
 have hlast := hLay.last
 refine .exit (.then_e (.then_e (.blk_e (.then_n (.seq (.sm rfl (.u (.not rfl) (.nt (.condB rfl (fun h57 => ?_) (fun h57 => ?_))))))))))
 ·refine .region (.m rfl (.q (.loadAs (vs := rnC z) rfl ag_112 (by repeat' constructor) (by simp [rnC]) rfl) rfl (.oq (.buildSlice (vs := [_]) el_107 ze_112 rfl rfl rfl rfl (by first | (simp [Value.cells]; done) | (intro v hv; simp only [List.mem_cons, List.not_mem_nil, or_false] at hv; (repeat (first | (subst hv; rfl) | (rcases hv with hv | hv; (subst hv; rfl)))))) (by decide)) ?_)))
  rintro v L' ⟨b12_2, rfl, rfl⟩
  refine .oq (.append1 rfl rfl rfl el_107 ze_112 rfl rfl ?c132 ?c133 (Nat.le_refl _) ?c134 (by decide)) ?_
  case c132 => first | exact rn_cells hzc | (simp only [List.map_cons, List.map_nil, List.flatten_cons, List.flatten_nil, List.append_nil]; exact rn_cells hzc)
  case c133 => rfl
  case c134 => have := Bool.toNat_le b; omega
  rintro v L' ⟨⟨a12_3, c12_3, rfl⟩, rfl⟩
  refine .a rfl (.nil ?_)
  rw [show acc.length + 1 = (acc ++ [z]).length by rw [List.length_append]; rfl]
  refine .slCast (T := 112) (sz := 12) (m' := (acc ++ [z]).length) (xs' := (acc ++ [z]).flatMap rnC) (by repeat' constructor) rfl (by simp; rfl) (.then_n (.region (.m rfl (.m rfl (.nf rfl fo_110_0 (.st rfl rfl rfl sz_107 ?_))))))
  refine .nil (.done_n (.bigSset hsrt z.1 z.2 (p := inA z) rfl (by repeat' constructor) ?_))
  have hb : b = false := by simpa using h57
  subst hb
  have hfin : (acc ++ [z]) = sset l z.1 z.2 := hlast
  refine .rtFold (x := x) (τ := ({ τ with nodes := sset τ.nodes z.1 z.2.2 } : Tr)) (l := (sset l z.1 z.2)) (by rw [nds_sset, hl]) (by repeat' constructor) rfl (by rw [hfin]) (by rw [hfin]) rfl rfl ?_
  exact .vv
 refine .sk (.region (.m rfl (.m rfl (.nf rfl fo_110_0 (.st rfl rfl rfl sz_107 ?_)))))
 refine .nil (.done_n (.bigSset hsrt z.1 z.2 (p := inA z) rfl (by repeat' constructor) ?_))
 have hb : b = true := by simpa using h57
 subst hb
 have hfin : acc = sset l z.1 z.2 := hlast
 refine .rtFold (x := x) (τ := ({ τ with nodes := sset τ.nodes z.1 z.2.2 } : Tr)) (l := (sset l z.1 z.2)) (by rw [nds_sset, hl]) (by repeat' constructor) rfl (by rw [hfin]) (by rw [hfin]) rfl rfl ?_
 exact .vv
theorem rkid7_spec (x : Nat) (τ : Tr) (p : Bs) (num zx : Int) (N : Nat) (ho : τ.Ok N) (hN : N ≤ 1073741824) : Fn Tryz.prog 185 #[vptr x, vstr p, vint num, vint zx] [refR x τ] fun v L => v = .tuple #[] ∧ L = [refR x (kidT τ p num zx)] := by
 refine Fn.intro Tryz.func185 rfl rfl fun F W => ?_
 have hfew := ho.few
 have hnd := ho.sorted.nodup linB
 refine .sm rfl (.m rfl (.cv Tryz.func95 [_, _] (rplace_spec x τ p (by omega)) ?_))
 refine .an rfl (.sm rfl (.ui rfl rfl rfl (.nt (.condD rfl (fun h13 => ?_) (fun h13 => ?_)))))
 ·obtain ⟨k, hk, hpk, hkp⟩ := place_get (l := τ.nodes) h13
  have hpz : placeZ τ p = k := hpk
  rw [hpz]
  refine .rtOpen (x := x) (τ := τ) (by repeat' constructor) fun an cn as1 cs l hl => ?_
  have hll := nds_len hl
  have hkl : k < l.length := by omega
  have hlk : l[k].1 = p := by have := nds_get hl hkl; rw [← hkp]; simp only [this]
  refine .slShape (T := 112) (sz := 12) (v := .slice an l.length cn) (xs := l.flatMap rnC) (by repeat' constructor) (by omega) fun bn bn' e0 mbn _ => ?_
  simp only [Value.slice.injEq, true_and] at e0
  obtain ⟨rfl, rfl⟩ := e0
  refine .sm rfl (.nf rfl fo_110_0 (.u (.ld rfl ag_107) (.m rfl (.m rfl (.q (.indexAddr rfl rfl el_107 (by omega)) rfl (.u (.fieldAddr rfl fo_112_3) (.u (.fieldAddr rfl fo_37_4) (.oq (.storeRd (sz := 12) (j := k * 12 + 7) rfl rfl ?hv14 sz_3 ?ho15 ?hi16) ?_))))))))
  case hv14 => first | rfl | assumption
  case ho15 => omega
  case hi16 => omega
  rintro v L' rfl
  refine .nil (.slCast (T := 112) (sz := 12) (m' := l.length) (xs' := (l.set k (l[k].1, (l[k].2.1, { l[k].2.2 with st := { l[k].2.2.st with cver := num } }))).flatMap rnC) (by repeat' constructor) rfl (flatMap_set (f := rnC) (sz := 12) (fun _ => rfl) (by simpa using hkl) (by decide) (by rfl)) (.then_n (.region (.m rfl (.nf rfl fo_110_0 (.u (.ld rfl ag_107) (.m rfl (.m rfl (.q (.indexAddr rfl rfl el_107 (by omega)) rfl (.u (.fieldAddr rfl fo_112_3) (.u (.fieldAddr rfl fo_37_2) (.oq (.storeRd (sz := 12) (j := k * 12 + 5) rfl rfl ?hv26 sz_3 ?ho27 ?hi28) ?_))))))))))))
  case hv26 => first | rfl | assumption
  case ho27 => omega
  case hi28 => omega
  rintro v L' rfl
  refine .nil (.slCast (T := 112) (sz := 12) (m' := l.length) (xs' := ((l.set k (l[k].1, (l[k].2.1, { l[k].2.2 with st := { l[k].2.2.st with cver := num } }))).set k (l[k].1, (l[k].2.1, kidN num zx l[k].2.2))).flatMap rnC) (by repeat' constructor) rfl (flatMap_set (f := rnC) (sz := 12) (fun _ => rfl) (by simpa using hkl) (by decide) (by rw [List.getElem_set_self]; rfl)) ?_)
  rw [List.set_set]
  refine .done_n (.bigSet (y := (l[k].1, (l[k].2.1, kidN num zx l[k].2.2))) hkl (by rfl) (by repeat' constructor) (.rtFold (x := x) (τ := (kidT τ p num zx)) (l := (l.set k (l[k].1, (l[k].2.1, kidN num zx l[k].2.2)))) (nds_mod hl hnd hkl hlk (kidN num zx) rfl) (by repeat' constructor) rfl (by simp) rfl rfl rfl ?_))
  exact .vv
 refine .skip (.done_n (.rfCast (x := x) (τ' := kidT τ p num zx) (by repeat' constructor) (by unfold kidT; rw [amod_none (by have h0 : ¬ 0 ≤ placeTo τ.nodes p := h13; rw [place_iff] at h0; simpa using h0)]) ?_))
 exact .vv
theorem rlay2_spec (x : Nat) (τ : Tr) (z : Rno) (hzc : isCell z.2.1 = true) (N : Nat) (ho : τ.Ok N) (hN : N ≤ 1073741824) {T : TypeId} : Fn Tryz.prog 184 #[vptr x, .agg (rnC z).toArray] [refR x τ, slR T 2 z.2.1 z.2.2.acl.length (z.2.2.acl.flatMap acC)] fun v L => v = .tuple #[] ∧ L = [refR x { τ with nodes := sset τ.nodes z.1 z.2.2 }] :=
 Fn.pre2 (rlay_spec x τ z hzc N ho hN) fun F w hs => by
  have h1 := sep_imp (q := inA z) (fun h hp => slR_rd hp) (sep_swap hs)
  exact sep_swap h1
theorem rcreate_spec (x : Nat) (τ : Tr) (y : Pt) (zx : Int) (p : HP) (hy : PtA p y) (N : Nat) (ho : τ.Ok N) (hN : N + 1 ≤ 1073741824) : Fn Tryz.prog 128 #[vptr x, .agg (ptC y).toArray, vint zx] [refR x τ, p] fun v L => ∃ a c, v = .slice a (createZ τ y zx).2.length c ∧ L = [refR x (createZ τ y zx).1, p, slR 184 3 v (createZ τ y zx).2.length ((createZ τ y zx).2.flatMap evC)] := by
 refine Fn.intro Tryz.func128 rfl rfl fun F W => ?_
 have hfew := hy.few
 have hpl := hy.plen
 have hpar := parent_len y.path
 have hof := ho.few
 refine .sr (.oq (.box rfl) ?_)
 rintro v L' ⟨bx, rfl, rfl⟩
 refine .a rfl (.nil (.ptCast (b := bx) (l' := ptC y) (by repeat' constructor) rfl (.then_n (.sr (.u (.fieldAddr rfl fo_43_1) (.u (.ld rfl ag_9) (.cv Tryz.func110 [_] (rparent_spec y.path (by omega)) ?_)))))))
 refine .an rfl (.sr (.u (.fieldAddr rfl fo_43_1) (.u (.ld rfl ag_9) (.cv Tryz.func127 [_] (rable_spec y.path (by omega)) ?_))))
 refine .an rfl (.seq (.sm rfl (.u (.not rfl) (.m rfl (.ndec (t := 18) rfl (fun h3_18 => ?_) (fun h3_18 => ?_))))))
 ·refine .kNT (t := 17) rfl h3_18 (.gk (.gk (.gk (.gk (.u (.pickT rfl rfl) (.nt (.condT rfl (.sr (.an rfl (.rt (.add (slR_nil 184 3) ?_)))))))))))
  have hc : createZ τ y zx = (τ, []) := by unfold createZ; rw [if_neg (fun g => h3_18 g.1)]
  refine .rfCast (x := x) (τ' := (createZ τ y zx).1) (by repeat' constructor) (by rw [hc]) (.slCast (T := 184) (sz := 3) (m' := (createZ τ y zx).2.length) (xs' := (createZ τ y zx).2.flatMap evC) (by repeat' constructor) (by (rw [hc]; try rfl)) (by (rw [hc]; try rfl)) ?_)
  exact .dn rfl rfl ⟨_, _, by (rw [hc]; try rfl), rfl⟩
 refine .kNF (t := 17) rfl h3_18 (.grun (t := 18) rfl rfl rfl (.m rfl (.grun (t := 18) rfl rfl rfl (.m rfl (.grun (t := 18) rfl rfl rfl (.cv Tryz.func95 [_, _] (rplace_spec x τ (parentZ y.path) (by omega)) ?_))))))
 refine .grun (t := 18) rfl rfl rfl (.ui rfl rfl rfl (.u (.pickF rfl rfl) (.nt (.condD rfl (fun h23 => ?_) (fun h23 => ?_)))))
 ·refine .sr (.an rfl (.rt (.add (slR_nil 184 3) ?_)))
  have hc : createZ τ y zx = (τ, []) := by unfold createZ; rw [if_neg (fun g => absurd (place_iff.2 g.2) (by have h0 : placeTo τ.nodes (parentZ y.path) < 0 := h23; omega))]
  refine .rfCast (x := x) (τ' := (createZ τ y zx).1) (by repeat' constructor) (by rw [hc]) (.slCast (T := 184) (sz := 3) (m' := (createZ τ y zx).2.length) (xs' := (createZ τ y zx).2.flatMap evC) (by repeat' constructor) (by (rw [hc]; try rfl)) (by (rw [hc]; try rfl)) ?_)
  exact .dn rfl rfl ⟨_, _, by (rw [hc]; try rfl), rfl⟩
 have hup : thereT τ (parentZ y.path) := place_iff.1 (by have h0 : ¬ placeTo τ.nodes (parentZ y.path) < 0 := h23; omega)
 have hab : ableZ y.path := h3_18
 refine .sk (.sr (.an rfl (.seq (.sm rfl (.u (.fieldAddr rfl fo_43_1) (.u (.ld rfl ag_9) (.cv Tryz.func95 [_, _] (rplace_spec x τ y.path (by omega)) ?_)))))))
 refine .ui rfl rfl rfl (.nt (.condD rfl (fun h28 => ?_) (fun h28 => ?_)))
 ·refine .region (.an rfl (.seq (.draw [7, 15] [[0, 1, 2, 3, 4, 5, 6, 8, 9, 10, 11, 12, 13, 7, 14], [15]] mixed (by kernel_rfl) (.go [ptc bx _ _] (by repeat' constructor) (.k rfl (.move rfl) (.k rfl (.fieldAddr rfl fo_43_1) (.k rfl (.ld rfl ag_9) (.k rfl (.fieldAddr rfl fo_43_2) (.k rfl (.ld rfl ag_9) (.kv rfl (.fieldAddr rfl fo_43_3) (.kv rfl (.ld rfl ag_24) (.k rfl (.move rfl) (.k rfl (.move rfl) (.k rfl (.move rfl) (.k rfl (.fieldAddr rfl fo_43_4) (.k rfl (.ld rfl ag_3) (.k rfl (.build (us := [(0, _), (1, _), (2, _), (6, _)]) fl_37 ze_37 rfl rfl (by simp [isCell])) (.hh rfl (.c Tryz.func126 [_] (rrows_spec y.aclV y.acl p hy.acl hfew)) ?_))))))))))))))))))
  rintro v L' ⟨⟨a8, c8, rfl⟩, rfl⟩
  refine D.kv rfl (.buildN (pl := [(0, 1), (1, 1), (2, 1), (3, 9)]) (us := [(0, vstr y.path), (1, vstr y.data), (2, .slice a8 y.acl.length c8), (3, .agg ([vint zx, vint zx, vint zx, vint 0, vint 0, vint 0, vint y.own, vint 0, vint 0] : List Value).toArray)]) (cells := [vstr y.path, vstr y.data, .slice a8 y.acl.length c8] ++ [vint zx, vint zx, vint zx, vint 0, vint 0, vint 0, vint y.own, vint 0, vint 0]) Tryz.underlying112 (by kernel_rfl) ze_112 rfl (fill_rnode _ _ _ _ _ _ _ _ _ _ _ _ _ _)) (.ph (.g0 (.hh rfl (.c Tryz.func184 [_, _] (rlay2_spec x τ ((y.path, (.slice a8 y.acl.length c8, newN y zx)) : Rno) rfl N ho (by omega))) ?_)))
  rintro v L' ⟨rfl, rfl⟩
  refine D.ph (.fin (.rfCast (x := x) (τ' := ({ τ with nodes := sset τ.nodes y.path (newN y zx) } : Tr)) (by repeat' constructor) (rfl) ?_))
  have hoL := ho.lay (.inr hab) (newN y zx) hfew
  refine .then_n (.sm rfl (.m rfl (.u (.fieldAddr rfl fo_43_5) (.u (.ld rfl ag_3) (.m rfl (.cv Tryz.func185 [_, _, _, _] (rkid7_spec x ({ τ with nodes := sset τ.nodes y.path (newN y zx) } : Tr) (parentZ y.path) y.num zx (N + 1) hoL (by omega)) ?_))))))
  refine .nt (.sm rfl (.u (.fieldAddr rfl fo_43_1) (.u (.ld rfl ag_9) (.m rfl (.q (.build (us := [(0, _), (1, _), (2, _)]) fl_184 ze_184 rfl rfl (by simp [isCell])) rfl (.m rfl (.m rfl (.q (.build (us := [(0, _), (1, _), (2, _)]) fl_184 ze_184 rfl rfl (by simp [isCell])) rfl (.oq (.buildSlice (vs := [_, _]) el_71 ze_184 rfl rfl rfl rfl (by first | (simp [Value.cells]; done) | (intro v hv; simp only [List.mem_cons, List.not_mem_nil, or_false] at hv; (repeat (first | (subst hv; rfl) | (rcases hv with hv | hv; (subst hv; rfl)))))) (by decide)) ?_)))))))))
  rintro v L' ⟨bo, rfl, rfl⟩
  refine .a rfl (.nil (.slMakeN 3 2 (b := bo) (xs := ([(3, (y.path, zx)), (4, (parentZ y.path, zx))] : List Ev).flatMap evC) (by repeat' constructor) rfl rfl (.then_n (.ret ?_))))
  have hc : createZ τ y zx = (kidT ({ τ with nodes := sset τ.nodes y.path (newN y zx) } : Tr) (parentZ y.path) y.num zx, [(3, (y.path, zx)), (4, (parentZ y.path, zx))]) := by unfold createZ; rw [if_pos ⟨hab, hup⟩, if_pos (show thereT τ y.path from place_iff.1 h28)]
  refine .rfCast (x := x) (τ' := (createZ τ y zx).1) (by repeat' constructor) (by rw [hc]) (.slCast (T := 184) (sz := 3) (m' := (createZ τ y zx).2.length) (xs' := (createZ τ y zx).2.flatMap evC) (by repeat' constructor) (by (rw [hc]; try rfl)) (by (rw [hc]; try rfl)) ?_)
  exact .dn rfl rfl ⟨_, _, by (rw [hc]; try rfl), rfl⟩
 refine .sk (.seq (.draw [7, 15] [[0, 1, 2, 3, 4, 5, 6, 8, 9, 10, 11, 12, 13, 7, 14], [15]] mixed (by kernel_rfl) (.go [ptc bx _ _] (by repeat' constructor) (.k rfl (.move rfl) (.k rfl (.fieldAddr rfl fo_43_1) (.k rfl (.ld rfl ag_9) (.k rfl (.fieldAddr rfl fo_43_2) (.k rfl (.ld rfl ag_9) (.kv rfl (.fieldAddr rfl fo_43_3) (.kv rfl (.ld rfl ag_24) (.k rfl (.move rfl) (.k rfl (.move rfl) (.k rfl (.move rfl) (.k rfl (.fieldAddr rfl fo_43_4) (.k rfl (.ld rfl ag_3) (.k rfl (.build (us := [(0, _), (1, _), (2, _), (6, _)]) fl_37 ze_37 rfl rfl (by simp [isCell])) (.hh rfl (.c Tryz.func126 [_] (rrows_spec y.aclV y.acl p hy.acl hfew)) ?_)))))))))))))))))
 rintro v L' ⟨⟨a8, c8, rfl⟩, rfl⟩
 refine D.kv rfl (.buildN (pl := [(0, 1), (1, 1), (2, 1), (3, 9)]) (us := [(0, vstr y.path), (1, vstr y.data), (2, .slice a8 y.acl.length c8), (3, .agg ([vint zx, vint zx, vint zx, vint 0, vint 0, vint 0, vint y.own, vint 0, vint 0] : List Value).toArray)]) (cells := [vstr y.path, vstr y.data, .slice a8 y.acl.length c8] ++ [vint zx, vint zx, vint zx, vint 0, vint 0, vint 0, vint y.own, vint 0, vint 0]) Tryz.underlying112 (by kernel_rfl) ze_112 rfl (fill_rnode _ _ _ _ _ _ _ _ _ _ _ _ _ _)) (.ph (.g0 (.hh rfl (.c Tryz.func184 [_, _] (rlay2_spec x τ ((y.path, (.slice a8 y.acl.length c8, newN y zx)) : Rno) rfl N ho (by omega))) ?_)))
 rintro v L' ⟨rfl, rfl⟩
 refine D.ph (.fin (.rfCast (x := x) (τ' := ({ τ with nodes := sset τ.nodes y.path (newN y zx) } : Tr)) (by repeat' constructor) (rfl) ?_))
 have hoL := ho.lay (.inr hab) (newN y zx) hfew
 refine .then_n (.sm rfl (.m rfl (.u (.fieldAddr rfl fo_43_5) (.u (.ld rfl ag_3) (.m rfl (.cv Tryz.func185 [_, _, _, _] (rkid7_spec x ({ τ with nodes := sset τ.nodes y.path (newN y zx) } : Tr) (parentZ y.path) y.num zx (N + 1) hoL (by omega)) ?_))))))
 refine .nt (.sm rfl (.u (.fieldAddr rfl fo_43_1) (.u (.ld rfl ag_9) (.m rfl (.q (.build (us := [(0, _), (1, _), (2, _)]) fl_184 ze_184 rfl rfl (by simp [isCell])) rfl (.m rfl (.m rfl (.q (.build (us := [(0, _), (1, _), (2, _)]) fl_184 ze_184 rfl rfl (by simp [isCell])) rfl (.oq (.buildSlice (vs := [_, _]) el_71 ze_184 rfl rfl rfl rfl (by first | (simp [Value.cells]; done) | (intro v hv; simp only [List.mem_cons, List.not_mem_nil, or_false] at hv; (repeat (first | (subst hv; rfl) | (rcases hv with hv | hv; (subst hv; rfl)))))) (by decide)) ?_)))))))))
 rintro v L' ⟨bo, rfl, rfl⟩
 refine .a rfl (.nil (.slMakeN 3 2 (b := bo) (xs := ([(1, (y.path, zx)), (4, (parentZ y.path, zx))] : List Ev).flatMap evC) (by repeat' constructor) rfl rfl (.then_n (.ret ?_))))
 have hc : createZ τ y zx = (kidT ({ τ with nodes := sset τ.nodes y.path (newN y zx) } : Tr) (parentZ y.path) y.num zx, [(1, (y.path, zx)), (4, (parentZ y.path, zx))]) := by unfold createZ; rw [if_pos ⟨hab, hup⟩, if_neg (show ¬ thereT τ y.path from fun g => h28 (place_iff.2 g))]
 refine .rfCast (x := x) (τ' := (createZ τ y zx).1) (by repeat' constructor) (by rw [hc]) (.slCast (T := 184) (sz := 3) (m' := (createZ τ y zx).2.length) (xs' := (createZ τ y zx).2.flatMap evC) (by repeat' constructor) (by (rw [hc]; try rfl)) (by (rw [hc]; try rfl)) ?_)
 exact .dn rfl rfl ⟨_, _, by (rw [hc]; try rfl), rfl⟩
theorem rerase_spec (x : Nat) (τ : Tr) (y : Pt) (zx : Int) (p : HP) (hy : PtA p y) (N : Nat) (ho : τ.Ok N) (hN : N + 1 ≤ 1073741824) : Fn Tryz.prog 129 #[vptr x, .agg (ptC y).toArray, vint zx] [refR x τ] fun v L => ∃ a c, v = .slice a (eraseZ τ y zx).2.length c ∧ L = [refR x (eraseZ τ y zx).1, slR 184 3 v (eraseZ τ y zx).2.length ((eraseZ τ y zx).2.flatMap evC)] := by
 refine Fn.intro Tryz.func129 rfl rfl fun F W => ?_
 have hfew := hy.few
 have hpl := hy.plen
 have hpar := parent_len y.path
 have hof := ho.few
 refine .sr (.oq (.box rfl) ?_)
 rintro v L' ⟨bx, rfl, rfl⟩
 refine .a rfl (.nil (.ptCast (b := bx) (l' := ptC y) (by repeat' constructor) rfl (.then_n (.sr (.u (.fieldAddr rfl fo_43_1) (.u (.ld rfl ag_9) (.cv Tryz.func127 [_] (rable_spec y.path (by omega)) ?_)))))))
 refine .an rfl (.seq (.sm rfl (.u (.not rfl) (.nt (.condN rfl (fun h18 => ?_) (fun h18 => ?_))))))
 ·refine .sr (.an rfl (.rt (.add (slR_nil 184 3) ?_)))
  have hc : eraseZ τ y zx = (τ, []) := by unfold eraseZ; rw [if_neg h18]
  refine .rfCast (x := x) (τ' := (eraseZ τ y zx).1) (by repeat' constructor) (by rw [hc]) (.slCast (T := 184) (sz := 3) (m' := (eraseZ τ y zx).2.length) (xs' := (eraseZ τ y zx).2.flatMap evC) (by repeat' constructor) (by (rw [hc]; try rfl)) (by (rw [hc]; try rfl)) ?_)
  exact .dn rfl rfl ⟨_, _, by (rw [hc]; try rfl), rfl⟩
 refine .sk (.sr (.u (.fieldAddr rfl fo_43_1) (.u (.ld rfl ag_9) (.cv Tryz.func110 [_] (rparent_spec y.path (by omega)) ?_))))
 refine .an rfl (.sm rfl (.u (.fieldAddr rfl fo_43_1) (.u (.ld rfl ag_9) (.cv Tryz.func95 [_, _] (rplace_spec x τ y.path (by omega)) ?_))))
 refine .ui rfl rfl rfl (.an rfl (.seq (.add (slR_nil 112 12) (.rtOpen (x := x) (τ := τ) (by repeat' constructor) fun an cn as1 cs l hl => ?_))))
 have hll := nds_len hl
 refine .region (.an rfl (.seq (.sr (.an rfl (.block (.loopK (ι := Nat × Value) (fun q E => (11, vint q.1) :: (10, q.2) :: E) (fun q => [rnR q.2 ((l.take q.1).filter fun w => !hitT w.1 y.path)]) (fun q => q.1 ≤ l.length ∧ ∃ a c, q.2 = .slice a ((l.take q.1).filter fun w => !hitT w.1 y.path).length c) (fun q => l.length - q.1) (0, .slice none 0 0) (ts := [0, 2, 4, 6, 8, 9]) (.cons rfl (.cons rfl (.cons rfl (.cons rfl (.cons rfl (.cons rfl (.nil))))))) (⟨Nat.zero_le _, none, 0, rfl⟩) ⟨rfl, rfl, rfl, rfl, rfl, rfl, rfl, rfl, trivial⟩ (by repeat' constructor) ?_))))))
 rintro ⟨i, u⟩ ⟨hi, au, cu, hu⟩
 dsimp only
 dsimp only at hi hu
 subst hu
 have hfl := List.length_filter_le (fun w : Rno => !hitT w.1 y.path) (l.take i)
 rw [List.length_take] at hfl
 refine .seq (.sm rfl (.m rfl (.nf rfl fo_110_0 (.u (.ld rfl ag_107) (.q (.slen rfl Tryz.underlying107 rfl) rfl (.ui rfl rfl rfl (.nt (.condD rfl (fun h33 => ?_) (fun h33 => ?_)))))))))
 ·have hi2 : i < l.length := by omega
  have hpi : l[i].1.length ≤ 60 := by have := nds_get hl hi2; have h2 := able_len (ho.able _ (List.getElem_mem (l := τ.nodes) (n := i) (by omega))); rw [this] at h2; exact h2
  refine .slShape (T := 112) (sz := 12) (v := .slice an l.length cn) (xs := l.flatMap rnC) (by repeat' constructor) (by omega) fun bn bn' e0 mbn _ => ?_
  simp only [Value.slice.injEq, true_and] at e0
  obtain ⟨rfl, rfl⟩ := e0
  refine .sk (.seq (.block (.seq (.draw [10] [[0, 1, 2, 3, 4, 5, 6, 7, 8, 9, 10], [11]] mixed (by kernel_rfl) (.g0 (.mv rfl rfl (.nf rfl rfl rfl fo_110_0 (.kv rfl (.ld rfl ag_107) (.mv rfl rfl (.kv rfl (.indexAddr rfl rfl el_107 (by omega)) (.kv rfl (.fieldAddr rfl fo_112_0) (.kv rfl (.loadRd (sz := 12) (j := i * 12 + 0) (p := rnR _ l) rfl ag_9 (by repeat' constructor) (fun h hp => slR_rd hp) (by omega) ((rn_cell (l := l) (i := i) (k := 0) (by omega) (by decide)).trans rfl)) (.kv rfl (.fieldAddr rfl fo_43_1) (.kv rfl (.ld rfl ag_9) (.hh rfl (.c Tryz.func186 [_, _] (runder_spec l[i].1 y.path (by omega))) ?_)))))))))))))))
  rintro v L' ⟨rfl, rfl⟩
  refine D.ph (.g0 (.kv rfl (.assign rfl) (.pf (.seq (.draw [] [[0, 1, 2, 3, 4, 5, 6, 7, 8, 9, 10, 11, 12, 13, 14]] mixed (by kernel_rfl) (.g0 (.mv rfl rfl (.nf rfl rfl rfl fo_110_0 (.kv rfl (.ld rfl ag_107) (.mv rfl rfl (.kv rfl (.indexAddr rfl rfl el_107 (by omega)) (.kv rfl (.fieldAddr rfl fo_112_0) (.kv rfl (.loadRd (sz := 12) (j := i * 12 + 0) (p := rnR _ l) rfl ag_9 (by repeat' constructor) (fun h hp => slR_rd hp) (by omega) ((rn_cell (l := l) (i := i) (k := 0) (by omega) (by decide)).trans rfl)) (.kv rfl (.fieldAddr rfl fo_43_1) (.kv rfl (.ld rfl ag_9) (.kv rfl (.strne rfl rfl) (.mv rfl rfl (.ndec (t := 58) rfl (fun h11_58 => ?_) (fun h11_58 => ?_)))))))))))))))))))
  ·refine D.kNT (t := 57) rfl h11_58 (.gv rfl (.move rfl) (.gv rfl (.not rfl) (.kv rfl (.pickT rfl rfl) (.pf (.condN rfl (fun h61 => ?_) (fun h61 => ?_))))))
   ·have hhit : hitT l[i].1 y.path = false := by unfold hitT; rw [decide_eq_false h11_58, decide_eq_false h61]; rfl
    refine .aclShape (l := l) (i := i) hi2 (by repeat' constructor) fun hcl => (.region (.m rfl (.m rfl (.nf rfl fo_110_0 (.u (.ld rfl ag_107) (.m rfl (.q (.indexAddr rfl rfl el_107 (by omega)) rfl (.q (.loadRdA (sz := 12) (j := i * 12) (k := 12) (p := rnR _ l) (vs := rnC l[i]) rfl ag_112 (by repeat' constructor) (fun h hp => slR_rd hp) (by omega) (by omega) (by omega) (flatMap_at (f := rnC) (sz := 12) (fun _ _ => rfl) (by omega))) rfl (.oq (.buildSlice (vs := [_]) el_107 ze_112 rfl rfl rfl rfl (by first | (simp [Value.cells]; done) | (intro v hv; simp only [List.mem_cons, List.not_mem_nil, or_false] at hv; (repeat (first | (subst hv; rfl) | (rcases hv with hv | hv; (subst hv; rfl)))))) (by decide)) ?_)))))))))
    rintro v L' ⟨b12_8, rfl, rfl⟩
    refine .oq (.append1 rfl rfl rfl el_107 ze_112 rfl rfl ?c63 ?c64 (Nat.le_refl _) ?c65 (by decide)) ?_
    case c63 => first | exact rn_cells hcl | (simp only [List.map_cons, List.map_nil, List.flatten_cons, List.flatten_nil, List.append_nil]; exact rn_cells hcl)
    case c64 => rfl
    case c65 => first | omega | (simp; omega)
    rintro v L' ⟨⟨a12_9, c12_9, rfl⟩, rfl⟩
    refine .a rfl (.nil (.blk_n (.then_n (.region (.m rfl (.q (.add rfl rfl (by omega)) rfl (.an rfl ?_)))))))
    have hst : ((l.take (i + 1)).filter fun w => !hitT w.1 y.path) = ((l.take i).filter fun w => !hitT w.1 y.path) ++ [l[i]] := by rw [List.take_succ_eq_append_getElem hi2, List.filter_append]; simp [hhit]
    rw [show ((l.take i).filter fun w => !hitT w.1 y.path).length + 1 = ((l.take (i + 1)).filter fun w => !hitT w.1 y.path).length by rw [hst, List.length_append]; rfl]
    refine .slCast (T := 112) (sz := 12) (m' := ((l.take (i + 1)).filter fun w => !hitT w.1 y.path).length) (xs' := ((l.take (i + 1)).filter fun w => !hitT w.1 y.path).flatMap rnC) (by repeat' constructor) rfl (by rw [hst, List.flatMap_append]; simp; rfl) ?_
    exact .rk ((i + 1, .slice a12_9 ((l.take (i + 1)).filter fun w => !hitT w.1 y.path).length c12_9)) (⟨by dsimp only; omega, _, _, rfl⟩) (by dsimp only; omega) ⟨rfl, rfl, rfl, rfl, rfl, rfl, rfl, rfl, trivial⟩
   refine .skip (.blk_n (.then_n (.region (.m rfl (.q (.add rfl rfl (by omega)) rfl (.an rfl ?_))))))
   have hhit : hitT l[i].1 y.path = true := by unfold hitT; rw [decide_eq_true (p := underZ l[i].1 y.path) (by simpa using h61), Bool.or_true]
   have hst : ((l.take (i + 1)).filter fun w => !hitT w.1 y.path) = ((l.take i).filter fun w => !hitT w.1 y.path) := by rw [List.take_succ_eq_append_getElem hi2, List.filter_append]; simp [hhit]
   rw [← hst]
   exact .rk ((i + 1, .slice au ((l.take (i + 1)).filter fun w => !hitT w.1 y.path).length cu)) (⟨by dsimp only; omega, _, _, rfl⟩) (by dsimp only; omega) ⟨rfl, rfl, rfl, rfl, rfl, rfl, rfl, rfl, trivial⟩
  refine D.kNF (t := 57) rfl h11_58 (.gz rfl (.gz rfl (.kv rfl (.pickF rfl rfl) (.pf (.condF rfl (.skip (.blk_n (.then_n (.region (.m rfl (.q (.add rfl rfl (by omega)) rfl (.an rfl ?_))))))))))))
  have hhit : hitT l[i].1 y.path = true := by unfold hitT; rw [decide_eq_true h11_58]; rfl
  have hst : ((l.take (i + 1)).filter fun w => !hitT w.1 y.path) = ((l.take i).filter fun w => !hitT w.1 y.path) := by rw [List.take_succ_eq_append_getElem hi2, List.filter_append]; simp [hhit]
  rw [← hst]
  exact .rk ((i + 1, .slice au ((l.take (i + 1)).filter fun w => !hitT w.1 y.path).length cu)) (⟨by dsimp only; omega, _, _, rfl⟩) (by dsimp only; omega) ⟨rfl, rfl, rfl, rfl, rfl, rfl, rfl, rfl, trivial⟩
 have hii : i = l.length := by omega
 subst hii
 rw [List.take_length]
 refine .exit (.then_e (.then_e (.blk_e (.then_n (.sm rfl (.m rfl (.nf rfl fo_110_0 (.st rfl rfl rfl sz_107 ?_))))))))
 refine .nil (.bigSub (l := (l.filter fun w => !hitT w.1 y.path)) List.filter_sublist (by repeat' constructor) (.rtFold (x := x) (τ := (cutT τ y.path)) (l := (l.filter fun w => !hitT w.1 y.path)) (by rw [nds_filter (fun q => !hitT q y.path), hl]; rfl) (by repeat' constructor) rfl rfl rfl rfl rfl (.then_n (.sm rfl (.m rfl (.u (.fieldAddr rfl fo_43_5) (.u (.ld rfl ag_3) (.m rfl (.oq (.c Tryz.func185 [_, _, _, _] (rkid7_spec x (cutT τ y.path) (parentZ y.path) y.num zx N (ho.cut y.path) (by omega))) ?_)))))))))
 rintro v L' ⟨rfl, rfl⟩; have hoK := (ho.cut y.path).kid (parentZ y.path) y.num zx; have hofk := hoK.few
 refine .nt (.seq (.sm rfl (.u (.not rfl) (.nt (.condN rfl (fun h83 => ?_) (fun h83 => ?_))))))
 ·have hth : ¬ thereT τ y.path := fun g => h83 (place_iff.2 g)
  refine .sr (.an rfl (.rt (.add (slR_nil 184 3) ?_)))
  have hc : eraseZ τ y zx = ((kidT (cutT τ y.path) (parentZ y.path) y.num zx), []) := by unfold eraseZ; rw [if_pos h18, if_neg hth]
  refine .rfCast (x := x) (τ' := (eraseZ τ y zx).1) (by repeat' constructor) (by rw [hc]) (.slCast (T := 184) (sz := 3) (m' := (eraseZ τ y zx).2.length) (xs' := (eraseZ τ y zx).2.flatMap evC) (by repeat' constructor) (by (rw [hc]; try rfl)) (by (rw [hc]; try rfl)) ?_)
  exact .dn rfl rfl ⟨_, _, by (rw [hc]; try rfl), rfl⟩
 have hth : thereT τ y.path := place_iff.1 h83
 refine .sk (.sr (.u (.fieldAddr rfl fo_43_1) (.u (.ld rfl ag_9) (.m rfl (.q (.build (us := [(0, _), (1, _), (2, _)]) fl_184 ze_184 rfl rfl (by simp [isCell])) rfl (.oq (.buildSlice (vs := [_]) el_71 ze_184 rfl rfl rfl rfl (by first | (simp [Value.cells]; done) | (intro v hv; simp only [List.mem_cons, List.not_mem_nil, or_false] at hv; (repeat (first | (subst hv; rfl) | (rcases hv with hv | hv; (subst hv; rfl)))))) (by decide)) ?_))))))
 rintro v L' ⟨bo, rfl, rfl⟩
 refine .a rfl (.nil (.slMakeN 3 1 (b := bo) (xs := ([(2, (y.path, zx))] : List Ev).flatMap evC) (by repeat' constructor) rfl rfl (.then_n (.seq (.sm rfl (.m rfl (.cv Tryz.func95 [_, _] (rplace_spec x (kidT (cutT τ y.path) (parentZ y.path) y.num zx) (parentZ y.path) (by omega)) ?_)))))))
 refine .ui rfl rfl rfl (.nt (.condD rfl (fun h92 => ?_) (fun h92 => ?_)))
 ·refine .region (.m rfl (.m rfl (.m rfl (.q (.build (us := [(0, _), (1, _), (2, _)]) fl_184 ze_184 rfl rfl (by simp [isCell])) rfl (.oq (.buildSlice (vs := [_]) el_71 ze_184 rfl rfl rfl rfl (by first | (simp [Value.cells]; done) | (intro v hv; simp only [List.mem_cons, List.not_mem_nil, or_false] at hv; (repeat (first | (subst hv; rfl) | (rcases hv with hv | hv; (subst hv; rfl)))))) (by decide)) ?_)))))
  rintro v L' ⟨b19_4, rfl, rfl⟩
  refine .oq (.append1 rfl rfl rfl el_71 ze_184 rfl rfl ?c108 ?c109 (Nat.le_refl _) ?c110 (by decide)) ?_
  case c108 => (first | (simp [isCell]; done) | (simp [isCell, setAll, Value.cells]; done))
  case c109 => rfl
  case c110 => omega
  rintro v L' ⟨⟨a19_5, c19_5, rfl⟩, rfl⟩
  refine .an rfl (.sm rfl (.an rfl (.ret ?_)))
  have hc : eraseZ τ y zx = ((kidT (cutT τ y.path) (parentZ y.path) y.num zx), [(2, (y.path, zx)), (4, (parentZ y.path, zx))]) := by unfold eraseZ; rw [if_pos h18, if_pos hth, if_pos (show thereT (cutT τ y.path) (parentZ y.path) from kid_there.1 (place_iff.1 h92))]
  refine .rfCast (x := x) (τ' := (eraseZ τ y zx).1) (by repeat' constructor) (by rw [hc]) (.slCast (T := 184) (sz := 3) (m' := (eraseZ τ y zx).2.length) (xs' := (eraseZ τ y zx).2.flatMap evC) (by repeat' constructor) (by (rw [hc]; try rfl)) (by (rw [hc]; try rfl)) ?_)
  exact .dn rfl rfl ⟨_, _, by (rw [hc]; try rfl), rfl⟩
 refine .sk (.sm rfl (.an rfl (.ret ?_)))
 have hc : eraseZ τ y zx = ((kidT (cutT τ y.path) (parentZ y.path) y.num zx), [(2, (y.path, zx))]) := by unfold eraseZ; rw [if_pos h18, if_pos hth, if_neg (show ¬ thereT (cutT τ y.path) (parentZ y.path) from fun g => h92 (place_iff.2 (kid_there.2 g)))]
 refine .rfCast (x := x) (τ' := (eraseZ τ y zx).1) (by repeat' constructor) (by rw [hc]) (.slCast (T := 184) (sz := 3) (m' := (eraseZ τ y zx).2.length) (xs' := (eraseZ τ y zx).2.flatMap evC) (by repeat' constructor) (by (rw [hc]; try rfl)) (by (rw [hc]; try rfl)) ?_)
 exact .dn rfl rfl ⟨_, _, by (rw [hc]; try rfl), rfl⟩
theorem rpart_spec (x : Nat) (τ : Tr) (y : Pt) (zx : Int) (p : HP) (hy : PtA p y) (N : Nat) (ho : τ.Ok N) (hN : N + 1 ≤ 1073741824) : Fn Tryz.prog 71 #[vptr x, .agg (ptC y).toArray, vint zx] [refR x τ, p] fun v L => ∃ a c, v = .slice a (partZ τ y zx).2.length c ∧ L = [refR x (partZ τ y zx).1, p, slR 184 3 v (partZ τ y zx).2.length ((partZ τ y zx).2.flatMap evC)] := by
 refine Fn.intro Tryz.func71 rfl rfl fun F W => ?_
 have hfew := hy.few
 have hpl := hy.plen
 have hof := ho.few
 have hnd := ho.sorted.nodup linB
 refine .sr (.oq (.box rfl) ?_)
 rintro v L' ⟨bx, rfl, rfl⟩
 refine .a rfl (.nil (.ptCast (b := bx) (l' := ptC y) (by repeat' constructor) rfl (.then_n (.sm rfl (.u (.fieldAddr rfl fo_43_1) (.u (.ld rfl ag_9) (.cv Tryz.func95 [_, _] (rplace_spec x τ y.path (by omega)) ?_)))))))
 refine .an rfl (.seq (.sr (.u (.fieldAddr rfl fo_43_0) (.u (.ld rfl ag_3) (.nt (.block (.sr (.ui rfl rfl rfl (.an rfl (.condD rfl (fun h14 => ?_) (fun h14 => ?_)))))))))))
 ·refine .sm rfl (.q (.loadAs (vs := ptC y) rfl ag_43 (by repeat' constructor) (by simp [ptC]) rfl) rfl (.m rfl (.oq (.c Tryz.func128 [_, _, _] (rcreate_spec x τ y zx p hy N ho hN)) ?_)))
  rintro v L' ⟨a4, c4, rfl, rfl⟩
  refine .an rfl (.ret (.blk_r (.then_r ?_)))
  have hc : partZ τ y zx = createZ τ y zx := by unfold partZ; rw [if_pos h14]
  refine .rfCast (x := x) (τ' := (partZ τ y zx).1) (by repeat' constructor) (by rw [hc]) (.slCast (T := 184) (sz := 3) (m' := (partZ τ y zx).2.length) (xs' := (partZ τ y zx).2.flatMap evC) (by repeat' constructor) (by (rw [hc]; try rfl)) (by (rw [hc]; try rfl)) ?_)
  exact .dn rfl rfl ⟨_, _, by (rw [hc]; try rfl), rfl⟩
 refine .sr (.ui rfl rfl rfl (.an rfl (.condD rfl (fun h20 => ?_) (fun h20 => ?_))))
 ·refine .sm rfl (.q (.loadAs (vs := ptC y) rfl ag_43 (by repeat' constructor) (by simp [ptC]) rfl) rfl (.m rfl (.oq (.c Tryz.func129 [_, _, _] (rerase_spec x τ y zx p hy N ho hN)) ?_)))
  rintro v L' ⟨a6, c6, rfl, rfl⟩
  refine .an rfl (.ret (.blk_r (.then_r ?_)))
  have hc : partZ τ y zx = eraseZ τ y zx := by unfold partZ; rw [if_neg h14, if_pos h20]
  refine .rfCast (x := x) (τ' := (partZ τ y zx).1) (by repeat' constructor) (by rw [hc]) (.slCast (T := 184) (sz := 3) (m' := (partZ τ y zx).2.length) (xs' := (partZ τ y zx).2.flatMap evC) (by repeat' constructor) (by (rw [hc]; try rfl)) (by (rw [hc]; try rfl)) ?_)
  exact .dn rfl rfl ⟨_, _, by (rw [hc]; try rfl), rfl⟩
 refine .sr (.ui rfl rfl rfl (.an rfl (.condD rfl (fun h26 => ?_) (fun h26 => ?_))))
 ·refine .sm rfl (.ui rfl rfl rfl (.nt (.condD rfl (fun h29 => ?_) (fun h29 => ?_))))
  ·obtain ⟨k, hk, hpk, hkp⟩ := place_get (l := τ.nodes) h29
   have hpz : placeZ τ y.path = k := hpk
   rw [hpz]
   refine .rtOpen (x := x) (τ := τ) (by repeat' constructor) fun an cn as1 cs l hl => ?_
   have hll := nds_len hl
   have hkl : k < l.length := by omega
   have hlk : l[k].1 = y.path := by have := nds_get hl hkl; rw [← hkp]; simp only [this]
   refine .slShape (T := 112) (sz := 12) (v := .slice an l.length cn) (xs := l.flatMap rnC) (by repeat' constructor) (by omega) fun bn bn' e0 mbn _ => ?_
   simp only [Value.slice.injEq, true_and] at e0
   obtain ⟨rfl, rfl⟩ := e0
   refine .seq (.draw [9] [[0, 1, 2, 3, 4, 5, 6, 7, 8, 9]] mixed (by kernel_rfl) (.g0 (.mv rfl rfl (.nf rfl rfl rfl fo_110_0 (.kv rfl (.ld rfl ag_107) (.mv rfl rfl (.kv rfl (.fieldAddr rfl fo_43_2) (.kv rfl (.ld rfl ag_9) (.kv rfl (.indexAddr rfl rfl el_107 (by omega)) (.kv rfl (.fieldAddr rfl fo_112_1) (.hh rfl (.storeRd (sz := 12) (j := k * 12 + 1) rfl rfl ?hv33 sz_9 ?ho34 ?hi35) ?_)))))))))))
   case hv33 => first | rfl | assumption
   case ho34 => omega
   case hi35 => omega
   rintro v L' rfl
   refine D.ph (.fin (.slCast (T := 112) (sz := 12) (m' := l.length) (xs' := (l.set k (l[k].1, (l[k].2.1, { l[k].2.2 with data := y.data }))).flatMap rnC) (by repeat' constructor) rfl (flatMap_set (f := rnC) (sz := 12) (fun _ => rfl) (by simpa using hkl) (by decide) (by rfl)) (.then_n (.seq (.draw [10] [[0, 1, 2, 3, 4, 5, 6, 7, 8, 9, 10]] mixed (by kernel_rfl) (.g0 (.mv rfl rfl (.nf rfl rfl rfl fo_110_0 (.kv rfl (.ld rfl ag_107) (.mv rfl rfl (.kv rfl (.fieldAddr rfl fo_43_5) (.kv rfl (.ld rfl ag_3) (.kv rfl (.indexAddr rfl rfl el_107 (by omega)) (.kv rfl (.fieldAddr rfl fo_112_3) (.kv rfl (.fieldAddr rfl fo_37_3) (.hh rfl (.storeRd (sz := 12) (j := k * 12 + 6) rfl rfl ?hv46 sz_3 ?ho47 ?hi48) ?_))))))))))))))))
   case hv46 => first | rfl | assumption
   case ho47 => omega
   case hi48 => omega
   rintro v L' rfl
   refine D.ph (.fin (.slCast (T := 112) (sz := 12) (m' := l.length) (xs' := ((l.set k (l[k].1, (l[k].2.1, { l[k].2.2 with data := y.data }))).set k (l[k].1, (l[k].2.1, { l[k].2.2 with data := y.data, st := { l[k].2.2.st with ver := y.num } }))).flatMap rnC) (by repeat' constructor) rfl (flatMap_set (f := rnC) (sz := 12) (fun _ => rfl) (by simpa using hkl) (by decide) (by rw [List.getElem_set_self]; rfl)) ?_))
   rw [List.set_set]
   refine .then_n (.sm rfl (.nf rfl fo_110_0 (.u (.ld rfl ag_107) (.m rfl (.m rfl (.q (.indexAddr rfl rfl el_107 (by omega)) rfl (.u (.fieldAddr rfl fo_112_3) (.u (.fieldAddr rfl fo_37_1) (.oq (.storeRd (sz := 12) (j := k * 12 + 4) rfl rfl ?hv58 sz_3 ?ho59 ?hi60) ?_)))))))))
   case hv58 => first | rfl | assumption
   case ho59 => omega
   case hi60 => omega
   rintro v L' rfl
   refine .nil (.slCast (T := 112) (sz := 12) (m' := l.length) (xs' := ((l.set k (l[k].1, (l[k].2.1, { l[k].2.2 with data := y.data, st := { l[k].2.2.st with ver := y.num } }))).set k (l[k].1, (l[k].2.1, setN y.data y.num zx l[k].2.2))).flatMap rnC) (by repeat' constructor) rfl (flatMap_set (f := rnC) (sz := 12) (fun _ => rfl) (by simpa using hkl) (by decide) (by rw [List.getElem_set_self]; rfl)) ?_)
   rw [List.set_set]
   refine .bigSet (y := (l[k].1, (l[k].2.1, setN y.data y.num zx l[k].2.2))) hkl (by rfl) (by repeat' constructor) (.rtFold (x := x) (τ := ({ τ with nodes := amod τ.nodes y.path (setN y.data y.num zx) } : Tr)) (l := (l.set k (l[k].1, (l[k].2.1, setN y.data y.num zx l[k].2.2)))) (nds_mod hl hnd hkl hlk (setN y.data y.num zx) rfl) (by repeat' constructor) rfl (by simp) rfl rfl rfl (.then_n (.sr (.u (.fieldAddr rfl fo_43_1) (.u (.ld rfl ag_9) (.m rfl (.q (.build (us := [(0, _), (1, _), (2, _)]) fl_184 ze_184 rfl rfl (by simp [isCell])) rfl (.oq (.buildSlice (vs := [_]) el_71 ze_184 rfl rfl rfl rfl (by first | (simp [Value.cells]; done) | (intro v hv; simp only [List.mem_cons, List.not_mem_nil, or_false] at hv; (repeat (first | (subst hv; rfl) | (rcases hv with hv | hv; (subst hv; rfl)))))) (by decide)) ?_))))))))
   rintro v L' ⟨bo, rfl, rfl⟩
   refine .a rfl (.nil (.slMakeN 3 1 (b := bo) (xs := ([(3, (y.path, zx))] : List Ev).flatMap evC) (by repeat' constructor) rfl rfl (.then_n (.ret (.blk_r (.then_r ?_))))))
   have hc : partZ τ y zx = (({ τ with nodes := amod τ.nodes y.path (setN y.data y.num zx) } : Tr), [(3, (y.path, zx))]) := by unfold partZ; rw [if_neg h14, if_neg h20, if_pos ⟨h26, place_iff.1 h29⟩]
   refine .rfCast (x := x) (τ' := (partZ τ y zx).1) (by repeat' constructor) (by rw [hc]) (.slCast (T := 184) (sz := 3) (m' := (partZ τ y zx).2.length) (xs' := (partZ τ y zx).2.flatMap evC) (by repeat' constructor) (by (rw [hc]; try rfl)) (by (rw [hc]; try rfl)) ?_)
   exact .dn rfl rfl ⟨_, _, by (rw [hc]; try rfl), rfl⟩
  refine .skip (.blk_n (.then_n (.sr (.an rfl (.ret (.add (slR_nil 184 3) ?_))))))
  have hc : partZ τ y zx = (τ, []) := by unfold partZ; rw [if_neg h14, if_neg h20, if_neg (fun g => h29 (place_iff.2 g.2)), if_neg (fun g => h29 (place_iff.2 g.2))]
  refine .rfCast (x := x) (τ' := (partZ τ y zx).1) (by repeat' constructor) (by rw [hc]) (.slCast (T := 184) (sz := 3) (m' := (partZ τ y zx).2.length) (xs' := (partZ τ y zx).2.flatMap evC) (by repeat' constructor) (by (rw [hc]; try rfl)) (by (rw [hc]; try rfl)) ?_)
  exact .dn rfl rfl ⟨_, _, by (rw [hc]; try rfl), rfl⟩
 refine .sr (.ui rfl rfl rfl (.an rfl (.condD rfl (fun h63 => ?_) (fun h63 => ?_))))
 ·refine .sm rfl (.ui rfl rfl rfl (.nt (.condD rfl (fun h66 => ?_) (fun h66 => ?_))))
  ·obtain ⟨k, hk, hpk, hkp⟩ := place_get (l := τ.nodes) h66
   have hpz : placeZ τ y.path = k := hpk
   rw [hpz]
   refine .rtOpen (x := x) (τ := τ) (by repeat' constructor) fun an cn as1 cs l hl => ?_
   have hll := nds_len hl
   have hkl : k < l.length := by omega
   have hlk : l[k].1 = y.path := by have := nds_get hl hkl; rw [← hkp]; simp only [this]
   refine .slShape (T := 112) (sz := 12) (v := .slice an l.length cn) (xs := l.flatMap rnC) (by repeat' constructor) (by omega) fun bn bn' e0 mbn _ => ?_
   simp only [Value.slice.injEq, true_and] at e0
   obtain ⟨rfl, rfl⟩ := e0
   refine .seq (.draw [7, 10] [[0, 1, 2, 3, 4, 5, 6, 7], [8, 9, 10]] mixed (by kernel_rfl) (.go [ptc bx _ _, ptc x _ _] (by repeat' constructor) (.k rfl (.move rfl) (.k rfl (.nilp rfl) (.k rfl (.fieldAddr rfl fo_110_0) (.k rfl (.ld rfl ag_107) (.k rfl (.move rfl) (.kv rfl (.fieldAddr rfl fo_43_3) (.kv rfl (.ld rfl ag_24) (.hh rfl (.c Tryz.func126 [_] (rrows_spec y.aclV y.acl p hy.acl hfew)) ?_))))))))))
   rintro v L' ⟨⟨a15, c15, rfl⟩, rfl⟩
   refine D.ph (.g0 (.kv rfl (.indexAddr rfl rfl el_107 (by omega)) (.kv rfl (.fieldAddr rfl fo_112_2) (.hh rfl (.storeRd (sz := 12) (j := k * 12 + 2) rfl rfl ?hv81 sz_24 ?ho82 ?hi83) ?_))))
   case hv81 => first | rfl | assumption
   case ho82 => omega
   case hi83 => omega
   rintro v L' rfl
   refine D.ph (.fin (.slCast (T := 112) (sz := 12) (m' := l.length) (xs' := (l.set k (l[k].1, (.slice a15 y.acl.length c15, { l[k].2.2 with acl := y.acl }))).flatMap rnC) (by repeat' constructor) rfl (flatMap_set (f := rnC) (sz := 12) (fun _ => rfl) (by simpa using hkl) (by decide) (by rfl)) (.then_n (.draw [10] [[0, 1, 2, 3, 4, 5, 6, 7, 8, 9, 10]] mixed (by kernel_rfl) (.g0 (.mv rfl rfl (.nf rfl rfl rfl fo_110_0 (.kv rfl (.ld rfl ag_107) (.mv rfl rfl (.kv rfl (.fieldAddr rfl fo_43_5) (.kv rfl (.ld rfl ag_3) (.kv rfl (.indexAddr rfl rfl el_107 (by omega)) (.kv rfl (.fieldAddr rfl fo_112_3) (.kv rfl (.fieldAddr rfl fo_37_5) (.hh rfl (.storeRd (sz := 12) (j := k * 12 + 8) rfl rfl ?hv94 sz_3 ?ho95 ?hi96) ?_)))))))))))))))
   case hv94 => first | rfl | assumption
   case ho95 => omega
   case hi96 => omega
   rintro v L' rfl
   refine D.ph (.fin (.slCast (T := 112) (sz := 12) (m' := l.length) (xs' := ((l.set k (l[k].1, (.slice a15 y.acl.length c15, { l[k].2.2 with acl := y.acl }))).set k (l[k].1, (.slice a15 y.acl.length c15, aclN y.acl y.num l[k].2.2))).flatMap rnC) (by repeat' constructor) rfl (flatMap_set (f := rnC) (sz := 12) (fun _ => rfl) (by simpa using hkl) (by decide) (by rw [List.getElem_set_self]; rfl)) ?_))
   rw [List.set_set]
   refine .toRd (v := .slice a15 y.acl.length c15) (by repeat' constructor) (.bigRep (l[k].1, (.slice a15 y.acl.length c15, aclN y.acl y.num l[k].2.2)) hkl (p := rdO 2 (.slice a15 y.acl.length c15) y.acl.length (y.acl.flatMap acC)) rfl (by repeat' constructor) (.rtFold (x := x) (τ := ({ τ with nodes := amod τ.nodes y.path (aclN y.acl y.num) } : Tr)) (l := (l.set k (l[k].1, (.slice a15 y.acl.length c15, aclN y.acl y.num l[k].2.2)))) (nds_mod hl hnd hkl hlk (aclN y.acl y.num) rfl) (by repeat' constructor) rfl (by simp) rfl rfl rfl (.blk_n (.then_n (.sr (.an rfl (.ret (.add (slR_nil 184 3) ?_))))))))
   have hc : partZ τ y zx = (({ τ with nodes := amod τ.nodes y.path (aclN y.acl y.num) } : Tr), []) := by unfold partZ; rw [if_neg h14, if_neg h20, if_neg (fun g => h26 g.1), if_pos ⟨h63, place_iff.1 h66⟩]
   refine .rfCast (x := x) (τ' := (partZ τ y zx).1) (by repeat' constructor) (by rw [hc]) (.slCast (T := 184) (sz := 3) (m' := (partZ τ y zx).2.length) (xs' := (partZ τ y zx).2.flatMap evC) (by repeat' constructor) (by (rw [hc]; try rfl)) (by (rw [hc]; try rfl)) ?_)
   exact .dn rfl rfl ⟨_, _, by (rw [hc]; try rfl), rfl⟩
  refine .skip (.blk_n (.then_n (.sr (.an rfl (.ret (.add (slR_nil 184 3) ?_))))))
  have hc : partZ τ y zx = (τ, []) := by unfold partZ; rw [if_neg h14, if_neg h20, if_neg (fun g => h26 g.1), if_neg (fun g => h66 (place_iff.2 g.2))]
  refine .rfCast (x := x) (τ' := (partZ τ y zx).1) (by repeat' constructor) (by rw [hc]) (.slCast (T := 184) (sz := 3) (m' := (partZ τ y zx).2.length) (xs' := (partZ τ y zx).2.flatMap evC) (by repeat' constructor) (by (rw [hc]; try rfl)) (by (rw [hc]; try rfl)) ?_)
  exact .dn rfl rfl ⟨_, _, by (rw [hc]; try rfl), rfl⟩
 refine .skip (.blk_n (.then_n (.sr (.an rfl (.ret (.add (slR_nil 184 3) ?_))))))
 have hc : partZ τ y zx = (τ, []) := by unfold partZ; rw [if_neg h14, if_neg h20, if_neg (fun g => h26 g.1), if_neg (fun g => h63 g.1)]
 refine .rfCast (x := x) (τ' := (partZ τ y zx).1) (by repeat' constructor) (by rw [hc]) (.slCast (T := 184) (sz := 3) (m' := (partZ τ y zx).2.length) (xs' := (partZ τ y zx).2.flatMap evC) (by repeat' constructor) (by (rw [hc]; try rfl)) (by (rw [hc]; try rfl)) ?_)
 exact .dn rfl rfl ⟨_, _, by (rw [hc]; try rfl), rfl⟩
theorem rs_cells (z : Int × (Int × Bs)) : ∀ y ∈ (Value.agg (rsC z).toArray).cells.toList, isCell y = true := by
 intro v hv
 simp only [Value.cells, rsC, List.mem_cons, List.not_mem_nil, or_false] at hv
 rcases hv with rfl | rfl | rfl <;> rfl
theorem rsl_cells (l : SsM) : ∀ y ∈ l.flatMap rsC, isCell y = true := by
 intro y hy
 obtain ⟨a, -, h⟩ := List.mem_flatMap.1 hy
 simp only [rsC, List.mem_cons, List.not_mem_nil, or_false] at h
 rcases h with rfl | rfl | rfl <;> rfl
theorem rdrop_spec (x : Nat) (τ : Tr) (id : Int) (hN : τ.sess.length ≤ 1073741824) : Fn Tryz.prog 78 #[vptr x, vint id] [refR x τ] fun v L => v = .tuple #[] ∧ L = [refR x (dropS τ id)] := by
 refine Fn.intro Tryz.func78 rfl rfl fun F W => ?_
 refine .rtOpen (x := x) (τ := τ) (by repeat' constructor) fun an cn as1 cs l hl => (.add (slR_nil 122 3) (.sr (.an rfl (.seq (.sr (.an rfl (.block (.loopK (ι := Nat × Value) (fun q E => (5, vint q.1) :: (4, q.2) :: E) (fun q => [rsR q.2 ((τ.sess.take q.1).filter fun w => !decide (w.1 = id))]) (fun q => q.1 ≤ τ.sess.length ∧ ∃ a c, q.2 = .slice a ((τ.sess.take q.1).filter fun w => !decide (w.1 = id)).length c) (fun q => τ.sess.length - q.1) (0, .slice none 0 0) (ts := [0, 1]) (.cons rfl (.cons rfl (.nil))) (⟨Nat.zero_le _, none, 0, rfl⟩) ⟨rfl, rfl, rfl, rfl, trivial⟩ (by repeat' constructor) ?_))))))))
 rintro ⟨i, u⟩ ⟨hi, au, cu, hu⟩
 dsimp only
 dsimp only at hi hu
 subst hu
 have hfl := List.length_filter_le (fun w : Int × (Int × Bs) => !decide (w.1 = id)) (τ.sess.take i)
 rw [List.length_take] at hfl
 refine .seq (.sm rfl (.m rfl (.nf rfl fo_110_1 (.u (.ld rfl ag_108) (.q (.slen rfl Tryz.underlying108 rfl) rfl (.ui rfl rfl rfl (.nt (.condD rfl (fun h12 => ?_) (fun h12 => ?_)))))))))
 ·have hi2 : i < τ.sess.length := by omega
  refine .slShape (T := 122) (sz := 3) (v := .slice as1 τ.sess.length cs) (xs := τ.sess.flatMap rsC) (by repeat' constructor) (by omega) fun bs bs' e0 mbs _ => ?_
  simp only [Value.slice.injEq, true_and] at e0
  obtain ⟨rfl, rfl⟩ := e0
  refine .sk (.seq (.block (.sm rfl (.nf rfl fo_110_1 (.u (.ld rfl ag_108) (.m rfl (.q (.indexAddr rfl rfl el_108 (by omega)) rfl (.u (.fieldAddr rfl fo_122_0) (.q (.loadRd (sz := 3) (j := i * 3 + 0) (p := rsR _ τ.sess) rfl ag_3 (by repeat' constructor) (fun h hp => slR_rd hp) (by omega) ((rs_cell (l := τ.sess) (i := i) (k := 0) (by omega) (by decide)).trans rfl)) rfl (.m rfl (.ui rfl rfl rfl (.nt (.condN rfl (fun h24 => ?_) (fun h24 => ?_))))))))))))))
  ·refine .region (.m rfl (.m rfl (.nf rfl fo_110_1 (.u (.ld rfl ag_108) (.m rfl (.q (.indexAddr rfl rfl el_108 (by omega)) rfl (.q (.loadRdA (sz := 3) (j := i * 3) (k := 3) (p := rsR _ τ.sess) (vs := rsC τ.sess[i]) rfl ag_122 (by repeat' constructor) (fun h hp => slR_rd hp) (by omega) (by omega) (by omega) (flatMap_at (f := rsC) (sz := 3) (fun _ _ => rfl) (by omega))) rfl (.oq (.buildSlice (vs := [_]) el_108 ze_122 rfl rfl rfl rfl (by first | (simp [Value.cells]; done) | (intro v hv; simp only [List.mem_cons, List.not_mem_nil, or_false] at hv; (repeat (first | (subst hv; rfl) | (rcases hv with hv | hv; (subst hv; rfl)))))) (by decide)) ?_))))))))
   rintro v L' ⟨b5_8, rfl, rfl⟩
   refine .oq (.append1 rfl rfl rfl el_108 ze_122 rfl rfl ?c30 ?c31 (Nat.le_refl _) ?c32 (by decide)) ?_
   case c30 => first | exact rs_cells _ | (simp only [List.map_cons, List.map_nil, List.flatten_cons, List.flatten_nil, List.append_nil]; exact rs_cells _)
   case c31 => rfl
   case c32 => first | omega | (simp; omega)
   rintro v L' ⟨⟨a5_9, c5_9, rfl⟩, rfl⟩
   refine .a rfl (.nil (.blk_n (.then_n (.region (.m rfl (.q (.add rfl rfl (by omega)) rfl (.an rfl ?_)))))))
   have hst : ((τ.sess.take (i + 1)).filter fun w => !decide (w.1 = id)) = ((τ.sess.take i).filter fun w => !decide (w.1 = id)) ++ [τ.sess[i]] := by rw [List.take_succ_eq_append_getElem hi2, List.filter_append]; simp [show ¬ τ.sess[i].1 = id from h24]
   rw [show ((τ.sess.take i).filter fun w => !decide (w.1 = id)).length + 1 = ((τ.sess.take (i + 1)).filter fun w => !decide (w.1 = id)).length by rw [hst, List.length_append]; rfl]
   refine .slCast (T := 122) (sz := 3) (m' := ((τ.sess.take (i + 1)).filter fun w => !decide (w.1 = id)).length) (xs' := ((τ.sess.take (i + 1)).filter fun w => !decide (w.1 = id)).flatMap rsC) (by repeat' constructor) rfl (by rw [hst, List.flatMap_append]; simp; rfl) ?_
   exact .rk ((i + 1, .slice a5_9 ((τ.sess.take (i + 1)).filter fun w => !decide (w.1 = id)).length c5_9)) (⟨by dsimp only; omega, _, _, rfl⟩) (by dsimp only; omega) ⟨rfl, rfl, rfl, rfl, trivial⟩
  refine .skip (.blk_n (.then_n (.region (.m rfl (.q (.add rfl rfl (by omega)) rfl (.an rfl ?_))))))
  have hst : ((τ.sess.take (i + 1)).filter fun w => !decide (w.1 = id)) = ((τ.sess.take i).filter fun w => !decide (w.1 = id)) := by rw [List.take_succ_eq_append_getElem hi2, List.filter_append]; simp [show τ.sess[i].1 = id from h24]
  rw [← hst]
  exact .rk ((i + 1, .slice au ((τ.sess.take (i + 1)).filter fun w => !decide (w.1 = id)).length cu)) (⟨by dsimp only; omega, _, _, rfl⟩) (by dsimp only; omega) ⟨rfl, rfl, rfl, rfl, trivial⟩
 have hii : i = τ.sess.length := by omega
 subst hii
 rw [List.take_length]
 refine .exit (.then_e (.then_e (.blk_e (.then_n (.region (.m rfl (.m rfl (.nf rfl fo_110_1 (.st rfl rfl rfl sz_108 ?_)))))))))
 refine .nil (.done_n (.rtFold (x := x) (τ := (dropS τ id)) (l := l) hl (by repeat' constructor) rfl rfl rfl rfl rfl ?_))
 exact .vv
theorem ropen_spec (x : Nat) (τ : Tr) (id n : Int) (s : Bs) (N : Nat) (ho : τ.Ok N) (hN : τ.sess.length ≤ 1073741824) : Fn Tryz.prog 77 #[vptr x, .agg (rsC (id, (n, s))).toArray] [refR x τ] fun v L => v = .tuple #[] ∧ L = [refR x (openS τ id n s)] := by
 refine Fn.intro Tryz.func77 rfl rfl fun F W => ?_
 have hsl : (dropS τ id).sess.length ≤ τ.sess.length := List.length_filter_le _ _
 refine .sr (.oq (.box rfl) ?_)
 rintro v L' ⟨bz, rfl, rfl⟩
 refine .nil (.ptCast (b := bz) (l' := rsC (id, (n, s))) (by repeat' constructor) rfl (.then_n (.sm rfl (.u (.fieldAddr rfl fo_122_0) (.u (.ld rfl ag_3) (.cv Tryz.func78 [_, _] (rdrop_spec x τ id hN) ?_))))))
 refine .nt (.seq (.rtOpen (x := x) (τ := (dropS τ id)) (by repeat' constructor) fun an cn as1 cs l hl => (.region (.slForm (T := 122) (sz := 3) (a := as1) (m := (dropS τ id).sess.length) (c := cs) (by repeat' constructor) (fun e0 e1 e2 => ?_) (fun bs e0 e1 => ?_)))))
 ·subst e0
  refine .an rfl (.seq (.joinK (ι := Nat) (fun q E => (4, vint q) :: E) (fun q => []) (fun q => q ≤ (dropS τ id).sess.length ∧ (∀ w ∈ ((dropS τ id).sess.take q), w.1 < id) ∧ ∀ h : q < (dropS τ id).sess.length, ¬ (dropS τ id).sess[q].1 < id) (pre := []) (ts := [0, 3]) (.cons rfl (.cons rfl (.nil))) (by repeat' constructor) ?_ ?_))
  ·refine .block (.loopK (ι := Nat) (fun q E => (4, vint q) :: E) (fun q => []) (fun q => q ≤ (dropS τ id).sess.length ∧ ∀ w ∈ ((dropS τ id).sess.take q), w.1 < id) (fun q => (dropS τ id).sess.length - q) (0) (ts := [0, 3]) (.cons rfl (.cons rfl (.nil))) (⟨Nat.zero_le _, by simp⟩) ⟨rfl, rfl, rfl, trivial⟩ (by repeat' constructor) ?_)
   rintro i ⟨hi, hlow⟩
   refine .seq (.seq (.draw [] [[0, 1, 2, 3, 4, 5, 6, 7, 8, 9, 10, 11, 12, 13, 14, 15, 16, 17, 18, 19]] mixed (by kernel_rfl) (.g0 (.mv rfl rfl (.mv rfl rfl (.nf rfl rfl rfl fo_110_1 (.kv rfl (.ld rfl ag_108) (.kv rfl (.slen rfl Tryz.underlying108 rfl) (.kv rfl (.int rfl rfl rfl) (.mv rfl rfl (.dec (t := 17) rfl (fun h3_17 => ?_) (fun h3_17 => ?_))))))))))))
   ·exfalso; omega
   refine D.kDF (t := 16) rfl h3_17 (.gz rfl (.gz rfl (.gz rfl (.gz rfl (.gz rfl (.gz rfl (.gz rfl (.gz rfl (.gz rfl (.gz rfl (.gz rfl (.kv rfl (.pickF rfl rfl) (.pf (.condF rfl (.exit (.then_e (.then_e (.blk_e (.then_n ?_)))))))))))))))))))
   exact .mk (i) (⟨hi, hlow, fun h => absurd h (by omega)⟩) ⟨rfl, rfl, rfl, trivial⟩
  rintro i ⟨hi, hlow, hhigh⟩
  refine .seq (.add (slR_nil 122 3) (.region (.an rfl (.seq ?_))))
  have hadr : (none : Option Addr) = none ∨ ∃ b off, (none : Option Addr) = some (⟨b, off, none⟩ : Addr) := .inl rfl
  refine .region (.m rfl (.m rfl (.nf rfl fo_110_1 (.u (.ld rfl ag_108) (.m rfl (.q (.to (v' := .slice (none : Option Addr) i cs) (.slTo (j := (i : Int)) rfl el_108 rfl (by omega) hadr) (by rw [Int.toNat_natCast])) rfl (.oq (.append (n := 0) (m := i) (ys := ((dropS τ id).sess.take i).flatMap rsC) (p := slR 122 3 (.slice (none : Option Addr) (dropS τ id).sess.length cs) (dropS τ id).sess.length ((dropS τ id).sess.flatMap rsC)) rfl rfl rfl el_108 (.inl ⟨_, Tryz.underlying108⟩) ze_122 rfl rfl ?hc24 ?hr25 ?hb26 (by decide)) ?_)))))))
  case hc24 => exact rsl_cells _
  case hr25 => exact fun h hp => by have := slR_rd_to hi hp; rw [(flat_take (f := rsC) (sz := 3) (fun _ => rfl) _ i).1] at this; exact this
  case hb26 => omega
  rintro v L' ⟨⟨a6, c6, rfl⟩, rfl⟩; rw [Nat.zero_add, List.nil_append]
  refine .an rfl (.sm rfl (.q (.loadAs (vs := rsC (id, (n, s))) rfl ag_122 (by repeat' constructor) (by simp [rsC]) rfl) rfl (.oq (.buildSlice (vs := [_]) el_108 ze_122 rfl rfl rfl rfl (by first | (simp [Value.cells]; done) | (intro v hv; simp only [List.mem_cons, List.not_mem_nil, or_false] at hv; (repeat (first | (subst hv; rfl) | (rcases hv with hv | hv; (subst hv; rfl)))))) (by decide)) ?_)))
  rintro v L' ⟨b7_2, rfl, rfl⟩
  refine .oq (.append1 rfl rfl rfl el_108 ze_122 rfl rfl ?c32 ?c33 (Nat.le_refl _) ?c34 (by decide)) ?_
  case c32 => first | exact rs_cells _ | (simp only [List.map_cons, List.map_nil, List.flatten_cons, List.flatten_nil, List.append_nil]; exact rs_cells _)
  case c33 => rfl
  case c34 => first | omega | (simp; omega)
  rintro v L' ⟨⟨a7_3, c7_3, rfl⟩, rfl⟩
  refine .a rfl (.nil (.slCast (T := 122) (sz := 3) (m' := i + 1) (xs' := (((dropS τ id).sess.take i) ++ [(id, (n, s))]).flatMap rsC) (by repeat' constructor) rfl (by rw [List.flatMap_append]; simp; rfl) (.then_n (.region (.m rfl (.m rfl (.m rfl (.nf rfl fo_110_1 (.u (.ld rfl ag_108) (.m rfl (.q (.slFromO (i := (i : Int)) rfl el_108 rfl (by omega)) rfl (.oq (.append (n := i + 1) (m := (dropS τ id).sess.length - (i : Int).toNat) (ys := ((dropS τ id).sess.drop i).flatMap rsC) (p := slR 122 3 (.slice (none : Option Addr) (dropS τ id).sess.length cs) (dropS τ id).sess.length ((dropS τ id).sess.flatMap rsC)) rfl rfl rfl el_108 (.inl ⟨_, Tryz.underlying108⟩) ze_122 rfl rfl ?hc44 ?hr45 ?hb46 (by decide)) ?_))))))))))))
  case hc44 => exact rsl_cells _
  case hr45 => exact fun h hp => by rw [Int.toNat_natCast]; have := slR_rd_from hi hp; rw [(flat_take (f := rsC) (sz := 3) (fun _ => rfl) _ i).2] at this; exact this
  case hb46 => omega
  rintro v L' ⟨⟨a8, c8, rfl⟩, rfl⟩
  refine .nf rfl fo_110_1 (.st rfl rfl rfl sz_108 ?_)
  refine .nil (.done_n ?_)
  have hfin : ((dropS τ id).sess.take i) ++ [(id, (n, s))] ++ ((dropS τ id).sess.drop i) = (openS τ id n s).sess := by rw [sset_at hi hlow hhigh (fun w hw => by have := (List.mem_filter.1 hw).2; simpa using this), ← open_drop ho id n s]; rfl
  have hlen : i + 1 + ((dropS τ id).sess.length - (i : Int).toNat) = (openS τ id n s).sess.length := by rw [← hfin]; simp; omega
  refine .rtFold (x := x) (τ := (openS τ id n s)) (l := l) hl (by repeat' constructor) rfl rfl rfl hlen (by rw [← List.flatMap_append, hfin]) ?_
  exact .vv
 subst e0
 refine .an rfl (.seq (.joinK (ι := Nat) (fun q E => (4, vint q) :: E) (fun q => []) (fun q => q ≤ (dropS τ id).sess.length ∧ (∀ w ∈ ((dropS τ id).sess.take q), w.1 < id) ∧ ∀ h : q < (dropS τ id).sess.length, ¬ (dropS τ id).sess[q].1 < id) (pre := []) (ts := [0, 3]) (.cons rfl (.cons rfl (.nil))) (by repeat' constructor) ?_ ?_))
 ·refine .block (.loopK (ι := Nat) (fun q E => (4, vint q) :: E) (fun q => []) (fun q => q ≤ (dropS τ id).sess.length ∧ ∀ w ∈ ((dropS τ id).sess.take q), w.1 < id) (fun q => (dropS τ id).sess.length - q) (0) (ts := [0, 3]) (.cons rfl (.cons rfl (.nil))) (⟨Nat.zero_le _, by simp⟩) ⟨rfl, rfl, rfl, trivial⟩ (by repeat' constructor) ?_)
  rintro i ⟨hi, hlow⟩
  refine .seq (.seq (.draw [] [[0, 1, 2, 3, 4, 5, 6, 7, 8, 9, 10, 11, 12, 13, 14, 15, 16, 17, 18, 19]] mixed (by kernel_rfl) (.g0 (.mv rfl rfl (.mv rfl rfl (.nf rfl rfl rfl fo_110_1 (.kv rfl (.ld rfl ag_108) (.kv rfl (.slen rfl Tryz.underlying108 rfl) (.kv rfl (.int rfl rfl rfl) (.mv rfl rfl (.dec (t := 17) rfl (fun h3_17 => ?_) (fun h3_17 => ?_))))))))))))
  ·have hi2 : i < (dropS τ id).sess.length := by omega
   refine D.kDT (t := 16) rfl h3_17 (.gv rfl (.move rfl) (.gv rfl (.nilp rfl) (.gv rfl (.fieldAddr rfl fo_110_1) (.gv rfl (.ld rfl ag_108) (.gv rfl (.move rfl) (.gv rfl (.indexAddr rfl rfl el_108 (by omega)) (.gv rfl (.fieldAddr rfl fo_122_0) (.gv rfl (.loadRd (sz := 3) (j := i * 3 + 0) (p := rsR _ (dropS τ id).sess) rfl ag_3 (by repeat' constructor) (fun h hp => slR_rd hp) (by omega) ((rs_cell (l := (dropS τ id).sess) (i := i) (k := 0) (by omega) (by decide)).trans rfl)) (.gv rfl (.fieldAddr rfl fo_122_0) (.gv rfl (.load rfl ag_3 (by repeat' constructor) rfl) (.gv rfl (.int rfl rfl rfl) (.kv rfl (.pickT rfl rfl) (.pf (.condD rfl (fun h29 => ?_) (fun h29 => ?_)))))))))))))))
   ·refine .sk (.block (.region (.m rfl (.q (.add rfl rfl (by omega)) rfl (.a rfl (.nil (.blk_n (.then_n ?_))))))))
    exact .rk (i + 1) (⟨by omega, fun w hw => by rw [List.take_succ_eq_append_getElem hi2] at hw; rcases List.mem_append.1 hw with hw | hw; (exact hlow w hw); (rw [List.mem_singleton] at hw; rw [hw]; exact h29)⟩) (by omega) ⟨rfl, rfl, rfl, trivial⟩
   refine .exit (.then_e (.then_e (.blk_e (.then_n ?_))))
   exact .mk (i) (⟨hi, hlow, fun h => h29⟩) ⟨rfl, rfl, rfl, trivial⟩
  refine D.kDF (t := 16) rfl h3_17 (.gz rfl (.gz rfl (.gz rfl (.gz rfl (.gz rfl (.gz rfl (.gz rfl (.gz rfl (.gz rfl (.gz rfl (.gz rfl (.kv rfl (.pickF rfl rfl) (.pf (.condF rfl (.exit (.then_e (.then_e (.blk_e (.then_n ?_)))))))))))))))))))
  exact .mk (i) (⟨hi, hlow, fun h => absurd h (by omega)⟩) ⟨rfl, rfl, rfl, trivial⟩
 rintro i ⟨hi, hlow, hhigh⟩
 refine .seq (.add (slR_nil 122 3) (.region (.an rfl (.seq ?_))))
 have hadr : (some (⟨bs, 0, none⟩ : Addr)) = none ∨ ∃ b off, (some (⟨bs, 0, none⟩ : Addr)) = some (⟨b, off, none⟩ : Addr) := .inr ⟨_, _, rfl⟩
 refine .region (.m rfl (.m rfl (.nf rfl fo_110_1 (.u (.ld rfl ag_108) (.m rfl (.q (.to (v' := .slice (some (⟨bs, 0, none⟩ : Addr)) i cs) (.slTo (j := (i : Int)) rfl el_108 rfl (by omega) hadr) (by rw [Int.toNat_natCast])) rfl (.oq (.append (n := 0) (m := i) (ys := ((dropS τ id).sess.take i).flatMap rsC) (p := slR 122 3 (.slice (some (⟨bs, 0, none⟩ : Addr)) (dropS τ id).sess.length cs) (dropS τ id).sess.length ((dropS τ id).sess.flatMap rsC)) rfl rfl rfl el_108 (.inl ⟨_, Tryz.underlying108⟩) ze_122 rfl rfl ?hc83 ?hr84 ?hb85 (by decide)) ?_)))))))
 case hc83 => exact rsl_cells _
 case hr84 => exact fun h hp => by have := slR_rd_to hi hp; rw [(flat_take (f := rsC) (sz := 3) (fun _ => rfl) _ i).1] at this; exact this
 case hb85 => omega
 rintro v L' ⟨⟨a6, c6, rfl⟩, rfl⟩; rw [Nat.zero_add, List.nil_append]
 refine .an rfl (.sm rfl (.q (.loadAs (vs := rsC (id, (n, s))) rfl ag_122 (by repeat' constructor) (by simp [rsC]) rfl) rfl (.oq (.buildSlice (vs := [_]) el_108 ze_122 rfl rfl rfl rfl (by first | (simp [Value.cells]; done) | (intro v hv; simp only [List.mem_cons, List.not_mem_nil, or_false] at hv; (repeat (first | (subst hv; rfl) | (rcases hv with hv | hv; (subst hv; rfl)))))) (by decide)) ?_)))
 rintro v L' ⟨b7_2, rfl, rfl⟩
 refine .oq (.append1 rfl rfl rfl el_108 ze_122 rfl rfl ?c91 ?c92 (Nat.le_refl _) ?c93 (by decide)) ?_
 case c91 => first | exact rs_cells _ | (simp only [List.map_cons, List.map_nil, List.flatten_cons, List.flatten_nil, List.append_nil]; exact rs_cells _)
 case c92 => rfl
 case c93 => first | omega | (simp; omega)
 rintro v L' ⟨⟨a7_3, c7_3, rfl⟩, rfl⟩
 refine .a rfl (.nil (.slCast (T := 122) (sz := 3) (m' := i + 1) (xs' := (((dropS τ id).sess.take i) ++ [(id, (n, s))]).flatMap rsC) (by repeat' constructor) rfl (by rw [List.flatMap_append]; simp; rfl) (.then_n (.region (.m rfl (.m rfl (.m rfl (.nf rfl fo_110_1 (.u (.ld rfl ag_108) (.m rfl (.q (.slFromO (i := (i : Int)) rfl el_108 rfl (by omega)) rfl (.oq (.append (n := i + 1) (m := (dropS τ id).sess.length - (i : Int).toNat) (ys := ((dropS τ id).sess.drop i).flatMap rsC) (p := slR 122 3 (.slice (some (⟨bs, 0, none⟩ : Addr)) (dropS τ id).sess.length cs) (dropS τ id).sess.length ((dropS τ id).sess.flatMap rsC)) rfl rfl rfl el_108 (.inl ⟨_, Tryz.underlying108⟩) ze_122 rfl rfl ?hc103 ?hr104 ?hb105 (by decide)) ?_))))))))))))
 case hc103 => exact rsl_cells _
 case hr104 => exact fun h hp => by rw [Int.toNat_natCast]; have := slR_rd_from hi hp; rw [(flat_take (f := rsC) (sz := 3) (fun _ => rfl) _ i).2] at this; exact this
 case hb105 => omega
 rintro v L' ⟨⟨a8, c8, rfl⟩, rfl⟩
 refine .nf rfl fo_110_1 (.st rfl rfl rfl sz_108 ?_)
 refine .nil (.done_n ?_)
 have hfin : ((dropS τ id).sess.take i) ++ [(id, (n, s))] ++ ((dropS τ id).sess.drop i) = (openS τ id n s).sess := by rw [sset_at hi hlow hhigh (fun w hw => by have := (List.mem_filter.1 hw).2; simpa using this), ← open_drop ho id n s]; rfl
 have hlen : i + 1 + ((dropS τ id).sess.length - (i : Int).toNat) = (openS τ id n s).sess.length := by rw [← hfin]; simp; omega
 refine .rtFold (x := x) (τ := (openS τ id n s)) (l := l) hl (by repeat' constructor) rfl rfl rfl hlen (by rw [← List.flatMap_append, hfin]) ?_
 exact .vv
def applyZ0 (τ : Tr) (zx : Int) (x : Pt) (subs : List Pt) : Tr × (List Ev × Int) :=
 if x.kind = 5 then (if 0 < x.own then openS τ x.own x.num x.data else τ, ([], 0))
 else if x.kind = 6 then (dropS (partsZ τ zx (subs.filter isDel)).1 x.own, ((partsZ τ zx (subs.filter isDel)).2, 0))
 else if x.kind = 7 then ((partsZ τ zx subs).1, ((partsZ τ zx subs).2, 0))
 else if x.kind = 8 then (τ, ([], x.err))
 else ((partZ τ x zx).1, ((partZ τ x zx).2, 0))
theorem part_zx (τ : Tr) (x : Pt) (zx z : Int) : partZ (zxT τ z) x zx = (zxT (partZ τ x zx).1 z, (partZ τ x zx).2) := by
 unfold partZ createZ eraseZ
 have h : ∀ p, thereT (zxT τ z) p ↔ thereT τ p := fun p => Iff.rfl
 simp only [h]
 repeat' split
 all_goals first | rfl | contradiction
theorem parts_zx (τ : Tr) (zx z : Int) (l : List Pt) : partsZ (zxT τ z) zx l = (zxT (partsZ τ zx l).1 z, (partsZ τ zx l).2) := by
 have key : ∀ (l : List Pt) (r : Tr × List Ev), l.foldl (fun r x => ((partZ r.1 x zx).1, r.2 ++ (partZ r.1 x zx).2)) (zxT r.1 z, r.2) = (zxT (l.foldl (fun r x => ((partZ r.1 x zx).1, r.2 ++ (partZ r.1 x zx).2)) r).1 z, (l.foldl (fun r x => ((partZ r.1 x zx).1, r.2 ++ (partZ r.1 x zx).2)) r).2) := by
  intro l
  induction l with
  | nil => intro r; rfl
  | cons x l ih =>
   intro r
   rw [List.foldl_cons, List.foldl_cons]
   dsimp only
   rw [part_zx]
   exact ih ((partZ r.1 x zx).1, r.2 ++ (partZ r.1 x zx).2)
 exact key l (τ, [])
theorem apply_zx (τ : Tr) (zx : Int) (x : Pt) (subs : List Pt) : applyZ τ zx x subs = (zxT (applyZ0 τ zx x subs).1 zx, (applyZ0 τ zx x subs).2) := by
 unfold applyZ applyZ0
 dsimp only
 rw [part_zx, parts_zx, parts_zx]
 repeat' split
 all_goals rfl
theorem rapply_spec (x : Nat) (τ : Tr) (zx ses xid : Int) (y : Pt) (subs : List Pt) (p : HP) (hx : TxA p y subs) (N : Nat) (ho : τ.Ok N) (hN : N + subs.length + 1 ≤ 1073741824) : Fn Tryz.prog 34 #[vptr x, .agg ([vint zx, vint ses, vint xid] ++ ptC y).toArray] [refR x τ, p] fun v L => ∃ u e, v = .tuple #[u, vint e] ∧ e = (applyZ τ zx y subs).2.2 ∧ (∃ a c, u = .slice a (applyZ τ zx y subs).2.1.length c) ∧ L = [refR x (applyZ τ zx y subs).1, p, slR 184 3 u (applyZ τ zx y subs).2.1.length ((applyZ τ zx y subs).2.1.flatMap evC)] := by
 refine Fn.intro Tryz.func34 rfl rfl fun F W => ?_
 refine .rdAny (p := p) hx.rd (by repeat' constructor) fun asb csb esub _ => ?_
 have hrd := hx.rd
 rw [esub] at hrd
 have hfs := hx.few
 have hosf := ho.sfew
 refine .sr (.oq (.box rfl) ?_)
 rintro v L' ⟨be, rfl, rfl⟩
 refine .a rfl (.a rfl (.nil (.ptCast (b := be) (l' := ([vint zx, vint ses, vint xid] ++ ptC y)) (by repeat' constructor) rfl (.then_n (.sr (.u (.fieldAddr rfl fo_54_3) (.q (.loadAs (vs := ptC y) rfl ag_43 (by repeat' constructor) (by simp [ptC]) rfl) rfl (.oq (.allocA ze_43) ?_))))))))
 rintro v L' ⟨bx, rfl, rfl⟩
 refine .oq (.storeA rfl rfl ?c9 sz_43 ?c12 ?c10 (nfz0 _ _)) ?_
 case c9 => exact hx.own.all
 case c12 => rfl
 case c10 => simp [ptC]
 rintro v L' rfl
 refine .nil (.ptCast (b := bx) (l' := ptC y) (by repeat' constructor) rfl (.then_n (.sr (.an rfl (.sr (.an rfl (.seq (.sr (.u (.fieldAddr rfl fo_43_0) (.u (.ld rfl ag_3) (.nt (.block (.sr (.ui rfl rfl rfl (.an rfl (.condD rfl (fun h20 => ?_) (fun h20 => ?_)))))))))))))))))
 ·refine .sr (.u (.fieldAddr rfl fo_43_4) (.u (.ld rfl ag_3) (.ui rfl rfl rfl (.nt (.condD rfl (fun h24 => ?_) (fun h24 => ?_))))))
  ·refine .region (.m rfl (.u (.fieldAddr rfl fo_43_4) (.u (.ld rfl ag_3) (.u (.fieldAddr rfl fo_43_5) (.u (.ld rfl ag_3) (.u (.fieldAddr rfl fo_43_2) (.u (.ld rfl ag_9) (.q (.to (v' := .agg (rsC (y.own, (y.num, y.data))).toArray) (.build (us := [(0, _), (1, _), (2, _)]) fl_122 ze_122 rfl rfl (by simp [isCell])) rfl) rfl (.cv Tryz.func77 [_, _] (ropen_spec x τ y.own y.num y.data N ho (by omega)) ?_)))))))))
   refine .nil (.blk_n (.then_n (.seq (.add (slR_nil 184 3) ?_))))
   have hz : (applyZ τ zx y subs) = (zxT (openS τ y.own y.num y.data) zx, ([], 0)) := by rw [apply_zx]; unfold applyZ0; rw [if_pos h20, if_pos (show 0 < y.own by omega)]
   refine .rtOpen (x := x) (τ := (openS τ y.own y.num y.data)) (by repeat' constructor) fun an cn as1 cs l hl => (.region (.m rfl (.u (.fieldAddr rfl fo_54_0) (.u (.ld rfl ag_3) (.nf rfl fo_110_2 (.st rfl rfl rfl sz_3 ?_))))))
   refine .nil (.rtFold (x := x) (τ := (zxT (openS τ y.own y.num y.data) zx)) (l := l) hl (by repeat' constructor) rfl rfl rfl rfl rfl (.then_n (.sm rfl (.m rfl (.a rfl (.an rfl (.ret (.rfCast (x := x) (τ' := (applyZ τ zx y subs).1) (by repeat' constructor) (by rw [hz]) (.slCast (T := 184) (sz := 3) (m' := (applyZ τ zx y subs).2.1.length) (xs' := (applyZ τ zx y subs).2.1.flatMap evC) (by repeat' constructor) (by (rw [hz]; try rfl)) (by (rw [hz]; try rfl)) ?_)))))))))
   exact .dn rfl rfl ⟨_, _, rfl, by rw [hz], ⟨_, _, by (rw [hz]; try rfl)⟩, rfl⟩
  refine .skip (.blk_n (.then_n (.seq (.add (slR_nil 184 3) ?_))))
  have hz : (applyZ τ zx y subs) = (zxT (τ) zx, ([], 0)) := by rw [apply_zx]; unfold applyZ0; rw [if_pos h20, if_neg (show ¬ 0 < y.own by omega)]
  refine .rtOpen (x := x) (τ := (τ)) (by repeat' constructor) fun an cn as1 cs l hl => (.region (.m rfl (.u (.fieldAddr rfl fo_54_0) (.u (.ld rfl ag_3) (.nf rfl fo_110_2 (.st rfl rfl rfl sz_3 ?_))))))
  refine .nil (.rtFold (x := x) (τ := (zxT (τ) zx)) (l := l) hl (by repeat' constructor) rfl rfl rfl rfl rfl (.then_n (.sm rfl (.m rfl (.a rfl (.an rfl (.ret (.rfCast (x := x) (τ' := (applyZ τ zx y subs).1) (by repeat' constructor) (by rw [hz]) (.slCast (T := 184) (sz := 3) (m' := (applyZ τ zx y subs).2.1.length) (xs' := (applyZ τ zx y subs).2.1.flatMap evC) (by repeat' constructor) (by (rw [hz]; try rfl)) (by (rw [hz]; try rfl)) ?_)))))))))
  exact .dn rfl rfl ⟨_, _, rfl, by rw [hz], ⟨_, _, by (rw [hz]; try rfl)⟩, rfl⟩
 refine .seq (.sr ?_)
 rcases Decidable.em (y.kind = 6) with hk6 | hk6
 ·refine .q (.as (v' := .bool true) (by exact congrArg Value.bool (decide_eq_true hk6)) (.int rfl rfl rfl)) rfl (.an rfl (.condT rfl (.sk (.condT rfl (.seq (.sr (.an rfl (.block (.add (slR_nil 184 3) (.rfCast (x := x) (τ' := (partsZ τ zx ((subs.take 0).filter isDel)).1) (by repeat' constructor) (by rw [List.take_zero]; rfl) (.slCast (T := 184) (sz := 3) (m' := (partsZ τ zx ((subs.take 0).filter isDel)).2.length) (xs' := (partsZ τ zx ((subs.take 0).filter isDel)).2.flatMap evC) (by repeat' constructor) (by rw [List.take_zero]; rfl) (by rw [List.take_zero]; rfl) (.loopK (ι := Nat × Value) (fun q E => (9, vint q.1) :: (7, q.2) :: E) (fun q => [refR x (partsZ τ zx ((subs.take q.1).filter isDel)).1, slR 184 3 q.2 (partsZ τ zx ((subs.take q.1).filter isDel)).2.length ((partsZ τ zx ((subs.take q.1).filter isDel)).2.flatMap evC)]) (fun q => q.1 ≤ subs.length ∧ ∃ a c, q.2 = .slice a (partsZ τ zx ((subs.take q.1).filter isDel)).2.length c) (fun q => subs.length - q.1) (0, .slice none 0 0) (ts := [0, 3, 4, 5, 6, 8]) (.cons rfl (.cons rfl (.cons rfl (.cons rfl (.cons rfl (.cons rfl (.nil))))))) (⟨Nat.zero_le _, none, 0, by rw [List.take_zero]; rfl⟩) ⟨rfl, rfl, rfl, rfl, rfl, rfl, rfl, rfl, trivial⟩ (by repeat' constructor) ?_))))))))))))
  rintro ⟨i, u⟩ ⟨hi, au, cu, hu⟩
  dsimp only
  dsimp only at hi hu
  subst hu
  have hev := parts_ev τ zx ((subs.take i).filter isDel)
  have hfl := List.length_filter_le isDel (subs.take i)
  rw [List.length_take] at hfl
  have hok : (partsZ τ zx ((subs.take i).filter isDel)).1.Ok (N + subs.length) := (ho.parts zx _ (fun w hw => (hx.each w (List.mem_of_mem_take (List.mem_filter.1 hw).1)).few)).more (by omega)
  refine .seq (.sm rfl (.u (.fieldAddr rfl fo_43_7) (.q (.as (v' := .slice asb subs.length csb) (by exact esub) (.ld rfl ag_41)) rfl (.q (.slen rfl Tryz.underlying41 rfl) rfl (.ui rfl rfl rfl (.nt (.condD rfl (fun h41 => ?_) (fun h41 => ?_))))))))
  ·have hi2 : i < subs.length := by omega
   refine .rdShape (p := p) hrd (by repeat' constructor) (by omega) fun bs os e1 => ?_
   subst e1
   have hys := hx.each _ (List.getElem_mem hi2)
   refine .sk (.seq (.block (.sr (.u (.fieldAddr rfl fo_43_0) (.u (.ld rfl ag_3) (.q (.as (v' := .bool false) (by exact congrArg Value.bool (decide_eq_false (by omega))) (.int rfl rfl rfl)) rfl (.m rfl (.grun (t := 47) rfl rfl rfl (.u (.fieldAddr rfl fo_43_7) (.grun (t := 47) rfl rfl rfl (.q (.as (v' := .slice (some ⟨bs, os, none⟩) subs.length csb) (by exact esub) (.ld rfl ag_41)) rfl (.grun (t := 47) rfl rfl rfl (.m rfl (.grun (t := 47) rfl rfl rfl (.q (.indexAddr rfl rfl el_41 (by omega)) rfl (.grun (t := 47) rfl rfl rfl (.u (.fieldAddr rfl fo_43_0) (.grun (t := 47) rfl rfl rfl (.q (.loadRd (sz := 8) (j := i * 8 + 0) (p := p) rfl ag_3 (by repeat' constructor) hrd (by omega) ((flatMap_cell (f := ptC) (sz := 8) (l := subs) (i := i) (k := 0) (fun _ _ => rfl) (by omega) (by decide)).trans rfl)) rfl ?_)))))))))))))))))))
   refine .grun (t := 47) rfl rfl rfl (.ui rfl rfl rfl (.u (.pickF rfl rfl) (.nt (.condD rfl (fun h55 => ?_) (fun h55 => ?_)))))
   ·refine .seq (.draw [8] [[0, 1, 2, 3, 4, 5, 6, 7, 8], [9]] mixed (by kernel_rfl) (.g0 (.mv rfl rfl (.kv rfl (.fieldAddr rfl fo_43_7) (.kv rfl (.as (v' := .slice (some ⟨bs, os, none⟩) subs.length csb) (by exact esub) (.ld rfl ag_41)) (.mv rfl rfl (.kv rfl (.indexAddr rfl rfl el_41 (by omega)) (.kv rfl (.loadRdA (sz := 8) (j := i * 8) (k := 8) (p := p) (vs := ptC subs[i]) rfl ag_43 (by repeat' constructor) hrd (by simp) (by omega) (by omega) (flatMap_at (f := ptC) (sz := 8) (fun _ _ => rfl) (by omega))) (.kv rfl (.fieldAddr rfl fo_54_0) (.kv rfl (.ld rfl ag_3) (.hh rfl (.c Tryz.func71 [_, _, _] (rpart_spec x (partsZ τ zx ((subs.take i).filter isDel)).1 subs[i] zx p hys (N + subs.length) hok (by omega))) ?_)))))))))))
    rintro v L' ⟨a15, c15, rfl, rfl⟩
    refine D.ph (.g0 (.kv rfl (.assign rfl) (.pf (.region (.m rfl (.m rfl (.oq (.append (n := (partsZ τ zx ((subs.take i).filter isDel)).2.length) (m := (partZ (partsZ τ zx ((subs.take i).filter isDel)).1 subs[i] zx).2.length) (ys := (partZ (partsZ τ zx ((subs.take i).filter isDel)).1 subs[i] zx).2.flatMap evC) (p := slR 184 3 (.slice a15 (partZ (partsZ τ zx ((subs.take i).filter isDel)).1 subs[i] zx).2.length c15) (partZ (partsZ τ zx ((subs.take i).filter isDel)).1 subs[i] zx).2.length ((partZ (partsZ τ zx ((subs.take i).filter isDel)).1 subs[i] zx).2.flatMap evC)) rfl rfl rfl el_71 (.inl ⟨_, Tryz.underlying71⟩) ze_184 rfl rfl ?hc76 ?hr77 ?hb78 (by decide)) ?_)))))))
    case hc76 => exact evC_cells _
    case hr77 => exact fun h hp => slR_rd hp
    case hb78 => have := part_ev (partsZ τ zx ((subs.take i).filter isDel)).1 subs[i] zx; omega
    rintro v L' ⟨⟨a16_2, c16_2, rfl⟩, rfl⟩
    refine .a rfl (.nil (.blk_n (.then_n (.region (.m rfl (.q (.add rfl rfl (by omega)) rfl (.an rfl ?_)))))))
    have hst := filter_take_yes (f := isDel) hi2 (by unfold isDel; rw [decide_eq_true h55])
    refine .rfCast (x := x) (τ' := (partsZ τ zx ((subs.take (i + 1)).filter isDel)).1) (by repeat' constructor) (by rw [hst, parts_snoc]) (.slCast (T := 184) (sz := 3) (m' := (partsZ τ zx ((subs.take (i + 1)).filter isDel)).2.length) (xs' := (partsZ τ zx ((subs.take (i + 1)).filter isDel)).2.flatMap evC) (by repeat' constructor) (by rw [hst, parts_snoc]; simp) (by rw [hst, parts_snoc]; simp) ?_)
    exact .rk ((i + 1, .slice a16_2 ((partsZ τ zx ((subs.take i).filter isDel)).2.length + (partZ (partsZ τ zx ((subs.take i).filter isDel)).1 subs[i] zx).2.length) c16_2)) (⟨by dsimp only; omega, _, _, by rw [hst, parts_snoc, List.length_append]⟩) (by dsimp only; omega) ⟨rfl, rfl, rfl, rfl, rfl, rfl, rfl, rfl, trivial⟩
   refine .skip (.blk_n (.then_n (.region (.m rfl (.q (.add rfl rfl (by omega)) rfl (.an rfl ?_))))))
   have hst := filter_take_no (f := isDel) hi2 (by unfold isDel; rw [decide_eq_false h55])
   refine .rfCast (x := x) (τ' := (partsZ τ zx ((subs.take (i + 1)).filter isDel)).1) (by repeat' constructor) (by rw [hst]) (.slCast (T := 184) (sz := 3) (m' := (partsZ τ zx ((subs.take (i + 1)).filter isDel)).2.length) (xs' := (partsZ τ zx ((subs.take (i + 1)).filter isDel)).2.flatMap evC) (by repeat' constructor) (by rw [hst]) (by rw [hst]) ?_)
   exact .rk ((i + 1, .slice au (partsZ τ zx ((subs.take i).filter isDel)).2.length cu)) (⟨by dsimp only; omega, _, _, by rw [hst]⟩) (by dsimp only; omega) ⟨rfl, rfl, rfl, rfl, rfl, rfl, rfl, rfl, trivial⟩
  have hii : i = subs.length := by omega
  rw [hii, List.take_length]
  refine .exit (.then_e (.then_e (.blk_e (.then_n (.sr (.u (.fieldAddr rfl fo_43_0) (.u (.ld rfl ag_3) (.q (.as (v' := .bool true) (by exact congrArg Value.bool (decide_eq_true hk6)) (.int rfl rfl rfl)) rfl (.nt (.condT rfl (.region (.m rfl (.u (.fieldAddr rfl fo_43_4) (.u (.ld rfl ag_3) (.cv Tryz.func78 [_, _] (rdrop_spec x (partsZ τ zx (subs.filter isDel)).1 y.own (by have := (ho.parts zx (subs.filter isDel) (fun w hw => (hx.each w (List.mem_filter.1 hw).1).few)).sfew; have := List.length_filter_le isDel subs; omega)) ?_)))))))))))))))
  refine .nil (.blk_n (.then_n (.seq ?_)))
  have hz : (applyZ τ zx y subs) = (zxT (dropS (partsZ τ zx (subs.filter isDel)).1 y.own) zx, ((partsZ τ zx (subs.filter isDel)).2, 0)) := by rw [apply_zx]; unfold applyZ0; rw [if_neg h20, if_pos hk6]
  refine .rtOpen (x := x) (τ := (dropS (partsZ τ zx (subs.filter isDel)).1 y.own)) (by repeat' constructor) fun an cn as1 cs l hl => (.region (.m rfl (.u (.fieldAddr rfl fo_54_0) (.u (.ld rfl ag_3) (.nf rfl fo_110_2 (.st rfl rfl rfl sz_3 ?_))))))
  refine .nil (.rtFold (x := x) (τ := (zxT (dropS (partsZ τ zx (subs.filter isDel)).1 y.own) zx)) (l := l) hl (by repeat' constructor) rfl rfl rfl rfl rfl (.then_n (.sm rfl (.m rfl (.a rfl (.an rfl (.ret (.rfCast (x := x) (τ' := (applyZ τ zx y subs).1) (by repeat' constructor) (by rw [hz]) (.slCast (T := 184) (sz := 3) (m' := (applyZ τ zx y subs).2.1.length) (xs' := (applyZ τ zx y subs).2.1.flatMap evC) (by repeat' constructor) (by (rw [hz]; try rfl)) (by (rw [hz]; try rfl)) ?_)))))))))
  exact .dn rfl rfl ⟨_, _, rfl, by rw [hz], ⟨_, _, by (rw [hz]; try rfl)⟩, rfl⟩
 refine .q (.as (v' := .bool false) (by exact congrArg Value.bool (decide_eq_false hk6)) (.int rfl rfl rfl)) rfl (.an rfl (.condF rfl (.region ?_)))
 rcases Decidable.em (y.kind = 7) with hk7 | hk7
 ·refine .q (.as (v' := .bool true) (by exact congrArg Value.bool (decide_eq_true hk7)) (.int rfl rfl rfl)) rfl (.an rfl (.condT rfl (.seq (.sr (.an rfl (.block (.add (slR_nil 184 3) (.rfCast (x := x) (τ' := (partsZ τ zx (subs.take 0)).1) (by repeat' constructor) (by rw [List.take_zero]; rfl) (.slCast (T := 184) (sz := 3) (m' := (partsZ τ zx (subs.take 0)).2.length) (xs' := (partsZ τ zx (subs.take 0)).2.flatMap evC) (by repeat' constructor) (by rw [List.take_zero]; rfl) (by rw [List.take_zero]; rfl) (.loopK (ι := Nat × Value) (fun q E => (9, vint q.1) :: (7, q.2) :: E) (fun q => [refR x (partsZ τ zx (subs.take q.1)).1, slR 184 3 q.2 (partsZ τ zx (subs.take q.1)).2.length ((partsZ τ zx (subs.take q.1)).2.flatMap evC)]) (fun q => q.1 ≤ subs.length ∧ ∃ a c, q.2 = .slice a (partsZ τ zx (subs.take q.1)).2.length c) (fun q => subs.length - q.1) (0, .slice none 0 0) (ts := [0, 3, 4, 5, 6, 8]) (.cons rfl (.cons rfl (.cons rfl (.cons rfl (.cons rfl (.cons rfl (.nil))))))) (⟨Nat.zero_le _, none, 0, by rw [List.take_zero]; rfl⟩) ⟨rfl, rfl, rfl, rfl, rfl, rfl, rfl, rfl, trivial⟩ (by repeat' constructor) ?_))))))))))
  rintro ⟨i, u⟩ ⟨hi, au, cu, hu⟩
  dsimp only
  dsimp only at hi hu
  subst hu
  have hev := parts_ev τ zx (subs.take i)
  have hfl := List.length_take_le i subs
  have hok : (partsZ τ zx (subs.take i)).1.Ok (N + subs.length) := (ho.parts zx _ (fun w hw => (hx.each w (List.mem_of_mem_take hw)).few)).more (by rw [List.length_take]; omega)
  refine .seq (.sm rfl (.u (.fieldAddr rfl fo_43_7) (.q (.as (v' := .slice asb subs.length csb) (by exact esub) (.ld rfl ag_41)) rfl (.q (.slen rfl Tryz.underlying41 rfl) rfl (.ui rfl rfl rfl (.nt (.condD rfl (fun h41 => ?_) (fun h41 => ?_))))))))
  ·have hi2 : i < subs.length := by omega
   refine .rdShape (p := p) hrd (by repeat' constructor) (by omega) fun bs os e1 => ?_
   subst e1
   have hys := hx.each _ (List.getElem_mem hi2)
   refine .sk (.seq (.block (.sr (.u (.fieldAddr rfl fo_43_0) (.u (.ld rfl ag_3) (.q (.as (v' := .bool true) (by exact congrArg Value.bool (decide_eq_true hk7)) (.int rfl rfl rfl)) rfl (.m rfl (.gk (.gk (.gk (.gk (.gk (.gk (.gk (.u (.pickT rfl rfl) (.nt (.condT rfl (.seq (.draw [8] [[0, 1, 2, 3, 4, 5, 6, 7, 8], [9]] mixed (by kernel_rfl) (.g0 (.mv rfl rfl (.kv rfl (.fieldAddr rfl fo_43_7) (.kv rfl (.as (v' := .slice (some ⟨bs, os, none⟩) subs.length csb) (by exact esub) (.ld rfl ag_41)) (.mv rfl rfl (.kv rfl (.indexAddr rfl rfl el_41 (by omega)) (.kv rfl (.loadRdA (sz := 8) (j := i * 8) (k := 8) (p := p) (vs := ptC subs[i]) rfl ag_43 (by repeat' constructor) hrd (by simp) (by omega) (by omega) (flatMap_at (f := ptC) (sz := 8) (fun _ _ => rfl) (by omega))) ?_))))))))))))))))))))))))))
   refine D.kv rfl (.fieldAddr rfl fo_54_0) (.kv rfl (.ld rfl ag_3) (.hh rfl (.c Tryz.func71 [_, _, _] (rpart_spec x (partsZ τ zx (subs.take i)).1 subs[i] zx p hys (N + subs.length) hok (by omega))) ?_))
   rintro v L' ⟨a15, c15, rfl, rfl⟩
   refine D.ph (.g0 (.kv rfl (.assign rfl) (.pf (.region (.m rfl (.m rfl (.oq (.append (n := (partsZ τ zx (subs.take i)).2.length) (m := (partZ (partsZ τ zx (subs.take i)).1 subs[i] zx).2.length) (ys := (partZ (partsZ τ zx (subs.take i)).1 subs[i] zx).2.flatMap evC) (p := slR 184 3 (.slice a15 (partZ (partsZ τ zx (subs.take i)).1 subs[i] zx).2.length c15) (partZ (partsZ τ zx (subs.take i)).1 subs[i] zx).2.length ((partZ (partsZ τ zx (subs.take i)).1 subs[i] zx).2.flatMap evC)) rfl rfl rfl el_71 (.inl ⟨_, Tryz.underlying71⟩) ze_184 rfl rfl ?hc126 ?hr127 ?hb128 (by decide)) ?_)))))))
   case hc126 => exact evC_cells _
   case hr127 => exact fun h hp => slR_rd hp
   case hb128 => have := part_ev (partsZ τ zx (subs.take i)).1 subs[i] zx; omega
   rintro v L' ⟨⟨a16_2, c16_2, rfl⟩, rfl⟩
   refine .a rfl (.nil (.blk_n (.then_n (.region (.m rfl (.q (.add rfl rfl (by omega)) rfl (.an rfl ?_)))))))
   have hst := List.take_succ_eq_append_getElem hi2
   refine .rfCast (x := x) (τ' := (partsZ τ zx (subs.take (i + 1))).1) (by repeat' constructor) (by rw [hst, parts_snoc]) (.slCast (T := 184) (sz := 3) (m' := (partsZ τ zx (subs.take (i + 1))).2.length) (xs' := (partsZ τ zx (subs.take (i + 1))).2.flatMap evC) (by repeat' constructor) (by rw [hst, parts_snoc]; simp) (by rw [hst, parts_snoc]; simp) ?_)
   exact .rk ((i + 1, .slice a16_2 ((partsZ τ zx (subs.take i)).2.length + (partZ (partsZ τ zx (subs.take i)).1 subs[i] zx).2.length) c16_2)) (⟨by dsimp only; omega, _, _, by rw [hst, parts_snoc, List.length_append]⟩) (by dsimp only; omega) ⟨rfl, rfl, rfl, rfl, rfl, rfl, rfl, rfl, trivial⟩
  have hii : i = subs.length := by omega
  rw [hii, List.take_length]
  refine .exit (.then_e (.then_e (.blk_e (.then_n (.sr (.u (.fieldAddr rfl fo_43_0) (.u (.ld rfl ag_3) (.q (.as (v' := .bool false) (by exact congrArg Value.bool (decide_eq_false (by omega))) (.int rfl rfl rfl)) rfl (.nt (.condF rfl (.skip (.blk_n (.then_n (.seq ?_))))))))))))))
  have hz : (applyZ τ zx y subs) = (zxT ((partsZ τ zx subs).1) zx, ((partsZ τ zx subs).2, 0)) := by rw [apply_zx]; unfold applyZ0; rw [if_neg h20, if_neg hk6, if_pos hk7]
  refine .rtOpen (x := x) (τ := ((partsZ τ zx subs).1)) (by repeat' constructor) fun an cn as1 cs l hl => (.region (.m rfl (.u (.fieldAddr rfl fo_54_0) (.u (.ld rfl ag_3) (.nf rfl fo_110_2 (.st rfl rfl rfl sz_3 ?_))))))
  refine .nil (.rtFold (x := x) (τ := (zxT ((partsZ τ zx subs).1) zx)) (l := l) hl (by repeat' constructor) rfl rfl rfl rfl rfl (.then_n (.sm rfl (.m rfl (.a rfl (.an rfl (.ret (.rfCast (x := x) (τ' := (applyZ τ zx y subs).1) (by repeat' constructor) (by rw [hz]) (.slCast (T := 184) (sz := 3) (m' := (applyZ τ zx y subs).2.1.length) (xs' := (applyZ τ zx y subs).2.1.flatMap evC) (by repeat' constructor) (by (rw [hz]; try rfl)) (by (rw [hz]; try rfl)) ?_)))))))))
  exact .dn rfl rfl ⟨_, _, rfl, by rw [hz], ⟨_, _, by (rw [hz]; try rfl)⟩, rfl⟩
 refine .q (.as (v' := .bool false) (by exact congrArg Value.bool (decide_eq_false hk7)) (.int rfl rfl rfl)) rfl (.an rfl (.condF rfl (.sr (.ui rfl rfl rfl (.an rfl (.condD rfl (fun h75 => ?_) (fun h75 => ?_)))))))
 ·refine .region (.u (.fieldAddr rfl fo_43_6) (.u (.ld rfl ag_40) (.a rfl (.nil (.blk_n (.then_n (.seq (.add (slR_nil 184 3) ?_))))))))
  have hz : (applyZ τ zx y subs) = (zxT (τ) zx, ([], y.err)) := by rw [apply_zx]; unfold applyZ0; rw [if_neg h20, if_neg hk6, if_neg hk7, if_pos h75]
  refine .rtOpen (x := x) (τ := (τ)) (by repeat' constructor) fun an cn as1 cs l hl => (.region (.m rfl (.u (.fieldAddr rfl fo_54_0) (.u (.ld rfl ag_3) (.nf rfl fo_110_2 (.st rfl rfl rfl sz_3 ?_))))))
  refine .nil (.rtFold (x := x) (τ := (zxT (τ) zx)) (l := l) hl (by repeat' constructor) rfl rfl rfl rfl rfl (.then_n (.sm rfl (.m rfl (.a rfl (.an rfl (.ret (.rfCast (x := x) (τ' := (applyZ τ zx y subs).1) (by repeat' constructor) (by rw [hz]) (.slCast (T := 184) (sz := 3) (m' := (applyZ τ zx y subs).2.1.length) (xs' := (applyZ τ zx y subs).2.1.flatMap evC) (by repeat' constructor) (by (rw [hz]; try rfl)) (by (rw [hz]; try rfl)) ?_)))))))))
  exact .dn rfl rfl ⟨_, _, rfl, by rw [hz], ⟨_, _, by (rw [hz]; try rfl)⟩, rfl⟩
 refine .region (.m rfl (.q (.loadAs (vs := ptC y) rfl ag_43 (by repeat' constructor) (by simp [ptC]) rfl) rfl (.u (.fieldAddr rfl fo_54_0) (.u (.ld rfl ag_3) (.oq (.c Tryz.func71 [_, _, _] (rpart_spec x τ y zx p hx.own N ho (by omega))) ?_)))))
 rintro v L' ⟨a5, c5, rfl, rfl⟩
 refine .a rfl (.nil (.blk_n (.then_n (.seq ?_))))
 have hz : (applyZ τ zx y subs) = (zxT ((partZ τ y zx).1) zx, ((partZ τ y zx).2, 0)) := by rw [apply_zx]; unfold applyZ0; rw [if_neg h20, if_neg hk6, if_neg hk7, if_neg h75]
 refine .rtOpen (x := x) (τ := ((partZ τ y zx).1)) (by repeat' constructor) fun an cn as1 cs l hl => (.region (.m rfl (.u (.fieldAddr rfl fo_54_0) (.u (.ld rfl ag_3) (.nf rfl fo_110_2 (.st rfl rfl rfl sz_3 ?_))))))
 refine .nil (.rtFold (x := x) (τ := (zxT ((partZ τ y zx).1) zx)) (l := l) hl (by repeat' constructor) rfl rfl rfl rfl rfl (.then_n (.sm rfl (.m rfl (.a rfl (.an rfl (.ret (.rfCast (x := x) (τ' := (applyZ τ zx y subs).1) (by repeat' constructor) (by rw [hz]) (.slCast (T := 184) (sz := 3) (m' := (applyZ τ zx y subs).2.1.length) (xs' := (applyZ τ zx y subs).2.1.flatMap evC) (by repeat' constructor) (by (rw [hz]; try rfl)) (by (rw [hz]; try rfl)) ?_)))))))))
 exact .dn rfl rfl ⟨_, _, rfl, by rw [hz], ⟨_, _, by (rw [hz]; try rfl)⟩, rfl⟩
theorem part_i {τ : Tr} {u : Who} {r : Rq} {p : HP} {iv : Value} (h : WiA p u iv r) (ha : AclW r.acl) : PtI (partP τ u r).1 := by
 have h1 := part_n τ u h.ses (by have := h.rq.data; omega) ha
 have h2 := part_path h τ
 have h3 := part_acl h τ
 have hu : U64 = 18446744073709551616 := rfl
 refine ⟨?_, h1.own, h1.num, ?_, by omega, by have := h1.data; omega, by omega, fun a ha => (h1.acl.each a ha).1⟩
 ·have hs : ∀ k : Int, 0 ≤ k ∧ k ≤ 8 → I64 k := fun k hk => ⟨by omega, by omega⟩
  unfold partP
  split
  ·exact hs 1 (by omega)
  split
  ·exact hs 2 (by omega)
  split
  ·unfold nodeX
   split
   ·exact hs 3 (by omega)
   split
   ·exact hs 4 (by omega)
   ·exact hs 0 (by omega)
  ·exact hs 0 (by omega)
 ·unfold partP
  split
  ·exact I64.zero
  split
  ·exact I64.zero
  split
  ·unfold nodeX
   split
   ·exact I64.zero
   split <;> exact I64.zero
  ·exact I64.zero
structure PtR (y : Pt) : Prop where
 i : PtI y
 acl : (aclB y.acl).length ≤ 33000000
 many : y.acl.length ≤ 1048576
 path : y.path.length ≤ 1048576
 data : y.data.length ≤ 1048576
theorem numB_ten {n : Int} (h : I64 n) : (numB n).length ≤ 10 := numB_len8 h
theorem big_get12 {α : Type} {f : α → HP} : ∀ {l : List α} {x : α} {h : Hp}, x ∈ l → bigR f l h → ∃ h1, (∀ b o, h1 b = some o → h b = some o) ∧ f x h1
 | y :: l, x, h, hx, hp => by
  have hq := big_cons hp
  rcases List.mem_cons.1 hx with rfl | hx
  ·exact sep_head hq
  ·obtain ⟨h1, a1, q1⟩ := sep_head (sep_perm (List.Perm.swap _ _ _) hq)
   obtain ⟨h2, a2, q2⟩ := big_get12 hx q1
   exact ⟨h2, fun b o hb => a1 b o (a2 b o hb), q2⟩
 | [], _, _, hx, _ => by cases hx
theorem ent_acl {e : En} {h : Hp} (hp : entR e h) : rdS 2 h e.x.aclV e.x.acl.length (e.x.acl.flatMap acC) := by
 obtain ⟨h1, a1, q1⟩ := sep_head hp
 exact rdS_mono (slR_rd q1) a1
theorem ent_subs {e : En} {h : Hp} (hp : entR e h) : rdS 8 h e.x.subsV e.subs.length (e.subs.flatMap ptC) := by
 obtain ⟨h1, a1, q1⟩ := sep_head (sep_perm (List.Perm.swap _ _ _) hp)
 exact rdS_mono (slR_rd q1) a1
theorem ent_each {e : En} {h : Hp} (hp : entR e h) {y : Pt} (hy : y ∈ e.subs) : rdS 2 h y.aclV y.acl.length (y.acl.flatMap acC) := by
 have hq : sep [bigR aclR e.subs, aclR e.x, subsR e] h := sep_perm (by
  refine List.Perm.trans (List.Perm.cons _ (List.Perm.swap _ _ _)) (List.Perm.swap _ _ _)) hp
 obtain ⟨h1, a1, q1⟩ := sep_head hq
 obtain ⟨h2, a2, q2⟩ := big_get12 hy q1
 exact rdS_mono (slR_rd q2) (fun b o hb => a1 b o (a2 b o hb))
theorem when_code {b : Prop} [Decidable b] {e : Int} (h : 0 ≤ e ∧ e ≤ 110) : 0 ≤ whenZ b e ∧ whenZ b e ≤ 110 := by
 show 0 ≤ (if b then e else 0) ∧ (if b then e else 0) ≤ 110
 split <;> omega
theorem check_code (p : Bs) : 0 ≤ checkZ p ∧ checkZ p ≤ 110 := by rcases check_err p with h | h | h <;> omega
theorem first_code {l : List Int} (h : ∀ e ∈ l, 0 ≤ e ∧ e ≤ 110) : 0 ≤ firstZ l ∧ firstZ l ≤ 110 := by
 rcases first_mem l with g | g
 ·omega
 ·exact h _ g
theorem wrong_code (r : Rq) : 0 ≤ wrongE r ∧ wrongE r ≤ 110 := by
 unfold wrongE
 split
 ·exact when_code (by omega)
 split
 ·exact when_code (by omega)
 ·omega
theorem part_code (τ : Tr) (u : Who) (r : Rq) : 0 ≤ (partP τ u r).2 ∧ (partP τ u r).2 ≤ 110 := by
 unfold partP
 split
 ·refine first_code fun e he => ?_
  simp only [createE, List.mem_cons, List.not_mem_nil, or_false] at he
  rcases he with rfl | rfl | rfl | rfl | rfl | rfl | rfl | rfl | rfl | rfl <;> first | exact check_code _ | exact when_code (by omega)
 split
 ·refine first_code fun e he => ?_
  simp only [eraseE, List.mem_cons, List.not_mem_nil, or_false] at he
  rcases he with rfl | rfl | rfl | rfl | rfl | rfl <;> first | exact check_code _ | exact when_code (by omega)
 split
 ·refine first_code fun e he => ?_
  simp only [nodeE, List.mem_cons, List.not_mem_nil, or_false] at he
  rcases he with rfl | rfl | rfl | rfl | rfl <;> first | exact check_code _ | exact wrong_code _ | exact when_code (by omega)
 ·exact ⟨by show (0 : Int) ≤ 110; decide, by show (110 : Int) ≤ 110; decide⟩
theorem refusal_R {e n : Int} (he : I64 e) (hn : I64 n) : PtR (refusal e n) :=
 ⟨⟨⟨by show (-9223372036854775808 : Int) ≤ 8; decide, by show (8 : Int) ≤ 9223372036854775807; decide⟩, I64.zero, hn, he, by show 0 < U64; decide, by show 0 < U64; decide, by show 0 < U64; decide, fun a ha => by cases ha⟩, acl_nil_w.long, Nat.zero_le _, Nat.zero_le _, Nat.zero_le _⟩
theorem part_R {τ : Tr} {u : Who} {r : Rq} {p : HP} {iv : Value} (h : WiA p u iv r) (ha : AclW r.acl) : PtR (partP τ u r).1 := by
 have h1 := part_n τ u h.ses (by have := h.rq.data; omega) ha
 exact ⟨part_i h ha, h1.acl.long, part_acl h τ, part_path h τ, h1.data⟩
theorem PtR.of {y z : Pt} (e : y.pl = z.pl) (h : PtR z) : PtR y := by
 have hk : PtR z.pl := ⟨⟨h.i.kind, h.i.own, h.i.num, h.i.err, h.i.path, h.i.data, h.i.many, h.i.acl⟩, h.acl, h.many, h.path, h.data⟩
 rw [← e] at hk
 exact ⟨⟨hk.i.kind, hk.i.own, hk.i.num, hk.i.err, hk.i.path, hk.i.data, hk.i.many, hk.i.acl⟩, hk.acl, hk.many, hk.path, hk.data⟩
def Ids (p : HP) (v : Value) (l : List Bs) : Prop := (∀ h : Hp, p h → rdS 1 h v l.length (strs l)) ∧ l.length ≤ 1048576 ∧ ∃ a n c, v = .slice a n c
structure WiD (p : HP) (u : Who) (iv : Value) (r : Rq) (subs : List Rq) : Prop where
 w : WiA p u iv r
 a : AclW r.acl
 rd : ∀ h : Hp, p h → rdS 10 h r.subsV subs.length (subs.flatMap rqC)
 each : ∀ x ∈ subs, WiA p u iv x
 acls : ∀ x ∈ subs, AclW x.acl
def nilP : HP := fun _ => True
theorem nilP_ok (h : Hp) : nilP h := trivial
def closeT : List Bs → Tr → Tr
 | [], τ => τ
 | p :: l, τ => closeT l (applyZ τ τ.zx (delX τ p) []).1
theorem closeT_app : ∀ (l m : List Bs) (τ : Tr), closeT (l ++ m) τ = closeT m (closeT l τ)
 | [], _, _ => rfl
 | _ :: l, m, _ => closeT_app l m _
theorem closeL_app : ∀ (l m : List Bs) (τ : Tr), closeL (l ++ m) τ = closeL l τ ++ closeL m (closeT l τ)
 | [], _, _ => rfl
 | p :: l, m, τ => by
  show delX τ p :: closeL (l ++ m) _ = (delX τ p :: closeL l _) ++ _
  rw [closeL_app l m]; rfl
theorem closeL_len : ∀ (l : List Bs) (τ : Tr), (closeL l τ).length = l.length
 | [], _ => rfl
 | _ :: l, _ => congrArg Nat.succ (closeL_len l _)
theorem closeT_step {l : List Bs} {i : Nat} (hi : i < l.length) (τ : Tr) : closeT (l.take (i + 1)) τ = (applyZ (closeT (l.take i) τ) (closeT (l.take i) τ).zx (delX (closeT (l.take i) τ) l[i]) []).1 := by
 rw [List.take_succ_eq_append_getElem hi, closeT_app]; rfl
theorem closeL_step {l : List Bs} {i : Nat} (hi : i < l.length) (τ : Tr) : closeL (l.take (i + 1)) τ = closeL (l.take i) τ ++ [delX (closeT (l.take i) τ) l[i]] := by
 rw [List.take_succ_eq_append_getElem hi, closeL_app]; rfl
theorem closeT_ok {N : Nat} : ∀ (l : List Bs) {τ : Tr}, τ.Ok N → (closeT l τ).Ok (N + l.length)
 | [], _, h => h
 | p :: l, τ, h => by
  have h1 : (applyZ τ τ.zx (delX τ p) []).1.Ok (N + 1) := h.apply τ.zx (delX τ p) [] (Nat.zero_le _) (fun _ h => by cases h)
  have h2 := closeT_ok l h1
  rw [List.length_cons, show N + (l.length + 1) = N + 1 + l.length by omega]
  exact h2
theorem closeL_plain : ∀ (l : List Bs) (τ : Tr), ∀ y ∈ closeL l τ, y.aclV = nilV ∧ y.acl = [] ∧ y.subsV = nilV ∧ y.pl = y
 | [], _, y, hy => by cases hy
 | p :: l, τ, y, hy => by
  rcases List.mem_cons.1 (show y ∈ delX τ p :: closeL l _ from hy) with rfl | hy
  ·exact ⟨rfl, rfl, rfl, rfl⟩
  ·exact closeL_plain l _ y hy
theorem map_pl : ∀ {l : List Pt}, (∀ y ∈ l, y.pl = y) → l.map Pt.pl = l
 | [], _ => rfl
 | y :: l, h => by rw [List.map_cons, h y List.mem_cons_self, map_pl fun z hz => h z (List.mem_cons_of_mem _ hz)]
theorem owned_short {τ : Tr} {N : Nat} (ho : τ.Ok N) {s : Int} {p : Bs} (hp : p ∈ ownedZ τ s) : p.length ≤ 60 := by
 unfold ownedZ at hp
 obtain ⟨y, hy, rfl⟩ := List.mem_map.1 hp
 exact able_len (ho.able y (List.mem_filter.1 hy).1)
theorem big_none : ∀ {l : List Pt}, (∀ y ∈ l, y.aclV = nilV ∧ y.acl = []) → ∀ h : Hp, bigR aclR l h
 | [], _, h => big_nil h
 | y :: l, hl, h => by
  refine big_of_cons ?_
  obtain ⟨h1, h2⟩ := hl y List.mem_cons_self
  have ha : ∀ g : Hp, aclR y g := fun g => by
   unfold aclR
   rw [h1, h2]
   exact slR_nil _ 2 g
  exact ⟨fun _ => none, h, fun _ => .inl rfl, (fun _ _ e => by cases e), fun _ _ e => e, ha _, h, fun _ => none, fun _ => .inr rfl, fun _ _ e => e, (fun _ _ e => by cases e), big_none (fun z hz => hl z (List.mem_cons_of_mem _ hz)) _, trivial⟩
theorem flat8_len (l : List Pt) : (l.flatMap ptC).length = l.length * 8 := flatMap_len (fun _ _ => rfl)
theorem spl_app {xs ys zs : List Value} {n : Nat} (hn : xs.length = n) (hl : zs.length = ys.length) : spl (xs ++ ys) n zs = xs ++ zs := by
 unfold spl
 have e : (xs ++ ys).drop (n + zs.length) = [] := List.drop_eq_nil_of_le (by rw [List.length_append]; omega)
 rw [e, ← hn, List.take_left, List.append_nil]
def clsC (s : Int) (z : Value) : List Value := [vint 6, vstr [], vstr [], nilV, vint s, vint 0, vint 0, z]
def clsJ (K : HP) (c b : Nat) (τ : Tr) (s : Int) (l : List Bs) (i : Nat) : HP := fun h => ∃ z : Value, (∃ a k, z = .slice a i k) ∧ sep [K, treeR c (closeT (l.take i) τ), ptc b (clsC s z) 43, slR 43 8 z i ((closeL (l.take i) τ).flatMap ptC)] h
theorem multiL_R {p : HP} {u : Who} {iv : Value} : ∀ {l : List Rq} {τ : Tr}, (∀ r ∈ l, WiA p u iv r ∧ AclW r.acl) → (∀ y ∈ (multiL u l τ).2.1, PtR y) ∧ (multiL u l τ).2.1.length ≤ l.length
 | [], _, _ => ⟨(fun _ h => by cases h), Nat.le_refl _⟩
 | r :: l, τ, h => by
  rw [multi_cons]
  split
  ·exact ⟨(fun _ g => by cases g), Nat.zero_le _⟩
  ·obtain ⟨h1, h2⟩ := multiL_R (l := l) (τ := (applyZ τ τ.zx (partP τ u r).1 []).1) (fun x hx => h x (List.mem_cons_of_mem _ hx))
   have h0 := h r List.mem_cons_self
   refine ⟨fun y hy => ?_, Nat.succ_le_succ h2⟩
   rcases List.mem_cons.1 hy with rfl | hy
   ·exact part_R h0.1 h0.2
   ·exact h1 y hy
theorem multi_stop_i {u : Who} : ∀ {l : List Rq} {τ : Tr} {i : Nat} {e : Int}, (multiL u l τ).2.2 = some (i, e) → i < l.length ∧ 0 ≤ e ∧ e ≤ 110
 | [], _, _, _, h => by cases h
 | r :: l, τ, i, e, h => by
  rw [multi_cons] at h
  split at h
  ·have h2 : (0, (partP τ u r).2) = (i, e) := Option.some.inj h
   obtain ⟨rfl, rfl⟩ := Prod.mk.inj h2
   have := part_code τ u r
   exact ⟨by rw [List.length_cons]; omega, this.1, this.2⟩
  ·have h2 : Option.map (fun x : Nat × Int => (x.1 + 1, x.2)) (multiL u l (applyZ τ τ.zx (partP τ u r).1 []).1).2.2 = some (i, e) := h
   obtain ⟨⟨j, k⟩, h3, h4⟩ := Option.map_eq_some_iff.1 h2
   obtain ⟨rfl, rfl⟩ := Prod.mk.inj h4
   have := multi_stop_i h3
   exact ⟨by rw [List.length_cons]; omega, this.2.1, this.2.2⟩
theorem multi_R {p : HP} {u : Who} {iv : Value} {l : List Rq} {τ : Tr} (h : ∀ r ∈ l, WiA p u iv r ∧ AclW r.acl) : PtR (multiP τ u l).1 ∧ (∀ y ∈ (multiP τ u l).2, PtR y) ∧ (multiP τ u l).2.length ≤ 8 := by
 have hm : I64 (-1) := ⟨by decide, by decide⟩
 unfold multiP
 split
 ·exact ⟨refusal_R ⟨by decide, by decide⟩ hm, (fun _ g => by cases g), by show 0 ≤ 8; decide⟩
 ·rename_i hl
  have h8 : l.length ≤ 8 := by omega
  obtain ⟨h1, h2⟩ := multiL_R (τ := τ) h
  split
  ·rename_i i e he
   have hie : i < 8 ∧ 0 ≤ e ∧ e ≤ 110 := by
    have := multi_stop_i he
    omega
   exact ⟨refusal_R ⟨by omega, by omega⟩ ⟨by omega, by omega⟩, (fun _ g => by cases g), by show 0 ≤ 8; decide⟩
  ·refine ⟨⟨⟨⟨by show (-9223372036854775808 : Int) ≤ 7; decide, by show (7 : Int) ≤ 9223372036854775807; decide⟩, I64.zero, I64.zero, I64.zero, by show 0 < U64; decide, by show 0 < U64; decide, by show 0 < U64; decide, fun a ha => by cases ha⟩, acl_nil_w.long, Nat.zero_le _, Nat.zero_le _, Nat.zero_le _⟩, h1, by show (multiL u l τ).2.1.length ≤ 8; omega⟩
theorem del_R {τ : Tr} {p : Bs} (hp : p.length ≤ 60) : PtR (delX τ p) ∧ (ptB (delX τ p)).length ≤ 200 := by
 have hu : U64 = 18446744073709551616 := rfl
 have hn : I64 (wrapI ((statD τ (parentZ p)).cver + 1)) := wrap_i64 _
 have hR : PtR (delX τ p) := ⟨⟨⟨by show (-9223372036854775808 : Int) ≤ 2; decide, by show (2 : Int) ≤ 9223372036854775807; decide⟩, I64.zero, hn, I64.zero, by show p.length < U64; omega, by show 0 < U64; decide, by show 0 < U64; decide, fun a ha => by cases ha⟩, acl_nil_w.long, Nat.zero_le _, by show p.length ≤ _; omega, Nat.zero_le _⟩
 refine ⟨hR, ?_⟩
 have h1 := numB_ten hR.i.kind
 have h2 := sev_len10 (u := p.length) (by omega)
 have h5 := numB_ten hR.i.own
 have h6 := numB_ten hR.i.num
 have h7 := numB_ten hR.i.err
 have h8 : (txtB (delX τ p).path).length ≤ 70 := by
  show (txtB p).length ≤ 70
  unfold txtB cntB
  rw [List.length_append]; omega
 have h9 : (txtB (delX τ p).data).length ≤ 10 := by
  show (txtB []).length ≤ 10
  simp [txtB, cntB, sevZ]
 have h10 : (aclB (delX τ p).acl).length ≤ 10 := by
  show (aclB []).length ≤ 10
  simp [aclB, cntB, sevZ]
 unfold ptB
 simp only [List.flatMap_cons, List.flatMap_nil, List.length_append, List.length_nil]
 omega
theorem closeL_R : ∀ {l : List Bs} {τ : Tr}, (∀ p ∈ l, p.length ≤ 60) → ∀ y ∈ closeL l τ, PtR y ∧ (ptB y).length ≤ 200
 | [], _, _, _, h => by cases h
 | p :: l, τ, h, y, hy => by
  rcases List.mem_cons.1 (show y ∈ delX τ p :: closeL l _ from hy) with rfl | hy
  ·exact del_R (h p List.mem_cons_self)
  ·exact closeL_R (fun x hx => h x (List.mem_cons_of_mem _ hx)) y hy
def readK (k : Int) : Prop := k = 9 ∨ k = 10 ∨ k = 11 ∨ k = 12
instance (k : Int) : Decidable (readK k) := inferInstanceAs (Decidable (_ ∨ _))
def zS (s : Stt) : Stt := { s with cz := 0, mz := 0, pz := 0 }
def zN (n : Nd) : Nd := { n with st := zS n.st }
def zL (l : List PN) : List PN := l.map fun y => (y.1, zN y.2)
def zT (τ : Tr) : Tr := ⟨zL τ.nodes, τ.sess, 0⟩
theorem zL_look : ∀ (l : List PN) (p : Bs), alook (zL l) p = (alook l p).map zN
 | [], _ => rfl
 | y :: l, p => by
  show alook ((y.1, zN y.2) :: zL l) p = (alook (y :: l) p).map zN
  unfold alook
  split
  ·rfl
  ·exact zL_look l p
theorem zT_there (τ : Tr) (p : Bs) : thereT (zT τ) p ↔ thereT τ p := by
 unfold thereT
 rw [show alook (zT τ).nodes p = (alook τ.nodes p).map zN from zL_look _ _]
 cases alook τ.nodes p <;> simp
theorem zT_paths (τ : Tr) : pathsZ (zT τ) = pathsZ τ := by
 unfold pathsZ zT zL
 rw [List.map_map]; rfl
theorem zT_kids (τ : Tr) (p : Bs) : kidsZ (zT τ) p = kidsZ τ p := by
 unfold kidsZ zT zL
 rw [List.filter_map, List.map_map]; rfl
theorem zT_owned (τ : Tr) (s : Int) : ownedZ (zT τ) s = ownedZ τ s := by
 unfold ownedZ zT zL
 rw [List.filter_map, List.map_map]; rfl
theorem zT_stat (τ : Tr) (p : Bs) : statD (zT τ) p = zS (statD τ p) := by
 unfold statD statZ
 rw [show alook (zT τ).nodes p = (alook τ.nodes p).map zN from zL_look _ _, zT_kids]
 cases alook τ.nodes p <;> rfl
theorem zT_acl (τ : Tr) (p : Bs) : aclD (zT τ) p = aclD τ p := by
 unfold aclD
 rw [show alook (zT τ).nodes p = (alook τ.nodes p).map zN from zL_look _ _]
 cases alook τ.nodes p <;> rfl
theorem zT_may (τ : Tr) (ids : List Bs) (p : Bs) (k : Int) : mayT (zT τ) ids p k ↔ mayT τ ids p k := by
 unfold mayT
 rw [zT_there, zT_acl]
theorem when_iff {a b : Prop} [Decidable a] [Decidable b] (h : a ↔ b) (e : Int) : whenZ a e = whenZ b e := by
 by_cases g : a
 ·rw [show whenZ a e = e from if_pos g, show whenZ b e = e from if_pos (h.1 g)]
 ·rw [show whenZ a e = 0 from if_neg g, show whenZ b e = 0 from if_neg (fun k => g (h.2 k))]
theorem zT_up (τ : Tr) (r : Rq) : upS (zT τ) r = zS (upS τ r) := zT_stat _ _
theorem zT_full (τ : Tr) (r : Rq) : fullZ (zT τ) r = fullZ τ r := by
 unfold fullZ
 rw [zT_up]; rfl
theorem zT_part (τ : Tr) (u : Who) (r : Rq) : partP (zT τ) u r = partP τ u r := by
 have e1 : createX (zT τ) u r = createX τ u r := by
  unfold createX
  rw [zT_full, zT_up]; rfl
 have e2 : createE (zT τ) u r = createE τ u r := by
  unfold createE
  rw [zT_full, zT_up, zT_paths, zT_owned, when_iff (not_congr (zT_there τ (parentZ r.path))), when_iff (not_congr (zT_may τ u.ids (parentZ r.path) 4)), when_iff (zT_there τ (fullZ τ r))]
  rfl
 have e3 : eraseX (zT τ) r = eraseX τ r := by
  unfold eraseX
  rw [zT_up]; rfl
 have e4 : eraseE (zT τ) u r = eraseE τ u r := by
  unfold eraseE
  rw [zT_stat, when_iff (not_congr (zT_there τ r.path)), when_iff (not_congr (zT_may τ u.ids (parentZ r.path) 8))]
  rfl
 have es : ∀ k p, stampK k (statD (zT τ) p) = stampK k (statD τ p) := fun k p => by
  rw [zT_stat]
  unfold stampK
  split <;> rfl
 have e5 : nodeX (zT τ) r = nodeX τ r := by
  unfold nodeX
  rw [es, es]
 have e6 : nodeE (zT τ) u r = nodeE τ u r := by
  unfold nodeE
  rw [es, when_iff (not_congr (zT_there τ r.path)), when_iff (not_congr (zT_may τ u.ids r.path (permK r.kind)))]
 unfold partP
 rw [e1, e2, e3, e4, e5, e6]
/-! ### Steps -/
theorem zL_sset : ∀ (l : List PN) (p : Bs) (n : Nd), zL (sset l p n) = sset (zL l) p (zN n)
 | [], _, _ => rfl
 | y :: l, p, n => by
  show zL (if y.1 = p then (p, n) :: l else if p < y.1 then (p, n) :: y :: l else y :: sset l p n) = if y.1 = p then (p, zN n) :: zL l else if p < y.1 then (p, zN n) :: (y.1, zN y.2) :: zL l else (y.1, zN y.2) :: sset (zL l) p (zN n)
  split
  ·rfl
  ·split
   ·rfl
   ·show (y.1, zN y.2) :: zL (sset l p n) = _
    rw [zL_sset l p n]
theorem zL_amod {l : List PN} {p : Bs} {f g : Nd → Nd} (h : ∀ n, zN (f n) = g (zN n)) : zL (amod l p f) = amod (zL l) p g := by
 unfold zL amod
 rw [List.map_map, List.map_map]
 refine List.map_congr_left fun y _ => ?_
 dsimp only [Function.comp]
 split
 ·rw [h]
 ·rfl
theorem zL_filter (l : List PN) (f : Bs → Bool) : zL (l.filter fun y => f y.1) = (zL l).filter fun y => f y.1 := by
 unfold zL
 rw [List.filter_map]; rfl
theorem zT_kid {τ υ : Tr} (h : zT τ = zT υ) (p : Bs) (num zx zy : Int) : zT (kidT τ p num zx) = zT (kidT υ p num zy) := by
 have e : ∀ (σ : Tr) (z : Int), zT (kidT σ p num z) = { zT σ with nodes := amod (zT σ).nodes p (fun n => { n with st := { n.st with cver := num } }) } := fun σ z => by
  unfold zT kidT
  dsimp only
  rw [zL_amod (g := fun n => { n with st := { n.st with cver := num } }) (fun n => rfl)]
 rw [e, e, h]
theorem ite_zT {c d : Prop} [Decidable c] [Decidable d] (h : c ↔ d) {a b a' b' : Tr} (h1 : c → zT a = zT a') (h2 : ¬ c → zT b = zT b') : zT (if c then a else b) = zT (if d then a' else b') := by
 by_cases g : c
 ·rw [if_pos g, if_pos (h.1 g)]; exact h1 g
 ·rw [if_neg g, if_neg (fun k => g (h.2 k))]; exact h2 g
theorem part_fst (τ : Tr) (x : Pt) (zx : Int) : (partZ τ x zx).1 = if x.kind = 1 then (if ableZ x.path ∧ thereT τ (parentZ x.path) then kidT { τ with nodes := sset τ.nodes x.path (newN x zx) } (parentZ x.path) x.num zx else τ) else if x.kind = 2 then (if ableZ x.path then kidT (cutT τ x.path) (parentZ x.path) x.num zx else τ) else if x.kind = 3 ∧ thereT τ x.path then { τ with nodes := amod τ.nodes x.path (setN x.data x.num zx) } else if x.kind = 4 ∧ thereT τ x.path then { τ with nodes := amod τ.nodes x.path (aclN x.acl x.num) } else τ := by
 unfold partZ createZ eraseZ
 simp only [apply_ite Prod.fst]
theorem zT_part1 {τ υ : Tr} (h : zT τ = zT υ) (x : Pt) (zx zy : Int) : zT (partZ τ x zx).1 = zT (partZ υ x zy).1 := by
 have ht : ∀ p, thereT τ p ↔ thereT υ p := fun p => by rw [← zT_there τ, h, zT_there]
 rw [part_fst, part_fst]
 refine ite_zT Iff.rfl (fun _ => ite_zT (and_congr_right' (ht _)) (fun _ => zT_kid ?_ _ _ _ _) (fun _ => h)) (fun _ => ite_zT Iff.rfl (fun _ => ite_zT Iff.rfl (fun _ => zT_kid ?_ _ _ _ _) (fun _ => h)) (fun _ => ite_zT (and_congr_right' (ht _)) (fun _ => ?_) (fun _ => ite_zT (and_congr_right' (ht _)) (fun _ => ?_) (fun _ => h))))
 ·have e : ∀ (σ : Tr) (z : Int), zT { σ with nodes := sset σ.nodes x.path (newN x z) } = { zT σ with nodes := sset (zT σ).nodes x.path (zN (newN x 0)) } := fun σ z => by
   unfold zT
   dsimp only
   rw [zL_sset]; rfl
  exact (e τ zx).trans (by rw [h]; exact (e υ zy).symm)
 ·have e : ∀ σ : Tr, zT (cutT σ x.path) = { zT σ with nodes := (zT σ).nodes.filter fun y => !hitT y.1 x.path } := fun σ => by
   unfold zT cutT
   dsimp only
   rw [zL_filter σ.nodes (fun q => !hitT q x.path)]
  rw [e, e, h]
 ·have e : ∀ (σ : Tr) (z : Int), zT { σ with nodes := amod σ.nodes x.path (setN x.data x.num z) } = { zT σ with nodes := amod (zT σ).nodes x.path (fun n => { n with data := x.data, st := { n.st with ver := x.num } }) } := fun σ z => by
   unfold zT
   dsimp only
   rw [zL_amod (g := fun n => { n with data := x.data, st := { n.st with ver := x.num } }) (fun n => rfl)]
  exact (e τ zx).trans (by rw [h]; exact (e υ zy).symm)
 ·have e : ∀ (σ : Tr), zT { σ with nodes := amod σ.nodes x.path (aclN x.acl x.num) } = { zT σ with nodes := amod (zT σ).nodes x.path (aclN x.acl x.num) } := fun σ => by
   unfold zT
   dsimp only
   rw [zL_amod (g := aclN x.acl x.num) (fun n => rfl)]
  exact (e τ).trans (by rw [h]; exact (e υ).symm)
theorem zT_zx (τ : Tr) (z : Int) : zT (zxT τ z) = zT τ := rfl
def plainK (x : Pt) : Prop := x.kind ≠ 5 ∧ x.kind ≠ 6 ∧ x.kind ≠ 7 ∧ x.kind ≠ 8
theorem apply_part {τ : Tr} {zx : Int} {x : Pt} (h : plainK x) (l : List Pt) : (applyZ τ zx x l).1 = (partZ (zxT τ zx) x zx).1 := by
 obtain ⟨h5, h6, h7, h8⟩ := h
 unfold applyZ
 dsimp only
 rw [if_neg h5, if_neg h6, if_neg h7, if_neg h8]
theorem ite_zx {c d : Prop} [Decidable c] [Decidable d] (h : c ↔ d) (z : Int) {a b a' b' : Tr} (h1 : a = zxT a' z) (h2 : b = zxT b' z) : (if c then a else b) = zxT (if d then a' else b') z := by
 by_cases g : c
 ·rw [if_pos g, if_pos (h.1 g)]; exact h1
 ·rw [if_neg g, if_neg (fun k => g (h.2 k))]; exact h2
theorem part_zxT (τ : Tr) (x : Pt) (zx z : Int) : (partZ (zxT τ z) x zx).1 = zxT (partZ τ x zx).1 z := by
 rw [part_fst, part_fst]
 exact ite_zx Iff.rfl z (ite_zx Iff.rfl z rfl rfl) (ite_zx Iff.rfl z (ite_zx Iff.rfl z rfl rfl) (ite_zx Iff.rfl z rfl (ite_zx Iff.rfl z rfl rfl)))
theorem parts_zxT (τ : Tr) (zx z : Int) (l : List Pt) : (partsZ (zxT τ z) zx l).1 = zxT (partsZ τ zx l).1 z := by
 unfold partsZ
 have H : ∀ (l : List Pt) (σ : Tr) (e e' : List Ev), (l.foldl (fun r x => ((partZ r.1 x zx).1, r.2 ++ (partZ r.1 x zx).2)) (zxT σ z, e)).1 = zxT (l.foldl (fun r x => ((partZ r.1 x zx).1, r.2 ++ (partZ r.1 x zx).2)) (σ, e')).1 z := by
  intro l
  induction l with
  | nil => intro σ e e'; rfl
  | cons x l ih =>
   intro σ e e'
   rw [List.foldl_cons, List.foldl_cons]
   dsimp only
   rw [part_zxT]
   exact ih _ _ _
 exact H l τ [] []
theorem plainK_of {x : Pt} (h : x.kind = 0 ∨ x.kind = 1 ∨ x.kind = 2 ∨ x.kind = 3 ∨ x.kind = 4) : plainK x := by
 unfold plainK; omega
theorem part_plain (τ : Tr) (u : Who) (r : Rq) : plainK (partP τ u r).1 := by
 refine plainK_of ?_
 unfold partP
 split
 ·exact .inr (.inl rfl)
 split
 ·exact .inr (.inr (.inl rfl))
 split
 ·unfold nodeX
  split
  ·exact .inr (.inr (.inr (.inl rfl)))
  split
  ·exact .inr (.inr (.inr (.inr rfl)))
  ·exact .inl rfl
 ·exact .inl rfl
section
variable {P : Program} {ops : Array Oper} {n : Nat} {RO : List HP} {H : List Nat} {Fin : EF → List HP → Prop}
variable {j : Nat} {S : List Nat} {E : Env} {RW : List HP} {op : Op} {ty : TypeId} {pos : String} {aft : Array Edge}
end
section
variable {P : Program} {W : World} {n : Nat} {ds : List Deferred} {E : Env} {L R : List HP} {Q : Exit → Act → World → Prop}
theorem OpSpec.append1S {t e : TypeId} {ty : TypeId} {x y : Operand} {v : Value} {b n m c sz by' : Nat} {xs l : List Value} {T : TypeId} {z : Value} {zl : List Value} {ts : Array TypeId} (hts : ts = #[t, t]) (hx : ev E x = some v) (hy : ev E y = some (.slice (some ⟨b, 0, none⟩) m c)) (ht : elemOf' P t = some (e, sz, by'))
  (hz : zeroOf P e = some z) (hzc : z.cells = zl.toArray) (hzl : zl.length = sz) (hcell : ∀ y ∈ l, isCell y = true) (hl : l.length = m * sz) (hmc : m ≤ c) (hb : (n + m) * by' ≤ 140737488355328) (hb0 : 0 < by') (hm : 0 < m) :
  OpSpec P ⟨none, .call { callee := .builtin .append, args := #[x, y], argTypes := ts }, ty, "", #[], none⟩ E [slR e sz v n xs, ptc b l T] fun v' L' => ∃ b' c', v' = .slice (some ⟨b', 0, none⟩) (n + m) c' ∧ L' = [slR e sz v' (n + m) (xs ++ l)] := by
 intro ρ w F ha hs
 refine (OpSpec.append1 (ty := ty) hts hx hy ht hz hzc hzl hcell hl hmc hb hb0 ρ w F ha hs).mono ?_
 rintro v' w' ⟨L', ⟨⟨a, k, rfl⟩, rfl⟩, hs', hk⟩
 obtain ⟨h1, a1, hp⟩ := sep_head hs'
 rcases hp with ⟨h2, h3, -⟩ | ⟨b', cap, rest, fr, h2, -⟩
 ·omega
 ·simp only [Value.slice.injEq] at h2
  obtain ⟨rfl, -, rfl⟩ := h2
  exact ⟨_, ⟨b', k, rfl, rfl⟩, hs', hk⟩
/-! ### Code in a round's frame -/
abbrev FR (l : Nat) : Fence := Fence.wide.inRound l
def noDefer (o : Oper) : Bool := match o.op with
 | .defer _ => false
 | _ => true
theorem noDefer_op {o : Oper} (h : noDefer o = true) : ∀ c, o.op ≠ .defer c := by
 intro c e
 unfold noDefer at h
 rw [e] at h
 cases h
theorem rowsIn_of {F : Fence} (hF : ∀ m m', StepsIn (Machine.fenced P F) P m m' ↔ Steps P m m') {m : Nat} {row : String} {args : Array Value} {w : World} {K : Value → World → Prop} (h : Rows P row args w K) : RowsIn F m P row args w K :=
 fun c cs _ => let ⟨v, w', r, s⟩ := h c cs; ⟨v, w', r, (hF _ _).2 s⟩
theorem upon_round {l m : Nat} {o : Oper} {a : Act} {next next' : Act → World → Prop} (hn : ∀ a w, next a w → next' a w) {r : Result Next} (h : o.upon P a next Q r) : o.uponIn (FR l) m P a next' Q r := by
  cases r with
  | ok nx w' =>
    cases nx <;> first | exact hn _ _ h | exact h.elim | skip
    · refine ⟨(fun hd => by cases hd), ?_⟩
      have h1 : CallsIn Fence.wide (m - 1) P _ _ w' _ := callsIn_wide.2 h
      have h2 : CallsIn (FR l) (m - 1) P _ _ w' _ := CallsIn.mono h1 (R' := fun e w'' => match e with
        | .returned v => next' (a.put o.dst v) w''
        | .panicked chain => Q (.panic chain) a w''
        | .outgrown => LetsOut Q) (by
          intro e w'' hq
          cases e
          · exact hn _ _ hq
          · exact hq
          · exact hq)
      exact h2.mono (by intro e w'' hq; cases e <;> exact hq)
    · exact ⟨(fun hd => by cases hd), RowsIn.mono (rowsIn_of (F := FR l) (fun _ _ => stepsIn_wide) h) (fun v w'' hq => hn _ _ hq)⟩
  | halt x w' => cases x <;> first | exact h | exact h.elim
theorem ops_round {l m : Nat} {ops : Array Oper} (hQ : ¬ LetsOut Q) (hnd : ∀ (i : Nat) (o : Oper), ops[i]? = some o → noDefer o = true) : ∀ (idx : List Nat) (a : Act) (w : World), wpOps P ops Q idx a w → wpOpsIn (FR l) m P ops Q idx a w
 | [], _, _, h => h
 | i :: rest, a, w, h => by
  unfold wpOps at h
  unfold wpOpsIn
  cases ho : ops[i]? with
  | none => rw [ho] at h; exact ops_round hQ hnd rest a w h
  | some o =>
   rw [ho] at h
   dsimp only at h ⊢
   split at h
   ·rename_i hw
    rw [if_pos hw]
    rcases h with h | h
    ·refine ⟨fun _ _ => trivial, ?_⟩
     rw [Oper.semAt_eq _ _ _ (noDefer_op (hnd _ _ ho))]
     exact upon_round (fun a w => ops_round hQ hnd rest a w) h
    ·exact absurd h.2 hQ
   ·rename_i hw
    rw [if_neg hw]
    exact ⟨fun _ _ => trivial, ops_round hQ hnd rest _ _ h⟩
theorem noDefer_all {os : List Oper} (h : os.all noDefer = true) : ∀ (i : Nat) (o : Oper), os.toArray[i]? = some o → noDefer o = true := by
 intro i o ho
 rw [List.getElem?_toArray] at ho
 exact List.all_eq_true.1 h o (List.mem_of_getElem? ho)
theorem GR.seq {F : Fence} {m : Nat} {x y : Code} (h : G W n ds E L (x.wpIn F m P (Exit.then (y.wpIn F m P Q) Q))) : G W n ds E L ((Code.seq x y).wpIn F m P Q) := fun a w he hk hs => wpIn_seq (h a w he hk hs)
theorem GR.block {F : Fence} {m id : Nat} {c : Code} (h : G W n ds E L (c.wpIn F m P (Exit.inBlock id Q))) : G W n ds E L ((Code.block id c).wpIn F m P Q) := fun a w he hk hs => wpIn_block (h a w he hk hs)
theorem GR.region {l m id : Nat} {os : List Oper} (hQ : ¬ LetsOut Q) (hnd : os.all noDefer = true) (h : G W n ds E L (wpList P os.toArray Q os)) : G W n ds E L ((Code.region id os.toArray false).wpIn (FR l) m P Q) := by
 intro a w he hk hs
 refine wpIn_region (ops_round hQ (noDefer_all hnd) _ _ _ ?_)
 rw [List.range_eq_range', List.size_toArray, wpOps_eq_wpList os 0 (by simp)]
 exact h a w he hk hs
theorem draw_any {id : Nat} {l : List Oper} (H : List Nat) (Ss : List (List Nat))
  (hc : (directB l.toArray && permB l.toArray.size Ss.flatten && chainB l.toArray Ss) = true)
  (h : Phases P l.toArray n H W ds (Q .normal) Ss (look E) L) : G W n ds E L fun a w => wpAny P .any l.toArray Q l.toArray.size (Array.replicate l.toArray.size false) a { w with drawn := w.drawn + 1 } := by
 intro a w he hk hs
 simp only [Bool.and_eq_true] at hc
 have hp := hc.1.2
 simp only [permB, Bool.and_eq_true, Nat.beq_eq] at hp
 have hlen : Ss.flatten.length = l.toArray.size := hp.1.1.1
 have hmem : ∀ i, i ∈ Ss.flatten ↔ i < l.toArray.size := by
  intro i
  constructor
  ·intro hi; have := List.all_eq_true.1 hp.1.1.2 i hi; simpa [Nat.blt_eq] using this
  ·intro hi; have := List.all_eq_true.1 hp.2 i (List.mem_range.2 hi); simpa using this
 have hn : Ss.flatten.Nodup := nodup_of hp.1.2
 refine Phases.sound (H := H) hc.1.1 Ss hc.2 hn (look E) L _ _ _ _ h (by omega) ?_ (by simp) ⟨he.size, he.defers, he.slots⟩ (hk.trans (Keeps.drew w)) hs.drew
 intro i
 rw [hmem]
 simp only [Array.getD_eq_getD_getElem?, Array.getElem?_replicate, List.size_toArray]
 by_cases hlt : i < l.length <;> simp [hlt]
theorem GR.draw {r m id : Nat} {l : List Oper} (hQ : ¬ LetsOut Q) (hnd : l.all noDefer = true) (H : List Nat) (Ss : List (List Nat)) (hm : P.follows .mixedOrders = true)
  (hc : (directB l.toArray && permB l.toArray.size Ss.flatten && chainB l.toArray Ss) = true)
  (h : Phases P l.toArray n H W ds (Q .normal) Ss (look E) L) : G W n ds E L ((Code.region id l.toArray true).wpIn (FR r) m P Q) := by
 intro a w he hk hs
 refine wpIn_region_draw fun t => ops_round hQ (noDefer_all hnd) _ _ _ ?_
 simp only [Region.schedule, hm, Bool.true_or, if_true]
 exact wpAny_sound l.toArray.size t _ a _ (draw_any (id := id) H Ss hc h a w he hk hs)
/-! ### Who is ranged over, and what it calls -/
def yV (l : Nat) : Value := .func (.yield l) #[] #[]
def YieldH (P : Program) (l : Nat) (args : Array Value) (pre : List HP) (post : Value → List HP → Prop) : Prop :=
 ∀ (F : List HP) (w : World), St (pre ++ F) w → ∃ fn tmps assign body, (Instr.yield l args).run P w = .ok (.round l fn tmps assign body) w ∧
  RoundIn Fence.wide 0 P l fn tmps assign body w fun e w' => ∃ v L, post v L ∧ e = .returned v ∧ St (L ++ F) w' ∧ Keeps w w'
def IterV (P : Program) (g : Value) (N : Nat) (A : Nat → Array Value) (pre : List HP) : Prop :=
 ∃ (gf : FuncId) (lb : List Value) (fn : Func) (c : Code), g = .func (.func gf) #[] lb.toArray ∧ P.funcs[gf]? = some fn ∧ fn.body = some c ∧ (fn.name == "runtime.NumGoroutine") = false ∧
  ∀ (l : Nat) (J : Nat → HP), (∀ i, i < N → YieldH P l (A i) [J i] fun v L => v = .bool true ∧ L = [J (i + 1)]) → Fn P gf (yV l :: lb).toArray (J 0 :: pre) fun _ L => L = J N :: pre
def RndQ (J : HP) (F : List HP) (W : World) : Exit → Act → World → Prop
 | .normal, _, w => St (J :: F) w ∧ Keeps W w
 | _, _, _ => False
theorem G.rnd {J : HP} {F : List HP} (hL : Picks [J] L R) (hF : Suff F R) : G W n ds E L (RndQ J F W .normal) := fun _ _ _ hk hs => ⟨hF.st (L := [J]) (hs.picks hL), hk⟩
theorem St.swap {p q : HP} {w : World} (h : St (p :: q :: L) w) : St (q :: p :: L) w := h.perm (List.Perm.swap _ _ _)
theorem EnvOK.par {a : Act} (h : EnvOK n ds E a) {p : Nat} (hp : p < n) (v : Value) : EnvOK n ds ((p, v) :: E) { a with tmps := a.tmps.setIfInBounds p v } := by
 have hd : dstOk (some p) n = true := by simpa [dstOk, Nat.blt_eq] using hp
 have := h.put hd v
 exact ⟨by simpa using h.size, h.defers, by simpa [Act.put, putE] using this.slots⟩
theorem zip2 (p q : Nat) (x y : Value) (t : Array Value) : (#[p, q].zip #[x, y]).foldl (fun tmps (t, a) => tmps.setIfInBounds t a) t = (t.setIfInBounds p x).setIfInBounds q y := by simp
theorem G.rangeFunc {g : Operand} {p q : Nat} {assign body : Code} {gv : Value} {N : Nat} (A : Nat → Value × Value) (J : Nat → HP) (Ep : Nat → Env → Env) {pre : List HP} (hg : ev E g = some gv) (hi : IterV P gv N (fun i => #[(A i).1, (A i).2]) pre) (hp : Nat.blt p n = true) (hq : Nat.blt q n = true) (hL : Picks (J 0 :: pre) L R)
  (hassign : ∀ (l i : Nat) (F : List HP) (W' : World) (X : Act → World → Prop), i < N → G W' n [] (Ep i E) F X → G W' n [] ((q, (A i).2) :: (p, (A i).1) :: E) F (assign.wpIn (FR l) 0 P (Exit.then X fun _ _ _ => False)))
  (hround : ∀ (l i : Nat) (F : List HP) (W' : World), i < N → G W' n [] (Ep i E) (J i :: F) (body.wpIn (FR l) 0 P (RndQ (J (i + 1)) F W')))
  (hdone : ∀ D : Nat, G W n (⟨.collected D, #[]⟩ :: ds) E (J N :: pt D (.deferred (some [])) :: (pre ++ R)) (Q .normal)) : G W n ds E L ((Code.rangeFunc g #[p, q] assign body).wp P Q) := by
 intro a w he hk hs
 refine (wpIn_wide (n := 0)).1 (wpIn_rangeFunc ?_)
 intro fn _
 obtain ⟨gf, lb, gn, c, rfl, hgf, hgb, hgn, hit⟩ := hi
 have hge : a.eval g = .func (.func gf) #[] lb.toArray := he.agrees _ _ hg
 obtain ⟨rec, hrec⟩ : ∃ rec : LoopState → Option Code → Loop, rec = fun st pe => { state := st, pending := pe, fn, tmps := a.tmps, params := #[p, q], assign, body, defers := w.heap.size } := ⟨_, rfl⟩
 obtain ⟨W1, hW1⟩ : ∃ W1, (w.alloc (.deferred (some []))).alloc (.loop (rec .ready none)) = W1 := ⟨_, rfl⟩
 have hs0 : St (pt w.heap.size (.deferred (some [])) :: L) (w.alloc (.deferred (some []))) := hs.new _
 have hs1 : St (pt (w.heap.size + 1) (.loop (rec .ready none)) :: pt w.heap.size (.deferred (some [])) :: L) W1 := by
  rw [← hW1]
  have := hs0.new (.loop (rec .ready none))
  rwa [show (w.alloc (.deferred (some []))).heap.size = w.heap.size + 1 by simp] at this
 have hk1 : Keeps w W1 := by rw [← hW1]; exact (Keeps.new w _).trans (Keeps.new _ _)
 refine ⟨w.heap.size + 1, [{ target := .collected w.heap.size, args := #[] }], W1, { target := .fn (.func gf) lb.toArray, args := #[yV (w.heap.size + 1)] }, W1, gf, #[yV (w.heap.size + 1)] ++ lb.toArray, W1, ?_, ?_, fun _ _ => trivial, ?_, (fun h => by cases h), ?_⟩
 ·rw [← hW1, hrec]; exact run_enterLoop_outer _ _ _ _ _
 ·simp only [resolve, hge]
  simp [Deferred.ofValue, Bind.bind, Sem.bind, Pure.pure, Sem.run, yV, Act.eval]
 ·have hgn' : ¬ gn.name = "runtime.NumGoroutine" := by simpa using hgn
  simp [invoke, callFunc, program, Bind.bind, Sem.bind, Pure.pure, Sem.run, hgf, hgb, hgn']
 ·refine callsIn_wide.2 ?_
  obtain ⟨J', hJ'⟩ : ∃ J' : Nat → HP, J' = fun i => sep [J i, pt (w.heap.size + 1) (.loop (rec .ready none)), pt w.heap.size (.deferred (some []))] := ⟨_, rfl⟩
  have hs2 : St ((J' 0 :: pre) ++ R) W1 := by
   have h2 := hs1.perm (List.Perm.cons _ (List.Perm.cons _ hL.perm))
   rw [hJ']
   exact sep_fold (L1 := [J 0, _, _]) (sep_perm ((List.Perm.cons _ (List.Perm.swap _ _ _)).trans (List.Perm.swap _ _ _)) h2)
  have hy : ∀ i, i < N → YieldH P (w.heap.size + 1) #[(A i).1, (A i).2] [J' i] fun v L => v = .bool true ∧ L = [J' (i + 1)] := by
   intro i hiN F w2 hw2
   rw [hJ'] at hw2
   have hw3 : St (J i :: pt (w.heap.size + 1) (.loop (rec .ready none)) :: pt w.heap.size (.deferred (some [])) :: F) w2 := sep_flat (L1 := [J i, _, _]) hw2
   have hl := hw3.swap.pt
   have hyr := run_yield (P := P) (args := #[(A i).1, (A i).2]) hl (by rw [hrec]; rfl)
   rw [hrec] at hyr
   have h0 : EnvOK n [] E { tmps := a.tmps, defers := [] } := ⟨he.size, rfl, he.slots⟩
   have h1 := (h0.par (by simpa [Nat.blt_eq] using hp) (A i).1).par (by simpa [Nat.blt_eq] using hq) (A i).2
   refine ⟨fn, _, assign, body, hyr, roundIn_of_wpIn (F := Fence.wide) trivial (hassign (w.heap.size + 1) i _ w2 _ hiN ?_ _ _ (by simpa only [zip2] using h1) (Keeps.refl _) hw3)⟩
   intro a2 wb he2 hkb hwb
   have hlb := hwb.swap.pt
   refine ⟨_, run_beginRound hlb (by rw [hrec]), ?_⟩
   have hw4 : St (J i :: pt (w.heap.size + 1) (.loop { rec .ready none with state := .busy }) :: pt w.heap.size (.deferred (some [])) :: F) (wb.putObj (w.heap.size + 1) (.loop { rec .ready none with state := .busy })) := (St.set hwb.swap).swap
   refine wpIn_mono (hround (w.heap.size + 1) i _ _ hiN _ _ he2 (Keeps.refl _) hw4) ?_
   ·rintro e a3 w3 hp3
    cases e with
    | normal =>
     obtain ⟨hw5, hk5⟩ := hp3
     have hl5 := hw5.swap.pt
     have hend := run_endRound (P := P) none hl5
     refine ⟨_, _, hend, .bool true, [J' (i + 1)], ⟨rfl, rfl⟩, rfl, ?_, (hkb.trans ((Keeps.set _ _ _).trans hk5)).trans (Keeps.set _ _ _)⟩
     rw [hJ']
     refine sep_fold (L1 := [J (i + 1), _, _]) ?_
     have h6 := (St.set (o' := .loop (rec .ready none)) hw5.swap).swap
     rw [hrec] at h6 ⊢
     exact h6
    | _ => exact hp3.elim
  have ea : #[yV (w.heap.size + 1)] ++ lb.toArray = (yV (w.heap.size + 1) :: lb).toArray := by simp
  rw [ea]
  refine (hit (w.heap.size + 1) J' hy R W1 hs2).mono ?_
  rintro e w2 ⟨v, L', hL', rfl, hw2, hk2⟩
  subst hL'
  rw [hJ'] at hw2
  have hw3 : St (J N :: pt (w.heap.size + 1) (.loop (rec .ready none)) :: pt w.heap.size (.deferred (some [])) :: (pre ++ R)) w2 := sep_flat (L1 := [J N, _, _]) hw2
  have hl := hw3.swap.pt
  have hend := run_endLoop (P := P) hl (by rw [hrec]; simp)
  rw [hrec] at hend
  refine ⟨none, _, hend, ?_⟩
  refine hdone w.heap.size _ _ ⟨he.size, by show _ :: a.defers = _; rw [he.defers], he.slots⟩ ((hk.trans hk1).trans (hk2.trans (Keeps.set _ _ _))) ?_
  exact (St.set hw3.swap).tail
/-! ### A function that holds one -/
def FnQM (P : Program) (fn : Func) (post : Value → List HP → Prop) (F : List HP) (W : World) : Exit → Act → World → Prop :=
 bodyPostM Fence.wide 0 P fn fun e w' => ∃ v L, post v L ∧ e = .returned v ∧ St (L ++ F) w' ∧ Keeps W w'
theorem Fn.introM {f : FuncId} {fn : Func} {c : Code} {vs : List Value} {pre : List HP} {post : Value → List HP → Prop} {n : Nat}
    (hf : P.funcs[f]? = some fn) (hb : fn.body = some c) (hn : vs.length + (fn.ntmps - vs.length) = n)
    (h : ∀ F W, G W n [] (argE 0 vs) (pre ++ F) (c.wp P (FnQM P fn post F W))) : Fn P f vs.toArray pre post := by
  intro F w hs
  refine (callsIn_wide (n := 0)).1 (callsIn_of_wp_marks hf hb trivial (wpIn_wide.2 (h F w _ w ⟨?_, rfl, fun t v hl => ?_⟩ (.refl w) hs)) rfl)
  · simp [← hn]
  obtain ⟨-, h2⟩ := look_argE _ _ _ _ hl
  have hlt : t < vs.length := by
    rcases Nat.lt_or_ge t vs.length with h | h
    · exact h
    simp [List.getElem?_eq_none h] at h2
  simp only [Nat.sub_zero] at h2
  rw [List.getElem?_eq_getElem hlt] at h2
  simp only [Option.some.injEq] at h2
  simp [Array.getElem?_append, hlt, h2]
theorem G.doneM1 {fn : Func} {post : Value → List HP → Prop} {F : List HP} {L1 L' : List HP} {v : Value} {r : ResultVar} {D : Nat} (hl : fn.results = #[r]) (hD : Pick (pt D (.deferred (some []))) L L1) (hr : ResR P E L1 r v) (hp : post v L') (hL : Picks L' L1 R) (hF : Suff F R) :
  G W n [⟨.collected D, #[]⟩] E L (FnQM P fn post F W .ret) := by
 intro a w he hk hs
 show LeavesInM Fence.wide 0 P fn a.tmps _ a.defers .returning w
 rw [he.defers]
 have hs1 := hs.pick hD
 refine ⟨by simp, .inl ⟨D, _, rfl, run_takeDeferred hs1.pt, ?_⟩⟩
 have hs2 := (St.set (o' := .deferred none) hs1).tail
 exact ⟨v, results_1 hl (hr _ _ he.slots hs2), v, L', hp, rfl, hF.st (hs2.picks hL), hk.trans (Keeps.set _ _ _)⟩
/-! ### Who calls it -/
theorem GY.region {id : Nat} {os : List Oper} (h : G W n ds E L (wpListIn Fence.wide 0 P os.toArray Q os)) : G W n ds E L ((Code.region id os.toArray false).wp P Q) :=
 fun a w he hk hs => (wpIn_wide (n := 0)).1 (wpIn_region_list (by simpa using h a w he hk hs))
theorem GY.nil {ops : Array Oper} (h : G W n ds E L (Q .normal)) : G W n ds E L (wpListIn Fence.wide 0 P ops Q []) := h
theorem GY.q {ops : Array Oper} {d : Nat} {op : Op} {ty : TypeId} {pos : String} {aft : Array Edge} {rest : List Oper} {v : Value} (hnd : noDefer ⟨some d, op, ty, pos, aft, none⟩ = true)
  (hp : Quiet P ⟨none, op, ty, "", #[], none⟩ E L v) (hd : Nat.blt d n = true)
  (h : G W n ds ((d, v) :: E) L (wpListIn Fence.wide 0 P ops Q rest)) : G W n ds E L (wpListIn Fence.wide 0 P ops Q (⟨some d, op, ty, pos, aft, none⟩ :: rest)) := by
 intro a w he hk hs
 unfold wpListIn
 rw [if_pos (by simp [Region.wanted])]
 refine ⟨fun _ _ => trivial, ?_⟩
 rw [Oper.semAt_eq _ _ _ (noDefer_op hnd)]
 have := hp a.eval w he.agrees hs
 rw [show execOp a.eval ⟨some d, op, ty, pos, aft, none⟩ = execOp a.eval ⟨none, op, ty, "", #[], none⟩ from rfl, this]
 exact h _ _ (he.put (dst := some d) hd _) hk hs
theorem GY.yield {ops : Array Oper} {d l : Nat} {x : Operand} {xs : Array Operand} {ts : Array TypeId} {ty : TypeId} {pos : String} {aft : Array Edge} {rest : List Oper} {vs : List Value} {pre F : List HP} {post : Value → List HP → Prop}
  (hv : ev E x = some (yV l)) (hx : xs.toList.map (ev E) = vs.map some) (hy : YieldH P l vs.toArray pre post) (hL : Picks pre L F) (hd : Nat.blt d n = true)
  (h : ∀ v L', post v L' → G W n ds ((d, v) :: E) (L' ++ F) (wpListIn Fence.wide 0 P ops Q rest)) : G W n ds E L (wpListIn Fence.wide 0 P ops Q (⟨some d, .call { callee := .value x, args := xs, argTypes := ts }, ty, pos, aft, none⟩ :: rest)) := by
 intro a w he hk hs
 unfold wpListIn
 rw [if_pos (by simp [Region.wanted])]
 refine ⟨fun _ _ => trivial, ?_⟩
 rw [Oper.semAt_eq _ _ _ (fun c e => by cases e)]
 obtain ⟨fn, tmps, assign, body, hyr, hr⟩ := hy F w (hs.picks hL)
 have hvs : xs.map a.eval = vs.toArray := by
  apply Array.ext'
  rw [Array.toList_map]
  exact agree_list he.agrees _ _ hx
 have hxv : a.eval x = .func (.yield l) #[] #[] := he.agrees _ _ hv
 have hrun : (execOp a.eval ⟨some d, .call { callee := .value x, args := xs, argTypes := ts }, ty, pos, aft, none⟩).run P w = .ok (.round l fn tmps assign body) w := by
  have e : (execOp a.eval ⟨some d, .call { callee := .value x, args := xs, argTypes := ts }, ty, pos, aft, none⟩).run P w = (Instr.yield l vs.toArray).run P w := by
   simp [execOp, resolve, hxv, Deferred.ofValue, invoke, Bind.bind, Sem.bind, Pure.pure, Sem.run, hvs]
  rw [e]; exact hyr
 rw [hrun]
 refine ⟨(fun hd => by cases hd), hr.mono ?_⟩
 rintro e w' ⟨v, L', hv', rfl, hs', hk'⟩
 exact h v L' hv' _ _ (he.put (dst := some d) hd _) (hk.trans hk') hs'
end
theorem back_spec (a : Option Addr) (n c : Nat) : Fn Tryz.prog 101 #[.slice a n c] [] fun v L => ∃ b, v = .func (.func 144) #[] [vptr b].toArray ∧ L = [ptc b [.slice a n c] 23] := by
 refine Fn.intro Tryz.func101 rfl rfl fun F W => ?_
 refine .sr (.oq (.box rfl) ?_)
 rintro v L' ⟨b, rfl, rfl⟩
 refine .an rfl (.sr (.q (.func (us := []) (vs := [_]) rfl rfl) rfl (.an rfl (.ret ?_))))
 exact .dn rfl rfl ⟨b, rfl, rfl⟩
theorem back_at {xs : List Bs} {k : Nat} (hk : k < xs.length) : (strs xs)[((xs.length : Int) - 1 - k).toNat * 1]? = some (vstr (xs.reverse.getD k [])) := by
 have e : ((xs.length : Int) - 1 - k).toNat * 1 = xs.length - 1 - k := by omega
 rw [e, List.getElem?_map, ← List.getElem?_reverse hk, List.getD_eq_getElem?_getD]
 rw [List.getElem?_eq_getElem (by simpa using hk)]
 rfl
theorem back1_spec (va : Value) (xs : List Bs) (b : Nat) (q : HP) (hq : ∀ h : Hp, q h → rdS 1 h va xs.length (strs xs)) (hl : xs.length ≤ 1099511627776) (l : Nat) (J : Nat → HP) (hY : ∀ i, i < xs.length → YieldH Tryz.prog l (#[vint ((xs.length : Int) - 1 - (i : Nat)), vstr (xs.reverse.getD i [])]) [J i] fun v L => v = .bool true ∧ L = [J (i + 1)]) : Fn Tryz.prog 144 #[yV l, vptr b] [J 0, ptc b [va] 23, q] fun _ L => L = [J xs.length, ptc b [va] 23, q] := by
 refine Fn.intro Tryz.func144 rfl rfl fun F W => ?_
 refine .rdAny (p := q) hq (by repeat' constructor) fun aa ca ee _ => ?_
 subst ee
 have hJ : ∀ i j : Nat, i = j → J i = J j := fun i j e => by rw [e]
 refine .sr (.u (.ld rfl ag_23) (.q (.slen rfl Tryz.underlying23 rfl) rfl (.q (.to (v' := vint ((xs.length : Int) - 1 - ((0 : Nat) : Int))) (.sub rfl rfl (by omega)) (by congr 1; omega)) rfl (.an rfl (.block (.loopK (ι := Nat) (fun q E => (3, vint ((xs.length : Int) - 1 - q)) :: E) (fun q => [J q]) (fun q => q ≤ xs.length) (fun q => xs.length - q) (0) (ts := [0, 1]) (.cons rfl (.cons rfl (.nil))) (Nat.zero_le _) ⟨rfl, rfl, rfl, trivial⟩ (by repeat' constructor) ?_))))))
 rintro k hk
 refine .seq (.sm rfl (.ui rfl rfl rfl (.nt (.condD rfl (fun h8 => ?_) (fun h8 => ?_)))))
 ·have hkl : k < xs.length := by omega
  refine .rdShape (p := q) hq (by repeat' constructor) (by omega) fun ba oa e => ?_
  subst e
  refine .sk (.seq (.block (.seq (GY.region (GY.q rfl (.move rfl) rfl (GY.q rfl (.move rfl) rfl (GY.q rfl (.ld rfl ag_23) rfl (GY.q rfl (.move rfl) rfl (GY.q rfl (.indexAddr rfl rfl el_23 (by omega)) rfl (GY.q rfl (.loadEl (p := q) (i := ((xs.length : Int) - 1 - k).toNat * 1) (v := vstr (xs.reverse.getD k [])) rfl ag_9 (by repeat' constructor) hq (back_at hkl)) rfl (GY.yield (vs := [_, _]) rfl rfl (hY k hkl) (by repeat' constructor) rfl ?_)))))))))))
  rintro v L' ⟨rfl, rfl⟩
  refine GY.q rfl (.not rfl) rfl (GY.nil (.then_n (.condF rfl (.skip (.blk_n (.then_n (.region (.m rfl (.q (.to (v' := vint ((xs.length : Int) - 1 - ((k + 1 : Nat) : Int))) (.sub rfl rfl (by omega)) (by congr 1; omega)) rfl (.an rfl ?_))))))))))
  exact .rk (k + 1) (by omega) (by omega) ⟨rfl, rfl, rfl, trivial⟩
 have hkl : k = xs.length := by omega
 subst hkl
 refine .exit (.then_e (.then_e (.blk_e (.done_n ?_))))
 exact .dn rfl rfl rfl
theorem back_iter (va : Value) (xs : List Bs) (b : Nat) (q : HP) (hq : ∀ h : Hp, q h → rdS 1 h va xs.length (strs xs)) (hl : xs.length ≤ 1099511627776) : IterV Tryz.prog (.func (.func 144) #[] [vptr b].toArray) xs.length (fun i => #[vint ((xs.length : Int) - 1 - (i : Nat)), vstr (xs.reverse.getD i [])]) [ptc b [va] 23, q] :=
 ⟨_, [vptr b], _, _, rfl, Tryz.func144, rfl, rfl, fun l J hY => back1_spec va xs b q hq hl l J hY⟩
end Go.Proofs.YtkjlihfalfbmjaaGreatDoor
