/- Own work, in part by program, for prepTxns.proved. -/
import Derived.Test.YtkjlihfalfbmjaaGreatDoorCPTxnsP1
import Derived.Sort.Walk0
import Derived.Test.YtkjlihfalfbmjaaGreatDoorCPTxnsP2
set_option maxRecDepth 100000
namespace Go.Proofs.YtkjlihfalfbmjaaGreatDoor
open Go
section
variable {P : Program} {E : Env} {L : List HP} {ty : TypeId}
theorem Quiet.strge {t t' : TypeId} {x y : Operand} {a b : List UInt8} (hx : ev E x = some (vstr a)) (hy : ev E y = some (vstr b)) : Quiet P ⟨none, .binOp .geq t x y t', ty, "", #[], none⟩ E L (.bool (decide (¬ a < b))) := by
 intro ρ w ha _
 have key : (!Op.bytesLess a b) = decide (¬ a < b) := by rw [bytesLess_eq, decide_not]
 rw [← key]
 simp [execOp, ha x _ hx, ha y _ hy, eqGuard, binOp, Op.stringOp, Bind.bind, Sem.bind, Pure.pure, Sem.run]
end
abbrev Rno := Bs × (Value × Nd)
def rnC (z : Rno) : List Value := [vstr z.1, vstr z.2.2.data, z.2.1, vint z.2.2.st.cz, vint z.2.2.st.mz, vint z.2.2.st.pz, vint z.2.2.st.ver, vint z.2.2.st.cver, vint z.2.2.st.av, vint z.2.2.st.own, vint z.2.2.st.len, vint z.2.2.st.kids]
def rsC (y : Int × (Int × Bs)) : List Value := [vint y.1, vint y.2.1, vstr y.2.2]
def inA (z : Rno) : HP := rdO 2 z.2.1 z.2.2.acl.length (z.2.2.acl.flatMap acC)
def ndsZ (l : List Rno) : List (Bs × Nd) := l.map fun z => (z.1, z.2.2)
abbrev rnR (v : Value) (l : List Rno) : HP := slR 112 12 v l.length (l.flatMap rnC)
abbrev rsR (v : Value) (l : SsM) : HP := slR 122 3 v l.length (l.flatMap rsC)
def refR (x : Nat) (τ : Tr) : HP := fun h => ∃ y : (Value × Value) × List Rno, ndsZ y.2 = τ.nodes ∧ sep [ptc x [y.1.1, y.1.2, vint τ.zx] 110, rnR y.1.1 y.2, rsR y.1.2 τ.sess, bigR inA y.2] h
section
variable {W : World} {n : Nat} {ds : List Deferred} {E : Env} {L R : List HP} {X : Act → World → Prop}
theorem G.rtOpen {x : Nat} {τ : Tr} (hL : Pick (refR x τ) L R) (h : ∀ (an cn as' cs : _) (l : List Rno), ndsZ l = τ.nodes → G W n ds E (ptc x [.slice an l.length cn, .slice as' τ.sess.length cs, vint τ.zx] 110 :: rnR (.slice an l.length cn) l :: rsR (.slice as' τ.sess.length cs) τ.sess :: bigR inA l :: R) X) : G W n ds E L X := by
 refine G.focus hL (G.open (q := fun y : (Value × Value) × List Rno => [ptc x [y.1.1, y.1.2, vint τ.zx] 110, rnR y.1.1 y.2, rsR y.1.2 τ.sess, bigR inA y.2]) (φ := fun y : (Value × Value) × List Rno => ndsZ y.2 = τ.nodes) (fun _ hp => hp) fun y hy => ?_)
 obtain ⟨⟨v1, v2⟩, l⟩ := y
 dsimp only at hy ⊢
 refine G.slAny (v := v1) (by repeat (first | exact Pick.here | apply Pick.there)) fun an cn e0 _ => ?_
 subst e0
 refine G.slAny (v := v2) (by repeat (first | exact Pick.here | apply Pick.there)) fun as' cs e0 _ => ?_
 subst e0
 exact fun a w he hk hs => h an cn as' cs l hy a w he hk (hs.picks (by repeat (first | exact Picks.nil | (apply Picks.cons; (repeat (first | exact Pick.here | apply Pick.there))))))
theorem G.rtFold {x : Nat} {τ : Tr} {l : List Rno} {v1 v2 : Value} {c : List Value} {k1 k2 : Nat} {y1 y2 : List Value} (hn : ndsZ l = τ.nodes) (hL : Picks [ptc x c 110, slR 112 12 v1 k1 y1, slR 122 3 v2 k2 y2, bigR inA l] L R) (hc : c = [v1, v2, vint τ.zx]) (h1 : k1 = l.length) (h2 : y1 = l.flatMap rnC) (h3 : k2 = τ.sess.length) (h4 : y2 = τ.sess.flatMap rsC)
  (h : G W n ds E (refR x τ :: R) X) : G W n ds E L X := by
 subst hc; subst h1; subst h2; subst h3; subst h4
 exact G.fold hL (fun _ hp => ⟨((v1, v2), l), hn, hp⟩) h
theorem G.rfCast {x : Nat} {τ τ' : Tr} (hL : Pick (refR x τ) L R) (hw : τ' = τ) (h : G W n ds E (refR x τ' :: R) X) : G W n ds E L X := by
 subst hw; exact G.focus hL h
end
theorem nds_len {l : List Rno} {m : List (Bs × Nd)} (h : ndsZ l = m) : l.length = m.length := by rw [← h]; simp [ndsZ]
theorem nds_get {l : List Rno} {m : List (Bs × Nd)} (h : ndsZ l = m) {i : Nat} (hi : i < l.length) : m[i]'(by rw [← nds_len h]; exact hi) = (l[i].1, l[i].2.2) := by
 subst h; simp [ndsZ]
theorem rn_cell {l : List Rno} {i k : Nat} (hi : i < l.length) (hk : k < 12) : (l.flatMap rnC)[i * 12 + k]? = (rnC l[i])[k]? := flatMap_cell (f := rnC) (sz := 12) (fun _ _ => rfl) hi hk
theorem rs_cell {l : SsM} {i k : Nat} (hi : i < l.length) (hk : k < 3) : (l.flatMap rsC)[i * 3 + k]? = (rsC l[i])[k]? := flatMap_cell (f := rsC) (sz := 3) (fun _ _ => rfl) hi hk
/-! ### Places -/
def placeTo {β : Type} (l : List (Bs × β)) (p : Bs) : Int := match posK p (l.map (·.1)) with
 | some i => i
 | none => -1
def placeZ (τ : Tr) (p : Bs) : Int := placeTo τ.nodes p
theorem posK_at {K : Type} [DecidableEq K] {l : List K} {k : K} : ∀ {i : Nat} (hi : i < l.length), l[i] = k → (∀ j (hj : j < i), l[j]'(by omega) ≠ k) → posK k l = some i := by
 induction l with
 | nil => intro i hi; simp at hi
 | cons a l ih =>
  intro i hi h1 h2
  unfold posK
  cases i with
  | zero => simp at h1; rw [if_pos h1.symm]
  | succ i =>
   rw [if_neg (fun e => h2 0 (by omega) (by simpa using e.symm)), ih (i := i) (by simpa using hi) (by simpa using h1) (fun j hj => by simpa using h2 (j + 1) (by omega))]
   rfl
theorem posK_none {K : Type} [DecidableEq K] {l : List K} {k : K} (h : k ∉ l) : posK k l = none := by
 induction l with
 | nil => rfl
 | cons a l ih =>
  unfold posK
  rw [if_neg (fun e => h (by rw [e]; exact List.mem_cons_self)), ih (fun g => h (List.mem_cons_of_mem _ g))]; rfl
theorem posK_get {K : Type} [DecidableEq K] {l : List K} {k : K} : ∀ {i : Nat}, posK k l = some i → ∃ hi : i < l.length, l[i] = k ∧ ∀ j (hj : j < i), l[j]'(by omega) ≠ k := by
 induction l with
 | nil => intro i h; cases h
 | cons a l ih =>
  intro i h
  unfold posK at h
  split at h
  ·rename_i e; cases h; exact ⟨by simp, by simp [e], fun j hj => by omega⟩
  ·rename_i e
   rcases h2 : posK k l with _ | i'
   ·rw [h2] at h; cases h
   ·rw [h2] at h; cases h
    obtain ⟨g1, g2, g3⟩ := ih h2
    refine ⟨by simp; omega, by simpa using g2, fun j hj => ?_⟩
    cases j with
    | zero => simpa using fun e2 => e e2.symm
    | succ j => simpa using g3 j (by have hj' : j + 1 < i' + 1 := hj; omega)
theorem place_at {β : Type} {l : List (Bs × β)} {p : Bs} {i : Nat} (hi : i < l.length) (h1 : l[i].1 = p) (h2 : ∀ j (hj : j < i), l[j].1 ≠ p) : placeTo l p = i := by
 unfold placeTo
 rw [posK_at (i := i) (by simpa using hi) (by simpa using h1) (fun j hj => by simpa using h2 j hj)]
theorem place_none {β : Type} {l : List (Bs × β)} {p : Bs} (h : ∀ j (hj : j < l.length), l[j].1 ≠ p) : placeTo l p = -1 := by
 unfold placeTo
 rw [posK_none]
 intro hm
 obtain ⟨x, hx, e⟩ := List.mem_map.1 hm
 obtain ⟨j, hj, rfl⟩ := List.mem_iff_getElem.1 hx
 exact h j hj e
theorem place_get {β : Type} {l : List (Bs × β)} {p : Bs} (h : 0 ≤ placeTo l p) : ∃ k : Nat, ∃ hk : k < l.length, placeTo l p = k ∧ l[k].1 = p := by
 unfold placeTo at h ⊢
 rcases e : posK p (l.map (·.1)) with _ | k
 ·rw [e] at h; exact absurd h (by decide)
 ·obtain ⟨g1, g2, -⟩ := posK_get e
  exact ⟨k, by simpa using g1, by rw [e], by simpa using g2⟩
theorem place_iff {β : Type} {l : List (Bs × β)} {p : Bs} : 0 ≤ placeTo l p ↔ (alook l p).isSome = true := by
 rw [al_isSome]
 constructor
 ·intro h
  obtain ⟨k, hk, -, e⟩ := place_get h
  exact List.mem_map.2 ⟨l[k], List.getElem_mem hk, e⟩
 ·intro h
  unfold placeTo
  rcases e : posK p (l.map (·.1)) with _ | k
  ·exfalso
   have key : ∀ l : List Bs, p ∈ l → posK p l ≠ none := by
    intro l
    induction l with
    | nil => intro h; cases h
    | cons a l ih =>
     intro h
     unfold posK
     split
     ·simp
     ·rename_i hne
      rcases List.mem_cons.1 h with g | g
      ·exact absurd g hne
      ·intro e2
       have := ih g
       rcases e3 : posK p l with _ | j
       ·exact this e3
       ·rw [e3] at e2; cases e2
   exact key _ h e
  ·first | (rw [e]; exact Int.natCast_nonneg _) | exact Int.natCast_nonneg _
theorem place_nds (l : List Rno) (p : Bs) : placeTo (ndsZ l) p = placeTo l p := by
 unfold placeTo ndsZ; rw [List.map_map]; rfl
theorem amod_set {β : Type} {l : List (Bs × β)} (hn : (l.map (·.1)).Nodup) {k : Nat} (hk : k < l.length) (f : β → β) : amod l l[k].1 f = l.set k (l[k].1, f l[k].2) := by
 apply List.ext_getElem
 ·simp [amod]
 ·intro i h1 h2
  have hi : i < l.length := by simpa [amod] using h1
  simp only [amod, List.getElem_map, List.getElem_set]
  by_cases e : k = i
  ·subst e; simp
  ·have : l[i].1 ≠ l[k].1 := fun g => by
    have := (List.getElem_inj (i := i) (j := k) (h₀ := by simpa using hi) (h₁ := by simpa using hk) hn).1 (by simpa using g)
    exact e this.symm
   rw [if_neg this, if_neg e]
theorem flatMap_set {α : Type} {f : α → List Value} {sz : Nat} : ∀ {l : List α} {i k : Nat} {v : Value} {y : α} (hf : ∀ x, (f x).length = sz) (hi : i < l.length) (hk : k < sz) (hy : (f l[i]).set k v = f y), (l.flatMap f).set (i * sz + k) v = (l.set i y).flatMap f
 | x :: l, 0, k, v, y, hf, hi, hk, hy => by
  simp only [List.flatMap_cons, List.set_cons_zero, Nat.zero_mul, Nat.zero_add]
  rw [List.set_append_left _ _ (by rw [hf]; exact hk)]
  congr 1
 | x :: l, i + 1, k, v, y, hf, hi, hk, hy => by
  simp only [List.flatMap_cons, List.set_cons_succ]
  rw [List.set_append_right _ _ (by rw [hf, Nat.add_mul]; omega), hf, show (i + 1) * sz + k - sz = i * sz + k by rw [Nat.add_mul]; omega]
  congr 1
  exact flatMap_set hf (by simpa using hi) hk (by simpa using hy)
theorem nds_set {l : List Rno} {i : Nat} (y : Rno) : ndsZ (l.set i y) = (ndsZ l).set i (y.1, y.2.2) := by unfold ndsZ; rw [List.map_set]
theorem big_set {l : List Rno} {i : Nat} {y : Rno} (hi : i < l.length) (h1 : inA y = inA l[i]) {h : Hp} (hs : bigR inA l h) : bigR inA (l.set i y) h := by
 unfold bigR at hs ⊢
 rw [List.map_set, h1]
 have : (l.map inA).set i (inA l[i]) = l.map inA := by
  apply List.ext_getElem
  ·simp
  ·intro j _ _
   rw [List.getElem_set]
   split
   ·rename_i e; subst e; simp
   ·rfl
 rw [this]; exact hs
theorem G.bigSet {W : World} {n : Nat} {ds : List Deferred} {E : Env} {L R : List HP} {X : Act → World → Prop} {l : List Rno} {i : Nat} {y : Rno} (hi : i < l.length) (h1 : inA y = inA l[i]) (hL : Pick (bigR inA l) L R) (h : G W n ds E (bigR inA (l.set i y) :: R) X) : G W n ds E L X :=
 fun a w he hk hs => h a w he hk (sep_imp (fun _ hp => big_set hi h1 hp) (hs.pick hL))
theorem nds_sset {l : List Rno} (p : Bs) (y : Value × Nd) : ndsZ (sset l p y) = sset (ndsZ l) p y.2 := by
 induction l with
 | nil => rfl
 | cons x l ih =>
  show ndsZ (sset (x :: l) p y) = sset ((x.1, x.2.2) :: ndsZ l) p y.2
  unfold sset
  dsimp only
  split
  ·rfl
  ·split
   ·rfl
   ·show (x.1, x.2.2) :: ndsZ (sset l p y) = _
    rw [ih]
theorem nds_sorted {l : List Rno} (h : SortedK (ndsZ l)) : SortedK l := by
 unfold SortedK ndsZ at *
 rw [List.map_map] at h; exact h
theorem sset_perm {K β : Type} [LT K] [DecidableEq K] [DecidableLT K] (ho : Lin K) {l : List (K × β)} (h : SortedK l) (k : K) (v : β) : (sset l k v).Perm ((k, v) :: adel l k) := by
 have hn := h.nodup ho
 refine al_ext_perm ((h.sset ho k v).nodup ho) ?_ fun x => ?_
 ·rw [List.map_cons]
  refine List.nodup_cons.2 ⟨fun g => ?_, nodup_adel hn k⟩
  have := al_isSome.2 g
  rw [al_adel hn, if_pos rfl] at this; cases this
 ·rw [al_sset]
  by_cases e : x = k
  ·subst e; simp [alook]
  ·rw [if_neg e]; simp only [alook, e, if_false]; rw [al_adel hn, if_neg e]
theorem big_sset {l : List Rno} (hs : SortedK l) {k : Bs} {v : Value × Nd} {h : Hp} (hp : sep [inA (k, v), bigR inA l] h) : bigR inA (sset l k v) h := by
 refine big_perm (sset_perm linB hs k v).symm (big_of_cons ?_)
 obtain ⟨h1, h2, hd, a1, a2, p1, h3, h4, hd2, b1, b2, p2, p3⟩ := hp
 exact ⟨h1, h2, hd, a1, a2, p1, h3, h4, hd2, b1, b2, big_del k p2, p3⟩
theorem G.bigSset {W : World} {n : Nat} {ds : List Deferred} {E : Env} {L R : List HP} {X : Act → World → Prop} {l : List Rno} (hs : SortedK l) (k : Bs) (v : Value × Nd) {p : HP} (hp : p = inA (k, v)) (hL : Picks [p, bigR inA l] L R) (h : G W n ds E (bigR inA (sset l k v) :: R) X) : G W n ds E L X := by
 subst hp
 exact G.fold hL (fun _ hp => big_sset hs hp) h
theorem big_sub {α : Type} {f : α → HP} {l m : List α} (hs : l.Sublist m) {h : Hp} (hp : bigR f m h) : bigR f l h := by
 induction hs generalizing h with
 | slnil => exact hp
 | cons a _ ih =>
  obtain ⟨h1, h2, -, -, a2, -, p2⟩ := hp
  exact sep_mono (ih p2) a2
 | cons_cons a _ ih =>
  obtain ⟨h1, h2, hd, a1, a2, p1, p2⟩ := hp
  exact ⟨h1, h2, hd, a1, a2, p1, ih p2⟩
theorem G.bigSub {W : World} {n : Nat} {ds : List Deferred} {E : Env} {L R : List HP} {X : Act → World → Prop} {l m : List Rno} (hs : l.Sublist m) (hL : Pick (bigR inA m) L R) (h : G W n ds E (bigR inA l :: R) X) : G W n ds E L X :=
 fun a w he hk hs' => h a w he hk (sep_imp (fun _ hp => big_sub hs hp) (hs'.pick hL))
theorem nds_filter {l : List Rno} (f : Bs → Bool) : ndsZ (l.filter fun y => f y.1) = (ndsZ l).filter fun y => f y.1 := by
 unfold ndsZ
 rw [List.filter_map]; rfl
structure LayI {β : Type} (l : List (Bs × β)) (p : Bs) (v : β) (i : Nat) (b : Bool) (acc : List (Bs × β)) : Prop where
 no : b = false → acc = l.take i ∧ ∀ x ∈ l.take i, x.1 < p
 yes : b = true → acc = sset (l.take i) p v ∧ ∃ x ∈ l.take i, ¬ x.1 < p
theorem sset_end {β : Type} {l : List (Bs × β)} {p : Bs} (v : β) (h : ∀ x ∈ l, x.1 < p) : sset l p v = l ++ [(p, v)] := by
 induction l with
 | nil => rfl
 | cons x l ih =>
  have hx := h x List.mem_cons_self
  unfold sset
  rw [if_neg (fun e => linB.irr p (by rw [← e] at hx ⊢; exact hx)), if_neg (fun g => linB.irr _ (linB.tr _ _ _ hx g)), ih (fun y hy => h y (List.mem_cons_of_mem _ hy))]; rfl
theorem sset_past {β : Type} {l : List (Bs × β)} {p : Bs} (v : β) (y : Bs × β) (h : ∃ x ∈ l, ¬ x.1 < p) : sset (l ++ [y]) p v = sset l p v ++ [y] := by
 induction l with
 | nil => obtain ⟨x, hx, -⟩ := h; cases hx
 | cons x l ih =>
  rw [List.cons_append]
  unfold sset
  split
  ·rfl
  ·split
   ·rfl
   ·rename_i e1 e2
    have hx : x.1 < p := by
     rcases linB.tri x.1 p with g | g | g
     ·exact g
     ·exact absurd g e1
     ·exact absurd g e2
    rw [ih]; rfl
    obtain ⟨z, hz, g⟩ := h
    rcases List.mem_cons.1 hz with rfl | hz
    ·exact absurd hx g
    ·exact ⟨z, hz, g⟩
theorem LayI.start {β : Type} (l : List (Bs × β)) (p : Bs) (v : β) : LayI l p v 0 false [] := ⟨fun _ => ⟨by simp, by simp⟩, fun h => by cases h⟩
theorem take_lt {β : Type} {l : List (Bs × β)} (hs : SortedK l) {i : Nat} (hi : i < l.length) : ∀ x ∈ l.take i, x.1 < l[i].1 := fun x hx => by
 obtain ⟨j, hj, rfl⟩ := List.mem_iff_getElem.1 hx
 rw [List.length_take] at hj
 rw [List.getElem_take]
 have := List.pairwise_iff_getElem.1 hs j i (by simp; omega) (by simpa using hi) (by omega)
 simpa using this
theorem LayI.low {β : Type} {l : List (Bs × β)} {p : Bs} {v : β} {i : Nat} {acc : List (Bs × β)} (h : LayI l p v i false acc) (hi : i < l.length) (hl : l[i].1 < p) : LayI l p v (i + 1) false (acc ++ [l[i]]) := by
 obtain ⟨h1, h2⟩ := h.no rfl
 refine ⟨fun _ => ⟨by rw [h1, List.take_succ_eq_append_getElem hi], fun x hx => ?_⟩, fun g => by cases g⟩
 rw [List.take_succ_eq_append_getElem hi] at hx
 rcases List.mem_append.1 hx with hx | hx
 ·exact h2 x hx
 ·simp at hx; rw [hx]; exact hl
theorem LayI.put {β : Type} {l : List (Bs × β)} {p : Bs} {v : β} {i : Nat} {acc : List (Bs × β)} (h : LayI l p v i false acc) (hi : i < l.length) (hl : ¬ l[i].1 < p) (hne : l[i].1 ≠ p) : LayI l p v (i + 1) true ((acc ++ [(p, v)]) ++ [l[i]]) := by
 obtain ⟨h1, h2⟩ := h.no rfl
 refine ⟨(fun g => by cases g), fun _ => ⟨?_, l[i], by rw [List.take_succ_eq_append_getElem hi]; exact List.mem_append_right _ List.mem_cons_self, hl⟩⟩
 have hgt : p < l[i].1 := by
  rcases linB.tri l[i].1 p with g | g | g
  ·exact absurd g hl
  ·exact absurd g hne
  ·exact g
 rw [List.take_succ_eq_append_getElem hi, h1]
 have key : ∀ (m : List (Bs × β)), (∀ x ∈ m, x.1 < p) → sset (m ++ [l[i]]) p v = m ++ [(p, v)] ++ [l[i]] := by
  intro m
  induction m with
  | nil => intro _; show sset [l[i]] p v = _; unfold sset; rw [if_neg hne, if_pos hgt]; rfl
  | cons x m ih =>
   intro hm
   have hx := hm x List.mem_cons_self
   rw [List.cons_append]
   unfold sset
   rw [if_neg (fun e => linB.irr p (by rw [← e] at hx ⊢; exact hx)), if_neg (fun g => linB.irr _ (linB.tr _ _ _ hx g)), ih (fun y hy => hm y (List.mem_cons_of_mem _ hy))]; rfl
 exact (key _ h2).symm
theorem LayI.sub {β : Type} {l : List (Bs × β)} {p : Bs} {v : β} {i : Nat} {acc : List (Bs × β)} (h : LayI l p v i false acc) (hi : i < l.length) (he : l[i].1 = p) : LayI l p v (i + 1) true (acc ++ [(p, v)]) := by
 obtain ⟨h1, h2⟩ := h.no rfl
 refine ⟨(fun g => by cases g), fun _ => ⟨?_, l[i], by rw [List.take_succ_eq_append_getElem hi]; exact List.mem_append_right _ List.mem_cons_self, by rw [he]; exact linB.irr p⟩⟩
 rw [List.take_succ_eq_append_getElem hi, h1]
 have key : ∀ (m : List (Bs × β)), (∀ x ∈ m, x.1 < p) → sset (m ++ [l[i]]) p v = m ++ [(p, v)] := by
  intro m
  induction m with
  | nil => intro _; show sset [l[i]] p v = _; unfold sset; rw [if_pos he]; rfl
  | cons x m ih =>
   intro hm
   have hx := hm x List.mem_cons_self
   rw [List.cons_append]
   unfold sset
   rw [if_neg (fun e => linB.irr p (by rw [← e] at hx ⊢; exact hx)), if_neg (fun g => linB.irr _ (linB.tr _ _ _ hx g)), ih (fun y hy => hm y (List.mem_cons_of_mem _ hy))]; rfl
 exact (key _ h2).symm
theorem LayI.more {β : Type} {l : List (Bs × β)} {p : Bs} {v : β} {i : Nat} {acc : List (Bs × β)} (h : LayI l p v i true acc) (hi : i < l.length) : LayI l p v (i + 1) true (acc ++ [l[i]]) := by
 obtain ⟨h1, h2⟩ := h.yes rfl
 refine ⟨(fun g => by cases g), fun _ => ⟨by rw [h1, List.take_succ_eq_append_getElem hi, sset_past v _ h2], ?_⟩⟩
 obtain ⟨x, hx, g⟩ := h2
 exact ⟨x, by rw [List.take_succ_eq_append_getElem hi]; exact List.mem_append_left _ hx, g⟩
theorem LayI.not {β : Type} {l : List (Bs × β)} (hs : SortedK l) {p : Bs} {v : β} {i : Nat} {acc : List (Bs × β)} (h : LayI l p v i true acc) (hi : i < l.length) : l[i].1 ≠ p := by
 obtain ⟨-, x, hx, g⟩ := h.yes rfl
 intro e
 exact g (by rw [← e]; exact take_lt hs hi x hx)
theorem LayI.last {β : Type} {l : List (Bs × β)} {p : Bs} {v : β} {acc : List (Bs × β)} {b : Bool} (h : LayI l p v l.length b acc) : (if b then acc else acc ++ [(p, v)]) = sset l p v := by
 cases b with
 | true => obtain ⟨h1, -⟩ := h.yes rfl; rw [List.take_length] at h1; exact h1
 | false =>
  obtain ⟨h1, h2⟩ := h.no rfl
  rw [List.take_length] at h1 h2
  rw [sset_end v h2, h1]; rfl
theorem sset_at {β : Type} {l : List (Int × β)} {k : Int} {v : β} {i : Nat} (hi : i ≤ l.length) (h1 : ∀ x ∈ l.take i, x.1 < k) (h2 : ∀ h : i < l.length, ¬ l[i].1 < k) (h3 : ∀ x ∈ l, x.1 ≠ k) : l.take i ++ [(k, v)] ++ l.drop i = sset l k v := by
 induction l generalizing i with
 | nil => simp at hi; subst hi; rfl
 | cons x l ih =>
  have hx3 := h3 x List.mem_cons_self
  cases i with
  | zero =>
   have hx2 := h2 (by simp)
   simp at hx2
   unfold sset
   rw [if_neg hx3, if_pos (by omega)]; rfl
  | succ i =>
   have hx1 := h1 x (by simp)
   unfold sset
   rw [if_neg hx3, if_neg (by omega), ← ih (i := i) (by simpa using hi) (fun y hy => h1 y (by simp [hy])) (fun h => by have := h2 (by simpa using h); simpa using this) (fun y hy => h3 y (List.mem_cons_of_mem _ hy))]
   simp
theorem open_drop {τ : Tr} {N : Nat} (ho : τ.Ok N) (id n : Int) (s : Bs) : openS (dropS τ id) id n s = openS τ id n s := by
 refine Tr.ext' rfl ?_ rfl
 show sset (τ.sess.filter _) id (n, s) = sset τ.sess id (n, s)
 refine sorted_same linI ((ho.ssorted.filter _).sset linI _ _) (ho.ssorted.sset linI _ _) fun i => ?_
 rw [al_sset, al_sset, al_filter (fun k => !decide (k = id))]
 by_cases e : i = id
 ·rw [if_pos e, if_pos e]
 ·rw [if_neg e, if_neg e]; simp [e]
theorem nds_mod {l : List Rno} {m : List (Bs × Nd)} (hl : ndsZ l = m) (hn : (m.map (·.1)).Nodup) {k : Nat} (hk : k < l.length) {p : Bs} (hp : l[k].1 = p) (f : Nd → Nd) {v : Value} {n : Nd} (hy : n = f l[k].2.2) : ndsZ (l.set k (l[k].1, (v, n))) = amod m p f := by
 subst hl; subst hp; subst hy
 have h2 : (ndsZ l)[k]'(by simpa [ndsZ] using hk) = (l[k].1, l[k].2.2) := by simp [ndsZ]
 have := amod_set hn (k := k) (by simpa [ndsZ] using hk) f
 rw [h2] at this
 rw [nds_set, this]
theorem big_rep {l : List Rno} {k : Nat} {y : Rno} (hk : k < l.length) {h : Hp} (hs : sep [inA y, bigR inA l] h) : bigR inA (l.set k y) h := by
 have e1 : (l.set k y).Perm (y :: (l.take k ++ l.drop (k + 1))) := by
  rw [List.set_eq_take_append_cons_drop, if_pos hk]
  exact List.perm_middle
 have e2 : (l.take k ++ l.drop (k + 1)).Sublist l := by
  have : l.take k ++ l.drop (k + 1) = l.eraseIdx k := (List.eraseIdx_eq_take_drop_succ l k).symm
  rw [this]; exact List.eraseIdx_sublist l k
 refine big_perm e1.symm (big_of_cons ?_)
 obtain ⟨h1, h2, hd, a1, a2, p1, h3, h4, hd2, b1, b2, p2, p3⟩ := hs
 exact ⟨h1, h2, hd, a1, a2, p1, h3, h4, hd2, b1, b2, big_sub e2 p2, p3⟩
theorem G.bigRep {W : World} {n : Nat} {ds : List Deferred} {E : Env} {L R : List HP} {X : Act → World → Prop} {l : List Rno} {k : Nat} (y : Rno) (hk : k < l.length) {p : HP} (hp : p = inA y) (hL : Picks [p, bigR inA l] L R) (h : G W n ds E (bigR inA (l.set k y) :: R) X) : G W n ds E L X := by
 subst hp
 exact G.fold hL (fun _ hp => big_rep hk hp) h
theorem Fn.pre2 {P : Program} {f : FuncId} {args : Array Value} {pre pre' : List HP} {post : Value → List HP → Prop} (h : Fn P f args pre post) (hp : ∀ F w, St (pre' ++ F) w → St (pre ++ F) w) : Fn P f args pre' post := fun F w hs => h F w (hp F w hs)
/-! ### Parts of slices -/
def cutA (a : Option Addr) (c i sz : Nat) : Option Addr := if c = i then a else a.map (·.add (i * sz))
section
variable {P : Program} {E : Env} {L : List HP} {ty : TypeId}
theorem Quiet.slFromO {t : TypeId} {x y : Operand} {a : Option Addr} {n c e sz by' : Nat} {i : Int} (hx : ev E x = some (.slice a n c)) (ht : elemOf' P t = some (e, sz, by')) (hy : ev E y = some (.int .i64 i)) (hb : 0 ≤ i ∧ i ≤ n ∧ n ≤ c) :
  Quiet P ⟨none, .slice t x (some y) none none, ty, "", #[], none⟩ E L (.slice (cutA a c i.toNat sz) (n - i.toNat) (c - i.toNat)) := by
 intro ρ w ha _
 unfold elemOf' at ht
 split at ht <;> (try cases ht)
 rename_i e' hu
 split at ht <;> (try cases ht)
 rename_i inf hin
 refine run_v ?_
 show (Instr.sliceAt t (ρ x) (some (ρ y)) none none).run P w = _
 rw [ha x _ hx, ha y _ hy]
 unfold Instr.sliceAt
 rw [run_bind (run_underlying hu)]
 show (Instr.slice t (.slice a n c) (some (.int .i64 i)) none none).run P w = _
 unfold Instr.slice
 rw [run_bind (run_underlying hu)]
 show (do let (l, h, m) ← Instr.sliceBounds true n c (some (.int .i64 i)) none none; let size ← sizeOf e; pure (.slice (if m = l then a else a.map (·.add (l * size))) (h - l) (m - l)) : Sem Value).run P w = _
 rw [run_bind (run_sliceBounds (i := i) (j := n) (.inl rfl) (.inr ⟨rfl, rfl⟩) ⟨hb.1, by omega, by omega⟩)]
 show (do let size ← sizeOf e; pure (.slice (if c = i.toNat then a else a.map (·.add (i.toNat * size))) ((n : Int).toNat - i.toNat) (c - i.toNat)) : Sem Value).run P w = _
 rw [run_bind (run_sizeOf (k := inf.size) (by simp [sizeOf', hin]))]
 rw [Int.toNat_natCast]; rfl
end
theorem slR_rd_to {T : TypeId} {sz n k c : Nat} {a : Option Addr} {xs : List Value} {h : Hp} (hk : k ≤ n) (hp : slR T sz (.slice a n c) n xs h) : rdS sz h (.slice a k c) k (xs.take (k * sz)) := by
 rcases hp with ⟨h1, h2, h3⟩ | ⟨b, cap, rest, fr, hv, hb, h1, h2, h3, h4⟩
 ·subst h2; subst h3
  obtain rfl : k = 0 := by omega
  exact .inl ⟨rfl, by simp, a, c, rfl⟩
 ·simp only [Value.slice.injEq, true_and] at hv
  obtain ⟨rfl, rfl⟩ := hv
  have hm := Nat.mul_le_mul_right sz hk
  refine .inr ⟨b, 0, c, xs ++ rest, T, fr, rfl, hb, ?_, by simp; omega, by omega⟩
  rw [List.drop_zero, List.take_append_of_le_length (by omega)]
theorem slR_rd_from {T : TypeId} {sz n k c : Nat} {a : Option Addr} {xs : List Value} {h : Hp} (hk : k ≤ n) (hp : slR T sz (.slice a n c) n xs h) : rdS sz h (.slice (cutA a c k sz) (n - k) (c - k)) (n - k) (xs.drop (k * sz)) := by
 rcases hp with ⟨h1, h2, h3⟩ | ⟨b, cap, rest, fr, hv, hb, h1, h2, h3, h4⟩
 ·subst h2; subst h3
  obtain rfl : k = 0 := by omega
  exact .inl ⟨rfl, by simp, _, _, rfl⟩
 ·simp only [Value.slice.injEq, true_and] at hv
  obtain ⟨rfl, rfl⟩ := hv
  unfold cutA
  by_cases e : c = k
  ·rw [if_pos e]
   have hnk : n = k := by omega
   subst hnk
   have h0 : n - n = 0 := by omega
   rw [h0]
   exact .inl ⟨rfl, List.drop_eq_nil_of_le (by omega), _, _, rfl⟩
  ·rw [if_neg e]
   have hm := Nat.mul_le_mul_right sz hk
   have hms : (n - k) * sz = n * sz - k * sz := Nat.sub_mul n k sz
   refine .inr ⟨b, k * sz, c - k, xs ++ rest, T, fr, ?_, hb, ?_, by simp; omega, by omega⟩
   ·simp [Addr.add_eq]
   ·rw [List.drop_append_of_le_length (by omega), List.take_append_of_le_length (by rw [List.length_drop]; omega), List.take_of_length_le (by rw [List.length_drop]; omega)]
theorem flat_take {α : Type} {f : α → List Value} {sz : Nat} (hf : ∀ x, (f x).length = sz) : ∀ (l : List α) (k : Nat), (l.flatMap f).take (k * sz) = (l.take k).flatMap f ∧ (l.flatMap f).drop (k * sz) = (l.drop k).flatMap f
 | [], k => by simp
 | x :: l, 0 => by simp
 | x :: l, k + 1 => by
  have hx := hf x
  obtain ⟨h1, h2⟩ := flat_take hf l k
  rw [List.flatMap_cons, List.take_succ_cons, List.drop_succ_cons, List.flatMap_cons, show (k + 1) * sz = sz + k * sz by rw [Nat.add_mul]; omega]
  refine ⟨?_, ?_⟩
  ·rw [List.take_append, hx, List.take_of_length_le (by omega), show sz + k * sz - sz = k * sz by omega, h1]
  ·rw [List.drop_append, hx, List.drop_eq_nil_of_le (by omega), show sz + k * sz - sz = k * sz by omega, h2]; rfl
theorem G.slForm {W : World} {n' : Nat} {ds : List Deferred} {E : Env} {L R : List HP} {X : Act → World → Prop} {T : TypeId} {sz m c : Nat} {a : Option Addr} {xs : List Value} (hL : Pick (slR T sz (.slice a m c) m xs) L R) (h0 : a = none → m = 0 → c = 0 → G W n' ds E L X) (h1 : ∀ b, a = some ⟨b, 0, none⟩ → m ≤ c → G W n' ds E L X) : G W n' ds E L X := by
 intro ac w he hk hs
 obtain ⟨g1, -, hp⟩ := sep_head (hs.pick hL)
 rcases hp with ⟨e1, e2, -⟩ | ⟨b', cap, rest, fr, e1, -, -, -, e5, -⟩
 ·simp only [Value.slice.injEq] at e1
  exact h0 e1.1 e2 e1.2.2 ac w he hk hs
 ·simp only [Value.slice.injEq] at e1
  exact h1 b' e1.1 (by omega) ac w he hk hs
/-! ### What is told -/
def kidsN (l : List Rno) (p : Bs) : List Bs := (l.filter fun y => !decide (y.1 = [47]) && decide (parentZ y.1 = p)).map fun y => baseZ y.1
theorem kidsN_eq {l : List Rno} {τ : Tr} (h : ndsZ l = τ.nodes) (p : Bs) : kidsN l p = kidsZ τ p := by
 unfold kidsN kidsZ
 rw [← h]
 unfold ndsZ
 rw [List.filter_map, List.map_map]; rfl
theorem kidsN_len (l : List Rno) (p : Bs) : (kidsN l p).length ≤ l.length := by
 unfold kidsN; rw [List.length_map]; exact List.length_filter_le _ _
def ownN (l : List Rno) (s : Int) : List Bs := (l.filter fun y => !decide (s = 0) && decide (y.2.2.st.own = s)).map (·.1)
theorem ownN_eq {l : List Rno} {τ : Tr} (h : ndsZ l = τ.nodes) (s : Int) : ownN l s = ownedZ τ s := by
 unfold ownN ownedZ
 rw [← h]
 unfold ndsZ
 rw [List.filter_map, List.map_map]; rfl
theorem ownN_len (l : List Rno) (s : Int) : (ownN l s).length ≤ l.length := by
 unfold ownN; rw [List.length_map]; exact List.length_filter_le _ _
theorem owned_len (τ : Tr) (s : Int) : (ownedZ τ s).length ≤ τ.nodes.length := by
 unfold ownedZ; rw [List.length_map]; exact List.length_filter_le _ _
theorem kidsZ_len (τ : Tr) (p : Bs) : (kidsZ τ p).length ≤ τ.nodes.length := by
 unfold kidsZ; rw [List.length_map]; exact List.length_filter_le _ _
def sesP (τ : Tr) (id : Int) : Int := match posK id (τ.sess.map (·.1)) with
 | some i => i
 | none => -1
theorem ses_at {τ : Tr} {id : Int} {i : Nat} (hi : i < τ.sess.length) (h1 : τ.sess[i].1 = id) (h2 : ∀ j (hj : j < i), τ.sess[j].1 ≠ id) : sesP τ id = i := by
 unfold sesP
 rw [posK_at (i := i) (by simpa using hi) (by simpa using h1) (fun j hj => by simpa using h2 j hj)]
theorem ses_none {τ : Tr} {id : Int} (h : ∀ j (hj : j < τ.sess.length), τ.sess[j].1 ≠ id) : sesP τ id = -1 := by
 unfold sesP
 rw [posK_none]
 intro hm
 obtain ⟨x, hx, e⟩ := List.mem_map.1 hm
 obtain ⟨j, hj, rfl⟩ := List.mem_iff_getElem.1 hx
 exact h j hj e
theorem big_rd {l : List Rno} {i : Nat} (hi : i < l.length) : ∀ h : Hp, bigR inA l h → rdS 2 h l[i].2.1 l[i].2.2.acl.length (l[i].2.2.acl.flatMap acC) := by
 induction l generalizing i with
 | nil => simp at hi
 | cons x l ih =>
  intro h hs
  obtain ⟨h1, h2, -, a1, a2, p1, p2⟩ := hs
  cases i with
  | zero => exact rdS_mono p1 a1
  | succ i => exact rdS_mono (ih (by simpa using hi) h2 p2) a2
theorem big_snoc {l : List Rno} {y : Rno} {h : Hp} (hs : sep [inA y, bigR inA l] h) : bigR inA (l ++ [y]) h := by
 refine big_perm ?_ (big_of_cons hs)
 exact (List.perm_append_singleton y l).symm
theorem G.bigSnoc {W : World} {n : Nat} {ds : List Deferred} {E : Env} {L R : List HP} {X : Act → World → Prop} {l : List Rno} (y : Rno) {p : HP} (hp : p = inA y) (hL : Picks [p, bigR inA l] L R) (h : G W n ds E (bigR inA (l ++ [y]) :: R) X) : G W n ds E L X := by
 subst hp
 exact G.fold hL (fun _ hp => big_snoc hp) h
/-! ### Soundness -/
def findsZ (τ : Tr) (x : Pt) : Bool :=
 if x.kind = 1 then decide (ableZ x.path ∧ ¬ thereT τ x.path ∧ thereT τ (parentZ x.path))
 else if x.kind = 2 then decide (x.path ≠ [47] ∧ thereT τ x.path ∧ (kidsZ τ x.path).length = 0)
 else if x.kind = 3 ∨ x.kind = 4 then decide (thereT τ x.path) else false
def soundL (τ : Tr) (zx : Int) (cl : Bool) : List Pt → Bool
 | [] => true
 | x :: l => findsZ τ x && (!cl || decide (x.kind = 2)) && soundL (partZ τ x zx).1 zx cl l
def soundZ (τ : Tr) (zx : Int) (x : Pt) (subs : List Pt) : Bool :=
 if x.kind = 1 ∨ x.kind = 2 ∨ x.kind = 3 ∨ x.kind = 4 then findsZ τ x
 else if x.kind = 6 ∨ x.kind = 7 then soundL τ zx (decide (x.kind = 6)) subs else true
/-! ### Paths -/
/-! ### What a part does, path by path -/
/-! ### What an entry may be -/
def wldZ : Bs := [119, 111, 114, 108, 100]
def wld (l : List Ac) : Prop := l = [] ∨ ∃ q : Int, 1 ≤ q ∧ q ≤ 31 ∧ l = [(q, wldZ)]
structure PartH (τ : Tr) (y : Pt) (K : Int) : Prop where
 kind : 0 ≤ y.kind ∧ y.kind ≤ 4
 path : y.path.length ≤ 62
 data : y.data.length ≤ 100
 acl : wld y.acl
 own : y.own = 0 ∨ ∃ s, alook τ.sess y.own = some s
 num : 0 ≤ y.num ∧ y.num ≤ K + 1
 err : y.err = 0
 room : y.kind = 1 → τ.nodes.length < 60
def PartsH (τ : Tr) (zx : Int) (subs : List Pt) (K : Int) : Prop := ∀ i (hi : i < subs.length), PartH (partsZ τ zx (subs.take i)).1 subs[i] (K + i)
structure CloseH (τ : Tr) (x : Pt) (subs : List Pt) : Prop where
 own : 1 ≤ x.own ∧ x.own ≤ 5
 paths : subs.map (·.path) = (ownedZ τ x.own).reverse
 kinds : ∀ y ∈ subs, y.kind = 2
inductive ShapeH (τ : Tr) (zx : Int) (x : Pt) (subs : List Pt) (K : Int) : Prop
 | part (hs : subs = []) (h : PartH τ x K)
 | opens (hk : x.kind = 5) (hs : subs = []) (ho : 1 ≤ x.own ∧ x.own ≤ 5) (hn : 4 ≤ x.num ∧ x.num ≤ 53) (hd : x.data.length ≤ 100) (ha : x.acl = []) (hp : x.path = [])
 | close (hk : x.kind = 6) (h : CloseH τ x subs) (hp : PartsH τ zx subs K) (ha : x.acl = []) (hd : x.data = []) (hl : subs.length ≤ 60) (hp : x.path = [])
 | multi (hk : x.kind = 7) (h : PartsH τ zx subs K) (ha : x.acl = []) (hd : x.data = []) (hl : subs.length ≤ 6) (hp : x.path = [])
 | error (hk : x.kind = 8) (hs : subs = []) (he : 0 ≤ x.err ∧ x.err < 99) (hn : x.num = -1) (ha : x.acl = []) (hd : x.data = []) (hp : x.path = [])
def TxC (x : Pt) (subs : List Pt) : Prop := isCell x.aclV = true ∧ isCell x.subsV = true ∧ ∀ y ∈ subs, isCell y.aclV = true ∧ isCell y.subsV = true
structure EntH (τ : Tr) (e : En) (K : Int) : Prop where
 sound : soundZ τ e.zx e.x e.subs = true
 shape : ShapeH τ e.zx e.x e.subs K
 ses : 0 ≤ e.ses ∧ e.ses < 9
 cells : TxC e.x e.subs
/-! ### What is so in a sound history -/
/-! ### Parts, one by one -/
theorem snocInd {α : Type} {P : List α → Prop} (h0 : P []) (h1 : ∀ l x, P l → P (l ++ [x])) (l : List α) : P l := by
 have : ∀ m : List α, P m.reverse := by
  intro m
  induction m with
  | nil => exact h0
  | cons x m ih => rw [List.reverse_cons]; exact h1 _ _ ih
 have := this l.reverse
 rwa [List.reverse_reverse] at this
theorem parts_sess (τ : Tr) (zx : Int) (l : List Pt) : (partsZ τ zx l).1.sess = τ.sess := by
 induction l using snocInd with
 | h0 => rfl
 | h1 l x ih => rw [parts_snoc]; dsimp only; rw [part_sess, ih]
inductive Hist (z0 : Int) : List En → Tr → Prop
 | nil : Hist z0 [] newT
 | snoc {l : List En} {τ : Tr} {e : En} (h : Hist z0 l τ) (he : EntH τ e (60 * l.length)) (hz : e.zx = z0 + l.length) (hx : 0 ≤ e.xid ∧ e.xid < 150) : Hist z0 (l ++ [e]) (appE τ e)
/-! ### In memory -/
/-! ### A session's end, path by path -/
theorem owned_zero (τ : Tr) : ownedZ τ 0 = [] := by
 unfold ownedZ
 rw [List.map_eq_nil_iff]
 exact List.filter_eq_nil_iff.2 fun y _ => by simp
def sesE (s : List (Int × (Int × Bs))) (e : En) : List (Int × (Int × Bs)) :=
 if e.x.kind = 5 then (if 0 < e.x.own then sset s e.x.own (e.x.num, e.x.data) else s)
 else if e.x.kind = 6 then s.filter fun y => !decide (y.1 = e.x.own) else s
theorem app_sess (τ : Tr) (e : En) : (appE τ e).sess = sesE τ.sess e := by
 unfold appE applyZ sesE
 dsimp only
 split
 ·split <;> rfl
 split
 ·show (dropS _ _).sess = _
  unfold dropS; dsimp only
  rw [parts_sess]; rfl
 split
 ·rw [parts_sess]; rfl
 split
 ·rfl
 ·rw [part_sess]; rfl
def wtL (l : List En) : Nat := (l.map fun e => 1 + e.subs.length).sum
theorem wt_take {l : List En} (i : Nat) : wtL (l.take i) ≤ wtL l := by
 unfold wtL
 induction l generalizing i with
 | nil => simp
 | cons e l ih =>
  cases i with
  | zero => simp
  | succ i =>
   rw [List.take_succ_cons, List.map_cons, List.sum_cons, List.map_cons, List.sum_cons]
   have := ih i
   omega
def SesB (τ : Tr) : Prop := ∀ y ∈ τ.sess, y.1 ≤ 9223372036854775807
structure EntsA (p : HP) (v : Value) (es : List En) : Prop where
 cells : ∀ h : Hp, p h → rdS 11 h v es.length (es.flatMap enC)
 len : es.length ≤ 1048576
 tx : ∀ e ∈ es, TxA p e.x e.subs
 own : ∀ e ∈ es, e.x.own ≤ 9223372036854775807
 total : wtL es ≤ 2097152
theorem apply_ok {τ : Tr} {N : Nat} (h : τ.Ok N) {p : HP} {e : En} (ht : TxA p e.x e.subs) : (appE τ e).Ok (N + (1 + e.subs.length)) :=
 (h.apply e.zx e.x e.subs ht.own.few (fun y hy => (ht.each y hy).few)).more (by omega)
theorem ents_ok {p : HP} : ∀ {l : List En} {τ : Tr} {N : Nat}, τ.Ok N → (∀ e ∈ l, TxA p e.x e.subs) → (appL τ l).Ok (N + wtL l)
 | [], _, _, h, _ => h
 | e :: l, τ, N, h, hl => (ents_ok (apply_ok h (hl e List.mem_cons_self)) (fun x hx => hl x (List.mem_cons_of_mem _ hx))).more (by unfold wtL; rw [List.map_cons, List.sum_cons]; omega)
theorem EntsA.ok {p : HP} {v : Value} {es : List En} (h : EntsA p v es) {τ : Tr} {N : Nat} (ho : τ.Ok N) (i : Nat) : (appL τ (es.take i)).Ok (N + 2097152) :=
 (ents_ok ho fun e he => h.tx e (List.mem_of_mem_take he)).more (by have := wt_take (l := es) i; have := h.total; omega)
theorem app_sesB {τ : Tr} (h : SesB τ) {e : En} (ho : e.x.own ≤ 9223372036854775807) : SesB (appE τ e) := by
 intro y hy
 rw [app_sess] at hy
 unfold sesE at hy
 split at hy
 ·split at hy
  ·rcases sset_mem hy with rfl | hy
   ·exact ho
   ·exact h y hy
  ·exact h y hy
 ·split at hy
  ·exact h y (List.mem_filter.1 hy).1
  ·exact h y hy
theorem ents_sesB : ∀ {l : List En} {τ : Tr}, SesB τ → (∀ e ∈ l, e.x.own ≤ 9223372036854775807) → SesB (appL τ l)
 | [], _, h, _ => h
 | e :: l, τ, h, hl => ents_sesB (l := l) (τ := appE τ e) (app_sesB h (hl e List.mem_cons_self)) (fun x hx => hl x (List.mem_cons_of_mem _ hx))
theorem TabP.up {a p : HP} (hT : TabP p) : TabP (sep [a, p]) := by
 intro h w hp hle
 obtain ⟨h1, h2, _, a1, a2, _, h3⟩ := hp
 obtain ⟨h4, a4, hp4⟩ := sep_head (p := p) (L := []) h3
 exact hT h4 w hp4 (fun b o e => hle b o (a2 b o (a4 b o e)))
def acl31 : List Ac := [(31, [119, 111, 114, 108, 100])]
def open12 : Pt := ⟨5, [], [], nilV, [], 7, 10, 0, nilV⟩
def aw12 : Tr := (applyZ newT 1 open12 []).1
def u12 : Who := ⟨7, []⟩
def rqA12 (v : Value) : Rq := ⟨1, 0, [47, 97], [120], v, acl31, 0, 0, false, nilV, nilV⟩
def rqB12 (v : Value) : Rq := ⟨1, 0, [47, 113, 45], [], v, acl31, 3, 0, false, nilV, nilV⟩
def rqC12 : Rq := ⟨7, 0, [], [], nilV, [], 0, 0, false, nilV, nilV⟩
def rqD12 (v : Value) : Rq := ⟨6, 0, [], [], nilV, [], 0, 0, false, v, nilV⟩
def rqD1 (v : Value) : Rq := ⟨1, 0, [47, 97], [], v, acl31, 0, 0, false, nilV, nilV⟩
def rqD2 : Rq := ⟨5, 0, [47, 97], [], nilV, [], 0, 0, false, nilV, nilV⟩
def rqD3 : Rq := ⟨2, 0, [47, 98], [], nilV, [], 0, -1, false, nilV, nilV⟩
theorem aw12_A0 : firstZ (createE aw12 u12 (rqA12 nilV)) = 0 := by decide
theorem itoa_0 : Lib.itoa 0 = [48] := by
 unfold Lib.itoa
 rw [if_neg (by decide)]
 show Lib.decDigits 0 = [48]
 rw [Lib.decDigits]; rfl
theorem aw12_Bn : fullZ aw12 (rqB12 nilV) = [47, 113, 45, 48, 48, 48, 48, 48, 48, 48, 48, 48, 48] := by
 unfold fullZ
 rw [if_pos (by decide), show (upS aw12 (rqB12 nilV)).cver = 0 by decide]
 unfold numbered
 rw [show max (0 : Int) 0 = 0 by decide, itoa_0]; rfl
theorem aw12_B0 : firstZ (createE aw12 u12 (rqB12 nilV)) = 0 := by
 unfold createE
 rw [aw12_Bn]; decide
theorem aw12_ses : sesT aw12 7 := by decide
theorem aw12_up : (upS aw12 (rqA12 nilV)).cver = 0 := by decide
theorem part12_A (v : Value) : partP aw12 u12 (rqA12 v) = (⟨1, [47, 97], [120], nilV, acl31, 0, 1, 0, nilV⟩, 0) := by
 rw [part_one rfl]
 have e : firstZ (createE aw12 u12 (rqA12 v)) = 0 := aw12_A0
 rw [e]
 have e2 : createX aw12 u12 (rqA12 v) = createX aw12 u12 (rqA12 nilV) := rfl
 rw [e2]
 show ((⟨1, fullZ aw12 (rqA12 nilV), [120], nilV, acl31, if andI 0 1 ≠ 0 then 7 else 0, wrapI ((upS aw12 (rqA12 nilV)).cver + 1), 0, nilV⟩ : Pt), (0 : Int)) = _
 rw [aw12_up, show fullZ aw12 (rqA12 nilV) = [47, 97] by decide, show wrapI (0 + 1) = 1 by decide, if_neg (by decide)]
theorem part12_B (v : Value) : partP aw12 u12 (rqB12 v) = (⟨1, [47, 113, 45, 48, 48, 48, 48, 48, 48, 48, 48, 48, 48], [], nilV, acl31, 7, 1, 0, nilV⟩, 0) := by
 rw [part_one rfl]
 have e : firstZ (createE aw12 u12 (rqB12 v)) = 0 := aw12_B0
 rw [e]
 show ((⟨1, fullZ aw12 (rqB12 nilV), [], nilV, acl31, if andI 3 1 ≠ 0 then 7 else 0, wrapI ((upS aw12 (rqB12 nilV)).cver + 1), 0, nilV⟩ : Pt), (0 : Int)) = _
 rw [aw12_Bn, show (upS aw12 (rqB12 nilV)).cver = 0 by decide, show wrapI (0 + 1) = 1 by decide, if_pos (by decide)]
theorem txn12_A (v : Value) : txnP aw12 u12 (rqA12 v) [] = (⟨1, [47, 97], [120], nilV, acl31, 0, 1, 0, nilV⟩, []) := by
 unfold txnP
 rw [if_neg (by show ¬ ¬ changesK 1 = true; decide), if_neg (fun g => g aw12_ses), if_neg (by show ¬ (1 : Int) = 6; decide), if_neg (by show ¬ (1 : Int) = 7; decide), if_neg (by show ¬ (1 : Int) = 8; decide), part12_A, if_neg (by decide)]
theorem txn12_B (v : Value) : txnP aw12 u12 (rqB12 v) [] = (⟨1, [47, 113, 45, 48, 48, 48, 48, 48, 48, 48, 48, 48, 48], [], nilV, acl31, 7, 1, 0, nilV⟩, []) := by
 unfold txnP
 rw [if_neg (by show ¬ ¬ changesK 1 = true; decide), if_neg (fun g => g aw12_ses), if_neg (by show ¬ (1 : Int) = 6; decide), if_neg (by show ¬ (1 : Int) = 7; decide), if_neg (by show ¬ (1 : Int) = 8; decide), part12_B, if_neg (by decide)]
theorem multi12_0 : (multiL u12 [rqD1 nilV, rqD2, rqD3] aw12).2.2 = some (2, 60) := by decide
theorem txn12_D (v w : Value) : txnP aw12 u12 (rqD12 w) [rqD1 v, rqD2, rqD3] = (refusal 60 2, []) := by
 unfold txnP
 rw [if_neg (by show ¬ ¬ changesK 6 = true; decide), if_neg (fun g => g aw12_ses), if_pos (by rfl)]
 unfold multiP
 have e : (multiL u12 [rqD1 v, rqD2, rqD3] aw12).2.2 = some (2, 60) := by
  have h : partP aw12 u12 (rqD1 v) = partP aw12 u12 (rqD1 nilV) := by rw [part_one (r := rqD1 v) rfl, part_one (r := rqD1 nilV) rfl]; rfl
  rw [multi_cons, h, ← multi_cons]; exact multi12_0
 rw [if_neg (by simp), e]
 rfl
theorem aw12_ok : aw12.Ok 2 := newT_ok.apply 1 open12 [] (by decide) (by simp)
theorem aw12_w : TrW aw12 := TrW.new.app (e := ⟨1, 0, 0, open12, []⟩) ⟨⟨by decide, by decide⟩, ⟨⟨by decide, by decide⟩, ⟨by decide, by decide⟩, by decide, ⟨by decide, by simp [open12, aclB, cntB, sevZ], fun a ha => by cases ha⟩⟩, fun _ h => by cases h⟩
theorem aw12_C : txnP aw12 ⟨8, []⟩ rqC12 [] = (refusal 67 (-1), []) := by
 rfl
theorem WiA.mk0 {p : HP} {s : Int} {r : Rq} (hs : I64 s) (hT : TabP p) (hk : I64 r.kind ∧ I64 r.xid ∧ I64 r.flags ∧ I64 r.ver) (hl : r.path.length ≤ 64 ∧ r.data.length ≤ 64) (ha : ∀ h : Hp, p h → rdS 2 h r.aclV r.acl.length (r.acl.flatMap acC))
  (hm : r.acl.length ≤ 8 ∧ ∀ a ∈ r.acl, I64 a.1 ∧ a.2.length ≤ 64) (h1 : ∃ a n c, r.aclV = .slice a n c) (h2 : ∃ a n c, r.subsV = .slice a n c) (h3 : ∃ a n c, r.armV = .slice a n c) : WiA p ⟨s, []⟩ nilV r :=
 ⟨⟨hk.1, hk.2.1, hk.2.2.1, hk.2.2.2, by omega, by omega, ha, by omega, fun a h => ⟨(hm.2 a h).1, by have := (hm.2 a h).2; omega⟩, h2, h3⟩, hs, fun _ _ => .inl ⟨rfl, rfl, none, 0, rfl⟩, by show 0 ≤ _; decide, ⟨none, 0, 0, rfl⟩, h1, hT⟩
theorem tx12 (p : HP) : TxA p open12 [] := ⟨⟨fun _ _ => .inl ⟨rfl, rfl, none, 0, rfl⟩, by decide, by decide, rfl, rfl⟩, fun _ _ => .inl ⟨rfl, rfl, none, 0, rfl⟩, by decide, fun _ h => by cases h⟩
theorem rd_head {a p : HP} {sz n : Nat} {v : Value} {xs : List Value} (ha : ∀ h : Hp, a h → rdS sz h v n xs) : ∀ h : Hp, sep [a, p] h → rdS sz h v n xs := by
 intro h hp
 obtain ⟨h1, a1, hp1⟩ := sep_head hp
 exact rdS_mono (ha h1 hp1) a1
theorem rd_tail {a p : HP} {sz n : Nat} {v : Value} {xs : List Value} (ha : ∀ h : Hp, p h → rdS sz h v n xs) : ∀ h : Hp, sep [a, p] h → rdS sz h v n xs := by
 intro h hp
 obtain ⟨h1, h2, _, a1, a2, _, h3⟩ := hp
 obtain ⟨h4, a4, hp4⟩ := sep_head (p := p) (L := []) h3
 exact rdS_mono (ha h4 hp4) (fun b o e => a2 b o (a4 b o e))
theorem within12 {y : Pt} {ys : List Pt} (hy : y.pl = (refusal 60 2)) (z s x : Int) : withinR aw12 ⟨z, s, x, y, ys⟩ = [errR 111, errR 111, errR 60] := by
 have hk : y.kind = 8 := congrArg Pt.kind hy
 have hn : y.num = 2 := congrArg Pt.num hy
 have he : y.err = 60 := congrArg Pt.err hy
 unfold withinR
 rw [if_neg (by show ¬ y.kind = 7; omega), if_pos ⟨hk, by show 0 ≤ y.num; omega, by show y.num < 8; omega⟩]
 show List.replicate y.num.toNat (errR 111) ++ [errR y.err] = _
 rw [hn, he]; rfl
theorem acl31_w : AclW acl31 := ⟨by decide, by simp [acl31, aclB, acB, cntB, txtB, numB, zigZ, sevZ], fun a ha => by
 obtain rfl := List.mem_singleton.1 ha
 exact ⟨⟨⟨by decide, by decide⟩, by decide⟩, by decide⟩⟩
theorem acl_nil_w : AclW [] := ⟨by decide, by simp [aclB, cntB, sevZ], fun a ha => by cases ha⟩
theorem rd_acl {a p : HP} {v : Value} (ha : ∀ h : Hp, a h → rdS 2 h v 1 (acl31.flatMap acC)) : ∀ h : Hp, sep [a, p] h → rdS 2 h v acl31.length (acl31.flatMap acC) := by
 intro h hp
 obtain ⟨h1, a1, hp1⟩ := sep_head hp
 exact rdS_mono (ha h1 hp1) a1
theorem wi_31 {p : HP} {s k f : Int} {v : Value} {q d : Bs} (hs : I64 s) (hT : TabP p) (ha : ∀ h : Hp, p h → rdS 2 h v acl31.length (acl31.flatMap acC)) (hv : ∃ a n c, v = .slice a n c) (hk : I64 k ∧ I64 f) (hl : q.length ≤ 64 ∧ d.length ≤ 64) : WiA p ⟨s, []⟩ nilV ⟨k, 0, q, d, v, acl31, f, 0, false, nilV, nilV⟩ :=
 WiA.mk0 hs hT ⟨hk.1, I64.zero, hk.2, I64.zero⟩ hl ha ⟨by show 1 ≤ 8; decide, fun a h => by obtain rfl := List.mem_singleton.1 h; exact ⟨⟨by decide, by decide⟩, by decide⟩⟩ hv ⟨none, 0, 0, rfl⟩ ⟨none, 0, 0, rfl⟩
theorem wi_nil {p : HP} {s k f ver : Int} {w : Value} {q d : Bs} (hs : I64 s) (hT : TabP p) (hw : ∃ a n c, w = .slice a n c) (hk : I64 k ∧ I64 f ∧ I64 ver) (hl : q.length ≤ 64 ∧ d.length ≤ 64) : WiA p ⟨s, []⟩ nilV ⟨k, 0, q, d, nilV, [], f, ver, false, w, nilV⟩ :=
 WiA.mk0 hs hT ⟨hk.1, I64.zero, hk.2.1, hk.2.2⟩ hl (fun _ _ => .inl ⟨rfl, rfl, none, 0, rfl⟩) ⟨by show 0 ≤ 8; decide, fun a h => by cases h⟩ ⟨none, 0, 0, rfl⟩ hw ⟨none, 0, 0, rfl⟩
theorem fill_e5 (s0 s1 s2 s3 s4 s5 s6 s7 : Value) : Instr.fill (fun i => [(0, 1), (1, 1), (2, 1), (3, 8)].toArray[i]?) ([.int .i64 0, .int .i64 0, .int .i64 0, .int .i64 0, .string (bs []), .string (bs []), .slice none 0 0, .int .i64 0, .int .i64 0, .int .i64 0, .slice none 0 0] : List Value).toArray [(0, vint 5), (2, vint 6), (3, .agg ([s0, s1, s2, s3, s4, s5, s6, s7] : List Value).toArray)] = some (([vint 5, vint 0, vint 6] ++ [s0, s1, s2, s3, s4, s5, s6, s7] : List Value).toArray) := by kernel_rfl
theorem awake12_spec (T0 : HP) (hT : TabP T0) : Fn Tryz.prog 10 #[] [T0] fun v L => v = .bool true ∧ L = [T0] := by
 refine Fn.intro Tryz.func10 rfl rfl fun F W => ?_
 refine .sr (.an rfl (.sr (.oq (.c Tryz.func26 [] (trnew_spec)) ?_)))
 rintro v L' ⟨t, rfl, rfl⟩
 refine .an rfl (.seq (.sm rfl (.q (.ptreq rfl rfl Tryz.underlying30) rfl (.nt (.condF rfl (.sk (.sm rfl (.q (.to (v' := .agg (ptC open12).toArray) (.build (us := [(0, _), (4, _), (5, _)]) fl_43 ze_43 rfl rfl (by simp [isCell])) rfl) rfl (.q (.buildN (pl := [(0, 1), (1, 1), (2, 1), (3, 8)]) (us := [(0, vint 1), (3, .agg (ptC open12).toArray)]) (cells := [vint 1, vint 0, vint 0] ++ ptC open12) Tryz.underlying54 (by kernel_rfl) ze_54 rfl (fill_entry _ _ _ _ _ _ _ _ _)) rfl (.oq (.c Tryz.func33 [_, _] (trapply_spec t newT 1 0 0 open12 [] T0 (tx12 T0) 1 newT_ok (by decide))) ?_))))))))))
 rintro v L' ⟨ue, ee, rfl, -, ⟨ae, ce, rfl⟩, rfl⟩; rw [show (applyZ newT 1 open12 []).1 = aw12 from rfl]
 refine .nt (.sr (.q (.build (us := [(0, _), (1, _)]) fl_85 ze_85 rfl rfl (by simp [isCell])) rfl (.oq (.buildSlice (vs := [_]) el_24 ze_85 rfl rfl rfl rfl (by first | (simp [Value.cells]; done) | (intro v hv; simp only [List.mem_cons, List.not_mem_nil, or_false] at hv; (repeat (first | (subst hv; rfl) | (rcases hv with hv | hv; (subst hv; rfl)))))) (by decide)) ?_)))
 rintro v L' ⟨ba, rfl, rfl⟩
 refine .a rfl (.nil (.slMakeN 2 1 (b := ba) (xs := acl31.flatMap acC) (by repeat' constructor) rfl rfl (.fold (p := (sep [slR 85 2 (.slice (some ⟨ba, 0, none⟩) 1 1) 1 (acl31.flatMap acC), T0])) (q := [slR 85 2 (.slice (some ⟨ba, 0, none⟩) 1 1) 1 (acl31.flatMap acC), T0]) (by repeat' constructor) (fun _ h => h) ?_)))
 have hT1 : TabP (sep [slR 85 2 (.slice (some ⟨ba, 0, none⟩) 1 1) 1 (acl31.flatMap acC), T0]) := hT.up
 have hra : ∀ h : Hp, (sep [slR 85 2 (.slice (some ⟨ba, 0, none⟩) 1 1) 1 (acl31.flatMap acC), T0]) h → rdS 2 h (.slice (some ⟨ba, 0, none⟩) 1 1) acl31.length (acl31.flatMap acC) := rd_acl (fun _ => slR_rd)
 refine .then_n (.sm rfl (.m rfl (.q (.to (v' := .agg (rqC (rqA12 (.slice (some ⟨ba, 0, none⟩) 1 1))).toArray) (.build (us := [(0, _), (2, _), (3, _), (4, _)]) fl_28 ze_28 rfl rfl (by simp [isCell])) rfl) rfl (.oq (.call Tryz.func14 rfl rfl (vs := [_, _, _, _]) rfl (ptxn_spec t aw12 u12 nilV (rqA12 (.slice (some ⟨ba, 0, none⟩) 1 1)) (sep [slR 85 2 (.slice (some ⟨ba, 0, none⟩) 1 1) 1 (acl31.flatMap acC), T0]) (wi_31 (s := 7) (k := 1) (f := 0) (q := [47, 97]) (d := [120]) ⟨by decide, by decide⟩ hT1 hra ⟨_, _, _, rfl⟩ ⟨⟨by decide, by decide⟩, ⟨by decide, by decide⟩⟩ ⟨by decide, by decide⟩) 2 aw12_ok (by decide) aw12_w (by decide) [] (fun _ _ => .inl ⟨rfl, rfl, none, 0, rfl⟩) (fun x h => by cases h) (fun x h => by cases h) (by show (1 : Int) ≠ 8; decide))) ?_))))
 rintro v L' ⟨y1, ys1, rfl, hy1, hys1, ⟨hc1, as1, cs1, hsub1⟩, hyk1, rfl⟩; rw [txn12_A] at hy1 hys1
 refine .oq (.allocA ze_43) ?_
 rintro v L' ⟨b3, rfl, rfl⟩
 refine .sa rfl rfl sz_43 (by exact pt_cells hc1 (by rw [hsub1]; rfl)) ?_
 refine .nil (.pc b3 (ptC y1) ?_)
 refine .then_n (.sm rfl (.m rfl (.q (.to (v' := .agg (rqC (rqB12 (.slice (some ⟨ba, 0, none⟩) 1 1))).toArray) (.build (us := [(0, _), (2, _), (4, _), (5, _)]) fl_28 ze_28 rfl rfl (by simp [isCell])) rfl) rfl (.oq (.call Tryz.func14 rfl rfl (vs := [_, _, _, _]) rfl (ptxn_spec t aw12 u12 nilV (rqB12 (.slice (some ⟨ba, 0, none⟩) 1 1)) (sep [slR 85 2 (.slice (some ⟨ba, 0, none⟩) 1 1) 1 (acl31.flatMap acC), T0]) (wi_31 (s := 7) (k := 1) (f := 3) (q := [47, 113, 45]) (d := []) ⟨by decide, by decide⟩ hT1 hra ⟨_, _, _, rfl⟩ ⟨⟨by decide, by decide⟩, ⟨by decide, by decide⟩⟩ ⟨by decide, by decide⟩) 2 aw12_ok (by decide) aw12_w (by decide) [] (fun _ _ => .inl ⟨rfl, rfl, none, 0, rfl⟩) (fun x h => by cases h) (fun x h => by cases h) (by show (1 : Int) ≠ 8; decide))) ?_))))
 rintro v L' ⟨y2, ys2, rfl, hy2, hys2, ⟨hc2, as2, cs2, hsub2⟩, hyk2, rfl⟩; rw [txn12_B] at hy2 hys2
 refine .oq (.allocA ze_43) ?_
 rintro v L' ⟨b4, rfl, rfl⟩
 refine .sa rfl rfl sz_43 (by exact pt_cells hc2 (by rw [hsub2]; rfl)) ?_
 refine .nil (.pc b4 (ptC y2) ?_)
 refine .then_n (.sm rfl (.q (.to (v' := .agg (rqC rqC12).toArray) (.build (us := [(0, _)]) fl_28 ze_28 rfl rfl (by simp [isCell])) rfl) rfl (.oq (.call Tryz.func14 rfl rfl (vs := [_, _, _, _]) rfl (ptxn_spec t aw12 ⟨8, []⟩ nilV rqC12 (sep [slR 85 2 (.slice (some ⟨ba, 0, none⟩) 1 1) 1 (acl31.flatMap acC), T0]) (wi_nil (s := 8) (k := 7) (f := 0) (ver := 0) (w := nilV) (q := []) (d := []) ⟨by decide, by decide⟩ hT1 ⟨_, _, _, rfl⟩ ⟨⟨by decide, by decide⟩, ⟨by decide, by decide⟩, ⟨by decide, by decide⟩⟩ ⟨by decide, by decide⟩) 2 aw12_ok (by decide) aw12_w (by decide) [] (fun _ _ => .inl ⟨rfl, rfl, none, 0, rfl⟩) (fun x h => by cases h) (fun x h => by cases h) (by show (7 : Int) ≠ 8; decide))) ?_)))
 rintro v L' ⟨y3, ys3, rfl, hy3, hys3, ⟨hc3, as3, cs3, hsub3⟩, hyk3, rfl⟩; rw [aw12_C] at hy3 hys3
 refine .oq (.allocA ze_43) ?_
 rintro v L' ⟨b5, rfl, rfl⟩
 refine .sa rfl rfl sz_43 (by exact pt_cells hc3 (by rw [hsub3]; rfl)) ?_
 refine .nil (.pc b5 (ptC y3) ?_)
 refine .then_n (.sm rfl (.m rfl (.q (.to (v' := .agg (rqC (rqD1 (.slice (some ⟨ba, 0, none⟩) 1 1))).toArray) (.build (us := [(0, _), (2, _), (4, _)]) fl_28 ze_28 rfl rfl (by simp [isCell])) rfl) rfl (.q (.to (v' := .agg (rqC rqD2).toArray) (.build (us := [(0, _), (2, _)]) fl_28 ze_28 rfl rfl (by simp [isCell])) rfl) rfl (.q (.to (v' := .agg (rqC rqD3).toArray) (.build (us := [(0, _), (2, _), (6, _)]) fl_28 ze_28 rfl rfl (by simp [isCell])) rfl) rfl (.oq (.buildSlice (vs := [_, _, _]) el_25 ze_28 rfl rfl rfl rfl (by first | (simp [Value.cells]; done) | (intro v hv; simp only [List.mem_cons, List.not_mem_nil, or_false] at hv; (repeat (first | (subst hv; rfl) | (rcases hv with hv | hv; (subst hv; rfl)))))) (by decide)) ?_))))))
 rintro v L' ⟨bs, rfl, rfl⟩
 refine .slMakeN 10 3 (b := bs) (xs := [rqD1 (.slice (some ⟨ba, 0, none⟩) 1 1), rqD2, rqD3].flatMap rqC) (by repeat' constructor) rfl rfl (.fold (p := (sep [slR 28 10 (.slice (some ⟨bs, 0, none⟩) 3 3) 3 ([rqD1 (.slice (some ⟨ba, 0, none⟩) 1 1), rqD2, rqD3].flatMap rqC), (sep [slR 85 2 (.slice (some ⟨ba, 0, none⟩) 1 1) 1 (acl31.flatMap acC), T0])])) (q := [slR 28 10 (.slice (some ⟨bs, 0, none⟩) 3 3) 3 ([rqD1 (.slice (some ⟨ba, 0, none⟩) 1 1), rqD2, rqD3].flatMap rqC), (sep [slR 85 2 (.slice (some ⟨ba, 0, none⟩) 1 1) 1 (acl31.flatMap acC), T0])]) (by repeat' constructor) (fun _ h => h) ?_)
 have hT4 : TabP (sep [slR 28 10 (.slice (some ⟨bs, 0, none⟩) 3 3) 3 ([rqD1 (.slice (some ⟨ba, 0, none⟩) 1 1), rqD2, rqD3].flatMap rqC), (sep [slR 85 2 (.slice (some ⟨ba, 0, none⟩) 1 1) 1 (acl31.flatMap acC), T0])]) := hT1.up
 have hra4 : ∀ h : Hp, (sep [slR 28 10 (.slice (some ⟨bs, 0, none⟩) 3 3) 3 ([rqD1 (.slice (some ⟨ba, 0, none⟩) 1 1), rqD2, rqD3].flatMap rqC), (sep [slR 85 2 (.slice (some ⟨ba, 0, none⟩) 1 1) 1 (acl31.flatMap acC), T0])]) h → rdS 2 h (.slice (some ⟨ba, 0, none⟩) 1 1) acl31.length (acl31.flatMap acC) := rd_tail hra
 have hS4 : ∀ x ∈ [rqD1 (.slice (some ⟨ba, 0, none⟩) 1 1), rqD2, rqD3], WiA (sep [slR 28 10 (.slice (some ⟨bs, 0, none⟩) 3 3) 3 ([rqD1 (.slice (some ⟨ba, 0, none⟩) 1 1), rqD2, rqD3].flatMap rqC), (sep [slR 85 2 (.slice (some ⟨ba, 0, none⟩) 1 1) 1 (acl31.flatMap acC), T0])]) u12 nilV x := by
    intro x hx
    simp only [List.mem_cons, List.not_mem_nil, or_false] at hx
    rcases hx with rfl | rfl | rfl
    · exact wi_31 (s := 7) (k := 1) (f := 0) (q := [47, 97]) (d := []) ⟨by decide, by decide⟩ hT4 hra4 ⟨_, _, _, rfl⟩ ⟨⟨by decide, by decide⟩, ⟨by decide, by decide⟩⟩ ⟨by decide, by decide⟩
    · exact wi_nil (s := 7) (k := 5) (f := 0) (ver := 0) (w := nilV) (q := [47, 97]) (d := []) ⟨by decide, by decide⟩ hT4 ⟨_, _, _, rfl⟩ ⟨⟨by decide, by decide⟩, ⟨by decide, by decide⟩, ⟨by decide, by decide⟩⟩ ⟨by decide, by decide⟩
    exact wi_nil (s := 7) (k := 2) (f := 0) (ver := -1) (w := nilV) (q := [47, 98]) (d := []) ⟨by decide, by decide⟩ hT4 ⟨_, _, _, rfl⟩ ⟨⟨by decide, by decide⟩, ⟨by decide, by decide⟩, ⟨by decide, by decide⟩⟩ ⟨by decide, by decide⟩
 have hSa4 : ∀ x ∈ [rqD1 (.slice (some ⟨ba, 0, none⟩) 1 1), rqD2, rqD3], AclW x.acl := by
    intro x hx
    simp only [List.mem_cons, List.not_mem_nil, or_false] at hx
    rcases hx with rfl | rfl | rfl
    · exact acl31_w
    · exact acl_nil_w
    exact acl_nil_w
 refine .q (.to (v' := .agg (rqC (rqD12 (.slice (some ⟨bs, 0, none⟩) 3 3))).toArray) (.build (us := [(0, _), (8, _)]) fl_28 ze_28 rfl rfl (by simp [isCell])) rfl) rfl (.oq (.call Tryz.func14 rfl rfl (vs := [_, _, _, _]) rfl (ptxn_spec t aw12 u12 nilV (rqD12 (.slice (some ⟨bs, 0, none⟩) 3 3)) (sep [slR 28 10 (.slice (some ⟨bs, 0, none⟩) 3 3) 3 ([rqD1 (.slice (some ⟨ba, 0, none⟩) 1 1), rqD2, rqD3].flatMap rqC), (sep [slR 85 2 (.slice (some ⟨ba, 0, none⟩) 1 1) 1 (acl31.flatMap acC), T0])]) (wi_nil (s := 7) (k := 6) (f := 0) (ver := 0) (w := .slice (some ⟨bs, 0, none⟩) 3 3) (q := []) (d := []) ⟨by decide, by decide⟩ hT4 ⟨_, _, _, rfl⟩ ⟨⟨by decide, by decide⟩, ⟨by decide, by decide⟩, ⟨by decide, by decide⟩⟩ ⟨by decide, by decide⟩) 2 aw12_ok (by decide) aw12_w (by decide) [rqD1 (.slice (some ⟨ba, 0, none⟩) 1 1), rqD2, rqD3] (rd_head (fun _ => slR_rd)) hS4 hSa4 (by show (6 : Int) ≠ 8; decide))) ?_)
 rintro v L' ⟨y4, ys4, rfl, hy4, hys4, ⟨hc4, as4, cs4, hsub4⟩, hyk4, rfl⟩; rw [txn12_D] at hy4 hys4
 refine .oq (.allocA ze_43) ?_
 rintro v L' ⟨b6, rfl, rfl⟩
 refine .sa rfl rfl sz_43 (by exact pt_cells hc4 (by rw [hsub4]; rfl)) ?_
 refine .nil (.pc b6 (ptC y4) ?_)
 refine .then_n (.sm rfl (.q (.la (ptC y4) rfl ag_43) rfl (.q (.to (v' := .agg (enC (⟨5, 0, 6, y4, ys4⟩ : En)).toArray) (.buildN (pl := [(0, 1), (1, 1), (2, 1), (3, 8)]) (us := [(0, vint 5), (2, vint 6), (3, .agg (ptC y4).toArray)]) (cells := enC (⟨5, 0, 6, y4, ys4⟩ : En)) Tryz.underlying54 (by kernel_rfl) ze_54 rfl (fill_e5 _ _ _ _ _ _ _ _)) rfl) rfl (.oq (.call Tryz.func23 rfl rfl (vs := [_, _]) rfl (preply_spec t aw12 (⟨5, 0, 6, y4, ys4⟩ : En) 2 aw12_ok (by decide) (slR 43 8 y4.subsV ys4.length (ys4.flatMap ptC)) (fun _ => slR_rd) (by have h := congrArg List.length hys4; simp at h; simp [h]) hc4 (by show isCell y4.subsV = true; rw [hsub4]; rfl) (fun y h => ⟨(hyk4 y h).1, by rw [(hyk4 y h).2]; rfl⟩))) ?_))))
 rintro v L' ⟨w, rfl, ⟨aw, cw, rfl⟩, rfl⟩; rw [within12 hy4]
 refine .oq (.allocA ze_57) ?_
 rintro v L' ⟨b7, rfl, rfl⟩
 refine .sa rfl rfl sz_57 (by exact rp_cells rfl rfl rfl) ?_
 refine .nil (.pc b7 (rpC ((headR aw12 (⟨5, 0, 6, y4, ys4⟩ : En)).ws (.slice aw 3 cw))) ?_)
 refine .rdShape (p := slR 57 17 (.slice aw 3 cw) 3 ([errR 111, errR 111, errR 60].flatMap rpC)) (fun _ => slR_rd) (by repeat' constructor) (by decide) fun bw ow ee => ?_
 subst ee
 refine .then_n (.sr (.u (.fieldAddr rfl fo_43_0) (.u (.ld rfl ag_3) (.q (.as (v' := .bool true) (by exact congrArg Value.bool (decide_eq_true (congrArg Pt.kind hy1))) (.int rfl rfl rfl)) rfl (.m rfl (.grun (t := 45) rfl rfl rfl (.u (.fieldAddr rfl fo_43_1) (.grun (t := 45) rfl rfl rfl (.u (.ld rfl ag_9) (.grun (t := 45) rfl rfl rfl (.q (.as (v' := .bool true) (by exact congrArg Value.bool (decide_eq_true (congrArg Pt.path hy1))) (.streq rfl rfl)) rfl (.u (.pickT rfl rfl) (.m rfl (.grun (t := 50) rfl rfl rfl (.u (.fieldAddr rfl fo_43_2) (.grun (t := 50) rfl rfl rfl (.u (.ld rfl ag_9) (.grun (t := 50) rfl rfl rfl (.q (.as (v' := .bool true) (by exact congrArg Value.bool (decide_eq_true (congrArg Pt.data hy1))) (.streq rfl rfl)) rfl (.u (.pickT rfl rfl) (.m rfl (.grun (t := 55) rfl rfl rfl (.u (.fieldAddr rfl fo_43_5) (.grun (t := 55) rfl rfl rfl (.u (.ld rfl ag_3) ?_)))))))))))))))))))))))))
 refine .grun (t := 55) rfl rfl rfl (.q (.as (v' := .bool true) (by exact congrArg Value.bool (decide_eq_true (congrArg Pt.num hy1))) (.int rfl rfl rfl)) rfl (.u (.pickT rfl rfl) (.m rfl (.grun (t := 60) rfl rfl rfl (.u (.fieldAddr rfl fo_43_1) (.grun (t := 60) rfl rfl rfl (.u (.ld rfl ag_9) (.grun (t := 60) rfl rfl rfl (.q (.as (v' := .bool true) (by exact congrArg Value.bool (decide_eq_true (congrArg Pt.path hy2))) (.streq rfl rfl)) rfl (.u (.pickT rfl rfl) (.m rfl (.grun (t := 65) rfl rfl rfl (.u (.fieldAddr rfl fo_43_4) (.grun (t := 65) rfl rfl rfl (.u (.ld rfl ag_3) (.grun (t := 65) rfl rfl rfl (.q (.as (v' := .bool true) (by exact congrArg Value.bool (decide_eq_true (congrArg Pt.own hy2))) (.int rfl rfl rfl)) rfl (.u (.pickT rfl rfl) (.an rfl (.sr (.u (.fieldAddr rfl fo_43_6) (.u (.ld rfl ag_40) (.q (.as (v' := .bool true) (by exact congrArg Value.bool (decide_eq_true (congrArg Pt.err hy3))) (.int rfl rfl rfl)) rfl ?_)))))))))))))))))))))))
 refine .m rfl (.grun (t := 73) rfl rfl rfl (.u (.fieldAddr rfl fo_43_5) (.grun (t := 73) rfl rfl rfl (.u (.ld rfl ag_3) (.grun (t := 73) rfl rfl rfl (.q (.as (v' := .bool true) (by exact congrArg Value.bool (decide_eq_true (congrArg Pt.num hy3))) (.int rfl rfl rfl)) rfl (.u (.pickT rfl rfl) (.m rfl (.grun (t := 78) rfl rfl rfl (.u (.fieldAddr rfl fo_43_0) (.grun (t := 78) rfl rfl rfl (.u (.ld rfl ag_3) (.grun (t := 78) rfl rfl rfl (.q (.as (v' := .bool true) (by exact congrArg Value.bool (decide_eq_true (congrArg Pt.kind hy4))) (.int rfl rfl rfl)) rfl (.u (.pickT rfl rfl) (.m rfl (.grun (t := 83) rfl rfl rfl (.u (.fieldAddr rfl fo_43_6) (.grun (t := 83) rfl rfl rfl (.u (.ld rfl ag_40) (.grun (t := 83) rfl rfl rfl (.q (.as (v' := .bool true) (by exact congrArg Value.bool (decide_eq_true (congrArg Pt.err hy4))) (.int rfl rfl rfl)) rfl (.u (.pickT rfl rfl) (.m rfl (.grun (t := 88) rfl rfl rfl (.u (.fieldAddr rfl fo_43_5) (.grun (t := 88) rfl rfl rfl ?_)))))))))))))))))))))))))))
 refine .u (.ld rfl ag_3) (.grun (t := 88) rfl rfl rfl (.q (.as (v' := .bool true) (by exact congrArg Value.bool (decide_eq_true (congrArg Pt.num hy4))) (.int rfl rfl rfl)) rfl (.u (.pickT rfl rfl) (.an rfl (.sm rfl (.m rfl (.grun (t := 94) rfl rfl rfl (.m rfl (.u (.pickT rfl rfl) (.m rfl (.grun (t := 97) rfl rfl rfl (.u (.fieldAddr rfl fo_57_0) (.grun (t := 97) rfl rfl rfl (.u (.ld rfl ag_3) (.grun (t := 97) rfl rfl rfl (.q (.as (v' := .bool true) (by exact congrArg Value.bool (decide_eq_true (rfl))) (.int rfl rfl rfl)) rfl (.u (.pickT rfl rfl) (.m rfl (.grun (t := 102) rfl rfl rfl (.u (.fieldAddr rfl fo_57_1) (.grun (t := 102) rfl rfl rfl (.u (.ld rfl ag_3) (.grun (t := 102) rfl rfl rfl (.q (.as (v' := .bool true) (by exact congrArg Value.bool (decide_eq_true (rfl))) (.int rfl rfl rfl)) rfl ?_))))))))))))))))))))))))
 refine .u (.pickT rfl rfl) (.m rfl (.grun (t := 107) rfl rfl rfl (.u (.fieldAddr rfl fo_57_2) (.grun (t := 107) rfl rfl rfl (.u (.ld rfl ag_40) (.grun (t := 107) rfl rfl rfl (.q (.as (v' := .bool true) (by exact congrArg Value.bool (decide_eq_true (by show (if y4.kind = 8 then y4.err else 0) = 60; rw [if_pos (show y4.kind = 8 from congrArg Pt.kind hy4)]; exact congrArg Pt.err hy4))) (.int rfl rfl rfl)) rfl (.u (.pickT rfl rfl) (.m rfl (.grun (t := 112) rfl rfl rfl (.u (.fieldAddr rfl fo_57_8) (.grun (t := 112) rfl rfl rfl (.u (.ld rfl ag_55) (.grun (t := 112) rfl rfl rfl (.q (.slen rfl Tryz.underlying55 rfl) rfl (.grun (t := 112) rfl rfl rfl (.q (.as (v' := .bool true) (by exact congrArg Value.bool (decide_eq_true (rfl))) (.int rfl rfl rfl)) rfl (.u (.pickT rfl rfl) (.m rfl (.grun (t := 118) rfl rfl rfl (.u (.fieldAddr rfl fo_57_8) (.grun (t := 118) rfl rfl rfl (.u (.ld rfl ag_55) (.grun (t := 118) rfl rfl rfl (.q (.indexAddr rfl rfl el_55 (by omega)) rfl ?_)))))))))))))))))))))))))
 refine .grun (t := 118) rfl rfl rfl (.u (.fieldAddr rfl fo_57_2) (.grun (t := 118) rfl rfl rfl (.q (.loadRd (sz := 17) (j := 2) (ys := ([errR 111, errR 111, errR 60] : List Rp).flatMap rpC) (p := slR 57 17 (.slice (some ⟨bw, ow, none⟩) 3 cw) 3 ([errR 111, errR 111, errR 60].flatMap rpC)) (v := vint 111) rfl ag_40 (by repeat' constructor) (fun _ => slR_rd) (by simp; try omega) rfl) rfl (.grun (t := 118) rfl rfl rfl (.q (.as (v' := .bool true) (by exact congrArg Value.bool (decide_eq_true (rfl))) (.int rfl rfl rfl)) rfl (.u (.pickT rfl rfl) (.m rfl (.grun (t := 126) rfl rfl rfl (.u (.fieldAddr rfl fo_57_8) (.grun (t := 126) rfl rfl rfl (.u (.ld rfl ag_55) (.grun (t := 126) rfl rfl rfl (.q (.indexAddr rfl rfl el_55 (by omega)) rfl (.grun (t := 126) rfl rfl rfl (.u (.fieldAddr rfl fo_57_2) (.grun (t := 126) rfl rfl rfl (.q (.loadRd (sz := 17) (j := 36) (ys := ([errR 111, errR 111, errR 60] : List Rp).flatMap rpC) (p := slR 57 17 (.slice (some ⟨bw, ow, none⟩) 3 cw) 3 ([errR 111, errR 111, errR 60].flatMap rpC)) (v := vint 60) rfl ag_40 (by repeat' constructor) (fun _ => slR_rd) (by simp; try omega) rfl) rfl ?_)))))))))))))))))
 refine .grun (t := 126) rfl rfl rfl (.q (.as (v' := .bool true) (by exact congrArg Value.bool (decide_eq_true (rfl))) (.int rfl rfl rfl)) rfl (.u (.pickT rfl rfl) (.a rfl (.nil (.focus (p := (sep [slR 28 10 (.slice (some ⟨bs, 0, none⟩) 3 3) 3 ([rqD1 (.slice (some ⟨ba, 0, none⟩) 1 1), rqD2, rqD3].flatMap rqC), (sep [slR 85 2 (.slice (some ⟨ba, 0, none⟩) 1 1) 1 (acl31.flatMap acC), T0])])) (by repeat' constructor) (.unfold (q := [slR 28 10 (.slice (some ⟨bs, 0, none⟩) 3 3) 3 ([rqD1 (.slice (some ⟨ba, 0, none⟩) 1 1), rqD2, rqD3].flatMap rqC), (sep [slR 85 2 (.slice (some ⟨ba, 0, none⟩) 1 1) 1 (acl31.flatMap acC), T0])]) (fun _ h => h) (.focus (p := (sep [slR 85 2 (.slice (some ⟨ba, 0, none⟩) 1 1) 1 (acl31.flatMap acC), T0])) (by repeat' constructor) (.unfold (q := [slR 85 2 (.slice (some ⟨ba, 0, none⟩) 1 1) 1 (acl31.flatMap acC), T0]) (fun _ h => h) (.then_n (.ret ?_))))))))))
 exact .vv
def segsZ : Bs → List Bs
 | [] => []
 | _ :: r => splitZ r
def okZ (s : Bs) : Bool := decide (s.head? = some 47) && (segsZ s).all isNameZ
theorem seg_step {r : Bs} {k : Nat} (hk : k ≤ r.length) (h1 : ∀ j, j < k → r.getD j 0 ≠ 47) (h2 : k = r.length ∨ r.getD k 0 = 47) : splitZ r = r.take k :: segsZ (r.drop k) := by
 have hno : (47 : UInt8) ∉ r.take k := fun hm => by
  obtain ⟨i, hi, e⟩ := List.mem_iff_getElem.1 hm
  rw [List.length_take] at hi
  rw [List.getElem_take] at e
  refine h1 i (by omega) ?_
  rw [List.getD_eq_getElem?_getD, List.getElem?_eq_getElem (by omega), Option.getD_some]; exact e
 rcases Nat.lt_or_ge k r.length with hlt | hge
 ·have h3 : r[k] = 47 := by
   rcases h2 with h2 | h2
   ·omega
   ·rw [List.getD_eq_getElem?_getD, List.getElem?_eq_getElem hlt, Option.getD_some] at h2; exact h2
  have e : r = r.take k ++ 47 :: r.drop (k + 1) := by
   have := (List.take_append_drop k r).symm
   rw [List.drop_eq_getElem_cons hlt, h3] at this; exact this
  have e2 : r.drop k = 47 :: r.drop (k + 1) := by rw [List.drop_eq_getElem_cons hlt, h3]
  rw [e2]
  conv => lhs; rw [e]
  exact split_at hno
 ·have : k = r.length := by omega
  subst this
  rw [List.take_length] at hno ⊢
  rw [List.drop_length, split_none hno]; rfl
theorem check_ok {p : Bs} (h1 : p ≠ [47]) : checkZ p = if okZ p = true then (if p.length > 60 ∨ (segsZ p).length > 6 then 41 else 0) else 40 := by
 unfold checkZ
 rw [if_neg h1]
 cases p with
 | nil => decide
 | cons c r =>
  by_cases hc : c = 47
  ·subst hc
   have e : splitZ (47 :: r) = [] :: splitZ r := by rw [split_cons, if_pos rfl]
   have hne := splitZ_ne r
   rw [e]
   unfold okZ
   rw [show segsZ (47 :: r) = splitZ r from rfl]
   by_cases ha : (splitZ r).all isNameZ = true
   ·rw [if_neg, ha, if_pos (show (decide ((47 :: r).head? = some 47) && true) = true from by simp)]
    ·have e7 : ([] :: splitZ r).length = (splitZ r).length + 1 := rfl
     by_cases h60 : (47 :: r).length > 60 ∨ (splitZ r).length > 6
     ·rw [if_pos h60, if_pos (by rw [e7]; omega)]
     ·rw [if_neg h60, if_neg (by rw [e7]; omega)]
    ·simp only [List.head?_cons, List.tail_cons, List.length_cons]
     rintro (g | g | g)
     ·exact g rfl
     ·exact hne (List.eq_nil_of_length_eq_zero (by omega))
     ·rw [ha] at g; cases g
   ·rw [if_pos (.inr (.inr (by rw [List.tail_cons]; simpa using ha))), if_neg]
    simp; simpa using ha
  ·rw [if_pos, if_neg]
   ·unfold okZ; simp [hc]
   ·left
    rw [split_cons, if_neg hc]
    rcases e : splitZ r with _ | ⟨h, t⟩ <;> simp
theorem rletter_spec (c : UInt8) : Fn Tryz.prog 191 #[vbyte c] [] fun v L => v = .bool (letterB c) ∧ L = [] := by
 refine Fn.intro Tryz.func191 rfl rfl fun F W => ?_
 refine .sr (.an rfl (.sm rfl (.ui rfl rfl rfl (.m rfl (.dec (t := 5) rfl (fun h1_5 => ?_) (fun h1_5 => ?_))))))
 ·refine .kDT (t := 4) rfl h1_5 (.grun (t := 5) rfl rfl rfl (.m rfl (.grun (t := 5) rfl rfl rfl (.ui rfl rfl rfl (.u (.pickT rfl rfl) (.m rfl (.dec (t := 9) rfl (fun h1_9 => ?_) (fun h1_9 => ?_))))))))
  ·refine .kDT (t := 7) rfl h1_9 (.kDT (t := 8) rfl h1_9 (.gk (.gk (.gk (.gskipU (t := 12) rfl rfl rfl (.gskipU (t := 12) rfl rfl rfl (.gk (.u (.pickT rfl rfl) (.m rfl (.gk (.gk (.gk (.gskipU (t := 20) rfl rfl rfl (.gskipU (t := 20) rfl rfl rfl (.gk (.u (.pickT rfl rfl) (.m rfl (.gk (.gk (.u (.pickT rfl rfl) (.m rfl (.gk (.gk (.u (.pickT rfl rfl) (.m rfl (.gk (.gk (.u (.pickT rfl rfl) (.an rfl (.ret ?_))))))))))))))))))))))))))))))
   exact .dn rfl rfl ⟨by first | (rw [letter_of (by omega)]; done) | (rcases Decidable.em ((c.toNat : Int) = 46) with hd | hd; (rw [decide_eq_true hd, letter_of (by omega)]); (rw [decide_eq_false hd, letter_not (by omega)])), rfl⟩
  refine .kDF (t := 7) rfl h1_9 (.kDF (t := 8) rfl h1_9 (.grun (t := 9) rfl rfl rfl (.m rfl (.grun (t := 9) rfl rfl rfl (.ui rfl rfl rfl (.grun (t := 9) rfl rfl rfl (.m rfl (.dec (t := 12) rfl (fun h1_12 => ?_) (fun h1_12 => ?_)))))))))
  ·refine .kDT (t := 11) rfl h1_12 (.grun (t := 12) rfl rfl rfl (.m rfl (.grun (t := 12) rfl rfl rfl (.ui rfl rfl rfl (.grun (t := 9) rfl rfl rfl (.u (.pickT rfl rfl) (.u (.pickF rfl rfl) (.m rfl (.dec (t := 17) rfl (fun h1_17 => ?_) (fun h1_17 => ?_))))))))))
   ·refine .kDT (t := 14) rfl h1_17 (.kDT (t := 15) rfl h1_17 (.kDT (t := 16) rfl h1_17 (.gk (.gk (.gk (.gskipU (t := 20) rfl rfl rfl (.gskipU (t := 20) rfl rfl rfl (.gk (.u (.pickT rfl rfl) (.m rfl (.gk (.gk (.u (.pickT rfl rfl) (.m rfl (.gk (.gk (.u (.pickT rfl rfl) (.m rfl (.gk (.gk (.u (.pickT rfl rfl) (.an rfl (.ret ?_)))))))))))))))))))))))
    exact .dn rfl rfl ⟨by first | (rw [letter_of (by omega)]; done) | (rcases Decidable.em ((c.toNat : Int) = 46) with hd | hd; (rw [decide_eq_true hd, letter_of (by omega)]); (rw [decide_eq_false hd, letter_not (by omega)])), rfl⟩
   refine .kDF (t := 14) rfl h1_17 (.kDF (t := 15) rfl h1_17 (.kDF (t := 16) rfl h1_17 (.grun (t := 17) rfl rfl rfl (.m rfl (.grun (t := 17) rfl rfl rfl (.ui rfl rfl rfl (.grun (t := 17) rfl rfl rfl (.m rfl (.dec (t := 20) rfl (fun h1_20 => ?_) (fun h1_20 => ?_))))))))))
   ·refine .kDT (t := 19) rfl h1_20 (.grun (t := 20) rfl rfl rfl (.m rfl (.grun (t := 20) rfl rfl rfl (.ui rfl rfl rfl (.grun (t := 17) rfl rfl rfl (.u (.pickT rfl rfl) (.u (.pickF rfl rfl) (.m rfl (.dec (t := 25) rfl (fun h1_25 => ?_) (fun h1_25 => ?_))))))))))
    ·refine .kDT (t := 22) rfl h1_25 (.kDT (t := 23) rfl h1_25 (.kDT (t := 24) rfl h1_25 (.gk (.gk (.u (.pickT rfl rfl) (.m rfl (.gk (.gk (.u (.pickT rfl rfl) (.m rfl (.gk (.gk (.u (.pickT rfl rfl) (.an rfl (.ret ?_)))))))))))))))
     exact .dn rfl rfl ⟨by first | (rw [letter_of (by omega)]; done) | (rcases Decidable.em ((c.toNat : Int) = 46) with hd | hd; (rw [decide_eq_true hd, letter_of (by omega)]); (rw [decide_eq_false hd, letter_not (by omega)])), rfl⟩
    refine .kDF (t := 22) rfl h1_25 (.kDF (t := 23) rfl h1_25 (.kDF (t := 24) rfl h1_25 (.grun (t := 25) rfl rfl rfl (.m rfl (.grun (t := 25) rfl rfl rfl (.ui rfl rfl rfl (.u (.pickF rfl rfl) (.m rfl (.dec (t := 29) rfl (fun h1_29 => ?_) (fun h1_29 => ?_))))))))))
    ·refine .kDT (t := 27) rfl h1_29 (.kDT (t := 28) rfl h1_29 (.gk (.gk (.u (.pickT rfl rfl) (.m rfl (.gk (.gk (.u (.pickT rfl rfl) (.an rfl (.ret ?_))))))))))
     exact .dn rfl rfl ⟨by first | (rw [letter_of (by omega)]; done) | (rcases Decidable.em ((c.toNat : Int) = 46) with hd | hd; (rw [decide_eq_true hd, letter_of (by omega)]); (rw [decide_eq_false hd, letter_not (by omega)])), rfl⟩
    refine .kDF (t := 27) rfl h1_29 (.kDF (t := 28) rfl h1_29 (.grun (t := 29) rfl rfl rfl (.m rfl (.grun (t := 29) rfl rfl rfl (.ui rfl rfl rfl (.u (.pickF rfl rfl) (.m rfl (.dec (t := 33) rfl (fun h1_33 => ?_) (fun h1_33 => ?_)))))))))
    ·refine .kDT (t := 31) rfl h1_33 (.kDT (t := 32) rfl h1_33 (.gk (.gk (.u (.pickT rfl rfl) (.an rfl (.ret ?_))))))
     exact .dn rfl rfl ⟨by first | (rw [letter_of (by omega)]; done) | (rcases Decidable.em ((c.toNat : Int) = 46) with hd | hd; (rw [decide_eq_true hd, letter_of (by omega)]); (rw [decide_eq_false hd, letter_not (by omega)])), rfl⟩
    refine .kDF (t := 31) rfl h1_33 (.kDF (t := 32) rfl h1_33 (.grun (t := 33) rfl rfl rfl (.m rfl (.grun (t := 33) rfl rfl rfl (.ui rfl rfl rfl (.u (.pickF rfl rfl) (.an rfl (.ret ?_))))))))
    exact .dn rfl rfl ⟨by first | (rw [letter_of (by omega)]; done) | (rcases Decidable.em ((c.toNat : Int) = 46) with hd | hd; (rw [decide_eq_true hd, letter_of (by omega)]); (rw [decide_eq_false hd, letter_not (by omega)])), rfl⟩
   refine .kDF (t := 19) rfl h1_20 (.gk (.gk (.grun (t := 17) rfl rfl rfl (.u (.pickF rfl rfl) (.u (.pickF rfl rfl) (.m rfl (.grun (t := 25) rfl rfl rfl (.m rfl (.grun (t := 25) rfl rfl rfl (.ui rfl rfl rfl (.u (.pickF rfl rfl) (.m rfl (.dec (t := 29) rfl (fun h1_29 => ?_) (fun h1_29 => ?_))))))))))))))
   ·refine .kDT (t := 27) rfl h1_29 (.kDT (t := 28) rfl h1_29 (.gk (.gk (.u (.pickT rfl rfl) (.m rfl (.gk (.gk (.u (.pickT rfl rfl) (.an rfl (.ret ?_))))))))))
    exact .dn rfl rfl ⟨by first | (rw [letter_of (by omega)]; done) | (rcases Decidable.em ((c.toNat : Int) = 46) with hd | hd; (rw [decide_eq_true hd, letter_of (by omega)]); (rw [decide_eq_false hd, letter_not (by omega)])), rfl⟩
   refine .kDF (t := 27) rfl h1_29 (.kDF (t := 28) rfl h1_29 (.grun (t := 29) rfl rfl rfl (.m rfl (.grun (t := 29) rfl rfl rfl (.ui rfl rfl rfl (.u (.pickF rfl rfl) (.m rfl (.dec (t := 33) rfl (fun h1_33 => ?_) (fun h1_33 => ?_)))))))))
   ·refine .kDT (t := 31) rfl h1_33 (.kDT (t := 32) rfl h1_33 (.gk (.gk (.u (.pickT rfl rfl) (.an rfl (.ret ?_))))))
    exact .dn rfl rfl ⟨by first | (rw [letter_of (by omega)]; done) | (rcases Decidable.em ((c.toNat : Int) = 46) with hd | hd; (rw [decide_eq_true hd, letter_of (by omega)]); (rw [decide_eq_false hd, letter_not (by omega)])), rfl⟩
   refine .kDF (t := 31) rfl h1_33 (.kDF (t := 32) rfl h1_33 (.grun (t := 33) rfl rfl rfl (.m rfl (.grun (t := 33) rfl rfl rfl (.ui rfl rfl rfl (.u (.pickF rfl rfl) (.an rfl (.ret ?_))))))))
   exact .dn rfl rfl ⟨by first | (rw [letter_of (by omega)]; done) | (rcases Decidable.em ((c.toNat : Int) = 46) with hd | hd; (rw [decide_eq_true hd, letter_of (by omega)]); (rw [decide_eq_false hd, letter_not (by omega)])), rfl⟩
  refine .kDF (t := 11) rfl h1_12 (.gk (.gk (.grun (t := 9) rfl rfl rfl (.u (.pickF rfl rfl) (.u (.pickF rfl rfl) (.m rfl (.grun (t := 17) rfl rfl rfl (.m rfl (.grun (t := 17) rfl rfl rfl (.ui rfl rfl rfl (.grun (t := 17) rfl rfl rfl (.m rfl (.dec (t := 20) rfl (fun h1_20 => ?_) (fun h1_20 => ?_))))))))))))))
  ·refine .kDT (t := 19) rfl h1_20 (.grun (t := 20) rfl rfl rfl (.m rfl (.grun (t := 20) rfl rfl rfl (.ui rfl rfl rfl (.grun (t := 17) rfl rfl rfl (.u (.pickT rfl rfl) (.u (.pickF rfl rfl) (.m rfl (.dec (t := 25) rfl (fun h1_25 => ?_) (fun h1_25 => ?_))))))))))
   ·refine .kDT (t := 22) rfl h1_25 (.kDT (t := 23) rfl h1_25 (.kDT (t := 24) rfl h1_25 (.gk (.gk (.u (.pickT rfl rfl) (.m rfl (.gk (.gk (.u (.pickT rfl rfl) (.m rfl (.gk (.gk (.u (.pickT rfl rfl) (.an rfl (.ret ?_)))))))))))))))
    exact .dn rfl rfl ⟨by first | (rw [letter_of (by omega)]; done) | (rcases Decidable.em ((c.toNat : Int) = 46) with hd | hd; (rw [decide_eq_true hd, letter_of (by omega)]); (rw [decide_eq_false hd, letter_not (by omega)])), rfl⟩
   refine .kDF (t := 22) rfl h1_25 (.kDF (t := 23) rfl h1_25 (.kDF (t := 24) rfl h1_25 (.grun (t := 25) rfl rfl rfl (.m rfl (.grun (t := 25) rfl rfl rfl (.ui rfl rfl rfl (.u (.pickF rfl rfl) (.m rfl (.dec (t := 29) rfl (fun h1_29 => ?_) (fun h1_29 => ?_))))))))))
   ·refine .kDT (t := 27) rfl h1_29 (.kDT (t := 28) rfl h1_29 (.gk (.gk (.u (.pickT rfl rfl) (.m rfl (.gk (.gk (.u (.pickT rfl rfl) (.an rfl (.ret ?_))))))))))
    exact .dn rfl rfl ⟨by first | (rw [letter_of (by omega)]; done) | (rcases Decidable.em ((c.toNat : Int) = 46) with hd | hd; (rw [decide_eq_true hd, letter_of (by omega)]); (rw [decide_eq_false hd, letter_not (by omega)])), rfl⟩
   refine .kDF (t := 27) rfl h1_29 (.kDF (t := 28) rfl h1_29 (.grun (t := 29) rfl rfl rfl (.m rfl (.grun (t := 29) rfl rfl rfl (.ui rfl rfl rfl (.u (.pickF rfl rfl) (.m rfl (.dec (t := 33) rfl (fun h1_33 => ?_) (fun h1_33 => ?_)))))))))
   ·refine .kDT (t := 31) rfl h1_33 (.kDT (t := 32) rfl h1_33 (.gk (.gk (.u (.pickT rfl rfl) (.an rfl (.ret ?_))))))
    exact .dn rfl rfl ⟨by first | (rw [letter_of (by omega)]; done) | (rcases Decidable.em ((c.toNat : Int) = 46) with hd | hd; (rw [decide_eq_true hd, letter_of (by omega)]); (rw [decide_eq_false hd, letter_not (by omega)])), rfl⟩
   refine .kDF (t := 31) rfl h1_33 (.kDF (t := 32) rfl h1_33 (.grun (t := 33) rfl rfl rfl (.m rfl (.grun (t := 33) rfl rfl rfl (.ui rfl rfl rfl (.u (.pickF rfl rfl) (.an rfl (.ret ?_))))))))
   exact .dn rfl rfl ⟨by first | (rw [letter_of (by omega)]; done) | (rcases Decidable.em ((c.toNat : Int) = 46) with hd | hd; (rw [decide_eq_true hd, letter_of (by omega)]); (rw [decide_eq_false hd, letter_not (by omega)])), rfl⟩
  refine .kDF (t := 19) rfl h1_20 (.gk (.gk (.grun (t := 17) rfl rfl rfl (.u (.pickF rfl rfl) (.u (.pickF rfl rfl) (.m rfl (.grun (t := 25) rfl rfl rfl (.m rfl (.grun (t := 25) rfl rfl rfl (.ui rfl rfl rfl (.u (.pickF rfl rfl) (.m rfl (.dec (t := 29) rfl (fun h1_29 => ?_) (fun h1_29 => ?_))))))))))))))
  ·refine .kDT (t := 27) rfl h1_29 (.kDT (t := 28) rfl h1_29 (.gk (.gk (.u (.pickT rfl rfl) (.m rfl (.gk (.gk (.u (.pickT rfl rfl) (.an rfl (.ret ?_))))))))))
   exact .dn rfl rfl ⟨by first | (rw [letter_of (by omega)]; done) | (rcases Decidable.em ((c.toNat : Int) = 46) with hd | hd; (rw [decide_eq_true hd, letter_of (by omega)]); (rw [decide_eq_false hd, letter_not (by omega)])), rfl⟩
  refine .kDF (t := 27) rfl h1_29 (.kDF (t := 28) rfl h1_29 (.grun (t := 29) rfl rfl rfl (.m rfl (.grun (t := 29) rfl rfl rfl (.ui rfl rfl rfl (.u (.pickF rfl rfl) (.m rfl (.dec (t := 33) rfl (fun h1_33 => ?_) (fun h1_33 => ?_)))))))))
  ·refine .kDT (t := 31) rfl h1_33 (.kDT (t := 32) rfl h1_33 (.gk (.gk (.u (.pickT rfl rfl) (.an rfl (.ret ?_))))))
   exact .dn rfl rfl ⟨by first | (rw [letter_of (by omega)]; done) | (rcases Decidable.em ((c.toNat : Int) = 46) with hd | hd; (rw [decide_eq_true hd, letter_of (by omega)]); (rw [decide_eq_false hd, letter_not (by omega)])), rfl⟩
  refine .kDF (t := 31) rfl h1_33 (.kDF (t := 32) rfl h1_33 (.grun (t := 33) rfl rfl rfl (.m rfl (.grun (t := 33) rfl rfl rfl (.ui rfl rfl rfl (.u (.pickF rfl rfl) (.an rfl (.ret ?_))))))))
  exact .dn rfl rfl ⟨by first | (rw [letter_of (by omega)]; done) | (rcases Decidable.em ((c.toNat : Int) = 46) with hd | hd; (rw [decide_eq_true hd, letter_of (by omega)]); (rw [decide_eq_false hd, letter_not (by omega)])), rfl⟩
 refine .kDF (t := 4) rfl h1_5 (.gk (.gk (.u (.pickF rfl rfl) (.m rfl (.grun (t := 9) rfl rfl rfl (.m rfl (.grun (t := 9) rfl rfl rfl (.ui rfl rfl rfl (.grun (t := 9) rfl rfl rfl (.m rfl (.dec (t := 12) rfl (fun h1_12 => ?_) (fun h1_12 => ?_))))))))))))
 ·refine .kDT (t := 11) rfl h1_12 (.grun (t := 12) rfl rfl rfl (.m rfl (.grun (t := 12) rfl rfl rfl (.ui rfl rfl rfl (.grun (t := 9) rfl rfl rfl (.u (.pickT rfl rfl) (.u (.pickF rfl rfl) (.m rfl (.dec (t := 17) rfl (fun h1_17 => ?_) (fun h1_17 => ?_))))))))))
  ·refine .kDT (t := 14) rfl h1_17 (.kDT (t := 15) rfl h1_17 (.kDT (t := 16) rfl h1_17 (.gk (.gk (.gk (.gskipU (t := 20) rfl rfl rfl (.gskipU (t := 20) rfl rfl rfl (.gk (.u (.pickT rfl rfl) (.m rfl (.gk (.gk (.u (.pickT rfl rfl) (.m rfl (.gk (.gk (.u (.pickT rfl rfl) (.m rfl (.gk (.gk (.u (.pickT rfl rfl) (.an rfl (.ret ?_)))))))))))))))))))))))
   exact .dn rfl rfl ⟨by first | (rw [letter_of (by omega)]; done) | (rcases Decidable.em ((c.toNat : Int) = 46) with hd | hd; (rw [decide_eq_true hd, letter_of (by omega)]); (rw [decide_eq_false hd, letter_not (by omega)])), rfl⟩
  refine .kDF (t := 14) rfl h1_17 (.kDF (t := 15) rfl h1_17 (.kDF (t := 16) rfl h1_17 (.grun (t := 17) rfl rfl rfl (.m rfl (.grun (t := 17) rfl rfl rfl (.ui rfl rfl rfl (.grun (t := 17) rfl rfl rfl (.m rfl (.dec (t := 20) rfl (fun h1_20 => ?_) (fun h1_20 => ?_))))))))))
  ·refine .kDT (t := 19) rfl h1_20 (.grun (t := 20) rfl rfl rfl (.m rfl (.grun (t := 20) rfl rfl rfl (.ui rfl rfl rfl (.grun (t := 17) rfl rfl rfl (.u (.pickT rfl rfl) (.u (.pickF rfl rfl) (.m rfl (.dec (t := 25) rfl (fun h1_25 => ?_) (fun h1_25 => ?_))))))))))
   ·refine .kDT (t := 22) rfl h1_25 (.kDT (t := 23) rfl h1_25 (.kDT (t := 24) rfl h1_25 (.gk (.gk (.u (.pickT rfl rfl) (.m rfl (.gk (.gk (.u (.pickT rfl rfl) (.m rfl (.gk (.gk (.u (.pickT rfl rfl) (.an rfl (.ret ?_)))))))))))))))
    exact .dn rfl rfl ⟨by first | (rw [letter_of (by omega)]; done) | (rcases Decidable.em ((c.toNat : Int) = 46) with hd | hd; (rw [decide_eq_true hd, letter_of (by omega)]); (rw [decide_eq_false hd, letter_not (by omega)])), rfl⟩
   refine .kDF (t := 22) rfl h1_25 (.kDF (t := 23) rfl h1_25 (.kDF (t := 24) rfl h1_25 (.grun (t := 25) rfl rfl rfl (.m rfl (.grun (t := 25) rfl rfl rfl (.ui rfl rfl rfl (.u (.pickF rfl rfl) (.m rfl (.dec (t := 29) rfl (fun h1_29 => ?_) (fun h1_29 => ?_))))))))))
   ·refine .kDT (t := 27) rfl h1_29 (.kDT (t := 28) rfl h1_29 (.gk (.gk (.u (.pickT rfl rfl) (.m rfl (.gk (.gk (.u (.pickT rfl rfl) (.an rfl (.ret ?_))))))))))
    exact .dn rfl rfl ⟨by first | (rw [letter_of (by omega)]; done) | (rcases Decidable.em ((c.toNat : Int) = 46) with hd | hd; (rw [decide_eq_true hd, letter_of (by omega)]); (rw [decide_eq_false hd, letter_not (by omega)])), rfl⟩
   refine .kDF (t := 27) rfl h1_29 (.kDF (t := 28) rfl h1_29 (.grun (t := 29) rfl rfl rfl (.m rfl (.grun (t := 29) rfl rfl rfl (.ui rfl rfl rfl (.u (.pickF rfl rfl) (.m rfl (.dec (t := 33) rfl (fun h1_33 => ?_) (fun h1_33 => ?_)))))))))
   ·refine .kDT (t := 31) rfl h1_33 (.kDT (t := 32) rfl h1_33 (.gk (.gk (.u (.pickT rfl rfl) (.an rfl (.ret ?_))))))
    exact .dn rfl rfl ⟨by first | (rw [letter_of (by omega)]; done) | (rcases Decidable.em ((c.toNat : Int) = 46) with hd | hd; (rw [decide_eq_true hd, letter_of (by omega)]); (rw [decide_eq_false hd, letter_not (by omega)])), rfl⟩
   refine .kDF (t := 31) rfl h1_33 (.kDF (t := 32) rfl h1_33 (.grun (t := 33) rfl rfl rfl (.m rfl (.grun (t := 33) rfl rfl rfl (.ui rfl rfl rfl (.u (.pickF rfl rfl) (.an rfl (.ret ?_))))))))
   exact .dn rfl rfl ⟨by first | (rw [letter_of (by omega)]; done) | (rcases Decidable.em ((c.toNat : Int) = 46) with hd | hd; (rw [decide_eq_true hd, letter_of (by omega)]); (rw [decide_eq_false hd, letter_not (by omega)])), rfl⟩
  refine .kDF (t := 19) rfl h1_20 (.gk (.gk (.grun (t := 17) rfl rfl rfl (.u (.pickF rfl rfl) (.u (.pickF rfl rfl) (.m rfl (.grun (t := 25) rfl rfl rfl (.m rfl (.grun (t := 25) rfl rfl rfl (.ui rfl rfl rfl (.u (.pickF rfl rfl) (.m rfl (.dec (t := 29) rfl (fun h1_29 => ?_) (fun h1_29 => ?_))))))))))))))
  ·refine .kDT (t := 27) rfl h1_29 (.kDT (t := 28) rfl h1_29 (.gk (.gk (.u (.pickT rfl rfl) (.m rfl (.gk (.gk (.u (.pickT rfl rfl) (.an rfl (.ret ?_))))))))))
   exact .dn rfl rfl ⟨by first | (rw [letter_of (by omega)]; done) | (rcases Decidable.em ((c.toNat : Int) = 46) with hd | hd; (rw [decide_eq_true hd, letter_of (by omega)]); (rw [decide_eq_false hd, letter_not (by omega)])), rfl⟩
  refine .kDF (t := 27) rfl h1_29 (.kDF (t := 28) rfl h1_29 (.grun (t := 29) rfl rfl rfl (.m rfl (.grun (t := 29) rfl rfl rfl (.ui rfl rfl rfl (.u (.pickF rfl rfl) (.m rfl (.dec (t := 33) rfl (fun h1_33 => ?_) (fun h1_33 => ?_)))))))))
  ·refine .kDT (t := 31) rfl h1_33 (.kDT (t := 32) rfl h1_33 (.gk (.gk (.u (.pickT rfl rfl) (.an rfl (.ret ?_))))))
   exact .dn rfl rfl ⟨by first | (rw [letter_of (by omega)]; done) | (rcases Decidable.em ((c.toNat : Int) = 46) with hd | hd; (rw [decide_eq_true hd, letter_of (by omega)]); (rw [decide_eq_false hd, letter_not (by omega)])), rfl⟩
  refine .kDF (t := 31) rfl h1_33 (.kDF (t := 32) rfl h1_33 (.grun (t := 33) rfl rfl rfl (.m rfl (.grun (t := 33) rfl rfl rfl (.ui rfl rfl rfl (.u (.pickF rfl rfl) (.an rfl (.ret ?_))))))))
  exact .dn rfl rfl ⟨by first | (rw [letter_of (by omega)]; done) | (rcases Decidable.em ((c.toNat : Int) = 46) with hd | hd; (rw [decide_eq_true hd, letter_of (by omega)]); (rw [decide_eq_false hd, letter_not (by omega)])), rfl⟩
 refine .kDF (t := 11) rfl h1_12 (.gk (.gk (.grun (t := 9) rfl rfl rfl (.u (.pickF rfl rfl) (.u (.pickF rfl rfl) (.m rfl (.grun (t := 17) rfl rfl rfl (.m rfl (.grun (t := 17) rfl rfl rfl (.ui rfl rfl rfl (.grun (t := 17) rfl rfl rfl (.m rfl (.dec (t := 20) rfl (fun h1_20 => ?_) (fun h1_20 => ?_))))))))))))))
 ·refine .kDT (t := 19) rfl h1_20 (.grun (t := 20) rfl rfl rfl (.m rfl (.grun (t := 20) rfl rfl rfl (.ui rfl rfl rfl (.grun (t := 17) rfl rfl rfl (.u (.pickT rfl rfl) (.u (.pickF rfl rfl) (.m rfl (.dec (t := 25) rfl (fun h1_25 => ?_) (fun h1_25 => ?_))))))))))
  ·refine .kDT (t := 22) rfl h1_25 (.kDT (t := 23) rfl h1_25 (.kDT (t := 24) rfl h1_25 (.gk (.gk (.u (.pickT rfl rfl) (.m rfl (.gk (.gk (.u (.pickT rfl rfl) (.m rfl (.gk (.gk (.u (.pickT rfl rfl) (.an rfl (.ret ?_)))))))))))))))
   exact .dn rfl rfl ⟨by first | (rw [letter_of (by omega)]; done) | (rcases Decidable.em ((c.toNat : Int) = 46) with hd | hd; (rw [decide_eq_true hd, letter_of (by omega)]); (rw [decide_eq_false hd, letter_not (by omega)])), rfl⟩
  refine .kDF (t := 22) rfl h1_25 (.kDF (t := 23) rfl h1_25 (.kDF (t := 24) rfl h1_25 (.grun (t := 25) rfl rfl rfl (.m rfl (.grun (t := 25) rfl rfl rfl (.ui rfl rfl rfl (.u (.pickF rfl rfl) (.m rfl (.dec (t := 29) rfl (fun h1_29 => ?_) (fun h1_29 => ?_))))))))))
  ·refine .kDT (t := 27) rfl h1_29 (.kDT (t := 28) rfl h1_29 (.gk (.gk (.u (.pickT rfl rfl) (.m rfl (.gk (.gk (.u (.pickT rfl rfl) (.an rfl (.ret ?_))))))))))
   exact .dn rfl rfl ⟨by first | (rw [letter_of (by omega)]; done) | (rcases Decidable.em ((c.toNat : Int) = 46) with hd | hd; (rw [decide_eq_true hd, letter_of (by omega)]); (rw [decide_eq_false hd, letter_not (by omega)])), rfl⟩
  refine .kDF (t := 27) rfl h1_29 (.kDF (t := 28) rfl h1_29 (.grun (t := 29) rfl rfl rfl (.m rfl (.grun (t := 29) rfl rfl rfl (.ui rfl rfl rfl (.u (.pickF rfl rfl) (.m rfl (.dec (t := 33) rfl (fun h1_33 => ?_) (fun h1_33 => ?_)))))))))
  ·refine .kDT (t := 31) rfl h1_33 (.kDT (t := 32) rfl h1_33 (.gk (.gk (.u (.pickT rfl rfl) (.an rfl (.ret ?_))))))
   exact .dn rfl rfl ⟨by first | (rw [letter_of (by omega)]; done) | (rcases Decidable.em ((c.toNat : Int) = 46) with hd | hd; (rw [decide_eq_true hd, letter_of (by omega)]); (rw [decide_eq_false hd, letter_not (by omega)])), rfl⟩
  refine .kDF (t := 31) rfl h1_33 (.kDF (t := 32) rfl h1_33 (.grun (t := 33) rfl rfl rfl (.m rfl (.grun (t := 33) rfl rfl rfl (.ui rfl rfl rfl (.u (.pickF rfl rfl) (.an rfl (.ret ?_))))))))
  exact .dn rfl rfl ⟨by first | (rw [letter_of (by omega)]; done) | (rcases Decidable.em ((c.toNat : Int) = 46) with hd | hd; (rw [decide_eq_true hd, letter_of (by omega)]); (rw [decide_eq_false hd, letter_not (by omega)])), rfl⟩
 refine .kDF (t := 19) rfl h1_20 (.gk (.gk (.grun (t := 17) rfl rfl rfl (.u (.pickF rfl rfl) (.u (.pickF rfl rfl) (.m rfl (.grun (t := 25) rfl rfl rfl (.m rfl (.grun (t := 25) rfl rfl rfl (.ui rfl rfl rfl (.u (.pickF rfl rfl) (.m rfl (.dec (t := 29) rfl (fun h1_29 => ?_) (fun h1_29 => ?_))))))))))))))
 ·refine .kDT (t := 27) rfl h1_29 (.kDT (t := 28) rfl h1_29 (.gk (.gk (.u (.pickT rfl rfl) (.m rfl (.gk (.gk (.u (.pickT rfl rfl) (.an rfl (.ret ?_))))))))))
  exact .dn rfl rfl ⟨by first | (rw [letter_of (by omega)]; done) | (rcases Decidable.em ((c.toNat : Int) = 46) with hd | hd; (rw [decide_eq_true hd, letter_of (by omega)]); (rw [decide_eq_false hd, letter_not (by omega)])), rfl⟩
 refine .kDF (t := 27) rfl h1_29 (.kDF (t := 28) rfl h1_29 (.grun (t := 29) rfl rfl rfl (.m rfl (.grun (t := 29) rfl rfl rfl (.ui rfl rfl rfl (.u (.pickF rfl rfl) (.m rfl (.dec (t := 33) rfl (fun h1_33 => ?_) (fun h1_33 => ?_)))))))))
 ·refine .kDT (t := 31) rfl h1_33 (.kDT (t := 32) rfl h1_33 (.gk (.gk (.u (.pickT rfl rfl) (.an rfl (.ret ?_))))))
  exact .dn rfl rfl ⟨by first | (rw [letter_of (by omega)]; done) | (rcases Decidable.em ((c.toNat : Int) = 46) with hd | hd; (rw [decide_eq_true hd, letter_of (by omega)]); (rw [decide_eq_false hd, letter_not (by omega)])), rfl⟩
 refine .kDF (t := 31) rfl h1_33 (.kDF (t := 32) rfl h1_33 (.grun (t := 33) rfl rfl rfl (.m rfl (.grun (t := 33) rfl rfl rfl (.ui rfl rfl rfl (.u (.pickF rfl rfl) (.an rfl (.ret ?_))))))))
 exact .dn rfl rfl ⟨by first | (rw [letter_of (by omega)]; done) | (rcases Decidable.em ((c.toNat : Int) = 46) with hd | hd; (rw [decide_eq_true hd, letter_of (by omega)]); (rw [decide_eq_false hd, letter_not (by omega)])), rfl⟩
theorem risname_spec (s : Bs) (hs : s.length ≤ 1099511627776) : Fn Tryz.prog 136 #[vstr s] [] fun v L => v = .bool (isNameZ s) ∧ L = [] := by
 refine Fn.intro Tryz.func136 rfl rfl fun F W => ?_
 have hbs := bs_size s
 refine .sr (.an rfl (.seq (.sm rfl (.u (.streq rfl rfl) (.m rfl (.dec (t := 7) rfl (fun h1_7 => ?_) (fun h1_7 => ?_)))))))
 ·refine .kDT (t := 6) rfl h1_7 (.gk (.gk (.u (.pickT rfl rfl) (.m rfl (.gk (.gk (.u (.pickT rfl rfl) (.nt (.condT rfl (.sr (.an rfl (.rt ?_))))))))))))
  exact .dn rfl rfl ⟨by rw [show isNameZ s = false by unfold isNameZ; first | (rw [show s = [] from by assumption]; rfl) | (rw [show s = [46] from by assumption]; rfl) | (rw [show s = [46, 46] from by assumption]; rfl)], rfl⟩
 refine .kDF (t := 6) rfl h1_7 (.grun (t := 7) rfl rfl rfl (.m rfl (.grun (t := 7) rfl rfl rfl (.u (.streq rfl rfl) (.u (.pickF rfl rfl) (.m rfl (.dec (t := 11) rfl (fun h1_11 => ?_) (fun h1_11 => ?_))))))))
 ·refine .kDT (t := 9) rfl h1_11 (.kDT (t := 10) rfl h1_11 (.gk (.gk (.u (.pickT rfl rfl) (.nt (.condT rfl (.sr (.an rfl (.rt ?_)))))))))
  exact .dn rfl rfl ⟨by rw [show isNameZ s = false by unfold isNameZ; first | (rw [show s = [] from by assumption]; rfl) | (rw [show s = [46] from by assumption]; rfl) | (rw [show s = [46, 46] from by assumption]; rfl)], rfl⟩
 refine .kDF (t := 9) rfl h1_11 (.kDF (t := 10) rfl h1_11 (.grun (t := 11) rfl rfl rfl (.m rfl (.grun (t := 11) rfl rfl rfl (.u (.streq rfl rfl) (.u (.pickF rfl rfl) (.nt (.condD rfl (fun h14 => ?_) (fun h14 => ?_)))))))))
 ·refine .sr (.an rfl (.rt ?_))
  exact .dn rfl rfl ⟨by rw [show isNameZ s = false by unfold isNameZ; first | (rw [show s = [] from by assumption]; rfl) | (rw [show s = [46] from by assumption]; rfl) | (rw [show s = [46, 46] from by assumption]; rfl)], rfl⟩
 refine .sk (.seq (.sr (.an rfl (.block (.loopK (ι := Nat) (fun q E => (3, vint q) :: E) (fun q => []) (fun q => q ≤ s.length ∧ (s.take q).all letterB = true) (fun q => s.length - q) (0) (ts := [0]) (.cons rfl (.nil)) (⟨Nat.zero_le _, rfl⟩) ⟨rfl, rfl, trivial⟩ (by repeat' constructor) ?_)))))
 rintro i ⟨hi, hall⟩
 refine .seq (.sm rfl (.m rfl (.q (.strlen rfl Tryz.underlying9 rfl) rfl (.ui rfl rfl rfl (.nt (.condD rfl (fun h18 => ?_) (fun h18 => ?_)))))))
 ·have hi2 : i < s.length := by omega
  refine .sk (.seq (.block (.sm rfl (.m rfl (.q (.strIndex (c := s[i]) rfl rfl Tryz.underlying9 (by omega) (by simp)) rfl (.cv Tryz.func191 [_] (rletter_spec _) ?_))))))
  refine .an rfl (.sm rfl (.u (.not rfl) (.nt (.condB rfl (fun h26 => ?_) (fun h26 => ?_)))))
  ·refine .sr (.an rfl (.ret (.blk_r (.then_r (.then_r (.blk_r (.then_r ?_)))))))
   exact .dn rfl rfl ⟨by rw [name_bad hi2 (by simpa using h26)], rfl⟩
  refine .skip (.blk_n (.then_n (.region (.m rfl (.q (.add rfl rfl (by omega)) rfl (.an rfl ?_))))))
  exact .rk (i + 1) (⟨by omega, all_next hi2 hall (by simpa using h26)⟩) (by omega) ⟨rfl, rfl, trivial⟩
 have hii : i = s.length := by omega
 rw [hii, List.take_length] at hall
 refine .exit (.then_e (.then_e (.blk_e (.then_n (.sr (.an rfl (.ret ?_)))))))
 exact .dn rfl rfl ⟨by rw [show isNameZ s = true by unfold isNameZ; rw [decide_eq_false h1_7, decide_eq_false h1_11, decide_eq_false h14, hall]; rfl], rfl⟩
theorem rnames_spec (s : Bs) (hs : s.length ≤ 1099511627776) : Fn Tryz.prog 85 #[vstr s] [] fun v L => ∃ (n : Nat) (b : Bool), (∃ a c, v = .tuple #[.slice a n c, .bool b]) ∧ b = okZ s ∧ (b = true → n = (segsZ s).length) ∧ L = [] := by
 refine Fn.intro Tryz.func85 rfl rfl fun F W => ?_
 refine .add (slR_nil 9 1) (.sr (.a rfl (.an rfl (.sr (.an rfl (.seq (.block (.loopK (ι := Bs × Value × (List Bs)) (fun q E => (0, vstr q.1) :: (4, q.2.1) :: E) (fun q => [slR 9 1 q.2.1 q.2.2.length (strs q.2.2)]) (fun q => (∃ a c, q.2.1 = .slice a q.2.2.length c) ∧ q.2.2.all isNameZ = true ∧ segsZ s = q.2.2 ++ segsZ q.1 ∧ q.1.length + q.2.2.length ≤ s.length ∧ (q.2.2 = [] → q.1 = s) ∧ (q.2.2 ≠ [] → s.head? = some 47 ∧ (q.1 = [] ∨ q.1.head? = some 47))) (fun q => q.1.length) (s, .slice none 0 0, []) (ts := []) (.nil) (⟨⟨none, 0, rfl⟩, rfl, rfl, by simp, fun _ => rfl, fun h => absurd rfl h⟩) ⟨rfl, rfl, trivial⟩ (by repeat' constructor) ?_))))))))
 rintro ⟨cur, u, acc⟩ ⟨⟨au, cu, hu⟩, hall, hseg, hcl, hfst, hrest⟩
 dsimp only
 dsimp only at hu hall hseg hcl hfst hrest
 subst hu
 have hbs := bs_size cur
 refine .seq (.sm rfl (.u (.strne rfl rfl) (.nt (.condN rfl (fun h8 => ?_) (fun h8 => ?_)))))
 ·obtain ⟨c0, r, rfl⟩ : ∃ c0 r, cur = c0 :: r := by cases cur with | nil => exact absurd rfl h8 | cons c r => exact ⟨c, r, rfl⟩
  have hrl : (c0 :: r).length = r.length + 1 := rfl
  refine .sk (.block (.seq (.sm rfl (.q (.strIndex (c := c0) rfl rfl Tryz.underlying9 (by omega) (by simp)) rfl (.ui rfl rfl rfl (.nt (.condN rfl (fun h11 => ?_) (fun h11 => ?_))))))))
  ·refine .sr (.a rfl (.an rfl (.rt (.blk_r (.then_r (.blk_r (.then_r ?_)))))))
   exact .dn rfl rfl ⟨_, _, ⟨_, _, rfl⟩, (by rw [show okZ s = false by unfold okZ; rcases acc with _ | ⟨x, l⟩; (rw [← hfst rfl]; simp; intro e; exact absurd (by rw [e]; rfl) h11); (obtain ⟨-, g⟩ := hrest (by simp); rcases g with g | g; (cases g); (simp at g; exact absurd (by rw [g]; rfl) h11))]), (fun h => by cases h), rfl⟩
  have hc0 : c0 = 47 := byte_eq (d := 47) (by first | exact h11 | simpa using h11)
  subst hc0
  have hs47 : s.head? = some 47 := by rcases acc with _ | ⟨x, l⟩; rw [← hfst rfl]; rfl; exact (hrest (by simp)).1
  refine .sk (.sr (.an rfl (.seq (.joinK (ι := Nat) (fun q E => (5, vint q) :: E) (fun q => []) (fun q => 1 ≤ q ∧ q ≤ r.length + 1 ∧ (∀ j, j < q - 1 → r.getD j 0 ≠ 47) ∧ (q - 1 = r.length ∨ r.getD (q - 1) 0 = 47)) (pre := []) (ts := [0, 4, 7, 8, 9, 10, 11]) (.cons rfl (.cons rfl (.cons rfl (.cons rfl (.cons rfl (.cons rfl (.cons rfl (.nil)))))))) (by repeat' constructor) ?_ ?_))))
  ·refine .block (.loopK (ι := Nat) (fun q E => (5, vint q) :: E) (fun q => []) (fun q => 1 ≤ q ∧ q ≤ r.length + 1 ∧ ∀ j, j < q - 1 → r.getD j 0 ≠ 47) (fun q => r.length + 1 - q) (1) (ts := [0, 4, 7, 8, 9, 10, 11]) (.cons rfl (.cons rfl (.cons rfl (.cons rfl (.cons rfl (.cons rfl (.cons rfl (.nil)))))))) (⟨by omega, by omega, fun j hj => by omega⟩) ⟨rfl, rfl, rfl, rfl, rfl, rfl, rfl, rfl, trivial⟩ (by repeat' constructor) ?_)
   rintro n ⟨hn1, hn2, hno⟩
   refine .seq (.sm rfl (.m rfl (.q (.strlen rfl Tryz.underlying9 rfl) rfl (.ui rfl rfl rfl (.m rfl (.dec (t := 16) rfl (fun h6_16 => ?_) (fun h6_16 => ?_)))))))
   ·have hn3 : n < r.length + 1 := by omega
    have hn4 : n - 1 < r.length := by omega
    have hat : (47 :: r)[n]? = some r[n - 1] := by obtain ⟨m, rfl⟩ : ∃ m, n = m + 1 := ⟨n - 1, by omega⟩; simp [show m < r.length by omega]
    refine .kDT (t := 15) rfl h6_16 (.grun (t := 16) rfl rfl rfl (.m rfl (.grun (t := 16) rfl rfl rfl (.m rfl (.grun (t := 16) rfl rfl rfl (.q (.strIndex (c := r[n - 1]) rfl rfl Tryz.underlying9 (by omega) (by rw [Int.toNat_natCast]; exact hat)) rfl (.grun (t := 16) rfl rfl rfl (.ui rfl rfl rfl (.u (.pickT rfl rfl) (.nt (.condN rfl (fun h21 => ?_) (fun h21 => ?_))))))))))))
    ·have hne : r[n - 1] ≠ 47 := fun e => h21 (by rw [e]; rfl)
     refine .sk (.block (.region (.m rfl (.q (.add rfl rfl (by omega)) rfl (.a rfl (.nil (.blk_n (.then_n ?_))))))))
     exact .rk (n + 1) (⟨by omega, by omega, fun j hj => by by_cases e : j = n - 1; (subst e; rw [List.getD_eq_getElem?_getD, List.getElem?_eq_getElem hn4, Option.getD_some]; exact hne); exact hno j (by omega)⟩) (by omega) ⟨rfl, rfl, rfl, rfl, rfl, rfl, rfl, rfl, trivial⟩
    have hlast : r[n - 1] = 47 := byte_eq (d := 47) (by first | exact h21 | simpa using h21)
    refine .exit (.then_e (.then_e (.blk_e (.then_n ?_))))
    exact .mk (n) (⟨hn1, hn2, hno, .inr (by rw [List.getD_eq_getElem?_getD, List.getElem?_eq_getElem hn4, Option.getD_some]; exact hlast)⟩) ⟨rfl, rfl, rfl, rfl, rfl, rfl, rfl, rfl, trivial⟩
   refine .kDF (t := 15) rfl h6_16 (.gk (.gk (.gk (.gk (.u (.pickF rfl rfl) (.nt (.condF rfl (.exit (.then_e (.then_e (.blk_e (.then_n ?_))))))))))))
   exact .mk (n) (⟨hn1, hn2, hno, .inl (by omega)⟩) ⟨rfl, rfl, rfl, rfl, rfl, rfl, rfl, rfl, trivial⟩
  rintro n ⟨hn1, hn2, hno, hend⟩
  have hstep := seg_step (r := r) (k := n - 1) (by omega) hno hend
  have htk : ((47 :: r).take n).drop 1 = r.take (n - 1) := by obtain ⟨m, rfl⟩ : ∃ m, n = m + 1 := ⟨n - 1, by omega⟩; simp
  have hdr : (47 :: r).drop n = r.drop (n - 1) := by obtain ⟨m, rfl⟩ : ∃ m, n = m + 1 := ⟨n - 1, by omega⟩; simp
  have hsplit : segsZ (47 :: r) = ((47 :: r).take n).drop 1 :: segsZ ((47 :: r).drop n) := by rw [htk, hdr]; exact hstep
  have hdrop : (47 :: r).drop n = [] ∨ ((47 :: r).drop n).head? = some 47 := by rw [hdr]; rcases hend with h | h; (left; rw [h, List.drop_length]); (rcases Nat.lt_or_ge (n - 1) r.length with g | g; (right; rw [List.drop_eq_getElem_cons g]; rw [List.getD_eq_getElem?_getD, List.getElem?_eq_getElem g, Option.getD_some] at h; rw [h]; rfl); (left; exact List.drop_eq_nil_of_le g))
  refine .sm rfl (.m rfl (.q (.to (v' := vstr (((47 :: r).take n).drop 1)) (.strMid (i := 1) (j := n) rfl rfl rfl Tryz.underlying9 (by omega)) (by rw [Int.toNat_natCast]; rfl)) rfl (.oq (.call Tryz.func136 rfl rfl (vs := [_]) rfl (risname_spec _ (by simp; omega))) ?_)))
  rintro v L' ⟨rfl, rfl⟩
  refine .an rfl (.seq (.sm rfl (.u (.not rfl) (.nt (.condB rfl (fun h29 => ?_) (fun h29 => ?_))))))
  ·refine .sr (.a rfl (.an rfl (.rt (.blk_r (.then_r (.blk_r (.then_r ?_)))))))
   exact .dn rfl rfl ⟨_, _, ⟨_, _, rfl⟩, (by rw [show okZ s = false by unfold okZ; rw [hseg, hsplit, List.all_append, List.all_cons]; rw [show isNameZ (((47 :: r).take n).drop 1) = false by simpa using h29]; simp]), (fun h => by cases h), rfl⟩
  refine .sk (.sm rfl (.m rfl (.m rfl (.q (.to (v' := vstr (((47 :: r).take n).drop 1)) (.strMid (i := 1) (j := n) rfl rfl rfl Tryz.underlying9 (by omega)) (by rw [Int.toNat_natCast]; rfl)) rfl (.oq (.buildSlice1 (vs := [_]) el_23 ze_9 rfl rfl rfl rfl rfl (by decide)) ?_)))))
  rintro v L' ⟨b11_4, rfl, rfl⟩
  refine .oq (.append1 rfl rfl rfl el_23 ze_9 rfl rfl ?c37 ?c38 (Nat.le_refl _) ?c39 (by decide)) ?_
  case c37 => (first | (simp [isCell]; done) | (simp [isCell, setAll, Value.cells]; done))
  case c38 => rfl
  case c39 => omega
  rintro v L' ⟨⟨a11_5, c11_5, rfl⟩, rfl⟩
  refine .an rfl (.region (.m rfl (.m rfl (.q (.to (v' := vstr ((47 :: r).drop n)) (.strFrom (i := n) rfl rfl Tryz.underlying9 (by omega)) (by simp)) rfl (.a rfl (.nil (.blk_n (.then_n ?_))))))))
  have hin := h29
  rw [show strs acc ++ [vstr (((47 :: r).take n).drop 1)] = strs (acc ++ [((47 :: r).take n).drop 1]) by simp [strs], show acc.length + 1 = (acc ++ [((47 :: r).take n).drop 1]).length by simp]
  exact .rk (((47 :: r).drop n, .slice a11_5 (acc ++ [((47 :: r).take n).drop 1]).length c11_5, acc ++ [((47 :: r).take n).drop 1])) (⟨⟨_, _, rfl⟩, by dsimp only; rw [List.all_append, hall]; simpa using hin, by dsimp only; rw [hseg, hsplit, List.append_assoc]; rfl, by dsimp only; rw [List.length_drop, List.length_append]; simp; omega, fun h => by simp at h, fun _ => ⟨hs47, hdrop⟩⟩) (by dsimp only; rw [List.length_drop]; omega) ⟨rfl, rfl, trivial⟩
 have hcn : cur = [] := h8
 subst hcn
 refine .exit (.then_e (.then_e (.blk_e (.then_n (.sm rfl (.m rfl (.q (.slen rfl Tryz.underlying23 rfl) rfl (.ui rfl rfl rfl (.a rfl (.an rfl (.ret ?_)))))))))))
 exact .dn rfl rfl ⟨_, _, ⟨_, _, rfl⟩, (by unfold okZ; rw [hseg, show segsZ [] = [] from rfl, List.append_nil, hall, Bool.and_true]; refine decide_eq_decide.2 ?_; rcases acc with _ | ⟨x, l⟩; (rw [← hfst rfl]; simp); (simp only [(hrest (by simp)).1, iff_true, List.length_cons]; omega)), (fun _ => by rw [hseg]; simp [segsZ]), rfl⟩
theorem rcheck_spec (s : Bs) (hs : s.length ≤ 1099511627776) : Fn Tryz.prog 39 #[vstr s] [] fun v L => v = vint (checkZ s) ∧ L = [] := by
 refine Fn.intro Tryz.func39 rfl rfl fun F W => ?_
 have hbs := bs_size s
 refine .sr (.an rfl (.seq (.sm rfl (.u (.streq rfl rfl) (.nt (.condD rfl (fun h6 => ?_) (fun h6 => ?_)))))))
 ·refine .sr (.an rfl (.rt ?_))
  exact .dn rfl rfl ⟨by rw [show s = [47] from h6]; rfl, rfl⟩
 have hchk := check_ok h6
 refine .sk (.sm rfl (.oq (.c Tryz.func85 [_] (rnames_spec s hs)) ?_))
 rintro v L' ⟨nn, b, ⟨a3, c3, rfl⟩, hb, hnn, rfl⟩
 refine .m rfl (.u (.extract rfl rfl) (.u (.extract rfl rfl) (.a rfl (.an rfl (.seq (.sm rfl (.u (.not rfl) (.nt (.condB rfl (fun h13 => ?_) (fun h13 => ?_))))))))))
 ·have hbf : b = false := by simpa using h13
  rw [← hb, hbf, if_neg (by simp)] at hchk
  refine .sr (.an rfl (.rt ?_))
  exact .dn rfl rfl ⟨by rw [hchk], rfl⟩
 have hbt : b = true := by simpa using h13
 have hnl := hnn hbt
 rw [← hb, hbt, if_pos rfl] at hchk
 refine .sk (.seq (.sm rfl (.q (.strlen rfl Tryz.underlying9 rfl) rfl (.ui rfl rfl rfl (.m rfl (.dec (t := 17) rfl (fun h6_17 => ?_) (fun h6_17 => ?_)))))))
 ·refine .kDT (t := 16) rfl h6_17 (.gk (.gk (.gk (.u (.pickT rfl rfl) (.nt (.condT rfl (.sr (.an rfl (.rt ?_)))))))))
  exact .dn rfl rfl ⟨by rw [hchk, if_pos (by left; omega)], rfl⟩
 refine .kDF (t := 16) rfl h6_17 (.grun (t := 17) rfl rfl rfl (.m rfl (.grun (t := 17) rfl rfl rfl (.q (.slen rfl Tryz.underlying23 rfl) rfl (.grun (t := 17) rfl rfl rfl (.ui rfl rfl rfl (.u (.pickF rfl rfl) (.nt (.condD rfl (fun h21 => ?_) (fun h21 => ?_))))))))))
 ·refine .sr (.an rfl (.rt ?_))
  exact .dn rfl rfl ⟨by rw [hchk, if_pos (by right; omega)], rfl⟩
 refine .sk (.sr (.an rfl (.ret ?_)))
 exact .dn rfl rfl ⟨by rw [hchk, if_neg (by omega)], rfl⟩
theorem rslash_spec (s : Bs) (hs : s.length ≤ 1099511627776) : Fn Tryz.prog 171 #[vstr s] [] fun v L => v = vint (lidxZ s) ∧ L = [] := by
 refine Fn.intro Tryz.func171 rfl rfl fun F W => ?_
 have hbs := bs_size s
 refine .sr (.an rfl (.seq (.sm rfl (.q (.strlen rfl Tryz.underlying9 rfl) rfl (.q (.sub rfl rfl (by omega)) rfl (.an rfl (.block (.loopK (ι := Nat) (fun q E => (3, vint (dnL s.length q)) :: E) (fun q => []) (fun q => q ≤ s.length ∧ lidxTo s (s.length - q) = lidxZ s) (fun q => s.length - q) (0) (ts := [0]) (.cons rfl (.nil)) (⟨Nat.zero_le _, rfl⟩) ⟨rfl, rfl, trivial⟩ (by repeat' constructor) ?_))))))))
 rintro k ⟨hk, hl⟩
 have hdn := dnL_eq s.length k
 refine .seq (.sm rfl (.ui rfl rfl rfl (.nt (.condD rfl (fun h8 => ?_) (fun h8 => ?_)))))
 ·have hk2 : k < s.length := by omega
  have hat : s[s.length - (k + 1)] = s.getD (s.length - (k + 1)) 0 := by rw [List.getD_eq_getElem?_getD, List.getElem?_eq_getElem (by omega), Option.getD_some]
  refine .sk (.seq (.block (.sm rfl (.m rfl (.q (.strIndex (c := s[s.length - (k + 1)]) rfl rfl Tryz.underlying9 (by omega) (by rw [show (dnL s.length k).toNat = s.length - (k + 1) by omega]; simp [show s.length - (k + 1) < s.length by omega])) rfl (.ui rfl rfl rfl (.nt (.condD rfl (fun h14 => ?_) (fun h14 => ?_)))))))))
  ·have he : s.getD (s.length - (k + 1)) 0 = 47 := by rw [← hat]; exact byte_eq h14
   refine .sm rfl (.an rfl (.ret (.blk_r (.then_r (.then_r (.blk_r (.then_r ?_)))))))
   exact .dn rfl rfl ⟨by rw [← hl, show s.length - k = (s.length - (k + 1)) + 1 by omega, lidxTo, if_pos he, hdn]; congr 1; omega, rfl⟩
  have hne : ¬ s.getD (s.length - (k + 1)) 0 = 47 := by rw [← hat]; exact fun e => h14 (by rw [e]; rfl)
  refine .skip (.blk_n (.then_n (.region (.m rfl (.q (.sub rfl rfl (by omega)) rfl (.an rfl ?_))))))
  exact .rk (k + 1) (⟨by omega, by rw [← hl, show s.length - k = (s.length - (k + 1)) + 1 by omega, lidxTo, if_neg hne]⟩) (by omega) ⟨rfl, rfl, trivial⟩
 refine .exit (.then_e (.then_e (.blk_e (.then_n (.sr (.an rfl (.ret ?_)))))))
 exact .dn rfl rfl ⟨by rw [← hl, show s.length - k = 0 by omega]; rfl, rfl⟩
theorem rparent_spec (s : Bs) (hs : s.length ≤ 1099511627776) : Fn Tryz.prog 110 #[vstr s] [] fun v L => v = vstr (parentZ s) ∧ L = [] := by
 refine Fn.intro Tryz.func110 rfl rfl fun F W => ?_
 have hr := lidx_range s
 refine .sr (.an rfl (.sm rfl (.oq (.c Tryz.func171 [_] (rslash_spec _ ?hs3)) ?_)))
 case hs3 => first | assumption | omega
 rintro v L' ⟨rfl, rfl⟩
 refine .an rfl (.seq (.sm rfl (.ui rfl rfl rfl (.m rfl (.dec (t := 8) rfl (fun h2_8 => ?_) (fun h2_8 => ?_))))))
 ·refine .kDT (t := 7) rfl h2_8 (.gk (.gk (.u (.pickT rfl rfl) (.nt (.condT rfl (.sr (.an rfl (.rt ?_))))))))
  exact .dn rfl rfl ⟨by unfold parentZ; rw [if_pos (by first | exact .inl (by omega) | exact .inr (by assumption))], rfl⟩
 refine .kDF (t := 7) rfl h2_8 (.grun (t := 8) rfl rfl rfl (.m rfl (.grun (t := 8) rfl rfl rfl (.u (.streq rfl rfl) (.u (.pickF rfl rfl) (.nt (.dec (t := 11) rfl (fun h11 => ?_) (fun h11 => ?_))))))))
 ·refine .condT rfl (.sr (.an rfl (.rt ?_)))
  exact .dn rfl rfl ⟨by unfold parentZ; rw [if_pos (by first | exact .inl (by omega) | exact .inr (by assumption))], rfl⟩
 refine .condF rfl (.sk (.seq (.sm rfl (.ui rfl rfl rfl (.nt (.condD rfl (fun h13 => ?_) (fun h13 => ?_)))))))
 ·refine .sr (.an rfl (.rt ?_))
  exact .dn rfl rfl ⟨by unfold parentZ; rw [if_neg (by rintro (g | g); omega; exact absurd g h11), if_pos h13], rfl⟩
 refine .sk (.sm rfl (.m rfl (.q (.strTo rfl rfl Tryz.underlying9 (by omega)) rfl (.an rfl (.ret ?_)))))
 exact .dn rfl rfl ⟨by unfold parentZ; rw [if_neg (by rintro (g | g); omega; exact absurd g h11), if_neg h13], rfl⟩
theorem rbase_spec (s : Bs) (hs : s.length ≤ 1099511627776) : Fn Tryz.prog 121 #[vstr s] [] fun v L => v = vstr (baseZ s) ∧ L = [] := by
 refine Fn.intro Tryz.func121 rfl rfl fun F W => ?_
 have hr := lidx_range s
 refine .sr (.an rfl (.sm rfl (.m rfl (.oq (.c Tryz.func171 [_] (rslash_spec _ ?hs4)) ?_))))
 case hs4 => first | assumption | omega
 rintro v L' ⟨rfl, rfl⟩
 refine .q (.add rfl rfl (by omega)) rfl (.q (.strFrom rfl rfl Tryz.underlying9 (by omega)) rfl (.an rfl (.ret ?_)))
 exact .vv
theorem rkid_spec (s name : Bs) (hs : s.length ≤ 1099511627776) (hn : name.length ≤ 1099511627776) : Fn Tryz.prog 215 #[vstr s, vstr name] [] fun v L => v = vstr (kidZ s name) ∧ L = [] := by
 refine Fn.intro Tryz.func215 rfl rfl fun F W => ?_
 refine .sr (.an rfl (.seq (.sm rfl (.u (.streq rfl rfl) (.nt (.condD rfl (fun h6 => ?_) (fun h6 => ?_)))))))
 ·refine .sm rfl (.m rfl (.q (.concat rfl rfl (by omega)) rfl (.an rfl (.rt ?_))))
  exact .dn rfl rfl ⟨by unfold kidZ; rw [if_pos h6, h6], rfl⟩
 refine .sk (.sm rfl (.q (.concat rfl rfl (by simp; omega)) rfl (.m rfl (.q (.concat rfl rfl (by simp; omega)) rfl (.an rfl (.ret ?_))))))
 exact .dn rfl rfl ⟨by unfold kidZ; rw [if_neg h6], rfl⟩
theorem runder_spec (s q0 : Bs) (hq : q0.length ≤ 1099511627776) : Fn Tryz.prog 186 #[vstr s, vstr q0] [] fun v L => v = .bool (decide (underZ s q0)) ∧ L = [] := by
 refine Fn.intro Tryz.func186 rfl rfl fun F W => ?_
 have hb1 := bs_size s
 have hb2 := bs_size (kidZ q0 [])
 have hkl := kid_len q0 []
 refine .sr (.an rfl (.sm rfl (.cv Tryz.func215 [_, _] (rkid_spec q0 [] (by omega) (by simp)) ?_)))
 refine .an rfl (.sm rfl (.q (.strlen rfl Tryz.underlying9 rfl) rfl (.m rfl (.q (.strlen rfl Tryz.underlying9 rfl) rfl (.ui rfl rfl rfl (.m rfl (.dec (t := 13) rfl (fun h2_13 => ?_) (fun h2_13 => ?_))))))))
 ·refine .kDT (t := 12) rfl h2_13 (.grun (t := 13) rfl rfl rfl (.m rfl (.grun (t := 13) rfl rfl rfl (.m rfl (.grun (t := 13) rfl rfl rfl (.q (.strlen rfl Tryz.underlying9 rfl) rfl (.grun (t := 13) rfl rfl rfl (.q (.to (v' := vstr (s.take (kidZ q0 []).length)) (.strTo rfl rfl Tryz.underlying9 (by omega)) (by rw [Int.toNat_natCast])) rfl (.grun (t := 13) rfl rfl rfl (.m rfl (.grun (t := 13) rfl rfl rfl (.u (.streq rfl rfl) (.u (.pickT rfl rfl) (.an rfl (.ret ?_)))))))))))))))
  exact .dn rfl rfl ⟨by congr 1; exact decide_eq_decide.2 ⟨fun e => ⟨e, fun g => by rw [g] at h2_13; omega⟩, fun e => e.1⟩, rfl⟩
 refine .kDF (t := 12) rfl h2_13 (.gk (.gk (.gk (.gk (.gk (.gk (.u (.pickF rfl rfl) (.an rfl (.ret ?_)))))))))
 exact .dn rfl rfl ⟨by rw [decide_eq_false (fun e => by obtain ⟨e1, e2⟩ := e; unfold pfx at e1; have h3 := congrArg List.length e1; rw [List.length_take] at h3; exact e2 (by rw [← e1, List.take_of_length_le (by omega)]))], rfl⟩
theorem rplace_spec (x : Nat) (τ : Tr) (p : Bs) (hn : τ.nodes.length ≤ 1099511627776) : Fn Tryz.prog 95 #[vptr x, vstr p] [refR x τ] fun v L => v = vint (placeZ τ p) ∧ L = [refR x τ] := by
 refine Fn.intro Tryz.func95 rfl rfl fun F W => ?_
 refine .rtOpen (x := x) (τ := τ) (by repeat' constructor) fun an cn as1 cs l hl => ?_
 have hll := nds_len hl
 refine .sr (.an rfl (.seq (.sr (.an rfl (.block (.loopK (ι := Nat) (fun q E => (5, vint q) :: E) (fun q => []) (fun q => q ≤ l.length ∧ ∀ j (hj : j < q), ∀ (hj2 : j < l.length), l[j].1 ≠ p) (fun q => l.length - q) (0) (ts := [0, 1]) (.cons rfl (.cons rfl (.nil))) (⟨Nat.zero_le _, fun j hj => by omega⟩) ⟨rfl, rfl, rfl, trivial⟩ (by repeat' constructor) ?_))))))
 rintro i ⟨hi, hno⟩
 refine .seq (.sm rfl (.m rfl (.nf rfl fo_110_0 (.u (.ld rfl ag_107) (.q (.slen rfl Tryz.underlying107 rfl) rfl (.ui rfl rfl rfl (.nt (.condD rfl (fun h12 => ?_) (fun h12 => ?_)))))))))
 ·have hi2 : i < l.length := by omega
  refine .slShape (T := 112) (sz := 12) (v := .slice an l.length cn) (xs := l.flatMap rnC) (by repeat' constructor) (by omega) fun bn bn' e0 mbn _ => ?_
  simp only [Value.slice.injEq, true_and] at e0
  obtain ⟨rfl, rfl⟩ := e0
  refine .sk (.seq (.block (.sm rfl (.nf rfl fo_110_0 (.u (.ld rfl ag_107) (.m rfl (.q (.indexAddr rfl rfl el_107 (by omega)) rfl (.u (.fieldAddr rfl fo_112_0) (.q (.loadRd (sz := 12) (j := i * 12 + 0) (p := rnR _ l) rfl ag_9 (by repeat' constructor) (fun h hp => slR_rd hp) (by omega) ((rn_cell (l := l) (i := i) (k := 0) (by omega) (by decide)).trans rfl)) rfl (.m rfl (.u (.streq rfl rfl) (.nt (.condD rfl (fun h24 => ?_) (fun h24 => ?_))))))))))))))
  ·refine .sm rfl (.an rfl (.ret (.blk_r (.then_r (.then_r (.blk_r (.then_r ?_)))))))
   have hz : placeZ τ p = (i : Int) := by unfold placeZ; rw [← hl, place_nds]; exact place_at hi2 h24 (fun j hj => hno j hj (by omega))
   refine .rtFold (x := x) (τ := τ) (l := l) hl (by repeat' constructor) rfl rfl rfl rfl rfl ?_
   exact .dn rfl rfl ⟨by rw [hz], rfl⟩
  refine .skip (.blk_n (.then_n (.region (.m rfl (.q (.add rfl rfl (by omega)) rfl (.an rfl ?_))))))
  exact .rk (i + 1) (⟨by omega, fun j hj hj2 => by by_cases e : j = i; (subst e; exact h24); exact hno j (by omega) hj2⟩) (by omega) ⟨rfl, rfl, rfl, trivial⟩
 refine .exit (.then_e (.then_e (.blk_e (.then_n (.sr (.an rfl (.ret ?_)))))))
 have hz : placeZ τ p = -1 := by unfold placeZ; rw [← hl, place_nds]; exact place_none (fun j hj => hno j (by omega) hj)
 refine .rtFold (x := x) (τ := τ) (l := l) hl (by repeat' constructor) rfl rfl rfl rfl rfl ?_
 exact .dn rfl rfl ⟨by rw [hz], rfl⟩
theorem rable_spec (p : Bs) (hs : p.length ≤ 1099511627776) : Fn Tryz.prog 127 #[vstr p] [] fun v L => v = .bool (decide (ableZ p)) ∧ L = [] := by
 refine Fn.intro Tryz.func127 rfl rfl fun F W => ?_
 refine .sr (.an rfl (.sm rfl (.u (.strne rfl rfl) (.m rfl (.ndec (t := 5) rfl (fun h1_5 => ?_) (fun h1_5 => ?_))))))
 ·refine .kNT (t := 4) rfl h1_5 (.grun (t := 5) rfl rfl rfl (.m rfl (.grun (t := 5) rfl rfl rfl (.cv Tryz.func39 [_] (rcheck_spec p hs) ?_))))
  refine .grun (t := 5) rfl rfl rfl (.ui rfl rfl rfl (.u (.pickT rfl rfl) (.an rfl (.ret ?_))))
  exact .dn rfl rfl ⟨congrArg Value.bool (decide_eq_decide.2 ⟨fun e => ⟨h1_5, e⟩, fun e => e.2⟩), rfl⟩
 refine .kNF (t := 4) rfl h1_5 (.gk (.gk (.gk (.u (.pickF rfl rfl) (.an rfl (.ret ?_))))))
 exact .dn rfl rfl ⟨by rw [decide_eq_false (fun e => e.1 h1_5)], rfl⟩
theorem rrows_spec (v : Value) (xs : List Ac) (p : HP) (hp : ∀ h : Hp, p h → rdS 2 h v xs.length (xs.flatMap acC)) (hn : xs.length ≤ 1048576) : Fn Tryz.prog 126 #[v] [p] fun u L => (∃ a c, u = .slice a xs.length c) ∧ L = [p, slR 85 2 u xs.length (xs.flatMap acC)] := by
 refine Fn.intro Tryz.func126 rfl rfl fun F W => ?_
 refine .rdAny (p := p) hp (by repeat' constructor) fun a c e0 hl => ?_
 subst e0
 refine .add (slR_nil 85 2) (.sr (.an rfl (.sr (.an rfl (.sm rfl (.m rfl (.oq (.append (n := 0) (m := xs.length) (ys := xs.flatMap acC) (p := p) rfl rfl rfl el_24 (.inl ⟨_, Tryz.underlying24⟩) ze_85 rfl rfl ?hc4 hp ?hb5 (by decide)) ?_)))))))
 case hc4 => exact acC_cells _
 case hb5 => omega
 rintro v L' ⟨⟨a3, c3, rfl⟩, rfl⟩; rw [Nat.zero_add, List.nil_append]
 refine .an rfl (.ret ?_)
 exact .dn rfl rfl ⟨⟨_, _, rfl⟩, rfl⟩
theorem fill_rnode0 (p : Bs) (ad : Option Addr) (n c : Nat) : Instr.fill (fun i => [(0, 1), (1, 1), (2, 1), (3, 9)].toArray[i]?) ([.string (bs []), .string (bs []), .slice none 0 0, .int .i64 0, .int .i64 0, .int .i64 0, .int .i64 0, .int .i64 0, .int .i64 0, .int .i64 0, .int .i64 0, .int .i64 0] : List Value).toArray [(0, vstr p), (2, .slice ad n c)] = some (([vstr p, .string (bs []), .slice ad n c, vint 0, vint 0, vint 0, vint 0, vint 0, vint 0, vint 0, vint 0, vint 0] : List Value).toArray) := by kernel_rfl
theorem fill_rnode (p d : Bs) (ad : Option Addr) (n c : Nat) (s0 s1 s2 s3 s4 s5 s6 s7 s8 : Value) : Instr.fill (fun i => [(0, 1), (1, 1), (2, 1), (3, 9)].toArray[i]?) ([.string (bs []), .string (bs []), .slice none 0 0, .int .i64 0, .int .i64 0, .int .i64 0, .int .i64 0, .int .i64 0, .int .i64 0, .int .i64 0, .int .i64 0, .int .i64 0] : List Value).toArray [(0, vstr p), (1, vstr d), (2, .slice ad n c), (3, .agg ([s0, s1, s2, s3, s4, s5, s6, s7, s8] : List Value).toArray)] = some (([vstr p, vstr d, .slice ad n c] ++ [s0, s1, s2, s3, s4, s5, s6, s7, s8] : List Value).toArray) := by kernel_rfl
theorem rfnew_spec : Fn Tryz.prog 27 #[] [] fun v L => ∃ x, v = vptr x ∧ L = [refR x newT] := by
 refine Fn.intro Tryz.func27 rfl rfl fun F W => ?_
 refine .sr (.an rfl (.sr (.q (.build (us := [(0, _), (1, _)]) fl_85 ze_85 rfl rfl (by simp [isCell])) rfl (.oq (.buildSlice (vs := [_]) el_24 ze_85 rfl rfl rfl rfl (by first | (simp [Value.cells]; done) | (intro v hv; simp only [List.mem_cons, List.not_mem_nil, or_false] at hv; (repeat (first | (subst hv; rfl) | (rcases hv with hv | hv; (subst hv; rfl)))))) (by decide)) ?_))))
 rintro v L' ⟨ba, rfl, rfl⟩
 refine .q (.buildN (pl := [(0, 1), (1, 1), (2, 1), (3, 9)]) (us := [(0, vstr [47]), (2, .slice (some ⟨ba, 0, none⟩) 1 1)]) (cells := rnC (([47], (.slice (some ⟨ba, 0, none⟩) 1 1, ⟨[], [(31, [119, 111, 114, 108, 100])], st0⟩)) : Rno)) Tryz.underlying112 (by kernel_rfl) ze_112 rfl (fill_rnode0 _ _ _ _)) rfl (.oq (.buildSlice (vs := [_]) el_107 ze_112 rfl rfl rfl rfl (by first | (simp [Value.cells]; done) | (intro v hv; simp only [List.mem_cons, List.not_mem_nil, or_false] at hv; (repeat (first | (subst hv; rfl) | (rcases hv with hv | hv; (subst hv; rfl)))))) (by decide)) ?_)
 rintro v L' ⟨bn, rfl, rfl⟩
 refine .q (.build (us := [(0, _)]) fl_110 ze_110 rfl rfl (by simp [isCell])) rfl (.oq (.box rfl) ?_)
 rintro v L' ⟨x, rfl, rfl⟩
 refine .an rfl (.ret (.slMakeN 2 1 (b := ba) (xs := ([(31, [119, 111, 114, 108, 100])] : List Ac).flatMap acC) (by repeat' constructor) rfl rfl (.toRd (m := 1) (by repeat' constructor) (.slMakeN 12 1 (b := bn) (xs := [(([47], (.slice (some ⟨ba, 0, none⟩) 1 1, ⟨[], [(31, [119, 111, 114, 108, 100])], st0⟩)) : Rno)].flatMap rnC) (by repeat' constructor) rfl rfl (.add (slR_nil 122 3) (.fold (p := bigR inA [(([47], (.slice (some ⟨ba, 0, none⟩) 1 1, ⟨[], [(31, [119, 111, 114, 108, 100])], st0⟩)) : Rno)]) (.cons (p := rdO 2 (.slice (some ⟨ba, 0, none⟩) 1 1) 1 (([(31, [119, 111, 114, 108, 100])] : List Ac).flatMap acC)) (by repeat' constructor) .nil) (fun h hp => hp) (.rtFold (x := x) (τ := newT) (l := [(([47], (.slice (some ⟨ba, 0, none⟩) 1 1, ⟨[], [(31, [119, 111, 114, 108, 100])], st0⟩)) : Rno)]) rfl (by repeat' constructor) rfl rfl rfl rfl rfl ?_)))))))
 exact .dn rfl rfl ⟨_, rfl, rfl⟩
theorem rn_cells {z : Rno} (hz : isCell z.2.1 = true) : ∀ y ∈ (Value.agg (rnC z).toArray).cells.toList, isCell y = true := by
 intro v hv
 simp only [Value.cells, rnC, List.mem_cons, List.not_mem_nil, or_false] at hv
 rcases hv with rfl | rfl | rfl | rfl | rfl | rfl | rfl | rfl | rfl | rfl | rfl | rfl
 case inr.inr.inl => exact hz
 all_goals rfl
theorem rdO_cell {sz n : Nat} {v : Value} {ys : List Value} {h : Hp} (hr : rdO sz v n ys h) : isCell v = true := by
 rcases hr with ⟨-, -, a, c, rfl⟩ | ⟨b, off, cap, l, T, fr, rfl, -⟩ <;> rfl
theorem big_get {α : Type} {f : α → HP} {l : List α} {i : Nat} (hi : i < l.length) {h : Hp} (hs : bigR f l h) : ∃ h1, f l[i] h1 := by
 induction l generalizing i h with
 | nil => simp at hi
 | cons x l ih =>
  obtain ⟨h1, h2, -, -, -, p1, p2⟩ := hs
  cases i with
  | zero => exact ⟨h1, p1⟩
  | succ i => exact ih (by simpa using hi) p2
theorem G.aclShape {W : World} {n : Nat} {ds : List Deferred} {E : Env} {L R : List HP} {X : Act → World → Prop} {l : List Rno} {i : Nat} (hi : i < l.length) (hL : Pick (bigR inA l) L R) (h : isCell l[i].2.1 = true → G W n ds E L X) : G W n ds E L X := by
 intro a w he hk hs
 obtain ⟨h1, -, hp⟩ := sep_head (hs.pick hL)
 obtain ⟨h2, hq⟩ := big_get hi hp
 exact h (rdO_cell hq) a w he hk hs
theorem rlay_spec (x : Nat) (τ : Tr) (z : Rno) (hzc : isCell z.2.1 = true) (N : Nat) (ho : τ.Ok N) (hN : N ≤ 1073741824) : Fn Tryz.prog 184 #[vptr x, .agg (rnC z).toArray] [refR x τ, inA z] fun v L => v = .tuple #[] ∧ L = [refR x { τ with nodes := sset τ.nodes z.1 z.2.2 }] := by
 refine Fn.intro Tryz.func184 rfl rfl fun F W => ?_
 refine .rtOpen (x := x) (τ := τ) (by repeat' constructor) fun an cn as1 cs l hl => ?_
 have hsrt := nds_sorted (hl ▸ ho.sorted)
 have hll := nds_len hl
 have hofew := ho.few
 refine .sr (.oq (.box rfl) ?_)
 rintro v L' ⟨bz, rfl, rfl⟩
 refine .nil (.ptCast (b := bz) (l' := rnC z) (by repeat' constructor) rfl ?_)
 refine .then_n (.seq (.add (slR_nil 112 12) (.region (.an rfl (.sr (.an rfl (.seq (.sr (.an rfl (.block (.loopK (ι := Nat × Bool × Value × (List Rno)) (fun q E => (6, vint q.1) :: (5, .bool q.2.1) :: (4, q.2.2.1) :: E) (fun q => [rnR q.2.2.1 q.2.2.2]) (fun q => q.1 ≤ l.length ∧ LayI l z.1 z.2 q.1 q.2.1 q.2.2.2 ∧ (∃ a c, q.2.2.1 = .slice a q.2.2.2.length c) ∧ q.2.2.2.length ≤ q.1 + q.2.1.toNat) (fun q => l.length - q.1) (0, false, .slice none 0 0, []) (ts := [0, 3]) (.cons rfl (.cons rfl (.nil))) (⟨Nat.zero_le _, LayI.start _ _ _, ⟨none, 0, rfl⟩, by simp⟩) ⟨rfl, rfl, rfl, rfl, rfl, trivial⟩ (by repeat' constructor) ?_)))))))))))
 rintro ⟨i, b, u, acc⟩ ⟨hi, hLay, ⟨au, cu, hu⟩, hal⟩
 dsimp only
 dsimp only at hi hLay hu hal
 subst hu
 refine .seq (.sm rfl (.m rfl (.nf rfl fo_110_0 (.u (.ld rfl ag_107) (.q (.slen rfl Tryz.underlying107 rfl) rfl (.ui rfl rfl rfl (.nt (.condD rfl (fun h13 => ?_) (fun h13 => ?_)))))))))
 ·have hi2 : i < l.length := by omega
  refine .slShape (T := 112) (sz := 12) (v := .slice an l.length cn) (xs := l.flatMap rnC) (by repeat' constructor) (by omega) fun bn bn' e0 mbn _ => ?_
  simp only [Value.slice.injEq, true_and] at e0
  obtain ⟨rfl, rfl⟩ := e0
  refine .sk (.seq (.block (.seq (.seq (.draw [] [[0, 1, 2, 3, 4, 5, 6, 7, 8, 9, 10, 11, 12, 13, 14]] mixed (by kernel_rfl) (.g0 (.mv rfl rfl (.kv rfl (.not rfl) (.mv rfl rfl (.bool (t := 18) rfl (fun h6_18 => ?_) (fun h6_18 => ?_)))))))))))
  ·have hbf : b = false := by simpa using h6_18
   subst hbf
   have hal : acc.length ≤ i + 0 := hal
   refine D.kB (t := 17) rfl h6_18 (.gv rfl (.move rfl) (.gv rfl (.nilp rfl) (.gv rfl (.fieldAddr rfl fo_110_0) (.gv rfl (.ld rfl ag_107) (.gv rfl (.move rfl) (.gv rfl (.indexAddr rfl rfl el_107 (by omega)) (.gv rfl (.fieldAddr rfl fo_112_0) (.gv rfl (.loadRd (sz := 12) (j := i * 12 + 0) (p := rnR _ l) rfl ag_9 (by repeat' constructor) (fun h hp => slR_rd hp) (by omega) ((rn_cell (l := l) (i := i) (k := 0) (by omega) (by decide)).trans rfl)) (.gv rfl (.fieldAddr rfl fo_112_0) (.gv rfl (.load rfl ag_9 (by repeat' constructor) rfl) (.gv rfl (.strge rfl rfl) (.kv rfl (.pickT rfl rfl) (.pf (.condD rfl (fun h30 => ?_) (fun h30 => ?_)))))))))))))))
   ·refine .sm rfl (.q (.loadAs (vs := rnC z) rfl ag_112 (by repeat' constructor) (by simp [rnC]) rfl) rfl (.oq (.buildSlice (vs := [_]) el_107 ze_112 rfl rfl rfl rfl (by first | (simp [Value.cells]; done) | (intro v hv; simp only [List.mem_cons, List.not_mem_nil, or_false] at hv; (repeat (first | (subst hv; rfl) | (rcases hv with hv | hv; (subst hv; rfl)))))) (by decide)) ?_))
    rintro v L' ⟨b7_2, rfl, rfl⟩
    refine .oq (.append1 rfl rfl rfl el_107 ze_112 rfl rfl ?c30 ?c31 (Nat.le_refl _) ?c32 (by decide)) ?_
    case c30 => first | exact rn_cells hzc | (simp only [List.map_cons, List.map_nil, List.flatten_cons, List.flatten_nil, List.append_nil]; exact rn_cells hzc)
    case c31 => rfl
    case c32 => first | omega | (simp; omega)
    rintro v L' ⟨⟨a7_3, c7_3, rfl⟩, rfl⟩
    refine .a rfl (.nil ?_)
    rw [show acc.length + 1 = (acc ++ [z]).length by rw [List.length_append]; rfl]
    refine .slCast (T := 112) (sz := 12) (m' := (acc ++ [z]).length) (xs' := (acc ++ [z]).flatMap rnC) (by repeat' constructor) rfl (by simp; rfl) (.then_n (.region (.an rfl (.seq (.draw [] [[0, 1, 2, 3, 4, 5, 6, 7, 8, 9, 10]] mixed (by kernel_rfl) (.g0 (.mv rfl rfl (.nf rfl rfl rfl fo_110_0 (.kv rfl (.ld rfl ag_107) (.mv rfl rfl (.kv rfl (.indexAddr rfl rfl el_107 (by omega)) (.kv rfl (.fieldAddr rfl fo_112_0) (.kv rfl (.loadRd (sz := 12) (j := i * 12 + 0) (p := rnR _ l) rfl ag_9 (by repeat' constructor) (fun h hp => slR_rd hp) (by omega) ((rn_cell (l := l) (i := i) (k := 0) (by omega) (by decide)).trans rfl)) (.kv rfl (.fieldAddr rfl fo_112_0) (.kv rfl (.ld rfl ag_9) (.kv rfl (.strne rfl rfl) (.pf (.condN rfl (fun h45 => ?_) (fun h45 => ?_)))))))))))))))))))
    ·refine .aclShape (l := l) (i := i) hi2 (by repeat' constructor) fun hcl => (.region (.m rfl (.m rfl (.nf rfl fo_110_0 (.u (.ld rfl ag_107) (.m rfl (.q (.indexAddr rfl rfl el_107 (by omega)) rfl (.q (.loadRdA (sz := 12) (j := i * 12) (k := 12) (p := rnR _ l) (vs := rnC l[i]) rfl ag_112 (by repeat' constructor) (fun h hp => slR_rd hp) (by omega) (by omega) (by omega) (flatMap_at (f := rnC) (sz := 12) (fun _ _ => rfl) (by omega))) rfl (.oq (.buildSlice (vs := [_]) el_107 ze_112 rfl rfl rfl rfl (by first | (simp [Value.cells]; done) | (intro v hv; simp only [List.mem_cons, List.not_mem_nil, or_false] at hv; (repeat (first | (subst hv; rfl) | (rcases hv with hv | hv; (subst hv; rfl)))))) (by decide)) ?_)))))))))
     rintro v L' ⟨b10_8, rfl, rfl⟩
     refine .oq (.append1 rfl rfl rfl el_107 ze_112 rfl rfl ?c56 ?c57 (Nat.le_refl _) ?c58 (by decide)) ?_
     case c56 => first | exact rn_cells hcl | (simp only [List.map_cons, List.map_nil, List.flatten_cons, List.flatten_nil, List.append_nil]; exact rn_cells hcl)
     case c57 => rfl
     case c58 => first | omega | (simp; omega)
     rintro v L' ⟨⟨a10_9, c10_9, rfl⟩, rfl⟩
     refine .a rfl (.nil ?_)
     rw [show (acc ++ [z]).length + 1 = ((acc ++ [z]) ++ [l[i]]).length by simp]
     refine .slCast (T := 112) (sz := 12) (m' := ((acc ++ [z]) ++ [l[i]]).length) (xs' := ((acc ++ [z]) ++ [l[i]]).flatMap rnC) (by repeat' constructor) rfl (by simp; rfl) (.blk_n (.then_n (.region (.m rfl (.q (.add rfl rfl (by omega)) rfl (.an rfl ?_))))))
     exact .rk ((i + 1, true, .slice a10_9 ((acc ++ [z]) ++ [l[i]]).length c10_9, ((acc ++ [z]) ++ [l[i]]))) (⟨by dsimp only; omega, by dsimp only; exact hLay.put hi2 h30 h45, ⟨_, _, rfl⟩, by dsimp only; simp; omega⟩) (by dsimp only; omega) ⟨rfl, rfl, rfl, rfl, rfl, trivial⟩
    refine .skip (.blk_n (.then_n (.region (.m rfl (.q (.add rfl rfl (by omega)) rfl (.an rfl ?_))))))
    exact .rk ((i + 1, true, .slice a7_3 (acc ++ [z]).length c7_3, (acc ++ [z]))) (⟨by dsimp only; omega, by dsimp only; exact hLay.sub hi2 h45, ⟨_, _, rfl⟩, by dsimp only; simp; omega⟩) (by dsimp only; omega) ⟨rfl, rfl, rfl, rfl, rfl, trivial⟩
   refine .sk (.seq (.draw [] [[0, 1, 2, 3, 4, 5, 6, 7, 8, 9, 10]] mixed (by kernel_rfl) (.g0 (.mv rfl rfl (.nf rfl rfl rfl fo_110_0 (.kv rfl (.ld rfl ag_107) (.mv rfl rfl (.kv rfl (.indexAddr rfl rfl el_107 (by omega)) (.kv rfl (.fieldAddr rfl fo_112_0) (.kv rfl (.loadRd (sz := 12) (j := i * 12 + 0) (p := rnR _ l) rfl ag_9 (by repeat' constructor) (fun h hp => slR_rd hp) (by omega) ((rn_cell (l := l) (i := i) (k := 0) (by omega) (by decide)).trans rfl)) (.kv rfl (.fieldAddr rfl fo_112_0) (.kv rfl (.ld rfl ag_9) (.kv rfl (.strne rfl rfl) (.pf (.condN rfl (fun h45 => ?_) (fun h45 => ?_))))))))))))))))
   ·refine .aclShape (l := l) (i := i) hi2 (by repeat' constructor) fun hcl => (.region (.m rfl (.m rfl (.nf rfl fo_110_0 (.u (.ld rfl ag_107) (.m rfl (.q (.indexAddr rfl rfl el_107 (by omega)) rfl (.q (.loadRdA (sz := 12) (j := i * 12) (k := 12) (p := rnR _ l) (vs := rnC l[i]) rfl ag_112 (by repeat' constructor) (fun h hp => slR_rd hp) (by omega) (by omega) (by omega) (flatMap_at (f := rnC) (sz := 12) (fun _ _ => rfl) (by omega))) rfl (.oq (.buildSlice (vs := [_]) el_107 ze_112 rfl rfl rfl rfl (by first | (simp [Value.cells]; done) | (intro v hv; simp only [List.mem_cons, List.not_mem_nil, or_false] at hv; (repeat (first | (subst hv; rfl) | (rcases hv with hv | hv; (subst hv; rfl)))))) (by decide)) ?_)))))))))
    rintro v L' ⟨b10_8, rfl, rfl⟩
    refine .oq (.append1 rfl rfl rfl el_107 ze_112 rfl rfl ?c86 ?c87 (Nat.le_refl _) ?c88 (by decide)) ?_
    case c86 => first | exact rn_cells hcl | (simp only [List.map_cons, List.map_nil, List.flatten_cons, List.flatten_nil, List.append_nil]; exact rn_cells hcl)
    case c87 => rfl
    case c88 => first | omega | (simp; omega)
    rintro v L' ⟨⟨a10_9, c10_9, rfl⟩, rfl⟩
    refine .a rfl (.nil ?_)
    rw [show acc.length + 1 = (acc ++ [l[i]]).length by simp]
    refine .slCast (T := 112) (sz := 12) (m' := (acc ++ [l[i]]).length) (xs' := (acc ++ [l[i]]).flatMap rnC) (by repeat' constructor) rfl (by simp; rfl) (.blk_n (.then_n (.region (.m rfl (.q (.add rfl rfl (by omega)) rfl (.an rfl ?_))))))
    exact .rk ((i + 1, false, .slice a10_9 (acc ++ [l[i]]).length c10_9, (acc ++ [l[i]]))) (⟨by dsimp only; omega, by dsimp only; exact hLay.low hi2 (Decidable.byContradiction h30), ⟨_, _, rfl⟩, by dsimp only; simp; omega⟩) (by dsimp only; omega) ⟨rfl, rfl, rfl, rfl, rfl, trivial⟩
   refine .skip (.blk_n (.then_n (.region (.m rfl (.q (.add rfl rfl (by omega)) rfl (.an rfl ?_))))))
   exact .rk ((i + 1, false, .slice au acc.length cu, acc)) (⟨by dsimp only; omega, by dsimp only; exact absurd (by rw [h45]; exact linB.irr z.1) h30, ⟨_, _, rfl⟩, by dsimp only; simp; omega⟩) (by dsimp only; omega) ⟨rfl, rfl, rfl, rfl, rfl, trivial⟩
  have hbt : b = true := by simpa using h6_18
  subst hbt
  have hal : acc.length ≤ i + 1 := hal
  refine D.kB (t := 17) rfl h6_18 (.gz rfl (.gz rfl (.gz rfl (.gz rfl (.gz rfl (.gz rfl (.gz rfl (.gz rfl (.gz rfl (.gz rfl (.gz rfl (.kv rfl (.pickF rfl rfl) (.pf (.condF rfl (.sk (.seq (.draw [] [[0, 1, 2, 3, 4, 5, 6, 7, 8, 9, 10]] mixed (by kernel_rfl) (.g0 (.mv rfl rfl (.nf rfl rfl rfl fo_110_0 (.kv rfl (.ld rfl ag_107) (.mv rfl rfl (.kv rfl (.indexAddr rfl rfl el_107 (by omega)) (.kv rfl (.fieldAddr rfl fo_112_0) (.kv rfl (.loadRd (sz := 12) (j := i * 12 + 0) (p := rnR _ l) rfl ag_9 (by repeat' constructor) (fun h hp => slR_rd hp) (by omega) ((rn_cell (l := l) (i := i) (k := 0) (by omega) (by decide)).trans rfl)) (.kv rfl (.fieldAddr rfl fo_112_0) (.kv rfl (.ld rfl ag_9) (.kv rfl (.strne rfl rfl) ?_))))))))))))))))))))))))))))
  refine D.pf (.condN rfl (fun h45 => ?_) (fun h45 => ?_))
  ·refine .aclShape (l := l) (i := i) hi2 (by repeat' constructor) fun hcl => (.region (.m rfl (.m rfl (.nf rfl fo_110_0 (.u (.ld rfl ag_107) (.m rfl (.q (.indexAddr rfl rfl el_107 (by omega)) rfl (.q (.loadRdA (sz := 12) (j := i * 12) (k := 12) (p := rnR _ l) (vs := rnC l[i]) rfl ag_112 (by repeat' constructor) (fun h hp => slR_rd hp) (by omega) (by omega) (by omega) (flatMap_at (f := rnC) (sz := 12) (fun _ _ => rfl) (by omega))) rfl (.oq (.buildSlice (vs := [_]) el_107 ze_112 rfl rfl rfl rfl (by first | (simp [Value.cells]; done) | (intro v hv; simp only [List.mem_cons, List.not_mem_nil, or_false] at hv; (repeat (first | (subst hv; rfl) | (rcases hv with hv | hv; (subst hv; rfl)))))) (by decide)) ?_)))))))))
   rintro v L' ⟨b10_8, rfl, rfl⟩
   refine .oq (.append1 rfl rfl rfl el_107 ze_112 rfl rfl ?c117 ?c118 (Nat.le_refl _) ?c119 (by decide)) ?_
   case c117 => first | exact rn_cells hcl | (simp only [List.map_cons, List.map_nil, List.flatten_cons, List.flatten_nil, List.append_nil]; exact rn_cells hcl)
   case c118 => rfl
   case c119 => first | omega | (simp; omega)
   rintro v L' ⟨⟨a10_9, c10_9, rfl⟩, rfl⟩
   refine .a rfl (.nil ?_)
   rw [show acc.length + 1 = (acc ++ [l[i]]).length by simp]
   refine .slCast (T := 112) (sz := 12) (m' := (acc ++ [l[i]]).length) (xs' := (acc ++ [l[i]]).flatMap rnC) (by repeat' constructor) rfl (by simp; rfl) (.blk_n (.then_n (.region (.m rfl (.q (.add rfl rfl (by omega)) rfl (.an rfl ?_))))))
   exact .rk ((i + 1, true, .slice a10_9 (acc ++ [l[i]]).length c10_9, (acc ++ [l[i]]))) (⟨by dsimp only; omega, by dsimp only; exact hLay.more hi2, ⟨_, _, rfl⟩, by dsimp only; simp; omega⟩) (by dsimp only; omega) ⟨rfl, rfl, rfl, rfl, rfl, trivial⟩
  refine .skip (.blk_n (.then_n (.region (.m rfl (.q (.add rfl rfl (by omega)) rfl (.an rfl ?_))))))
  exact .rk ((i + 1, true, .slice au acc.length cu, acc)) (⟨by dsimp only; omega, by dsimp only; exact absurd h45 (hLay.not hsrt hi2), ⟨_, _, rfl⟩, by dsimp only; simp; omega⟩) (by dsimp only; omega) ⟨rfl, rfl, rfl, rfl, rfl, trivial⟩
 have hii : i = l.length := by omega
 rw [hii] at hLay
 have hlast := hLay.last
 refine .exit (.then_e (.then_e (.blk_e (.then_n (.seq (.sm rfl (.u (.not rfl) (.nt (.condB rfl (fun h57 => ?_) (fun h57 => ?_))))))))))
 ·refine .region (.m rfl (.q (.loadAs (vs := rnC z) rfl ag_112 (by repeat' constructor) (by simp [rnC]) rfl) rfl (.oq (.buildSlice (vs := [_]) el_107 ze_112 rfl rfl rfl rfl (by first | (simp [Value.cells]; done) | (intro v hv; simp only [List.mem_cons, List.not_mem_nil, or_false] at hv; (repeat (first | (subst hv; rfl) | (rcases hv with hv | hv; (subst hv; rfl)))))) (by decide)) ?_)))
  rintro v L' ⟨b12_2, rfl, rfl⟩
  refine .oq (.append1 rfl rfl rfl el_107 ze_112 rfl rfl ?c132 ?c133 (Nat.le_refl _) ?c134 (by decide)) ?_
  case c132 => first | exact rn_cells hzc | (simp only [List.map_cons, List.map_nil, List.flatten_cons, List.flatten_nil, List.append_nil]; exact rn_cells hzc)
  case c133 => rfl
  case c134 => have := Bool.toNat_le b; omega
  rintro v L' ⟨⟨a12_3, c12_3, rfl⟩, rfl⟩
  refine .a rfl (.nil ?_)
  rw [show acc.length + 1 = (acc ++ [z]).length by rw [List.length_append]; rfl]
  refine .slCast (T := 112) (sz := 12) (m' := (acc ++ [z]).length) (xs' := (acc ++ [z]).flatMap rnC) (by repeat' constructor) rfl (by simp; rfl) (.then_n (.region (.m rfl (.m rfl (.nf rfl fo_110_0 (.st rfl rfl rfl sz_107 ?_))))))
  refine .nil (.done_n (.bigSset hsrt z.1 z.2 (p := inA z) rfl (by repeat' constructor) ?_))
  have hb : b = false := by simpa using h57
  subst hb
  have hfin : (acc ++ [z]) = sset l z.1 z.2 := hlast
  refine .rtFold (x := x) (τ := ({ τ with nodes := sset τ.nodes z.1 z.2.2 } : Tr)) (l := (sset l z.1 z.2)) (by rw [nds_sset, hl]) (by repeat' constructor) rfl (by rw [hfin]) (by rw [hfin]) rfl rfl ?_
  exact .vv
 refine .sk (.region (.m rfl (.m rfl (.nf rfl fo_110_0 (.st rfl rfl rfl sz_107 ?_)))))
 refine .nil (.done_n (.bigSset hsrt z.1 z.2 (p := inA z) rfl (by repeat' constructor) ?_))
 have hb : b = true := by simpa using h57
 subst hb
 have hfin : acc = sset l z.1 z.2 := hlast
 refine .rtFold (x := x) (τ := ({ τ with nodes := sset τ.nodes z.1 z.2.2 } : Tr)) (l := (sset l z.1 z.2)) (by rw [nds_sset, hl]) (by repeat' constructor) rfl (by rw [hfin]) (by rw [hfin]) rfl rfl ?_
 exact .vv
theorem rkid7_spec (x : Nat) (τ : Tr) (p : Bs) (num zx : Int) (N : Nat) (ho : τ.Ok N) (hN : N ≤ 1073741824) : Fn Tryz.prog 185 #[vptr x, vstr p, vint num, vint zx] [refR x τ] fun v L => v = .tuple #[] ∧ L = [refR x (kidT τ p num zx)] := by
 refine Fn.intro Tryz.func185 rfl rfl fun F W => ?_
 have hfew := ho.few
 have hnd := ho.sorted.nodup linB
 refine .sm rfl (.m rfl (.cv Tryz.func95 [_, _] (rplace_spec x τ p (by omega)) ?_))
 refine .an rfl (.sm rfl (.ui rfl rfl rfl (.nt (.condD rfl (fun h13 => ?_) (fun h13 => ?_)))))
 ·obtain ⟨k, hk, hpk, hkp⟩ := place_get (l := τ.nodes) h13
  have hpz : placeZ τ p = k := hpk
  rw [hpz]
  refine .rtOpen (x := x) (τ := τ) (by repeat' constructor) fun an cn as1 cs l hl => ?_
  have hll := nds_len hl
  have hkl : k < l.length := by omega
  have hlk : l[k].1 = p := by have := nds_get hl hkl; rw [← hkp]; simp only [this]
  refine .slShape (T := 112) (sz := 12) (v := .slice an l.length cn) (xs := l.flatMap rnC) (by repeat' constructor) (by omega) fun bn bn' e0 mbn _ => ?_
  simp only [Value.slice.injEq, true_and] at e0
  obtain ⟨rfl, rfl⟩ := e0
  refine .sm rfl (.nf rfl fo_110_0 (.u (.ld rfl ag_107) (.m rfl (.m rfl (.q (.indexAddr rfl rfl el_107 (by omega)) rfl (.u (.fieldAddr rfl fo_112_3) (.u (.fieldAddr rfl fo_37_4) (.oq (.storeRd (sz := 12) (j := k * 12 + 7) rfl rfl ?hv14 sz_3 ?ho15 ?hi16) ?_))))))))
  case hv14 => first | rfl | assumption
  case ho15 => omega
  case hi16 => omega
  rintro v L' rfl
  refine .nil (.slCast (T := 112) (sz := 12) (m' := l.length) (xs' := (l.set k (l[k].1, (l[k].2.1, { l[k].2.2 with st := { l[k].2.2.st with cver := num } }))).flatMap rnC) (by repeat' constructor) rfl (flatMap_set (f := rnC) (sz := 12) (fun _ => rfl) (by simpa using hkl) (by decide) (by rfl)) (.then_n (.region (.m rfl (.nf rfl fo_110_0 (.u (.ld rfl ag_107) (.m rfl (.m rfl (.q (.indexAddr rfl rfl el_107 (by omega)) rfl (.u (.fieldAddr rfl fo_112_3) (.u (.fieldAddr rfl fo_37_2) (.oq (.storeRd (sz := 12) (j := k * 12 + 5) rfl rfl ?hv26 sz_3 ?ho27 ?hi28) ?_))))))))))))
  case hv26 => first | rfl | assumption
  case ho27 => omega
  case hi28 => omega
  rintro v L' rfl
  refine .nil (.slCast (T := 112) (sz := 12) (m' := l.length) (xs' := ((l.set k (l[k].1, (l[k].2.1, { l[k].2.2 with st := { l[k].2.2.st with cver := num } }))).set k (l[k].1, (l[k].2.1, kidN num zx l[k].2.2))).flatMap rnC) (by repeat' constructor) rfl (flatMap_set (f := rnC) (sz := 12) (fun _ => rfl) (by simpa using hkl) (by decide) (by rw [List.getElem_set_self]; rfl)) ?_)
  rw [List.set_set]
  refine .done_n (.bigSet (y := (l[k].1, (l[k].2.1, kidN num zx l[k].2.2))) hkl (by rfl) (by repeat' constructor) (.rtFold (x := x) (τ := (kidT τ p num zx)) (l := (l.set k (l[k].1, (l[k].2.1, kidN num zx l[k].2.2)))) (nds_mod hl hnd hkl hlk (kidN num zx) rfl) (by repeat' constructor) rfl (by simp) rfl rfl rfl ?_))
  exact .vv
 refine .skip (.done_n (.rfCast (x := x) (τ' := kidT τ p num zx) (by repeat' constructor) (by unfold kidT; rw [amod_none (by have h0 : ¬ 0 ≤ placeTo τ.nodes p := h13; rw [place_iff] at h0; simpa using h0)]) ?_))
 exact .vv
theorem rlay2_spec (x : Nat) (τ : Tr) (z : Rno) (hzc : isCell z.2.1 = true) (N : Nat) (ho : τ.Ok N) (hN : N ≤ 1073741824) {T : TypeId} : Fn Tryz.prog 184 #[vptr x, .agg (rnC z).toArray] [refR x τ, slR T 2 z.2.1 z.2.2.acl.length (z.2.2.acl.flatMap acC)] fun v L => v = .tuple #[] ∧ L = [refR x { τ with nodes := sset τ.nodes z.1 z.2.2 }] :=
 Fn.pre2 (rlay_spec x τ z hzc N ho hN) fun F w hs => by
  have h1 := sep_imp (q := inA z) (fun h hp => slR_rd hp) (sep_swap hs)
  exact sep_swap h1
theorem rcreate_spec (x : Nat) (τ : Tr) (y : Pt) (zx : Int) (p : HP) (hy : PtA p y) (N : Nat) (ho : τ.Ok N) (hN : N + 1 ≤ 1073741824) : Fn Tryz.prog 128 #[vptr x, .agg (ptC y).toArray, vint zx] [refR x τ, p] fun v L => ∃ a c, v = .slice a (createZ τ y zx).2.length c ∧ L = [refR x (createZ τ y zx).1, p, slR 184 3 v (createZ τ y zx).2.length ((createZ τ y zx).2.flatMap evC)] := by
 refine Fn.intro Tryz.func128 rfl rfl fun F W => ?_
 have hfew := hy.few
 have hpl := hy.plen
 have hpar := parent_len y.path
 have hof := ho.few
 refine .sr (.oq (.box rfl) ?_)
 rintro v L' ⟨bx, rfl, rfl⟩
 refine .a rfl (.nil (.ptCast (b := bx) (l' := ptC y) (by repeat' constructor) rfl ?_))
 refine .then_n (.sr (.u (.fieldAddr rfl fo_43_1) (.u (.ld rfl ag_9) (.cv Tryz.func110 [_] (rparent_spec y.path (by omega)) ?_))))
 refine .an rfl (.sr (.u (.fieldAddr rfl fo_43_1) (.u (.ld rfl ag_9) (.cv Tryz.func127 [_] (rable_spec y.path (by omega)) ?_))))
 refine .an rfl (.seq (.sm rfl (.u (.not rfl) (.m rfl (.ndec (t := 18) rfl (fun h3_18 => ?_) (fun h3_18 => ?_))))))
 ·refine .kNT (t := 17) rfl h3_18 (.gk (.gk (.gk (.gk (.u (.pickT rfl rfl) (.nt (.condT rfl (.sr (.an rfl (.rt (.add (slR_nil 184 3) ?_)))))))))))
  have hc : createZ τ y zx = (τ, []) := by unfold createZ; rw [if_neg (fun g => h3_18 g.1)]
  refine .rfCast (x := x) (τ' := (createZ τ y zx).1) (by repeat' constructor) (by rw [hc]) (.slCast (T := 184) (sz := 3) (m' := (createZ τ y zx).2.length) (xs' := (createZ τ y zx).2.flatMap evC) (by repeat' constructor) (by (rw [hc]; try rfl)) (by (rw [hc]; try rfl)) ?_)
  exact .dn rfl rfl ⟨_, _, by (rw [hc]; try rfl), rfl⟩
 refine .kNF (t := 17) rfl h3_18 (.grun (t := 18) rfl rfl rfl (.m rfl (.grun (t := 18) rfl rfl rfl (.m rfl (.grun (t := 18) rfl rfl rfl (.cv Tryz.func95 [_, _] (rplace_spec x τ (parentZ y.path) (by omega)) ?_))))))
 refine .grun (t := 18) rfl rfl rfl (.ui rfl rfl rfl (.u (.pickF rfl rfl) (.nt (.condD rfl (fun h23 => ?_) (fun h23 => ?_)))))
 ·refine .sr (.an rfl (.rt (.add (slR_nil 184 3) ?_)))
  have hc : createZ τ y zx = (τ, []) := by unfold createZ; rw [if_neg (fun g => absurd (place_iff.2 g.2) (by have h0 : placeTo τ.nodes (parentZ y.path) < 0 := h23; omega))]
  refine .rfCast (x := x) (τ' := (createZ τ y zx).1) (by repeat' constructor) (by rw [hc]) (.slCast (T := 184) (sz := 3) (m' := (createZ τ y zx).2.length) (xs' := (createZ τ y zx).2.flatMap evC) (by repeat' constructor) (by (rw [hc]; try rfl)) (by (rw [hc]; try rfl)) ?_)
  exact .dn rfl rfl ⟨_, _, by (rw [hc]; try rfl), rfl⟩
 have hup : thereT τ (parentZ y.path) := place_iff.1 (by have h0 : ¬ placeTo τ.nodes (parentZ y.path) < 0 := h23; omega)
 have hab : ableZ y.path := h3_18
 refine .sk (.sr (.an rfl (.seq (.sm rfl (.u (.fieldAddr rfl fo_43_1) (.u (.ld rfl ag_9) (.cv Tryz.func95 [_, _] (rplace_spec x τ y.path (by omega)) ?_)))))))
 refine .ui rfl rfl rfl (.nt (.condD rfl (fun h28 => ?_) (fun h28 => ?_)))
 ·refine .region (.an rfl (.seq (.draw [7, 15] [[0, 1, 2, 3, 4, 5, 6, 8, 9, 10, 11, 12, 13, 7, 14], [15]] mixed (by kernel_rfl) (.go [ptc bx _ _] (by repeat' constructor) (.k rfl (.move rfl) (.k rfl (.fieldAddr rfl fo_43_1) (.k rfl (.ld rfl ag_9) (.k rfl (.fieldAddr rfl fo_43_2) (.k rfl (.ld rfl ag_9) (.kv rfl (.fieldAddr rfl fo_43_3) (.kv rfl (.ld rfl ag_24) (.k rfl (.move rfl) (.k rfl (.move rfl) (.k rfl (.move rfl) (.k rfl (.fieldAddr rfl fo_43_4) (.k rfl (.ld rfl ag_3) (.k rfl (.build (us := [(0, _), (1, _), (2, _), (6, _)]) fl_37 ze_37 rfl rfl (by simp [isCell])) (.hh rfl (.c Tryz.func126 [_] (rrows_spec y.aclV y.acl p hy.acl hfew)) ?_))))))))))))))))))
  rintro v L' ⟨⟨a8, c8, rfl⟩, rfl⟩
  refine D.kv rfl (.buildN (pl := [(0, 1), (1, 1), (2, 1), (3, 9)]) (us := [(0, vstr y.path), (1, vstr y.data), (2, .slice a8 y.acl.length c8), (3, .agg ([vint zx, vint zx, vint zx, vint 0, vint 0, vint 0, vint y.own, vint 0, vint 0] : List Value).toArray)]) (cells := [vstr y.path, vstr y.data, .slice a8 y.acl.length c8] ++ [vint zx, vint zx, vint zx, vint 0, vint 0, vint 0, vint y.own, vint 0, vint 0]) Tryz.underlying112 (by kernel_rfl) ze_112 rfl (fill_rnode _ _ _ _ _ _ _ _ _ _ _ _ _ _)) (.ph (.g0 (.hh rfl (.c Tryz.func184 [_, _] (rlay2_spec x τ ((y.path, (.slice a8 y.acl.length c8, newN y zx)) : Rno) rfl N ho (by omega))) ?_)))
  rintro v L' ⟨rfl, rfl⟩
  refine D.ph (.fin (.rfCast (x := x) (τ' := ({ τ with nodes := sset τ.nodes y.path (newN y zx) } : Tr)) (by repeat' constructor) (rfl) ?_))
  have hoL := ho.lay (.inr hab) (newN y zx) hfew
  refine .then_n (.sm rfl (.m rfl (.u (.fieldAddr rfl fo_43_5) (.u (.ld rfl ag_3) (.m rfl (.cv Tryz.func185 [_, _, _, _] (rkid7_spec x ({ τ with nodes := sset τ.nodes y.path (newN y zx) } : Tr) (parentZ y.path) y.num zx (N + 1) hoL (by omega)) ?_))))))
  refine .nt (.sm rfl (.u (.fieldAddr rfl fo_43_1) (.u (.ld rfl ag_9) (.m rfl (.q (.build (us := [(0, _), (1, _), (2, _)]) fl_184 ze_184 rfl rfl (by simp [isCell])) rfl (.m rfl (.m rfl (.q (.build (us := [(0, _), (1, _), (2, _)]) fl_184 ze_184 rfl rfl (by simp [isCell])) rfl (.oq (.buildSlice (vs := [_, _]) el_71 ze_184 rfl rfl rfl rfl (by first | (simp [Value.cells]; done) | (intro v hv; simp only [List.mem_cons, List.not_mem_nil, or_false] at hv; (repeat (first | (subst hv; rfl) | (rcases hv with hv | hv; (subst hv; rfl)))))) (by decide)) ?_)))))))))
  rintro v L' ⟨bo, rfl, rfl⟩
  refine .a rfl (.nil (.slMakeN 3 2 (b := bo) (xs := ([(3, (y.path, zx)), (4, (parentZ y.path, zx))] : List Ev).flatMap evC) (by repeat' constructor) rfl rfl (.then_n (.ret ?_))))
  have hc : createZ τ y zx = (kidT ({ τ with nodes := sset τ.nodes y.path (newN y zx) } : Tr) (parentZ y.path) y.num zx, [(3, (y.path, zx)), (4, (parentZ y.path, zx))]) := by unfold createZ; rw [if_pos ⟨hab, hup⟩, if_pos (show thereT τ y.path from place_iff.1 h28)]
  refine .rfCast (x := x) (τ' := (createZ τ y zx).1) (by repeat' constructor) (by rw [hc]) (.slCast (T := 184) (sz := 3) (m' := (createZ τ y zx).2.length) (xs' := (createZ τ y zx).2.flatMap evC) (by repeat' constructor) (by (rw [hc]; try rfl)) (by (rw [hc]; try rfl)) ?_)
  exact .dn rfl rfl ⟨_, _, by (rw [hc]; try rfl), rfl⟩
 refine .sk (.seq (.draw [7, 15] [[0, 1, 2, 3, 4, 5, 6, 8, 9, 10, 11, 12, 13, 7, 14], [15]] mixed (by kernel_rfl) (.go [ptc bx _ _] (by repeat' constructor) (.k rfl (.move rfl) (.k rfl (.fieldAddr rfl fo_43_1) (.k rfl (.ld rfl ag_9) (.k rfl (.fieldAddr rfl fo_43_2) (.k rfl (.ld rfl ag_9) (.kv rfl (.fieldAddr rfl fo_43_3) (.kv rfl (.ld rfl ag_24) (.k rfl (.move rfl) (.k rfl (.move rfl) (.k rfl (.move rfl) (.k rfl (.fieldAddr rfl fo_43_4) (.k rfl (.ld rfl ag_3) (.k rfl (.build (us := [(0, _), (1, _), (2, _), (6, _)]) fl_37 ze_37 rfl rfl (by simp [isCell])) (.hh rfl (.c Tryz.func126 [_] (rrows_spec y.aclV y.acl p hy.acl hfew)) ?_)))))))))))))))))
 rintro v L' ⟨⟨a8, c8, rfl⟩, rfl⟩
 refine D.kv rfl (.buildN (pl := [(0, 1), (1, 1), (2, 1), (3, 9)]) (us := [(0, vstr y.path), (1, vstr y.data), (2, .slice a8 y.acl.length c8), (3, .agg ([vint zx, vint zx, vint zx, vint 0, vint 0, vint 0, vint y.own, vint 0, vint 0] : List Value).toArray)]) (cells := [vstr y.path, vstr y.data, .slice a8 y.acl.length c8] ++ [vint zx, vint zx, vint zx, vint 0, vint 0, vint 0, vint y.own, vint 0, vint 0]) Tryz.underlying112 (by kernel_rfl) ze_112 rfl (fill_rnode _ _ _ _ _ _ _ _ _ _ _ _ _ _)) (.ph (.g0 (.hh rfl (.c Tryz.func184 [_, _] (rlay2_spec x τ ((y.path, (.slice a8 y.acl.length c8, newN y zx)) : Rno) rfl N ho (by omega))) ?_)))
 rintro v L' ⟨rfl, rfl⟩
 refine D.ph (.fin (.rfCast (x := x) (τ' := ({ τ with nodes := sset τ.nodes y.path (newN y zx) } : Tr)) (by repeat' constructor) (rfl) ?_))
 have hoL := ho.lay (.inr hab) (newN y zx) hfew
 refine .then_n (.sm rfl (.m rfl (.u (.fieldAddr rfl fo_43_5) (.u (.ld rfl ag_3) (.m rfl (.cv Tryz.func185 [_, _, _, _] (rkid7_spec x ({ τ with nodes := sset τ.nodes y.path (newN y zx) } : Tr) (parentZ y.path) y.num zx (N + 1) hoL (by omega)) ?_))))))
 refine .nt (.sm rfl (.u (.fieldAddr rfl fo_43_1) (.u (.ld rfl ag_9) (.m rfl (.q (.build (us := [(0, _), (1, _), (2, _)]) fl_184 ze_184 rfl rfl (by simp [isCell])) rfl (.m rfl (.m rfl (.q (.build (us := [(0, _), (1, _), (2, _)]) fl_184 ze_184 rfl rfl (by simp [isCell])) rfl (.oq (.buildSlice (vs := [_, _]) el_71 ze_184 rfl rfl rfl rfl (by first | (simp [Value.cells]; done) | (intro v hv; simp only [List.mem_cons, List.not_mem_nil, or_false] at hv; (repeat (first | (subst hv; rfl) | (rcases hv with hv | hv; (subst hv; rfl)))))) (by decide)) ?_)))))))))
 rintro v L' ⟨bo, rfl, rfl⟩
 refine .a rfl (.nil (.slMakeN 3 2 (b := bo) (xs := ([(1, (y.path, zx)), (4, (parentZ y.path, zx))] : List Ev).flatMap evC) (by repeat' constructor) rfl rfl (.then_n (.ret ?_))))
 have hc : createZ τ y zx = (kidT ({ τ with nodes := sset τ.nodes y.path (newN y zx) } : Tr) (parentZ y.path) y.num zx, [(1, (y.path, zx)), (4, (parentZ y.path, zx))]) := by unfold createZ; rw [if_pos ⟨hab, hup⟩, if_neg (show ¬ thereT τ y.path from fun g => h28 (place_iff.2 g))]
 refine .rfCast (x := x) (τ' := (createZ τ y zx).1) (by repeat' constructor) (by rw [hc]) (.slCast (T := 184) (sz := 3) (m' := (createZ τ y zx).2.length) (xs' := (createZ τ y zx).2.flatMap evC) (by repeat' constructor) (by (rw [hc]; try rfl)) (by (rw [hc]; try rfl)) ?_)
 exact .dn rfl rfl ⟨_, _, by (rw [hc]; try rfl), rfl⟩
theorem rerase_spec (x : Nat) (τ : Tr) (y : Pt) (zx : Int) (p : HP) (hy : PtA p y) (N : Nat) (ho : τ.Ok N) (hN : N + 1 ≤ 1073741824) : Fn Tryz.prog 129 #[vptr x, .agg (ptC y).toArray, vint zx] [refR x τ] fun v L => ∃ a c, v = .slice a (eraseZ τ y zx).2.length c ∧ L = [refR x (eraseZ τ y zx).1, slR 184 3 v (eraseZ τ y zx).2.length ((eraseZ τ y zx).2.flatMap evC)] := by
 refine Fn.intro Tryz.func129 rfl rfl fun F W => ?_
 have hfew := hy.few
 have hpl := hy.plen
 have hpar := parent_len y.path
 have hof := ho.few
 refine .sr (.oq (.box rfl) ?_)
 rintro v L' ⟨bx, rfl, rfl⟩
 refine .a rfl (.nil (.ptCast (b := bx) (l' := ptC y) (by repeat' constructor) rfl ?_))
 refine .then_n (.sr (.u (.fieldAddr rfl fo_43_1) (.u (.ld rfl ag_9) (.cv Tryz.func127 [_] (rable_spec y.path (by omega)) ?_))))
 refine .an rfl (.seq (.sm rfl (.u (.not rfl) (.nt (.condN rfl (fun h18 => ?_) (fun h18 => ?_))))))
 ·refine .sr (.an rfl (.rt (.add (slR_nil 184 3) ?_)))
  have hc : eraseZ τ y zx = (τ, []) := by unfold eraseZ; rw [if_neg h18]
  refine .rfCast (x := x) (τ' := (eraseZ τ y zx).1) (by repeat' constructor) (by rw [hc]) (.slCast (T := 184) (sz := 3) (m' := (eraseZ τ y zx).2.length) (xs' := (eraseZ τ y zx).2.flatMap evC) (by repeat' constructor) (by (rw [hc]; try rfl)) (by (rw [hc]; try rfl)) ?_)
  exact .dn rfl rfl ⟨_, _, by (rw [hc]; try rfl), rfl⟩
 refine .sk (.sr (.u (.fieldAddr rfl fo_43_1) (.u (.ld rfl ag_9) (.cv Tryz.func110 [_] (rparent_spec y.path (by omega)) ?_))))
 refine .an rfl (.sm rfl (.u (.fieldAddr rfl fo_43_1) (.u (.ld rfl ag_9) (.cv Tryz.func95 [_, _] (rplace_spec x τ y.path (by omega)) ?_))))
 refine .ui rfl rfl rfl (.an rfl (.seq (.add (slR_nil 112 12) (.rtOpen (x := x) (τ := τ) (by repeat' constructor) fun an cn as1 cs l hl => ?_))))
 have hll := nds_len hl
 refine .region (.an rfl (.seq (.sr (.an rfl (.block (.loopK (ι := Nat × Value) (fun q E => (11, vint q.1) :: (10, q.2) :: E) (fun q => [rnR q.2 ((l.take q.1).filter fun w => !hitT w.1 y.path)]) (fun q => q.1 ≤ l.length ∧ ∃ a c, q.2 = .slice a ((l.take q.1).filter fun w => !hitT w.1 y.path).length c) (fun q => l.length - q.1) (0, .slice none 0 0) (ts := [0, 2, 4, 6, 8, 9]) (.cons rfl (.cons rfl (.cons rfl (.cons rfl (.cons rfl (.cons rfl (.nil))))))) (⟨Nat.zero_le _, none, 0, rfl⟩) ⟨rfl, rfl, rfl, rfl, rfl, rfl, rfl, rfl, trivial⟩ (by repeat' constructor) ?_))))))
 rintro ⟨i, u⟩ ⟨hi, au, cu, hu⟩
 dsimp only
 dsimp only at hi hu
 subst hu
 have hfl := List.length_filter_le (fun w : Rno => !hitT w.1 y.path) (l.take i)
 rw [List.length_take] at hfl
 refine .seq (.sm rfl (.m rfl (.nf rfl fo_110_0 (.u (.ld rfl ag_107) (.q (.slen rfl Tryz.underlying107 rfl) rfl (.ui rfl rfl rfl (.nt (.condD rfl (fun h33 => ?_) (fun h33 => ?_)))))))))
 ·have hi2 : i < l.length := by omega
  have hpi : l[i].1.length ≤ 60 := by have := nds_get hl hi2; have h2 := able_len (ho.able _ (List.getElem_mem (l := τ.nodes) (n := i) (by omega))); rw [this] at h2; exact h2
  refine .slShape (T := 112) (sz := 12) (v := .slice an l.length cn) (xs := l.flatMap rnC) (by repeat' constructor) (by omega) fun bn bn' e0 mbn _ => ?_
  simp only [Value.slice.injEq, true_and] at e0
  obtain ⟨rfl, rfl⟩ := e0
  refine .sk (.seq (.block (.seq (.draw [10] [[0, 1, 2, 3, 4, 5, 6, 7, 8, 9, 10], [11]] mixed (by kernel_rfl) (.g0 (.mv rfl rfl (.nf rfl rfl rfl fo_110_0 (.kv rfl (.ld rfl ag_107) (.mv rfl rfl (.kv rfl (.indexAddr rfl rfl el_107 (by omega)) (.kv rfl (.fieldAddr rfl fo_112_0) (.kv rfl (.loadRd (sz := 12) (j := i * 12 + 0) (p := rnR _ l) rfl ag_9 (by repeat' constructor) (fun h hp => slR_rd hp) (by omega) ((rn_cell (l := l) (i := i) (k := 0) (by omega) (by decide)).trans rfl)) (.kv rfl (.fieldAddr rfl fo_43_1) (.kv rfl (.ld rfl ag_9) (.hh rfl (.c Tryz.func186 [_, _] (runder_spec l[i].1 y.path (by omega))) ?_)))))))))))))))
  rintro v L' ⟨rfl, rfl⟩
  refine D.ph (.g0 (.kv rfl (.assign rfl) (.pf (.seq (.draw [] [[0, 1, 2, 3, 4, 5, 6, 7, 8, 9, 10, 11, 12, 13, 14]] mixed (by kernel_rfl) (.g0 (.mv rfl rfl (.nf rfl rfl rfl fo_110_0 (.kv rfl (.ld rfl ag_107) (.mv rfl rfl (.kv rfl (.indexAddr rfl rfl el_107 (by omega)) (.kv rfl (.fieldAddr rfl fo_112_0) (.kv rfl (.loadRd (sz := 12) (j := i * 12 + 0) (p := rnR _ l) rfl ag_9 (by repeat' constructor) (fun h hp => slR_rd hp) (by omega) ((rn_cell (l := l) (i := i) (k := 0) (by omega) (by decide)).trans rfl)) (.kv rfl (.fieldAddr rfl fo_43_1) (.kv rfl (.ld rfl ag_9) (.kv rfl (.strne rfl rfl) (.mv rfl rfl (.ndec (t := 58) rfl (fun h11_58 => ?_) (fun h11_58 => ?_)))))))))))))))))))
  ·refine D.kNT (t := 57) rfl h11_58 (.gv rfl (.move rfl) (.gv rfl (.not rfl) (.kv rfl (.pickT rfl rfl) (.pf (.condN rfl (fun h61 => ?_) (fun h61 => ?_))))))
   ·have hhit : hitT l[i].1 y.path = false := by unfold hitT; rw [decide_eq_false h11_58, decide_eq_false h61]; rfl
    refine .aclShape (l := l) (i := i) hi2 (by repeat' constructor) fun hcl => (.region (.m rfl (.m rfl (.nf rfl fo_110_0 (.u (.ld rfl ag_107) (.m rfl (.q (.indexAddr rfl rfl el_107 (by omega)) rfl (.q (.loadRdA (sz := 12) (j := i * 12) (k := 12) (p := rnR _ l) (vs := rnC l[i]) rfl ag_112 (by repeat' constructor) (fun h hp => slR_rd hp) (by omega) (by omega) (by omega) (flatMap_at (f := rnC) (sz := 12) (fun _ _ => rfl) (by omega))) rfl (.oq (.buildSlice (vs := [_]) el_107 ze_112 rfl rfl rfl rfl (by first | (simp [Value.cells]; done) | (intro v hv; simp only [List.mem_cons, List.not_mem_nil, or_false] at hv; (repeat (first | (subst hv; rfl) | (rcases hv with hv | hv; (subst hv; rfl)))))) (by decide)) ?_)))))))))
    rintro v L' ⟨b12_8, rfl, rfl⟩
    refine .oq (.append1 rfl rfl rfl el_107 ze_112 rfl rfl ?c63 ?c64 (Nat.le_refl _) ?c65 (by decide)) ?_
    case c63 => first | exact rn_cells hcl | (simp only [List.map_cons, List.map_nil, List.flatten_cons, List.flatten_nil, List.append_nil]; exact rn_cells hcl)
    case c64 => rfl
    case c65 => first | omega | (simp; omega)
    rintro v L' ⟨⟨a12_9, c12_9, rfl⟩, rfl⟩
    refine .a rfl (.nil (.blk_n (.then_n (.region (.m rfl (.q (.add rfl rfl (by omega)) rfl (.an rfl ?_)))))))
    have hst : ((l.take (i + 1)).filter fun w => !hitT w.1 y.path) = ((l.take i).filter fun w => !hitT w.1 y.path) ++ [l[i]] := by rw [List.take_succ_eq_append_getElem hi2, List.filter_append]; simp [hhit]
    rw [show ((l.take i).filter fun w => !hitT w.1 y.path).length + 1 = ((l.take (i + 1)).filter fun w => !hitT w.1 y.path).length by rw [hst, List.length_append]; rfl]
    refine .slCast (T := 112) (sz := 12) (m' := ((l.take (i + 1)).filter fun w => !hitT w.1 y.path).length) (xs' := ((l.take (i + 1)).filter fun w => !hitT w.1 y.path).flatMap rnC) (by repeat' constructor) rfl (by rw [hst, List.flatMap_append]; simp; rfl) ?_
    exact .rk ((i + 1, .slice a12_9 ((l.take (i + 1)).filter fun w => !hitT w.1 y.path).length c12_9)) (⟨by dsimp only; omega, _, _, rfl⟩) (by dsimp only; omega) ⟨rfl, rfl, rfl, rfl, rfl, rfl, rfl, rfl, trivial⟩
   refine .skip (.blk_n (.then_n (.region (.m rfl (.q (.add rfl rfl (by omega)) rfl (.an rfl ?_))))))
   have hhit : hitT l[i].1 y.path = true := by unfold hitT; rw [decide_eq_true (p := underZ l[i].1 y.path) (by simpa using h61), Bool.or_true]
   have hst : ((l.take (i + 1)).filter fun w => !hitT w.1 y.path) = ((l.take i).filter fun w => !hitT w.1 y.path) := by rw [List.take_succ_eq_append_getElem hi2, List.filter_append]; simp [hhit]
   rw [← hst]
   exact .rk ((i + 1, .slice au ((l.take (i + 1)).filter fun w => !hitT w.1 y.path).length cu)) (⟨by dsimp only; omega, _, _, rfl⟩) (by dsimp only; omega) ⟨rfl, rfl, rfl, rfl, rfl, rfl, rfl, rfl, trivial⟩
  refine D.kNF (t := 57) rfl h11_58 (.gz rfl (.gz rfl (.kv rfl (.pickF rfl rfl) (.pf (.condF rfl (.skip (.blk_n (.then_n (.region (.m rfl (.q (.add rfl rfl (by omega)) rfl (.an rfl ?_))))))))))))
  have hhit : hitT l[i].1 y.path = true := by unfold hitT; rw [decide_eq_true h11_58]; rfl
  have hst : ((l.take (i + 1)).filter fun w => !hitT w.1 y.path) = ((l.take i).filter fun w => !hitT w.1 y.path) := by rw [List.take_succ_eq_append_getElem hi2, List.filter_append]; simp [hhit]
  rw [← hst]
  exact .rk ((i + 1, .slice au ((l.take (i + 1)).filter fun w => !hitT w.1 y.path).length cu)) (⟨by dsimp only; omega, _, _, rfl⟩) (by dsimp only; omega) ⟨rfl, rfl, rfl, rfl, rfl, rfl, rfl, rfl, trivial⟩
 have hii : i = l.length := by omega
 subst hii
 rw [List.take_length]
 refine .exit (.then_e (.then_e (.blk_e (.then_n (.sm rfl (.m rfl (.nf rfl fo_110_0 (.st rfl rfl rfl sz_107 ?_))))))))
 refine .nil (.bigSub (l := (l.filter fun w => !hitT w.1 y.path)) List.filter_sublist (by repeat' constructor) (.rtFold (x := x) (τ := (cutT τ y.path)) (l := (l.filter fun w => !hitT w.1 y.path)) (by rw [nds_filter (fun q => !hitT q y.path), hl]; rfl) (by repeat' constructor) rfl rfl rfl rfl rfl (.then_n (.sm rfl (.m rfl (.u (.fieldAddr rfl fo_43_5) (.u (.ld rfl ag_3) (.m rfl (.oq (.c Tryz.func185 [_, _, _, _] (rkid7_spec x (cutT τ y.path) (parentZ y.path) y.num zx N (ho.cut y.path) (by omega))) ?_)))))))))
 rintro v L' ⟨rfl, rfl⟩; have hoK := (ho.cut y.path).kid (parentZ y.path) y.num zx; have hofk := hoK.few
 refine .nt (.seq (.sm rfl (.u (.not rfl) (.nt (.condN rfl (fun h83 => ?_) (fun h83 => ?_))))))
 ·have hth : ¬ thereT τ y.path := fun g => h83 (place_iff.2 g)
  refine .sr (.an rfl (.rt (.add (slR_nil 184 3) ?_)))
  have hc : eraseZ τ y zx = ((kidT (cutT τ y.path) (parentZ y.path) y.num zx), []) := by unfold eraseZ; rw [if_pos h18, if_neg hth]
  refine .rfCast (x := x) (τ' := (eraseZ τ y zx).1) (by repeat' constructor) (by rw [hc]) (.slCast (T := 184) (sz := 3) (m' := (eraseZ τ y zx).2.length) (xs' := (eraseZ τ y zx).2.flatMap evC) (by repeat' constructor) (by (rw [hc]; try rfl)) (by (rw [hc]; try rfl)) ?_)
  exact .dn rfl rfl ⟨_, _, by (rw [hc]; try rfl), rfl⟩
 have hth : thereT τ y.path := place_iff.1 h83
 refine .sk (.sr (.u (.fieldAddr rfl fo_43_1) (.u (.ld rfl ag_9) (.m rfl (.q (.build (us := [(0, _), (1, _), (2, _)]) fl_184 ze_184 rfl rfl (by simp [isCell])) rfl (.oq (.buildSlice (vs := [_]) el_71 ze_184 rfl rfl rfl rfl (by first | (simp [Value.cells]; done) | (intro v hv; simp only [List.mem_cons, List.not_mem_nil, or_false] at hv; (repeat (first | (subst hv; rfl) | (rcases hv with hv | hv; (subst hv; rfl)))))) (by decide)) ?_))))))
 rintro v L' ⟨bo, rfl, rfl⟩
 refine .a rfl (.nil (.slMakeN 3 1 (b := bo) (xs := ([(2, (y.path, zx))] : List Ev).flatMap evC) (by repeat' constructor) rfl rfl (.then_n (.seq (.sm rfl (.m rfl (.cv Tryz.func95 [_, _] (rplace_spec x (kidT (cutT τ y.path) (parentZ y.path) y.num zx) (parentZ y.path) (by omega)) ?_)))))))
 refine .ui rfl rfl rfl (.nt (.condD rfl (fun h92 => ?_) (fun h92 => ?_)))
 ·refine .region (.m rfl (.m rfl (.m rfl (.q (.build (us := [(0, _), (1, _), (2, _)]) fl_184 ze_184 rfl rfl (by simp [isCell])) rfl (.oq (.buildSlice (vs := [_]) el_71 ze_184 rfl rfl rfl rfl (by first | (simp [Value.cells]; done) | (intro v hv; simp only [List.mem_cons, List.not_mem_nil, or_false] at hv; (repeat (first | (subst hv; rfl) | (rcases hv with hv | hv; (subst hv; rfl)))))) (by decide)) ?_)))))
  rintro v L' ⟨b19_4, rfl, rfl⟩
  refine .oq (.append1 rfl rfl rfl el_71 ze_184 rfl rfl ?c108 ?c109 (Nat.le_refl _) ?c110 (by decide)) ?_
  case c108 => (first | (simp [isCell]; done) | (simp [isCell, setAll, Value.cells]; done))
  case c109 => rfl
  case c110 => omega
  rintro v L' ⟨⟨a19_5, c19_5, rfl⟩, rfl⟩
  refine .an rfl (.sm rfl (.an rfl (.ret ?_)))
  have hc : eraseZ τ y zx = ((kidT (cutT τ y.path) (parentZ y.path) y.num zx), [(2, (y.path, zx)), (4, (parentZ y.path, zx))]) := by unfold eraseZ; rw [if_pos h18, if_pos hth, if_pos (show thereT (cutT τ y.path) (parentZ y.path) from kid_there.1 (place_iff.1 h92))]
  refine .rfCast (x := x) (τ' := (eraseZ τ y zx).1) (by repeat' constructor) (by rw [hc]) (.slCast (T := 184) (sz := 3) (m' := (eraseZ τ y zx).2.length) (xs' := (eraseZ τ y zx).2.flatMap evC) (by repeat' constructor) (by (rw [hc]; try rfl)) (by (rw [hc]; try rfl)) ?_)
  exact .dn rfl rfl ⟨_, _, by (rw [hc]; try rfl), rfl⟩
 refine .sk (.sm rfl (.an rfl (.ret ?_)))
 have hc : eraseZ τ y zx = ((kidT (cutT τ y.path) (parentZ y.path) y.num zx), [(2, (y.path, zx))]) := by unfold eraseZ; rw [if_pos h18, if_pos hth, if_neg (show ¬ thereT (cutT τ y.path) (parentZ y.path) from fun g => h92 (place_iff.2 (kid_there.2 g)))]
 refine .rfCast (x := x) (τ' := (eraseZ τ y zx).1) (by repeat' constructor) (by rw [hc]) (.slCast (T := 184) (sz := 3) (m' := (eraseZ τ y zx).2.length) (xs' := (eraseZ τ y zx).2.flatMap evC) (by repeat' constructor) (by (rw [hc]; try rfl)) (by (rw [hc]; try rfl)) ?_)
 exact .dn rfl rfl ⟨_, _, by (rw [hc]; try rfl), rfl⟩
theorem rpart_spec (x : Nat) (τ : Tr) (y : Pt) (zx : Int) (p : HP) (hy : PtA p y) (N : Nat) (ho : τ.Ok N) (hN : N + 1 ≤ 1073741824) : Fn Tryz.prog 71 #[vptr x, .agg (ptC y).toArray, vint zx] [refR x τ, p] fun v L => ∃ a c, v = .slice a (partZ τ y zx).2.length c ∧ L = [refR x (partZ τ y zx).1, p, slR 184 3 v (partZ τ y zx).2.length ((partZ τ y zx).2.flatMap evC)] := by
 refine Fn.intro Tryz.func71 rfl rfl fun F W => ?_
 have hfew := hy.few
 have hpl := hy.plen
 have hof := ho.few
 have hnd := ho.sorted.nodup linB
 refine .sr (.oq (.box rfl) ?_)
 rintro v L' ⟨bx, rfl, rfl⟩
 refine .a rfl (.nil (.ptCast (b := bx) (l' := ptC y) (by repeat' constructor) rfl ?_))
 refine .then_n (.sm rfl (.u (.fieldAddr rfl fo_43_1) (.u (.ld rfl ag_9) (.cv Tryz.func95 [_, _] (rplace_spec x τ y.path (by omega)) ?_))))
 refine .an rfl (.seq (.sr (.u (.fieldAddr rfl fo_43_0) (.u (.ld rfl ag_3) (.nt (.block (.sr (.ui rfl rfl rfl (.an rfl (.condD rfl (fun h14 => ?_) (fun h14 => ?_)))))))))))
 ·refine .sm rfl (.q (.loadAs (vs := ptC y) rfl ag_43 (by repeat' constructor) (by simp [ptC]) rfl) rfl (.m rfl (.oq (.c Tryz.func128 [_, _, _] (rcreate_spec x τ y zx p hy N ho hN)) ?_)))
  rintro v L' ⟨a4, c4, rfl, rfl⟩
  refine .an rfl (.ret (.blk_r (.then_r ?_)))
  have hc : partZ τ y zx = createZ τ y zx := by unfold partZ; rw [if_pos h14]
  refine .rfCast (x := x) (τ' := (partZ τ y zx).1) (by repeat' constructor) (by rw [hc]) (.slCast (T := 184) (sz := 3) (m' := (partZ τ y zx).2.length) (xs' := (partZ τ y zx).2.flatMap evC) (by repeat' constructor) (by (rw [hc]; try rfl)) (by (rw [hc]; try rfl)) ?_)
  exact .dn rfl rfl ⟨_, _, by (rw [hc]; try rfl), rfl⟩
 refine .sr (.ui rfl rfl rfl (.an rfl (.condD rfl (fun h20 => ?_) (fun h20 => ?_))))
 ·refine .sm rfl (.q (.loadAs (vs := ptC y) rfl ag_43 (by repeat' constructor) (by simp [ptC]) rfl) rfl (.m rfl (.oq (.c Tryz.func129 [_, _, _] (rerase_spec x τ y zx p hy N ho hN)) ?_)))
  rintro v L' ⟨a6, c6, rfl, rfl⟩
  refine .an rfl (.ret (.blk_r (.then_r ?_)))
  have hc : partZ τ y zx = eraseZ τ y zx := by unfold partZ; rw [if_neg h14, if_pos h20]
  refine .rfCast (x := x) (τ' := (partZ τ y zx).1) (by repeat' constructor) (by rw [hc]) (.slCast (T := 184) (sz := 3) (m' := (partZ τ y zx).2.length) (xs' := (partZ τ y zx).2.flatMap evC) (by repeat' constructor) (by (rw [hc]; try rfl)) (by (rw [hc]; try rfl)) ?_)
  exact .dn rfl rfl ⟨_, _, by (rw [hc]; try rfl), rfl⟩
 refine .sr (.ui rfl rfl rfl (.an rfl (.condD rfl (fun h26 => ?_) (fun h26 => ?_))))
 ·refine .sm rfl (.ui rfl rfl rfl (.nt (.condD rfl (fun h29 => ?_) (fun h29 => ?_))))
  ·obtain ⟨k, hk, hpk, hkp⟩ := place_get (l := τ.nodes) h29
   have hpz : placeZ τ y.path = k := hpk
   rw [hpz]
   refine .rtOpen (x := x) (τ := τ) (by repeat' constructor) fun an cn as1 cs l hl => ?_
   have hll := nds_len hl
   have hkl : k < l.length := by omega
   have hlk : l[k].1 = y.path := by have := nds_get hl hkl; rw [← hkp]; simp only [this]
   refine .slShape (T := 112) (sz := 12) (v := .slice an l.length cn) (xs := l.flatMap rnC) (by repeat' constructor) (by omega) fun bn bn' e0 mbn _ => ?_
   simp only [Value.slice.injEq, true_and] at e0
   obtain ⟨rfl, rfl⟩ := e0
   refine .seq (.draw [9] [[0, 1, 2, 3, 4, 5, 6, 7, 8, 9]] mixed (by kernel_rfl) (.g0 (.mv rfl rfl (.nf rfl rfl rfl fo_110_0 (.kv rfl (.ld rfl ag_107) (.mv rfl rfl (.kv rfl (.fieldAddr rfl fo_43_2) (.kv rfl (.ld rfl ag_9) (.kv rfl (.indexAddr rfl rfl el_107 (by omega)) (.kv rfl (.fieldAddr rfl fo_112_1) (.hh rfl (.storeRd (sz := 12) (j := k * 12 + 1) rfl rfl ?hv33 sz_9 ?ho34 ?hi35) ?_)))))))))))
   case hv33 => first | rfl | assumption
   case ho34 => omega
   case hi35 => omega
   rintro v L' rfl
   refine D.ph (.fin (.slCast (T := 112) (sz := 12) (m' := l.length) (xs' := (l.set k (l[k].1, (l[k].2.1, { l[k].2.2 with data := y.data }))).flatMap rnC) (by repeat' constructor) rfl (flatMap_set (f := rnC) (sz := 12) (fun _ => rfl) (by simpa using hkl) (by decide) (by rfl)) (.then_n (.seq (.draw [10] [[0, 1, 2, 3, 4, 5, 6, 7, 8, 9, 10]] mixed (by kernel_rfl) (.g0 (.mv rfl rfl (.nf rfl rfl rfl fo_110_0 (.kv rfl (.ld rfl ag_107) (.mv rfl rfl (.kv rfl (.fieldAddr rfl fo_43_5) (.kv rfl (.ld rfl ag_3) (.kv rfl (.indexAddr rfl rfl el_107 (by omega)) (.kv rfl (.fieldAddr rfl fo_112_3) (.kv rfl (.fieldAddr rfl fo_37_3) (.hh rfl (.storeRd (sz := 12) (j := k * 12 + 6) rfl rfl ?hv46 sz_3 ?ho47 ?hi48) ?_))))))))))))))))
   case hv46 => first | rfl | assumption
   case ho47 => omega
   case hi48 => omega
   rintro v L' rfl
   refine D.ph (.fin (.slCast (T := 112) (sz := 12) (m' := l.length) (xs' := ((l.set k (l[k].1, (l[k].2.1, { l[k].2.2 with data := y.data }))).set k (l[k].1, (l[k].2.1, { l[k].2.2 with data := y.data, st := { l[k].2.2.st with ver := y.num } }))).flatMap rnC) (by repeat' constructor) rfl (flatMap_set (f := rnC) (sz := 12) (fun _ => rfl) (by simpa using hkl) (by decide) (by rw [List.getElem_set_self]; rfl)) ?_))
   rw [List.set_set]
   refine .then_n (.sm rfl (.nf rfl fo_110_0 (.u (.ld rfl ag_107) (.m rfl (.m rfl (.q (.indexAddr rfl rfl el_107 (by omega)) rfl (.u (.fieldAddr rfl fo_112_3) (.u (.fieldAddr rfl fo_37_1) (.oq (.storeRd (sz := 12) (j := k * 12 + 4) rfl rfl ?hv58 sz_3 ?ho59 ?hi60) ?_)))))))))
   case hv58 => first | rfl | assumption
   case ho59 => omega
   case hi60 => omega
   rintro v L' rfl
   refine .nil (.slCast (T := 112) (sz := 12) (m' := l.length) (xs' := ((l.set k (l[k].1, (l[k].2.1, { l[k].2.2 with data := y.data, st := { l[k].2.2.st with ver := y.num } }))).set k (l[k].1, (l[k].2.1, setN y.data y.num zx l[k].2.2))).flatMap rnC) (by repeat' constructor) rfl (flatMap_set (f := rnC) (sz := 12) (fun _ => rfl) (by simpa using hkl) (by decide) (by rw [List.getElem_set_self]; rfl)) ?_)
   rw [List.set_set]
   refine .bigSet (y := (l[k].1, (l[k].2.1, setN y.data y.num zx l[k].2.2))) hkl (by rfl) (by repeat' constructor) (.rtFold (x := x) (τ := ({ τ with nodes := amod τ.nodes y.path (setN y.data y.num zx) } : Tr)) (l := (l.set k (l[k].1, (l[k].2.1, setN y.data y.num zx l[k].2.2)))) (nds_mod hl hnd hkl hlk (setN y.data y.num zx) rfl) (by repeat' constructor) rfl (by simp) rfl rfl rfl (.then_n (.sr (.u (.fieldAddr rfl fo_43_1) (.u (.ld rfl ag_9) (.m rfl (.q (.build (us := [(0, _), (1, _), (2, _)]) fl_184 ze_184 rfl rfl (by simp [isCell])) rfl (.oq (.buildSlice (vs := [_]) el_71 ze_184 rfl rfl rfl rfl (by first | (simp [Value.cells]; done) | (intro v hv; simp only [List.mem_cons, List.not_mem_nil, or_false] at hv; (repeat (first | (subst hv; rfl) | (rcases hv with hv | hv; (subst hv; rfl)))))) (by decide)) ?_))))))))
   rintro v L' ⟨bo, rfl, rfl⟩
   refine .a rfl (.nil (.slMakeN 3 1 (b := bo) (xs := ([(3, (y.path, zx))] : List Ev).flatMap evC) (by repeat' constructor) rfl rfl (.then_n (.ret (.blk_r (.then_r ?_))))))
   have hc : partZ τ y zx = (({ τ with nodes := amod τ.nodes y.path (setN y.data y.num zx) } : Tr), [(3, (y.path, zx))]) := by unfold partZ; rw [if_neg h14, if_neg h20, if_pos ⟨h26, place_iff.1 h29⟩]
   refine .rfCast (x := x) (τ' := (partZ τ y zx).1) (by repeat' constructor) (by rw [hc]) (.slCast (T := 184) (sz := 3) (m' := (partZ τ y zx).2.length) (xs' := (partZ τ y zx).2.flatMap evC) (by repeat' constructor) (by (rw [hc]; try rfl)) (by (rw [hc]; try rfl)) ?_)
   exact .dn rfl rfl ⟨_, _, by (rw [hc]; try rfl), rfl⟩
  refine .skip (.blk_n (.then_n (.sr (.an rfl (.ret (.add (slR_nil 184 3) ?_))))))
  have hc : partZ τ y zx = (τ, []) := by unfold partZ; rw [if_neg h14, if_neg h20, if_neg (fun g => h29 (place_iff.2 g.2)), if_neg (fun g => h29 (place_iff.2 g.2))]
  refine .rfCast (x := x) (τ' := (partZ τ y zx).1) (by repeat' constructor) (by rw [hc]) (.slCast (T := 184) (sz := 3) (m' := (partZ τ y zx).2.length) (xs' := (partZ τ y zx).2.flatMap evC) (by repeat' constructor) (by (rw [hc]; try rfl)) (by (rw [hc]; try rfl)) ?_)
  exact .dn rfl rfl ⟨_, _, by (rw [hc]; try rfl), rfl⟩
 refine .sr (.ui rfl rfl rfl (.an rfl (.condD rfl (fun h63 => ?_) (fun h63 => ?_))))
 ·refine .sm rfl (.ui rfl rfl rfl (.nt (.condD rfl (fun h66 => ?_) (fun h66 => ?_))))
  ·obtain ⟨k, hk, hpk, hkp⟩ := place_get (l := τ.nodes) h66
   have hpz : placeZ τ y.path = k := hpk
   rw [hpz]
   refine .rtOpen (x := x) (τ := τ) (by repeat' constructor) fun an cn as1 cs l hl => ?_
   have hll := nds_len hl
   have hkl : k < l.length := by omega
   have hlk : l[k].1 = y.path := by have := nds_get hl hkl; rw [← hkp]; simp only [this]
   refine .slShape (T := 112) (sz := 12) (v := .slice an l.length cn) (xs := l.flatMap rnC) (by repeat' constructor) (by omega) fun bn bn' e0 mbn _ => ?_
   simp only [Value.slice.injEq, true_and] at e0
   obtain ⟨rfl, rfl⟩ := e0
   refine .seq (.draw [7, 10] [[0, 1, 2, 3, 4, 5, 6, 7], [8, 9, 10]] mixed (by kernel_rfl) (.go [ptc bx _ _, ptc x _ _] (by repeat' constructor) (.k rfl (.move rfl) (.k rfl (.nilp rfl) (.k rfl (.fieldAddr rfl fo_110_0) (.k rfl (.ld rfl ag_107) (.k rfl (.move rfl) (.kv rfl (.fieldAddr rfl fo_43_3) (.kv rfl (.ld rfl ag_24) (.hh rfl (.c Tryz.func126 [_] (rrows_spec y.aclV y.acl p hy.acl hfew)) ?_))))))))))
   rintro v L' ⟨⟨a15, c15, rfl⟩, rfl⟩
   refine D.ph (.g0 (.kv rfl (.indexAddr rfl rfl el_107 (by omega)) (.kv rfl (.fieldAddr rfl fo_112_2) (.hh rfl (.storeRd (sz := 12) (j := k * 12 + 2) rfl rfl ?hv81 sz_24 ?ho82 ?hi83) ?_))))
   case hv81 => first | rfl | assumption
   case ho82 => omega
   case hi83 => omega
   rintro v L' rfl
   refine D.ph (.fin (.slCast (T := 112) (sz := 12) (m' := l.length) (xs' := (l.set k (l[k].1, (.slice a15 y.acl.length c15, { l[k].2.2 with acl := y.acl }))).flatMap rnC) (by repeat' constructor) rfl (flatMap_set (f := rnC) (sz := 12) (fun _ => rfl) (by simpa using hkl) (by decide) (by rfl)) (.then_n (.draw [10] [[0, 1, 2, 3, 4, 5, 6, 7, 8, 9, 10]] mixed (by kernel_rfl) (.g0 (.mv rfl rfl (.nf rfl rfl rfl fo_110_0 (.kv rfl (.ld rfl ag_107) (.mv rfl rfl (.kv rfl (.fieldAddr rfl fo_43_5) (.kv rfl (.ld rfl ag_3) (.kv rfl (.indexAddr rfl rfl el_107 (by omega)) (.kv rfl (.fieldAddr rfl fo_112_3) (.kv rfl (.fieldAddr rfl fo_37_5) (.hh rfl (.storeRd (sz := 12) (j := k * 12 + 8) rfl rfl ?hv94 sz_3 ?ho95 ?hi96) ?_)))))))))))))))
   case hv94 => first | rfl | assumption
   case ho95 => omega
   case hi96 => omega
   rintro v L' rfl
   refine D.ph (.fin (.slCast (T := 112) (sz := 12) (m' := l.length) (xs' := ((l.set k (l[k].1, (.slice a15 y.acl.length c15, { l[k].2.2 with acl := y.acl }))).set k (l[k].1, (.slice a15 y.acl.length c15, aclN y.acl y.num l[k].2.2))).flatMap rnC) (by repeat' constructor) rfl (flatMap_set (f := rnC) (sz := 12) (fun _ => rfl) (by simpa using hkl) (by decide) (by rw [List.getElem_set_self]; rfl)) ?_))
   rw [List.set_set]
   refine .toRd (v := .slice a15 y.acl.length c15) (by repeat' constructor) (.bigRep (l[k].1, (.slice a15 y.acl.length c15, aclN y.acl y.num l[k].2.2)) hkl (p := rdO 2 (.slice a15 y.acl.length c15) y.acl.length (y.acl.flatMap acC)) rfl (by repeat' constructor) (.rtFold (x := x) (τ := ({ τ with nodes := amod τ.nodes y.path (aclN y.acl y.num) } : Tr)) (l := (l.set k (l[k].1, (.slice a15 y.acl.length c15, aclN y.acl y.num l[k].2.2)))) (nds_mod hl hnd hkl hlk (aclN y.acl y.num) rfl) (by repeat' constructor) rfl (by simp) rfl rfl rfl (.blk_n (.then_n (.sr (.an rfl (.ret (.add (slR_nil 184 3) ?_))))))))
   have hc : partZ τ y zx = (({ τ with nodes := amod τ.nodes y.path (aclN y.acl y.num) } : Tr), []) := by unfold partZ; rw [if_neg h14, if_neg h20, if_neg (fun g => h26 g.1), if_pos ⟨h63, place_iff.1 h66⟩]
   refine .rfCast (x := x) (τ' := (partZ τ y zx).1) (by repeat' constructor) (by rw [hc]) (.slCast (T := 184) (sz := 3) (m' := (partZ τ y zx).2.length) (xs' := (partZ τ y zx).2.flatMap evC) (by repeat' constructor) (by (rw [hc]; try rfl)) (by (rw [hc]; try rfl)) ?_)
   exact .dn rfl rfl ⟨_, _, by (rw [hc]; try rfl), rfl⟩
  refine .skip (.blk_n (.then_n (.sr (.an rfl (.ret (.add (slR_nil 184 3) ?_))))))
  have hc : partZ τ y zx = (τ, []) := by unfold partZ; rw [if_neg h14, if_neg h20, if_neg (fun g => h26 g.1), if_neg (fun g => h66 (place_iff.2 g.2))]
  refine .rfCast (x := x) (τ' := (partZ τ y zx).1) (by repeat' constructor) (by rw [hc]) (.slCast (T := 184) (sz := 3) (m' := (partZ τ y zx).2.length) (xs' := (partZ τ y zx).2.flatMap evC) (by repeat' constructor) (by (rw [hc]; try rfl)) (by (rw [hc]; try rfl)) ?_)
  exact .dn rfl rfl ⟨_, _, by (rw [hc]; try rfl), rfl⟩
 refine .skip (.blk_n (.then_n (.sr (.an rfl (.ret (.add (slR_nil 184 3) ?_))))))
 have hc : partZ τ y zx = (τ, []) := by unfold partZ; rw [if_neg h14, if_neg h20, if_neg (fun g => h26 g.1), if_neg (fun g => h63 g.1)]
 refine .rfCast (x := x) (τ' := (partZ τ y zx).1) (by repeat' constructor) (by rw [hc]) (.slCast (T := 184) (sz := 3) (m' := (partZ τ y zx).2.length) (xs' := (partZ τ y zx).2.flatMap evC) (by repeat' constructor) (by (rw [hc]; try rfl)) (by (rw [hc]; try rfl)) ?_)
 exact .dn rfl rfl ⟨_, _, by (rw [hc]; try rfl), rfl⟩
theorem rs_cells (z : Int × (Int × Bs)) : ∀ y ∈ (Value.agg (rsC z).toArray).cells.toList, isCell y = true := by
 intro v hv
 simp only [Value.cells, rsC, List.mem_cons, List.not_mem_nil, or_false] at hv
 rcases hv with rfl | rfl | rfl <;> rfl
theorem rsl_cells (l : SsM) : ∀ y ∈ l.flatMap rsC, isCell y = true := by
 intro y hy
 obtain ⟨a, -, h⟩ := List.mem_flatMap.1 hy
 simp only [rsC, List.mem_cons, List.not_mem_nil, or_false] at h
 rcases h with rfl | rfl | rfl <;> rfl
theorem rdrop_spec (x : Nat) (τ : Tr) (id : Int) (hN : τ.sess.length ≤ 1073741824) : Fn Tryz.prog 78 #[vptr x, vint id] [refR x τ] fun v L => v = .tuple #[] ∧ L = [refR x (dropS τ id)] := by
 refine Fn.intro Tryz.func78 rfl rfl fun F W => ?_
 refine .rtOpen (x := x) (τ := τ) (by repeat' constructor) fun an cn as1 cs l hl => (.add (slR_nil 122 3) (.sr (.an rfl (.seq (.sr (.an rfl (.block (.loopK (ι := Nat × Value) (fun q E => (5, vint q.1) :: (4, q.2) :: E) (fun q => [rsR q.2 ((τ.sess.take q.1).filter fun w => !decide (w.1 = id))]) (fun q => q.1 ≤ τ.sess.length ∧ ∃ a c, q.2 = .slice a ((τ.sess.take q.1).filter fun w => !decide (w.1 = id)).length c) (fun q => τ.sess.length - q.1) (0, .slice none 0 0) (ts := [0, 1]) (.cons rfl (.cons rfl (.nil))) (⟨Nat.zero_le _, none, 0, rfl⟩) ⟨rfl, rfl, rfl, rfl, trivial⟩ (by repeat' constructor) ?_))))))))
 rintro ⟨i, u⟩ ⟨hi, au, cu, hu⟩
 dsimp only
 dsimp only at hi hu
 subst hu
 have hfl := List.length_filter_le (fun w : Int × (Int × Bs) => !decide (w.1 = id)) (τ.sess.take i)
 rw [List.length_take] at hfl
 refine .seq (.sm rfl (.m rfl (.nf rfl fo_110_1 (.u (.ld rfl ag_108) (.q (.slen rfl Tryz.underlying108 rfl) rfl (.ui rfl rfl rfl (.nt (.condD rfl (fun h12 => ?_) (fun h12 => ?_)))))))))
 ·have hi2 : i < τ.sess.length := by omega
  refine .slShape (T := 122) (sz := 3) (v := .slice as1 τ.sess.length cs) (xs := τ.sess.flatMap rsC) (by repeat' constructor) (by omega) fun bs bs' e0 mbs _ => ?_
  simp only [Value.slice.injEq, true_and] at e0
  obtain ⟨rfl, rfl⟩ := e0
  refine .sk (.seq (.block (.sm rfl (.nf rfl fo_110_1 (.u (.ld rfl ag_108) (.m rfl (.q (.indexAddr rfl rfl el_108 (by omega)) rfl (.u (.fieldAddr rfl fo_122_0) (.q (.loadRd (sz := 3) (j := i * 3 + 0) (p := rsR _ τ.sess) rfl ag_3 (by repeat' constructor) (fun h hp => slR_rd hp) (by omega) ((rs_cell (l := τ.sess) (i := i) (k := 0) (by omega) (by decide)).trans rfl)) rfl (.m rfl (.ui rfl rfl rfl (.nt (.condN rfl (fun h24 => ?_) (fun h24 => ?_))))))))))))))
  ·refine .region (.m rfl (.m rfl (.nf rfl fo_110_1 (.u (.ld rfl ag_108) (.m rfl (.q (.indexAddr rfl rfl el_108 (by omega)) rfl (.q (.loadRdA (sz := 3) (j := i * 3) (k := 3) (p := rsR _ τ.sess) (vs := rsC τ.sess[i]) rfl ag_122 (by repeat' constructor) (fun h hp => slR_rd hp) (by omega) (by omega) (by omega) (flatMap_at (f := rsC) (sz := 3) (fun _ _ => rfl) (by omega))) rfl (.oq (.buildSlice (vs := [_]) el_108 ze_122 rfl rfl rfl rfl (by first | (simp [Value.cells]; done) | (intro v hv; simp only [List.mem_cons, List.not_mem_nil, or_false] at hv; (repeat (first | (subst hv; rfl) | (rcases hv with hv | hv; (subst hv; rfl)))))) (by decide)) ?_))))))))
   rintro v L' ⟨b5_8, rfl, rfl⟩
   refine .oq (.append1 rfl rfl rfl el_108 ze_122 rfl rfl ?c30 ?c31 (Nat.le_refl _) ?c32 (by decide)) ?_
   case c30 => first | exact rs_cells _ | (simp only [List.map_cons, List.map_nil, List.flatten_cons, List.flatten_nil, List.append_nil]; exact rs_cells _)
   case c31 => rfl
   case c32 => first | omega | (simp; omega)
   rintro v L' ⟨⟨a5_9, c5_9, rfl⟩, rfl⟩
   refine .a rfl (.nil (.blk_n (.then_n (.region (.m rfl (.q (.add rfl rfl (by omega)) rfl (.an rfl ?_)))))))
   have hst : ((τ.sess.take (i + 1)).filter fun w => !decide (w.1 = id)) = ((τ.sess.take i).filter fun w => !decide (w.1 = id)) ++ [τ.sess[i]] := by rw [List.take_succ_eq_append_getElem hi2, List.filter_append]; simp [show ¬ τ.sess[i].1 = id from h24]
   rw [show ((τ.sess.take i).filter fun w => !decide (w.1 = id)).length + 1 = ((τ.sess.take (i + 1)).filter fun w => !decide (w.1 = id)).length by rw [hst, List.length_append]; rfl]
   refine .slCast (T := 122) (sz := 3) (m' := ((τ.sess.take (i + 1)).filter fun w => !decide (w.1 = id)).length) (xs' := ((τ.sess.take (i + 1)).filter fun w => !decide (w.1 = id)).flatMap rsC) (by repeat' constructor) rfl (by rw [hst, List.flatMap_append]; simp; rfl) ?_
   exact .rk ((i + 1, .slice a5_9 ((τ.sess.take (i + 1)).filter fun w => !decide (w.1 = id)).length c5_9)) (⟨by dsimp only; omega, _, _, rfl⟩) (by dsimp only; omega) ⟨rfl, rfl, rfl, rfl, trivial⟩
  refine .skip (.blk_n (.then_n (.region (.m rfl (.q (.add rfl rfl (by omega)) rfl (.an rfl ?_))))))
  have hst : ((τ.sess.take (i + 1)).filter fun w => !decide (w.1 = id)) = ((τ.sess.take i).filter fun w => !decide (w.1 = id)) := by rw [List.take_succ_eq_append_getElem hi2, List.filter_append]; simp [show τ.sess[i].1 = id from h24]
  rw [← hst]
  exact .rk ((i + 1, .slice au ((τ.sess.take (i + 1)).filter fun w => !decide (w.1 = id)).length cu)) (⟨by dsimp only; omega, _, _, rfl⟩) (by dsimp only; omega) ⟨rfl, rfl, rfl, rfl, trivial⟩
 have hii : i = τ.sess.length := by omega
 subst hii
 rw [List.take_length]
 refine .exit (.then_e (.then_e (.blk_e (.then_n (.region (.m rfl (.m rfl (.nf rfl fo_110_1 (.st rfl rfl rfl sz_108 ?_)))))))))
 refine .nil (.done_n (.rtFold (x := x) (τ := (dropS τ id)) (l := l) hl (by repeat' constructor) rfl rfl rfl rfl rfl ?_))
 exact .vv
theorem ropen_spec (x : Nat) (τ : Tr) (id n : Int) (s : Bs) (N : Nat) (ho : τ.Ok N) (hN : τ.sess.length ≤ 1073741824) : Fn Tryz.prog 77 #[vptr x, .agg (rsC (id, (n, s))).toArray] [refR x τ] fun v L => v = .tuple #[] ∧ L = [refR x (openS τ id n s)] := by
 refine Fn.intro Tryz.func77 rfl rfl fun F W => ?_
 have hsl : (dropS τ id).sess.length ≤ τ.sess.length := List.length_filter_le _ _
 refine .sr (.oq (.box rfl) ?_)
 rintro v L' ⟨bz, rfl, rfl⟩
 refine .nil (.ptCast (b := bz) (l' := rsC (id, (n, s))) (by repeat' constructor) rfl ?_)
 refine .then_n (.sm rfl (.u (.fieldAddr rfl fo_122_0) (.u (.ld rfl ag_3) (.cv Tryz.func78 [_, _] (rdrop_spec x τ id hN) ?_))))
 refine .nt (.seq (.rtOpen (x := x) (τ := (dropS τ id)) (by repeat' constructor) fun an cn as1 cs l hl => (.region (.slForm (T := 122) (sz := 3) (a := as1) (m := (dropS τ id).sess.length) (c := cs) (by repeat' constructor) (fun e0 e1 e2 => ?_) (fun bs e0 e1 => ?_)))))
 ·subst e0
  refine .an rfl (.seq (.joinK (ι := Nat) (fun q E => (4, vint q) :: E) (fun q => []) (fun q => q ≤ (dropS τ id).sess.length ∧ (∀ w ∈ ((dropS τ id).sess.take q), w.1 < id) ∧ ∀ h : q < (dropS τ id).sess.length, ¬ (dropS τ id).sess[q].1 < id) (pre := []) (ts := [0, 3]) (.cons rfl (.cons rfl (.nil))) (by repeat' constructor) ?_ ?_))
  ·refine .block (.loopK (ι := Nat) (fun q E => (4, vint q) :: E) (fun q => []) (fun q => q ≤ (dropS τ id).sess.length ∧ ∀ w ∈ ((dropS τ id).sess.take q), w.1 < id) (fun q => (dropS τ id).sess.length - q) (0) (ts := [0, 3]) (.cons rfl (.cons rfl (.nil))) (⟨Nat.zero_le _, by simp⟩) ⟨rfl, rfl, rfl, trivial⟩ (by repeat' constructor) ?_)
   rintro i ⟨hi, hlow⟩
   refine .seq (.seq (.draw [] [[0, 1, 2, 3, 4, 5, 6, 7, 8, 9, 10, 11, 12, 13, 14, 15, 16, 17, 18, 19]] mixed (by kernel_rfl) (.g0 (.mv rfl rfl (.mv rfl rfl (.nf rfl rfl rfl fo_110_1 (.kv rfl (.ld rfl ag_108) (.kv rfl (.slen rfl Tryz.underlying108 rfl) (.kv rfl (.int rfl rfl rfl) (.mv rfl rfl (.dec (t := 17) rfl (fun h3_17 => ?_) (fun h3_17 => ?_))))))))))))
   ·exfalso; omega
   refine D.kDF (t := 16) rfl h3_17 (.gz rfl (.gz rfl (.gz rfl (.gz rfl (.gz rfl (.gz rfl (.gz rfl (.gz rfl (.gz rfl (.gz rfl (.gz rfl (.kv rfl (.pickF rfl rfl) (.pf (.condF rfl (.exit (.then_e (.then_e (.blk_e (.then_n ?_)))))))))))))))))))
   exact .mk (i) (⟨hi, hlow, fun h => absurd h (by omega)⟩) ⟨rfl, rfl, rfl, trivial⟩
  rintro i ⟨hi, hlow, hhigh⟩
  refine .seq (.add (slR_nil 122 3) (.region (.an rfl (.seq ?_))))
  have hadr : (none : Option Addr) = none ∨ ∃ b off, (none : Option Addr) = some (⟨b, off, none⟩ : Addr) := .inl rfl
  refine .region (.m rfl (.m rfl (.nf rfl fo_110_1 (.u (.ld rfl ag_108) (.m rfl (.q (.to (v' := .slice (none : Option Addr) i cs) (.slTo (j := (i : Int)) rfl el_108 rfl (by omega) hadr) (by rw [Int.toNat_natCast])) rfl (.oq (.append (n := 0) (m := i) (ys := ((dropS τ id).sess.take i).flatMap rsC) (p := slR 122 3 (.slice (none : Option Addr) (dropS τ id).sess.length cs) (dropS τ id).sess.length ((dropS τ id).sess.flatMap rsC)) rfl rfl rfl el_108 (.inl ⟨_, Tryz.underlying108⟩) ze_122 rfl rfl ?hc24 ?hr25 ?hb26 (by decide)) ?_)))))))
  case hc24 => exact rsl_cells _
  case hr25 => exact fun h hp => by have := slR_rd_to hi hp; rw [(flat_take (f := rsC) (sz := 3) (fun _ => rfl) _ i).1] at this; exact this
  case hb26 => omega
  rintro v L' ⟨⟨a6, c6, rfl⟩, rfl⟩; rw [Nat.zero_add, List.nil_append]
  refine .an rfl (.sm rfl (.q (.loadAs (vs := rsC (id, (n, s))) rfl ag_122 (by repeat' constructor) (by simp [rsC]) rfl) rfl (.oq (.buildSlice (vs := [_]) el_108 ze_122 rfl rfl rfl rfl (by first | (simp [Value.cells]; done) | (intro v hv; simp only [List.mem_cons, List.not_mem_nil, or_false] at hv; (repeat (first | (subst hv; rfl) | (rcases hv with hv | hv; (subst hv; rfl)))))) (by decide)) ?_)))
  rintro v L' ⟨b7_2, rfl, rfl⟩
  refine .oq (.append1 rfl rfl rfl el_108 ze_122 rfl rfl ?c32 ?c33 (Nat.le_refl _) ?c34 (by decide)) ?_
  case c32 => first | exact rs_cells _ | (simp only [List.map_cons, List.map_nil, List.flatten_cons, List.flatten_nil, List.append_nil]; exact rs_cells _)
  case c33 => rfl
  case c34 => first | omega | (simp; omega)
  rintro v L' ⟨⟨a7_3, c7_3, rfl⟩, rfl⟩
  refine .a rfl (.nil (.slCast (T := 122) (sz := 3) (m' := i + 1) (xs' := (((dropS τ id).sess.take i) ++ [(id, (n, s))]).flatMap rsC) (by repeat' constructor) rfl (by rw [List.flatMap_append]; simp; rfl) (.then_n (.region (.m rfl (.m rfl (.m rfl (.nf rfl fo_110_1 (.u (.ld rfl ag_108) (.m rfl (.q (.slFromO (i := (i : Int)) rfl el_108 rfl (by omega)) rfl (.oq (.append (n := i + 1) (m := (dropS τ id).sess.length - (i : Int).toNat) (ys := ((dropS τ id).sess.drop i).flatMap rsC) (p := slR 122 3 (.slice (none : Option Addr) (dropS τ id).sess.length cs) (dropS τ id).sess.length ((dropS τ id).sess.flatMap rsC)) rfl rfl rfl el_108 (.inl ⟨_, Tryz.underlying108⟩) ze_122 rfl rfl ?hc44 ?hr45 ?hb46 (by decide)) ?_))))))))))))
  case hc44 => exact rsl_cells _
  case hr45 => exact fun h hp => by rw [Int.toNat_natCast]; have := slR_rd_from hi hp; rw [(flat_take (f := rsC) (sz := 3) (fun _ => rfl) _ i).2] at this; exact this
  case hb46 => omega
  rintro v L' ⟨⟨a8, c8, rfl⟩, rfl⟩
  refine .nf rfl fo_110_1 (.st rfl rfl rfl sz_108 ?_)
  refine .nil (.done_n ?_)
  have hfin : ((dropS τ id).sess.take i) ++ [(id, (n, s))] ++ ((dropS τ id).sess.drop i) = (openS τ id n s).sess := by rw [sset_at hi hlow hhigh (fun w hw => by have := (List.mem_filter.1 hw).2; simpa using this), ← open_drop ho id n s]; rfl
  have hlen : i + 1 + ((dropS τ id).sess.length - (i : Int).toNat) = (openS τ id n s).sess.length := by rw [← hfin]; simp; omega
  refine .rtFold (x := x) (τ := (openS τ id n s)) (l := l) hl (by repeat' constructor) rfl rfl rfl hlen (by rw [← List.flatMap_append, hfin]) ?_
  exact .vv
 subst e0
 refine .an rfl (.seq (.joinK (ι := Nat) (fun q E => (4, vint q) :: E) (fun q => []) (fun q => q ≤ (dropS τ id).sess.length ∧ (∀ w ∈ ((dropS τ id).sess.take q), w.1 < id) ∧ ∀ h : q < (dropS τ id).sess.length, ¬ (dropS τ id).sess[q].1 < id) (pre := []) (ts := [0, 3]) (.cons rfl (.cons rfl (.nil))) (by repeat' constructor) ?_ ?_))
 ·refine .block (.loopK (ι := Nat) (fun q E => (4, vint q) :: E) (fun q => []) (fun q => q ≤ (dropS τ id).sess.length ∧ ∀ w ∈ ((dropS τ id).sess.take q), w.1 < id) (fun q => (dropS τ id).sess.length - q) (0) (ts := [0, 3]) (.cons rfl (.cons rfl (.nil))) (⟨Nat.zero_le _, by simp⟩) ⟨rfl, rfl, rfl, trivial⟩ (by repeat' constructor) ?_)
  rintro i ⟨hi, hlow⟩
  refine .seq (.seq (.draw [] [[0, 1, 2, 3, 4, 5, 6, 7, 8, 9, 10, 11, 12, 13, 14, 15, 16, 17, 18, 19]] mixed (by kernel_rfl) (.g0 (.mv rfl rfl (.mv rfl rfl (.nf rfl rfl rfl fo_110_1 (.kv rfl (.ld rfl ag_108) (.kv rfl (.slen rfl Tryz.underlying108 rfl) (.kv rfl (.int rfl rfl rfl) (.mv rfl rfl (.dec (t := 17) rfl (fun h3_17 => ?_) (fun h3_17 => ?_))))))))))))
  ·have hi2 : i < (dropS τ id).sess.length := by omega
   refine D.kDT (t := 16) rfl h3_17 (.gv rfl (.move rfl) (.gv rfl (.nilp rfl) (.gv rfl (.fieldAddr rfl fo_110_1) (.gv rfl (.ld rfl ag_108) (.gv rfl (.move rfl) (.gv rfl (.indexAddr rfl rfl el_108 (by omega)) (.gv rfl (.fieldAddr rfl fo_122_0) (.gv rfl (.loadRd (sz := 3) (j := i * 3 + 0) (p := rsR _ (dropS τ id).sess) rfl ag_3 (by repeat' constructor) (fun h hp => slR_rd hp) (by omega) ((rs_cell (l := (dropS τ id).sess) (i := i) (k := 0) (by omega) (by decide)).trans rfl)) (.gv rfl (.fieldAddr rfl fo_122_0) (.gv rfl (.load rfl ag_3 (by repeat' constructor) rfl) (.gv rfl (.int rfl rfl rfl) (.kv rfl (.pickT rfl rfl) (.pf (.condD rfl (fun h29 => ?_) (fun h29 => ?_)))))))))))))))
   ·refine .sk (.block (.region (.m rfl (.q (.add rfl rfl (by omega)) rfl (.a rfl (.nil (.blk_n (.then_n ?_))))))))
    exact .rk (i + 1) (⟨by omega, fun w hw => by rw [List.take_succ_eq_append_getElem hi2] at hw; rcases List.mem_append.1 hw with hw | hw; (exact hlow w hw); (rw [List.mem_singleton] at hw; rw [hw]; exact h29)⟩) (by omega) ⟨rfl, rfl, rfl, trivial⟩
   refine .exit (.then_e (.then_e (.blk_e (.then_n ?_))))
   exact .mk (i) (⟨hi, hlow, fun h => h29⟩) ⟨rfl, rfl, rfl, trivial⟩
  refine D.kDF (t := 16) rfl h3_17 (.gz rfl (.gz rfl (.gz rfl (.gz rfl (.gz rfl (.gz rfl (.gz rfl (.gz rfl (.gz rfl (.gz rfl (.gz rfl (.kv rfl (.pickF rfl rfl) (.pf (.condF rfl (.exit (.then_e (.then_e (.blk_e (.then_n ?_)))))))))))))))))))
  exact .mk (i) (⟨hi, hlow, fun h => absurd h (by omega)⟩) ⟨rfl, rfl, rfl, trivial⟩
 rintro i ⟨hi, hlow, hhigh⟩
 refine .seq (.add (slR_nil 122 3) (.region (.an rfl (.seq ?_))))
 have hadr : (some (⟨bs, 0, none⟩ : Addr)) = none ∨ ∃ b off, (some (⟨bs, 0, none⟩ : Addr)) = some (⟨b, off, none⟩ : Addr) := .inr ⟨_, _, rfl⟩
 refine .region (.m rfl (.m rfl (.nf rfl fo_110_1 (.u (.ld rfl ag_108) (.m rfl (.q (.to (v' := .slice (some (⟨bs, 0, none⟩ : Addr)) i cs) (.slTo (j := (i : Int)) rfl el_108 rfl (by omega) hadr) (by rw [Int.toNat_natCast])) rfl (.oq (.append (n := 0) (m := i) (ys := ((dropS τ id).sess.take i).flatMap rsC) (p := slR 122 3 (.slice (some (⟨bs, 0, none⟩ : Addr)) (dropS τ id).sess.length cs) (dropS τ id).sess.length ((dropS τ id).sess.flatMap rsC)) rfl rfl rfl el_108 (.inl ⟨_, Tryz.underlying108⟩) ze_122 rfl rfl ?hc83 ?hr84 ?hb85 (by decide)) ?_)))))))
 case hc83 => exact rsl_cells _
 case hr84 => exact fun h hp => by have := slR_rd_to hi hp; rw [(flat_take (f := rsC) (sz := 3) (fun _ => rfl) _ i).1] at this; exact this
 case hb85 => omega
 rintro v L' ⟨⟨a6, c6, rfl⟩, rfl⟩; rw [Nat.zero_add, List.nil_append]
 refine .an rfl (.sm rfl (.q (.loadAs (vs := rsC (id, (n, s))) rfl ag_122 (by repeat' constructor) (by simp [rsC]) rfl) rfl (.oq (.buildSlice (vs := [_]) el_108 ze_122 rfl rfl rfl rfl (by first | (simp [Value.cells]; done) | (intro v hv; simp only [List.mem_cons, List.not_mem_nil, or_false] at hv; (repeat (first | (subst hv; rfl) | (rcases hv with hv | hv; (subst hv; rfl)))))) (by decide)) ?_)))
 rintro v L' ⟨b7_2, rfl, rfl⟩
 refine .oq (.append1 rfl rfl rfl el_108 ze_122 rfl rfl ?c91 ?c92 (Nat.le_refl _) ?c93 (by decide)) ?_
 case c91 => first | exact rs_cells _ | (simp only [List.map_cons, List.map_nil, List.flatten_cons, List.flatten_nil, List.append_nil]; exact rs_cells _)
 case c92 => rfl
 case c93 => first | omega | (simp; omega)
 rintro v L' ⟨⟨a7_3, c7_3, rfl⟩, rfl⟩
 refine .a rfl (.nil (.slCast (T := 122) (sz := 3) (m' := i + 1) (xs' := (((dropS τ id).sess.take i) ++ [(id, (n, s))]).flatMap rsC) (by repeat' constructor) rfl (by rw [List.flatMap_append]; simp; rfl) (.then_n (.region (.m rfl (.m rfl (.m rfl (.nf rfl fo_110_1 (.u (.ld rfl ag_108) (.m rfl (.q (.slFromO (i := (i : Int)) rfl el_108 rfl (by omega)) rfl (.oq (.append (n := i + 1) (m := (dropS τ id).sess.length - (i : Int).toNat) (ys := ((dropS τ id).sess.drop i).flatMap rsC) (p := slR 122 3 (.slice (some (⟨bs, 0, none⟩ : Addr)) (dropS τ id).sess.length cs) (dropS τ id).sess.length ((dropS τ id).sess.flatMap rsC)) rfl rfl rfl el_108 (.inl ⟨_, Tryz.underlying108⟩) ze_122 rfl rfl ?hc103 ?hr104 ?hb105 (by decide)) ?_))))))))))))
 case hc103 => exact rsl_cells _
 case hr104 => exact fun h hp => by rw [Int.toNat_natCast]; have := slR_rd_from hi hp; rw [(flat_take (f := rsC) (sz := 3) (fun _ => rfl) _ i).2] at this; exact this
 case hb105 => omega
 rintro v L' ⟨⟨a8, c8, rfl⟩, rfl⟩
 refine .nf rfl fo_110_1 (.st rfl rfl rfl sz_108 ?_)
 refine .nil (.done_n ?_)
 have hfin : ((dropS τ id).sess.take i) ++ [(id, (n, s))] ++ ((dropS τ id).sess.drop i) = (openS τ id n s).sess := by rw [sset_at hi hlow hhigh (fun w hw => by have := (List.mem_filter.1 hw).2; simpa using this), ← open_drop ho id n s]; rfl
 have hlen : i + 1 + ((dropS τ id).sess.length - (i : Int).toNat) = (openS τ id n s).sess.length := by rw [← hfin]; simp; omega
 refine .rtFold (x := x) (τ := (openS τ id n s)) (l := l) hl (by repeat' constructor) rfl rfl rfl hlen (by rw [← List.flatMap_append, hfin]) ?_
 exact .vv
def applyZ0 (τ : Tr) (zx : Int) (x : Pt) (subs : List Pt) : Tr × (List Ev × Int) :=
 if x.kind = 5 then (if 0 < x.own then openS τ x.own x.num x.data else τ, ([], 0))
 else if x.kind = 6 then (dropS (partsZ τ zx (subs.filter isDel)).1 x.own, ((partsZ τ zx (subs.filter isDel)).2, 0))
 else if x.kind = 7 then ((partsZ τ zx subs).1, ((partsZ τ zx subs).2, 0))
 else if x.kind = 8 then (τ, ([], x.err))
 else ((partZ τ x zx).1, ((partZ τ x zx).2, 0))
theorem part_zx (τ : Tr) (x : Pt) (zx z : Int) : partZ (zxT τ z) x zx = (zxT (partZ τ x zx).1 z, (partZ τ x zx).2) := by
 unfold partZ createZ eraseZ
 have h : ∀ p, thereT (zxT τ z) p ↔ thereT τ p := fun p => Iff.rfl
 simp only [h]
 repeat' split
 all_goals first | rfl | contradiction
theorem parts_zx (τ : Tr) (zx z : Int) (l : List Pt) : partsZ (zxT τ z) zx l = (zxT (partsZ τ zx l).1 z, (partsZ τ zx l).2) := by
 have key : ∀ (l : List Pt) (r : Tr × List Ev), l.foldl (fun r x => ((partZ r.1 x zx).1, r.2 ++ (partZ r.1 x zx).2)) (zxT r.1 z, r.2) = (zxT (l.foldl (fun r x => ((partZ r.1 x zx).1, r.2 ++ (partZ r.1 x zx).2)) r).1 z, (l.foldl (fun r x => ((partZ r.1 x zx).1, r.2 ++ (partZ r.1 x zx).2)) r).2) := by
  intro l
  induction l with
  | nil => intro r; rfl
  | cons x l ih =>
   intro r
   rw [List.foldl_cons, List.foldl_cons]
   dsimp only
   rw [part_zx]
   exact ih ((partZ r.1 x zx).1, r.2 ++ (partZ r.1 x zx).2)
 exact key l (τ, [])
theorem apply_zx (τ : Tr) (zx : Int) (x : Pt) (subs : List Pt) : applyZ τ zx x subs = (zxT (applyZ0 τ zx x subs).1 zx, (applyZ0 τ zx x subs).2) := by
 unfold applyZ applyZ0
 dsimp only
 rw [part_zx, parts_zx, parts_zx]
 repeat' split
 all_goals rfl
theorem rapply_spec (x : Nat) (τ : Tr) (zx ses xid : Int) (y : Pt) (subs : List Pt) (p : HP) (hx : TxA p y subs) (N : Nat) (ho : τ.Ok N) (hN : N + subs.length + 1 ≤ 1073741824) : Fn Tryz.prog 34 #[vptr x, .agg ([vint zx, vint ses, vint xid] ++ ptC y).toArray] [refR x τ, p] fun v L => ∃ u e, v = .tuple #[u, vint e] ∧ e = (applyZ τ zx y subs).2.2 ∧ (∃ a c, u = .slice a (applyZ τ zx y subs).2.1.length c) ∧ L = [refR x (applyZ τ zx y subs).1, p, slR 184 3 u (applyZ τ zx y subs).2.1.length ((applyZ τ zx y subs).2.1.flatMap evC)] := by
 refine Fn.intro Tryz.func34 rfl rfl fun F W => ?_
 refine .rdAny (p := p) hx.rd (by repeat' constructor) fun asb csb esub _ => ?_
 have hrd := hx.rd
 rw [esub] at hrd
 have hfs := hx.few
 have hosf := ho.sfew
 refine .sr (.oq (.box rfl) ?_)
 rintro v L' ⟨be, rfl, rfl⟩
 refine .a rfl (.a rfl (.nil (.ptCast (b := be) (l' := ([vint zx, vint ses, vint xid] ++ ptC y)) (by repeat' constructor) rfl ?_)))
 refine .then_n (.sr (.u (.fieldAddr rfl fo_54_3) (.q (.loadAs (vs := ptC y) rfl ag_43 (by repeat' constructor) (by simp [ptC]) rfl) rfl (.oq (.allocA ze_43) ?_))))
 rintro v L' ⟨bx, rfl, rfl⟩
 refine .sa rfl rfl sz_43 (by exact hx.own.all) ?_
 refine .nil (.ptCast (b := bx) (l' := ptC y) (by repeat' constructor) rfl ?_)
 refine .then_n (.sr (.an rfl (.sr (.an rfl (.seq (.sr (.u (.fieldAddr rfl fo_43_0) (.u (.ld rfl ag_3) (.nt (.block (.sr (.ui rfl rfl rfl (.an rfl (.condD rfl (fun h20 => ?_) (fun h20 => ?_)))))))))))))))
 ·refine .sr (.u (.fieldAddr rfl fo_43_4) (.u (.ld rfl ag_3) (.ui rfl rfl rfl (.nt (.condD rfl (fun h24 => ?_) (fun h24 => ?_))))))
  ·refine .region (.m rfl (.u (.fieldAddr rfl fo_43_4) (.u (.ld rfl ag_3) (.u (.fieldAddr rfl fo_43_5) (.u (.ld rfl ag_3) (.u (.fieldAddr rfl fo_43_2) (.u (.ld rfl ag_9) (.q (.to (v' := .agg (rsC (y.own, (y.num, y.data))).toArray) (.build (us := [(0, _), (1, _), (2, _)]) fl_122 ze_122 rfl rfl (by simp [isCell])) rfl) rfl (.cv Tryz.func77 [_, _] (ropen_spec x τ y.own y.num y.data N ho (by omega)) ?_)))))))))
   refine .nil (.blk_n (.then_n (.seq (.add (slR_nil 184 3) ?_))))
   have hz : (applyZ τ zx y subs) = (zxT (openS τ y.own y.num y.data) zx, ([], 0)) := by rw [apply_zx]; unfold applyZ0; rw [if_pos h20, if_pos (show 0 < y.own by omega)]
   refine .rtOpen (x := x) (τ := (openS τ y.own y.num y.data)) (by repeat' constructor) fun an cn as1 cs l hl => (.region (.m rfl (.u (.fieldAddr rfl fo_54_0) (.u (.ld rfl ag_3) (.nf rfl fo_110_2 (.st rfl rfl rfl sz_3 ?_))))))
   refine .nil (.rtFold (x := x) (τ := (zxT (openS τ y.own y.num y.data) zx)) (l := l) hl (by repeat' constructor) rfl rfl rfl rfl rfl (.then_n (.sm rfl (.m rfl (.a rfl (.an rfl (.ret (.rfCast (x := x) (τ' := (applyZ τ zx y subs).1) (by repeat' constructor) (by rw [hz]) (.slCast (T := 184) (sz := 3) (m' := (applyZ τ zx y subs).2.1.length) (xs' := (applyZ τ zx y subs).2.1.flatMap evC) (by repeat' constructor) (by (rw [hz]; try rfl)) (by (rw [hz]; try rfl)) ?_)))))))))
   exact .dn rfl rfl ⟨_, _, rfl, by rw [hz], ⟨_, _, by (rw [hz]; try rfl)⟩, rfl⟩
  refine .skip (.blk_n (.then_n (.seq (.add (slR_nil 184 3) ?_))))
  have hz : (applyZ τ zx y subs) = (zxT (τ) zx, ([], 0)) := by rw [apply_zx]; unfold applyZ0; rw [if_pos h20, if_neg (show ¬ 0 < y.own by omega)]
  refine .rtOpen (x := x) (τ := (τ)) (by repeat' constructor) fun an cn as1 cs l hl => (.region (.m rfl (.u (.fieldAddr rfl fo_54_0) (.u (.ld rfl ag_3) (.nf rfl fo_110_2 (.st rfl rfl rfl sz_3 ?_))))))
  refine .nil (.rtFold (x := x) (τ := (zxT (τ) zx)) (l := l) hl (by repeat' constructor) rfl rfl rfl rfl rfl (.then_n (.sm rfl (.m rfl (.a rfl (.an rfl (.ret (.rfCast (x := x) (τ' := (applyZ τ zx y subs).1) (by repeat' constructor) (by rw [hz]) (.slCast (T := 184) (sz := 3) (m' := (applyZ τ zx y subs).2.1.length) (xs' := (applyZ τ zx y subs).2.1.flatMap evC) (by repeat' constructor) (by (rw [hz]; try rfl)) (by (rw [hz]; try rfl)) ?_)))))))))
  exact .dn rfl rfl ⟨_, _, rfl, by rw [hz], ⟨_, _, by (rw [hz]; try rfl)⟩, rfl⟩
 refine .seq (.sr ?_)
 rcases Decidable.em (y.kind = 6) with hk6 | hk6
 ·refine .q (.as (v' := .bool true) (by exact congrArg Value.bool (decide_eq_true hk6)) (.int rfl rfl rfl)) rfl (.an rfl (.condT rfl (.sk (.condT rfl (.seq (.sr (.an rfl (.block (.add (slR_nil 184 3) (.rfCast (x := x) (τ' := (partsZ τ zx ((subs.take 0).filter isDel)).1) (by repeat' constructor) (by rw [List.take_zero]; rfl) (.slCast (T := 184) (sz := 3) (m' := (partsZ τ zx ((subs.take 0).filter isDel)).2.length) (xs' := (partsZ τ zx ((subs.take 0).filter isDel)).2.flatMap evC) (by repeat' constructor) (by rw [List.take_zero]; rfl) (by rw [List.take_zero]; rfl) (.loopK (ι := Nat × Value) (fun q E => (9, vint q.1) :: (7, q.2) :: E) (fun q => [refR x (partsZ τ zx ((subs.take q.1).filter isDel)).1, slR 184 3 q.2 (partsZ τ zx ((subs.take q.1).filter isDel)).2.length ((partsZ τ zx ((subs.take q.1).filter isDel)).2.flatMap evC)]) (fun q => q.1 ≤ subs.length ∧ ∃ a c, q.2 = .slice a (partsZ τ zx ((subs.take q.1).filter isDel)).2.length c) (fun q => subs.length - q.1) (0, .slice none 0 0) (ts := [0, 3, 4, 5, 6, 8]) (.cons rfl (.cons rfl (.cons rfl (.cons rfl (.cons rfl (.cons rfl (.nil))))))) (⟨Nat.zero_le _, none, 0, by rw [List.take_zero]; rfl⟩) ⟨rfl, rfl, rfl, rfl, rfl, rfl, rfl, rfl, trivial⟩ (by repeat' constructor) ?_))))))))))))
  rintro ⟨i, u⟩ ⟨hi, au, cu, hu⟩
  dsimp only
  dsimp only at hi hu
  subst hu
  have hev := parts_ev τ zx ((subs.take i).filter isDel)
  have hfl := List.length_filter_le isDel (subs.take i)
  rw [List.length_take] at hfl
  have hok : (partsZ τ zx ((subs.take i).filter isDel)).1.Ok (N + subs.length) := (ho.parts zx _ (fun w hw => (hx.each w (List.mem_of_mem_take (List.mem_filter.1 hw).1)).few)).more (by omega)
  refine .seq (.sm rfl (.u (.fieldAddr rfl fo_43_7) (.q (.as (v' := .slice asb subs.length csb) (by exact esub) (.ld rfl ag_41)) rfl (.q (.slen rfl Tryz.underlying41 rfl) rfl (.ui rfl rfl rfl (.nt (.condD rfl (fun h41 => ?_) (fun h41 => ?_))))))))
  ·have hi2 : i < subs.length := by omega
   refine .rdShape (p := p) hrd (by repeat' constructor) (by omega) fun bs os e1 => ?_
   subst e1
   have hys := hx.each _ (List.getElem_mem hi2)
   refine .sk (.seq (.block (.sr (.u (.fieldAddr rfl fo_43_0) (.u (.ld rfl ag_3) (.q (.as (v' := .bool false) (by exact congrArg Value.bool (decide_eq_false (by omega))) (.int rfl rfl rfl)) rfl (.m rfl (.grun (t := 47) rfl rfl rfl (.u (.fieldAddr rfl fo_43_7) (.grun (t := 47) rfl rfl rfl (.q (.as (v' := .slice (some ⟨bs, os, none⟩) subs.length csb) (by exact esub) (.ld rfl ag_41)) rfl (.grun (t := 47) rfl rfl rfl (.m rfl (.grun (t := 47) rfl rfl rfl (.q (.indexAddr rfl rfl el_41 (by omega)) rfl (.grun (t := 47) rfl rfl rfl (.u (.fieldAddr rfl fo_43_0) (.grun (t := 47) rfl rfl rfl (.q (.loadRd (sz := 8) (j := i * 8 + 0) (p := p) rfl ag_3 (by repeat' constructor) hrd (by omega) ((flatMap_cell (f := ptC) (sz := 8) (l := subs) (i := i) (k := 0) (fun _ _ => rfl) (by omega) (by decide)).trans rfl)) rfl ?_)))))))))))))))))))
   refine .grun (t := 47) rfl rfl rfl (.ui rfl rfl rfl (.u (.pickF rfl rfl) (.nt (.condD rfl (fun h55 => ?_) (fun h55 => ?_)))))
   ·refine .seq (.draw [8] [[0, 1, 2, 3, 4, 5, 6, 7, 8], [9]] mixed (by kernel_rfl) (.g0 (.mv rfl rfl (.kv rfl (.fieldAddr rfl fo_43_7) (.kv rfl (.as (v' := .slice (some ⟨bs, os, none⟩) subs.length csb) (by exact esub) (.ld rfl ag_41)) (.mv rfl rfl (.kv rfl (.indexAddr rfl rfl el_41 (by omega)) (.kv rfl (.loadRdA (sz := 8) (j := i * 8) (k := 8) (p := p) (vs := ptC subs[i]) rfl ag_43 (by repeat' constructor) hrd (by simp) (by omega) (by omega) (flatMap_at (f := ptC) (sz := 8) (fun _ _ => rfl) (by omega))) (.kv rfl (.fieldAddr rfl fo_54_0) (.kv rfl (.ld rfl ag_3) (.hh rfl (.c Tryz.func71 [_, _, _] (rpart_spec x (partsZ τ zx ((subs.take i).filter isDel)).1 subs[i] zx p hys (N + subs.length) hok (by omega))) ?_)))))))))))
    rintro v L' ⟨a15, c15, rfl, rfl⟩
    refine D.ph (.g0 (.kv rfl (.assign rfl) (.pf (.region (.m rfl (.m rfl (.oq (.append (n := (partsZ τ zx ((subs.take i).filter isDel)).2.length) (m := (partZ (partsZ τ zx ((subs.take i).filter isDel)).1 subs[i] zx).2.length) (ys := (partZ (partsZ τ zx ((subs.take i).filter isDel)).1 subs[i] zx).2.flatMap evC) (p := slR 184 3 (.slice a15 (partZ (partsZ τ zx ((subs.take i).filter isDel)).1 subs[i] zx).2.length c15) (partZ (partsZ τ zx ((subs.take i).filter isDel)).1 subs[i] zx).2.length ((partZ (partsZ τ zx ((subs.take i).filter isDel)).1 subs[i] zx).2.flatMap evC)) rfl rfl rfl el_71 (.inl ⟨_, Tryz.underlying71⟩) ze_184 rfl rfl ?hc76 ?hr77 ?hb78 (by decide)) ?_)))))))
    case hc76 => exact evC_cells _
    case hr77 => exact fun h hp => slR_rd hp
    case hb78 => have := part_ev (partsZ τ zx ((subs.take i).filter isDel)).1 subs[i] zx; omega
    rintro v L' ⟨⟨a16_2, c16_2, rfl⟩, rfl⟩
    refine .a rfl (.nil (.blk_n (.then_n (.region (.m rfl (.q (.add rfl rfl (by omega)) rfl (.an rfl ?_)))))))
    have hst := filter_take_yes (f := isDel) hi2 (by unfold isDel; rw [decide_eq_true h55])
    refine .rfCast (x := x) (τ' := (partsZ τ zx ((subs.take (i + 1)).filter isDel)).1) (by repeat' constructor) (by rw [hst, parts_snoc]) (.slCast (T := 184) (sz := 3) (m' := (partsZ τ zx ((subs.take (i + 1)).filter isDel)).2.length) (xs' := (partsZ τ zx ((subs.take (i + 1)).filter isDel)).2.flatMap evC) (by repeat' constructor) (by rw [hst, parts_snoc]; simp) (by rw [hst, parts_snoc]; simp) ?_)
    exact .rk ((i + 1, .slice a16_2 ((partsZ τ zx ((subs.take i).filter isDel)).2.length + (partZ (partsZ τ zx ((subs.take i).filter isDel)).1 subs[i] zx).2.length) c16_2)) (⟨by dsimp only; omega, _, _, by rw [hst, parts_snoc, List.length_append]⟩) (by dsimp only; omega) ⟨rfl, rfl, rfl, rfl, rfl, rfl, rfl, rfl, trivial⟩
   refine .skip (.blk_n (.then_n (.region (.m rfl (.q (.add rfl rfl (by omega)) rfl (.an rfl ?_))))))
   have hst := filter_take_no (f := isDel) hi2 (by unfold isDel; rw [decide_eq_false h55])
   refine .rfCast (x := x) (τ' := (partsZ τ zx ((subs.take (i + 1)).filter isDel)).1) (by repeat' constructor) (by rw [hst]) (.slCast (T := 184) (sz := 3) (m' := (partsZ τ zx ((subs.take (i + 1)).filter isDel)).2.length) (xs' := (partsZ τ zx ((subs.take (i + 1)).filter isDel)).2.flatMap evC) (by repeat' constructor) (by rw [hst]) (by rw [hst]) ?_)
   exact .rk ((i + 1, .slice au (partsZ τ zx ((subs.take i).filter isDel)).2.length cu)) (⟨by dsimp only; omega, _, _, by rw [hst]⟩) (by dsimp only; omega) ⟨rfl, rfl, rfl, rfl, rfl, rfl, rfl, rfl, trivial⟩
  have hii : i = subs.length := by omega
  rw [hii, List.take_length]
  refine .exit (.then_e (.then_e (.blk_e (.then_n (.sr (.u (.fieldAddr rfl fo_43_0) (.u (.ld rfl ag_3) (.q (.as (v' := .bool true) (by exact congrArg Value.bool (decide_eq_true hk6)) (.int rfl rfl rfl)) rfl (.nt (.condT rfl (.region (.m rfl (.u (.fieldAddr rfl fo_43_4) (.u (.ld rfl ag_3) (.cv Tryz.func78 [_, _] (rdrop_spec x (partsZ τ zx (subs.filter isDel)).1 y.own (by have := (ho.parts zx (subs.filter isDel) (fun w hw => (hx.each w (List.mem_filter.1 hw).1).few)).sfew; have := List.length_filter_le isDel subs; omega)) ?_)))))))))))))))
  refine .nil (.blk_n (.then_n (.seq ?_)))
  have hz : (applyZ τ zx y subs) = (zxT (dropS (partsZ τ zx (subs.filter isDel)).1 y.own) zx, ((partsZ τ zx (subs.filter isDel)).2, 0)) := by rw [apply_zx]; unfold applyZ0; rw [if_neg h20, if_pos hk6]
  refine .rtOpen (x := x) (τ := (dropS (partsZ τ zx (subs.filter isDel)).1 y.own)) (by repeat' constructor) fun an cn as1 cs l hl => (.region (.m rfl (.u (.fieldAddr rfl fo_54_0) (.u (.ld rfl ag_3) (.nf rfl fo_110_2 (.st rfl rfl rfl sz_3 ?_))))))
  refine .nil (.rtFold (x := x) (τ := (zxT (dropS (partsZ τ zx (subs.filter isDel)).1 y.own) zx)) (l := l) hl (by repeat' constructor) rfl rfl rfl rfl rfl (.then_n (.sm rfl (.m rfl (.a rfl (.an rfl (.ret (.rfCast (x := x) (τ' := (applyZ τ zx y subs).1) (by repeat' constructor) (by rw [hz]) (.slCast (T := 184) (sz := 3) (m' := (applyZ τ zx y subs).2.1.length) (xs' := (applyZ τ zx y subs).2.1.flatMap evC) (by repeat' constructor) (by (rw [hz]; try rfl)) (by (rw [hz]; try rfl)) ?_)))))))))
  exact .dn rfl rfl ⟨_, _, rfl, by rw [hz], ⟨_, _, by (rw [hz]; try rfl)⟩, rfl⟩
 refine .q (.as (v' := .bool false) (by exact congrArg Value.bool (decide_eq_false hk6)) (.int rfl rfl rfl)) rfl (.an rfl (.condF rfl (.region ?_)))
 rcases Decidable.em (y.kind = 7) with hk7 | hk7
 ·refine .q (.as (v' := .bool true) (by exact congrArg Value.bool (decide_eq_true hk7)) (.int rfl rfl rfl)) rfl (.an rfl (.condT rfl (.seq (.sr (.an rfl (.block (.add (slR_nil 184 3) (.rfCast (x := x) (τ' := (partsZ τ zx (subs.take 0)).1) (by repeat' constructor) (by rw [List.take_zero]; rfl) (.slCast (T := 184) (sz := 3) (m' := (partsZ τ zx (subs.take 0)).2.length) (xs' := (partsZ τ zx (subs.take 0)).2.flatMap evC) (by repeat' constructor) (by rw [List.take_zero]; rfl) (by rw [List.take_zero]; rfl) (.loopK (ι := Nat × Value) (fun q E => (9, vint q.1) :: (7, q.2) :: E) (fun q => [refR x (partsZ τ zx (subs.take q.1)).1, slR 184 3 q.2 (partsZ τ zx (subs.take q.1)).2.length ((partsZ τ zx (subs.take q.1)).2.flatMap evC)]) (fun q => q.1 ≤ subs.length ∧ ∃ a c, q.2 = .slice a (partsZ τ zx (subs.take q.1)).2.length c) (fun q => subs.length - q.1) (0, .slice none 0 0) (ts := [0, 3, 4, 5, 6, 8]) (.cons rfl (.cons rfl (.cons rfl (.cons rfl (.cons rfl (.cons rfl (.nil))))))) (⟨Nat.zero_le _, none, 0, by rw [List.take_zero]; rfl⟩) ⟨rfl, rfl, rfl, rfl, rfl, rfl, rfl, rfl, trivial⟩ (by repeat' constructor) ?_))))))))))
  rintro ⟨i, u⟩ ⟨hi, au, cu, hu⟩
  dsimp only
  dsimp only at hi hu
  subst hu
  have hev := parts_ev τ zx (subs.take i)
  have hfl := List.length_take_le i subs
  have hok : (partsZ τ zx (subs.take i)).1.Ok (N + subs.length) := (ho.parts zx _ (fun w hw => (hx.each w (List.mem_of_mem_take hw)).few)).more (by rw [List.length_take]; omega)
  refine .seq (.sm rfl (.u (.fieldAddr rfl fo_43_7) (.q (.as (v' := .slice asb subs.length csb) (by exact esub) (.ld rfl ag_41)) rfl (.q (.slen rfl Tryz.underlying41 rfl) rfl (.ui rfl rfl rfl (.nt (.condD rfl (fun h41 => ?_) (fun h41 => ?_))))))))
  ·have hi2 : i < subs.length := by omega
   refine .rdShape (p := p) hrd (by repeat' constructor) (by omega) fun bs os e1 => ?_
   subst e1
   have hys := hx.each _ (List.getElem_mem hi2)
   refine .sk (.seq (.block (.sr (.u (.fieldAddr rfl fo_43_0) (.u (.ld rfl ag_3) (.q (.as (v' := .bool true) (by exact congrArg Value.bool (decide_eq_true hk7)) (.int rfl rfl rfl)) rfl (.m rfl (.gk (.gk (.gk (.gk (.gk (.gk (.gk (.u (.pickT rfl rfl) (.nt (.condT rfl (.seq (.draw [8] [[0, 1, 2, 3, 4, 5, 6, 7, 8], [9]] mixed (by kernel_rfl) (.g0 (.mv rfl rfl (.kv rfl (.fieldAddr rfl fo_43_7) (.kv rfl (.as (v' := .slice (some ⟨bs, os, none⟩) subs.length csb) (by exact esub) (.ld rfl ag_41)) (.mv rfl rfl (.kv rfl (.indexAddr rfl rfl el_41 (by omega)) (.kv rfl (.loadRdA (sz := 8) (j := i * 8) (k := 8) (p := p) (vs := ptC subs[i]) rfl ag_43 (by repeat' constructor) hrd (by simp) (by omega) (by omega) (flatMap_at (f := ptC) (sz := 8) (fun _ _ => rfl) (by omega))) ?_))))))))))))))))))))))))))
   refine D.kv rfl (.fieldAddr rfl fo_54_0) (.kv rfl (.ld rfl ag_3) (.hh rfl (.c Tryz.func71 [_, _, _] (rpart_spec x (partsZ τ zx (subs.take i)).1 subs[i] zx p hys (N + subs.length) hok (by omega))) ?_))
   rintro v L' ⟨a15, c15, rfl, rfl⟩
   refine D.ph (.g0 (.kv rfl (.assign rfl) (.pf (.region (.m rfl (.m rfl (.oq (.append (n := (partsZ τ zx (subs.take i)).2.length) (m := (partZ (partsZ τ zx (subs.take i)).1 subs[i] zx).2.length) (ys := (partZ (partsZ τ zx (subs.take i)).1 subs[i] zx).2.flatMap evC) (p := slR 184 3 (.slice a15 (partZ (partsZ τ zx (subs.take i)).1 subs[i] zx).2.length c15) (partZ (partsZ τ zx (subs.take i)).1 subs[i] zx).2.length ((partZ (partsZ τ zx (subs.take i)).1 subs[i] zx).2.flatMap evC)) rfl rfl rfl el_71 (.inl ⟨_, Tryz.underlying71⟩) ze_184 rfl rfl ?hc126 ?hr127 ?hb128 (by decide)) ?_)))))))
   case hc126 => exact evC_cells _
   case hr127 => exact fun h hp => slR_rd hp
   case hb128 => have := part_ev (partsZ τ zx (subs.take i)).1 subs[i] zx; omega
   rintro v L' ⟨⟨a16_2, c16_2, rfl⟩, rfl⟩
   refine .a rfl (.nil (.blk_n (.then_n (.region (.m rfl (.q (.add rfl rfl (by omega)) rfl (.an rfl ?_)))))))
   have hst := List.take_succ_eq_append_getElem hi2
   refine .rfCast (x := x) (τ' := (partsZ τ zx (subs.take (i + 1))).1) (by repeat' constructor) (by rw [hst, parts_snoc]) (.slCast (T := 184) (sz := 3) (m' := (partsZ τ zx (subs.take (i + 1))).2.length) (xs' := (partsZ τ zx (subs.take (i + 1))).2.flatMap evC) (by repeat' constructor) (by rw [hst, parts_snoc]; simp) (by rw [hst, parts_snoc]; simp) ?_)
   exact .rk ((i + 1, .slice a16_2 ((partsZ τ zx (subs.take i)).2.length + (partZ (partsZ τ zx (subs.take i)).1 subs[i] zx).2.length) c16_2)) (⟨by dsimp only; omega, _, _, by rw [hst, parts_snoc, List.length_append]⟩) (by dsimp only; omega) ⟨rfl, rfl, rfl, rfl, rfl, rfl, rfl, rfl, trivial⟩
  have hii : i = subs.length := by omega
  rw [hii, List.take_length]
  refine .exit (.then_e (.then_e (.blk_e (.then_n (.sr (.u (.fieldAddr rfl fo_43_0) (.u (.ld rfl ag_3) (.q (.as (v' := .bool false) (by exact congrArg Value.bool (decide_eq_false (by omega))) (.int rfl rfl rfl)) rfl (.nt (.condF rfl (.skip (.blk_n (.then_n (.seq ?_))))))))))))))
  have hz : (applyZ τ zx y subs) = (zxT ((partsZ τ zx subs).1) zx, ((partsZ τ zx subs).2, 0)) := by rw [apply_zx]; unfold applyZ0; rw [if_neg h20, if_neg hk6, if_pos hk7]
  refine .rtOpen (x := x) (τ := ((partsZ τ zx subs).1)) (by repeat' constructor) fun an cn as1 cs l hl => (.region (.m rfl (.u (.fieldAddr rfl fo_54_0) (.u (.ld rfl ag_3) (.nf rfl fo_110_2 (.st rfl rfl rfl sz_3 ?_))))))
  refine .nil (.rtFold (x := x) (τ := (zxT ((partsZ τ zx subs).1) zx)) (l := l) hl (by repeat' constructor) rfl rfl rfl rfl rfl (.then_n (.sm rfl (.m rfl (.a rfl (.an rfl (.ret (.rfCast (x := x) (τ' := (applyZ τ zx y subs).1) (by repeat' constructor) (by rw [hz]) (.slCast (T := 184) (sz := 3) (m' := (applyZ τ zx y subs).2.1.length) (xs' := (applyZ τ zx y subs).2.1.flatMap evC) (by repeat' constructor) (by (rw [hz]; try rfl)) (by (rw [hz]; try rfl)) ?_)))))))))
  exact .dn rfl rfl ⟨_, _, rfl, by rw [hz], ⟨_, _, by (rw [hz]; try rfl)⟩, rfl⟩
 refine .q (.as (v' := .bool false) (by exact congrArg Value.bool (decide_eq_false hk7)) (.int rfl rfl rfl)) rfl (.an rfl (.condF rfl (.sr (.ui rfl rfl rfl (.an rfl (.condD rfl (fun h75 => ?_) (fun h75 => ?_)))))))
 ·refine .region (.u (.fieldAddr rfl fo_43_6) (.u (.ld rfl ag_40) (.a rfl (.nil (.blk_n (.then_n (.seq (.add (slR_nil 184 3) ?_))))))))
  have hz : (applyZ τ zx y subs) = (zxT (τ) zx, ([], y.err)) := by rw [apply_zx]; unfold applyZ0; rw [if_neg h20, if_neg hk6, if_neg hk7, if_pos h75]
  refine .rtOpen (x := x) (τ := (τ)) (by repeat' constructor) fun an cn as1 cs l hl => (.region (.m rfl (.u (.fieldAddr rfl fo_54_0) (.u (.ld rfl ag_3) (.nf rfl fo_110_2 (.st rfl rfl rfl sz_3 ?_))))))
  refine .nil (.rtFold (x := x) (τ := (zxT (τ) zx)) (l := l) hl (by repeat' constructor) rfl rfl rfl rfl rfl (.then_n (.sm rfl (.m rfl (.a rfl (.an rfl (.ret (.rfCast (x := x) (τ' := (applyZ τ zx y subs).1) (by repeat' constructor) (by rw [hz]) (.slCast (T := 184) (sz := 3) (m' := (applyZ τ zx y subs).2.1.length) (xs' := (applyZ τ zx y subs).2.1.flatMap evC) (by repeat' constructor) (by (rw [hz]; try rfl)) (by (rw [hz]; try rfl)) ?_)))))))))
  exact .dn rfl rfl ⟨_, _, rfl, by rw [hz], ⟨_, _, by (rw [hz]; try rfl)⟩, rfl⟩
 refine .region (.m rfl (.q (.loadAs (vs := ptC y) rfl ag_43 (by repeat' constructor) (by simp [ptC]) rfl) rfl (.u (.fieldAddr rfl fo_54_0) (.u (.ld rfl ag_3) (.oq (.c Tryz.func71 [_, _, _] (rpart_spec x τ y zx p hx.own N ho (by omega))) ?_)))))
 rintro v L' ⟨a5, c5, rfl, rfl⟩
 refine .a rfl (.nil (.blk_n (.then_n (.seq ?_))))
 have hz : (applyZ τ zx y subs) = (zxT ((partZ τ y zx).1) zx, ((partZ τ y zx).2, 0)) := by rw [apply_zx]; unfold applyZ0; rw [if_neg h20, if_neg hk6, if_neg hk7, if_neg h75]
 refine .rtOpen (x := x) (τ := ((partZ τ y zx).1)) (by repeat' constructor) fun an cn as1 cs l hl => (.region (.m rfl (.u (.fieldAddr rfl fo_54_0) (.u (.ld rfl ag_3) (.nf rfl fo_110_2 (.st rfl rfl rfl sz_3 ?_))))))
 refine .nil (.rtFold (x := x) (τ := (zxT ((partZ τ y zx).1) zx)) (l := l) hl (by repeat' constructor) rfl rfl rfl rfl rfl (.then_n (.sm rfl (.m rfl (.a rfl (.an rfl (.ret (.rfCast (x := x) (τ' := (applyZ τ zx y subs).1) (by repeat' constructor) (by rw [hz]) (.slCast (T := 184) (sz := 3) (m' := (applyZ τ zx y subs).2.1.length) (xs' := (applyZ τ zx y subs).2.1.flatMap evC) (by repeat' constructor) (by (rw [hz]; try rfl)) (by (rw [hz]; try rfl)) ?_)))))))))
 exact .dn rfl rfl ⟨_, _, rfl, by rw [hz], ⟨_, _, by (rw [hz]; try rfl)⟩, rfl⟩
theorem trees12_spec (va : Value) (es : List En) (q : HP) (hA : EntsA q va es) : Fn Tryz.prog 11 #[va] [q] fun v L => ∃ t x, v = .tuple #[vptr t, vptr x] ∧ L = [q, treeR t (appL newT es), refR x (appL newT es)] := by
 refine Fn.intro Tryz.func11 rfl rfl fun F W => ?_
 refine .rdAny (p := q) hA.cells (by repeat' constructor) fun aa ca ee _ => ?_
 subst ee
 have hlen := hA.len
 refine .sr (.a rfl (.an rfl (.sr (.oq (.c Tryz.func26 [] (trnew_spec)) ?_))))
 rintro v L' ⟨t, rfl, rfl⟩
 refine .an rfl (.sr (.oq (.c Tryz.func27 [] (rfnew_spec)) ?_))
 rintro v L' ⟨x, rfl, rfl⟩
 refine .an rfl (.seq (.sr (.an rfl (.block (.loopK (ι := Nat) (fun q E => (6, vint q) :: E) (fun q => [treeR t (appL newT (es.take q)), refR x (appL newT (es.take q))]) (fun q => q ≤ es.length) (fun q => es.length - q) (0) (ts := [0, 2, 3, 4, 5]) (.cons rfl (.cons rfl (.cons rfl (.cons rfl (.cons rfl (.nil)))))) (Nat.zero_le _) ⟨rfl, rfl, rfl, rfl, rfl, rfl, trivial⟩ (by repeat' constructor) ?_)))))
 rintro i hi
 refine .seq (.sm rfl (.m rfl (.q (.slen rfl Tryz.underlying22 rfl) rfl (.ui rfl rfl rfl (.m rfl (.dec (t := 13) rfl (fun h4_13 => ?_) (fun h4_13 => ?_)))))))
 ·refine .kDT (t := 12) rfl h4_13 (.grun (t := 13) rfl rfl rfl (.m rfl (.grun (t := 13) rfl rfl rfl (.q (.ptrne rfl rfl Tryz.underlying30) rfl (.u (.pickT rfl rfl) (.nt (.condT rfl (.sk (.seq (.block (.sr ?_)))))))))))
  have hi2 : i < es.length := by omega
  refine .rdShape (p := q) hA.cells (by repeat' constructor) (by omega) fun ba oa ee => ?_
  subst ee
  have hst : appL newT (es.take (i + 1)) = appE (appL newT (es.take i)) es[i] := by unfold appL; rw [List.take_succ_eq_append_getElem hi2, List.foldl_append]; rfl
  refine .m rfl (.m rfl (.m rfl (.q (.indexAddr rfl rfl el_22 (by omega)) rfl (.q (.loadRdA (sz := 11) (j := i * 11) (k := 11) (p := q) (vs := enC es[i]) rfl ag_54 (by repeat' constructor) hA.cells (by simp) (by omega) (by omega) (flatMap_at (f := enC) (sz := 11) (fun _ _ => rfl) (by omega))) rfl (.oq (.call Tryz.func33 rfl rfl (vs := [_, _]) rfl (trapply_spec t (appL newT (es.take i)) es[i].zx es[i].ses es[i].xid es[i].x es[i].subs q (hA.tx _ (List.getElem_mem hi2)) (1 + 2097152) (hA.ok newT_ok i) (by have := (hA.tx _ (List.getElem_mem hi2)).few; omega))) ?_)))))
  rintro v L' ⟨u6, e6, rfl, -, ⟨a6, c6, rfl⟩, rfl⟩; rw [show (applyZ (appL newT (es.take i)) es[i].zx es[i].x es[i].subs).1 = appL newT (es.take (i + 1)) from hst.symm]
  refine .nt (.region (.m rfl (.m rfl (.m rfl (.q (.indexAddr rfl rfl el_22 (by omega)) rfl (.q (.loadRdA (sz := 11) (j := i * 11) (k := 11) (p := q) (vs := enC es[i]) rfl ag_54 (by repeat' constructor) hA.cells (by simp) (by omega) (by omega) (flatMap_at (f := enC) (sz := 11) (fun _ _ => rfl) (by omega))) rfl (.oq (.call Tryz.func34 rfl rfl (vs := [_, _]) rfl (rapply_spec x (appL newT (es.take i)) es[i].zx es[i].ses es[i].xid es[i].x es[i].subs q (hA.tx _ (List.getElem_mem hi2)) (1 + 2097152) (hA.ok newT_ok i) (by have := (hA.tx _ (List.getElem_mem hi2)).few; omega))) ?_)))))))
  rintro v L' ⟨u7, e7, rfl, -, ⟨a7, c7, rfl⟩, rfl⟩; rw [show (applyZ (appL newT (es.take i)) es[i].zx es[i].x es[i].subs).1 = appL newT (es.take (i + 1)) from hst.symm]
  refine .nil (.blk_n (.then_n (.region (.m rfl (.q (.add rfl rfl (by omega)) rfl (.an rfl ?_))))))
  exact .rk (i + 1) (by omega) (by omega) ⟨rfl, rfl, rfl, rfl, rfl, rfl, trivial⟩
 refine .kDF (t := 12) rfl h4_13 (.gk (.gk (.u (.pickF rfl rfl) (.nt (.condF rfl (.exit (.then_e (.then_e (.blk_e (.then_n (.sm rfl (.m rfl (.a rfl (.an rfl (.ret ?_)))))))))))))))
 have hie : i = es.length := by omega
 have hta : es.take i = es := by rw [hie, List.take_length]
 rw [hta]
 exact .dn rfl rfl ⟨t, x, rfl, rfl⟩
theorem txt_len (s : Bs) : (txtB s).length = (cntB s.length).length + s.length := by unfold txtB; rw [List.length_append]
theorem txs_each {s : Bs} (h : s.length ≤ 1048586) : (txtB s).length ≤ 1048596 := by
 have h1 := sev_len10 (u := s.length) (by have : U64 = 18446744073709551616 := rfl; omega)
 rw [txt_len]
 unfold cntB
 omega
theorem nums_most {l : List Int} (h : ∀ n ∈ l, I64 n) : (l.flatMap numB).length ≤ l.length * 10 := fm_most8 (fun n hn => numB_len8 (h n hn))
theorem same_pl {y z : Pt} {l m : List Pt} (h1 : y.pl = z.pl) (h2 : l.map Pt.pl = m.map Pt.pl) : enB ⟨0, 0, 0, y, l⟩ = enB ⟨0, 0, 0, z, m⟩ := by
 rw [← enB_pl ⟨0, 0, 0, y, l⟩, ← enB_pl ⟨0, 0, 0, z, m⟩]
 have e : (⟨0, 0, 0, y, l⟩ : En).pl = (⟨0, 0, 0, z, m⟩ : En).pl := by
  show (⟨0, 0, 0, y.pl, l.map Pt.pl⟩ : En) = ⟨0, 0, 0, z.pl, m.map Pt.pl⟩
  rw [h1, h2]
 rw [e]
theorem part_i {τ : Tr} {u : Who} {r : Rq} {p : HP} {iv : Value} (h : WiA p u iv r) (ha : AclW r.acl) : PtI (partP τ u r).1 := by
 have h1 := part_n τ u h.ses (by have := h.rq.data; omega) ha
 have h2 := part_path h τ
 have h3 := part_acl h τ
 have hu : U64 = 18446744073709551616 := rfl
 refine ⟨?_, h1.own, h1.num, ?_, by omega, by have := h1.data; omega, by omega, fun a ha => (h1.acl.each a ha).1⟩
 ·have hs : ∀ k : Int, 0 ≤ k ∧ k ≤ 8 → I64 k := fun k hk => ⟨by omega, by omega⟩
  unfold partP
  split
  ·exact hs 1 (by omega)
  split
  ·exact hs 2 (by omega)
  split
  ·unfold nodeX
   split
   ·exact hs 3 (by omega)
   split
   ·exact hs 4 (by omega)
   ·exact hs 0 (by omega)
  ·exact hs 0 (by omega)
 ·unfold partP
  split
  ·exact I64.zero
  split
  ·exact I64.zero
  split
  ·unfold nodeX
   split
   ·exact I64.zero
   split <;> exact I64.zero
  ·exact I64.zero
structure PtR (y : Pt) : Prop where
 i : PtI y
 acl : (aclB y.acl).length ≤ 33000000
 many : y.acl.length ≤ 1048576
 path : y.path.length ≤ 1048576
 data : y.data.length ≤ 1048576
theorem numB_ten {n : Int} (h : I64 n) : (numB n).length ≤ 10 := numB_len8 h
theorem ptR_len {y : Pt} (h : PtR y) : (ptB y).length ≤ 35200000 := by
 have h1 := numB_ten h.i.kind
 have h2 := txtB_len8 (s := y.data) h.data
 have h3b : (txtB y.path).length ≤ 1048596 := by
  have g := sev_len10 (u := y.path.length) (by have := h.path; have : U64 = 18446744073709551616 := rfl; omega)
  have := h.path
  unfold txtB cntB
  rw [List.length_append]; omega
 have h5 := numB_ten h.i.own
 have h6 := numB_ten h.i.num
 have h7 := numB_ten h.i.err
 have h8 := h.acl
 unfold ptB
 simp only [List.flatMap_cons, List.flatMap_nil, List.length_append, List.length_nil]
 omega
theorem res_len {y : Pt} {ys : List Pt} (h : PtR y) (hs : ∀ z ∈ ys, PtR z) (hn : ys.length ≤ 8) : (enB ⟨0, 0, 0, y, ys⟩).length ≤ 1073741824 := by
 have h0 := numB_ten I64.zero
 have h1 := ptR_len h
 have h2 := fm_most8 (f := ptB) (c := 35200000) (l := ys) (fun z hz => ptR_len (hs z hz))
 have h3 := sev_len10 (u := ys.length) (by have : U64 = 18446744073709551616 := rfl; omega)
 have h4 : ys.length * 35200000 ≤ 8 * 35200000 := Nat.mul_le_mul_right _ hn
 rw [enB_len]
 unfold subsB cntB
 rw [List.length_append]
 simp only [List.flatMap_cons, List.flatMap_nil, List.length_append, List.length_nil]
 omega
theorem big_get12 {α : Type} {f : α → HP} : ∀ {l : List α} {x : α} {h : Hp}, x ∈ l → bigR f l h → ∃ h1, (∀ b o, h1 b = some o → h b = some o) ∧ f x h1
 | y :: l, x, h, hx, hp => by
  have hq := big_cons hp
  rcases List.mem_cons.1 hx with rfl | hx
  ·exact sep_head hq
  ·obtain ⟨h1, a1, q1⟩ := sep_head (sep_perm (List.Perm.swap _ _ _) hq)
   obtain ⟨h2, a2, q2⟩ := big_get12 hx q1
   exact ⟨h2, fun b o hb => a1 b o (a2 b o hb), q2⟩
 | [], _, _, hx, _ => by cases hx
theorem ent_acl {e : En} {h : Hp} (hp : entR e h) : rdS 2 h e.x.aclV e.x.acl.length (e.x.acl.flatMap acC) := by
 obtain ⟨h1, a1, q1⟩ := sep_head hp
 exact rdS_mono (slR_rd q1) a1
theorem ent_subs {e : En} {h : Hp} (hp : entR e h) : rdS 8 h e.x.subsV e.subs.length (e.subs.flatMap ptC) := by
 obtain ⟨h1, a1, q1⟩ := sep_head (sep_perm (List.Perm.swap _ _ _) hp)
 exact rdS_mono (slR_rd q1) a1
theorem ent_each {e : En} {h : Hp} (hp : entR e h) {y : Pt} (hy : y ∈ e.subs) : rdS 2 h y.aclV y.acl.length (y.acl.flatMap acC) := by
 have hq : sep [bigR aclR e.subs, aclR e.x, subsR e] h := sep_perm (by
  refine List.Perm.trans (List.Perm.cons _ (List.Perm.swap _ _ _)) (List.Perm.swap _ _ _)) hp
 obtain ⟨h1, a1, q1⟩ := sep_head hq
 obtain ⟨h2, a2, q2⟩ := big_get12 hy q1
 exact rdS_mono (slR_rd q2) (fun b o hb => a1 b o (a2 b o hb))
theorem res_L {y : Pt} {ys : List Pt} (h : PtR y) (hs : ∀ z ∈ ys, PtR z) (hn : ys.length ≤ 8) (hc : isCell y.aclV = true ∧ isCell y.subsV = true) (hcs : ∀ z ∈ ys, isCell z.aclV = true ∧ z.subsV = nilV) : EnL (entR ⟨0, 0, 0, y, ys⟩) ⟨0, 0, 0, y, ys⟩ := by
 have hu : U64 = 18446744073709551616 := rfl
 refine ⟨⟨⟨I64.zero, I64.zero, I64.zero, h.i, by show ys.length < U64; omega, fun z hz => (hs z hz).i⟩, fun _ hp => ent_acl hp, fun _ hp => ent_subs hp, fun z hz _ hp => ent_each hp hz⟩, res_len h hs hn, ⟨by show ys.length ≤ _; omega, h.many, fun z hz => (hs z hz).many⟩, hc, fun z hz => ⟨(hcs z hz).1, by rw [(hcs z hz).2]; rfl⟩⟩
theorem when_code {b : Prop} [Decidable b] {e : Int} (h : 0 ≤ e ∧ e ≤ 110) : 0 ≤ whenZ b e ∧ whenZ b e ≤ 110 := by
 show 0 ≤ (if b then e else 0) ∧ (if b then e else 0) ≤ 110
 split <;> omega
theorem check_code (p : Bs) : 0 ≤ checkZ p ∧ checkZ p ≤ 110 := by rcases check_err p with h | h | h <;> omega
theorem first_code {l : List Int} (h : ∀ e ∈ l, 0 ≤ e ∧ e ≤ 110) : 0 ≤ firstZ l ∧ firstZ l ≤ 110 := by
 rcases first_mem l with g | g
 ·omega
 ·exact h _ g
theorem wrong_code (r : Rq) : 0 ≤ wrongE r ∧ wrongE r ≤ 110 := by
 unfold wrongE
 split
 ·exact when_code (by omega)
 split
 ·exact when_code (by omega)
 ·omega
theorem part_code (τ : Tr) (u : Who) (r : Rq) : 0 ≤ (partP τ u r).2 ∧ (partP τ u r).2 ≤ 110 := by
 unfold partP
 split
 ·refine first_code fun e he => ?_
  simp only [createE, List.mem_cons, List.not_mem_nil, or_false] at he
  rcases he with rfl | rfl | rfl | rfl | rfl | rfl | rfl | rfl | rfl | rfl <;> first | exact check_code _ | exact when_code (by omega)
 split
 ·refine first_code fun e he => ?_
  simp only [eraseE, List.mem_cons, List.not_mem_nil, or_false] at he
  rcases he with rfl | rfl | rfl | rfl | rfl | rfl <;> first | exact check_code _ | exact when_code (by omega)
 split
 ·refine first_code fun e he => ?_
  simp only [nodeE, List.mem_cons, List.not_mem_nil, or_false] at he
  rcases he with rfl | rfl | rfl | rfl | rfl <;> first | exact check_code _ | exact wrong_code _ | exact when_code (by omega)
 ·exact ⟨by show (0 : Int) ≤ 110; decide, by show (110 : Int) ≤ 110; decide⟩
theorem refusal_R {e n : Int} (he : I64 e) (hn : I64 n) : PtR (refusal e n) :=
 ⟨⟨⟨by show (-9223372036854775808 : Int) ≤ 8; decide, by show (8 : Int) ≤ 9223372036854775807; decide⟩, I64.zero, hn, he, by show 0 < U64; decide, by show 0 < U64; decide, by show 0 < U64; decide, fun a ha => by cases ha⟩, acl_nil_w.long, Nat.zero_le _, Nat.zero_le _, Nat.zero_le _⟩
theorem part_R {τ : Tr} {u : Who} {r : Rq} {p : HP} {iv : Value} (h : WiA p u iv r) (ha : AclW r.acl) : PtR (partP τ u r).1 := by
 have h1 := part_n τ u h.ses (by have := h.rq.data; omega) ha
 exact ⟨part_i h ha, h1.acl.long, part_acl h τ, part_path h τ, h1.data⟩
theorem PtR.of {y z : Pt} (e : y.pl = z.pl) (h : PtR z) : PtR y := by
 have hk : PtR z.pl := ⟨⟨h.i.kind, h.i.own, h.i.num, h.i.err, h.i.path, h.i.data, h.i.many, h.i.acl⟩, h.acl, h.many, h.path, h.data⟩
 rw [← e] at hk
 exact ⟨⟨hk.i.kind, hk.i.own, hk.i.num, hk.i.err, hk.i.path, hk.i.data, hk.i.many, hk.i.acl⟩, hk.acl, hk.many, hk.path, hk.data⟩
theorem txn_R {τ : Tr} {u : Who} {r : Rq} {p : HP} {iv : Value} (h : WiA p u iv r) (ha : AclW r.acl) (hk : r.kind ≠ 6 ∧ r.kind ≠ 7 ∧ r.kind ≠ 8) (subs : List Rq) : PtR (txnP τ u r subs).1 ∧ (txnP τ u r subs).2 = [] := by
 have hm : I64 (-1) := ⟨by decide, by decide⟩
 unfold txnP
 split
 ·exact ⟨refusal_R ⟨by decide, by decide⟩ hm, rfl⟩
 split
 ·exact ⟨refusal_R ⟨by decide, by decide⟩ hm, rfl⟩
 rw [if_neg hk.1, if_neg hk.2.1, if_neg hk.2.2]
 split
 ·have := part_code τ u r
  exact ⟨refusal_R ⟨by omega, by omega⟩ hm, rfl⟩
 ·exact ⟨part_R h ha, rfl⟩
def Ids (p : HP) (v : Value) (l : List Bs) : Prop := (∀ h : Hp, p h → rdS 1 h v l.length (strs l)) ∧ l.length ≤ 1048576 ∧ ∃ a n c, v = .slice a n c
structure WiD (p : HP) (u : Who) (iv : Value) (r : Rq) (subs : List Rq) : Prop where
 w : WiA p u iv r
 a : AclW r.acl
 rd : ∀ h : Hp, p h → rdS 10 h r.subsV subs.length (subs.flatMap rqC)
 each : ∀ x ∈ subs, WiA p u iv x
 acls : ∀ x ∈ subs, AclW x.acl
theorem ents_w : ∀ {l : List En} {τ : Tr}, TrW τ → (∀ e ∈ l, EnN e) → TrW (appL τ l)
 | [], _, h, _ => h
 | e :: l, _, h, hl => ents_w (l := l) (h.app (hl e List.mem_cons_self)) (fun x hx => hl x (List.mem_cons_of_mem _ hx))
structure Am where
 kind : Int
 path : Bs
 cz : Int
 mz : Int
 pz : Int
def amC (a : Am) : List Value := [vint a.kind, vstr a.path, vint a.cz, vint a.mz, vint a.pz]
def amB (a : Am) : Bs := numB a.kind ++ txtB a.path ++ [a.cz, a.mz, a.pz].flatMap numB
structure AmI (a : Am) : Prop where
 kind : I64 a.kind
 path : a.path.length ≤ 1048576
 cz : I64 a.cz
 mz : I64 a.mz
 pz : I64 a.pz
def flagB (b : Bool) : Bs := if b = true then [1] else [0]
def opB (r : Rq) : Bs := [r.kind, r.xid].flatMap numB ++ txtB r.path ++ txtB r.data ++ aclB r.acl ++ [r.flags, r.ver].flatMap numB ++ flagB r.watch
def rqB (r : Rq) (subs : List Rq) (arm : List Am) : Bs := opB r ++ cntB subs.length ++ subs.flatMap opB ++ cntB arm.length ++ arm.flatMap amB
structure OpL (p : HP) (r : Rq) : Prop where
 kind : I64 r.kind
 xid : I64 r.xid
 flags : I64 r.flags
 ver : I64 r.ver
 path : r.path.length ≤ 1048576
 data : r.data.length ≤ 1048576
 racl : ∀ h : Hp, p h → rdS 2 h r.aclV r.acl.length (r.acl.flatMap acC)
 acl : AclW r.acl
 c1 : isCell r.aclV = true
 c2 : isCell r.subsV = true
 c3 : isCell r.armV = true
structure RqL (p : HP) (r : Rq) (subs : List Rq) (arm : List Am) : Prop where
 op : OpL p r
 rd : ∀ h : Hp, p h → rdS 10 h r.subsV subs.length (subs.flatMap rqC)
 few : subs.length ≤ 1048576
 each : ∀ x ∈ subs, OpL p x
 rarm : ∀ h : Hp, p h → rdS 5 h r.armV arm.length (arm.flatMap amC)
 afew : arm.length ≤ 1048576
 arms : ∀ a ∈ arm, AmI a
theorem OpL.cells {p : HP} {r : Rq} (h : OpL p r) : ∀ v ∈ rqC r, isCell v = true := by
 intro v hv
 simp only [rqC, List.mem_cons, List.not_mem_nil, or_false] at hv
 rcases hv with rfl | rfl | rfl | rfl | rfl | rfl | rfl | rfl | rfl | rfl
 case inr.inr.inr.inr.inl => exact h.c1
 case inr.inr.inr.inr.inr.inr.inr.inr.inl => exact h.c2
 case inr.inr.inr.inr.inr.inr.inr.inr.inr => exact h.c3
 all_goals rfl
theorem two_num {a b : Int} (h1 : I64 a) (h2 : I64 b) : ∀ n ∈ [a, b], I64 n := by
 intro n hn
 simp only [List.mem_cons, List.not_mem_nil, or_false] at hn
 rcases hn with rfl | rfl
 ·exact h1
 ·exact h2
theorem three_num {a b c : Int} (h1 : I64 a) (h2 : I64 b) (h3 : I64 c) : ∀ n ∈ [a, b, c], I64 n := by
 intro n hn
 simp only [List.mem_cons, List.not_mem_nil, or_false] at hn
 rcases hn with rfl | rfl | rfl
 ·exact h1
 ·exact h2
 ·exact h3
theorem op_parts (r : Rq) : (opB r).length = ([r.kind, r.xid].flatMap numB).length + (txtB r.path).length + (txtB r.data).length + (aclB r.acl).length + ([r.flags, r.ver].flatMap numB).length + (flagB r.watch).length := by
 unfold opB
 simp only [List.length_append]
theorem op_len {p : HP} {r : Rq} (h : OpL p r) : (opB r).length ≤ 36000000 := by
 have h1 := nums_most (two_num h.kind h.xid)
 have h2 := nums_most (two_num h.flags h.ver)
 have h3 := txs_each (s := r.path) (by have := h.path; omega)
 have h4 := txs_each (s := r.data) (by have := h.data; omega)
 have h5 := h.acl.long
 have h6 : (flagB r.watch).length = 1 := by unfold flagB; split <;> rfl
 rw [op_parts]
 simp only [List.length_cons, List.length_nil] at h1 h2
 omega
theorem am_len {a : Am} (h : AmI a) : (amB a).length ≤ 1048640 := by
 have h1 := numB_len8 h.kind
 have h2 := txs_each (s := a.path) (by have := h.path; omega)
 have h3 := nums_most (three_num h.cz h.mz h.pz)
 unfold amB
 simp only [List.length_append, List.length_cons, List.length_nil] at h3 ⊢
 omega
theorem ops_len {p : HP} {l : List Rq} (hl : l.length ≤ 1048576) (h : ∀ x ∈ l, OpL p x) : (l.flatMap opB).length ≤ 37748736000000 := by
 have h1 := fm_most8 (f := opB) (c := 36000000) (l := l) (fun x hx => op_len (h x hx))
 have h2 : l.length * 36000000 ≤ 1048576 * 36000000 := Nat.mul_le_mul_right _ hl
 omega
theorem ams_len {l : List Am} (hl : l.length ≤ 1048576) (h : ∀ a ∈ l, AmI a) : (l.flatMap amB).length ≤ 1099578736640 := by
 have h1 := fm_most8 (f := amB) (c := 1048640) (l := l) (fun x hx => am_len (h x hx))
 have h2 : l.length * 1048640 ≤ 1048576 * 1048640 := Nat.mul_le_mul_right _ hl
 omega
theorem r1flagB_spec (b : Bool) : Fn Tryz.prog 175 #[.bool b] [] fun v L => v = vstr (flagB b) ∧ L = [] := by
 refine Fn.intro Tryz.func175 rfl rfl fun F W => ?_
 refine .sr (.an rfl (.seq (.sm rfl (.nt (.condB rfl (fun h3 => ?_) (fun h3 => ?_))))))
 ·refine .sr (.an rfl (.rt ?_))
  exact .dn rfl rfl ⟨by unfold flagB; simp_all, rfl⟩
 refine .sk (.sr (.an rfl (.ret ?_)))
 exact .dn rfl rfl ⟨by unfold flagB; simp_all, rfl⟩
theorem r2op_spec (r : Rq) (p : HP) (h : OpL p r) : Fn Tryz.prog 116 #[.agg (rqC r).toArray] [p] fun v L => v = vstr (opB r) ∧ L = [p] := by
 refine Fn.intro Tryz.func116 rfl rfl fun F W => ?_
 have hal := h.acl.long
 have hpl := h.path
 have hdl := h.data
 have hx1 := txs_each (s := r.path) (by omega)
 have hx2 := txs_each (s := r.data) (by omega)
 have hn1 := nums_most (two_num h.kind h.xid)
 have hn2 := nums_most (two_num h.flags h.ver)
 simp only [List.length_cons, List.length_nil] at hn1 hn2
 have hfl : (flagB r.watch).length = 1 := by unfold flagB; split <;> rfl
 refine .sr (.oq (.box rfl) ?_)
 rintro v L' ⟨b1, rfl, rfl⟩
 refine .a rfl (.nil (.pc b1 (rqC r) ?_))
 refine .then_n (.seq (.draw [4, 5, 22, 23] [[0, 1, 2, 3, 6, 7, 10, 11, 14, 15, 18, 19, 20, 21, 25, 26, 4, 5, 8, 9, 12, 13, 16, 17, 22, 23, 24, 27], [28, 29]] mixed (by kernel_rfl) (.go [ptc b1 _ _, p] (by repeat' constructor) (.k rfl (.fieldAddr rfl fo_28_0) (.k rfl (.ld rfl ag_3) (.k rfl (.fieldAddr rfl fo_28_1) (.k rfl (.ld rfl ag_3) (.k rfl (.fieldAddr rfl fo_28_2) (.k rfl (.ld rfl ag_9) (.k rfl (.fieldAddr rfl fo_28_3) (.k rfl (.ld rfl ag_9) (.k rfl (.fieldAddr rfl fo_28_4) (.k rfl (.ld rfl ag_24) (.k rfl (.fieldAddr rfl fo_28_5) (.k rfl (.ld rfl ag_3) (.k rfl (.fieldAddr rfl fo_28_6) (.k rfl (.ld rfl ag_3) (.k rfl (.fieldAddr rfl fo_28_7) (.k rfl (.ld rfl ag_4) (.h2 (k := 22) rfl rfl (by kernel_rfl) rfl (.buildSlice1 (vs := [_, _]) el_34 ze_3 rfl rfl rfl rfl rfl (by decide)) (by repeat' constructor) (.buildSlice1 (vs := [_, _]) el_34 ze_3 rfl rfl rfl rfl rfl (by decide)) (by repeat' constructor) ?_ ?_))))))))))))))))))))
 ·rintro v L' ⟨b4, rfl, rfl⟩
  refine D.h2 (k := 22) rfl rfl (by kernel_rfl) rfl (.call Tryz.func72 rfl rfl (vs := [_]) rfl (r2nums_spec _ ([r.kind, r.xid]) (ptc b4 (ints ([r.kind, r.xid])) 3) (fun h hp => slR_rd (slR_pt hp rfl)) (two_num h.kind h.xid) (by simp))) (by repeat' constructor) (.buildSlice1 (vs := [_, _]) el_34 ze_3 rfl rfl rfl rfl rfl (by decide)) (by repeat' constructor) ?_ ?_
  ·rintro v L' ⟨rfl, rfl⟩
   refine D.m rfl (by kernel_rfl) (.c Tryz.func119 [_] (r1txt_spec r.path (by omega))) (by repeat' constructor) ?_
   refine D.k rfl (.concat rfl rfl (by (try simp only [List.length_append] at *); omega)) (.m rfl (by kernel_rfl) (.c Tryz.func119 [_] (r1txt_spec r.data (by omega))) (by repeat' constructor) ?_)
   refine D.k rfl (.concat rfl rfl (by (try simp only [List.length_append] at *); omega)) (.m rfl (by kernel_rfl) (.c Tryz.func174 [_] (r2acls_spec r.aclV r.acl p h.racl (fun a ha => (h.acl.each a ha).1) (by omega) h.acl.few)) (by repeat' constructor) ?_)
   refine D.k rfl (.concat rfl rfl (by (try simp only [List.length_append] at *); omega)) (.hh rfl (.buildSlice1 (vs := [_, _]) el_34 ze_3 rfl rfl rfl rfl rfl (by decide)) ?_)
   rintro v L' ⟨b5, rfl, rfl⟩
   refine D.hh rfl (.call Tryz.func72 rfl rfl (vs := [_]) rfl (r2nums_spec _ ([r.flags, r.ver]) (ptc b5 (ints ([r.flags, r.ver])) 3) (fun h hp => slR_rd (slR_pt hp rfl)) (two_num h.flags h.ver) (by simp))) ?_
   rintro v L' ⟨rfl, rfl⟩
   refine D.kv rfl (.concat rfl rfl (by (try simp only [List.length_append] at *); omega)) (.m rfl (by kernel_rfl) (.c Tryz.func175 [_] (r1flagB_spec r.watch)) (by repeat' constructor) ?_)
   refine D.ph (.g0 (.kv rfl (.concat rfl rfl (by (try simp only [List.length_append] at *); omega)) (.kv rfl (.assign rfl) (.pf (.ret ?_)))))
   exact .vv
  rintro v L' ⟨b5, rfl, rfl⟩
  refine D.hh rfl (.call Tryz.func72 rfl rfl (vs := [_]) rfl (r2nums_spec _ ([r.kind, r.xid]) (ptc b4 (ints ([r.kind, r.xid])) 3) (fun h hp => slR_rd (slR_pt hp rfl)) (two_num h.kind h.xid) (by simp))) ?_
  rintro v L' ⟨rfl, rfl⟩
  refine D.m rfl (by kernel_rfl) (.c Tryz.func119 [_] (r1txt_spec r.path (by omega))) (by repeat' constructor) ?_
  refine D.k rfl (.concat rfl rfl (by (try simp only [List.length_append] at *); omega)) (.m rfl (by kernel_rfl) (.c Tryz.func119 [_] (r1txt_spec r.data (by omega))) (by repeat' constructor) ?_)
  refine D.k rfl (.concat rfl rfl (by (try simp only [List.length_append] at *); omega)) (.m rfl (by kernel_rfl) (.c Tryz.func174 [_] (r2acls_spec r.aclV r.acl p h.racl (fun a ha => (h.acl.each a ha).1) (by omega) h.acl.few)) (by repeat' constructor) ?_)
  refine D.k rfl (.concat rfl rfl (by (try simp only [List.length_append] at *); omega)) (.hh rfl (.call Tryz.func72 rfl rfl (vs := [_]) rfl (r2nums_spec _ ([r.flags, r.ver]) (ptc b5 (ints ([r.flags, r.ver])) 3) (fun h hp => slR_rd (slR_pt hp rfl)) (two_num h.flags h.ver) (by simp))) ?_)
  rintro v L' ⟨rfl, rfl⟩
  refine D.kv rfl (.concat rfl rfl (by (try simp only [List.length_append] at *); omega)) (.m rfl (by kernel_rfl) (.c Tryz.func175 [_] (r1flagB_spec r.watch)) (by repeat' constructor) ?_)
  refine D.ph (.g0 (.kv rfl (.concat rfl rfl (by (try simp only [List.length_append] at *); omega)) (.kv rfl (.assign rfl) (.pf (.ret ?_)))))
  exact .vv
 rintro v L' ⟨b5, rfl, rfl⟩
 refine D.hh rfl (.buildSlice1 (vs := [_, _]) el_34 ze_3 rfl rfl rfl rfl rfl (by decide)) ?_
 rintro v L' ⟨b4, rfl, rfl⟩
 refine D.hh rfl (.call Tryz.func72 rfl rfl (vs := [_]) rfl (r2nums_spec _ ([r.kind, r.xid]) (ptc b4 (ints ([r.kind, r.xid])) 3) (fun h hp => slR_rd (slR_pt hp rfl)) (two_num h.kind h.xid) (by simp))) ?_
 rintro v L' ⟨rfl, rfl⟩
 refine D.m rfl (by kernel_rfl) (.c Tryz.func119 [_] (r1txt_spec r.path (by omega))) (by repeat' constructor) ?_
 refine D.k rfl (.concat rfl rfl (by (try simp only [List.length_append] at *); omega)) (.m rfl (by kernel_rfl) (.c Tryz.func119 [_] (r1txt_spec r.data (by omega))) (by repeat' constructor) ?_)
 refine D.k rfl (.concat rfl rfl (by (try simp only [List.length_append] at *); omega)) (.m rfl (by kernel_rfl) (.c Tryz.func174 [_] (r2acls_spec r.aclV r.acl p h.racl (fun a ha => (h.acl.each a ha).1) (by omega) h.acl.few)) (by repeat' constructor) ?_)
 refine D.k rfl (.concat rfl rfl (by (try simp only [List.length_append] at *); omega)) (.hh rfl (.call Tryz.func72 rfl rfl (vs := [_]) rfl (r2nums_spec _ ([r.flags, r.ver]) (ptc b5 (ints ([r.flags, r.ver])) 3) (fun h hp => slR_rd (slR_pt hp rfl)) (two_num h.flags h.ver) (by simp))) ?_)
 rintro v L' ⟨rfl, rfl⟩
 refine D.kv rfl (.concat rfl rfl (by (try simp only [List.length_append] at *); omega)) (.m rfl (by kernel_rfl) (.c Tryz.func175 [_] (r1flagB_spec r.watch)) (by repeat' constructor) ?_)
 refine D.ph (.g0 (.kv rfl (.concat rfl rfl (by (try simp only [List.length_append] at *); omega)) (.kv rfl (.assign rfl) (.pf (.ret ?_)))))
 exact .vv
theorem r2rq_spec (r : Rq) (subs : List Rq) (arm : List Am) (p : HP) (h : RqL p r subs arm) : Fn Tryz.prog 53 #[.agg (rqC r).toArray] [p] fun v L => v = vstr (rqB r subs arm) ∧ L = [p] := by
 refine Fn.intro Tryz.func53 rfl rfl fun F W => ?_
 have hol := op_len h.op
 have hsl := ops_len h.few h.each
 have hml := ams_len h.afew h.arms
 have hfew := h.few
 have hafew := h.afew
 have hc1 : (cntB subs.length).length ≤ 10 := sev_len10 (by have : U64 = 18446744073709551616 := rfl; omega)
 have hc2 : (cntB arm.length).length ≤ 10 := sev_len10 (by have : U64 = 18446744073709551616 := rfl; omega)
 refine .rdAny (p := p) h.rd (by repeat' constructor) fun as1 cs hsv _ => ?_
 have hrd : ∀ g : Hp, p g → rdS 10 g (.slice as1 subs.length cs) subs.length (subs.flatMap rqC) := fun g hp => hsv ▸ h.rd g hp
 refine .rdAny (p := p) h.rarm (by repeat' constructor) fun am cm hmv _ => ?_
 have hrm : ∀ g : Hp, p g → rdS 5 g (.slice am arm.length cm) arm.length (arm.flatMap amC) := fun g hp => hmv ▸ h.rarm g hp
 refine .sr (.oq (.box rfl) ?_)
 rintro v L' ⟨b1, rfl, rfl⟩
 refine .a rfl (.nil (.pc b1 (rqC r) ?_))
 refine .then_n (.seq (.draw [] [[0, 1, 2, 3, 4, 5, 6, 7]] mixed (by kernel_rfl) (.go [ptc b1 _ _, p] (by repeat' constructor) (.kv rfl (.la (rqC r) rfl ag_28) (.m rfl (by kernel_rfl) (.c Tryz.func116 [_] (r2op_spec r p h.op)) (by repeat' constructor) ?_)))))
 refine D.kv rfl (.fieldAddr rfl fo_28_8) (.kv rfl (.to (v' := .slice as1 subs.length cs) (.load rfl ag_25 (by repeat' constructor) (by rfl)) (by exact hsv)) (.kv rfl (.slen rfl Tryz.underlying25 rfl) (.m rfl (by kernel_rfl) (.c Tryz.func117 [_] (r1cnt_spec subs.length (by omega))) (by repeat' constructor) ?_)))
 refine D.kv rfl (.concat rfl rfl (by omega)) (.kv rfl (.assign rfl) (.pf (.seq (.sr (.an rfl (.block (.loopK (ι := Nat × Bs) (fun q E => (4, vint q.1) :: (3, vstr q.2) :: E) (fun q => []) (fun q => q.1 ≤ subs.length ∧ q.2 = opB r ++ cntB subs.length ++ (subs.take q.1).flatMap opB) (fun q => subs.length - q.1) (0, opB r ++ cntB subs.length) (ts := [1, 2]) (.cons rfl (.cons rfl (.nil))) (⟨Nat.zero_le _, by simp⟩) ⟨rfl, rfl, rfl, rfl, trivial⟩ (by repeat' constructor) ?_)))))))
 rintro ⟨i, t⟩ ⟨hj, ht⟩
 dsimp only
 dsimp only at hj ht
 have htl2 : t.length = (opB r).length + (cntB subs.length).length + ((subs.take i).flatMap opB).length := by rw [ht, List.length_append, List.length_append]
 refine .seq (.sm rfl (.u (.fieldAddr rfl fo_28_8) (.q (.to (v' := .slice as1 subs.length cs) (.load rfl ag_25 (by repeat' constructor) (by rfl)) (by exact hsv)) rfl (.q (.slen rfl Tryz.underlying25 rfl) rfl (.ui rfl rfl rfl (.nt (.condD rfl (fun h18 => ?_) (fun h18 => ?_))))))))
 ·have hi2 : i < subs.length := by omega
  have hfs := fm_stepL opB hi2
  have hz := h.each _ (List.getElem_mem hi2)
  have hz4 := op_len hz
  refine .rdShape (p := p) hrd (by repeat' constructor) (by omega) fun ba oa e => ?_
  subst e
  refine .sk (.seq (.block (.region (.m rfl (.u (.fieldAddr rfl fo_28_8) (.q (.to (v' := .slice (some ⟨ba, oa, none⟩) subs.length cs) (.load rfl ag_25 (by repeat' constructor) (by rfl)) (by exact hsv)) rfl (.m rfl (.q (.indexAddr rfl rfl el_25 (by omega)) rfl (.q (.loadRdA (sz := 10) (j := i * 10) (k := 10) (p := p) (vs := rqC subs[i]) rfl ag_28 (by repeat' constructor) hrd (by simp) (by omega) (by omega) (flatMap_at (f := rqC) (sz := 10) (fun _ _ => rfl) hi2)) rfl (.cv Tryz.func116 [_] (r2op_spec subs[i] p hz) ?_))))))))))
  refine .q (.concat rfl rfl (by omega)) rfl (.a rfl (.nil (.blk_n (.then_n (.region (.m rfl (.q (.add rfl rfl (by omega)) rfl (.an rfl ?_))))))))
  exact .rk ((i + 1, t ++ opB subs[i])) (⟨by dsimp only; omega, by dsimp only; rw [fm_step opB hi2, ht]; simp only [List.append_assoc]⟩) (by dsimp only; omega) ⟨rfl, rfl, rfl, rfl, trivial⟩
 have hie : i = subs.length := by omega
 have hfin : t = opB r ++ cntB subs.length ++ subs.flatMap opB := by rw [ht, hie, List.take_length]
 rw [hfin]
 have hT2 : (opB r ++ cntB subs.length ++ subs.flatMap opB).length = (opB r).length + (cntB subs.length).length + (subs.flatMap opB).length := by rw [List.length_append, List.length_append]
 refine .exit (.then_e (.then_e (.blk_e (.then_n (.sm rfl (.u (.fieldAddr rfl fo_28_9) (.q (.to (v' := .slice am arm.length cm) (.load rfl ag_26 (by repeat' constructor) (by rfl)) (by exact hmv)) rfl (.q (.slen rfl Tryz.underlying26 rfl) rfl (.cv Tryz.func117 [_] (r1cnt_spec arm.length (by omega)) ?_)))))))))
 refine .q (.concat rfl rfl (by omega)) rfl (.an rfl (.seq (.sr (.an rfl (.block (.loopK (ι := Nat × Bs) (fun q E => (5, vint q.1) :: (3, vstr q.2) :: E) (fun q => []) (fun q => q.1 ≤ arm.length ∧ q.2 = opB r ++ cntB subs.length ++ subs.flatMap opB ++ cntB arm.length ++ (arm.take q.1).flatMap amB) (fun q => arm.length - q.1) (0, opB r ++ cntB subs.length ++ subs.flatMap opB ++ cntB arm.length) (ts := [1, 2]) (.cons rfl (.cons rfl (.nil))) (⟨Nat.zero_le _, by simp⟩) ⟨rfl, rfl, rfl, rfl, trivial⟩ (by repeat' constructor) ?_))))))
 rintro ⟨i, t⟩ ⟨hj, ht⟩
 dsimp only
 dsimp only at hj ht
 have htl2 : t.length = (opB r).length + (cntB subs.length).length + (subs.flatMap opB).length + (cntB arm.length).length + ((arm.take i).flatMap amB).length := by rw [ht]; simp only [List.length_append]
 refine .seq (.sm rfl (.u (.fieldAddr rfl fo_28_9) (.q (.to (v' := .slice am arm.length cm) (.load rfl ag_26 (by repeat' constructor) (by rfl)) (by exact hmv)) rfl (.q (.slen rfl Tryz.underlying26 rfl) rfl (.ui rfl rfl rfl (.nt (.condD rfl (fun h39 => ?_) (fun h39 => ?_))))))))
 ·have hi2 : i < arm.length := by omega
  have hfs := fm_stepL amB hi2
  have hz := h.arms _ (List.getElem_mem hi2)
  have hz4 := am_len hz
  have hz5 : (amB arm[i]).length = (numB arm[i].kind).length + (txtB arm[i].path).length + ([arm[i].cz, arm[i].mz, arm[i].pz].flatMap numB).length := by unfold amB; simp only [List.length_append]
  have hzp := hz.path
  refine .rdShape (p := p) hrm (by repeat' constructor) (by omega) fun bm om e => ?_
  subst e
  refine .sk (.seq (.block (.sr (.u (.fieldAddr rfl fo_28_9) (.q (.to (v' := .slice (some ⟨bm, om, none⟩) arm.length cm) (.load rfl ag_26 (by repeat' constructor) (by rfl)) (by exact hmv)) rfl (.m rfl (.q (.indexAddr rfl rfl el_26 (by omega)) rfl (.q (.loadRdA (sz := 5) (j := i * 5) (k := 5) (p := p) (vs := amC arm[i]) rfl ag_175 (by repeat' constructor) hrm (by simp) (by omega) (by omega) (flatMap_at (f := amC) (sz := 5) (fun _ _ => rfl) hi2)) rfl (.oq (.allocA ze_175) ?_)))))))))
  rintro v L' ⟨b6, rfl, rfl⟩
  refine .sa rfl rfl sz_175 (by simp [amC, isCell]) ?_
  refine .nil (.pc b6 (amC arm[i]) ?_)
  refine .then_n (.draw [15, 16] [[0, 1, 2, 3, 4, 5, 6, 7, 8, 9, 10, 11, 12, 13, 14, 15, 16], [17, 18]] mixed (by kernel_rfl) (.go [ptc b6 _ _] (by repeat' constructor) (.k rfl (.move rfl) (.k rfl (.fieldAddr rfl fo_175_0) (.k rfl (.ld rfl ag_3) (.m rfl (by kernel_rfl) (.c Tryz.func118 [_] (r1num_spec arm[i].kind hz.kind)) (by repeat' constructor) ?_))))))
  refine D.k rfl (.concat rfl rfl (by (try simp only [List.length_append] at *); omega)) (.k rfl (.fieldAddr rfl fo_175_1) (.k rfl (.ld rfl ag_9) (.m rfl (by kernel_rfl) (.c Tryz.func119 [_] (r1txt_spec arm[i].path (by omega))) (by repeat' constructor) ?_)))
  refine D.k rfl (.concat rfl rfl (by (try simp only [List.length_append] at *); omega)) (.kv rfl (.fieldAddr rfl fo_175_2) (.kv rfl (.ld rfl ag_3) (.kv rfl (.fieldAddr rfl fo_175_3) (.kv rfl (.ld rfl ag_3) (.kv rfl (.fieldAddr rfl fo_175_4) (.kv rfl (.ld rfl ag_3) (.hh rfl (.buildSlice1 (vs := [_, _, _]) el_34 ze_3 rfl rfl rfl rfl rfl (by decide)) ?_)))))))
  rintro v L' ⟨b7, rfl, rfl⟩
  refine D.hh rfl (.call Tryz.func72 rfl rfl (vs := [_]) rfl (r2nums_spec _ ([arm[i].cz, arm[i].mz, arm[i].pz]) (ptc b7 (ints ([arm[i].cz, arm[i].mz, arm[i].pz])) 3) (fun h hp => slR_rd (slR_pt hp rfl)) (three_num hz.cz hz.mz hz.pz) (by simp))) ?_
  rintro v L' ⟨rfl, rfl⟩
  refine D.ph (.g0 (.kv rfl (.concat rfl rfl (by (try simp only [List.length_append] at *); omega)) (.kv rfl (.assign rfl) (.ph (.fin (.blk_n (.then_n (.region (.m rfl (.q (.add rfl rfl (by omega)) rfl (.an rfl ?_)))))))))))
  rw [show t ++ numB arm[i].kind ++ txtB arm[i].path ++ [arm[i].cz, arm[i].mz, arm[i].pz].flatMap numB = t ++ amB arm[i] by unfold amB; simp only [List.append_assoc]]
  exact .rk ((i + 1, t ++ amB arm[i])) (⟨by dsimp only; omega, by dsimp only; rw [fm_step amB hi2, ht]; simp only [List.append_assoc]⟩) (by dsimp only; omega) ⟨rfl, rfl, rfl, rfl, trivial⟩
 have hie : i = arm.length := by omega
 have hfin2 : t = rqB r subs arm := by rw [ht, hie, List.take_length]; rfl
 subst hfin2
 refine .exit (.then_e (.then_e (.blk_e (.then_n (.sm rfl (.an rfl (.ret ?_)))))))
 exact .vv
def over77 : Ac := (77, [])
def growV : Value → Value
 | .slice a n c => .slice a (n + 1) c
 | v => v
def lentL (T : TypeId) (sz : Nat) (v : Value) (n : Nat) (xs : List Value) : HP := fun h => (∃ b c, n + 1 ≤ c ∧ v = .slice (some ⟨b, 0, none⟩) n c) ∧ slR T sz (growV v) (n + 1) xs h
theorem lent_rd {T : TypeId} {sz n : Nat} {v : Value} {xs ys : List Value} {h : Hp} (hl : xs.length = n * sz) (hs : lentL T sz v n (xs ++ ys) h) : rdS sz h v n xs := by
 obtain ⟨⟨b, c, hc, rfl⟩, hs⟩ := hs
 have q := slR_rd_to (k := n) (n := n + 1) (by omega) hs
 rwa [← hl, List.take_left] at q
theorem OpSpec.shapedS {P : Program} {E : Env} {o : Oper} {pre R : List HP} {e : TypeId} {sz k : Nat} {ys : List Value} (hk : 0 < k) (h : OpSpec P o E pre fun v L' => (∃ a c, v = .slice a k c) ∧ L' = slR e sz v k ys :: R) :
  OpSpec P o E pre fun v L' => ∃ b c, k ≤ c ∧ v = .slice (some ⟨b, 0, none⟩) k c ∧ L' = slR e sz v k ys :: R := by
 intro ρ w F ha hs
 refine (h ρ w F ha hs).mono ?_
 rintro v w' ⟨L', ⟨-, rfl⟩, hs', hk'⟩
 obtain ⟨h1, -, hp⟩ := sep_head hs'
 rcases hp with ⟨-, h2, -⟩ | ⟨b, cap, rest, fr, hv, -, -, -, h4, -⟩
 ·omega
 ·exact ⟨_, ⟨b, cap, h4, hv, rfl⟩, hs', hk'⟩
theorem slR_up {T : TypeId} {sz n : Nat} {v : Value} {xs : List Value} {h h' : Hp} (hs : slR T sz v n xs h) (hle : ∀ b o, h b = some o → h' b = some o) : slR T sz v n xs h' := by
 rcases hs with hs | ⟨b, cap, rest, fr, hv, hb, h1⟩
 ·exact .inl hs
 ·exact .inr ⟨b, cap, rest, fr, hv, hle _ _ hb, h1⟩
section
variable {W : World} {n : Nat} {ds : List Deferred} {E : Env} {L R : List HP} {X : Act → World → Prop}
theorem G.lentOpen {T : TypeId} {sz m : Nat} {v : Value} {xs : List Value} (hL : Pick (lentL T sz v m xs) L R) (h : ∀ b c, m + 1 ≤ c → v = .slice (some ⟨b, 0, none⟩) m c → G W n ds E (slR T sz (.slice (some ⟨b, 0, none⟩) (m + 1) c) (m + 1) xs :: R) X) : G W n ds E L X := by
 intro a w he hk hs
 obtain ⟨h1, -, hp⟩ := sep_head (hs.pick hL)
 obtain ⟨⟨b, c, hc, hv⟩, -⟩ := hp
 refine h b c hc hv a w he hk (sep_imp (fun w' hw => ?_) (hs.pick hL))
 obtain ⟨⟨b', c', hc', hv'⟩, hq⟩ := hw
 rw [hv] at hq
 exact hq
theorem G.bigUncons {α : Type} {f : α → HP} {x : α} {l m : List α} (hm : m = x :: l) (hL : Pick (bigR f m) L R) (h : G W n ds E (f x :: bigR f l :: R) X) : G W n ds E L X :=
 G.perm hL.perm (G.unfold (q := [f x, bigR f l]) (fun _ hp => by rw [hm] at hp; exact big_cons hp) h)
end
theorem over_at (l : List Ac) {n : Nat} (hn : n = l.length) : ((l ++ [over77]).flatMap acC)[n * 2 + 0]? = some (vint 77) := by
 subst hn
 rw [flatMap_cell (f := acC) (sz := 2) (fun _ _ => rfl) (by simp) (by decide)]
 simp [over77, acC]
def nilP : HP := fun _ => True
theorem nilP_ok (h : Hp) : nilP h := trivial
def closeT : List Bs → Tr → Tr
 | [], τ => τ
 | p :: l, τ => closeT l (applyZ τ τ.zx (delX τ p) []).1
theorem closeT_app : ∀ (l m : List Bs) (τ : Tr), closeT (l ++ m) τ = closeT m (closeT l τ)
 | [], _, _ => rfl
 | _ :: l, m, _ => closeT_app l m _
theorem closeL_app : ∀ (l m : List Bs) (τ : Tr), closeL (l ++ m) τ = closeL l τ ++ closeL m (closeT l τ)
 | [], _, _ => rfl
 | p :: l, m, τ => by
  show delX τ p :: closeL (l ++ m) _ = (delX τ p :: closeL l _) ++ _
  rw [closeL_app l m]; rfl
theorem closeL_len : ∀ (l : List Bs) (τ : Tr), (closeL l τ).length = l.length
 | [], _ => rfl
 | _ :: l, _ => congrArg Nat.succ (closeL_len l _)
theorem closeT_step {l : List Bs} {i : Nat} (hi : i < l.length) (τ : Tr) : closeT (l.take (i + 1)) τ = (applyZ (closeT (l.take i) τ) (closeT (l.take i) τ).zx (delX (closeT (l.take i) τ) l[i]) []).1 := by
 rw [List.take_succ_eq_append_getElem hi, closeT_app]; rfl
theorem closeL_step {l : List Bs} {i : Nat} (hi : i < l.length) (τ : Tr) : closeL (l.take (i + 1)) τ = closeL (l.take i) τ ++ [delX (closeT (l.take i) τ) l[i]] := by
 rw [List.take_succ_eq_append_getElem hi, closeL_app]; rfl
theorem closeT_ok {N : Nat} : ∀ (l : List Bs) {τ : Tr}, τ.Ok N → (closeT l τ).Ok (N + l.length)
 | [], _, h => h
 | p :: l, τ, h => by
  have h1 : (applyZ τ τ.zx (delX τ p) []).1.Ok (N + 1) := h.apply τ.zx (delX τ p) [] (Nat.zero_le _) (fun _ h => by cases h)
  have h2 := closeT_ok l h1
  rw [List.length_cons, show N + (l.length + 1) = N + 1 + l.length by omega]
  exact h2
theorem closeL_plain : ∀ (l : List Bs) (τ : Tr), ∀ y ∈ closeL l τ, y.aclV = nilV ∧ y.acl = [] ∧ y.subsV = nilV ∧ y.pl = y
 | [], _, y, hy => by cases hy
 | p :: l, τ, y, hy => by
  rcases List.mem_cons.1 (show y ∈ delX τ p :: closeL l _ from hy) with rfl | hy
  ·exact ⟨rfl, rfl, rfl, rfl⟩
  ·exact closeL_plain l _ y hy
theorem map_pl : ∀ {l : List Pt}, (∀ y ∈ l, y.pl = y) → l.map Pt.pl = l
 | [], _ => rfl
 | y :: l, h => by rw [List.map_cons, h y List.mem_cons_self, map_pl fun z hz => h z (List.mem_cons_of_mem _ hz)]
theorem owned_short {τ : Tr} {N : Nat} (ho : τ.Ok N) {s : Int} {p : Bs} (hp : p ∈ ownedZ τ s) : p.length ≤ 60 := by
 unfold ownedZ at hp
 obtain ⟨y, hy, rfl⟩ := List.mem_map.1 hp
 exact able_len (ho.able y (List.mem_filter.1 hy).1)
theorem big_none : ∀ {l : List Pt}, (∀ y ∈ l, y.aclV = nilV ∧ y.acl = []) → ∀ h : Hp, bigR aclR l h
 | [], _, h => big_nil h
 | y :: l, hl, h => by
  refine big_of_cons ?_
  obtain ⟨h1, h2⟩ := hl y List.mem_cons_self
  have ha : ∀ g : Hp, aclR y g := fun g => by
   unfold aclR
   rw [h1, h2]
   exact slR_nil _ 2 g
  exact ⟨fun _ => none, h, fun _ => .inl rfl, (fun _ _ e => by cases e), fun _ _ e => e, ha _, h, fun _ => none, fun _ => .inr rfl, fun _ _ e => e, (fun _ _ e => by cases e), big_none (fun z hz => hl z (List.mem_cons_of_mem _ hz)) _, trivial⟩
theorem flat8_len (l : List Pt) : (l.flatMap ptC).length = l.length * 8 := flatMap_len (fun _ _ => rfl)
theorem spl_app {xs ys zs : List Value} {n : Nat} (hn : xs.length = n) (hl : zs.length = ys.length) : spl (xs ++ ys) n zs = xs ++ zs := by
 unfold spl
 have e : (xs ++ ys).drop (n + zs.length) = [] := List.drop_eq_nil_of_le (by rw [List.length_append]; omega)
 rw [e, ← hn, List.take_left, List.append_nil]
def clsC (s : Int) (z : Value) : List Value := [vint 6, vstr [], vstr [], nilV, vint s, vint 0, vint 0, z]
def clsJ (K : HP) (c b : Nat) (τ : Tr) (s : Int) (l : List Bs) (i : Nat) : HP := fun h => ∃ z : Value, (∃ a k, z = .slice a i k) ∧ sep [K, treeR c (closeT (l.take i) τ), ptc b (clsC s z) 43, slR 43 8 z i ((closeL (l.take i) τ).flatMap ptC)] h
theorem res_G {y : Pt} {ys : List Pt} (h : PtR y) (hs : ∀ z ∈ ys, PtR z) (hn : ys.length ≤ 1048576) (hl : (enB ⟨0, 0, 0, y, ys⟩).length ≤ 1073741824) (hc : isCell y.aclV = true ∧ isCell y.subsV = true) (hcs : ∀ z ∈ ys, isCell z.aclV = true ∧ z.subsV = nilV) : EnL (entR ⟨0, 0, 0, y, ys⟩) ⟨0, 0, 0, y, ys⟩ := by
 have hu : U64 = 18446744073709551616 := rfl
 refine ⟨⟨⟨I64.zero, I64.zero, I64.zero, h.i, by show ys.length < U64; omega, fun z hz => (hs z hz).i⟩, fun _ hp => ent_acl hp, fun _ hp => ent_subs hp, fun z hz _ hp => ent_each hp hz⟩, hl, ⟨hn, h.many, fun z hz => (hs z hz).many⟩, hc, fun z hz => ⟨(hcs z hz).1, by rw [(hcs z hz).2]; rfl⟩⟩
theorem multiL_R {p : HP} {u : Who} {iv : Value} : ∀ {l : List Rq} {τ : Tr}, (∀ r ∈ l, WiA p u iv r ∧ AclW r.acl) → (∀ y ∈ (multiL u l τ).2.1, PtR y) ∧ (multiL u l τ).2.1.length ≤ l.length
 | [], _, _ => ⟨(fun _ h => by cases h), Nat.le_refl _⟩
 | r :: l, τ, h => by
  rw [multi_cons]
  split
  ·exact ⟨(fun _ g => by cases g), Nat.zero_le _⟩
  ·obtain ⟨h1, h2⟩ := multiL_R (l := l) (τ := (applyZ τ τ.zx (partP τ u r).1 []).1) (fun x hx => h x (List.mem_cons_of_mem _ hx))
   have h0 := h r List.mem_cons_self
   refine ⟨fun y hy => ?_, Nat.succ_le_succ h2⟩
   rcases List.mem_cons.1 hy with rfl | hy
   ·exact part_R h0.1 h0.2
   ·exact h1 y hy
theorem multi_stop_i {u : Who} : ∀ {l : List Rq} {τ : Tr} {i : Nat} {e : Int}, (multiL u l τ).2.2 = some (i, e) → i < l.length ∧ 0 ≤ e ∧ e ≤ 110
 | [], _, _, _, h => by cases h
 | r :: l, τ, i, e, h => by
  rw [multi_cons] at h
  split at h
  ·have h2 : (0, (partP τ u r).2) = (i, e) := Option.some.inj h
   obtain ⟨rfl, rfl⟩ := Prod.mk.inj h2
   have := part_code τ u r
   exact ⟨by rw [List.length_cons]; omega, this.1, this.2⟩
  ·have h2 : Option.map (fun x : Nat × Int => (x.1 + 1, x.2)) (multiL u l (applyZ τ τ.zx (partP τ u r).1 []).1).2.2 = some (i, e) := h
   obtain ⟨⟨j, k⟩, h3, h4⟩ := Option.map_eq_some_iff.1 h2
   obtain ⟨rfl, rfl⟩ := Prod.mk.inj h4
   have := multi_stop_i h3
   exact ⟨by rw [List.length_cons]; omega, this.2.1, this.2.2⟩
theorem multi_R {p : HP} {u : Who} {iv : Value} {l : List Rq} {τ : Tr} (h : ∀ r ∈ l, WiA p u iv r ∧ AclW r.acl) : PtR (multiP τ u l).1 ∧ (∀ y ∈ (multiP τ u l).2, PtR y) ∧ (multiP τ u l).2.length ≤ 8 := by
 have hm : I64 (-1) := ⟨by decide, by decide⟩
 unfold multiP
 split
 ·exact ⟨refusal_R ⟨by decide, by decide⟩ hm, (fun _ g => by cases g), by show 0 ≤ 8; decide⟩
 ·rename_i hl
  have h8 : l.length ≤ 8 := by omega
  obtain ⟨h1, h2⟩ := multiL_R (τ := τ) h
  split
  ·rename_i i e he
   have hie : i < 8 ∧ 0 ≤ e ∧ e ≤ 110 := by
    have := multi_stop_i he
    omega
   exact ⟨refusal_R ⟨by omega, by omega⟩ ⟨by omega, by omega⟩, (fun _ g => by cases g), by show 0 ≤ 8; decide⟩
  ·refine ⟨⟨⟨⟨by show (-9223372036854775808 : Int) ≤ 7; decide, by show (7 : Int) ≤ 9223372036854775807; decide⟩, I64.zero, I64.zero, I64.zero, by show 0 < U64; decide, by show 0 < U64; decide, by show 0 < U64; decide, fun a ha => by cases ha⟩, acl_nil_w.long, Nat.zero_le _, Nat.zero_le _, Nat.zero_le _⟩, h1, by show (multiL u l τ).2.1.length ≤ 8; omega⟩
theorem del_R {τ : Tr} {p : Bs} (hp : p.length ≤ 60) : PtR (delX τ p) ∧ (ptB (delX τ p)).length ≤ 200 := by
 have hu : U64 = 18446744073709551616 := rfl
 have hn : I64 (wrapI ((statD τ (parentZ p)).cver + 1)) := wrap_i64 _
 have hR : PtR (delX τ p) := ⟨⟨⟨by show (-9223372036854775808 : Int) ≤ 2; decide, by show (2 : Int) ≤ 9223372036854775807; decide⟩, I64.zero, hn, I64.zero, by show p.length < U64; omega, by show 0 < U64; decide, by show 0 < U64; decide, fun a ha => by cases ha⟩, acl_nil_w.long, Nat.zero_le _, by show p.length ≤ _; omega, Nat.zero_le _⟩
 refine ⟨hR, ?_⟩
 have h1 := numB_ten hR.i.kind
 have h2 := sev_len10 (u := p.length) (by omega)
 have h5 := numB_ten hR.i.own
 have h6 := numB_ten hR.i.num
 have h7 := numB_ten hR.i.err
 have h8 : (txtB (delX τ p).path).length ≤ 70 := by
  show (txtB p).length ≤ 70
  unfold txtB cntB
  rw [List.length_append]; omega
 have h9 : (txtB (delX τ p).data).length ≤ 10 := by
  show (txtB []).length ≤ 10
  simp [txtB, cntB, sevZ]
 have h10 : (aclB (delX τ p).acl).length ≤ 10 := by
  show (aclB []).length ≤ 10
  simp [aclB, cntB, sevZ]
 unfold ptB
 simp only [List.flatMap_cons, List.flatMap_nil, List.length_append, List.length_nil]
 omega
theorem closeL_R : ∀ {l : List Bs} {τ : Tr}, (∀ p ∈ l, p.length ≤ 60) → ∀ y ∈ closeL l τ, PtR y ∧ (ptB y).length ≤ 200
 | [], _, _, _, h => by cases h
 | p :: l, τ, h, y, hy => by
  rcases List.mem_cons.1 (show y ∈ delX τ p :: closeL l _ from hy) with rfl | hy
  ·exact del_R (h p List.mem_cons_self)
  ·exact closeL_R (fun x hx => h x (List.mem_cons_of_mem _ hx)) y hy
theorem long_len {y : Pt} {ys : List Pt} (h : PtR y) (hs : ∀ z ∈ ys, (ptB z).length ≤ 200) (hn : ys.length ≤ 1048576) : (enB ⟨0, 0, 0, y, ys⟩).length ≤ 1073741824 := by
 have h0 := numB_ten I64.zero
 have h1 := ptR_len h
 have h2 := fm_most8 (f := ptB) (c := 200) (l := ys) hs
 have h3 := sev_len10 (u := ys.length) (by have : U64 = 18446744073709551616 := rfl; omega)
 rw [enB_len]
 unfold subsB cntB
 rw [List.length_append]
 simp only [List.flatMap_cons, List.flatMap_nil, List.length_append, List.length_nil]
 omega
theorem pl_R {ys l : List Pt} (e : ys.map Pt.pl = l) (h : ∀ y ∈ l, PtR y) : ∀ y ∈ ys, PtR y := fun y hy => PtR.of (z := y.pl) rfl (h _ (by rw [← e]; exact List.mem_map_of_mem hy))
theorem txn_L {τ : Tr} {N : Nat} (ho : τ.Ok N) (hN : N ≤ 1048576) {u : Who} {r : Rq} {p : HP} {iv : Value} {subs : List Rq} {y : Pt} {ys : List Pt} (hd : WiD p u iv r subs) (hy : y.pl = (txnP τ u r subs).1) (hys : ys.map Pt.pl = (txnP τ u r subs).2)
  (hc : isCell y.aclV = true ∧ ∃ a c, y.subsV = .slice a ys.length c) (hcs : ∀ z ∈ ys, isCell z.aclV = true ∧ z.subsV = nilV) : EnL (entR ⟨0, 0, 0, y, ys⟩) ⟨0, 0, 0, y, ys⟩ := by
 have hcc : isCell y.aclV = true ∧ isCell y.subsV = true := by
  obtain ⟨h1, a, c, h2⟩ := hc
  exact ⟨h1, by rw [h2]; rfl⟩
 have hl : ys.length = (txnP τ u r subs).2.length := by rw [← hys, List.length_map]
 have hm : I64 (-1) := ⟨by decide, by decide⟩
 -- few parts
 have few : PtR (txnP τ u r subs).1 → (∀ z ∈ (txnP τ u r subs).2, PtR z) → (txnP τ u r subs).2.length ≤ 8 → EnL (entR ⟨0, 0, 0, y, ys⟩) ⟨0, 0, 0, y, ys⟩ := fun h1 h2 h3 =>
  res_L (PtR.of (z := (txnP τ u r subs).1) (by rw [← hy]; rfl) h1) (pl_R hys h2) (by omega) hcc hcs
 by_cases h6 : r.kind = 6
 ·have hM := multi_R (τ := τ) (u := u) (l := subs) (fun x hx => ⟨hd.each x hx, hd.acls x hx⟩)
  have key : PtR (txnP τ u r subs).1 ∧ (∀ z ∈ (txnP τ u r subs).2, PtR z) ∧ (txnP τ u r subs).2.length ≤ 8 := by
   unfold txnP
   split
   ·exact ⟨refusal_R ⟨by decide, by decide⟩ hm, (fun _ g => by cases g), by show 0 ≤ 8; decide⟩
   split
   ·exact ⟨refusal_R ⟨by decide, by decide⟩ hm, (fun _ g => by cases g), by show 0 ≤ 8; decide⟩
   exact hM
  exact few key.1 key.2.1 key.2.2
 by_cases h8 : r.kind = 8
 ·by_cases h9 : changesK r.kind = true ∧ sesT τ u.ses
  ·have e : txnP τ u r subs = closeP τ u.ses := by
    unfold txnP
    rw [if_neg (fun g => g h9.1), if_neg (fun g => g h9.2), if_neg (by omega), if_neg (by omega), if_pos h8]
   rw [e] at hy hys hl
   have hfew := owned_len τ u.ses
   have hon := ho.few
   have hcl : (closeL (ownedZ τ u.ses).reverse τ).length = (ownedZ τ u.ses).length := by rw [closeL_len, List.length_reverse]
   have hL := closeL_R (l := (ownedZ τ u.ses).reverse) (τ := τ) (fun q hq => owned_short ho (List.mem_reverse.1 hq))
   have hR : PtR (closeP τ u.ses).1 := ⟨⟨⟨by show (-9223372036854775808 : Int) ≤ 6; decide, by show (6 : Int) ≤ 9223372036854775807; decide⟩, hd.w.ses, I64.zero, I64.zero, by show 0 < U64; decide, by show 0 < U64; decide, by show 0 < U64; decide, fun a ha => by cases ha⟩, acl_nil_w.long, Nat.zero_le _, Nat.zero_le _, Nat.zero_le _⟩
   have hR2 : PtR y := PtR.of (z := (closeP τ u.ses).1) (by rw [← hy]; rfl) hR
   have hn : ys.length ≤ 1048576 := by
    have : (closeP τ u.ses).2.length = (ownedZ τ u.ses).length := hcl
    omega
   refine res_G hR2 (pl_R hys fun z hz => (hL z hz).1) hn (long_len hR2 (fun z hz => ?_) hn) hcc hcs
   rw [← ptB_pl]
   exact (hL z.pl (by show z.pl ∈ (closeP τ u.ses).2; rw [← hys]; exact List.mem_map_of_mem hz)).2
  ·have key : PtR (txnP τ u r subs).1 ∧ (∀ z ∈ (txnP τ u r subs).2, PtR z) ∧ (txnP τ u r subs).2.length ≤ 8 := by
    unfold txnP
    split
    ·exact ⟨refusal_R ⟨by decide, by decide⟩ hm, (fun _ g => by cases g), by show 0 ≤ 8; decide⟩
    split
    ·exact ⟨refusal_R ⟨by decide, by decide⟩ hm, (fun _ g => by cases g), by show 0 ≤ 8; decide⟩
    rename_i g1 g2
    exact absurd ⟨Decidable.not_not.1 g1, Decidable.not_not.1 g2⟩ h9
   exact few key.1 key.2.1 key.2.2
 by_cases h7 : r.kind = 7
 ·have key : PtR (txnP τ u r subs).1 ∧ (∀ z ∈ (txnP τ u r subs).2, PtR z) ∧ (txnP τ u r subs).2.length ≤ 8 := by
   unfold txnP
   split
   ·exact ⟨refusal_R ⟨by decide, by decide⟩ hm, (fun _ g => by cases g), by show 0 ≤ 8; decide⟩
   split
   ·exact ⟨refusal_R ⟨by decide, by decide⟩ hm, (fun _ g => by cases g), by show 0 ≤ 8; decide⟩
   exact ⟨⟨⟨I64.zero, I64.zero, I64.zero, I64.zero, by show 0 < U64; decide, by show 0 < U64; decide, by show 0 < U64; decide, fun a ha => by cases ha⟩, acl_nil_w.long, Nat.zero_le _, Nat.zero_le _, Nat.zero_le _⟩, (fun _ g => by cases g), by show 0 ≤ 8; decide⟩
  exact few key.1 key.2.1 key.2.2
 ·have h := txn_R (τ := τ) hd.w hd.a ⟨h6, h7, h8⟩ subs
  exact few h.1 (by rw [h.2]; exact fun _ g => by cases g) (by rw [h.2]; decide)
def readK (k : Int) : Prop := k = 9 ∨ k = 10 ∨ k = 11 ∨ k = 12
instance (k : Int) : Decidable (readK k) := inferInstanceAs (Decidable (_ ∨ _))
theorem RqA.up {a p : HP} {r : Rq} (h : RqA p r) : RqA (sep [a, p]) r := ⟨h.kind, h.xid, h.flags, h.ver, h.path, h.data, rd_tail h.acl, h.many, h.ids, h.sub, h.arm⟩
theorem WiA.up {a p : HP} {u : Who} {iv : Value} {r : Rq} (h : WiA p u iv r) : WiA (sep [a, p]) u iv r := ⟨h.rq.up, h.ses, rd_tail h.ids, h.few, h.shape, h.ashape, h.tab.up⟩
theorem WiD.up {a p : HP} {u : Who} {iv : Value} {r : Rq} {subs : List Rq} (h : WiD p u iv r subs) : WiD (sep [a, p]) u iv r subs := ⟨h.w.up, h.a, rd_tail h.rd, fun x hx => (h.each x hx).up, h.acls⟩
def rq77 : Rq := ⟨77, 0, [], [], nilV, [], 0, 0, false, nilV, nilV⟩
def rqN1 : Rq := ⟨-1, 0, [], [], nilV, [], 0, 0, false, nilV, nilV⟩
def ownQ (r : Rq) (va vs : Value) : Rq := ⟨r.kind, r.xid, r.path, r.data, va, r.acl, r.flags, r.ver, r.watch, vs, r.armV⟩
def lentA12 (v : Value) (l : List Ac) : HP := lentL 85 2 v l.length ((l ++ [over77]).flatMap acC)
def lentS12 (v : Value) (l : List Rq) : HP := lentL 28 10 v l.length ((l ++ [rq77]).flatMap rqC)
def ownA12 (b c : Nat) (l : List Ac) : HP := slR 85 2 (.slice (some ⟨b, 0, none⟩) (l.length + 1) c) (l.length + 1) ((l ++ [over77]).flatMap acC)
def ownS12 (b c : Nat) (l : List Rq) : HP := slR 28 10 (.slice (some ⟨b, 0, none⟩) (l.length + 1) c) (l.length + 1) ((l ++ [rq77]).flatMap rqC)
theorem rqC_len (l : List Rq) : (l.flatMap rqC).length = l.length * 10 := flatMap_len (fun _ _ => rfl)
theorem lentA12_rd {v : Value} {l : List Ac} {h : Hp} (hs : lentA12 v l h) : rdS 2 h v l.length (l.flatMap acC) := by
 unfold lentA12 at hs; rw [List.flatMap_append] at hs
 exact lent_rd (flatMap_len (fun _ _ => rfl)) hs
theorem lentS12_rd {v : Value} {l : List Rq} {h : Hp} (hs : lentS12 v l h) : rdS 10 h v l.length (l.flatMap rqC) := by
 unfold lentS12 at hs; rw [List.flatMap_append] at hs
 exact lent_rd (rqC_len l) hs
section
variable {W : World} {n : Nat} {ds : List Deferred} {E : Env} {L R : List HP} {X : Act → World → Prop}
theorem G.lentPack {T : TypeId} {sz m b c : Nat} {xs : List Value} (hc : m + 1 ≤ c) (hL : Pick (slR T sz (.slice (some ⟨b, 0, none⟩) (m + 1) c) (m + 1) xs) L R) (h : G W n ds E (lentL T sz (.slice (some ⟨b, 0, none⟩) m c) m xs :: R) X) : G W n ds E L X := by
 refine G.fold (p := lentL T sz (.slice (some ⟨b, 0, none⟩) m c) m xs) (.cons hL .nil) (fun w hw => ?_) h
 obtain ⟨h1, a1, p1⟩ := sep_head hw
 exact ⟨⟨b, c, hc, rfl⟩, slR_up p1 a1⟩
end
theorem over_rq (l : List Rq) {n : Nat} (hn : n = l.length) : ((l ++ [rq77]).flatMap rqC)[n * 10 + 0]? = some (vint 77) := by
 subst hn
 rw [flatMap_cell (f := rqC) (sz := 10) (fun _ _ => rfl) (by simp) (by decide)]
 simp [rq77, rqC]
theorem drop_cell12 {zs l : List Value} {j k : Nat} (h : (zs.drop j).take 8 = l) (hk : k < 8) : zs[j + k]? = l[k]? := by
 rw [← h, List.getElem?_take_of_lt hk, List.getElem?_drop]
theorem spl_drop12 {l vs : List Value} {off k : Nat} (hl : off + vs.length ≤ l.length) (h : off + vs.length ≤ k) : (spl l off vs).drop k = l.drop k := by
 unfold spl
 have h1 : (l.take off ++ vs).length = off + vs.length := by simp; omega
 rw [List.drop_append, h1, List.drop_eq_nil_of_le (by omega), List.nil_append, List.drop_drop]
 congr 1
 omega
theorem RqL.own {p : HP} {r : Rq} {subs : List Rq} {arm : List Am} (h : RqL p r subs arm) {va vs : Value} (ha : ∀ g : Hp, p g → rdS 2 g va r.acl.length (r.acl.flatMap acC)) (hs : ∀ g : Hp, p g → rdS 10 g vs subs.length (subs.flatMap rqC)) (h1 : isCell va = true) (h2 : isCell vs = true) : RqL p (ownQ r va vs) subs arm :=
 ⟨⟨h.op.kind, h.op.xid, h.op.flags, h.op.ver, h.op.path, h.op.data, ha, h.op.acl, h1, h2, h.op.c3⟩, hs, h.few, h.each, h.rarm, h.afew, h.arms⟩
theorem WiA.op {p : HP} {u : Who} {iv : Value} {r : Rq} (h : WiA p u iv r) (ha : AclW r.acl) : OpL p r := by
 obtain ⟨a1, n1, c1, e1⟩ := h.ashape
 obtain ⟨a2, n2, c2, e2⟩ := h.rq.sub
 obtain ⟨a3, n3, c3, e3⟩ := h.rq.arm
 exact ⟨h.rq.kind, h.rq.xid, h.rq.flags, h.rq.ver, by have := h.rq.path; omega, h.rq.data, h.rq.acl, ha, by rw [e1]; rfl, by rw [e2]; rfl, by rw [e3]; rfl⟩
theorem WiD.rqL {p : HP} {u : Who} {iv : Value} {r : Rq} {subs : List Rq} (h : WiD p u iv r subs) (hf : subs.length ≤ 1048576) {arm : List Am} (hm : ∀ g : Hp, p g → rdS 5 g r.armV arm.length (arm.flatMap amC)) (hn : arm.length ≤ 1048576) (hi : ∀ a ∈ arm, AmI a) : RqL p r subs arm :=
 ⟨h.w.op h.a, h.rd, hf, fun x hx => (h.each x hx).op (h.acls x hx), hm, hn, hi⟩
theorem WiD.own {p : HP} {s : Int} {ids : List Bs} {iv vn : Value} {r : Rq} {subs : List Rq} (h : WiD p ⟨s, ids⟩ iv r subs) {va vs : Value} {q : HP} (hup : WiD q ⟨s, ids⟩ iv r subs)
  (ha : ∀ g : Hp, q g → rdS 2 g va r.acl.length (r.acl.flatMap acC)) (hs : ∀ g : Hp, q g → rdS 10 g vs subs.length (subs.flatMap rqC)) (hn : ∀ g : Hp, q g → rdS 1 g vn ids.length (strs ids)) (h1 : ∃ a n c, va = .slice a n c) (h2 : ∃ a n c, vs = .slice a n c) (h3 : ∃ a n c, vn = .slice a n c) : WiD q ⟨s, ids⟩ vn (ownQ r va vs) subs := by
 have hw := hup.w
 have W : ∀ x : Rq, WiA q ⟨s, ids⟩ iv x → WiA q ⟨s, ids⟩ vn x := fun x hx => ⟨hx.rq, hx.ses, hn, hx.few, h3, hx.ashape, hx.tab⟩
 exact ⟨⟨⟨hw.rq.kind, hw.rq.xid, hw.rq.flags, hw.rq.ver, hw.rq.path, hw.rq.data, ha, hw.rq.many, hw.rq.ids, h2, hw.rq.arm⟩, hw.ses, hn, hw.few, h3, h1, hw.tab⟩, hup.a, hs, fun x hx => W x (hup.each x hx), hup.acls⟩
end Go.Proofs.YtkjlihfalfbmjaaGreatDoor
