/- Own work, in part by program, for plainRefused.proved. -/
import Derived.Test.YtmbnebafdhpgpaaGreatDoorCVRefusedP1
import Derived.Sort.Walk0
import Derived.Test.YtmbnebafdhpgpaaGreatDoorCVRefusedP2
import Derived.Test.YtmbnebafdhpgpaaGreatDoorCVRefusedP0
import Derived.RangeFuncRecord
import Derived.Shelf.Slices.CompactI
import Derived.Shelf.Slices.Cells
import Derived.Shelf.Spec.TrailingZeros
import Derived.Ground.Names7Prog
import Derived.Test.YtmbnebafdhpgpaaGreatDoorProg
set_option maxRecDepth 100000
namespace Go.Proofs.YtmbnebafdhpgpaaGreatDoor
open Go List Go.Proofs.Tryz 
section
variable {P : Program} {E : B0} {L : List HP} {ty : TypeId}
theorem AK.strge {t t' : TypeId} {x y : Operand} {a b : List UInt8} (hx : ev E x = some (AD a)) (hy : ev E y = some (AD b)) : AK P ⟨none, .binOp .geq t x y t', ty, "", #[], none⟩ E L (.bool (decide (¬ a < b))) := by
 intro ρ w ha _
 have key : (!Op.bytesLess a b) = decide (¬ a < b) := by rw [bytesLess_eq, decide_not]
 rw [← key]
 simp [execOp, ha x _ hx, ha y _ hy, eqGuard, binOp, Op.stringOp, Bind.bind, Sem.bind, Pure.pure, Sem.run]
end
abbrev Fx := Bs × (Value × Nd)
def E1 (z : Fx) : List Value := [AD z.1, AD z.2.2.data, z.2.1, AA z.2.2.st.cz, AA z.2.2.st.mz, AA z.2.2.st.pz, AA z.2.2.st.ver, AA z.2.2.st.cver, AA z.2.2.st.av, AA z.2.2.st.own, AA z.2.2.st.len, AA z.2.2.st.kids]
def IG (y : Int × (Int × Bs)) : List Value := [AA y.1, AA y.2.1, AD y.2.2]
def Hu (z : Fx) : HP := Zx 2 z.2.1 z.2.2.acl.length (z.2.2.acl.flatMap CP)
def D3 (l : List Fx) : List (Bs × Nd) := l.map fun z => (z.1, z.2.2)
abbrev M7 (v : Value) (l : List Fx) : HP := Ad 68 12 v l.length (l.flatMap E1)
abbrev rsR (v : Value) (l : Io) : HP := Ad 102 3 v l.length (l.flatMap IG)
def Ds (x : Nat) (τ : Tr) : HP := fun h => ∃ y : (Value × Value) × List Fx, D3 y.2 = τ.nodes ∧ CD [Ae x [y.1.1, y.1.2, AA τ.zx] 66, M7 y.1.1 y.2, rsR y.1.2 τ.sess, Ah Hu y.2] h
section
variable {W : World} {n : Nat} {ds : List Deferred} {E : B0} {L R : List HP} {X : Act → World → Prop}
theorem G.rtOpen {x : Nat} {τ : Tr} (hL : BI (Ds x τ) L R) (h : ∀ (an cn as' cs : _) (l : List Fx), D3 l = τ.nodes → G W n ds E (Ae x [.slice an l.length cn, .slice as' τ.sess.length cs, AA τ.zx] 66 :: M7 (.slice an l.length cn) l :: rsR (.slice as' τ.sess.length cs) τ.sess :: Ah Hu l :: R) X) : G W n ds E L X := by
 refine G.focus hL (G.open (q := fun y : (Value × Value) × List Fx => [Ae x [y.1.1, y.1.2, AA τ.zx] 66, M7 y.1.1 y.2, rsR y.1.2 τ.sess, Ah Hu y.2]) (φ := fun y : (Value × Value) × List Fx => D3 y.2 = τ.nodes) (fun _ hp => hp) fun y hy => ?_)
 obtain ⟨⟨v1, v2⟩, l⟩ := y
 dsimp only at hy ⊢
 refine G.slAny (v := v1) (by repeat (first | exact BI.here | apply BI.there)) fun an cn e0 _ => ?_
 subst e0
 refine G.slAny (v := v2) (by repeat (first | exact BI.here | apply BI.there)) fun as' cs e0 _ => ?_
 subst e0
 exact fun a w he hk hs => h an cn as' cs l hy a w he hk (hs.picks (by repeat (first | exact BC.nil | (apply BC.cons; (repeat (first | exact BI.here | apply BI.there))))))
theorem G.rtFold {x : Nat} {τ : Tr} {l : List Fx} {v1 v2 : Value} {c : List Value} {k1 k2 : Nat} {y1 y2 : List Value} (hn : D3 l = τ.nodes) (hL : BC [Ae x c 66, Ad 68 12 v1 k1 y1, Ad 102 3 v2 k2 y2, Ah Hu l] L R) (hc : c = [v1, v2, AA τ.zx]) (h1 : k1 = l.length) (h2 : y1 = l.flatMap E1) (h3 : k2 = τ.sess.length) (h4 : y2 = τ.sess.flatMap IG)
  (h : G W n ds E (Ds x τ :: R) X) : G W n ds E L X := by
 subst hc; subst h1; subst h2; subst h3; subst h4
 exact G.fold hL (fun _ hp => ⟨((v1, v2), l), hn, hp⟩) h
theorem G.rfCast {x : Nat} {τ τ' : Tr} (hL : BI (Ds x τ) L R) (hw : τ' = τ) (h : G W n ds E (Ds x τ' :: R) X) : G W n ds E L X := by
 subst hw; exact G.focus hL h
end
theorem D7 {l : List Fx} {m : List (Bs × Nd)} (h : D3 l = m) : l.length = m.length := by rw [← h]; simp [D3]
theorem HL {l : List Fx} {m : List (Bs × Nd)} (h : D3 l = m) {i : Nat} (hi : i < l.length) : m[i]'(by rw [← D7 h]; exact hi) = (l[i].1, l[i].2.2) := by
 subst h; simp [D3]
theorem Dh {l : List Fx} {i k : Nat} (hi : i < l.length) (hk : k < 12) : (l.flatMap E1)[i * 12 + k]? = (E1 l[i])[k]? := HO (f := E1) (sz := 12) (fun _ _ => rfl) hi hk
theorem Tf {l : Io} {i k : Nat} (hi : i < l.length) (hk : k < 3) : (l.flatMap IG)[i * 3 + k]? = (IG l[i])[k]? := HO (f := IG) (sz := 3) (fun _ _ => rfl) hi hk
/-! ### Places -/
def Cb {β : Type} (l : List (Bs × β)) (p : Bs) : Int := match EE p (l.map (·.1)) with
 | some i => i
 | none => -1
def Ha (τ : Tr) (p : Bs) : Int := Cb τ.nodes p
theorem Zz {K : Type} [DecidableEq K] {l : List K} {k : K} : ∀ {i : Nat} (hi : i < l.length), l[i] = k → (∀ j (hj : j < i), l[j]'om ≠ k) → EE k l = some i := by
 induction l with
 | nil => intro i hi; simp at hi
 | cons a l ih =>
  intro i hi h1 h2
  unfold EE
  cases i with
  | zero => simp at h1; rw [if_pos h1.symm]
  | succ i =>
   rw [if_neg (fun e => h2 0 om (by simpa using e.symm)), ih (i := i) (by simpa using hi) (by simpa using h1) (fun j hj => by simpa using h2 (j + 1) om)]
   rfl
theorem Vf {K : Type} [DecidableEq K] {l : List K} {k : K} (h : k ∉ l) : EE k l = none := by
 induction l with
 | nil => rfl
 | cons a l ih =>
  unfold EE
  rw [if_neg (fun e => h (by rw [e]; exact mem_cons_self)), ih (fun g => h (mem_cons_of_mem _ g))]; rfl
theorem WZ {K : Type} [DecidableEq K] {l : List K} {k : K} : ∀ {i : Nat}, EE k l = some i → ∃ hi : i < l.length, l[i] = k ∧ ∀ j (hj : j < i), l[j]'om ≠ k := by
 induction l with
 | nil => intro i h; cases h
 | cons a l ih =>
  intro i h
  unfold EE at h
  split at h
  ·rename_i e; cases h; exact ⟨by simp, by simp [e], fun j hj => by omega⟩
  ·rename_i e
   rcases h2 : EE k l with _ | i'
   ·rw [h2] at h; cases h
   ·rw [h2] at h; cases h
    obtain ⟨g1, g2, g3⟩ := ih h2
    refine ⟨by simp; omega, by simpa using g2, fun j hj => ?_⟩
    cases j with
    | zero => simpa using fun e2 => e e2.symm
    | succ j => simpa using g3 j (by have hj' : j + 1 < i' + 1 := hj; omega)
theorem X5 {β : Type} {l : List (Bs × β)} {p : Bs} {i : Nat} (hi : i < l.length) (h1 : l[i].1 = p) (h2 : ∀ j (hj : j < i), l[j].1 ≠ p) : Cb l p = i := by
 unfold Cb
 rw [Zz (i := i) (by simpa using hi) (by simpa using h1) (fun j hj => by simpa using h2 j hj)]
theorem TX {β : Type} {l : List (Bs × β)} {p : Bs} (h : ∀ j (hj : j < l.length), l[j].1 ≠ p) : Cb l p = -1 := by
 unfold Cb
 rw [Vf]
 intro hm
 obtain ⟨x, hx, e⟩ := mem_map.1 hm
 obtain ⟨j, hj, rfl⟩ := mem_iff_getElem.1 hx
 exact h j hj e
theorem Gp {β : Type} {l : List (Bs × β)} {p : Bs} (h : 0 ≤ Cb l p) : ∃ k : Nat, ∃ hk : k < l.length, Cb l p = k ∧ l[k].1 = p := by
 unfold Cb at h ⊢
 rcases e : EE p (l.map (·.1)) with _ | k
 ·rw [e] at h; exact absurd h dQ
 ·obtain ⟨g1, g2, -⟩ := WZ e
  exact ⟨k, by simpa using g1, by rw [e], by simpa using g2⟩
theorem CB {β : Type} {l : List (Bs × β)} {p : Bs} : 0 ≤ Cb l p ↔ (AE l p).isSome = true := by
 rw [C9]
 constructor
 ·intro h
  obtain ⟨k, hk, -, e⟩ := Gp h
  exact mem_map.2 ⟨l[k], getElem_mem hk, e⟩
 ·intro h
  unfold Cb
  rcases e : EE p (l.map (·.1)) with _ | k
  ·exfalso
   have key : ∀ l : List Bs, p ∈ l → EE p l ≠ none := by
    intro l
    induction l with
    | nil => intro h; cases h
    | cons a l ih =>
     intro h
     unfold EE
     split
     ·simp
     ·rename_i hne
      rcases mem_cons.1 h with g | g
      ·exact absurd g hne
      ·intro e2
       have := ih g
       rcases e3 : EE p l with _ | j
       ·exact this e3
       ·rw [e3] at e2; cases e2
   exact key _ h e
  ·first | (rw [e]; exact Int.natCast_nonneg _) | exact Int.natCast_nonneg _
theorem Od (l : List Fx) (p : Bs) : Cb (D3 l) p = Cb l p := by
 unfold Cb D3; rw [map_map]; rfl
theorem YK {β : Type} {l : List (Bs × β)} (hn : (l.map (·.1)).Nodup) {k : Nat} (hk : k < l.length) (f : β → β) : amod l l[k].1 f = l.set k (l[k].1, f l[k].2) := by
 apply ext_getElem
 ·simp [amod]
 ·intro i h1 h2
  have hi : i < l.length := by simpa [amod] using h1
  simp only [amod, getElem_map, getElem_set]
  by_cases e : k = i
  ·subst e; simp
  ·have : l[i].1 ≠ l[k].1 := fun g => by
    have := (getElem_inj (i := i) (j := k) (h₀ := by simpa using hi) (h₁ := by simpa using hk) hn).1 (by simpa using g)
    exact e this.symm
   rw [if_neg this, if_neg e]
theorem DE {α : Type} {f : α → List Value} {sz : Nat} : ∀ {l : List α} {i k : Nat} {v : Value} {y : α} (hf : ∀ x, (f x).length = sz) (hi : i < l.length) (hk : k < sz) (hy : (f l[i]).set k v = f y), (l.flatMap f).set (i * sz + k) v = (l.set i y).flatMap f
 | x :: l, 0, k, v, y, hf, hi, hk, hy => by
  simp only [flatMap_cons, set_cons_zero, Nat.zero_mul, Nat.zero_add]
  rw [set_append_left _ _ (by rw [hf]; exact hk)]
  congr 1
 | x :: l, i + 1, k, v, y, hf, hi, hk, hy => by
  simp only [flatMap_cons, set_cons_succ]
  rw [set_append_right _ _ (by rw [hf, Nat.add_mul]; omega), hf, show (i + 1) * sz + k - sz = i * sz + k by rw [Nat.add_mul]; omega]
  congr 1
  exact DE hf (by simpa using hi) hk (by simpa using hy)
theorem AAS {l : List Fx} {i : Nat} (y : Fx) : D3 (l.set i y) = (D3 l).set i (y.1, y.2.2) := by unfold D3; rw [map_set]
theorem AAW {l : List Fx} {i : Nat} {y : Fx} (hi : i < l.length) (h1 : Hu y = Hu l[i]) {h : Hp} (hs : Ah Hu l h) : Ah Hu (l.set i y) h := by
 unfold Ah at hs ⊢
 rw [map_set, h1]
 have : (l.map Hu).set i (Hu l[i]) = l.map Hu := by
  apply ext_getElem
  ·simp
  ·intro j _ _
   rw [getElem_set]
   split
   ·rename_i e; subst e; simp
   ·rfl
 rw [this]; exact hs
theorem G.bigSet {W : World} {n : Nat} {ds : List Deferred} {E : B0} {L R : List HP} {X : Act → World → Prop} {l : List Fx} {i : Nat} {y : Fx} (hi : i < l.length) (h1 : Hu y = Hu l[i]) (hL : BI (Ah Hu l) L R) (h : G W n ds E (Ah Hu (l.set i y) :: R) X) : G W n ds E L X :=
 fun a w he hk hs => h a w he hk (Bt (fun _ hp => AAW hi h1 hp) (hs.pick hL))
theorem QJ {l : List Fx} (p : Bs) (y : Value × Nd) : D3 (sset l p y) = sset (D3 l) p y.2 := by
 induction l with
 | nil => rfl
 | cons x l ih =>
  show D3 (sset (x :: l) p y) = sset ((x.1, x.2.2) :: D3 l) p y.2
  unfold sset
  dsimp only
  split
  ·rfl
  ·split
   ·rfl
   ·show (x.1, x.2.2) :: D3 (sset l p y) = _
    rw [ih]
theorem Sc {l : List Fx} (h : Bc (D3 l)) : Bc l := by
 unfold Bc D3 at *
 rw [map_map] at h; exact h
theorem Uv {K β : Type} [LT K] [DecidableEq K] [DecidableLT K] (ho : Lin K) {l : List (K × β)} (h : Bc l) (k : K) (v : β) : (sset l k v).Perm ((k, v) :: BX l k) := by
 have hn := h.nodup ho
 refine LC ((h.sset ho k v).nodup ho) ?_ fun x => ?_
 ·rw [map_cons]
  refine nodup_cons.2 ⟨fun g => ?_, DF hn k⟩
  have := C9.2 g
  rw [GM hn, if_pos rfl] at this; cases this
 ·rw [HQ]
  by_cases e : x = k
  ·subst e; simp [AE]
  ·rw [if_neg e]; simp only [AE, e, if_false]; rw [GM hn, if_neg e]
theorem YL {l : List Fx} (hs : Bc l) {k : Bs} {v : Value × Nd} {h : Hp} (hp : CD [Hu (k, v), Ah Hu l] h) : Ah Hu (sset l k v) h := by
 refine Ht (Uv Ea hs k v).symm (FL ?_)
 obtain ⟨h1, h2, hd, a1, a2, p1, h3, h4, hd2, b1, b2, p2, p3⟩ := hp
 exact ⟨h1, h2, hd, a1, a2, p1, h3, h4, hd2, b1, b2, UD k p2, p3⟩
theorem G.bigSset {W : World} {n : Nat} {ds : List Deferred} {E : B0} {L R : List HP} {X : Act → World → Prop} {l : List Fx} (hs : Bc l) (k : Bs) (v : Value × Nd) {p : HP} (hp : p = Hu (k, v)) (hL : BC [p, Ah Hu l] L R) (h : G W n ds E (Ah Hu (sset l k v) :: R) X) : G W n ds E L X := by
 subst hp
 exact G.fold hL (fun _ hp => YL hs hp) h
theorem T8 {α : Type} {f : α → HP} {l m : List α} (hs : l.Sublist m) {h : Hp} (hp : Ah f m h) : Ah f l h := by
 induction hs generalizing h with
 | slnil => exact hp
 | cons a _ ih =>
  obtain ⟨h1, h2, -, -, a2, -, p2⟩ := hp
  exact Eo (ih p2) a2
 | cons_cons a _ ih =>
  obtain ⟨h1, h2, hd, a1, a2, p1, p2⟩ := hp
  exact ⟨h1, h2, hd, a1, a2, p1, ih p2⟩
theorem G.bigSub {W : World} {n : Nat} {ds : List Deferred} {E : B0} {L R : List HP} {X : Act → World → Prop} {l m : List Fx} (hs : l.Sublist m) (hL : BI (Ah Hu m) L R) (h : G W n ds E (Ah Hu l :: R) X) : G W n ds E L X :=
 fun a w he hk hs' => h a w he hk (Bt (fun _ hp => T8 hs hp) (hs'.pick hL))
theorem Sj {l : List Fx} (f : Bs → Bool) : D3 (l.filter fun y => f y.1) = (D3 l).filter fun y => f y.1 := by
 unfold D3
 rw [filter_map]; rfl
structure Ge {β : Type} (l : List (Bs × β)) (p : Bs) (v : β) (i : Nat) (b : Bool) (acc : List (Bs × β)) : Prop where
 no : b = false → acc = l.take i ∧ ∀ x ∈ l.take i, x.1 < p
 yes : b = true → acc = sset (l.take i) p v ∧ ∃ x ∈ l.take i, ¬ x.1 < p
theorem Wg {β : Type} {l : List (Bs × β)} {p : Bs} (v : β) (h : ∀ x ∈ l, x.1 < p) : sset l p v = l ++ [(p, v)] := by
 induction l with
 | nil => rfl
 | cons x l ih =>
  have hx := h x mem_cons_self
  unfold sset
  rw [if_neg (fun e => Ea.irr p (by rw [← e] at hx ⊢; exact hx)), if_neg (fun g => Ea.irr _ (Ea.tr _ _ _ hx g)), ih (fun y hy => h y (mem_cons_of_mem _ hy))]; rfl
theorem VY {β : Type} {l : List (Bs × β)} {p : Bs} (v : β) (y : Bs × β) (h : ∃ x ∈ l, ¬ x.1 < p) : sset (l ++ [y]) p v = sset l p v ++ [y] := by
 induction l with
 | nil => obtain ⟨x, hx, -⟩ := h; cases hx
 | cons x l ih =>
  rw [cons_append]
  unfold sset
  split
  ·rfl
  ·split
   ·rfl
   ·rename_i e1 e2
    have hx : x.1 < p := by
     rcases Ea.tri x.1 p with g | g | g
     ·exact g
     ·exact absurd g e1
     ·exact absurd g e2
    rw [ih]; rfl
    obtain ⟨z, hz, g⟩ := h
    rcases mem_cons.1 hz with rfl | hz
    ·exact absurd hx g
    ·exact ⟨z, hz, g⟩
theorem Ge.start {β : Type} (l : List (Bs × β)) (p : Bs) (v : β) : Ge l p v 0 false [] := ⟨fun _ => ⟨by simp, by simp⟩, fun h => by cases h⟩
theorem AAM {β : Type} {l : List (Bs × β)} (hs : Bc l) {i : Nat} (hi : i < l.length) : ∀ x ∈ l.take i, x.1 < l[i].1 := fun x hx => by
 obtain ⟨j, hj, rfl⟩ := mem_iff_getElem.1 hx
 rw [length_take] at hj
 rw [getElem_take]
 have := pairwise_iff_getElem.1 hs j i (by simp; omega) (by simpa using hi) om
 simpa using this
theorem Ge.low {β : Type} {l : List (Bs × β)} {p : Bs} {v : β} {i : Nat} {acc : List (Bs × β)} (h : Ge l p v i false acc) (hi : i < l.length) (hl : l[i].1 < p) : Ge l p v (i + 1) false (acc ++ [l[i]]) := by
 obtain ⟨h1, h2⟩ := h.no rfl
 refine ⟨fun _ => ⟨by rw [h1, take_succ_eq_append_getElem hi], fun x hx => ?_⟩, fun g => by cases g⟩
 rw [take_succ_eq_append_getElem hi] at hx
 rcases mem_append.1 hx with hx | hx
 ·exact h2 x hx
 ·simp at hx; rw [hx]; exact hl
theorem Ge.put {β : Type} {l : List (Bs × β)} {p : Bs} {v : β} {i : Nat} {acc : List (Bs × β)} (h : Ge l p v i false acc) (hi : i < l.length) (hl : ¬ l[i].1 < p) (hne : l[i].1 ≠ p) : Ge l p v (i + 1) true ((acc ++ [(p, v)]) ++ [l[i]]) := by
 obtain ⟨h1, h2⟩ := h.no rfl
 refine ⟨(fun g => by cases g), fun _ => ⟨?_, l[i], by rw [take_succ_eq_append_getElem hi]; exact mem_append_right _ mem_cons_self, hl⟩⟩
 have hgt : p < l[i].1 := by
  rcases Ea.tri l[i].1 p with g | g | g
  ·exact absurd g hl
  ·exact absurd g hne
  ·exact g
 rw [take_succ_eq_append_getElem hi, h1]
 have key : ∀ (m : List (Bs × β)), (∀ x ∈ m, x.1 < p) → sset (m ++ [l[i]]) p v = m ++ [(p, v)] ++ [l[i]] := by
  intro m
  induction m with
  | nil => intro _; show sset [l[i]] p v = _; unfold sset; rw [if_neg hne, if_pos hgt]; rfl
  | cons x m ih =>
   intro hm
   have hx := hm x mem_cons_self
   rw [cons_append]
   unfold sset
   rw [if_neg (fun e => Ea.irr p (by rw [← e] at hx ⊢; exact hx)), if_neg (fun g => Ea.irr _ (Ea.tr _ _ _ hx g)), ih (fun y hy => hm y (mem_cons_of_mem _ hy))]; rfl
 exact (key _ h2).symm
theorem Ge.sub {β : Type} {l : List (Bs × β)} {p : Bs} {v : β} {i : Nat} {acc : List (Bs × β)} (h : Ge l p v i false acc) (hi : i < l.length) (he : l[i].1 = p) : Ge l p v (i + 1) true (acc ++ [(p, v)]) := by
 obtain ⟨h1, h2⟩ := h.no rfl
 refine ⟨(fun g => by cases g), fun _ => ⟨?_, l[i], by rw [take_succ_eq_append_getElem hi]; exact mem_append_right _ mem_cons_self, by rw [he]; exact Ea.irr p⟩⟩
 rw [take_succ_eq_append_getElem hi, h1]
 have key : ∀ (m : List (Bs × β)), (∀ x ∈ m, x.1 < p) → sset (m ++ [l[i]]) p v = m ++ [(p, v)] := by
  intro m
  induction m with
  | nil => intro _; show sset [l[i]] p v = _; unfold sset; rw [if_pos he]; rfl
  | cons x m ih =>
   intro hm
   have hx := hm x mem_cons_self
   rw [cons_append]
   unfold sset
   rw [if_neg (fun e => Ea.irr p (by rw [← e] at hx ⊢; exact hx)), if_neg (fun g => Ea.irr _ (Ea.tr _ _ _ hx g)), ih (fun y hy => hm y (mem_cons_of_mem _ hy))]; rfl
 exact (key _ h2).symm
theorem Ge.more {β : Type} {l : List (Bs × β)} {p : Bs} {v : β} {i : Nat} {acc : List (Bs × β)} (h : Ge l p v i true acc) (hi : i < l.length) : Ge l p v (i + 1) true (acc ++ [l[i]]) := by
 obtain ⟨h1, h2⟩ := h.yes rfl
 refine ⟨(fun g => by cases g), fun _ => ⟨by rw [h1, take_succ_eq_append_getElem hi, VY v _ h2], ?_⟩⟩
 obtain ⟨x, hx, g⟩ := h2
 exact ⟨x, by rw [take_succ_eq_append_getElem hi]; exact mem_append_left _ hx, g⟩
theorem Ge.not {β : Type} {l : List (Bs × β)} (hs : Bc l) {p : Bs} {v : β} {i : Nat} {acc : List (Bs × β)} (h : Ge l p v i true acc) (hi : i < l.length) : l[i].1 ≠ p := by
 obtain ⟨-, x, hx, g⟩ := h.yes rfl
 intro e
 exact g (by rw [← e]; exact AAM hs hi x hx)
theorem Ge.last {β : Type} {l : List (Bs × β)} {p : Bs} {v : β} {acc : List (Bs × β)} {b : Bool} (h : Ge l p v l.length b acc) : (if b then acc else acc ++ [(p, v)]) = sset l p v := by
 cases b with
 | true => obtain ⟨h1, -⟩ := h.yes rfl; rw [take_length] at h1; exact h1
 | false =>
  obtain ⟨h1, h2⟩ := h.no rfl
  rw [take_length] at h1 h2
  rw [Wg v h2, h1]; rfl
theorem Tq {β : Type} {l : List (Int × β)} {k : Int} {v : β} {i : Nat} (hi : i ≤ l.length) (h1 : ∀ x ∈ l.take i, x.1 < k) (h2 : ∀ h : i < l.length, ¬ l[i].1 < k) (h3 : ∀ x ∈ l, x.1 ≠ k) : l.take i ++ [(k, v)] ++ l.drop i = sset l k v := by
 induction l generalizing i with
 | nil => simp at hi; subst hi; rfl
 | cons x l ih =>
  have hx3 := h3 x mem_cons_self
  cases i with
  | zero =>
   have hx2 := h2 (by simp)
   simp at hx2
   unfold sset
   rw [if_neg hx3, if_pos om]; rfl
  | succ i =>
   have hx1 := h1 x (by simp)
   unfold sset
   rw [if_neg hx3, if_neg om, ← ih (i := i) (by simpa using hi) (fun y hy => h1 y (by simp [hy])) (fun h => by have := h2 (by simpa using h); simpa using this) (fun y hy => h3 y (mem_cons_of_mem _ hy))]
   simp
theorem Ob {τ : Tr} {N : Nat} (ho : τ.Ok N) (id n : Int) (s : Bs) : openS (dropS τ id) id n s = openS τ id n s := by
 refine Tr.ext' rfl ?_ rfl
 show sset (τ.sess.filter _) id (n, s) = sset τ.sess id (n, s)
 refine LJ Ud ((ho.ssorted.filter _).sset Ud _ _) (ho.ssorted.sset Ud _ _) fun i => ?_
 rw [HQ, HQ, Gm (fun k => !decide (k = id))]
 by_cases e : i = id
 ·rw [if_pos e, if_pos e]
 ·rw [if_neg e, if_neg e]; simp [e]
theorem PG {l : List Fx} {m : List (Bs × Nd)} (hl : D3 l = m) (hn : (m.map (·.1)).Nodup) {k : Nat} (hk : k < l.length) {p : Bs} (hp : l[k].1 = p) (f : Nd → Nd) {v : Value} {n : Nd} (hy : n = f l[k].2.2) : D3 (l.set k (l[k].1, (v, n))) = amod m p f := by
 subst hl; subst hp; subst hy
 have h2 : (D3 l)[k]'(by simpa [D3] using hk) = (l[k].1, l[k].2.2) := by simp [D3]
 have := YK hn (k := k) (by simpa [D3] using hk) f
 rw [h2] at this
 rw [AAS, this]
theorem ZW {l : List Fx} {k : Nat} {y : Fx} (hk : k < l.length) {h : Hp} (hs : CD [Hu y, Ah Hu l] h) : Ah Hu (l.set k y) h := by
 have e1 : (l.set k y).Perm (y :: (l.take k ++ l.drop (k + 1))) := by
  rw [set_eq_take_append_cons_drop, if_pos hk]
  exact perm_middle
 have e2 : (l.take k ++ l.drop (k + 1)).Sublist l := by
  have : l.take k ++ l.drop (k + 1) = l.eraseIdx k := (eraseIdx_eq_take_drop_succ l k).symm
  rw [this]; exact eraseIdx_sublist l k
 refine Ht e1.symm (FL ?_)
 obtain ⟨h1, h2, hd, a1, a2, p1, h3, h4, hd2, b1, b2, p2, p3⟩ := hs
 exact ⟨h1, h2, hd, a1, a2, p1, h3, h4, hd2, b1, b2, T8 e2 p2, p3⟩
theorem G.bigRep {W : World} {n : Nat} {ds : List Deferred} {E : B0} {L R : List HP} {X : Act → World → Prop} {l : List Fx} {k : Nat} (y : Fx) (hk : k < l.length) {p : HP} (hp : p = Hu y) (hL : BC [p, Ah Hu l] L R) (h : G W n ds E (Ah Hu (l.set k y) :: R) X) : G W n ds E L X := by
 subst hp
 exact G.fold hL (fun _ hp => ZW hk hp) h
theorem Fn.pre2 {P : Program} {f : FuncId} {args : Array Value} {pre pre' : List HP} {post : Value → List HP → Prop} (h : Fn P f args pre post) (hp : ∀ F w, St (pre' ++ F) w → St (pre ++ F) w) : Fn P f args pre' post := fun F w hs => h F w (hp F w hs)
/-! ### Parts of slices -/
def AA7 (a : Option Addr) (c i sz : Nat) : Option Addr := if c = i then a else a.map (·.add (i * sz))
section
variable {P : Program} {E : B0} {L : List HP} {ty : TypeId}
theorem AK.slFromO {t : TypeId} {x y : Operand} {a : Option Addr} {n c e sz by' : Nat} {i : Int} (hx : ev E x = some (.slice a n c)) (ht : Aw P t = some (e, sz, by')) (hy : ev E y = some (.int .i64 i)) (hb : 0 ≤ i ∧ i ≤ n ∧ n ≤ c) :
  AK P ⟨none, .slice t x (some y) none none, ty, "", #[], none⟩ E L (.slice (AA7 a c i.toNat sz) (n - i.toNat) (c - i.toNat)) := by
 intro ρ w ha _
 unfold Aw at ht
 split at ht <;> (try cases ht)
 rename_i e' hu
 split at ht <;> (try cases ht)
 rename_i inf hin
 refine Bp ?_
 show (Instr.sliceAt t (ρ x) (some (ρ y)) none none).run P w = _
 rw [ha x _ hx, ha y _ hy]
 unfold Instr.sliceAt
 rw [run_bind (AO hu)]
 show (Instr.slice t (.slice a n c) (some (.int .i64 i)) none none).run P w = _
 unfold Instr.slice
 rw [run_bind (AO hu)]
 show (do let (l, h, m) ← Instr.sliceBounds true n c (some (.int .i64 i)) none none; let size ← sizeOf e; pure (.slice (if m = l then a else a.map (·.add (l * size))) (h - l) (m - l)) : Sem Value).run P w = _
 rw [run_bind (DN (i := i) (j := n) (.inl rfl) (.inr ⟨rfl, rfl⟩) ⟨hb.1, by omega, by omega⟩)]
 show (do let size ← sizeOf e; pure (.slice (if c = i.toNat then a else a.map (·.add (i.toNat * size))) ((n : Int).toNat - i.toNat) (c - i.toNat)) : Sem Value).run P w = _
 rw [run_bind (Bo (k := inf.size) (by simp [Ak, hin]))]
 rw [Int.toNat_natCast]; rfl
end
theorem OT {T : TypeId} {sz n k c : Nat} {a : Option Addr} {xs : List Value} {h : Hp} (hk : k ≤ n) (hp : Ad T sz (.slice a n c) n xs h) : Cx sz h (.slice a k c) k (xs.take (k * sz)) := by
 rcases hp with ⟨h1, h2, h3⟩ | ⟨b, cap, rest, fr, hv, hb, h1, h2, h3, h4⟩
 ·subst h2; subst h3
  obtain rfl : k = 0 := by omega
  exact .inl ⟨rfl, by simp, a, c, rfl⟩
 ·simp only [Value.slice.injEq, true_and] at hv
  obtain ⟨rfl, rfl⟩ := hv
  have hm := Nat.mul_le_mul_right sz hk
  refine .inr ⟨b, 0, c, xs ++ rest, T, fr, rfl, hb, ?_, by simp; omega, by omega⟩
  rw [drop_zero, take_append_of_le_length om]
theorem LG {T : TypeId} {sz n k c : Nat} {a : Option Addr} {xs : List Value} {h : Hp} (hk : k ≤ n) (hp : Ad T sz (.slice a n c) n xs h) : Cx sz h (.slice (AA7 a c k sz) (n - k) (c - k)) (n - k) (xs.drop (k * sz)) := by
 rcases hp with ⟨h1, h2, h3⟩ | ⟨b, cap, rest, fr, hv, hb, h1, h2, h3, h4⟩
 ·subst h2; subst h3
  obtain rfl : k = 0 := by omega
  exact .inl ⟨rfl, by simp, _, _, rfl⟩
 ·simp only [Value.slice.injEq, true_and] at hv
  obtain ⟨rfl, rfl⟩ := hv
  unfold AA7
  by_cases e : c = k
  ·rw [if_pos e]
   have hnk : n = k := by omega
   subst hnk
   have h0 : n - n = 0 := by omega
   rw [h0]
   exact .inl ⟨rfl, drop_eq_nil_of_le om, _, _, rfl⟩
  ·rw [if_neg e]
   have hm := Nat.mul_le_mul_right sz hk
   have hms : (n - k) * sz = n * sz - k * sz := Nat.sub_mul n k sz
   refine .inr ⟨b, k * sz, c - k, xs ++ rest, T, fr, ?_, hb, ?_, by simp; omega, by omega⟩
   ·simp [Addr.add_eq]
   ·rw [drop_append_of_le_length om, take_append_of_le_length (by rw [length_drop]; omega), take_of_length_le (by rw [length_drop]; omega)]
theorem Gu {α : Type} {f : α → List Value} {sz : Nat} (hf : ∀ x, (f x).length = sz) : ∀ (l : List α) (k : Nat), (l.flatMap f).take (k * sz) = (l.take k).flatMap f ∧ (l.flatMap f).drop (k * sz) = (l.drop k).flatMap f
 | [], k => by simp
 | x :: l, 0 => by simp
 | x :: l, k + 1 => by
  have hx := hf x
  obtain ⟨h1, h2⟩ := Gu hf l k
  rw [flatMap_cons, take_succ_cons, drop_succ_cons, flatMap_cons, show (k + 1) * sz = sz + k * sz by rw [Nat.add_mul]; omega]
  refine ⟨?_, ?_⟩
  ·rw [take_append, hx, take_of_length_le om, show sz + k * sz - sz = k * sz by omega, h1]
  ·rw [drop_append, hx, drop_eq_nil_of_le om, show sz + k * sz - sz = k * sz by omega, h2]; rfl
theorem G.slForm {W : World} {n' : Nat} {ds : List Deferred} {E : B0} {L R : List HP} {X : Act → World → Prop} {T : TypeId} {sz m c : Nat} {a : Option Addr} {xs : List Value} (hL : BI (Ad T sz (.slice a m c) m xs) L R) (h0 : a = none → m = 0 → c = 0 → G W n' ds E L X) (h1 : ∀ b, a = some ⟨b, 0, none⟩ → m ≤ c → G W n' ds E L X) : G W n' ds E L X := by
 intro ac w he hk hs
 obtain ⟨g1, -, hp⟩ := Ap (hs.pick hL)
 rcases hp with ⟨e1, e2, -⟩ | ⟨b', cap, rest, fr, e1, -, -, -, e5, -⟩
 ·simp only [Value.slice.injEq] at e1
  exact h0 e1.1 e2 e1.2.2 ac w he hk hs
 ·simp only [Value.slice.injEq] at e1
  exact h1 b' e1.1 om ac w he hk hs
/-! ### What is told -/
def Dg (l : List Fx) (p : Bs) : List Bs := (l.filter fun y => !decide (y.1 = [47]) && decide (AL y.1 = p)).map fun y => C7 y.1
theorem Xw {l : List Fx} {τ : Tr} (h : D3 l = τ.nodes) (p : Bs) : Dg l p = Bh τ p := by
 unfold Dg Bh
 rw [← h]
 unfold D3
 rw [filter_map, map_map]; rfl
theorem VV (l : List Fx) (p : Bs) : (Dg l p).length ≤ l.length := by
 unfold Dg; rw [length_map]; exact length_filter_le _ _
theorem E8 (τ : Tr) (s : Int) : (AF τ s).length ≤ τ.nodes.length := by
 unfold AF; rw [length_map]; exact length_filter_le _ _
/-! ### Soundness -/
def Dz (τ : Tr) (x : Pt) : Bool :=
 if x.kind = 1 then decide (Co x.path ∧ ¬ AQ τ x.path ∧ AQ τ (AL x.path))
 else if x.kind = 2 then decide (x.path ≠ [47] ∧ AQ τ x.path ∧ (Bh τ x.path).length = 0)
 else if x.kind = 3 ∨ x.kind = 4 then decide (AQ τ x.path) else false
def DG (τ : Tr) (zx : Int) (cl : Bool) : List Pt → Bool
 | [] => true
 | x :: l => Dz τ x && (!cl || decide (x.kind = 2)) && DG (AJ τ x zx).1 zx cl l
def HV (τ : Tr) (zx : Int) (x : Pt) (subs : List Pt) : Bool :=
 if x.kind = 1 ∨ x.kind = 2 ∨ x.kind = 3 ∨ x.kind = 4 then Dz τ x
 else if x.kind = 6 ∨ x.kind = 7 then DG τ zx (decide (x.kind = 6)) subs else true
theorem TJ {τ : Tr} {zx : Int} {cl : Bool} {l : List Pt} {i : Nat} (hi : i < l.length) : DG (AH τ zx (l.take i)).1 zx cl (l.drop i) = (Dz (AH τ zx (l.take i)).1 l[i] && (!cl || decide (l[i].kind = 2)) && DG (AH τ zx (l.take (i + 1))).1 zx cl (l.drop (i + 1))) := by
 rw [drop_eq_getElem_cons hi, DG, take_succ_eq_append_getElem hi, BO]
/-! ### Paths -/
theorem AAp (p : Bs) {r : Bs} (h : r ≠ []) : p < p ++ r := by
 have : p ++ [] < p ++ r ↔ [] < r := Mf p
 rw [append_nil] at this
 refine this.2 ?_
 cases r with
 | nil => exact absurd rfl h
 | cons a r => exact nil_lt_cons _ _
theorem OX {q p : Bs} (h : JJ q p) : ∃ d, d ≠ [] ∧ q = Fh p [] ++ d := by
 obtain ⟨h1, h2⟩ := h
 unfold pfx at h1
 have e : q = Fh p [] ++ q.drop (Fh p []).length := by
  conv => lhs; rw [← take_append_drop (Fh p []).length q, h1]
 refine ⟨q.drop (Fh p []).length, fun g => h2 ?_, e⟩
 rw [e, g, append_nil]
theorem Vl {q p d : Bs} (hd : d ≠ []) (e : q = Fh p [] ++ d) : Bn q p = true := by
 have : JJ q p := by
  subst e
  refine ⟨by unfold pfx; rw [take_left], fun g => hd ?_⟩
  have := congrArg List.length g
  rw [length_append] at this
  exact eq_nil_of_length_eq_zero om
 unfold Bn
 rw [decide_eq_true this, Bool.or_true]
theorem M9 (n : Bs) : Fh [47] n = 47 :: n := by unfold Fh; rw [if_pos rfl]; rfl
theorem Ho {p : Bs} (h : p ≠ [47]) (n : Bs) : Fh p n = p ++ 47 :: n := by unfold Fh; rw [if_neg h, append_assoc]; rfl
theorem Tn {q p : Bs} (h : Bn q p = true) : ∃ r, q = p ++ r := by
 unfold Bn at h
 rw [Bool.or_eq_true, decide_eq_true_iff, decide_eq_true_iff] at h
 rcases h with rfl | h
 ·exact ⟨[], (append_nil _).symm⟩
 ·obtain ⟨d, -, rfl⟩ := OX h
  by_cases e : p = [47]
  ·subst e; exact ⟨d, by rw [M9]⟩
  ·exact ⟨47 :: d, by rw [Ho e, append_assoc]; rfl⟩
theorem Tv {q : Bs} (h : Co q) : C7 q ≠ [] := by
 obtain ⟨-, -, -, h⟩ := Hx h
 intro e
 rw [e] at h; revert h; decide
theorem Mb {q : Bs} (h : Co q) : q = Fh (AL q) (C7 q) := by
 obtain ⟨h0, h1, h2, -⟩ := Hx h
 rw [IE h]
 by_cases e : JD q = []
 ·rw [if_pos e, M9]; rw [e] at h2; exact h2
 ·rw [if_neg e, Ho h1]; exact h2
theorem TK {q : Bs} (h : Co q) : ∃ r, r ≠ [] ∧ q = AL q ++ r := by
 have h1 := Mb h
 by_cases e : AL q = [47]
 ·rw [e, M9] at h1
  exact ⟨C7 q, Tv h, by rw [e]; exact h1⟩
 ·rw [Ho e] at h1
  exact ⟨47 :: C7 q, by simp, h1⟩
theorem AA2 {q p : Bs} (h : Bn q p = true) : ¬ q < p := by
 obtain ⟨r, rfl⟩ := Tn h
 intro g
 by_cases e : r = []
 ·subst e; rw [append_nil] at g; exact Ea.irr _ g
 ·exact Ea.irr _ (Ea.tr _ _ _ g (AAp p e))
theorem Sg {q p : Bs} (hq : Co q) (hp : p ≠ [47]) (h : Bn (AL q) p = true) : Bn q p = true := by
 obtain ⟨r, hr, e⟩ := TK hq
 have key : ∃ d, d ≠ [] ∧ q = Fh p [] ++ d := by
  unfold Bn at h
  rw [Bool.or_eq_true, decide_eq_true_iff, decide_eq_true_iff] at h
  rcases h with h | h
  ·have h1 := Mb hq
   rw [h, Ho hp] at h1
   refine ⟨C7 q, Tv hq, ?_⟩
   rw [Ho hp, append_assoc]; exact h1
  ·obtain ⟨d, hd, h2⟩ := OX h
   refine ⟨d ++ r, by simp [hd], ?_⟩
   rw [← append_assoc, ← h2]; exact e
 obtain ⟨d, hd, e2⟩ := key
 exact Vl hd e2
/-! ### What a part does, path by path -/
theorem Ns {τ : Tr} {y : Pt} {zx : Int} (h1 : y.kind = 1) (ha : Co y.path) (hu : AQ τ (AL y.path)) (q : Bs) : AE (AJ τ y zx).1.nodes q = (if q = AL y.path then (if q = y.path then some (DT y zx) else AE τ.nodes q).map (kidN y.num zx) else if q = y.path then some (DT y zx) else AE τ.nodes q) := by
 unfold AJ Ab
 rw [if_pos h1, if_pos ⟨ha, hu⟩]
 show AE (amod (sset _ _ _) _ _) q = _
 rw [Ib, HQ]
theorem KG {τ : Tr} {y : Pt} {zx : Int} (h2 : y.kind = 2) (ha : Co y.path) (q : Bs) : AE (AJ τ y zx).1.nodes q = (if q = AL y.path then (if Bn q y.path = true then none else AE τ.nodes q).map (kidN y.num zx) else if Bn q y.path = true then none else AE τ.nodes q) := by
 unfold AJ As
 rw [if_neg om, if_pos h2, if_pos ha]
 show AE (amod (τ.nodes.filter _) _ _) q = _
 rw [Ib, Gm (fun k => !Bn k y.path)]
 cases Bn q y.path <;> simp
theorem XV {τ : Tr} {y : Pt} {zx : Int} (h3 : y.kind = 3) (ht : AQ τ y.path) (q : Bs) : AE (AJ τ y zx).1.nodes q = if q = y.path then (AE τ.nodes q).map (Fw y.data y.num zx) else AE τ.nodes q := by
 unfold AJ
 rw [if_neg om, if_neg om, if_pos ⟨h3, ht⟩]
 show AE (amod _ _ _) q = _
 rw [Ib]
theorem Yt {τ : Tr} {y : Pt} {zx : Int} (h4 : y.kind = 4) (ht : AQ τ y.path) (q : Bs) : AE (AJ τ y zx).1.nodes q = if q = y.path then (AE τ.nodes q).map (FU y.acl y.num) else AE τ.nodes q := by
 unfold AJ
 rw [if_neg om, if_neg om, if_neg (by rintro ⟨g, -⟩; omega), if_pos ⟨h4, ht⟩]
 show AE (amod _ _ _) q = _
 rw [Ib]
/-! ### What an entry may be -/
def ACY : Bs := [119, 111, 114, 108, 100]
def wld (l : List Ac) : Prop := l = [] ∨ ∃ q : Int, 1 ≤ q ∧ q ≤ 31 ∧ l = [(q, ACY)]
structure AAh (τ : Tr) (y : Pt) (K : Int) : Prop where
 kind : 0 ≤ y.kind ∧ y.kind ≤ 4
 path : y.path.length ≤ 62
 data : y.data.length ≤ 100
 acl : wld y.acl
 own : y.own = 0 ∨ ∃ s, AE τ.sess y.own = some s
 num : 0 ≤ y.num ∧ y.num ≤ K + 1
 err : y.err = 0
 room : y.kind = 1 → τ.nodes.length < 60
def Yi (τ : Tr) (zx : Int) (subs : List Pt) (K : Int) : Prop := ∀ i (hi : i < subs.length), AAh (AH τ zx (subs.take i)).1 subs[i] (K + i)
structure AA0 (τ : Tr) (x : Pt) (subs : List Pt) : Prop where
 own : 1 ≤ x.own ∧ x.own ≤ 5
 paths : subs.map (·.path) = (AF τ x.own).reverse
 kinds : ∀ y ∈ subs, y.kind = 2
inductive ABd (τ : Tr) (zx : Int) (x : Pt) (subs : List Pt) (K : Int) : Prop
 | part (hs : subs = []) (h : AAh τ x K)
 | opens (hk : x.kind = 5) (hs : subs = []) (ho : 1 ≤ x.own ∧ x.own ≤ 5) (hn : 4 ≤ x.num ∧ x.num ≤ 53) (hd : x.data.length ≤ 100) (ha : x.acl = []) (hp : x.path = [])
 | close (hk : x.kind = 6) (h : AA0 τ x subs) (hp : Yi τ zx subs K) (ha : x.acl = []) (hd : x.data = []) (hl : subs.length ≤ 60) (hp : x.path = [])
 | multi (hk : x.kind = 7) (h : Yi τ zx subs K) (ha : x.acl = []) (hd : x.data = []) (hl : subs.length ≤ 6) (hp : x.path = [])
 | error (hk : x.kind = 8) (hs : subs = []) (he : 0 ≤ x.err ∧ x.err < 99) (hn : x.num = -1) (ha : x.acl = []) (hd : x.data = []) (hp : x.path = [])
def TxC (x : Pt) (subs : List Pt) : Prop := AB x.aclV = true ∧ AB x.subsV = true ∧ ∀ y ∈ subs, AB y.aclV = true ∧ AB y.subsV = true
structure ACi (τ : Tr) (e : En) (K : Int) : Prop where
 sound : HV τ e.zx e.x e.subs = true
 shape : ABd τ e.zx e.x e.subs K
 ses : 0 ≤ e.ses ∧ e.ses < 9
 cells : TxC e.x e.subs
/-! ### What is so in a sound history -/
theorem map_some {α β : Type} {f : α → β} {o : Option α} {b : β} (h : o.map f = some b) : ∃ a, o = some a ∧ b = f a := by
 cases o with
 | none => cases h
 | some a => exact ⟨a, rfl, by simpa using h.symm⟩
theorem EK {τ : Tr} {p : Bs} : AQ τ p ↔ ∃ n, AE τ.nodes p = some n := Option.isSome_iff_exists
/-! ### Parts, one by one -/
theorem Ua {α : Type} {P : List α → Prop} (h0 : P []) (h1 : ∀ l x, P l → P (l ++ [x])) (l : List α) : P l := by
 have : ∀ m : List α, P m.reverse := by
  intro m
  induction m with
  | nil => exact h0
  | cons x m ih => rw [reverse_cons]; exact h1 _ _ ih
 have := this l.reverse
 rwa [reverse_reverse] at this
theorem RB {τ : Tr} {zx : Int} {subs : List Pt} {i : Nat} (hi : i < subs.length) : (AH τ zx (subs.take (i + 1))).1 = (AJ (AH τ zx (subs.take i)).1 subs[i] zx).1 := by
 rw [take_succ_eq_append_getElem hi, BO]
theorem ABo {τ : Tr} {zx : Int} {cl : Bool} {subs : List Pt} (hs : DG τ zx cl subs = true) : ∀ i, i ≤ subs.length → DG (AH τ zx (subs.take i)).1 zx cl (subs.drop i) = true := by
 intro i
 induction i with
 | zero => intro _; rw [take_zero]; exact hs
 | succ i ih =>
  intro hi
  have := ih om
  rw [TJ om] at this
  simp only [Bool.and_eq_true] at this
  exact this.2
theorem Uh {τ : Tr} {zx : Int} {subs : List Pt} (hk : ∀ y ∈ subs, y.kind = 2) : ∀ i, i ≤ subs.length → (∀ j (hj : j < subs.length), j < i → Co subs[j].path) → ∀ q n, AE (AH τ zx (subs.take i)).1.nodes q = some n → (∃ n0, AE τ.nodes q = some n0 ∧ n0.st.own = n.st.own) ∧ ∀ j (hj : j < subs.length), j < i → Bn q subs[j].path = false := by
 intro i
 induction i with
 | zero => intro _ _ q n hq; exact ⟨⟨n, by rw [take_zero] at hq; exact hq, rfl⟩, fun j _ hj => by omega⟩
 | succ i ih =>
  intro hi ha q n hq
  have hi2 : i < subs.length := by omega
  rw [RB hi2, KG (hk _ (getElem_mem hi2)) (ha i hi2 om)] at hq
  have key : ∃ n0, AE (AH τ zx (subs.take i)).1.nodes q = some n0 ∧ n0.st.own = n.st.own ∧ Bn q subs[i].path = false := by
   split at hq
   ·obtain ⟨n0, g, rfl⟩ := map_some hq
    split at g
    ·cases g
    ·rename_i e; exact ⟨n0, g, rfl, by simpa using e⟩
   ·split at hq
    ·cases hq
    ·rename_i e; exact ⟨n, hq, rfl, by simpa using e⟩
  obtain ⟨n0, g1, g2, g3⟩ := key
  obtain ⟨⟨n1, k1, k2⟩, k3⟩ := ih om (fun j hj hji => ha j hj om) q n0 g1
  refine ⟨⟨n1, k1, k2.trans g2⟩, fun j hj hji => ?_⟩
  by_cases e : j = i
  ·subst e; exact g3
  ·exact k3 j hj om
theorem Yf (q : Bs) : Bn q q = true := by unfold Bn; simp
theorem IH {τ : Tr} {s : Int} {q : Bs} (hn : (τ.nodes.map (·.1)).Nodup) : q ∈ AF τ s ↔ s ≠ 0 ∧ ∃ n, AE τ.nodes q = some n ∧ n.st.own = s := by
 unfold AF
 rw [mem_map]
 constructor
 ·rintro ⟨⟨q', n⟩, hm, rfl⟩
  obtain ⟨h1, h2⟩ := mem_filter.1 hm
  simp at h2
  exact ⟨h2.1, n, CR hn h1, h2.2⟩
 ·rintro ⟨h0, n, h1, h2⟩
  exact ⟨(q, n), mem_filter.2 ⟨EG h1, by simp [h0, h2]⟩, rfl⟩
theorem SZ {subs : List Pt} (h : ∀ y ∈ subs, y.kind = 2) : subs.filter Aj = subs := filter_eq_self.2 fun y hy => by unfold Aj; rw [decide_eq_true (h y hy)]
theorem Gh {τ : Tr} {x : Pt} {zx : Int} (h : x.kind = 0) : (AJ τ x zx).1 = τ := by
 unfold AJ
 rw [if_neg om, if_neg om, if_neg (by rintro ⟨g, -⟩; omega), if_neg (by rintro ⟨g, -⟩; omega)]
inductive ABk (z0 : Int) : List En → Tr → Prop
 | nil : ABk z0 [] Dv
 | snoc {l : List En} {τ : Tr} {e : En} (h : ABk z0 l τ) (he : ACi τ e (60 * l.length)) (hz : e.zx = z0 + l.length) (hx : 0 ≤ e.xid ∧ e.xid < 150) : ABk z0 (l ++ [e]) (Lb τ e)
/-! ### In memory -/
/-! ### A session's end, path by path -/
theorem Pd {τ : Tr} {N : Nat} (ho : τ.Ok N) (s : Int) : (AF τ s).Pairwise (· < ·) := ho.sorted.filter _
theorem M0 {τ : Tr} {zx : Int} {q : Bs} (l : List Pt) : (∀ y ∈ l, y.kind = 2 ∧ Co y.path) → (AQ (AH τ zx l).1 q ↔ AQ τ q ∧ ∀ y ∈ l, Bn q y.path = false) := by
 induction l using Ua with
 | h0 => intro _; exact ⟨fun h => ⟨h, fun y hy => by cases hy⟩, fun h => h.1⟩
 | h1 l x ih =>
  intro hl
  obtain ⟨k1, k2⟩ := hl x (by simp)
  have ih2 := ih fun y hy => hl y (by simp [hy])
  have e : AQ (AH τ zx (l ++ [x])).1 q ↔ AQ (AH τ zx l).1 q ∧ Bn q x.path = false := by
   rw [BO]
   unfold AQ
   dsimp only
   rw [KG k1 k2]
   cases Bn q x.path <;> split <;> simp
  rw [e, ih2]
  constructor
  ·rintro ⟨⟨a, b⟩, c⟩
   refine ⟨a, fun y hy => ?_⟩
   rcases mem_append.1 hy with hy | hy
   ·exact b y hy
   ·rw [mem_singleton] at hy; subst hy; exact c
  ·rintro ⟨a, b⟩
   exact ⟨⟨a, fun y hy => b y (by simp [hy])⟩, b x (by simp)⟩
theorem AAF {τ : Tr} {N : Nat} (ho : τ.Ok N) {i : Nat} (hi : i < τ.nodes.length) : AU τ τ.nodes[i].1 = { τ.nodes[i].2.st with len := τ.nodes[i].2.data.length, kids := (Bh τ τ.nodes[i].1).length } ∧ AQ τ τ.nodes[i].1 := by
 have h1 : AE τ.nodes τ.nodes[i].1 = some τ.nodes[i].2 := CR (ho.sorted.nodup Ea) (getElem_mem hi)
 unfold AU Im AQ
 rw [h1]; exact ⟨rfl, rfl⟩
theorem ABN (τ : Tr) (e : En) : (Lb τ e).zx = e.zx := by
 have hp : ∀ (τ : Tr) (x : Pt) (zx : Int), (AJ τ x zx).1.zx = τ.zx := by
  intro τ x zx
  unfold AJ Ab As
  repeat' split
  all_goals rfl
 have hps : ∀ (τ : Tr) (zx : Int) (l : List Pt), (AH τ zx l).1.zx = τ.zx := by
  intro τ zx l
  induction l using Ua with
  | h0 => rfl
  | h1 l x ih => rw [BO]; dsimp only; rw [hp, ih]
 unfold Lb AC
 dsimp only
 split
 ·split <;> rfl
 split
 ·exact hps _ _ _
 split
 ·exact hps _ _ _
 split
 ·rfl
 ·exact hp _ _ _
theorem Gr.up {a p : HP} (hT : Gr p) : Gr (CD [a, p]) := by
 intro h w hp hle
 obtain ⟨h1, h2, _, a1, a2, _, h3⟩ := hp
 obtain ⟨h4, a4, hp4⟩ := Ap (p := p) (L := []) h3
 exact hT h4 w hp4 (fun b o e => hle b o (a2 b o (a4 b o e)))
def DU : List Ac := [(31, [119, 111, 114, 108, 100])]
theorem Dr.mk0 {p : HP} {s : Int} {r : Rq} (hs : A4 s) (hT : Gr p) (hk : A4 r.kind ∧ A4 r.xid ∧ A4 r.flags ∧ A4 r.ver) (hl : r.path.length ≤ 64 ∧ r.data.length ≤ 64) (ha : ∀ h : Hp, p h → Cx 2 h r.aclV r.acl.length (r.acl.flatMap CP))
  (hm : r.acl.length ≤ 8 ∧ ∀ a ∈ r.acl, A4 a.1 ∧ a.2.length ≤ 64) (h1 : ∃ a n c, r.aclV = .slice a n c) (h2 : ∃ a n c, r.subsV = .slice a n c) (h3 : ∃ a n c, r.armV = .slice a n c) : Dr p ⟨s, []⟩ AG r :=
 ⟨⟨hk.1, hk.2.1, hk.2.2.1, hk.2.2.2, by omega, by omega, ha, by omega, fun a h => ⟨(hm.2 a h).1, by have := (hm.2 a h).2; omega⟩, h2, h3⟩, hs, fun _ _ => .inl ⟨rfl, rfl, none, 0, rfl⟩, by show 0 ≤ _; decide, ⟨none, 0, 0, rfl⟩, h1, hT⟩
theorem AAI {a p : HP} {sz n : Nat} {v : Value} {xs : List Value} (ha : ∀ h : Hp, a h → Cx sz h v n xs) : ∀ h : Hp, CD [a, p] h → Cx sz h v n xs := by
 intro h hp
 obtain ⟨h1, a1, hp1⟩ := Ap hp
 exact Ck (ha h1 hp1) a1
theorem UT {a p : HP} {sz n : Nat} {v : Value} {xs : List Value} (ha : ∀ h : Hp, p h → Cx sz h v n xs) : ∀ h : Hp, CD [a, p] h → Cx sz h v n xs := by
 intro h hp
 obtain ⟨h1, h2, _, a1, a2, _, h3⟩ := hp
 obtain ⟨h4, a4, hp4⟩ := Ap (p := p) (L := []) h3
 exact Ck (ha h4 hp4) (fun b o e => a2 b o (a4 b o e))
theorem Y9 : Gc DU := ⟨by decide, by simp [DU, Fi, L8, Cu, FM, EZ, PP, DS], fun a ha => by
 obtain rfl := mem_singleton.1 ha
 exact ⟨⟨⟨by decide, by decide⟩, by decide⟩, by decide⟩⟩
theorem CQ : Gc [] := ⟨by decide, by simp [Fi, Cu, DS], fun a ha => by cases ha⟩
theorem ABB {a p : HP} {v : Value} (ha : ∀ h : Hp, a h → Cx 2 h v 1 (DU.flatMap CP)) : ∀ h : Hp, CD [a, p] h → Cx 2 h v DU.length (DU.flatMap CP) := by
 intro h hp
 obtain ⟨h1, a1, hp1⟩ := Ap hp
 exact Ck (ha h1 hp1) a1
theorem AAx {τ : Tr} {u : B4} {r : Rq} {p : HP} {iv : Value} (h : Dr p u iv r) (ha : Gc r.acl) : PtI (AV τ u r).1 := by
 have h1 := PZ τ u h.ses (by have := h.rq.data; omega) ha
 have h2 := N3 h τ
 have h3 := Jq h τ
 have hu : FS = 18446744073709551616 := rfl
 refine ⟨?_, h1.own, h1.num, ?_, by omega, by have := h1.data; omega, by omega, fun a ha => (h1.acl.each a ha).1⟩
 ·have hs : ∀ k : Int, 0 ≤ k ∧ k ≤ 8 → A4 k := fun k hk => ⟨by omega, by omega⟩
  unfold AV
  split
  ·exact hs 1 om
  split
  ·exact hs 2 om
  split
  ·unfold FJ
   split
   ·exact hs 3 om
   split
   ·exact hs 4 om
   ·exact hs 0 om
  ·exact hs 0 om
 ·unfold AV
  split
  ·exact A4.zero
  split
  ·exact A4.zero
  split
  ·unfold FJ
   split
   ·exact A4.zero
   split <;> exact A4.zero
  ·exact A4.zero
structure Th (y : Pt) : Prop where
 i : PtI y
 acl : (Fi y.acl).length ≤ 33000000
 many : y.acl.length ≤ 1048576
 path : y.path.length ≤ 1048576
 data : y.data.length ≤ 1048576
theorem H4 {n : Int} (h : A4 n) : (EZ n).length ≤ 10 := Kk h
theorem IQ {α : Type} {f : α → HP} : ∀ {l : List α} {x : α} {h : Hp}, x ∈ l → Ah f l h → ∃ h1, (∀ b o, h1 b = some o → h b = some o) ∧ f x h1
 | y :: l, x, h, hx, hp => by
  have hq := QL hp
  rcases mem_cons.1 hx with rfl | hx
  ·exact Ap hq
  ·obtain ⟨h1, a1, q1⟩ := Ap (C6 (List.Perm.swap _ _ _) hq)
   obtain ⟨h2, a2, q2⟩ := IQ hx q1
   exact ⟨h2, fun b o hb => a1 b o (a2 b o hb), q2⟩
 | [], _, _, hx, _ => by cases hx
theorem MA {e : En} {h : Hp} (hp : entR e h) : Cx 2 h e.x.aclV e.x.acl.length (e.x.acl.flatMap CP) := by
 obtain ⟨h1, a1, q1⟩ := Ap hp
 exact Ck (AZ q1) a1
theorem Hn {e : En} {h : Hp} (hp : entR e h) : Cx 8 h e.x.subsV e.subs.length (e.subs.flatMap A1) := by
 obtain ⟨h1, a1, q1⟩ := Ap (C6 (List.Perm.swap _ _ _) hp)
 exact Ck (AZ q1) a1
theorem Jv {e : En} {h : Hp} (hp : entR e h) {y : Pt} (hy : y ∈ e.subs) : Cx 2 h y.aclV y.acl.length (y.acl.flatMap CP) := by
 have hq : CD [Ah aclR e.subs, aclR e.x, AAc e] h := C6 (by
  refine List.Perm.trans (List.Perm.cons _ (List.Perm.swap _ _ _)) (List.Perm.swap _ _ _)) hp
 obtain ⟨h1, a1, q1⟩ := Ap hq
 obtain ⟨h2, a2, q2⟩ := IQ hy q1
 exact Ck (AZ q2) (fun b o hb => a1 b o (a2 b o hb))
theorem G7 {b : Prop} [Decidable b] {e : Int} (h : 0 ≤ e ∧ e ≤ 110) : 0 ≤ Ai b e ∧ Ai b e ≤ 110 := by
 show 0 ≤ (if b then e else 0) ∧ (if b then e else 0) ≤ 110
 split <;> omega
theorem I1 (p : Bs) : 0 ≤ BG p ∧ BG p ≤ 110 := by rcases Vs p with h | h | h <;> omega
theorem I8 {l : List Int} (h : ∀ e ∈ l, 0 ≤ e ∧ e ≤ 110) : 0 ≤ B2 l ∧ B2 l ≤ 110 := by
 rcases N8 l with g | g
 ·omega
 ·exact h _ g
theorem TT (r : Rq) : 0 ≤ Eh r ∧ Eh r ≤ 110 := by
 unfold Eh
 split
 ·exact G7 om
 split
 ·exact G7 om
 ·omega
theorem Kp (τ : Tr) (u : B4) (r : Rq) : 0 ≤ (AV τ u r).2 ∧ (AV τ u r).2 ≤ 110 := by
 unfold AV
 split
 ·refine I8 fun e he => ?_
  simp only [Dp, mem_cons, not_mem_nil, or_false] at he
  rcases he with rfl | rfl | rfl | rfl | rfl | rfl | rfl | rfl | rfl | rfl <;> first | exact I1 _ | exact G7 om
 split
 ·refine I8 fun e he => ?_
  simp only [GX, mem_cons, not_mem_nil, or_false] at he
  rcases he with rfl | rfl | rfl | rfl | rfl | rfl <;> first | exact I1 _ | exact G7 om
 split
 ·refine I8 fun e he => ?_
  simp only [J3, mem_cons, not_mem_nil, or_false] at he
  rcases he with rfl | rfl | rfl | rfl | rfl <;> first | exact I1 _ | exact TT _ | exact G7 om
 ·exact ⟨by show (0 : Int) ≤ 110; decide, by show (110 : Int) ≤ 110; decide⟩
theorem KQ {e n : Int} (he : A4 e) (hn : A4 n) : Th (Ax e n) :=
 ⟨⟨⟨by show (-9223372036854775808 : Int) ≤ 8; decide, by show (8 : Int) ≤ 9223372036854775807; decide⟩, A4.zero, hn, he, by show 0 < FS; decide, by show 0 < FS; decide, by show 0 < FS; decide, fun a ha => by cases ha⟩, CQ.long, Nat.zero_le _, Nat.zero_le _, Nat.zero_le _⟩
theorem WP {τ : Tr} {u : B4} {r : Rq} {p : HP} {iv : Value} (h : Dr p u iv r) (ha : Gc r.acl) : Th (AV τ u r).1 := by
 have h1 := PZ τ u h.ses (by have := h.rq.data; omega) ha
 exact ⟨AAx h ha, h1.acl.long, Jq h τ, N3 h τ, h1.data⟩
theorem Th.of {y z : Pt} (e : y.pl = z.pl) (h : Th z) : Th y := by
 have hk : Th z.pl := ⟨⟨h.i.kind, h.i.own, h.i.num, h.i.err, h.i.path, h.i.data, h.i.many, h.i.acl⟩, h.acl, h.many, h.path, h.data⟩
 rw [← e] at hk
 exact ⟨⟨hk.i.kind, hk.i.own, hk.i.num, hk.i.err, hk.i.path, hk.i.data, hk.i.many, hk.i.acl⟩, hk.acl, hk.many, hk.path, hk.data⟩
def Ids (p : HP) (v : Value) (l : List Bs) : Prop := (∀ h : Hp, p h → Cx 1 h v l.length (Ao l)) ∧ l.length ≤ 1048576 ∧ ∃ a n c, v = .slice a n c
structure WiD (p : HP) (u : B4) (iv : Value) (r : Rq) (subs : List Rq) : Prop where
 w : Dr p u iv r
 a : Gc r.acl
 rd : ∀ h : Hp, p h → Cx 10 h r.subsV subs.length (subs.flatMap D6)
 each : ∀ x ∈ subs, Dr p u iv x
 acls : ∀ x ∈ subs, Gc x.acl
def VL : HP := fun _ => True
theorem Ti (h : Hp) : VL h := trivial
def Am : List Bs → Tr → Tr
 | [], τ => τ
 | p :: l, τ => Am l (AC τ τ.zx (CH τ p) []).1
theorem M8 : ∀ (l m : List Bs) (τ : Tr), Am (l ++ m) τ = Am m (Am l τ)
 | [], _, _ => rfl
 | _ :: l, m, _ => M8 l m _
theorem NO : ∀ (l m : List Bs) (τ : Tr), A0 (l ++ m) τ = A0 l τ ++ A0 m (Am l τ)
 | [], _, _ => rfl
 | p :: l, m, τ => by
  show CH τ p :: A0 (l ++ m) _ = (CH τ p :: A0 l _) ++ _
  rw [NO l m]; rfl
theorem Cj : ∀ (l : List Bs) (τ : Tr), (A0 l τ).length = l.length
 | [], _ => rfl
 | _ :: l, _ => congrArg Nat.succ (Cj l _)
theorem H3 {l : List Bs} {i : Nat} (hi : i < l.length) (τ : Tr) : Am (l.take (i + 1)) τ = (AC (Am (l.take i) τ) (Am (l.take i) τ).zx (CH (Am (l.take i) τ) l[i]) []).1 := by
 rw [take_succ_eq_append_getElem hi, M8]; rfl
theorem ET {l : List Bs} {i : Nat} (hi : i < l.length) (τ : Tr) : A0 (l.take (i + 1)) τ = A0 (l.take i) τ ++ [CH (Am (l.take i) τ) l[i]] := by
 rw [take_succ_eq_append_getElem hi, NO]; rfl
theorem OP {N : Nat} : ∀ (l : List Bs) {τ : Tr}, τ.Ok N → (Am l τ).Ok (N + l.length)
 | [], _, h => h
 | p :: l, τ, h => by
  have h1 : (AC τ τ.zx (CH τ p) []).1.Ok (N + 1) := h.apply τ.zx (CH τ p) [] (Nat.zero_le _) (fun _ h => by cases h)
  have h2 := OP l h1
  rw [length_cons, show N + (l.length + 1) = N + 1 + l.length by omega]
  exact h2
theorem Dk : ∀ (l : List Bs) (τ : Tr), ∀ y ∈ A0 l τ, y.aclV = AG ∧ y.acl = [] ∧ y.subsV = AG ∧ y.pl = y
 | [], _, y, hy => by cases hy
 | p :: l, τ, y, hy => by
  rcases mem_cons.1 (show y ∈ CH τ p :: A0 l _ from hy) with rfl | hy
  ·exact ⟨rfl, rfl, rfl, rfl⟩
  ·exact Dk l _ y hy
theorem W5 : ∀ {l : List Pt}, (∀ y ∈ l, y.pl = y) → l.map Pt.pl = l
 | [], _ => rfl
 | y :: l, h => by rw [map_cons, h y mem_cons_self, W5 fun z hz => h z (mem_cons_of_mem _ hz)]
theorem GT {τ : Tr} {N : Nat} (ho : τ.Ok N) {s : Int} {p : Bs} (hp : p ∈ AF τ s) : p.length ≤ 60 := by
 unfold AF at hp
 obtain ⟨y, hy, rfl⟩ := mem_map.1 hp
 exact Ec (ho.able y (mem_filter.1 hy).1)
theorem P8 : ∀ {l : List Pt}, (∀ y ∈ l, y.aclV = AG ∧ y.acl = []) → ∀ h : Hp, Ah aclR l h
 | [], _, h => CX h
 | y :: l, hl, h => by
  refine FL ?_
  obtain ⟨h1, h2⟩ := hl y mem_cons_self
  have ha : ∀ g : Hp, aclR y g := fun g => by
   unfold aclR
   rw [h1, h2]
   exact AN _ 2 g
  exact ⟨fun _ => none, h, fun _ => .inl rfl, (fun _ _ e => by cases e), fun _ _ e => e, ha _, h, fun _ => none, fun _ => .inr rfl, fun _ _ e => e, (fun _ _ e => by cases e), P8 (fun z hz => hl z (mem_cons_of_mem _ hz)) _, trivial⟩
theorem Fp (l : List Pt) : (l.flatMap A1).length = l.length * 8 := Qs (fun _ _ => rfl)
theorem IK {xs ys zs : List Value} {n : Nat} (hn : xs.length = n) (hl : zs.length = ys.length) : DR (xs ++ ys) n zs = xs ++ zs := by
 unfold DR
 have e : (xs ++ ys).drop (n + zs.length) = [] := drop_eq_nil_of_le (by rw [length_append]; omega)
 rw [e, ← hn, take_left, append_nil]
def E5 (s : Int) (z : Value) : List Value := [AA 6, AD [], AD [], AG, AA s, AA 0, AA 0, z]
def RN (K : HP) (c b : Nat) (τ : Tr) (s : Int) (l : List Bs) (i : Nat) : HP := fun h => ∃ z : Value, (∃ a k, z = .slice a i k) ∧ CD [K, Aa c (Am (l.take i) τ), Ae b (E5 s z) 60, Ad 60 8 z i ((A0 (l.take i) τ).flatMap A1)] h
theorem Qy {p : HP} {u : B4} {iv : Value} : ∀ {l : List Rq} {τ : Tr}, (∀ r ∈ l, Dr p u iv r ∧ Gc r.acl) → (∀ y ∈ (Bd u l τ).2.1, Th y) ∧ (Bd u l τ).2.1.length ≤ l.length
 | [], _, _ => ⟨(fun _ h => by cases h), Nat.le_refl _⟩
 | r :: l, τ, h => by
  rw [C0]
  split
  ·exact ⟨(fun _ g => by cases g), Nat.zero_le _⟩
  ·obtain ⟨h1, h2⟩ := Qy (l := l) (τ := (AC τ τ.zx (AV τ u r).1 []).1) (fun x hx => h x (mem_cons_of_mem _ hx))
   have h0 := h r mem_cons_self
   refine ⟨fun y hy => ?_, Nat.succ_le_succ h2⟩
   rcases mem_cons.1 hy with rfl | hy
   ·exact WP h0.1 h0.2
   ·exact h1 y hy
theorem Ed {u : B4} : ∀ {l : List Rq} {τ : Tr} {i : Nat} {e : Int}, (Bd u l τ).2.2 = some (i, e) → i < l.length ∧ 0 ≤ e ∧ e ≤ 110
 | [], _, _, _, h => by cases h
 | r :: l, τ, i, e, h => by
  rw [C0] at h
  split at h
  ·have h2 : (0, (AV τ u r).2) = (i, e) := Option.some.inj h
   obtain ⟨rfl, rfl⟩ := Prod.mk.inj h2
   have := Kp τ u r
   exact ⟨by rw [length_cons]; omega, this.1, this.2⟩
  ·have h2 : Option.map (fun x : Nat × Int => (x.1 + 1, x.2)) (Bd u l (AC τ τ.zx (AV τ u r).1 []).1).2.2 = some (i, e) := h
   obtain ⟨⟨j, k⟩, h3, h4⟩ := Option.map_eq_some_iff.1 h2
   obtain ⟨rfl, rfl⟩ := Prod.mk.inj h4
   have := Ed h3
   exact ⟨by rw [length_cons]; omega, this.2.1, this.2.2⟩
theorem AAT {p : HP} {u : B4} {iv : Value} {l : List Rq} {τ : Tr} (h : ∀ r ∈ l, Dr p u iv r ∧ Gc r.acl) : Th (A6 τ u l).1 ∧ (∀ y ∈ (A6 τ u l).2, Th y) ∧ (A6 τ u l).2.length ≤ 8 := by
 have hm : A4 (-1) := ⟨by decide, by decide⟩
 unfold A6
 split
 ·exact ⟨KQ ⟨by decide, by decide⟩ hm, (fun _ g => by cases g), by show 0 ≤ 8; decide⟩
 ·rename_i hl
  have h8 : l.length ≤ 8 := by omega
  obtain ⟨h1, h2⟩ := Qy (τ := τ) h
  split
  ·rename_i i e he
   have hie : i < 8 ∧ 0 ≤ e ∧ e ≤ 110 := by
    have := Ed he
    omega
   exact ⟨KQ ⟨by omega, by omega⟩ ⟨by omega, by omega⟩, (fun _ g => by cases g), by show 0 ≤ 8; decide⟩
  ·refine ⟨⟨⟨⟨by show (-9223372036854775808 : Int) ≤ 7; decide, by show (7 : Int) ≤ 9223372036854775807; decide⟩, A4.zero, A4.zero, A4.zero, by show 0 < FS; decide, by show 0 < FS; decide, by show 0 < FS; decide, fun a ha => by cases ha⟩, CQ.long, Nat.zero_le _, Nat.zero_le _, Nat.zero_le _⟩, h1, by show (Bd u l τ).2.1.length ≤ 8; omega⟩
theorem ACS {τ : Tr} {p : Bs} (hp : p.length ≤ 60) : Th (CH τ p) ∧ (Ie (CH τ p)).length ≤ 200 := by
 have hu : FS = 18446744073709551616 := rfl
 have hn : A4 (C1 ((AU τ (AL p)).cver + 1)) := wrap_i64 _
 have hR : Th (CH τ p) := ⟨⟨⟨by show (-9223372036854775808 : Int) ≤ 2; decide, by show (2 : Int) ≤ 9223372036854775807; decide⟩, A4.zero, hn, A4.zero, by show p.length < FS; omega, by show 0 < FS; decide, by show 0 < FS; decide, fun a ha => by cases ha⟩, CQ.long, Nat.zero_le _, by show p.length ≤ _; omega, Nat.zero_le _⟩
 refine ⟨hR, ?_⟩
 have h1 := H4 hR.i.kind
 have h2 := EU (u := p.length) om
 have h5 := H4 hR.i.own
 have h6 := H4 hR.i.num
 have h7 := H4 hR.i.err
 have h8 : (FM (CH τ p).path).length ≤ 70 := by
  show (FM p).length ≤ 70
  unfold FM Cu
  rw [length_append]; omega
 have h9 : (FM (CH τ p).data).length ≤ 10 := by
  show (FM []).length ≤ 10
  simp [FM, Cu, DS]
 have h10 : (Fi (CH τ p).acl).length ≤ 10 := by
  show (Fi []).length ≤ 10
  simp [Fi, Cu, DS]
 unfold Ie
 simp only [flatMap_cons, flatMap_nil, length_append, length_nil]
 omega
theorem QE : ∀ {l : List Bs} {τ : Tr}, (∀ p ∈ l, p.length ≤ 60) → ∀ y ∈ A0 l τ, Th y ∧ (Ie y).length ≤ 200
 | [], _, _, _, h => by cases h
 | p :: l, τ, h, y, hy => by
  rcases mem_cons.1 (show y ∈ CH τ p :: A0 l _ from hy) with rfl | hy
  ·exact ACS (h p mem_cons_self)
  ·exact QE (fun x hx => h x (mem_cons_of_mem _ hx)) y hy
def Bm (k : Int) : Prop := k = 9 ∨ k = 10 ∨ k = 11 ∨ k = 12
instance (k : Int) : Decidable (Bm k) := inferInstanceAs (Decidable (_ ∨ _))
def Rf (τ : Tr) (ids : List Bs) (r : Rq) : List Int := [Ai (¬ Bm r.kind) 110, BG r.path, Ai (¬ AQ τ r.path) 60, Ai (r.kind ≠ 10 ∧ ¬ Hj τ ids r.path 1) 65]
def BM (τ : Tr) (ids : List Bs) (r : Rq) : Int := B2 (Rf τ ids r)
def Be (τ : Tr) (ids : List Bs) (r : Rq) : List Ac := if BM τ ids r = 0 ∧ r.kind = 12 then Dn τ r.path else []
def BV (τ : Tr) (ids : List Bs) (r : Rq) : List Bs := if BM τ ids r = 0 ∧ r.kind = 11 then Bh τ r.path else []
def DK (τ : Tr) (ids : List Bs) (r : Rq) (av kv : Value) : Rp :=
 ⟨r.xid, τ.zx, BM τ ids r, [], if BM τ ids r = 0 ∧ r.kind = 9 then He τ r.path else [], if BM τ ids r = 0 then AU τ r.path else st0, av, kv, AG⟩
theorem MS {τ : Tr} {ids : List Bs} {r : Rq} (h : BM τ ids r = 0) : Bm r.kind ∧ AQ τ r.path := by
 have h0 := E6 _ h
 have h1 := h0 (Ai (¬ Bm r.kind) 110) (by unfold Rf; simp)
 have h2 := h0 (Ai (¬ AQ τ r.path) 60) (by unfold Rf; simp)
 constructor
 ·unfold Ai at h1
  split at h1
  ·cases h1
  ·rename_i g; exact Decidable.not_not.1 g
 ·unfold Ai at h2
  split at h2
  ·cases h2
  ·rename_i g; exact Decidable.not_not.1 g
theorem EV {τ : Tr} {ids : List Bs} {r : Rq} (h : ¬ (BM τ ids r = 0 ∧ r.kind = 12)) : Be τ ids r = [] := if_neg h
theorem EN {τ : Tr} {ids : List Bs} {r : Rq} (h : ¬ (BM τ ids r = 0 ∧ r.kind = 11)) : BV τ ids r = [] := if_neg h
theorem Mx {τ : Tr} {ids : List Bs} {r : Rq} (h : BM τ ids r = 0) (hk : r.kind = 12) : Be τ ids r = Dn τ r.path := if_pos ⟨h, hk⟩
theorem Mk {τ : Tr} {ids : List Bs} {r : Rq} (h : BM τ ids r = 0) (hk : r.kind = 11) : BV τ ids r = Bh τ r.path := if_pos ⟨h, hk⟩
theorem Nu {τ : Tr} {ids : List Bs} {r : Rq} {av kv : Value} (h : BM τ ids r ≠ 0) : DK τ ids r av kv = ⟨r.xid, τ.zx, BM τ ids r, [], [], st0, av, kv, AG⟩ := by
 unfold DK
 rw [if_neg (fun g => h g.1), if_neg h]
theorem Oi {τ : Tr} {ids : List Bs} {r : Rq} {av kv : Value} (h : BM τ ids r = 0) (hk : r.kind = 9) : DK τ ids r av kv = ⟨r.xid, τ.zx, 0, [], He τ r.path, AU τ r.path, av, kv, AG⟩ := by
 unfold DK
 rw [if_pos ⟨h, hk⟩, if_pos h, h]
theorem EQ {τ : Tr} {ids : List Bs} {r : Rq} {av kv : Value} (h : BM τ ids r = 0) (hk : ¬ r.kind = 9) : DK τ ids r av kv = ⟨r.xid, τ.zx, 0, [], [], AU τ r.path, av, kv, AG⟩ := by
 unfold DK
 rw [if_neg (fun g => hk g.2), if_pos h, h]
theorem RqA.up {a p : HP} {r : Rq} (h : RqA p r) : RqA (CD [a, p]) r := ⟨h.kind, h.xid, h.flags, h.ver, h.path, h.data, UT h.acl, h.many, h.ids, h.sub, h.arm⟩
theorem Dr.more {a p : HP} {s : Int} {ids all : List Bs} {iv iv2 : Value} {r : Rq} (h : Dr p ⟨s, ids⟩ iv r) (hr : ∀ h : Hp, a h → Cx 1 h iv2 all.length (Ao all)) (hl : all.length ≤ 1048576) (hs : ∃ a n c, iv2 = .slice a n c) : Dr (CD [a, p]) ⟨s, all⟩ iv2 r := ⟨h.rq.up, h.ses, AAI hr, hl, hs, h.ashape, h.tab.up⟩
theorem WiD.more {a p : HP} {s : Int} {ids all : List Bs} {iv iv2 : Value} {r : Rq} {subs : List Rq} (h : WiD p ⟨s, ids⟩ iv r subs) (hr : ∀ h : Hp, a h → Cx 1 h iv2 all.length (Ao all)) (hl : all.length ≤ 1048576) (hs : ∃ a n c, iv2 = .slice a n c) : WiD (CD [a, p]) ⟨s, all⟩ iv2 r subs :=
 ⟨h.w.more hr hl hs, h.a, UT h.rd, fun x hx => (h.each x hx).more hr hl hs, h.acls⟩
theorem Dr.z {p : HP} {s : Int} {ids : List Bs} {iv : Value} {r : Rq} (h : Dr p ⟨s, ids⟩ iv r) : Dr p ⟨0, ids⟩ iv r := ⟨h.rq, A4.zero, h.ids, h.few, h.shape, h.ashape, h.tab⟩
def zS (s : LN) : LN := { s with cz := 0, mz := 0, pz := 0 }
def zN (n : Nd) : Nd := { n with st := zS n.st }
def zL (l : List PN) : List PN := l.map fun y => (y.1, zN y.2)
def zT (τ : Tr) : Tr := ⟨zL τ.nodes, τ.sess, 0⟩
theorem Ll : ∀ (l : List PN) (p : Bs), AE (zL l) p = (AE l p).map zN
 | [], _ => rfl
 | y :: l, p => by
  show AE ((y.1, zN y.2) :: zL l) p = (AE (y :: l) p).map zN
  unfold AE
  split
  ·rfl
  ·exact Ll l p
theorem Fs (τ : Tr) (p : Bs) : AQ (zT τ) p ↔ AQ τ p := by
 unfold AQ
 rw [show AE (zT τ).nodes p = (AE τ.nodes p).map zN from Ll _ _]
 cases AE τ.nodes p <;> simp
theorem Yb (τ : Tr) : AS (zT τ) = AS τ := by
 unfold AS zT zL
 rw [map_map]; rfl
theorem Zy (τ : Tr) (p : Bs) : Bh (zT τ) p = Bh τ p := by
 unfold Bh zT zL
 rw [filter_map, map_map]; rfl
theorem Xu (τ : Tr) (s : Int) : AF (zT τ) s = AF τ s := by
 unfold AF zT zL
 rw [filter_map, map_map]; rfl
theorem PH (τ : Tr) (p : Bs) : AU (zT τ) p = zS (AU τ p) := by
 unfold AU Im
 rw [show AE (zT τ).nodes p = (AE τ.nodes p).map zN from Ll _ _, Zy]
 cases AE τ.nodes p <;> rfl
theorem ABG (τ : Tr) (p : Bs) : Dn (zT τ) p = Dn τ p := by
 unfold Dn
 rw [show AE (zT τ).nodes p = (AE τ.nodes p).map zN from Ll _ _]
 cases AE τ.nodes p <;> rfl
theorem TD (τ : Tr) (ids : List Bs) (p : Bs) (k : Int) : Hj (zT τ) ids p k ↔ Hj τ ids p k := by
 unfold Hj
 rw [Fs, ABG]
theorem Fu {a b : Prop} [Decidable a] [Decidable b] (h : a ↔ b) (e : Int) : Ai a e = Ai b e := by
 by_cases g : a
 ·rw [show Ai a e = e from if_pos g, show Ai b e = e from if_pos (h.1 g)]
 ·rw [show Ai a e = 0 from if_neg g, show Ai b e = 0 from if_neg (fun k => g (h.2 k))]
theorem T3 (τ : Tr) (r : Rq) : JA (zT τ) r = zS (JA τ r) := PH _ _
theorem Tz (τ : Tr) (r : Rq) : B3 (zT τ) r = B3 τ r := by
 unfold B3
 rw [T3]; rfl
theorem UA (τ : Tr) (u : B4) (r : Rq) : AV (zT τ) u r = AV τ u r := by
 have e1 : Ar (zT τ) u r = Ar τ u r := by
  unfold Ar
  rw [Tz, T3]; rfl
 have e2 : Dp (zT τ) u r = Dp τ u r := by
  unfold Dp
  rw [Tz, T3, Yb, Xu, Fu (not_congr (Fs τ (AL r.path))), Fu (not_congr (TD τ u.ids (AL r.path) 4)), Fu (Fs τ (B3 τ r))]
  rfl
 have e3 : EA (zT τ) r = EA τ r := by
  unfold EA
  rw [T3]; rfl
 have e4 : GX (zT τ) u r = GX τ u r := by
  unfold GX
  rw [PH, Fu (not_congr (Fs τ r.path)), Fu (not_congr (TD τ u.ids (AL r.path) 8))]
  rfl
 have es : ∀ k p, C5 k (AU (zT τ) p) = C5 k (AU τ p) := fun k p => by
  rw [PH]
  unfold C5
  split <;> rfl
 have e5 : FJ (zT τ) r = FJ τ r := by
  unfold FJ
  rw [es, es]
 have e6 : J3 (zT τ) u r = J3 τ u r := by
  unfold J3
  rw [es, Fu (not_congr (Fs τ r.path)), Fu (not_congr (TD τ u.ids r.path (OL r.kind)))]
 unfold AV
 rw [e1, e2, e3, e4, e5, e6]
/-! ### Steps -/
theorem T0 : ∀ (l : List PN) (p : Bs) (n : Nd), zL (sset l p n) = sset (zL l) p (zN n)
 | [], _, _ => rfl
 | y :: l, p, n => by
  show zL (if y.1 = p then (p, n) :: l else if p < y.1 then (p, n) :: y :: l else y :: sset l p n) = if y.1 = p then (p, zN n) :: zL l else if p < y.1 then (p, zN n) :: (y.1, zN y.2) :: zL l else (y.1, zN y.2) :: sset (zL l) p (zN n)
  split
  ·rfl
  ·split
   ·rfl
   ·show (y.1, zN y.2) :: zL (sset l p n) = _
    rw [T0 l p n]
theorem O4 {l : List PN} {p : Bs} {f g : Nd → Nd} (h : ∀ n, zN (f n) = g (zN n)) : zL (amod l p f) = amod (zL l) p g := by
 unfold zL amod
 rw [map_map, map_map]
 refine map_congr_left fun y _ => ?_
 dsimp only [Function.comp]
 split
 ·rw [h]
 ·rfl
theorem VE (l : List PN) (f : Bs → Bool) : zL (l.filter fun y => f y.1) = (zL l).filter fun y => f y.1 := by
 unfold zL
 rw [filter_map]; rfl
theorem Yo {τ υ : Tr} (h : zT τ = zT υ) (p : Bs) (num zx zy : Int) : zT (D1 τ p num zx) = zT (D1 υ p num zy) := by
 have e : ∀ (σ : Tr) (z : Int), zT (D1 σ p num z) = { zT σ with nodes := amod (zT σ).nodes p (fun n => { n with st := { n.st with cver := num } }) } := fun σ z => by
  unfold zT D1
  dsimp only
  rw [O4 (g := fun n => { n with st := { n.st with cver := num } }) (fun n => rfl)]
 rw [e, e, h]
theorem Kh {c d : Prop} [Decidable c] [Decidable d] (h : c ↔ d) {a b a' b' : Tr} (h1 : c → zT a = zT a') (h2 : ¬ c → zT b = zT b') : zT (if c then a else b) = zT (if d then a' else b') := by
 by_cases g : c
 ·rw [if_pos g, if_pos (h.1 g)]; exact h1 g
 ·rw [if_neg g, if_neg (fun k => g (h.2 k))]; exact h2 g
theorem FQ (τ : Tr) (x : Pt) (zx : Int) : (AJ τ x zx).1 = if x.kind = 1 then (if Co x.path ∧ AQ τ (AL x.path) then D1 { τ with nodes := sset τ.nodes x.path (DT x zx) } (AL x.path) x.num zx else τ) else if x.kind = 2 then (if Co x.path then D1 (FD τ x.path) (AL x.path) x.num zx else τ) else if x.kind = 3 ∧ AQ τ x.path then { τ with nodes := amod τ.nodes x.path (Fw x.data x.num zx) } else if x.kind = 4 ∧ AQ τ x.path then { τ with nodes := amod τ.nodes x.path (FU x.acl x.num) } else τ := by
 unfold AJ Ab As
 simp only [apply_ite Prod.fst]
theorem X0 {τ υ : Tr} (h : zT τ = zT υ) (x : Pt) (zx zy : Int) : zT (AJ τ x zx).1 = zT (AJ υ x zy).1 := by
 have ht : ∀ p, AQ τ p ↔ AQ υ p := fun p => by rw [← Fs τ, h, Fs]
 rw [FQ, FQ]
 refine Kh Iff.rfl (fun _ => Kh (and_congr_right' (ht _)) (fun _ => Yo ?_ _ _ _ _) (fun _ => h)) (fun _ => Kh Iff.rfl (fun _ => Kh Iff.rfl (fun _ => Yo ?_ _ _ _ _) (fun _ => h)) (fun _ => Kh (and_congr_right' (ht _)) (fun _ => ?_) (fun _ => Kh (and_congr_right' (ht _)) (fun _ => ?_) (fun _ => h))))
 ·have e : ∀ (σ : Tr) (z : Int), zT { σ with nodes := sset σ.nodes x.path (DT x z) } = { zT σ with nodes := sset (zT σ).nodes x.path (zN (DT x 0)) } := fun σ z => by
   unfold zT
   dsimp only
   rw [T0]; rfl
  exact (e τ zx).trans (by rw [h]; exact (e υ zy).symm)
 ·have e : ∀ σ : Tr, zT (FD σ x.path) = { zT σ with nodes := (zT σ).nodes.filter fun y => !Bn y.1 x.path } := fun σ => by
   unfold zT FD
   dsimp only
   rw [VE σ.nodes (fun q => !Bn q x.path)]
  rw [e, e, h]
 ·have e : ∀ (σ : Tr) (z : Int), zT { σ with nodes := amod σ.nodes x.path (Fw x.data x.num z) } = { zT σ with nodes := amod (zT σ).nodes x.path (fun n => { n with data := x.data, st := { n.st with ver := x.num } }) } := fun σ z => by
   unfold zT
   dsimp only
   rw [O4 (g := fun n => { n with data := x.data, st := { n.st with ver := x.num } }) (fun n => rfl)]
  exact (e τ zx).trans (by rw [h]; exact (e υ zy).symm)
 ·have e : ∀ (σ : Tr), zT { σ with nodes := amod σ.nodes x.path (FU x.acl x.num) } = { zT σ with nodes := amod (zT σ).nodes x.path (FU x.acl x.num) } := fun σ => by
   unfold zT
   dsimp only
   rw [O4 (g := FU x.acl x.num) (fun n => rfl)]
  exact (e τ).trans (by rw [h]; exact (e υ).symm)
theorem ACN (τ : Tr) (z : Int) : zT (zxT τ z) = zT τ := rfl
def Ks (x : Pt) : Prop := x.kind ≠ 5 ∧ x.kind ≠ 6 ∧ x.kind ≠ 7 ∧ x.kind ≠ 8
theorem MY {τ : Tr} {zx : Int} {x : Pt} (h : Ks x) (l : List Pt) : (AC τ zx x l).1 = (AJ (zxT τ zx) x zx).1 := by
 obtain ⟨h5, h6, h7, h8⟩ := h
 unfold AC
 dsimp only
 rw [if_neg h5, if_neg h6, if_neg h7, if_neg h8]
theorem KW {c d : Prop} [Decidable c] [Decidable d] (h : c ↔ d) (z : Int) {a b a' b' : Tr} (h1 : a = zxT a' z) (h2 : b = zxT b' z) : (if c then a else b) = zxT (if d then a' else b') z := by
 by_cases g : c
 ·rw [if_pos g, if_pos (h.1 g)]; exact h1
 ·rw [if_neg g, if_neg (fun k => g (h.2 k))]; exact h2
theorem RQ (τ : Tr) (x : Pt) (zx z : Int) : (AJ (zxT τ z) x zx).1 = zxT (AJ τ x zx).1 z := by
 rw [FQ, FQ]
 exact KW Iff.rfl z (KW Iff.rfl z rfl rfl) (KW Iff.rfl z (KW Iff.rfl z rfl rfl) (KW Iff.rfl z rfl (KW Iff.rfl z rfl rfl)))
theorem OC (τ : Tr) (zx z : Int) (l : List Pt) : (AH (zxT τ z) zx l).1 = zxT (AH τ zx l).1 z := by
 unfold AH
 have H : ∀ (l : List Pt) (σ : Tr) (e e' : List Ev), (l.foldl (fun r x => ((AJ r.1 x zx).1, r.2 ++ (AJ r.1 x zx).2)) (zxT σ z, e)).1 = zxT (l.foldl (fun r x => ((AJ r.1 x zx).1, r.2 ++ (AJ r.1 x zx).2)) (σ, e')).1 z := by
  intro l
  induction l with
  | nil => intro σ e e'; rfl
  | cons x l ih =>
   intro σ e e'
   rw [foldl_cons, foldl_cons]
   dsimp only
   rw [RQ]
   exact ih _ _ _
 exact H l τ [] []
theorem Vr {x : Pt} (h : x.kind = 0 ∨ x.kind = 1 ∨ x.kind = 2 ∨ x.kind = 3 ∨ x.kind = 4) : Ks x := by
 unfold Ks; omega
theorem HN (τ : Tr) (u : B4) (r : Rq) : Ks (AV τ u r).1 := by
 refine Vr ?_
 unfold AV
 split
 ·exact .inr (.inl rfl)
 split
 ·exact .inr (.inr (.inl rfl))
 split
 ·unfold FJ
  split
  ·exact .inr (.inr (.inr (.inl rfl)))
  split
  ·exact .inr (.inr (.inr (.inr rfl)))
  ·exact .inl rfl
 ·exact .inl rfl
section
variable {P : Program} {ops : Array Oper} {n : Nat} {RO : List HP} {H : List Nat} {Fin : EF → List HP → Prop}
variable {j : Nat} {S : List Nat} {E : B0} {RW : List HP} {op : Op} {ty : TypeId} {pos : String} {aft : Array Edge}
end
section
variable {P : Program} {W : World} {n : Nat} {ds : List Deferred} {E : B0} {L R : List HP} {Q : Exit → Act → World → Prop}
theorem AP.append1S {t e : TypeId} {ty : TypeId} {x y : Operand} {v : Value} {b n m c sz by' : Nat} {xs l : List Value} {T : TypeId} {z : Value} {zl : List Value} {ts : Array TypeId} (hts : ts = #[t, t]) (hx : ev E x = some v) (hy : ev E y = some (.slice (some ⟨b, 0, none⟩) m c)) (ht : Aw P t = some (e, sz, by'))
  (hz : Av P e = some z) (hzc : z.cells = zl.toArray) (hzl : zl.length = sz) (hcell : ∀ y ∈ l, AB y = true) (hl : l.length = m * sz) (hmc : m ≤ c) (hb : (n + m) * by' ≤ 140737488355328) (hb0 : 0 < by') (hm : 0 < m) :
  AP P ⟨none, .call { callee := .builtin .append, args := #[x, y], argTypes := ts }, ty, "", #[], none⟩ E [Ad e sz v n xs, Ae b l T] fun v' L' => ∃ b' c', v' = .slice (some ⟨b', 0, none⟩) (n + m) c' ∧ L' = [Ad e sz v' (n + m) (xs ++ l)] := by
 intro ρ w F ha hs
 refine (AP.append1 (ty := ty) hts hx hy ht hz hzc hzl hcell hl hmc hb hb0 ρ w F ha hs).mono ?_
 rintro v' w' ⟨L', ⟨⟨a, k, rfl⟩, rfl⟩, hs', hk⟩
 obtain ⟨h1, a1, hp⟩ := Ap hs'
 rcases hp with ⟨h2, h3, -⟩ | ⟨b', cap, rest, fr, h2, -⟩
 ·omega
 ·simp only [Value.slice.injEq] at h2
  obtain ⟨rfl, -, rfl⟩ := h2
  exact ⟨_, ⟨b', k, rfl, rfl⟩, hs', hk⟩
/-! ### Code in a round's frame -/
abbrev FR (l : Nat) : Fence := Fence.wide.inRound l
def GH (o : Oper) : Bool := match o.op with
 | .defer _ => false
 | _ => true
theorem NI {o : Oper} (h : GH o = true) : ∀ c, o.op ≠ .defer c := by
 intro c e
 unfold GH at h
 rw [e] at h
 cases h
theorem U2 {F : Fence} (hF : ∀ m m', StepsIn (Machine.fenced P F) P m m' ↔ Steps P m m') {m : Nat} {row : String} {args : Array Value} {w : World} {K : Value → World → Prop} (h : Rows P row args w K) : RowsIn F m P row args w K :=
 fun c cs _ => let ⟨v, w', r, s⟩ := h c cs; ⟨v, w', r, (hF _ _).2 s⟩
theorem SQ {l m : Nat} {o : Oper} {a : Act} {next next' : Act → World → Prop} (hn : ∀ a w, next a w → next' a w) {r : Result Next} (h : o.upon P a next Q r) : o.uponIn (FR l) m P a next' Q r := by
  cases r with
  | ok nx w' =>
    cases nx <;> first | exact hn _ _ h | exact h.elim | skip
    · refine ⟨(fun hd => by cases hd), ?_⟩
      have h1 : CallsIn Fence.wide (m - 1) P _ _ w' _ := callsIn_wide.2 h
      have h2 : CallsIn (FR l) (m - 1) P _ _ w' _ := CallsIn.mono h1 (R' := fun e w'' => match e with
        | .returned v => next' (a.put o.dst v) w''
        | .panicked chain => Q (.panic chain) a w''
        | .outgrown => LetsOut Q) (by
          intro e w'' hq
          cases e
          · exact hn _ _ hq
          · exact hq
          · exact hq)
      exact h2.mono (by intro e w'' hq; cases e <;> exact hq)
    · exact ⟨(fun hd => by cases hd), RowsIn.mono (U2 (F := FR l) (fun _ _ => stepsIn_wide) h) (fun v w'' hq => hn _ _ hq)⟩
  | halt x w' => cases x <;> first | exact h | exact h.elim
theorem Gn {l m : Nat} {ops : Array Oper} (hQ : ¬ LetsOut Q) (hnd : ∀ (i : Nat) (o : Oper), ops[i]? = some o → GH o = true) : ∀ (idx : List Nat) (a : Act) (w : World), wpOps P ops Q idx a w → wpOpsIn (FR l) m P ops Q idx a w
 | [], _, _, h => h
 | i :: rest, a, w, h => by
  unfold wpOps at h
  unfold wpOpsIn
  cases ho : ops[i]? with
  | none => rw [ho] at h; exact Gn hQ hnd rest a w h
  | some o =>
   rw [ho] at h
   dsimp only at h ⊢
   split at h
   ·rename_i hw
    rw [if_pos hw]
    rcases h with h | h
    ·refine ⟨fun _ _ => trivial, ?_⟩
     rw [Oper.semAt_eq _ _ _ (NI (hnd _ _ ho))]
     exact SQ (fun a w => Gn hQ hnd rest a w) h
    ·exact absurd h.2 hQ
   ·rename_i hw
    rw [if_neg hw]
    exact ⟨fun _ _ => trivial, Gn hQ hnd rest _ _ h⟩
theorem LE {os : List Oper} (h : os.all GH = true) : ∀ (i : Nat) (o : Oper), os.toArray[i]? = some o → GH o = true := by
 intro i o ho
 rw [List.getElem?_toArray] at ho
 exact all_eq_true.1 h o (mem_of_getElem? ho)
theorem GR.seq {F : Fence} {m : Nat} {x y : Code} (h : G W n ds E L (x.wpIn F m P (Exit.then (y.wpIn F m P Q) Q))) : G W n ds E L ((Code.seq x y).wpIn F m P Q) := fun a w he hk hs => wpIn_seq (h a w he hk hs)
theorem GR.block {F : Fence} {m id : Nat} {c : Code} (h : G W n ds E L (c.wpIn F m P (Exit.inBlock id Q))) : G W n ds E L ((Code.block id c).wpIn F m P Q) := fun a w he hk hs => wpIn_block (h a w he hk hs)
theorem GR.region {l m id : Nat} {os : List Oper} (hQ : ¬ LetsOut Q) (hnd : os.all GH = true) (h : G W n ds E L (wpList P os.toArray Q os)) : G W n ds E L ((Code.region id os.toArray false).wpIn (FR l) m P Q) := by
 intro a w he hk hs
 refine wpIn_region (Gn hQ (LE hnd) _ _ _ ?_)
 rw [range_eq_range', size_toArray, wpOps_eq_wpList os 0 (by simp)]
 exact h a w he hk hs
theorem WH {id : Nat} {l : List Oper} (H : List Nat) (Ss : List (List Nat))
  (hc : (Dl l.toArray && Qx l.toArray.size Ss.flatten && Kl l.toArray Ss) = true)
  (h : Cc P l.toArray n H W ds (Q .normal) Ss (look E) L) : G W n ds E L fun a w => wpAny P .any l.toArray Q l.toArray.size (Array.replicate l.toArray.size false) a { w with drawn := w.drawn + 1 } := by
 intro a w he hk hs
 simp only [Bool.and_eq_true] at hc
 have hp := hc.1.2
 simp only [Qx, Bool.and_eq_true, Nat.beq_eq] at hp
 have hlen : Ss.flatten.length = l.toArray.size := hp.1.1.1
 have hmem : ∀ i, i ∈ Ss.flatten ↔ i < l.toArray.size := by
  intro i
  constructor
  ·intro hi; have := all_eq_true.1 hp.1.1.2 i hi; simpa [Nat.blt_eq] using this
  ·intro hi; have := all_eq_true.1 hp.2 i (mem_range.2 hi); simpa using this
 have hn : Ss.flatten.Nodup := Qn hp.1.2
 refine Cc.sound (H := H) hc.1.1 Ss hc.2 hn (look E) L _ _ _ _ h om ?_ (by simp) ⟨he.size, he.defers, he.slots⟩ (hk.trans (Au.drew w)) hs.drew
 intro i
 rw [hmem]
 simp only [Array.getD_eq_getD_getElem?, Array.getElem?_replicate, size_toArray]
 by_cases hlt : i < l.length <;> simp [hlt]
theorem GR.draw {r m id : Nat} {l : List Oper} (hQ : ¬ LetsOut Q) (hnd : l.all GH = true) (H : List Nat) (Ss : List (List Nat)) (hm : P.follows .mixedOrders = true)
  (hc : (Dl l.toArray && Qx l.toArray.size Ss.flatten && Kl l.toArray Ss) = true)
  (h : Cc P l.toArray n H W ds (Q .normal) Ss (look E) L) : G W n ds E L ((Code.region id l.toArray true).wpIn (FR r) m P Q) := by
 intro a w he hk hs
 refine wpIn_region_draw fun t => Gn hQ (LE hnd) _ _ _ ?_
 simp only [Region.schedule, hm, Bool.true_or, if_true]
 exact wpAny_sound l.toArray.size t _ a _ (WH (id := id) H Ss hc h a w he hk hs)
/-! ### B4 is ranged over, and what it calls -/
def yV (l : Nat) : Value := .func (.yield l) #[] #[]
def O8 (P : Program) (l : Nat) (args : Array Value) (pre : List HP) (post : Value → List HP → Prop) : Prop :=
 ∀ (F : List HP) (w : World), St (pre ++ F) w → ∃ fn tmps assign body, (Instr.yield l args).run P w = .ok (.round l fn tmps assign body) w ∧
  RoundIn Fence.wide 0 P l fn tmps assign body w fun e w' => ∃ v L, post v L ∧ e = .returned v ∧ St (L ++ F) w' ∧ Au w w'
def AAj (P : Program) (g : Value) (N : Nat) (A : Nat → Array Value) (pre : List HP) : Prop :=
 ∃ (gf : FuncId) (lb : List Value) (fn : Func) (c : Code), g = .func (.func gf) #[] lb.toArray ∧ P.funcs[gf]? = some fn ∧ fn.body = some c ∧ (fn.name == "runtime.NumGoroutine") = false ∧
  ∀ (l : Nat) (J : Nat → HP), (∀ i, i < N → O8 P l (A i) [J i] fun v L => v = .bool true ∧ L = [J (i + 1)]) → Fn P gf (yV l :: lb).toArray (J 0 :: pre) fun _ L => L = J N :: pre
def AB3 (J : HP) (F : List HP) (W : World) : Exit → Act → World → Prop
 | .normal, _, w => St (J :: F) w ∧ Au W w
 | _, _, _ => False
theorem G.rnd {J : HP} {F : List HP} (hL : BC [J] L R) (hF : ID F R) : G W n ds E L (AB3 J F W .normal) := fun _ _ _ hk hs => ⟨hF.st (L := [J]) (hs.picks hL), hk⟩
theorem St.swap {p q : HP} {w : World} (h : St (p :: q :: L) w) : St (q :: p :: L) w := h.perm (List.Perm.swap _ _ _)
theorem D4.par {a : Act} (h : D4 n ds E a) {p : Nat} (hp : p < n) (v : Value) : D4 n ds ((p, v) :: E) { a with tmps := a.tmps.setIfInBounds p v } := by
 have hd : Cs (some p) n = true := by simpa [Cs, Nat.blt_eq] using hp
 have := h.put hd v
 exact ⟨by simpa using h.size, h.defers, by simpa [Act.put, G6] using this.slots⟩
theorem ADE (p q : Nat) (x y : Value) (t : Array Value) : (#[p, q].zip #[x, y]).foldl (fun tmps (t, a) => tmps.setIfInBounds t a) t = (t.setIfInBounds p x).setIfInBounds q y := by simp
theorem G.rangeFunc {g : Operand} {p q : Nat} {assign body : Code} {gv : Value} {N : Nat} (A : Nat → Value × Value) (J : Nat → HP) (Ep : Nat → B0 → B0) {pre : List HP} (hg : ev E g = some gv) (hi : AAj P gv N (fun i => #[(A i).1, (A i).2]) pre) (hp : Nat.blt p n = true) (hq : Nat.blt q n = true) (hL : BC (J 0 :: pre) L R)
  (hassign : ∀ (l i : Nat) (F : List HP) (W' : World) (X : Act → World → Prop), i < N → G W' n [] (Ep i E) F X → G W' n [] ((q, (A i).2) :: (p, (A i).1) :: E) F (assign.wpIn (FR l) 0 P (Exit.then X fun _ _ _ => False)))
  (hround : ∀ (l i : Nat) (F : List HP) (W' : World), i < N → G W' n [] (Ep i E) (J i :: F) (body.wpIn (FR l) 0 P (AB3 (J (i + 1)) F W')))
  (hdone : ∀ D : Nat, G W n (⟨.collected D, #[]⟩ :: ds) E (J N :: pt D (.deferred (some [])) :: (pre ++ R)) (Q .normal)) : G W n ds E L ((Code.rangeFunc g #[p, q] assign body).wp P Q) := by
 intro a w he hk hs
 refine (wpIn_wide (n := 0)).1 (wpIn_rangeFunc ?_)
 intro fn _
 obtain ⟨gf, lb, gn, c, rfl, hgf, hgb, hgn, hit⟩ := hi
 have hge : a.eval g = .func (.func gf) #[] lb.toArray := he.agrees _ _ hg
 obtain ⟨rec, hrec⟩ : ∃ rec : LoopState → Option Code → Loop, rec = fun st pe => { state := st, pending := pe, fn, tmps := a.tmps, params := #[p, q], assign, body, defers := w.heap.size } := ⟨_, rfl⟩
 obtain ⟨W1, hW1⟩ : ∃ W1, (w.alloc (.deferred (some []))).alloc (.loop (rec .ready none)) = W1 := ⟨_, rfl⟩
 have hs0 : St (pt w.heap.size (.deferred (some [])) :: L) (w.alloc (.deferred (some []))) := hs.new _
 have hs1 : St (pt (w.heap.size + 1) (.loop (rec .ready none)) :: pt w.heap.size (.deferred (some [])) :: L) W1 := by
  rw [← hW1]
  have := hs0.new (.loop (rec .ready none))
  rwa [show (w.alloc (.deferred (some []))).heap.size = w.heap.size + 1 by simp] at this
 have hk1 : Au w W1 := by rw [← hW1]; exact (Au.new w _).trans (Au.new _ _)
 refine ⟨w.heap.size + 1, [{ target := .collected w.heap.size, args := #[] }], W1, { target := .fn (.func gf) lb.toArray, args := #[yV (w.heap.size + 1)] }, W1, gf, #[yV (w.heap.size + 1)] ++ lb.toArray, W1, ?_, ?_, fun _ _ => trivial, ?_, (fun h => by cases h), ?_⟩
 ·rw [← hW1, hrec]; exact run_enterLoop_outer _ _ _ _ _
 ·simp only [resolve, hge]
  simp [Deferred.ofValue, Bind.bind, Sem.bind, Pure.pure, Sem.run, yV, Act.eval]
 ·have hgn' : ¬ gn.name = "runtime.NumGoroutine" := by simpa using hgn
  simp [invoke, callFunc, program, Bind.bind, Sem.bind, Pure.pure, Sem.run, hgf, hgb, hgn']
 ·refine callsIn_wide.2 ?_
  obtain ⟨J', hJ'⟩ : ∃ J' : Nat → HP, J' = fun i => CD [J i, pt (w.heap.size + 1) (.loop (rec .ready none)), pt w.heap.size (.deferred (some []))] := ⟨_, rfl⟩
  have hs2 : St ((J' 0 :: pre) ++ R) W1 := by
   have h2 := hs1.perm (List.Perm.cons _ (List.Perm.cons _ hL.perm))
   rw [hJ']
   exact F5 (L1 := [J 0, _, _]) (C6 ((List.Perm.cons _ (List.Perm.swap _ _ _)).trans (List.Perm.swap _ _ _)) h2)
  have hy : ∀ i, i < N → O8 P (w.heap.size + 1) #[(A i).1, (A i).2] [J' i] fun v L => v = .bool true ∧ L = [J' (i + 1)] := by
   intro i hiN F w2 hw2
   rw [hJ'] at hw2
   have hw3 : St (J i :: pt (w.heap.size + 1) (.loop (rec .ready none)) :: pt w.heap.size (.deferred (some [])) :: F) w2 := FE (L1 := [J i, _, _]) hw2
   have hl := hw3.swap.pt
   have hyr := run_yield (P := P) (args := #[(A i).1, (A i).2]) hl (by rw [hrec]; rfl)
   rw [hrec] at hyr
   have h0 : D4 n [] E { tmps := a.tmps, defers := [] } := ⟨he.size, rfl, he.slots⟩
   have h1 := (h0.par (by simpa [Nat.blt_eq] using hp) (A i).1).par (by simpa [Nat.blt_eq] using hq) (A i).2
   refine ⟨fn, _, assign, body, hyr, roundIn_of_wpIn (F := Fence.wide) trivial (hassign (w.heap.size + 1) i _ w2 _ hiN ?_ _ _ (by simpa only [ADE] using h1) (Au.refl _) hw3)⟩
   intro a2 wb he2 hkb hwb
   have hlb := hwb.swap.pt
   refine ⟨_, run_beginRound hlb (by rw [hrec]), ?_⟩
   have hw4 : St (J i :: pt (w.heap.size + 1) (.loop { rec .ready none with state := .busy }) :: pt w.heap.size (.deferred (some [])) :: F) (wb.putObj (w.heap.size + 1) (.loop { rec .ready none with state := .busy })) := (St.set hwb.swap).swap
   refine wpIn_mono (hround (w.heap.size + 1) i _ _ hiN _ _ he2 (Au.refl _) hw4) ?_
   ·rintro e a3 w3 hp3
    cases e with
    | normal =>
     obtain ⟨hw5, hk5⟩ := hp3
     have hl5 := hw5.swap.pt
     have hend := run_endRound (P := P) none hl5
     refine ⟨_, _, hend, .bool true, [J' (i + 1)], ⟨rfl, rfl⟩, rfl, ?_, (hkb.trans ((Au.set _ _ _).trans hk5)).trans (Au.set _ _ _)⟩
     rw [hJ']
     refine F5 (L1 := [J (i + 1), _, _]) ?_
     have h6 := (St.set (o' := .loop (rec .ready none)) hw5.swap).swap
     rw [hrec] at h6 ⊢
     exact h6
    | _ => exact hp3.elim
  have ea : #[yV (w.heap.size + 1)] ++ lb.toArray = (yV (w.heap.size + 1) :: lb).toArray := by simp
  rw [ea]
  refine (hit (w.heap.size + 1) J' hy R W1 hs2).mono ?_
  rintro e w2 ⟨v, L', hL', rfl, hw2, hk2⟩
  subst hL'
  rw [hJ'] at hw2
  have hw3 : St (J N :: pt (w.heap.size + 1) (.loop (rec .ready none)) :: pt w.heap.size (.deferred (some [])) :: (pre ++ R)) w2 := FE (L1 := [J N, _, _]) hw2
  have hl := hw3.swap.pt
  have hend := run_endLoop (P := P) hl (by rw [hrec]; simp)
  rw [hrec] at hend
  refine ⟨none, _, hend, ?_⟩
  refine hdone w.heap.size _ _ ⟨he.size, by show _ :: a.defers = _; rw [he.defers], he.slots⟩ ((hk.trans hk1).trans (hk2.trans (Au.set _ _ _))) ?_
  exact (St.set hw3.swap).tail
/-! ### A function that holds one -/
def AB9 (P : Program) (fn : Func) (post : Value → List HP → Prop) (F : List HP) (W : World) : Exit → Act → World → Prop :=
 bodyPostM Fence.wide 0 P fn fun e w' => ∃ v L, post v L ∧ e = .returned v ∧ St (L ++ F) w' ∧ Au W w'
theorem Fn.introM {f : FuncId} {fn : Func} {c : Code} {vs : List Value} {pre : List HP} {post : Value → List HP → Prop} {n : Nat}
    (hf : P.funcs[f]? = some fn) (hb : fn.body = some c) (hn : vs.length + (fn.ntmps - vs.length) = n)
    (h : ∀ F W, G W n [] (WW 0 vs) (pre ++ F) (c.wp P (AB9 P fn post F W))) : Fn P f vs.toArray pre post := by
  intro F w hs
  refine (callsIn_wide (n := 0)).1 (callsIn_of_wp_marks hf hb trivial (wpIn_wide.2 (h F w _ w ⟨?_, Y, fun t v hl => ?_⟩ (.refl w) hs)) Y)
  · simp [← hn]
  obtain ⟨-, h2⟩ := OQ _ _ _ _ hl
  have hlt : t < vs.length := by
    rcases Nat.lt_or_ge t vs.length with h | h
    · exact h
    simp [List.getElem?_eq_none h] at h2
  simp only [Nat.sub_zero] at h2
  rw [List.getElem?_eq_getElem hlt] at h2
  simp only [Option.some.injEq] at h2
  simp [Array.getElem?_append, hlt, h2]
theorem G.doneM1 {fn : Func} {post : Value → List HP → Prop} {F : List HP} {L1 L' : List HP} {v : Value} {r : ResultVar} {D : Nat} (hl : fn.results = #[r]) (hD : BI (pt D (.deferred (some []))) L L1) (hr : Jm P E L1 r v) (hp : post v L') (hL : BC L' L1 R) (hF : ID F R) :
  G W n [⟨.collected D, #[]⟩] E L (AB9 P fn post F W .ret) := by
 intro a w he hk hs
 show LeavesInM Fence.wide 0 P fn a.tmps _ a.defers .returning w
 rw [he.defers]
 have hs1 := hs.pick hD
 refine ⟨by simp, .inl ⟨D, _, rfl, run_takeDeferred hs1.pt, ?_⟩⟩
 have hs2 := (St.set (o' := .deferred none) hs1).tail
 exact ⟨v, Oj hl (hr _ _ he.slots hs2), v, L', hp, rfl, hF.st (hs2.picks hL), hk.trans (Au.set _ _ _)⟩
/-! ### B4 calls it -/
theorem GY.region {id : Nat} {os : List Oper} (h : G W n ds E L (wpListIn Fence.wide 0 P os.toArray Q os)) : G W n ds E L ((Code.region id os.toArray false).wp P Q) :=
 fun a w he hk hs => (wpIn_wide (n := 0)).1 (wpIn_region_list (by simpa using h a w he hk hs))
theorem GY.nil {ops : Array Oper} (h : G W n ds E L (Q .normal)) : G W n ds E L (wpListIn Fence.wide 0 P ops Q []) := h
theorem GY.q {ops : Array Oper} {d : Nat} {op : Op} {ty : TypeId} {pos : String} {aft : Array Edge} {rest : List Oper} {v : Value} (hnd : GH ⟨some d, op, ty, pos, aft, none⟩ = true)
  (hp : AK P ⟨none, op, ty, "", #[], none⟩ E L v) (hd : Nat.blt d n = true)
  (h : G W n ds ((d, v) :: E) L (wpListIn Fence.wide 0 P ops Q rest)) : G W n ds E L (wpListIn Fence.wide 0 P ops Q (⟨some d, op, ty, pos, aft, none⟩ :: rest)) := by
 intro a w he hk hs
 unfold wpListIn
 rw [if_pos (by simp [Region.wanted])]
 refine ⟨fun _ _ => trivial, ?_⟩
 rw [Oper.semAt_eq _ _ _ (NI hnd)]
 have := hp a.eval w he.agrees hs
 rw [show execOp a.eval ⟨some d, op, ty, pos, aft, none⟩ = execOp a.eval ⟨none, op, ty, "", #[], none⟩ from rfl, this]
 exact h _ _ (he.put (dst := some d) hd _) hk hs
theorem GY.yield {ops : Array Oper} {d l : Nat} {x : Operand} {xs : Array Operand} {ts : Array TypeId} {ty : TypeId} {pos : String} {aft : Array Edge} {rest : List Oper} {vs : List Value} {pre F : List HP} {post : Value → List HP → Prop}
  (hv : ev E x = some (yV l)) (hx : xs.toList.map (ev E) = vs.map some) (hy : O8 P l vs.toArray pre post) (hL : BC pre L F) (hd : Nat.blt d n = true)
  (h : ∀ v L', post v L' → G W n ds ((d, v) :: E) (L' ++ F) (wpListIn Fence.wide 0 P ops Q rest)) : G W n ds E L (wpListIn Fence.wide 0 P ops Q (⟨some d, .call { callee := .value x, args := xs, argTypes := ts }, ty, pos, aft, none⟩ :: rest)) := by
 intro a w he hk hs
 unfold wpListIn
 rw [if_pos (by simp [Region.wanted])]
 refine ⟨fun _ _ => trivial, ?_⟩
 rw [Oper.semAt_eq _ _ _ (fun c e => by cases e)]
 obtain ⟨fn, tmps, assign, body, hyr, hr⟩ := hy F w (hs.picks hL)
 have hvs : xs.map a.eval = vs.toArray := by
  apply Array.ext'
  rw [Array.toList_map]
  exact JB he.agrees _ _ hx
 have hxv : a.eval x = .func (.yield l) #[] #[] := he.agrees _ _ hv
 have hrun : (execOp a.eval ⟨some d, .call { callee := .value x, args := xs, argTypes := ts }, ty, pos, aft, none⟩).run P w = .ok (.round l fn tmps assign body) w := by
  have e : (execOp a.eval ⟨some d, .call { callee := .value x, args := xs, argTypes := ts }, ty, pos, aft, none⟩).run P w = (Instr.yield l vs.toArray).run P w := by
   simp [execOp, resolve, hxv, Deferred.ofValue, invoke, Bind.bind, Sem.bind, Pure.pure, Sem.run, hvs]
  rw [e]; exact hyr
 rw [hrun]
 refine ⟨(fun hd => by cases hd), hr.mono ?_⟩
 rintro e w' ⟨v, L', hv', rfl, hs', hk'⟩
 exact h v L' hv' _ _ (he.put (dst := some d) hd _) (hk.trans hk') hs'
end
theorem VO (a : Option Addr) (n c : Nat) : Fn prog 79 #[.slice a n c] [] fun v L => ∃ b, v = .func (.func 139) #[] [AI b].toArray ∧ L = [Ae b [.slice a n c] 38] := by
 refine Fn.intro func79 Y Y fun F W => ?_
 refine .sr (.oq (.box Y) ?_)
 rintro v L' ⟨b, rfl, rfl⟩
 refine .an Y (.sr (.q (.func (us := []) (vs := [_]) Y Y) Y (.an Y (.ret ?_))))
 exact .dn Y Y ⟨b, Y, Y⟩
theorem Zl {xs : List Bs} {k : Nat} (hk : k < xs.length) : (Ao xs)[((xs.length : Int) - 1 - k).toNat * 1]? = some (AD (xs.reverse.getD k [])) := by
 have e : ((xs.length : Int) - 1 - k).toNat * 1 = xs.length - 1 - k := by omega
 rw [e, List.getElem?_map, ← List.getElem?_reverse hk, getD_eq_getElem?_getD]
 rw [List.getElem?_eq_getElem (by simpa using hk)]
 rfl
theorem Sr (va : Value) (xs : List Bs) (b : Nat) (q : HP) (hq : ∀ h : Hp, q h → Cx 1 h va xs.length (Ao xs)) (hl : xs.length ≤ 1099511627776) (l : Nat) (J : Nat → HP) (hY : ∀ i, i < xs.length → O8 prog l (#[AA ((xs.length : Int) - 1 - (i : Nat)), AD (xs.reverse.getD i [])]) [J i] fun v L => v = .bool true ∧ L = [J (i + 1)]) : Fn prog 139 #[yV l, AI b] [J 0, Ae b [va] 38, q] fun _ L => L = [J xs.length, Ae b [va] 38, q] := by
 refine Fn.intro func139 Y Y fun F W => ?_
 refine .rdAny (p := q) hq O fun aa ca ee _ => ?_
 subst ee
 have hJ : ∀ i j : Nat, i = j → J i = J j := fun i j e => by rw [e]
 refine .sr (.u (.ld Y T9) (.q (.slen Y underlying38 Y) Y (.q (.to (v' := AA ((xs.length : Int) - 1 - ((0 : Nat) : Int))) (.sub Y Y om) (by congr 1; omega)) Y (.an Y (.block (.loopK (ι := Nat) (fun q E => (3, AA ((xs.length : Int) - 1 - q)) :: E) (fun q => [J q]) (fun q => q ≤ xs.length) (fun q => xs.length - q) (0) (ts := [0, 1]) O (Nat.zero_le _) O O ?_))))))
 rintro k hk
 refine .seq (.sm Y (.ui Y Y Y (.nt (.condD Y (fun h8 => ?_) (fun h8 => ?_)))))
 ·have hkl : k < xs.length := by omega
  refine .rdShape (p := q) hq O om fun ba oa e => ?_
  subst e
  refine .sk (.seq (.block (.seq (GY.region (GY.q Y (.move Y) Y (GY.q Y (.move Y) Y (GY.q Y (.ld Y T9) Y (GY.q Y (.move Y) Y (GY.q Y (.indexAddr Y Y CO om) Y (GY.q Y (.loadEl (p := q) (i := ((xs.length : Int) - 1 - k).toNat * 1) (v := AD (xs.reverse.getD k [])) Y Ag O hq (Zl hkl)) Y (GY.yield (vs := [_, _]) Y Y (hY k hkl) O Y ?_)))))))))))
  rintro v L' ⟨rfl, rfl⟩
  refine GY.q Y (.not Y) Y (GY.nil (.then_n (.condF Y (.skip (.blk_n (.then_n (.region (.m Y (.q (.to (v' := AA ((xs.length : Int) - 1 - ((k + 1 : Nat) : Int))) (.sub Y Y om) (by congr 1; omega)) Y (.an Y ?_))))))))))
  exact .rk (k + 1) om om O
 have hkl : k = xs.length := by omega
 subst hkl
 refine .exit (.then_e (.then_e (.blk_e (.done_n ?_))))
 exact .dn Y Y Y
theorem U6 (va : Value) (xs : List Bs) (b : Nat) (q : HP) (hq : ∀ h : Hp, q h → Cx 1 h va xs.length (Ao xs)) (hl : xs.length ≤ 1099511627776) : AAj prog (.func (.func 139) #[] [AI b].toArray) xs.length (fun i => #[AA ((xs.length : Int) - 1 - (i : Nat)), AD (xs.reverse.getD i [])]) [Ae b [va] 38, q] :=
 ⟨_, [AI b], _, _, rfl, func139, rfl, rfl, fun l J hY => Sr va xs b q hq hl l J hY⟩
theorem PC (t : Nat) (τ : Tr) (u : B4) (iv : Value) (r : Rq) (p : HP) (hA : Dr p u iv r) (N : Nat) (ho : τ.Ok N) (hN : N ≤ 1099511627776) (hN2 : N + N ≤ 1099511627776) : Fn prog 50 #[.agg (CM t u iv r).toArray] [Aa t τ, p] fun v L =>
    ∃ (w : Value) (ys : List Pt), v = .agg (A1 ((Cz τ u.ses).1.ws w)).toArray ∧ ys.map Pt.pl = (Cz τ u.ses).2 ∧ (∃ a c, w = .slice a ys.length c) ∧ (∀ y ∈ ys, AB y.aclV = true ∧ y.subsV = AG) ∧ L = [Aa t τ, p, Ad 60 8 w ys.length (ys.flatMap A1), Ah aclR ys] := by
 refine Fn.introM (vs := [.agg (CM t u iv r).toArray]) func50 Y Y ?_
 intro F W
 refine .add (p := VL) Ti ?_
 have hlr : (AF τ u.ses).reverse.length = (AF τ u.ses).length := length_reverse
 refine .sr (.oq (.box Y) ?_)
 rintro v L' ⟨b1, rfl, rfl⟩
 refine .oq (.allocA BK) ?_
 rintro v L' ⟨bx, rfl, rfl⟩
 refine .nil (.pc b1 (CM t u iv r) ?_)
 refine .then_n (.sr (.fa Y D2 (.u (.ld Y DA) (.oq (.c func78 [_] (Jl t τ N ho hN)) ?_))))
 rintro v L' ⟨c, rfl, rfl⟩
 refine .oq (.alloc ACC) ?_
 rintro v L' ⟨b3, rfl, rfl⟩
 refine .st Y Y Y ACK ?_
 refine .nt (.sr (.fa Y FK (.u (.ld Y AR) (.q (.build (us := [(0, _), (4, _)]) FG BK Y Y (by simp [AB])) Y (.oq (.allocA BK) ?_)))))
 rintro v L' ⟨b4, rfl, rfl⟩
 refine .sa Y Y BP (by (first | (simp [AB]; done) | (simp [AB, AW, Value.cells]; done))) ?_
 refine .nil (.pc b4 (E5 u.ses (AG)) ?_)
 refine .then_n (.seq (.sr (.u (.ld Y DA) (.fa Y FK (.u (.ld Y AR) (.oq (.c func80 [_, _] (J5 c τ u.ses N ho hN)) ?_))))))
 rintro v L' ⟨⟨ao, co, rfl⟩, rfl⟩
 refine .oq (.c func79 [_] (VO _ _ _)) ?_
 rintro v L' ⟨bb, rfl, rfl⟩
 refine .nt (.block (.add (AN 60 8) (.fold (p := RN (Ae b3 [AI c] 76) c b4 τ u.ses (AF τ u.ses).reverse 0) (q := [Ae b3 [AI c] 76, Aa c τ, Ae b4 (E5 u.ses AG) 60, Ad 60 8 AG 0 []]) O (fun h hp => ⟨AG, ⟨none, 0, Y⟩, hp⟩) (.rangeFunc (fun i => (AA (((AF τ u.ses).length : Int) - 1 - (i : Nat)), AD ((AF τ u.ses).reverse.getD i []))) (fun i => RN (Ae b3 [AI c] 76) c b4 τ u.ses (AF τ u.ses).reverse i) (fun i E => (6, AD ((AF τ u.ses).reverse.getD i [])) :: (22, AD ((AF τ u.ses).reverse.getD i [])) :: (21, AA (((AF τ u.ses).length : Int) - 1 - (i : Nat))) :: E) (pre := [Ae bb [.slice ao (AF τ u.ses).length co] 38, Ad 9 1 (.slice ao (AF τ u.ses).length co) (AF τ u.ses).length (Ao (AF τ u.ses))]) (N := (AF τ u.ses).length) Y (U6 _ _ bb _ (fun _ hp => AZ hp) (by have := E8 τ u.ses; have := ho.few; omega)) Y Y O (fun lr i F2 W2 X hi hX => ?_) (fun lr i F2 W2 hi => ?_) (fun D => ?_)))))
 ·refine GR.region (by rintro ⟨_, _, h⟩; exact h) Y (.a Y (.nil ?_))
  exact .then_n hX
 ·have hi2 : i < (AF τ u.ses).reverse.length := by rw [hlr]; exact hi
  have hget : (AF τ u.ses).reverse.getD i [] = (AF τ u.ses).reverse[i] := by rw [getD_eq_getElem?_getD, List.getElem?_eq_getElem hi2]; rfl
  rw [hget]
  have hshort : ((AF τ u.ses).reverse[i]).length ≤ 60 := GT ho (mem_reverse.1 (getElem_mem hi2))
  have hok : (Am ((AF τ u.ses).reverse.take i) τ).Ok (N + N) := (OP ((AF τ u.ses).reverse.take i) ho).more (by rw [length_take]; have := E8 τ u.ses; have := ho.few; omega)
  refine .open (q := fun z : Value => [Ae b3 [AI c] 76, Aa c (Am ((AF τ u.ses).reverse.take i) τ), Ae b4 (E5 u.ses z) 60, Ad 60 8 z i ((A0 ((AF τ u.ses).reverse.take i) τ).flatMap A1)]) (φ := fun z : Value => ∃ a k, z = .slice a i k) (fun _ hp => hp) ?_
  rintro z ⟨az, cz, rfl⟩
  refine .add (p := VL) Ti (GR.block (GR.seq (GR.draw (by rintro ⟨_, _, h⟩; exact h) Y [2, 3, 7, 8] [[0, 1, 2, 3, 4, 5, 6, 7, 8], [9]] mixed kQ (.go [Ae b3 _ _] O (.k Y (.ld Y DA) (.k Y (.move Y) (.h2 (k := 7) Y Y kQ Y (.c func81 [_] (De ((AF τ u.ses).reverse[i]) om)) O (.allocA DO) O ?_ ?_)))))))
  ·rintro v L' ⟨rfl, rfl⟩
   refine D.h2 (k := 7) Y Y kQ Y (.c func76 [_, _] (BZ c (Am ((AF τ u.ses).reverse.take i) τ) (AL ((AF τ u.ses).reverse[i])) (N + N) hok hN2)) O (.allocA DO) O ?_ ?_
   ·rintro v L' ⟨rfl, rfl⟩
    refine D.k Y (.move Y) (.k Y (.extract Y Y) (.k Y (.extract Y Y) (.hh Y (.allocA DO) ?_)))
    rintro v L' ⟨b7, rfl, rfl⟩
    refine D.sa Y Y Y DD (by intro v hv; simp only [B7, mem_cons, not_mem_nil, or_false] at hv; rcases hv with rfl | rfl | rfl | rfl | rfl | rfl | rfl | rfl | rfl <;> rfl) ?_
    refine D.ph (.g0 (.kv Y (.assign Y) (.ph (.fin (.pc b7 (B7 (AU (Am ((AF τ u.ses).reverse.take i) τ) (AL ((AF τ u.ses).reverse[i])))) ?_)))))
    refine .then_n (GR.seq (GR.region (by rintro ⟨_, _, h⟩; exact h) Y (.m Y (.fa Y Fg (.u (.ld Y AR) (.u (.addW Y Y) (.q (.build (us := [(0, _), (1, _), (5, _)]) FG BK Y Y (by simp [AB])) Y (.oq (.allocA BK) ?_))))))))
    rintro v L' ⟨b9, rfl, rfl⟩
    refine .sa Y Y BP (by (first | (simp [AB]; done) | (simp [AB, AW, Value.cells]; done))) ?_
    refine .nil (.pc b9 (A1 (CH (Am ((AF τ u.ses).reverse.take i) τ) (AF τ u.ses).reverse[i])) ?_)
    refine .then_n (GR.seq (GR.draw (by rintro ⟨_, _, h⟩; exact h) Y [2, 5] [[0, 1, 3, 2, 4], [5]] mixed kQ (.go [Ae b3 _ _, Ae b9 _ _] O (.k Y (.ld Y DA) (.kv Y (.ld Y DA) (.k Y (.to (v' := .agg (A1 (CH (Am ((AF τ u.ses).reverse.take i) τ) (AF τ u.ses).reverse[i])).toArray) (.loadA Y Az O (by simp [A1])) (by rfl)) (.hh Y (.c func29 [_] (Cd c (Am ((AF τ u.ses).reverse.take i) τ))) ?_)))))))
    rintro v L' ⟨rfl, rfl⟩
    refine D.kv Y (.buildN (pl := [(0, 1), (1, 1), (2, 1), (3, 8)]) (us := [(0, AA (Am ((AF τ u.ses).reverse.take i) τ).zx), (3, .agg (A1 (CH (Am ((AF τ u.ses).reverse.take i) τ) (AF τ u.ses).reverse[i])).toArray)]) (cells := [AA (Am ((AF τ u.ses).reverse.take i) τ).zx, AA 0, AA 0] ++ A1 (CH (Am ((AF τ u.ses).reverse.take i) τ) (AF τ u.ses).reverse[i])) underlying62 kQ Ez Y (HH _ _ _ _ _ _ _ _ _)) (.ph (.g0 (.hh Y (.call func42 Y Y (vs := [_, _]) Y (Eq c (Am ((AF τ u.ses).reverse.take i) τ) (Am ((AF τ u.ses).reverse.take i) τ).zx 0 0 (CH (Am ((AF τ u.ses).reverse.take i) τ) (AF τ u.ses).reverse[i]) [] VL (SM _ om) (N + N) hok (by show N + N + 0 ≤ _; omega))) ?_)))
    rintro v L' ⟨ue, ee, rfl, -, ⟨ae, ce, rfl⟩, rfl⟩; rw [← H3 hi2 τ]
    refine D.pf (GR.draw (by rintro ⟨_, _, h⟩; exact h) Y [4, 5, 7, 9] [[0, 1, 2, 3, 4], [5], [6, 8, 7, 9]] mixed kQ (.go [Ae b9 _ _, Ae b4 _ _] O (.k Y (.fieldAddr Y Cm) (.k Y (.ld Y Gl) (.k Y (.to (v' := .agg (A1 (CH (Am ((AF τ u.ses).reverse.take i) τ) (AF τ u.ses).reverse[i])).toArray) (.loadA Y Az O (by simp [A1])) (by rfl)) (.k Y (.slen Y underlying58 Y) (.hh Y (.buildSlice (vs := [_]) ES BK Y Y Y Y cQ dQ) ?_)))))))
    rintro v L' ⟨b10, rfl, rfl⟩
    refine D.ph (.g0 (.hh Y (.append1S Y Y Y ES BK Y Y ?c75 ?c76 (Nat.le_refl _) ?c77 dQ dQ) ?_))
    case c75 => simp only [map_cons, map_nil, flatten_cons, flatten_nil, append_nil]; simp only [Value.cells]; intro z hz; simp at hz; rcases hz with rfl | rfl | rfl | rfl | rfl | rfl | rfl | rfl <;> rfl
    case c76 => rfl
    case c77 => have := E8 τ u.ses; have := ho.few; omega
    rintro v L' ⟨a8, c8, rfl, rfl⟩
    refine D.ph (.g0 (.k Y (.indexAddr Y Y ES om) (.k Y (.fieldAddr Y Cm) (.h2 (k := 9) Y Y kQ Y (.storeRdA (sz := 8) (j := i * 8) (k := 8) (vs := A1 (CH (Am ((AF τ u.ses).reverse.take i) τ) (AF τ u.ses).reverse[i])) Y Y (CL Y Y) BP Y ?ho82 ?hi83) O (.store Y Y Y LH ?c84 (Bf _ _)) O ?_ ?_))))
    case ho82 => simp
    case hi83 => omega
    case c84 => simp [E5]
    ·rintro v L' rfl
     refine D.hh Y (.store Y Y Y LH ?c88 (Bf _ _)) ?_
     case c88 => simp [E5]
     rintro v L' rfl
     refine D.ph (.fin (.slCast (T := 60) (sz := 8) (m' := i + 1) (xs' := (A0 ((AF τ u.ses).reverse.take (i + 1)) τ).flatMap A1) O (by exact rfl) (by rw [ET hi2 τ, flatMap_append]; exact IK (by rw [Fp, Cj, length_take, Nat.min_eq_left (Nat.le_of_lt hi2)]) rfl) (.pc b4 (E5 u.ses (.slice (some ⟨a8, 0, none⟩) (i + 1) c8)) ?_)))
     refine .blk_n (.fold (p := RN (Ae b3 [AI c] 76) c b4 τ u.ses (AF τ u.ses).reverse (i + 1)) (q := [Ae b3 [AI c] 76, Aa c (Am ((AF τ u.ses).reverse.take (i + 1)) τ), Ae b4 (E5 u.ses (.slice (some ⟨a8, 0, none⟩) (i + 1) c8)) 60, Ad 60 8 (.slice (some ⟨a8, 0, none⟩) (i + 1) c8) (i + 1) ((A0 ((AF τ u.ses).reverse.take (i + 1)) τ).flatMap A1)]) O (fun h hp => ⟨_, ⟨_, _, Y⟩, hp⟩) ?_)
     exact .rnd O O
    rintro v L' rfl
    refine D.hh Y (.storeRdA (sz := 8) (j := i * 8) (k := 8) (vs := A1 (CH (Am ((AF τ u.ses).reverse.take i) τ) (AF τ u.ses).reverse[i])) Y Y (CL Y Y) BP Y ?ho91 ?hi92) ?_
    case ho91 => simp
    case hi92 => omega
    rintro v L' rfl
    refine D.ph (.fin (.slCast (T := 60) (sz := 8) (m' := i + 1) (xs' := (A0 ((AF τ u.ses).reverse.take (i + 1)) τ).flatMap A1) O (by exact rfl) (by rw [ET hi2 τ, flatMap_append]; exact IK (by rw [Fp, Cj, length_take, Nat.min_eq_left (Nat.le_of_lt hi2)]) rfl) (.pc b4 (E5 u.ses (.slice (some ⟨a8, 0, none⟩) (i + 1) c8)) ?_)))
    refine .blk_n (.fold (p := RN (Ae b3 [AI c] 76) c b4 τ u.ses (AF τ u.ses).reverse (i + 1)) (q := [Ae b3 [AI c] 76, Aa c (Am ((AF τ u.ses).reverse.take (i + 1)) τ), Ae b4 (E5 u.ses (.slice (some ⟨a8, 0, none⟩) (i + 1) c8)) 60, Ad 60 8 (.slice (some ⟨a8, 0, none⟩) (i + 1) c8) (i + 1) ((A0 ((AF τ u.ses).reverse.take (i + 1)) τ).flatMap A1)]) O (fun h hp => ⟨_, ⟨_, _, Y⟩, hp⟩) ?_)
    exact .rnd O O
   rintro v L' ⟨b7, rfl, rfl⟩
   refine D.hh Y (.c func76 [_, _] (BZ c (Am ((AF τ u.ses).reverse.take i) τ) (AL ((AF τ u.ses).reverse[i])) (N + N) hok hN2)) ?_
   rintro v L' ⟨rfl, rfl⟩
   refine D.mv Y Y (.kv Y (.extract Y Y) (.k Y (.extract Y Y) (.sa Y Y Y DD (by intro v hv; simp only [B7, mem_cons, not_mem_nil, or_false] at hv; rcases hv with rfl | rfl | rfl | rfl | rfl | rfl | rfl | rfl | rfl <;> rfl) ?_)))
   refine D.ph (.g0 (.kv Y (.assign Y) (.ph (.fin (.pc b7 (B7 (AU (Am ((AF τ u.ses).reverse.take i) τ) (AL ((AF τ u.ses).reverse[i])))) ?_)))))
   refine .then_n (GR.seq (GR.region (by rintro ⟨_, _, h⟩; exact h) Y (.m Y (.fa Y Fg (.u (.ld Y AR) (.u (.addW Y Y) (.q (.build (us := [(0, _), (1, _), (5, _)]) FG BK Y Y (by simp [AB])) Y (.oq (.allocA BK) ?_))))))))
   rintro v L' ⟨b9, rfl, rfl⟩
   refine .sa Y Y BP (by (first | (simp [AB]; done) | (simp [AB, AW, Value.cells]; done))) ?_
   refine .nil (.pc b9 (A1 (CH (Am ((AF τ u.ses).reverse.take i) τ) (AF τ u.ses).reverse[i])) ?_)
   refine .then_n (GR.seq (GR.draw (by rintro ⟨_, _, h⟩; exact h) Y [2, 5] [[0, 1, 3, 2, 4], [5]] mixed kQ (.go [Ae b3 _ _, Ae b9 _ _] O (.k Y (.ld Y DA) (.kv Y (.ld Y DA) (.k Y (.to (v' := .agg (A1 (CH (Am ((AF τ u.ses).reverse.take i) τ) (AF τ u.ses).reverse[i])).toArray) (.loadA Y Az O (by simp [A1])) (by rfl)) (.hh Y (.c func29 [_] (Cd c (Am ((AF τ u.ses).reverse.take i) τ))) ?_)))))))
   rintro v L' ⟨rfl, rfl⟩
   refine D.kv Y (.buildN (pl := [(0, 1), (1, 1), (2, 1), (3, 8)]) (us := [(0, AA (Am ((AF τ u.ses).reverse.take i) τ).zx), (3, .agg (A1 (CH (Am ((AF τ u.ses).reverse.take i) τ) (AF τ u.ses).reverse[i])).toArray)]) (cells := [AA (Am ((AF τ u.ses).reverse.take i) τ).zx, AA 0, AA 0] ++ A1 (CH (Am ((AF τ u.ses).reverse.take i) τ) (AF τ u.ses).reverse[i])) underlying62 kQ Ez Y (HH _ _ _ _ _ _ _ _ _)) (.ph (.g0 (.hh Y (.call func42 Y Y (vs := [_, _]) Y (Eq c (Am ((AF τ u.ses).reverse.take i) τ) (Am ((AF τ u.ses).reverse.take i) τ).zx 0 0 (CH (Am ((AF τ u.ses).reverse.take i) τ) (AF τ u.ses).reverse[i]) [] VL (SM _ om) (N + N) hok (by show N + N + 0 ≤ _; omega))) ?_)))
   rintro v L' ⟨ue, ee, rfl, -, ⟨ae, ce, rfl⟩, rfl⟩; rw [← H3 hi2 τ]
   refine D.pf (GR.draw (by rintro ⟨_, _, h⟩; exact h) Y [4, 5, 7, 9] [[0, 1, 2, 3, 4], [5], [6, 8, 7, 9]] mixed kQ (.go [Ae b9 _ _, Ae b4 _ _] O (.k Y (.fieldAddr Y Cm) (.k Y (.ld Y Gl) (.k Y (.to (v' := .agg (A1 (CH (Am ((AF τ u.ses).reverse.take i) τ) (AF τ u.ses).reverse[i])).toArray) (.loadA Y Az O (by simp [A1])) (by rfl)) (.k Y (.slen Y underlying58 Y) (.hh Y (.buildSlice (vs := [_]) ES BK Y Y Y Y cQ dQ) ?_)))))))
   rintro v L' ⟨b10, rfl, rfl⟩
   refine D.ph (.g0 (.hh Y (.append1S Y Y Y ES BK Y Y ?c130 ?c131 (Nat.le_refl _) ?c132 dQ dQ) ?_))
   case c130 => simp only [map_cons, map_nil, flatten_cons, flatten_nil, append_nil]; simp only [Value.cells]; intro z hz; simp at hz; rcases hz with rfl | rfl | rfl | rfl | rfl | rfl | rfl | rfl <;> rfl
   case c131 => rfl
   case c132 => have := E8 τ u.ses; have := ho.few; omega
   rintro v L' ⟨a8, c8, rfl, rfl⟩
   refine D.ph (.g0 (.k Y (.indexAddr Y Y ES om) (.k Y (.fieldAddr Y Cm) (.h2 (k := 9) Y Y kQ Y (.storeRdA (sz := 8) (j := i * 8) (k := 8) (vs := A1 (CH (Am ((AF τ u.ses).reverse.take i) τ) (AF τ u.ses).reverse[i])) Y Y (CL Y Y) BP Y ?ho137 ?hi138) O (.store Y Y Y LH ?c139 (Bf _ _)) O ?_ ?_))))
   case ho137 => simp
   case hi138 => omega
   case c139 => simp [E5]
   ·rintro v L' rfl
    refine D.hh Y (.store Y Y Y LH ?c143 (Bf _ _)) ?_
    case c143 => simp [E5]
    rintro v L' rfl
    refine D.ph (.fin (.slCast (T := 60) (sz := 8) (m' := i + 1) (xs' := (A0 ((AF τ u.ses).reverse.take (i + 1)) τ).flatMap A1) O (by exact rfl) (by rw [ET hi2 τ, flatMap_append]; exact IK (by rw [Fp, Cj, length_take, Nat.min_eq_left (Nat.le_of_lt hi2)]) rfl) (.pc b4 (E5 u.ses (.slice (some ⟨a8, 0, none⟩) (i + 1) c8)) ?_)))
    refine .blk_n (.fold (p := RN (Ae b3 [AI c] 76) c b4 τ u.ses (AF τ u.ses).reverse (i + 1)) (q := [Ae b3 [AI c] 76, Aa c (Am ((AF τ u.ses).reverse.take (i + 1)) τ), Ae b4 (E5 u.ses (.slice (some ⟨a8, 0, none⟩) (i + 1) c8)) 60, Ad 60 8 (.slice (some ⟨a8, 0, none⟩) (i + 1) c8) (i + 1) ((A0 ((AF τ u.ses).reverse.take (i + 1)) τ).flatMap A1)]) O (fun h hp => ⟨_, ⟨_, _, Y⟩, hp⟩) ?_)
    exact .rnd O O
   rintro v L' rfl
   refine D.hh Y (.storeRdA (sz := 8) (j := i * 8) (k := 8) (vs := A1 (CH (Am ((AF τ u.ses).reverse.take i) τ) (AF τ u.ses).reverse[i])) Y Y (CL Y Y) BP Y ?ho146 ?hi147) ?_
   case ho146 => simp
   case hi147 => omega
   rintro v L' rfl
   refine D.ph (.fin (.slCast (T := 60) (sz := 8) (m' := i + 1) (xs' := (A0 ((AF τ u.ses).reverse.take (i + 1)) τ).flatMap A1) O (by exact rfl) (by rw [ET hi2 τ, flatMap_append]; exact IK (by rw [Fp, Cj, length_take, Nat.min_eq_left (Nat.le_of_lt hi2)]) rfl) (.pc b4 (E5 u.ses (.slice (some ⟨a8, 0, none⟩) (i + 1) c8)) ?_)))
   refine .blk_n (.fold (p := RN (Ae b3 [AI c] 76) c b4 τ u.ses (AF τ u.ses).reverse (i + 1)) (q := [Ae b3 [AI c] 76, Aa c (Am ((AF τ u.ses).reverse.take (i + 1)) τ), Ae b4 (E5 u.ses (.slice (some ⟨a8, 0, none⟩) (i + 1) c8)) 60, Ad 60 8 (.slice (some ⟨a8, 0, none⟩) (i + 1) c8) (i + 1) ((A0 ((AF τ u.ses).reverse.take (i + 1)) τ).flatMap A1)]) O (fun h hp => ⟨_, ⟨_, _, Y⟩, hp⟩) ?_)
   exact .rnd O O
  rintro v L' ⟨b7, rfl, rfl⟩
  refine D.hh Y (.c func81 [_] (De ((AF τ u.ses).reverse[i]) om)) ?_
  rintro v L' ⟨rfl, rfl⟩
  refine D.hh Y (.c func76 [_, _] (BZ c (Am ((AF τ u.ses).reverse.take i) τ) (AL ((AF τ u.ses).reverse[i])) (N + N) hok hN2)) ?_
  rintro v L' ⟨rfl, rfl⟩
  refine D.mv Y Y (.kv Y (.extract Y Y) (.k Y (.extract Y Y) (.sa Y Y Y DD (by intro v hv; simp only [B7, mem_cons, not_mem_nil, or_false] at hv; rcases hv with rfl | rfl | rfl | rfl | rfl | rfl | rfl | rfl | rfl <;> rfl) ?_)))
  refine D.ph (.g0 (.kv Y (.assign Y) (.ph (.fin (.pc b7 (B7 (AU (Am ((AF τ u.ses).reverse.take i) τ) (AL ((AF τ u.ses).reverse[i])))) ?_)))))
  refine .then_n (GR.seq (GR.region (by rintro ⟨_, _, h⟩; exact h) Y (.m Y (.fa Y Fg (.u (.ld Y AR) (.u (.addW Y Y) (.q (.build (us := [(0, _), (1, _), (5, _)]) FG BK Y Y (by simp [AB])) Y (.oq (.allocA BK) ?_))))))))
  rintro v L' ⟨b9, rfl, rfl⟩
  refine .sa Y Y BP (by (first | (simp [AB]; done) | (simp [AB, AW, Value.cells]; done))) ?_
  refine .nil (.pc b9 (A1 (CH (Am ((AF τ u.ses).reverse.take i) τ) (AF τ u.ses).reverse[i])) ?_)
  refine .then_n (GR.seq (GR.draw (by rintro ⟨_, _, h⟩; exact h) Y [2, 5] [[0, 1, 3, 2, 4], [5]] mixed kQ (.go [Ae b3 _ _, Ae b9 _ _] O (.k Y (.ld Y DA) (.kv Y (.ld Y DA) (.k Y (.to (v' := .agg (A1 (CH (Am ((AF τ u.ses).reverse.take i) τ) (AF τ u.ses).reverse[i])).toArray) (.loadA Y Az O (by simp [A1])) (by rfl)) (.hh Y (.c func29 [_] (Cd c (Am ((AF τ u.ses).reverse.take i) τ))) ?_)))))))
  rintro v L' ⟨rfl, rfl⟩
  refine D.kv Y (.buildN (pl := [(0, 1), (1, 1), (2, 1), (3, 8)]) (us := [(0, AA (Am ((AF τ u.ses).reverse.take i) τ).zx), (3, .agg (A1 (CH (Am ((AF τ u.ses).reverse.take i) τ) (AF τ u.ses).reverse[i])).toArray)]) (cells := [AA (Am ((AF τ u.ses).reverse.take i) τ).zx, AA 0, AA 0] ++ A1 (CH (Am ((AF τ u.ses).reverse.take i) τ) (AF τ u.ses).reverse[i])) underlying62 kQ Ez Y (HH _ _ _ _ _ _ _ _ _)) (.ph (.g0 (.hh Y (.call func42 Y Y (vs := [_, _]) Y (Eq c (Am ((AF τ u.ses).reverse.take i) τ) (Am ((AF τ u.ses).reverse.take i) τ).zx 0 0 (CH (Am ((AF τ u.ses).reverse.take i) τ) (AF τ u.ses).reverse[i]) [] VL (SM _ om) (N + N) hok (by show N + N + 0 ≤ _; omega))) ?_)))
  rintro v L' ⟨ue, ee, rfl, -, ⟨ae, ce, rfl⟩, rfl⟩; rw [← H3 hi2 τ]
  refine D.pf (GR.draw (by rintro ⟨_, _, h⟩; exact h) Y [4, 5, 7, 9] [[0, 1, 2, 3, 4], [5], [6, 8, 7, 9]] mixed kQ (.go [Ae b9 _ _, Ae b4 _ _] O (.k Y (.fieldAddr Y Cm) (.k Y (.ld Y Gl) (.k Y (.to (v' := .agg (A1 (CH (Am ((AF τ u.ses).reverse.take i) τ) (AF τ u.ses).reverse[i])).toArray) (.loadA Y Az O (by simp [A1])) (by rfl)) (.k Y (.slen Y underlying58 Y) (.hh Y (.buildSlice (vs := [_]) ES BK Y Y Y Y cQ dQ) ?_)))))))
  rintro v L' ⟨b10, rfl, rfl⟩
  refine D.ph (.g0 (.hh Y (.append1S Y Y Y ES BK Y Y ?c187 ?c188 (Nat.le_refl _) ?c189 dQ dQ) ?_))
  case c187 => simp only [map_cons, map_nil, flatten_cons, flatten_nil, append_nil]; simp only [Value.cells]; intro z hz; simp at hz; rcases hz with rfl | rfl | rfl | rfl | rfl | rfl | rfl | rfl <;> rfl
  case c188 => rfl
  case c189 => have := E8 τ u.ses; have := ho.few; omega
  rintro v L' ⟨a8, c8, rfl, rfl⟩
  refine D.ph (.g0 (.k Y (.indexAddr Y Y ES om) (.k Y (.fieldAddr Y Cm) (.h2 (k := 9) Y Y kQ Y (.storeRdA (sz := 8) (j := i * 8) (k := 8) (vs := A1 (CH (Am ((AF τ u.ses).reverse.take i) τ) (AF τ u.ses).reverse[i])) Y Y (CL Y Y) BP Y ?ho194 ?hi195) O (.store Y Y Y LH ?c196 (Bf _ _)) O ?_ ?_))))
  case ho194 => simp
  case hi195 => omega
  case c196 => simp [E5]
  ·rintro v L' rfl
   refine D.hh Y (.store Y Y Y LH ?c200 (Bf _ _)) ?_
   case c200 => simp [E5]
   rintro v L' rfl
   refine D.ph (.fin (.slCast (T := 60) (sz := 8) (m' := i + 1) (xs' := (A0 ((AF τ u.ses).reverse.take (i + 1)) τ).flatMap A1) O (by exact rfl) (by rw [ET hi2 τ, flatMap_append]; exact IK (by rw [Fp, Cj, length_take, Nat.min_eq_left (Nat.le_of_lt hi2)]) rfl) (.pc b4 (E5 u.ses (.slice (some ⟨a8, 0, none⟩) (i + 1) c8)) ?_)))
   refine .blk_n (.fold (p := RN (Ae b3 [AI c] 76) c b4 τ u.ses (AF τ u.ses).reverse (i + 1)) (q := [Ae b3 [AI c] 76, Aa c (Am ((AF τ u.ses).reverse.take (i + 1)) τ), Ae b4 (E5 u.ses (.slice (some ⟨a8, 0, none⟩) (i + 1) c8)) 60, Ad 60 8 (.slice (some ⟨a8, 0, none⟩) (i + 1) c8) (i + 1) ((A0 ((AF τ u.ses).reverse.take (i + 1)) τ).flatMap A1)]) O (fun h hp => ⟨_, ⟨_, _, Y⟩, hp⟩) ?_)
   exact .rnd O O
  rintro v L' rfl
  refine D.hh Y (.storeRdA (sz := 8) (j := i * 8) (k := 8) (vs := A1 (CH (Am ((AF τ u.ses).reverse.take i) τ) (AF τ u.ses).reverse[i])) Y Y (CL Y Y) BP Y ?ho203 ?hi204) ?_
  case ho203 => simp
  case hi204 => omega
  rintro v L' rfl
  refine D.ph (.fin (.slCast (T := 60) (sz := 8) (m' := i + 1) (xs' := (A0 ((AF τ u.ses).reverse.take (i + 1)) τ).flatMap A1) O (by exact rfl) (by rw [ET hi2 τ, flatMap_append]; exact IK (by rw [Fp, Cj, length_take, Nat.min_eq_left (Nat.le_of_lt hi2)]) rfl) (.pc b4 (E5 u.ses (.slice (some ⟨a8, 0, none⟩) (i + 1) c8)) ?_)))
  refine .blk_n (.fold (p := RN (Ae b3 [AI c] 76) c b4 τ u.ses (AF τ u.ses).reverse (i + 1)) (q := [Ae b3 [AI c] 76, Aa c (Am ((AF τ u.ses).reverse.take (i + 1)) τ), Ae b4 (E5 u.ses (.slice (some ⟨a8, 0, none⟩) (i + 1) c8)) 60, Ad 60 8 (.slice (some ⟨a8, 0, none⟩) (i + 1) c8) (i + 1) ((A0 ((AF τ u.ses).reverse.take (i + 1)) τ).flatMap A1)]) O (fun h hp => ⟨_, ⟨_, _, Y⟩, hp⟩) ?_)
  exact .rnd O O
 refine .open (q := fun z : Value => [Ae b3 [AI c] 76, Aa c (Am ((AF τ u.ses).reverse.take (AF τ u.ses).length) τ), Ae b4 (E5 u.ses z) 60, Ad 60 8 z (AF τ u.ses).length ((A0 ((AF τ u.ses).reverse.take (AF τ u.ses).length) τ).flatMap A1)]) (φ := fun z : Value => ∃ a k, z = .slice a (AF τ u.ses).length k) (fun _ hp => hp) ?_
 rintro z ⟨az, cz, rfl⟩
 have htk : (AF τ u.ses).reverse.take (AF τ u.ses).length = (AF τ u.ses).reverse := take_of_length_le om
 rw [htk]
 refine .blk_n (.then_n (.sr (.q (.la (E5 u.ses (.slice az (AF τ u.ses).length cz)) Y Az) Y (.sa Y Y BP (by simp [E5, AB]) ?_))))
 refine .nil (.pc bx (E5 u.ses (.slice az (AF τ u.ses).length cz)) ?_)
 have hcl : (A0 (AF τ u.ses).reverse τ).length = (AF τ u.ses).length := by rw [Cj, hlr]
 refine .slCast (T := 60) (sz := 8) (m' := (A0 (AF τ u.ses).reverse τ).length) (xs' := (A0 (AF τ u.ses).reverse τ).flatMap A1) O om Y (.add (p := Ah aclR (A0 (AF τ u.ses).reverse τ)) (P8 fun y hy => ⟨(Dk _ _ y hy).1, (Dk _ _ y hy).2.1⟩) (.then_n (.ret ?_)))
 exact .doneM1 Y O (.cellA Y Az O (by simp [E5]) Y) ⟨.slice az (AF τ u.ses).length cz, A0 (AF τ u.ses).reverse τ, Y, W5 fun y hy => (Dk _ _ y hy).2.2.2, ⟨az, cz, by rw [hcl]⟩, fun y hy => ⟨by rw [(Dk _ _ y hy).1]; rfl, (Dk _ _ y hy).2.2.1⟩, rfl⟩ O O
theorem S9 (t : Nat) (τ : Tr) (u : B4) (iv : Value) (r : Rq) (p : HP) (hA : Dr p u iv r) (N : Nat) (ho : τ.Ok N) (hN : N ≤ 1099511627776) (hw : Le τ) (hN2 : N + 16 ≤ 1099511627776) (subs : List Rq) (hr : ∀ h : Hp, p h → Cx 10 h r.subsV subs.length (subs.flatMap D6)) (hS : ∀ x ∈ subs, Dr p u iv x) (hSa : ∀ x ∈ subs, Gc x.acl) (hN3 : N + N ≤ 1099511627776) : Fn prog 27 #[AI t, AA u.ses, iv, .agg (D6 r).toArray] [Aa t τ, p] fun v L =>
    ∃ (y : Pt) (ys : List Pt), v = .agg (A1 y).toArray ∧ y.pl = (Cn τ u r subs).1 ∧ ys.map Pt.pl = (Cn τ u r subs).2 ∧ (AB y.aclV = true ∧ ∃ a c, y.subsV = .slice a ys.length c) ∧ (∀ z ∈ ys, AB z.aclV = true ∧ z.subsV = AG) ∧ L = [Aa t τ, p, aclR y, Ad 60 8 y.subsV ys.length (ys.flatMap A1), Ah aclR ys] := by
 refine Fn.intro func27 Y Y fun F W => ?_
 have hcl := hA.cells t
 refine .sr (.oq (.box Y) ?_)
 rintro v L' ⟨b7, rfl, rfl⟩
 refine .oq (.allocA BK) ?_
 rintro v L' ⟨b8, rfl, rfl⟩
 refine .nil (.pc b7 (D6 r) ?_)
 refine .then_n (.seq (.sm Y (.q (.ptreq Y Y underlying76) Y (.nt (.condF Y (.sk (.sm Y (.m Y (.cv func45 [_, _] (Hy t τ u.ses) ?_)))))))))
 refine .m Y (.ex Y Y (.ex Y Y (.ex Y Y (.a Y (.a Y (.an Y (.sm Y (.m Y (.m Y (.q (.la (D6 r) Y Hf) Y (.q (.to (v' := .agg (CM t u iv r).toArray) (.buildN (pl := [(0, 1), (1, 1), (2, 1), (3, 10)]) (us := [(0, AI t), (1, AA u.ses), (2, iv), (3, .agg (D6 r).toArray)]) (cells := CM t u iv r) underlying134 kQ Iz Y (IY t u iv hA.shape r)) Y) Y (.oq (.allocA Iz) ?_))))))))))))
 rintro v L' ⟨b1, rfl, rfl⟩
 refine .sa Y Y SY (by exact fun v hv => all_eq_true.1 hcl v hv) ?_
 refine .nil (.pc b1 (CM t u iv r) ?_)
 refine .then_n (.seq (.block (.sr (.fa Y Bl (.u (.ld Y AR) (.cv func25 [_] (Iw r.kind) ?_))))))
 refine .u (.not Y) (.an Y (.condB Y (fun h30 => ?_) (fun h30 => ?_)))
 ·have hT : Cn τ u r subs = (Ax 110 (-1), []) := if_pos (by simpa using h30)
  refine .sr (.cv func48 [_, _] (DP 110 (-1)) ?_)
  refine .sa Y Y BP (by simp [A1, Ax, AB]) ?_
  refine .nil (.pc b8 ([AA ((Ax 110 (-1))).kind, AD ((Ax 110 (-1))).path, AD ((Ax 110 (-1))).data, AG, AA ((Ax 110 (-1))).own, AA ((Ax 110 (-1))).num, AA ((Ax 110 (-1))).err, AG]) ?_)
  refine .add (AN 75 2) (.add (AN 60 8) (.add (p := Ah aclR []) (fun h => CX h) (.then_n (.ret (.blk_r (.then_r ?_))))))
  exact .d1 Y (.cellA Y Az O (by simp [DR, AW]) Y) ⟨Ax 110 (-1), [], Y, by rw [hT]; rfl, by rw [hT]; rfl, ⟨rfl, none, 0, rfl⟩, (fun _ h => by cases h), rfl⟩
 have hc : Ba r.kind = true := by simpa using h30
 refine .sm Y (.u (.not Y) (.an Y (.condN Y (fun h36 => ?_) (fun h36 => ?_))))
 ·have hT : Cn τ u r subs = (Ax 67 (-1), []) := by unfold Cn; rw [if_neg (fun g => g hc), if_pos h36]
  refine .sr (.cv func48 [_, _] (DP 67 (-1)) ?_)
  refine .sa Y Y BP (by simp [A1, Ax, AB]) ?_
  refine .nil (.pc b8 ([AA ((Ax 67 (-1))).kind, AD ((Ax 67 (-1))).path, AD ((Ax 67 (-1))).data, AG, AA ((Ax 67 (-1))).own, AA ((Ax 67 (-1))).num, AA ((Ax 67 (-1))).err, AG]) ?_)
  refine .add (AN 75 2) (.add (AN 60 8) (.add (p := Ah aclR []) (fun h => CX h) (.then_n (.ret (.blk_r (.then_r ?_))))))
  exact .d1 Y (.cellA Y Az O (by simp [DR, AW]) Y) ⟨Ax 67 (-1), [], Y, by rw [hT]; rfl, by rw [hT]; rfl, ⟨rfl, none, 0, rfl⟩, (fun _ h => by cases h), rfl⟩
 refine .sr (.fa Y Bl (.u (.ld Y AR) (.ui Y Y Y (.an Y (.condD Y (fun h40 => ?_) (fun h40 => ?_))))))
 ·have hT : Cn τ u r subs = A6 τ u subs := by unfold Cn; rw [if_neg (fun g => g hc), if_neg (fun g => g h36), if_pos h40]
  refine .sr (.q (.la (CM t u iv r) Y E4) Y (.oq (.c func49 [_] (Qv t τ u iv r p hA N ho hN hw hN2 subs hr hS hSa)) ?_))
  rintro v L' ⟨w, ys, rfl, hys, ⟨aw, cw, rfl⟩, hyk, rfl⟩
  refine .sa Y Y BP (by exact Xb (by rw [(IS τ u subs).1]; rfl)) ?_
  refine .nil (.pc b8 ([AA ((A6 τ u subs).1).kind, AD ((A6 τ u subs).1).path, AD ((A6 τ u subs).1).data, (A6 τ u subs).1.aclV, AA ((A6 τ u subs).1).own, AA ((A6 τ u subs).1).num, AA ((A6 τ u subs).1).err, .slice aw ys.length cw]) ?_)
  refine .add (AN 75 2) (.as (q := aclR ((A6 τ u subs).1.ws (.slice aw ys.length cw))) (p := Ad 75 2 AG 0 []) O (by show _ = Ad _ _ (A6 τ u subs).1.aclV (A6 τ u subs).1.acl.length ((A6 τ u subs).1.acl.flatMap CP); rw [(IS τ u subs).1, (IS τ u subs).2]; rfl) (.then_n (.ret (.blk_r (.then_r ?_)))))
  exact .d1 Y (.cellA Y Az O (by simp [DR, AW]) Y) ⟨(A6 τ u subs).1.ws (.slice aw ys.length cw), ys, Y, by rw [hT]; exact Wj τ u subs _, by rw [hT]; exact hys, ⟨by show AB (A6 τ u subs).1.aclV = true; rw [(IS τ u subs).1]; rfl, aw, cw, rfl⟩, hyk, rfl⟩
 refine .sr (.fa Y Bl (.u (.ld Y AR) (.ui Y Y Y (.an Y (.condD Y (fun h46 => ?_) (fun h46 => ?_))))))
 ·have hT : Cn τ u r subs = (FP, []) := by unfold Cn; rw [if_neg (fun g => g hc), if_neg (fun g => g h36), if_neg h40, if_pos h46]
  refine .sr (.q (.build (us := [(0, _)]) FG BK Y Y (by simp [AB])) Y (.sa Y Y BP (by (first | (simp [AB]; done) | (simp [AB, AW, Value.cells]; done))) ?_))
  refine .nil (.pc b8 ([AA (FP).kind, AD (FP).path, AD (FP).data, AG, AA (FP).own, AA (FP).num, AA (FP).err, AG]) ?_)
  refine .add (AN 75 2) (.add (AN 60 8) (.add (p := Ah aclR []) (fun h => CX h) (.then_n (.ret (.blk_r (.then_r ?_))))))
  exact .d1 Y (.cellA Y Az O (by simp [DR, AW]) Y) ⟨FP, [], Y, by rw [hT]; rfl, by rw [hT]; rfl, ⟨rfl, none, 0, rfl⟩, (fun _ h => by cases h), rfl⟩
 refine .sr (.fa Y Bl (.u (.ld Y AR) (.ui Y Y Y (.an Y (.condD Y (fun h51 => ?_) (fun h51 => ?_))))))
 ·have hT : Cn τ u r subs = Cz τ u.ses := by unfold Cn; rw [if_neg (fun g => g hc), if_neg (fun g => g h36), if_neg h40, if_neg h46, if_pos h51]
  refine .sr (.q (.la (CM t u iv r) Y E4) Y (.oq (.c func50 [_] (PC t τ u iv r p hA N ho hN hN3)) ?_))
  rintro v L' ⟨w, ys, rfl, hys, ⟨aw, cw, rfl⟩, hyk, rfl⟩
  refine .sa Y Y BP (by exact Xb (by rfl)) ?_
  refine .nil (.pc b8 ([AA ((Cz τ u.ses).1).kind, AD ((Cz τ u.ses).1).path, AD ((Cz τ u.ses).1).data, (Cz τ u.ses).1.aclV, AA ((Cz τ u.ses).1).own, AA ((Cz τ u.ses).1).num, AA ((Cz τ u.ses).1).err, .slice aw ys.length cw]) ?_)
  refine .add (AN 75 2) (.as (q := aclR ((Cz τ u.ses).1.ws (.slice aw ys.length cw))) (p := Ad 75 2 AG 0 []) O Y (.then_n (.ret (.blk_r (.then_r ?_)))))
  exact .d1 Y (.cellA Y Az O (by simp [DR, AW]) Y) ⟨(Cz τ u.ses).1.ws (.slice aw ys.length cw), ys, Y, by rw [hT]; rfl, by rw [hT]; exact hys, ⟨rfl, aw, cw, rfl⟩, hyk, rfl⟩
 have hk8 : r.kind ≠ 8 := h51
 refine .skip (.blk_n (.then_n (.sr (.q (.la (CM t u iv r) Y E4) Y (.oq (.c func51 [_] (Me t τ u iv r p hA N ho hN (Rd hw _))) ?_)))))
 rintro v L' ⟨w, rfl, ⟨aw, cw, rfl⟩, rfl⟩
 refine .m Y (.ex Y Y (.ex Y Y (.oq (.allocA BK) ?_)))
 rintro v L' ⟨b13, rfl, rfl⟩
 refine .sa Y Y BP (by exact fun v hv => all_eq_true.1 (Oe ⟨none, 0, 0, My τ u r⟩) v hv) ?_
 refine .a Y (.nil (.pc b13 ([AA ((AV τ u r).1).kind, AD ((AV τ u r).1).path, AD ((AV τ u r).1).data, .slice aw (AV τ u r).1.acl.length cw, AA ((AV τ u r).1).own, AA ((AV τ u r).1).num, AA ((AV τ u r).1).err, (AV τ u r).1.subsV]) ?_))
 refine .then_n (.seq (.sm Y (.ui Y Y Y (.nt (.condN Y (fun h63 => ?_) (fun h63 => ?_))))))
 ·have hT : Cn τ u r subs = (Ax (AV τ u r).2 (-1), []) := by unfold Cn; rw [if_neg (fun g => g hc), if_neg (fun g => g h36), if_neg h40, if_neg h46, if_neg hk8, if_pos h63]
  refine .sm Y (.cv func48 [_, _] (DP (AV τ u r).2 (-1)) ?_)
  refine .sa Y Y BP (by simp [A1, Ax, AB]) ?_
  refine .nil (.pc b8 ([AA ((Ax (AV τ u r).2 (-1))).kind, AD ((Ax (AV τ u r).2 (-1))).path, AD ((Ax (AV τ u r).2 (-1))).data, AG, AA ((Ax (AV τ u r).2 (-1))).own, AA ((Ax (AV τ u r).2 (-1))).num, AA ((Ax (AV τ u r).2 (-1))).err, AG]) ?_)
  refine .add (AN 75 2) (.add (AN 60 8) (.add (p := Ah aclR []) (fun h => CX h) (.then_n (.rt ?_))))
  exact .d1 Y (.cellA Y Az O (by simp [DR, AW]) Y) ⟨Ax (AV τ u r).2 (-1), [], Y, by rw [hT]; rfl, by rw [hT]; rfl, ⟨rfl, none, 0, rfl⟩, (fun _ h => by cases h), rfl⟩
 have hT : Cn τ u r subs = ((AV τ u r).1, []) := by unfold Cn; rw [if_neg (fun g => g hc), if_neg (fun g => g h36), if_neg h40, if_neg h46, if_neg hk8, if_neg (fun g => g h63)]
 refine .sk (.sr (.q (.to (v' := .agg ([AA ((AV τ u r).1).kind, AD ((AV τ u r).1).path, AD ((AV τ u r).1).data, .slice aw (AV τ u r).1.acl.length cw, AA ((AV τ u r).1).own, AA ((AV τ u r).1).num, AA ((AV τ u r).1).err, AG]).toArray) (.loadA Y Az O (by simp)) (by rw [← My τ u r]; rfl)) Y (.sa Y Y BP (by simp [AB]) ?_)))
 refine .nil (.pc b8 ([AA ((AV τ u r).1).kind, AD ((AV τ u r).1).path, AD ((AV τ u r).1).data, .slice aw (AV τ u r).1.acl.length cw, AA ((AV τ u r).1).own, AA ((AV τ u r).1).num, AA ((AV τ u r).1).err, AG]) ?_)
 refine .add (AN 60 8) (.add (p := Ah aclR []) (fun h => CX h) (.then_n (.ret ?_)))
 exact .d1 Y (.cellA Y Az O (by simp [DR, AW]) Y) ⟨(CE (AV τ u r).1 (.slice aw (AV τ u r).1.acl.length cw)).ws AG, [], Y, by rw [hT]; exact Tc τ u r (.slice aw (AV τ u r).1.acl.length cw), by rw [hT]; rfl, ⟨rfl, none, 0, rfl⟩, (fun _ h => by cases h), rfl⟩
/-! ### What Txn answers -/
structure LZ (y : Pt) : Prop where
 r : Th y
 n : PtN y
theorem LZ.of {y z : Pt} (e : y.pl = z.pl) (h : LZ z) : LZ y := by
 refine ⟨Th.of e h.r, ?_⟩
 have hk : PtN z.pl := ⟨h.n.own, h.n.num, h.n.data, h.n.acl⟩
 rw [← e] at hk
 exact ⟨hk.own, hk.num, hk.data, hk.acl⟩
theorem Gv {e n : Int} (he : A4 e) (hn : A4 n) : LZ (Ax e n) := ⟨KQ he hn, A4.zero, hn, by show 0 ≤ _; decide, CQ⟩
theorem X1 {τ : Tr} {u : B4} {r : Rq} {p : HP} {iv : Value} (h : Dr p u iv r) (ha : Gc r.acl) : LZ (AV τ u r).1 := ⟨WP h ha, PZ τ u h.ses (by have := h.rq.data; omega) ha⟩
theorem Re {p : HP} {u : B4} {iv : Value} : ∀ {l : List Rq} {τ : Tr}, (∀ r ∈ l, Dr p u iv r ∧ Gc r.acl) → ∀ y ∈ (Bd u l τ).2.1, PtN y
 | [], _, _, _, h => by cases h
 | r :: l, τ, h, y, hy => by
  rw [C0] at hy
  split at hy
  ·cases hy
  ·rcases mem_cons.1 hy with rfl | hy
   ·exact (X1 (h r mem_cons_self).1 (h r mem_cons_self).2).n
   ·exact Re (fun x hx => h x (mem_cons_of_mem _ hx)) y hy
theorem ZI {p : HP} {u : B4} {iv : Value} {l : List Rq} {τ : Tr} (h : ∀ r ∈ l, Dr p u iv r ∧ Gc r.acl) : PtN (A6 τ u l).1 ∧ ∀ y ∈ (A6 τ u l).2, PtN y := by
 have hm : A4 (-1) := ⟨by decide, by decide⟩
 unfold A6
 split
 ·exact ⟨(Gv ⟨by decide, by decide⟩ hm).n, fun _ g => by cases g⟩
 ·rename_i hl
  split
  ·rename_i i e he
   have hie : i < 8 ∧ 0 ≤ e ∧ e ≤ 110 := by
    have := Ed he
    omega
   exact ⟨(Gv ⟨by omega, by omega⟩ ⟨by omega, by omega⟩).n, fun _ g => by cases g⟩
  ·exact ⟨⟨A4.zero, A4.zero, Nat.zero_le _, CQ⟩, Re h⟩
theorem AB6 {τ : Tr} {p : Bs} : PtN (CH τ p) := ⟨A4.zero, wrap_i64 _, Nat.zero_le _, CQ⟩
theorem H1 : ∀ {l : List Bs} {τ : Tr}, ∀ y ∈ A0 l τ, PtN y ∧ y.kind = 2
 | [], _, _, h => by cases h
 | p :: l, τ, y, hy => by
  rcases mem_cons.1 (show y ∈ CH τ p :: A0 l _ from hy) with rfl | hy
  ·exact ⟨AB6, rfl⟩
  ·exact H1 y hy
structure EJ (N : Nat) (y : Pt) (l : List Pt) : Prop where
 x : LZ y
 each : ∀ z ∈ l, LZ z
 len : l.length ≤ 8 ∨ (y.kind = 6 ∧ l.length ≤ N ∧ ∀ z ∈ l, z.kind = 2)
theorem XT {τ : Tr} {N : Nat} (ho : τ.Ok N) {u : B4} {r : Rq} {p : HP} {iv : Value} {subs : List Rq} (hd : WiD p u iv r subs) : EJ N (Cn τ u r subs).1 (Cn τ u r subs).2 := by
 have hm : A4 (-1) := ⟨by decide, by decide⟩
 have few : ∀ {x : Pt}, LZ x → EJ N x [] := fun h => ⟨h, (fun _ g => by cases g), .inl (Nat.zero_le _)⟩
 unfold Cn
 split
 ·exact few (Gv ⟨by decide, by decide⟩ hm)
 split
 ·exact few (Gv ⟨by decide, by decide⟩ hm)
 split
 ·have h1 := AAT (τ := τ) (u := u) (l := subs) (fun x hx => ⟨hd.each x hx, hd.acls x hx⟩)
  have h2 := ZI (τ := τ) (u := u) (l := subs) (fun x hx => ⟨hd.each x hx, hd.acls x hx⟩)
  exact ⟨⟨h1.1, h2.1⟩, fun z hz => ⟨h1.2.1 z hz, h2.2 z hz⟩, .inl h1.2.2⟩
 split
 ·exact few ⟨⟨⟨A4.zero, A4.zero, A4.zero, A4.zero, by show 0 < FS; decide, by show 0 < FS; decide, by show 0 < FS; decide, fun a ha => by cases ha⟩, CQ.long, Nat.zero_le _, Nat.zero_le _, Nat.zero_le _⟩, A4.zero, A4.zero, Nat.zero_le _, CQ⟩
 split
 ·have hcl : (A0 (AF τ u.ses).reverse τ).length = (AF τ u.ses).length := by rw [Cj, length_reverse]
  have hfew := E8 τ u.ses
  have hon := ho.few
  have hL := QE (l := (AF τ u.ses).reverse) (τ := τ) (fun q hq => GT ho (mem_reverse.1 hq))
  refine ⟨⟨⟨⟨⟨by show (-9223372036854775808 : Int) ≤ 6; decide, by show (6 : Int) ≤ 9223372036854775807; decide⟩, hd.w.ses, A4.zero, A4.zero, by show 0 < FS; decide, by show 0 < FS; decide, by show 0 < FS; decide, fun a ha => by cases ha⟩, CQ.long, Nat.zero_le _, Nat.zero_le _, Nat.zero_le _⟩, hd.w.ses, A4.zero, Nat.zero_le _, CQ⟩, fun z hz => ⟨(hL z hz).1, (H1 z hz).1⟩, .inr ⟨rfl, ?_, fun z hz => (H1 z hz).2⟩⟩
  show (A0 (AF τ u.ses).reverse τ).length ≤ N
  omega
 split
 ·have := Kp τ u r
  exact few (Gv ⟨by omega, by omega⟩ hm)
 ·exact few (X1 hd.w hd.a)
theorem EJ.of {N : Nat} {x y : Pt} {l ys : List Pt} (h : EJ N x l) (hy : y.pl = x) (hys : ys.map Pt.pl = l) : EJ N y ys := by
 subst hy; subst hys
 refine ⟨LZ.of (z := y.pl) rfl h.x, fun z hz => LZ.of (z := z.pl) rfl (h.each _ (mem_map_of_mem hz)), ?_⟩
 rcases h.len with h1 | ⟨h1, h2, h3⟩
 ·exact .inl (by rwa [length_map] at h1)
 ·exact .inr ⟨h1, by rwa [length_map] at h2, fun z hz => h3 z.pl (mem_map_of_mem (f := Pt.pl) hz)⟩
theorem EJ.few {N : Nat} {x : Pt} {l : List Pt} (h : EJ N x l) (hN : N ≤ 1048576) : l.length ≤ 1048576 := by
 rcases h.len with h1 | ⟨-, h2, -⟩ <;> omega
theorem EJ.tx {N : Nat} {y : Pt} {ys : List Pt} (h : EJ N y ys) (hN : N ≤ 1048576) (z s i : Int) (hc : AB y.aclV = true ∧ ∃ a c, y.subsV = .slice a ys.length c) (hcs : ∀ z ∈ ys, AB z.aclV = true ∧ z.subsV = AG) : TxA (entR ⟨z, s, i, y, ys⟩) y ys := by
 refine ⟨⟨fun _ hp => MA hp, h.x.r.many, h.x.r.path, ?_, hc.1⟩, fun _ hp => Hn hp, h.few hN, fun w hw => ⟨fun _ hp => Jv hp hw, (h.each w hw).r.many, (h.each w hw).r.path, by rw [(hcs w hw).2]; rfl, (hcs w hw).1⟩⟩
 obtain ⟨a, c, e⟩ := hc.2
 rw [e]; rfl
theorem EJ.n {N : Nat} {y : Pt} {ys : List Pt} (h : EJ N y ys) {z s i : Int} (hz : A4 z) : EnN ⟨z, s, i, y, ys⟩ := ⟨hz, h.x.n, fun w hw => (h.each w hw).n⟩
theorem EJ.w {N : Nat} {y : Pt} {ys : List Pt} (h : EJ N y ys) {τ : Tr} (hw : Le τ) {z : Int} (hz : A4 z) : Le (AC τ z y ys).1 := hw.app (h.n (s := 0) (i := 0) hz)
theorem Yl {τ : Tr} {N : Nat} (h : τ.Ok N) {x : Pt} (hk : x.kind = 2) (zx : Int) : (AJ τ x zx).1.Ok N := by
 unfold AJ
 rw [if_neg om, if_pos hk]
 unfold As
 split
 ·exact (h.cut _).kid _ _ _
 ·exact h
theorem Uf {τ : Tr} {N : Nat} (h : τ.Ok N) (zx : Int) (l : List Pt) (hl : ∀ x ∈ l, x.kind = 2) : (AH τ zx l).1.Ok N := by
 unfold AH
 have H : ∀ (l : List Pt) (r : Tr × List Ev), r.1.Ok N → (∀ x ∈ l, x.kind = 2) → (l.foldl (fun r x => ((AJ r.1 x zx).1, r.2 ++ (AJ r.1 x zx).2)) r).1.Ok N := by
  intro l
  induction l with
  | nil => intro r h _; exact h
  | cons x l ih =>
   intro r h hl
   rw [foldl_cons]
   exact ih _ (Yl h (hl x mem_cons_self) zx) fun y hy => hl y (mem_cons_of_mem _ hy)
 exact H l _ h hl
theorem EJ.ok {N : Nat} {y : Pt} {ys : List Pt} (h : EJ N y ys) {τ : Tr} {M : Nat} (ho : τ.Ok M) (z : Int) : (AC τ z y ys).1.Ok (M + 9) := by
 rcases h.len with h1 | ⟨h1, -, h3⟩
 ·exact (ho.apply z y ys h.x.r.many fun w hw => (h.each w hw).r.many).more om
 ·unfold AC
  dsimp only
  rw [if_neg om, if_pos h1]
  exact ((Uf (ho.zx z) z _ fun w hw => h3 w (mem_filter.1 hw).1).dropS _).more om
theorem Oh (τ : Tr) (zx : Int) (l : List Pt) : AH τ zx (l.map Pt.pl) = AH τ zx l := by
 unfold AH
 rw [foldl_map]; rfl
theorem TO (l : List Pt) : (l.map Pt.pl).filter Aj = (l.filter Aj).map Pt.pl := by
 rw [filter_map]; rfl
theorem Gx (τ : Tr) (zx : Int) (y : Pt) (ys : List Pt) : AC τ zx y.pl (ys.map Pt.pl) = AC τ zx y ys := by
 unfold AC
 dsimp only
 rw [TO, Oh, Oh]; rfl
/-! ### Wishes of a list -/
/-! ### A part alone -/
open Go Go.Sort
abbrev GP (l : List Int) : List Int := Lib.compact l
theorem SE {P : Program} {ρ : Go.Shelf.Ren} (LM : Lays2.n20 P ρ) (e : TypeId) (v : Value) (n : Nat) (xs : List Int) (hn : n < 4611686018427387904) :
  Fn P (ρ.f 20) #[v] [Ad e 1 v n (xs.map AA)] fun u L => (∃ a c, u = .slice a (GP xs).length c) ∧ L = [Ad e 1 u (GP xs).length ((GP xs).map AA)] := by
 intro F w hs
 have hs' : St ((fun h => ∃ y : List Value × (Nat × Nat) × (Option (Nat × Nat)), (y.2.2 = none ∧ v = .slice none 0 0 ∧ n = 0 ∧ xs = []) ∨ (∃ b cap, y.2.2 = some (b, cap) ∧ v = .slice (some ⟨b, 0, none⟩) n cap ∧ h b = some (.cells (List.toArray (xs.map AA ++ y.1)) e y.2.1) ∧ xs.length = n ∧ cap ≤ xs.length + y.1.length ∧ n ≤ cap ∧ TZ y.2.1 0 cap)) :: F) w := by
  refine Bt (fun h hp => ?_) hs
  rcases hp with ⟨h1, h2, h3⟩ | ⟨b, cap, rest, fr, h1, h2, h3, h4, h5, h6⟩
  ·exact ⟨([], (0, 0), none), .inl ⟨rfl, h1, h2, by simpa using h3⟩⟩
  ·exact ⟨(rest, fr, some (b, cap)), .inr ⟨b, cap, rfl, h1, h2, by simpa using h3, by simpa using h4, h5, by simpa using h6⟩⟩
 obtain ⟨⟨rest, fr, o⟩, h1, h2, hd, a1, a2, hp, hF⟩ := Kg hs'
 rcases hp with ⟨-, rfl, rfl, rfl⟩ | ⟨b, cap, -, rfl, p1, p2, p3, p4, p5⟩
 ·refine (Any.slices_Compact_int_empty LM none 0 w).mono ?_
  rintro en w' ⟨rfl, rfl⟩
  have e0 : GP [] = [] := rfl
  exact ⟨_, _, ⟨⟨none, 0, by rw [e0]; rfl⟩, by rw [e0]; rfl⟩, rfl, hs, .refl _⟩
 ·subst p2
  have hb := a1 _ _ p1
  have hH : Holds (Value.int .i64) w b 0 xs.toArray := by
   intro j hj
   have hj' : j < xs.length := by simpa using hj
   have hb' : w.heap[b]? = some (.cells (xs.map AA ++ rest).toArray e fr) := hb
   refine ⟨?_, ?_⟩
   ·simp only [World.cell?, hb', Nat.zero_add, Option.isSome_none, Bool.false_eq_true, if_false]
    rw [List.getElem?_toArray, List.getElem?_append_left (by simpa using hj')]
    simp [hj']
   ·have := p5 j om (by dsimp only at p3 p4 ⊢; omega)
    simp only [World.frozen?, hb', Nat.zero_add]
    simpa using this
  refine (Any.slices_Compact_int LM b 0 cap xs w hH om p4).mono ?_
  rintro en w' ⟨rfl, k, rfl⟩
  have hle := Lib.compact_length_le xs
  generalize hcs : Lib.compact xs = cs at hle
  have hcl : (cs ++ List.replicate (xs.length - cs.length) 0).length = xs.length := by rw [length_append, length_replicate]; omega
  refine ⟨_, _, ⟨⟨_, _, by unfold GP; rw [hcs]⟩, rfl⟩, rfl, ?_, ?_⟩
  ·have h2b : h2 b = none := (hd b).resolve_left (by rw [p1]; simp)
   have hnew : (putRow (Value.int .i64) (Sort.ahead w k) b 0 (cs ++ List.replicate (xs.length - cs.length) 0).toArray).heap[b]? = some (.cells (putCells (Value.int .i64) 0 (cs ++ List.replicate (xs.length - cs.length) 0).toArray (xs.map AA ++ rest).toArray) e fr) := by
    have hb2 : w.heap[b]? = some (.cells (xs.map AA ++ rest).toArray e fr) := hb
    simp [putRow, mapBlock, Sort.ahead, Array.getElem?_modify, hb2, onCells]
   have hrow : (putCells (Value.int .i64) 0 (cs ++ List.replicate (xs.length - cs.length) 0).toArray (xs.map AA ++ rest).toArray) = (cs.map AA ++ ((List.replicate (xs.length - cs.length) (0 : Int)).map AA ++ rest)).toArray := by
    rw [← append_assoc, ← map_append]
    generalize cs ++ List.replicate (xs.length - cs.length) 0 = ts at hcl
    apply Array.ext_getElem?
    intro j
    simp only [putCells, Array.getElem?_mapIdx, List.getElem?_toArray, Nat.zero_le, true_and, Nat.zero_add, Nat.sub_zero, size_toArray]
    by_cases hj : j < xs.length
    ·rw [List.getElem?_append_left (by simpa using hj), List.getElem?_append_left (by simpa [hcl] using hj)]
     simp [hj, hcl]
    ·rw [List.getElem?_append_right (by simp; omega), List.getElem?_append_right (by simp [hcl]; omega)]
     simp [hj, hcl]
   refine ⟨fun c => if c = b then some (.cells (cs.map AA ++ ((List.replicate (xs.length - cs.length) (0 : Int)).map AA ++ rest)).toArray e fr) else none, h2, fun c => ?_, fun c o e => ?_, fun c o hc => ?_, ?_, hF⟩
   ·by_cases e : c = b
    ·exact .inr (e ▸ h2b)
    ·exact .inl (if_neg e)
   ·by_cases hc : c = b
    ·subst hc
     dsimp only at e
     rw [if_pos rfl] at e
     obtain rfl := Option.some.inj e
     rw [← hrow]; exact hnew
    ·simp [hc] at e
   ·have hcb : c ≠ b := by rintro rfl; rw [h2b] at hc; cases hc
    have hold := a2 _ _ hc
    show (putRow (Value.int .i64) (Sort.ahead w k) b 0 _).heap[c]? = _
    have hold2 : w.heap[c]? = some o := hold
    simp [putRow, mapBlock, Sort.ahead, Array.getElem?_modify, Ne.symm hcb, hold2]
   ·unfold GP; rw [hcs]
    refine .inr ⟨b, cap, _, fr, rfl, if_pos rfl, by simp, ?_, by omega, by simpa using p5⟩
    simp at p3 ⊢; omega
  ·refine ⟨rfl, rfl, rfl, ?_⟩
   show w.heap.size ≤ (putRow (Value.int .i64) (Sort.ahead w k) b 0 _).heap.size
   simp [putRow, mapBlock, Sort.ahead]
abbrev EX := Int × Bs
abbrev Wt := Int × EX
def LO (s : EX) : Value := .agg #[AA s.1, AD s.2]
def B6 (ω : List Wt) (s : Int) : Nat := (ω.filter fun w => decide (w.1 = s)).length
def V6 (ω : List Wt) (w : Wt) : List Wt := ω.filter fun x => decide (x ≠ w)
def Ii (k : Int) (p : Bs) : Prop := 1 ≤ k ∧ k ≤ 3 ∧ BG p = 0
instance (k : Int) (p : Bs) : Decidable (Ii k p) := inferInstanceAs (Decidable (_ ∧ _))
def addW (ω : List Wt) (s k : Int) (p : Bs) : List Wt × Int :=
 if s < 1 ∨ ¬ Ii k p then (ω, 1) else if (s, (k, p)) ∈ ω then (ω, 0) else if B6 ω s = 64 then (ω, 91) else (ω ++ [(s, (k, p))], 0)
def Aq (e : Int) : List Int := if e = 1 then [2] else if e = 2 then [1, 2, 3] else if e = 3 then [1, 2] else if e = 4 then [3] else []
def N5 (k : Int) (p : Bs) (w : Wt) : Bool := decide (w.2.2 = p) && decide (w.2.1 ∈ Aq k)
def Cq (ω : List Wt) (k : Int) (p : Bs) : List Int := GP (C2 ((ω.filter (N5 k p)).map (·.1)))
def UE (ω : List Wt) (k : Int) (p : Bs) : List Wt := ω.filter fun w => !N5 k p w
def OZ (ω : List Wt) (s : Int) : List Wt := ω.filter fun w => decide (w.1 ≠ s)
theorem Wb (l : List Int) (x : Int) : x ∈ GP l ↔ x ∈ l := by
 have key : ∀ j (hj : j < l.length), l[j] ∈ GP l := by
  intro j
  induction j with
  | zero =>
   intro hj
   refine mem_map.2 ⟨0, mem_filter.2 ⟨mem_range.2 hj, by simp [Lib.keeps]⟩, by simp [hj]⟩
  | succ j ih =>
   intro hj
   by_cases hk : Lib.keeps l.toArray (j + 1) = true
   ·exact mem_map.2 ⟨j + 1, mem_filter.2 ⟨mem_range.2 hj, hk⟩, by simp [hj]⟩
   ·have := ih om
    simp [Lib.keeps, hj, show j < l.length by omega] at hk
    rw [hk]; exact this
 constructor
 ·intro h
  obtain ⟨j, hj, rfl⟩ := mem_map.1 h
  have hj2 := mem_range.1 (mem_filter.1 hj).1
  simp [hj2]
 ·intro h
  obtain ⟨j, hj, rfl⟩ := mem_iff_getElem.1 h
  exact key j hj
theorem Je (l : List Int) : (C2 l).Pairwise (· ≤ ·) := by
 have := pairwise_mergeSort (le := fun x y : Int => decide (x ≤ y)) (fun a b c h1 h2 => by simp only [decide_eq_true_eq] at *; omega) (fun a b => by simp only [Bool.or_eq_true, decide_eq_true_eq]; omega) l
 exact this.imp (fun h => by simpa using h)
theorem Ya {ω : List Wt} {k : Int} {p : Bs} {s : Int} : s ∈ Cq ω k p ↔ ∃ w ∈ ω, N5 k p w = true ∧ w.1 = s := by
 unfold Cq
 rw [Wb, Vi, mem_map]
 constructor
 ·rintro ⟨w, hw, rfl⟩; exact ⟨w, (mem_filter.1 hw).1, (mem_filter.1 hw).2, rfl⟩
 ·rintro ⟨w, hw, hm, rfl⟩; exact ⟨w, mem_filter.2 ⟨hw, hm⟩, rfl⟩
/-! ### What stands for it -/
abbrev By := List (EX × (Nat × List (Int × Int)))
abbrev LU (y : Int) : Value := AA y
def Pu (x : Nat × List (Int × Int)) : Value := .map (some x.1)
def byM (by' : By) : List (Value × Value) := by'.map fun x => (LO x.1, Pu x.2)
def RD (l : List (Int × Int)) : List (Value × Value) := l.map fun x => (AA x.1, LU x.2)
def TS (x : EX × (Nat × List (Int × Int))) : HP := mapR x.2.1 (RD x.2.2)
structure Ps (ω : List Wt) (m : By) (n : List (Int × Int)) : Prop where
 nod : ω.Nodup
 fit : ∀ w ∈ ω, 1 ≤ w.1 ∧ w.1 ≤ 9223372036854775807 ∧ 1 ≤ w.2.1 ∧ w.2.1 ≤ 3
 few : ∀ s, B6 ω s ≤ 64
 keys : (m.map (·.1)).Nodup
 inn : ∀ sp y, AE m sp = some y → (y.2.map (·.1)).Nodup ∧ y.2 ≠ [] ∧ ∀ z ∈ y.2, z.2 = z.1
 mem : ∀ id sp, (id, sp) ∈ ω ↔ ∃ y, AE m sp = some y ∧ id ∈ y.2.map (·.1)
 nkeys : (n.map (·.1)).Nodup
 many : ∀ s, AE n s = if B6 ω s = 0 then none else some (B6 ω s : Int)
def K7 (t : Nat) (ω : List Wt) : HP := fun h => ∃ x : (Nat × Nat) × (By × List (Int × Int)), Ps ω x.2.1 x.2.2 ∧ CD [Ae t [.map (some x.1.1), .map (some x.1.2)] 117, mapR x.1.1 (byM x.2.1), mapR x.1.2 (RD x.2.2), Ah TS x.2.1] h
section
variable {W : World} {n : Nat} {ds : List Deferred} {E : B0} {L R : List HP} {X : Act → World → Prop}
theorem G.tbOpen {t : Nat} {ω : List Wt} (hL : BI (K7 t ω) L R) (h : ∀ rb rm m q, Ps ω m q → G W n ds E (Ae t [.map (some rb), .map (some rm)] 117 :: mapR rb (byM m) :: mapR rm (RD q) :: Ah TS m :: R) X) : G W n ds E L X :=
 G.focus hL (G.open (q := fun x : (Nat × Nat) × (By × List (Int × Int)) => [Ae t [.map (some x.1.1), .map (some x.1.2)] 117, mapR x.1.1 (byM x.2.1), mapR x.1.2 (RD x.2.2), Ah TS x.2.1]) (φ := fun x : (Nat × Nat) × (By × List (Int × Int)) => Ps ω x.2.1 x.2.2) (fun _ hp => hp) fun x hx => h x.1.1 x.1.2 x.2.1 x.2.2 hx)
theorem G.tbFold {t rb rm : Nat} {ω : List Wt} {m : By} {q : List (Int × Int)} {l : List Value} {e1 e2 : List (Value × Value)} (hI : Ps ω m q) (hL : BC [Ae t l 117, mapR rb e1, mapR rm e2, Ah TS m] L R) (hl : l = [.map (some rb), .map (some rm)]) (h1 : e1 = byM m) (h2 : e2 = RD q)
  (h : G W n ds E (K7 t ω :: R) X) : G W n ds E L X := by
 subst hl; subst h1; subst h2
 exact G.fold hL (fun _ hp => ⟨((rb, rm), (m, q)), hI, hp⟩) h
end
theorem Ls {m : By} {d : EX} {y y' : Nat × List (Int × Int)} (h : AE m d = some y) (hp : y'.1 = y.1) : byM (BR m d y') = byM m := Qm h (by simp [Pu, hp])
theorem IM {ω : List Wt} {m : By} {n : List (Int × Int)} (h : Ps ω m n) (s : Int) : ∀ b, AE n s = some b → LU b = AA (B6 ω s : Nat) := by
 intro b hb
 rw [h.many s] at hb
 split at hb
 ·cases hb
 ·cases hb; rfl
theorem II {ω : List Wt} {m : By} {n : List (Int × Int)} (h : Ps ω m n) (s : Int) : AE n s = none → Value.int .i64 0 = AA (B6 ω s : Nat) := by
 intro hb
 rw [h.many s] at hb
 split at hb
 ·rename_i h0; rw [h0]; rfl
 ·cases hb
/-! ### B4 keeps it -/
theorem AAL {ω : List Wt} {s : Int} {sp : EX} (h : (s, sp) ∈ ω) : 0 < B6 ω s := by
 unfold B6
 exact length_pos_of_mem (mem_filter.2 ⟨h, by simp⟩)
theorem I7 (ω : List Wt) (w : Wt) (s : Int) : B6 (ω ++ [w]) s = B6 ω s + if w.1 = s then 1 else 0 := by
 unfold B6
 rw [filter_append, length_append]
 congr 1
 by_cases h : w.1 = s <;> simp [h]
theorem XG {ω : List Wt} {w x : Wt} : x ∈ V6 ω w ↔ x ∈ ω ∧ x ≠ w := by
 unfold V6; rw [mem_filter]; simp
theorem Wc {ω : List Wt} (h : ω.Nodup) (w : Wt) : V6 ω w = ω.erase w := by
 rw [h.erase_eq_filter]
 unfold V6
 refine filter_congr fun x _ => ?_
 by_cases hx : x = w
 ·subst hx; rw [decide_eq_false (fun g => g rfl)]; exact (bne_self_eq_false x).symm
 ·rw [decide_eq_true hx]; exact (bne_iff_ne.2 hx).symm
theorem ABc {ω : List Wt} (h : ω.Nodup) {w : Wt} (hm : w ∈ ω) (s : Int) : B6 ω s = B6 (V6 ω w) s + if w.1 = s then 1 else 0 := by
 have hp := perm_cons_erase hm
 rw [Wc h]
 unfold B6
 rw [(hp.filter _).length_eq]
 by_cases hs : w.1 = s
 ·simp [hs]
 ·simp [hs]
theorem N2 {K β : Type} [DecidableEq K] {m : List (K × β)} (hn : (m.map (·.1)).Nodup) (k x : K) : x ∈ (BX m k).map (·.1) ↔ x ≠ k ∧ x ∈ m.map (·.1) := by
 rw [← C9, ← C9, GM hn]
 by_cases h : x = k
 ·simp [h]
 ·simp [h]
theorem Ps.gone {ω : List Wt} {m m' : By} {n n' : List (Int × Int)} (h : Ps ω m n) {id : Int} {sp : EX} (hm : (id, sp) ∈ ω) {p : Nat} {l : List (Int × Int)} (hb : AE m sp = some (p, l))
  (hm' : m' = if BX l id = [] then BX m sp else BR m sp (p, BX l id)) (hn' : n' = if (B6 ω id : Int) - 1 = 0 then BX (BR n id ((B6 ω id : Int) - 1)) id else BR n id ((B6 ω id : Int) - 1)) : Ps (V6 ω (id, sp)) m' n' := by
 obtain ⟨b1, b2, b3⟩ := h.inn sp _ hb
 dsimp only at b1 b2 b3
 have hpos := AAL hm
 have hlook : ∀ x, AE m' x = if x = sp then (if BX l id = [] then none else some (p, BX l id)) else AE m x := by
  intro x
  rw [hm']
  split
  ·rw [GM h.keys]
  ·rw [DH]
 have hc := fun s => ABc h.nod hm s
 have hlk : ∀ x, AE n' x = if x = id then (if (B6 ω id : Int) - 1 = 0 then none else some ((B6 ω id : Int) - 1)) else AE n x := by
  intro x
  rw [hn']
  split
  ·rw [GM (Bx h.nkeys _ _), DH]
   by_cases hx : x = id <;> simp [hx]
  ·rw [DH]
 refine ⟨h.nod.filter _, fun w hw => h.fit w (XG.1 hw).1, fun s => by have := hc s; have := h.few s; omega, ?_, fun s y hy => ?_, fun i s => ?_, ?_, fun s => ?_⟩
 ·rw [hm']; split
  ·exact DF h.keys _
  ·exact Bx h.keys _ _
 ·rw [hlook] at hy
  by_cases hs : s = sp
  ·rw [if_pos hs] at hy
   split at hy
   ·cases hy
   ·rename_i hne
    cases hy
    exact ⟨DF b1 id, hne, fun z hz => b3 z ((Py l id).subset hz)⟩
  ·rw [if_neg hs] at hy; exact h.inn s y hy
 ·rw [XG, h.mem i s, hlook]
  by_cases hs : s = sp
  ·subst hs
   rw [if_pos rfl]
   constructor
   ·rintro ⟨⟨y, hy, hi⟩, hne⟩
    rw [hb] at hy; cases hy
    have hii : i ≠ id := fun e => hne (by rw [e])
    have hin := (N2 b1 id i).2 ⟨hii, hi⟩
    refine ⟨(p, BX l id), ?_, hin⟩
    rw [if_neg (fun e => by rw [e] at hin; simp at hin)]
   ·rintro ⟨y, hy, hi⟩
    split at hy
    ·cases hy
    ·cases hy
     have := (N2 b1 id i).1 hi
     exact ⟨⟨(p, l), hb, this.2⟩, fun e => this.1 (by simpa using e)⟩
  ·rw [if_neg hs]
   constructor
   ·exact fun g => g.1
   ·exact fun g => ⟨g, fun e => hs (by simpa using congrArg Prod.snd e)⟩
 ·rw [hn']; split
  ·exact DF (Bx h.nkeys _ _) _
  ·exact Bx h.nkeys _ _
 ·rw [hlk]
  have hcs := hc s
  by_cases hs : s = id
  ·subst hs
   simp only [if_true] at hcs ⊢
   by_cases h0 : B6 (V6 ω (s, sp)) s = 0
   ·rw [if_pos om, if_pos h0]
   ·rw [if_neg om, if_neg h0]; congr 1; omega
  ·rw [if_neg hs, h.many s]
   rw [if_neg (fun e : id = s => hs e.symm)] at hcs
   rw [hcs, Nat.add_zero]
theorem Ps.ins {ω : List Wt} {m m' : By} {n n' : List (Int × Int)} (h : Ps ω m n) {id : Int} {sp : EX} (hm : (id, sp) ∉ ω) (hid : 1 ≤ id ∧ id ≤ 9223372036854775807) (hk : 1 ≤ sp.1 ∧ sp.1 ≤ 3) (hc : B6 ω id ≠ 64) {y : Nat × List (Int × Int)} (hy : (AE m sp = none ∧ y.2 = []) ∨ AE m sp = some y)
  (hm' : m' = BR m sp (y.1, BR y.2 id id)) (hn' : n' = BR n id ((B6 ω id : Int) + 1)) : Ps (ω ++ [(id, sp)]) m' n' := by
 subst hm'; subst hn'
 have hyl : (y.2.map (·.1)).Nodup ∧ (∀ z ∈ y.2, z.2 = z.1) ∧ ∀ i, (i, sp) ∈ ω ↔ i ∈ y.2.map (·.1) := by
  rcases hy with ⟨h1, h2⟩ | h1
  ·rw [h2]
   refine ⟨by simp, by simp, fun i => ?_⟩
   rw [h.mem, h1]; simp
  ·obtain ⟨c1, -, c3⟩ := h.inn sp y h1
   refine ⟨c1, c3, fun i => ?_⟩
   rw [h.mem, h1]; simp
 have hnew : AE y.2 id = none := Ej.2 fun g => hm ((hyl.2.2 id).2 g)
 have hset : BR y.2 id id = y.2 ++ [(id, id)] := Kr hnew
 refine ⟨?_, fun w hw => ?_, fun s => ?_, Bx h.keys _ _, fun s z hz => ?_, fun i s => ?_, Bx h.nkeys _ _, fun s => ?_⟩
 ·exact nodup_append.2 ⟨h.nod, by simp, fun a ha b hb => by simp at hb; subst hb; exact fun e => hm (e ▸ ha)⟩
 ·rcases mem_append.1 hw with hw | hw
  ·exact h.fit w hw
  ·simp at hw; subst hw; exact ⟨hid.1, hid.2, hk.1, hk.2⟩
 ·rw [I7]
  have := h.few s
  by_cases hs : id = s
  ·subst hs; simp; omega
  ·simp [hs]; exact this
 ·rw [DH] at hz
  by_cases hs : s = sp
  ·rw [if_pos hs] at hz; cases hz
   dsimp only
   refine ⟨Bx hyl.1 _ _, ?_, fun q hq => ?_⟩
   ·rw [hset]; simp
   ·rw [hset] at hq
    rcases mem_append.1 hq with hq | hq
    ·exact hyl.2.1 q hq
    ·simp at hq; rw [hq]
  ·rw [if_neg hs] at hz; exact h.inn s z hz
 ·rw [mem_append, DH]
  by_cases hs : s = sp
  ·subst hs
   rw [if_pos rfl, hyl.2.2 i]
   constructor
   ·rintro (g | g)
    ·exact ⟨_, rfl, by dsimp only; rw [hset]; simp at g ⊢; exact .inl g⟩
    ·simp at g; exact ⟨_, rfl, by dsimp only; rw [hset]; simp [g]⟩
   ·rintro ⟨z, hz, hi⟩
    cases hz
    dsimp only at hi
    rw [hset] at hi
    simp at hi ⊢
    exact hi
  ·rw [if_neg hs, h.mem i s]
   constructor
   ·rintro (g | g)
    ·exact g
    ·simp at g; exact absurd g.2 hs
   ·exact fun g => .inl g
 ·rw [DH, I7]
  by_cases hs : s = id
  ·subst hs; simp
  ·rw [if_neg hs, h.many s, if_neg (fun e : id = s => hs e.symm), Nat.add_zero]
abbrev Y7 := Int × Ev
def Kv (x : Y7) : List Value := [AA x.1, AA x.2.1, AD x.2.2.1, AA x.2.2.2]
def N4 (s : EX) : List Value := [AA s.1, AD s.2]
def AY (ω : List Wt) (es : List Ev) : Nat → List Wt × List Y7
 | 0 => (ω, [])
 | i + 1 => (UE (AY ω es i).1 (es.getD i (0, ([], 0))).1 (es.getD i (0, ([], 0))).2.1, (AY ω es i).2 ++ (Cq (AY ω es i).1 (es.getD i (0, ([], 0))).1 (es.getD i (0, ([], 0))).2.1).map fun j => (j, es.getD i (0, ([], 0))))
def BQ (ω : List Wt) (es : List Ev) : List Wt × List Y7 := AY ω es es.length
def O9 (ω : List Wt) (p : Bs) (ks : List Int) : List Int := (ω.filter fun w => decide (w.2.2 = p) && decide (w.2.1 ∈ ks)).map (·.1)
def EI (ω : List Wt) (p : Bs) (ks : List Int) : List Wt := ω.filter fun w => !(decide (w.2.2 = p) && decide (w.2.1 ∈ ks))
def GK (ω : List Wt) (sp : EX) (ids : List Int) : List Wt := ω.filter fun w => !(decide (w.2 = sp) && decide (w.1 ∈ ids))
theorem Nv (ω : List Wt) (sp : EX) : GK ω sp [] = ω := by unfold GK; simp
theorem YQ (ω : List Wt) (p : Bs) : EI ω p [] = ω := by unfold EI; simp
theorem SW (ω : List Wt) (sp : EX) (ids : List Int) (i : Int) : V6 (GK ω sp ids) (i, sp) = GK ω sp (ids ++ [i]) := by
 unfold V6 GK
 rw [filter_filter]
 refine filter_congr fun w _ => ?_
 obtain ⟨a, s⟩ := w
 by_cases h1 : s = sp
 ·by_cases h2 : a = i
  ·simp [h1, h2]
  ·simp [h1, h2]
 ·simp [h1]
theorem VT {ω : List Wt} {sp : EX} {ids : List Int} {i : Int} (h : (i, sp) ∈ ω) (hi : i ∉ ids) : (i, sp) ∈ GK ω sp ids := by
 unfold GK; exact mem_filter.2 ⟨h, by simp [hi]⟩
theorem OE {ω : List Wt} {p : Bs} {ks : List Int} {k : Int} {ids : List Int} (h : ∀ i, (i, (k, p)) ∈ EI ω p ks → i ∈ ids) : GK (EI ω p ks) (k, p) ids = EI ω p (ks ++ [k]) := by
 have e : EI ω p (ks ++ [k]) = (EI ω p ks).filter fun w => !decide (w.2 = (k, p)) := by
  unfold EI
  rw [filter_filter]
  refine filter_congr fun w _ => ?_
  obtain ⟨a, b, c⟩ := w
  by_cases h1 : c = p
  ·by_cases h2 : b = k
   ·simp [h1, h2]
   ·simp [h1, h2]
  ·simp [h1]
 rw [e]
 unfold GK
 refine filter_congr fun w hw => ?_
 by_cases hs : w.2 = (k, p)
 ·have := h w.1 (by rw [← hs]; exact hw)
  simp [hs, this]
 ·simp [hs]
theorem MM {α : Type} (f g : α → Bool) (h : ∀ x, f x = true → g x = false) (l : List α) : (l.filter fun x => f x || g x).Perm (l.filter f ++ l.filter g) := by
 induction l with
 | nil => simp
 | cons a l ih =>
  cases hf : f a with
  | true => simp [hf, h a hf]; exact ih
  | false =>
   cases hg : g a with
   | true =>
    simp [hf, hg]
    exact (List.Perm.cons a ih).trans perm_middle.symm
   | false => simp [hf, hg]; exact ih
theorem OO (ω : List Wt) (p : Bs) {ks : List Int} {k : Int} (hk : k ∉ ks) : (O9 ω p (ks ++ [k])).Perm (O9 ω p ks ++ ((EI ω p ks).filter fun w => decide (w.2 = (k, p))).map (·.1)) := by
 have e : ((EI ω p ks).filter fun w => decide (w.2 = (k, p))) = ω.filter fun w => decide (w.2 = (k, p)) := by
  unfold EI
  rw [filter_filter]
  refine filter_congr fun w _ => ?_
  obtain ⟨a, b, c⟩ := w
  by_cases h2 : b = k
  ·simp [h2, hk]
  ·simp [h2]
 rw [e]
 unfold O9
 rw [← map_append]
 refine List.Perm.map _ (List.Perm.trans (List.Perm.of_eq ?_) (MM (fun w : Wt => decide (w.2.2 = p) && decide (w.2.1 ∈ ks)) (fun w => decide (w.2 = (k, p))) ?_ ω))
 ·refine filter_congr fun w _ => ?_
  obtain ⟨a, b, c⟩ := w
  by_cases h1 : c = p
  ·by_cases h2 : b = k
   ·simp [h1, h2]
   ·simp [h1, h2]
  ·simp [h1]
 ·rintro ⟨a, b, c⟩ h
  simp at h ⊢
  intro hb hc
  exact hk (hb ▸ h.2)
theorem ZH (ω : List Wt) (k : Int) (p : Bs) : EI ω p (Aq k) = UE ω k p := by
 unfold EI UE N5; rfl
theorem Z7 (ω : List Wt) (k : Int) (p : Bs) : O9 ω p (Aq k) = (ω.filter (N5 k p)).map (·.1) := by
 unfold O9 N5; rfl
theorem RK (k : Int) : (Aq k).Nodup := by
 unfold Aq
 split
 ·simp
 ·split
  ·decide
  ·split
   ·decide
   ·split <;> simp
theorem U1 (k : Int) : (Aq k).length ≤ 3 := by
 unfold Aq
 split
 ·simp
 ·split
  ·simp
  ·split
   ·simp
   ·split <;> simp
theorem Qe {ω : List Wt} {m : By} {n : List (Int × Int)} (h : Ps ω m n) {sp : EX} {y : Nat × List (Int × Int)} (hy : AE m sp = some y) : (y.2.map (·.1)).Perm ((ω.filter fun w => decide (w.2 = sp)).map (·.1)) := by
 refine (perm_ext_iff_of_nodup (h.inn sp y hy).1 ?_).2 fun i => ?_
 ·refine pairwise_map.2 (List.Pairwise.imp_of_mem ?_ (h.nod.filter _))
  intro a b ha hb hne e
  apply hne
  have h1 := (mem_filter.1 ha).2
  have h2 := (mem_filter.1 hb).2
  simp at h1 h2
  obtain ⟨a1, a2⟩ := a; obtain ⟨b1, b2⟩ := b
  dsimp only at *
  rw [e, h1, h2]
 ·constructor
  ·intro hi
   exact mem_map.2 ⟨(i, sp), mem_filter.2 ⟨(h.mem i sp).2 ⟨y, hy, hi⟩, by simp⟩, rfl⟩
  ·intro hi
   obtain ⟨w, hw, rfl⟩ := mem_map.1 hi
   obtain ⟨h1, h2⟩ := mem_filter.1 hw
   have h2 : w.2 = sp := by simpa using h2
   obtain ⟨z, hz, hzi⟩ := (h.mem w.1 sp).1 (by rw [← h2]; exact h1)
   rw [hy] at hz; cases hz
   exact hzi
theorem Vh {ω : List Wt} {m : By} {n : List (Int × Int)} (h : Ps ω m n) {sp : EX} (hy : AE m sp = none) : (ω.filter fun w => decide (w.2 = sp)) = [] := by
 rw [filter_eq_nil_iff]
 intro w hw
 simp only [decide_eq_true_eq]
 intro e
 obtain ⟨z, hz, -⟩ := (h.mem w.1 sp).1 (by rw [← e]; exact hw)
 rw [hy] at hz; cases hz
def NX (s : Int) (x : EX × (Nat × List (Int × Int))) : Bool := decide (s ∈ x.2.2.map (·.1))
def Hd (ω : List Wt) (s : Int) (sps : List EX) : List Wt := ω.filter fun w => !(decide (w.1 = s) && decide (w.2 ∈ sps))
theorem Vq (ω : List Wt) (s : Int) : Hd ω s [] = ω := by unfold Hd; simp
theorem S6 (ω : List Wt) (s : Int) (sps : List EX) (sp : EX) : V6 (Hd ω s sps) (s, sp) = Hd ω s (sps ++ [sp]) := by
 unfold V6 Hd
 rw [filter_filter]
 refine filter_congr fun w _ => ?_
 obtain ⟨a, b⟩ := w
 by_cases h1 : a = s
 ·by_cases h2 : b = sp
  ·simp [h1, h2]
  ·simp [h1, h2]
 ·simp [h1]
theorem U7 {ω : List Wt} {s : Int} {sps : List EX} {sp : EX} (h : (s, sp) ∈ ω) (hi : sp ∉ sps) : (s, sp) ∈ Hd ω s sps := by
 unfold Hd; exact mem_filter.2 ⟨h, by simp [hi]⟩
theorem Uy {ω : List Wt} {s : Int} {sps : List EX} (h : ∀ sp, (s, sp) ∈ ω → sp ∈ sps) : Hd ω s sps = OZ ω s := by
 unfold Hd OZ
 refine filter_congr fun w hw => ?_
 obtain ⟨a, b⟩ := w
 by_cases h1 : a = s
 ·subst h1; simp [h b hw]
 ·simp [h1]
theorem UL {ω : List Wt} {m : By} {n : List (Int × Int)} (h : Ps ω m n) {s : Int} {sp : EX} : (s, sp) ∈ ω ↔ sp ∈ (m.filter (NX s)).map (·.1) := by
 rw [h.mem]
 constructor
 ·rintro ⟨y, hy, hs⟩
  exact mem_map.2 ⟨(sp, y), mem_filter.2 ⟨EG hy, by simpa [NX] using hs⟩, rfl⟩
 ·intro hm
  obtain ⟨x, hx, rfl⟩ := mem_map.1 hm
  obtain ⟨h1, h2⟩ := mem_filter.1 hx
  exact ⟨x.2, CR h.keys h1, by simpa [NX] using h2⟩
theorem KD {α : Type} {l : List α} (h : l.Nodup) {i : Nat} (hi : i < l.length) : l[i] ∉ l.take i := by
 have e : l.take i ++ l[i] :: l.drop (i + 1) = l := by rw [← drop_eq_getElem_cons hi]; exact take_append_drop i l
 have h2 : (l.take i ++ l[i] :: l.drop (i + 1)).Nodup := by rw [e]; exact h
 intro hm
 exact (nodup_append.1 h2).2.2 _ hm _ mem_cons_self rfl
theorem ZB {ω : List Wt} {m ss rest : By} {n : List (Int × Int)} (h : Ps ω m n) (hp : m.Perm (ss ++ rest)) (s : Int) : ((ss.filter (NX s)).map (·.1)).length ≤ 64 ∧ ((ss.filter (NX s)).map (·.1)).Nodup := by
 have hk : ((ss ++ rest).map (·.1)).Nodup := ((hp.map _).nodup_iff).1 h.keys
 have hn : ((ss.filter (NX s)).map (·.1)).Nodup := (((filter_sublist).trans (sublist_append_left ss rest)).map _).nodup hk
 refine ⟨?_, hn⟩
 have h1 : (((ss.filter (NX s)).map (·.1)).map fun sp => ((s, sp) : Wt)).length ≤ (ω.filter fun w => decide (w.1 = s)).length := by
  refine Vo ?_ fun w hw => ?_
  ·exact pairwise_map.2 (hn.imp fun hne e => hne (by simpa using e))
  ·obtain ⟨sp, hsp, rfl⟩ := mem_map.1 hw
   refine mem_filter.2 ⟨(UL h).2 ?_, by simp⟩
   obtain ⟨x, hx, rfl⟩ := mem_map.1 hsp
   obtain ⟨x1, x2⟩ := mem_filter.1 hx
   exact mem_map.2 ⟨x, mem_filter.2 ⟨hp.mem_iff.2 (mem_append_left _ x1), x2⟩, rfl⟩
 rw [length_map] at h1
 exact Nat.le_trans h1 (h.few s)
theorem AAX (ω : List Wt) (p : Bs) (ks : List Int) : (O9 ω p ks).length ≤ ω.length := by unfold O9; rw [length_map]; exact length_filter_le _ _
theorem Wx (l : List Int) : (GP l).length ≤ l.length := Lib.compact_length_le l
theorem QB (ω : List Wt) (k : Int) (p : Bs) : (Cq ω k p).length ≤ ω.length := by
 unfold Cq
 refine Nat.le_trans (Wx _) ?_
 rw [Oz, length_map]; exact length_filter_le _ _
theorem Nc {l m : List Int} (h : l.Perm m) : C2 l = C2 m :=
 List.Perm.eq_of_pairwise (le := fun a b : Int => a ≤ b) (fun a b _ _ h1 h2 => by omega) (Je l) (Je m) ((HE l).trans (h.trans (HE m).symm))
theorem E7 {ω : List Wt} {es : List Ev} {i : Nat} {e : Ev} (h : es.getD i (0, ([], 0)) = e) : AY ω es (i + 1) = (UE (AY ω es i).1 e.1 e.2.1, (AY ω es i).2 ++ (Cq (AY ω es i).1 e.1 e.2.1).map fun j => (j, e)) := by
 rw [AY, h]
theorem Ml (ω : List Wt) (es : List Ev) : ∀ i, (AY ω es i).1.length ≤ ω.length ∧ (AY ω es i).2.length ≤ i * ω.length := by
 intro i
 induction i with
 | zero => exact ⟨Nat.le_refl _, by simp [AY]⟩
 | succ i ih =>
  rw [E7 rfl]
  refine ⟨Nat.le_trans (length_filter_le _ _) ih.1, ?_⟩
  have := QB (AY ω es i).1 (es.getD i (0, ([], 0))).1 (es.getD i (0, ([], 0))).2.1
  dsimp only
  rw [length_append, length_map, Nat.add_mul, Nat.one_mul]
  omega
theorem Va (ω : List Wt) (s k : Int) (p : Bs) : addW ω s k p = (ω, 1) ∨ addW ω s k p = (ω, 0) ∨ addW ω s k p = (ω, 91) ∨ (¬ s < 1 ∧ Ii k p ∧ (s, (k, p)) ∉ ω ∧ addW ω s k p = (ω ++ [(s, (k, p))], 0)) := by
 unfold addW
 split
 ·exact .inl rfl
 ·rename_i h
  split
  ·exact .inr (.inl rfl)
  ·rename_i h2
   split
   ·exact .inr (.inr (.inl rfl))
   ·have h1 : ¬ s < 1 := fun e => h (.inl e)
    have h3 : Ii k p := Decidable.byContradiction fun e => h (.inr e)
    exact .inr (.inr (.inr ⟨h1, h3, h2, rfl⟩))
/-! ### Told of one session alone -/
/-! ### With others -/
theorem AAQ (a b : EX) : F4 prog 10000 155 (LO a) (LO b) (decide (a = b)) := by
 have h := F4.struct (d := 9999) (xs := [AA a.1, AD a.2]) (ys := [AA b.1, AD b.2]) underlying155 kQ
  (.cons (QK.cell dQ AR rfl rfl (F4.int underlying3 a.1 b.1)) (.cons (QK.cell dQ Ag rfl rfl (F4.str underlying9 a.2 b.2)) .nil))
 have e : ([decide (a.1 = b.1), decide (a.2 = b.2)].all id) = decide (a = b) := by
  obtain ⟨a1, a2⟩ := a; obtain ⟨b1, b2⟩ := b
  simp [Bool.decide_and]
 rw [← e]; exact h
theorem G5 : AX prog 155 LO := by
 refine AX.struct underlying155 AAQ (fun a e w => ?_) (fun a => ?_)
 ·refine PI (d := 9999) underlying155 (xs := [AA a.1, AD a.2].toArray) (fun f hf => ?_) w
  simp only [mem_cons, not_mem_nil, or_false] at hf
  rcases hf with rfl | rfl
  ·exact FCk.cell (d := 9998) dQ AR rfl underlying3 (.inr (.inl ⟨_, rfl⟩))
  ·exact FCk.cell (d := 9998) dQ Ag rfl underlying9 (.inl rfl)
 ·rw [show (10000 : Nat) = 9999 + 1 from rfl]
  simp [LO, Instr.sameBits, PQ]
theorem Sn (v : Value) (n : Nat) (xs : List Int) (hn : n < 4611686018427387904) : Fn prog 70 #[v] [Ad 3 1 v n (Du xs)] fun u L => u = .tuple #[] ∧ L = [Ad 3 1 v n (Du (C2 xs))] :=
 AAN Tryz.sortA 3 v n xs hn
theorem S1 (v : Value) (n : Nat) (xs : List Int) (hn : n < 4611686018427387904) : Fn prog 75 #[v] [Ad 3 1 v n (Du xs)] fun u L => (∃ a c, u = .slice a (GP xs).length c) ∧ L = [Ad 3 1 u (GP xs).length (Du (GP xs))] :=
 SE Tryz.compactA 3 v n xs hn
theorem Vx : Fn prog 21 #[] [] fun v L => ∃ t, v = AI t ∧ L = [K7 t []] := by
 refine Fn.intro func21 Y Y fun F W => ?_
 refine .sr (.an Y (.sr (.oq (.makeMap underlying114) ?_)))
 rintro v L' ⟨rb, rfl, rfl⟩
 refine .oq (.makeMap underlying115) ?_
 rintro v L' ⟨rm, rfl, rfl⟩
 refine .q (.build (us := [(0, _), (1, _)]) AA3 AA1 Y Y (by simp [AB])) Y (.oq (.box Y) ?_)
 rintro v L' ⟨t, rfl, rfl⟩
 refine .an Y (.ret (.fold (p := mapR rb []) (.cons (p := pt rb (.map #[] 0)) O .nil) (fun h hp => Ee (GD hp)) (.fold (p := mapR rm []) (.cons (p := pt rm (.map #[] 0)) O .nil) (fun h hp => Ee (GD hp)) (.add (p := Ah TS []) CX ?_))))
 have hI : Ps [] [] [] := ⟨by simp, by simp, fun s => Nat.zero_le _, by simp, fun sp y h => (by cases h), fun id sp => ⟨fun h => (by cases h), fun ⟨y, h, _⟩ => (by cases h)⟩, by simp, fun s => rfl⟩
 refine .tbFold hI O Y Y Y ?_
 exact .dn Y Y ⟨_, Y, Y⟩
theorem QP (k : Int) (p : Bs) (hs : p.length ≤ 1048576) : Fn prog 98 #[AA k, AD p] [] fun v L => v = .bool (decide (Ii k p)) ∧ L = [] := by
 refine Fn.intro func98 Y Y fun F W => ?_
 refine .sr (.an Y (.sm Y (.ui Y Y Y (.m Y (.dec (t := 7) Y (fun h1_7 => ?_) (fun h1_7 => ?_))))))
 ·refine .kDT (t := 6) Y h1_7 (.gr (.m Y (.gr (.ui Y Y Y (.pT Y Y (.m Y (.dec (t := 11) Y (fun h1_11 => ?_) (fun h1_11 => ?_))))))))
  ·refine .kDT (t := 9) Y h1_11 (.kDT (t := 10) Y h1_11 (.gr (.m Y (.gr (.cv func87 [_] (ED p hs) ?_)))))
   refine .gr (.ui Y Y Y (.pT Y Y (.an Y (.ret ?_))))
   exact .dn Y Y ⟨congrArg Value.bool (decide_eq_decide.2 (by unfold Ii; omega)), Y⟩
  refine .kDF (t := 9) Y h1_11 (.kDF (t := 10) Y h1_11 (.gk (.gk (.gk (.pF Y Y (.an Y (.ret ?_)))))))
  exact .dn Y Y ⟨by rw [decide_eq_false (by unfold Ii; omega)], rfl⟩
 refine .kDF (t := 6) Y h1_7 (.gk (.gk (.pF Y Y (.m Y (.gk (.gk (.gk (.pF Y Y (.an Y (.ret ?_))))))))))
 exact .dn Y Y ⟨by rw [decide_eq_false (by unfold Ii; omega)], rfl⟩
theorem QY (k : Int) : Fn prog 73 #[AA k] [] fun v L => (∃ a c, v = .slice a (Aq k).length c) ∧ L = [Ad 3 1 v (Aq k).length (Du (Aq k))] := by
 refine Fn.intro func73 Y Y fun F W => ?_
 refine .sr (.an Y (.seq (.sm Y (.nt (.block (.sr (.ui Y Y Y (.an Y (.condD Y (fun h4 => ?_) (fun h4 => ?_))))))))))
 ·refine .sr (.oq (.buildSlice1 (vs := [_]) GQ F6 Y Y Y Y Y dQ) ?_)
  rintro v L' ⟨bk, rfl, rfl⟩
  refine .a Y (.nil (.slMake (b := bk) (n := 1) (c := 1) (xs := Du [2]) O (Nat.le_refl _) dQ Y (.then_n (.ret (.blk_r (.then_r ?_))))))
  have e : Aq k = [2] := by unfold Aq; rw [if_pos h4]
  rw [e]
  exact .dn Y Y ⟨⟨_, _, Y⟩, Y⟩
 refine .sr (.ui Y Y Y (.an Y (.condD Y (fun h7 => ?_) (fun h7 => ?_))))
 ·refine .sr (.oq (.buildSlice1 (vs := [_, _, _]) GQ F6 Y Y Y Y Y dQ) ?_)
  rintro v L' ⟨bk, rfl, rfl⟩
  refine .a Y (.nil (.slMake (b := bk) (n := 3) (c := 3) (xs := Du [1, 2, 3]) O (Nat.le_refl _) dQ Y (.then_n (.ret (.blk_r (.then_r ?_))))))
  have e : Aq k = [1, 2, 3] := by unfold Aq; rw [if_neg h4, if_pos h7]
  rw [e]
  exact .dn Y Y ⟨⟨_, _, Y⟩, Y⟩
 refine .sr (.ui Y Y Y (.an Y (.condD Y (fun h10 => ?_) (fun h10 => ?_))))
 ·refine .sr (.oq (.buildSlice1 (vs := [_, _]) GQ F6 Y Y Y Y Y dQ) ?_)
  rintro v L' ⟨bk, rfl, rfl⟩
  refine .a Y (.nil (.slMake (b := bk) (n := 2) (c := 2) (xs := Du [1, 2]) O (Nat.le_refl _) dQ Y (.then_n (.ret (.blk_r (.then_r ?_))))))
  have e : Aq k = [1, 2] := by unfold Aq; rw [if_neg h4, if_neg h7, if_pos h10]
  rw [e]
  exact .dn Y Y ⟨⟨_, _, Y⟩, Y⟩
 refine .sr (.ui Y Y Y (.an Y (.condD Y (fun h13 => ?_) (fun h13 => ?_))))
 ·refine .sr (.oq (.buildSlice1 (vs := [_]) GQ F6 Y Y Y Y Y dQ) ?_)
  rintro v L' ⟨bk, rfl, rfl⟩
  refine .a Y (.nil (.slMake (b := bk) (n := 1) (c := 1) (xs := Du [3]) O (Nat.le_refl _) dQ Y (.then_n (.ret (.blk_r (.then_r ?_))))))
  have e : Aq k = [3] := by unfold Aq; rw [if_neg h4, if_neg h7, if_neg h10, if_pos h13]
  rw [e]
  exact .dn Y Y ⟨⟨_, _, Y⟩, Y⟩
 refine .skip (.blk_n (.then_n (.seq (.add (AN 3 1) (.region (.an Y (.ret ?_)))))))
 have e : Aq k = [] := by unfold Aq; rw [if_neg h4, if_neg h7, if_neg h10, if_neg h13]
 rw [e]
 exact .dn Y Y ⟨⟨_, _, Y⟩, Y⟩
/- not in this seat -/
theorem OR (t : Nat) (ω : List Wt) (s k : Int) (p : Bs) (hsm : s ≤ 9223372036854775807) (hs : p.length ≤ 1048576) : Fn prog 57 #[AI t, AA s, AA k, AD p] [K7 t ω] fun v L => v = AA (addW ω s k p).2 ∧ L = [K7 t (addW ω s k p).1] := by
 refine Fn.intro func57 Y Y fun F W => ?_
 refine .tbOpen (ω := ω) O fun rb rm m q hI => (.sr (.an Y (.seq (.sm Y (.ui Y Y Y (.m Y (.dec (t := 12) Y (fun h1_12 => ?_) (fun h1_12 => ?_))))))))
 ·refine .kDT (t := 11) Y h1_12 (.gk (.gk (.gk (.gk (.pT Y Y (.nt (.condT Y (.sr (.an Y (.rt ?_))))))))))
  have e : addW ω s k p = (ω, 1) := by unfold addW; rw [if_pos (by first | exact .inl h1_12 | exact .inr (by simpa using h17))]
  rw [e]
  refine .tbFold hI O Y Y Y ?_
  exact .vv
 refine .kDF (t := 11) Y h1_12 (.gr (.m Y (.gr (.m Y (.gr (.cv func98 [_, _] (QP k p hs) ?_))))))
 refine .gr (.u (.not Y) (.pF Y Y (.nt (.condN Y (fun h17 => ?_) (fun h17 => ?_)))))
 ·refine .sr (.an Y (.rt ?_))
  have e : addW ω s k p = (ω, 1) := by unfold addW; rw [if_pos (by first | exact .inl h1_12 | exact .inr (by simpa using h17))]
  rw [e]
  refine .tbFold hI O Y Y Y ?_
  exact .vv
 refine .sk (.sr ?_)
 rcases hal : AE m (k, p) with _ | ⟨pb, l⟩; rotate_left; rcases hin : AE l s with _ | z; rotate_right
 ·have hnot : ¬ (s < 1 ∨ ¬ Ii k p) := by rintro (h | h); omega; exact h (by simpa using h17)
  have hmem : (s, (k, p)) ∉ ω := fun g => by obtain ⟨y, hy, -⟩ := (hI.mem _ _).1 g; rw [hal] at hy; cases hy
  refine .m Y (.m Y (.q (.build (us := [(0, _), (1, _)]) PX FT Y Y (by simp [AB])) Y (.oq (.allocA FT) ?_)))
  rintro v L' ⟨bsp, rfl, rfl⟩
  refine .sa Y Y Kz (by (first | (simp [AB]; done) | (simp [AB, AW, Value.cells]; done))) ?_
  refine .nil (.ptCast (b := bsp) (l' := [AA k, AD p]) O Y ?_)
  refine .then_n (.seq (.seq (.draw [] [[0, 1, 2, 3, 4, 5, 6, 7, 8]] mixed kQ (.g0 (.mv Y Y (.nf Y Y Y Cw (.kv Y (.ld Y Eg) (.kv Y (.loadAs (vs := [AA k, AD p]) Y Df O (by simp) Y) (.kv Y (.lookupN (m := m) (enc := Pu) G5 (hal) Y Y underlying114 GC O Y) (.mv Y Y (.kv Y (.lookupNil (AX.int underlying3) Y Y underlying115 F6) (.kv Y (.as (v' := .bool false) (by rfl) (.int Y Y Y)) (.pf (.condF Y (.sk (.seq (.seq ?_)))))))))))))))))
  have hkw : Ii k p := Decidable.byContradiction fun e => hnot (.inr e)
  refine .region (.m Y (.nf Y D5 (.u (.ld Y GZ) (.m Y (.q (.lookupV (m := q) (enc := LU) (AX.int underlying3) (v := AA (B6 ω s : Nat)) (IM hI s) (II hI s) Y Y underlying115 F6 O Y) Y (.ui Y Y Y (.nt (.condD Y (fun h36 => ?_) (fun h36 => ?_)))))))))
  ·refine .sr (.an Y (.rt ?_))
   have e : addW ω s k p = (ω, 91) := by unfold addW; rw [if_neg hnot, if_neg hmem, if_pos om]
   rw [e]
   refine .tbFold hI O Y Y Y ?_
   exact .vv
  refine .sk (.seq (.seq (.draw [] [[0, 1, 2, 3, 4, 5, 6]] mixed kQ (.g0 (.mv Y Y (.nf Y Y Y Cw (.kv Y (.ld Y Eg) (.kv Y (.loadAs (vs := [AA k, AD p]) Y Df O (by simp) Y) (.kv Y (.lookupN (m := m) (enc := Pu) G5 (hal) Y Y underlying114 GC O Y) (.kv Y (.mapeq Y Y underlying115) (.pf (.condT Y (.draw [5, 6] [[0, 1, 2, 3, 4, 5], [6]] mixed kQ (.go [Ae bsp _ _, Ae t _ _] O (.k Y (.move Y) (.k Y (.nilp Y) (.k Y (.fieldAddr Y Cw) (.k Y (.ld Y Eg) (.k Y (.loadAs (vs := [AA k, AD p]) Y Df O (by simp) Y) (.hh Y (.makeMap underlying115) ?_))))))))))))))))))))
  rintro v L' ⟨pb, rfl, rfl⟩
  refine D.ph (.g0 (.hh Y (.mapSet (m := m) (enc := Pu) (v := (pb, [])) (k := (k, p)) G5 Y Y Y underlying114 ?he53) ?_))
  case he53 => rfl
  rintro v L' rfl
  refine D.ph (.fin (.fold (p := mapR pb []) (.cons (p := pt pb (.map #[] 0)) O .nil) (fun h hp => Ee (GD hp)) (.then_n (.seq (.draw [8] [[0, 1, 2, 3, 4, 5, 6, 7, 8]] mixed kQ (.g0 (.mv Y Y (.nf Y Y Y Cw (.kv Y (.ld Y Eg) (.kv Y (.loadAs (vs := [AA k, AD p]) Y Df O (by simp) Y) (.kv Y (.lookupY (m := BR m (k, p) (pb, [])) (enc := Pu) G5 (by rw [DH, if_pos rfl]) Y Y underlying114 GC O Y) (.mv Y Y (.mv Y Y (.hh Y (.mapSet (m := []) (enc := LU) (v := s) (k := s) (AX.int underlying3) Y Y Y underlying115 ?he63) ?_))))))))))))))
  case he63 => rfl
  rintro v L' rfl
  refine D.pf (.seq ?_)
  have hfew := hI.few s
  refine .region (.m Y (.nf Y D5 (.u (.ld Y GZ) (.m Y (.q (.lookupV (m := q) (enc := LU) (AX.int underlying3) (v := AA (B6 ω s : Nat)) (IM hI s) (II hI s) Y Y underlying115 F6 O Y) Y (.q (.add Y Y om) Y (.oq (.mapSet (m := q) (enc := LU) (v := ((B6 ω s : Nat) : Int) + 1) (k := s) (AX.int underlying3) Y Y Y underlying115 ?he72) ?_)))))))
  case he72 => rfl
  rintro v L' rfl
  refine .nt (.sr (.an Y (.ret ?_)))
  have e : addW ω s k p = (ω ++ [(s, (k, p))], 0) := by unfold addW; rw [if_neg hnot, if_neg hmem, if_neg om]
  rw [e]
  have hI2 := hI.ins (y := (pb, [])) hmem ⟨by omega, hsm⟩ ⟨hkw.1, hkw.2.1⟩ om (.inl ⟨hal, rfl⟩) rfl rfl
  refine .bigPut (f := TS) (m := m) (k, p) (pb, BR [] s s) Y (by rw [EO hal]; (repeat' constructor)) (.tbFold hI2 O Y (by show byM (BR m (k, p) (pb, [])) = byM (BR m (k, p) (pb, BR [] s s)); rw [← Vp (v := (pb, [])) (w := (pb, BR [] s s))]; exact (Ls (y := (pb, [])) (y' := (pb, BR [] s s)) (by rw [DH, if_pos rfl]) rfl).symm) Y ?_)
  exact .vv
 ·have hnot : ¬ (s < 1 ∨ ¬ Ii k p) := by rintro (h | h); omega; exact h (by simpa using h17)
  have hmem : (s, (k, p)) ∉ ω := fun g => by obtain ⟨y, hy, hm⟩ := (hI.mem _ _).1 g; rw [hal] at hy; cases hy; exact Ej.1 hin hm
  refine .bigTake hal O (.m Y (.m Y (.q (.build (us := [(0, _), (1, _)]) PX FT Y Y (by simp [AB])) Y (.oq (.allocA FT) ?_))))
  rintro v L' ⟨bsp, rfl, rfl⟩
  refine .sa Y Y Kz (by (first | (simp [AB]; done) | (simp [AB, AW, Value.cells]; done))) ?_
  refine .nil (.ptCast (b := bsp) (l' := [AA k, AD p]) O Y ?_)
  refine .then_n (.seq (.seq (.draw [] [[0, 1, 2, 3, 4, 5, 6, 7, 8]] mixed kQ (.g0 (.mv Y Y (.nf Y Y Y Cw (.kv Y (.ld Y Eg) (.kv Y (.loadAs (vs := [AA k, AD p]) Y Df O (by simp) Y) (.kv Y (.lookupY (m := m) (enc := Pu) G5 (hal) Y Y underlying114 GC O Y) (.mv Y Y (.kv Y (.lookupN (m := l) (enc := LU) (AX.int underlying3) (hin) Y Y underlying115 F6 O Y) (.kv Y (.as (v' := .bool false) (by rfl) (.int Y Y Y)) (.pf (.condF Y (.sk (.seq (.seq ?_)))))))))))))))))
  have hkw : Ii k p := Decidable.byContradiction fun e => hnot (.inr e)
  refine .region (.m Y (.nf Y D5 (.u (.ld Y GZ) (.m Y (.q (.lookupV (m := q) (enc := LU) (AX.int underlying3) (v := AA (B6 ω s : Nat)) (IM hI s) (II hI s) Y Y underlying115 F6 O Y) Y (.ui Y Y Y (.nt (.condD Y (fun h36 => ?_) (fun h36 => ?_)))))))))
  ·refine .sr (.an Y (.rt ?_))
   have e : addW ω s k p = (ω, 91) := by unfold addW; rw [if_neg hnot, if_neg hmem, if_pos om]
   rw [e]
   refine .bigPut (f := TS) (m := m) (k, p) (pb, l) Y O ?_
   rw [Ch hal]
   refine .tbFold hI O Y Y Y ?_
   exact .vv
  refine .sk (.seq (.seq (.draw [] [[0, 1, 2, 3, 4, 5, 6]] mixed kQ (.g0 (.mv Y Y (.nf Y Y Y Cw (.kv Y (.ld Y Eg) (.kv Y (.loadAs (vs := [AA k, AD p]) Y Df O (by simp) Y) (.kv Y (.lookupY (m := m) (enc := Pu) G5 (hal) Y Y underlying114 GC O Y) (.kv Y (.mapeq Y Y underlying115) (.pf (.condF Y (.sk (.seq (.draw [8] [[0, 1, 2, 3, 4, 5, 6, 7, 8]] mixed kQ (.g0 (.mv Y Y (.nf Y Y Y Cw (.kv Y (.ld Y Eg) (.kv Y (.loadAs (vs := [AA k, AD p]) Y Df O (by simp) Y) (.kv Y (.lookupY (m := m) (enc := Pu) G5 (hal) Y Y underlying114 GC O Y) ?_)))))))))))))))))))))
  refine D.mv Y Y (.mv Y Y (.hh Y (.mapSet (m := l) (enc := LU) (v := s) (k := s) (AX.int underlying3) Y Y Y underlying115 ?he117) ?_))
  case he117 => rfl
  rintro v L' rfl
  refine D.pf (.seq ?_)
  have hfew := hI.few s
  refine .region (.m Y (.nf Y D5 (.u (.ld Y GZ) (.m Y (.q (.lookupV (m := q) (enc := LU) (AX.int underlying3) (v := AA (B6 ω s : Nat)) (IM hI s) (II hI s) Y Y underlying115 F6 O Y) Y (.q (.add Y Y om) Y (.oq (.mapSet (m := q) (enc := LU) (v := ((B6 ω s : Nat) : Int) + 1) (k := s) (AX.int underlying3) Y Y Y underlying115 ?he126) ?_)))))))
  case he126 => rfl
  rintro v L' rfl
  refine .nt (.sr (.an Y (.ret ?_)))
  have e : addW ω s k p = (ω ++ [(s, (k, p))], 0) := by unfold addW; rw [if_neg hnot, if_neg hmem, if_neg om]
  rw [e]
  have hI2 := hI.ins (y := (pb, l)) hmem ⟨by omega, hsm⟩ ⟨hkw.1, hkw.2.1⟩ om (.inr hal) rfl rfl
  refine .bigPut (f := TS) (m := m) (k, p) (pb, BR l s s) Y O (.tbFold hI2 O Y (Ls (y' := (pb, BR l s s)) hal Y).symm Y ?_)
  exact .vv
 have hnot : ¬ (s < 1 ∨ ¬ Ii k p) := by rintro (h | h); omega; exact h (by simpa using h17)
 have hmem : (s, (k, p)) ∈ ω := (hI.mem _ _).2 ⟨_, hal, C9.1 (by rw [hin]; rfl)⟩
 have hzs : s = z := ((hI.inn _ _ hal).2.2 _ (EG hin)).symm
 subst hzs
 refine .bigTake hal O (.m Y (.m Y (.q (.build (us := [(0, _), (1, _)]) PX FT Y Y (by simp [AB])) Y (.oq (.allocA FT) ?_))))
 rintro v L' ⟨bsp, rfl, rfl⟩
 refine .sa Y Y Kz (by (first | (simp [AB]; done) | (simp [AB, AW, Value.cells]; done))) ?_
 refine .nil (.ptCast (b := bsp) (l' := [AA k, AD p]) O Y ?_)
 refine .then_n (.seq (.seq (.draw [] [[0, 1, 2, 3, 4, 5, 6, 7, 8]] mixed kQ (.g0 (.mv Y Y (.nf Y Y Y Cw (.kv Y (.ld Y Eg) (.kv Y (.loadAs (vs := [AA k, AD p]) Y Df O (by simp) Y) (.kv Y (.lookupY (m := m) (enc := Pu) G5 (hal) Y Y underlying114 GC O Y) (.mv Y Y (.kv Y (.lookupY (m := l) (enc := LU) (AX.int underlying3) (hin) Y Y underlying115 F6 O Y) (.kv Y (.as (v' := .bool true) (by simp; omega) (.int Y Y Y)) (.pf (.condT Y (.sr (.an Y (.rt ?_)))))))))))))))))
 have e : addW ω s k p = (ω, 0) := by unfold addW; rw [if_neg hnot, if_pos hmem]
 rw [e]
 refine .bigPut (f := TS) (m := m) (k, p) (pb, l) Y O ?_
 rw [Ch hal]
 refine .tbFold hI O Y Y Y ?_
 exact .vv
theorem MJ (t : Nat) (ω : List Wt) (sp : EX) (id : Int) (hm : (id, sp) ∈ ω) : Fn prog 74 #[AI t, .agg #[AA sp.1, AD sp.2], AA id] [K7 t ω] fun v L => v = .tuple #[] ∧ L = [K7 t (V6 ω (id, sp))] := by
 refine Fn.intro func74 Y Y fun F W => ?_
 refine .tbOpen (ω := ω) O fun rb rm m q hI => ?_
 obtain ⟨⟨pb, l⟩, hb, hin⟩ := (hI.mem id sp).1 hm
 dsimp only at hin
 have hfew := hI.few id
 refine .bigTake hb O (.sr (.oq (.box Y) ?_))
 rintro v L' ⟨bsp, rfl, rfl⟩
 refine .nil (.ptCast (b := bsp) (l' := [AA sp.1, AD sp.2]) O Y ?_)
 refine .then_n (.seq (.draw [7] [[0, 1, 2, 3, 4, 5, 6, 7]] mixed kQ (.g0 (.mv Y Y (.nf Y Y Y Cw (.kv Y (.ld Y Eg) (.kv Y (.loadAs (vs := [AA sp.1, AD sp.2]) Y Df O (by simp) Y) (.kv Y (.lookupY (m := m) (enc := Pu) G5 (hb) Y Y underlying114 GC O Y) (.mv Y Y (.hh Y (.mapDel (m := l) (enc := LU) (k := id) (AX.int underlying3) Y Y Y underlying115 ?he10) ?_))))))))))
 case he10 => rfl
 rintro v L' rfl
 refine D.pf (.seq (.seq (.draw [] [[0, 1, 2, 3, 4, 5, 6, 7]] mixed kQ (.g0 (.mv Y Y (.nf Y Y Y Cw (.kv Y (.ld Y Eg) (.kv Y (.loadAs (vs := [AA sp.1, AD sp.2]) Y Df O (by simp) Y) (.kv Y (.lookupY (m := m) (enc := Pu) G5 (hb) Y Y underlying114 GC O Y) (.kv Y (.maplen Y underlying115 Y O) (.kv Y (.int Y Y Y) (.pf (.condD Y (fun h20 => ?_) (fun h20 => ?_))))))))))))))
 ·refine .draw [5] [[0, 1, 2, 3, 4, 5]] mixed kQ (.g0 (.mv Y Y (.nf Y Y Y Cw (.kv Y (.ld Y Eg) (.kv Y (.loadAs (vs := [AA sp.1, AD sp.2]) Y Df O (by simp) Y) (.hh Y (.mapDel (m := m) (enc := Pu) (k := sp) G5 Y Y Y underlying114 ?he25) ?_))))))
  case he25 => rfl
  rintro v L' rfl
  refine D.pf (.sm Y (.nf Y D5 (.u (.ld Y GZ) (.m Y (.q (.lookupV (m := q) (enc := LU) (AX.int underlying3) (v := AA (B6 ω id : Nat)) (IM hI id) (II hI id) Y Y underlying115 F6 O Y) Y (.q (.sub Y Y om) Y (.oq (.mapSet (m := q) (enc := LU) (v := ((B6 ω id : Nat) : Int) - 1) (k := id) (AX.int underlying3) Y Y Y underlying115 ?he34) ?_)))))))
  case he34 => rfl
  rintro v L' rfl
  refine .nt (.sm Y (.nf Y D5 (.u (.ld Y GZ) (.m Y (.q (.lookupY (m := BR q id (((B6 ω id : Nat) : Int) - 1)) (enc := LU) (AX.int underlying3) (by rw [DH, if_pos rfl]) Y Y underlying115 F6 O Y) Y (.ui Y Y Y (.nt (.condD Y (fun h39 => ?_) (fun h39 => ?_)))))))))
  ·refine .region (.m Y (.nf Y D5 (.u (.ld Y GZ) (.m Y (.oq (.mapDel (m := BR q id (((B6 ω id : Nat) : Int) - 1)) (enc := LU) (k := id) (AX.int underlying3) Y Y Y underlying115 ?he48) ?_)))))
   case he48 => rfl
   rintro v L' rfl
   refine .nil (.done_n ?_)
   have hnil : BX l id = [] := by exact length_eq_zero_iff.1 (by simpa using h20)
   have hI2 := hI.gone hm hb (m' := BX m sp) (n' := BX (BR q id (((B6 ω id : Nat) : Int) - 1)) id) (by rw [if_pos hnil]) (by rw [if_pos om])
   refine .tbFold hI2 O Y Y Y ?_
   exact .vv
  refine .skip (.done_n ?_)
  have hnil : BX l id = [] := by exact length_eq_zero_iff.1 (by simpa using h20)
  have hI2 := hI.gone hm hb (m' := BX m sp) (n' := BR q id (((B6 ω id : Nat) : Int) - 1)) (by rw [if_pos hnil]) (by rw [if_neg om])
  refine .tbFold hI2 O Y Y Y ?_
  exact .vv
 refine .sk (.sm Y (.nf Y D5 (.u (.ld Y GZ) (.m Y (.q (.lookupV (m := q) (enc := LU) (AX.int underlying3) (v := AA (B6 ω id : Nat)) (IM hI id) (II hI id) Y Y underlying115 F6 O Y) Y (.q (.sub Y Y om) Y (.oq (.mapSet (m := q) (enc := LU) (v := ((B6 ω id : Nat) : Int) - 1) (k := id) (AX.int underlying3) Y Y Y underlying115 ?he57) ?_)))))))
 case he57 => rfl
 rintro v L' rfl
 refine .nt (.sm Y (.nf Y D5 (.u (.ld Y GZ) (.m Y (.q (.lookupY (m := BR q id (((B6 ω id : Nat) : Int) - 1)) (enc := LU) (AX.int underlying3) (by rw [DH, if_pos rfl]) Y Y underlying115 F6 O Y) Y (.ui Y Y Y (.nt (.condD Y (fun h39 => ?_) (fun h39 => ?_)))))))))
 ·refine .region (.m Y (.nf Y D5 (.u (.ld Y GZ) (.m Y (.oq (.mapDel (m := BR q id (((B6 ω id : Nat) : Int) - 1)) (enc := LU) (k := id) (AX.int underlying3) Y Y Y underlying115 ?he71) ?_)))))
  case he71 => rfl
  rintro v L' rfl
  refine .nil (.done_n ?_)
  have hnil : ¬ BX l id = [] := by intro e; apply h20; rw [e]; rfl
  have hI2 := hI.gone hm hb (m' := BR m sp (pb, BX l id)) (n' := BX (BR q id (((B6 ω id : Nat) : Int) - 1)) id) (by rw [if_neg hnil]) (by rw [if_pos om])
  refine .bigPut (f := TS) (m := m) sp (pb, BX l id) Y O (.tbFold hI2 O Y (Ls (y' := (pb, BX l id)) hb Y).symm Y ?_)
  exact .vv
 refine .skip (.done_n ?_)
 have hnil : ¬ BX l id = [] := by intro e; apply h20; rw [e]; rfl
 have hI2 := hI.gone hm hb (m' := BR m sp (pb, BX l id)) (n' := BR q id (((B6 ω id : Nat) : Int) - 1)) (by rw [if_neg hnil]) (by rw [if_neg om])
 refine .bigPut (f := TS) (m := m) sp (pb, BX l id) Y O (.tbFold hI2 O Y (Ls (y' := (pb, BX l id)) hb Y).symm Y ?_)
 exact .vv
theorem G.tbCast {W : World} {n : Nat} {ds : List Deferred} {E : B0} {L R : List HP} {X : Act → World → Prop} {t : Nat} {ω ω' : List Wt} (hL : BI (K7 t ω) L R) (hw : ω' = ω) (h : G W n ds E (K7 t ω' :: R) X) : G W n ds E L X := by
 subst hw; exact G.focus hL h
theorem Sd (t : Nat) (ω : List Wt) (s : Int) (hlen : ω.length ≤ 1048576) : Fn prog 44 #[AI t, AA s] [K7 t ω] fun v L => v = .tuple #[] ∧ L = [K7 t (OZ ω s)] := by
 refine Fn.intro func44 Y Y fun F W => ?_
 refine .tbOpen (ω := ω) O fun rb rm m q hI => ?_
 have hnd := hI.keys
 refine .sr (.an Y (.seq (.seq (.add (AN 155 2) (.region (.m Y (.nf Y Cw (.u (.ld Y Eg) (.oq (.range (f := fun x : EX × (Nat × List (Int × Int)) => (LO x.1, Pu x.2)) (m := m) Y underlying114 ?he6) ?_)))))))))
 case he6 => rfl
 rintro v L' ⟨it, rfl, rfl⟩
 refine .nt (.block (.loopK (ι := By × Value × (List EX)) (fun q E => (4, q.2.1) :: E) (fun q => [Es (fun x : EX × (Nat × List (Int × Int)) => (LO x.1, Pu x.2)) it rb m q.1, Ah TS m, Ad 155 2 q.2.1 q.2.2.length (q.2.2.flatMap N4)]) (fun q => q.2.2 = (q.1.filter (NX s)).map (·.1) ∧ (∃ rest, m.Perm (q.1 ++ rest)) ∧ ∃ a c, q.2.1 = .slice a q.2.2.length c) (fun q => m.length - q.1.length) (([], .slice none 0 0, [])) (ts := [0, 1, 13]) O (⟨Y, ⟨m, .refl _⟩, none, 0, Y⟩) O O ?_))
 rintro ⟨ss, u, acc⟩ ⟨hacc, ⟨rest, hm⟩, au, cu, hu⟩
 dsimp only
 dsimp only at hacc hm hu
 subst hu
 have hml := hm.length_eq
 rw [length_append] at hml
 obtain ⟨hafew, hanod⟩ := ZB hI hm s
 rw [← hacc] at hafew hanod
 refine .sr (.oq (.next Y) ?_)
 rintro v L' (⟨rfl, hp2, rfl⟩ | ⟨x, rest2, rfl, hp2, rfl⟩)
 ·refine .rangeDone O (.tbFold hI O Y Y Y ?_)
  have hacc2 : ∀ sp, (s, sp) ∈ ω ↔ sp ∈ acc := fun sp => by rw [UL hI, hacc]; exact ((hp2.filter _).map _).mem_iff
  refine .ex Y Y (.nt (.seq (.condF Y (.xe (.sm Y (.q (.slen Y underlying158 Y) Y (.m Y (.nt (.block (.tbCast (ω' := Hd ω s (acc.take 0)) O (by rw [take_zero, Vq]) (.loopK (ι := Nat) (fun q E => (29, AA q) :: E) (fun q => [K7 t (Hd ω s (acc.take q))]) (fun q => q ≤ acc.length) (fun q => acc.length - q) (0) (ts := [0, 1, 27, 28]) O (Nat.zero_le _) O O ?_)))))))))))
  rintro i hi
  refine .sr (.ui Y Y Y (.nt (.seq (.condD Y (fun h30 => ?_) (fun h30 => ?_)))))
  ·have hi2 : i < acc.length := by omega
   refine .slShape (v := .slice au _ cu) O om fun b4 c4' e m4 _ => ?_
   simp only [Value.slice.injEq, true_and] at e
   obtain ⟨rfl, rfl⟩ := e
   have hnot : acc[i] ∉ acc.take i := KD hanod hi2
   refine .sk (.seq (.block (.sr (.q (.indexAddr Y Y SJ om) Y (.q (.loadRdA (sz := 2) (j := i * 2) (k := 2) (p := Ad 155 2 _ acc.length (acc.flatMap N4)) (vs := [AA acc[i].1, AD acc[i].2]) Y Df O (fun h hp => AZ hp) (by simp) om om (A3 (f := N4) (sz := 2) (fun _ _ => Y) hi2)) Y (.oq (.allocA FT) ?_))))))
   rintro v L' ⟨b8, rfl, rfl⟩
   refine .sa Y Y Kz (by (first | (simp [AB]; done) | (simp [AB, AW, Value.cells]; done))) ?_
   refine .nil (.ptCast (b := b8) (l' := [AA acc[i].1, AD acc[i].2]) O Y ?_)
   refine .then_n (.region (.m Y (.q (.loadAs (vs := [AA acc[i].1, AD acc[i].2]) Y Df O (by simp) Y) Y (.m Y (.cv func74 [_, _, _] (MJ t (Hd ω s (acc.take i)) acc[i] s (U7 ((hacc2 _).2 (getElem_mem hi2)) hnot)) ?_)))))
   refine .nil (.blk_n (.then_n (.region (.q (.add Y Y om) Y (.m Y (.nt ?_))))))
   rw [S6, ← take_succ_eq_append_getElem hi2]
   exact .rk (i + 1) om om O
  have hii : i = acc.length := by omega
  rw [hii, take_length, Uy (fun sp h => (hacc2 sp).1 h)]
  refine .exit (.then_e (.then_e (.blk_e (.done_n ?_))))
  exact .vv
 refine .ex Y Y (.nt (.seq (.condT Y (.sk (.block (.sr (.q (.entryE (v := .tuple #[LO x.1, Pu x.2]) Y O Y) Y (.ex Y Y (.ex Y Y (.oq (.allocA FT) ?_))))))))))
 rintro v L' ⟨bs5, rfl, rfl⟩
 refine .sa Y Y Kz (by (first | (simp [AB]; done) | (simp [AB, AW, Value.cells]; done))) ?_
 refine .a Y (.nil (.ptCast (b := bs5) (l' := [AA x.1.1, AD x.1.2]) O Y ?_))
 have hxm : x ∈ m := hp2.mem_iff.2 (by simp)
 have hxb : AE m x.1 = some x.2 := CR hnd hxm
 refine .bigTake hxb O (.then_n (.sm Y (.m Y (.q (.lookupV (m := x.2.2) (enc := LU) (v := AA (if s ∈ x.2.2.map (·.1) then s else 0)) (AX.int underlying3) (fun b hb => by rw [if_pos (C9.1 (by rw [hb]; rfl))]; exact congrArg AA ((hI.inn _ _ hxb).2.2 _ (EG hb))) (fun h0 => by rw [if_neg (Ej.1 h0)]) rfl rfl underlying115 F6 O rfl) rfl (.ui rfl rfl rfl (.nt (.condN rfl (fun h22 => ?_) (fun h22 => ?_))))))))
 ·have hin : s ∈ x.2.2.map (·.1) := Decidable.byContradiction fun e => by rw [if_neg e] at h22; exact h22 rfl
  refine .region (.m Y (.q (.loadAs (vs := [AA x.1.1, AD x.1.2]) Y Df O (by simp) Y) Y (.oq (.buildSlice (vs := [_]) SJ FT Y Y Y Y cQ dQ) ?_)))
  rintro v L' ⟨b5_2, rfl, rfl⟩
  refine .oq (.append1 Y Y Y SJ FT Y Y ?c50 ?c51 (Nat.le_refl _) ?c52 dQ) ?_
  case c50 => (first | (simp [AB]; done) | (simp [AB, AW, Value.cells]; done))
  case c51 => rfl
  case c52 => omega
  rintro v L' ⟨⟨a5_3, c5_3, rfl⟩, rfl⟩
  refine .a Y (.nil (.blk_n (.then_n ?_)))
  have hl := hp2.length_eq
  simp at hl
  refine .bigPut (f := TS) (m := m) x.1 x.2 (p := mapR x.2.1 (RD x.2.2)) Y O ?_
  rw [Ch hxb]
  rw [show acc.flatMap N4 ++ (List.map (fun v => v.cells.toList) [Value.agg #[AA x.1.1, AD x.1.2]]).flatten = (acc ++ [x.1]).flatMap N4 by simp [N4, Value.cells], show acc.length + 1 = (acc ++ [x.1]).length by simp]
  exact .rk ((ss ++ [x], .slice a5_3 (acc ++ [x.1]).length c5_3, acc ++ [x.1])) (⟨by dsimp only; rw [hacc, filter_append]; simp [NX, hin], ⟨_, by simpa using hp2⟩, _, _, rfl⟩) (by dsimp only; simp; omega) O
 have hin : ¬ s ∈ x.2.2.map (·.1) := fun e => by rw [if_pos e] at h22; have := (hI.fit (s, x.1) ((hI.mem _ _).2 ⟨_, hxb, e⟩)).1; dsimp only at this; omega
 refine .skip (.blk_n (.then_n ?_))
 have hl := hp2.length_eq
 simp at hl
 refine .bigPut (f := TS) (m := m) x.1 x.2 (p := mapR x.2.1 (RD x.2.2)) Y O ?_
 rw [Ch hxb]
 exact .rk ((ss ++ [x], _, acc)) (⟨by dsimp only; rw [hacc, filter_append]; simp [NX, hin], ⟨_, by simpa using hp2⟩, _, _, rfl⟩) (by dsimp only; simp; omega) O
theorem QW (ω : List Wt) (sp : EX) (x : Int) : (x, sp) ∈ ω ↔ x ∈ (ω.filter fun w => decide (w.2 = sp)).map (·.1) := by
 constructor
 ·intro h; exact mem_map.2 ⟨(x, sp), mem_filter.2 ⟨h, by simp⟩, rfl⟩
 ·intro h
  obtain ⟨w, hw, rfl⟩ := mem_map.1 h
  obtain ⟨h1, h2⟩ := mem_filter.1 hw
  have h2 : w.2 = sp := by simpa using h2
  rw [← h2]; exact h1
theorem MW {ω : List Wt} {m : By} {n : List (Int × Int)} (h : Ps ω m n) {sp : EX} : ((ω.filter fun w => decide (w.2 = sp)).map (·.1)).Nodup := by
 refine pairwise_map.2 (List.Pairwise.imp_of_mem ?_ (h.nod.filter _))
 intro a b ha hb hne e
 apply hne
 have h1 := (mem_filter.1 ha).2
 have h2 := (mem_filter.1 hb).2
 simp at h1 h2
 obtain ⟨a1, a2⟩ := a; obtain ⟨b1, b2⟩ := b
 dsimp only at *
 rw [e, h1, h2]
theorem TE (t : Nat) (ω : List Wt) (va : Value) (es : List Ev) (p : HP) (hp : ∀ h : Hp, p h → Cx 3 h va es.length (es.flatMap BU)) (hl : ω.length ≤ 1048576) (hel : es.length ≤ 3145728) : Fn prog 43 #[AI t, va] [K7 t ω, p] fun v L => ∃ a c, v = .slice a (BQ ω es).2.length c ∧ L = [K7 t (BQ ω es).1, p, Ad 127 4 v (BQ ω es).2.length ((BQ ω es).2.flatMap Kv)] := by
 refine Fn.intro func43 Y Y fun F W => ?_
 refine .rdAny (p := p) hp O fun aa ca e0 _ => ?_
 subst e0
 refine .sr (.an Y (.seq (.add (AN 127 4) (.region (.an Y (.seq (.sm Y (.q (.slen Y underlying47 Y) Y (.m Y (.nt (.block (.tbCast (ω' := (AY ω es 0).1) O Y (.loopK (ι := Nat × Value) (fun q E => (20, AA q.1) :: (5, q.2) :: E) (fun q => [K7 t (AY ω es q.1).1, Ad 127 4 q.2 (AY ω es q.1).2.length ((AY ω es q.1).2.flatMap Kv)]) (fun q => q.1 ≤ es.length ∧ ∃ a c, q.2 = .slice a (AY ω es q.1).2.length c) (fun q => es.length - q.1) (0, .slice none 0 0) (ts := [0, 4, 18, 19]) O (⟨Nat.zero_le _, none, 0, Y⟩) O O ?_)))))))))))))
 rintro ⟨i, u⟩ ⟨hi, au, cu, hu⟩
 dsimp only
 dsimp only at hi hu
 subst hu
 obtain ⟨hwl, hol⟩ := Ml ω es i
 have hol2 : i * ω.length ≤ 3145728 * 1048576 := Nat.mul_le_mul om hl
 refine .sr (.ui Y Y Y (.nt (.seq (.condD Y (fun h21 => ?_) (fun h21 => ?_)))))
 ·have hi2 : i < es.length := by omega
  refine .rdShape (p := p) hp O om fun ba oa e0 => ?_
  subst e0
  have hes : es.getD i (0, ([], 0)) = es[i] := by simp [hi2]
  have hat : ((es.flatMap BU).drop (i * 3)).take 3 = BU es[i] := A3 (f := BU) (sz := 3) (fun _ _ => rfl) hi2
  generalize es[i] = e at hes hat
  have hat : ((es.flatMap BU).drop (i * 3)).take 3 = [AA e.1, AD e.2.1, AA e.2.2] := hat
  have hkn := RK e.1
  have hkl := U1 e.1
  refine .sk (.seq (.block (.sr (.q (.indexAddr Y Y DJ om) Y (.q (.loadRdA (sz := 3) (j := i * 3) (k := 3) (p := p) (vs := [AA e.1, AD e.2.1, AA e.2.2]) Y EW O hp (by simp) om om hat) Y (.oq (.allocA Bu) ?_))))))
  rintro v L' ⟨be, rfl, rfl⟩
  refine .sa Y Y Iu (by (first | (simp [AB]; done) | (simp [AB, AW, Value.cells]; done))) ?_
  refine .nil (.ptCast (b := be) (l' := [AA e.1, AD e.2.1, AA e.2.2]) O Y ?_)
  refine .then_n (.seq (.add (AN 3 1) (.region (.an Y (.seq (.sr (.fa Y HZ (.u (.ld Y AR) (.oq (.c func73 [_] (QY e.1)) ?_)))))))))
  rintro v L' ⟨⟨ak, ck, rfl⟩, rfl⟩
  refine .q (.slen Y underlying86 Y) Y (.m Y (.nt (.block (.tbCast (ω' := EI (AY ω es i).1 e.2.1 ((Aq e.1).take 0)) O (by rw [take_zero, YQ]) (.loopK (ι := Nat × Value × (List Int)) (fun q E => (28, AA q.1) :: (8, q.2.1) :: E) (fun q => [K7 t (EI (AY ω es i).1 e.2.1 ((Aq e.1).take q.1)), Ad 3 1 q.2.1 q.2.2.length (Du q.2.2)]) (fun q => q.1 ≤ (Aq e.1).length ∧ q.2.2.Perm (O9 (AY ω es i).1 e.2.1 ((Aq e.1).take q.1)) ∧ ∃ a c, q.2.1 = .slice a q.2.2.length c) (fun q => (Aq e.1).length - q.1) (0, .slice none 0 0, []) (ts := [0, 4, 5, 7, 18, 19, 20, 21, 22, 23, 24, 25, 26, 27]) O (⟨Nat.zero_le _, by dsimp only; rw [take_zero]; simp [O9], none, 0, rfl⟩) O O ?_)))))
  rintro ⟨j, w, who⟩ ⟨hj, hwho, aw, cw, hw⟩
  dsimp only
  dsimp only at hj hwho hw
  subst hw
  have hwhl := hwho.length_eq
  have hwhl2 := AAX (AY ω es i).1 e.2.1 ((Aq e.1).take j)
  refine .sr (.ui Y Y Y (.nt (.seq (.condD Y (fun h29 => ?_) (fun h29 => ?_)))))
  ·have hj2 : j < (Aq e.1).length := by omega
   refine .slShape (v := .slice ak _ ck) O om fun bk ck' e0 mk _ => ?_
   simp only [Value.slice.injEq, true_and] at e0
   obtain ⟨rfl, rfl⟩ := e0
   refine .sk (.seq (.block (.sr (.q (.indexAddr Y Y GQ om) Y (.q (.loadSl (v := AA (Aq e.1)[j]) (i := j * 1) Y AR O (by simp [hj2])) Y (.an Y (.sm Y (.fa Y Ze (.u (.ld Y Ag) (.q (.build (us := [(0, _), (1, _)]) PX FT Y Y (by simp [AB])) Y (.oq (.allocA FT) ?_)))))))))))
   rintro v L' ⟨bs, rfl, rfl⟩
   refine .sa Y Y Kz (by (first | (simp [AB]; done) | (simp [AB, AW, Value.cells]; done))) ?_
   refine .nil (.ptCast (b := bs) (l' := [AA (Aq e.1)[j], AD e.2.1]) O Y ?_)
   refine .then_n (.seq (.add (AN 3 1) (.tbOpen (ω := (EI (AY ω es i).1 e.2.1 ((Aq e.1).take j))) O fun rb rm m q hI => (.region ?_))))
   rcases hal : AE m ((Aq e.1)[j], e.2.1) with _ | ⟨pb, l⟩
   ·refine .an Y (.seq (.seq (.draw [6] [[0, 1, 2, 3, 4, 5, 6]] mixed kQ (.g0 (.mv Y Y (.nf Y Y Y Cw (.kv Y (.ld Y Eg) (.kv Y (.loadAs (vs := [AA (Aq e.1)[j], AD e.2.1]) Y Df O (by simp) Y) (.kv Y (.lookupN (m := m) (enc := Pu) G5 (hal) Y Y underlying114 GC O Y) (.hh Y (.rangeNil Y underlying115) ?_))))))))))
    rintro v L' ⟨it, rfl, rfl⟩
    refine D.pf (.block (.loopK (ι := Unit) (fun q E => (12, .slice none 0 0) :: E) (fun q => [AAE it]) (fun q => True) (fun q => 0) (()) (ts := [0, 4, 5, 7, 8, 10, 11, 18, 19, 20, 21, 22, 23, 24, 25, 26, 27, 28, 29, 30, 31, 32, 33, 34, 35, 36, 37, 38, 39, 40, 41, 42]) O (trivial) O O ?_))
    rintro u0 -
    refine .sr (.oq (.nextNil Y) ?_)
    rintro v L' ⟨rfl, rfl⟩
    refine .ex Y Y (.nt (.seq (.condF Y (.xe (.seq (.seq (.tbFold hI O Y Y Y ?_)))))))
    have hids : ([] : List Int).Perm (((EI (AY ω es i).1 e.2.1 ((Aq e.1).take j)).filter fun w => decide (w.2 = ((Aq e.1)[j], e.2.1))).map (·.1)) := by rw [Vh hI hal]; exact .refl _
    have hand : ([] : List Int).Nodup := hids.nodup_iff.2 (MW hI)
    have hamem : ∀ x, (x, ((Aq e.1)[j], e.2.1)) ∈ (EI (AY ω es i).1 e.2.1 ((Aq e.1).take j)) ↔ x ∈ ([] : List Int) := fun x => (QW _ _ _).trans hids.mem_iff.symm
    have halen : ([] : List Int).length ≤ 1048576 := by have h1 := hids.length_eq; have h2 := length_filter_le (fun w : Wt => decide (w.2 = ((Aq e.1)[j], e.2.1))) (EI (AY ω es i).1 e.2.1 ((Aq e.1).take j)); rw [length_map] at h1; have h3 : (EI (AY ω es i).1 e.2.1 ((Aq e.1).take j)).length ≤ (AY ω es i).1.length := length_filter_le _ _; omega
    refine .tbCast (ω' := GK (EI (AY ω es i).1 e.2.1 ((Aq e.1).take j)) ((Aq e.1)[j], e.2.1) (([] : List Int).take 0)) O (by rw [take_zero, Nv]) (.region (.m Y (.q (.slen Y underlying86 Y) Y (.m Y (.nt (.block (.loopK (ι := Nat) (fun q E => (53, AA q) :: E) (fun q => [K7 t (GK (EI (AY ω es i).1 e.2.1 ((Aq e.1).take j)) ((Aq e.1)[j], e.2.1) (([] : List Int).take q))]) (fun q => q ≤ ([] : List Int).length) (fun q => ([] : List Int).length - q) (0) (ts := [0, 4, 5, 7, 8, 10, 11, 12, 18, 19, 20, 21, 22, 23, 24, 25, 26, 27, 28, 29, 30, 31, 32, 33, 34, 35, 36, 37, 38, 39, 40, 41, 42, 43, 44, 51, 52]) O (Nat.zero_le _) O O ?_)))))))
    rintro i2 hi2b
    refine .sr (.ui Y Y Y (.nt (.seq (.condD Y (fun h54 => ?_) (fun h54 => ?_)))))
    ·exfalso; simp at h54; omega
    have hii : i2 = ([] : List Int).length := by simp at hi2b ⊢; omega
    rw [hii, take_length, OE (fun x hx => (hamem x).1 hx), ← take_succ_eq_append_getElem hj2]
    refine .xe (.region (.m Y (.m Y (.oq (.append (n := who.length) (m := ([] : List Int).length) (ys := Du ([] : List Int)) (p := Ad 3 1 (.slice none 0 0) ([] : List Int).length (Du ([] : List Int))) Y Y Y GQ (.inl ⟨_, underlying86⟩) F6 Y Y ?hc54 ?hr55 ?hb56 dQ) ?_))))
    case hc54 => intro y hy; obtain ⟨c, -, rfl⟩ := mem_map.1 hy; rfl
    case hr55 => exact fun h hp => AZ hp
    case hb56 => omega
    rintro v L' ⟨⟨a20, c20, rfl⟩, rfl⟩
    refine .a Y (.nil (.blk_n (.then_n (.region (.q (.add Y Y om) Y (.m Y (.nt ?_)))))))
    rw [show Du who ++ Du ([] : List Int) = Du (who ++ ([] : List Int)) by simp [Du], show who.length + ([] : List Int).length = (who ++ ([] : List Int)).length by simp]
    exact .rk ((j + 1, .slice a20 (who ++ ([] : List Int)).length c20, who ++ ([] : List Int))) (⟨by dsimp only; omega, by dsimp only; rw [take_succ_eq_append_getElem hj2]; exact (hwho.append hids).trans (OO _ _ (KD hkn hj2)).symm, _, _, rfl⟩) (by dsimp only; omega) O
   refine .bigTake hal O (.an Y (.seq (.seq (.draw [6] [[0, 1, 2, 3, 4, 5, 6]] mixed kQ (.g0 (.mv Y Y (.nf Y Y Y Cw (.kv Y (.ld Y Eg) (.kv Y (.loadAs (vs := [AA (Aq e.1)[j], AD e.2.1]) Y Df O (by simp) Y) (.kv Y (.lookupY (m := m) (enc := Pu) G5 (hal) Y Y underlying114 GC O Y) (.hh Y (.range (f := fun x : Int × Int => (AA x.1, LU x.2)) (m := l) Y underlying115 ?he67) ?_)))))))))))
   case he67 => rfl
   rintro v L' ⟨it, rfl, rfl⟩
   refine D.pf (.block (.loopK (ι := (List (Int × Int)) × Value × (List Int)) (fun q E => (12, q.2.1) :: E) (fun q => [Es (fun x : Int × Int => (AA x.1, LU x.2)) it pb l q.1, Ad 3 1 q.2.1 q.2.2.length (Du q.2.2)]) (fun q => q.2.2 = q.1.map (·.1) ∧ (∃ rest, l.Perm (q.1 ++ rest)) ∧ ∃ a c, q.2.1 = .slice a q.2.2.length c) (fun q => l.length - q.1.length) ([], .slice none 0 0, []) (ts := [0, 4, 5, 7, 8, 10, 11, 18, 19, 20, 21, 22, 23, 24, 25, 26, 27, 28, 29, 30, 31, 32, 33, 34, 35, 36, 37, 38, 39, 40, 41, 42]) O (⟨Y, ⟨l, .refl _⟩, none, 0, Y⟩) O O ?_))
   rintro ⟨s, w2, acc⟩ ⟨hacc, ⟨rest, hl⟩, av, cv, hw2⟩
   dsimp only
   dsimp only at hacc hl hw2
   subst hw2
   have hll := hl.length_eq
   rw [length_append] at hll
   have hal2 : acc.length = s.length := by rw [hacc, length_map]
   refine .sr (.oq (.next Y) ?_)
   rintro v L' (⟨rfl, hp12, rfl⟩ | ⟨z, rest12, rfl, hp12, rfl⟩)
   ·refine .rangeDone O (.bigPut (f := TS) (m := m) ((Aq e.1)[j], e.2.1) (pb, l) (p := mapR pb (RD l)) Y O ?_)
    rw [Ch hal]
    refine .tbFold hI O Y Y Y ?_
    have hids : acc.Perm (((EI (AY ω es i).1 e.2.1 ((Aq e.1).take j)).filter fun w => decide (w.2 = ((Aq e.1)[j], e.2.1))).map (·.1)) := by rw [hacc]; exact (hp12.symm.map _).trans (Qe hI hal)
    refine .ex Y Y (.nt (.seq (.condF Y (.xe (.seq (.seq ?_))))))
    have hand : acc.Nodup := hids.nodup_iff.2 (MW hI)
    have hamem : ∀ x, (x, ((Aq e.1)[j], e.2.1)) ∈ (EI (AY ω es i).1 e.2.1 ((Aq e.1).take j)) ↔ x ∈ acc := fun x => (QW _ _ _).trans hids.mem_iff.symm
    have halen : acc.length ≤ 1048576 := by have h1 := hids.length_eq; have h2 := length_filter_le (fun w : Wt => decide (w.2 = ((Aq e.1)[j], e.2.1))) (EI (AY ω es i).1 e.2.1 ((Aq e.1).take j)); rw [length_map] at h1; have h3 : (EI (AY ω es i).1 e.2.1 ((Aq e.1).take j)).length ≤ (AY ω es i).1.length := length_filter_le _ _; omega
    refine .tbCast (ω' := GK (EI (AY ω es i).1 e.2.1 ((Aq e.1).take j)) ((Aq e.1)[j], e.2.1) (acc.take 0)) O (by rw [take_zero, Nv]) (.region (.m Y (.q (.slen Y underlying86 Y) Y (.m Y (.nt (.block (.loopK (ι := Nat) (fun q E => (53, AA q) :: E) (fun q => [K7 t (GK (EI (AY ω es i).1 e.2.1 ((Aq e.1).take j)) ((Aq e.1)[j], e.2.1) (acc.take q))]) (fun q => q ≤ acc.length) (fun q => acc.length - q) (0) (ts := [0, 4, 5, 7, 8, 10, 11, 12, 18, 19, 20, 21, 22, 23, 24, 25, 26, 27, 28, 29, 30, 31, 32, 33, 34, 35, 36, 37, 38, 39, 40, 41, 42, 43, 44, 51, 52]) O (Nat.zero_le _) O O ?_)))))))
    rintro i2 hi2b
    refine .sr (.ui Y Y Y (.nt (.seq (.condD Y (fun h54 => ?_) (fun h54 => ?_)))))
    ·have hi3 : i2 < acc.length := by omega
     refine .slShape (v := .slice av _ cv) O om fun bl cl' e0 ml _ => ?_
     simp only [Value.slice.injEq, true_and] at e0
     obtain ⟨rfl, rfl⟩ := e0
     refine .sk (.seq (.block (.sr (.q (.indexAddr Y Y GQ om) Y (.q (.loadSl (v := AA acc[i2]) (i := i2 * 1) Y AR O (by simp [hi3])) Y (.an Y (.region (.m Y (.q (.loadAs (vs := [AA (Aq e.1)[j], AD e.2.1]) Y Df O (by simp) Y) Y (.m Y (.cv func74 [_, _, _] (MJ t (GK (EI (AY ω es i).1 e.2.1 ((Aq e.1).take j)) ((Aq e.1)[j], e.2.1) (acc.take i2)) ((Aq e.1)[j], e.2.1) acc[i2] (VT ((hamem _).2 (getElem_mem hi3)) (KD hand hi3))) ?_)))))))))))
     refine .nil (.blk_n (.then_n (.region (.q (.add Y Y om) Y (.m Y (.nt ?_))))))
     rw [SW, ← take_succ_eq_append_getElem hi3]
     exact .rk (i2 + 1) om om O
    have hii : i2 = acc.length := by omega
    rw [hii, take_length, OE (fun x hx => (hamem x).1 hx), ← take_succ_eq_append_getElem hj2]
    refine .xe (.region (.m Y (.m Y (.oq (.append (n := who.length) (m := acc.length) (ys := Du acc) (p := Ad 3 1 (.slice av acc.length cv) acc.length (Du acc)) Y Y Y GQ (.inl ⟨_, underlying86⟩) F6 Y Y ?hc86 ?hr87 ?hb88 dQ) ?_))))
    case hc86 => intro y hy; obtain ⟨c, -, rfl⟩ := mem_map.1 hy; rfl
    case hr87 => exact fun h hp => AZ hp
    case hb88 => omega
    rintro v L' ⟨⟨a20, c20, rfl⟩, rfl⟩
    refine .a Y (.nil (.blk_n (.then_n (.region (.q (.add Y Y om) Y (.m Y (.nt ?_)))))))
    rw [show Du who ++ Du acc = Du (who ++ acc) by simp [Du], show who.length + acc.length = (who ++ acc).length by simp]
    exact .rk ((j + 1, .slice a20 (who ++ acc).length c20, who ++ acc)) (⟨by dsimp only; omega, by dsimp only; rw [take_succ_eq_append_getElem hj2]; exact (hwho.append hids).trans (OO _ _ (KD hkn hj2)).symm, _, _, rfl⟩) (by dsimp only; omega) O
   have hzl : l.length ≤ 1048576 := by have h1 := (Qe hI hal).length_eq; dsimp only at h1; rw [length_map, length_map] at h1; have h2 := length_filter_le (fun w : Wt => decide (w.2 = ((Aq e.1)[j], e.2.1))) (EI (AY ω es i).1 e.2.1 ((Aq e.1).take j)); have h3 : (EI (AY ω es i).1 e.2.1 ((Aq e.1).take j)).length ≤ (AY ω es i).1.length := length_filter_le _ _; omega
   refine .ex Y Y (.nt (.seq (.condT Y (.sk (.block (.sr (.q (.entryE (v := .tuple #[AA z.1, LU z.2]) Y O Y) Y (.ex Y Y (.an Y (.region (.m Y (.m Y (.oq (.buildSlice1 (vs := [_]) GQ F6 Y Y Y Y Y dQ) ?_)))))))))))))
   rintro v L' ⟨b14_2, rfl, rfl⟩
   refine .oq (.append1 Y Y Y GQ F6 Y Y ?c99 ?c100 (Nat.le_refl _) ?c101 dQ) ?_
   case c99 => (first | (simp [AB]; done) | (simp [AB, AW, Value.cells]; done))
   case c100 => rfl
   case c101 => omega
   rintro v L' ⟨⟨a14_3, c14_3, rfl⟩, rfl⟩
   refine .a Y (.nil (.blk_n (.then_n ?_)))
   have hl2 := hp12.length_eq
   simp at hl2
   rw [show Du acc ++ [AA z.1] = Du (acc ++ [z.1]) by simp [Du], show acc.length + 1 = (acc ++ [z.1]).length by simp]
   exact .rk ((s ++ [z], .slice a14_3 (acc ++ [z.1]).length c14_3, acc ++ [z.1])) (⟨by dsimp only; simp [hacc], ⟨_, by simpa using hp12⟩, _, _, rfl⟩) (by dsimp only; simp; omega) O
  have hjj : j = (Aq e.1).length := by omega
  rw [hjj, take_length, ZH]
  rw [hjj, take_length, Z7] at hwho
  have htw : GP (C2 who) = (Cq (AY ω es i).1 e.1 e.2.1) := by unfold Cq; rw [Nc hwho]
  have htl := QB (AY ω es i).1 e.1 e.2.1
  refine .xe (.sm Y (.oq (.call func70 Y Y (vs := [_]) Y (Sn _ who.length who om)) ?_))
  rintro v L' ⟨rfl, rfl⟩
  refine .nt (.sm Y (.oq (.call func75 Y Y (vs := [_]) Y (S1 _ who.length (C2 who) om)) ?_))
  rintro v L' ⟨⟨ac, cc, rfl⟩, rfl⟩; rw [htw]
  refine .q (.slen Y underlying86 Y) Y (.m Y (.nt (.block (.slCast (T := 127) (sz := 4) (m' := ((AY ω es i).2 ++ ((Cq (AY ω es i).1 e.1 e.2.1).take 0).map fun x => (x, e)).length) (xs' := ((AY ω es i).2 ++ ((Cq (AY ω es i).1 e.1 e.2.1).take 0).map fun x => (x, e)).flatMap Kv) O (by simp) (by simp) (.loopK (ι := Nat × Value) (fun q E => (71, AA q.1) :: (5, q.2) :: E) (fun q => [Ad 127 4 q.2 ((AY ω es i).2 ++ ((Cq (AY ω es i).1 e.1 e.2.1).take q.1).map fun x => (x, e)).length (((AY ω es i).2 ++ ((Cq (AY ω es i).1 e.1 e.2.1).take q.1).map fun x => (x, e)).flatMap Kv)]) (fun q => q.1 ≤ (Cq (AY ω es i).1 e.1 e.2.1).length ∧ ∃ a c, q.2 = .slice a ((AY ω es i).2 ++ ((Cq (AY ω es i).1 e.1 e.2.1).take q.1).map fun x => (x, e)).length c) (fun q => (Cq (AY ω es i).1 e.1 e.2.1).length - q.1) (0, .slice au (AY ω es i).2.length cu) (ts := [0, 4, 7, 8, 18, 19, 20, 21, 22, 23, 24, 25, 26, 27, 28, 29, 66, 68, 69, 70]) O (⟨Nat.zero_le _, au, cu, by simp⟩) O O ?_)))))
  rintro ⟨k, u2⟩ ⟨hk, au2, cu2, hu2⟩
  dsimp only
  dsimp only at hk hu2
  subst hu2
  have hoal : ((AY ω es i).2 ++ ((Cq (AY ω es i).1 e.1 e.2.1).take k).map fun x => (x, e)).length = (AY ω es i).2.length + k := by rw [length_append, length_map, length_take]; omega
  refine .sr (.ui Y Y Y (.nt (.seq (.condD Y (fun h72 => ?_) (fun h72 => ?_)))))
  ·have hk2 : k < (Cq (AY ω es i).1 e.1 e.2.1).length := by omega
   refine .slShape (v := .slice ac _ cc) O om fun bc cc' e0 mc _ => ?_
   simp only [Value.slice.injEq, true_and] at e0
   obtain ⟨rfl, rfl⟩ := e0
   refine .sk (.seq (.block (.sr (.q (.indexAddr Y Y GQ om) Y (.q (.loadSl (v := AA (Cq (AY ω es i).1 e.1 e.2.1)[k]) (i := k * 1) Y AR O (by simp [hk2])) Y (.an Y (.region (.m Y (.m Y (.q (.loadAs (vs := [AA e.1, AD e.2.1, AA e.2.2]) Y EW O (by simp) Y) Y (.q (.buildN (pl := [(0, 1), (1, 3)]) (us := [(0, AA (Cq (AY ω es i).1 e.1 e.2.1)[k]), (1, .agg ([AA e.1, AD e.2.1, AA e.2.2] : List Value).toArray)]) (cells := [AA (Cq (AY ω es i).1 e.1 e.2.1)[k], AA e.1, AD e.2.1, AA e.2.2]) underlying127 kQ O6 Y Y) Y (.oq (.buildSlice (vs := [_]) TI O6 Y Y Y Y cQ dQ) ?_))))))))))))
   rintro v L' ⟨b26_4, rfl, rfl⟩
   refine .oq (.append1 Y Y Y TI O6 Y Y ?c120 ?c121 (Nat.le_refl _) ?c122 dQ) ?_
   case c120 => (first | (simp [AB]; done) | (simp [AB, AW, Value.cells]; done))
   case c121 => rfl
   case c122 => omega
   rintro v L' ⟨⟨a26_5, c26_5, rfl⟩, rfl⟩
   refine .a Y (.nil (.blk_n (.then_n (.region (.q (.add Y Y om) Y (.m Y (.nt ?_)))))))
   have hstep : ((AY ω es i).2 ++ ((Cq (AY ω es i).1 e.1 e.2.1).take (k + 1)).map fun x => (x, e)) = ((AY ω es i).2 ++ ((Cq (AY ω es i).1 e.1 e.2.1).take k).map fun x => (x, e)) ++ [((Cq (AY ω es i).1 e.1 e.2.1)[k], e)] := by rw [take_succ_eq_append_getElem hk2, map_append, ← append_assoc]; rfl
   rw [show ((AY ω es i).2 ++ ((Cq (AY ω es i).1 e.1 e.2.1).take k).map fun x => (x, e)).flatMap Kv ++ (List.map (fun v => v.cells.toList) [Value.agg [AA (Cq (AY ω es i).1 e.1 e.2.1)[k], AA e.1, AD e.2.1, AA e.2.2].toArray]).flatten = ((AY ω es i).2 ++ ((Cq (AY ω es i).1 e.1 e.2.1).take (k + 1)).map fun x => (x, e)).flatMap Kv by rw [hstep]; simp [Kv, Value.cells], show ((AY ω es i).2 ++ ((Cq (AY ω es i).1 e.1 e.2.1).take k).map fun x => (x, e)).length + 1 = ((AY ω es i).2 ++ ((Cq (AY ω es i).1 e.1 e.2.1).take (k + 1)).map fun x => (x, e)).length by rw [hstep, length_append (bs := [_])]; rfl]
   exact .rk ((k + 1, .slice a26_5 ((AY ω es i).2 ++ ((Cq (AY ω es i).1 e.1 e.2.1).take (k + 1)).map fun x => (x, e)).length c26_5)) (⟨by dsimp only; omega, _, _, rfl⟩) (by dsimp only; omega) O
  have hkk : k = (Cq (AY ω es i).1 e.1 e.2.1).length := by omega
  rw [hkk, take_length]
  refine .tbCast (ω' := (AY ω es (i + 1)).1) O (by rw [E7 hes]) (.slCast (T := 127) (sz := 4) (m' := (AY ω es (i + 1)).2.length) (xs' := (AY ω es (i + 1)).2.flatMap Kv) O (by rw [E7 hes]) (by rw [E7 hes]) (.exit (.then_e (.then_e (.blk_e (.blk_n (.then_n (.region (.q (.add Y Y om) Y (.m Y (.nt ?_)))))))))))
  exact .rk ((i + 1, _)) (⟨by dsimp only; omega, _, _, by rw [E7 hes]⟩) (by dsimp only; omega) O
 have hii : i = es.length := by omega
 subst hii
 refine .xe (.sm Y (.an Y (.ret ?_)))
 exact .dn Y Y ⟨_, _, Y, Y⟩
abbrev G8 := Int × (Bs × (Int × (Int × Int)))
def Mo (a : G8) : List Value := [AA a.1, AD a.2.1, AA a.2.2.1, AA a.2.2.2.1, AA a.2.2.2.2]
structure UU (p : HP) (v : Value) (xs : List G8) : Prop where
 cells : ∀ h : Hp, p h → Cx 5 h v xs.length (xs.flatMap Mo)
 len : xs.length ≤ 1048576
 paths : ∀ a ∈ xs, a.2.1.length ≤ 1048576
/-! ### Structs compared -/
/-! ### The first example -/
/-! ### Gone -/
/-! ### Once -/
/-! ### Apart -/
def CG (τ : Tr) (a : G8) : Ev × Bool :=
 if a.1 = 2 then ((1, (a.2.1, (AU τ a.2.1).cz)), decide (AQ τ a.2.1))
 else if ¬ AQ τ a.2.1 ∨ (AU τ a.2.1).cz ≠ a.2.2.1 then ((2, (a.2.1, τ.zx)), true)
 else if a.1 = 3 then ((4, (a.2.1, (AU τ a.2.1).pz)), decide ((AU τ a.2.1).pz ≠ a.2.2.2.2))
 else ((3, (a.2.1, (AU τ a.2.1).mz)), decide ((AU τ a.2.1).mz ≠ a.2.2.2.1))
def JM (τ : Tr) (s : Int) (r : List Wt × List Ev) (a : G8) : List Wt × List Ev :=
 if ¬ Ii a.1 a.2.1 then r else if (CG τ a).2 = false then ((addW r.1 s a.1 a.2.1).1, r.2) else if (CG τ a).1 ∈ r.2 then r else (r.1, r.2 ++ [(CG τ a).1])
def Bi (τ : Tr) (s : Int) (ω : List Wt) (l : List G8) : List Wt × List Ev := l.foldl (JM τ s) (ω, [])
theorem Gf (τ : Tr) (s : Int) (ω : List Wt) {l : List G8} {i : Nat} (hi : i < l.length) : Bi τ s ω (l.take (i + 1)) = JM τ s (Bi τ s ω (l.take i)) l[i] := by
 unfold Bi; rw [take_succ_eq_append_getElem hi, foldl_append]; rfl
theorem XS (τ : Tr) (s : Int) (r : List Wt × List Ev) (a : G8) : (JM τ s r a).2.length ≤ r.2.length + 1 := by
 unfold JM
 split
 ·omega
 ·split
  ·show r.2.length ≤ _; omega
  ·split
   ·omega
   ·simp
theorem Js (τ : Tr) (s : Int) (ω : List Wt) (l : List G8) : ∀ i, i ≤ l.length → (Bi τ s ω (l.take i)).2.length ≤ i
 | 0, _ => by rw [take_zero]; exact Nat.le_refl _
 | i + 1, hi => by
  rw [Gf τ s ω om]
  have h1 := XS τ s (Bi τ s ω (l.take i)) l[i]
  have h2 := Js τ s ω l i om
  omega
theorem SG (xs : List Ev) (e : Ev) (v : Value) (h1 : xs.length ≤ 4611686018427387904) : Fn prog 180 #[v, .agg (BU e).toArray] [Ad 50 3 v xs.length (xs.flatMap BU)] fun r L => ∃ k : Int, r = AA k ∧ (0 ≤ k ↔ e ∈ xs) ∧ L = [Ad 50 3 v xs.length (xs.flatMap BU)] := by
 refine Fn.intro func180 Y Y fun F W => ?_
 refine .slAny (v := v) O fun aa ca e0 _ => ?_
 subst e0
 refine .sr (.oq (.box Y) ?_)
 rintro v L' ⟨b3, rfl, rfl⟩
 refine .a Y (.nil (.ptCast (b := b3) (l' := BU e) O Y ?_))
 refine .then_n (.seq (.sm Y (.q (.slen Y underlying47 Y) Y (.m Y (.nt (.block (.loopK (ι := Nat) (fun q E => (8, AA q) :: E) (fun q => []) (fun q => q ≤ xs.length ∧ e ∉ xs.take q) (fun q => xs.length - q) (0) (ts := [0, 3, 7]) O (⟨Nat.zero_le _, by simp⟩) O O ?_)))))))
 rintro i ⟨hi, hno⟩
 refine .sr (.ui Y Y Y (.nt (.seq (.condD Y (fun h9 => ?_) (fun h9 => ?_)))))
 ·have hi2 : i < xs.length := by omega
  refine .slShape (v := .slice aa _ ca) O om fun ba ba' e0 mba _ => ?_
  simp only [Value.slice.injEq, true_and] at e0
  obtain ⟨rfl, rfl⟩ := e0
  refine .sk (.seq (.block (.sm Y (.an Y (.seq (.draw [] [[0, 1, 2, 3, 4, 5]] mixed kQ (.g0 (.kv Y (.loadAs (vs := BU e) Y EW O (by simp [BU]) Y) (.mv Y Y (.mv Y Y (.kv Y (.indexAddr Y Y DJ om) (.kv Y (.loadRdA (sz := 3) (j := i * 3) (k := 3) (p := Ad 50 3 _ xs.length (xs.flatMap BU)) (vs := BU xs[i]) Y EW O (fun h hp => AZ hp) (by simp) om om (A3 (f := BU) (sz := 3) (fun _ _ => Y) om)) (.kv Y (.structEq (r := decide (e = xs[i])) Y Y kQ (ACM 9998 _ _)) (.pf (.condD Y (fun h16 => ?_) (fun h16 => ?_))))))))))))))))
  ·refine .sm Y (.an Y (.ret (.blk_r (.then_r (.then_r (.blk_r (.then_r ?_)))))))
   exact .dn Y Y ⟨i, Y, ⟨fun _ => by rw [h16]; exact getElem_mem hi2, fun _ => by omega⟩, rfl⟩
  refine .skip (.blk_n (.then_n (.region (.q (.add Y Y om) Y (.m Y (.nt ?_))))))
  exact .rk (i + 1) (⟨by omega, by rw [take_succ_eq_append_getElem hi2, mem_append, mem_singleton]; rintro (g | g); exact hno g; exact h16 g⟩) om O
 refine .xe (.sr (.an Y (.ret ?_)))
 exact .dn Y Y ⟨-1, Y, ⟨fun g => absurd g dQ, fun g => absurd g (by have hii : i = xs.length := om; rw [hii, take_length] at hno; exact hno)⟩, Y⟩
theorem Sb (xs : List Ev) (e : Ev) (v : Value) (h1 : xs.length ≤ 4611686018427387904) : Fn prog 100 #[v, .agg (BU e).toArray] [Ad 50 3 v xs.length (xs.flatMap BU)] fun r L => r = .bool (decide (e ∈ xs)) ∧ L = [Ad 50 3 v xs.length (xs.flatMap BU)] := by
 refine Fn.intro func100 Y Y fun F W => ?_
 refine .sr (.oq (.box Y) ?_)
 rintro v L' ⟨b3, rfl, rfl⟩
 refine .a Y (.nil (.ptCast (b := b3) (l' := BU e) O Y ?_))
 refine .then_n (.sm Y (.q (.loadAs (vs := BU e) Y EW O (by simp [BU]) Y) Y (.oq (.c func180 [_, _] (SG xs e v h1)) ?_)))
 rintro r L' ⟨k, rfl, hk, rfl⟩
 refine .ui Y Y Y (.an Y (.ret ?_))
 exact .dn Y Y ⟨congrArg Value.bool (decide_eq_decide.2 hk), Y⟩
theorem Pw (t : Nat) (τ : Tr) (a : G8) (N : Nat) (ho : τ.Ok N) (hN : N ≤ 1099511627776) : Fn prog 99 #[AI t, .agg (Mo a).toArray] [Aa t τ] fun v L => v = .tuple #[.agg (BU (CG τ a).1).toArray, .bool (CG τ a).2] ∧ L = [Aa t τ] := by
 refine Fn.intro func99 Y Y fun F W => ?_
 refine .sr (.oq (.box Y) ?_)
 rintro v L' ⟨b3, rfl, rfl⟩
 refine .oq (.allocA Bu) ?_
 rintro v L' ⟨b4, rfl, rfl⟩
 refine .a Y (.nil (.ptCast (b := b3) (l' := Mo a) O Y ?_))
 refine .then_n (.sr ?_)
 rcases Decidable.em (AQ τ a.2.1) with hth | hth
 ·refine .m Y (.fa Y Gy (.u (.ld Y Ag) (.oq (.c func76 [_, _] (BZ t τ a.2.1 N ho om)) ?_)))
  rintro v L' ⟨rfl, rfl⟩; rw [decide_eq_true hth]
  refine .m Y (.ex Y Y (.ex Y Y (.oq (.allocA DO) ?_)))
  rintro v L' ⟨b6, rfl, rfl⟩
  refine .sa Y Y DD (by simp [B7, AB]) ?_
  refine .a Y (.nil (.ptCast (b := b6) (l' := B7 (AU τ a.2.1)) O Y ?_))
  refine .then_n (.sr (.fa Y Gy (.u (.ld Y Ag) (.q (.to (v' := .agg (BU ((0, (a.2.1, 0)) : Ev)).toArray) (.build (us := [(1, _)]) Fc Bu Y Y (by simp [AB])) Y) Y (.oq (.allocA Bu) ?_)))))
  rintro v L' ⟨b8, rfl, rfl⟩
  refine .sa Y Y Iu (by simp [BU, AB]) ?_
  refine .nil (.ptCast (b := b8) (l' := [AA 0, AD a.2.1, AA 0]) O Y ?_)
  refine .then_n (.sr (.an Y (.seq (.block (.sr (.fa Y H7 (.u (.ld Y AR) (.ui Y Y Y (.an Y (.condD Y (fun h29 => ?_) (fun h29 => ?_)))))))))))
  ·refine .draw [4, 6] [[0, 1, 2, 3, 4, 5, 6], [7]] mixed kQ (.go [Ae b6 _ _] O (.k Y (.fieldAddr Y O0) (.k Y (.ld Y AR) (.k Y (.move Y) (.kv Y (.fieldAddr Y HZ) (.hh Y (.store Y Y Y CC ?c37 (Bf _ _)) ?_))))))
   case c37 => first | decide | (simp; omega) | simp
   rintro v L' rfl
   refine D.kv Y (.fieldAddr Y IR) (.hh Y (.store Y Y Y CC ?c41 (Bf _ _)) ?_)
   case c41 => first | decide | (simp; omega) | simp
   rintro v L' rfl
   refine D.ph (.g0 (.kv Y (.assign Y) (.ph (.fin (.blk_n (.then_n (.sr (.q (.loadA Y EW O (by simp)) Y (.m Y (.sa Y Y Iu (by simp [BU, AB]) ?_))))))))))
   refine .an Y (.ret ?_)
   have hz : CG τ a = ((1, (a.2.1, (AU τ a.2.1).cz)), true) := by unfold CG; rw [if_pos h29, decide_eq_true hth]
   rw [hz]
   refine .pc b4 (BU ((1, (a.2.1, (AU τ a.2.1).cz)), true).1) ?_
   exact .d2 Y (.cellA Y EW O (by simp [BU]) Y) (.tmp Y) ⟨Y, Y⟩
  refine .sm Y (.u (.not Y) (.m Y (.gr (.fa Y O0 (.gr (.u (.ld Y AR) (.gr (.fa Y YU (.gr (.u (.ld Y AR) (.gr (.ui Y Y Y (.pF Y Y (.an Y (.condN Y (fun h38 => ?_) (fun h38 => ?_))))))))))))))))
  ·refine .region (.m Y (.cv func29 [_] (Cd t τ) ?_))
   refine .fa Y HZ (.st Y Y Y CC ?_)
   refine .fa Y IR (.st Y Y Y CC ?_)
   refine .a Y (.nil (.blk_n (.then_n (.sr (.q (.loadA Y EW O (by simp)) Y (.m Y (.sa Y Y Iu (by simp [BU, AB]) ?_)))))))
   refine .an Y (.ret ?_)
   have hz : CG τ a = ((2, (a.2.1, τ.zx)), true) := by unfold CG; rw [if_neg h29, if_pos (by first | exact .inl hth | exact .inr h38 | exact .inr (by simpa using h38))]
   rw [hz]
   refine .pc b4 (BU ((2, (a.2.1, τ.zx)), true).1) ?_
   exact .d2 Y (.cellA Y EW O (by simp [BU]) Y) (.tmp Y) ⟨Y, Y⟩
  refine .sr (.fa Y H7 (.u (.ld Y AR) (.ui Y Y Y (.an Y (.condD Y (fun h52 => ?_) (fun h52 => ?_))))))
  ·refine .draw [8, 10] [[0, 1, 2, 3, 4, 5, 6, 7, 8, 9, 10], [11]] mixed kQ (.go [Ae b6 _ _, Ae b3 _ _] O (.k Y (.fieldAddr Y L4) (.k Y (.ld Y AR) (.k Y (.fieldAddr Y L4) (.k Y (.ld Y AR) (.k Y (.fieldAddr Y Xa) (.k Y (.ld Y AR) (.k Y (.int Y Y Y) (.kv Y (.fieldAddr Y HZ) (.hh Y (.store Y Y Y CC ?c85 (Bf _ _)) ?_))))))))))
   case c85 => first | decide | (simp; omega) | simp
   rintro v L' rfl
   refine D.kv Y (.fieldAddr Y IR) (.hh Y (.store Y Y Y CC ?c89 (Bf _ _)) ?_)
   case c89 => first | decide | (simp; omega) | simp
   rintro v L' rfl
   refine D.ph (.g0 (.kv Y (.assign Y) (.ph (.fin (.blk_n (.then_n (.sr (.q (.loadA Y EW O (by simp)) Y (.m Y (.sa Y Y Iu (by simp [BU, AB]) ?_))))))))))
   refine .an Y (.ret ?_)
   have hz : CG τ a = ((4, (a.2.1, (AU τ a.2.1).pz)), !decide ((AU τ a.2.1).pz = a.2.2.2.2)) := by unfold CG; rw [if_neg h29, if_neg (by rintro (g | g); exact g hth; exact g h38), if_pos h52, decide_not]
   rw [hz]
   refine .pc b4 (BU ((4, (a.2.1, (AU τ a.2.1).pz)), !decide ((AU τ a.2.1).pz = a.2.2.2.2)).1) ?_
   exact .d2 Y (.cellA Y EW O (by simp [BU]) Y) (.tmp Y) ⟨Y, Y⟩
  refine .draw [8, 10] [[0, 1, 2, 3, 4, 5, 6, 7, 8, 9, 10], [11]] mixed kQ (.go [Ae b6 _ _, Ae b3 _ _] O (.k Y (.fieldAddr Y L7) (.k Y (.ld Y AR) (.k Y (.fieldAddr Y L7) (.k Y (.ld Y AR) (.k Y (.fieldAddr Y Yz) (.k Y (.ld Y AR) (.k Y (.int Y Y Y) (.kv Y (.fieldAddr Y HZ) (.hh Y (.store Y Y Y CC ?c106 (Bf _ _)) ?_))))))))))
  case c106 => first | decide | (simp; omega) | simp
  rintro v L' rfl
  refine D.kv Y (.fieldAddr Y IR) (.hh Y (.store Y Y Y CC ?c110 (Bf _ _)) ?_)
  case c110 => first | decide | (simp; omega) | simp
  rintro v L' rfl
  refine D.ph (.g0 (.kv Y (.assign Y) (.ph (.fin (.blk_n (.then_n (.sr (.q (.loadA Y EW O (by simp)) Y (.m Y (.sa Y Y Iu (by simp [BU, AB]) ?_))))))))))
  refine .an Y (.ret ?_)
  have hz : CG τ a = ((3, (a.2.1, (AU τ a.2.1).mz)), !decide ((AU τ a.2.1).mz = a.2.2.2.1)) := by unfold CG; rw [if_neg h29, if_neg (by rintro (g | g); exact g hth; exact g h38), if_neg h52, decide_not]
  rw [hz]
  refine .pc b4 (BU ((3, (a.2.1, (AU τ a.2.1).mz)), !decide ((AU τ a.2.1).mz = a.2.2.2.1)).1) ?_
  exact .d2 Y (.cellA Y EW O (by simp [BU]) Y) (.tmp Y) ⟨Y, Y⟩
 refine .m Y (.fa Y Gy (.u (.ld Y Ag) (.oq (.c func76 [_, _] (BZ t τ a.2.1 N ho om)) ?_)))
 rintro v L' ⟨rfl, rfl⟩; rw [decide_eq_false hth]
 refine .m Y (.ex Y Y (.ex Y Y (.oq (.allocA DO) ?_)))
 rintro v L' ⟨b6, rfl, rfl⟩
 refine .sa Y Y DD (by simp [B7, AB]) ?_
 refine .a Y (.nil (.ptCast (b := b6) (l' := B7 (AU τ a.2.1)) O Y ?_))
 refine .then_n (.sr (.fa Y Gy (.u (.ld Y Ag) (.q (.to (v' := .agg (BU ((0, (a.2.1, 0)) : Ev)).toArray) (.build (us := [(1, _)]) Fc Bu Y Y (by simp [AB])) Y) Y (.oq (.allocA Bu) ?_)))))
 rintro v L' ⟨b8, rfl, rfl⟩
 refine .sa Y Y Iu (by simp [BU, AB]) ?_
 refine .nil (.ptCast (b := b8) (l' := [AA 0, AD a.2.1, AA 0]) O Y ?_)
 refine .then_n (.sr (.an Y (.seq (.block (.sr (.fa Y H7 (.u (.ld Y AR) (.ui Y Y Y (.an Y (.condD Y (fun h29 => ?_) (fun h29 => ?_)))))))))))
 ·refine .draw [4, 6] [[0, 1, 2, 3, 4, 5, 6], [7]] mixed kQ (.go [Ae b6 _ _] O (.k Y (.fieldAddr Y O0) (.k Y (.ld Y AR) (.k Y (.move Y) (.kv Y (.fieldAddr Y HZ) (.hh Y (.store Y Y Y CC ?c150 (Bf _ _)) ?_))))))
  case c150 => first | decide | (simp; omega) | simp
  rintro v L' rfl
  refine D.kv Y (.fieldAddr Y IR) (.hh Y (.store Y Y Y CC ?c154 (Bf _ _)) ?_)
  case c154 => first | decide | (simp; omega) | simp
  rintro v L' rfl
  refine D.ph (.g0 (.kv Y (.assign Y) (.ph (.fin (.blk_n (.then_n (.sr (.q (.loadA Y EW O (by simp)) Y (.m Y (.sa Y Y Iu (by simp [BU, AB]) ?_))))))))))
  refine .an Y (.ret ?_)
  have hz : CG τ a = ((1, (a.2.1, (AU τ a.2.1).cz)), false) := by unfold CG; rw [if_pos h29, decide_eq_false hth]
  rw [hz]
  refine .pc b4 (BU ((1, (a.2.1, (AU τ a.2.1).cz)), false).1) ?_
  exact .d2 Y (.cellA Y EW O (by simp [BU]) Y) (.tmp Y) ⟨Y, Y⟩
 refine .sm Y (.u (.not Y) (.m Y (.gk (.gk (.gk (.gk (.gk (.pT Y Y (.an Y (.condT Y (.region (.m Y (.cv func29 [_] (Cd t τ) ?_)))))))))))))
 refine .fa Y HZ (.st Y Y Y CC ?_)
 refine .fa Y IR (.st Y Y Y CC ?_)
 refine .a Y (.nil (.blk_n (.then_n (.sr (.q (.loadA Y EW O (by simp)) Y (.m Y (.sa Y Y Iu (by simp [BU, AB]) ?_)))))))
 refine .an Y (.ret ?_)
 have hz : CG τ a = ((2, (a.2.1, τ.zx)), true) := by unfold CG; rw [if_neg h29, if_pos (by first | exact .inl hth | exact .inr h38 | exact .inr (by simpa using h38))]
 rw [hz]
 refine .pc b4 (BU ((2, (a.2.1, τ.zx)), true).1) ?_
 exact .d2 Y (.cellA Y EW O (by simp [BU]) Y) (.tmp Y) ⟨Y, Y⟩
theorem VR (t u : Nat) (ω : List Wt) (τ : Tr) (s : Int) (va : Value) (l : List G8) (p : HP) (hl : UU p va l) (N : Nat) (ho : τ.Ok N) (hN : N ≤ 1099511627776) (h1 : 1 ≤ s) (hs : s ≤ 9223372036854775807) : Fn prog 54 #[AI t, AA s, AI u, va] [K7 t ω, Aa u τ, p] fun v L => ∃ a c, v = .slice a (Bi τ s ω l).2.length c ∧ L = [K7 t (Bi τ s ω l).1, Aa u τ, p, Ad 50 3 v (Bi τ s ω l).2.length ((Bi τ s ω l).2.flatMap BU)] := by
 refine Fn.intro func54 Y Y fun F W => ?_
 refine .rdAny (p := p) hl.cells O fun aa ca e0 _ => ?_
 subst e0
 have hll := hl.len
 refine .sr (.an Y (.seq (.sm Y (.q (.as (v' := .bool false) (by simp; omega) (.int Y Y Y)) Y (.m Y (.gr (.m Y (.gr (.q (.as (v' := .bool false) (by rfl) (.ptreq Y Y underlying76)) Y (.pF Y Y (.nt (.condF Y (.sk (.seq (.add (AN 50 3) (.region (.an Y (.seq (.sm Y (.q (.slen Y underlying31 Y) Y (.m Y (.nt (.block (.tbCast (t := t) (ω' := (Bi τ s ω (l.take 0)).1) O (by rw [take_zero]; rfl) (.loopK (ι := Nat × Value) (fun q E => (22, AA q.1) :: (9, q.2) :: E) (fun q => [K7 t (Bi τ s ω (l.take q.1)).1, Ad 50 3 q.2 (Bi τ s ω (l.take q.1)).2.length ((Bi τ s ω (l.take q.1)).2.flatMap BU)]) (fun q => q.1 ≤ l.length ∧ ∃ a c, q.2 = .slice a (Bi τ s ω (l.take q.1)).2.length c) (fun q => l.length - q.1) (0, .slice none 0 0) (ts := [0, 1, 2, 8, 20, 21]) O (⟨Nat.zero_le _, none, 0, Y⟩) O O ?_)))))))))))))))))))))))))
 rintro ⟨i, w⟩ ⟨hi, au, cu, hw⟩
 dsimp only
 dsimp only at hi hw
 subst hw
 have hal := Js τ s ω l i hi
 refine .sr (.ui Y Y Y (.nt (.seq (.condD Y (fun h23 => ?_) (fun h23 => ?_)))))
 ·have hi2 : i < l.length := by omega
  have hp1 := hl.paths _ (getElem_mem hi2)
  refine .rdShape (p := p) hl.cells O om fun bl ol e1 => ?_
  subst e1
  refine .sk (.seq (.block (.sr (.q (.indexAddr Y Y ACT om) Y (.q (.loadRdA (sz := 5) (j := i * 5) (k := 5) (p := p) (vs := Mo l[i]) Y YM O hl.cells (by simp) om om (A3 (f := Mo) (sz := 5) (fun _ _ => Y) om)) Y (.oq (.allocA AAq) ?_))))))
  rintro v L' ⟨b11, rfl, rfl⟩
  refine .sa Y Y AA4 (by simp [Mo, AB]) ?_
  refine .nil (.pc b11 (Mo l[i]) ?_)
  refine .then_n (.seq (.sr (.fa Y H7 (.u (.ld Y AR) (.fa Y Gy (.u (.ld Y Ag) (.cv func98 [_, _] (QP l[i].1 l[i].2.1 hp1) ?_)))))))
  refine .u (.not Y) (.nt (.condB Y (fun h31 => ?_) (fun h31 => ?_)))
  ·have h31 : ¬ Ii l[i].1 l[i].2.1 := by simpa using h31
   refine .exit (.then_e (.blk_e (.then_n (.region (.q (.add Y Y om) Y (.m Y (.nt ?_)))))))
   have hA : (Bi τ s ω (l.take (i + 1))) = (Bi τ s ω (l.take i)) := by rw [Gf τ s ω hi2]; unfold JM; rw [if_pos h31]
   refine .tbCast (t := t) (ω' := (Bi τ s ω (l.take (i + 1))).1) O (by rw [hA]) ?_
   rw [show (Bi τ s ω (l.take i)).2.length = (Bi τ s ω (l.take (i + 1))).2.length by rw [hA]]
   refine .slCast (T := 50) (sz := 3) (m' := (Bi τ s ω (l.take (i + 1))).2.length) (xs' := (Bi τ s ω (l.take (i + 1))).2.flatMap BU) O (by exact rfl) (by rw [hA]) ?_
   exact .rk ((i + 1, .slice au (Bi τ s ω (l.take (i + 1))).2.length cu)) (⟨by dsimp only; omega, _, _, rfl⟩) (by dsimp only; omega) O
  have h31 : Ii l[i].1 l[i].2.1 := by simpa using h31
  refine .sk (.sm Y (.q (.loadAs (vs := Mo l[i]) Y YM O (by simp [Mo]) Y) Y (.cv func99 [_, _] (Pw u τ l[i] N ho hN) ?_)))
  refine .m Y (.ex Y Y (.ex Y Y (.oq (.allocA Bu) ?_)))
  rintro v L' ⟨b12, rfl, rfl⟩
  refine .sa Y Y Iu (by simp [BU, AB]) ?_
  refine .a Y (.nil (.pc b12 (BU (CG τ l[i]).1) ?_))
  refine .then_n (.block (.sm Y (.u (.not Y) (.an Y (.condB Y (fun h38 => ?_) (fun h38 => ?_))))))
  ·have h38 : (CG τ l[i]).2 = false := by simpa using h38
   refine .region (.m Y (.m Y (.fa Y H7 (.u (.ld Y AR) (.fa Y Gy (.u (.ld Y Ag) (.cv func57 [_, _, _, _] (OR t (Bi τ s ω (l.take i)).1 s l[i].1 l[i].2.1 hs hp1) ?_)))))))
   refine .nil (.blk_n (.blk_n (.then_n (.region (.q (.add Y Y om) Y (.m Y (.nt ?_)))))))
   have hA : (Bi τ s ω (l.take (i + 1))) = ((addW (Bi τ s ω (l.take i)).1 s l[i].1 l[i].2.1).1, (Bi τ s ω (l.take i)).2) := by rw [Gf τ s ω hi2]; unfold JM; rw [if_neg (fun g => g h31), if_pos h38]
   refine .tbCast (t := t) (ω' := (Bi τ s ω (l.take (i + 1))).1) O (by rw [hA]) ?_
   rw [show (Bi τ s ω (l.take i)).2.length = (Bi τ s ω (l.take (i + 1))).2.length by rw [hA]]
   refine .slCast (T := 50) (sz := 3) (m' := (Bi τ s ω (l.take (i + 1))).2.length) (xs' := (Bi τ s ω (l.take (i + 1))).2.flatMap BU) O (by exact rfl) (by rw [hA]) ?_
   exact .rk ((i + 1, .slice au (Bi τ s ω (l.take (i + 1))).2.length cu)) (⟨by dsimp only; omega, _, _, rfl⟩) (by dsimp only; omega) O
  have h38 : (CG τ l[i]).2 = true := by simpa using h38
  refine .sm Y (.q (.loadAs (vs := BU (CG τ l[i]).1) Y EW O (by simp [BU]) Y) Y (.oq (.call func100 Y Y (vs := [_, _]) Y (Sb (Bi τ s ω (l.take i)).2 (CG τ l[i]).1 _ om)) ?_))
  rintro v L' ⟨rfl, rfl⟩
  refine .u (.not Y) (.an Y (.condB Y (fun h48 => ?_) (fun h48 => ?_)))
  ·have h48 : ¬ (CG τ l[i]).1 ∈ (Bi τ s ω (l.take i)).2 := by simpa using h48
   refine .region (.m Y (.q (.loadAs (vs := BU (CG τ l[i]).1) Y EW O (by simp [BU]) Y) Y (.oq (.buildSlice (vs := [_]) DJ Bu Y Y Y Y cQ dQ) ?_)))
   rintro v L' ⟨b13, rfl, rfl⟩
   refine .oq (.append1 Y Y Y DJ Bu Y Y ?c60 ?c61 (Nat.le_refl _) ?c62 dQ) ?_
   case c60 => simp only [map_cons, map_nil, flatten_cons, flatten_nil, append_nil]; simp [Value.cells, BU, AB]
   case c61 => rfl
   case c62 => omega
   rintro v L' ⟨⟨a12_3, c12_3, rfl⟩, rfl⟩
   refine .a Y (.nil (.blk_n (.blk_n (.then_n (.region (.q (.add Y Y om) Y (.m Y (.nt ?_))))))))
   have hA : (Bi τ s ω (l.take (i + 1))) = ((Bi τ s ω (l.take i)).1, (Bi τ s ω (l.take i)).2 ++ [(CG τ l[i]).1]) := by rw [Gf τ s ω hi2]; unfold JM; rw [if_neg (fun g => g h31), if_neg (by rw [h38]; decide), if_neg h48]
   refine .tbCast (t := t) (ω' := (Bi τ s ω (l.take (i + 1))).1) O (by rw [hA]) ?_
   rw [show (Bi τ s ω (l.take i)).2.length + 1 = (Bi τ s ω (l.take (i + 1))).2.length by rw [hA]; simp]
   refine .slCast (T := 50) (sz := 3) (m' := (Bi τ s ω (l.take (i + 1))).2.length) (xs' := (Bi τ s ω (l.take (i + 1))).2.flatMap BU) O (by exact rfl) (by rw [hA]; rw [flatMap_append]; simp [Value.cells, BU]) ?_
   exact .rk ((i + 1, .slice a12_3 (Bi τ s ω (l.take (i + 1))).2.length c12_3)) (⟨by dsimp only; omega, _, _, rfl⟩) (by dsimp only; omega) O
  have h48 : (CG τ l[i]).1 ∈ (Bi τ s ω (l.take i)).2 := by simpa using h48
  refine .skip (.blk_n (.blk_n (.then_n (.region (.q (.add Y Y om) Y (.m Y (.nt ?_)))))))
  have hA : (Bi τ s ω (l.take (i + 1))) = (Bi τ s ω (l.take i)) := by rw [Gf τ s ω hi2]; unfold JM; rw [if_neg (fun g => g h31), if_neg (by rw [h38]; decide), if_pos h48]
  refine .tbCast (t := t) (ω' := (Bi τ s ω (l.take (i + 1))).1) O (by rw [hA]) ?_
  rw [show (Bi τ s ω (l.take i)).2.length = (Bi τ s ω (l.take (i + 1))).2.length by rw [hA]]
  refine .slCast (T := 50) (sz := 3) (m' := (Bi τ s ω (l.take (i + 1))).2.length) (xs' := (Bi τ s ω (l.take (i + 1))).2.flatMap BU) O (by exact rfl) (by rw [hA]) ?_
  exact .rk ((i + 1, .slice au (Bi τ s ω (l.take (i + 1))).2.length cu)) (⟨by dsimp only; omega, _, _, rfl⟩) (by dsimp only; omega) O
 have hii : i = l.length := by omega
 rw [hii, take_length]
 refine .xe (.sm Y (.an Y (.ret ?_)))
 exact .dn Y Y ⟨_, _, Y, Y⟩
/-! ### Maps of slices -/
abbrev Sm (α : Type) := List (Int × (Value × List α))
def BT {α : Type} (m : Sm α) (s : Int) : Value × List α := (AE m s).getD (AG, [])
def SP {α : Type} (x : Value × List α) : Value := x.1
def XM {α : Type} (m : Sm α) : List (Value × Value) := m.map fun x => (AA x.1, SP x.2)
theorem Fq {α : Type} {m : Sm α} {s : Int} (b : Value × List α) (h : AE m s = some b) : SP b = (BT m s).1 := by unfold BT SP; rw [h]; rfl
theorem Fm {α : Type} {m : Sm α} {s : Int} (h : AE m s = none) : Value.slice none 0 0 = (BT m s).1 := by unfold BT; rw [h]; rfl
theorem Yw {α : Type} (m : Sm α) (s : Int) (w : Value × List α) (x : Int) : BT (BR m s w) x = if x = s then w else BT m x := by
 unfold BT; rw [DH]; split <;> rfl
theorem XK {α : Type} {m : Sm α} (hn : (m.map (·.1)).Nodup) (s x : Int) : BT (BX m s) x = if x = s then (AG, []) else BT m x := by
 unfold BT; rw [GM hn]; split <;> rfl
def D0 {β : Type} (f : Int → β) (s : Int) (v : β) : Int → β := fun x => if x = s then v else f x
theorem Km {α : Type} {m : Sm α} {f : Int → List α} (h : ∀ x, f x = (BT m x).2) (s : Int) (w : Value × List α) (x : Int) : D0 f s w.2 x = (BT (BR m s w) x).2 := by
 unfold D0; rw [Yw]; split
 ·rfl
 ·exact h x
theorem Kd {α : Type} {m : Sm α} (hn : (m.map (·.1)).Nodup) {f : Int → List α} (h : ∀ x, f x = (BT m x).2) (s : Int) (x : Int) : D0 f s [] x = (BT (BX m s) x).2 := by
 unfold D0; rw [XK hn]; split
 ·rfl
 ·exact h x
def OM (x : Int × (Value × List Bs)) : HP := Ad 9 1 x.2.1 x.2.2.length (Ao x.2.2)
def SX (x : Int × (Value × List Ev)) : HP := Ad 50 3 x.2.1 x.2.2.length (x.2.2.flatMap BU)
theorem ZZ (s : Int) (h : Hp) : OM (s, (AG, [])) h := AN _ _ h
theorem Z6 (s : Int) (h : Hp) : SX (s, (AG, [])) h := AN _ _ h
section
variable {P : Program} {W : World} {n : Nat} {ds : List Deferred} {E : B0} {L R : List HP} {X : Act → World → Prop} {α : Type} {f : Int × (Value × List α) → HP} {m : Sm α}
theorem G.smTake (s : Int) (h0 : ∀ h, f (s, (AG, [])) h) (hL : BI (Ah f m) L R) (h : G W n ds E (f (s, BT m s) :: Ah f (BX m s) :: R) X) : G W n ds E L X := by
 rcases hb : AE m s with _ | b
 ·have e : BT m s = (AG, []) := by unfold BT; rw [hb]; rfl
  rw [e, EO hb] at h
  exact G.focus hL (G.add h0 h)
 ·have e : BT m s = b := by unfold BT; rw [hb]; rfl
  rw [e] at h
  exact G.bigTake hb hL h
theorem G.smBack (s : Int) {p : HP} (hp : p = f (s, BT m s)) (hL : BC [p, Ah f (BX m s)] L R) (h : G W n ds E (Ah f m :: R) X) : G W n ds E L X := by
 subst hp
 refine G.fold hL (fun w hw => ?_) h
 rcases hb : AE m s with _ | b
 ·rw [EO hb] at hw
  obtain ⟨h1, h2, hd, a1, a2, hq, g1, g2, gd, b1, b2, hr, -⟩ := hw
  exact Eo (Eo hr b1) a2
 ·have e : BT m s = b := by unfold BT; rw [hb]; rfl
  rw [e] at hw
  have := UO hw
  rwa [Ch hb] at this
end
section
variable {P : Program} {W : World} {n : Nat} {ds : List Deferred} {E : B0} {L R : List HP} {X : Act → World → Prop}
theorem G.evTake {m : Sm Ev} (s : Int) (hL : BI (Ah SX m) L R) (h : G W n ds E (Ad 50 3 (BT m s).1 (BT m s).2.length ((BT m s).2.flatMap BU) :: Ah SX (BX m s) :: R) X) : G W n ds E L X := G.smTake s (Z6 s) hL h
theorem G.idTake {m : Sm Bs} (s : Int) (hL : BI (Ah OM m) L R) (h : G W n ds E (Ad 9 1 (BT m s).1 (BT m s).2.length (Ao (BT m s).2) :: Ah OM (BX m s) :: R) X) : G W n ds E L X := G.smTake s (ZZ s) hL h
theorem G.idBack {m : Sm Bs} (s : Int) (hL : BC [Ad 9 1 (BT m s).1 (BT m s).2.length (Ao (BT m s).2), Ah OM (BX m s)] L R) (h : G W n ds E (Ah OM m :: R) X) : G W n ds E L X := G.smBack s rfl hL h
theorem G.evPut {m : Sm Ev} (s : Int) {v : Value} {k : Nat} {xs : List Value} (ys : List Ev) (hL : BC [Ad 50 3 v k xs, Ah SX (BX m s)] L R) (hk : k = ys.length) (hx : xs = ys.flatMap BU) (h : G W n ds E (Ah SX (BR m s (v, ys)) :: R) X) : G W n ds E L X := by
 subst hk; subst hx
 exact G.bigPut (f := SX) (m := m) s (v, ys) rfl hL h
theorem G.idPut {m : Sm Bs} (s : Int) {v : Value} {k : Nat} {xs : List Value} (ys : List Bs) (hL : BC [Ad 9 1 v k xs, Ah OM (BX m s)] L R) (hk : k = ys.length) (hx : xs = Ao ys) (h : G W n ds E (Ah OM (BR m s (v, ys)) :: R) X) : G W n ds E L X := by
 subst hk; subst hx
 exact G.bigPut (f := OM) (m := m) s (v, ys) rfl hL h
end
/-! ### The service -/
theorem G.evTakeS {W : World} {n : Nat} {ds : List Deferred} {E : B0} {L R : List HP} {X : Act → World → Prop} {m : Sm Ev} (s : Int) (hL : BI (Ah SX m) L R)
  (h : ∀ a c, (BT m s).1 = .slice a (BT m s).2.length c → G W n ds E (Ad 50 3 (.slice a (BT m s).2.length c) (BT m s).2.length ((BT m s).2.flatMap BU) :: Ah SX (BX m s) :: R) X) : G W n ds E L X := by
 refine G.evTake s hL (G.slAny .here fun a c e _ => ?_)
 have := h a c e
 rw [← e] at this
 exact this
theorem G.idTakeS {W : World} {n : Nat} {ds : List Deferred} {E : B0} {L R : List HP} {X : Act → World → Prop} {m : Sm Bs} (s : Int) (hL : BI (Ah OM m) L R)
  (h : ∀ a c, (BT m s).1 = .slice a (BT m s).2.length c → G W n ds E (Ad 9 1 (.slice a (BT m s).2.length c) (BT m s).2.length (Ao (BT m s).2) :: Ah OM (BX m s) :: R) X) : G W n ds E L X := by
 refine G.idTake s hL (G.slAny .here fun a c e _ => ?_)
 have := h a c e
 rw [← e] at this
 exact this
theorem G.forget {W : World} {n : Nat} {ds : List Deferred} {E : B0} {L : List HP} {X : Act → World → Prop} {p : HP} (h : G W n ds E L X) : G W n ds E (p :: L) X := fun a w he hk hs => h a w he hk hs.tail
theorem G.idPost {W : World} {n : Nat} {ds : List Deferred} {E : B0} {L R : List HP} {X : Act → World → Prop} {m m' : Sm Bs} {c : Prop} [Decidable c] {o : Int} (hm : m' = if c then BX m o else m) (hL : BI (Ah OM m) L R) (h : G W n ds E (Ah OM m' :: R) X) : G W n ds E L X := by
 subst hm
 by_cases g : c
 ·rw [if_pos g] at h
  exact G.idTake o hL (G.forget h)
 ·rw [if_neg g] at h
  exact G.focus hL h
structure Pl where
 τ : Tr
 ω : List Wt
 ord : List En
 opened : Int
 ids : Int → List Bs
 ev : Int → List Ev
def KC : Pl := ⟨Dv, [], [], 0, fun _ => [], fun _ => []⟩
structure LR (π : Pl) (mi : Sm Bs) (me : Sm Ev) : Prop where
 i1 : (mi.map (·.1)).Nodup
 e1 : (me.map (·.1)).Nodup
 i2 : ∀ s, π.ids s = (BT mi s).2
 e2 : ∀ s, π.ev s = (BT me s).2
structure V4 where
 t : Nat
 u : Nat
 rid : Nat
 rev : Nat
def WA (k : V4) (ov : Value) (o : Int) : List Value := [AI k.t, AI k.u, ov, AA o, .map (some k.rid), .map (some k.rev)]
abbrev QF (v : Value) (l : List En) : HP := Ad 62 11 v l.length (l.flatMap DQ)
structure PlX where
 ov : Value
 mi : Sm Bs
 me : Sm Ev
def plL (b : Nat) (k : V4) (π : Pl) (x : PlX) : List HP := [Ae b (WA k x.ov π.opened) 85, Aa k.t π.τ, K7 k.u π.ω, QF x.ov π.ord, Ah entR π.ord, mapR k.rid (XM x.mi), Ah OM x.mi, mapR k.rev (XM x.me), Ah SX x.me]
def Pr (b : Nat) (k : V4) (π : Pl) : HP := fun h => ∃ x : PlX, LR π x.mi x.me ∧ CD (plL b k π x) h
section
variable {P : Program} {W : World} {n : Nat} {ds : List Deferred} {E : B0} {L R : List HP} {X : Act → World → Prop}
theorem G.plOpen {b : Nat} {k : V4} {π : Pl} (hL : BI (Pr b k π) L R) (h : ∀ ov mi me, LR π mi me → G W n ds E (Ae b (WA k ov π.opened) 85 :: Aa k.t π.τ :: K7 k.u π.ω :: QF ov π.ord :: Ah entR π.ord :: mapR k.rid (XM mi) :: Ah OM mi :: mapR k.rev (XM me) :: Ah SX me :: R) X) : G W n ds E L X :=
 G.focus hL (G.open (q := fun x : PlX => plL b k π x) (φ := fun x : PlX => LR π x.mi x.me) (fun _ hp => hp) fun x hI => h x.ov x.mi x.me hI)
theorem G.plFold {b : Nat} {k : V4} (π : Pl) {ov : Value} {mi : Sm Bs} {me : Sm Ev} {τ : Tr} {ω : List Wt} {ord : List En} {l : List Value} {e1 e2 : List (Value × Value)} (hI : LR π mi me)
  (hL : BC [Ae b l 85, Aa k.t τ, K7 k.u ω, QF ov ord, Ah entR ord, mapR k.rid e1, Ah OM mi, mapR k.rev e2, Ah SX me] L R) (hl : l = WA k ov π.opened) (h1 : τ = π.τ) (h2 : ω = π.ω) (h3 : ord = π.ord) (h4 : e1 = XM mi) (h5 : e2 = XM me)
  (h : G W n ds E (Pr b k π :: R) X) : G W n ds E L X := by
 subst hl; subst h1; subst h2; subst h3; subst h4; subst h5
 exact G.fold hL (fun w hw => ⟨⟨ov, mi, me⟩, hI, hw⟩) h
end
def DV (ev : Int → List Ev) (l : List Y7) : Int → List Ev := l.foldl (fun f x => D0 f x.1 (f x.1 ++ [x.2])) ev
theorem VG (ev : Int → List Ev) {l : List Y7} {i : Nat} (h : i < l.length) : DV ev (l.take (i + 1)) = D0 (DV ev (l.take i)) l[i].1 (DV ev (l.take i) l[i].1 ++ [l[i].2]) := by
 unfold DV
 rw [take_succ_eq_append_getElem h, foldl_append]; rfl
theorem OB (ev : Int → List Ev) (l : List Y7) (s : Int) : (DV ev l s).length ≤ (ev s).length + l.length := by
 have H : ∀ (l : List Y7) (f : Int → List Ev), ((l.foldl (fun f x => D0 f x.1 (f x.1 ++ [x.2])) f) s).length ≤ (f s).length + l.length := by
  intro l
  induction l with
  | nil => intro f; exact Nat.le_refl _
  | cons x l ih =>
   intro f
   rw [foldl_cons]
   refine Nat.le_trans (ih _) ?_
   unfold D0
   split
   ·rename_i h; rw [h, length_append, length_cons, length_nil, length_cons]; omega
   ·rw [length_cons]; omega
 exact H l ev
def CY (π : Pl) : Int := 4294967296 + (π.ord.length : Int) + 1
def Br (π : Pl) (s x : Int) (y : Pt) (ys : List Pt) : En := ⟨CY π, s, x, y, ys⟩
def Bv (π : Pl) (s x : Int) (y : Pt) (ys : List Pt) : Pl where
 τ := (AC π.τ (CY π) y ys).1
 ω := if y.kind = 6 then OZ (BQ π.ω (AC π.τ (CY π) y ys).2.1).1 y.own else (BQ π.ω (AC π.τ (CY π) y ys).2.1).1
 ord := π.ord ++ [Br π s x y ys]
 opened := π.opened
 ids := if y.kind = 6 then D0 π.ids y.own [] else π.ids
 ev := if y.kind = 6 then D0 (DV π.ev (BQ π.ω (AC π.τ (CY π) y ys).2.1).2) y.own [] else DV π.ev (BQ π.ω (AC π.τ (CY π) y ys).2.1).2
theorem LR.put {π : Pl} {mi : Sm Bs} {me0 me : Sm Ev} (h : LR π mi me0) (s x : Int) (y : Pt) (ys : List Pt) (hn : (me.map (·.1)).Nodup) (hk : ¬ y.kind = 6) (he : ∀ i, DV π.ev (BQ π.ω (AC π.τ (CY π) y ys).2.1).2 i = (BT me i).2) : LR (Bv π s x y ys) mi me := by
 refine ⟨h.i1, hn, fun i => ?_, fun i => ?_⟩
 ·show (if y.kind = 6 then D0 π.ids y.own [] else π.ids) i = _
  rw [if_neg hk]; exact h.i2 i
 ·show (if y.kind = 6 then _ else DV π.ev _) i = _
  rw [if_neg hk]; exact he i
theorem LR.put6 {π : Pl} {mi : Sm Bs} {me0 me : Sm Ev} (h : LR π mi me0) (s x : Int) (y : Pt) (ys : List Pt) (hn : (me.map (·.1)).Nodup) (hk : y.kind = 6) (he : ∀ i, DV π.ev (BQ π.ω (AC π.τ (CY π) y ys).2.1).2 i = (BT me i).2) : LR (Bv π s x y ys) (BX mi y.own) (BX me y.own) := by
 refine ⟨DF h.i1 _, DF hn _, fun i => ?_, fun i => ?_⟩
 ·show (if y.kind = 6 then D0 π.ids y.own [] else π.ids) i = _
  rw [if_pos hk]; exact Kd h.i1 h.i2 _ i
 ·show (if y.kind = 6 then D0 (DV π.ev _) y.own [] else _) i = _
  rw [if_pos hk]; exact Kd hn he _ i
theorem LR.tell0 {π : Pl} {mi : Sm Bs} {me : Sm Ev} (h : LR π mi me) (l : List Y7) : (me.map (·.1)).Nodup ∧ ∀ i, DV π.ev (l.take 0) i = (BT me i).2 := ⟨h.e1, fun i => by rw [take_zero]; exact h.e2 i⟩
theorem AAO {f : Int → List Ev} {me : Sm Ev} {l : List Y7} {i : Nat} (hi : i < l.length) (hn : (me.map (·.1)).Nodup) (h : ∀ s, DV f (l.take i) s = (BT me s).2) (v : Value) :
  ((BR me l[i].1 (v, (BT me l[i].1).2 ++ [l[i].2])).map (·.1)).Nodup ∧ ∀ s, DV f (l.take (i + 1)) s = (BT (BR me l[i].1 (v, (BT me l[i].1).2 ++ [l[i].2])) s).2 := by
 refine ⟨Bx hn _ _, fun s => ?_⟩
 rw [VG f hi, h]
 exact Km h _ (v, (BT me l[i].1).2 ++ [l[i].2]) s
theorem Yx (τ : Tr) (z : Int) (y : Pt) (ys : List Pt) : (AC τ z y ys).2.1.length ≤ 2 * (1 + ys.length) := by
 unfold AC
 dsimp only
 split
 ·exact Nat.zero_le _
 split
 ·have h1 := G1 (zxT τ z) z (ys.filter Aj)
  have h2 := length_filter_le Aj ys
  show (AH (zxT τ z) z (ys.filter Aj)).2.length ≤ _
  omega
 split
 ·have h1 := G1 (zxT τ z) z ys
  show (AH (zxT τ z) z ys).2.length ≤ _
  omega
 split
 ·exact Nat.zero_le _
 ·have h1 := IV (zxT τ z) y z
  show (AJ (zxT τ z) y z).2.length ≤ _
  omega
def B9 (r : Rq) (e : Int) : Int :=
 if r.watch = false then 0 else if r.kind = 10 ∧ e = 60 then 2 else if e ≠ 0 then 0 else if r.kind = 9 ∨ r.kind = 10 then 1 else if r.kind = 11 then 3 else 0
theorem R2 (a b c : Int) (s0 s1 s2 s3 s4 s5 s6 s7 : Value) : Instr.fill (fun i => [(0, 1), (1, 1), (2, 1), (3, 8)].toArray[i]?) (([.int .i64 0, .int .i64 0, .int .i64 0, .int .i64 0, .string (bs []), .string (bs []), .slice none 0 0, .int .i64 0, .int .i64 0, .int .i64 0, .slice none 0 0] : List Value).toArray) [(0, AA a), (1, AA b), (2, AA c), (3, .agg ([s0, s1, s2, s3, s4, s5, s6, s7] : List Value).toArray)] = some (([AA a, AA b, AA c] ++ [s0, s1, s2, s3, s4, s5, s6, s7] : List Value).toArray) := by kernel_rfl
theorem IZ {a b c : Int} {y : Pt} {l : List Pt} (h1 : AB y.aclV = true) (h2 : AB y.subsV = true) : ∀ v ∈ DQ ⟨a, b, c, y, l⟩, AB v = true := by
 intro v hv
 simp only [DQ, A1, cons_append, nil_append, mem_cons, not_mem_nil, or_false] at hv
 rcases hv with rfl | rfl | rfl | rfl | rfl | rfl | rfl | rfl | rfl | rfl | rfl <;> first | rfl | assumption
theorem ME : Fn prog 8 #[] [] fun v L => ∃ b k, v = AI b ∧ L = [Pr b k KC] := by
 refine Fn.intro func8 Y Y fun F W => ?_
 refine .sr (.an Y (.sr (.oq (.c func20 [] (SH)) ?_)))
 rintro v L' ⟨t, rfl, rfl⟩
 refine .oq (.c func21 [] (Vx)) ?_
 rintro v L' ⟨u, rfl, rfl⟩
 refine .q (.build (us := [(0, _), (1, _)]) ACD ACQ Y Y (by simp [AB])) Y (.oq (.makeMap underlying82) ?_)
 rintro v L' ⟨rid, rfl, rfl⟩
 refine .oq (.makeMap underlying83) ?_
 rintro v L' ⟨rev, rfl, rfl⟩
 refine .q (.to (v' := .agg (WA ⟨t, u, rid, rev⟩ AG 0).toArray) (.buildN (pl := [(0, 2), (2, 1), (3, 1), (4, 1), (5, 1)]) (us := [(0, .agg #[AI t, AI u]), (3, .map (some rid)), (4, .map (some rev))]) (cells := WA ⟨t, u, rid, rev⟩ AG 0) underlying85 kQ ABr Y Y) Y) Y (.oq (.box Y) ?_)
 rintro v L' ⟨b, rfl, rfl⟩
 refine .a Y (.nil (.pc b (WA ⟨t, u, rid, rev⟩ AG 0) ?_))
 refine .fold (p := mapR rid []) (.cons (p := pt rid (.map #[] 0)) O .nil) (fun h hp => Ee (GD hp)) (.fold (p := mapR rev []) (.cons (p := pt rev (.map #[] 0)) O .nil) (fun h hp => Ee (GD hp)) (.add (p := QF AG []) (AN 62 11) (.add (p := Ah entR []) (fun h => CX h) (.add (p := Ah OM []) (fun h => CX h) (.add (p := Ah SX []) (fun h => CX h) (.plFold (k := ⟨t, u, rid, rev⟩) (ov := AG) KC (mi := []) (me := []) ⟨nodup_nil, nodup_nil, fun _ => Y, fun _ => Y⟩ O (by rfl) (by rfl) (by rfl) (by rfl) (by rfl) (by rfl) (.then_n (.ret ?_))))))))
 exact .dn Y Y ⟨b, ⟨t, u, rid, rev⟩, Y, Y⟩
theorem Pp (b : Nat) (k : V4) (π : Pl) (id : Int) : Fn prog 24 #[AI b, AA id] [Pr b k π] fun v L => v = .bool (decide (CF π.τ id)) ∧ L = [Pr b k π] := by
 refine Fn.intro func24 Y Y fun F W => ?_
 refine .plOpen (π := π) O fun ov mi me hI => (.sr (.an Y (.sm Y (.nf Y Dm (.fa Y Fj (.u (.ld Y DA) (.m Y (.cv func45 [_, _] (Hy k.t π.τ id) ?_))))))))
 refine .m Y (.ex Y Y (.ex Y Y (.ex Y Y (.a Y (.a Y (.a Y (.nil (.plFold (π) hI O (by rfl) (by rfl) (by rfl) (by rfl) (by rfl) (by rfl) (.then_n (.sm Y (.an Y (.ret ?_))))))))))))
 exact .vv
theorem Ms (b : Nat) (k : V4) (π : Pl) (ov : Value) (mi : Sm Bs) (me : Sm Ev) (hI : LR π mi me) (s x : Int) (y : Pt) (ys : List Pt) {N0 : Nat} (hG : EJ N0 y ys) (hN0 : N0 ≤ 65536) (hc : AB y.aclV = true ∧ ∃ a c, y.subsV = .slice a ys.length c) (hcs : ∀ z ∈ ys, AB z.aclV = true ∧ z.subsV = AG) (hs : A4 s) (hx : A4 x) (N : Nat) (ho : π.τ.Ok N) (hN : N ≤ 1048576) (hord : π.ord.length ≤ 1048576) (hω : π.ω.length ≤ 4096) (hev : ∀ i, (π.ev i).length ≤ 1099511627776) : Fn prog 23 #[AI b, AA s, AA x, .agg (A1 y).toArray] ([aclR y, Ad 60 8 y.subsV ys.length (ys.flatMap A1), Ah aclR ys] ++ [Ae b (WA k ov π.opened) 85, Aa k.t π.τ, K7 k.u π.ω, QF ov π.ord, Ah entR π.ord, mapR k.rid (XM mi), mapR k.rev (XM me), Ah SX me]) fun v L => ∃ z : PlX, v = .agg (DQ (Br π s x y ys)).toArray ∧ LR (Bv π s x y ys) z.mi z.me ∧ z.mi = (if y.kind = 6 then BX mi y.own else mi) ∧ L = [entR (Br π s x y ys), Ae b (WA k z.ov (Bv π s x y ys).opened) 85, Aa k.t (Bv π s x y ys).τ, K7 k.u (Bv π s x y ys).ω, QF z.ov (Bv π s x y ys).ord, Ah entR π.ord, mapR k.rid (XM z.mi), mapR k.rev (XM z.me), Ah SX z.me] := by
 refine Fn.intro func23 Y Y fun F W => ?_
 have hcv : AB y.subsV = true := by obtain ⟨-, a, c, e⟩ := hc; rw [e]; rfl
 refine .slAny (v := ov) O fun ao co eo _ => ?_
 subst eo
 have hys := hG.few om
 have hys2 : ys.length ≤ 65544 := by rcases hG.len with h | ⟨-, h, -⟩ <;> omega
 refine .sr (.oq (.box Y) ?_)
 rintro v L' ⟨b7, rfl, rfl⟩
 refine .oq (.allocA Ez) ?_
 rintro v L' ⟨b8, rfl, rfl⟩
 refine .nil (.pc b7 (A1 y) ?_)
 refine .then_n (.seq (.draw [11, 12] [[0, 1, 2, 3, 4, 5, 6, 7, 8, 9, 10, 11], [12]] mixed kQ (.go [Ae b _ _, Ae b7 _ _] O (.k Y (.move Y) (.k Y (.nilp Y) (.k Y (.fieldAddr Y Lr) (.k Y (.ld Y Wu) (.k Y (.slen Y underlying54 Y) (.k Y (.add Y Y om) (.k Y (.add Y Y om) (.k Y (.move Y) (.k Y (.move Y) (.k Y (.la (A1 y) Y Az) (.k Y (.to (v' := .agg (DQ (Br π s x y ys)).toArray) (.buildN (pl := [(0, 1), (1, 1), (2, 1), (3, 8)]) (us := [(0, AA (Br π s x y ys).zx), (1, AA (Br π s x y ys).ses), (2, AA (Br π s x y ys).xid), (3, .agg (A1 (Br π s x y ys).x).toArray)]) (cells := DQ (Br π s x y ys)) underlying62 kQ Ez Y (R2 _ _ _ _ _ _ _ _ _ _ _)) Y) ?_))))))))))))))
 refine D.hh Y (.allocA Ez) ?_
 rintro v L' ⟨b9, rfl, rfl⟩
 refine D.ph (.g0 (.sa Y Y Y Is (by exact IZ hc.1 hcv) ?_))
 refine D.ph (.fin (.pc b9 (DQ (Br π s x y ys)) ?_))
 refine .fold (p := entR (Br π s x y ys)) (q := [aclR y, Ad 60 8 y.subsV ys.length (ys.flatMap A1), Ah aclR ys]) O (fun _ h => h) (.then_n (.seq (.draw [6, 7, 10] [[0, 1, 2, 3, 4, 5, 6, 7], [8, 9, 10]] mixed kQ (.go [Ae b _ _, Ae b9 _ _] O (.k Y (.move Y) (.k Y (.move Y) (.k Y (.nilp Y) (.k Y (.fieldAddr Y Lr) (.k Y (.ld Y Wu) (.kv Y (.la (DQ (Br π s x y ys)) Y ER) (.hh Y (.buildSlice (vs := [_]) Jz Ez Y Y Y Y cQ dQ) ?_)))))))))))
 rintro v L' ⟨bs, rfl, rfl⟩
 refine D.hh Y (.append1 Y Y Y Jz Ez Y Y ?c31 ?c32 (Nat.le_refl _) ?c33 dQ) ?_
 case c31 => simp only [map_cons, map_nil, flatten_cons, flatten_nil, append_nil]; simp only [Value.cells]; exact IZ hc.1 hcv
 case c32 => rfl
 case c33 => omega
 rintro v L' ⟨⟨an, cn, rfl⟩, rfl⟩
 refine D.ph (.g0 (.nf Y Y Y Lr (.hh Y (.store Y Y Y ACB ?c38 (Bf _ _)) ?_)))
 case c38 => simp [WA]
 rintro v L' rfl
 refine D.ph (.fin (.pc b (WA k (.slice an (π.ord.length + 1) cn) π.opened) ?_))
 refine .slCast (T := 62) (sz := 11) (m' := (π.ord ++ [(Br π s x y ys)]).length) (xs' := (π.ord ++ [(Br π s x y ys)]).flatMap DQ) O (by rw [length_append]; rfl) (by rw [flatMap_append]; simp [Value.cells]) ?_
 rw [show π.ord.length + 1 = (π.ord ++ [(Br π s x y ys)]).length from by rw [length_append]; rfl]
 refine .then_n (.seq (.draw [6] [[0, 1, 2, 3, 4, 5, 6], [7, 8, 9, 10, 11]] mixed kQ (.g0 (.mv Y Y (.nf Y Y Y Dm (.kv Y (.fieldAddr Y Fj) (.kv Y (.ld Y DA) (.kv Y (.la (DQ (Br π s x y ys)) Y ER) (.hh Y (.call func42 Y Y (vs := [_, _]) Y (Eq k.t π.τ (CY π) s x y ys (entR (Br π s x y ys)) (hG.tx om _ _ _ hc hcs) N ho om)) ?_)))))))))
 rintro v L' ⟨ue, ee, rfl, he, ⟨aq, cq, hue⟩, rfl⟩
 refine D.ph (.g0 (.mv Y Y (.kv Y (.extract Y Y) (.kv Y (.extract Y Y) (.kv Y (.assign Y) (.kv Y (.assign Y) (.pf (.seq (.seq ?_)))))))))
 subst hue
 have hel := Yx π.τ (CY π) y ys
 have hfl := Ml π.ω (AC π.τ (CY π) y ys).2.1 (AC π.τ (CY π) y ys).2.1.length
 have hfl2 : (AC π.τ (CY π) y ys).2.1.length * π.ω.length ≤ 131090 * 4096 := Nat.mul_le_mul om hω
 have hfl3 : (BQ π.ω (AC π.τ (CY π) y ys).2.1).1.length ≤ π.ω.length ∧ (BQ π.ω (AC π.τ (CY π) y ys).2.1).2.length ≤ (AC π.τ (CY π) y ys).2.1.length * π.ω.length := hfl
 refine .region (.m Y (.nf Y Dm (.fa Y Lv (.u (.ld Y UY) (.m Y (.oq (.call func43 Y Y (vs := [_, _]) Y (TE k.u π.ω _ (AC π.τ (CY π) y ys).2.1 _ (fun h hp => AZ hp) om om)) ?_))))))
 rintro v L' ⟨af, cf, rfl, rfl⟩
 refine .q (.slen Y underlying124 Y) Y (.m Y (.nt (.block ?_)))
 have h0 := hI.tell0 (BQ π.ω (AC π.τ (CY π) y ys).2.1).2
 refine .loopK (ι := Nat × (Sm Ev)) (fun q E => (53, AA q.1) :: E) (fun q => [mapR k.rev (XM q.2), Ah SX q.2]) (fun q => q.1 ≤ (BQ π.ω (AC π.τ (CY π) y ys).2.1).2.length ∧ (q.2.map (·.1)).Nodup ∧ ∀ j, DV π.ev ((BQ π.ω (AC π.τ (CY π) y ys).2.1).2.take q.1) j = (BT q.2 j).2) (fun q => (BQ π.ω (AC π.τ (CY π) y ys).2.1).2.length - q.1) (0, me) (ts := [0, 7, 8, 9, 51, 52]) O (⟨Nat.zero_le _, h0.1, h0.2⟩) O O ?_
 rintro ⟨i, me2⟩ ⟨hi, hnd, htl⟩
 dsimp only
 dsimp only at hi hnd htl
 refine .sr (.ui Y Y Y (.nt (.seq (.condD Y (fun h54 => ?_) (fun h54 => ?_)))))
 ·have hi2 : i < (BQ π.ω (AC π.τ (CY π) y ys).2.1).2.length := by omega
  have hle := OB π.ev ((BQ π.ω (AC π.τ (CY π) y ys).2.1).2.take i) (BQ π.ω (AC π.τ (CY π) y ys).2.1).2[i].1
  have hle2 := hev (BQ π.ω (AC π.τ (CY π) y ys).2.1).2[i].1
  rw [htl, length_take] at hle
  refine .slShape (v := .slice af _ cf) O om fun bf bf' e0 mbf _ => ?_
  simp only [Value.slice.injEq, true_and] at e0
  obtain ⟨rfl, rfl⟩ := e0
  refine .sk (.seq (.block (.sr (.q (.indexAddr Y Y TI om) Y (.q (.loadRdA (sz := 4) (j := i * 4) (k := 4) (p := Ad 127 4 _ (BQ π.ω (AC π.τ (CY π) y ys).2.1).2.length ((BQ π.ω (AC π.τ (CY π) y ys).2.1).2.flatMap Kv)) (vs := Kv (BQ π.ω (AC π.τ (CY π) y ys).2.1).2[i]) Y AAo O (fun h hp => AZ hp) (by simp) om om (A3 (f := Kv) (sz := 4) (fun _ _ => Y) om)) Y (.oq (.allocA O6) ?_))))))
  rintro v L' ⟨b13, rfl, rfl⟩
  refine .sa Y Y ABH (by simp [Kv, AB]) ?_
  refine .nil (.pc b13 (Kv (BQ π.ω (AC π.τ (CY π) y ys).2.1).2[i]) ?_)
  refine .evTakeS (m := me2) (BQ π.ω (AC π.τ (CY π) y ys).2.1).2[i].1 O fun ae ce hse => (.then_n (.draw [15, 16, 17] [[0, 1, 2, 3, 4, 5, 6, 7, 8, 9, 10, 11, 12, 13, 14, 15, 16], [17]] mixed kQ (.go [Ae b _ _, Ae b13 _ _, mapR k.rev _] O (.k Y (.move Y) (.k Y (.nilp Y) (.k Y (.fieldAddr Y HB) (.k Y (.ld Y Mg) (.k Y (.fieldAddr Y QM) (.k Y (.ld Y AR) (.k Y (.move Y) (.k Y (.nilp Y) (.k Y (.fieldAddr Y HB) (.k Y (.ld Y Mg) (.k Y (.fieldAddr Y QM) (.k Y (.ld Y AR) (.k Y (.to (v' := .slice ae (BT me2 (BQ π.ω (AC π.τ (CY π) y ys).2.1).2[i].1).2.length ce) (.lookupV (m := me2) (enc := SP) (AX.int underlying3) (v := (BT me2 (BQ π.ω (AC π.τ (CY π) y ys).2.1).2[i].1).1) (fun b hb => Fq b hb) (fun hb => Fm hb) Y Y underlying83 Yr O Y) hse) (.kv Y (.fieldAddr Y Yd) (.kv Y (.la (BU (BQ π.ω (AC π.τ (CY π) y ys).2.1).2[i].2) Y EW) ?_))))))))))))))))))
  refine D.hh Y (.buildSlice (vs := [_]) DJ Bu Y Y Y Y cQ dQ) ?_
  rintro v L' ⟨bv, rfl, rfl⟩
  refine D.hh Y (.append1 Y Y Y DJ Bu Y Y ?c87 ?c88 (Nat.le_refl _) ?c89 dQ) ?_
  case c87 => simp only [map_cons, map_nil, flatten_cons, flatten_nil, append_nil]; simp [Value.cells, BU, AB]
  case c88 => rfl
  case c89 => omega
  rintro v L' ⟨⟨a7, c7, rfl⟩, rfl⟩
  refine D.ph (.g0 (.hh Y (.mapSet (m := me2) (enc := SP) (v := (.slice a7 ((BT me2 (BQ π.ω (AC π.τ (CY π) y ys).2.1).2[i].1).2.length + 1) c7, (BT me2 (BQ π.ω (AC π.τ (CY π) y ys).2.1).2[i].1).2 ++ [(BQ π.ω (AC π.τ (CY π) y ys).2.1).2[i].2])) (k := (BQ π.ω (AC π.τ (CY π) y ys).2.1).2[i].1) (AX.int underlying3) Y Y Y underlying83 ?he92) ?_))
  case he92 => rfl
  rintro v L' rfl
  refine D.ph (.fin (.evPut (m := me2) (BQ π.ω (AC π.τ (CY π) y ys).2.1).2[i].1 (v := .slice a7 ((BT me2 (BQ π.ω (AC π.τ (CY π) y ys).2.1).2[i].1).2.length + 1) c7) ((BT me2 (BQ π.ω (AC π.τ (CY π) y ys).2.1).2[i].1).2 ++ [(BQ π.ω (AC π.τ (CY π) y ys).2.1).2[i].2]) O (by rw [length_append]; rfl) (by rw [flatMap_append]; simp [Value.cells]) (.blk_n (.then_n (.region (.q (.add Y Y om) Y (.m Y (.nt ?_))))))))
  have ht2 := AAO hi2 hnd htl (.slice a7 ((BT me2 (BQ π.ω (AC π.τ (CY π) y ys).2.1).2[i].1).2.length + 1) c7)
  exact .rk ((i + 1, BR me2 (BQ π.ω (AC π.τ (CY π) y ys).2.1).2[i].1 (.slice a7 ((BT me2 (BQ π.ω (AC π.τ (CY π) y ys).2.1).2[i].1).2.length + 1) c7, (BT me2 (BQ π.ω (AC π.τ (CY π) y ys).2.1).2[i].1).2 ++ [(BQ π.ω (AC π.τ (CY π) y ys).2.1).2[i].2]))) (⟨by dsimp only; omega, ht2.1, ht2.2⟩) (by dsimp only; omega) O
 have hie : i = (BQ π.ω (AC π.τ (CY π) y ys).2.1).2.length := by omega
 subst hie
 rw [take_length] at htl
 refine .xe (.seq (.sr (.fa Y B1 (.u (.ld Y AR) (.ui Y Y Y (.nt (.condD Y (fun h77 => ?_) (fun h77 => ?_))))))))
 ·refine .seq (.tbCast (t := k.u) (ω' := (BQ π.ω (AC π.τ (CY π) y ys).2.1).1) O Y (.draw [7] [[0, 1, 2, 3, 4, 5, 6, 7]] mixed kQ (.g0 (.mv Y Y (.nf Y Y Y Dm (.kv Y (.fieldAddr Y Lv) (.kv Y (.ld Y UY) (.kv Y (.fieldAddr Y CZ) (.kv Y (.ld Y AR) (.hh Y (.c func44 [_, _] (Sd k.u (BQ π.ω (AC π.τ (CY π) y ys).2.1).1 y.own om)) ?_))))))))))
  rintro v L' ⟨rfl, rfl⟩
  refine D.pf (.seq (.draw [6] [[0, 1, 2, 3, 4, 5, 6]] mixed kQ (.g0 (.mv Y Y (.nf Y Y Y J2 (.kv Y (.ld Y Q8) (.kv Y (.fieldAddr Y CZ) (.kv Y (.ld Y AR) (.hh Y (.mapDel (m := mi) (enc := SP) (k := y.own) (AX.int underlying3) Y Y Y underlying82 ?he113) ?_)))))))))
  case he113 => rfl
  rintro v L' rfl
  refine D.pf (.draw [6] [[0, 1, 2, 3, 4, 5, 6]] mixed kQ (.g0 (.mv Y Y (.nf Y Y Y HB (.kv Y (.ld Y Mg) (.kv Y (.fieldAddr Y CZ) (.kv Y (.ld Y AR) (.hh Y (.mapDel (m := me2) (enc := SP) (k := y.own) (AX.int underlying3) Y Y Y underlying83 ?he121) ?_))))))))
  case he121 => rfl
  rintro v L' rfl
  refine D.ph (.fin (.evTake (m := me2) y.own O (.then_n (.seq (.tbCast (t := k.u) (ω' := (Bv π s x y ys).ω) O (by show (if y.kind = 6 then _ else _) = _; rw [if_pos h77]) (.region (.q (.la (DQ (Br π s x y ys)) Y ER) Y (.sa Y Y Is (by exact IZ hc.1 hcv) ?_))))))))
  refine .nil (.pc b8 (DQ (Br π s x y ys)) ?_)
  refine .then_n (.ret ?_)
  exact .d1 Y (.cellA Y ER O (by simp [DR, AW, DQ, A1]) Y) ⟨⟨_, BX mi y.own, BX me2 y.own⟩, Y, hI.put6 s x y ys hnd h77 htl, (if_pos h77).symm, Y⟩
 refine .sk (.seq (.tbCast (t := k.u) (ω' := (Bv π s x y ys).ω) O (by show (if y.kind = 6 then _ else _) = _; rw [if_neg h77]) (.region (.q (.la (DQ (Br π s x y ys)) Y ER) Y (.sa Y Y Is (by exact IZ hc.1 hcv) ?_)))))
 refine .nil (.pc b8 (DQ (Br π s x y ys)) ?_)
 refine .then_n (.ret ?_)
 exact .d1 Y (.cellA Y ER O (by simp [DR, AW, DQ, A1]) Y) ⟨⟨_, mi, me2⟩, Y, hI.put s x y ys hnd h77 htl, (if_neg h77).symm, Y⟩
end Go.Proofs.YtmbnebafdhpgpaaGreatDoor
/-
 DERIVED: THE SHELF's CONTRACTS AT THIS DUMP, IN PLAIN WORDS (tools/lay-plain.mjs out of 'YtmbnebafdhpgpaaGreatDoorLayQ.lean', which tools/lay-shelf.mjs wrote): THE SAME DECLARATIONS UNDER THE SAME NAMES: 'import', 'namespace', 'open', 'def', 'theorem' AND NOTHING ELSE: no command of the shelf's: FOR A HAND-IN. Each laying: the table of numbers ('.._ren') and one theorem, a field a fact of the dump's own or the kernel's comparison; each GB: ONE APPLICATION.
-/
namespace Go.Proofs
open Go List Go.Proofs.Tryz Go.Shelf
def Tryz.tzA_ren : Go.Shelf.Ren := ⟨fun | 27 => 259 | 28 => 282 | 29 => 283 | n => n, fun | 25 => 160 | 3 => 3 | 27 => 219 | 22 => 180 | 4 => 4 | 53 => 326 | 0 => 0 | 5 => 5 | 54 => 327 | n => n, fun | 0 => 2 | 1 => 3 | n => n⟩
theorem Tryz.tzA : Go.Proofs.Lays7.n27 prog Tryz.tzA_ren := {
 mixed := by kernel_rfl
 f27 := func259.trans (congrArg some (by kernel_rfl))
 f28 := func282.trans (congrArg some (by kernel_rfl))
 f29 := func283.trans (congrArg some (by kernel_rfl))
 t0 := underlying0
 a0 := Tryz.isAgg0
 z0 := Tryz.sizeOf0
 v0 := Tryz.zeroValue0
 i0 := by kernel_rfl
 t3 := underlying3
 a3 := Tryz.isAgg3
 z3 := Tryz.sizeOf3
 v3 := Tryz.zeroValue3
 i3 := by kernel_rfl
 t4 := underlying4
 a4 := Tryz.isAgg4
 z4 := Tryz.sizeOf4
 v4 := Tryz.zeroValue4
 i4 := by kernel_rfl
 t5 := underlying5
 a5 := Tryz.isAgg5
 z5 := Tryz.sizeOf5
 v5 := Tryz.zeroValue5
 i5 := by kernel_rfl
 t22 := underlying180
 a22 := Tryz.isAgg180
 z22 := Tryz.sizeOf180
 v22 := Tryz.zeroValue180
 i22 := by kernel_rfl
 t25 := underlying160
 a25 := Tryz.isAgg160
 z25 := Tryz.sizeOf160
 v25 := Tryz.zeroValue160
 i25 := by kernel_rfl
 t27 := underlying219
 a27 := Tryz.isAgg219
 z27 := Tryz.sizeOf219
 v27 := Tryz.zeroValue219
 i27 := by kernel_rfl
 t53 := underlying326
 a53 := Tryz.isAgg326
 z53 := Tryz.sizeOf326
 v53 := Tryz.zeroValue326
 i53 := by kernel_rfl
 t54 := underlying327
 a54 := Tryz.isAgg327
 z54 := Tryz.sizeOf327
 g0 := by kernel_rfl
 g1 := by kernel_rfl }
end Go.Proofs
namespace Go.Proofs.YtmbnebafdhpgpaaGreatDoor
open Go List Go.Proofs.Tryz Go.RowKit Go.Sort Go.Shelf
def Lc (d : Nat) : UInt8 := if d < 10 then (48 + d).toUInt8 else (87 + d).toUInt8
def EY (u : Nat) : Bs := if u < 16 then [Lc u] else EY (u / 16) ++ [Lc (u % 16)]
termination_by u
def ABw (h : Int) (c : UInt8) : Int := IntKind.u64.wrap (IntKind.u64.wrap (BitVec.ofInt IntKind.u64.bits h ^^^ BitVec.ofInt IntKind.u64.bits (IntKind.u64.wrap (c.toNat : Int))).toNat * 1099511628211)
def NL (l : Bs) : Int := l.foldl ABw 14695981039346656037
def Ko (l : Bs) : Nat := (NL l).toNat
def ACa (name secret : Bs) : Bs := name ++ [58] ++ List.replicate (16 - (EY (Ko (name ++ [58] ++ secret))).length) 48 ++ EY (Ko (name ++ [58] ++ secret))
def BW (name secret : Bs) : Bs × Int := if Ji name = true then (ACa name secret, 0) else ([], 50)
theorem L5 {u : Nat} (h : u < 16) : EY u = [Lc u] := by rw [EY, if_pos h]
theorem UH {u : Nat} (h : ¬ u < 16) : EY u = EY (u / 16) ++ [Lc (u % 16)] := by rw [EY, if_neg h]
theorem Mp {u : Nat} (h : u < 18446744073709551616) : 1 ≤ (EY u).length ∧ (EY u).length ≤ 16 := by
 have key : ∀ (k u : Nat), u < 16 ^ (k + 1) → 1 ≤ (EY u).length ∧ (EY u).length ≤ k + 1 := by
  intro k
  induction k with
  | zero => intro u h; rw [L5 om]; simp
  | succ k ih =>
   intro u h
   rcases Nat.lt_or_ge u 16 with g | g
   ·rw [L5 g]; simp
   ·rw [UH om, length_append, length_singleton]
    have := ih (u / 16) (by rw [Nat.div_lt_iff_lt_mul dQ]; rw [Nat.pow_succ] at h; exact h)
    omega
 exact key 15 u h
theorem Pj (n : Int) : 0 ≤ IntKind.u64.wrap n ∧ IntKind.u64.wrap n < 18446744073709551616 := by
 rw [IntKind.wrap_u64]; omega
theorem UF (l : Bs) : 0 ≤ NL l ∧ NL l < 18446744073709551616 := by
 unfold NL
 rcases eq_nil_or_concat l with rfl | ⟨l, c, rfl⟩
 ·exact ⟨by decide, by decide⟩
 ·rw [concat_eq_append, foldl_append]; exact Pj _
theorem YT (l : Bs) : ((Ko l : Nat) : Int) = NL l := by
 have := UF l
 unfold Ko; omega
theorem AAP (l : Bs) : Ko l < 18446744073709551616 := by
 have := UF l
 unfold Ko; omega
theorem W7 {l : Bs} {i : Nat} (h : i < l.length) : NL (l.take (i + 1)) = ABw (NL (l.take i)) l[i] := by
 unfold NL
 rw [take_succ_eq_append_getElem h, foldl_append]; rfl
def AAt : Bs := [48, 49, 50, 51, 52, 53, 54, 55, 56, 57, 97, 98, 99, 100, 101, 102, 103, 104, 105, 106, 107, 108, 109, 110, 111, 112, 113, 114, 115, 116, 117, 118, 119, 120, 121, 122]
theorem QI : ∀ d : Nat, d < 16 → AAt[d]? = some (Lc d) := by decide
theorem ABv {u : Nat} (h : u < 18446744073709551616) : IntKind.u64.wrap ((BitVec.ofInt IntKind.u64.bits (u : Int) &&& BitVec.ofInt IntKind.u64.bits 15).toNat : Int) = ((u % 16 : Nat) : Int) := by
 have e1 : (BitVec.ofInt IntKind.u64.bits (u : Int)).toNat = u := by
  show (BitVec.ofInt 64 (u : Int)).toNat = u
  rw [BitVec.ofInt_natCast, BitVec.toNat_ofNat]; exact Nat.mod_eq_of_lt h
 have e2 : (BitVec.ofInt IntKind.u64.bits 15).toNat = 15 := by decide
 rw [BitVec.toNat_and, e1, e2, show (15 : Nat) = 2 ^ 4 - 1 from rfl, Nat.and_two_pow_sub_one_eq_mod, IntKind.wrap_u64]
 omega
theorem ACq (u : Nat) : (u : Int).fdiv (2 ^ min (4 : Int).toNat IntKind.u64.bits) = ((u / 16 : Nat) : Int) := by
 rw [show (2 : Int) ^ min (4 : Int).toNat IntKind.u64.bits = 16 from rfl, Int.fdiv_eq_ediv_of_nonneg _ dQ]
 omega
theorem Q2 {xs ys : List Value} {v : Value} (h : 0 < xs.length) : (xs ++ ys).set (xs.length - 1) v = xs.dropLast ++ v :: ys := by
 rw [set_append_left _ _ om]
 have : xs.set (xs.length - 1) v = xs.dropLast ++ [v] := by
  rcases eq_nil_or_concat xs with rfl | ⟨l, c, rfl⟩
  ·simp at h
  ·rw [concat_eq_append]
   simp
 rw [this, append_assoc]; rfl
theorem Yq {u : Nat} {ys zs : Bs} (h : EY u ++ ys = zs) (hu : ¬ u < 16) : EY (u / 16) ++ Lc (u % 16) :: ys = zs := by
 rw [UH hu, append_assoc] at h; exact h
section
variable {P : Program} {E : B0} {L R : List HP} {ty : TypeId} {w : World}
theorem AK.indexArr {t : TypeId} {x y : Operand} {b off n e sz : Nat} {k : IntKind} {i : Int} (hx : ev E x = some (.pointer (some ⟨b, off, none⟩))) (hy : ev E y = some (.int k i)) (ht : Qq P t = some (n, e, sz))
  (h0 : 0 ≤ i ∧ i < n) : AK P ⟨none, .indexAddr t x y, ty, "", #[], none⟩ E L (.pointer (some ⟨b, off + i.toNat * sz, none⟩)) := by
 intro ρ w ha _
 unfold Qq at ht
 split at ht <;> (try cases ht)
 rename_i n' e' hu
 split at ht <;> (try cases ht)
 rename_i inf hin
 simp [execOp, ha x _ hx, ha y _ hy, Instr.indexAt, asIntOf, underlying, program, hu, h0, sizeOf, typeInfo, hin, Addr.add_eq, Instr.sureAddr, Bind.bind, Sem.bind, Pure.pure, Sem.run]
end
def PK (p : HP) : Prop := ∀ (h : Hp) (w : World), p h → (∀ b o, h b = some o → w.heap[b]? = some o) → Lib.TabIs prog w "math/bits.deBruijn64tab" .u8 (Lib.deBruijn64tab.map fun n : Nat => (n : Int))
theorem Zq (p : HP) (hT : PK p) : Fn prog 259 #[.int .u64 16] [p] fun v L => v = AA 4 ∧ L = [p] := by
 intro F w hs
 obtain ⟨h1, hle, hp⟩ := Ap (show CD (p :: F) _ from hs)
 have hT := hT h1 w hp hle
 refine (Any7.bits_TrailingZeros Tryz.tzA 16 dQ w fun _ j hj => ?_).mono ?_
 ·have := hT.cell (g := Tryz.tzA_ren.g 1) kQ j (by rw [length_map]; exact hj)
  rw [show ((Lib.deBruijn64tab.map fun n : Nat => (n : Int)).getD j 0) = ((Lib.deBruijn64tab.getD j 0 : Nat) : Int) from by simp [List.getD, hj]] at this
  exact this
 ·rintro e w' ⟨rfl, rfl⟩
  exact ⟨_, _, ⟨by kernel_rfl, rfl⟩, rfl, hs, Au.refl _⟩
theorem Ou (k : Nat) (hk : k ≤ 16) : Fn prog 96 #[AD [48], AA k] [] fun v L => v = AD (List.replicate k 48) ∧ L = [] := by
 intro F w hs
 refine (Any.strings_Repeat Tryz.repeatA Tk (bs [48]) k w om (by simp [Bb]; omega)).mono ?_
 rintro e w' ⟨rfl, hb⟩
 have q : ∀ k : Nat, k < 17 → Lib.repeatL ([48] : Bs) k = List.replicate k 48 := by decide +kernel
 have e : (Value.string ⟨(Lib.repeatL (bs [48]).data.toList k).toArray⟩ : Value) = AD (List.replicate k 48) := by
  rw [show (bs [48]).data.toList = ([48] : Bs) from rfl, q k om]
 exact ⟨_, _, ⟨e, rfl⟩, rfl, hs.below hb, Au.below hb⟩
end Go.Proofs.YtmbnebafdhpgpaaGreatDoor
