/- Own work: what all layers share, as plain data: events, rows of ACLs, stats; texts in their order; sorted tables. -/
import Derived.Test.YtnnbelmpbmfdnaaDoorPath
import Derived.Test.YtnnbelmpbmfdnaaDoorSlStruct
namespace Go.Proofs.YtnnbelmpbmfdnaaDoor
open Go

abbrev Ev := Int × (Bs × Int)
def evC (e : Ev) : List Value := [vint e.1, vstr e.2.1, vint e.2.2]
abbrev Ac := Int × Bs
def acC (a : Ac) : List Value := [vint a.1, vstr a.2]
structure Stt where
  cz : Int
  mz : Int
  pz : Int
  ver : Int
  cver : Int
  av : Int
  own : Int
  len : Int
  kids : Int
theorem Stt.ext' {a b : Stt} (h : [a.cz, a.mz, a.pz, a.ver, a.cver, a.av, a.own, a.len, a.kids] = [b.cz, b.mz, b.pz, b.ver, b.cver, b.av, b.own, b.len, b.kids]) : a = b := by
  cases a; cases b; simp at h; simp [h]
instance : DecidableEq Stt := fun a b => decidable_of_iff ([a.cz, a.mz, a.pz, a.ver, a.cver, a.av, a.own, a.len, a.kids] = [b.cz, b.mz, b.pz, b.ver, b.cver, b.av, b.own, b.len, b.kids]) ⟨Stt.ext', fun h => by rw [h]⟩
def st0 : Stt := ⟨0, 0, 0, 0, 0, 0, 0, 0, 0⟩
def stC (s : Stt) : List Value := [vint s.cz, vint s.mz, vint s.pz, vint s.ver, vint s.cver, vint s.av, vint s.own, vint s.len, vint s.kids]
/-! ### Structs compared -/
theorem ev_eq (d : Nat) (a b : Ev) : EqAt Tryd.prog (d + 2) 35 (.agg (evC a).toArray) (.agg (evC b).toArray) (decide (a = b)) := by
  have h := EqAt.struct (d := d + 1) (xs := evC a) (ys := evC b) Tryd.underlying35 (by kernel_rfl)
    (.cons (FEq.cell (by decide) ag_3 rfl rfl (EqAt.int Tryd.underlying3 a.1 b.1)) (.cons (FEq.cell (by decide) ag_9 rfl rfl (EqAt.str Tryd.underlying9 a.2.1 b.2.1)) (.cons (FEq.cell (by decide) ag_3 rfl rfl (EqAt.int Tryd.underlying3 a.2.2 b.2.2)) .nil)))
  have e : ([decide (a.1 = b.1), decide (a.2.1 = b.2.1), decide (a.2.2 = b.2.2)].all id) = decide (a = b) := by
    obtain ⟨a1, a2, a3⟩ := a; obtain ⟨b1, b2, b3⟩ := b
    simp [Bool.decide_and]
  rw [← e]; exact h
theorem st_eq (d : Nat) (a b : Stt) : EqAt Tryd.prog (d + 2) 71 (.agg (stC a).toArray) (.agg (stC b).toArray) (decide (a = b)) := by
  have q := fun x y : Int => EqAt.int (d := d) Tryd.underlying3 x y
  have h := EqAt.struct (d := d + 1) (xs := stC a) (ys := stC b) Tryd.underlying71 (by kernel_rfl)
    (.cons (FEq.cell (by decide) ag_3 rfl rfl (q a.cz b.cz)) (.cons (FEq.cell (by decide) ag_3 rfl rfl (q a.mz b.mz)) (.cons (FEq.cell (by decide) ag_3 rfl rfl (q a.pz b.pz)) (.cons (FEq.cell (by decide) ag_3 rfl rfl (q a.ver b.ver)) (.cons (FEq.cell (by decide) ag_3 rfl rfl (q a.cver b.cver))
      (.cons (FEq.cell (by decide) ag_3 rfl rfl (q a.av b.av)) (.cons (FEq.cell (by decide) ag_3 rfl rfl (q a.own b.own)) (.cons (FEq.cell (by decide) ag_3 rfl rfl (q a.len b.len)) (.cons (FEq.cell (by decide) ag_3 rfl rfl (q a.kids b.kids)) .nil)))))))))
  have e : ([decide (a.cz = b.cz), decide (a.mz = b.mz), decide (a.pz = b.pz), decide (a.ver = b.ver), decide (a.cver = b.cver), decide (a.av = b.av), decide (a.own = b.own), decide (a.len = b.len), decide (a.kids = b.kids)].all id) = decide (a = b) := by
    cases a; cases b
    simp [Bool.decide_and]
  rw [← e]; exact h
theorem ac_eq (d : Nat) (a b : Ac) : EqAt Tryd.prog (d + 2) 84 (.agg (acC a).toArray) (.agg (acC b).toArray) (decide (a = b)) := by
  have h := EqAt.struct (d := d + 1) (xs := acC a) (ys := acC b) Tryd.underlying84 (by kernel_rfl)
    (.cons (FEq.cell (by decide) ag_3 rfl rfl (EqAt.int Tryd.underlying3 a.1 b.1)) (.cons (FEq.cell (by decide) ag_9 rfl rfl (EqAt.str Tryd.underlying9 a.2 b.2)) .nil))
  have e : ([decide (a.1 = b.1), decide (a.2 = b.2)].all id) = decide (a = b) := by
    obtain ⟨a1, a2⟩ := a; obtain ⟨b1, b2⟩ := b
    simp [Bool.decide_and]
  rw [← e]; exact h
theorem flatMap_cell {α : Type} {f : α → List Value} {sz k : Nat} {l : List α} {i : Nat} (hf : ∀ x ∈ l, (f x).length = sz) (hi : i < l.length) (hk : k < sz) : (l.flatMap f)[i * sz + k]? = (f l[i])[k]? := by
  have h := flatMap_at hf hi
  have h2 : (((l.flatMap f).drop (i * sz)).take sz)[k]? = (f l[i])[k]? := by rw [h]
  rw [List.getElem?_take, if_pos hk, List.getElem?_drop] at h2
  exact h2
theorem ev_cell {l : List Ev} {i k : Nat} (hi : i < l.length) (hk : k < 3) : (l.flatMap evC)[i * 3 + k]? = (evC l[i])[k]? := flatMap_cell (f := evC) (sz := 3) (fun _ _ => rfl) hi hk
theorem slR_makeN {T : TypeId} {b m sz : Nat} {l : List Value} {h : Hp} (hl : l.length = m * sz) (hp : ptc b l T h) : slR T sz (.slice (some ⟨b, 0, none⟩) m m) m l h :=
  .inr ⟨b, m, [], (0, 0), rfl, by rw [List.append_nil]; exact hp, hl, by simp; omega, Nat.le_refl _, nfz0 _ _⟩
/-- A row that is read, and nobody's to write. -/
def rdO (sz : Nat) (v : Value) (n : Nat) (ys : List Value) : HP := fun h => rdS sz h v n ys
section
variable {W : World} {n : Nat} {ds : List Deferred} {E : Env} {L R : List HP} {X : Act → World → Prop}
theorem G.slMakeN (sz m : Nat) {T : TypeId} {b : Nat} {l xs : List Value} (hL : Pick (ptc b l T) L R) (hx : l = xs) (hl : xs.length = m * sz) (h : G W n ds E (slR T sz (.slice (some ⟨b, 0, none⟩) m m) m xs :: R) X) : G W n ds E L X := by
  subst hx
  exact fun a w he hk hs => h a w he hk (sep_imp (fun _ hp => slR_makeN hl hp) (hs.pick hL))
theorem G.toRd {T : TypeId} {sz m : Nat} {v : Value} {xs : List Value} (hL : Pick (slR T sz v m xs) L R) (h : G W n ds E (rdO sz v m xs :: R) X) : G W n ds E L X :=
  fun a w he hk hs => h a w he hk (sep_imp (fun _ hp => slR_rd hp) (hs.pick hL))
end
theorem G.rdNil {W : World} {n : Nat} {ds : List Deferred} {E : Env} {L R : List HP} {X : Act → World → Prop} {p : HP} {sz m c : Nat} {ys : List Value} (hr : ∀ h : Hp, p h → rdS sz h (.slice none m c) m ys) (hL : Pick p L R) (h : m = 0 → G W n ds E L X) : G W n ds E L X := by
  intro a w he hk hs
  obtain ⟨h1, -, hp⟩ := sep_head (hs.pick hL)
  rcases hr _ hp with ⟨h0, -⟩ | ⟨b, off, cap, l, T, fr, hv, -⟩
  · exact h h0 a w he hk hs
  · simp at hv
theorem big_one {α : Type} {f : α → HP} {x : α} {h : Hp} (hp : f x h) : bigR f [x] h :=
  ⟨h, fun _ => none, fun _ => .inr rfl, fun _ _ e => e, fun _ _ e => (by cases e), hp, trivial⟩
theorem OpSpec.mapInsert {P : Program} {E : Env} {ty : TypeId} {K β : Type} [DecidableEq K] {kv : K → Value} {enc : β → Value} {kt et : TypeId} (hl : KeyLaw P kt kv) {t : TypeId} {x y z : Operand} {m : List (K × β)} {r : Nat} {k : K} {v : β} {ents : List (Value × Value)} (hx : ev E x = some (.map (some r))) (hy : ev E y = some (kv k)) (hz : ev E z = some (enc v)) (ht : P.underlying t = some (.map kt et))
    (he : ents = m.map fun x => (kv x.1, enc x.2)) : OpSpec P ⟨none, .insert t x y z, ty, "", #[], none⟩ E [mapR r ents] fun _ L' => L' = [mapR r ((aset m k v).map fun x => (kv x.1, enc x.2))] :=
  fun ρ w F ha hs => OpSpec.mapSet (ty := ty) hl hx hy hz ht he ρ w F ha hs
theorem nodup_len {α : Type} [DecidableEq α] : ∀ {l m : List α}, l.Nodup → (∀ x ∈ l, x ∈ m) → l.length ≤ m.length := by
  intro l
  induction l with
  | nil => intro m _ _; simp
  | cons a l ih =>
    intro m hn hs
    obtain ⟨h1, h2⟩ := List.nodup_cons.1 hn
    have ha := hs a List.mem_cons_self
    have := ih (m := m.erase a) h2 fun x hx => (List.mem_erase_of_ne (fun (e : x = a) => h1 (e ▸ hx))).2 (hs x (List.mem_cons_of_mem _ hx))
    rw [List.length_erase_of_mem ha] at this
    have hp := List.length_pos_of_mem ha
    rw [List.length_cons]; omega
/-! ### Texts in their order -/
structure Lin (K : Type) [LT K] : Prop where
  irr : ∀ a : K, ¬ a < a
  tr : ∀ a b c : K, a < b → b < c → a < c
  tri : ∀ a b : K, a < b ∨ a = b ∨ b < a
theorem linB : Lin Bs where
  irr := fun a => List.lt_irrefl a
  tr := fun _ _ _ h1 h2 => List.lt_trans h1 h2
  tri := fun a b => by
    rcases Decidable.em (a < b) with h | h
    · exact .inl h
    · rcases Decidable.em (b < a) with h2 | h2
      · exact .inr (.inr h2)
      · exact .inr (.inl (List.le_antisymm (List.not_lt.1 h2) (List.not_lt.1 h)))
theorem linI : Lin Int where
  irr := fun a => Int.lt_irrefl a
  tr := fun _ _ _ h1 h2 => Int.lt_trans h1 h2
  tri := fun a b => Int.lt_trichotomy a b
/-! ### SortedK tables -/
def sset {K β : Type} [LT K] [DecidableEq K] [DecidableLT K] : List (K × β) → K → β → List (K × β)
  | [], k, v => [(k, v)]
  | x :: l, k, v => if x.1 = k then (k, v) :: l else if k < x.1 then (k, v) :: x :: l else x :: sset l k v
def SortedK {K β : Type} [LT K] (l : List (K × β)) : Prop := (l.map (·.1)).Pairwise (· < ·)
theorem SortedK.nodup {K β : Type} [LT K] (ho : Lin K) {l : List (K × β)} (h : SortedK l) : (l.map (·.1)).Nodup := List.Pairwise.imp (S := fun a b : K => a ≠ b) (fun {a b} hab e => ho.irr b (by rw [e] at hab; exact hab)) h
theorem SortedK.filter {K β : Type} [LT K] {l : List (K × β)} (h : SortedK l) (f : K × β → Bool) : SortedK (l.filter f) := List.Pairwise.sublist (List.Sublist.map _ List.filter_sublist) h
theorem sset_keys {K β : Type} [LT K] [DecidableEq K] [DecidableLT K] (l : List (K × β)) (k x : K) (v : β) : x ∈ (sset l k v).map (·.1) ↔ x = k ∨ x ∈ l.map (·.1) := by
  induction l with
  | nil => simp [sset]
  | cons y l ih =>
    unfold sset
    split
    · rename_i h; simp [h]
    · split
      · simp
      · rw [List.map_cons, List.mem_cons, ih, List.map_cons, List.mem_cons]
        constructor
        · rintro (h | h | h)
          · exact .inr (.inl h)
          · exact .inl h
          · exact .inr (.inr h)
        · rintro (h | h | h)
          · exact .inr (.inl h)
          · exact .inl h
          · exact .inr (.inr h)
theorem SortedK.sset {K β : Type} [LT K] [DecidableEq K] [DecidableLT K] (ho : Lin K) {l : List (K × β)} (h : SortedK l) (k : K) (v : β) : SortedK (sset l k v) := by
  induction l with
  | nil => simp [SortedK, Go.Proofs.YtnnbelmpbmfdnaaDoor.sset]
  | cons y l ih =>
    obtain ⟨h1, h2⟩ := List.pairwise_cons.1 h
    unfold Go.Proofs.YtnnbelmpbmfdnaaDoor.sset
    split
    · rename_i e; subst e; exact List.pairwise_cons.2 ⟨h1, h2⟩
    · rename_i e
      split
      · rename_i hl
        refine List.pairwise_cons.2 ⟨fun a ha => ?_, h⟩
        rcases List.mem_cons.1 ha with rfl | ha
        · exact hl
        · exact ho.tr _ _ _ hl (h1 a ha)
      · rename_i hl
        refine List.pairwise_cons.2 ⟨fun a ha => ?_, ih h2⟩
        rcases (sset_keys l k a v).1 ha with rfl | ha
        · rcases ho.tri y.1 a with g | g | g
          · exact g
          · exact absurd g e
          · exact absurd g hl
        · exact h1 a ha
theorem al_sset {K β : Type} [LT K] [DecidableEq K] [DecidableLT K] (l : List (K × β)) (k x : K) (v : β) : alook (sset l k v) x = if x = k then some v else alook l x := by
  induction l with
  | nil => simp [sset, alook]
  | cons y l ih =>
    obtain ⟨a, b⟩ := y
    unfold sset
    dsimp only
    split
    · rename_i e; subst e
      by_cases hx : x = a <;> simp [alook, hx]
    · rename_i e
      split
      · by_cases hx : x = k <;> simp [alook, hx]
      · by_cases hx : x = a
        · subst hx; simp [alook, e]
        · simp [alook, hx, ih]
theorem al_filter {K β : Type} [DecidableEq K] {l : List (K × β)} (f : K → Bool) (x : K) : alook (l.filter fun y => f y.1) x = if f x = true then alook l x else none := by
  induction l with
  | nil => simp [alook]
  | cons y l ih =>
    obtain ⟨a, b⟩ := y
    by_cases hf : f a = true
    · rw [List.filter_cons_of_pos (by simpa using hf)]
      by_cases hx : x = a
      · subst hx; simp [alook, hf]
      · simp only [alook, hx, if_false]; exact ih
    · rw [List.filter_cons_of_neg (by simpa using hf), ih]
      by_cases hx : x = a
      · subst hx; simp [hf]
      · simp only [alook, hx, if_false]
theorem sset_len {K β : Type} [LT K] [DecidableEq K] [DecidableLT K] (l : List (K × β)) (k : K) (v : β) : (sset l k v).length ≤ l.length + 1 ∧ l.length ≤ (sset l k v).length := by
  induction l with
  | nil => simp [sset]
  | cons y l ih =>
    unfold sset
    split
    · simp
    · split
      · simp
      · simp; omega
/-- Two sorted tables with the same answers are the same. -/
theorem sorted_same {K β : Type} [LT K] [DecidableEq K] (ho : Lin K) : ∀ {l m : List (K × β)}, SortedK l → SortedK m → (∀ k, alook l k = alook m k) → l = m
  | [], [], _, _, _ => rfl
  | [], y :: m, _, _, h => by have := h y.1; simp [alook] at this
  | x :: l, [], _, _, h => by have := h x.1; simp [alook] at this
  | x :: l, y :: m, hl, hm, h => by
    obtain ⟨h1, h2⟩ := List.pairwise_cons.1 hl
    obtain ⟨g1, g2⟩ := List.pairwise_cons.1 hm
    obtain ⟨a, b⟩ := x; obtain ⟨c, d⟩ := y
    dsimp only at h1 g1
    have hx := h a
    have hy := h c
    have key : a = c := by
      simp only [alook, if_true] at hx hy
      by_cases e : a = c
      · exact e
      · rw [if_neg e] at hx
        rw [if_neg (fun g => e g.symm)] at hy
        have m1 : a ∈ m.map (·.1) := al_isSome.1 (by rw [← hx]; rfl)
        have m2 : c ∈ l.map (·.1) := al_isSome.1 (by rw [hy]; rfl)
        exact absurd (ho.tr _ _ _ (g1 a m1) (h1 c m2)) (ho.irr _)
    subst key
    have hb : b = d := by simpa [alook] using hx
    subst hb
    congr 1
    refine sorted_same ho h2 g2 fun k => ?_
    have hk := h k
    by_cases e : k = a
    · subst e
      have n1 : alook l k = none := al_none.2 fun g => ho.irr _ (h1 k g)
      have n2 : alook m k = none := al_none.2 fun g => ho.irr _ (g1 k g)
      rw [n1, n2]
    · simpa [alook, e] using hk
def amod {K β : Type} [DecidableEq K] (l : List (K × β)) (k : K) (f : β → β) : List (K × β) := l.map fun x => if x.1 = k then (x.1, f x.2) else x
theorem amod_keys {K β : Type} [DecidableEq K] (l : List (K × β)) (k : K) (f : β → β) : (amod l k f).map (·.1) = l.map (·.1) := by
  unfold amod
  rw [List.map_map]
  refine List.map_congr_left fun x _ => ?_
  dsimp only [Function.comp]
  split <;> rfl
theorem al_amod {K β : Type} [DecidableEq K] (l : List (K × β)) (k : K) (f : β → β) (x : K) : alook (amod l k f) x = if x = k then (alook l x).map f else alook l x := by
  induction l with
  | nil => simp [amod, alook]
  | cons y l ih =>
    obtain ⟨a, b⟩ := y
    unfold amod at ih ⊢
    rw [List.map_cons]
    dsimp only
    by_cases ha : a = k
    · subst ha
      rw [if_pos rfl]
      by_cases hx : x = a
      · subst hx; simp [alook]
      · simp only [alook, hx, if_false] at ih ⊢; exact ih
    · rw [if_neg ha]
      by_cases hx : x = a
      · subst hx; simp [alook, ha]
      · simp only [alook, hx, if_false] at ih ⊢; exact ih
theorem amod_len {K β : Type} [DecidableEq K] (l : List (K × β)) (k : K) (f : β → β) : (amod l k f).length = l.length := by unfold amod; simp
theorem SortedK.amod {K β : Type} [LT K] [DecidableEq K] {l : List (K × β)} (h : SortedK l) (k : K) (f : β → β) : SortedK (amod l k f) := by
  unfold SortedK; rw [amod_keys]; exact h
end Go.Proofs.YtnnbelmpbmfdnaaDoor
