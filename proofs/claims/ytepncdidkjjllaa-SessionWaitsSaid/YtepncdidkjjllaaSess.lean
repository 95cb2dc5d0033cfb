/- Own work: a tracker of sessions as plain data, and what stands for it in memory. -/
import Derived.Test.YtepncdidkjjllaaFacts
import Derived.Test.YtepncdidkjjllaaSlMore
import Derived.Test.YtepncdidkjjllaaSlRange
import Derived.Test.YtepncdidkjjllaaSlSort
namespace Go.Proofs.Ytepncdidkjjllaa
open Go

abbrev Ses := List (Int × (Int × Int))
def sins : Ses → Int → Int × Int → Ses
  | [], k, e => [(k, e)]
  | (a, b) :: σ, k, e => if k < a then (k, e) :: (a, b) :: σ else if k = a then (k, e) :: σ else (a, b) :: sins σ k e
def Sorted (σ : Ses) : Prop := σ.Pairwise (fun x y => x.1 < y.1)
structure SOk (σ : Ses) : Prop where
  sorted : Sorted σ
  few : σ.length ≤ 16
  fit : ∀ x ∈ σ, 1 ≤ x.1 ∧ x.1 ≤ 9223372036854775807 ∧ 4 ≤ x.2.1 ∧ x.2.1 ≤ 60 ∧ 0 ≤ x.2.2 ∧ x.2.2 ≤ 1099511627840
def endsZ (now timeout : Int) : Int := (now + timeout + 3) / 4 * 4
def badTime (now : Int) : Prop := now < 0 ∨ 1099511627776 < now
instance (now : Int) : Decidable (badTime now) := inferInstanceAs (Decidable (_ ∨ _))
def sOpen (σ : Ses) (id to now : Int) : Ses × Int :=
  if id < 1 ∨ to < 4 ∨ to > 60 ∨ badTime now then (σ, 1) else if alook σ id = none ∧ 16 ≤ σ.length then (σ, 91) else (sins σ id (to, endsZ now to), 0)
def sTouch (σ : Ses) (id now : Int) : Ses × Int :=
  match alook σ id with
  | none => (σ, 90)
  | some e => if badTime now then (σ, 1) else (sins σ id (e.1, max e.2 (endsZ now e.1)), 0)
def sClose (σ : Ses) (id : Int) : Ses × Int := if alook σ id = none then (σ, 90) else (adel σ id, 0)
def sDead (σ : Ses) (id : Int) : Int × Int := match alook σ id with | none => (0, 90) | some e => (e.2, 0)
def sExp (σ : Ses) (now : Int) : List Int := (σ.filter fun x => decide (x.2.2 ≤ now)).map (·.1)
def sAll (σ : Ses) : List Int := σ.map (·.1)

theorem Sorted.nodup {σ : Ses} (h : Sorted σ) : (σ.map (·.1)).Nodup := List.pairwise_map.2 (h.imp (fun h => by omega))
theorem sins_mem {σ : Ses} {k : Int} {e : Int × Int} {x : Int × (Int × Int)} (h : x ∈ sins σ k e) : x = (k, e) ∨ x ∈ σ := by
  induction σ with
  | nil => simp [sins] at h; exact .inl h
  | cons y σ ih =>
    obtain ⟨a, b⟩ := y
    simp only [sins] at h
    split at h
    · rcases List.mem_cons.1 h with h | h
      · exact .inl h
      · exact .inr h
    · split at h
      · rcases List.mem_cons.1 h with h | h
        · exact .inl h
        · exact .inr (List.mem_cons_of_mem _ h)
      · rcases List.mem_cons.1 h with h | h
        · exact .inr (by rw [h]; simp)
        · rcases ih h with h | h
          · exact .inl h
          · exact .inr (List.mem_cons_of_mem _ h)
theorem sins_sorted {σ : Ses} (h : Sorted σ) (k : Int) (e : Int × Int) : Sorted (sins σ k e) := by
  induction σ with
  | nil => simp [sins, Sorted]
  | cons y σ ih =>
    obtain ⟨a, b⟩ := y
    obtain ⟨h1, h2⟩ := List.pairwise_cons.1 h
    simp only [sins]
    split
    · rename_i hk
      refine List.pairwise_cons.2 ⟨fun z hz => ?_, h⟩
      rcases List.mem_cons.1 hz with rfl | hz
      · exact hk
      · have := h1 z hz; dsimp only at *; omega
    · split
      · rename_i hk; subst hk
        exact List.pairwise_cons.2 ⟨h1, h2⟩
      · refine List.pairwise_cons.2 ⟨fun z hz => ?_, ih h2⟩
        rcases sins_mem hz with rfl | hz
        · dsimp only; omega
        · exact h1 z hz
theorem sins_perm {σ : Ses} (h : Sorted σ) (k : Int) (e : Int × Int) : (sins σ k e).Perm (aset σ k e) := by
  induction σ with
  | nil => simp [sins, aset]
  | cons y σ ih =>
    obtain ⟨a, b⟩ := y
    obtain ⟨h1, h2⟩ := List.pairwise_cons.1 h
    simp only [sins, aset]
    split
    · rename_i hk
      rw [if_neg (by omega)]
      have hno : alook σ k = none := al_none.2 fun hm => by
        obtain ⟨z, hz, hzk⟩ := List.mem_map.1 hm
        have := h1 z hz; dsimp only at *; omega
      rw [aset_none hno]
      have : ((a, b) :: (σ ++ [(k, e)])).Perm ((k, e) :: (a, b) :: σ) := by
        rw [← List.cons_append]
        exact List.perm_append_comm
      exact this.symm
    · split
      · exact .refl _
      · exact List.Perm.cons _ (ih h2)
theorem sins_look {σ : Ses} (h : Sorted σ) (k : Int) (e : Int × Int) (x : Int) : alook (sins σ k e) x = if x = k then some e else alook σ x := by
  rw [al_perm (sins_perm h k e) (sins_sorted h k e).nodup, al_aset]
theorem sins_lt {l r : Ses} {k : Int} {e : Int × Int} (h : ∀ x ∈ l, x.1 < k) : sins (l ++ r) k e = l ++ sins r k e := by
  induction l with
  | nil => rfl
  | cons y l ih =>
    obtain ⟨a, b⟩ := y
    have := h (a, b) (by simp)
    simp only [List.cons_append, sins]
    rw [if_neg (by dsimp only at this; omega), if_neg (by dsimp only at this; omega), ih (fun x hx => h x (List.mem_cons_of_mem _ hx))]
theorem sins_ge {l r : Ses} {k : Int} {e : Int × Int} (h : ∃ x ∈ l, k ≤ x.1) : sins (l ++ r) k e = sins l k e ++ r := by
  induction l with
  | nil => obtain ⟨x, hx, -⟩ := h; simp at hx
  | cons y l ih =>
    obtain ⟨a, b⟩ := y
    simp only [List.cons_append, sins]
    split
    · rfl
    · split
      · rfl
      · rw [ih ?_]; rfl
        obtain ⟨x, hx, hk⟩ := h
        rcases List.mem_cons.1 hx with rfl | hx
        · dsimp only at hk; omega
        · exact ⟨x, hx, hk⟩
theorem sins_self {σ : Ses} (h : Sorted σ) {k : Int} {e : Int × Int} (he : alook σ k = some e) : sins σ k e = σ := by
  induction σ with
  | nil => cases he
  | cons y σ ih =>
    obtain ⟨a, b⟩ := y
    obtain ⟨h1, h2⟩ := List.pairwise_cons.1 h
    simp only [sins]
    by_cases hk : k = a
    · subst hk
      simp [alook] at he; subst he
      rw [if_neg (by omega), if_pos rfl]
    · simp [alook, hk] at he
      have := h1 _ (al_mem he)
      dsimp only at this
      rw [if_neg (by omega), if_neg hk, ih h2 he]
theorem adel_sorted {σ : Ses} (h : Sorted σ) (k : Int) : Sorted (adel σ k) := List.Pairwise.sublist (adel_sub σ k) h
theorem sins_len {σ : Ses} (k : Int) (e : Int × Int) : (sins σ k e).length ≤ σ.length + 1 := by
  induction σ with
  | nil => simp [sins]
  | cons y σ ih =>
    obtain ⟨a, b⟩ := y
    simp only [sins]
    split
    · simp
    · split
      · simp
      · simp; omega
theorem sins_len_in {σ : Ses} (h : Sorted σ) {k : Int} {e e' : Int × Int} (he : alook σ k = some e') : (sins σ k e).length = σ.length := by
  rw [(sins_perm h k e).length_eq]
  have := congrArg List.length (aset_keys (v := e) he)
  simpa using this
theorem SOk.look {σ : Ses} (h : SOk σ) {id : Int} {e : Int × Int} (he : alook σ id = some e) : 1 ≤ id ∧ id ≤ 9223372036854775807 ∧ 4 ≤ e.1 ∧ e.1 ≤ 60 ∧ 0 ≤ e.2 ∧ e.2 ≤ 1099511627840 := h.fit _ (al_mem he)
theorem endsZ_bnd {now to : Int} (h : ¬ badTime now) (h1 : 4 ≤ to) (h2 : to ≤ 60) : 0 ≤ endsZ now to ∧ endsZ now to ≤ 1099511627840 := by
  unfold badTime at h; unfold endsZ; omega
theorem SOk.ins {σ : Ses} (h : SOk σ) {id to d : Int} (hid : 1 ≤ id ∧ id ≤ 9223372036854775807) (hto : 4 ≤ to ∧ to ≤ 60) (hd : 0 ≤ d ∧ d ≤ 1099511627840) (hr : (∃ e, alook σ id = some e) ∨ σ.length < 16) : SOk (sins σ id (to, d)) := by
  refine ⟨sins_sorted h.sorted _ _, ?_, fun x hx => ?_⟩
  · rcases hr with ⟨e, he⟩ | hr
    · rw [sins_len_in h.sorted he]; exact h.few
    · have := sins_len (σ := σ) id (to, d); omega
  · rcases sins_mem hx with rfl | hx
    · exact ⟨hid.1, hid.2, hto.1, hto.2, hd.1, hd.2⟩
    · exact h.fit x hx
theorem SOk.del {σ : Ses} (h : SOk σ) (id : Int) : SOk (adel σ id) :=
  ⟨adel_sorted h.sorted id, Nat.le_trans (adel_sub σ id).length_le h.few, fun x hx => h.fit x ((adel_sub σ id).subset hx)⟩
theorem SOk.opened {σ : Ses} (h : SOk σ) (id to now : Int) (hid : id ≤ 9223372036854775807) : SOk (sOpen σ id to now).1 := by
  unfold sOpen
  split
  · exact h
  · rename_i h1
    split
    · exact h
    · rename_i h2
      have hb : ¬ badTime now := fun hb => h1 (.inr (.inr (.inr hb)))
      have hr : (∃ e, alook σ id = some e) ∨ σ.length < 16 := by
        cases he : alook σ id with
        | none => exact .inr (by rcases Nat.lt_or_ge σ.length 16 with h | h; exact h; exact absurd ⟨he, h⟩ h2)
        | some e => exact .inl ⟨e, rfl⟩
      exact h.ins ⟨by omega, hid⟩ ⟨by omega, by omega⟩ (endsZ_bnd hb (by omega) (by omega)) hr
theorem SOk.touched {σ : Ses} (h : SOk σ) (id now : Int) : SOk (sTouch σ id now).1 := by
  unfold sTouch
  split
  · exact h
  · rename_i e he
    split
    · exact h
    · rename_i hb
      obtain ⟨a, b, c, d, f, g⟩ := h.look he
      have := endsZ_bnd hb c d
      exact h.ins ⟨a, b⟩ ⟨c, d⟩ (by omega) (.inl ⟨e, he⟩)
theorem SOk.closed {σ : Ses} (h : SOk σ) (id : Int) : SOk (sClose σ id).1 := by
  unfold sClose
  split
  · exact h
  · exact h.del id
theorem SOk.nil : SOk [] := ⟨List.Pairwise.nil, by simp, by simp⟩

/-! ### The program's tracker -/
abbrev Bks := List (Int × (Nat × List (Int × Unit)))
def entV (e : Int × Int) : Value := .agg #[vint e.1, vint e.2]
def unitV (_ : Unit) : Value := .agg #[]
def bkV (y : Nat × List (Int × Unit)) : Value := .map (some y.1)
def setV (l : List (Int × Unit)) : List (Value × Value) := l.map fun x => (vint x.1, unitV x.2)
def inR (x : Int × (Nat × List (Int × Unit))) : HP := mapR x.2.1 (setV x.2.2)
abbrev sesM (ms : Ses) : List (Value × Value) := ms.map fun x => (vint x.1, entV x.2)
abbrev bksM (bm : Bks) : List (Value × Value) := bm.map fun x => (vint x.1, bkV x.2)
theorem bksM_set {bm : Bks} {d : Int} {y y' : Nat × List (Int × Unit)} (h : alook bm d = some y) (hp : y'.1 = y.1) : bksM (aset bm d y') = bksM bm := aset_map h (by simp [bkV, hp])
structure TkI (σ ms : Ses) (bm : Bks) : Prop where
  ok : SOk σ
  perm : ms.Perm σ
  keys : (bm.map (·.1)).Nodup
  bk : ∀ d y, alook bm d = some y → (y.2.map (·.1)).Nodup ∧ y.2 ≠ [] ∧ ∀ id, (alook y.2 id).isSome = true ↔ ∃ to, alook σ id = some (to, d)
  has : ∀ id to d, alook σ id = some (to, d) → (alook bm d).isSome = true
theorem TkI.look {σ ms : Ses} {bm : Bks} (h : TkI σ ms bm) (id : Int) : alook ms id = alook σ id := (al_perm h.perm.symm h.ok.sorted.nodup id).symm
theorem TkI.nodup {σ ms : Ses} {bm : Bks} (h : TkI σ ms bm) : (ms.map (·.1)).Nodup := (h.perm.map _).nodup_iff.2 h.ok.sorted.nodup
/-- One taken out. -/
theorem TkI.del {σ ms : Ses} {bm bm' : Bks} (h : TkI σ ms bm) {id to d : Int} {p : Nat} {l : List (Int × Unit)} (he : alook σ id = some (to, d)) (hb : alook bm d = some (p, l))
    (hbm : bm' = if adel l id = [] then adel bm d else aset bm d (p, adel l id)) : TkI (adel σ id) (adel ms id) bm' := by
  have hnd := h.ok.sorted.nodup
  obtain ⟨b1, b2, b3⟩ := h.bk d _ hb
  have hlook : ∀ x, alook bm' x = if x = d then (if adel l id = [] then none else some (p, adel l id)) else alook bm x := by
    intro x
    rw [hbm]
    split
    · rw [al_adel h.keys]
    · rw [al_aset]
  have hin : ∀ x, (alook (adel l id) x).isSome = true ↔ ∃ t, alook (adel σ id) x = some (t, d) := by
    intro x
    rw [al_adel b1, al_adel hnd]
    by_cases hx : x = id
    · simp [hx]
    · simp only [hx, if_false]; exact b3 x
  refine ⟨h.ok.del id, perm_adel h.perm h.nodup id, ?_, fun x y hy => ?_, fun x t dd hx => ?_⟩
  · rw [hbm]; split
    · exact nodup_adel h.keys d
    · exact nodup_aset h.keys _ _
  · rw [hlook] at hy
    by_cases hxd : x = d
    · subst hxd
      rw [if_pos rfl] at hy
      split at hy
      · cases hy
      · rename_i hne
        cases hy
        exact ⟨nodup_adel b1 id, hne, hin⟩
    · rw [if_neg hxd] at hy
      obtain ⟨c1, c2, c3⟩ := h.bk x y hy
      refine ⟨c1, c2, fun z => ?_⟩
      rw [c3, al_adel hnd]
      by_cases hz : z = id
      · subst hz
        rw [if_pos rfl, he]
        constructor
        · rintro ⟨t, ht⟩; simp at ht; exact absurd ht.2.symm hxd
        · rintro ⟨t, ht⟩; cases ht
      · rw [if_neg hz]
  · rw [hlook]
    have hx' : alook σ x = some (t, dd) := by
      rw [al_adel hnd] at hx
      split at hx
      · cases hx
      · exact hx
    by_cases hd : dd = d
    · subst hd
      rw [if_pos rfl]
      have := (hin x).2 ⟨t, hx⟩
      rw [if_neg (fun e => by rw [e] at this; simp [alook] at this)]; rfl
    · rw [if_neg hd]; exact h.has x t dd hx'
/-- One laid in that is not there. -/
theorem TkI.ins {σ ms : Ses} {bm bm' : Bks} (h : TkI σ ms bm) {id to d : Int} {y : Nat × List (Int × Unit)} (he : alook σ id = none) (hok : SOk (sins σ id (to, d)))
    (hy : (alook bm d = none ∧ y.2 = []) ∨ alook bm d = some y) (hbm : bm' = aset bm d (y.1, aset y.2 id ())) : TkI (sins σ id (to, d)) (aset ms id (to, d)) bm' := by
  subst hbm
  have hso := h.ok.sorted
  have hyl : (y.2.map (·.1)).Nodup ∧ ∀ x, (alook y.2 x).isSome = true ↔ ∃ t, alook σ x = some (t, d) := by
    rcases hy with ⟨h1, h2⟩ | h1
    · rw [h2]
      refine ⟨by simp, fun x => ?_⟩
      constructor
      · intro hc; simp [alook] at hc
      · rintro ⟨t, ht⟩; have := h.has x t d ht; rw [h1] at this; cases this
    · obtain ⟨c1, -, c3⟩ := h.bk d y h1; exact ⟨c1, c3⟩
  refine ⟨hok, (perm_aset h.perm h.nodup id _).trans (sins_perm hso _ _).symm, nodup_aset h.keys _ _, fun x z hz => ?_, fun x t dd hx => ?_⟩
  · rw [al_aset] at hz
    by_cases hxd : x = d
    · subst hxd
      rw [if_pos rfl] at hz; cases hz
      refine ⟨nodup_aset hyl.1 _ _, fun e => ?_, fun w => ?_⟩
      · have := al_aset (m := y.2) (k := id) (v := ()) id
        dsimp only at e
        rw [e] at this; simp [alook] at this
      · dsimp only
        rw [al_aset, sins_look hso]
        by_cases hw : w = id
        · simp [hw]
        · simp only [hw, if_false]; exact hyl.2 w
    · rw [if_neg hxd] at hz
      obtain ⟨c1, c2, c3⟩ := h.bk x z hz
      refine ⟨c1, c2, fun w => ?_⟩
      rw [c3, sins_look hso]
      by_cases hw : w = id
      · subst hw
        rw [if_pos rfl, he]
        constructor
        · rintro ⟨t, ht⟩; cases ht
        · rintro ⟨t, ht⟩; simp at ht; exact absurd ht.2.symm hxd
      · rw [if_neg hw]
  · rw [al_aset]
    by_cases hd : dd = d
    · rw [if_pos hd]; rfl
    · rw [if_neg hd]
      rw [sins_look hso] at hx
      split at hx
      · simp at hx; exact absurd hx.2.symm hd
      · exact h.has x t dd hx
theorem sins_adel {σ : Ses} (h : Sorted σ) (k : Int) (e : Int × Int) : sins (adel σ k) k e = sins σ k e := by
  have p : (sins (adel σ k) k e).Perm (sins σ k e) := by
    refine al_ext_perm (sins_sorted (adel_sorted h k) k e).nodup (sins_sorted h k e).nodup fun x => ?_
    rw [sins_look (adel_sorted h k), sins_look h, al_adel h.nodup]
    split <;> rfl
  exact p.eq_of_pairwise (le := fun x y : Int × (Int × Int) => x.1 < y.1) (fun a b _ _ h1 h2 => by omega) (sins_sorted (adel_sorted h k) k e) (sins_sorted h k e)
theorem sortI_of_perm {l : List Int} {m : List Int} (hp : l.Perm m) (hs : m.Pairwise (· < ·)) : sortI l = m := by
  have h1 : (sortI l).Pairwise (· ≤ ·) := by
    have := List.pairwise_mergeSort (le := fun x y : Int => decide (x ≤ y)) (fun a b c h1 h2 => by simp only [decide_eq_true_eq] at *; omega) (fun a b => by simp only [Bool.or_eq_true, decide_eq_true_eq]; omega) l
    exact this.imp (fun h => by simpa using h)
  exact List.Perm.eq_of_pairwise (le := fun a b : Int => a ≤ b) (fun a b _ _ h1 h2 => by omega) h1 (hs.imp (fun h => by omega)) ((List.mergeSort_perm _ _).trans hp)
def expOf (now : Int) (bm : Bks) : List Int := (bm.filter fun x => decide (x.1 ≤ now)).flatMap fun x => x.2.2.map (·.1)
theorem TkI.exp {σ ms : Ses} {bm : Bks} (h : TkI σ ms bm) (now : Int) : (expOf now bm).Perm (sExp σ now) := by
  have hsn : (sExp σ now).Nodup := (List.filter_sublist.map _).nodup h.ok.sorted.nodup
  have hmem : ∀ id, id ∈ expOf now bm ↔ id ∈ sExp σ now := by
    intro id
    simp only [expOf, sExp, List.mem_flatMap, List.mem_filter, List.mem_map, decide_eq_true_eq]
    constructor
    · rintro ⟨⟨d, y⟩, ⟨h1, h2⟩, z, hz, rfl⟩
      have hb := al_of_mem h.keys h1
      obtain ⟨c1, c2, c3⟩ := h.bk d y hb
      obtain ⟨to, ht⟩ := (c3 z.1).1 (al_isSome.2 (List.mem_map.2 ⟨z, hz, rfl⟩))
      exact ⟨(z.1, to, d), ⟨al_mem ht, h2⟩, rfl⟩
    · rintro ⟨⟨id', to, d⟩, ⟨h1, h2⟩, rfl⟩
      have ht := al_of_mem h.ok.sorted.nodup h1
      obtain ⟨y, hy⟩ := Option.isSome_iff_exists.1 (h.has _ _ _ ht)
      obtain ⟨c1, c2, c3⟩ := h.bk d y hy
      have := al_isSome.1 ((c3 id').2 ⟨to, ht⟩)
      obtain ⟨z, hz, hzid⟩ := List.mem_map.1 this
      exact ⟨(d, y), ⟨al_mem hy, h2⟩, z, hz, hzid⟩
  refine (List.perm_ext_iff_of_nodup ?_ hsn).2 hmem
  unfold expOf
  refine List.pairwise_flatMap.2 ⟨fun x hx => ?_, ?_⟩
  · have hb := al_of_mem h.keys (List.mem_filter.1 hx).1
    exact (h.bk _ _ hb).1
  · have : (bm.filter fun x => decide (x.1 ≤ now)).Pairwise (fun a b => a.1 ≠ b.1) := (List.pairwise_map.1 h.keys).sublist List.filter_sublist
    refine List.Pairwise.imp_of_mem (fun {a b} ha hb hab => ?_) this
    intro id h1 id2 h2 hid
    subst hid
    have hba := al_of_mem h.keys (List.mem_filter.1 ha).1
    have hbb := al_of_mem h.keys (List.mem_filter.1 hb).1
    obtain ⟨t1, e1⟩ := ((h.bk _ _ hba).2.2 id).1 (al_isSome.2 h1)
    obtain ⟨t2, e2⟩ := ((h.bk _ _ hbb).2.2 id).1 (al_isSome.2 h2)
    rw [e1] at e2; simp at e2; exact hab e2.2
theorem expOf_append (now : Int) (s t : Bks) : expOf now (s ++ t) = expOf now s ++ expOf now t := by simp [expOf]
theorem expOf_skip {now : Int} {s : Bks} {x : Int × (Nat × List (Int × Unit))} (h : x.1 > now) : expOf now (s ++ [x]) = expOf now s := by
  rw [expOf_append]; simp [expOf, show ¬ x.1 ≤ now by omega]
theorem expOf_add {now : Int} {s : Bks} {x : Int × (Nat × List (Int × Unit))} (h : ¬ x.1 > now) : expOf now (s ++ [x]) = expOf now s ++ x.2.2.map (·.1) := by
  rw [expOf_append]; simp [expOf, show x.1 ≤ now by omega]
theorem expOf_perm {now : Int} {s t : Bks} (h : s.Perm t) : (expOf now s).Perm (expOf now t) := (h.filter _).flatMap_right _
theorem expOf_size {σ ms : Ses} {bm s rest : Bks} {now : Int} {acc : List Int} {x : Int × (Nat × List (Int × Unit))} (h : TkI σ ms bm) (ha : acc.Perm (expOf now s)) (hp : bm.Perm (s ++ x :: rest)) (hx : ¬ x.1 > now) : acc.length + x.2.2.length ≤ 16 := by
  have h1 := ((h.exp now).symm.trans (expOf_perm hp)).length_eq
  have h2 : (sExp σ now).length ≤ 16 := by
    have : (sExp σ now).length ≤ σ.length := by unfold sExp; rw [List.length_map]; exact List.length_filter_le _ _
    exact Nat.le_trans this h.ok.few
  have e : s ++ x :: rest = (s ++ [x]) ++ rest := by simp
  rw [e, expOf_append, expOf_add hx] at h1
  have := ha.length_eq
  simp at h1; omega
theorem sExp_sorted {σ : Ses} (h : Sorted σ) (now : Int) : (sExp σ now).Pairwise (· < ·) := List.pairwise_map.2 (List.Pairwise.sublist List.filter_sublist h)
def tkR (t : Nat) (σ : Ses) : HP := fun h => ∃ x : Nat × Nat × Ses × Bks, TkI σ x.2.2.1 x.2.2.2 ∧
  sep [ptc t [.map (some x.1), .map (some x.2.1)] 136, mapR x.1 (sesM x.2.2.1), mapR x.2.1 (bksM x.2.2.2), bigR inR x.2.2.2] h
section
variable {W : World} {n : Nat} {ds : List Deferred} {E : Env} {L R : List HP} {X : Act → World → Prop}
theorem G.tkOpen {t : Nat} {σ : Ses} (hL : Pick (tkR t σ) L R) (h : ∀ rs rb ms bm, TkI σ ms bm → G W n ds E (ptc t [.map (some rs), .map (some rb)] 136 :: mapR rs (sesM ms) ::
    mapR rb (bksM bm) :: bigR inR bm :: R) X) : G W n ds E L X :=
  G.focus hL (G.open (q := fun x : Nat × Nat × Ses × Bks => [ptc t [.map (some x.1), .map (some x.2.1)] 136, mapR x.1 (sesM x.2.2.1), mapR x.2.1 (bksM x.2.2.2), bigR inR x.2.2.2])
    (φ := fun x : Nat × Nat × Ses × Bks => TkI σ x.2.2.1 x.2.2.2) (fun _ hp => hp) fun x hx => h x.1 x.2.1 x.2.2.1 x.2.2.2 hx)
theorem G.tkFold {t rs rb : Nat} {σ ms : Ses} {bm : Bks} {e1 e2 : List (Value × Value)} (hI : TkI σ ms bm) (hL : Picks [ptc t [.map (some rs), .map (some rb)] 136, mapR rs e1, mapR rb e2, bigR inR bm] L R)
    (h1 : e1 = sesM ms) (h2 : e2 = bksM bm) (h : G W n ds E (tkR t σ :: R) X) : G W n ds E L X := by
  subst h1; subst h2
  exact G.fold hL (fun _ hp => ⟨(rs, rb, ms, bm), hI, hp⟩) h
end
/-! ### The document's -/
def sesC (σ : Ses) : List Value := σ.flatMap fun x => [vint x.1, vint x.2.1, vint x.2.2]
theorem sesC_len (σ : Ses) : (sesC σ).length = σ.length * 3 := flatMap_len (fun _ _ => rfl)
theorem sesC_get {σ : Ses} {i j : Nat} (hi : i < σ.length) (hj : j < 3) : (sesC σ)[i * 3 + j]? = ([vint σ[i].1, vint σ[i].2.1, vint σ[i].2.2] : List Value)[j]? := flatMap_get (f := fun x : Int × (Int × Int) => [vint x.1, vint x.2.1, vint x.2.2]) (fun _ _ => rfl) hi hj
theorem sesC_at {σ : Ses} {i : Nat} (hi : i < σ.length) : ((sesC σ).drop (i * 3)).take 3 = [vint σ[i].1, vint σ[i].2.1, vint σ[i].2.2] := flatMap_at (f := fun x : Int × (Int × Int) => [vint x.1, vint x.2.1, vint x.2.2]) (fun _ _ => rfl) hi
theorem sesC_cell (σ : Ses) : ∀ y ∈ sesC σ, isCell y = true := by
  intro y hy
  simp only [sesC, List.mem_flatMap] at hy
  obtain ⟨x, -, hx⟩ := hy
  simp at hx
  rcases hx with rfl | rfl | rfl <;> rfl
theorem sesC_set {σ : Ses} {i : Nat} {id to d' : Int} (hi : i < σ.length) (hk : σ[i].1 = id) (h2 : σ[i].2.1 = to := by rfl) : (sesC σ).set (i * 3 + 2) (vint d') = sesC (σ.set i (id, (to, d'))) := by
  induction σ generalizing i with
  | nil => simp at hi
  | cons x σ ih =>
    cases i with
    | zero =>
      simp at hk h2
      simp [sesC, hk, h2]
    | succ i =>
      have e : (i + 1) * 3 + 2 = 3 + (i * 3 + 2) := by omega
      have := ih (i := i) (by simpa using hi) (by simpa using hk) (by simpa using h2)
      simp only [List.set_cons_succ]
      rw [show sesC (x :: σ) = [vint x.1, vint x.2.1, vint x.2.2] ++ sesC σ from rfl, show sesC (x :: σ.set i (id, (to, d'))) = [vint x.1, vint x.2.1, vint x.2.2] ++ sesC (σ.set i (id, (to, d'))) from rfl, ← this, e, List.set_append_right _ _ (by simp)]
      show _ ++ (sesC σ).set (3 + (i * 3 + 2) - 3) (vint d') = _
      rw [Nat.add_sub_cancel_left]
theorem sAll_succ {σ : Ses} {i : Nat} (hi : i < σ.length) : sAll (σ.take (i + 1)) = sAll (σ.take i) ++ [σ[i].1] := by
  rw [List.take_succ_eq_append_getElem hi]; unfold sAll; rw [List.map_append]; rfl
theorem sExp_succT {σ : Ses} {i : Nat} {now : Int} (hi : i < σ.length) (h : σ[i].2.2 ≤ now) : sExp (σ.take (i + 1)) now = sExp (σ.take i) now ++ [σ[i].1] := by
  have e : [σ[i]].filter (fun x => decide (x.2.2 ≤ now)) = [σ[i]] := by simp [h]
  rw [List.take_succ_eq_append_getElem hi]; unfold sExp; rw [List.filter_append, List.map_append, e]; rfl
theorem sExp_succF {σ : Ses} {i : Nat} {now : Int} (hi : i < σ.length) (h : ¬ σ[i].2.2 ≤ now) : sExp (σ.take (i + 1)) now = sExp (σ.take i) now := by
  have e : [σ[i]].filter (fun x => decide (x.2.2 ≤ now)) = [] := by simp [h]
  rw [List.take_succ_eq_append_getElem hi]; unfold sExp; rw [List.filter_append, List.map_append, e, List.map_nil, List.append_nil]
theorem sesC_append (σ τ : Ses) : sesC (σ ++ τ) = sesC σ ++ sesC τ := by simp [sesC]
theorem sesC_rd_take {T : TypeId} {σ : Ses} {b c i : Nat} {h : Hp} (hp : slR T 3 (.slice (some ⟨b, 0, none⟩) σ.length c) σ.length (sesC σ) h) (hi : i ≤ σ.length) : rdS 3 h (.slice (some ⟨b, 0, none⟩) i c) i (sesC (σ.take i)) := by
  obtain ⟨⟨rest, fr⟩, h1, h2, h3, h4, h5⟩ := slR_get hp
  refine .inr ⟨b, 0, c, sesC σ ++ rest, T, fr, rfl, h1, ?_, by simp [sesC_len]; omega, by omega⟩
  have e : sesC σ = sesC (σ.take i) ++ sesC (σ.drop i) := by rw [← sesC_append, List.take_append_drop]
  rw [List.drop_zero, List.take_append_of_le_length (by simp [sesC_len]; omega), e, List.take_left' (by simp [sesC_len]; omega)]
theorem sesC_rd_drop {T : TypeId} {σ : Ses} {b c i n k off : Nat} {h : Hp} (hp : slR T 3 (.slice (some ⟨b, 0, none⟩) σ.length c) σ.length (sesC σ) h) (hi : i ≤ σ.length) (hn : n = σ.length - i) (ho : off = i * 3 ∨ n = 0) (hk : n ≤ k) : rdS 3 h (.slice (some ⟨b, off, none⟩) n k) n (sesC (σ.drop i)) := by
  obtain ⟨⟨rest, fr⟩, h1, h2, h3, h4, h5⟩ := slR_get hp
  by_cases h0 : n = 0
  · subst h0
    have : σ.drop i = [] := List.drop_eq_nil_of_le (by omega)
    rw [this]
    exact .inl ⟨rfl, rfl, _, _, rfl⟩
  · have ho' : off = i * 3 := by omega
    subst ho'
    refine .inr ⟨b, i * 3, k, sesC σ ++ rest, T, fr, rfl, h1, ?_, by simp [sesC_len]; omega, hk⟩
    have e : sesC σ = sesC (σ.take i) ++ sesC (σ.drop i) := by rw [← sesC_append, List.take_append_drop]
    rw [e, List.append_assoc, List.drop_left' (by simp [sesC_len]; omega), List.take_left' (by simp [sesC_len]; omega)]
abbrev sesR (v : Value) (σ : Ses) : HP := slR 147 3 v σ.length (sesC σ)
def trR (t : Nat) (σ : Ses) : HP := fun h => ∃ v : Value, SOk σ ∧ sep [ptc t [v] 144, sesR v σ] h
section
variable {W : World} {n : Nat} {ds : List Deferred} {E : Env} {L R : List HP} {X : Act → World → Prop}
theorem G.trOpen {t : Nat} {σ : Ses} (hL : Pick (trR t σ) L R) (h : ∀ v, SOk σ → G W n ds E (ptc t [v] 144 :: sesR v σ :: R) X) : G W n ds E L X :=
  G.focus hL (G.open (q := fun v : Value => [ptc t [v] 144, sesR v σ]) (φ := fun _ => SOk σ) (fun _ hp => hp) h)
theorem G.trFold {t m : Nat} {v : Value} {σ : Ses} {ys : List Value} (hI : SOk σ) (hL : Picks [ptc t [v] 144, slR 147 3 v m ys] L R)
    (h1 : m = σ.length) (h2 : ys = sesC σ) (h : G W n ds E (trR t σ :: R) X) : G W n ds E L X := by
  subst h1; subst h2
  exact G.fold hL (fun _ hp => ⟨v, hI, hp⟩) h
end
end Go.Proofs.Ytepncdidkjjllaa
