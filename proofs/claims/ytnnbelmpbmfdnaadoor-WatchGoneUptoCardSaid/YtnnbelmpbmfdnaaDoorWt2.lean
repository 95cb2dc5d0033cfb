/- Own work: what firing and dropping do, in plain words. -/
import Derived.Test.YtnnbelmpbmfdnaaDoorWt
namespace Go.Proofs.YtnnbelmpbmfdnaaDoor
open Go

abbrev Ev := Int × (Bs × Int)
def evC (e : Ev) : List Value := [vint e.1, vstr e.2.1, vint e.2.2]
abbrev Tld := Int × Ev
def tldC (x : Tld) : List Value := [vint x.1, vint x.2.1, vstr x.2.2.1, vint x.2.2.2]
def spotC (s : Spot) : List Value := [vint s.1, vstr s.2]
def fire1 (ω : List Wt) (e : Ev) : List Wt × List Tld := (leftW ω e.1 e.2.1, (tellW ω e.1 e.2.1).map fun i => (i, e))
def fireTo (ω : List Wt) (es : List Ev) : Nat → List Wt × List Tld
  | 0 => (ω, [])
  | i + 1 => (leftW (fireTo ω es i).1 (es.getD i (0, ([], 0))).1 (es.getD i (0, ([], 0))).2.1, (fireTo ω es i).2 ++ (tellW (fireTo ω es i).1 (es.getD i (0, ([], 0))).1 (es.getD i (0, ([], 0))).2.1).map fun j => (j, es.getD i (0, ([], 0))))
def fireL (ω : List Wt) (es : List Ev) : List Wt × List Tld := fireTo ω es es.length
theorem fire_one (ω : List Wt) (e : Ev) : fireL ω [e] = fire1 ω e := by
  show fireTo ω [e] 1 = _
  simp [fireTo, fire1]
/-- Watches of a path and of some kinds: whose they are; what is left without them. -/
def idsK (ω : List Wt) (p : Bs) (ks : List Int) : List Int := (ω.filter fun w => decide (w.2.2 = p) && decide (w.2.1 ∈ ks)).map (·.1)
def outK (ω : List Wt) (p : Bs) (ks : List Int) : List Wt := ω.filter fun w => !(decide (w.2.2 = p) && decide (w.2.1 ∈ ks))
def goneL (ω : List Wt) (sp : Spot) (ids : List Int) : List Wt := ω.filter fun w => !(decide (w.2 = sp) && decide (w.1 ∈ ids))
theorem goneL_nil (ω : List Wt) (sp : Spot) : goneL ω sp [] = ω := by unfold goneL; simp
theorem outK_nil (ω : List Wt) (p : Bs) : outK ω p [] = ω := by unfold outK; simp
theorem goneL_step (ω : List Wt) (sp : Spot) (ids : List Int) (i : Int) : rmW (goneL ω sp ids) (i, sp) = goneL ω sp (ids ++ [i]) := by
  unfold rmW goneL
  rw [List.filter_filter]
  refine List.filter_congr fun w _ => ?_
  obtain ⟨a, s⟩ := w
  by_cases h1 : s = sp
  · by_cases h2 : a = i
    · simp [h1, h2]
    · simp [h1, h2]
  · simp [h1]
theorem goneL_mem {ω : List Wt} {sp : Spot} {ids : List Int} {i : Int} (h : (i, sp) ∈ ω) (hi : i ∉ ids) : (i, sp) ∈ goneL ω sp ids := by
  unfold goneL; exact List.mem_filter.2 ⟨h, by simp [hi]⟩
theorem goneL_all {ω : List Wt} {p : Bs} {ks : List Int} {k : Int} {ids : List Int} (h : ∀ i, (i, (k, p)) ∈ outK ω p ks → i ∈ ids) : goneL (outK ω p ks) (k, p) ids = outK ω p (ks ++ [k]) := by
  have e : outK ω p (ks ++ [k]) = (outK ω p ks).filter fun w => !decide (w.2 = (k, p)) := by
    unfold outK
    rw [List.filter_filter]
    refine List.filter_congr fun w _ => ?_
    obtain ⟨a, b, c⟩ := w
    by_cases h1 : c = p
    · by_cases h2 : b = k
      · simp [h1, h2]
      · simp [h1, h2]
    · simp [h1]
  rw [e]
  unfold goneL
  refine List.filter_congr fun w hw => ?_
  by_cases hs : w.2 = (k, p)
  · have := h w.1 (by rw [← hs]; exact hw)
    simp [hs, this]
  · simp [hs]
theorem filter_or_perm {α : Type} (f g : α → Bool) (h : ∀ x, f x = true → g x = false) (l : List α) : (l.filter fun x => f x || g x).Perm (l.filter f ++ l.filter g) := by
  induction l with
  | nil => simp
  | cons a l ih =>
    cases hf : f a with
    | true => simp [hf, h a hf]; exact ih
    | false =>
      cases hg : g a with
      | true =>
        simp [hf, hg]
        exact (List.Perm.cons a ih).trans List.perm_middle.symm
      | false => simp [hf, hg]; exact ih
/-- One kind more: the ids of its spot. -/
theorem idsK_step (ω : List Wt) (p : Bs) {ks : List Int} {k : Int} (hk : k ∉ ks) : (idsK ω p (ks ++ [k])).Perm (idsK ω p ks ++ ((outK ω p ks).filter fun w => decide (w.2 = (k, p))).map (·.1)) := by
  have e : ((outK ω p ks).filter fun w => decide (w.2 = (k, p))) = ω.filter fun w => decide (w.2 = (k, p)) := by
    unfold outK
    rw [List.filter_filter]
    refine List.filter_congr fun w _ => ?_
    obtain ⟨a, b, c⟩ := w
    by_cases h2 : b = k
    · simp [h2, hk]
    · simp [h2]
  rw [e]
  unfold idsK
  rw [← List.map_append]
  refine List.Perm.map _ ?_
  refine List.Perm.trans (List.Perm.of_eq ?_) (filter_or_perm (fun w : Wt => decide (w.2.2 = p) && decide (w.2.1 ∈ ks)) (fun w => decide (w.2 = (k, p))) ?_ ω)
  · refine List.filter_congr fun w _ => ?_
    obtain ⟨a, b, c⟩ := w
    by_cases h1 : c = p
    · by_cases h2 : b = k
      · simp [h1, h2]
      · simp [h1, h2]
    · simp [h1]
  · rintro ⟨a, b, c⟩ h
    simp at h ⊢
    intro hb hc
    exact hk (hb ▸ h.2)
theorem out_all (ω : List Wt) (k : Int) (p : Bs) : outK ω p (kindsZ k) = leftW ω k p := by
  unfold outK leftW meetW; rfl
theorem ids_all (ω : List Wt) (k : Int) (p : Bs) : idsK ω p (kindsZ k) = (ω.filter (meetW k p)).map (·.1) := by
  unfold idsK meetW; rfl
theorem kinds_nodup (k : Int) : (kindsZ k).Nodup := by
  unfold kindsZ
  split
  · simp
  · split
    · decide
    · split
      · decide
      · split <;> simp
theorem kinds_len (k : Int) : (kindsZ k).length ≤ 3 := by
  unfold kindsZ
  split
  · simp
  · split
    · simp
    · split
      · simp
      · split <;> simp
/-- The ids at a spot, as the map has them. -/
theorem spot_ids {ω : List Wt} {m : By} {n : List (Int × Int)} (h : TbI ω m n) {sp : Spot} {y : Nat × List (Int × Int)} (hy : alook m sp = some y) : (y.2.map (·.1)).Perm ((ω.filter fun w => decide (w.2 = sp)).map (·.1)) := by
  refine (List.perm_ext_iff_of_nodup (h.inn sp y hy).1 ?_).2 fun i => ?_
  · refine List.pairwise_map.2 (List.Pairwise.imp_of_mem ?_ (h.nod.filter _))
    intro a b ha hb hne e
    apply hne
    have h1 := (List.mem_filter.1 ha).2
    have h2 := (List.mem_filter.1 hb).2
    simp at h1 h2
    obtain ⟨a1, a2⟩ := a; obtain ⟨b1, b2⟩ := b
    dsimp only at *
    rw [e, h1, h2]
  · constructor
    · intro hi
      exact List.mem_map.2 ⟨(i, sp), List.mem_filter.2 ⟨(h.mem i sp).2 ⟨y, hy, hi⟩, by simp⟩, rfl⟩
    · intro hi
      obtain ⟨w, hw, rfl⟩ := List.mem_map.1 hi
      obtain ⟨h1, h2⟩ := List.mem_filter.1 hw
      have h2 : w.2 = sp := by simpa using h2
      obtain ⟨z, hz, hzi⟩ := (h.mem w.1 sp).1 (by rw [← h2]; exact h1)
      rw [hy] at hz; cases hz
      exact hzi
theorem spot_none {ω : List Wt} {m : By} {n : List (Int × Int)} (h : TbI ω m n) {sp : Spot} (hy : alook m sp = none) : (ω.filter fun w => decide (w.2 = sp)) = [] := by
  rw [List.filter_eq_nil_iff]
  intro w hw
  simp only [decide_eq_true_eq]
  intro e
  obtain ⟨z, hz, -⟩ := (h.mem w.1 sp).1 (by rw [← e]; exact hw)
  rw [hy] at hz; cases hz
/-- Dropping. -/
def hasW (s : Int) (x : Spot × (Nat × List (Int × Int))) : Bool := decide (s ∈ x.2.2.map (·.1))
def dropL (ω : List Wt) (s : Int) (sps : List Spot) : List Wt := ω.filter fun w => !(decide (w.1 = s) && decide (w.2 ∈ sps))
theorem dropL_nil (ω : List Wt) (s : Int) : dropL ω s [] = ω := by unfold dropL; simp
theorem dropL_step (ω : List Wt) (s : Int) (sps : List Spot) (sp : Spot) : rmW (dropL ω s sps) (s, sp) = dropL ω s (sps ++ [sp]) := by
  unfold rmW dropL
  rw [List.filter_filter]
  refine List.filter_congr fun w _ => ?_
  obtain ⟨a, b⟩ := w
  by_cases h1 : a = s
  · by_cases h2 : b = sp
    · simp [h1, h2]
    · simp [h1, h2]
  · simp [h1]
theorem dropL_mem {ω : List Wt} {s : Int} {sps : List Spot} {sp : Spot} (h : (s, sp) ∈ ω) (hi : sp ∉ sps) : (s, sp) ∈ dropL ω s sps := by
  unfold dropL; exact List.mem_filter.2 ⟨h, by simp [hi]⟩
theorem dropL_all {ω : List Wt} {s : Int} {sps : List Spot} (h : ∀ sp, (s, sp) ∈ ω → sp ∈ sps) : dropL ω s sps = dropW ω s := by
  unfold dropL dropW
  refine List.filter_congr fun w hw => ?_
  obtain ⟨a, b⟩ := w
  by_cases h1 : a = s
  · subst h1; simp [h b hw]
  · simp [h1]
theorem has_mem {ω : List Wt} {m : By} {n : List (Int × Int)} (h : TbI ω m n) {s : Int} {sp : Spot} : (s, sp) ∈ ω ↔ sp ∈ (m.filter (hasW s)).map (·.1) := by
  rw [h.mem]
  constructor
  · rintro ⟨y, hy, hs⟩
    exact List.mem_map.2 ⟨(sp, y), List.mem_filter.2 ⟨al_mem hy, by simpa [hasW] using hs⟩, rfl⟩
  · intro hm
    obtain ⟨x, hx, rfl⟩ := List.mem_map.1 hm
    obtain ⟨h1, h2⟩ := List.mem_filter.1 hx
    exact ⟨x.2, al_of_mem h.keys h1, by simpa [hasW] using h2⟩
theorem sub_len {α : Type} [DecidableEq α] : ∀ {l m : List α}, l.Nodup → (∀ x ∈ l, x ∈ m) → l.length ≤ m.length := by
  intro l
  induction l with
  | nil => intro m _ _; simp
  | cons a l ih =>
    intro m hn hs
    obtain ⟨h1, h2⟩ := List.nodup_cons.1 hn
    have ha := hs a List.mem_cons_self
    have := ih (m := m.erase a) h2 fun x hx => (List.mem_erase_of_ne (fun (e : x = a) => h1 (e ▸ hx))).2 (hs x (List.mem_cons_of_mem _ hx))
    rw [List.length_erase_of_mem ha] at this
    have hp := List.length_pos_of_mem ha
    rw [List.length_cons]; omega
theorem take_not {α : Type} {l : List α} (h : l.Nodup) {i : Nat} (hi : i < l.length) : l[i] ∉ l.take i := by
  have e : l.take i ++ l[i] :: l.drop (i + 1) = l := by rw [← List.drop_eq_getElem_cons hi]; exact List.take_append_drop i l
  have h2 : (l.take i ++ l[i] :: l.drop (i + 1)).Nodup := by rw [e]; exact h
  intro hm
  exact (List.nodup_append.1 h2).2.2 _ hm _ List.mem_cons_self rfl
theorem acc_few {ω : List Wt} {m ss rest : By} {n : List (Int × Int)} (h : TbI ω m n) (hp : m.Perm (ss ++ rest)) (s : Int) : ((ss.filter (hasW s)).map (·.1)).length ≤ 64 ∧ ((ss.filter (hasW s)).map (·.1)).Nodup := by
  have hk : ((ss ++ rest).map (·.1)).Nodup := ((hp.map _).nodup_iff).1 h.keys
  have hn : ((ss.filter (hasW s)).map (·.1)).Nodup := (((List.filter_sublist).trans (List.sublist_append_left ss rest)).map _).nodup hk
  refine ⟨?_, hn⟩
  have h1 : (((ss.filter (hasW s)).map (·.1)).map fun sp => ((s, sp) : Wt)).length ≤ (ω.filter fun w => decide (w.1 = s)).length := by
    refine sub_len ?_ fun w hw => ?_
    · exact List.pairwise_map.2 (hn.imp fun hne e => hne (by simpa using e))
    · obtain ⟨sp, hsp, rfl⟩ := List.mem_map.1 hw
      refine List.mem_filter.2 ⟨(has_mem h).2 ?_, by simp⟩
      obtain ⟨x, hx, rfl⟩ := List.mem_map.1 hsp
      obtain ⟨x1, x2⟩ := List.mem_filter.1 hx
      exact List.mem_map.2 ⟨x, List.mem_filter.2 ⟨hp.mem_iff.2 (List.mem_append_left _ x1), x2⟩, rfl⟩
  rw [List.length_map] at h1
  exact Nat.le_trans h1 (h.few s)
theorem goneL_len (ω : List Wt) (sp : Spot) (ids : List Int) : (goneL ω sp ids).length ≤ ω.length := List.length_filter_le _ _
theorem ids_len (ω : List Wt) (p : Bs) (ks : List Int) : (idsK ω p ks).length ≤ ω.length := by unfold idsK; rw [List.length_map]; exact List.length_filter_le _ _
theorem comp_len (l : List Int) : (compI l).length ≤ l.length := Lib.compact_length_le l
theorem tell_len (ω : List Wt) (k : Int) (p : Bs) : (tellW ω k p).length ≤ ω.length := by
  unfold tellW
  refine Nat.le_trans (comp_len _) ?_
  rw [sortI_length, List.length_map]; exact List.length_filter_le _ _
theorem sortI_perm_eq {l m : List Int} (h : l.Perm m) : sortI l = sortI m :=
  List.Perm.eq_of_pairwise (le := fun a b : Int => a ≤ b) (fun a b _ _ h1 h2 => by omega) (sortI_sorted l) (sortI_sorted m) ((sortI_perm l).trans (h.trans (sortI_perm m).symm))
theorem fire_succ {ω : List Wt} {es : List Ev} {i : Nat} {e : Ev} (h : es.getD i (0, ([], 0)) = e) : fireTo ω es (i + 1) = (leftW (fireTo ω es i).1 e.1 e.2.1, (fireTo ω es i).2 ++ (tellW (fireTo ω es i).1 e.1 e.2.1).map fun j => (j, e)) := by
  rw [fireTo, h]
theorem fire_len (ω : List Wt) (es : List Ev) : ∀ i, (fireTo ω es i).1.length ≤ ω.length ∧ (fireTo ω es i).2.length ≤ i * ω.length := by
  intro i
  induction i with
  | zero => exact ⟨Nat.le_refl _, by simp [fireTo]⟩
  | succ i ih =>
    rw [fire_succ rfl]
    refine ⟨Nat.le_trans (List.length_filter_le _ _) ih.1, ?_⟩
    have := tell_len (fireTo ω es i).1 (es.getD i (0, ([], 0))).1 (es.getD i (0, ([], 0))).2.1
    dsimp only
    rw [List.length_append, List.length_map, Nat.add_mul, Nat.one_mul]
    omega
end Go.Proofs.YtnnbelmpbmfdnaaDoor
