/- Own work: a table of watches as plain data, and what stands for it in memory. -/
import Derived.Test.YtnnbelmpbmfdnaaDoorPath
import Derived.Test.YtnnbelmpbmfdnaaDoorSlRange
import Derived.Test.YtnnbelmpbmfdnaaDoorSlCompact
import Derived.Test.YtnnbelmpbmfdnaaDoorSlStruct
import Derived.Test.YtnnbelmpbmfdnaaDoorSlRunes
namespace Go.Proofs.YtnnbelmpbmfdnaaDoor
open Go

abbrev Spot := Int × Bs
abbrev Wt := Int × Spot
def spotV (s : Spot) : Value := .agg #[vint s.1, vstr s.2]
def cntW (ω : List Wt) (s : Int) : Nat := (ω.filter fun w => decide (w.1 = s)).length
def rmW (ω : List Wt) (w : Wt) : List Wt := ω.filter fun x => decide (x ≠ w)
def isWt (k : Int) (p : Bs) : Prop := 1 ≤ k ∧ k ≤ 3 ∧ checkZ p = 0
instance (k : Int) (p : Bs) : Decidable (isWt k p) := inferInstanceAs (Decidable (_ ∧ _))
def addW (ω : List Wt) (s k : Int) (p : Bs) : List Wt × Int :=
  if s < 1 ∨ ¬ isWt k p then (ω, 1) else if (s, (k, p)) ∈ ω then (ω, 0) else if cntW ω s = 64 then (ω, 91) else (ω ++ [(s, (k, p))], 0)
def kindsZ (e : Int) : List Int := if e = 1 then [2] else if e = 2 then [1, 2, 3] else if e = 3 then [1, 2] else if e = 4 then [3] else []
def meetW (k : Int) (p : Bs) (w : Wt) : Bool := decide (w.2.2 = p) && decide (w.2.1 ∈ kindsZ k)
def tellW (ω : List Wt) (k : Int) (p : Bs) : List Int := compI (sortI ((ω.filter (meetW k p)).map (·.1)))
def leftW (ω : List Wt) (k : Int) (p : Bs) : List Wt := ω.filter fun w => !meetW k p w
def dropW (ω : List Wt) (s : Int) : List Wt := ω.filter fun w => decide (w.1 ≠ s)
theorem comp_mem (l : List Int) (x : Int) : x ∈ compI l ↔ x ∈ l := by
  have key : ∀ j (hj : j < l.length), l[j] ∈ compI l := by
    intro j
    induction j with
    | zero =>
      intro hj
      refine List.mem_map.2 ⟨0, List.mem_filter.2 ⟨List.mem_range.2 hj, by simp [Lib.keeps]⟩, by simp [hj]⟩
    | succ j ih =>
      intro hj
      by_cases hk : Lib.keeps l.toArray (j + 1) = true
      · exact List.mem_map.2 ⟨j + 1, List.mem_filter.2 ⟨List.mem_range.2 hj, hk⟩, by simp [hj]⟩
      · have := ih (by omega)
        simp [Lib.keeps, hj, show j < l.length by omega] at hk
        rw [hk]; exact this
  constructor
  · intro h
    obtain ⟨j, hj, rfl⟩ := List.mem_map.1 h
    have hj2 := List.mem_range.1 (List.mem_filter.1 hj).1
    simp [hj2]
  · intro h
    obtain ⟨j, hj, rfl⟩ := List.mem_iff_getElem.1 h
    exact key j hj
theorem comp_sorted {l : List Int} (hs : l.Pairwise (· ≤ ·)) : (compI l).Pairwise (· < ·) := by
  show (((List.range l.length).filter (Lib.keeps l.toArray)).map (l.toArray[·]!)).Pairwise (· < ·)
  rw [List.pairwise_map, List.pairwise_filter]
  refine List.Pairwise.imp_of_mem (R := fun a b : Nat => a < b) ?_ List.pairwise_lt_range
  intro i j hi hj hij _ hk
  have hi2 := List.mem_range.1 hi
  have hj2 := List.mem_range.1 hj
  have hle := List.pairwise_iff_getElem.1 hs
  have h1 : l[i] ≤ l[j - 1]'(by omega) := by
    rcases Nat.lt_or_ge i (j - 1) with h | h
    · exact hle i (j - 1) hi2 (by omega) h
    · have : i = j - 1 := by omega
      subst this; exact Int.le_refl _
  have h2 : l[j - 1]'(by omega) ≤ l[j] := hle (j - 1) j (by omega) hj2 (by omega)
  have h3 : l[j] ≠ l[j - 1]'(by omega) := by
    simp [Lib.keeps, hj2, show j - 1 < l.length by omega] at hk
    rcases hk with hk | hk
    · omega
    · exact hk
  simp [hi2, hj2]; omega
theorem sortI_sorted (l : List Int) : (sortI l).Pairwise (· ≤ ·) := by
  have := List.pairwise_mergeSort (le := fun x y : Int => decide (x ≤ y)) (fun a b c h1 h2 => by simp only [decide_eq_true_eq] at *; omega) (fun a b => by simp only [Bool.or_eq_true, decide_eq_true_eq]; omega) l
  exact this.imp (fun h => by simpa using h)
theorem tell_sorted (ω : List Wt) (k : Int) (p : Bs) : (tellW ω k p).Pairwise (· < ·) := comp_sorted (sortI_sorted _)
theorem tell_mem {ω : List Wt} {k : Int} {p : Bs} {s : Int} : s ∈ tellW ω k p ↔ ∃ w ∈ ω, meetW k p w = true ∧ w.1 = s := by
  unfold tellW
  rw [comp_mem, sortI_mem, List.mem_map]
  constructor
  · rintro ⟨w, hw, rfl⟩; exact ⟨w, (List.mem_filter.1 hw).1, (List.mem_filter.1 hw).2, rfl⟩
  · rintro ⟨w, hw, hm, rfl⟩; exact ⟨w, List.mem_filter.2 ⟨hw, hm⟩, rfl⟩
theorem sorted_ext {l m : List Int} (hl : l.Pairwise (· < ·)) (hm : m.Pairwise (· < ·)) (h : ∀ x, x ∈ l ↔ x ∈ m) : l = m := by
  have nl : l.Nodup := hl.imp (fun h => by omega)
  have nm : m.Nodup := hm.imp (fun h => by omega)
  exact List.Perm.eq_of_pairwise (le := fun a b : Int => a < b) (fun a b _ _ h1 h2 => by omega) hl hm ((List.perm_ext_iff_of_nodup nl nm).2 h)
/-! ### What stands for it -/
abbrev By := List (Spot × (Nat × List (Int × Int)))
abbrev idV (y : Int) : Value := vint y
def byV (x : Nat × List (Int × Int)) : Value := .map (some x.1)
def byM (by' : By) : List (Value × Value) := by'.map fun x => (spotV x.1, byV x.2)
def intM (l : List (Int × Int)) : List (Value × Value) := l.map fun x => (vint x.1, idV x.2)
def inW (x : Spot × (Nat × List (Int × Int))) : HP := mapR x.2.1 (intM x.2.2)
structure TbI (ω : List Wt) (m : By) (n : List (Int × Int)) : Prop where
  nod : ω.Nodup
  fit : ∀ w ∈ ω, 1 ≤ w.1 ∧ w.1 ≤ 9223372036854775807 ∧ 1 ≤ w.2.1 ∧ w.2.1 ≤ 3
  few : ∀ s, cntW ω s ≤ 64
  keys : (m.map (·.1)).Nodup
  inn : ∀ sp y, alook m sp = some y → (y.2.map (·.1)).Nodup ∧ y.2 ≠ [] ∧ ∀ z ∈ y.2, z.2 = z.1
  mem : ∀ id sp, (id, sp) ∈ ω ↔ ∃ y, alook m sp = some y ∧ id ∈ y.2.map (·.1)
  nkeys : (n.map (·.1)).Nodup
  many : ∀ s, alook n s = if cntW ω s = 0 then none else some (cntW ω s : Int)
def tbR (t : Nat) (ω : List Wt) : HP := fun h => ∃ x : (Nat × Nat) × (By × List (Int × Int)), TbI ω x.2.1 x.2.2 ∧ sep [ptc t [.map (some x.1.1), .map (some x.1.2)] 60, mapR x.1.1 (byM x.2.1), mapR x.1.2 (intM x.2.2), bigR inW x.2.1] h
section
variable {W : World} {n : Nat} {ds : List Deferred} {E : Env} {L R : List HP} {X : Act → World → Prop}
theorem G.tbOpen {t : Nat} {ω : List Wt} (hL : Pick (tbR t ω) L R) (h : ∀ rb rm m q, TbI ω m q → G W n ds E (ptc t [.map (some rb), .map (some rm)] 60 :: mapR rb (byM m) :: mapR rm (intM q) :: bigR inW m :: R) X) : G W n ds E L X :=
  G.focus hL (G.open (q := fun x : (Nat × Nat) × (By × List (Int × Int)) => [ptc t [.map (some x.1.1), .map (some x.1.2)] 60, mapR x.1.1 (byM x.2.1), mapR x.1.2 (intM x.2.2), bigR inW x.2.1]) (φ := fun x : (Nat × Nat) × (By × List (Int × Int)) => TbI ω x.2.1 x.2.2) (fun _ hp => hp) fun x hx => h x.1.1 x.1.2 x.2.1 x.2.2 hx)
theorem G.tbFold {t rb rm : Nat} {ω : List Wt} {m : By} {q : List (Int × Int)} {l : List Value} {e1 e2 : List (Value × Value)} (hI : TbI ω m q) (hL : Picks [ptc t l 60, mapR rb e1, mapR rm e2, bigR inW m] L R) (hl : l = [.map (some rb), .map (some rm)]) (h1 : e1 = byM m) (h2 : e2 = intM q)
    (h : G W n ds E (tbR t ω :: R) X) : G W n ds E L X := by
  subst hl; subst h1; subst h2
  exact G.fold hL (fun _ hp => ⟨((rb, rm), (m, q)), hI, hp⟩) h
end
theorem byM_set {m : By} {d : Spot} {y y' : Nat × List (Int × Int)} (h : alook m d = some y) (hp : y'.1 = y.1) : byM (aset m d y') = byM m := aset_map h (by simp [byV, hp])
theorem many_some {ω : List Wt} {m : By} {n : List (Int × Int)} (h : TbI ω m n) (s : Int) : ∀ b, alook n s = some b → idV b = vint (cntW ω s : Nat) := by
  intro b hb
  rw [h.many s] at hb
  split at hb
  · cases hb
  · cases hb; rfl
theorem many_none {ω : List Wt} {m : By} {n : List (Int × Int)} (h : TbI ω m n) (s : Int) : alook n s = none → Value.int .i64 0 = vint (cntW ω s : Nat) := by
  intro hb
  rw [h.many s] at hb
  split at hb
  · rename_i h0; rw [h0]; rfl
  · cases hb
/-! ### Who keeps it -/
theorem cnt_pos {ω : List Wt} {s : Int} {sp : Spot} (h : (s, sp) ∈ ω) : 0 < cntW ω s := by
  unfold cntW
  exact List.length_pos_of_mem (List.mem_filter.2 ⟨h, by simp⟩)
theorem cnt_zero {ω : List Wt} {s : Int} (h : cntW ω s = 0) (sp : Spot) : (s, sp) ∉ ω := fun hm => by have := cnt_pos hm; omega
theorem cnt_append (ω : List Wt) (w : Wt) (s : Int) : cntW (ω ++ [w]) s = cntW ω s + if w.1 = s then 1 else 0 := by
  unfold cntW
  rw [List.filter_append, List.length_append]
  congr 1
  by_cases h : w.1 = s <;> simp [h]
theorem rm_mem {ω : List Wt} {w x : Wt} : x ∈ rmW ω w ↔ x ∈ ω ∧ x ≠ w := by
  unfold rmW; rw [List.mem_filter]; simp
theorem rm_erase {ω : List Wt} (h : ω.Nodup) (w : Wt) : rmW ω w = ω.erase w := by
  rw [h.erase_eq_filter]
  unfold rmW
  refine List.filter_congr fun x _ => ?_
  by_cases hx : x = w
  · subst hx; rw [decide_eq_false (fun g => g rfl)]; exact (bne_self_eq_false x).symm
  · rw [decide_eq_true hx]; exact (bne_iff_ne.2 hx).symm
theorem cnt_rm {ω : List Wt} (h : ω.Nodup) {w : Wt} (hm : w ∈ ω) (s : Int) : cntW ω s = cntW (rmW ω w) s + if w.1 = s then 1 else 0 := by
  have hp := List.perm_cons_erase hm
  rw [rm_erase h]
  unfold cntW
  rw [(hp.filter _).length_eq]
  by_cases hs : w.1 = s
  · simp [hs]
  · simp [hs]
theorem adel_keys {K β : Type} [DecidableEq K] {m : List (K × β)} (hn : (m.map (·.1)).Nodup) (k x : K) : x ∈ (adel m k).map (·.1) ↔ x ≠ k ∧ x ∈ m.map (·.1) := by
  rw [← al_isSome, ← al_isSome, al_adel hn]
  by_cases h : x = k
  · simp [h]
  · simp [h]
theorem adel_nil {K β : Type} [DecidableEq K] {m : List (K × β)} (hn : (m.map (·.1)).Nodup) {k : K} (h : adel m k = []) (x : K) : x ∈ m.map (·.1) → x = k := by
  intro hx
  rcases Decidable.em (x = k) with e | e
  · exact e
  · have := (adel_keys hn k x).2 ⟨e, hx⟩; rw [h] at this; simp at this
/-- A watch is taken away. -/
theorem TbI.gone {ω : List Wt} {m m' : By} {n n' : List (Int × Int)} (h : TbI ω m n) {id : Int} {sp : Spot} (hm : (id, sp) ∈ ω) {p : Nat} {l : List (Int × Int)} (hb : alook m sp = some (p, l))
    (hm' : m' = if adel l id = [] then adel m sp else aset m sp (p, adel l id)) (hn' : n' = if (cntW ω id : Int) - 1 = 0 then adel (aset n id ((cntW ω id : Int) - 1)) id else aset n id ((cntW ω id : Int) - 1)) : TbI (rmW ω (id, sp)) m' n' := by
  obtain ⟨b1, b2, b3⟩ := h.inn sp _ hb
  dsimp only at b1 b2 b3
  have hpos := cnt_pos hm
  have hlook : ∀ x, alook m' x = if x = sp then (if adel l id = [] then none else some (p, adel l id)) else alook m x := by
    intro x
    rw [hm']
    split
    · rw [al_adel h.keys]
    · rw [al_aset]
  have hc := fun s => cnt_rm h.nod hm s
  have hlk : ∀ x, alook n' x = if x = id then (if (cntW ω id : Int) - 1 = 0 then none else some ((cntW ω id : Int) - 1)) else alook n x := by
    intro x
    rw [hn']
    split
    · rw [al_adel (nodup_aset h.nkeys _ _), al_aset]
      by_cases hx : x = id <;> simp [hx]
    · rw [al_aset]
  refine ⟨h.nod.filter _, fun w hw => h.fit w (rm_mem.1 hw).1, fun s => by have := hc s; have := h.few s; omega, ?_, fun s y hy => ?_, fun i s => ?_, ?_, fun s => ?_⟩
  · rw [hm']; split
    · exact nodup_adel h.keys _
    · exact nodup_aset h.keys _ _
  · rw [hlook] at hy
    by_cases hs : s = sp
    · rw [if_pos hs] at hy
      split at hy
      · cases hy
      · rename_i hne
        cases hy
        exact ⟨nodup_adel b1 id, hne, fun z hz => b3 z ((adel_sub l id).subset hz)⟩
    · rw [if_neg hs] at hy; exact h.inn s y hy
  · rw [rm_mem, h.mem i s, hlook]
    by_cases hs : s = sp
    · subst hs
      rw [if_pos rfl]
      constructor
      · rintro ⟨⟨y, hy, hi⟩, hne⟩
        rw [hb] at hy; cases hy
        have hii : i ≠ id := fun e => hne (by rw [e])
        have hin := (adel_keys b1 id i).2 ⟨hii, hi⟩
        refine ⟨(p, adel l id), ?_, hin⟩
        rw [if_neg (fun e => by rw [e] at hin; simp at hin)]
      · rintro ⟨y, hy, hi⟩
        split at hy
        · cases hy
        · cases hy
          have := (adel_keys b1 id i).1 hi
          exact ⟨⟨(p, l), hb, this.2⟩, fun e => this.1 (by simpa using e)⟩
    · rw [if_neg hs]
      constructor
      · exact fun g => g.1
      · exact fun g => ⟨g, fun e => hs (by simpa using congrArg Prod.snd e)⟩
  · rw [hn']; split
    · exact nodup_adel (nodup_aset h.nkeys _ _) _
    · exact nodup_aset h.nkeys _ _
  · rw [hlk]
    have hcs := hc s
    by_cases hs : s = id
    · subst hs
      simp only [if_true] at hcs ⊢
      by_cases h0 : cntW (rmW ω (s, sp)) s = 0
      · rw [if_pos (by omega), if_pos h0]
      · rw [if_neg (by omega), if_neg h0]; congr 1; omega
    · rw [if_neg hs, h.many s]
      rw [if_neg (fun e : id = s => hs e.symm)] at hcs
      rw [hcs, Nat.add_zero]
/-- A watch is laid. -/
theorem TbI.ins {ω : List Wt} {m m' : By} {n n' : List (Int × Int)} (h : TbI ω m n) {id : Int} {sp : Spot} (hm : (id, sp) ∉ ω) (hid : 1 ≤ id ∧ id ≤ 9223372036854775807) (hk : 1 ≤ sp.1 ∧ sp.1 ≤ 3) (hc : cntW ω id ≠ 64) {y : Nat × List (Int × Int)} (hy : (alook m sp = none ∧ y.2 = []) ∨ alook m sp = some y)
    (hm' : m' = aset m sp (y.1, aset y.2 id id)) (hn' : n' = aset n id ((cntW ω id : Int) + 1)) : TbI (ω ++ [(id, sp)]) m' n' := by
  subst hm'; subst hn'
  have hyl : (y.2.map (·.1)).Nodup ∧ (∀ z ∈ y.2, z.2 = z.1) ∧ ∀ i, (i, sp) ∈ ω ↔ i ∈ y.2.map (·.1) := by
    rcases hy with ⟨h1, h2⟩ | h1
    · rw [h2]
      refine ⟨by simp, by simp, fun i => ?_⟩
      rw [h.mem, h1]; simp
    · obtain ⟨c1, -, c3⟩ := h.inn sp y h1
      refine ⟨c1, c3, fun i => ?_⟩
      rw [h.mem, h1]; simp
  have hnew : alook y.2 id = none := al_none.2 fun g => hm ((hyl.2.2 id).2 g)
  have hset : aset y.2 id id = y.2 ++ [(id, id)] := aset_none hnew
  refine ⟨?_, fun w hw => ?_, fun s => ?_, nodup_aset h.keys _ _, fun s z hz => ?_, fun i s => ?_, nodup_aset h.nkeys _ _, fun s => ?_⟩
  · exact List.nodup_append.2 ⟨h.nod, by simp, fun a ha b hb => by simp at hb; subst hb; exact fun e => hm (e ▸ ha)⟩
  · rcases List.mem_append.1 hw with hw | hw
    · exact h.fit w hw
    · simp at hw; subst hw; exact ⟨hid.1, hid.2, hk.1, hk.2⟩
  · rw [cnt_append]
    have := h.few s
    by_cases hs : id = s
    · subst hs; simp; omega
    · simp [hs]; exact this
  · rw [al_aset] at hz
    by_cases hs : s = sp
    · rw [if_pos hs] at hz; cases hz
      dsimp only
      refine ⟨nodup_aset hyl.1 _ _, ?_, fun q hq => ?_⟩
      · rw [hset]; simp
      · rw [hset] at hq
        rcases List.mem_append.1 hq with hq | hq
        · exact hyl.2.1 q hq
        · simp at hq; rw [hq]
    · rw [if_neg hs] at hz; exact h.inn s z hz
  · rw [List.mem_append, al_aset]
    by_cases hs : s = sp
    · subst hs
      rw [if_pos rfl, hyl.2.2 i]
      constructor
      · rintro (g | g)
        · exact ⟨_, rfl, by dsimp only; rw [hset]; simp at g ⊢; exact .inl g⟩
        · simp at g; exact ⟨_, rfl, by dsimp only; rw [hset]; simp [g]⟩
      · rintro ⟨z, hz, hi⟩
        cases hz
        dsimp only at hi
        rw [hset] at hi
        simp at hi ⊢
        exact hi
    · rw [if_neg hs, h.mem i s]
      constructor
      · rintro (g | g)
        · exact g
        · simp at g; exact absurd g.2 hs
      · exact fun g => .inl g
  · rw [al_aset, cnt_append]
    by_cases hs : s = id
    · subst hs; simp
    · rw [if_neg hs, h.many s, if_neg (fun e : id = s => hs e.symm), Nat.add_zero]
end Go.Proofs.YtnnbelmpbmfdnaaDoor
