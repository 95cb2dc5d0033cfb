/- Own work: law 11: rows of watches and events as arguments; what the walks of WatchOnce, WatchApart, WatchGone need. -/
import Derived.Test.YtnnbelmpbmfdnaaDoorL11
import Derived.Test.YtnnbelmpbmfdnaaDoorWatch3
namespace Go.Proofs.YtnnbelmpbmfdnaaDoor
open Go

abbrev Arm := Int × (Bs × (Int × (Int × Int)))
def armC (a : Arm) : List Value := [vint a.1, vstr a.2.1, vint a.2.2.1, vint a.2.2.2.1, vint a.2.2.2.2]
theorem flatMap_cell {α : Type} {f : α → List Value} {sz k : Nat} {l : List α} {i : Nat} (hf : ∀ x ∈ l, (f x).length = sz) (hi : i < l.length) (hk : k < sz) : (l.flatMap f)[i * sz + k]? = (f l[i])[k]? := by
  have h := flatMap_at hf hi
  have h2 : (((l.flatMap f).drop (i * sz)).take sz)[k]? = (f l[i])[k]? := by rw [h]
  rw [List.getElem?_take, if_pos hk, List.getElem?_drop] at h2
  exact h2
theorem arm_cell {l : List Arm} {i k : Nat} (hi : i < l.length) (hk : k < 5) : (l.flatMap armC)[i * 5 + k]? = (armC l[i])[k]? := flatMap_cell (f := armC) (sz := 5) (fun _ _ => rfl) hi hk
theorem tld_cell {l : List Tld} {i k : Nat} (hi : i < l.length) (hk : k < 4) : (l.flatMap tldC)[i * 4 + k]? = (tldC l[i])[k]? := flatMap_cell (f := tldC) (sz := 4) (fun _ _ => rfl) hi hk
theorem ev_cell {l : List Ev} {i k : Nat} (hi : i < l.length) (hk : k < 3) : (l.flatMap evC)[i * 3 + k]? = (evC l[i])[k]? := flatMap_cell (f := evC) (sz := 3) (fun _ _ => rfl) hi hk
structure ArmsA (p : HP) (v : Value) (xs : List Arm) : Prop where
  cells : ∀ h : Hp, p h → rdS 5 h v xs.length (xs.flatMap armC)
  len : xs.length ≤ 1048576
  paths : ∀ a ∈ xs, a.2.1.length ≤ 1048576
structure EvsA (p : HP) (v : Value) (xs : List Ev) : Prop where
  cells : ∀ h : Hp, p h → rdS 3 h v xs.length (xs.flatMap evC)
  len : xs.length ≤ 1048576
  paths : ∀ a ∈ xs, a.2.1.length ≤ 1048576
theorem slR_makeN {T : TypeId} {b m sz : Nat} {l : List Value} {h : Hp} (hl : l.length = m * sz) (hp : ptc b l T h) : slR T sz (.slice (some ⟨b, 0, none⟩) m m) m l h :=
  .inr ⟨b, m, [], (0, 0), rfl, by rw [List.append_nil]; exact hp, hl, by simp; omega, Nat.le_refl _, nfz0 _ _⟩
section
variable {W : World} {n : Nat} {ds : List Deferred} {E : Env} {L R : List HP} {X : Act → World → Prop}
theorem G.slMakeN (sz m : Nat) {T : TypeId} {b : Nat} {l xs : List Value} (hL : Pick (ptc b l T) L R) (hx : l = xs) (hl : xs.length = m * sz) (h : G W n ds E (slR T sz (.slice (some ⟨b, 0, none⟩) m m) m xs :: R) X) : G W n ds E L X := by
  subst hx
  exact fun a w he hk hs => h a w he hk (sep_imp (fun _ hp => slR_makeN hl hp) (hs.pick hL))
end
/-! ### Structs compared -/
theorem ev_eq (d : Nat) (a b : Ev) : EqAt Tryd.prog (d + 2) 35 (.agg (evC a).toArray) (.agg (evC b).toArray) (decide (a = b)) := by
  have h := EqAt.struct (d := d + 1) (xs := evC a) (ys := evC b) Tryd.underlying35 (by kernel_rfl)
    (.cons (FEq.cell (by decide) ag_3 rfl rfl (EqAt.int Tryd.underlying3 a.1 b.1)) (.cons (FEq.cell (by decide) ag_9 rfl rfl (EqAt.str Tryd.underlying9 a.2.1 b.2.1)) (.cons (FEq.cell (by decide) ag_3 rfl rfl (EqAt.int Tryd.underlying3 a.2.2 b.2.2)) .nil)))
  have e : ([decide (a.1 = b.1), decide (a.2.1 = b.2.1), decide (a.2.2 = b.2.2)].all id) = decide (a = b) := by
    obtain ⟨a1, a2, a3⟩ := a; obtain ⟨b1, b2, b3⟩ := b
    simp [Bool.decide_and]
  rw [← e]; exact h
theorem tld_eq (d : Nat) (a b : Tld) : EqAt Tryd.prog (d + 3) 37 (.agg (tldC a).toArray) (.agg (tldC b).toArray) (decide (a = b)) := by
  have h := EqAt.struct (d := d + 2) (xs := tldC a) (ys := tldC b) Tryd.underlying37 (by kernel_rfl)
    (.cons (FEq.cell (by decide) ag_3 rfl rfl (EqAt.int Tryd.underlying3 a.1 b.1)) (.cons (FEq.agg (by decide) ag_35 (ev_eq d a.2 b.2)) .nil))
  have e : ([decide (a.1 = b.1), decide (a.2 = b.2)].all id) = decide (a = b) := by
    obtain ⟨a1, a2⟩ := a; obtain ⟨b1, b2⟩ := b
    simp [Bool.decide_and]
  rw [← e]; exact h
/-! ### The first example -/
def wA : Bs := [47, 97]
def wB : Bs := [47, 98]
def aw1 : List Wt := [(1, (1, wA))]
def aw2 : List Wt := [(1, (1, wA)), (1, (3, wA))]
def aw3 : List Wt := [(1, (1, wA)), (1, (3, wA)), (2, (1, wA))]
def aw4 : List Wt := [(1, (1, wA)), (1, (3, wA)), (2, (1, wA)), (2, (2, wB))]
def aw5 : List Wt := [(1, (3, wA)), (2, (2, wB))]
theorem isWt_a : ∀ k : Int, 1 ≤ k → k ≤ 3 → isWt k wA := fun k h1 h2 => ⟨h1, h2, by decide⟩
theorem isWt_b : ∀ k : Int, 1 ≤ k → k ≤ 3 → isWt k wB := fun k h1 h2 => ⟨h1, h2, by decide⟩
theorem add_new {ω : List Wt} {s k : Int} {p : Bs} (h1 : 1 ≤ s) (h2 : isWt k p) (h3 : (s, (k, p)) ∉ ω) (h4 : cntW ω s ≠ 64) : addW ω s k p = (ω ++ [(s, (k, p))], 0) := by
  unfold addW
  rw [if_neg (by rintro (h | h); omega; exact h h2), if_neg h3, if_neg h4]
theorem awake_1 : addW [] 1 1 wA = (aw1, 0) := add_new (by decide) (isWt_a _ (by decide) (by decide)) (by decide) (by decide)
theorem awake_2 : addW aw1 1 3 wA = (aw2, 0) := add_new (by decide) (isWt_a _ (by decide) (by decide)) (by decide) (by decide)
theorem awake_3 : addW aw2 2 1 wA = (aw3, 0) := add_new (by decide) (isWt_a _ (by decide) (by decide)) (by decide) (by decide)
theorem awake_4 : addW aw3 2 2 wB = (aw4, 0) := add_new (by decide) (isWt_b _ (by decide) (by decide)) (by decide) (by decide)
theorem awake_5 : fireL aw4 [(3, (wA, 4))] = (aw5, [(1, (3, (wA, 4))), (2, (3, (wA, 4)))]) := by
  rw [fire_one]
  unfold fire1
  have h1 : leftW aw4 3 wA = aw5 := by decide
  have h2 : tellW aw4 3 wA = [1, 2] := by
    refine sorted_ext (tell_sorted _ _ _) (by simp) fun x => ?_
    rw [tell_mem]
    constructor
    · rintro ⟨w, hw, hm, rfl⟩
      simp only [aw4, List.mem_cons, List.not_mem_nil, or_false] at hw
      rcases hw with rfl | rfl | rfl | rfl
      · simp
      · simp
      · simp
      · simp
    · intro hx
      simp only [List.mem_cons, List.not_mem_nil, or_false] at hx
      rcases hx with rfl | rfl
      · exact ⟨(1, (1, wA)), by simp [aw4], by decide, rfl⟩
      · exact ⟨(2, (1, wA)), by simp [aw4], by decide, rfl⟩
  dsimp only
  rw [h1, h2]
  rfl
theorem awake_6 : cntW aw5 1 = 1 ∧ cntW aw5 2 = 1 := by decide
/-! ### Gone -/
theorem drop_all {ω : List Wt} {s : Int} (h : ∀ w ∈ ω, w.1 = s) : dropW ω s = [] := by
  unfold dropW
  rw [List.filter_eq_nil_iff]
  intro w hw; simpa using h w hw
theorem drop_add {ω : List Wt} {d s k : Int} {p : Bs} (h : s ≠ d) : (addW (dropW ω d) s k p).1 = dropW (addW ω s k p).1 d :=
  (filt_add (f := fun w => decide (w.1 ≠ d)) (fun w hw => by simpa [hw] using h)).1
theorem drop_not {ω : List Wt} {s : Int} : ∀ w ∈ dropW ω s, w.1 ≠ s := fun w hw => by
  have := (List.mem_filter.1 hw).2; simpa using this
theorem gone_last {ω : List Wt} {s : Int} (hs : 1 ≤ s) (h : ∀ w ∈ ω, w.1 ≠ s) : addW ω s 1 wA = (ω ++ [(s, (1, wA))], 0) ∧ cntW (ω ++ [(s, (1, wA))]) s = 1 := by
  have h0 := cnt_none h
  refine ⟨add_new hs (isWt_a _ (by decide) (by decide)) (fun hm => h _ hm rfl) (by omega), ?_⟩
  rw [cnt_append, h0]; simp
/-! ### Once -/
def isPath (xs : List Arm) (p : Bs) : Bool := xs.any fun a => decide (a.2.1 = p)
theorem isPath_take {xs : List Arm} {p : Bs} {j : Nat} (hj : j < xs.length) : isPath (xs.take (j + 1)) p = (isPath (xs.take j) p || decide (xs[j].2.1 = p)) := by
  unfold isPath
  rw [List.take_succ_eq_append_getElem hj, List.any_append]; simp
theorem isPath_at {xs : List Arm} {j : Nat} (hj : j < xs.length) : isPath xs xs[j].2.1 = true := by
  unfold isPath
  rw [List.any_eq_true]
  exact ⟨xs[j], List.getElem_mem hj, by simp⟩
/-- A table of session 1 alone, on paths of the row. -/
structure OnceI (xs : List Arm) (ω : List Wt) : Prop where
  nod : ω.Nodup
  one : ∀ w ∈ ω, w.1 = 1 ∧ 1 ≤ w.2.1 ∧ w.2.1 ≤ 3
  path : ∀ w ∈ ω, isPath xs w.2.2 = true
theorem OnceI.nil (xs : List Arm) : OnceI xs [] := ⟨by simp, by simp, by simp⟩
theorem OnceI.add {xs : List Arm} {ω : List Wt} (h : OnceI xs ω) {j : Nat} (hj : j < xs.length) : OnceI xs (addW ω 1 xs[j].1 xs[j].2.1).1 := by
  rcases add_cases ω 1 xs[j].1 xs[j].2.1 with e | e | e | ⟨h1, h2, h3, e⟩ <;> rw [e]
  · exact h
  · exact h
  · exact h
  · refine ⟨List.nodup_append.2 ⟨h.nod, by simp, fun a ha b hb => by simp at hb; subst hb; exact fun e => h3 (e ▸ ha)⟩, fun w hw => ?_, fun w hw => ?_⟩
    · rcases List.mem_append.1 hw with hw | hw
      · exact h.one w hw
      · simp at hw; subst hw; exact ⟨rfl, h2.1, h2.2.1⟩
    · rcases List.mem_append.1 hw with hw | hw
      · exact h.path w hw
      · simp at hw; subst hw; exact isPath_at hj
theorem OnceI.left {xs : List Arm} {ω : List Wt} (h : OnceI xs ω) (k : Int) (p : Bs) : OnceI xs (leftW ω k p) :=
  ⟨h.nod.filter _, fun w hw => h.one w (left_mem hw), fun w hw => h.path w (left_mem hw)⟩
theorem OnceI.cnt {xs : List Arm} {ω : List Wt} (h : OnceI xs ω) : cntW ω 1 = ω.length := cnt_all fun w hw => (h.one w hw).1
/-- What one event does to such a table. -/
theorem OnceI.fire {xs : List Arm} {ω : List Wt} (h : OnceI xs ω) (e : Ev) : ((fireL ω [e]).2 = [] ∧ (fireL ω [e]).1 = ω) ∨ ((fireL ω [e]).2 = [(1, e)] ∧ (fireL ω [e]).1.length < ω.length ∧ ω.length - (fireL ω [e]).1.length ≤ 3 ∧ isPath xs e.2.1 = true) := by
  rw [fire_one]
  unfold fire1
  dsimp only
  rcases tell_one (fun w hw => (h.one w hw).1) e.1 e.2.1 with ⟨h1, h2⟩ | ⟨h1, h2⟩
  · exact .inl ⟨by rw [h1]; rfl, h2⟩
  · obtain ⟨c1, c2, c3⟩ := met_few h.nod h.one (k := e.1) (p := e.2.1)
    refine .inr ⟨by rw [h1]; rfl, c3 h2, c1, ?_⟩
    obtain ⟨w, hw, hm⟩ := h2
    have hp := h.path w hw
    have : w.2.2 = e.2.1 := by simp [meetW] at hm; exact hm.1
    rw [← this]; exact hp
theorem OnceI.again (ω : List Wt) (e : Ev) : (fireL (fireL ω [e]).1 [e]).2 = [] ∧ (fireL (fireL ω [e]).1 [e]).1 = (fireL ω [e]).1 := by
  rw [fire_one, fire_one]
  unfold fire1
  dsimp only
  obtain ⟨h1, h2⟩ := left_again ω e.1 e.2.1
  rw [h1, h2]; exact ⟨rfl, rfl⟩
theorem fire_tbl (ω : List Wt) (e : Ev) : (fireL ω [e]).1 = leftW ω e.1 e.2.1 ∧ (fireL ω [e]).2 = (tellW ω e.1 e.2.1).map fun i => (i, e) := by
  rw [fire_one]; exact ⟨rfl, rfl⟩
/-! ### Apart -/
def onlyW (ω : List Wt) (s : Int) : List Wt := ω.filter fun w => decide (w.1 = s)
theorem only_all {ω : List Wt} {s : Int} (h : ∀ w ∈ ω, w.1 = s) : onlyW ω s = ω := by
  unfold onlyW; exact List.filter_eq_self.2 fun w hw => by simpa using h w hw
theorem only_add {ω : List Wt} {s k : Int} {p : Bs} : (addW (onlyW ω s) s k p).1 = onlyW (addW ω s k p).1 s :=
  (filt_add (f := fun w => decide (w.1 = s)) (fun w hw => by simp [hw])).1
theorem only_out {ω : List Wt} {d s k : Int} {p : Bs} (h : s ≠ d) : onlyW (addW ω s k p).1 d = onlyW ω d :=
  filt_out (f := fun w => decide (w.1 = d)) (fun w hw => by simp [hw, h])
theorem only_cnt (ω : List Wt) (s : Int) : cntW (onlyW ω s) s = cntW ω s := filt_cnt (fun w hw => by simp [hw])
theorem only_left (ω : List Wt) (s k : Int) (p : Bs) : leftW (onlyW ω s) k p = onlyW (leftW ω k p) s := left_filt _ _ _ _
/-- What is told: to whom, one by one, with rising numbers. -/
theorem tell_get_lt {ω : List Wt} {k : Int} {p : Bs} {i j : Nat} (hij : i < j) (hj : j < (tellW ω k p).length) : (tellW ω k p)[i] < (tellW ω k p)[j] :=
  List.pairwise_iff_getElem.1 (tell_sorted ω k p) i j (by omega) hj hij
theorem tell_pos {ω : List Wt} {k : Int} {p : Bs} (h : ∀ w ∈ ω, 1 ≤ w.1) {i : Nat} (hi : i < (tellW ω k p).length) : 1 ≤ (tellW ω k p)[i] := by
  obtain ⟨w, hw, -, e⟩ := tell_mem.1 (List.getElem_mem hi)
  rw [← e]; exact h w hw
def lastZ (l : List Int) : Nat → Int
  | 0 => 0
  | i + 1 => l.getD i 0
def hasZ (l : List Int) (s : Int) : Nat → Bool
  | 0 => false
  | i + 1 => hasZ l s i || decide (l.getD i 0 = s)
theorem getD_at {l : List Int} {i : Nat} (hi : i < l.length) : l.getD i 0 = l[i] := by
  rw [List.getD_eq_getElem?_getD, List.getElem?_eq_getElem hi, Option.getD_some]
theorem last_lt {ω : List Wt} {k : Int} {p : Bs} (h : ∀ w ∈ ω, 1 ≤ w.1) {i : Nat} (hi : i < (tellW ω k p).length) : lastZ (tellW ω k p) i < (tellW ω k p).getD i 0 := by
  rw [getD_at hi]
  cases i with
  | zero => have := tell_pos h hi; show (0 : Int) < _; omega
  | succ i =>
    have := tell_get_lt (ω := ω) (k := k) (p := p) (Nat.lt_succ_self i) hi
    show (tellW ω k p).getD i 0 < _
    rw [getD_at (by omega)]
    exact this
theorem only_fire (ω : List Wt) (s : Int) (e : Ev) : (fireL (onlyW ω s) [e]).1 = onlyW (leftW ω e.1 e.2.1) s ∧ (fireL (onlyW ω s) [e]).2.length = if s ∈ tellW ω e.1 e.2.1 then 1 else 0 := by
  obtain ⟨h1, h2⟩ := fire_tbl (onlyW ω s) e
  refine ⟨by rw [h1, only_left], ?_⟩
  rw [h2, List.length_map]
  have := tell_only (ω := ω) e.1 e.2.1 s
  unfold onlyW
  rw [this]
  split <;> rfl
theorem only_len (ω : List Wt) (s : Int) : (onlyW ω s).length ≤ ω.length := List.length_filter_le _ _
theorem tld_ev {l : List Tld} {i : Nat} (hi : i < l.length) : ((l.flatMap tldC).drop (i * 4 + 1)).take 3 = evC l[i].2 := by
  have h := flatMap_at (f := tldC) (sz := 4) (fun _ _ => rfl) hi
  have h2 : ((((l.flatMap tldC).drop (i * 4)).take 4).drop 1) = evC l[i].2 := by rw [h]; rfl
  rw [List.drop_take, List.drop_drop] at h2
  exact h2
theorem told_to {l : List Int} {e : Ev} {i : Nat} (hi : i < l.length) : ((l.map fun x => (x, e)).flatMap tldC)[i * 4 + 0]? = some (vint (l.getD i 0)) ∧ (((l.map fun x => (x, e)).flatMap tldC).drop (i * 4 + 1)).take 3 = evC e := by
  have hj : i < (l.map fun x => (x, e)).length := by rw [List.length_map]; exact hi
  refine ⟨?_, ?_⟩
  · rw [tld_cell hj (by decide), getD_at hi]; simp [tldC]
  · rw [tld_ev hj]; simp
theorem hasZ_mem {l : List Int} {s : Int} : ∀ i, i ≤ l.length → hasZ l s i = decide (s ∈ l.take i)
  | 0, _ => by simp [hasZ]
  | i + 1, h => by
    unfold hasZ
    rw [hasZ_mem i (by omega), List.take_succ_eq_append_getElem (by omega), List.getD_eq_getElem?_getD, List.getElem?_eq_getElem (by omega)]
    rw [Option.getD_some, ← Bool.decide_or]
    refine decide_eq_decide.2 ?_
    rw [List.mem_append, List.mem_singleton]
    exact or_congr Iff.rfl eq_comm
theorem has_all (l : List Int) (s : Int) : hasZ l s l.length = decide (s ∈ l) := by rw [hasZ_mem _ (Nat.le_refl _), List.take_length]
end Go.Proofs.YtnnbelmpbmfdnaaDoor
