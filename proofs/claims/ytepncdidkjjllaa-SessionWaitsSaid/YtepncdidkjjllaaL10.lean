/- Own work: law 10 in plain words. -/
import Derived.Test.YtepncdidkjjllaaRef10
namespace Go.Proofs.Ytepncdidkjjllaa
open Go

structure StepZ where
  what : Int
  id : Int
  to : Int
  now : Int
def stepC (x : StepZ) : List Value := [vint x.what, vint x.id, vint x.to, vint x.now]
def I64 (n : Int) : Prop := -9223372036854775808 ≤ n ∧ n ≤ 9223372036854775807
def StepZ.fit (x : StepZ) : Prop := I64 x.what ∧ I64 x.id ∧ I64 x.to ∧ I64 x.now
def sStep (σ : Ses) (x : StepZ) : Ses :=
  if pickZ x.what 5 = 2 ∨ pickZ x.what 5 = 3 then (sTouch σ x.id x.now).1 else if pickZ x.what 5 = 4 then (sClose σ x.id).1 else (sOpen σ x.id x.to x.now).1
theorem SOk.step {σ : Ses} (h : SOk σ) (x : StepZ) (hx : x.id ≤ 9223372036854775807) : SOk (sStep σ x) := by
  unfold sStep
  split
  · exact h.touched _ _
  · split
    · exact h.closed _
    · exact h.opened _ _ _ hx
abbrev stepsC (xs : List StepZ) : List Value := xs.flatMap stepC
theorem stepsC_at {xs : List StepZ} {i : Nat} (hi : i < xs.length) : ((stepsC xs).drop (i * 4)).take 4 = stepC xs[i] := flatMap_at (f := stepC) (fun _ _ => rfl) hi
structure StepsRd (p : HP) (v : Value) (xs : List StepZ) : Prop where
  cells : ∀ h : Hp, p h → rdS 4 h v xs.length (stepsC xs)
  fit : ∀ x ∈ xs, x.fit
  len : xs.length ≤ 140737488355328
theorem sExp_len {σ : Ses} (h : SOk σ) (n : Int) : (sExp σ n).length ≤ 16 := by
  unfold sExp; rw [List.length_map]; exact Nat.le_trans (List.length_filter_le _ _) h.few
theorem sAll_len {σ : Ses} (h : SOk σ) : (sAll σ).length ≤ 16 := by unfold sAll; rw [List.length_map]; exact h.few
/-! ### awake -/
def aw10 : Ses := [(7, (10, 12))]
theorem aw10_open : sOpen [] 7 10 0 = (aw10, 0) := by decide
theorem aw10_dead : sDead aw10 7 = (12, 0) := by decide
theorem aw10_exp : sExp aw10 12 = [7] := by decide
theorem aw10_exp2 : sExp aw10 11 = [] := by decide
theorem aw10_touch : sTouch aw10 8 0 = (aw10, 90) := by decide
/-! ### SessionWaits -/
theorem ends_low (now to : Int) : now + to ≤ endsZ now to ∧ endsZ now to ≤ now + to + 3 := by unfold endsZ; omega
theorem ends_mono {now now' to : Int} (h : now ≤ now') : endsZ now to ≤ endsZ now' to := by unfold endsZ; omega
def ws (to now : Int) : Ses := [(5, (to, endsZ now to)), (6, (60, 60))]
theorem ws_open1 {to now : Int} (h1 : 4 ≤ to) (h2 : to ≤ 60) (h : ¬ badTime now) : sOpen [] 5 to now = ([(5, (to, endsZ now to))], 0) := by
  unfold sOpen
  rw [if_neg (by rintro (h' | h' | h' | h') <;> first | omega | exact h h'), if_neg (by simp)]
  rfl
theorem ws_open2 {to now : Int} : sOpen [(5, (to, endsZ now to))] 6 60 0 = (ws to now, 0) := by
  unfold sOpen
  rw [if_neg (by simp [badTime]), if_neg (by simp)]
  simp [sins, ws]; rfl
theorem ws_dead5 (to now : Int) : sDead (ws to now) 5 = (endsZ now to, 0) := by simp [sDead, ws, alook]
theorem ws_dead6 (to now : Int) : sDead (ws to now) 6 = (60, 0) := by simp [sDead, ws, alook]
theorem ws_touch {to now now' : Int} (h : ¬ badTime now') (hn : now ≤ now') : sTouch (ws to now) 5 now' = (ws to now', 0) := by
  have := ends_mono (to := to) hn
  simp [sTouch, ws, alook, h, sins]
  omega
theorem ws_early (to now : Int) : ∀ x ∈ sExp (ws to now) (now + to - 1), x ≠ 5 := by
  have := ends_low now to
  intro x hx
  simp only [sExp, ws, List.mem_map, List.mem_filter, decide_eq_true_eq, List.mem_cons, List.not_mem_nil, or_false] at hx
  obtain ⟨y, ⟨hy, h1⟩, rfl⟩ := hx
  rcases hy with rfl | rfl
  · dsimp only at h1; omega
  · simp
theorem ws_late (to now : Int) : ∃ l, sExp (ws to now) (now + to + 3) = 5 :: l := by
  have := ends_low now to
  simp [sExp, ws, show endsZ now to ≤ now + to + 3 by omega]
theorem ws_len (to now n : Int) : (sExp (ws to now) n).length ≤ 2 := by
  unfold sExp; rw [List.length_map]; exact List.length_filter_le _ _
theorem ws_close (to now : Int) : sClose (ws to now) 5 = ([(6, (60, 60))], 0) := by simp [sClose, ws, alook, adel]
/-! ### SessionApart -/
def idZ (x : StepZ) : StepZ := { x with id := 1 + pickZ x.id 16 }
structure AR (σ τ : Ses) : Prop where
  ok : SOk σ
  ok1 : SOk τ
  ids : ∀ x ∈ σ, x.1 ≤ 16
  one : ∀ x ∈ τ, x.1 = 1
  same : alook τ 1 = alook σ 1
theorem AR.start : AR [] [] := ⟨SOk.nil, SOk.nil, by simp, by simp, rfl⟩
theorem AR.dead {σ τ : Ses} (h : AR σ τ) : sDead τ 1 = sDead σ 1 := by unfold sDead; rw [h.same]
theorem sorted_len : ∀ {l : List Int} {a b : Int}, l.Pairwise (· < ·) → (∀ x ∈ l, a ≤ x ∧ x < b) → a ≤ b → (l.length : Int) ≤ b - a := by
  intro l
  induction l with
  | nil => intro a b _ _ hab; simp; omega
  | cons x l ih =>
    intro a b hp hx hab
    obtain ⟨h1, h2⟩ := List.pairwise_cons.1 hp
    have hx0 := hx x (by simp)
    have := ih (a := x + 1) (b := b) h2 (fun y hy => ⟨by have := h1 y hy; omega, (hx y (List.mem_cons_of_mem _ hy)).2⟩) (by omega)
    simp; omega
theorem AR.room {σ τ : Ses} (h : AR σ τ) (hn : alook σ 1 = none) : ¬ 16 ≤ σ.length := by
  have h1 : ∀ x ∈ σ.map (·.1), (2 : Int) ≤ x ∧ x < 17 := by
    intro x hx
    obtain ⟨y, hy, rfl⟩ := List.mem_map.1 hx
    have h2 := h.ids y hy
    have h3 := (h.ok.fit y hy).1
    have h4 : y.1 ≠ 1 := fun e => al_none.1 hn (List.mem_map.2 ⟨y, hy, e⟩)
    omega
  have := sorted_len (List.pairwise_map.2 h.ok.sorted) h1 (by omega)
  simp at this; omega
theorem AR.len1 {σ τ : Ses} (h : AR σ τ) : τ.length ≤ 1 := by
  have := sorted_len (a := 1) (b := 2) (List.pairwise_map.2 h.ok1.sorted) (fun x hx => by
    obtain ⟨y, hy, rfl⟩ := List.mem_map.1 hx
    have := h.one y hy; omega) (by omega)
  simp at this; omega
theorem AR.insOther {σ τ : Ses} (h : AR σ τ) {id : Int} {e : Int × Int} (hid : id ≠ 1) (hid2 : id ≤ 16) (hok : SOk (sins σ id e)) : AR (sins σ id e) τ :=
  ⟨hok, h.ok1, fun x hx => by rcases sins_mem hx with rfl | hx; exact hid2; exact h.ids x hx, h.one, by rw [sins_look h.ok.sorted, if_neg (Ne.symm hid)]; exact h.same⟩
theorem AR.insOne {σ τ : Ses} (h : AR σ τ) {e : Int × Int} (hok : SOk (sins σ 1 e)) (hok1 : SOk (sins τ 1 e)) : AR (sins σ 1 e) (sins τ 1 e) :=
  ⟨hok, hok1, fun x hx => by rcases sins_mem hx with rfl | hx; simp; exact h.ids x hx, fun x hx => by rcases sins_mem hx with rfl | hx; rfl; exact h.one x hx, by rw [sins_look h.ok.sorted, sins_look h.ok1.sorted, if_pos rfl, if_pos rfl]⟩
theorem AR.openOther {σ τ : Ses} (h : AR σ τ) {id : Int} (to now : Int) (hid : id ≠ 1) (hid2 : id ≤ 16) : AR (sOpen σ id to now).1 τ := by
  have hok := h.ok.opened id to now (by omega)
  unfold sOpen at hok ⊢
  split
  · exact h
  · rename_i h1
    rw [if_neg h1] at hok
    split
    · exact h
    · rename_i h2
      rw [if_neg h2] at hok
      exact h.insOther hid hid2 hok
theorem AR.openOne {σ τ : Ses} (h : AR σ τ) (to now : Int) : (sOpen σ 1 to now).2 = (sOpen τ 1 to now).2 ∧ AR (sOpen σ 1 to now).1 (sOpen τ 1 to now).1 := by
  have hok := h.ok.opened 1 to now (by omega)
  have hok1 := h.ok1.opened 1 to now (by omega)
  have n1 : ¬ (alook σ 1 = none ∧ 16 ≤ σ.length) := fun hh => h.room hh.1 hh.2
  have n2 : ¬ (alook τ 1 = none ∧ 16 ≤ τ.length) := fun hh => by have := h.len1; omega
  unfold sOpen at hok hok1 ⊢
  rw [if_neg n1] at hok ⊢; rw [if_neg n2] at hok1 ⊢
  split
  · exact ⟨rfl, h⟩
  · rename_i h1
    rw [if_neg h1] at hok hok1
    exact ⟨rfl, h.insOne hok hok1⟩
theorem AR.touchOther {σ τ : Ses} (h : AR σ τ) {id : Int} (now : Int) (hid : id ≠ 1) (hid2 : id ≤ 16) : AR (sTouch σ id now).1 τ := by
  have hok := h.ok.touched id now
  unfold sTouch at hok ⊢
  cases hl : alook σ id with
  | none => exact h
  | some e =>
    rw [hl] at hok
    dsimp only at hok ⊢
    split
    · exact h
    · rename_i h1
      rw [if_neg h1] at hok
      exact h.insOther hid hid2 hok
theorem AR.touchOne {σ τ : Ses} (h : AR σ τ) (now : Int) : (sTouch σ 1 now).2 = (sTouch τ 1 now).2 ∧ AR (sTouch σ 1 now).1 (sTouch τ 1 now).1 := by
  have hok := h.ok.touched 1 now
  have hok1 := h.ok1.touched 1 now
  unfold sTouch at hok hok1 ⊢
  rw [h.same] at hok1 ⊢
  cases hl : alook σ 1 with
  | none => exact ⟨rfl, h⟩
  | some e =>
    rw [hl] at hok hok1
    dsimp only at hok hok1 ⊢
    split
    · exact ⟨rfl, h⟩
    · rename_i h1
      rw [if_neg h1] at hok hok1
      exact ⟨rfl, h.insOne hok hok1⟩
theorem AR.closeOther {σ τ : Ses} (h : AR σ τ) {id : Int} (hid : id ≠ 1) : AR (sClose σ id).1 τ := by
  have hok := h.ok.closed id
  unfold sClose at hok ⊢
  split
  · exact h
  · exact ⟨h.ok.del id, h.ok1, fun x hx => h.ids x ((adel_sub σ id).subset hx), h.one, by rw [al_adel h.ok.sorted.nodup, if_neg (Ne.symm hid)]; exact h.same⟩
theorem AR.closeOne {σ τ : Ses} (h : AR σ τ) : (sClose σ 1).2 = (sClose τ 1).2 ∧ AR (sClose σ 1).1 (sClose τ 1).1 := by
  unfold sClose
  rw [h.same]
  split
  · exact ⟨rfl, h⟩
  · exact ⟨rfl, h.ok.del 1, h.ok1.del 1, fun x hx => h.ids x ((adel_sub σ 1).subset hx), fun x hx => h.one x ((adel_sub τ 1).subset hx), by rw [al_adel h.ok.sorted.nodup, al_adel h.ok1.sorted.nodup, if_pos rfl, if_pos rfl]⟩
end Go.Proofs.Ytepncdidkjjllaa
