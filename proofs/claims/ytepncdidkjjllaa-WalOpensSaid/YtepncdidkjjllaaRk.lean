/- Own work: the document's disk as plain data, and what stands for it in memory. -/
import Derived.Test.YtepncdidkjjllaaDisk
namespace Go.Proofs.Ytepncdidkjjllaa
open Go

structure Rk where
  L : List (List UInt8)
  Old : List (List UInt8)
  Pend : List Bool
  N : Int
  At : Int
  Gone : Bool
structure Rk.Ok (ρ : Rk) : Prop where
  old : ρ.Old.length = ρ.L.length
  pend : ρ.Pend.length = ρ.L.length
  big : ρ.L.length ≤ 32768
  sec : ∀ s ∈ ρ.L, s.length = 64
  olds : ∀ s ∈ ρ.Old, s.length = 64
/-- The struct's cell row. -/
abbrev rkC (x : Nat) (vL vO vP : Value) (N At : Int) (Gone : Bool) : HP := ptc x [vL, vO, vP, vint N, vint At, .bool Gone] 102
def rkR (x : Nat) (ρ : Rk) : HP := fun h => ∃ v : Value × Value × Value, ρ.Ok ∧ sep [rkC x v.1 v.2.1 v.2.2 ρ.N ρ.At ρ.Gone, strR v.1 ρ.L, strR v.2.1 ρ.Old, boolR v.2.2 ρ.Pend] h
section
variable {W : World} {n : Nat} {ds : List Deferred} {E : Env} {L R : List HP} {X : Act → World → Prop}
theorem G.rkOpen {x : Nat} {ρ : Rk} (hL : Pick (rkR x ρ) L R) (h : ∀ vL vO vP, ρ.Ok → G W n ds E (rkC x vL vO vP ρ.N ρ.At ρ.Gone :: strR vL ρ.L :: strR vO ρ.Old :: boolR vP ρ.Pend :: R) X) : G W n ds E L X :=
  G.focus hL (G.open (q := fun v : Value × Value × Value => [rkC x v.1 v.2.1 v.2.2 ρ.N ρ.At ρ.Gone, strR v.1 ρ.L, strR v.2.1 ρ.Old, boolR v.2.2 ρ.Pend]) (φ := fun _ => ρ.Ok) (fun _ hp => hp) fun v hv => h v.1 v.2.1 v.2.2 hv)
theorem G.rkFold {x : Nat} {ρ : Rk} {l lL lO lP : List Value} {vL vO vP : Value} {nL nO nP : Nat} (hL : Picks [ptc x l 102, slR 9 1 vL nL lL, slR 9 1 vO nO lO, slR 4 1 vP nP lP] L R)
    (h1 : l = [vL, vO, vP, vint ρ.N, vint ρ.At, .bool ρ.Gone]) (h2 : nL = ρ.L.length ∧ lL = strs ρ.L) (h3 : nO = ρ.Old.length ∧ lO = strs ρ.Old) (h4 : nP = ρ.Pend.length ∧ lP = bools ρ.Pend) (hok : ρ.Ok)
    (h : G W n ds E (rkR x ρ :: R) X) : G W n ds E L X := by
  subst h1; obtain ⟨rfl, rfl⟩ := h2; obtain ⟨rfl, rfl⟩ := h3; obtain ⟨rfl, rfl⟩ := h4
  exact G.fold hL (fun _ hp => ⟨(vL, vO, vP), hok, hp⟩) h
end
def Rk.has (ρ : Rk) (n : Int) : Bool := decide (0 ≤ n) && decide (n < ρ.L.length)
def Rk.act (ρ : Rk) : Rk := { ρ with N := ρ.N + 1, Gone := if ρ.At > 0 ∧ ρ.N + 1 = ρ.At then true else ρ.Gone }
def Rk.read (ρ : Rk) (n : Int) : List UInt8 × Int := if ρ.Gone then ([], 2) else if ρ.has n = false then ([], 20) else (ρ.L.getD n.toNat [], 0)
def Rk.write (ρ : Rk) (n : Int) (s : List UInt8) : Rk × Int :=
  if ρ.Gone then (ρ, 2) else if ρ.has n = false ∨ s.length ≠ 64 then (ρ, 20)
  else ({ ρ.act with L := ρ.L.set n.toNat s, Pend := ρ.Pend.set n.toNat true }, if ρ.act.Gone then 2 else 0)
def Rk.sync (ρ : Rk) : Rk × Int :=
  if ρ.Gone then (ρ, 2) else if ρ.act.Gone then (ρ.act, 2) else ({ ρ.act with Old := ρ.L, Pend := ρ.L.map fun _ => false }, 0)
def Rk.arm (ρ : Rk) (n : Int) : Rk × Int :=
  if ρ.Gone then (ρ, 2) else if n < 0 then (ρ, 1) else ({ ρ with At := if n > 0 ∧ n ≤ 4611686018427387904 then ρ.N + n else 0 }, 0)
def Rk.new (n : Nat) : Rk := ⟨List.replicate n zs, List.replicate n zs, List.replicate n false, 0, 0, false⟩
def pendTo (l : List Bool) : Nat → List Int
  | 0 => []
  | i + 1 => if l.getD i false then pendTo l i ++ [(i : Int)] else pendTo l i
def Rk.pending (ρ : Rk) : List Int := pendTo ρ.Pend ρ.Pend.length
/-- The fate of one pending sector. -/
def fateOf (how : List Int) (k : Nat) : Int := let n := if k < how.length then how.getD k 0 else 0; if n < 0 then -(n + 1) else n
def Rk.crash1 (ρ : Rk) (f : Int) (i : Nat) : Rk :=
  let b := ((f / 3) % 65).toNat
  let l := if f % 3 = 0 then ρ.L.set i (ρ.Old.getD i []) else if f % 3 = 2 then ρ.L.set i ((ρ.L.getD i []).take b ++ (ρ.Old.getD i []).drop b) else ρ.L
  { ρ with L := l, Old := ρ.Old.set i (l.getD i []), Pend := ρ.Pend.set i false }
theorem rk_has_lt {ρ : Rk} {n : Int} (h : ρ.has n = true) : 0 ≤ n ∧ n < ρ.L.length ∧ n.toNat < ρ.L.length := by
  simp [Rk.has] at h; omega
theorem pendTo_lt {l : List Bool} : ∀ {i : Nat} {x : Int}, x ∈ pendTo l i → 0 ≤ x ∧ x < i := by
  intro i
  induction i with
  | zero => intro x h; simp [pendTo] at h
  | succ i ih =>
    intro x h
    simp only [pendTo] at h
    split at h
    · rcases List.mem_append.1 h with h | h
      · have := ih h; omega
      · simp at h; omega
    · have := ih h; omega
theorem pendTo_len (l : List Bool) : ∀ i, (pendTo l i).length ≤ i := by
  intro i
  induction i with
  | zero => simp [pendTo]
  | succ i ih =>
    simp only [pendTo]
    split
    · simp; omega
    · omega
def Rk.crashTo (ρ : Rk) (how : List Int) : Nat → Rk
  | 0 => ρ
  | k + 1 => (ρ.crashTo how k).crash1 (fateOf how k) (ρ.pending.getD k 0).toNat
def Rk.crash (ρ : Rk) (how : List Int) : Rk := { ρ.crashTo how ρ.pending.length with Gone := false, At := 0 }
theorem Rk.crash1_len (ρ : Rk) (f : Int) (i : Nat) : (ρ.crash1 f i).L.length = ρ.L.length ∧ (ρ.crash1 f i).Old.length = ρ.Old.length ∧ (ρ.crash1 f i).Pend.length = ρ.Pend.length := by
  refine ⟨?_, by simp [Rk.crash1], by simp [Rk.crash1]⟩
  simp only [Rk.crash1]
  split
  · simp
  · split <;> simp
theorem getD_mem64 {l : List (List UInt8)} (h : ∀ s ∈ l, s.length = 64) {i : Nat} (hi : i < l.length) : (l.getD i []).length = 64 := by
  have : l.getD i [] = l[i] := by simp [hi]
  rw [this]; exact h _ (List.getElem_mem _)
theorem Rk.Ok.crash1 {ρ : Rk} (h : ρ.Ok) (f : Int) {i : Nat} (hi : i < ρ.L.length) : (ρ.crash1 f i).Ok := by
  obtain ⟨a, b, c⟩ := ρ.crash1_len f i
  have h1 := getD_mem64 h.sec hi
  have h2 := getD_mem64 h.olds (i := i) (by rw [h.old]; exact hi)
  have hb : ((f / 3) % 65).toNat ≤ 64 := by omega
  have hsec : ∀ s ∈ (ρ.crash1 f i).L, s.length = 64 := by
    intro s hs
    simp only [Rk.crash1] at hs
    split at hs
    · rcases List.mem_or_eq_of_mem_set hs with hs | rfl
      · exact h.sec s hs
      · exact h2
    · split at hs
      · rcases List.mem_or_eq_of_mem_set hs with hs | rfl
        · exact h.sec s hs
        · rw [List.length_append, List.length_take, List.length_drop, h1, h2]; omega
      · exact h.sec s hs
  refine ⟨by rw [a, b]; exact h.old, by rw [a, c]; exact h.pend, by rw [a]; exact h.big, hsec, fun s hs => ?_⟩
  have e : (ρ.crash1 f i).Old = ρ.Old.set i ((ρ.crash1 f i).L.getD i []) := rfl
  rw [e] at hs
  rcases List.mem_or_eq_of_mem_set hs with hs | rfl
  · exact h.olds s hs
  · exact getD_mem64 hsec (by rw [a]; exact hi)
theorem Rk.pending_lt {ρ : Rk} (h : ρ.Ok) {k : Nat} (hk : k < ρ.pending.length) : 0 ≤ ρ.pending.getD k 0 ∧ (ρ.pending.getD k 0).toNat < ρ.L.length ∧ ρ.pending.getD k 0 < ρ.L.length := by
  have e : ρ.pending.getD k 0 = ρ.pending[k] := by simp [hk]
  have := pendTo_lt (List.getElem_mem hk : ρ.pending[k] ∈ pendTo ρ.Pend ρ.Pend.length)
  have hp := h.pend
  rw [e]; omega
theorem Rk.crashTo_ok {ρ : Rk} (h : ρ.Ok) (how : List Int) : ∀ k, k ≤ ρ.pending.length → (ρ.crashTo how k).Ok ∧ (ρ.crashTo how k).L.length = ρ.L.length := by
  intro k
  induction k with
  | zero => exact fun _ => ⟨h, rfl⟩
  | succ k ih =>
    intro hk
    obtain ⟨h1, h2⟩ := ih (by omega)
    obtain ⟨q0, q1, q2⟩ := Rk.pending_lt h (k := k) (by omega)
    exact ⟨h1.crash1 _ (by rw [h2]; exact q1), by rw [Rk.crashTo, (Rk.crash1_len _ _ _).1, h2]⟩
theorem Rk.crashTo_same (ρ : Rk) (how : List Int) : ∀ k, (ρ.crashTo how k).N = ρ.N ∧ (ρ.crashTo how k).At = ρ.At ∧ (ρ.crashTo how k).Gone = ρ.Gone := by
  intro k
  induction k with
  | zero => exact ⟨rfl, rfl, rfl⟩
  | succ k ih => simpa [Rk.crashTo, Rk.crash1] using ih
theorem fate0 (how : List Int) (hb : ∀ z ∈ how, -9223372036854775808 ≤ z ∧ z ≤ 9223372036854775807) (k : Nat) : 0 ≤ fateOf how k ∧ fateOf how k ≤ 9223372036854775807 := by
  have hz : -9223372036854775808 ≤ (if k < how.length then how.getD k 0 else 0) ∧ (if k < how.length then how.getD k 0 else 0) ≤ 9223372036854775807 := by
    split
    · rename_i hk
      have e : how.getD k 0 = how[k] := by simp [hk]
      rw [e]; exact hb _ (List.getElem_mem _)
    · omega
  unfold fateOf
  dsimp only
  split <;> omega
end Go.Proofs.Ytepncdidkjjllaa
