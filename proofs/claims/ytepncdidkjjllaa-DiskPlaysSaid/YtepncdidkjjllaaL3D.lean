/- Own work: DiskTwice in plain words; scripts as they lie in memory. -/
import Derived.Test.YtepncdidkjjllaaStep03
namespace Go.Proofs.Ytepncdidkjjllaa
open Go

def opsC (xs : List (Value × OpZ)) : List Value := xs.flatMap fun x => opC x.1 x.2
structure OpsRd (p : HP) (v : Value) (xs : List (Value × OpZ)) : Prop where
  cells : ∀ h : Hp, p h → rdS 6 h v xs.length (opsC xs)
  hows : ∀ x ∈ xs, ∀ h : Hp, p h → rdS 1 h x.1 x.2.how.length (ints x.2.how)
  bnd : ∀ x ∈ xs, ∀ z ∈ x.2.how, -9223372036854775808 ≤ z ∧ z ≤ 9223372036854775807
  fit : ∀ x ∈ xs, x.2.f ≤ 9223372036854775807 ∧ x.2.how.length * 8 + 8 ≤ 140737488355328
  len : xs.length ≤ 140737488355328
theorem opsC_length (xs : List (Value × OpZ)) : (opsC xs).length = xs.length * 6 := by
  induction xs with
  | nil => rfl
  | cons x xs ih =>
    have : (opsC (x :: xs)).length = 6 + (opsC xs).length := by simp [opsC, opC]; omega
    rw [this, ih, List.length_cons]; omega
theorem opsC_at {xs : List (Value × OpZ)} {i : Nat} (hi : i < xs.length) : ((opsC xs).drop (i * 6)).take 6 = opC xs[i].1 xs[i].2 := by
  induction xs generalizing i with
  | nil => simp at hi
  | cons x xs ih =>
    have e : opsC (x :: xs) = opC x.1 x.2 ++ opsC xs := by simp [opsC]
    cases i with
    | zero => rw [e]; rfl
    | succ i =>
      have e2 : (i + 1) * 6 = (opC x.1 x.2).length + i * 6 := by show _ = 6 + _; omega
      rw [e, e2, List.drop_append, List.drop_eq_nil_of_le (by omega), List.nil_append, Nat.add_sub_cancel_left]
      exact ih (by simpa using hi)
theorem rdS_sub {sz b off n c i : Nat} {ys : List Value} {h : Hp} (hr : rdS sz h (.slice (some ⟨b, off, none⟩) n c) n ys) (hi : i < n) : rdS sz h (.slice (some ⟨b, off + i * sz, none⟩) 1 1) 1 ((ys.drop (i * sz)).take sz) := by
  obtain ⟨T, fr, l, hb, hl, hys, -⟩ := rdS_at hr (by omega)
  have h1 : (i + 1) * sz ≤ n * sz := Nat.mul_le_mul_right _ hi
  have h2 : (i + 1) * sz = i * sz + sz := by rw [Nat.add_mul, Nat.one_mul]
  refine .inr ⟨b, off + i * sz, 1, l, T, fr, rfl, hb, ?_, by omega, Nat.le_refl _⟩
  rw [← hys, Nat.one_mul, List.drop_take, List.drop_drop, List.take_take, Nat.min_eq_left (by omega)]
theorem OpsRd.at {p : HP} {b off c : Nat} {xs : List (Value × OpZ)} (h : OpsRd p (.slice (some ⟨b, off, none⟩) xs.length c) xs) {i : Nat} (hi : i < xs.length) : ∀ g : Hp, p g → rdS 6 g (.slice (some ⟨b, off + i * 6, none⟩) 1 1) 1 (opC xs[i].1 xs[i].2) := by
  intro g hg
  have := rdS_sub (h.cells g hg) hi
  rwa [opsC_at hi] at this
def Dk.run (δ : Dk) (xs : List (Value × OpZ)) : Dk := xs.foldl (fun δ x => δ.step x.2) δ
def Rk.run (ρ : Rk) (xs : List (Value × OpZ)) : Rk := xs.foldl (fun ρ x => ρ.step x.2) ρ
theorem Dk.step_acts (δ : Dk) (o : OpZ) : (δ.step o).acts ≤ δ.acts + 1 ∧ (δ.step o).now.length = δ.now.length := by
  unfold Dk.step
  split
  · unfold Dk.write
    split
    · exact ⟨by simp; omega, rfl⟩
    · split
      · exact ⟨by simp; omega, rfl⟩
      · exact ⟨by simp [Dk.act, Dk.put], by simp [Dk.act, Dk.put]⟩
  · split
    · unfold Dk.sync
      split
      · exact ⟨by simp; omega, rfl⟩
      · split <;> exact ⟨by simp [Dk.act], rfl⟩
    · split
      · exact ⟨by omega, rfl⟩
      · split
        · unfold Dk.arm
          split
          · exact ⟨by simp; omega, rfl⟩
          · split <;> exact ⟨by simp; omega, rfl⟩
        · split
          · have := δ.crashTo_same o.how δ.pend.length
            exact ⟨by simp only [Dk.crash, this.2.1]; omega, this.2.2.2.2⟩
          · exact ⟨by omega, rfl⟩
theorem Rk.step_N (ρ : Rk) (o : OpZ) (h : 0 ≤ ρ.N) : 0 ≤ (ρ.step o).N ∧ (ρ.step o).N ≤ ρ.N + 1 := by
  unfold Rk.step
  split
  · unfold Rk.write
    split
    · exact ⟨h, by simp; omega⟩
    · split
      · exact ⟨h, by simp; omega⟩
      · exact ⟨by simp [Rk.act]; omega, by simp [Rk.act]⟩
  · split
    · unfold Rk.sync
      split
      · exact ⟨h, by simp; omega⟩
      · split <;> exact ⟨by simp [Rk.act]; omega, by simp [Rk.act]⟩
    · split
      · exact ⟨h, by omega⟩
      · split
        · unfold Rk.arm
          split
          · exact ⟨h, by simp; omega⟩
          · split <;> exact ⟨h, by simp; omega⟩
        · split
          · have := (ρ.crashTo_same o.how ρ.pending.length).1
            exact ⟨by simp only [Rk.crash, this]; exact h, by simp only [Rk.crash, this]; omega⟩
          · exact ⟨h, by omega⟩
structure RunI (δ : Dk) (ρ : Rk) (m i : Nat) : Prop where
  acts : δ.acts ≤ i
  N : 0 ≤ ρ.N ∧ ρ.N ≤ i
  len : δ.now.length = m
theorem RunI.step {δ : Dk} {ρ : Rk} {m i : Nat} (h : RunI δ ρ m i) (o : OpZ) : RunI (δ.step o) (ρ.step o) m (i + 1) := by
  obtain ⟨a1, a2⟩ := δ.step_acts o
  obtain ⟨b1, b2⟩ := ρ.step_N o h.N.1
  have := h.acts; have := h.N
  exact ⟨by omega, ⟨b1, by omega⟩, by rw [a2, h.len]⟩
theorem RunI.start (m : Nat) : RunI (Dk.new m) (Rk.new m) m 0 := ⟨by simp [Dk.new], by simp [Rk.new], by simp [Dk.new]⟩
theorem Dk.crash_again (δ : Dk) (how again : List Int) : (δ.crash how).crash again = δ.crash how := by
  have h0 : (δ.crash how).pend = [] := by
    have : (δ.crash how).pend.length = 0 := by rw [Dk.pend_len]; rfl
    exact List.eq_nil_of_length_eq_zero this
  have e : (δ.crash how).crash again = { (δ.crash how).crashTo again 0 with old := [], dead := false, left := 0 } := by
    show { (δ.crash how).crashTo again (δ.crash how).pend.length with old := [], dead := false, left := 0 } = _
    rw [h0]; rfl
  rw [e]; rfl
theorem Dk.crash_readm {δ : Dk} (how : List Int) {m n : Nat} (hl : δ.now.length = m) (hn : n < m) : (δ.crash how).read n = (tx (δ.crash how).now n, 0) := by
  have h1 : (δ.crash how).has n = true := by simp [Dk.has, Dk.crash, (δ.crashTo_same how δ.pend.length).2.2.2.2, hl]; omega
  have h2 : (δ.crash how).dead = false := rfl
  unfold Dk.read
  rw [h2, h1]; simp [tx]
end Go.Proofs.Ytepncdidkjjllaa
