/- Own work: what a crash leaves of a sector: plain data. -/
import Derived.Test.YtepncdidkjjllaaDk2
namespace Go.Proofs.Ytepncdidkjjllaa
open Go

theorem alook_append_none {β : Type} {m m2 : List (Int × β)} {k : Int} (h : alook m k = none) : alook (m ++ m2) k = alook m2 k := by
  induction m with
  | nil => rfl
  | cons x m ih =>
    obtain ⟨a, c⟩ := x
    by_cases hk : k = a
    · subst hk; simp [alook] at h
    · simp only [alook, hk, if_false] at h
      simp only [List.cons_append, alook, hk, if_false]
      exact ih h
theorem alook_append_other {β : Type} {m : List (Int × β)} {k n : Int} {v : β} (h : k ≠ n) : alook (m ++ [(n, v)]) k = alook m k := by
  induction m with
  | nil => simp [alook, h]
  | cons x m ih =>
    obtain ⟨a, c⟩ := x
    simp only [List.cons_append, alook, ih]
theorem tdiv2 {a : Int} (h : -9223372036854775808 ≤ a ∧ a ≤ 9223372036854775807) : -9223372036854775808 ≤ a.tdiv 2 ∧ a.tdiv 2 ≤ 9223372036854775807 := by
  rcases Int.le_total 0 a with h0 | h0
  · rw [Int.tdiv_eq_ediv_of_nonneg h0]; omega
  · have e : a.tdiv 2 = -((-a).tdiv 2) := by rw [Int.neg_tdiv]; omega
    rw [e, Int.tdiv_eq_ediv_of_nonneg (by omega)]; omega
/-- Text n of a list of sectors. -/
def tx (l : List (List UInt8)) (n : Int) : List UInt8 := l.getD n.toNat []
/-- What a disk's sector n was when it was synced. -/
def Dk.orig (δ : Dk) (n : Int) : List UInt8 := (alook δ.old n).getD (tx δ.now n)
theorem tx_set {l : List (List UInt8)} {n m : Int} {s : List UInt8} (hm : 0 ≤ m ∧ m < l.length) (hn : 0 ≤ n) : tx (l.set n.toNat s) m = if m = n then s else tx l m := by
  unfold tx
  simp only [List.getD_eq_getElem?_getD, List.getElem?_set]
  by_cases h : m = n
  · subst h; rw [if_pos rfl, if_pos rfl, if_pos (by omega)]; rfl
  · rw [if_neg (by omega), if_neg h]
theorem take_torn {t o : List UInt8} (ht : t.length = 64) {b c : Nat} (hb : b ≤ 64) : (t.take b ++ o.drop b).take c ++ o.drop c = t.take (min b c) ++ o.drop (min b c) := by
  rcases Nat.le_total c b with h | h
  · rw [Nat.min_eq_right h, List.take_append, List.take_take, Nat.min_eq_left h]
    simp [ht, Nat.min_eq_left hb, h]
  · rw [Nat.min_eq_left h, List.take_append, List.take_take, Nat.min_eq_right h, List.append_assoc]
    congr 1
    simp only [List.length_take, ht, Nat.min_eq_left hb]
    rw [show o.drop c = (o.drop b).drop (c - b) by rw [List.drop_drop]; congr 1; omega, List.take_append_drop]
def Torn (s t o : List UInt8) : Prop := ∃ b : Nat, b ≤ 64 ∧ s = t.take b ++ o.drop b
theorem Torn.new {t o : List UInt8} (ht : t.length = 64) (ho : o.length = 64) : Torn t t o := ⟨64, Nat.le_refl _, by rw [List.take_of_length_le (by omega), List.drop_eq_nil_of_le (by omega), List.append_nil]⟩
theorem Torn.old {t o : List UInt8} : Torn o t o := ⟨0, by omega, by simp⟩
theorem Torn.cut {s t o : List UInt8} (ht : t.length = 64) (h : Torn s t o) {c : Nat} (hc : c ≤ 64) : Torn (s.take c ++ o.drop c) t o := by
  obtain ⟨b, hb, rfl⟩ := h
  exact ⟨min b c, by omega, take_torn ht hb⟩
theorem Dk.Ok.txlen {δ : Dk} (h : δ.Ok) {n : Int} (hn : 0 ≤ n ∧ n < δ.now.length) : (tx δ.now n).length = 64 := getD_mem64 h.sec (by omega)
theorem Dk.Ok.origlen {δ : Dk} (h : δ.Ok) {n : Int} (hn : 0 ≤ n ∧ n < δ.now.length) : (δ.orig n).length = 64 := by
  unfold Dk.orig
  rcases e : alook δ.old n with _ | o
  · exact h.txlen hn
  · exact (h.olds _ (alook_mem e)).1
/-- The stage's theorem, of the plain disk: behind a crash each sector is torn. -/
theorem Dk.crashTo_torn {δ : Dk} (h : δ.Ok) (how : List Int) : ∀ k, k ≤ δ.pend.length → ∀ n : Int, 0 ≤ n ∧ n < δ.now.length → Torn (tx (δ.crashTo how k).now n) (tx δ.now n) (δ.orig n) := by
  intro k
  induction k with
  | zero => exact fun _ n hn => .new (h.txlen hn) (h.origlen hn)
  | succ k ih =>
    intro hk n hn
    have ihn := ih (by omega) n hn
    obtain ⟨q0, q1, q2, o, q3, q4⟩ := Dk.pend_at h (k := k) (by omega)
    obtain ⟨e1, -, -, -, e2⟩ := δ.crashTo_same how k
    rw [Dk.crashTo]
    generalize δ.pend.getD k 0 = m at q0 q1 q2 q3
    generalize fateOf how k = f
    generalize δ.crashTo how k = σ at ihn e1 e2
    have hb : ((f / 3) % 65).toNat ≤ 64 := by omega
    simp only [Dk.crash1, e1, q3, Option.getD_some]
    split
    · rw [tx_set (by omega) q0]
      split
      · rename_i hnm; subst hnm
        have : δ.orig n = o := by simp [Dk.orig, q3]
        rw [this]; exact .old
      · exact ihn
    · split
      · rw [tx_set (by omega) q0]
        split
        · rename_i hnm; subst hnm
          have : δ.orig n = o := by simp [Dk.orig, q3]
          rw [this] at ihn ⊢
          exact ihn.cut (h.txlen hn) hb
        · exact ihn
      · exact ihn
theorem Dk.crash_torn {δ : Dk} (h : δ.Ok) (how : List Int) {n : Int} (hn : 0 ≤ n ∧ n < δ.now.length) : Torn (tx (δ.crash how).now n) (tx δ.now n) (δ.orig n) :=
  Dk.crashTo_torn h how _ (Nat.le_refl _) n hn
end Go.Proofs.Ytepncdidkjjllaa
