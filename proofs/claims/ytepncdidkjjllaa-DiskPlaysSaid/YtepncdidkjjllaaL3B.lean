/- Own work: DiskLasts in plain words. -/
import Derived.Test.YtepncdidkjjllaaL3A
namespace Go.Proofs.Ytepncdidkjjllaa
open Go

theorem alook_append_none {β : Type} {m m2 : List (Int × β)} {k : Int} (h : alook m k = none) : alook (m ++ m2) k = alook m2 k := by
  induction m with
  | nil => rfl
  | cons x m ih =>
    obtain ⟨a, c⟩ := x
    by_cases hk : k = a
    · subst hk; simp [alook] at h
    · simp only [alook, hk, if_false] at h
      simp only [List.cons_append, alook, hk, if_false]
      exact ih h
theorem alook_append_other {β : Type} {m : List (Int × β)} {k n : Int} {v : β} (h : k ≠ n) : alook (m ++ [(n, v)]) k = alook m k := by
  induction m with
  | nil => simp [alook, h]
  | cons x m ih =>
    obtain ⟨a, c⟩ := x
    simp only [List.cons_append, alook, ih]
theorem tdiv2 {a : Int} (h : -9223372036854775808 ≤ a ∧ a ≤ 9223372036854775807) : -9223372036854775808 ≤ a.tdiv 2 ∧ a.tdiv 2 ≤ 9223372036854775807 := by
  rcases Int.le_total 0 a with h0 | h0
  · rw [Int.tdiv_eq_ediv_of_nonneg h0]; omega
  · have e : a.tdiv 2 = -((-a).tdiv 2) := by rw [Int.neg_tdiv]; omega
    rw [e, Int.tdiv_eq_ediv_of_nonneg (by omega)]; omega
/-- Text n of a list of sectors. -/
def tx (l : List (List UInt8)) (n : Int) : List UInt8 := l.getD n.toNat []
/-- What a disk's sector n was when it was synced. -/
def Dk.orig (δ : Dk) (n : Int) : List UInt8 := (alook δ.old n).getD (tx δ.now n)
theorem tx_set {l : List (List UInt8)} {n m : Int} {s : List UInt8} (hm : 0 ≤ m ∧ m < l.length) (hn : 0 ≤ n) : tx (l.set n.toNat s) m = if m = n then s else tx l m := by
  unfold tx
  simp only [List.getD_eq_getElem?_getD, List.getElem?_set]
  by_cases h : m = n
  · subst h; rw [if_pos rfl, if_pos rfl, if_pos (by omega)]; rfl
  · rw [if_neg (by omega), if_neg h]
theorem take_torn {t o : List UInt8} (ht : t.length = 64) {b c : Nat} (hb : b ≤ 64) : (t.take b ++ o.drop b).take c ++ o.drop c = t.take (min b c) ++ o.drop (min b c) := by
  rcases Nat.le_total c b with h | h
  · rw [Nat.min_eq_right h, List.take_append, List.take_take, Nat.min_eq_left h]
    simp [ht, Nat.min_eq_left hb, h]
  · rw [Nat.min_eq_left h, List.take_append, List.take_take, Nat.min_eq_right h, List.append_assoc]
    congr 1
    simp only [List.length_take, ht, Nat.min_eq_left hb]
    rw [show o.drop c = (o.drop b).drop (c - b) by rw [List.drop_drop]; congr 1; omega, List.take_append_drop]
def Torn (s t o : List UInt8) : Prop := ∃ b : Nat, b ≤ 64 ∧ s = t.take b ++ o.drop b
theorem Torn.new {t o : List UInt8} (ht : t.length = 64) (ho : o.length = 64) : Torn t t o := ⟨64, Nat.le_refl _, by rw [List.take_of_length_le (by omega), List.drop_eq_nil_of_le (by omega), List.append_nil]⟩
theorem Torn.old {t o : List UInt8} : Torn o t o := ⟨0, by omega, by simp⟩
theorem Torn.cut {s t o : List UInt8} (ht : t.length = 64) (h : Torn s t o) {c : Nat} (hc : c ≤ 64) : Torn (s.take c ++ o.drop c) t o := by
  obtain ⟨b, hb, rfl⟩ := h
  exact ⟨min b c, by omega, take_torn ht hb⟩
theorem Dk.Ok.txlen {δ : Dk} (h : δ.Ok) {n : Int} (hn : 0 ≤ n ∧ n < δ.now.length) : (tx δ.now n).length = 64 := getD_mem64 h.sec (by omega)
theorem Dk.Ok.origlen {δ : Dk} (h : δ.Ok) {n : Int} (hn : 0 ≤ n ∧ n < δ.now.length) : (δ.orig n).length = 64 := by
  unfold Dk.orig
  rcases e : alook δ.old n with _ | o
  · exact h.txlen hn
  · exact (h.olds _ (alook_mem e)).1
/-- The stage's theorem, of the plain disk: behind a crash each sector is torn. -/
theorem Dk.crashTo_torn {δ : Dk} (h : δ.Ok) (how : List Int) : ∀ k, k ≤ δ.pend.length → ∀ n : Int, 0 ≤ n ∧ n < δ.now.length → Torn (tx (δ.crashTo how k).now n) (tx δ.now n) (δ.orig n) := by
  intro k
  induction k with
  | zero => exact fun _ n hn => .new (h.txlen hn) (h.origlen hn)
  | succ k ih =>
    intro hk n hn
    have ihn := ih (by omega) n hn
    obtain ⟨q0, q1, q2, o, q3, q4⟩ := Dk.pend_at h (k := k) (by omega)
    obtain ⟨e1, -, -, -, e2⟩ := δ.crashTo_same how k
    rw [Dk.crashTo]
    generalize δ.pend.getD k 0 = m at q0 q1 q2 q3
    generalize fateOf how k = f
    generalize δ.crashTo how k = σ at ihn e1 e2
    have hb : ((f / 3) % 65).toNat ≤ 64 := by omega
    simp only [Dk.crash1, e1, q3, Option.getD_some]
    split
    · rw [tx_set (by omega) q0]
      split
      · rename_i hnm; subst hnm
        have : δ.orig n = o := by simp [Dk.orig, q3]
        rw [this]; exact .old
      · exact ihn
    · split
      · rw [tx_set (by omega) q0]
        split
        · rename_i hnm; subst hnm
          have : δ.orig n = o := by simp [Dk.orig, q3]
          rw [this] at ihn ⊢
          exact ihn.cut (h.txlen hn) hb
        · exact ihn
      · exact ihn
theorem Dk.crash_torn {δ : Dk} (h : δ.Ok) (how : List Int) {n : Int} (hn : 0 ≤ n ∧ n < δ.now.length) : Torn (tx (δ.crash how).now n) (tx δ.now n) (δ.orig n) :=
  Dk.crashTo_torn h how _ (Nat.le_refl _) n hn
theorem Dk.write_e {δ : Dk} {n : Int} {s : List UInt8} (hn : δ.has n = true) (hs : s.length = 64) : (δ.write n s).2 = if (δ.write n s).1.dead then 2 else 0 := by
  unfold Dk.write
  by_cases h : δ.dead = true
  · simp [h]
  · have h' : δ.dead = false := by simpa using h
    have e : (if (false : Bool) = true then (δ, (2 : Int)) else if (true : Bool) = false ∨ 64 ≠ 64 then (δ, 20) else (δ.put n s).act) = (δ.put n s).act := by simp
    rw [h', hn, hs, e]
    simp only [Dk.act, Dk.put, actE, actD, h']
    by_cases h1 : δ.left = 0
    · simp [h1]
    · by_cases h2 : δ.left - 1 > 0
      · rw [if_neg h1, if_neg h1, if_pos h2, if_pos h2]; rfl
      · rw [if_neg h1, if_neg h1, if_neg h2, if_neg h2]; rfl
theorem Dk.write_now {δ : Dk} {n : Int} {s : List UInt8} (hn : δ.has n = true) (hs : s.length = 64) (hd : δ.dead = false) : (δ.write n s).1 = (δ.put n s).act.1 := by
  unfold Dk.write
  rw [hd, hn, hs]; simp
theorem Dk.write_dead {δ : Dk} {n : Int} {s : List UInt8} (hd : δ.dead = true) : (δ.write n s).1 = δ := by
  unfold Dk.write; rw [hd]; simp
/-- Phase 1: nothing is armed. -/
structure La1 (δ : Dk) (i : Nat) : Prop where
  len : δ.now.length = 32
  left : δ.left = 0
  dead : δ.dead = false
  acts : δ.acts = i
theorem La1.start : La1 (Dk.new 32) 0 := ⟨by simp [Dk.new], rfl, rfl, rfl⟩
theorem La1.has {δ : Dk} {i : Nat} (h : La1 δ i) {n : Int} (hn : 0 ≤ n ∧ n < 32) : δ.has n = true := by simp [Dk.has, h.len]; omega
theorem La1.write {δ : Dk} {i : Nat} (h : La1 δ i) {n : Int} (hn : 0 ≤ n ∧ n < 32) {s : List UInt8} (hs : s.length = 64) :
    (δ.write n s).2 = 0 ∧ La1 (δ.write n s).1 (i + 1) ∧ (δ.write n s).1.now = δ.now.set n.toNat s := by
  have hw := Dk.write_now (h.has hn) hs h.dead
  have he := Dk.write_e (h.has hn) hs
  have hd : (δ.put n s).act.1.dead = false := by simp [Dk.act, Dk.put, actD, h.left, h.dead]
  rw [hw] at he ⊢
  rw [hd] at he
  exact ⟨by simpa using he, ⟨by simp [Dk.act, Dk.put, h.len], by simp [Dk.act, Dk.put, actL, h.left], hd, by simp [Dk.act, Dk.put, h.acts]⟩, rfl⟩
theorem La1.sync {δ : Dk} {i : Nat} (h : La1 δ i) : δ.sync = ({ δ.act.1 with old := [] }, 0) := by
  unfold Dk.sync
  have : δ.act.2 = 0 := by simp [Dk.act, actE, h.left]
  rw [h.dead, this]; simp
def laArm (δ : Dk) (k : Int) : Dk := { δ.act.1 with old := [], left := k, dead := false }
theorem La1.arm {δ : Dk} {i : Nat} (h : La1 δ i) {k : Int} (hk : 0 ≤ k) : ({ δ.act.1 with old := [] } : Dk).arm k = (laArm δ k, 0) := by
  unfold Dk.arm
  have : δ.act.1.dead = false := by simp [Dk.act, actD, h.left, h.dead]
  simp only [this, Bool.false_eq_true, if_false]
  rw [if_neg (by omega)]
  simp [laArm, this]
/-- Phase 2: what was synced is the list T. -/
structure La2 (T : List (List UInt8)) (δ : Dk) (j : Nat) : Prop where
  len : δ.now.length = 32
  acts : δ.acts ≤ 61 + j
  orig : ∀ n, 0 ≤ n ∧ n < 32 → δ.orig n = tx T n
theorem La1.armed {δ : Dk} {i : Nat} (h : La1 δ i) (hi : i ≤ 60) (k : Int) : La2 δ.now (laArm δ k) 0 :=
  ⟨by simp [laArm, Dk.act, h.len], by simp [laArm, Dk.act, h.acts]; omega, fun n _ => by simp [Dk.orig, laArm, Dk.act, alook]⟩
theorem La2.write {T : List (List UInt8)} {δ : Dk} {j : Nat} (h : La2 T δ j) {n : Int} (hn : 0 ≤ n ∧ n < 32) {s : List UInt8} (hs : s.length = 64) : La2 T (δ.write n s).1 (j + 1) := by
  have hh : δ.has n = true := by simp [Dk.has, h.len]; omega
  by_cases hd : δ.dead = true
  · rw [Dk.write_dead hd]; exact ⟨h.len, by have := h.acts; omega, h.orig⟩
  · have hd' : δ.dead = false := by simpa using hd
    rw [Dk.write_now hh hs hd']
    have ha := h.acts
    refine ⟨by simp [Dk.act, Dk.put, h.len], by simp [Dk.act, Dk.put]; omega, fun m hm => ?_⟩
    rw [← h.orig m hm]
    have hl := h.len
    simp only [Dk.orig, Dk.act, Dk.put]
    rcases e : alook δ.old n with _ | o
    · simp only [Option.isSome_none, Bool.false_eq_true, if_false]
      rw [aset_none e]
      by_cases hmn : m = n
      · subst hmn
        rw [alook_append_none e]; simp [alook, e, tx]
      · rw [alook_append_other hmn, tx_set (by omega) (by omega), if_neg hmn]
    · simp only [Option.isSome_some, if_true]
      by_cases hmn : m = n
      · subst hmn; rw [e]; rfl
      · rw [tx_set (by omega) (by omega), if_neg hmn]
def tornTo (s t o : List UInt8) (b : Nat) : Bool := (List.range b).any fun c => decide (s = t.take c ++ o.drop c)
theorem tornTo_succ (s t o : List UInt8) (b : Nat) : tornTo s t o (b + 1) = (tornTo s t o b || decide (s = t.take b ++ o.drop b)) := by
  simp [tornTo, List.range_succ, List.any_append]
theorem Torn.to {s t o : List UInt8} (h : Torn s t o) : tornTo s t o 65 = true := by
  obtain ⟨b, hb, e⟩ := h
  simp only [tornTo, List.any_eq_true, List.mem_range, decide_eq_true_eq]
  exact ⟨b, by omega, e⟩
theorem Dk.crash_read {δ : Dk} (how : List Int) (hl : δ.now.length = 32) {n : Nat} (hn : n < 32) : (δ.crash how).read n = (tx (δ.crash how).now n, 0) := by
  have h1 : (δ.crash how).has n = true := by simp [Dk.has, Dk.crash, (δ.crashTo_same how δ.pend.length).2.2.2.2, hl]; omega
  have h2 : (δ.crash how).dead = false := rfl
  unfold Dk.read
  rw [h2, h1]; simp [tx]
end Go.Proofs.Ytepncdidkjjllaa
