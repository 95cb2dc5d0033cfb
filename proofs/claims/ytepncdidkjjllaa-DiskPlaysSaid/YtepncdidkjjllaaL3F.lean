/- Own work: a crash of a disk and of the document's, side by side; steps of a script. -/
import Derived.Test.YtepncdidkjjllaaL3E
namespace Go.Proofs.Ytepncdidkjjllaa
open Go

structure CI (δ : Dk) (ρ : Rk) (how : List Int) (k : Nat) : Prop where
  L : (ρ.crashTo how k).L = (δ.crashTo how k).now
  pend : ∀ n : Nat, pd (ρ.crashTo how k).Pend n = ((alook δ.old (n : Int)).isSome && !decide ((n : Int) ∈ δ.pend.take k))
  old : ∀ n : Nat, n < δ.now.length → ox (ρ.crashTo how k).Old n = if (n : Int) ∈ δ.pend.take k then ox (δ.crashTo how k).now n else (alook δ.old (n : Int)).getD (ox (δ.crashTo how k).now n)
theorem Rel.pendNodup {δ : Dk} {ρ : Rk} (h : Rel δ ρ) : δ.pend.Nodup := (sortI_perm _).nodup_iff.2 h.ok.nodup
theorem Dk.crash1_other (δ : Dk) (f m : Int) {n : Nat} (hm : m.toNat < δ.now.length) (h : n ≠ m.toNat) : ox (δ.crash1 f m).now n = ox δ.now n := by
  simp only [Dk.crash1, ox]
  split
  · rw [getD_set hm, if_neg h]
  · split
    · rw [getD_set hm, if_neg h]
    · rfl
theorem CI.step {δ : Dk} {ρ : Rk} {how : List Int} (h : Rel δ ρ) {k : Nat} (hk : k < δ.pend.length) (c : CI δ ρ how k) : CI δ ρ how (k + 1) := by
  obtain ⟨m0, mlt, mlt', o, ho, hol⟩ := Dk.pend_at h.ok hk
  have hpk : ρ.pending.getD k 0 = δ.pend.getD k 0 := by rw [h.pending]
  have htake : δ.pend.take (k + 1) = δ.pend.take k ++ [δ.pend.getD k 0] := by
    rw [List.take_succ_eq_append_getElem hk]; simp [hk]
  have hnot : δ.pend.getD k 0 ∉ δ.pend.take k := by
    have hn := (List.take_sublist (k + 1) δ.pend).nodup h.pendNodup
    rw [htake] at hn
    exact fun hm => (List.nodup_append.1 hn).2.2 _ hm _ (by simp) rfl
  generalize hm : δ.pend.getD k 0 = m at *
  have hM : ((m.toNat : Nat) : Int) = m := by omega
  obtain ⟨s1, s2, s3, s4, s5⟩ := δ.crashTo_same how k
  obtain ⟨r1, r2⟩ := Rk.crashTo_ok h.rok how k (by rw [← h.pending]; omega)
  have hLn : (ρ.crashTo how k).L.length = δ.now.length := by rw [r2, h.L]
  have hOn : (ρ.crashTo how k).Old.length = δ.now.length := by rw [r1.old, hLn]
  have hPn : (ρ.crashTo how k).Pend.length = δ.now.length := by rw [r1.pend, hLn]
  have hOldM : (ρ.crashTo how k).Old.getD m.toNat [] = o := by
    have := c.old m.toNat mlt
    rw [hM, if_neg hnot, ho] at this
    exact this
  have hL : (ρ.crashTo how (k + 1)).L = (δ.crashTo how (k + 1)).now := by
    simp only [Rk.crashTo, Dk.crashTo, hpk, hm, Rk.crash1, Dk.crash1, hOldM, s1, ho, Option.getD_some, c.L]
  refine ⟨hL, fun n => ?_, fun n hn => ?_⟩
  · have e : (ρ.crashTo how (k + 1)).Pend = (ρ.crashTo how k).Pend.set m.toNat false := by simp only [Rk.crashTo, hpk, Rk.crash1]
    rw [e, pd, getD_set (by rw [hPn]; exact mlt), htake]
    by_cases hnm : n = m.toNat
    · rw [if_pos hnm]
      have : (n : Int) = m := by omega
      rw [this]; simp
    · rw [if_neg hnm]
      have : (n : Int) ≠ m := by omega
      have hc := c.pend n
      rw [pd] at hc
      rw [hc]; simp [this]
  · have e : (ρ.crashTo how (k + 1)).Old = (ρ.crashTo how k).Old.set m.toNat ((ρ.crashTo how (k + 1)).L.getD m.toNat []) := by simp only [Rk.crashTo, hpk, Rk.crash1]
    rw [e, ox, getD_set (by rw [hOn]; exact mlt), htake, hL]
    by_cases hnm : n = m.toNat
    · rw [if_pos hnm]
      have : (n : Int) = m := by omega
      rw [if_pos (by rw [this]; simp), hnm]
    · rw [if_neg hnm]
      have hne : (n : Int) ≠ m := by omega
      have e2 : ox (δ.crashTo how (k + 1)).now n = ox (δ.crashTo how k).now n := by
        simp only [Dk.crashTo, hm]
        exact Dk.crash1_other _ _ _ (by rw [s5]; exact mlt) hnm
      have hc := c.old n hn
      rw [ox] at hc
      rw [hc, e2]
      simp [hne]
theorem CI.all {δ : Dk} {ρ : Rk} {how : List Int} (h : Rel δ ρ) : ∀ k, k ≤ δ.pend.length → CI δ ρ how k := by
  intro k
  induction k with
  | zero => exact fun _ => ⟨h.L, fun n => by simpa [Rk.crashTo] using h.pend n, fun n hn => by simpa [Rk.crashTo, Dk.crashTo] using h.old n hn⟩
  | succ k ih => exact fun hk => (ih (by omega)).step h (by omega)
theorem Rel.crash {δ : Dk} {ρ : Rk} (h : Rel δ ρ) (how : List Int) : Rel (δ.crash how) (ρ.crash how) := by
  have c := CI.all (how := how) h δ.pend.length (Nat.le_refl _)
  obtain ⟨s1, s2, s3, s4, s5⟩ := δ.crashTo_same how δ.pend.length
  have hp := h.pending
  obtain ⟨r1, r2⟩ := Rk.crashTo_ok h.rok how ρ.pending.length (Nat.le_refl _)
  obtain ⟨q1, q2, q3⟩ := ρ.crashTo_same how ρ.pending.length
  rw [← hp] at r1 r2 q1 q2 q3
  have eR : ρ.crash how = { ρ.crashTo how δ.pend.length with Gone := false, At := 0 } := by rw [Rk.crash, hp]
  rw [eR]
  refine ⟨h.ok.crashed how, ⟨r1.old, r1.pend, r1.big, r1.sec, r1.olds⟩, c.L, rfl, ?_, fun n => ?_, fun n hn => ?_, .inl ⟨rfl, .inl rfl⟩⟩
  · show (δ.crashTo how δ.pend.length).acts = (ρ.crashTo how δ.pend.length).N
    rw [s2, q1]; exact h.acts
  · show pd (ρ.crashTo how δ.pend.length).Pend n = (alook ([] : List (Int × List UInt8)) (n : Int)).isSome
    rw [c.pend, List.take_length]
    rcases e : alook δ.old (n : Int) with _ | o
    · rfl
    · have : (n : Int) ∈ δ.pend := sortI_mem.2 (alook_some_mem.1 (by rw [e]; rfl))
      simp [this, alook]
  · have hn' : n < δ.now.length := by
      have : (δ.crash how).now.length = δ.now.length := s5
      omega
    show ox (ρ.crashTo how δ.pend.length).Old n = (alook ([] : List (Int × List UInt8)) (n : Int)).getD (ox (δ.crashTo how δ.pend.length).now n)
    rw [c.old n hn', List.take_length]
    show _ = ox (δ.crashTo how δ.pend.length).now n
    split
    · rfl
    · rename_i hni
      rcases e : alook δ.old (n : Int) with _ | o
      · rfl
      · exact absurd (sortI_mem.2 (alook_some_mem.1 (by rw [e]; rfl))) hni
theorem Rel.step {δ : Dk} {ρ : Rk} (h : Rel δ ρ) (hN : ρ.N < 4611686018427387904) (o : OpZ) (hf : o.f ≤ 9223372036854775807) : stepB δ ρ o = true ∧ Rel (δ.step o) (ρ.step o) := by
  unfold stepB Dk.step Rk.step
  by_cases h1 : o.kind = 1
  · simp only [if_pos h1]; obtain ⟨a, b⟩ := h.write hN o.n o.text; exact ⟨by simpa using a, b⟩
  simp only [if_neg h1]
  by_cases h2 : o.kind = 2
  · simp only [if_pos h2]; obtain ⟨a, b⟩ := h.sync hN; exact ⟨by simpa using a, b⟩
  simp only [if_neg h2]
  by_cases h3 : o.kind = 3
  · simp only [if_pos h3]; rw [h.read]; exact ⟨by simp, h⟩
  simp only [if_neg h3]
  by_cases h4 : o.kind = 4
  · simp only [if_pos h4]; obtain ⟨a, b⟩ := h.arms o.f hf; exact ⟨by simpa using a, b⟩
  simp only [if_neg h4]
  by_cases h5 : o.kind = 5
  · simp only [if_pos h5]; exact ⟨trivial, h.crash o.how⟩
  simp only [if_neg h5]
  refine ⟨?_, h⟩
  by_cases h6 : o.kind = 6
  · simp only [if_pos h6]; simpa using h.pending
  simp only [if_neg h6]
  by_cases h7 : o.kind = 7
  · simp only [if_pos h7]; simp [h.L, h.dead, h.acts]
  simp only [if_neg h7]
structure RunB (δ : Dk) (ρ : Rk) (i : Nat) : Prop where
  rel : Rel δ ρ
  acts : δ.acts ≤ i
  N : 0 ≤ ρ.N ∧ ρ.N ≤ i
theorem RunB.start {n : Int} (h : 16 ≤ n ∧ n ≤ 32768) : RunB (Dk.new n) (Rk.new n.toNat) 0 := by
  have := Rel.new n.toNat (by omega)
  have e : Dk.new n.toNat = Dk.new n := by rw [show ((n.toNat : Nat) : Int) = n by omega]
  rw [e] at this
  exact ⟨this, by simp [Dk.new], by simp [Rk.new]⟩
theorem RunB.next {δ : Dk} {ρ : Rk} {i : Nat} (h : RunB δ ρ i) : RunB δ ρ (i + 1) := by
  have := h.acts; have := h.N
  exact ⟨h.rel, by omega, by omega⟩
theorem RunB.step {δ : Dk} {ρ : Rk} {i : Nat} (h : RunB δ ρ i) (o : OpZ) (hr : Rel (δ.step o) (ρ.step o)) : RunB (δ.step o) (ρ.step o) (i + 1) := by
  obtain ⟨a1, a2⟩ := δ.step_acts o
  obtain ⟨b1, b2⟩ := ρ.step_N o h.N.1
  have := h.acts; have := h.N
  exact ⟨hr, by omega, ⟨b1, by omega⟩⟩
end Go.Proofs.Ytepncdidkjjllaa
