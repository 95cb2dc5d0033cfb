/- Own work: a disk and the document's, side by side, in plain words. -/
import Derived.Test.YtepncdidkjjllaaL3D
namespace Go.Proofs.Ytepncdidkjjllaa
open Go

/-- Old text of sector n, in the document's disk. -/
abbrev pd (l : List Bool) (n : Nat) : Bool := l.getD n false
abbrev ox (l : List (List UInt8)) (n : Nat) : List UInt8 := l.getD n []
structure Rel (δ : Dk) (ρ : Rk) : Prop where
  ok : δ.Ok
  rok : ρ.Ok
  L : ρ.L = δ.now
  dead : δ.dead = ρ.Gone
  acts : δ.acts = ρ.N
  pend : ∀ n : Nat, pd ρ.Pend n = (alook δ.old (n : Int)).isSome
  old : ∀ n : Nat, n < δ.now.length → ox ρ.Old n = (alook δ.old (n : Int)).getD (ox δ.now n)
  arm : (δ.left = 0 ∧ (ρ.At = 0 ∨ δ.dead = true)) ∨ (0 < δ.left ∧ ρ.At = ρ.N + δ.left ∧ δ.dead = false) ∨ (ρ.At = 0 ∧ 4611686018427387904 < δ.left + ρ.N ∧ δ.dead = false)
theorem pendTo_mem {l : List Bool} : ∀ {i : Nat} {x : Int}, x ∈ pendTo l i ↔ ∃ n : Nat, n < i ∧ x = n ∧ pd l n = true := by
  intro i
  induction i with
  | zero => intro x; simp [pendTo]
  | succ i ih =>
    intro x
    simp only [pendTo]
    split
    · rename_i h
      rw [List.mem_append, ih, List.mem_singleton]
      constructor
      · rintro (⟨n, h1, h2, h3⟩ | rfl)
        · exact ⟨n, by omega, h2, h3⟩
        · exact ⟨i, by omega, rfl, h⟩
      · rintro ⟨n, h1, h2, h3⟩
        rcases Nat.lt_or_ge n i with h4 | h4
        · exact .inl ⟨n, h4, h2, h3⟩
        · have : n = i := by omega
          subst this; exact .inr h2
    · rename_i h
      rw [ih]
      constructor
      · rintro ⟨n, h1, h2, h3⟩; exact ⟨n, by omega, h2, h3⟩
      · rintro ⟨n, h1, h2, h3⟩
        rcases Nat.lt_or_ge n i with h4 | h4
        · exact ⟨n, h4, h2, h3⟩
        · have : n = i := by omega
          subst this; exact absurd h3 h
theorem pendTo_sorted (l : List Bool) : ∀ i, (pendTo l i).Pairwise (· < ·) := by
  intro i
  induction i with
  | zero => simp [pendTo]
  | succ i ih =>
    simp only [pendTo]
    split
    · refine List.pairwise_append.2 ⟨ih, by simp, fun a ha b hb => ?_⟩
      have := pendTo_lt ha
      simp at hb; omega
    · exact ih
theorem sortI_sorted (l : List Int) : (sortI l).Pairwise (· ≤ ·) := by
  have := List.pairwise_mergeSort (le := fun x y : Int => decide (x ≤ y)) (fun a b c h1 h2 => by simp only [decide_eq_true_eq] at *; omega) (fun a b => by simp only [Bool.or_eq_true, decide_eq_true_eq]; omega) l
  exact this.imp (fun h => by simpa using h)
theorem alook_some_mem {m : List (Int × List UInt8)} {k : Int} : (alook m k).isSome = true ↔ k ∈ m.map (·.1) := by
  constructor
  · intro h
    obtain ⟨b, hb⟩ := Option.isSome_iff_exists.1 h
    exact List.mem_map.2 ⟨_, alook_mem hb, rfl⟩
  · intro h
    obtain ⟨b, hb⟩ := mem_alook h
    rw [hb]; rfl
theorem Rel.pending {δ : Dk} {ρ : Rk} (h : Rel δ ρ) : δ.pend = ρ.pending := by
  have hlt : (ρ.pending).Pairwise (· < ·) := pendTo_sorted _ _
  have hnd2 : ρ.pending.Nodup := hlt.imp (fun h => by omega)
  have hnd1 : δ.pend.Nodup := (sortI_perm _).nodup_iff.2 h.ok.nodup
  refine List.Perm.eq_of_pairwise (le := fun a b : Int => a ≤ b) (fun a b _ _ h1 h2 => by omega) (sortI_sorted _) (hlt.imp (fun h => by omega)) ?_
  refine (List.perm_ext_iff_of_nodup hnd1 hnd2).2 fun x => ?_
  rw [Dk.pend, sortI_mem, Rk.pending, pendTo_mem]
  constructor
  · intro hx
    obtain ⟨y, hy, hxy⟩ := List.mem_map.1 hx
    have hb := h.ok.olds y hy
    subst hxy
    have hp := h.rok.pend
    have hL := h.L
    refine ⟨y.1.toNat, by rw [hp, hL]; omega, by omega, ?_⟩
    rw [h.pend, show ((y.1.toNat : Nat) : Int) = y.1 by omega]
    exact alook_some_mem.2 hx
  · rintro ⟨n, hn, rfl, hp⟩
    rw [h.pend] at hp
    exact alook_some_mem.1 hp
theorem Rel.new (n : Nat) (hn : n ≤ 32768) : Rel (Dk.new n) (Rk.new n) := by
  have hrok : (Rk.new n).Ok := ⟨by simp [Rk.new], by simp [Rk.new], by simp [Rk.new]; omega, by simp [Rk.new, zs_len], by simp [Rk.new, zs_len]⟩
  refine ⟨Dk.new_ok (by simpa using hn), hrok, by simp [Rk.new, Dk.new], rfl, rfl, fun m => ?_, fun m hm => ?_, .inl ⟨rfl, .inl rfl⟩⟩
  · simp only [pd, Rk.new, Dk.new, alook, Option.isSome_none, List.getD_eq_getElem?_getD, List.getElem?_replicate]
    split <;> rfl
  · simp [Rk.new, Dk.new, alook]
theorem getD_set {α : Type} {l : List α} {i j : Nat} {a d : α} (hi : i < l.length) : (l.set i a).getD j d = if j = i then a else l.getD j d := by
  simp only [List.getD_eq_getElem?_getD, List.getElem?_set]
  by_cases h : i = j
  · subst h; simp [hi]
  · rw [if_neg h, if_neg (by omega)]
theorem Rel.has {δ : Dk} {ρ : Rk} (h : Rel δ ρ) (n : Int) : ρ.has n = δ.has n := by simp [Dk.has, Rk.has, h.L]
theorem Rel.read {δ : Dk} {ρ : Rk} (h : Rel δ ρ) (n : Int) : δ.read n = ρ.read n := by
  unfold Dk.read Rk.read
  rw [h.dead, h.has, h.L]
/-- One act, where nobody is dead. -/
theorem Rel.act {δ : Dk} {ρ : Rk} (h : Rel δ ρ) (hd : δ.dead = false) (hN : ρ.N < 4611686018427387904) :
    δ.act.1.dead = ρ.act.Gone ∧ δ.act.2 = (if ρ.act.Gone then 2 else 0) ∧ δ.act.1.acts = ρ.act.N ∧
      ((δ.act.1.left = 0 ∧ (ρ.act.At = 0 ∨ δ.act.1.dead = true)) ∨ (0 < δ.act.1.left ∧ ρ.act.At = ρ.act.N + δ.act.1.left ∧ δ.act.1.dead = false) ∨ (ρ.act.At = 0 ∧ 4611686018427387904 < δ.act.1.left + ρ.act.N ∧ δ.act.1.dead = false)) := by
  have hg : ρ.Gone = false := by rw [← h.dead, hd]
  have ha := h.acts
  have h0 := h.ok.acts0
  have fin : ∀ (e l : Int) (d g : Bool), Go.Proofs.Ytepncdidkjjllaa.actE δ.left = e → actL δ.left = l → actD δ.left δ.dead = d → (if ρ.At > 0 ∧ ρ.N + 1 = ρ.At then true else ρ.Gone) = g →
      (d = g ∧ e = (if g then 2 else 0) ∧ ((l = 0 ∧ (ρ.At = 0 ∨ d = true)) ∨ (0 < l ∧ ρ.At = ρ.N + 1 + l ∧ d = false) ∨ (ρ.At = 0 ∧ 4611686018427387904 < l + (ρ.N + 1) ∧ d = false))) →
      δ.act.1.dead = ρ.act.Gone ∧ δ.act.2 = (if ρ.act.Gone then 2 else 0) ∧ δ.act.1.acts = ρ.act.N ∧
      ((δ.act.1.left = 0 ∧ (ρ.act.At = 0 ∨ δ.act.1.dead = true)) ∨ (0 < δ.act.1.left ∧ ρ.act.At = ρ.act.N + δ.act.1.left ∧ δ.act.1.dead = false) ∨ (ρ.act.At = 0 ∧ 4611686018427387904 < δ.act.1.left + ρ.act.N ∧ δ.act.1.dead = false)) := by
    intro e l d g h1 h2 h3 h4 ⟨k1, k2, k3⟩
    simp only [Dk.act, Rk.act, h1, h2, h3, h4, ha]
    exact ⟨k1, k2, trivial, k3⟩
  rcases h.arm with ⟨h1, h2 | h2⟩ | ⟨h1, h2, -⟩ | ⟨h1, h2, -⟩
  · exact fin 0 0 false false (by simp [Go.Proofs.Ytepncdidkjjllaa.actE, h1]) (by simp [actL, h1]) (by simp [actD, h1, hd]) (by simp [h2, hg]) ⟨rfl, rfl, .inl ⟨rfl, .inl h2⟩⟩
  · rw [hd] at h2; cases h2
  · by_cases h3 : δ.left - 1 > 0
    · exact fin 0 (δ.left - 1) false false (by unfold Go.Proofs.Ytepncdidkjjllaa.actE; rw [if_neg (by omega), if_pos h3]) (by unfold actL; rw [if_neg (by omega)]) (by unfold actD; rw [if_neg (by omega), if_pos h3, hd]) (by rw [if_neg (by omega), hg]) ⟨rfl, rfl, .inr (.inl ⟨by omega, by omega, rfl⟩)⟩
    · exact fin 2 (δ.left - 1) true true (by unfold Go.Proofs.Ytepncdidkjjllaa.actE; rw [if_neg (by omega), if_neg h3]) (by unfold actL; rw [if_neg (by omega)]) (by unfold actD; rw [if_neg (by omega), if_neg h3]) (by rw [if_pos ⟨by omega, by omega⟩]) ⟨rfl, rfl, .inl ⟨by omega, .inr rfl⟩⟩
  · have h3 : δ.left - 1 > 0 := by omega
    exact fin 0 (δ.left - 1) false false (by unfold Go.Proofs.Ytepncdidkjjllaa.actE; rw [if_neg (by omega), if_pos h3]) (by unfold actL; rw [if_neg (by omega)]) (by unfold actD; rw [if_neg (by omega), if_pos h3, hd]) (by rw [if_neg (by omega), hg]) ⟨rfl, rfl, .inr (.inr ⟨h1, by omega, rfl⟩)⟩
theorem alook_aset {β : Type} {m : List (Int × β)} {k : Int} {v : β} (h : alook m k = none) (x : Int) : alook (aset m k v) x = if x = k then some v else alook m x := by
  rw [aset_none h]
  by_cases hx : x = k
  · subst hx; rw [alook_append_none h, if_pos rfl]; simp [alook]
  · rw [alook_append_other hx, if_neg hx]
theorem Rel.write {δ : Dk} {ρ : Rk} (h : Rel δ ρ) (hN : ρ.N < 4611686018427387904) (n : Int) (s : List UInt8) : (δ.write n s).2 = (ρ.write n s).2 ∧ Rel (δ.write n s).1 (ρ.write n s).1 := by
  unfold Dk.write Rk.write
  rw [← h.dead, h.has]
  by_cases hd : δ.dead = true
  · rw [if_pos hd, if_pos hd]; exact ⟨rfl, h⟩
  · rw [if_neg hd, if_neg hd]
    by_cases hb : δ.has n = false ∨ s.length ≠ 64
    · rw [if_pos hb, if_pos hb]; exact ⟨rfl, h⟩
    · rw [if_neg hb, if_neg hb]
      have hh : δ.has n = true := by
        cases e : δ.has n with
        | true => rfl
        | false => exact absurd (.inl e) hb
      have hs : s.length = 64 := by
        rcases Nat.decEq s.length 64 with e | e
        · exact absurd (.inr e) hb
        · exact e
      obtain ⟨q0, q1, q2⟩ := has_lt hh
      have hd' : δ.dead = false := by simpa using hd
      obtain ⟨a1, a2, a3, a4⟩ := h.act hd' hN
      have hop := (h.ok.putOk hh hs).acted
      have hL := h.L
      have hp := h.rok.pend
      refine ⟨a2, hop, ?_, ?_, a1, a3, fun m => ?_, fun m hm => ?_, a4⟩
      · refine ⟨by simp [h.rok.old, Rk.act], by simp [hp, Rk.act], by simp; exact h.rok.big, fun t ht => ?_, h.rok.olds⟩
        rcases List.mem_or_eq_of_mem_set ht with ht | rfl
        · exact h.rok.sec t ht
        · exact hs
      · show ρ.L.set n.toNat s = δ.now.set n.toNat s
        rw [hL]
      · show pd (ρ.Pend.set n.toNat true) m = (alook (δ.put n s).old (m : Int)).isSome
        rw [pd, getD_set (by rw [hp, hL]; exact q2)]
        simp only [Dk.put]
        rcases e : alook δ.old n with _ | o
        · simp only [Option.isSome_none, Bool.false_eq_true, if_false]
          rw [alook_aset e]
          by_cases hm : m = n.toNat
          · rw [if_pos hm, if_pos (by omega)]; rfl
          · rw [if_neg hm, if_neg (by omega)]; exact h.pend m
        · simp only [Option.isSome_some, if_true]
          by_cases hm : m = n.toNat
          · rw [if_pos hm, show (m : Int) = n by omega, e]; rfl
          · rw [if_neg hm]; exact h.pend m
      · have hm' : m < δ.now.length := by simpa [Dk.act, Dk.put] using hm
        have ho := h.old m hm'
        show ox ρ.Old m = (alook (δ.put n s).old (m : Int)).getD (ox (δ.now.set n.toNat s) m)
        rw [ho, ox, ox, getD_set q2]
        simp only [Dk.put]
        rcases e : alook δ.old n with _ | o
        · simp only [Option.isSome_none, Bool.false_eq_true, if_false]
          rw [alook_aset e]
          by_cases hmn : m = n.toNat
          · have : (m : Int) = n := by omega
            rw [if_pos this, this, e, hmn]; rfl
          · rw [if_neg (by omega : ¬ (m : Int) = n), if_neg hmn]
        · simp only [Option.isSome_some, if_true]
          by_cases hmn : m = n.toNat
          · rw [show (m : Int) = n by omega, e]; rfl
          · rw [if_neg hmn]
theorem Rel.sync {δ : Dk} {ρ : Rk} (h : Rel δ ρ) (hN : ρ.N < 4611686018427387904) : δ.sync.2 = ρ.sync.2 ∧ Rel δ.sync.1 ρ.sync.1 := by
  unfold Dk.sync Rk.sync
  rw [← h.dead]
  by_cases hd : δ.dead = true
  · rw [if_pos hd, if_pos hd]; exact ⟨rfl, h⟩
  · rw [if_neg hd, if_neg hd]
    have hd' : δ.dead = false := by simpa using hd
    obtain ⟨a1, a2, a3, a4⟩ := h.act hd' hN
    rw [a2]
    by_cases hg : ρ.act.Gone = true
    · rw [if_pos hg, if_pos hg, if_neg (by decide)]
      exact ⟨rfl, h.ok.acted, ⟨h.rok.old, h.rok.pend, h.rok.big, h.rok.sec, h.rok.olds⟩, h.L, a1, a3, h.pend, h.old, a4⟩
    · rw [if_neg hg, if_neg hg, if_pos rfl]
      refine ⟨rfl, h.ok.acted.cleared, ⟨rfl, by simp [Rk.act], h.rok.big, h.rok.sec, h.rok.sec⟩, h.L, a1, a3, fun m => ?_, fun m hm => ?_, a4⟩
      · simp only [pd, alook, Option.isSome_none, List.getD_eq_getElem?_getD, List.getElem?_map]
        cases ρ.L[m]? <;> rfl
      · show ox ρ.L m = _
        rw [h.L]; rfl
theorem Rel.arms {δ : Dk} {ρ : Rk} (h : Rel δ ρ) (n : Int) (hn : n ≤ 9223372036854775807) : (δ.arm n).2 = (ρ.arm n).2 ∧ Rel (δ.arm n).1 (ρ.arm n).1 := by
  unfold Dk.arm Rk.arm
  rw [← h.dead]
  by_cases hd : δ.dead = true
  · rw [if_pos hd, if_pos hd]; exact ⟨rfl, h⟩
  · rw [if_neg hd, if_neg hd]
    by_cases h0 : n < 0
    · rw [if_pos h0, if_pos h0]; exact ⟨rfl, h⟩
    · rw [if_neg h0, if_neg h0]
      have hd' : δ.dead = false := by simpa using hd
      have hN0 : 0 ≤ ρ.N := by rw [← h.acts]; exact h.ok.acts0
      refine ⟨rfl, ⟨h.ok.sec, h.ok.olds, h.ok.nodup, h.ok.big, h.ok.acts0, by simp; omega⟩, ⟨h.rok.old, h.rok.pend, h.rok.big, h.rok.sec, h.rok.olds⟩, h.L, rfl, h.acts, h.pend, h.old, ?_⟩
      show (n = 0 ∧ ((if n > 0 ∧ n ≤ 4611686018427387904 then ρ.N + n else 0) = 0 ∨ δ.dead = true)) ∨ (0 < n ∧ (if n > 0 ∧ n ≤ 4611686018427387904 then ρ.N + n else 0) = ρ.N + n ∧ δ.dead = false) ∨ ((if n > 0 ∧ n ≤ 4611686018427387904 then ρ.N + n else 0) = 0 ∧ 4611686018427387904 < n + ρ.N ∧ δ.dead = false)
      by_cases h1 : n > 0 ∧ n ≤ 4611686018427387904
      · rw [if_pos h1]; exact .inr (.inl ⟨h1.1, rfl, hd'⟩)
      · rw [if_neg h1]
        by_cases h2 : n = 0
        · exact .inl ⟨h2, .inl rfl⟩
        · exact .inr (.inr ⟨rfl, by omega, hd'⟩)
end Go.Proofs.Ytepncdidkjjllaa
