/- Own work: what is laid is found again: marks, records, areas. -/
import Derived.Test.YtepncdidkjjllaaL4F
namespace Go.Proofs.Ytepncdidkjjllaa
open Go

theorem byteZ_nat (n : Int) : ((byteZ n).toNat : Int) = n % 256 := by
  unfold byteZ
  rw [UInt8.toNat_ofNat']
  omega
theorem beZ_beB : ∀ (k : Nat) (n : Int), 0 ≤ n → beZ (beB n k) 0 = n % 256 ^ k := by
  intro k
  induction k with
  | zero => intro n _; simp [beB, beZ]
  | succ k ih =>
    intro n hn
    have h1 := ih (n / 256) (by omega)
    rw [beB, beZ_append, h1]
    simp only [beZ]
    rw [byteZ_nat, Int.pow_succ, Int.mul_comm (256 ^ k) 256]
    have h2 : n / 256 % 256 ^ k * 256 + n % 256 = n % (256 * 256 ^ k) := by
      have hp : (0 : Int) < 256 ^ k := Int.pow_pos (by decide)
      generalize (256 : Int) ^ k = p at *
      have e1 := Int.emod_add_mul_ediv n (256 * p)
      have e2 := Int.emod_add_mul_ediv n 256
      have e3 := Int.emod_add_mul_ediv (n / 256) p
      have e4 : n / 256 / p = n / (256 * p) := Int.ediv_ediv_of_nonneg (by omega)
      rw [e4] at e3
      generalize n / (256 * p) = q at *
      have e5 : 256 * p * q = 256 * (p * q) := Int.mul_assoc _ _ _
      generalize p * q = r at *
      omega
    exact h2
theorem smallZ_beB {k : Nat} {n : Int} (h0 : 0 ≤ n) (h1 : n < 256 ^ k) (h2 : n ≤ 9223372036854775807) : smallZ (beB n k) = n := by
  unfold smallZ
  rw [beZ_beB k n h0, Int.emod_eq_of_lt h0 h1]
  exact i64w (by omega)
structure MkR (m : Mk) : Prop where
  count : 0 ≤ m.count ∧ m.count ≤ 4294967295
  area : 0 ≤ m.area ∧ m.area ≤ 1
  len : 0 ≤ m.len ∧ m.len ≤ 4294967295
  num : 0 ≤ m.num ∧ m.num ≤ 4294967295
  a : 0 ≤ m.a ∧ m.a ≤ 9223372036854775807
  b : 0 ≤ m.b ∧ m.b ≤ 9223372036854775807
theorem MkI.r {δ : Dk} {m : Mk} (h : MkI δ m) (hs : 2 ≤ δ.now.length ∧ δ.now.length ≤ 32768) : MkR m := by
  have := half_le hs
  obtain ⟨h1, h2, h3, h4, h5, h6⟩ := h
  exact ⟨by omega, h2, by omega, h4, h5, h6⟩
theorem sub_mid (p q r : Bs) {i j : Nat} (hi : i = p.length) (hj : j = p.length + q.length) : sub (p ++ q ++ r) i j = q := by
  subst hi; subst hj
  unfold sub
  rw [List.take_append_of_le_length (by simp), ← List.length_append, List.take_length, List.drop_left]
theorem parse_sec {m : Mk} (h : MkR m) : parseZ m.sec = m := by
  obtain ⟨h1, h2, h3, h4, h5, h6⟩ := h
  have e : (256 : Int) ^ 4 = 4294967296 ∧ (256 : Int) ^ 1 = 256 ∧ (256 : Int) ^ 8 = 18446744073709551616 := ⟨rfl, rfl, rfl⟩
  have a1 : sub m.sec 2 6 = beB m.count 4 := by
    rw [show m.sec = [87, 77] ++ beB m.count 4 ++ (beB m.area 1 ++ beB m.len 4 ++ beB m.num 4 ++ beB m.a 8 ++ beB m.b 8 ++ List.replicate 29 0 ++ beB m.count 4) by unfold Mk.sec; simp only [List.append_assoc]]
    exact sub_mid _ _ _ (by simp) (by simp [beB_len])
  have a2 : sub m.sec 6 7 = beB m.area 1 := by
    rw [show m.sec = ([87, 77] ++ beB m.count 4) ++ beB m.area 1 ++ (beB m.len 4 ++ beB m.num 4 ++ beB m.a 8 ++ beB m.b 8 ++ List.replicate 29 0 ++ beB m.count 4) by unfold Mk.sec; simp only [List.append_assoc]]
    exact sub_mid _ _ _ (by simp [beB_len]) (by simp [beB_len])
  have a3 : sub m.sec 7 11 = beB m.len 4 := by
    rw [show m.sec = ([87, 77] ++ beB m.count 4 ++ beB m.area 1) ++ beB m.len 4 ++ (beB m.num 4 ++ beB m.a 8 ++ beB m.b 8 ++ List.replicate 29 0 ++ beB m.count 4) by unfold Mk.sec; simp only [List.append_assoc]]
    exact sub_mid _ _ _ (by simp [beB_len]) (by simp [beB_len])
  have a4 : sub m.sec 11 15 = beB m.num 4 := by
    rw [show m.sec = ([87, 77] ++ beB m.count 4 ++ beB m.area 1 ++ beB m.len 4) ++ beB m.num 4 ++ (beB m.a 8 ++ beB m.b 8 ++ List.replicate 29 0 ++ beB m.count 4) by unfold Mk.sec; simp only [List.append_assoc]]
    exact sub_mid _ _ _ (by simp [beB_len]) (by simp [beB_len])
  have a5 : sub m.sec 15 23 = beB m.a 8 := by
    rw [show m.sec = ([87, 77] ++ beB m.count 4 ++ beB m.area 1 ++ beB m.len 4 ++ beB m.num 4) ++ beB m.a 8 ++ (beB m.b 8 ++ List.replicate 29 0 ++ beB m.count 4) by unfold Mk.sec; simp only [List.append_assoc]]
    exact sub_mid _ _ _ (by simp [beB_len]) (by simp [beB_len])
  have a6 : sub m.sec 23 31 = beB m.b 8 := by
    rw [show m.sec = ([87, 77] ++ beB m.count 4 ++ beB m.area 1 ++ beB m.len 4 ++ beB m.num 4 ++ beB m.a 8) ++ beB m.b 8 ++ (List.replicate 29 0 ++ beB m.count 4) by unfold Mk.sec; simp only [List.append_assoc]]
    exact sub_mid _ _ _ (by simp [beB_len]) (by simp [beB_len])
  unfold parseZ
  rw [a1, a2, a3, a4, a5, a6, smallZ_beB (by omega) (by omega) (by omega), smallZ_beB (by omega) (by omega) (by omega), smallZ_beB (by omega) (by omega) (by omega), smallZ_beB (by omega) (by omega) (by omega), smallZ_beB (by omega) (by omega) (by omega), smallZ_beB (by omega) (by omega) (by omega)]
theorem read_at {δ : Dk} (hd : δ.dead = false) {n : Int} (hn : 0 ≤ n ∧ n < δ.now.length) : δ.read n = (δ.now.getD n.toNat [], 0) := by
  have h2 : δ.has n = true := by simp [Dk.has, hn.1, hn.2]
  unfold Dk.read
  rw [hd, h2]; rfl
theorem found_sec {δ : Dk} (hd : δ.dead = false) (hs : 2 ≤ δ.now.length ∧ δ.now.length ≤ 32768) {m : Mk} (hm : MkI δ m) {n : Int} (hn : m.count % 2 = n) (hr : δ.now.getD n.toNat [] = m.sec) : foundZ δ n = some m := by
  have e := read_at hd (n := n) ⟨by omega, by omega⟩
  have hp := parse_sec (hm.r hs)
  obtain ⟨h1, h2, h3, h4, h5, h6⟩ := hm
  unfold foundZ
  rw [e, hr]
  dsimp only
  rw [if_neg (by decide), hp, if_neg]
  unfold badMk
  rintro (h | h | h | h | h | h | h)
  · omega
  · exact h hn
  · omega
  · omega
  · omega
  · omega
  · exact h rfl
theorem found_zs {δ : Dk} (hd : δ.dead = false) {n : Int} (hn : 0 ≤ n ∧ n < δ.now.length) (hr : δ.now.getD n.toNat [] = zs) : foundZ δ n = none := by
  unfold foundZ
  rw [read_at hd hn, hr]
  dsimp only
  rw [if_neg (by decide), if_pos]
  exact .inl (by decide)
/-- Records that are laid are parted again. -/
theorem part_laid : ∀ (l : List Bs) (f : Nat) (out : List Bs) (num : Int), (∀ s ∈ l, s.length ≤ 4000) → (laidZ l).length < f → num = out.length + l.length → partF f (laidZ l) out num = some (out ++ l) := by
  intro l
  induction l with
  | nil =>
    intro f out num _ hf hn
    obtain ⟨g, rfl⟩ : ∃ g, f = g + 1 := ⟨f - 1, by omega⟩
    simp only [partF]
    rw [if_pos (by simp [laidZ]), if_pos (by simpa using hn.symm)]; simp
  | cons s l ih =>
    intro f out num hl hf hn
    obtain ⟨g, rfl⟩ : ∃ g, f = g + 1 := ⟨f - 1, by omega⟩
    have hs := hl s List.mem_cons_self
    have e : laidZ (s :: l) = recZ s ++ laidZ l := by simp [laidZ]
    have hrl := recZ_len s
    have hlen : (laidZ (s :: l)).length = s.length + 6 + (laidZ l).length := by rw [e, List.length_append, hrl]
    have hcl : (s :: l).length = l.length + 1 := rfl
    have e2 : recZ s ++ laidZ l = beB s.length 2 ++ s ++ (beB (sumZ (headZ s)) 4 ++ laidZ l) := by simp only [recZ, headZ, List.append_assoc]
    have t2 : (laidZ (s :: l)).take 2 = beB s.length 2 := by
      rw [e, e2, List.append_assoc, List.take_append_of_le_length (by simp [beB_len])]
      exact List.take_of_length_le (by simp [beB_len])
    have hp2 : (256 : Int) ^ 2 = 65536 := rfl
    have hsm : smallZ ((laidZ (s :: l)).take 2) = s.length := by rw [t2]; exact smallZ_beB (by omega) (by omega) (by omega)
    simp only [partF]
    rw [hsm]
    have hne : laidZ (s :: l) ≠ [] := fun h => by rw [h] at hlen; simp at hlen; omega
    rw [if_neg hne, if_neg (by omega), if_neg (by omega)]
    have hsub : sub (laidZ (s :: l)) 2 ((s.length : Int).toNat + 2) = s := by
      rw [e, e2]; exact sub_mid _ _ _ (by simp [beB_len]) (by simp [beB_len]; omega)
    have htk : (laidZ (s :: l)).take ((s.length : Int).toNat + 6) = recZ s := by
      rw [e, show (s.length : Int).toNat + 6 = (recZ s).length by rw [hrl]; omega, List.take_left]
    have hdr : (laidZ (s :: l)).drop ((s.length : Int).toNat + 6) = laidZ l := by
      rw [e, show (s.length : Int).toNat + 6 = (recZ s).length by rw [hrl]; omega, List.drop_left]
    rw [hsub, htk, if_neg (fun h => h rfl), hdr, ih g (out ++ [s]) num (fun x hx => hl x (List.mem_cons_of_mem _ hx)) (by omega) (by simp; omega)]
    simp
theorem partZ_of {l : List Bs} (h : ∀ s ∈ l, s.length ≤ 4000) : partZ (laidZ l) l.length = some l := by
  have := part_laid l ((laidZ l).length + 1) [] l.length h (by omega) (by simp)
  simpa [partZ] using this
end Go.Proofs.Ytepncdidkjjllaa
