/- Own work: what the document reads of a mark's sector; its logs and disks. -/
import Derived.Test.YtepncdidkjjllaaL4I
namespace Go.Proofs.Ytepncdidkjjllaa
open Go

/-! ### Numbers -/
theorem beZ_ge : ∀ (s : Bs) (n : Int), 0 ≤ n → n * 256 ^ s.length ≤ beZ s n := by
  intro s
  induction s with
  | nil => intro n h; simp [beZ]
  | cons c s ih =>
    intro n h
    have h1 := ih (n * 256 + c.toNat) (by omega)
    simp only [beZ, List.length_cons]
    refine Int.le_trans ?_ h1
    rw [Int.pow_succ, Int.mul_comm (256 ^ s.length) 256, ← Int.mul_assoc]
    exact Int.mul_le_mul_of_nonneg_right (by omega) (Int.le_of_lt (Int.pow_pos (by decide)))
theorem beB_of : ∀ (k : Nat) (s : Bs), s.length = k → beB (beZ s 0) k = s := by
  intro k
  induction k with
  | zero => intro s h; rw [List.length_eq_zero_iff.1 h]; rfl
  | succ k ih =>
    intro s h
    rcases List.eq_nil_or_concat s with rfl | ⟨t, c, rfl⟩
    · cases h
    · rw [List.concat_eq_append] at h ⊢
      have ht : t.length = k := by simpa using h
      have h0 := beZ_nonneg t 0 (by omega)
      have hc : c.toNat < 256 := c.toNat_lt
      have e : beZ (t ++ [c]) 0 = beZ t 0 * 256 + c.toNat := by rw [beZ_append]; rfl
      rw [e, beB, show (beZ t 0 * 256 + c.toNat) / 256 = beZ t 0 by omega, ih t ht]
      congr 2
      unfold byteZ
      rw [show ((beZ t 0 * 256 + (c.toNat : Int)) % 256).toNat = c.toNat by omega]
      exact UInt8.ofNat_toNat
theorem top8 {s : Bs} (h : s.length = 8) : (127 < (s.getD 0 0).toNat → smallZ s < 0) ∧ (¬ 127 < (s.getD 0 0).toNat → 0 ≤ smallZ s ∧ smallZ s = beZ s 0) := by
  match s, h with
  | c :: r, h =>
    have hr : r.length = 7 := by simpa using h
    have e : (256 : Int) ^ r.length = 72057594037927936 := by rw [hr]; rfl
    have h1 := beZ_ge r c.toNat (by omega)
    have h2 := beZ_lt r c.toNat (by omega)
    have hc : c.toNat < 256 := c.toNat_lt
    have e2 : beZ (c :: r) 0 = beZ r c.toNat := by simp [beZ]
    rw [e] at h1 h2
    have e3 : ((c :: r).getD 0 0).toNat = c.toNat := rfl
    rw [e3]
    unfold smallZ
    rw [e2, wrap64]
    exact ⟨fun _ => by omega, fun _ => ⟨by omega, by omega⟩⟩
theorem take_sub (s : Bs) {i j : Nat} (h : i ≤ j) : s.take i ++ sub s i j = s.take j := by
  unfold sub
  rw [show s.take i = (s.take j).take i by rw [List.take_take, Nat.min_eq_left h], List.take_append_drop]
theorem sub_at {s : Bs} {i j : Nat} (hij : i < j) (h : j ≤ s.length) : (sub s i j).getD 0 0 = s.getD i 0 := by
  unfold sub
  simp only [List.getD_eq_getElem?_getD]
  rw [List.getElem?_drop, List.getElem?_take_of_lt (by omega)]; rfl
theorem sub_one {s : Bs} {i : Nat} (h : i < s.length) : sub s i (i + 1) = [s.getD i 0] := by
  unfold sub
  rw [List.take_succ_eq_append_getElem h, List.drop_append_of_le_length (by rw [List.length_take]; omega), List.drop_eq_nil_of_le (by rw [List.length_take]; omega)]
  simp [h]
theorem small_one (c : UInt8) : smallZ [c] = c.toNat := by
  have hc : c.toNat < 256 := c.toNat_lt
  show IntKind.i64.wrap ((0 : Int) * 256 + c.toNat) = _
  rw [i64w (by omega)]; omega
theorem small_area {s : Bs} (h : 7 ≤ s.length) : smallZ (sub s 6 7) = (s.getD 6 0).toNat := by rw [sub_one (i := 6) (by omega), small_one]
/-! ### A right mark -/
def bad1 (s : Bs) : Prop := s.take 2 ≠ [87, 77] ∨ sub s 31 60 ≠ List.replicate 29 0 ∨ sub s 2 6 ≠ s.drop 60 ∨ 127 < (s.getD 15 0).toNat ∨ 127 < (s.getD 23 0).toNat
def bad2 (δ : Dk) (n : Int) (s : Bs) : Prop := smallZ (sub s 2 6) < 1 ∨ smallZ (sub s 2 6) % 2 ≠ n ∨ 1 < (s.getD 6 0).toNat ∨ smallZ (sub s 7 11) > 64 * halfZ δ
theorem sec_take (m : Mk) : m.sec.take 2 = [87, 77] := by
  unfold Mk.sec
  simp only [List.append_assoc]
  exact List.take_left' rfl
theorem sec_zeros (m : Mk) : sub m.sec 31 60 = List.replicate 29 0 := by
  rw [show m.sec = ([87, 77] ++ beB m.count 4 ++ beB m.area 1 ++ beB m.len 4 ++ beB m.num 4 ++ beB m.a 8 ++ beB m.b 8) ++ List.replicate 29 0 ++ beB m.count 4 from rfl]
  exact sub_mid _ _ _ (by simp [beB_len]) (by simp [beB_len])
theorem right_law {δ : Dk} {n : Int} {s : Bs} (hl : s.length = 64) : badMk δ n s (parseZ s) ↔ bad1 s ∨ bad2 δ n s := by
  have ta := top8 (s := sub s 15 23) (by rw [sub_len (by omega)])
  have tb := top8 (s := sub s 23 31) (by rw [sub_len (by omega)])
  rw [sub_at (by decide) (by omega)] at ta tb
  have har := small_area (s := s) (by omega)
  constructor
  · intro h
    rcases Classical.em (bad1 s ∨ bad2 δ n s) with hb | hb
    · exact hb
    exfalso
    unfold bad1 bad2 at hb
    simp only [not_or, Classical.not_not] at hb
    obtain ⟨⟨b1, b2, b3, b4, b5⟩, c1, c2, c3, c4⟩ := hb
    have a1 := ta.2 b4
    have a2 := tb.2 b5
    have s4 : ∀ i j, j - i = 4 → j ≤ 64 → beB (smallZ (sub s i j)) 4 = sub s i j := by
      intro i j h1 h2
      have hln : (sub s i j).length = 4 := by rw [sub_len (by omega)]; exact h1
      rw [(smallZ_nonneg (by omega)).2.2, beB_of 4 _ hln]
    have s1 : beB (smallZ (sub s 6 7)) 1 = sub s 6 7 := by
      have hln : (sub s 6 7).length = 1 := by rw [sub_len (by omega)]
      rw [(smallZ_nonneg (by omega)).2.2, beB_of 1 _ hln]
    have sa : beB (smallZ (sub s 15 23)) 8 = sub s 15 23 := by rw [a1.2, beB_of 8 _ (by rw [sub_len (by omega)])]
    have sb : beB (smallZ (sub s 23 31)) 8 = sub s 23 31 := by rw [a2.2, beB_of 8 _ (by rw [sub_len (by omega)])]
    have hsec : s = (parseZ s).sec := by
      unfold Mk.sec parseZ
      dsimp only
      rw [s4 2 6 rfl (by decide), s4 7 11 rfl (by decide), s4 11 15 rfl (by decide), s1, sa, sb, ← b1, ← b2]
      rw [take_sub s (by decide), take_sub s (by decide), take_sub s (by decide), take_sub s (by decide), take_sub s (by decide), take_sub s (by decide), take_sub s (by decide), b3, List.take_append_drop]
    unfold badMk at h
    have har2 : (parseZ s).area = ((s.getD 6 0).toNat : Int) := har
    rcases h with h | h | h | h | h | h | h
    · exact c1 h
    · exact h c2
    · omega
    · exact c4 h
    · exact absurd a1.1 (by show ¬ 0 ≤ (parseZ s).a; omega)
    · exact absurd a2.1 (by show ¬ 0 ≤ (parseZ s).b; omega)
    · exact h hsec
  · intro hb
    rcases Classical.em (badMk δ n s (parseZ s)) with h | h
    · exact h
    exfalso
    unfold badMk at h
    simp only [not_or, Classical.not_not] at h
    obtain ⟨d1, d2, d3, d4, d5, d6, d7⟩ := h
    have har2 : (parseZ s).area = ((s.getD 6 0).toNat : Int) := har
    have e1 := sec_take (parseZ s)
    have e2 := sec_zeros (parseZ s)
    have e3 := sec_sub (parseZ s)
    have e4 := sec_drop (parseZ s)
    rw [← d7] at e1 e2 e3 e4
    rcases hb with (b1 | b2 | b3 | b4 | b5) | (c1 | c2 | c3 | c4)
    · exact b1 e1
    · exact b2 e2
    · exact b3 (e3.trans e4.symm)
    · exact d5 (ta.1 b4)
    · exact d6 (tb.1 b5)
    · exact d1 c1
    · exact c2 d2
    · omega
    · exact d4 c4
theorem found_right {δ : Dk} (hd : δ.dead = false) (hok : δ.Ok) (hs : 2 ≤ δ.now.length) {n : Int} (hn : 0 ≤ n ∧ n ≤ 1) : (bad1 (δ.now.getD n.toNat []) ∨ bad2 δ n (δ.now.getD n.toNat []) → foundZ δ n = none) ∧ (¬ (bad1 (δ.now.getD n.toNat []) ∨ bad2 δ n (δ.now.getD n.toNat [])) → foundZ δ n = some (parseZ (δ.now.getD n.toNat []))) := by
  have hl : (δ.now.getD n.toNat []).length = 64 := getD_mem64' hok.sec (by omega)
  have e := read_at hd (n := n) ⟨by omega, by omega⟩
  have hr := right_law (δ := δ) (n := n) hl
  unfold foundZ
  rw [e]
  dsimp only
  rw [if_neg (by decide)]
  exact ⟨fun h => if_pos (hr.2 h), fun h => if_neg (fun g => h (hr.1 g))⟩
theorem found_parse {δ : Dk} (hd : δ.dead = false) (hs : 2 ≤ δ.now.length) {n : Int} (hn : 0 ≤ n ∧ n ≤ 1) {m : Mk} (h : foundZ δ n = some m) : m = parseZ (δ.now.getD n.toNat []) := by
  have e := read_at hd (n := n) ⟨by omega, by omega⟩
  unfold foundZ at h
  rw [e] at h
  dsimp only at h
  rw [if_neg (by decide)] at h
  split at h
  · cases h
  · exact (Option.some.inj h).symm
/-! ### Steps -/
theorem rsmall_next {s : Bs} {i : Nat} (hi : i < s.length) : IntKind.i64.wrap (IntKind.i64.wrap (256 * IntKind.i64.wrap (beZ (s.take i) 0)) + IntKind.i64.wrap (s[i].toNat : Int)) = IntKind.i64.wrap (beZ (s.take (i + 1)) 0) := by
  rw [List.take_succ_eq_append_getElem hi, beZ_append]
  show _ = IntKind.i64.wrap (beZ (s.take i) 0 * 256 + s[i].toNat)
  rw [wrap64, wrap64, wrap64, wrap64, wrap64]; omega
/-! ### A log of the document's -/
def rlR (y x : Nat) (ω : Wl) : HP := fun h => ∃ v : Value, sep [ptc y [vptr x, v, vint ω.synced, vint ω.area, vint ω.count, vint ω.a, vint ω.b, .bool ω.doubt] 113, strR v ω.recs] h
section
variable {W : World} {n : Nat} {ds : List Deferred} {E : Env} {L R : List HP} {X : Act → World → Prop}
theorem G.rlOpen {y x : Nat} {ω : Wl} (hL : Pick (rlR y x ω) L R) (h : ∀ v, G W n ds E (ptc y [vptr x, v, vint ω.synced, vint ω.area, vint ω.count, vint ω.a, vint ω.b, .bool ω.doubt] 113 :: strR v ω.recs :: R) X) : G W n ds E L X :=
  G.focus hL (G.open (q := fun v : Value => [ptc y [vptr x, v, vint ω.synced, vint ω.area, vint ω.count, vint ω.a, vint ω.b, .bool ω.doubt] 113, strR v ω.recs]) (φ := fun _ => True) (fun _ ⟨v, hv⟩ => ⟨v, trivial, hv⟩) fun v _ => h v)
theorem G.rlFold {y x m : Nat} {ω : Wl} {v : Value} {l ys : List Value} (hL : Picks [ptc y l 113, slR 9 1 v m ys] L R) (h0 : l = [vptr x, v, vint ω.synced, vint ω.area, vint ω.count, vint ω.a, vint ω.b, .bool ω.doubt]) (h1 : m = ω.recs.length) (h2 : ys = strs ω.recs)
    (h : G W n ds E (rlR y x ω :: R) X) : G W n ds E L X := by
  subst h0; subst h1; subst h2
  exact G.fold hL (fun _ hp => ⟨v, hp⟩) h
end
def halfL (l : List Bs) : Int := ((l.length : Int) - 2) / 2
/-! ### Two disks that are the same -/
structure Twin (δ : Dk) (ρ : Rk) (i : Nat) : Prop where
  al : Al δ
  acts : δ.acts = i
  size : δ.now.length = 16
  L : ρ.L = δ.now
  gone : ρ.Gone = false
  at0 : ρ.At = 0
  n : ρ.N = i
theorem twin_new : Twin (Dk.new 16) (Rk.new 16) 0 := ⟨new_al _, rfl, by simp [Dk.new], rfl, rfl, rfl, rfl⟩
theorem twin_write {δ : Dk} {ρ : Rk} {i : Nat} (h : Twin δ ρ i) {n : Int} (hn : 0 ≤ n ∧ n < 16) {s : Bs} (hs : s.length = 64) : (δ.write n s).2 = 0 ∧ (ρ.write n s).2 = 0 ∧ Twin (δ.write n s).1 (ρ.write n s).1 (i + 1) := by
  have hsz := h.size
  obtain ⟨w1, w2, w3⟩ := al_write h.al (n := n) (s := s) ⟨hn.1, by omega⟩ hs
  have hh : ρ.has n = true := by simp [Rk.has, h.L]; omega
  have ha : ρ.act.Gone = false := by simp [Rk.act, h.at0, h.gone]
  have e : ρ.write n s = ({ ρ.act with L := ρ.L.set n.toNat s, Pend := ρ.Pend.set n.toNat true }, 0) := by
    unfold Rk.write; rw [if_neg (by rw [h.gone]; decide), if_neg (by rw [hh]; simp [hs]), ha]; rfl
  have hac : (δ.write n s).1.acts = δ.acts + 1 := by
    have hd : δ.has n = true := by simp [Dk.has, hsz]; omega
    unfold Dk.write; rw [if_neg (by rw [h.al.dead]; decide), if_neg (by rw [hd]; simp [hs])]; rfl
  rw [e]
  exact ⟨w1, rfl, w2, by rw [hac, h.acts]; omega, by rw [w3, List.length_set]; exact hsz, by show ρ.L.set n.toNat s = _; rw [w3, h.L], ha, h.at0, by show ρ.N + 1 = _; rw [h.n]; omega⟩
theorem open_facts {δ : Dk} (hok : δ.Ok) (hs : 2 ≤ δ.now.length) {ω : Wl} (h : openZ δ = some ω) : ω.doubt = false ∧ ((laidZ ω.recs).length : Int) ≤ 64 * halfZ δ := by
  rcases hb : bestZ δ with _ | m
  · rw [openZ_none hb] at h; cases h
  · rw [openZ_some hb] at h
    have hm := bestZ_some hok hb
    unfold openB at h
    split at h
    · cases h
    · rename_i l hp
      have e := Option.some.inj h
      subst e
      obtain ⟨h1, h2, h3, h4⟩ := bytesZ_len hok hs hm
      have hl := (partZ_laid hp).1
      have hml := hm.len
      refine ⟨rfl, ?_⟩
      dsimp only
      rw [hl, h3]; omega
end Go.Proofs.Ytepncdidkjjllaa
