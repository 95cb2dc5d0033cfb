/- Own work: what lies on the disk of a log that is well; opened, it is the same log. -/
import Derived.Test.YtepncdidkjjllaaL4H
namespace Go.Proofs.Ytepncdidkjjllaa
open Go

def Wl.now (ω : Wl) : Mk := ⟨ω.count, ω.area, (laidZ (ω.recs.take ω.synced.toNat)).length, ω.synced, ω.a, ω.b⟩
def mkAt (δ : Dk) (c : Int) : Bs := δ.now.getD (c % 2).toNat []
/-- The other mark sector, against the count of the current mark: older, or torn. -/
def TailC (c : Int) (X : Bs) : Prop := X.length = 64 ∧ (X.drop 60 = beB (c - 1) 4 ∨ (sub X 2 6 = beB (c + 1) 4 ∧ X.drop 60 ≠ beB (c + 1) 4))
theorem sec_sub (m : Mk) : sub m.sec 2 6 = beB m.count 4 := by
  rw [show m.sec = [87, 77] ++ beB m.count 4 ++ (beB m.area 1 ++ beB m.len 4 ++ beB m.num 4 ++ beB m.a 8 ++ beB m.b 8 ++ List.replicate 29 0 ++ beB m.count 4) by unfold Mk.sec; simp only [List.append_assoc]]
  exact sub_mid _ _ _ (by simp) (by simp [beB_len])
theorem sec_drop (m : Mk) : m.sec.drop 60 = beB m.count 4 := by
  unfold Mk.sec
  rw [List.drop_left' (by simp [beB_len])]
theorem be4_inj {a b : Int} (ha : 0 ≤ a ∧ a ≤ 4294967295) (hb : 0 ≤ b ∧ b ≤ 4294967295) (h : beB a 4 = beB b 4) : a = b := by
  have e : (256 : Int) ^ 4 = 4294967296 := rfl
  have h1 := smallZ_beB (k := 4) ha.1 (by omega) (by omega)
  have h2 := smallZ_beB (k := 4) hb.1 (by omega) (by omega)
  rw [← h1, ← h2, h]
theorem tail_found {δ : Dk} {n c : Int} {X : Bs} (hok : δ.Ok) (hd : δ.dead = false) (hn : 0 ≤ n ∧ n < δ.now.length) (hX : δ.now.getD n.toNat [] = X) (hc : 1 ≤ c ∧ c ≤ 4294967295) (ht : TailC c X) : foundZ δ n = none ∨ ∃ k, foundZ δ n = some k ∧ k.count < c := by
  rcases h : foundZ δ n with _ | k
  · exact .inl rfl
  · obtain ⟨h1, -, h3, -⟩ := foundZ_some hok h
    have hk := h1.count
    rw [read_at hd hn] at h3
    have h4 : X = k.sec := hX.symm.trans h3
    subst h4
    rcases ht.2 with h5 | ⟨h5, h6⟩
    · rw [sec_drop] at h5
      have := be4_inj ⟨by omega, by omega⟩ ⟨by omega, by omega⟩ h5
      exact .inr ⟨k, rfl, by omega⟩
    · rw [sec_sub] at h5
      rw [sec_drop] at h6
      exact absurd h5 h6
structure Kp (δ : Dk) (ω : Wl) : Prop where
  cnt : 1 ≤ ω.count
  a : 0 ≤ ω.a ∧ ω.a ≤ 9223372036854775807
  b : 0 ≤ ω.b ∧ ω.b ≤ 9223372036854775807
  long : ∀ s ∈ ω.recs, s.length ≤ 4000
  this : mkAt δ ω.count = ω.now.sec
  other : TailC ω.count (mkAt δ (ω.count + 1))
  area : Area δ ω.area (laidZ ω.recs)
theorem laid_pre (l : List Bs) (k : Nat) : laidZ (l.take k) <+: laidZ l := ⟨laidZ (l.drop k), by rw [← laidZ_append, List.take_append_drop]⟩
theorem Kp.mkI {δ : Dk} {ω : Wl} {N : Int} (h : Kp δ ω) (hW : Well δ ω N) : MkI δ ω.now := by
  have h1 := laid_take_le ω.recs ω.synced.toNat
  have h2 := hW.fits
  have h3 := laidZ_many ω.recs
  have h4 := half_le hW.size
  have h5 := hW.synced
  exact ⟨⟨h.cnt, hW.count.2⟩, hW.area, ⟨by show (0 : Int) ≤ ((laidZ _).length : Nat); omega, by show ((laidZ _).length : Int) ≤ _; omega⟩, ⟨h5.1, by show ω.synced ≤ _; omega⟩, h.a, h.b⟩
theorem best_of {δ : Dk} (m : Mk) (h1 : foundZ δ (m.count % 2) = some m) (h2 : foundZ δ ((m.count + 1) % 2) = none ∨ ∃ k, foundZ δ ((m.count + 1) % 2) = some k ∧ k.count < m.count) : bestZ δ = some m := by
  unfold bestZ
  rcases (by omega : m.count % 2 = 0 ∧ (m.count + 1) % 2 = 1 ∨ m.count % 2 = 1 ∧ (m.count + 1) % 2 = 0) with ⟨e1, e2⟩ | ⟨e1, e2⟩ <;> rw [e1] at h1 <;> rw [e2] at h2 <;> rw [h1] <;> rcases h2 with h2 | ⟨k, h2, h3⟩ <;> rw [h2]
  · dsimp only; rw [if_neg (by omega)]
  · dsimp only; rw [if_pos (by omega)]
theorem opened {δ : Dk} {ω : Wl} {N : Int} (h : Kp δ ω) (hW : Well δ ω N) (hok : δ.Ok) : openZ δ = some ⟨ω.recs.take ω.synced.toNat, ω.synced, ω.area, ω.count, ω.a, ω.b, false⟩ := by
  have hm := h.mkI hW
  have hs := hW.synced
  have hsz := hW.size
  have f1 : foundZ δ (ω.now.count % 2) = some ω.now := found_sec hW.al.dead hW.size hm rfl h.this
  have f2 : foundZ δ ((ω.now.count + 1) % 2) = none ∨ ∃ k, foundZ δ ((ω.now.count + 1) % 2) = some k ∧ k.count < ω.now.count :=
    tail_found hok hW.al.dead ⟨by omega, by omega⟩ rfl ⟨h.cnt, hW.count.2⟩ h.other
  rw [openZ_some (best_of _ f1 f2)]
  unfold openB
  have hA : Area δ ω.area (laidZ (ω.recs.take ω.synced.toNat)) := h.area.less (laid_pre _ _)
  have hlen := laid_take_le ω.recs ω.synced.toNat
  have hfit := hW.fits
  have hb : bytesZ δ ω.now = laidZ (ω.recs.take ω.synced.toNat) := area_take hok hW.size.1 hW.area (by omega) hA
  have hn : (ω.recs.take ω.synced.toNat).length = ω.synced.toNat := by rw [List.length_take]; omega
  have hz : ω.now.num = ((ω.recs.take ω.synced.toNat).length : Int) := by rw [hn]; show ω.synced = _; omega
  rw [hb, hz, partZ_of (fun s hs => h.long s (List.mem_of_mem_take hs))]
  dsimp only
  rw [hn, show ((ω.synced.toNat : Nat) : Int) = ω.synced by omega]
  rfl
theorem opened_full {δ : Dk} {ω : Wl} {N : Int} (h : Kp δ ω) (hW : Well δ ω N) (hok : δ.Ok) (hs : ω.synced = ω.recs.length) : openZ δ = some ω := by
  rw [opened h hW hok]
  have hdb := hW.doubt
  obtain ⟨r, sy, ar, ct, x, y, db⟩ := ω
  dsimp only at hs hdb ⊢
  subst hdb
  rw [hs, Int.toNat_natCast, List.take_length]
theorem sameZ_self {ω : Wl} (hs : ω.synced = ω.recs.length) : sameZ ω (toldZ ω true, ω.a, ω.b) = true := by
  unfold sameZ toldZ; simp [hs]
theorem set_at {l : List Bs} {i k : Nat} {s : Bs} (hi : i < l.length) : (l.set i s).getD k [] = if k = i then s else l.getD k [] := by
  simp only [List.getD_eq_getElem?_getD]
  split
  · rename_i h; subst h; rw [List.getElem?_set_self hi]; rfl
  · rename_i h; rw [List.getElem?_set_ne (fun e => h e.symm)]
theorem area_set {δ δ' : Dk} {area : Int} {L : Bs} {c : Int} {s : Bs} (hn : 2 ≤ δ.now.length) (ha : 0 ≤ area) (h : δ'.now = δ.now.set (c % 2).toNat s) (hA : Area δ area L) : Area δ' area L := by
  have hlen : δ'.now.length = δ.now.length := by rw [h, List.length_set]
  intro i hi
  rw [halfZ_of hlen] at hi ⊢
  have hp := half_pos hn
  have hm : 0 ≤ area * halfZ δ := Int.mul_nonneg ha hp
  rw [h, set_at (by omega), if_neg (by omega)]
  exact hA i hi
theorem MkI.len_eq {δ δ' : Dk} {m : Mk} (h : MkI δ m) (hl : δ'.now.length = δ.now.length) : MkI δ' m := ⟨h.count, h.area, by rw [halfZ_of hl]; exact h.len, h.num, h.a, h.b⟩
/-- A new mark over the older one. -/
theorem kp_mark {δ δ1 δ' : Dk} {ω ω' : Wl} {N : Int} (h : Kp δ ω) (hW : Well δ ω N) (hlen : δ1.now.length = δ.now.length) (hk : ∀ k, k < 2 → δ1.now.getD k [] = δ.now.getD k [])
    (hc : ω'.count = ω.count + 1) (ha : 0 ≤ ω'.a ∧ ω'.a ≤ 9223372036854775807) (hb : 0 ≤ ω'.b ∧ ω'.b ≤ 9223372036854775807) (hl : ∀ s ∈ ω'.recs, s.length ≤ 4000) (hn : δ'.now = δ1.now.set ((ω.count + 1) % 2).toNat ω'.now.sec) (hA : Area δ1 ω'.area (laidZ ω'.recs)) (har : 0 ≤ ω'.area) : Kp δ' ω' := by
  have hsz := hW.size
  have hcnt := h.cnt
  have hl2 : δ'.now.length = δ.now.length := by rw [hn, List.length_set, hlen]
  refine ⟨by omega, ha, hb, hl, ?_, ?_, area_set (by omega) har hn hA⟩
  · unfold mkAt
    rw [hn, set_at (by omega), if_pos (by omega)]
  · have e : mkAt δ' (ω'.count + 1) = ω.now.sec := by
      have := h.this
      unfold mkAt at this ⊢
      rw [hn, set_at (by omega), if_neg (by omega), hk _ (by omega), ← this]
      congr 1; omega
    rw [e, hc]
    exact ⟨sec_len4 _, .inl (by rw [sec_drop]; show beB ω.count 4 = _; congr 1; omega)⟩
structure KpN (ω : Wl) (r : Dk × Wl × Int) : Prop where
  kp : Kp r.1 r.2.1
  count : r.2.1.count ≤ ω.count + 1
theorem kp_append {δ : Dk} {ω : Wl} {N : Int} (h : Kp δ ω) (hW : Well δ ω N) (s : Bs) : KpN ω (appendZ δ ω s) := by
  rcases (well_append hW s).2.2 with ⟨h1, h2, e⟩ | ⟨-, e⟩ | ⟨-, -, e⟩
  · have hl : (laidZ ω.recs ++ recZ s).length = (laidZ ω.recs).length + s.length + 6 := by rw [List.length_append, recZ_len]; omega
    have hlen := (layZ_keeps δ ω.area (laidZ ω.recs ++ recZ s) (laidZ ω.recs).length).1
    have hmk := lay_marks (all := laidZ ω.recs ++ recZ s) (laidZ ω.recs).length hW.al hW.area hW.size.1 (by omega)
    have hl0 := (al_lay ((laidZ ω.recs ++ recZ s).length + 1) δ ω.area (laidZ ω.recs ++ recZ s) ((laidZ ω.recs).length / 64) hW.al hW.area hW.size.1 (by omega)).1
    have e : appendZ δ ω s = ((layZ δ ω.area (laidZ ω.recs ++ recZ s) (laidZ ω.recs).length).1, { ω with recs := ω.recs ++ [s] }, 0) := by
      unfold appendZ; rw [if_neg (by rw [hW.doubt]; decide), if_neg (by omega), if_neg (fun g => g h2), if_neg (by show ¬ (layF _ _ _ _ _).2 ≠ 0; rw [hl0]; decide)]
    rw [e]
    have hs := hW.synced
    have hnow : (ω.recs ++ [s]).take ω.synced.toNat = ω.recs.take ω.synced.toNat := List.take_append_of_le_length (by omega)
    refine ⟨⟨h.cnt, h.a, h.b, ?_, ?_, ?_, ?_⟩, by dsimp only; omega⟩
    · intro x hx
      rcases List.mem_append.1 hx with hx | hx
      · exact h.long x hx
      · rw [List.mem_singleton.1 hx]; exact h1
    · show mkAt (layZ δ ω.area (laidZ ω.recs ++ recZ s) (laidZ ω.recs).length).1 ω.count = Mk.sec ⟨ω.count, ω.area, (laidZ ((ω.recs ++ [s]).take ω.synced.toNat)).length, ω.synced, ω.a, ω.b⟩
      rw [hnow]
      unfold mkAt; rw [hmk _ (by omega)]
      exact h.this
    · show TailC ω.count (mkAt (layZ δ ω.area (laidZ ω.recs ++ recZ s) (laidZ ω.recs).length).1 (ω.count + 1))
      have e2 : mkAt (layZ δ ω.area (laidZ ω.recs ++ recZ s) (laidZ ω.recs).length).1 (ω.count + 1) = mkAt δ (ω.count + 1) := by unfold mkAt; exact hmk _ (by omega)
      rw [e2]; exact h.other
    · show Area _ ω.area (laidZ (ω.recs ++ [s]))
      rw [laidZ_append, show laidZ [s] = recZ s by simp [laidZ]]
      exact area_append hW.al hW.area hW.size.1 (by omega) h.area
  · rw [e]; exact ⟨h, by dsimp only; omega⟩
  · rw [e]; exact ⟨h, by dsimp only; omega⟩
theorem kp_seal {δ δ1 : Dk} {ω : Wl} {N : Int} (h : Kp δ ω) (hW : Well δ ω N) (hc : ω.count ≠ 4294967295) {area : Int} (ha : 0 ≤ area ∧ area ≤ 1) {l : List Bs} (hl : ((laidZ l).length : Int) ≤ 64 * halfZ δ) (h1 : Al δ1) (h2 : δ1.now.length = δ.now.length) (h3 : δ1.acts ≤ N + 1900000)
    (hk : ∀ k, k < 2 → δ1.now.getD k [] = δ.now.getD k []) (hA : Area δ1 area (laidZ l)) (hL : ∀ s ∈ l, s.length ≤ 4000) : KpN ω (dbt (sealZ δ1 ω area l)) := by
  obtain ⟨e, w, n⟩ := well_seal hW hc ha hl h1 h2 h3
  refine ⟨?_, by rw [e]; dsimp only; omega⟩
  rw [e]
  refine kp_mark h hW h2 hk rfl h.a h.b hL ?_ hA ha.1
  rw [n]
  congr 1
  show Mk.sec ⟨ω.count + 1, area, (laidZ l).length, l.length, ω.a, ω.b⟩ = Mk.sec ⟨ω.count + 1, area, (laidZ (l.take ((l.length : Int)).toNat)).length, l.length, ω.a, ω.b⟩
  rw [Int.toNat_natCast, List.take_length]
theorem kp_sync {δ : Dk} {ω : Wl} {N : Int} (h : Kp δ ω) (hW : Well δ ω N) : KpN ω (syncZ δ ω) := by
  unfold syncZ
  rw [if_neg (by rw [hW.doubt]; decide)]
  split
  · exact ⟨h, by dsimp only; omega⟩
  · split
    · exact ⟨h, by dsimp only; omega⟩
    · rename_i hc
      exact kp_seal h hW hc hW.area hW.fits hW.al rfl (by have := hW.acts; omega) (fun _ _ => rfl) h.area h.long
theorem kp_cut {δ : Dk} {ω : Wl} {N : Int} (h : Kp δ ω) (hW : Well δ ω N) (n : Int) : KpN ω (cutZ δ ω n) := by
  unfold cutZ
  rw [if_neg (by rw [hW.doubt]; decide)]
  split
  · exact ⟨h, by dsimp only; omega⟩
  · split
    · exact ⟨h, by dsimp only; omega⟩
    · rename_i hc
      have := laid_take_le ω.recs n.toNat
      have := hW.fits
      exact kp_seal h hW hc hW.area (by omega) hW.al rfl (by have := hW.acts; omega) (fun _ _ => rfl) (h.area.less (laid_pre _ _)) (fun s hs => h.long s (List.mem_of_mem_take hs))
theorem kp_renew {δ : Dk} {ω : Wl} {N : Int} (h : Kp δ ω) (hW : Well δ ω N) (l : List Bs) : KpN ω (renewZ δ ω l) := by
  unfold renewZ
  rw [if_neg (by rw [hW.doubt]; decide)]
  split
  · exact ⟨h, by dsimp only; omega⟩
  · split
    · exact ⟨h, by dsimp only; omega⟩
    · split
      · exact ⟨h, by dsimp only; omega⟩
      · rename_i h1 h2 h3
        have hl : ((laidZ l).length : Int) ≤ 64 * halfZ δ := by omega
        have ha : 0 ≤ 1 - ω.area ∧ 1 - ω.area ≤ 1 := by have := hW.area; omega
        have hh := half_le hW.size
        obtain ⟨a1, a2⟩ := al_lay ((laidZ l).length + 1) δ (1 - ω.area) (laidZ l) (0 / 64) hW.al ha hW.size.1 hl
        have ak := layZ_keeps δ (1 - ω.area) (laidZ l) 0
        rw [if_neg (by show ¬ (layF _ _ _ _ _).2 ≠ 0; rw [a1]; decide)]
        refine kp_seal h hW (by omega) ha hl a2 ak.1 (by have := hW.acts; have := ak.2; omega) (lay_marks 0 hW.al ha hW.size.1 hl) (area_fresh hW.al ha hW.size.1 hl) (fun s hs => ?_)
        have h1' : l.any (fun s => decide (s.length > 4000)) = false := by simpa using h1
        have := List.any_eq_false.1 h1' s hs
        simpa using this
theorem kp_setm {δ : Dk} {ω : Wl} {N : Int} (h : Kp δ ω) (hW : Well δ ω N) {a b : Int} (ha : a ≤ 9223372036854775807) (hb : b ≤ 9223372036854775807) : KpN ω (setmZ δ ω a b) := by
  unfold setmZ
  rw [if_neg (by rw [hW.doubt]; decide)]
  split
  · exact ⟨h, by dsimp only; omega⟩
  · split
    · exact ⟨h, by dsimp only; omega⟩
    · rename_i h1 hc
      obtain ⟨n1, n2, n3⟩ := al_next hW.al hW.size.1 (ω.mark ω.area (ω.recs.take ω.synced.toNat) a b)
      rw [if_neg (by rw [n1]; decide)]
      refine ⟨?_, by dsimp only; omega⟩
      refine kp_mark (δ1 := δ) h hW rfl (fun _ _ => rfl) rfl ⟨by dsimp only; omega, ha⟩ ⟨by dsimp only; omega, hb⟩ h.long ?_ h.area hW.area.1
      dsimp only
      rw [n3]
      have hs := hW.synced
      have hn : (ω.recs.take ω.synced.toNat).length = ω.synced.toNat := by rw [List.length_take]; omega
      show δ.now.set ((ω.count + 1) % 2).toNat (Mk.sec ⟨ω.count + 1, ω.area, (laidZ (ω.recs.take ω.synced.toNat)).length, (ω.recs.take ω.synced.toNat).length, a, b⟩) = δ.now.set ((ω.count + 1) % 2).toNat (Mk.sec ⟨ω.count + 1, ω.area, (laidZ (ω.recs.take ω.synced.toNat)).length, ω.synced, a, b⟩)
      rw [hn, show ((ω.synced.toNat : Nat) : Int) = ω.synced by omega]
theorem kp_does {δ : Dk} {ω : Wl} {N : Int} (h : Kp δ ω) (hW : Well δ ω N) (k : Int) {n f : Int} (hn : n ≤ 9223372036854775807) (hf : f ≤ 9223372036854775807) (l : List Int) : KpN ω (doesZ δ ω k n f l) := by
  unfold doesZ
  split
  · exact kp_append h hW _
  · split
    · exact kp_sync h hW
    · split
      · exact kp_cut h hW n
      · split
        · exact kp_renew h hW _
        · split
          · exact kp_setm h hW hn hf
          · exact ⟨h, by dsimp only; omega⟩
theorem sync_all {δ : Dk} {ω : Wl} {N : Int} (hW : Well δ ω N) (hc : ω.count ≠ 4294967295) : (syncZ δ ω).2.1.synced = (syncZ δ ω).2.1.recs.length := by
  unfold syncZ
  rw [if_neg (by rw [hW.doubt]; decide)]
  split
  · rename_i h; exact h
  · first | rw [if_neg hc] | skip
    rw [(well_seal hW hc hW.area hW.fits hW.al rfl (by have := hW.acts; omega)).1]
theorem kp_new {n : Int} (h : 16 ≤ n ∧ n ≤ 32768) : Kp (formatZ (Dk.new n)).1 newW := by
  obtain ⟨-, hW, hn⟩ := format_well h
  have hl : (Dk.new n).now.length = n.toNat := by simp [Dk.new]
  refine ⟨by decide, ⟨by decide, by decide⟩, ⟨by decide, by decide⟩, fun s hs => absurd hs (List.not_mem_nil), ?_, ?_, fun i _ => ?_⟩
  · show (formatZ (Dk.new n)).1.now.getD 1 [] = mark1.sec
    rw [hn, set_at (by rw [List.length_set]; omega), if_pos rfl]
  · have e : mkAt (formatZ (Dk.new n)).1 (newW.count + 1) = zs := by
      show (formatZ (Dk.new n)).1.now.getD 0 [] = zs
      rw [hn, set_at (by rw [List.length_set]; omega), if_neg (by decide), set_at (by omega), if_pos rfl]
    rw [e]; exact ⟨rfl, .inl (by decide)⟩
  · rw [chunk_nil (by show ¬ i * 64 < 0; omega)]; exact List.nil_prefix
end Go.Proofs.Ytepncdidkjjllaa
