/- Own work: a disk that does not die: what the calls of a log do there. -/
import Derived.Test.YtepncdidkjjllaaL4d
namespace Go.Proofs.Ytepncdidkjjllaa
open Go

structure Al (δ : Dk) : Prop where
  dead : δ.dead = false
  left : δ.left = 0
theorem al_act {δ : Dk} (h : Al δ) : δ.act.2 = 0 ∧ Al δ.act.1 := by
  obtain ⟨h1, h2⟩ := h
  exact ⟨by simp [Dk.act, actE, h2], by simp [Dk.act, actD, h1, h2], by simp [Dk.act, actL, h2]⟩
theorem al_write {δ : Dk} (h : Al δ) {n : Int} {s : Bs} (hn : 0 ≤ n ∧ n < δ.now.length) (hs : s.length = 64) : (δ.write n s).2 = 0 ∧ Al (δ.write n s).1 ∧ (δ.write n s).1.now = δ.now.set n.toNat s := by
  have hh : δ.has n = true := by simp [Dk.has, hn.1, hn.2]
  have hp : Al (δ.put n s) := ⟨h.dead, h.left⟩
  have e : δ.write n s = (δ.put n s).act := by unfold Dk.write; rw [if_neg (by rw [h.dead]; decide), if_neg (by rw [hh]; simp [hs])]
  rw [e]
  exact ⟨(al_act hp).1, (al_act hp).2, rfl⟩
theorem al_sync {δ : Dk} (h : Al δ) : δ.sync.2 = 0 ∧ Al δ.sync.1 ∧ δ.sync.1.now = δ.now := by
  have e : δ.sync = ({ δ.act.1 with old := [] }, 0) := by unfold Dk.sync; rw [if_neg (by rw [h.dead]; decide), if_pos (al_act h).1]
  rw [e]
  exact ⟨rfl, ⟨(al_act h).2.dead, (al_act h).2.left⟩, rfl⟩
theorem lay_in {δ : Dk} {area : Int} {all : Bs} {i : Nat} (ha : 0 ≤ area ∧ area ≤ 1) (hn : 2 ≤ δ.now.length) (hl : (all.length : Int) ≤ 64 * halfZ δ) (hi : i * 64 < all.length) : 2 ≤ 2 + area * halfZ δ + i ∧ 2 + area * halfZ δ + i < δ.now.length := by
  have e : halfZ δ = ((δ.now.length : Int) - 2) / 2 := rfl
  generalize halfZ δ = k at *
  rcases (by omega : area = 0 ∨ area = 1) with rfl | rfl <;> omega
theorem al_lay : ∀ (f : Nat) (δ : Dk) (area : Int) (all : Bs) (i : Nat), Al δ → 0 ≤ area ∧ area ≤ 1 → 2 ≤ δ.now.length → (all.length : Int) ≤ 64 * halfZ δ → (layF f δ area all i).2 = 0 ∧ Al (layF f δ area all i).1 := by
  intro f
  induction f with
  | zero => intro δ area all i h _ _ _; exact ⟨rfl, h⟩
  | succ f ih =>
    intro δ area all i h ha hn hl
    simp only [layF]
    split
    · rename_i hi
      have hr := lay_in ha hn hl hi
      obtain ⟨w1, w2, w3⟩ := al_write h (n := 2 + area * halfZ δ + i) (s := laySec all i) ⟨by omega, hr.2⟩ (laySec_len _ _)
      rw [if_neg (by rw [w1]; decide)]
      have hlen : (δ.write (2 + area * halfZ δ + i) (laySec all i)).1.now.length = δ.now.length := (write_keeps _ _ _).1
      exact ih _ _ _ _ w2 ha (by rw [hlen]; exact hn) (by rw [halfZ_of hlen]; exact hl)
    · exact ⟨rfl, h⟩
theorem sec_len4 (m : Mk) : m.sec.length = 64 := by simp [Mk.sec, beB_len]
theorem al_next {δ : Dk} (h : Al δ) (hn : 2 ≤ δ.now.length) (m : Mk) : (nextZ δ m).2 = 0 ∧ Al (nextZ δ m).1 ∧ (nextZ δ m).1.now = δ.now.set (m.count % 2).toNat m.sec := by
  obtain ⟨w1, w2, w3⟩ := al_write h (n := m.count % 2) (s := m.sec) ⟨by omega, by omega⟩ (sec_len4 m)
  obtain ⟨s1, s2, s3⟩ := al_sync w2
  unfold nextZ
  rw [if_neg (by rw [w1]; decide), if_neg (by rw [s1]; decide)]
  exact ⟨rfl, s2, s3.trans w3⟩
theorem al_seal {δ : Dk} (h : Al δ) (hn : 2 ≤ δ.now.length) (ω : Wl) (area : Int) (l : List Bs) : ∃ δ', sealZ δ ω area l = (δ', { ω with recs := l, synced := l.length, area := area, count := ω.count + 1 }, 0) ∧ Al δ' ∧ δ'.now = δ.now.set ((ω.count + 1) % 2).toNat (ω.mark area l ω.a ω.b).sec ∧ δ'.acts ≤ δ.acts + 3 := by
  obtain ⟨s1, s2, s3⟩ := al_sync h
  have sk := sync_keeps δ
  obtain ⟨n1, n2, n3⟩ := al_next s2 (by rw [s3]; exact hn) (ω.mark area l ω.a ω.b)
  have nk := nextZ_keeps δ.sync.1 (ω.mark area l ω.a ω.b)
  refine ⟨(nextZ δ.sync.1 (ω.mark area l ω.a ω.b)).1, ?_, n2, by rw [n3, s3]; rfl, by omega⟩
  unfold sealZ
  rw [if_neg (by rw [s1]; decide), if_neg (by rw [n1]; decide)]
/-- A log that is well, on a disk that lives; so many acts at most. -/
structure Well (δ : Dk) (ω : Wl) (N : Int) : Prop where
  al : Al δ
  doubt : ω.doubt = false
  size : 2 ≤ δ.now.length ∧ δ.now.length ≤ 32768
  acts : δ.acts ≤ N
  area : 0 ≤ ω.area ∧ ω.area ≤ 1
  count : 0 ≤ ω.count ∧ ω.count ≤ 4294967295
  synced : 0 ≤ ω.synced ∧ ω.synced ≤ ω.recs.length
  fits : ((laidZ ω.recs).length : Int) ≤ 64 * halfZ δ
theorem Well.i {δ : Dk} {ω : Wl} {N : Int} (h : Well δ ω N) (hN : N ≤ 1000000000000) : WlI δ ω := ⟨h.size, by have := h.acts; omega, h.area, h.count, h.synced, h.fits⟩
theorem Well.more {δ : Dk} {ω : Wl} {N M : Int} (h : Well δ ω N) (hN : N ≤ M) : Well δ ω M := ⟨h.al, h.doubt, h.size, by have := h.acts; omega, h.area, h.count, h.synced, h.fits⟩
theorem layZ_keeps (δ : Dk) (area : Int) (all : Bs) (frm : Nat) : (layZ δ area all frm).1.now.length = δ.now.length ∧ (layZ δ area all frm).1.acts ≤ δ.acts + (all.length + 1) := by
  have := layF_keeps (all.length + 1) δ area all (frm / 64)
  exact ⟨this.1, by have := this.2; show (layF _ _ _ _ _).1.acts ≤ _; omega⟩
theorem laid_take_le (l : List Bs) (k : Nat) : (laidZ (l.take k)).length ≤ (laidZ l).length := laidZ_take_len l k
theorem well_append {δ : Dk} {ω : Wl} {N : Int} (h : Well δ ω N) (s : Bs) :
    Well (appendZ δ ω s).1 (appendZ δ ω s).2.1 (N + 2000000) ∧ (appendZ δ ω s).1.now.length = δ.now.length ∧
    ((s.length ≤ 4000 ∧ ((laidZ ω.recs).length : Int) + s.length + 6 ≤ 64 * halfZ δ ∧ (appendZ δ ω s).2 = ({ ω with recs := ω.recs ++ [s] }, 0)) ∨
     (s.length > 4000 ∧ appendZ δ ω s = (δ, ω, 33)) ∨ (s.length ≤ 4000 ∧ ¬ ((laidZ ω.recs).length : Int) + s.length + 6 ≤ 64 * halfZ δ ∧ appendZ δ ω s = (δ, ω, 30))) := by
  have hm := h.more (M := N + 2000000) (by omega)
  by_cases h1 : s.length > 4000
  · have e : appendZ δ ω s = (δ, ω, 33) := by unfold appendZ; rw [if_neg (by rw [h.doubt]; decide), if_pos h1]
    rw [e]; exact ⟨hm, rfl, .inr (.inl ⟨h1, rfl⟩)⟩
  by_cases h2 : ((laidZ ω.recs).length : Int) + s.length + 6 ≤ 64 * halfZ δ
  · have hl : (laidZ ω.recs ++ recZ s).length = (laidZ ω.recs).length + s.length + 6 := by rw [List.length_append, recZ_len]; omega
    have hh := half_le h.size
    obtain ⟨a1, a2⟩ := al_lay ((laidZ ω.recs ++ recZ s).length + 1) δ ω.area (laidZ ω.recs ++ recZ s) ((laidZ ω.recs).length / 64) h.al h.area h.size.1 (by omega)
    have ak := layZ_keeps δ ω.area (laidZ ω.recs ++ recZ s) (laidZ ω.recs).length
    have e : appendZ δ ω s = ((layZ δ ω.area (laidZ ω.recs ++ recZ s) (laidZ ω.recs).length).1, { ω with recs := ω.recs ++ [s] }, 0) := by
      unfold appendZ; rw [if_neg (by rw [h.doubt]; decide), if_neg h1, if_neg (fun g => g h2), if_neg (by show ¬ (layF _ _ _ _ _).2 ≠ 0; rw [a1]; decide)]
    rw [e]
    refine ⟨⟨a2, h.doubt, by rw [ak.1]; exact h.size, ?_, h.area, h.count, ?_, ?_⟩, ak.1, .inl ⟨by omega, h2, rfl⟩⟩
    · have := h.acts; have := ak.2; dsimp only; omega
    · have := h.synced; simp; omega
    · rw [halfZ_of ak.1]; show ((laidZ (ω.recs ++ [s])).length : Int) ≤ _
      rw [laidZ_append, show laidZ [s] = recZ s by simp [laidZ], hl]; omega
  · have e : appendZ δ ω s = (δ, ω, 30) := by unfold appendZ; rw [if_neg (by rw [h.doubt]; decide), if_neg h1, if_pos h2]
    rw [e]; exact ⟨hm, rfl, .inr (.inr ⟨by omega, h2, rfl⟩)⟩
theorem well_seal {δ : Dk} {ω : Wl} {N : Int} (h : Well δ ω N) (hc : ω.count ≠ 4294967295) {area : Int} (ha : 0 ≤ area ∧ area ≤ 1) {l : List Bs} (hl : ((laidZ l).length : Int) ≤ 64 * halfZ δ) {δ1 : Dk} (h1 : Al δ1) (h2 : δ1.now.length = δ.now.length) (h3 : δ1.acts ≤ N + 1900000) :
    (dbt (sealZ δ1 ω area l)).2 = ({ ω with recs := l, synced := l.length, area := area, count := ω.count + 1 }, 0) ∧ Well (dbt (sealZ δ1 ω area l)).1 { ω with recs := l, synced := l.length, area := area, count := ω.count + 1 } (N + 2000000) ∧ (dbt (sealZ δ1 ω area l)).1.now = δ1.now.set ((ω.count + 1) % 2).toNat (ω.mark area l ω.a ω.b).sec := by
  obtain ⟨δ', e, a1, a2, a3⟩ := al_seal h1 (by rw [h2]; exact h.size.1) ω area l
  rw [e]
  have e2 : dbt (δ', { ω with recs := l, synced := l.length, area := area, count := ω.count + 1 }, 0) = (δ', { ω with recs := l, synced := l.length, area := area, count := ω.count + 1 }, 0) := rfl
  rw [e2]
  have hlen : δ'.now.length = δ.now.length := by rw [a2, List.length_set, h2]
  have := h.count
  refine ⟨rfl, ⟨a1, h.doubt, by rw [hlen]; exact h.size, ?_, ha, ?_, ?_, ?_⟩, a2⟩
  · dsimp only; omega
  · dsimp only; omega
  · dsimp only; omega
  · dsimp only; rw [halfZ_of hlen]; exact hl
/-- What a call keeps on a disk that lives: the log is well. -/
structure Kept (δ : Dk) (ω : Wl) (N : Int) (r : Dk × Wl × Int) : Prop where
  well : Well r.1 r.2.1 (N + 2000000)
  len : r.1.now.length = δ.now.length
theorem Kept.same {δ : Dk} {ω : Wl} {N : Int} (h : Well δ ω N) {e : Int} : Kept δ ω N (δ, ω, e) := ⟨h.more (by omega), rfl⟩
theorem kept_seal {δ : Dk} {ω : Wl} {N : Int} (h : Well δ ω N) (hc : ω.count ≠ 4294967295) {area : Int} (ha : 0 ≤ area ∧ area ≤ 1) {l : List Bs} (hl : ((laidZ l).length : Int) ≤ 64 * halfZ δ) {δ1 : Dk} (h1 : Al δ1) (h2 : δ1.now.length = δ.now.length) (h3 : δ1.acts ≤ N + 1900000) : Kept δ ω N (dbt (sealZ δ1 ω area l)) := by
  obtain ⟨e, w, n⟩ := well_seal h hc ha hl h1 h2 h3
  exact ⟨by rw [e]; exact w, by rw [n, List.length_set, h2]⟩
theorem kept_sync {δ : Dk} {ω : Wl} {N : Int} (h : Well δ ω N) : Kept δ ω N (syncZ δ ω) := by
  unfold syncZ
  rw [if_neg (by rw [h.doubt]; decide)]
  split
  · exact .same h
  · split
    · exact .same h
    · rename_i hc
      exact kept_seal h hc h.area h.fits h.al rfl (by have := h.acts; omega)
theorem kept_cut {δ : Dk} {ω : Wl} {N : Int} (h : Well δ ω N) (n : Int) : Kept δ ω N (cutZ δ ω n) := by
  unfold cutZ
  rw [if_neg (by rw [h.doubt]; decide)]
  split
  · exact .same h
  · split
    · exact .same h
    · rename_i hc
      have := laid_take_le ω.recs n.toNat
      have := h.fits
      exact kept_seal h hc h.area (by omega) h.al rfl (by have := h.acts; omega)
theorem kept_renew {δ : Dk} {ω : Wl} {N : Int} (h : Well δ ω N) (l : List Bs) : Kept δ ω N (renewZ δ ω l) := by
  unfold renewZ
  rw [if_neg (by rw [h.doubt]; decide)]
  split
  · exact .same h
  · split
    · exact .same h
    · split
      · exact .same h
      · rename_i h1 h2 h3
        have hl : ((laidZ l).length : Int) ≤ 64 * halfZ δ := by omega
        have ha : 0 ≤ 1 - ω.area ∧ 1 - ω.area ≤ 1 := by have := h.area; omega
        have hh := half_le h.size
        obtain ⟨a1, a2⟩ := al_lay ((laidZ l).length + 1) δ (1 - ω.area) (laidZ l) (0 / 64) h.al ha h.size.1 hl
        have ak := layZ_keeps δ (1 - ω.area) (laidZ l) 0
        rw [if_neg (by show ¬ (layF _ _ _ _ _).2 ≠ 0; rw [a1]; decide)]
        exact kept_seal h (by omega) ha hl a2 ak.1 (by have := h.acts; have := ak.2; omega)
theorem kept_setm {δ : Dk} {ω : Wl} {N : Int} (h : Well δ ω N) (a b : Int) : Kept δ ω N (setmZ δ ω a b) := by
  unfold setmZ
  rw [if_neg (by rw [h.doubt]; decide)]
  split
  · exact .same h
  · split
    · exact .same h
    · rename_i h1 hc
      obtain ⟨n1, n2, n3⟩ := al_next h.al h.size.1 (ω.mark ω.area (ω.recs.take ω.synced.toNat) a b)
      have nk := nextZ_keeps δ (ω.mark ω.area (ω.recs.take ω.synced.toNat) a b)
      rw [if_neg (by rw [n1]; decide)]
      have := h.count; have := h.acts
      refine ⟨⟨n2, h.doubt, by dsimp only; rw [nk.1]; exact h.size, ?_, h.area, ?_, h.synced, ?_⟩, nk.1⟩
      · dsimp only; omega
      · dsimp only; omega
      · dsimp only; rw [halfZ_of nk.1]; exact h.fits
theorem kept_does {δ : Dk} {ω : Wl} {N : Int} (h : Well δ ω N) (k n f : Int) (l : List Int) : Kept δ ω N (doesZ δ ω k n f l) := by
  unfold doesZ
  split
  · have := well_append h (bytZ n f); exact ⟨this.1, this.2.1⟩
  · split
    · exact kept_sync h
    · split
      · exact kept_cut h n
      · split
        · exact kept_renew h _
        · split
          · exact kept_setm h n f
          · exact .same h
theorem new_al (n : Int) : Al (Dk.new n) := ⟨rfl, rfl⟩
theorem format_well {n : Int} (h : 16 ≤ n ∧ n ≤ 32768) : (formatZ (Dk.new n)).2 = some newW ∧ Well (formatZ (Dk.new n)).1 newW 3 ∧ (formatZ (Dk.new n)).1.now = ((Dk.new n).now.set 0 zs).set 1 mark1.sec := by
  have hl : (Dk.new n).now.length = n.toNat := by simp [Dk.new]
  obtain ⟨a1, a2, a3⟩ := al_write (new_al n) (n := 0) (s := zs) ⟨by omega, by omega⟩ rfl
  have e1 : (fmtZ (Dk.new n) 1) = (Dk.new n).write 0 zs := rfl
  have l1 : ((Dk.new n).write 0 zs).1.now.length = n.toNat := by rw [a3, List.length_set, hl]
  obtain ⟨b1, b2, b3⟩ := al_write a2 (n := 1) (s := mark1.sec) ⟨by omega, by omega⟩ (sec_len4 _)
  have l2 : (((Dk.new n).write 0 zs).1.write 1 mark1.sec).1.now.length = n.toNat := by rw [b3, List.length_set, l1]
  obtain ⟨c1, c2, c3⟩ := al_sync b2
  have e : formatZ (Dk.new n) = ((fmtZ (Dk.new n) 3).1, some newW) := by
    unfold formatZ
    rw [if_neg (by rw [e1, a1]; decide), if_neg (by show ¬ (((Dk.new n).write 0 zs).1.write 1 mark1.sec).2 ≠ 0; rw [b1]; decide), if_neg (by show ¬ ((((Dk.new n).write 0 zs).1.write 1 mark1.sec).1.sync).2 ≠ 0; rw [c1]; decide)]
  rw [e]
  have hk := fmtZ_keeps (Dk.new n) 3
  have h0 : (Dk.new n).acts = 0 := rfl
  have hn3 : (fmtZ (Dk.new n) 3).1.now = (((Dk.new n).write 0 zs).1.write 1 mark1.sec).1.now := c3
  have l3 : (fmtZ (Dk.new n) 3).1.now.length = n.toNat := by rw [hn3, l2]
  refine ⟨rfl, ⟨c2, rfl, by dsimp only; omega, by dsimp only; omega, ⟨by decide, by decide⟩, ⟨by decide, by decide⟩, ⟨by decide, by decide⟩, ?_⟩, ?_⟩
  · show ((0 : Nat) : Int) ≤ 64 * halfZ (fmtZ (Dk.new n) 3).1
    unfold halfZ; omega
  · show (fmtZ (Dk.new n) 3).1.now = _
    rw [hn3, b3, a3]; rfl
/-- A record of one byte more than fits is refused, one of so many is taken. -/
theorem room_law {δ : Dk} {ω : Wl} {N : Int} (h : Well δ ω N) : -1 ≤ roomZ δ ω ∧ roomZ δ ω ≤ 4000 ∧
    (∀ s : Bs, (s.length : Int) = max (roomZ δ ω + 1) 0 → appendZ δ ω s = (δ, ω, 33) ∨ appendZ δ ω s = (δ, ω, 30)) ∧
    (∀ s : Bs, (s.length : Int) = roomZ δ ω → (appendZ δ ω s).2 = ({ ω with recs := ω.recs ++ [s] }, 0)) := by
  refine ⟨by unfold roomZ; omega, by unfold roomZ; omega, fun s hs => ?_, fun s hs => ?_⟩
  · rcases (well_append h s).2.2 with ⟨h1, h2, -⟩ | ⟨-, e⟩ | ⟨-, -, e⟩
    · unfold roomZ at hs; omega
    · exact .inl e
    · exact .inr e
  · rcases (well_append h s).2.2 with ⟨-, -, e⟩ | ⟨h1, -⟩ | ⟨h1, h2, -⟩
    · exact e
    · unfold roomZ at hs; omega
    · unfold roomZ at hs; omega
end Go.Proofs.Ytepncdidkjjllaa
