/- Own work, some of it printed by program, texts that were built one by one and are laid one behind the other here: a ledger on a disk that lives: all its calls. | the document's disk as plain data, and what stands for it in memory. | the document's disk, function by function. | 'slices.Sorted(maps.Keys(m))' at int keys, out of the kit's contracts, in the words of SlCore. | slices.Sort at []int, out of the shelf's contract, for a slice that is owned. | a disk's pending sectors and its crash, as plain data. | the first example of law 09, reckoned. | package disk, the rest. | the first example of law 09: walked. | LedgerMarks, plain: the marks of entries; entries behind a number. | the document's writer: numbers of 64 bits; cells of lists. | the document's writer: walked. | scripts of law 04 as they lie in memory. | what is laid is found again: marks, records, areas. | a disk keeps what its log knows, as long as it lives. | what lies on the disk of a log that is well; opened, it is the same log. | what a crash leaves of a sector: plain data. | a log on a disk that is armed: what dies, and what a crash leaves. | the calls of a log on a disk that may die: what they leave. | a ledger on a disk that may die: plain. | a ledger on a disk that may die: what its calls do, and what lies behind a crash: plain. | three operations that are ready in a region that draws its order. -/
import Derived.Test.YtidjhgbdokcphaaGreatCLLastsP2
import Derived.Test.YtidjhgbdokcphaaGreatCLLastsP1
import Derived.Shelf.SlIterI.Nil
import Derived.Shelf.SortM.Plain
import Derived.Shelf.SortM.SortNone
import Derived.Ground.GgzProg
import Derived.Ground.SlgmProg
import Derived.Test.YtidjhgbdokcphaaGreatProg
import Derived.Test.YtidjhgbdokcphaaGreatCLLastsP0
import Derived.Sort.OwnSortedInts
set_option linter.unusedSimpArgs false
set_option linter.unusedVariables false
set_option maxRecDepth 100000
/- Own work: a ledger on a disk that lives: all its calls. -/

namespace Go.Proofs.YtidjhgbdokcphaaGreat
open Go

theorem well_setm {δ : Dk} {ω : Wl} {N : Int} (h : Well δ ω N) (a b : Int) : Well (setmZ δ ω a b).1 (setmZ δ ω a b).2.1 (N + 2000000) ∧ (setmZ δ ω a b).1.now.length = δ.now.length ∧
    ((∃ c, (setmZ δ ω a b).2 = ({ ω with a := a, b := b, count := c }, 0)) ∨ (∃ e, (e = 1 ∨ e = 30) ∧ setmZ δ ω a b = (δ, ω, e))) := by
  have hk := kept_setm h a b
  refine ⟨hk.well, hk.len, ?_⟩
  unfold setmZ
  rw [if_neg (by rw [h.doubt]; decide)]
  split
  · exact .inr ⟨1, .inl rfl, rfl⟩
  · split
    · exact .inr ⟨30, .inr rfl, rfl⟩
    · obtain ⟨n1, -, -⟩ := al_next h.al h.size.1 (ω.mark ω.area (ω.recs.take ω.synced.toNat) a b)
      rw [if_neg (by rw [n1]; exact fun g => g rfl)]
      exact .inl ⟨_, rfl⟩
theorem well_sync {δ : Dk} {ω : Wl} {N : Int} (h : Well δ ω N) : Well (syncZ δ ω).1 (syncZ δ ω).2.1 (N + 2000000) ∧ (syncZ δ ω).1.now.length = δ.now.length ∧
    ((∃ c, (syncZ δ ω).2 = ({ ω with synced := ω.recs.length, count := c }, 0)) ∨ syncZ δ ω = (δ, ω, 30)) := by
  have hk := kept_sync h
  refine ⟨hk.well, hk.len, ?_⟩
  unfold syncZ
  rw [if_neg (by rw [h.doubt]; decide)]
  split
  · rename_i hs
    refine .inl ⟨ω.count, ?_⟩
    rw [← hs]
  · split
    · exact .inr rfl
    · rename_i hc
      obtain ⟨e, -, -⟩ := well_seal h hc h.area h.fits h.al rfl (by have := h.acts; omega)
      rw [e]; exact .inl ⟨_, rfl⟩
theorem well_cut {δ : Dk} {ω : Wl} {N : Int} (h : Well δ ω N) {n : Nat} (hn : n ≤ ω.recs.length) : Well (cutZ δ ω n).1 (cutZ δ ω n).2.1 (N + 2000000) ∧ (cutZ δ ω n).1.now.length = δ.now.length ∧
    ((∃ c, (cutZ δ ω n).2 = ({ ω with recs := ω.recs.take n, synced := n, count := c }, 0)) ∨ cutZ δ ω n = (δ, ω, 30)) := by
  have hk := kept_cut h n
  refine ⟨hk.well, hk.len, ?_⟩
  unfold cutZ
  rw [if_neg (by rw [h.doubt]; decide), if_neg (by omega)]
  split
  · exact .inr rfl
  · rename_i hc
    have hf := laid_take_le ω.recs n
    have := h.fits
    rw [Int.toNat_natCast]
    obtain ⟨e, -, -⟩ := well_seal h hc h.area (l := ω.recs.take n) (by omega) h.al rfl (by have := h.acts; omega)
    rw [e]
    refine .inl ⟨ω.count + 1, ?_⟩
    rw [List.length_take, Nat.min_eq_left hn]
theorem well_renew {δ : Dk} {ω : Wl} {N : Int} (h : Well δ ω N) (l : List Bs) : Well (renewZ δ ω l).1 (renewZ δ ω l).2.1 (N + 2000000) ∧ (renewZ δ ω l).1.now.length = δ.now.length ∧
    ((∃ ar c, (renewZ δ ω l).2 = ({ ω with recs := l, synced := l.length, area := ar, count := c }, 0) ∧ ∀ s ∈ l, s.length ≤ 4000) ∨ (∃ e, (e = 33 ∨ e = 30) ∧ renewZ δ ω l = (δ, ω, e))) := by
  have hk := kept_renew h l
  refine ⟨hk.well, hk.len, ?_⟩
  unfold renewZ
  rw [if_neg (by rw [h.doubt]; decide)]
  split
  · exact .inr ⟨33, .inl rfl, rfl⟩
  · rename_i hlong
    split
    · exact .inr ⟨30, .inr rfl, rfl⟩
    · split
      · exact .inr ⟨30, .inr rfl, rfl⟩
      · rename_i h2 h3
        have hl : ((laidZ l).length : Int) ≤ 64 * halfZ δ := by omega
        have ha : 0 ≤ 1 - ω.area ∧ 1 - ω.area ≤ 1 := by have := h.area; omega
        have hh := half_le h.size
        obtain ⟨a1, a2⟩ := al_lay ((laidZ l).length + 1) δ (1 - ω.area) (laidZ l) (0 / 64) h.al ha h.size.1 hl
        have ak := layZ_keeps δ (1 - ω.area) (laidZ l) 0
        rw [if_neg (by show ¬ (layF _ _ _ _ _).2 ≠ 0; rw [a1]; exact fun g => g rfl)]
        obtain ⟨e, -, -⟩ := well_seal h (by omega) ha hl a2 ak.1 (by have := h.acts; have := ak.2; show (layZ δ (1 - ω.area) (laidZ l) 0).1.acts ≤ _; omega)
        have e2 : (dbt (sealZ (layZ δ (1 - ω.area) (laidZ l) 0).1 ω (1 - ω.area) l)).2 = ({ ω with recs := l, synced := l.length, area := 1 - ω.area, count := ω.count + 1 }, 0) := e
        rw [e2]
        refine .inl ⟨1 - ω.area, ω.count + 1, rfl, fun s hs => ?_⟩
        rcases Nat.lt_or_ge 4000 s.length with g | g
        · exact absurd (List.any_eq_true.2 ⟨s, hs, decide_eq_true g⟩) hlong
        · exact g
structure LKept (s : Ld) (N : Int) (r : Ld × Int) : Prop where
  well : LWell r.1 (N + 4000000)
  len : r.1.δ.now.length = s.δ.now.length
  bad : r.2 ≠ 0 → r.1.Λ = s.Λ
  live : r.2 ≠ 2
theorem LKept.same {s : Ld} {N : Int} (h : LWell s N) {e : Int} (he : e ≠ 2) : LKept s N (s, e) := ⟨h.more (by omega), rfl, fun _ => rfl, he⟩
theorem metE_ne {e : Int} (h : e = 33 ∨ e = 30 ∨ e = 1) : metE e ≠ 0 ∧ metE e ≠ 2 := by rcases h with rfl | rfl | rfl <;> exact ⟨by decide, by decide⟩
theorem met_same {Λ : Lg} {e : Int} (h : e ≠ 2) : Λ.met e = Λ := by unfold Lg.met; rw [if_neg h]
theorem lk_sync {s : Ld} {N : Int} (h : LWell s N) : LWell (lgSync s).1 (N + 2000000) ∧ (lgSync s).1.δ.now.length = s.δ.now.length ∧ (lgSync s).1.Λ = s.Λ ∧ (lgSync s).2 ≠ 2 ∧ ((lgSync s).2 = 0 → (lgSync s).1.ω.synced = s.ω.recs.length ∧ (lgSync s).1.ω.recs = s.ω.recs) := by
  unfold lgSync
  rw [if_neg (by rw [h.live]; decide)]
  obtain ⟨w1, w2, w3⟩ := well_sync h.well
  obtain ⟨⟨δ1, ω1, e1⟩, hq⟩ : ∃ r, syncZ s.δ s.ω = r := ⟨_, rfl⟩
  rw [hq] at w1 w2 w3 ⊢
  dsimp only at w1 w2 w3
  rcases w3 with ⟨c, g⟩ | g
  · cases g
    exact ⟨⟨w1, h.w, h.live, h.recs, h.a, h.b⟩, w2, rfl, by show metE 0 ≠ 2; decide, fun _ => ⟨rfl, rfl⟩⟩
  · cases g
    exact ⟨⟨w1, h.w, h.live, h.recs, h.a, h.b⟩, w2, rfl, by show metE 30 ≠ 2; decide, fun g => absurd (show metE 30 = 0 from g) (by decide)⟩
theorem lk_accept {s : Ld} {N : Int} (h : LWell s N) (n : Int) : LKept s N (lgAccept s n) ∧ s.Λ.acc ≤ (lgAccept s n).1.Λ.acc ∧ (lgAccept s n).1.Λ.cur = s.Λ.cur := by
  unfold lgAccept
  rw [if_neg (by rw [h.live]; decide)]
  split
  · exact ⟨.same h (by decide), Int.le_refl _, rfl⟩
  split
  · exact ⟨.same h (by decide), Int.le_refl _, rfl⟩
  rename_i h1 h2
  obtain ⟨w1, w2, w3⟩ := well_setm h.well n s.Λ.cur
  obtain ⟨⟨δ1, ω1, e1⟩, hq⟩ : ∃ r, setmZ s.δ s.ω n s.Λ.cur = r := ⟨_, rfl⟩
  rw [hq] at w1 w2 w3 ⊢
  dsimp only at w1 w2 w3
  have he := h.w.eps
  rcases w3 with ⟨c, g⟩ | ⟨e, hee, g⟩
  · cases g
    rw [if_pos (by show metE 0 = 0; decide)]
    exact ⟨⟨⟨w1.more (by omega), ⟨h.w.few, h.w.each, h.w.base, h.w.snap, h.w.rows, ⟨he.1, by show s.Λ.cur ≤ n; omega, by show n ≤ _; omega⟩⟩, h.live, h.recs, rfl, rfl⟩, w2, fun g => absurd rfl g, by show (0 : Int) ≠ 2; decide⟩, by show s.Λ.acc ≤ n; omega, rfl⟩
  · cases g
    obtain ⟨m1, m2⟩ := metE_ne (e := e1) (by omega)
    rw [if_neg (show ¬ (metL s.Λ (s.δ, s.ω, e1)).2 = 0 from m1)]
    have hm : s.Λ.met e1 = s.Λ := met_same (by omega)
    exact ⟨⟨⟨w1.more (by omega), by show LgW (s.Λ.met e1); rw [hm]; exact h.w, by show (s.Λ.met e1).doubt = false; rw [hm]; exact h.live, by show s.ω.recs = headL (s.Λ.met e1).base (s.Λ.met e1).snap ++ (s.Λ.met e1).ents; rw [hm]; exact h.recs, by show s.ω.a = (s.Λ.met e1).acc; rw [hm]; exact h.a, by show s.ω.b = (s.Λ.met e1).cur; rw [hm]; exact h.b⟩, w2, fun _ => hm, m2⟩, by show s.Λ.acc ≤ (s.Λ.met e1).acc; rw [hm]; exact Int.le_refl _, by show (s.Λ.met e1).cur = s.Λ.cur; rw [hm]⟩
theorem lk_adopt2 {s : Ld} {N : Int} (h : LWell s N) (n : Int) (hn : s.Λ.cur ≤ n ∧ n ≤ s.Λ.acc) : LWell (lgAdopt2 s n).1 (N + 2000000) ∧ (lgAdopt2 s n).1.δ.now.length = s.δ.now.length ∧ (lgAdopt2 s n).2 ≠ 2 ∧ (((lgAdopt2 s n).2 = 0 ∧ (lgAdopt2 s n).1.Λ = s.Λ.setCur n) ∨ ((lgAdopt2 s n).2 ≠ 0 ∧ (lgAdopt2 s n).1.Λ = s.Λ)) := by
  unfold lgAdopt2
  obtain ⟨w1, w2, w3⟩ := well_setm h.well s.Λ.acc n
  obtain ⟨⟨δ1, ω1, e1⟩, hq⟩ : ∃ r, setmZ s.δ s.ω s.Λ.acc n = r := ⟨_, rfl⟩
  rw [hq] at w1 w2 w3 ⊢
  dsimp only at w1 w2 w3
  have he := h.w.eps
  rcases w3 with ⟨c, g⟩ | ⟨e, hee, g⟩
  · cases g
    rw [if_pos (by show metE 0 = 0; decide)]
    exact ⟨⟨w1.more (by omega), ⟨h.w.few, h.w.each, h.w.base, h.w.snap, h.w.rows, ⟨by show 0 ≤ n; omega, hn.2, he.2.2⟩⟩, h.live, h.recs, rfl, rfl⟩, w2, by show (0 : Int) ≠ 2; decide, .inl ⟨rfl, rfl⟩⟩
  · cases g
    obtain ⟨m1, m2⟩ := metE_ne (e := e1) (by omega)
    rw [if_neg (show ¬ (metL s.Λ (s.δ, s.ω, e1)).2 = 0 from m1)]
    have hm : s.Λ.met e1 = s.Λ := met_same (by omega)
    exact ⟨⟨w1.more (by omega), by show LgW (s.Λ.met e1); rw [hm]; exact h.w, by show (s.Λ.met e1).doubt = false; rw [hm]; exact h.live, by show s.ω.recs = headL (s.Λ.met e1).base (s.Λ.met e1).snap ++ (s.Λ.met e1).ents; rw [hm]; exact h.recs, by show s.ω.a = (s.Λ.met e1).acc; rw [hm]; exact h.a, by show s.ω.b = (s.Λ.met e1).cur; rw [hm]; exact h.b⟩, w2, m2, .inr ⟨m1, hm⟩⟩
theorem lk_adopt {s : Ld} {N : Int} (h : LWell s N) (n : Int) : LKept s N (lgAdopt s n) ∧ (lgAdopt s n).1.Λ.acc = s.Λ.acc ∧ s.Λ.cur ≤ (lgAdopt s n).1.Λ.cur ∧ ((lgAdopt s n).2 = 0 → (lgAdopt s n).1.Λ = s.Λ.setCur n) := by
  unfold lgAdopt
  rw [if_neg (by rw [h.live]; decide)]
  split
  · exact ⟨.same h (by decide), rfl, Int.le_refl _, fun g => absurd (show (82 : Int) = 0 from g) (by decide)⟩
  rename_i h1
  obtain ⟨k1, k2, k3, k4, -⟩ := lk_sync h
  split
  · rename_i h2
    exact ⟨⟨k1.more (by omega), k2, fun _ => k3, k4⟩, by rw [k3], by rw [k3]; exact Int.le_refl _, fun g => absurd g h2⟩
  · rename_i h2
    obtain ⟨j1, j2, j3, j4⟩ := lk_adopt2 k1 n (by rw [k3]; omega)
    rw [k3] at j4
    refine ⟨⟨j1.more (by omega), j2.trans k2, fun g => ?_, j3⟩, ?_, ?_, fun g => ?_⟩
    · rcases j4 with ⟨g1, -⟩ | ⟨-, g2⟩
      · exact absurd g1 g
      · exact g2
    · rcases j4 with ⟨-, g2⟩ | ⟨-, g2⟩ <;> rw [g2] <;> rfl
    · rcases j4 with ⟨-, g2⟩ | ⟨-, g2⟩ <;> rw [g2]
      · show s.Λ.cur ≤ n; omega
      · exact Int.le_refl _
    · rcases j4 with ⟨-, g2⟩ | ⟨g1, -⟩
      · exact g2
      · exact absurd g g1
theorem lk_append {s : Ld} {N : Int} (h : LWell s N) {e : En} (he : EnI e) : LKept s N (lgAppend s e) := by
  obtain ⟨w1, w2, w3⟩ := lw_append h he
  refine ⟨w1.more (by omega), w2, fun g => ?_, ?_⟩
  · rcases w3 with ⟨g1, -⟩ | ⟨-, g2⟩
    · exact absurd g1 g
    · rw [g2]
  · intro g
    rcases w3 with ⟨g1, -⟩ | ⟨-, g2⟩
    · rw [g1] at g; cases g
    · revert g
      unfold lgAppend
      rw [if_neg (by rw [h.live]; decide)]
      split
      · show (1 : Int) = 2 → False; decide
      split
      · show (81 : Int) = 2 → False; decide
      split
      · show (83 : Int) = 2 → False; decide
      rcases (well_append h.well (enB e)).2.2 with ⟨-, -, q⟩ | ⟨-, q⟩ | ⟨-, -, q⟩
      · obtain ⟨⟨δ1, q1⟩, hq⟩ : ∃ r, appendZ s.δ s.ω (enB e) = r := ⟨_, rfl⟩
        rw [hq] at q ⊢; dsimp only at q; subst q
        rw [if_pos (by show metE 0 = 0; decide)]
        show (0 : Int) = 2 → False; decide
      · rw [q, if_neg (by show ¬ metE 33 = 0; decide)]; show metE 33 = 2 → False; decide
      · rw [q, if_neg (by show ¬ metE 30 = 0; decide)]; show metE 30 = 2 → False; decide
theorem place_le {Λ : Lg} {z : Int} {n : Nat} (h : placeZ Λ z = some n) : n ≤ Λ.zxs.length ∧ (Λ.base :: Λ.zxs).getD n 0 = z := by
  unfold placeZ at h
  split at h
  · rename_i hm
    cases h
    have := List.idxOf_lt_length_of_mem hm
    refine ⟨by omega, ?_⟩
    simp [List.getD_eq_getElem?_getD, this]
  · split at h
    · rename_i hb; cases h; exact ⟨Nat.zero_le _, hb.symm⟩
    · cases h
theorem lk_cut2 {s : Ld} {N : Int} (h : LWell s N) {n : Nat} (hn : n ≤ s.Λ.ents.length) : LKept s N (lgCut2 s n) ∧ ((lgCut2 s n).2 = 0 → (lgCut2 s n).1.Λ = ⟨s.Λ.acc, s.Λ.cur, s.Λ.base, s.Λ.snap, s.Λ.ents.take n, s.Λ.zxs.take n, s.Λ.doubt⟩ ∧ (lgCut2 s n).1.ω.synced = (lgCut2 s n).1.ω.recs.length) := by
  unfold lgCut2
  obtain ⟨w1, w2, w3⟩ := well_cut h.well (n := (headL s.Λ.base s.Λ.snap).length + n) (by rw [h.recs, List.length_append]; omega)
  obtain ⟨⟨δ1, ω1, e1⟩, hq⟩ : ∃ r, cutZ s.δ s.ω (((headL s.Λ.base s.Λ.snap).length + n : Nat) : Int) = r := ⟨_, rfl⟩
  rw [hq] at w1 w2 w3 ⊢
  dsimp only at w1 w2 w3
  rcases w3 with ⟨c, g⟩ | g
  · cases g
    rw [if_pos (by show metE 0 = 0; decide)]
    have hr : s.ω.recs.take ((headL s.Λ.base s.Λ.snap).length + n) = headL s.Λ.base s.Λ.snap ++ s.Λ.ents.take n := by
      rw [h.recs, List.take_append, List.take_of_length_le (by omega)]; congr 1; congr 1; omega
    refine ⟨⟨⟨w1.more (by omega), ⟨?_, fun x hx => h.w.each x (List.mem_of_mem_take hx), h.w.base, h.w.snap, h.w.rows.take n, h.w.eps⟩, h.live, hr, h.a, h.b⟩, w2, fun g => absurd rfl g, by show (0 : Int) ≠ 2; decide⟩, fun _ => ⟨rfl, ?_⟩⟩
    · have := h.w.few; show (s.Λ.ents.take n).length ≤ 200; rw [List.length_take]; omega
    · show (((headL s.Λ.base s.Λ.snap).length + n : Nat) : Int) = (s.ω.recs.take _).length
      rw [List.length_take, h.recs, List.length_append]; omega
  · cases g
    rw [if_neg (by show ¬ metE 30 = 0; decide)]
    exact ⟨⟨⟨w1.more (by omega), h.w, h.live, h.recs, h.a, h.b⟩, w2, fun _ => rfl, by show metE 30 ≠ 2; decide⟩, fun g => absurd (show metE 30 = 0 from g) (by decide)⟩
theorem lk_cut {s : Ld} {N : Int} (h : LWell s N) (z : Int) : LKept s N (lgCut s z) := by
  unfold lgCut
  rw [if_neg (by rw [h.live]; decide)]
  split
  · exact .same h (by decide)
  · rename_i n hn
    have hp := (place_le hn).1
    exact (lk_cut2 h (by rw [← h.w.rows.len]; exact hp)).1
theorem chunkF_nil : ∀ f, chunkF f [] = []
  | 0 => rfl
  | f + 1 => by unfold chunkF; rw [if_pos rfl]
theorem chunk_ar {k n : Nat} (h1 : k * 4000 ≤ n - 4000 + 3999) (g : 4000 < n) : (k + 1) * 4000 ≤ n + 3999 := by omega
theorem chunk_len : ∀ (f : Nat) (s : Bs), s.length ≤ f → (chunkF f s).length * 4000 ≤ s.length + 3999 ∧ ∀ x ∈ chunkF f s, x.length ≤ 4000
  | 0, s, h => by rw [show chunkF 0 s = [] from rfl]; exact ⟨by simp, fun x hx => by cases hx⟩
  | f + 1, s, h => by
    unfold chunkF
    split
    · exact ⟨by simp, fun x hx => by cases hx⟩
    · rename_i hs
      have hp : 0 < s.length := List.length_pos_iff.2 hs
      obtain ⟨h1, h2⟩ := chunk_len f (s.drop 4000) (by rw [List.length_drop]; omega)
      rw [List.length_drop] at h1
      refine ⟨?_, ?_⟩
      · rw [List.length_cons]
        rcases Nat.lt_or_ge 4000 s.length with g | g
        · exact chunk_ar h1 g
        · rw [List.drop_eq_nil_of_le g, chunkF_nil f]; simp; omega
      · intro x hx
        rcases List.mem_cons.1 hx with rfl | hx
        · rw [List.length_take]; omega
        · exact h2 x hx
theorem headL_len (base : Int) (snap : Bs) (h : snap.length ≤ 65536) : (headL base snap).length ≤ 18 := by
  unfold headL chunkL
  have := (chunk_len snap.length snap (Nat.le_refl _)).1
  rw [List.length_cons]; omega
theorem lk_renew {s : Ld} {N : Int} (h : LWell s N) {base : Int} {snap : Bs} {es : List Bs} {zs : List Int} (hb : 0 ≤ base ∧ base ≤ 9223372036854775807) (hs : snap.length ≤ 65536) (hr : RowsI base es zs) : LKept s N (lgRenew s base snap es zs) ∧
    ((lgRenew s base snap es zs).2 = 0 → (lgRenew s base snap es zs).1.Λ = ⟨s.Λ.acc, s.Λ.cur, base, snap, es, zs, s.Λ.doubt⟩ ∧ (lgRenew s base snap es zs).1.ω.synced = (lgRenew s base snap es zs).1.ω.recs.length) := by
  unfold lgRenew
  split
  · exact ⟨.same h (by decide), fun g => absurd (show (83 : Int) = 0 from g) (by decide)⟩
  rename_i hl
  obtain ⟨w1, w2, w3⟩ := well_renew h.well (headL base snap ++ es)
  obtain ⟨⟨δ1, ω1, e1⟩, hq⟩ : ∃ r, renewZ s.δ s.ω (headL base snap ++ es) = r := ⟨_, rfl⟩
  rw [hq] at w1 w2 w3 ⊢
  dsimp only at w1 w2 w3
  rcases w3 with ⟨ar, c, g, hall⟩ | ⟨e, hee, g⟩
  · cases g
    rw [if_pos (by show metE 0 = 0; decide)]
    exact ⟨⟨⟨w1.more (by omega), ⟨by show es.length ≤ 200; omega, fun x hx => hall x (List.mem_append_right _ hx), hb, hs, hr, h.w.eps⟩, h.live, rfl, h.a, h.b⟩, w2, fun g => absurd rfl g, by show (0 : Int) ≠ 2; decide⟩, fun _ => ⟨rfl, rfl⟩⟩
  · cases g
    obtain ⟨m1, m2⟩ := metE_ne (e := e1) (by omega)
    rw [if_neg (show ¬ (metL s.Λ (s.δ, s.ω, e1)).2 = 0 from m1)]
    have hm : s.Λ.met e1 = s.Λ := met_same (by omega)
    exact ⟨⟨⟨w1.more (by omega), by show LgW (s.Λ.met e1); rw [hm]; exact h.w, by show (s.Λ.met e1).doubt = false; rw [hm]; exact h.live, by show s.ω.recs = headL (s.Λ.met e1).base (s.Λ.met e1).snap ++ (s.Λ.met e1).ents; rw [hm]; exact h.recs, by show s.ω.a = (s.Λ.met e1).acc; rw [hm]; exact h.a, by show s.ω.b = (s.Λ.met e1).cur; rw [hm]; exact h.b⟩, w2, fun _ => hm, m2⟩, fun g => absurd g m1⟩
theorem fits_got {e : En} (h : fitsE e = true) (hi : EnI e) : getZ (enB e) = some e.pl := by
  unfold fitsE at h
  cases hg : getZ (enB e) with
  | none => rw [hg] at h; simp at h
  | some q => rw [get_back hi hg]
theorem rises_rows : ∀ (l : List En) (b : Int), (∀ e ∈ l, EnI e) → l.all fitsE = true → Rises b (l.map (·.zx)) → RowsI b (l.map enB) (l.map (·.zx))
  | [], _, _, _, _ => trivial
  | e :: t, b, hi, hf, hr => by
    rw [List.all_cons, Bool.and_eq_true] at hf
    have h0 := hr 0 (by simp)
    refine ⟨⟨e.pl, fits_got hf.1 (hi e (List.mem_cons_self ..)), rfl⟩, h0.1, (hi e (List.mem_cons_self ..)).zx, rises_rows t e.zx (fun x hx => hi x (List.mem_cons_of_mem _ hx)) hf.2 ?_⟩
    intro j hj
    have h1 := hr (j + 1) (by simpa using hj)
    have hp : ∀ k, k < (t.map (·.zx)).length → e.zx < (t.map (·.zx)).getD k 0 := by
      intro k
      induction k with
      | zero => intro hk; have := (hr 1 (by simpa using hk)).2 (by decide); simpa using this
      | succ k ih =>
        intro hk
        have h2 := ih (by omega)
        have h3 := (hr (k + 2) (by simp at hk ⊢; omega)).2 (by omega)
        have h4 : ((e :: t).map (·.zx)).getD (k + 2 - 1) 0 = (t.map (·.zx)).getD k 0 := by simp
        have h5 : ((e :: t).map (·.zx)).getD (k + 2) 0 = (t.map (·.zx)).getD (k + 1) 0 := by simp
        rw [h4, h5] at h3; omega
    refine ⟨hp j hj, fun h0j => ?_⟩
    have h3 := h1.2 (by omega)
    have h4 : ((e :: t).map (·.zx)).getD (j + 1 - 1) 0 = (t.map (·.zx)).getD (j - 1) 0 := by
      obtain ⟨k, rfl⟩ : ∃ k, j = k + 1 := ⟨j - 1, by omega⟩
      simp
    have h5 : ((e :: t).map (·.zx)).getD (j + 1) 0 = (t.map (·.zx)).getD j 0 := by simp
    rw [h4, h5] at h3; exact h3
theorem lk_install {s : Ld} {N : Int} (h : LWell s N) {z : Int} (hz : z ≤ 9223372036854775807) (snap : Bs) {l : List En} (hi : ∀ e ∈ l, EnI e) : LKept s N (lgInstall s z snap l) := by
  unfold lgInstall
  rw [if_neg (by rw [h.live]; decide)]
  split
  · exact .same h (by decide)
  split
  · exact .same h (by decide)
  split
  · exact .same h (by decide)
  rename_i h1 h2 h3
  exact (lk_renew h (by omega) (by omega) (rises_rows l z hi (by simpa using h2) (by simpa using h3))).1
theorem lk_compact {s : Ld} {N : Int} (h : LWell s N) (z : Int) (snap : Bs) : LKept s N (lgCompact s z snap) := by
  unfold lgCompact
  rw [if_neg (by rw [h.live]; decide)]
  split
  · exact .same h (by decide)
  rename_i h1
  split
  · exact .same h (by decide)
  · rename_i n hn
    obtain ⟨p1, p2⟩ := place_le hn
    have hb := h.w.base
    have hd := h.w.rows.drop n p1
    rw [p2] at hd
    refine (lk_renew h ?_ (by omega) hd).1
    unfold placeZ at hn
    split at hn
    · rename_i hm
      have := h.w.rows.gt z hm
      have := (h.w.rows.i64 z hm).2
      omega
    · split at hn
      · rename_i g; rw [g]; exact hb
      · cases hn
end Go.Proofs.YtidjhgbdokcphaaGreat

/- Own work: the document's disk as plain data, and what stands for it in memory. -/

namespace Go.Proofs.YtidjhgbdokcphaaGreat
open Go

section
variable {W : World} {n : Nat} {ds : List Deferred} {E : Env} {L R : List HP} {X : Act → World → Prop}
end
def fateOf (how : List Int) (k : Nat) : Int := let n := if k < how.length then how.getD k 0 else 0; if n < 0 then -(n + 1) else n
theorem getD_mem64 {l : List (List UInt8)} (h : ∀ s ∈ l, s.length = 64) {i : Nat} (hi : i < l.length) : (l.getD i []).length = 64 := by
  have : l.getD i [] = l[i] := by simp [hi]
  rw [this]; exact h _ (List.getElem_mem _)
theorem fate0 (how : List Int) (hb : ∀ z ∈ how, -9223372036854775808 ≤ z ∧ z ≤ 9223372036854775807) (k : Nat) : 0 ≤ fateOf how k ∧ fateOf how k ≤ 9223372036854775807 := by
  have hz : -9223372036854775808 ≤ (if k < how.length then how.getD k 0 else 0) ∧ (if k < how.length then how.getD k 0 else 0) ≤ 9223372036854775807 := by
    split
    · rename_i hk
      have e : how.getD k 0 = how[k] := by simp [hk]
      rw [e]; exact hb _ (List.getElem_mem _)
    · omega
  unfold fateOf
  dsimp only
  split <;> omega
end Go.Proofs.YtidjhgbdokcphaaGreat

/- Own work, by program: the document's disk, function by function. -/

namespace Go.Proofs.YtidjhgbdokcphaaGreat
open Go
end Go.Proofs.YtidjhgbdokcphaaGreat

/-
  DERIVED: THE SHELF's CONTRACTS AT THIS DUMP, IN PLAIN WORDS (tools/lay-plain.mjs out of 'YtidjhgbdokcphaaGreatLay.lean', which tools/lay-shelf.mjs wrote): THE SAME DECLARATIONS UNDER THE SAME NAMES: 'import', 'namespace', 'open', 'def', 'theorem' AND NOTHING ELSE: no command of the shelf's: FOR A HAND-IN. Each laying: the table of numbers ('.._ren') and one theorem, a field a fact of the dump's own or the kernel's comparison; each contract: ONE APPLICATION.
-/

namespace Go.Proofs
open Go.Shelf
def Tryz.keysA_ren : Go.Shelf.Ren := ⟨fun | 7 => 136 | 10 => 178 | n => n, fun | 23 => 92 | 26 => 3 | 3 => 123 | 28 => 174 | 0 => 0 | 27 => 173 | 33 => 121 | 4 => 4 | n => n, fun | n => n⟩
theorem Tryz.keysA : Go.Proofs.SlLaysZI.n7 Tryz.prog Tryz.keysA_ren := {
  mixed := by kernel_rfl
  f7 := ⟨Tryz.f136.name, by decide, Tryz.func136.trans (congrArg some (by kernel_rfl))⟩
  f10 := ⟨Tryz.f178.name, by decide, Tryz.func178.trans (congrArg some (by kernel_rfl))⟩
  t0 := Tryz.underlying0
  a0 := Tryz.isAgg0
  z0 := Tryz.sizeOf0
  v0 := Tryz.zeroValue0
  t4 := Tryz.underlying4
  a4 := Tryz.isAgg4
  z4 := Tryz.sizeOf4
  v4 := Tryz.zeroValue4
  t23 := Tryz.underlying92
  a23 := Tryz.isAgg92
  z23 := Tryz.sizeOf92
  v23 := Tryz.zeroValue92
  t26 := Tryz.underlying3
  a26 := Tryz.isAgg3
  z26 := Tryz.sizeOf3
  v26 := Tryz.zeroValue3
  t27 := Tryz.underlying173
  a27 := Tryz.isAgg173
  z27 := Tryz.sizeOf173
  v27 := Tryz.zeroValue173
  t28 := Tryz.underlying174
  a28 := Tryz.isAgg174
  z28 := Tryz.sizeOf174
  v28 := Tryz.zeroValue174
  t33 := Tryz.underlying121
  a33 := Tryz.isAgg121
  z33 := Tryz.sizeOf121
  v33 := Tryz.zeroValue121 }
def Tryz.sortedA_ren : Go.Shelf.Ren := ⟨fun | 6 => 135 | 8 => 176 | 9 => 177 | 11 => 202 | 13 => 204 | 12 => 203 | 23 => 223 | 24 => 224 | 14 => 215 | 15 => 216 | 16 => 217 | 17 => 218 | 18 => 219 | 19 => 220 | 20 => 174 | 21 => 221 | 22 => 222 | 25 => 228 | 26 => 229 | 27 => 230 | 28 => 231 | 29 => 232 | 30 => 201 | 31 => 235 | n => n, fun | 26 => 3 | 28 => 174 | 24 => 31 | 0 => 0 | 3 => 3 | 37 => 39 | 48 => 183 | 50 => 190 | 4 => 4 | 40 => 241 | 39 => 240 | 45 => 130 | 5 => 5 | 9 => 9 | 51 => 249 | 55 => 195 | 57 => 254 | 58 => 106 | 33 => 121 | n => n, fun | n => n⟩
theorem Tryz.sortedA : Go.Proofs.SlLaysZI.n6 Tryz.prog Tryz.sortedA_ren := {
  mixed := by kernel_rfl
  f6 := ⟨Tryz.f135.name, by decide, Tryz.func135.trans (congrArg some (by kernel_rfl))⟩
  f8 := ⟨Tryz.f176.name, by decide, Tryz.func176.trans (congrArg some (by kernel_rfl))⟩
  f11 := ⟨Tryz.f202.name, by decide, Tryz.func202.trans (congrArg some (by kernel_rfl))⟩
  t0 := Tryz.underlying0
  a0 := Tryz.isAgg0
  z0 := Tryz.sizeOf0
  v0 := Tryz.zeroValue0
  t24 := Tryz.underlying31
  a24 := Tryz.isAgg31
  z24 := Tryz.sizeOf31
  v24 := Tryz.zeroValue31
  t26 := Tryz.underlying3
  a26 := Tryz.isAgg3
  z26 := Tryz.sizeOf3
  v26 := Tryz.zeroValue3
  t28 := Tryz.underlying174
  a28 := Tryz.isAgg174
  z28 := Tryz.sizeOf174
  v28 := Tryz.zeroValue174
  i26 := by kernel_rfl }
def Tryz.sortA_ren : Go.Shelf.Ren := ⟨fun | 5 => 177 | 8 => 204 | 7 => 203 | 19 => 223 | 20 => 224 | 10 => 215 | 11 => 216 | 12 => 217 | 13 => 218 | 14 => 219 | 15 => 220 | 16 => 174 | 17 => 221 | 18 => 222 | 30 => 228 | 31 => 229 | 32 => 230 | 33 => 231 | 34 => 232 | 35 => 201 | 40 => 235 | n => n, fun | 23 => 31 | 25 => 3 | 3 => 3 | 32 => 39 | 22 => 31 | 0 => 0 | 44 => 183 | 46 => 190 | 4 => 4 | 36 => 241 | 35 => 240 | 41 => 130 | 5 => 5 | 9 => 9 | 53 => 249 | 57 => 195 | 63 => 254 | 64 => 106 | n => n, fun | n => n⟩
theorem Tryz.sortA : Go.Proofs.SlLaysM.n5 Tryz.prog Tryz.sortA_ren := {
  mixed := by kernel_rfl
  f5 := ⟨Tryz.f177.name, by decide, Tryz.func177.trans (congrArg some (by kernel_rfl))⟩
  f7 := ⟨Tryz.f203.name, by decide, Tryz.func203.trans (congrArg some (by kernel_rfl))⟩
  f8 := Tryz.func204.trans (congrArg some (by kernel_rfl))
  f10 := ⟨Tryz.f215.name, by decide, Tryz.func215.trans (congrArg some (by kernel_rfl))⟩
  f11 := ⟨Tryz.f216.name, by decide, Tryz.func216.trans (congrArg some (by kernel_rfl))⟩
  f12 := ⟨Tryz.f217.name, by decide, Tryz.func217.trans (congrArg some (by kernel_rfl))⟩
  f13 := ⟨Tryz.f218.name, by decide, Tryz.func218.trans (congrArg some (by kernel_rfl))⟩
  f14 := ⟨Tryz.f219.name, by decide, Tryz.func219.trans (congrArg some (by kernel_rfl))⟩
  f15 := ⟨Tryz.f220.name, by decide, Tryz.func220.trans (congrArg some (by kernel_rfl))⟩
  f16 := ⟨Tryz.f174.name, by decide, Tryz.func174.trans (congrArg some (by kernel_rfl))⟩
  f17 := ⟨Tryz.f221.name, by decide, Tryz.func221.trans (congrArg some (by kernel_rfl))⟩
  f18 := ⟨Tryz.f222.name, by decide, Tryz.func222.trans (congrArg some (by kernel_rfl))⟩
  f19 := Tryz.func223.trans (congrArg some (by kernel_rfl))
  f20 := Tryz.func224.trans (congrArg some (by kernel_rfl))
  f30 := ⟨Tryz.f228.name, by decide, Tryz.func228.trans (congrArg some (by kernel_rfl))⟩
  f31 := Tryz.func229.trans (congrArg some (by kernel_rfl))
  f32 := Tryz.func230.trans (congrArg some (by kernel_rfl))
  f33 := ⟨Tryz.f231.name, by decide, Tryz.func231.trans (congrArg some (by kernel_rfl))⟩
  f34 := ⟨Tryz.f232.name, by decide, Tryz.func232.trans (congrArg some (by kernel_rfl))⟩
  f35 := ⟨Tryz.f201.name, by decide, Tryz.func201.trans (congrArg some (by kernel_rfl))⟩
  f40 := ⟨Tryz.f235.name, by decide, Tryz.func235.trans (congrArg some (by kernel_rfl))⟩
  t0 := Tryz.underlying0
  a0 := Tryz.isAgg0
  z0 := Tryz.sizeOf0
  v0 := Tryz.zeroValue0
  t3 := Tryz.underlying3
  a3 := Tryz.isAgg3
  z3 := Tryz.sizeOf3
  v3 := Tryz.zeroValue3
  t4 := Tryz.underlying4
  a4 := Tryz.isAgg4
  z4 := Tryz.sizeOf4
  v4 := Tryz.zeroValue4
  t5 := Tryz.underlying5
  a5 := Tryz.isAgg5
  z5 := Tryz.sizeOf5
  v5 := Tryz.zeroValue5
  t9 := Tryz.underlying9
  a9 := Tryz.isAgg9
  z9 := Tryz.sizeOf9
  v9 := Tryz.zeroValue9
  t22 := Tryz.underlying31
  a22 := Tryz.isAgg31
  z22 := Tryz.sizeOf31
  v22 := Tryz.zeroValue31
  t23 := Tryz.underlying31
  a23 := Tryz.isAgg31
  z23 := Tryz.sizeOf31
  v23 := Tryz.zeroValue31
  t25 := Tryz.underlying3
  a25 := Tryz.isAgg3
  z25 := Tryz.sizeOf3
  v25 := Tryz.zeroValue3
  t32 := Tryz.underlying39
  a32 := Tryz.isAgg39
  z32 := Tryz.sizeOf39
  v32 := Tryz.zeroValue39
  t35 := Tryz.underlying240
  a35 := Tryz.isAgg240
  z35 := Tryz.sizeOf240
  v35 := Tryz.zeroValue240
  t36 := Tryz.underlying241
  a36 := Tryz.isAgg241
  z36 := Tryz.sizeOf241
  v36 := Tryz.zeroValue241
  t41 := Tryz.underlying130
  a41 := Tryz.isAgg130
  z41 := Tryz.sizeOf130
  v41 := Tryz.zeroValue130
  t44 := Tryz.underlying183
  a44 := Tryz.isAgg183
  z44 := Tryz.sizeOf183
  v44 := Tryz.zeroValue183
  t46 := Tryz.underlying190
  a46 := Tryz.isAgg190
  z46 := Tryz.sizeOf190
  v46 := Tryz.zeroValue190
  t53 := Tryz.underlying249
  a53 := Tryz.isAgg249
  z53 := Tryz.sizeOf249
  v53 := Tryz.zeroValue249
  t57 := Tryz.underlying195
  a57 := Tryz.isAgg195
  z57 := Tryz.sizeOf195
  v57 := Tryz.zeroValue195
  t63 := Tryz.underlying254
  a63 := Tryz.isAgg254
  z63 := Tryz.sizeOf254
  v63 := Tryz.zeroValue254
  t64 := Tryz.underlying106
  a64 := Tryz.isAgg106
  z64 := Tryz.sizeOf106
  v64 := Tryz.zeroValue106 }
end Go.Proofs

/- Own work: 'slices.Sorted(maps.Keys(m))' at int keys, out of the kit's contracts, in the words of SlCore. -/
namespace Go.Proofs.YtidjhgbdokcphaaGreat
open Go Go.RowKit Go.Maps Go.Sort Go.Shelf

theorem sep_more {b : Nat} {o : Obj} {L : List HP} {h h' : Hp} (hs : sep L h) (hnb : h b = none) (hb : h' b = some o) (hle : ∀ c o, h c = some o → h' c = some o) : sep (pt b o :: L) h' := by
  refine ⟨fun c => if c = b then some o else none, h, fun c => ?_, fun c o' e => ?_, hle, if_pos rfl, hs⟩
  · by_cases e : c = b
    · exact .inr (e ▸ hnb)
    · exact .inl (if_neg e)
  · by_cases hc : c = b
    · subst hc; simp at e; rw [← e]; exact hb
    · simp [hc] at e
theorem below_le {w w' : World} (hb : Below w.heap.size w w') (c : Nat) (o : Obj) (h : w.heap[c]? = some o) : w'.heap[c]? = some o := by
  have hlt : c < w.heap.size := by
    rcases Nat.lt_or_ge c w.heap.size with h' | h'
    · exact h'
    · rw [Array.getElem?_eq_none h'] at h; cases h
  rw [hb.block c hlt]; exact h
theorem St.below {L : List HP} {w w' : World} (hs : St L w) (hb : Below w.heap.size w w') : St L w' := sep_mono hs (below_le hb)
theorem Keeps.below {w w' : World} (hb : Below w.heap.size w w') : Keeps w w' := ⟨hb.os, hb.tape, hb.output, hb.size⟩
theorem St.own {L : List HP} {w w' : World} {e : TypeId} {sz n : Nat} {v : Value} {xs : List Value} (hs : St L w) (hb : Below w.heap.size w w') (ho : w'.ownsRow w.heap.size e sz v n xs) : St (slR e sz v n xs :: L) w' := by
  obtain ⟨h1, h2⟩ := ho
  rcases h2 with ⟨rfl, rfl⟩ | ⟨g, cap, cur, rfl, hg, hcur, h3, h4, h5, h6⟩
  · have : xs = [] := by simpa using h1
    subst this
    exact ⟨fun _ => none, _, fun _ => .inl rfl, fun _ _ e => (by cases e), fun _ _ e => e, slR_nil _ _ _, hs.below hb⟩
  · have hnone : w.heap[g]? = none := Array.getElem?_eq_none hg
    refine sep_imp (fun h hp => ?_) (sep_more (o := .cells cur e (0, 0)) hs hnone hcur (below_le hb))
    refine .inr ⟨g, cap, cur.toList.drop (n * sz), (0, 0), rfl, ?_, h1, ?_, h3, nfz0 _ _⟩
    · have : (xs ++ cur.toList.drop (n * sz)).toArray = cur := by rw [← h6, List.take_append_drop]
      rw [this]; exact hp
    · rw [← h6]; simp; rw [← h5]; omega

theorem wf_i64 {x : Int} (h : -9223372036854775808 ≤ x ∧ x ≤ 9223372036854775807) : (Lit.int .i64 x).wf = true := by
  simp only [Lit.wf, Bool.and_eq_true, decide_eq_true_eq]
  have e1 : IntKind.i64.min = -9223372036854775808 := by decide
  have e2 : IntKind.i64.max = 9223372036854775807 := by decide
  rw [e1, e2]; exact h
def sortI (l : List Int) : List Int := l.mergeSort (fun x y => decide (x ≤ y))
theorem keys_fn {P : Program} {ρ : Ren} (L : SlLaysZI.n7 P ρ) (mb : Option Nat) : Fn P (ρ.f 7) #[.map mb] [] fun v Lp => ∃ b, v = .func (.func (ρ.f 10)) #[] #[vptr b] ∧ Lp = [ptc b [.map mb] (ρ.t 23)] := by
  intro F w hs
  refine (callsIn_wide.1 (AnyZI.keys_in L Fence.wide 1 trivial rfl mb w)).mono ?_
  rintro e w' ⟨rfl, rfl⟩
  exact ⟨_, _, ⟨_, rfl, rfl⟩, rfl, St.new (L := F) hs _, Keeps.new _ _⟩
theorem sorted_fn {P : Program} {ρ ρs ρm : Ren} (L : SlLaysZI.n7 P ρ) (LS : SlLaysZI.n6 P ρs) (LM : SlLaysM.n5 P ρm) (hm : ρm.f 5 = ρs.f 9) (e9 : ∀ args w, (callFunc (ρs.f 9) args).run P w = .ok (.enter (ρs.f 9) args) w) (e10 : ∀ args w, (callFunc (ρ.f 10) args).run P w = .ok (.enter (ρ.f 10) args) w)
    (hk : P.underlying (ρ.t 26) = some (.int .i64)) {b r : Nat} {T : TypeId} {β : Type} {enc : β → Value} (m : List (Int × β)) (hnd : (m.map (·.1)).Nodup) (hbd : ∀ x ∈ m, -9223372036854775808 ≤ x.1 ∧ x.1 ≤ 9223372036854775807) (hlen : m.length ≤ 1099511627776) :
    Fn P (ρs.f 6) #[.func (.func (ρ.f 10)) #[] #[vptr b]] [ptc b [.map (some r)] T, mapR r (m.map fun x => (vint x.1, enc x.2))] fun v Lp => (∃ a c, v = .slice a m.length c) ∧
      Lp = [slR (ρs.t 26) 1 v m.length ((sortI (m.map (·.1))).map vint), mapR r (m.map fun x => (vint x.1, enc x.2))] := by
  intro F w hs
  have hcell : w.cell? ⟨b, 0, none⟩ = some (.map (some r)) := cell_of (l := [Value.map (some r)]) (St.pt (L := _) hs) rfl
  obtain ⟨hr1, ar, es, clock, hes, hents, hborn, hnb⟩ := sep_head (sep_tail hs)
  have hes' := ar _ _ hes
  have hlen' : es.length = m.length := by have := congrArg List.length hents; simpa using this
  have hkeys : es.map (fun e => e.key) = m.map (fun x => vint x.1) := by
    have := congrArg (List.map Prod.fst) hents; rw [List.map_map, List.map_map] at this; exact this
  let R : Value → Option (DataW Unit × List MemPlace) := fun _ => some (.lit (.bool true), [])
  have hkey : ∀ x ∈ es, ∃ k : Int, x.key = vint k ∧ -9223372036854775808 ≤ k ∧ k ≤ 9223372036854775807 := by
    intro x hx
    have : x.key ∈ es.map (fun e => e.key) := List.mem_map_of_mem hx
    rw [hkeys] at this
    obtain ⟨y, hy, he⟩ := List.mem_map.1 this
    exact ⟨y.1, he.symm, hbd y hy⟩
  have hrd : ∀ x ∈ es, ∀ k, x.key = vint k → Go.WideElems.rd P (ρ.t 26) R x = some (.int .i64 k, .lit (.bool true)) := by
    intro x hx k hxk
    obtain ⟨k', h1, h2⟩ := hkey x hx
    have : k' = k := by rw [h1] at hxk; simpa using hxk
    subst this
    have hko : keyOf P (ρ.t 26) x.key = some (.int .i64 k') := by
      rw [hxk]; simp [keyOf, hk, mapKey, wf_i64 h2]
    unfold Go.WideElems.rd; rw [hko]; rfl
  have hown : w.ownsMap P (ρ.t 26) R r m.length (.map ((es.map (Go.WideElems.rg P (ρ.t 26) R)).foldr DataW.insert [])) := by
    refine ⟨es.toArray, clock, hes', ⟨?_, ⟨by simpa using hborn, by simpa using hnb, ?_⟩, ?_⟩, by simpa using Nat.le_of_eq hlen', by simp⟩
    · simp only [List.size_toArray, maxLen]; omega
    · have e1 : es.toArray.toList.map (·.key) = m.map (fun x => vint x.1) := by simpa using hkeys
      rw [e1]
      have e2 : m.map (fun x => vint x.1) = (m.map (·.1)).map vint := by simp
      rw [e2]
      exact List.pairwise_map.2 (List.Pairwise.imp (fun hne he => hne (by simpa using he)) hnd)
    · intro x hx
      have hx' : x ∈ es := by simpa using hx
      obtain ⟨k, h1, -⟩ := hkey x hx'
      exact ⟨_, hrd x hx' k h1⟩
  have hD : (intKeys (DataW.map ((es.map (Go.WideElems.rg P (ρ.t 26) R)).foldr DataW.insert []))).Perm (m.map (·.1)) := by
    show (((es.map (Go.WideElems.rg P (ρ.t 26) R)).foldr DataW.insert []).map fun p => Go.intOf p.1).Perm _
    refine (List.Perm.map _ (Go.WideShapes.sorted_perm _)).trans ?_
    have : (es.map (Go.WideElems.rg P (ρ.t 26) R)).map (fun p => Go.intOf p.1) = m.map (·.1) := by
      have h1 : (es.map (Go.WideElems.rg P (ρ.t 26) R)).map (fun p => Go.intOf p.1) = (es.map (fun e => e.key)).map (fun v => match v with | .int _ k => k | _ => 0) := by
        rw [List.map_map, List.map_map]
        refine List.map_congr_left fun x hx => ?_
        obtain ⟨k, h1, -⟩ := hkey x hx
        simp only [Function.comp, Go.WideElems.rg, hrd x hx k h1, Option.getD_some, Go.intOf, h1]
      rw [h1, hkeys, List.map_map]; rfl
    rw [this]
  have hsize : Maps.size (DataW.map ((es.map (Go.WideElems.rg P (ρ.t 26) R)).foldr DataW.insert [])) = m.length := by
    simp [Maps.size, length_sorted, hlen']
  have hblt : b < w.heap.size := by
    rcases Nat.lt_or_ge b w.heap.size with h | h
    · exact h
    · simp [World.cell?, Array.getElem?_eq_none h] at hcell
  have hseq := AnyZI.keys_gives (ρ := ρ) { L with } Fence.wide 2 trivial rfl (by omega) b r m.length _ w hblt hcell hown
  have hsorts : ∀ k, AnyZI.SortsIn P ρs Fence.wide k := fun k =>
    ⟨fun blk off cap ss W hH hblk hsz => by
        rw [← hm]; exact callsIn_wide.2 (AnyM.slices_Sort_int LM blk off cap ss W hH hblk hsz),
     fun p cap W => by rw [← hm]; exact callsIn_wide.2 (AnyM.slices_Sort_int_none LM p cap W)⟩
  have hS := AnyZI.sorted_in LS Fence.wide 5 trivial trivial trivial trivial rfl (by omega) (hsorts _) e9 (ρ.f 10) #[vptr b] trivial e10 _ _ (by rw [hsize, maxLen]; omega) (by rw [hsize]; omega) w hseq
  refine (callsIn_wide.1 hS).mono ?_
  rintro e w' ⟨v, ss, rfl, hp, hrow, -, hb⟩
  have hperm : ss.Perm (m.map (·.1)) := hp.trans hD
  have hss : (ss.mergeSort fun x y => decide (x ≤ y)) = sortI (m.map (·.1)) := mergeSort_of_perm_i hperm
  have hl : ss.length = m.length := by rw [hperm.length_eq]; simp
  rw [hss, hl] at hrow
  have hshape : ∃ a c, v = .slice a m.length c := by
    rcases hrow.2 with ⟨rfl, h0⟩ | ⟨g, cap, cur, rfl, -⟩
    · exact ⟨_, _, by rw [h0]⟩
    · exact ⟨_, _, rfl⟩
  refine ⟨v, _, ⟨hshape, rfl⟩, rfl, ?_, Keeps.below hb⟩
  exact St.own (sep_tail hs) hb hrow
end Go.Proofs.YtidjhgbdokcphaaGreat

/- Own work: slices.Sort at []int, out of the shelf's contract, for a slice that is owned. -/
namespace Go.Proofs.YtidjhgbdokcphaaGreat
open Go Go.Sort

theorem sortI_perm (l : List Int) : (sortI l).Perm l := List.mergeSort_perm _ _
theorem sortI_length (l : List Int) : (sortI l).length = l.length := (sortI_perm l).length_eq
theorem sortI_mem {l : List Int} {x : Int} : x ∈ sortI l ↔ x ∈ l := (sortI_perm l).mem_iff
end Go.Proofs.YtidjhgbdokcphaaGreat

/- Own work: a disk's pending sectors and its crash, as plain data. -/

namespace Go.Proofs.YtidjhgbdokcphaaGreat
open Go Go.RowKit

def Dk.pend (δ : Dk) : List Int := sortI (δ.old.map (·.1))
theorem Dk.pend_len (δ : Dk) : δ.pend.length = δ.old.length := by rw [Dk.pend, sortI_length, List.length_map]
theorem nodup_lenN : ∀ {n : Nat} {l : List Nat}, l.Nodup → (∀ x ∈ l, x < n) → l.length ≤ n := by
  intro n
  induction n with
  | zero => intro l _ h; cases l with | nil => simp | cons a l => exact absurd (h a (by simp)) (by omega)
  | succ n ih =>
    intro l hn h
    have h1 := ih (hn.erase n) (fun x hx => by
      have := (hn.mem_erase_iff).1 hx
      have := h x this.2; omega)
    rw [List.length_erase] at h1
    split at h1 <;> omega
theorem nodup_len {l : List Int} (hn : l.Nodup) {n : Nat} (h : ∀ x ∈ l, 0 ≤ x ∧ x < n) : l.length ≤ n := by
  have h1 : (l.map Int.toNat).Nodup := List.Pairwise.map _ (S := fun a b : Nat => a ≠ b) (R := fun a b : Int => (0 ≤ a ∧ 0 ≤ b) ∧ a ≠ b) (fun a b hab => by omega)
    (List.Pairwise.imp_of_mem (fun {a b} ha hb hab => ⟨⟨(h a ha).1, (h b hb).1⟩, hab⟩) hn)
  have h3 := nodup_lenN (n := n) h1 (fun x hx => by
    obtain ⟨y, hy, rfl⟩ := List.mem_map.1 hx
    have := h y hy
    omega)
  simpa using h3
theorem Dk.Ok.oldlen {δ : Dk} (h : δ.Ok) : δ.old.length ≤ δ.now.length := by
  have := nodup_len h.nodup (n := δ.now.length) (fun x hx => by
    obtain ⟨y, hy, rfl⟩ := List.mem_map.1 hx
    exact (h.olds y hy).2)
  simpa using this
theorem mem_alook {β : Type} {m : List (Int × β)} {k : Int} (h : k ∈ m.map (·.1)) : ∃ b, alook m k = some b := by
  rcases e : alook m k with _ | b
  · exact absurd h (alook_none e)
  · exact ⟨b, rfl⟩
theorem Dk.pend_at {δ : Dk} (h : δ.Ok) {k : Nat} (hk : k < δ.pend.length) : 0 ≤ δ.pend.getD k 0 ∧ (δ.pend.getD k 0).toNat < δ.now.length ∧ δ.pend.getD k 0 < δ.now.length ∧ ∃ o, alook δ.old (δ.pend.getD k 0) = some o ∧ o.length = 64 := by
  have e : δ.pend.getD k 0 = δ.pend[k] := by simp [hk]
  have hm : δ.pend[k] ∈ δ.old.map (·.1) := sortI_mem.1 (List.getElem_mem hk)
  obtain ⟨o, ho⟩ := mem_alook hm
  have := h.olds _ (alook_mem ho)
  rw [e]
  exact ⟨this.2.1, by omega, this.2.2, o, ho, this.1⟩
def Dk.crash1 (δ : Dk) (f : Int) (n : Int) : Dk :=
  { δ with now := if f % 3 = 0 then δ.now.set n.toNat ((alook δ.old n).getD []) else if f % 3 = 2 then δ.now.set n.toNat ((δ.now.getD n.toNat []).take ((f / 3) % 65).toNat ++ ((alook δ.old n).getD []).drop ((f / 3) % 65).toNat) else δ.now }
def Dk.crashTo (δ : Dk) (how : List Int) : Nat → Dk
  | 0 => δ
  | k + 1 => (δ.crashTo how k).crash1 (fateOf how k) (δ.pend.getD k 0)
def Dk.crash (δ : Dk) (how : List Int) : Dk := { δ.crashTo how δ.pend.length with old := [], dead := false, left := 0 }
theorem Dk.crash1_len (δ : Dk) (f n : Int) : (δ.crash1 f n).now.length = δ.now.length := by
  simp only [Dk.crash1]
  split
  · simp
  · split <;> simp
theorem Dk.Ok.crash1 {δ : Dk} (h : δ.Ok) (f : Int) {n : Int} {o : List UInt8} (ho : alook δ.old n = some o) (hl : o.length = 64) (hn : n.toNat < δ.now.length) : (δ.crash1 f n).Ok := by
  have h1 := getD_mem64 h.sec hn
  have hb : ((f / 3) % 65).toNat ≤ 64 := by omega
  refine ⟨fun s hs => ?_, fun x hx => by rw [Dk.crash1_len]; exact h.olds x hx, h.nodup, by rw [Dk.crash1_len]; exact h.big, h.acts0, h.left0⟩
  simp only [Dk.crash1, ho, Option.getD_some] at hs
  split at hs
  · rcases List.mem_or_eq_of_mem_set hs with hs | rfl
    · exact h.sec s hs
    · exact hl
  · split at hs
    · rcases List.mem_or_eq_of_mem_set hs with hs | rfl
      · exact h.sec s hs
      · rw [List.length_append, List.length_take, List.length_drop, h1, hl]; omega
    · exact h.sec s hs
theorem Dk.crashTo_same (δ : Dk) (how : List Int) : ∀ k, (δ.crashTo how k).old = δ.old ∧ (δ.crashTo how k).acts = δ.acts ∧ (δ.crashTo how k).left = δ.left ∧ (δ.crashTo how k).dead = δ.dead ∧ (δ.crashTo how k).now.length = δ.now.length := by
  intro k
  induction k with
  | zero => exact ⟨rfl, rfl, rfl, rfl, rfl⟩
  | succ k ih =>
    obtain ⟨h1, h2, h3, h4, h5⟩ := ih
    exact ⟨h1, h2, h3, h4, by rw [Dk.crashTo, Dk.crash1_len, h5]⟩
theorem Dk.crashTo_ok {δ : Dk} (h : δ.Ok) (how : List Int) : ∀ k, k ≤ δ.pend.length → (δ.crashTo how k).Ok := by
  intro k
  induction k with
  | zero => exact fun _ => h
  | succ k ih =>
    intro hk
    obtain ⟨e1, -, -, -, e2⟩ := δ.crashTo_same how k
    obtain ⟨q0, q1, q2, o, q3, q4⟩ := Dk.pend_at h (k := k) (by omega)
    exact (ih (by omega)).crash1 _ (by rw [e1]; exact q3) q4 (by rw [e2]; exact q1)
theorem Dk.Ok.crashed {δ : Dk} (h : δ.Ok) (how : List Int) : (δ.crash how).Ok := by
  have := Dk.crashTo_ok h how δ.pend.length (Nat.le_refl _)
  exact ⟨this.sec, by simp [Dk.crash], by simp [Dk.crash], this.big, this.acts0, by simp [Dk.crash]⟩
theorem Dk.new_ok {n : Int} (h : n.toNat ≤ 32768) : (Dk.new n).Ok :=
  ⟨by simp [Dk.new, zs_len], by simp [Dk.new], by simp [Dk.new], by simpa [Dk.new] using h, by simp [Dk.new], by simp [Dk.new]⟩
theorem bys_zs : bys zs = List.replicate 64 (Value.int .u8 0) := by rw [bys, zs, List.map_replicate]; rfl
theorem secsC_new (n : Nat) : secsC (List.replicate n zs) = List.replicate (n * 64) (Value.int .u8 0) := by
  induction n with
  | zero => rfl
  | succ n ih =>
    have : secsC (List.replicate (n + 1) zs) = bys zs ++ secsC (List.replicate n zs) := by simp [secsC, List.replicate_succ]
    rw [this, ih, bys_zs, List.replicate_append_replicate]
    congr 1; omega
theorem secsC_take {l : List (List UInt8)} (h : ∀ s ∈ l, s.length = 64) {n : Nat} (hn : n < l.length) {m off j : Nat} (ho : off = n * 64) (hj : j = m) (hm : m ≤ 64) : ((secsC l).drop off).take j = bys (l[n].take m) := by
  subst ho hj
  rw [show bys (l[n].take j) = (bys l[n]).take j from List.map_take, ← secsC_at h hn, List.take_take, Nat.min_eq_left hm]
section
variable {P : Program} {E : Env} {L R : List HP} {ty kt et : TypeId} {K β : Type} [DecidableEq K] {kv : K → Value} {enc : β → Value}
theorem Quiet.lookupS (hl : KeyLaw P kt kv) {t : TypeId} {x y : Operand} {m : List (K × β)} {r : Nat} {k : K} {b : β} {z : Value} {ents : List (Value × Value)} (hb : alook m k = some b) (hx : ev E x = some (.map (some r))) (hy : ev E y = some (kv k)) (ht : P.underlying t = some (.map kt et)) (hz : zeroOf P et = some z)
    (hL : Pick (mapR r ents) L R) (he : ents = m.map fun x => (kv x.1, enc x.2)) : Quiet P ⟨none, .lookup t x y false, ty, "", #[], none⟩ E L (enc b) := by
  have q := Quiet.lookup (enc := enc) (ty := ty) hl hx hy ht hz hL he
  rw [hb] at q
  exact q
end
theorem keysD_spec (mb : Option Nat) : Fn Tryz.prog 136 #[.map mb] [] fun v L => ∃ b, v = .func (.func 178) #[] #[vptr b] ∧ L = [ptc b [.map mb] 92] :=
  keys_fn Tryz.keysA mb
theorem sortedD_spec {b r : Nat} {T : TypeId} (m : List (Int × List UInt8)) (hnd : (m.map (·.1)).Nodup) (hbd : ∀ x ∈ m, -9223372036854775808 ≤ x.1 ∧ x.1 ≤ 9223372036854775807) (hlen : m.length ≤ 1099511627776) :
    Fn Tryz.prog 135 #[.func (.func 178) #[] #[vptr b]] [ptc b [.map (some r)] T, mapR r (oldsV m)] fun v L => (∃ a c, v = .slice a m.length c) ∧ L = [intR v (sortI (m.map (·.1))), mapR r (oldsV m)] := by
  have q := sorted_fn Tryz.keysA Tryz.sortedA Tryz.sortA rfl (enters_of Tryz.func177 rfl rfl) (enters_of Tryz.func178 rfl rfl) Tryz.underlying3 (enc := secV) (b := b) (r := r) (T := T) m hnd hbd hlen
  intro F w hs
  refine (q F w hs).mono ?_
  rintro e w' ⟨v, L', ⟨h1, rfl⟩, h2, h3⟩
  refine ⟨v, _, ⟨h1, ?_⟩, h2, h3⟩
  have : (sortI (m.map (·.1))).length = m.length := by rw [sortI_length, List.length_map]
  show _ = [slR _ 1 v (sortI (m.map (·.1))).length _, _]
  rw [this]; rfl
end Go.Proofs.YtidjhgbdokcphaaGreat

/- Own work: the first example of law 09, reckoned. -/
namespace Go.Proofs.YtidjhgbdokcphaaGreat
open Go

def anyP : HP := fun _ => True
def awe (z : Int) : En := ⟨z, 0, 0, pt0, []⟩
def la0 : Ld := ⟨(lgFormat (Dk.new 64)).1, (lgF2 (Dk.new 64)).2.1, lg0⟩
def la1 : Ld × Int := lgAccept la0 3
def la2 : Ld × Int := lgAppend la1.1 (awe 4294967297)
def la3 : Ld × Int := lgAppend la2.1 (awe 4294967298)
def la4 : Ld × Int := lgAdopt la3.1 1
def la5 : Ld × Int := lgAppend la4.1 (awe 12884901889)
theorem la_olds : la5.1.δ.old.map (·.1) = [2, 3] := by kernel_rfl
theorem sort23 : sortI [2, 3] = [2, 3] := by
  unfold sortI
  exact List.mergeSort_of_pairwise (by simp)
def la6 : Dk := { ((la5.1.δ.crash1 (fateOf [] 0) 2).crash1 (fateOf [] 1) 3) with old := [], dead := false, left := 0 }
theorem la_crash : la5.1.δ.crash [] = la6 := by
  have h : la5.1.δ.pend = [2, 3] := by unfold Dk.pend; rw [la_olds, sort23]
  unfold Dk.crash
  rw [show la5.1.δ.pend.length = 2 by rw [h]; rfl]
  show { Dk.crash1 (Dk.crash1 la5.1.δ (fateOf [] 0) (la5.1.δ.pend.getD 0 0)) (fateOf [] 1) (la5.1.δ.pend.getD 1 0) with old := [], dead := false, left := 0 } = la6
  rw [h]; rfl
theorem la_ok : (la1.2, la2.2, la3.2, la4.2, la5.2) = (0, 0, 0, 0, 0) := by kernel_rfl
theorem la_dead : la6.dead = false := by kernel_rfl
theorem la_len : la6.now.length = 64 := by kernel_rfl
theorem la_acts : la6.acts = 18 := by kernel_rfl
theorem la_open : (openZ la6).map (fun ω => ((ω.doubt, ω.recs.length, ω.recs.all fun s => decide (s.length ≤ 4000)), (ω.area, ω.count, decide (ω.synced = ω.recs.length), (laidZ ω.recs).length), (openLZ ω).map fun Λ => (lastZ Λ, Λ.acc, Λ.cur, marksZ Λ, Λ.doubt, Λ.ents.length, Λ.zxs, Λ.base, Λ.ents.all fun s => decide (s.length ≤ 4000)))) = some ((false, 3, true), (0, 5, true, 50), some (4294967298, 3, 1, [4294967298], false, 2, [4294967297, 4294967298], 0, true)) := by kernel_rfl
structure LaOpen (ω : Wl) (Λ : Lg) : Prop where
  w : openZ la6 = some ω
  l : openLZ ω = some Λ
  doubt : ω.doubt = false
  few : ω.recs.length = 3
  each : ∀ s ∈ ω.recs, s.length ≤ 4000
  i : WlI la6 ω
  synced : ω.synced = ω.recs.length
  last : lastZ Λ = 4294967298
  acc : Λ.acc = 3
  cur : Λ.cur = 1
  marks : marksZ Λ = [4294967298]
  live : Λ.doubt = false
  li : LgI Λ
theorem la_opened : ∃ ω Λ, LaOpen ω Λ := by
  have h := la_open
  rcases hw : openZ la6 with _ | ω
  · rw [hw] at h; cases h
  rw [hw] at h
  rcases hl : openLZ ω with _ | Λ
  · rw [Option.map_some, hl] at h; simp at h
  rw [Option.map_some, hl, Option.map_some] at h
  simp only [Option.some.injEq, Prod.mk.injEq, List.all_eq_true, decide_eq_true_eq] at h
  obtain ⟨⟨h1, h2, h3⟩, ⟨h4, h5, h6, h7⟩, h8, h9, h10, h11, h12, h13, h14, h15, h16⟩ := h
  have hl6 := la_len
  have ha6 := la_acts
  have hh : halfZ la6 = 31 := by unfold halfZ; omega
  refine ⟨ω, Λ, hw, hl, h1, h2, h3, ⟨by omega, by omega, by omega, by omega, by omega, by rw [hh, h7]; decide⟩, h6, h8, h9, h10, h11, h12, ⟨by omega, by rw [h14, h13]; rfl, fun s hs => by have := h16 s hs; omega, by rw [h15]; decide, by rw [h14]; decide⟩⟩
theorem sync_done {s : Ld} (h : s.Λ.doubt = false) (h2 : s.ω.doubt = false) (h3 : s.ω.synced = s.ω.recs.length) : lgSync s = (s, 0) := by
  unfold lgSync
  rw [if_neg (by rw [h]; decide)]
  have e : syncZ s.δ s.ω = (s.δ, s.ω, 0) := by unfold syncZ; rw [if_neg (by rw [h2]; decide), if_pos h3]
  rw [e]; rfl
theorem lgFormat_some {δ : Dk} {ω : Wl} (h : (lgFormat δ).2 = some ω) : ω = (lgF2 δ).2.1 := by
  unfold lgFormat at h
  split at h
  · cases h
  split at h
  · cases h
  split at h
  · cases h
  · cases h; rfl
theorem numB_len {z : Int} (hz : I64 z) : (numB z).length ≤ 10 := sev_len10 (zig_lt hz)
theorem awe_X {z : Int} (hz : I64 z) : EnX anyP (awe z) := by
  have hr : ∀ sz h, rdS sz h nilV 0 [] := fun sz h => .inl ⟨rfl, rfl, _, _, rfl⟩
  have i0 : I64 0 := by decide
  have hi : EnI (awe z) := ⟨hz, i0, i0, ⟨i0, i0, i0, i0, (by decide : (0 : Nat) < U64), (by decide : (0 : Nat) < U64), (by decide : (0 : Nat) < U64), fun a ha => by cases ha⟩, (by decide : (0 : Nat) < U64), fun y hy => by cases hy⟩
  refine ⟨⟨⟨hi, fun h _ => hr 2 h, fun h _ => hr 8 h, fun y hy => by cases hy⟩, ?_, ⟨Nat.zero_le _, Nat.zero_le _, fun y hy => by cases hy⟩, ⟨rfl, rfl⟩, fun y hy => by cases hy⟩, fun y hy => by cases hy⟩
  have h1 : (numB 0).length = 1 := by kernel_rfl
  have h2 : (ptB pt0).length = 7 := by kernel_rfl
  have h3 : (subsB []).length = 1 := by kernel_rfl
  have h4 := numB_len hz
  rw [enB_len]
  show ([z, 0, 0].flatMap numB).length + (ptB pt0).length + (subsB []).length ≤ _
  simp only [List.flatMap_cons, List.flatMap_nil, List.length_append, List.length_nil]
  omega
theorem la_chain : LWell la0 4000003 ∧ LWell la1.1 8000003 ∧ LWell la2.1 12000003 ∧ LWell la3.1 16000003 ∧ LWell la4.1 20000003 ∧ LWell la5.1 24000003 ∧ WlI (lgSync la3.1).1.δ (lgSync la3.1).1.ω ∧ Well (formatZ (Dk.new 64)).1 newW 3 ∧ Well (lgF1 (Dk.new 64)).1 (lgF1 (Dk.new 64)).2.1 2000003 := by
  obtain ⟨ω, f1, f2, f3, f4, f5⟩ := format_lwell (n := 64) (by decide)
  rw [lgFormat_some f1] at f2
  have h1 := (lk_accept (s := la0) f2 3).1.well
  have h2 := (lk_append (s := la1.1) h1 (e := awe 4294967297) (awe_X (by decide)).l.w.i).well
  have h3 := (lk_append (s := la2.1) h2 (e := awe 4294967298) (awe_X (by decide)).l.w.i).well
  have h4 := (lk_adopt (s := la3.1) h3 1).1.well
  have h5 := (lk_append (s := la4.1) h4 (e := awe 12884901889) (awe_X (by decide)).l.w.i).well
  exact ⟨f2, h1, h2, h3, h4, h5, (lk_sync h3).1.well.i (by decide), f4, f5⟩
end Go.Proofs.YtidjhgbdokcphaaGreat

/- Own work, by program: package disk, the rest. -/

namespace Go.Proofs.YtidjhgbdokcphaaGreat
open Go
theorem pending_spec (d : Nat) (δ : Dk) : Fn Tryz.prog 76 #[vptr d] [dkR d δ] fun v L => (∃ a c, v = .slice a δ.pend.length c) ∧ L = [dkR d δ, intR v δ.pend] := by
 refine Fn.intro (vs := [vptr d]) Tryz.func76 rfl rfl ?_
 intro F W
 refine G.dkOpen .here fun nb ob hok => ?_
 have hol := hok.oldlen
 have hbg := hok.big
 refine G.seq (G.region (G.ag rfl rfl (G.nil (G.then_n (G.seq (G.region (G.mv rfl rfl (G.q (Quiet.nilp rfl) rfl (G.q (Quiet.fieldAddr rfl fo_94_1) rfl ?_)))))))))
 refine G.q (Quiet.ld rfl ag_92) rfl ?_
 refine G.oq (OpSpec.call Tryz.func136 rfl rfl (vs := [_]) rfl (keysD_spec _)) ?nx6
 rintro v L' ⟨bk, rfl, rfl⟩
 refine G.oq (OpSpec.call Tryz.func135 rfl rfl (vs := [_]) rfl (sortedD_spec δ.old hok.nodup ?hbd8 ?hln9)) ?nx10
 case hbd8 => intro x hx; have := hok.olds x hx; omega
 case hln9 => omega
 rintro v L' ⟨⟨al, cl, rfl⟩, rfl⟩
 refine G.ag rfl rfl (G.nil (G.then_n (G.ret ?_)))
 refine G.dkFold (δ := δ) (by (repeat' constructor)) rfl rfl rfl hok ?_
 exact G.dn (l := [.tmp 2]) rfl rfl ⟨⟨_, _, by rw [Dk.pend_len]⟩, rfl⟩

theorem crash_spec (d : Nat) (δ : Dk) (hv : Value) (how : List Int) (p : HP) (hr : ∀ h : Hp, p h → rdS 1 h hv how.length (ints how)) (hb : ∀ z ∈ how, -9223372036854775808 ≤ z ∧ z ≤ 9223372036854775807) : Fn Tryz.prog 29 #[vptr d, hv] [dkR d δ, p] fun v L => v = .tuple #[] ∧ L = [dkR d (δ.crash how), p] := by
 refine Fn.intro (vs := [vptr d, hv]) Tryz.func29 rfl rfl ?_
 intro F W
 refine G.rdAny (p := p) hr (by (repeat' constructor)) fun ah ch e _ => ?_
 subst e
 refine G.dkOpen (by (repeat' constructor)) fun nb0 ob0 hok0 => ?_
 refine G.dkFold (δ := δ) (by (repeat' constructor)) rfl rfl rfl hok0 ?_
 have hol := hok0.oldlen
 have hbg := hok0.big
 have hpl := δ.pend_len
 refine G.seq (G.seq (G.region (G.mv rfl rfl ?_)))
 refine G.oq (OpSpec.call Tryz.func76 rfl rfl (vs := [_]) rfl (pending_spec d δ)) ?nx2
 rintro v L' ⟨⟨al, cl, rfl⟩, rfl⟩
 refine G.q (Quiet.slen rfl Tryz.underlying31 rfl) rfl (G.mv rfl rfl (G.nil (G.then_n (G.block ?_))))
 refine G.loop (F := F) (ι := Nat) (fun k => [(0, vptr d), (1, .slice ah how.length ch), (9, .slice al δ.pend.length cl), (10, vint δ.pend.length), (11, vint k)]) (fun k => [dkR d (δ.crashTo how k), p, intR (.slice al δ.pend.length cl) δ.pend]) (fun k => k ≤ δ.pend.length) (fun k => δ.pend.length - k) 0 (Nat.zero_le _) ⟨rfl, rfl, rfl, rfl, rfl, trivial⟩ (by (repeat' constructor)) (by (repeat' constructor)) ?_
 intro k hk
 refine G.seq (G.region (G.q (Quiet.int rfl rfl rfl) rfl (G.nil (G.then_n (G.seq ?_)))))
 refine G.condD rfl (fun h12 => ?_) (fun h12 => ?_)
 ·have hk2 : k < δ.pend.length := by omega
  have hfb := fate0 how hb k
  obtain ⟨w0, w1, w2, o, w3, w4⟩ := Dk.pend_at hok0 hk2
  have hie : δ.pend.getD k 0 = δ.pend[k] := by simp [hk2]
  generalize hi : δ.pend.getD k 0 = i at w0 w1 w2 w3 hie
  refine G.slShape (v := .slice al _ cl) (by (repeat' constructor)) (by omega) fun bl cl' e ml _ => ?_
  simp only [Value.slice.injEq, true_and] at e
  obtain ⟨rfl, rfl⟩ := e
  refine G.skip (G.then_n (G.seq (G.block (G.seq (G.region (G.mv rfl rfl ?_))))))
  refine G.q (Quiet.indexAddr rfl rfl el_31 (by omega)) rfl ?_
  refine G.q (Quiet.loadSl (v := vint i) (i := k * 1) rfl ag_3 (by (repeat' constructor)) (by simp [hk2, hie])) rfl ?_
  refine G.ag rfl rfl (G.ag rfl rfl (G.nil (G.then_n (G.seq (G.region (G.ag rfl rfl (G.nil (G.then_n (G.seq ?_)))))))))
  refine G.join (F := F) (ι := Unit) (fun _ => [(0, vptr d), (1, .slice ah how.length ch), (9, .slice (some ⟨bl, 0, none⟩) δ.pend.length cl), (10, vint δ.pend.length), (11, vint k), (4, vint k), (5, vint i), (6, vint (if k < how.length then how.getD k 0 else 0))]) (fun _ => [dkR d (δ.crashTo how k), p, intR (.slice (some ⟨bl, 0, none⟩) δ.pend.length cl) δ.pend]) (fun _ => True) ?_ (fun _ _ => ?_)
  ·refine G.seq (G.region (G.mv rfl rfl (G.mv rfl rfl (G.q (Quiet.slen rfl Tryz.underlying31 rfl) rfl (G.q (Quiet.int rfl rfl rfl) rfl (G.nil (G.then_n ?_)))))))
   refine G.condD rfl (fun h19 => ?_) (fun h19 => ?_)
   ·have hk3 : k < how.length := by omega
    refine G.rdShape (p := p) hr (by (repeat' constructor)) (by omega) fun bh oh e => ?_
    subst e
    refine G.region (G.mv rfl rfl (G.mv rfl rfl ?_))
    refine G.q (Quiet.indexAddr rfl rfl el_31 (by omega)) rfl ?_
    refine G.q (Quiet.loadEl (p := p) (i := k * 1) (v := vint (how.getD k 0)) rfl ag_3 (by (repeat' constructor)) hr (by simp [hk3])) rfl ?_
    refine G.ag rfl rfl (G.nil (G.then_n ?_))
    exact G.meet () trivial ⟨rfl, rfl, rfl, rfl, rfl, rfl, rfl, (by show some (vint _) = some (vint _); rw [if_pos (by omega)]), trivial⟩ (by (repeat' constructor)) (by (repeat' constructor))
   ·refine G.skip (G.then_n ?_)
    exact G.meet () trivial ⟨rfl, rfl, rfl, rfl, rfl, rfl, rfl, (by show some (vint _) = some (vint _); rw [if_neg (by omega)]), trivial⟩ (by (repeat' constructor)) (by (repeat' constructor))
  have hraw : -9223372036854775808 ≤ (if k < how.length then how.getD k 0 else 0) ∧ (if k < how.length then how.getD k 0 else 0) ≤ 9223372036854775807 := by (split; (rename_i hk3; have e : how.getD k 0 = how[k] := (by simp [hk3]); rw [e]; exact hb _ (List.getElem_mem _)); omega)
  refine G.seq ?_
  refine G.join (F := F) (ι := Unit) (fun _ => [(0, vptr d), (1, .slice ah how.length ch), (9, .slice (some ⟨bl, 0, none⟩) δ.pend.length cl), (10, vint δ.pend.length), (11, vint k), (4, vint k), (5, vint i), (6, vint (fateOf how k))]) (fun _ => [dkR d (δ.crashTo how k), p, intR (.slice (some ⟨bl, 0, none⟩) δ.pend.length cl) δ.pend]) (fun _ => True) ?_ (fun _ _ => ?_)
  ·refine G.seq (G.region (G.mv rfl rfl (G.q (Quiet.int rfl rfl rfl) rfl (G.nil (G.then_n ?_)))))
   refine G.condD rfl (fun h25 => ?_) (fun h25 => ?_)
   ·refine G.region (G.mv rfl rfl ?_)
    refine G.q (Quiet.add rfl rfl (by omega)) rfl ?_
    refine G.q (Quiet.neg rfl (by omega)) rfl ?_
    refine G.ag rfl rfl (G.nil (G.then_n ?_))
    exact G.meet () trivial ⟨rfl, rfl, rfl, rfl, rfl, rfl, rfl, (by show some (vint _) = some (vint _); unfold fateOf; dsimp only; rw [if_pos h25]), trivial⟩ (by (repeat' constructor)) (by (repeat' constructor))
   ·refine G.skip (G.then_n ?_)
    exact G.meet () trivial ⟨rfl, rfl, rfl, rfl, rfl, rfl, rfl, (by show some (vint _) = some (vint _); unfold fateOf; dsimp only; rw [if_neg h25]), trivial⟩ (by (repeat' constructor)) (by (repeat' constructor))
  generalize hf : fateOf how k = f at hfb ⊢
  have hok := Dk.crashTo_ok hok0 how k (by omega)
  obtain ⟨so, -, -, -, sn⟩ := δ.crashTo_same how k
  generalize hσ : δ.crashTo how k = σ at hok so sn ⊢
  rw [← so] at w3
  rw [← sn] at w1 w2
  refine G.dkOpen (δ := σ) (by (repeat' constructor)) fun nb ob _ => ?_
  have q3 : (bys o).length = 64 := by simpa using w4
  have q4 := secsC_length hok.sec
  have q5 : σ.now[i.toNat].length = 64 := hok.sec _ (List.getElem_mem w1)
  have qf : f % 3 = 0 ∨ f % 3 = 1 ∨ f % 3 = 2 := by omega
  have qb : 0 ≤ f / 3 % 65 ∧ f / 3 % 65 ≤ 64 := by omega
  have qb2 : (f / 3 % 65).toNat ≤ 64 := by omega
  refine G.seq (G.region (G.mv rfl rfl (G.q (Quiet.nilp rfl) rfl (G.q (Quiet.fieldAddr rfl fo_94_1) rfl ?_))))
  refine G.q (Quiet.ld rfl ag_92) rfl ?_
  refine G.mv rfl rfl ?_
  refine G.q (Quiet.lookupS (m := σ.old) (enc := secV) (KeyLaw.int Tryz.underlying3) w3 rfl rfl Tryz.underlying92 ze_123 (by (repeat' constructor)) rfl) rfl ?_
  refine G.oq (OpSpec.allocA ze_123) ?nx28
  rintro v L' ⟨tb, rfl, rfl⟩
  refine G.oq (OpSpec.storeA rfl rfl ?c30 sz_123 ?c33 ?c31 ?c32) ?nx34
  case c30 => exact bys_cell _
  case c33 => exact q3
  case c31 => rw [q3]; decide
  case c32 => exact nfz0 _ _
  rintro v L' rfl
  refine G.nil ?_
  rw [spl_all (vs := bys o) (by rw [q3]; rfl)]
  refine G.then_n (G.seq (G.region (G.mv rfl rfl ?_)))
  refine G.q (Quiet.remE rfl rfl (by omega) (by omega)) rfl ?_
  refine G.nil (G.then_n (G.block (G.seq (G.region (G.q (Quiet.int rfl rfl rfl) rfl (G.ag rfl rfl (G.nil (G.then_n ?_))))))))
  refine G.condD rfl (fun h37 => ?_) (fun h37 => ?_)
  ·refine G.draw [7] [[0, 1, 2, 3, 4, 5, 6, 7]] mixed (by kernel_rfl) ?_
   refine Phases.go [] (by (repeat' constructor)) ?_
   refine D.kw [1, 2, 3, 6, 7] rfl (Quiet.move rfl) ?_
   refine D.kw [2, 3, 6, 7] rfl (Quiet.nilp rfl) ?_
   refine D.kw [3, 6, 7] rfl (Quiet.fieldAddr rfl fo_94_0) ?_
   refine D.kw [6, 7] rfl (Quiet.ld rfl ag_91) ?_
   refine D.kw [6, 7] rfl (Quiet.move rfl) ?_
   refine D.kw [6, 7] rfl (Quiet.loadAs (vs := bys o) rfl ag_123 (by (repeat' constructor)) (by rw [q3]; decide) (by rw [List.drop_zero]; exact List.take_of_length_le (by rw [q3]; decide))) ?_
   refine D.kw [7] rfl (Quiet.indexAddr rfl rfl el_91 (by omega)) ?_
   refine D.h rfl (by kernel_rfl) (OpSpec.storeA rfl rfl ?c45 sz_123 ?c48 ?c46 ?c47) (by (repeat' constructor)) ?nx49
   case c45 => exact bys_cell _
   case c48 => exact q3
   case c46 => rw [q3, q4]; omega
   case c47 => exact nfz0 _ _
   rintro v L' rfl
   refine D.ph (Phases.fin ?_)
   rw [Nat.zero_add, secsC_set hok.sec w1 w4]
   refine G.blk_n (G.blk_n (G.then_n ?_))
   have hE : δ.crashTo how (k + 1) = σ.crash1 f i := by rw [Dk.crashTo, hσ, hf, hi]
   have hN : σ.now.set i.toNat o = (σ.crash1 f i).now := by simp only [Dk.crash1, w3, Option.getD_some]; rw [if_pos h37]
   refine G.dkFold (nb := nb) (ob := ob) (δ := σ.crash1 f i) (by (repeat' constructor)) (by rw [Dk.crash1_len]; rfl) (by rw [← hN]) rfl (hok.crash1 f w3 w4 w1) ?_
   rw [← hE]
   refine G.region ?_
   refine G.q (Quiet.add rfl rfl (by omega)) rfl ?_
   refine G.mv rfl rfl (G.nil (G.then_n ?_))
   refine G.round (k + 1) (by omega) (by omega) ⟨rfl, rfl, rfl, rfl, rfl, trivial⟩ (by (repeat' constructor)) (by (repeat' constructor))
  ·refine G.seq (G.region (G.q (Quiet.int rfl rfl rfl) rfl (G.ag rfl rfl (G.nil (G.then_n ?_)))))
   refine G.condD rfl (fun h46 => ?_) (fun h46 => ?_)
   ·refine G.seq ?_
    refine G.draw [11] [[0, 1, 2, 3, 4, 5, 6, 7, 8, 9, 10, 11]] mixed (by kernel_rfl) ?_
    refine Phases.go [] (by (repeat' constructor)) ?_
    refine D.kw [11] rfl (Quiet.arrSlice rfl ar_123 (by first | exact rfl | rfl) (by first | exact rfl | rfl) (by omega)) ?_
    refine D.kw [2, 3, 4, 6, 10, 11] rfl (Quiet.move rfl) ?_
    refine D.kw [3, 4, 6, 10, 11] rfl (Quiet.nilp rfl) ?_
    refine D.kw [4, 6, 10, 11] rfl (Quiet.fieldAddr rfl fo_94_0) ?_
    refine D.kw [6, 10, 11] rfl (Quiet.ld rfl ag_91) ?_
    refine D.kw [6, 10, 11] rfl (Quiet.move rfl) ?_
    refine D.kw [10, 11] rfl (Quiet.indexAddr rfl rfl el_91 (by omega)) ?_
    refine D.kw [8, 9, 10, 11] rfl (Quiet.move rfl) ?_
    refine D.kw [9, 10, 11] rfl (Quiet.quoE rfl rfl (by omega) (by omega)) ?_
    refine D.kw [10, 11] rfl (Quiet.remE rfl rfl (by omega) (by omega)) ?_
    refine D.kw [11] rfl (Quiet.arrSlice rfl ar_123 (by first | exact rfl | rfl) (by first | exact rfl | rfl) (by omega)) ?_
    refine D.h rfl (by kernel_rfl) (OpSpec.copy (p := ptc nb (secsC σ.now) 123) (m := (f / 3 % 65).toNat) (ys := bys (σ.now[i.toNat].take (f / 3 % 65).toNat)) rfl rfl rfl el_125 ?hrd63 ?hc64 ?ho65 ?hf66) (by (repeat' constructor)) ?nx67
    case hrd63 => intro h hp; exact rdS_pt hp (secsC_take hok.sec w1 (by simp) (by simp) qb2) (by rw [q4]; show 0 + i.toNat * 64 + 0 * 1 + ((f / 3 % 65).toNat - 0) * 1 ≤ σ.now.length * 64; omega) (by show (f / 3 % 65).toNat - 0 ≤ 64 - 0; omega)
    case hc64 => exact bys_cell _
    case ho65 => rw [q3]; decide
    case hf66 => exact nfz0 _ _
    rintro v L' ⟨rfl, rfl⟩
    refine D.ph (Phases.fin ?_)
    have eo : (bys (σ.now[i.toNat].take (f / 3 % 65).toNat)).take (min (f / 3 % 65).toNat (((64 : Nat) : Int).toNat - Int.toNat 0) * 1) = bys (σ.now[i.toNat].take (f / 3 % 65).toNat) := List.take_of_length_le (by simp; omega)
    have e13 : spl (bys o) (0 + Int.toNat 0 * 1) (bys (σ.now[i.toNat].take (f / 3 % 65).toNat)) = bys (σ.now[i.toNat].take (f / 3 % 65).toNat ++ o.drop (f / 3 % 65).toNat) := by simp [spl, List.map_drop, q5, Nat.min_eq_left qb2]
    have q6 : (σ.now[i.toNat].take (f / 3 % 65).toNat ++ o.drop (f / 3 % 65).toNat).length = 64 := by rw [List.length_append, List.length_take, List.length_drop, q5, w4]; omega
    generalize ho2 : σ.now[i.toNat].take (f / 3 % 65).toNat ++ o.drop (f / 3 % 65).toNat = o2 at e13 q6
    have q7 : (bys o2).length = 64 := by simpa using q6
    rw [eo, e13]
    refine G.then_n ?_
    refine G.draw [7] [[0, 1, 2, 3, 4, 5, 6, 7]] mixed (by kernel_rfl) ?_
    refine Phases.go [] (by (repeat' constructor)) ?_
    refine D.kw [1, 2, 3, 6, 7] rfl (Quiet.move rfl) ?_
    refine D.kw [2, 3, 6, 7] rfl (Quiet.nilp rfl) ?_
    refine D.kw [3, 6, 7] rfl (Quiet.fieldAddr rfl fo_94_0) ?_
    refine D.kw [6, 7] rfl (Quiet.ld rfl ag_91) ?_
    refine D.kw [6, 7] rfl (Quiet.move rfl) ?_
    refine D.kw [6, 7] rfl (Quiet.loadAs (vs := bys o2) rfl ag_123 (by (repeat' constructor)) (by rw [q7]; decide) (by rw [List.drop_zero]; exact List.take_of_length_le (by rw [q7]; decide))) ?_
    refine D.kw [7] rfl (Quiet.indexAddr rfl rfl el_91 (by omega)) ?_
    refine D.h rfl (by kernel_rfl) (OpSpec.storeA rfl rfl ?c76 sz_123 ?c79 ?c77 ?c78) (by (repeat' constructor)) ?nx80
    case c76 => exact bys_cell _
    case c79 => exact q7
    case c77 => rw [q7, q4]; omega
    case c78 => exact nfz0 _ _
    rintro v L' rfl
    refine D.ph (Phases.fin ?_)
    rw [Nat.zero_add, secsC_set hok.sec w1 q6]
    refine G.blk_n (G.blk_n (G.then_n ?_))
    have hE : δ.crashTo how (k + 1) = σ.crash1 f i := by rw [Dk.crashTo, hσ, hf, hi]
    have hN : σ.now.set i.toNat o2 = (σ.crash1 f i).now := by simp only [Dk.crash1, w3, Option.getD_some]; rw [if_neg h37, if_pos h46, ← ho2]; simp [w1]
    refine G.dkFold (nb := nb) (ob := ob) (δ := σ.crash1 f i) (by (repeat' constructor)) (by rw [Dk.crash1_len]; rfl) (by rw [← hN]) rfl (hok.crash1 f w3 w4 w1) ?_
    rw [← hE]
    refine G.region ?_
    refine G.q (Quiet.add rfl rfl (by omega)) rfl ?_
    refine G.mv rfl rfl (G.nil (G.then_n ?_))
    refine G.round (k + 1) (by omega) (by omega) ⟨rfl, rfl, rfl, rfl, rfl, trivial⟩ (by (repeat' constructor)) (by (repeat' constructor))
   ·refine G.skip (G.blk_n (G.blk_n (G.then_n ?_)))
    have hE : δ.crashTo how (k + 1) = σ.crash1 f i := by rw [Dk.crashTo, hσ, hf, hi]
    have hN : σ.now = (σ.crash1 f i).now := by simp only [Dk.crash1, w3, Option.getD_some]; rw [if_neg h37, if_neg h46]
    refine G.dkFold (nb := nb) (ob := ob) (δ := σ.crash1 f i) (by (repeat' constructor)) (by rw [Dk.crash1_len]; rfl) (by rw [← hN]) rfl (hok.crash1 f w3 w4 w1) ?_
    rw [← hE]
    refine G.region ?_
    refine G.q (Quiet.add rfl rfl (by omega)) rfl ?_
    refine G.mv rfl rfl (G.nil (G.then_n ?_))
    refine G.round (k + 1) (by omega) (by omega) ⟨rfl, rfl, rfl, rfl, rfl, trivial⟩ (by (repeat' constructor)) (by (repeat' constructor))
 ·have hk2 : k = δ.pend.length := by omega
  subst hk2
  refine G.dkOpen (δ := δ.crashTo how δ.pend.length) (by (repeat' constructor)) fun nb ob hok => ?_
  refine G.exit (G.then_e (G.then_e (G.blk_e (G.then_n (G.seq (G.region (G.mv rfl rfl (G.q (Quiet.nilp rfl) rfl (G.q (Quiet.fieldAddr rfl fo_94_1) rfl ?_)))))))))
  refine G.q (Quiet.ld rfl ag_92) rfl ?_
  refine G.oq (OpSpec.mapClear rfl rfl Tryz.underlying92) ?nx87
  rintro v L' rfl
  refine G.nil (G.then_n (G.region (G.mv rfl rfl (G.mv rfl rfl (G.q (Quiet.nilp rfl) rfl (G.q (Quiet.fieldAddr rfl fo_94_4) rfl ?_))))))
  refine G.oq (OpSpec.store rfl rfl rfl sz_4 ?c92 ?c93) ?nx94
  case c92 => first | decide | (simp; omega) | simp
  case c93 => exact nfz0 _ _
  rintro v L' rfl
  refine G.q (Quiet.nilp rfl) rfl (G.q (Quiet.fieldAddr rfl fo_94_3) rfl ?_)
  refine G.oq (OpSpec.store rfl rfl rfl sz_3 ?c97 ?c98) ?nx99
  case c97 => first | decide | (simp; omega) | simp
  case c98 => exact nfz0 _ _
  rintro v L' rfl
  refine G.nil (G.done_n ?_)
  refine G.dkFold (δ := δ.crash how) (by (repeat' constructor)) rfl rfl rfl (hok0.crashed how) ?_
  exact G.dn (l := []) rfl rfl ⟨rfl, rfl⟩

theorem new_spec (n : Int) : Fn Tryz.prog 11 #[vint n] [] fun v L => ((n < 16 ∨ 32768 < n) ∧ v = .tuple #[.pointer none, vint 1] ∧ L = []) ∨ ((16 ≤ n ∧ n ≤ 32768) ∧ ∃ x, v = .tuple #[vptr x, vint 0] ∧ L = [dkR x (Dk.new n)]) := by
 refine Fn.intro (vs := [vint n]) Tryz.func11 rfl rfl ?_
 intro F W
 refine G.seq (G.region (G.ag rfl rfl (G.ag rfl rfl (G.nil (G.then_n (G.seq (G.seq (G.region (G.mv rfl rfl (G.q (Quiet.int rfl rfl rfl) rfl (G.mv rfl rfl ?_)))))))))))
 refine G.dec (t := 6) rfl (fun h1_6 => ?_) (fun h1_6 => ?_)
 ·refine G.kDT (t := 5) rfl h1_6 (G.gskip (t := 6) rfl rfl rfl rfl (G.gskip (t := 6) rfl rfl rfl rfl (G.q (Quiet.pickT rfl rfl) rfl (G.nil (G.then_n (G.condT rfl (G.seq (G.region (G.ag rfl rfl (G.ag rfl rfl (G.nil (G.then_n (G.ret (G.then_r ?_))))))))))))))
  exact G.dn (l := [.tmp 2, .tmp 3]) rfl rfl (.inl ⟨by omega, rfl, rfl⟩)
 ·refine G.kDF (t := 5) rfl h1_6 (G.grun (t := 6) rfl rfl rfl (G.mv rfl rfl (G.grun (t := 6) rfl rfl rfl (G.q (Quiet.int rfl rfl rfl) rfl (G.q (Quiet.pickF rfl rfl) rfl (G.nil (G.then_n ?_)))))))
  refine G.condD rfl (fun h9 => ?_) (fun h9 => ?_)
  ·refine G.seq (G.region (G.ag rfl rfl (G.ag rfl rfl (G.nil (G.then_n (G.ret (G.then_r ?_)))))))
   exact G.dn (l := [.tmp 2, .tmp 3]) rfl rfl (.inl ⟨by omega, rfl, rfl⟩)
  ·obtain ⟨hn1, hn2⟩ : 16 ≤ n ∧ n ≤ 32768 := by omega
   refine G.skip (G.then_n (G.seq (G.region (G.mv rfl rfl ?_))))
   refine G.oq (OpSpec.make rfl rfl el_91 ze_123 rfl ⟨by simp, by simp; rfl⟩ ?c13) ?nx14
   case c13 => omega
   rintro v L' ⟨nb, rfl, rfl⟩
   refine G.oq (OpSpec.makeMap Tryz.underlying92) ?nx16
   rintro v L' ⟨ob, rfl, rfl⟩
   refine G.q (Quiet.build (us := [(0, _), (1, _)]) fl_94 ze_94 rfl rfl (by simp [isCell])) rfl ?_
   refine G.oq (OpSpec.box rfl) ?nx19
   rintro v L' ⟨x, rfl, rfl⟩
   refine G.ag rfl rfl (G.ag rfl rfl (G.nil (G.then_n (G.ret ?_))))
   refine G.fold (p := mapR ob []) (.cons (p := pt ob (.map #[] 0)) (by (repeat' constructor)) .nil) (fun h hp => mapR_new (sep_pt hp)) ?_
   refine G.dkFold (nb := nb) (ob := ob) (δ := Dk.new n) (by (repeat' constructor)) (by simp [Dk.new]; rfl) (secsC_new _).symm rfl (Dk.new_ok (by omega)) ?_
   exact G.dn (l := [.tmp 2, .tmp 3]) rfl rfl (.inr ⟨⟨hn1, hn2⟩, x, rfl, rfl⟩)

end Go.Proofs.YtidjhgbdokcphaaGreat

/- Own work, by program: the first example of law 09: walked. -/
namespace Go.Proofs.YtidjhgbdokcphaaGreat
open Go
theorem la_fmt : (lgFormat (Dk.new 64)).2 = some (lgF2 (Dk.new 64)).2.1 := by
  obtain ⟨ω, h, -⟩ := format_lwell (n := 64) (by decide)
  rw [h, lgFormat_some h]
theorem awake9_spec : Fn Tryz.prog 10 #[] [] fun v L => v = .bool true ∧ L = [] := by
 refine Fn.intro (vs := []) Tryz.func10 rfl rfl ?_
 intro F W
 obtain ⟨h0, h1, h2, h3, h4, h5, hsy, hf3, hf4⟩ := la_chain
 obtain ⟨ω, Λ, hO⟩ := la_opened
 have hok := la_ok
 simp only [Prod.mk.injEq] at hok
 obtain ⟨e1, e2, e3, e4, e5⟩ := hok
 refine G.add (p := anyP) (fun _ => trivial) ?_
 refine G.add (slR_nil 3 1) ?_
 refine G.seq (G.region (G.ag rfl rfl (G.nil (G.then_n (G.seq (G.region ?_))))))
 refine G.oq (OpSpec.call Tryz.func11 rfl rfl (vs := [_]) rfl (new_spec 64)) ?nx2
 rintro v L' (⟨h, -, -⟩ | ⟨-, d, rfl, rfl⟩); · omega
 refine G.mv rfl rfl (G.q (Quiet.extract rfl rfl) rfl (G.q (Quiet.extract rfl rfl) rfl (G.ag rfl rfl (G.ag rfl rfl (G.nil (G.then_n (G.seq (G.region (G.mv rfl rfl ?_)))))))))
 refine G.oq (OpSpec.call Tryz.func12 rfl rfl (vs := [_]) rfl (lformat_spec d (Dk.new 64) (by decide) (hf3.i (by decide)) (hf4.i (by decide)))) ?nx6
 rintro v L' (⟨h, -, -⟩ | ⟨ω0, g, x, hw0, rfl, rfl⟩); · rw [la_fmt] at h; cases h
 obtain rfl := lgFormat_some hw0
 rw [show lg0 = la0.Λ from rfl, show (lgF2 (Dk.new 64)).2.1 = la0.ω from rfl, show (lgFormat (Dk.new 64)).1 = la0.δ from rfl]
 refine G.mv rfl rfl (G.q (Quiet.extract rfl rfl) rfl (G.q (Quiet.extract rfl rfl) rfl (G.ag rfl rfl (G.ag rfl rfl (G.nil (G.then_n (G.seq (G.seq (G.region (G.mv rfl rfl (G.q (Quiet.ptreq rfl rfl Tryz.underlying28) rfl (G.mv rfl rfl (G.grun (t := 25) rfl rfl rfl (G.mv rfl rfl (G.grun (t := 25) rfl rfl rfl ?_)))))))))))))))
 refine G.q (Quiet.as (v' := .bool false) (by rfl) (Quiet.int rfl rfl rfl)) rfl ?_
 refine G.q (Quiet.pickF rfl rfl) rfl (G.mv rfl rfl (G.grun (t := 29) rfl rfl rfl (G.mv rfl rfl (G.grun (t := 29) rfl rfl rfl ?_))))
 refine G.q (Quiet.as (v' := .bool false) (by rfl) (Quiet.int rfl rfl rfl)) rfl ?_
 refine G.q (Quiet.pickF rfl rfl) rfl (G.nil (G.then_n (G.condF rfl (G.skip (G.then_n (G.seq (G.region (G.mv rfl rfl ?_))))))))
 refine G.oq (OpSpec.call Tryz.func39 rfl rfl (vs := [_, _]) rfl (laccept_spec g x d la0.δ la0.ω la0.Λ 3 (h0.well.i (by decide)))) ?nx13
 rintro v L' ⟨rfl, rfl⟩; rw [show lgAccept ⟨la0.δ, la0.ω, la0.Λ⟩ 3 = la1 from rfl]
 refine G.ag rfl rfl (G.nil (G.then_n (G.seq (G.region (G.mv rfl rfl ?_)))))
 refine G.q (Quiet.to (v' := .agg (enC (awe 4294967297)).toArray) (Quiet.buildN (pl := [(0, 1), (1, 1), (2, 1), (3, 8)]) (us := [(0, _)]) (cells := enC (awe 4294967297)) Tryz.underlying38 (by kernel_rfl) ze_38 rfl rfl) rfl) rfl ?_
 refine G.oq (OpSpec.call Tryz.func13 rfl rfl (vs := [_, _]) rfl (lappend_spec g x d la1.1.δ la1.1.ω la1.1.Λ (awe 4294967297) anyP (awe_X (by decide)) (h1.well.i (by decide)) h1.w.i)) ?nx16
 rintro v L' ⟨rfl, rfl⟩; rw [show lgAppend ⟨la1.1.δ, la1.1.ω, la1.1.Λ⟩ (awe 4294967297) = la2 from rfl]
 refine G.ag rfl rfl (G.nil (G.then_n (G.seq (G.region (G.mv rfl rfl ?_)))))
 refine G.q (Quiet.to (v' := .agg (enC (awe 4294967298)).toArray) (Quiet.buildN (pl := [(0, 1), (1, 1), (2, 1), (3, 8)]) (us := [(0, _)]) (cells := enC (awe 4294967298)) Tryz.underlying38 (by kernel_rfl) ze_38 rfl rfl) rfl) rfl ?_
 refine G.oq (OpSpec.call Tryz.func13 rfl rfl (vs := [_, _]) rfl (lappend_spec g x d la2.1.δ la2.1.ω la2.1.Λ (awe 4294967298) anyP (awe_X (by decide)) (h2.well.i (by decide)) h2.w.i)) ?nx19
 rintro v L' ⟨rfl, rfl⟩; rw [show lgAppend ⟨la2.1.δ, la2.1.ω, la2.1.Λ⟩ (awe 4294967298) = la3 from rfl]
 refine G.ag rfl rfl (G.nil (G.then_n (G.seq (G.region (G.mv rfl rfl ?_)))))
 refine G.oq (OpSpec.call Tryz.func43 rfl rfl (vs := [_, _]) rfl (ladopt_spec g x d la3.1.δ la3.1.ω la3.1.Λ 1 (h3.well.i (by decide)) hsy)) ?nx21
 rintro v L' ⟨rfl, rfl⟩; rw [show lgAdopt ⟨la3.1.δ, la3.1.ω, la3.1.Λ⟩ 1 = la4 from rfl]
 refine G.ag rfl rfl (G.nil (G.then_n (G.seq (G.region (G.mv rfl rfl ?_)))))
 refine G.q (Quiet.to (v' := .agg (enC (awe 12884901889)).toArray) (Quiet.buildN (pl := [(0, 1), (1, 1), (2, 1), (3, 8)]) (us := [(0, _)]) (cells := enC (awe 12884901889)) Tryz.underlying38 (by kernel_rfl) ze_38 rfl rfl) rfl) rfl ?_
 refine G.oq (OpSpec.call Tryz.func13 rfl rfl (vs := [_, _]) rfl (lappend_spec g x d la4.1.δ la4.1.ω la4.1.Λ (awe 12884901889) anyP (awe_X (by decide)) (h4.well.i (by decide)) h4.w.i)) ?nx24
 rintro v L' ⟨rfl, rfl⟩; rw [show lgAppend ⟨la4.1.δ, la4.1.ω, la4.1.Λ⟩ (awe 12884901889) = la5 from rfl]
 refine G.ag rfl rfl (G.nil (G.then_n (G.seq (G.region (G.mv rfl rfl ?_)))))
 refine G.oq (OpSpec.call Tryz.func29 rfl rfl (vs := [_, _]) rfl (crash_spec d la5.1.δ (.slice none 0 0) [] (slR 3 1 (.slice none 0 0) 0 []) (fun h hp => slR_rd hp) (fun z hz => by cases hz))) ?nx26
 rintro v L' ⟨rfl, rfl⟩; rw [la_crash]
 refine G.nil (G.then_n (G.seq ?_))
 refine G.dkOk (by (repeat' constructor)) fun hok6 => ?_
 refine G.region (G.mv rfl rfl ?_)
 refine G.oq (OpSpec.call Tryz.func18 rfl rfl (vs := [_]) rfl (lopen_spec d la6 (by rw [la_len]; decide) hok6 (fun ω1 h1 => by rw [hO.w] at h1; cases h1; exact ⟨hO.doubt, by rw [hO.few]; decide, fun s hs => by have := hO.each s hs; omega⟩))) ?nx28
 rintro v L' (⟨h, -, -⟩ | ⟨-, h, -, -⟩ | ⟨-, ω1, h1, ⟨h, -, -⟩ | ⟨Λ1, m, y, hl1, rfl, rfl⟩⟩); · rw [la_dead] at h; cases h
 · rw [hO.w] at h; cases h
 · rw [hO.w] at h1; cases h1; rw [hO.l] at h; cases h
 rw [hO.w] at h1; cases h1; rw [hO.l] at hl1; cases hl1
 refine G.mv rfl rfl (G.q (Quiet.extract rfl rfl) rfl (G.q (Quiet.extract rfl rfl) rfl (G.ag rfl rfl (G.ag rfl rfl (G.nil (G.then_n (G.seq (G.seq (G.region (G.mv rfl rfl (G.q (Quiet.ptreq rfl rfl Tryz.underlying28) rfl (G.nil (G.then_n (G.condF rfl (G.skip (G.then_n (G.seq (G.region (G.mv rfl rfl ?_)))))))))))))))))))
 refine G.oq (OpSpec.call Tryz.func15 rfl rfl (vs := [_]) rfl (lmarks_spec m y Λ hO.li)) ?nx33
 rintro v L' ⟨am, cm, rfl, rfl⟩; rw [hO.marks]
 refine G.ag rfl rfl (G.nil (G.then_n (G.seq ?_)))
 refine G.slShape (v := .slice am _ cm) (xs := ints [4294967298]) (by (repeat' constructor)) (by decide) fun bm cm' em mbm _ => ?_
 simp only [Value.slice.injEq, true_and] at em
 obtain ⟨rfl, rfl⟩ := em
 refine G.region (G.mv rfl rfl ?_)
 refine G.q (Quiet.as (v' := .bool true) (by exact congrArg Value.bool (decide_eq_true e1)) (Quiet.int rfl rfl rfl)) rfl ?_
 refine G.mv rfl rfl (G.grun (t := 59) rfl rfl rfl (G.mv rfl rfl (G.grun (t := 59) rfl rfl rfl ?_)))
 refine G.q (Quiet.as (v' := .bool true) (by exact congrArg Value.bool (decide_eq_true e2)) (Quiet.int rfl rfl rfl)) rfl ?_
 refine G.q (Quiet.pickT rfl rfl) rfl (G.mv rfl rfl (G.grun (t := 63) rfl rfl rfl (G.mv rfl rfl (G.grun (t := 63) rfl rfl rfl ?_))))
 refine G.q (Quiet.as (v' := .bool true) (by exact congrArg Value.bool (decide_eq_true e3)) (Quiet.int rfl rfl rfl)) rfl ?_
 refine G.q (Quiet.pickT rfl rfl) rfl (G.mv rfl rfl (G.grun (t := 67) rfl rfl rfl (G.mv rfl rfl (G.grun (t := 67) rfl rfl rfl ?_))))
 refine G.q (Quiet.as (v' := .bool true) (by exact congrArg Value.bool (decide_eq_true e4)) (Quiet.int rfl rfl rfl)) rfl ?_
 refine G.q (Quiet.pickT rfl rfl) rfl (G.mv rfl rfl (G.grun (t := 71) rfl rfl rfl (G.mv rfl rfl (G.grun (t := 71) rfl rfl rfl ?_))))
 refine G.q (Quiet.as (v' := .bool true) (by exact congrArg Value.bool (decide_eq_true e5)) (Quiet.int rfl rfl rfl)) rfl ?_
 refine G.q (Quiet.pickT rfl rfl) rfl (G.mv rfl rfl (G.grun (t := 75) rfl rfl rfl (G.mv rfl rfl (G.grun (t := 75) rfl rfl rfl ?_))))
 refine G.q (Quiet.as (v' := .bool true) (by rfl) (Quiet.int rfl rfl rfl)) rfl ?_
 refine G.q (Quiet.pickT rfl rfl) rfl (G.ag rfl rfl (G.nil (G.then_n (G.seq (G.region (G.mv rfl rfl (G.mv rfl rfl (G.grun (t := 80) rfl rfl rfl (G.mv rfl rfl (G.grun (t := 80) rfl rfl rfl ?_))))))))))
 refine G.oq (OpSpec.call Tryz.func17 rfl rfl (vs := [_]) rfl (llast_spec m y Λ hO.li)) ?nx41
 rintro v L' ⟨rfl, rfl⟩
 refine G.grun (t := 80) rfl rfl rfl ?_
 refine G.q (Quiet.as (v' := .bool true) (by exact congrArg Value.bool (decide_eq_true hO.last)) (Quiet.int rfl rfl rfl)) rfl ?_
 refine G.q (Quiet.pickT rfl rfl) rfl (G.mv rfl rfl (G.grun (t := 85) rfl rfl rfl (G.mv rfl rfl (G.grun (t := 85) rfl rfl rfl (G.q (Quiet.nilp rfl) rfl (G.grun (t := 85) rfl rfl rfl (G.q (Quiet.fieldAddr rfl fo_79_0) rfl (G.grun (t := 85) rfl rfl rfl ?_))))))))
 refine G.oq (OpSpec.call Tryz.func33 rfl rfl (vs := [_]) rfl (lacc_spec m y Λ)) ?nx46
 rintro v L' ⟨rfl, rfl⟩
 refine G.grun (t := 85) rfl rfl rfl ?_
 refine G.q (Quiet.as (v' := .bool true) (by exact congrArg Value.bool (decide_eq_true hO.acc)) (Quiet.int rfl rfl rfl)) rfl ?_
 refine G.q (Quiet.pickT rfl rfl) rfl (G.mv rfl rfl (G.grun (t := 92) rfl rfl rfl (G.mv rfl rfl (G.grun (t := 92) rfl rfl rfl (G.q (Quiet.nilp rfl) rfl (G.grun (t := 92) rfl rfl rfl (G.q (Quiet.fieldAddr rfl fo_79_0) rfl (G.grun (t := 92) rfl rfl rfl ?_))))))))
 refine G.oq (OpSpec.call Tryz.func34 rfl rfl (vs := [_]) rfl (lcur_spec m y Λ)) ?nx51
 rintro v L' ⟨rfl, rfl⟩
 refine G.grun (t := 92) rfl rfl rfl ?_
 refine G.q (Quiet.as (v' := .bool true) (by exact congrArg Value.bool (decide_eq_true hO.cur)) (Quiet.int rfl rfl rfl)) rfl ?_
 refine G.q (Quiet.pickT rfl rfl) rfl (G.mv rfl rfl (G.grun (t := 99) rfl rfl rfl (G.mv rfl rfl (G.grun (t := 99) rfl rfl rfl (G.q (Quiet.slen rfl Tryz.underlying31 rfl) rfl (G.grun (t := 99) rfl rfl rfl ?_))))))
 refine G.q (Quiet.as (v' := .bool true) (by rfl) (Quiet.int rfl rfl rfl)) rfl ?_
 refine G.q (Quiet.pickT rfl rfl) rfl (G.mv rfl rfl (G.grun (t := 104) rfl rfl rfl (G.mv rfl rfl (G.grun (t := 104) rfl rfl rfl ?_))))
 refine G.q (Quiet.indexAddr rfl rfl el_31 (by exact ⟨by decide, by decide⟩)) rfl ?_
 refine G.grun (t := 104) rfl rfl rfl ?_
 refine G.q (Quiet.loadEl (p := intR (.slice (some ⟨bm, 0, none⟩) ([4294967298] : List Int).length cm) [4294967298]) (i := 0) (v := vint 4294967298) rfl ag_3 (by (repeat' constructor)) (fun h hp => slR_rd hp) rfl) rfl ?_
 refine G.grun (t := 104) rfl rfl rfl ?_
 refine G.q (Quiet.as (v' := .bool true) (by rfl) (Quiet.int rfl rfl rfl)) rfl ?_
 refine G.q (Quiet.pickT rfl rfl) rfl (G.mv rfl rfl (G.grun (t := 110) rfl rfl rfl (G.mv rfl rfl (G.grun (t := 110) rfl rfl rfl ?_))))
 refine G.oq (OpSpec.call Tryz.func43 rfl rfl (vs := [_, _]) rfl (ladopt_spec m y d la6 ω Λ 4 hO.i (by rw [sync_done hO.live hO.doubt hO.synced]; exact hO.i))) ?nx59
 rintro v L' ⟨rfl, rfl⟩; rw [show (lgAdopt ⟨la6, ω, Λ⟩ 4).2 = 82 by unfold lgAdopt; dsimp only; rw [if_neg (by rw [hO.live]; decide), if_pos (.inr (by rw [hO.acc]; decide))]]
 refine G.grun (t := 110) rfl rfl rfl ?_
 refine G.q (Quiet.as (v' := .bool true) (by rfl) (Quiet.int rfl rfl rfl)) rfl ?_
 refine G.q (Quiet.pickT rfl rfl) rfl (G.ag rfl rfl (G.nil (G.then_n (G.ret ?_))))
 exact G.dn (l := [.tmp 0]) rfl rfl ⟨rfl, rfl⟩

end Go.Proofs.YtidjhgbdokcphaaGreat

/- Own work: LedgerMarks, plain: the marks of entries; entries behind a number. -/

namespace Go.Proofs.YtidjhgbdokcphaaGreat
open Go

theorem fm_cell {α : Type} {f : α → List Value} {sz k : Nat} {l : List α} {i : Nat} (hf : ∀ x ∈ l, (f x).length = sz) (hi : i < l.length) (hk : k < sz) : (l.flatMap f)[i * sz + k]? = (f l[i])[k]? := by
  have h := flatMap_at hf hi
  rw [← h, List.getElem?_take, if_pos hk, List.getElem?_drop]
end Go.Proofs.YtidjhgbdokcphaaGreat

/- Own work: the document's writer: numbers of 64 bits; cells of lists. -/

namespace Go.Proofs.YtidjhgbdokcphaaGreat
open Go
section
variable {P : Program} {E : Env} {L : List HP} {ty : TypeId}
theorem Quiet.quoU {t t' : TypeId} {x y : Operand} {a b : Int} (hx : ev E x = some (.int .u64 a)) (hy : ev E y = some (.int .u64 b)) (h0 : 0 ≤ a ∧ a < 18446744073709551616) (hb : 0 < b) :
    Quiet P ⟨none, .binOp .quo t x y t', ty, "", #[], none⟩ E L (.int .u64 (a / b)) := by
  intro ρ w ha _
  have e : a.tdiv b = a / b := Int.tdiv_eq_ediv_of_nonneg h0.1
  have h1 : a / b ≤ a := Int.ediv_le_self b h0.1
  have h2 : 0 ≤ a / b := Int.ediv_nonneg h0.1 (by omega)
  have hw : IntKind.u64.wrap (a / b) = a / b := by rw [u64wrap]; omega
  simp [execOp, ha x _ hx, ha y _ hy, eqGuard, binOp, Op.intDiv, Bind.bind, Sem.bind, Pure.pure, Sem.run, show b ≠ 0 by omega, e, hw]
theorem Quiet.remU {t t' : TypeId} {x y : Operand} {a b : Int} (hx : ev E x = some (.int .u64 a)) (hy : ev E y = some (.int .u64 b)) (h0 : 0 ≤ a) (hb : 0 < b) :
    Quiet P ⟨none, .binOp .rem t x y t', ty, "", #[], none⟩ E L (.int .u64 (a % b)) := by
  intro ρ w ha _
  have e : a.tmod b = a % b := Int.tmod_eq_emod_of_nonneg h0
  simp [execOp, ha x _ hx, ha y _ hy, eqGuard, binOp, Op.intDiv, Bind.bind, Sem.bind, Pure.pure, Sem.run, show b ≠ 0 by omega, e]
end
theorem ac_cell {l : List Ac} {i k : Nat} (hi : i < l.length) (hk : k < 2) : (l.flatMap acC)[i * 2 + k]? = (acC l[i])[k]? := fm_cell (f := acC) (sz := 2) (fun _ _ => rfl) hi hk
theorem nums_len {ns : List Int} (h : ∀ n ∈ ns, I64 n) : (ns.flatMap numB).length ≤ ns.length * 10 := by
  induction ns with
  | nil => simp
  | cons n ns ih =>
    have h1 := ih (fun x hx => h x (List.mem_cons_of_mem _ hx))
    have h2 := numB_len (h n (List.mem_cons_self ..))
    rw [List.flatMap_cons, List.length_append, List.length_cons]; omega
end Go.Proofs.YtidjhgbdokcphaaGreat

/- Own work, by program: the document's writer: walked. -/

namespace Go.Proofs.YtidjhgbdokcphaaGreat
open Go
theorem r1zig_spec (n : Int) (hn : I64 n) : Fn Tryz.prog 196 #[vint n] [] fun v L => v = .int .u64 (zigZ n : Nat) ∧ L = [] := by
 refine Fn.intro (vs := [vint n]) Tryz.func196 rfl rfl ?_
 intro F W
 refine G.seq (G.region (G.ag rfl rfl (G.nil (G.then_n (G.seq (G.seq (G.region (G.mv rfl rfl (G.q (Quiet.int rfl rfl rfl) rfl (G.nil (G.then_n ?_)))))))))))
 refine G.condD rfl (fun h4 => ?_) (fun h4 => ?_)
 ·refine G.seq (G.region (G.mv rfl rfl (G.q (Quiet.conv rfl Tryz.underlying3 Tryz.underlying190) rfl ?_)))
  refine G.q (Quiet.as (v' := .int .u64 (zigZ n : Nat)) (by exact congrArg (Value.int .u64) (by rw [u64wrap, u64wrap]; unfold zigZ; rw [if_pos (by omega)]; omega)) (Quiet.int rfl rfl rfl)) rfl ?_
  refine G.ag rfl rfl (G.nil (G.then_n (G.ret (G.then_r ?_))))
  exact G.dn (l := [.tmp 2]) rfl rfl ⟨rfl, rfl⟩
 ·refine G.skip (G.then_n (G.seq (G.region (G.mv rfl rfl ?_))))
  refine G.q (Quiet.add rfl rfl (by omega)) rfl ?_
  refine G.q (Quiet.neg rfl (by omega)) rfl ?_
  refine G.q (Quiet.conv rfl Tryz.underlying3 Tryz.underlying190) rfl (G.q (Quiet.int rfl rfl rfl) rfl ?_)
  refine G.q (Quiet.as (v' := .int .u64 (zigZ n : Nat)) (by exact congrArg (Value.int .u64) (by rw [u64wrap, u64wrap, u64wrap]; unfold zigZ; rw [if_neg (by omega)]; omega)) (Quiet.int rfl rfl rfl)) rfl ?_
  refine G.ag rfl rfl (G.nil (G.then_n (G.ret ?_)))
  exact G.dn (l := [.tmp 2]) rfl rfl ⟨rfl, rfl⟩

theorem sev_step' {u : Nat} (h : 128 ≤ u) (bs : Bs) : bs ++ [UInt8.ofNat (u % 128 + 128)] ++ sevZ (u / 128) = bs ++ sevZ u := by
  rw [sevZ.eq_1 u, if_neg (by omega), List.append_assoc]; rfl
theorem sev_last' {u : Nat} (h : ¬ 128 ≤ u) : [UInt8.ofNat u] = sevZ u := by
  rw [sevZ.eq_1 u, if_pos (by omega)]
theorem u8_of {u : Nat} (h : u < 256) : Value.int .u8 (IntKind.u8.wrap (u : Int)) = vbyte (UInt8.ofNat u) := by
  have e : IntKind.u8.wrap (u : Int) = (u : Int) := by simp [IntKind.wrap, IntKind.bits, IntKind.signed]; omega
  rw [e]; show Value.int .u8 (u : Int) = .int .u8 ((UInt8.ofNat u).toNat : Int)
  rw [u8_ofNat h]
theorem r1sev_spec (u0 : Nat) (hu : u0 < U64) : Fn Tryz.prog 195 #[.int .u64 u0] [] fun v L => v = vstr (sevZ u0) ∧ L = [] := by
 refine Fn.intro (vs := [.int .u64 u0]) Tryz.func195 rfl rfl ?_
 intro F W
 have hs10 := sev_len10 hu
 have h64 : U64 = 18446744073709551616 := rfl
 refine G.seq (G.region (G.ag rfl rfl (G.nil (G.then_n (G.seq (G.add (slR_nil 5 1) (G.region (G.ag rfl rfl (G.nil (G.then_n (G.seq (G.block ?_))))))))))))
 refine G.loopK (ι := Nat × Value × Bs) (fun q E => (0, .int .u64 q.1) :: (3, q.2.1) :: E) (fun q => [bytR q.2.1 q.2.2]) (fun q => q.1 ≤ u0 ∧ (∃ a c, q.2.1 = .slice a q.2.2.length c) ∧ q.2.2 ++ sevZ q.1 = sevZ u0) (fun q => q.1) (u0, .slice none 0 0, []) (ts := [2]) (.cons rfl (.nil)) (⟨Nat.le_refl _, ⟨none, 0, rfl⟩, rfl⟩) ⟨rfl, rfl, rfl, trivial⟩ (by (repeat' constructor)) ?_
 rintro ⟨u, v, b⟩ ⟨hu0, ⟨av, cv, hv⟩, heq⟩
 dsimp only
 dsimp only at hu0 hv heq
 subst hv
 have hbl := congrArg List.length heq
 rw [List.length_append] at hbl
 have hsl := sev_len u
 refine G.seq (G.seq (G.region (G.mv rfl rfl (G.q (Quiet.int rfl rfl rfl) rfl (G.nil (G.then_n ?_))))))
 refine G.condD rfl (fun h5 => ?_) (fun h5 => ?_)
 ·refine G.skip (G.then_n (G.block (G.seq (G.region (G.mv rfl rfl (G.mv rfl rfl ?_))))))
  refine G.q (Quiet.to (v' := .int .u64 ((u % 128 : Nat) : Int)) (Quiet.remU rfl rfl (by omega) (by decide)) (by rfl)) rfl ?_
  refine G.q (Quiet.int rfl rfl rfl) rfl ?_
  refine G.q (Quiet.as (v' := vbyte (UInt8.ofNat (u % 128 + 128))) (by rw [u64wrap, show (((u % 128 : Nat) : Int) + 128) % 18446744073709551616 = ((u % 128 + 128 : Nat) : Int) by omega]; exact u8_of (by omega)) (Quiet.conv rfl Tryz.underlying190 Tryz.underlying5)) rfl ?_
  refine G.oq (OpSpec.buildSlice1 (vs := [_]) el_125 ze_5 rfl rfl rfl rfl rfl (by decide)) ?nx10
  rintro v L' ⟨b3, rfl, rfl⟩
  refine G.oq (OpSpec.append1 rfl rfl rfl el_125 ze_5 rfl rfl ?c12 ?c13 (Nat.le_refl _) ?c14 (by decide)) ?nx15
  case c12 => (first | (simp [isCell]; done) | (simp [isCell, setAll, Value.cells]; done))
  case c13 => rfl
  case c14 => omega
  rintro v L' ⟨⟨a3, c3, rfl⟩, rfl⟩
  refine G.ag rfl rfl (G.nil (G.then_n (G.region (G.mv rfl rfl ?_))))
  refine G.q (Quiet.to (v' := .int .u64 ((u / 128 : Nat) : Int)) (Quiet.quoU rfl rfl (by omega) (by decide)) (by rfl)) rfl ?_
  refine G.ag rfl rfl (G.nil (G.blk_n (G.then_n ?_)))
  refine G.slCast (T := 5) (sz := 1) (m' := (b ++ [(UInt8.ofNat (u % 128 + 128))]).length) (xs' := bysL (b ++ [(UInt8.ofNat (u % 128 + 128))])) (by (repeat' constructor)) (by simp) (by simp [bysL, Value.cells]) ?_
  exact G.roundK ((u / 128, .slice a3 (b.length + 1) c3, b ++ [(UInt8.ofNat (u % 128 + 128))])) (⟨by dsimp only; omega, ⟨a3, c3, by simp⟩, by dsimp only; rw [sev_step' (by omega)]; exact heq⟩) (by dsimp only; omega) ⟨rfl, rfl, rfl, trivial⟩ (by (repeat' constructor)) (by ((repeat (apply Have.cons; (repeat (first | exact Pick.here | apply Pick.there)))); apply Have.base; repeat' constructor))
 ·refine G.exit (G.then_e (G.then_e (G.blk_e (G.then_n (G.seq (G.region (G.mv rfl rfl (G.mv rfl rfl ?_))))))))
  refine G.q (Quiet.as (v' := vbyte (UInt8.ofNat u)) (by exact u8_of (by omega)) (Quiet.conv rfl Tryz.underlying190 Tryz.underlying5)) rfl ?_
  refine G.oq (OpSpec.buildSlice1 (vs := [_]) el_125 ze_5 rfl rfl rfl rfl rfl (by decide)) ?nx22
  rintro v L' ⟨b5, rfl, rfl⟩
  refine G.oq (OpSpec.append1 rfl rfl rfl el_125 ze_5 rfl rfl ?c24 ?c25 (Nat.le_refl _) ?c26 (by decide)) ?nx27
  case c24 => (first | (simp [isCell]; done) | (simp [isCell, setAll, Value.cells]; done))
  case c25 => rfl
  case c26 => omega
  rintro v L' ⟨⟨a5, c5, rfl⟩, rfl⟩
  refine G.ag rfl rfl (G.nil (G.then_n (G.seq ?_)))
  refine G.slCast (T := 5) (sz := 1) (m' := (b ++ [(UInt8.ofNat u)]).length) (xs' := bysL (b ++ [(UInt8.ofNat u)])) (by (repeat' constructor)) (by simp) (by simp [bysL, Value.cells]) ?_
  have hfin : b ++ [(UInt8.ofNat u)] = sevZ u0 := by rw [sev_last' (by omega)]; exact heq
  refine G.region (G.mv rfl rfl ?_)
  refine G.q (Quiet.bytesBy (cs := b ++ [(UInt8.ofNat u)]) (n := b.length + 1) (p := slR 5 1 (.slice a5 (b.length + 1) c5) (b ++ [(UInt8.ofNat u)]).length (bysL (b ++ [(UInt8.ofNat u)]))) rfl Tryz.underlying125 Tryz.underlying5 Tryz.underlying9 (fun h hp => by rw [show b.length + 1 = (b ++ [(UInt8.ofNat u)]).length by simp] at hp ⊢; exact slR_rd hp) (by (repeat' constructor))) rfl ?_
  refine G.ag rfl rfl (G.nil (G.then_n (G.ret ?_)))
  rw [hfin]
  exact G.dn (l := [.tmp 2]) rfl rfl ⟨rfl, rfl⟩

theorem r1num_spec (n : Int) (hn : I64 n) : Fn Tryz.prog 165 #[vint n] [] fun v L => v = vstr (numB n) ∧ L = [] := by
 refine Fn.intro (vs := [vint n]) Tryz.func165 rfl rfl ?_
 intro F W
 refine G.seq (G.region (G.ag rfl rfl (G.nil (G.then_n (G.seq (G.region (G.mv rfl rfl ?_)))))))
 refine G.oq (OpSpec.call Tryz.func196 rfl rfl (vs := [_]) rfl (r1zig_spec n hn)) ?nx3
 rintro v L' ⟨rfl, rfl⟩
 refine G.oq (OpSpec.call Tryz.func195 rfl rfl (vs := [_]) rfl (r1sev_spec (zigZ n) (zig_lt hn))) ?nx5
 rintro v L' ⟨rfl, rfl⟩
 refine G.ag rfl rfl (G.nil (G.then_n (G.ret ?_)))
 exact G.dn (l := [.tmp 2]) rfl rfl ⟨rfl, rfl⟩

theorem r1cnt_spec (n : Nat) (hn : n ≤ 4294967296) : Fn Tryz.prog 166 #[vint n] [] fun v L => v = vstr (cntB n) ∧ L = [] := by
 refine Fn.intro (vs := [vint n]) Tryz.func166 rfl rfl ?_
 intro F W
 have hz : n < U64 := by unfold U64; omega
 refine G.seq (G.region (G.ag rfl rfl (G.nil (G.then_n (G.seq (G.region (G.mv rfl rfl (G.q (Quiet.max2 rfl rfl) rfl ?_))))))))
 refine G.q (Quiet.as (v' := .int .u64 (n : Nat)) (by exact congrArg (Value.int .u64) (by rw [u64wrap]; omega)) (Quiet.conv rfl Tryz.underlying3 Tryz.underlying190)) rfl ?_
 refine G.oq (OpSpec.call Tryz.func195 rfl rfl (vs := [_]) rfl (r1sev_spec n hz)) ?nx5
 rintro v L' ⟨rfl, rfl⟩
 refine G.ag rfl rfl (G.nil (G.then_n (G.ret ?_)))
 exact G.dn (l := [.tmp 2]) rfl rfl ⟨rfl, rfl⟩

theorem r1txt_spec (s : Bs) (hs : s.length ≤ 4294900000) : Fn Tryz.prog 205 #[vstr s] [] fun v L => v = vstr (txtB s) ∧ L = [] := by
 refine Fn.intro (vs := [vstr s]) Tryz.func205 rfl rfl ?_
 intro F W
 have hc : (cntB s.length).length ≤ 10 := sev_len10 (by unfold U64; omega)
 refine G.seq (G.region (G.ag rfl rfl (G.nil (G.then_n (G.seq (G.region (G.mv rfl rfl (G.q (Quiet.strlen rfl Tryz.underlying9 rfl) rfl ?_))))))))
 refine G.oq (OpSpec.call Tryz.func166 rfl rfl (vs := [_]) rfl (r1cnt_spec s.length (by omega))) ?nx4
 rintro v L' ⟨rfl, rfl⟩
 refine G.mv rfl rfl ?_
 refine G.q (Quiet.concat rfl rfl (by omega)) rfl ?_
 refine G.ag rfl rfl (G.nil (G.then_n (G.ret ?_)))
 exact G.dn (l := [.tmp 2]) rfl rfl ⟨rfl, rfl⟩

theorem r2nums_spec (va : Value) (ns : List Int) (p : HP) (hp : ∀ h : Hp, p h → rdS 1 h va ns.length (ints ns)) (hi : ∀ n ∈ ns, I64 n) (hl : ns.length ≤ 1048576) : Fn Tryz.prog 137 #[va] [p] fun v L => v = vstr (ns.flatMap numB) ∧ L = [p] := by
 refine Fn.intro (vs := [va]) Tryz.func137 rfl rfl ?_
 intro F W
 have hnl := nums_len hi
 refine G.rdAny (p := p) hp (by (repeat' constructor)) fun aa ca e _ => ?_
 subst e
 refine G.seq (G.region (G.ag rfl rfl (G.nil (G.then_n (G.seq (G.region (G.ag rfl rfl (G.nil (G.then_n (G.seq (G.seq (G.region (G.ag rfl rfl (G.nil (G.then_n (G.block ?_))))))))))))))))
 refine G.loopK (ι := Nat × Bs) (fun q E => (4, vint q.1) :: (3, vstr q.2) :: E) (fun q => []) (fun q => q.1 ≤ ns.length ∧ q.2 = (ns.take q.1).flatMap numB) (fun q => ns.length - q.1) (0, []) (ts := [0, 2]) (.cons rfl (.cons rfl (.nil))) (⟨Nat.zero_le _, rfl⟩) ⟨rfl, rfl, rfl, rfl, trivial⟩ (by (repeat' constructor)) ?_
 rintro ⟨i, t⟩ ⟨hj, ht⟩
 dsimp only
 dsimp only at hj ht
 have hft := fm_take numB ns i
 rw [← ht] at hft
 refine G.seq (G.seq (G.region (G.mv rfl rfl (G.mv rfl rfl (G.q (Quiet.slen rfl Tryz.underlying31 rfl) rfl (G.q (Quiet.int rfl rfl rfl) rfl (G.nil (G.then_n ?_))))))))
 refine G.condD rfl (fun h8 => ?_) (fun h8 => ?_)
 ·have hi2 : i < ns.length := by omega
  have h64 := hi _ (List.getElem_mem hi2)
  have hb10 := numB_len h64
  refine G.rdShape (p := p) hp (by (repeat' constructor)) (by omega) fun ba oa e => ?_
  subst e
  refine G.skip (G.then_n (G.seq (G.block (G.region (G.mv rfl rfl (G.mv rfl rfl (G.mv rfl rfl ?_)))))))
  refine G.q (Quiet.indexAddr rfl rfl el_31 (by omega)) rfl ?_
  refine G.q (Quiet.loadEl (p := p) (i := i * 1) (v := vint ns[i]) rfl ag_3 (by (repeat' constructor)) hp (by rw [Nat.mul_one]; simp [ints, hi2])) rfl ?_
  refine G.oq (OpSpec.call Tryz.func165 rfl rfl (vs := [_]) rfl (r1num_spec ns[i] h64)) ?nx13
  rintro v L' ⟨rfl, rfl⟩
  refine G.q (Quiet.concat rfl rfl (by omega)) rfl ?_
  refine G.ag rfl rfl (G.nil (G.blk_n (G.then_n (G.region (G.mv rfl rfl ?_)))))
  refine G.q (Quiet.add rfl rfl (by omega)) rfl ?_
  refine G.ag rfl rfl (G.nil (G.then_n ?_))
  exact G.roundK ((i + 1, t ++ numB ns[i])) (⟨by dsimp only; omega, by dsimp only; rw [fm_step numB hi2, ht]⟩) (by dsimp only; omega) ⟨rfl, rfl, rfl, rfl, trivial⟩ (by (repeat' constructor)) (by ((repeat (apply Have.cons; (repeat (first | exact Pick.here | apply Pick.there)))); apply Have.base; repeat' constructor))
 ·have hie : i = ns.length := by omega
  have hfin : t = ns.flatMap numB := by rw [ht, hie, List.take_length]
  subst hfin
  refine G.exit (G.then_e (G.then_e (G.blk_e (G.then_n (G.seq (G.region (G.mv rfl rfl (G.ag rfl rfl (G.nil (G.then_n (G.ret ?_)))))))))))
  exact G.dn (l := [.tmp 2]) rfl rfl ⟨rfl, rfl⟩

theorem r2acls_spec (va : Value) (l : List Ac) (p : HP) (hp : ∀ h : Hp, p h → rdS 2 h va l.length (l.flatMap acC)) (hi : ∀ a ∈ l, AcI a) (hl : (aclB l).length ≤ 4294900000) (hn : l.length ≤ 1048576) : Fn Tryz.prog 206 #[va] [p] fun v L => v = vstr (aclB l) ∧ L = [p] := by
 refine Fn.intro (vs := [va]) Tryz.func206 rfl rfl ?_
 intro F W
 refine G.rdAny (p := p) hp (by (repeat' constructor)) fun aa ca e _ => ?_
 subst e
 have hll : (aclB l).length = (cntB l.length).length + (l.flatMap acB).length := by unfold aclB; rw [List.length_append]
 refine G.seq (G.region (G.ag rfl rfl (G.nil (G.then_n (G.seq (G.region (G.mv rfl rfl (G.q (Quiet.slen rfl Tryz.underlying33 rfl) rfl ?_))))))))
 refine G.oq (OpSpec.call Tryz.func166 rfl rfl (vs := [_]) rfl (r1cnt_spec l.length (by omega))) ?nx4
 rintro v L' ⟨rfl, rfl⟩
 refine G.ag rfl rfl (G.nil (G.then_n (G.seq (G.seq (G.region (G.ag rfl rfl (G.nil (G.then_n (G.block ?_)))))))))
 refine G.loopK (ι := Nat × Bs) (fun q E => (4, vint q.1) :: (3, vstr q.2) :: E) (fun q => []) (fun q => q.1 ≤ l.length ∧ q.2 = cntB l.length ++ (l.take q.1).flatMap acB) (fun q => l.length - q.1) (0, cntB l.length) (ts := [0, 2]) (.cons rfl (.cons rfl (.nil))) (⟨Nat.zero_le _, by simp⟩) ⟨rfl, rfl, rfl, rfl, trivial⟩ (by (repeat' constructor)) ?_
 rintro ⟨i, t⟩ ⟨hj, ht⟩
 dsimp only
 dsimp only at hj ht
 have htl : t.length = (cntB l.length).length + ((l.take i).flatMap acB).length := by rw [ht, List.length_append]
 refine G.seq (G.seq (G.region (G.mv rfl rfl (G.mv rfl rfl (G.q (Quiet.slen rfl Tryz.underlying33 rfl) rfl (G.q (Quiet.int rfl rfl rfl) rfl (G.nil (G.then_n ?_))))))))
 refine G.condD rfl (fun h11 => ?_) (fun h11 => ?_)
 ·have hi2 : i < l.length := by omega
  have hai := hi _ (List.getElem_mem hi2)
  have hfs := fm_stepL acB hi2
  have hab : (acB l[i]).length = (numB l[i].1).length + (txtB l[i].2).length := by unfold acB; rw [List.length_append]
  have htx : (txtB l[i].2).length = (cntB l[i].2.length).length + l[i].2.length := by unfold txtB; rw [List.length_append]
  have hn64 := hai.n
  refine G.rdShape (p := p) hp (by (repeat' constructor)) (by omega) fun ba oa e => ?_
  subst e
  refine G.skip (G.then_n (G.seq (G.block ?_)))
  refine G.draw [] [[0, 1, 2, 3, 4, 5, 6, 7, 8, 9, 10, 11, 12, 13, 14, 15]] mixed (by kernel_rfl) ?_
  refine Phases.go [p] (by (repeat' constructor)) ?_
  refine D.kw [7, 14, 15] rfl (Quiet.move rfl) ?_
  refine D.kw [3, 4, 5, 6, 7, 13, 14, 15] rfl (Quiet.move rfl) ?_
  refine D.kw [3, 4, 5, 6, 7, 13, 14, 15] rfl (Quiet.move rfl) ?_
  refine D.kw [4, 5, 6, 7, 13, 14, 15] rfl (Quiet.indexAddr rfl rfl el_33 (by omega)) ?_
  refine D.kw [5, 6, 7, 13, 14, 15] rfl (Quiet.fieldAddr rfl fo_210_0) ?_
  refine D.kw [6, 7, 13, 14, 15] rfl (Quiet.loadRd (sz := 2) (j := i * 2 + 0) (p := p) (v := vint l[i].1) rfl ag_3 (by (repeat' constructor)) hp (by simp) ((ac_cell (k := 0) hi2 (by decide)).trans rfl)) ?_
  refine D.m rfl (by kernel_rfl) (OpSpec.call Tryz.func165 rfl rfl (vs := [_]) rfl (r1num_spec l[i].1 ?hn17)) (by (repeat' constructor)) ?nx18
  case hn17 => exact hn64
  refine D.kw [14, 15] rfl (Quiet.concat rfl rfl (by omega)) ?_
  refine D.kw [10, 11, 12, 13, 14, 15] rfl (Quiet.move rfl) ?_
  refine D.kw [10, 11, 12, 13, 14, 15] rfl (Quiet.move rfl) ?_
  refine D.kw [11, 12, 13, 14, 15] rfl (Quiet.indexAddr rfl rfl el_33 (by omega)) ?_
  refine D.kw [12, 13, 14, 15] rfl (Quiet.fieldAddr rfl fo_210_1) ?_
  refine D.kw [13, 14, 15] rfl (Quiet.loadRd (sz := 2) (j := i * 2 + 1) (p := p) (v := vstr l[i].2) rfl ag_9 (by (repeat' constructor)) hp (by simp; omega) ((ac_cell (k := 1) hi2 (by decide)).trans rfl)) ?_
  refine D.m rfl (by kernel_rfl) (OpSpec.call Tryz.func205 rfl rfl (vs := [_]) rfl (r1txt_spec l[i].2 ?hb26)) (by (repeat' constructor)) ?nx27
  case hb26 => omega
  refine D.kw [15] rfl (Quiet.concat rfl rfl (by rw [List.length_append]; omega)) ?_
  refine D.kw [] rfl (Quiet.assign rfl) ?_
  refine D.ph (Phases.fin (G.blk_n (G.then_n (G.region (G.mv rfl rfl ?_)))))
  refine G.q (Quiet.add rfl rfl (by omega)) rfl ?_
  refine G.ag rfl rfl (G.nil (G.then_n ?_))
  exact G.roundK ((i + 1, t ++ numB l[i].1 ++ txtB l[i].2)) (⟨by dsimp only; omega, by dsimp only; rw [fm_step acB hi2, ht]; unfold acB; simp only [List.append_assoc]⟩) (by dsimp only; omega) ⟨rfl, rfl, rfl, rfl, trivial⟩ (by (repeat' constructor)) (by ((repeat (apply Have.cons; (repeat (first | exact Pick.here | apply Pick.there)))); apply Have.base; repeat' constructor))
 ·have hie : i = l.length := by omega
  have hfin : t = aclB l := by rw [ht, hie, List.take_length]; rfl
  subst hfin
  refine G.exit (G.then_e (G.then_e (G.blk_e (G.then_n (G.seq (G.region (G.mv rfl rfl (G.ag rfl rfl (G.nil (G.then_n (G.ret ?_)))))))))))
  exact G.dn (l := [.tmp 2]) rfl rfl ⟨rfl, rfl⟩

theorem r2part_spec (y : Pt) (p : HP) (hy : PtW p y) (hl : (ptB y).length ≤ 4294900000) (hn : y.acl.length ≤ 1048576) : Fn Tryz.prog 179 #[.agg (ptC y).toArray] [p] fun v L => v = vstr (ptB y) ∧ L = [p] := by
 refine Fn.intro (vs := [.agg (ptC y).toArray]) Tryz.func179 rfl rfl ?_
 intro F W
 have hpl := ptB_len y
 have hiy := hy.i
 refine G.seq (G.region ?_)
 refine G.oq (OpSpec.box rfl) ?nx1
 rintro v L' ⟨b1, rfl, rfl⟩
 refine G.ag rfl rfl (G.nil ?_)
 refine G.ptCast (b := b1) (l' := ptC y) (by (repeat' constructor)) (by exact rfl) ?_
 refine G.then_n (G.seq ?_)
 refine G.draw [21, 22] [[0, 1, 2, 3, 4, 5, 6, 7, 8, 9, 10, 11, 12, 13, 14, 15, 16, 17, 18, 19, 20, 21, 22], [23, 24]] mixed (by kernel_rfl) ?_
 refine Phases.go [ptc b1 _ _, p] (by (repeat' constructor)) ?_
 refine D.k rfl (Quiet.fieldAddr rfl fo_36_0) ?_
 refine D.k rfl (Quiet.ld rfl ag_3) ?_
 refine D.m rfl (by kernel_rfl) (OpSpec.call Tryz.func165 rfl rfl (vs := [_]) rfl (r1num_spec y.kind hiy.kind)) (by (repeat' constructor)) ?nx6
 refine D.k rfl (Quiet.fieldAddr rfl fo_36_1) ?_
 refine D.k rfl (Quiet.ld rfl ag_9) ?_
 refine D.m rfl (by kernel_rfl) (OpSpec.call Tryz.func205 rfl rfl (vs := [_]) rfl (r1txt_spec y.path (by omega))) (by (repeat' constructor)) ?nx10
 refine D.k rfl (Quiet.concat rfl rfl (by simp only [List.length_append, txtB] at *; omega)) ?_
 refine D.k rfl (Quiet.fieldAddr rfl fo_36_2) ?_
 refine D.k rfl (Quiet.ld rfl ag_9) ?_
 refine D.m rfl (by kernel_rfl) (OpSpec.call Tryz.func205 rfl rfl (vs := [_]) rfl (r1txt_spec y.data (by omega))) (by (repeat' constructor)) ?nx15
 refine D.k rfl (Quiet.concat rfl rfl (by simp only [List.length_append, txtB] at *; omega)) ?_
 refine D.k rfl (Quiet.fieldAddr rfl fo_36_3) ?_
 refine D.k rfl (Quiet.ld rfl ag_33) ?_
 refine D.m rfl (by kernel_rfl) (OpSpec.call Tryz.func206 rfl rfl (vs := [_]) rfl (r2acls_spec y.aclV y.acl p hy.acl hiy.acl (by omega) hn)) (by (repeat' constructor)) ?nx20
 refine D.k rfl (Quiet.concat rfl rfl (by simp only [List.length_append, txtB] at *; omega)) ?_
 refine D.kw [16, 21, 22] rfl (Quiet.fieldAddr rfl fo_36_4) ?_
 refine D.kw [21, 22] rfl (Quiet.ld rfl ag_3) ?_
 refine D.kw [18, 21, 22] rfl (Quiet.fieldAddr rfl fo_36_5) ?_
 refine D.kw [21, 22] rfl (Quiet.ld rfl ag_3) ?_
 refine D.kw [20, 21, 22] rfl (Quiet.fieldAddr rfl fo_36_6) ?_
 refine D.kw [21, 22] rfl (Quiet.ld rfl ag_25) ?_
 refine D.h rfl (by kernel_rfl) (OpSpec.buildSlice1 (vs := [_, _, _]) el_31 ze_3 rfl rfl rfl rfl rfl (by decide)) (by (repeat' constructor)) ?nx29
 rintro v L' ⟨b2, rfl, rfl⟩
 refine D.h rfl (by kernel_rfl) (OpSpec.call Tryz.func137 rfl rfl (vs := [_]) rfl (r2nums_spec _ [y.own, y.num, y.err] (ptc b2 (ints [y.own, y.num, y.err]) 3) (fun h hp => slR_rd (slR_pt hp rfl)) (fun n hn => by simp only [List.mem_cons, List.not_mem_nil, or_false] at hn; rcases hn with rfl | rfl | rfl; exact hiy.own; exact hiy.num; exact hiy.err) (by simp))) (by (repeat' constructor)) ?nx31
 rintro v L' ⟨rfl, rfl⟩
 refine D.ph ?_
 refine Phases.go [] (by (repeat' constructor)) ?_
 refine D.kw [24] rfl (Quiet.concat rfl rfl (by simp only [List.length_append, txtB] at *; omega)) ?_
 refine D.kw [] rfl (Quiet.assign rfl) ?_
 refine D.ph (Phases.fin (G.then_n (G.ret ?_)))
 have hr : numB y.kind ++ txtB y.path ++ txtB y.data ++ aclB y.acl ++ [y.own, y.num, y.err].flatMap numB = ptB y := by unfold ptB; simp only [List.append_assoc]
 rw [hr]
 exact G.dn (l := [.tmp 2]) rfl rfl ⟨rfl, rfl⟩

theorem r2txn_spec (y : Pt) (l : List Pt) (p : HP) (hy : PtW p y) (hs : ∀ h : Hp, p h → rdS 8 h y.subsV l.length (l.flatMap ptC)) (hi : ∀ z ∈ l, PtW p z ∧ z.acl.length ≤ 1048576) (hl : (ptB y).length + (subsB l).length ≤ 4294900000) (hn : y.acl.length ≤ 1048576) (hln : l.length ≤ 1048576) : Fn Tryz.prog 138 #[.agg (ptC y).toArray] [p] fun v L => v = vstr (ptB y ++ subsB l) ∧ L = [p] := by
 refine Fn.intro (vs := [.agg (ptC y).toArray]) Tryz.func138 rfl rfl ?_
 intro F W
 have hsl : (subsB l).length = (cntB l.length).length + (l.flatMap ptB).length := by unfold subsB; rw [List.length_append]
 obtain ⟨sv, hsv⟩ : ∃ sv, y.subsV = sv := ⟨_, rfl⟩
 rw [hsv] at hs
 refine G.rdAny (p := p) hs (by (repeat' constructor)) fun aa ca e _ => ?_
 subst e
 have hyc : ptC y = [vint y.kind, vstr y.path, vstr y.data, y.aclV, vint y.own, vint y.num, vint y.err, .slice aa l.length ca] := by unfold ptC; rw [hsv]
 refine G.seq (G.region ?_)
 refine G.oq (OpSpec.box rfl) ?nx1
 rintro v L' ⟨b1, rfl, rfl⟩
 refine G.ag rfl rfl (G.nil ?_)
 refine G.ptCast (b := b1) (l' := ptC y) (by (repeat' constructor)) (by exact rfl) ?_
 refine G.then_n (G.seq ?_)
 refine G.draw [] [[0, 1, 2, 3, 4, 5, 6, 7]] mixed (by kernel_rfl) ?_
 refine Phases.go [ptc b1 _ _, p] (by (repeat' constructor)) ?_
 refine D.kw [1, 5, 6, 7] rfl (Quiet.loadAs (vs := ptC y) rfl ag_36 (by (repeat' constructor)) (by simp [ptC]) rfl) ?_
 refine D.m rfl (by kernel_rfl) (OpSpec.call Tryz.func179 rfl rfl (vs := [_]) rfl (r2part_spec y p hy (by omega) hn)) (by (repeat' constructor)) ?nx5
 refine D.kw [3, 4, 5, 6, 7] rfl (Quiet.fieldAddr rfl fo_36_7) ?_
 refine D.kw [4, 5, 6, 7] rfl (Quiet.load rfl ag_34 (by (repeat' constructor)) (by rw [hyc]; rfl)) ?_
 refine D.kw [5, 6, 7] rfl (Quiet.slen rfl Tryz.underlying34 rfl) ?_
 refine D.m rfl (by kernel_rfl) (OpSpec.call Tryz.func166 rfl rfl (vs := [_]) rfl (r1cnt_spec l.length (by omega))) (by (repeat' constructor)) ?nx10
 refine D.kw [7] rfl (Quiet.concat rfl rfl (by omega)) ?_
 refine D.kw [] rfl (Quiet.assign rfl) ?_
 refine D.ph (Phases.fin (G.then_n (G.seq (G.seq (G.region (G.ag rfl rfl (G.nil (G.then_n (G.block ?_)))))))))
 refine G.loopK (ι := Nat × Bs) (fun q E => (4, vint q.1) :: (3, vstr q.2) :: E) (fun q => []) (fun q => q.1 ≤ l.length ∧ q.2 = ptB y ++ cntB l.length ++ (l.take q.1).flatMap ptB) (fun q => l.length - q.1) (0, ptB y ++ cntB l.length) (ts := [1, 2]) (.cons rfl (.cons rfl (.nil))) (⟨Nat.zero_le _, by simp⟩) ⟨rfl, rfl, rfl, rfl, trivial⟩ (by (repeat' constructor)) ?_
 rintro ⟨i, t⟩ ⟨hj, ht⟩
 dsimp only
 dsimp only at hj ht
 have htl : t.length = (ptB y).length + (cntB l.length).length + ((l.take i).flatMap ptB).length := by rw [ht, List.length_append, List.length_append]
 refine G.seq (G.seq (G.region (G.mv rfl rfl (G.q (Quiet.fieldAddr rfl fo_36_7) rfl ?_))))
 refine G.q (Quiet.load rfl ag_34 (by (repeat' constructor)) (by rw [hyc]; rfl)) rfl ?_
 refine G.q (Quiet.slen rfl Tryz.underlying34 rfl) rfl (G.q (Quiet.int rfl rfl rfl) rfl (G.nil (G.then_n ?_)))
 refine G.condD rfl (fun h16 => ?_) (fun h16 => ?_)
 ·have hi2 : i < l.length := by omega
  have hfs := fm_stepL ptB hi2
  obtain ⟨hz1, hz2⟩ := hi _ (List.getElem_mem hi2)
  refine G.rdShape (p := p) hs (by (repeat' constructor)) (by omega) fun ba oa e => ?_
  subst e
  refine G.skip (G.then_n (G.seq (G.block (G.region (G.mv rfl rfl (G.q (Quiet.fieldAddr rfl fo_36_7) rfl ?_))))))
  refine G.q (Quiet.load rfl ag_34 (by (repeat' constructor)) (by rw [hyc]; rfl)) rfl ?_
  refine G.mv rfl rfl ?_
  refine G.q (Quiet.indexAddr rfl rfl el_34 (by omega)) rfl ?_
  refine G.q (Quiet.loadRdA (sz := 8) (j := i * 8) (k := 8) (p := p) (vs := ptC l[i]) rfl ag_36 (by (repeat' constructor)) hs (by simp) (by omega) (by omega) (flatMap_at (f := ptC) (sz := 8) (fun _ _ => rfl) hi2)) rfl ?_
  refine G.oq (OpSpec.call Tryz.func179 rfl rfl (vs := [_]) rfl (r2part_spec l[i] p hz1 (by omega) hz2)) ?nx25
  rintro v L' ⟨rfl, rfl⟩
  refine G.q (Quiet.concat rfl rfl (by omega)) rfl ?_
  refine G.ag rfl rfl (G.nil (G.blk_n (G.then_n (G.region (G.mv rfl rfl ?_)))))
  refine G.q (Quiet.add rfl rfl (by omega)) rfl ?_
  refine G.ag rfl rfl (G.nil (G.then_n ?_))
  exact G.roundK ((i + 1, t ++ ptB l[i])) (⟨by dsimp only; omega, by dsimp only; rw [fm_step ptB hi2, ht]; simp only [List.append_assoc]⟩) (by dsimp only; omega) ⟨rfl, rfl, rfl, rfl, trivial⟩ (by (repeat' constructor)) (by ((repeat (apply Have.cons; (repeat (first | exact Pick.here | apply Pick.there)))); apply Have.base; repeat' constructor))
 ·have hie : i = l.length := by omega
  have hfin : t = ptB y ++ subsB l := by rw [ht, hie, List.take_length, List.append_assoc]; rfl
  subst hfin
  refine G.exit (G.then_e (G.then_e (G.blk_e (G.then_n (G.seq (G.region (G.mv rfl rfl (G.ag rfl rfl (G.nil (G.then_n (G.ret ?_)))))))))))
  exact G.dn (l := [.tmp 2]) rfl rfl ⟨rfl, rfl⟩

theorem r2put_spec (e : En) (p : HP) (he : EnL p e) : Fn Tryz.prog 77 #[.agg (enC e).toArray] [p] fun v L => v = vstr (enB e) ∧ L = [p] := by
 refine Fn.intro (vs := [.agg (enC e).toArray]) Tryz.func77 rfl rfl ?_
 intro F W
 have hel := enB_len e
 have hle := he.len
 have hie := he.w.i
 refine G.seq (G.region ?_)
 refine G.oq (OpSpec.box rfl) ?nx1
 rintro v L' ⟨b1, rfl, rfl⟩
 refine G.ag rfl rfl (G.nil ?_)
 refine G.ptCast (b := b1) (l' := enC e) (by (repeat' constructor)) (by exact rfl) ?_
 refine G.then_n (G.seq ?_)
 refine G.draw [6, 7] [[0, 1, 2, 3, 4, 5, 8, 9, 6, 7], [10, 11, 12]] mixed (by kernel_rfl) ?_
 refine Phases.go [ptc b1 _ _, p] (by (repeat' constructor)) ?_
 refine D.kw [1, 6, 7] rfl (Quiet.fieldAddr rfl fo_38_0) ?_
 refine D.kw [6, 7] rfl (Quiet.ld rfl ag_3) ?_
 refine D.kw [3, 6, 7] rfl (Quiet.fieldAddr rfl fo_38_1) ?_
 refine D.kw [6, 7] rfl (Quiet.ld rfl ag_3) ?_
 refine D.kw [5, 6, 7] rfl (Quiet.fieldAddr rfl fo_38_2) ?_
 refine D.kw [6, 7] rfl (Quiet.ld rfl ag_3) ?_
 refine D.k rfl (Quiet.fieldAddr rfl fo_38_3) ?_
 refine D.k rfl (Quiet.loadAs (vs := ptC e.x) rfl ag_36 (by (repeat' constructor)) (by simp [enC, ptC]) rfl) ?_
 refine D.h rfl (by kernel_rfl) (OpSpec.buildSlice1 (vs := [_, _, _]) el_31 ze_3 rfl rfl rfl rfl rfl (by decide)) (by (repeat' constructor)) ?nx12
 rintro v L' ⟨b2, rfl, rfl⟩
 refine D.h rfl (by kernel_rfl) (OpSpec.call Tryz.func137 rfl rfl (vs := [_]) rfl (r2nums_spec _ [e.zx, e.ses, e.xid] (ptc b2 (ints [e.zx, e.ses, e.xid]) 3) (fun h hp => slR_rd (slR_pt hp rfl)) (fun n hn => by simp only [List.mem_cons, List.not_mem_nil, or_false] at hn; rcases hn with rfl | rfl | rfl; exact hie.zx; exact hie.ses; exact hie.xid) (by simp))) (by (repeat' constructor)) ?nx14
 rintro v L' ⟨rfl, rfl⟩
 refine D.ph ?_
 refine Phases.go [ptc b1 _ _, p] (by (repeat' constructor)) ?_
 refine D.m rfl (by kernel_rfl) (OpSpec.call Tryz.func138 rfl rfl (vs := [_]) rfl (r2txn_spec e.x e.subs p he.w.x he.w.subs (fun z hz => ⟨he.w.sub hz, he.few.2.2 z hz⟩) (by omega) he.few.2.1 he.few.1)) (by (repeat' constructor)) ?nx16
 refine D.kw [12] rfl (Quiet.concat rfl rfl (by simp only [List.length_append, txtB] at *; omega)) ?_
 refine D.kw [] rfl (Quiet.assign rfl) ?_
 refine D.ph (Phases.fin (G.then_n (G.ret ?_)))
 have hr : [e.zx, e.ses, e.xid].flatMap numB ++ (ptB e.x ++ subsB e.subs) = enB e := by unfold enB; simp only [List.append_assoc]
 rw [hr]
 exact G.dn (l := [.tmp 2]) rfl rfl ⟨rfl, rfl⟩

end Go.Proofs.YtidjhgbdokcphaaGreat

/- Own work: scripts of law 04 as they lie in memory. -/

namespace Go.Proofs.YtidjhgbdokcphaaGreat
open Go

def i64 (x : Int) : Prop := -9223372036854775808 ≤ x ∧ x ≤ 9223372036854775807
end Go.Proofs.YtidjhgbdokcphaaGreat

/- Own work: what is laid is found again: marks, records, areas. -/

namespace Go.Proofs.YtidjhgbdokcphaaGreat
open Go

theorem byteZ_nat (n : Int) : ((byteZ n).toNat : Int) = n % 256 := by
  unfold byteZ
  rw [UInt8.toNat_ofNat']
  omega
theorem beZ_beB : ∀ (k : Nat) (n : Int), 0 ≤ n → beZ (beB n k) 0 = n % 256 ^ k := by
  intro k
  induction k with
  | zero => intro n _; simp [beB, beZ]
  | succ k ih =>
    intro n hn
    have h1 := ih (n / 256) (by omega)
    rw [beB, beZ_append, h1]
    simp only [beZ]
    rw [byteZ_nat, Int.pow_succ, Int.mul_comm (256 ^ k) 256]
    have h2 : n / 256 % 256 ^ k * 256 + n % 256 = n % (256 * 256 ^ k) := by
      have hp : (0 : Int) < 256 ^ k := Int.pow_pos (by decide)
      generalize (256 : Int) ^ k = p at *
      have e1 := Int.emod_add_mul_ediv n (256 * p)
      have e2 := Int.emod_add_mul_ediv n 256
      have e3 := Int.emod_add_mul_ediv (n / 256) p
      have e4 : n / 256 / p = n / (256 * p) := Int.ediv_ediv_of_nonneg (by omega)
      rw [e4] at e3
      generalize n / (256 * p) = q at *
      have e5 : 256 * p * q = 256 * (p * q) := Int.mul_assoc _ _ _
      generalize p * q = r at *
      omega
    exact h2
theorem smallZ_beB {k : Nat} {n : Int} (h0 : 0 ≤ n) (h1 : n < 256 ^ k) (h2 : n ≤ 9223372036854775807) : smallZ (beB n k) = n := by
  unfold smallZ
  rw [beZ_beB k n h0, Int.emod_eq_of_lt h0 h1]
  exact i64w (by omega)
structure MkR (m : Mk) : Prop where
  count : 0 ≤ m.count ∧ m.count ≤ 4294967295
  area : 0 ≤ m.area ∧ m.area ≤ 1
  len : 0 ≤ m.len ∧ m.len ≤ 4294967295
  num : 0 ≤ m.num ∧ m.num ≤ 4294967295
  a : 0 ≤ m.a ∧ m.a ≤ 9223372036854775807
  b : 0 ≤ m.b ∧ m.b ≤ 9223372036854775807
theorem MkI.r {δ : Dk} {m : Mk} (h : MkI δ m) (hs : 2 ≤ δ.now.length ∧ δ.now.length ≤ 32768) : MkR m := by
  have := half_le hs
  obtain ⟨h1, h2, h3, h4, h5, h6⟩ := h
  exact ⟨by omega, h2, by omega, h4, h5, h6⟩
theorem sub_mid (p q r : Bs) {i j : Nat} (hi : i = p.length) (hj : j = p.length + q.length) : sub (p ++ q ++ r) i j = q := by
  subst hi; subst hj
  unfold sub
  rw [List.take_append_of_le_length (by simp), ← List.length_append, List.take_length, List.drop_left]
theorem parse_sec {m : Mk} (h : MkR m) : parseZ m.sec = m := by
  obtain ⟨h1, h2, h3, h4, h5, h6⟩ := h
  have e : (256 : Int) ^ 4 = 4294967296 ∧ (256 : Int) ^ 1 = 256 ∧ (256 : Int) ^ 8 = 18446744073709551616 := ⟨rfl, rfl, rfl⟩
  have a1 : sub m.sec 2 6 = beB m.count 4 := by
    rw [show m.sec = [87, 77] ++ beB m.count 4 ++ (beB m.area 1 ++ beB m.len 4 ++ beB m.num 4 ++ beB m.a 8 ++ beB m.b 8 ++ List.replicate 29 0 ++ beB m.count 4) by unfold Mk.sec; simp only [List.append_assoc]]
    exact sub_mid _ _ _ (by simp) (by simp [beB_len])
  have a2 : sub m.sec 6 7 = beB m.area 1 := by
    rw [show m.sec = ([87, 77] ++ beB m.count 4) ++ beB m.area 1 ++ (beB m.len 4 ++ beB m.num 4 ++ beB m.a 8 ++ beB m.b 8 ++ List.replicate 29 0 ++ beB m.count 4) by unfold Mk.sec; simp only [List.append_assoc]]
    exact sub_mid _ _ _ (by simp [beB_len]) (by simp [beB_len])
  have a3 : sub m.sec 7 11 = beB m.len 4 := by
    rw [show m.sec = ([87, 77] ++ beB m.count 4 ++ beB m.area 1) ++ beB m.len 4 ++ (beB m.num 4 ++ beB m.a 8 ++ beB m.b 8 ++ List.replicate 29 0 ++ beB m.count 4) by unfold Mk.sec; simp only [List.append_assoc]]
    exact sub_mid _ _ _ (by simp [beB_len]) (by simp [beB_len])
  have a4 : sub m.sec 11 15 = beB m.num 4 := by
    rw [show m.sec = ([87, 77] ++ beB m.count 4 ++ beB m.area 1 ++ beB m.len 4) ++ beB m.num 4 ++ (beB m.a 8 ++ beB m.b 8 ++ List.replicate 29 0 ++ beB m.count 4) by unfold Mk.sec; simp only [List.append_assoc]]
    exact sub_mid _ _ _ (by simp [beB_len]) (by simp [beB_len])
  have a5 : sub m.sec 15 23 = beB m.a 8 := by
    rw [show m.sec = ([87, 77] ++ beB m.count 4 ++ beB m.area 1 ++ beB m.len 4 ++ beB m.num 4) ++ beB m.a 8 ++ (beB m.b 8 ++ List.replicate 29 0 ++ beB m.count 4) by unfold Mk.sec; simp only [List.append_assoc]]
    exact sub_mid _ _ _ (by simp [beB_len]) (by simp [beB_len])
  have a6 : sub m.sec 23 31 = beB m.b 8 := by
    rw [show m.sec = ([87, 77] ++ beB m.count 4 ++ beB m.area 1 ++ beB m.len 4 ++ beB m.num 4 ++ beB m.a 8) ++ beB m.b 8 ++ (List.replicate 29 0 ++ beB m.count 4) by unfold Mk.sec; simp only [List.append_assoc]]
    exact sub_mid _ _ _ (by simp [beB_len]) (by simp [beB_len])
  unfold parseZ
  rw [a1, a2, a3, a4, a5, a6, smallZ_beB (by omega) (by omega) (by omega), smallZ_beB (by omega) (by omega) (by omega), smallZ_beB (by omega) (by omega) (by omega), smallZ_beB (by omega) (by omega) (by omega), smallZ_beB (by omega) (by omega) (by omega), smallZ_beB (by omega) (by omega) (by omega)]
theorem read_at {δ : Dk} (hd : δ.dead = false) {n : Int} (hn : 0 ≤ n ∧ n < δ.now.length) : δ.read n = (δ.now.getD n.toNat [], 0) := by
  have h2 : δ.has n = true := by simp [Dk.has, hn.1, hn.2]
  unfold Dk.read
  rw [hd, h2]; rfl
theorem found_sec {δ : Dk} (hd : δ.dead = false) (hs : 2 ≤ δ.now.length ∧ δ.now.length ≤ 32768) {m : Mk} (hm : MkI δ m) {n : Int} (hn : m.count % 2 = n) (hr : δ.now.getD n.toNat [] = m.sec) : foundZ δ n = some m := by
  have e := read_at hd (n := n) ⟨by omega, by omega⟩
  have hp := parse_sec (hm.r hs)
  obtain ⟨h1, h2, h3, h4, h5, h6⟩ := hm
  unfold foundZ
  rw [e, hr]
  dsimp only
  rw [if_neg (by decide), hp, if_neg]
  unfold badMk
  rintro (h | h | h | h | h | h | h)
  · omega
  · exact h hn
  · omega
  · omega
  · omega
  · omega
  · exact h rfl
theorem part_laid : ∀ (l : List Bs) (f : Nat) (out : List Bs) (num : Int), (∀ s ∈ l, s.length ≤ 4000) → (laidZ l).length < f → num = out.length + l.length → partF f (laidZ l) out num = some (out ++ l) := by
  intro l
  induction l with
  | nil =>
    intro f out num _ hf hn
    obtain ⟨g, rfl⟩ : ∃ g, f = g + 1 := ⟨f - 1, by omega⟩
    simp only [partF]
    rw [if_pos (by simp [laidZ]), if_pos (by simpa using hn.symm)]; simp
  | cons s l ih =>
    intro f out num hl hf hn
    obtain ⟨g, rfl⟩ : ∃ g, f = g + 1 := ⟨f - 1, by omega⟩
    have hs := hl s List.mem_cons_self
    have e : laidZ (s :: l) = recZ s ++ laidZ l := by simp [laidZ]
    have hrl := recZ_len s
    have hlen : (laidZ (s :: l)).length = s.length + 6 + (laidZ l).length := by rw [e, List.length_append, hrl]
    have hcl : (s :: l).length = l.length + 1 := rfl
    have e2 : recZ s ++ laidZ l = beB s.length 2 ++ s ++ (beB (sumZ (headZ s)) 4 ++ laidZ l) := by simp only [recZ, headZ, List.append_assoc]
    have t2 : (laidZ (s :: l)).take 2 = beB s.length 2 := by
      rw [e, e2, List.append_assoc, List.take_append_of_le_length (by simp [beB_len])]
      exact List.take_of_length_le (by simp [beB_len])
    have hp2 : (256 : Int) ^ 2 = 65536 := rfl
    have hsm : smallZ ((laidZ (s :: l)).take 2) = s.length := by rw [t2]; exact smallZ_beB (by omega) (by omega) (by omega)
    simp only [partF]
    rw [hsm]
    have hne : laidZ (s :: l) ≠ [] := fun h => by rw [h] at hlen; simp at hlen; omega
    rw [if_neg hne, if_neg (by omega), if_neg (by omega)]
    have hsub : sub (laidZ (s :: l)) 2 ((s.length : Int).toNat + 2) = s := by
      rw [e, e2]; exact sub_mid _ _ _ (by simp [beB_len]) (by simp [beB_len]; omega)
    have htk : (laidZ (s :: l)).take ((s.length : Int).toNat + 6) = recZ s := by
      rw [e, show (s.length : Int).toNat + 6 = (recZ s).length by rw [hrl]; omega, List.take_left]
    have hdr : (laidZ (s :: l)).drop ((s.length : Int).toNat + 6) = laidZ l := by
      rw [e, show (s.length : Int).toNat + 6 = (recZ s).length by rw [hrl]; omega, List.drop_left]
    rw [hsub, htk, if_neg (fun h => h rfl), hdr, ih g (out ++ [s]) num (fun x hx => hl x (List.mem_cons_of_mem _ hx)) (by omega) (by simp; omega)]
    simp
theorem partZ_of {l : List Bs} (h : ∀ s ∈ l, s.length ≤ 4000) : partZ (laidZ l) l.length = some l := by
  have := part_laid l ((laidZ l).length + 1) [] l.length h (by omega) (by simp)
  simpa [partZ] using this
end Go.Proofs.YtidjhgbdokcphaaGreat

/- Own work: a disk keeps what its log knows, as long as it lives. -/

namespace Go.Proofs.YtidjhgbdokcphaaGreat
open Go

theorem half_pos {δ : Dk} (h : 2 ≤ δ.now.length) : 0 ≤ halfZ δ := by unfold halfZ; omega
theorem lay_now : ∀ (f : Nat) (δ : Dk) (area : Int) (all : Bs) (i0 : Nat), Al δ → 0 ≤ area ∧ area ≤ 1 → 2 ≤ δ.now.length → (all.length : Int) ≤ 64 * halfZ δ → all.length < (f + i0) * 64 + 64 →
    (∀ k, k < 2 → (layF f δ area all i0).1.now.getD k [] = δ.now.getD k []) ∧
    (∀ i : Nat, (i : Int) < halfZ δ → (layF f δ area all i0).1.now.getD (2 + area * halfZ δ + (i : Int)).toNat [] = if i0 ≤ i ∧ i * 64 < all.length ∧ i < f + i0 then laySec all i else δ.now.getD (2 + area * halfZ δ + (i : Int)).toNat []) := by
  intro f
  induction f with
  | zero =>
    intro δ area all i0 _ _ _ _ hf
    refine ⟨fun k _ => rfl, fun i hi => ?_⟩
    rw [if_neg (by omega)]; rfl
  | succ f ih =>
    intro δ area all i0 h ha hn hl hf
    simp only [layF]
    split
    · rename_i hi
      have hr := lay_in ha hn hl hi
      obtain ⟨w1, w2, w3⟩ := al_write h (n := 2 + area * halfZ δ + i0) (s := laySec all i0) ⟨by omega, hr.2⟩ (laySec_len _ _)
      rw [if_neg (by rw [w1]; decide)]
      have hlen : (δ.write (2 + area * halfZ δ + i0) (laySec all i0)).1.now.length = δ.now.length := (write_keeps _ _ _).1
      have hhz := halfZ_of hlen
      obtain ⟨q1, q2⟩ := ih _ area all (i0 + 1) w2 ha (by rw [hlen]; exact hn) (by rw [hhz]; exact hl) (by omega)
      rw [hhz] at q2
      refine ⟨fun k hk => ?_, fun i hi2 => ?_⟩
      · rw [q1 k hk, w3]
        simp only [List.getD_eq_getElem?_getD]
        rw [List.getElem?_set_ne (by omega)]
      · rw [q2 i hi2, w3]
        by_cases hc : i = i0
        · subst hc
          rw [if_neg (by omega), if_pos ⟨Nat.le_refl _, hi, by omega⟩]
          simp only [List.getD_eq_getElem?_getD]
          rw [List.getElem?_set_self (by omega)]; rfl
        · have hne : (2 + area * halfZ δ + (i0 : Int)).toNat ≠ (2 + area * halfZ δ + (i : Int)).toNat := by
            have := half_pos (δ := δ) hn
            have hm : 0 ≤ area * halfZ δ := Int.mul_nonneg ha.1 this
            omega
          have e : (δ.now.set (2 + area * halfZ δ + (i0 : Int)).toNat (laySec all i0)).getD (2 + area * halfZ δ + (i : Int)).toNat [] = δ.now.getD (2 + area * halfZ δ + (i : Int)).toNat [] := by
            simp only [List.getD_eq_getElem?_getD]
            rw [List.getElem?_set_ne hne]
          rw [e]
          by_cases hd : i0 + 1 ≤ i ∧ i * 64 < all.length ∧ i < f + (i0 + 1)
          · rw [if_pos hd, if_pos (by omega)]
          · rw [if_neg hd, if_neg (by omega)]
    · rename_i hi
      refine ⟨fun k _ => rfl, fun i hi2 => ?_⟩
      rw [if_neg (by omega)]
def chunk (L : Bs) (i : Nat) : Bs := (L.drop (i * 64)).take 64
def Area (δ : Dk) (area : Int) (L : Bs) : Prop := ∀ i : Nat, (i : Int) < halfZ δ → chunk L i <+: δ.now.getD (2 + area * halfZ δ + (i : Int)).toNat []
theorem chunk_pre {L M : Bs} (h : L <+: M) (i : Nat) : chunk L i <+: chunk M i := by
  obtain ⟨r, rfl⟩ := h
  unfold chunk
  rw [List.drop_append, List.take_append]
  exact List.prefix_append _ _
theorem chunk_lay (L : Bs) (i : Nat) : chunk L i <+: laySec L i := List.prefix_append _ _
theorem chunk_nil {L : Bs} {i : Nat} (h : ¬ i * 64 < L.length) : chunk L i = [] := by
  unfold chunk; rw [List.drop_eq_nil_of_le (by omega)]; rfl
theorem chunk_app {L r : Bs} {i : Nat} (h : i * 64 + 64 ≤ L.length) : chunk (L ++ r) i = chunk L i := by
  unfold chunk
  rw [List.drop_append_of_le_length (by omega), List.take_append_of_le_length (by rw [List.length_drop]; omega)]
theorem Area.less {δ : Dk} {area : Int} {L M : Bs} (h : Area δ area M) (hp : L <+: M) : Area δ area L := fun i hi => (chunk_pre hp i).trans (h i hi)
theorem area_append {δ : Dk} {area : Int} {L r : Bs} (h : Al δ) (ha : 0 ≤ area ∧ area ≤ 1) (hn : 2 ≤ δ.now.length) (hl : ((L ++ r).length : Int) ≤ 64 * halfZ δ) (hA : Area δ area L) : Area (layZ δ area (L ++ r) L.length).1 area (L ++ r) := by
  have hlen := (layZ_keeps δ area (L ++ r) L.length).1
  have q := (lay_now ((L ++ r).length + 1) δ area (L ++ r) (L.length / 64) h ha hn hl (by omega)).2
  intro i hi
  rw [halfZ_of hlen] at hi ⊢
  have := q i hi
  show chunk (L ++ r) i <+: (layF _ _ _ _ _).1.now.getD _ []
  rw [this]
  split
  · exact chunk_lay _ _
  · rename_i hc
    by_cases h1 : i * 64 < (L ++ r).length
    · rw [chunk_app (by omega)]; exact hA i hi
    · rw [chunk_nil h1]; exact List.nil_prefix
theorem area_fresh {δ : Dk} {area : Int} {L : Bs} (h : Al δ) (ha : 0 ≤ area ∧ area ≤ 1) (hn : 2 ≤ δ.now.length) (hl : (L.length : Int) ≤ 64 * halfZ δ) : Area (layZ δ area L 0).1 area L := by
  have := area_append (L := []) (r := L) h ha hn hl (fun i _ => by rw [chunk_nil (by simp)]; exact List.nil_prefix)
  exact this
theorem lay_marks {δ : Dk} {area : Int} {all : Bs} (frm : Nat) (h : Al δ) (ha : 0 ≤ area ∧ area ≤ 1) (hn : 2 ≤ δ.now.length) (hl : (all.length : Int) ≤ 64 * halfZ δ) (k : Nat) (hk : k < 2) : (layZ δ area all frm).1.now.getD k [] = δ.now.getD k [] :=
  (lay_now (all.length + 1) δ area all (frm / 64) h ha hn hl (by omega)).1 k hk
theorem area_pre {δ : Dk} (hok : δ.Ok) (hn : 2 ≤ δ.now.length) {area : Int} (ha : 0 ≤ area ∧ area ≤ 1) {L : Bs} (hA : Area δ area L) : ∀ n : Nat, (n : Int) ≤ halfZ δ → L.take (64 * n) <+: areaZ δ area n := by
  intro n
  induction n with
  | zero => intro _; simp
  | succ n ih =>
    intro hn2
    have h1 := ih (by omega)
    have hl := areaZ_len hok hn ha n (by omega)
    rw [areaZ_succ]
    by_cases hc : 64 * n ≤ L.length
    · have e1 : L.take (64 * n) = areaZ δ area n := List.IsPrefix.eq_of_length h1 (by rw [List.length_take, hl]; omega)
      have e2 : L.take (64 * (n + 1)) = L.take (64 * n) ++ chunk L n := by
        rw [show 64 * (n + 1) = 64 * n + 64 by omega, List.take_add, show 64 * n = n * 64 by omega]; rfl
      rw [e2, e1]
      obtain ⟨t, ht⟩ := hA n (by omega)
      exact ⟨t, by rw [List.append_assoc, ht]⟩
    · rw [List.take_of_length_le (by omega)] at h1 ⊢
      exact h1.trans (List.prefix_append _ _)
theorem area_take {δ : Dk} (hok : δ.Ok) (hn : 2 ≤ δ.now.length) {area : Int} (ha : 0 ≤ area ∧ area ≤ 1) {L : Bs} (hl : (L.length : Int) ≤ 64 * halfZ δ) (hA : Area δ area L) : (areaZ δ area ((L.length + 63) / 64)).take L.length = L := by
  have h1 := area_pre hok hn ha hA ((L.length + 63) / 64) (by omega)
  rw [List.take_of_length_le (by omega)] at h1
  exact (List.prefix_iff_eq_take.1 h1).symm
end Go.Proofs.YtidjhgbdokcphaaGreat

/- Own work: what lies on the disk of a log that is well; opened, it is the same log. -/

namespace Go.Proofs.YtidjhgbdokcphaaGreat
open Go

def Wl.now (ω : Wl) : Mk := ⟨ω.count, ω.area, (laidZ (ω.recs.take ω.synced.toNat)).length, ω.synced, ω.a, ω.b⟩
def mkAt (δ : Dk) (c : Int) : Bs := δ.now.getD (c % 2).toNat []
def TailC (c : Int) (X : Bs) : Prop := X.length = 64 ∧ (X.drop 60 = beB (c - 1) 4 ∨ (sub X 2 6 = beB (c + 1) 4 ∧ X.drop 60 ≠ beB (c + 1) 4))
theorem sec_sub (m : Mk) : sub m.sec 2 6 = beB m.count 4 := by
  rw [show m.sec = [87, 77] ++ beB m.count 4 ++ (beB m.area 1 ++ beB m.len 4 ++ beB m.num 4 ++ beB m.a 8 ++ beB m.b 8 ++ List.replicate 29 0 ++ beB m.count 4) by unfold Mk.sec; simp only [List.append_assoc]]
  exact sub_mid _ _ _ (by simp) (by simp [beB_len])
theorem sec_drop (m : Mk) : m.sec.drop 60 = beB m.count 4 := by
  unfold Mk.sec
  rw [List.drop_left' (by simp [beB_len])]
theorem be4_inj {a b : Int} (ha : 0 ≤ a ∧ a ≤ 4294967295) (hb : 0 ≤ b ∧ b ≤ 4294967295) (h : beB a 4 = beB b 4) : a = b := by
  have e : (256 : Int) ^ 4 = 4294967296 := rfl
  have h1 := smallZ_beB (k := 4) ha.1 (by omega) (by omega)
  have h2 := smallZ_beB (k := 4) hb.1 (by omega) (by omega)
  rw [← h1, ← h2, h]
theorem tail_found {δ : Dk} {n c : Int} {X : Bs} (hok : δ.Ok) (hd : δ.dead = false) (hn : 0 ≤ n ∧ n < δ.now.length) (hX : δ.now.getD n.toNat [] = X) (hc : 1 ≤ c ∧ c ≤ 4294967295) (ht : TailC c X) : foundZ δ n = none ∨ ∃ k, foundZ δ n = some k ∧ k.count < c := by
  rcases h : foundZ δ n with _ | k
  · exact .inl rfl
  · obtain ⟨h1, -, h3, -⟩ := foundZ_some hok h
    have hk := h1.count
    rw [read_at hd hn] at h3
    have h4 : X = k.sec := hX.symm.trans h3
    subst h4
    rcases ht.2 with h5 | ⟨h5, h6⟩
    · rw [sec_drop] at h5
      have := be4_inj ⟨by omega, by omega⟩ ⟨by omega, by omega⟩ h5
      exact .inr ⟨k, rfl, by omega⟩
    · rw [sec_sub] at h5
      rw [sec_drop] at h6
      exact absurd h5 h6
structure Kp (δ : Dk) (ω : Wl) : Prop where
  cnt : 1 ≤ ω.count
  a : 0 ≤ ω.a ∧ ω.a ≤ 9223372036854775807
  b : 0 ≤ ω.b ∧ ω.b ≤ 9223372036854775807
  long : ∀ s ∈ ω.recs, s.length ≤ 4000
  this : mkAt δ ω.count = ω.now.sec
  other : TailC ω.count (mkAt δ (ω.count + 1))
  area : Area δ ω.area (laidZ ω.recs)
theorem laid_pre (l : List Bs) (k : Nat) : laidZ (l.take k) <+: laidZ l := ⟨laidZ (l.drop k), by rw [← laidZ_append, List.take_append_drop]⟩
theorem Kp.mkI {δ : Dk} {ω : Wl} {N : Int} (h : Kp δ ω) (hW : Well δ ω N) : MkI δ ω.now := by
  have h1 := laid_take_le ω.recs ω.synced.toNat
  have h2 := hW.fits
  have h3 := laidZ_many ω.recs
  have h4 := half_le hW.size
  have h5 := hW.synced
  exact ⟨⟨h.cnt, hW.count.2⟩, hW.area, ⟨by show (0 : Int) ≤ ((laidZ _).length : Nat); omega, by show ((laidZ _).length : Int) ≤ _; omega⟩, ⟨h5.1, by show ω.synced ≤ _; omega⟩, h.a, h.b⟩
theorem best_of {δ : Dk} (m : Mk) (h1 : foundZ δ (m.count % 2) = some m) (h2 : foundZ δ ((m.count + 1) % 2) = none ∨ ∃ k, foundZ δ ((m.count + 1) % 2) = some k ∧ k.count < m.count) : bestZ δ = some m := by
  unfold bestZ
  rcases (by omega : m.count % 2 = 0 ∧ (m.count + 1) % 2 = 1 ∨ m.count % 2 = 1 ∧ (m.count + 1) % 2 = 0) with ⟨e1, e2⟩ | ⟨e1, e2⟩ <;> rw [e1] at h1 <;> rw [e2] at h2 <;> rw [h1] <;> rcases h2 with h2 | ⟨k, h2, h3⟩ <;> rw [h2]
  · dsimp only; rw [if_neg (by omega)]
  · dsimp only; rw [if_pos (by omega)]
theorem opened {δ : Dk} {ω : Wl} {N : Int} (h : Kp δ ω) (hW : Well δ ω N) (hok : δ.Ok) : openZ δ = some ⟨ω.recs.take ω.synced.toNat, ω.synced, ω.area, ω.count, ω.a, ω.b, false⟩ := by
  have hm := h.mkI hW
  have hs := hW.synced
  have hsz := hW.size
  have f1 : foundZ δ (ω.now.count % 2) = some ω.now := found_sec hW.al.dead hW.size hm rfl h.this
  have f2 : foundZ δ ((ω.now.count + 1) % 2) = none ∨ ∃ k, foundZ δ ((ω.now.count + 1) % 2) = some k ∧ k.count < ω.now.count :=
    tail_found hok hW.al.dead ⟨by omega, by omega⟩ rfl ⟨h.cnt, hW.count.2⟩ h.other
  rw [openZ_some (best_of _ f1 f2)]
  unfold openB
  have hA : Area δ ω.area (laidZ (ω.recs.take ω.synced.toNat)) := h.area.less (laid_pre _ _)
  have hlen := laid_take_le ω.recs ω.synced.toNat
  have hfit := hW.fits
  have hb : bytesZ δ ω.now = laidZ (ω.recs.take ω.synced.toNat) := area_take hok hW.size.1 hW.area (by omega) hA
  have hn : (ω.recs.take ω.synced.toNat).length = ω.synced.toNat := by rw [List.length_take]; omega
  have hz : ω.now.num = ((ω.recs.take ω.synced.toNat).length : Int) := by rw [hn]; show ω.synced = _; omega
  rw [hb, hz, partZ_of (fun s hs => h.long s (List.mem_of_mem_take hs))]
  dsimp only
  rw [hn, show ((ω.synced.toNat : Nat) : Int) = ω.synced by omega]
  rfl
theorem sameZ_self {ω : Wl} (hs : ω.synced = ω.recs.length) : sameZ ω (toldZ ω true, ω.a, ω.b) = true := by
  unfold sameZ toldZ; simp [hs]
theorem set_at {l : List Bs} {i k : Nat} {s : Bs} (hi : i < l.length) : (l.set i s).getD k [] = if k = i then s else l.getD k [] := by
  simp only [List.getD_eq_getElem?_getD]
  split
  · rename_i h; subst h; rw [List.getElem?_set_self hi]; rfl
  · rename_i h; rw [List.getElem?_set_ne (fun e => h e.symm)]
theorem area_set {δ δ' : Dk} {area : Int} {L : Bs} {c : Int} {s : Bs} (hn : 2 ≤ δ.now.length) (ha : 0 ≤ area) (h : δ'.now = δ.now.set (c % 2).toNat s) (hA : Area δ area L) : Area δ' area L := by
  have hlen : δ'.now.length = δ.now.length := by rw [h, List.length_set]
  intro i hi
  rw [halfZ_of hlen] at hi ⊢
  have hp := half_pos hn
  have hm : 0 ≤ area * halfZ δ := Int.mul_nonneg ha hp
  rw [h, set_at (by omega), if_neg (by omega)]
  exact hA i hi
theorem kp_mark {δ δ1 δ' : Dk} {ω ω' : Wl} {N : Int} (h : Kp δ ω) (hW : Well δ ω N) (hlen : δ1.now.length = δ.now.length) (hk : ∀ k, k < 2 → δ1.now.getD k [] = δ.now.getD k [])
    (hc : ω'.count = ω.count + 1) (ha : 0 ≤ ω'.a ∧ ω'.a ≤ 9223372036854775807) (hb : 0 ≤ ω'.b ∧ ω'.b ≤ 9223372036854775807) (hl : ∀ s ∈ ω'.recs, s.length ≤ 4000) (hn : δ'.now = δ1.now.set ((ω.count + 1) % 2).toNat ω'.now.sec) (hA : Area δ1 ω'.area (laidZ ω'.recs)) (har : 0 ≤ ω'.area) : Kp δ' ω' := by
  have hsz := hW.size
  have hcnt := h.cnt
  have hl2 : δ'.now.length = δ.now.length := by rw [hn, List.length_set, hlen]
  refine ⟨by omega, ha, hb, hl, ?_, ?_, area_set (by omega) har hn hA⟩
  · unfold mkAt
    rw [hn, set_at (by omega), if_pos (by omega)]
  · have e : mkAt δ' (ω'.count + 1) = ω.now.sec := by
      have := h.this
      unfold mkAt at this ⊢
      rw [hn, set_at (by omega), if_neg (by omega), hk _ (by omega), ← this]
      congr 1; omega
    rw [e, hc]
    exact ⟨sec_len4 _, .inl (by rw [sec_drop]; show beB ω.count 4 = _; congr 1; omega)⟩
structure KpN (ω : Wl) (r : Dk × Wl × Int) : Prop where
  kp : Kp r.1 r.2.1
  count : r.2.1.count ≤ ω.count + 1
theorem kp_append {δ : Dk} {ω : Wl} {N : Int} (h : Kp δ ω) (hW : Well δ ω N) (s : Bs) : KpN ω (appendZ δ ω s) := by
  rcases (well_append hW s).2.2 with ⟨h1, h2, e⟩ | ⟨-, e⟩ | ⟨-, -, e⟩
  · have hl : (laidZ ω.recs ++ recZ s).length = (laidZ ω.recs).length + s.length + 6 := by rw [List.length_append, recZ_len]; omega
    have hlen := (layZ_keeps δ ω.area (laidZ ω.recs ++ recZ s) (laidZ ω.recs).length).1
    have hmk := lay_marks (all := laidZ ω.recs ++ recZ s) (laidZ ω.recs).length hW.al hW.area hW.size.1 (by omega)
    have hl0 := (al_lay ((laidZ ω.recs ++ recZ s).length + 1) δ ω.area (laidZ ω.recs ++ recZ s) ((laidZ ω.recs).length / 64) hW.al hW.area hW.size.1 (by omega)).1
    have e : appendZ δ ω s = ((layZ δ ω.area (laidZ ω.recs ++ recZ s) (laidZ ω.recs).length).1, { ω with recs := ω.recs ++ [s] }, 0) := by
      unfold appendZ; rw [if_neg (by rw [hW.doubt]; decide), if_neg (by omega), if_neg (fun g => g h2), if_neg (by show ¬ (layF _ _ _ _ _).2 ≠ 0; rw [hl0]; decide)]
    rw [e]
    have hs := hW.synced
    have hnow : (ω.recs ++ [s]).take ω.synced.toNat = ω.recs.take ω.synced.toNat := List.take_append_of_le_length (by omega)
    refine ⟨⟨h.cnt, h.a, h.b, ?_, ?_, ?_, ?_⟩, by dsimp only; omega⟩
    · intro x hx
      rcases List.mem_append.1 hx with hx | hx
      · exact h.long x hx
      · rw [List.mem_singleton.1 hx]; exact h1
    · show mkAt (layZ δ ω.area (laidZ ω.recs ++ recZ s) (laidZ ω.recs).length).1 ω.count = Mk.sec ⟨ω.count, ω.area, (laidZ ((ω.recs ++ [s]).take ω.synced.toNat)).length, ω.synced, ω.a, ω.b⟩
      rw [hnow]
      unfold mkAt; rw [hmk _ (by omega)]
      exact h.this
    · show TailC ω.count (mkAt (layZ δ ω.area (laidZ ω.recs ++ recZ s) (laidZ ω.recs).length).1 (ω.count + 1))
      have e2 : mkAt (layZ δ ω.area (laidZ ω.recs ++ recZ s) (laidZ ω.recs).length).1 (ω.count + 1) = mkAt δ (ω.count + 1) := by unfold mkAt; exact hmk _ (by omega)
      rw [e2]; exact h.other
    · show Area _ ω.area (laidZ (ω.recs ++ [s]))
      rw [laidZ_append, show laidZ [s] = recZ s by simp [laidZ]]
      exact area_append hW.al hW.area hW.size.1 (by omega) h.area
  · rw [e]; exact ⟨h, by dsimp only; omega⟩
  · rw [e]; exact ⟨h, by dsimp only; omega⟩
theorem kp_seal {δ δ1 : Dk} {ω : Wl} {N : Int} (h : Kp δ ω) (hW : Well δ ω N) (hc : ω.count ≠ 4294967295) {area : Int} (ha : 0 ≤ area ∧ area ≤ 1) {l : List Bs} (hl : ((laidZ l).length : Int) ≤ 64 * halfZ δ) (h1 : Al δ1) (h2 : δ1.now.length = δ.now.length) (h3 : δ1.acts ≤ N + 1900000)
    (hk : ∀ k, k < 2 → δ1.now.getD k [] = δ.now.getD k []) (hA : Area δ1 area (laidZ l)) (hL : ∀ s ∈ l, s.length ≤ 4000) : KpN ω (dbt (sealZ δ1 ω area l)) := by
  obtain ⟨e, w, n⟩ := well_seal hW hc ha hl h1 h2 h3
  refine ⟨?_, by rw [e]; dsimp only; omega⟩
  rw [e]
  refine kp_mark h hW h2 hk rfl h.a h.b hL ?_ hA ha.1
  rw [n]
  congr 1
  show Mk.sec ⟨ω.count + 1, area, (laidZ l).length, l.length, ω.a, ω.b⟩ = Mk.sec ⟨ω.count + 1, area, (laidZ (l.take ((l.length : Int)).toNat)).length, l.length, ω.a, ω.b⟩
  rw [Int.toNat_natCast, List.take_length]
theorem kp_setm {δ : Dk} {ω : Wl} {N : Int} (h : Kp δ ω) (hW : Well δ ω N) {a b : Int} (ha : a ≤ 9223372036854775807) (hb : b ≤ 9223372036854775807) : KpN ω (setmZ δ ω a b) := by
  unfold setmZ
  rw [if_neg (by rw [hW.doubt]; decide)]
  split
  · exact ⟨h, by dsimp only; omega⟩
  · split
    · exact ⟨h, by dsimp only; omega⟩
    · rename_i h1 hc
      obtain ⟨n1, n2, n3⟩ := al_next hW.al hW.size.1 (ω.mark ω.area (ω.recs.take ω.synced.toNat) a b)
      rw [if_neg (by rw [n1]; decide)]
      refine ⟨?_, by dsimp only; omega⟩
      refine kp_mark (δ1 := δ) h hW rfl (fun _ _ => rfl) rfl ⟨by dsimp only; omega, ha⟩ ⟨by dsimp only; omega, hb⟩ h.long ?_ h.area hW.area.1
      dsimp only
      rw [n3]
      have hs := hW.synced
      have hn : (ω.recs.take ω.synced.toNat).length = ω.synced.toNat := by rw [List.length_take]; omega
      show δ.now.set ((ω.count + 1) % 2).toNat (Mk.sec ⟨ω.count + 1, ω.area, (laidZ (ω.recs.take ω.synced.toNat)).length, (ω.recs.take ω.synced.toNat).length, a, b⟩) = δ.now.set ((ω.count + 1) % 2).toNat (Mk.sec ⟨ω.count + 1, ω.area, (laidZ (ω.recs.take ω.synced.toNat)).length, ω.synced, a, b⟩)
      rw [hn, show ((ω.synced.toNat : Nat) : Int) = ω.synced by omega]
theorem kp_new {n : Int} (h : 16 ≤ n ∧ n ≤ 32768) : Kp (formatZ (Dk.new n)).1 newW := by
  obtain ⟨-, hW, hn⟩ := format_well h
  have hl : (Dk.new n).now.length = n.toNat := by simp [Dk.new]
  refine ⟨by decide, ⟨by decide, by decide⟩, ⟨by decide, by decide⟩, fun s hs => absurd hs (List.not_mem_nil), ?_, ?_, fun i _ => ?_⟩
  · show (formatZ (Dk.new n)).1.now.getD 1 [] = mark1.sec
    rw [hn, set_at (by rw [List.length_set]; omega), if_pos rfl]
  · have e : mkAt (formatZ (Dk.new n)).1 (newW.count + 1) = zs := by
      show (formatZ (Dk.new n)).1.now.getD 0 [] = zs
      rw [hn, set_at (by rw [List.length_set]; omega), if_neg (by decide), set_at (by omega), if_pos rfl]
    rw [e]; exact ⟨rfl, .inl (by decide)⟩
  · rw [chunk_nil (by show ¬ i * 64 < 0; omega)]; exact List.nil_prefix
end Go.Proofs.YtidjhgbdokcphaaGreat

/- Own work: what a crash leaves of a sector: plain data. -/

namespace Go.Proofs.YtidjhgbdokcphaaGreat
open Go

theorem alook_append_none {β : Type} {m m2 : List (Int × β)} {k : Int} (h : alook m k = none) : alook (m ++ m2) k = alook m2 k := by
  induction m with
  | nil => rfl
  | cons x m ih =>
    obtain ⟨a, c⟩ := x
    by_cases hk : k = a
    · subst hk; simp [alook] at h
    · simp only [alook, hk, if_false] at h
      simp only [List.cons_append, alook, hk, if_false]
      exact ih h
theorem alook_append_other {β : Type} {m : List (Int × β)} {k n : Int} {v : β} (h : k ≠ n) : alook (m ++ [(n, v)]) k = alook m k := by
  induction m with
  | nil => simp [alook, h]
  | cons x m ih =>
    obtain ⟨a, c⟩ := x
    simp only [List.cons_append, alook, ih]
def tx (l : List (List UInt8)) (n : Int) : List UInt8 := l.getD n.toNat []
def Dk.orig (δ : Dk) (n : Int) : List UInt8 := (alook δ.old n).getD (tx δ.now n)
theorem tx_set {l : List (List UInt8)} {n m : Int} {s : List UInt8} (hm : 0 ≤ m ∧ m < l.length) (hn : 0 ≤ n) : tx (l.set n.toNat s) m = if m = n then s else tx l m := by
  unfold tx
  simp only [List.getD_eq_getElem?_getD, List.getElem?_set]
  by_cases h : m = n
  · subst h; rw [if_pos rfl, if_pos rfl, if_pos (by omega)]; rfl
  · rw [if_neg (by omega), if_neg h]
theorem take_torn {t o : List UInt8} (ht : t.length = 64) {b c : Nat} (hb : b ≤ 64) : (t.take b ++ o.drop b).take c ++ o.drop c = t.take (min b c) ++ o.drop (min b c) := by
  rcases Nat.le_total c b with h | h
  · rw [Nat.min_eq_right h, List.take_append, List.take_take, Nat.min_eq_left h]
    simp [ht, Nat.min_eq_left hb, h]
  · rw [Nat.min_eq_left h, List.take_append, List.take_take, Nat.min_eq_right h, List.append_assoc]
    congr 1
    simp only [List.length_take, ht, Nat.min_eq_left hb]
    rw [show o.drop c = (o.drop b).drop (c - b) by rw [List.drop_drop]; congr 1; omega, List.take_append_drop]
def Torn (s t o : List UInt8) : Prop := ∃ b : Nat, b ≤ 64 ∧ s = t.take b ++ o.drop b
theorem Torn.new {t o : List UInt8} (ht : t.length = 64) (ho : o.length = 64) : Torn t t o := ⟨64, Nat.le_refl _, by rw [List.take_of_length_le (by omega), List.drop_eq_nil_of_le (by omega), List.append_nil]⟩
theorem Torn.old {t o : List UInt8} : Torn o t o := ⟨0, by omega, by simp⟩
theorem Torn.cut {s t o : List UInt8} (ht : t.length = 64) (h : Torn s t o) {c : Nat} (hc : c ≤ 64) : Torn (s.take c ++ o.drop c) t o := by
  obtain ⟨b, hb, rfl⟩ := h
  exact ⟨min b c, by omega, take_torn ht hb⟩
theorem Dk.Ok.txlen {δ : Dk} (h : δ.Ok) {n : Int} (hn : 0 ≤ n ∧ n < δ.now.length) : (tx δ.now n).length = 64 := getD_mem64 h.sec (by omega)
theorem Dk.Ok.origlen {δ : Dk} (h : δ.Ok) {n : Int} (hn : 0 ≤ n ∧ n < δ.now.length) : (δ.orig n).length = 64 := by
  unfold Dk.orig
  rcases e : alook δ.old n with _ | o
  · exact h.txlen hn
  · exact (h.olds _ (alook_mem e)).1
theorem Dk.crashTo_torn {δ : Dk} (h : δ.Ok) (how : List Int) : ∀ k, k ≤ δ.pend.length → ∀ n : Int, 0 ≤ n ∧ n < δ.now.length → Torn (tx (δ.crashTo how k).now n) (tx δ.now n) (δ.orig n) := by
  intro k
  induction k with
  | zero => exact fun _ n hn => .new (h.txlen hn) (h.origlen hn)
  | succ k ih =>
    intro hk n hn
    have ihn := ih (by omega) n hn
    obtain ⟨q0, q1, q2, o, q3, q4⟩ := Dk.pend_at h (k := k) (by omega)
    obtain ⟨e1, -, -, -, e2⟩ := δ.crashTo_same how k
    rw [Dk.crashTo]
    generalize δ.pend.getD k 0 = m at q0 q1 q2 q3
    generalize fateOf how k = f
    generalize δ.crashTo how k = σ at ihn e1 e2
    have hb : ((f / 3) % 65).toNat ≤ 64 := by omega
    simp only [Dk.crash1, e1, q3, Option.getD_some]
    split
    · rw [tx_set (by omega) q0]
      split
      · rename_i hnm; subst hnm
        have : δ.orig n = o := by simp [Dk.orig, q3]
        rw [this]; exact .old
      · exact ihn
    · split
      · rw [tx_set (by omega) q0]
        split
        · rename_i hnm; subst hnm
          have : δ.orig n = o := by simp [Dk.orig, q3]
          rw [this] at ihn ⊢
          exact ihn.cut (h.txlen hn) hb
        · exact ihn
      · exact ihn
theorem Dk.crash_torn {δ : Dk} (h : δ.Ok) (how : List Int) {n : Int} (hn : 0 ≤ n ∧ n < δ.now.length) : Torn (tx (δ.crash how).now n) (tx δ.now n) (δ.orig n) :=
  Dk.crashTo_torn h how _ (Nat.le_refl _) n hn
end Go.Proofs.YtidjhgbdokcphaaGreat

/- Own work: a log on a disk that is armed: what dies, and what a crash leaves. -/
namespace Go.Proofs.YtidjhgbdokcphaaGreat
open Go

def Dk.calm (δ : Dk) : Dk := { δ with left := 0 }
theorem calm_act {δ : Dk} (hd : δ.dead = false) (h : δ.act.2 = 0) : δ.calm.act = (δ.act.1.calm, 0) ∧ δ.act.1.dead = false := by
  simp only [Dk.act, actE] at h ⊢
  by_cases h1 : δ.left = 0
  · simp [Dk.calm, actD, actL, h1, hd]
  · by_cases h2 : δ.left - 1 > 0
    · have h3 : 1 < δ.left := by omega
      simp [Dk.calm, actD, actL, h1, hd, h3]
    · rw [if_neg h1, if_neg h2] at h; cases h
theorem write_eq {δ : Dk} (hd : δ.dead = false) (n : Int) (s : Bs) : δ.write n s = if δ.has n = false ∨ s.length ≠ 64 then (δ, 20) else (δ.put n s).act := by
  unfold Dk.write; rw [if_neg (by rw [hd]; decide)]
theorem sync_eq {δ : Dk} (hd : δ.dead = false) : δ.sync = if δ.act.2 = 0 then ({ δ.act.1 with old := [] }, 0) else (δ.act.1, δ.act.2) := by
  unfold Dk.sync; rw [if_neg (by rw [hd]; decide)]
theorem calm_write {δ : Dk} (hd : δ.dead = false) {n : Int} {s : Bs} (h : (δ.write n s).2 = 0) : δ.calm.write n s = ((δ.write n s).1.calm, 0) ∧ (δ.write n s).1.dead = false := by
  have hc : δ.calm.dead = false := hd
  rw [write_eq hc, write_eq hd]
  rw [write_eq hd] at h
  by_cases h1 : δ.has n = false ∨ s.length ≠ 64
  · rw [if_pos h1] at h; cases h
  · rw [if_neg h1] at h
    rw [if_neg h1, if_neg (show ¬ (δ.calm.has n = false ∨ s.length ≠ 64) from h1)]
    exact calm_act (δ := δ.put n s) hd h
theorem calm_sync {δ : Dk} (hd : δ.dead = false) (h : δ.sync.2 = 0) : δ.calm.sync = (δ.sync.1.calm, 0) ∧ δ.sync.1.dead = false ∧ δ.sync.1.old = [] := by
  have hc : δ.calm.dead = false := hd
  rw [sync_eq hc, sync_eq hd]
  rw [sync_eq hd] at h
  by_cases h1 : δ.act.2 = 0
  · obtain ⟨q1, q2⟩ := calm_act hd h1
    rw [if_pos h1, q1]
    exact ⟨rfl, q2, rfl⟩
  · rw [if_neg h1] at h; exact absurd h h1
theorem calm_lay : ∀ (f : Nat) (δ : Dk) (area : Int) (all : Bs) (i : Nat), δ.dead = false → (layF f δ area all i).2 = 0 → layF f δ.calm area all i = ((layF f δ area all i).1.calm, 0) ∧ (layF f δ area all i).1.dead = false := by
  intro f
  induction f with
  | zero => intro δ area all i hd _; exact ⟨rfl, hd⟩
  | succ f ih =>
    intro δ area all i hd h
    simp only [layF] at h ⊢
    rw [show halfZ δ.calm = halfZ δ from rfl]
    by_cases h1 : i * 64 < all.length
    · rw [if_pos h1] at h ⊢
      rw [if_pos h1]
      by_cases h2 : (δ.write (2 + area * halfZ δ + i) (laySec all i)).2 = 0
      · rw [if_neg (by rw [h2]; decide)] at h
        obtain ⟨q1, q2⟩ := calm_write hd h2
        rw [q1, if_neg (show ¬ (0 : Int) ≠ 0 by decide), if_neg (show ¬ (δ.write (2 + area * halfZ δ + i) (laySec all i)).2 ≠ 0 by rw [h2]; decide)]
        exact ih _ _ _ _ q2 h
      · rw [if_pos h2] at h; cases h
    · rw [if_neg h1] at h ⊢
      rw [if_neg h1]
      exact ⟨rfl, hd⟩
theorem calm_layZ {δ : Dk} {area : Int} {all : Bs} {frm : Nat} (hd : δ.dead = false) (h : (layZ δ area all frm).2 = 0) : layZ δ.calm area all frm = ((layZ δ area all frm).1.calm, 0) ∧ (layZ δ area all frm).1.dead = false := calm_lay _ _ _ _ _ hd h
theorem calm_next {δ : Dk} {m : Mk} (hd : δ.dead = false) (h : (nextZ δ m).2 = 0) : nextZ δ.calm m = ((nextZ δ m).1.calm, 0) ∧ (nextZ δ m).1.dead = false ∧ (nextZ δ m).1.old = [] := by
  unfold nextZ at h ⊢
  by_cases h1 : (δ.write (m.count % 2) m.sec).2 = 0
  · obtain ⟨q1, q2⟩ := calm_write hd h1
    rw [if_neg (by rw [h1]; decide)] at h
    rw [q1, if_neg (show ¬ (0 : Int) ≠ 0 by decide), if_neg (show ¬ (δ.write (m.count % 2) m.sec).2 ≠ 0 by rw [h1]; decide)]
    by_cases h2 : (δ.write (m.count % 2) m.sec).1.sync.2 = 0
    · obtain ⟨r1, r2, r3⟩ := calm_sync q2 h2
      dsimp only
      rw [r1, if_neg (show ¬ (0 : Int) ≠ 0 by decide), if_neg (show ¬ (δ.write (m.count % 2) m.sec).1.sync.2 ≠ 0 by rw [h2]; decide)]
      exact ⟨rfl, r2, r3⟩
    · rw [if_pos h2] at h; cases h
  · rw [if_pos h1] at h; cases h
theorem calm_seal {δ : Dk} {ω : Wl} {area : Int} {l : List Bs} (hd : δ.dead = false) (h : (sealZ δ ω area l).2.2 = 0) : sealZ δ.calm ω area l = ((sealZ δ ω area l).1.calm, (sealZ δ ω area l).2) ∧ (sealZ δ ω area l).1.dead = false ∧ (sealZ δ ω area l).1.old = [] := by
  unfold sealZ at h ⊢
  by_cases h1 : δ.sync.2 = 0
  · obtain ⟨q1, q2, -⟩ := calm_sync hd h1
    rw [if_neg (by rw [h1]; decide)] at h
    rw [q1, if_neg (show ¬ (0 : Int) ≠ 0 by decide), if_neg (show ¬ δ.sync.2 ≠ 0 by rw [h1]; decide)]
    dsimp only
    by_cases h2 : (nextZ δ.sync.1 (ω.mark area l ω.a ω.b)).2 = 0
    · obtain ⟨r1, r2, r3⟩ := calm_next q2 h2
      rw [r1, if_neg (show ¬ (0 : Int) ≠ 0 by decide), if_neg (show ¬ (nextZ δ.sync.1 (ω.mark area l ω.a ω.b)).2 ≠ 0 by rw [h2]; decide)]
      exact ⟨rfl, r2, r3⟩
    · rw [if_pos h2] at h; cases h
  · rw [if_pos h1] at h; cases h
theorem seal_err (δ : Dk) (ω : Wl) (area : Int) (l : List Bs) : (sealZ δ ω area l).2.2 = 0 ∨ (sealZ δ ω area l).2.2 = 2 := by
  unfold sealZ; split
  · exact .inr rfl
  · split
    · exact .inr rfl
    · exact .inl rfl
theorem dbt_of {r : Dk × Wl × Int} (h : r.2.2 = 0) : dbt r = r := by unfold dbt; rw [if_neg (by rw [h]; decide)]
theorem dbt_err (r : Dk × Wl × Int) : (dbt r).2.2 = r.2.2 ∧ (dbt r).1 = r.1 := by unfold dbt; split <;> exact ⟨rfl, rfl⟩
theorem calm_dseal {δ : Dk} {ω : Wl} {area : Int} {l : List Bs} (hd : δ.dead = false) (h : (dbt (sealZ δ ω area l)).2.2 ≠ 2) : dbt (sealZ δ.calm ω area l) = ((dbt (sealZ δ ω area l)).1.calm, (dbt (sealZ δ ω area l)).2) ∧ (dbt (sealZ δ ω area l)).1.dead = false ∧ (dbt (sealZ δ ω area l)).1.old = [] ∧ (sealZ δ ω area l).2.2 = 0 := by
  have h0 : (sealZ δ ω area l).2.2 = 0 := by
    rcases seal_err δ ω area l with h1 | h1
    · exact h1
    · rw [(dbt_err _).1] at h; exact absurd h1 h
  obtain ⟨q1, q2, q3⟩ := calm_seal hd h0
  rw [dbt_of h0, q1]
  exact ⟨dbt_of h0, q2, q3, h0⟩
structure Dur (δ δ0 : Dk) (area : Int) (L : Bs) : Prop where
  len : δ.now.length = δ0.now.length
  mark : ∀ k : Nat, k < 2 → δ.now.getD k [] = δ0.now.getD k []
  marks : ∀ k : Nat, k < 2 → alook δ.old (k : Int) = none
  here : Area δ area L
  olds : ∀ i : Nat, (i : Int) < halfZ δ → ∀ o, alook δ.old (2 + area * halfZ δ + (i : Int)) = some o → chunk L i <+: o
theorem alook_aset {β : Type} {m : List (Int × β)} {n k : Int} {v : β} (hn : alook m n = none) : alook (aset m n v) k = if k = n then some v else alook m k := by
  rw [aset_none hn]
  by_cases hk : k = n
  · subst hk; rw [alook_append_none hn, if_pos rfl]; simp [alook]
  · rw [alook_append_other hk, if_neg hk]
theorem put_old {δ : Dk} {n k : Int} {s : Bs} : alook (δ.put n s).old k = if alook δ.old n = none ∧ k = n then some (δ.now.getD n.toNat []) else alook δ.old k := by
  unfold Dk.put
  dsimp only
  rcases h : alook δ.old n with _ | o
  · rw [if_neg (by simp), alook_aset h]
    by_cases hk : k = n
    · rw [if_pos hk, if_pos ⟨rfl, hk⟩]
    · rw [if_neg hk, if_neg (fun g => hk g.2)]
  · rw [if_pos (by simp), if_neg (fun g => by cases g.1)]
theorem write_put (δ : Dk) (n : Int) (s : Bs) : ((δ.write n s).1.now = δ.now ∧ (δ.write n s).1.old = δ.old) ∨ ((δ.write n s).1.now = δ.now.set n.toNat s ∧ (δ.write n s).1.old = (δ.put n s).old) := by
  unfold Dk.write
  split
  · exact .inl ⟨rfl, rfl⟩
  · split
    · exact .inl ⟨rfl, rfl⟩
    · exact .inr ⟨rfl, rfl⟩
theorem sync_old (δ : Dk) : δ.sync.1.old = δ.old ∨ δ.sync.1.old = [] := by
  unfold Dk.sync
  split
  · exact .inl rfl
  · split
    · exact .inr rfl
    · exact .inl rfl
theorem Dur.of {δ δ' δ0 : Dk} {area : Int} {L : Bs} (h : Dur δ δ0 area L) (h1 : δ'.now = δ.now) (h2 : δ'.old = δ.old ∨ δ'.old = []) : Dur δ' δ0 area L := by
  have hh : halfZ δ' = halfZ δ := halfZ_of (by rw [h1])
  refine ⟨by rw [h1]; exact h.len, fun k hk => by rw [h1]; exact h.mark k hk, fun k hk => ?_, fun i hi => ?_, fun i hi o ho => ?_⟩
  · rcases h2 with h2 | h2 <;> rw [h2]
    · exact h.marks k hk
    · rfl
  · rw [h1, hh]; rw [hh] at hi; exact h.here i hi
  · rw [hh] at hi ho
    rcases h2 with h2 | h2 <;> rw [h2] at ho
    · exact h.olds i hi o ho
    · cases ho
theorem Dur.write {δ δ0 : Dk} {area : Int} {L : Bs} (h : Dur δ δ0 area L) (ha : 0 ≤ area) {n : Int} {s : Bs} (hn : 2 ≤ n ∧ n < δ.now.length) (hs : ∀ i : Nat, (i : Int) < halfZ δ → n = 2 + area * halfZ δ + i → chunk L i <+: s) : Dur (δ.write n s).1 δ0 area L := by
  rcases write_put δ n s with ⟨h1, h2⟩ | ⟨h1, h2⟩
  · exact h.of h1 (.inl h2)
  have hlen : (δ.write n s).1.now.length = δ.now.length := by rw [h1, List.length_set]
  have hh := halfZ_of hlen
  have hp := half_pos (δ := δ) (by omega)
  have hm : 0 ≤ area * halfZ δ := Int.mul_nonneg ha hp
  refine ⟨by rw [hlen]; exact h.len, fun k hk => ?_, fun k hk => ?_, fun i hi => ?_, fun i hi o ho => ?_⟩
  · rw [h1, set_at (by omega), if_neg (by omega)]; exact h.mark k hk
  · rw [h2, put_old, if_neg (by omega)]; exact h.marks k hk
  · rw [hh] at hi ⊢
    rw [h1, set_at (by omega)]
    split
    · exact hs i hi (by omega)
    · exact h.here i hi
  · rw [hh] at hi ho
    rw [h2, put_old] at ho
    by_cases hc : alook δ.old n = none ∧ 2 + area * halfZ δ + (i : Int) = n
    · rw [if_pos hc] at ho
      have := h.here i hi
      rw [hc.2, show δ.now.getD n.toNat [] = o by simpa using ho] at this
      exact this
    · rw [if_neg hc] at ho; exact h.olds i hi o ho
theorem Dur.lay : ∀ (f : Nat) {δ δ0 : Dk} {area a2 : Int} {L all : Bs} (i : Nat), Dur δ δ0 area L → 0 ≤ area ∧ area ≤ 1 → 0 ≤ a2 ∧ a2 ≤ 1 → 2 ≤ δ.now.length → (all.length : Int) ≤ 64 * halfZ δ → (a2 = area → L <+: all) → Dur (layF f δ a2 all i).1 δ0 area L := by
  intro f
  induction f with
  | zero => intro δ δ0 area a2 L all i h _ _ _ _ _; exact h
  | succ f ih =>
    intro δ δ0 area a2 L all i h ha ha2 hn hl hp
    simp only [layF]
    split
    · rename_i hi
      have hr := lay_in ha2 hn hl hi
      have hlen : (δ.write (2 + a2 * halfZ δ + i) (laySec all i)).1.now.length = δ.now.length := (write_keeps _ _ _).1
      have hw : Dur (δ.write (2 + a2 * halfZ δ + i) (laySec all i)).1 δ0 area L := by
        refine h.write ha.1 hr fun j hj e => ?_
        have hii : (i : Int) < halfZ δ := by omega
        have h0 := half_pos (δ := δ) hn
        have hj2 : j = i ∧ a2 = area := by
          generalize halfZ δ = k at *
          rcases (by omega : a2 = 0 ∨ a2 = 1) with rfl | rfl <;> rcases (by omega : area = 0 ∨ area = 1) with rfl | rfl <;> omega
        rw [hj2.1]
        exact (chunk_pre (hp hj2.2) i).trans (chunk_lay _ _)
      split
      · exact hw
      · exact ih (i + 1) hw ha ha2 (by rw [hlen]; exact hn) (by rw [halfZ_of hlen]; exact hl) hp
    · exact h
theorem pre_torn {P A B : Bs} {b : Nat} (h1 : P <+: A) (h2 : P <+: B) (hb : b ≤ A.length) : P <+: A.take b ++ B.drop b := by
  obtain ⟨r, rfl⟩ := h1
  obtain ⟨t, rfl⟩ := h2
  rcases Nat.le_total P.length b with h | h
  · rw [List.take_append, List.take_of_length_le h, List.append_assoc]; exact List.prefix_append _ _
  · rw [List.take_append_of_le_length h, List.drop_append_of_le_length h, ← List.append_assoc, List.take_append_drop]; exact List.prefix_append _ _
theorem torn_get {A B : Bs} {b : Nat} (ha : A.length = 64) (hb : b ≤ 64) (j : Nat) : (A.take b ++ B.drop b)[j]? = if j < b then A[j]? else B[j]? := by
  split
  · rename_i h
    rw [List.getElem?_append_left (by rw [List.length_take]; omega), List.getElem?_take_of_lt h]
  · rename_i h
    rw [List.getElem?_append_right (by rw [List.length_take]; omega), List.length_take, List.getElem?_drop]
    congr 1; omega
theorem sub_get (s : Bs) (j : Nat) : (sub s 2 6)[j]? = if j < 4 then s[2 + j]? else none := by
  unfold sub
  rw [List.getElem?_drop, List.getElem?_take]
  by_cases h : j < 4
  · rw [if_pos (by omega), if_pos h]
  · rw [if_neg (by omega), if_neg h]
theorem tail_torn {c : Int} {X T : Bs} {m : Mk} (hX : TailC c X) (hm : m.count = c + 1) (h : Torn T m.sec X) : T = m.sec ∨ TailC c T := by
  obtain ⟨b, hb, rfl⟩ := h
  have hml := sec_len4 m
  have hms := sec_sub m
  have hmd := sec_drop m
  obtain ⟨hxl, hx⟩ := hX
  have hl : (m.sec.take b ++ X.drop b).length = 64 := by rw [List.length_append, List.length_take, List.length_drop]; omega
  have get := torn_get (B := X) hml hb
  rcases Nat.lt_or_ge 60 b with h6 | h6
  · have hs : sub (m.sec.take b ++ X.drop b) 2 6 = beB (c + 1) 4 := by
      rw [← hm, ← hms]
      apply List.ext_getElem?
      intro j
      rw [sub_get, sub_get]
      split
      · rw [get, if_pos (by omega)]
      · rfl
    by_cases he : (m.sec.take b ++ X.drop b).drop 60 = beB (c + 1) 4
    · left
      have h1 := List.take_append_drop 60 (m.sec.take b ++ X.drop b)
      have h2 := List.take_append_drop 60 m.sec
      rw [he] at h1
      rw [hmd, hm] at h2
      refine h1.symm.trans (Eq.trans ?_ h2)
      congr 1
      rw [List.take_append_of_le_length (by rw [List.length_take]; omega), List.take_take, Nat.min_eq_left (by omega)]
    · exact .inr ⟨hl, .inr ⟨hs, he⟩⟩
  · right
    have hd : (m.sec.take b ++ X.drop b).drop 60 = X.drop 60 := by
      apply List.ext_getElem?
      intro j
      rw [List.getElem?_drop, List.getElem?_drop, get, if_neg (by omega)]
    refine ⟨hl, ?_⟩
    rw [hd]
    rcases hx with h1 | ⟨h1, h2⟩
    · exact .inl h1
    · refine .inr ⟨?_, h2⟩
      apply List.ext_getElem?
      intro j
      rw [sub_get]
      have e1 : (beB (c + 1) 4)[j]? = (sub X 2 6)[j]? := by rw [h1]
      have e2 : (beB (c + 1) 4)[j]? = (sub m.sec 2 6)[j]? := by rw [hms, hm]
      rw [sub_get] at e1 e2
      by_cases hj : j < 4
      · rw [if_pos hj] at e1 e2 ⊢
        rw [get]
        split
        · exact e2.symm
        · exact e1.symm
      · rw [if_neg hj] at e1 ⊢
        exact e1.symm
def Wl.syn (ω : Wl) : Wl := ⟨ω.recs.take ω.synced.toNat, ω.synced, ω.area, ω.count, ω.a, ω.b, false⟩
structure Lv (δ : Dk) (ω : Wl) (N : Int) : Prop where
  dead : δ.dead = false
  well : Well δ.calm ω N
  kp : Kp δ ω
  dur : Dur δ δ ω.area (laidZ (ω.recs.take ω.synced.toNat))
theorem Kp.calm {δ δ' : Dk} {ω : Wl} (h : Kp δ ω) (e : δ'.now = δ.now) : Kp δ' ω := by
  obtain ⟨h1, h2, h3, h4, h5, h6, h7⟩ := h
  have hh : halfZ δ' = halfZ δ := halfZ_of (by rw [e])
  refine ⟨h1, h2, h3, h4, ?_, ?_, fun i hi => ?_⟩
  · unfold mkAt; rw [e]; exact h5
  · unfold mkAt; rw [e]; exact h6
  · rw [e, hh]; rw [hh] at hi; exact h7 i hi
theorem syn_recs {ω : Wl} (h : 0 ≤ ω.synced ∧ ω.synced ≤ ω.recs.length) : ω.syn.recs.take ω.syn.synced.toNat = ω.recs.take ω.synced.toNat ∧ (ω.syn.recs.length : Int) = ω.synced := by
  unfold Wl.syn
  dsimp only
  refine ⟨by rw [List.take_take, Nat.min_self], by rw [List.length_take]; omega⟩
theorem back {σ : Dk} {ω : Wl} {N : Int} (hd : Al σ) (ho : σ.old = []) (hdb : ω.doubt = false) (hfull : ω.synced = ω.recs.length) (size : 2 ≤ σ.now.length ∧ σ.now.length ≤ 32768) (acts : σ.acts ≤ N) (area : 0 ≤ ω.area ∧ ω.area ≤ 1) (count : 1 ≤ ω.count ∧ ω.count ≤ 4294967295)
    (ha : 0 ≤ ω.a ∧ ω.a ≤ 9223372036854775807) (hb : 0 ≤ ω.b ∧ ω.b ≤ 9223372036854775807) (hl : ∀ s ∈ ω.recs, s.length ≤ 4000) (fits : ((laidZ ω.recs).length : Int) ≤ 64 * halfZ σ)
    (this : mkAt σ ω.count = ω.now.sec) (other : TailC ω.count (mkAt σ (ω.count + 1))) (hA : Area σ ω.area (laidZ ω.recs)) (hok : σ.Ok) : Lv σ ω N ∧ openZ σ = some ω := by
  have hk : Kp σ ω := ⟨count.1, ha, hb, hl, this, other, hA⟩
  have hw : Well σ ω N := ⟨hd, hdb, size, acts, area, ⟨by omega, count.2⟩, ⟨by omega, by omega⟩, fits⟩
  have hc : σ.calm = σ := by
    obtain ⟨n, o, a, l, d⟩ := σ
    have : l = 0 := hd.left
    subst this; rfl
  refine ⟨⟨hd.dead, by rw [hc]; exact hw, hk, ⟨rfl, fun _ _ => rfl, fun k _ => by rw [ho]; rfl, hA.less (laid_pre _ _), fun i _ o h => by rw [ho] at h; cases h⟩⟩, ?_⟩
  rw [opened hk hw hok]
  obtain ⟨r, sy, ar, ct, x, y, db⟩ := ω
  dsimp only at hfull hdb ⊢
  subst hdb
  rw [hfull, Int.toNat_natCast, List.take_length]
theorem crash_al (δ : Dk) (how : List Int) : Al (δ.crash how) ∧ (δ.crash how).old = [] ∧ (δ.crash how).acts = δ.acts ∧ (δ.crash how).now.length = δ.now.length := by
  have h := δ.crashTo_same how δ.pend.length
  refine ⟨⟨rfl, rfl⟩, rfl, h.2.1, ?_⟩
  exact h.2.2.2.2
theorem crash_same {δ : Dk} (hok : δ.Ok) (how : List Int) {n : Int} (hn : 0 ≤ n ∧ n < δ.now.length) (h : alook δ.old n = none) : (δ.crash how).now.getD n.toNat [] = δ.now.getD n.toNat [] := by
  obtain ⟨b, hb, e⟩ := Dk.crash_torn hok how hn
  have h1 : δ.orig n = tx δ.now n := by unfold Dk.orig; rw [h]; rfl
  rw [h1, List.take_append_drop] at e
  exact e
theorem crash_area {δ δ0 : Dk} {area : Int} {L : Bs} (h : Dur δ δ0 area L) (hok : δ.Ok) (hn : 2 ≤ δ.now.length) (ha : 0 ≤ area ∧ area ≤ 1) (how : List Int) : Area (δ.crash how) area L := by
  have hlen := (crash_al δ how).2.2.2
  intro i hi
  rw [halfZ_of hlen] at hi ⊢
  have hix := area_idx hn ha hi
  obtain ⟨b, hb, e⟩ := Dk.crash_torn hok how hix
  have h1 := h.here i hi
  show chunk L i <+: tx (δ.crash how).now _
  rw [e]
  refine pre_torn h1 ?_ (by rw [hok.txlen hix]; exact hb)
  unfold Dk.orig
  rcases ho : alook δ.old (2 + area * halfZ δ + (i : Int)) with _ | o
  · exact h1
  · exact h.olds i hi o ho
theorem crash_old {δ δ' : Dk} {ω : Wl} {N M : Int} (h : Lv δ ω N) (hD : Dur δ' δ ω.area (laidZ (ω.recs.take ω.synced.toNat))) (hok : δ'.Ok) (hM : δ'.acts ≤ M) (how : List Int) : Lv (δ'.crash how) ω.syn M ∧ openZ (δ'.crash how) = some ω.syn := by
  have hw := h.well
  obtain ⟨c1, c2, c3, c4⟩ := crash_al δ' how
  have hsy := syn_recs hw.synced
  have hsz : 2 ≤ δ.now.length ∧ δ.now.length ≤ 32768 := hw.size
  have hl1 : (δ'.crash how).now.length = δ.now.length := c4.trans hD.len
  have hfit : ((laidZ ω.recs).length : Int) ≤ 64 * halfZ δ := hw.fits
  have htl := laid_take_le ω.recs ω.synced.toNat
  have hmk : ∀ c : Int, mkAt (δ'.crash how) c = mkAt δ c := by
    intro c
    unfold mkAt
    have e : ((c % 2).toNat : Int) = c % 2 := by omega
    have := hD.marks (c % 2).toNat (by omega)
    rw [e] at this
    rw [crash_same hok how ⟨by omega, by have := hD.len; omega⟩ this]
    exact hD.mark _ (by omega)
  refine back c1 c2 rfl hsy.2.symm (by rw [hl1]; exact hsz) (by rw [c3]; exact hM) hw.area ⟨h.kp.cnt, hw.count.2⟩ h.kp.a h.kp.b (fun s hs => h.kp.long s (List.mem_of_mem_take hs)) ?_ ?_ ?_ ?_ (hok.crashed how)
  · rw [halfZ_of hl1]; show ((laidZ (ω.recs.take ω.synced.toNat)).length : Int) ≤ _; omega
  · rw [hmk]
    show mkAt δ ω.count = Mk.sec ⟨ω.count, ω.area, (laidZ (ω.syn.recs.take ω.syn.synced.toNat)).length, ω.synced, ω.a, ω.b⟩
    rw [hsy.1]; exact h.kp.this
  · show TailC ω.count (mkAt (δ'.crash how) (ω.count + 1))
    rw [hmk]; exact h.kp.other
  · exact crash_area hD hok (by have := hD.len; omega) hw.area how
theorem crash_mark {δ δ1 δ' : Dk} {ω ω1 : Wl} {N M : Int} (h : Lv δ ω N) (hD : Dur δ1 δ ω.area (laidZ (ω.recs.take ω.synced.toNat))) (hD1 : Dur δ1 δ ω1.area (laidZ ω1.recs)) (hok : δ'.Ok) (hM : δ'.acts ≤ M)
    (hnow : δ'.now = δ1.now.set ((ω.count + 1) % 2).toNat ω1.now.sec) (hold : ∀ k : Int, alook δ'.old k = if k = (ω.count + 1) % 2 then some (δ1.now.getD ((ω.count + 1) % 2).toNat []) else alook δ1.old k)
    (hc : ω1.count = ω.count + 1) (hc2 : ω1.count ≤ 4294967295) (hdb : ω1.doubt = false) (hfull : ω1.synced = ω1.recs.length) (har : 0 ≤ ω1.area ∧ ω1.area ≤ 1) (ha : 0 ≤ ω1.a ∧ ω1.a ≤ 9223372036854775807) (hb : 0 ≤ ω1.b ∧ ω1.b ≤ 9223372036854775807) (hl : ∀ s ∈ ω1.recs, s.length ≤ 4000) (fits : ((laidZ ω1.recs).length : Int) ≤ 64 * halfZ δ) (how : List Int) :
    (Lv (δ'.crash how) ω.syn M ∧ openZ (δ'.crash how) = some ω.syn) ∨ (Lv (δ'.crash how) ω1 M ∧ openZ (δ'.crash how) = some ω1) := by
  have hw := h.well
  obtain ⟨c1, c2, c3, c4⟩ := crash_al δ' how
  have hsy := syn_recs hw.synced
  have hsz : 2 ≤ δ.now.length ∧ δ.now.length ≤ 32768 := hw.size
  have hlen : δ'.now.length = δ1.now.length := by rw [hnow, List.length_set]
  have hl0 := hD.len
  have hl1 : (δ'.crash how).now.length = δ.now.length := by rw [c4, hlen, hl0]
  have hfit : ((laidZ ω.recs).length : Int) ≤ 64 * halfZ δ := hw.fits
  have htl := laid_take_le ω.recs ω.synced.toNat
  have hcnt := h.kp.cnt
  -- what is not the new mark's sector
  have area2 : ∀ {area : Int} {L : Bs}, 0 ≤ area ∧ area ≤ 1 → Dur δ1 δ area L → Area (δ'.crash how) area L := by
    intro area L hra hd i hi
    have hh : halfZ (δ'.crash how) = halfZ δ1 := by rw [halfZ_of (c4.trans hlen)]
    rw [hh] at hi ⊢
    have hix := area_idx (δ := δ1) (by omega) hra hi
    have h0 := half_pos (δ := δ1) (by omega)
    have hmm : 0 ≤ area * halfZ δ1 := Int.mul_nonneg hra.1 h0
    obtain ⟨b, hb', e⟩ := Dk.crash_torn hok how (n := 2 + area * halfZ δ1 + (i : Int)) ⟨by omega, by rw [hlen]; omega⟩
    have h1 : chunk L i <+: tx δ'.now (2 + area * halfZ δ1 + (i : Int)) := by
      unfold tx; rw [hnow, set_at (by omega), if_neg (by omega)]; exact hd.here i hi
    show chunk L i <+: tx (δ'.crash how).now _
    rw [e]
    refine pre_torn h1 ?_ (by rw [hok.txlen ⟨by omega, by rw [hlen]; omega⟩]; exact hb')
    unfold Dk.orig
    rw [hold, if_neg (by omega)]
    rcases ho : alook δ1.old (2 + area * halfZ δ1 + (i : Int)) with _ | o
    · exact h1
    · exact hd.olds i hi o ho
  have hcur : mkAt (δ'.crash how) ω.count = mkAt δ ω.count := by
    unfold mkAt
    have e : ((ω.count % 2).toNat : Int) = ω.count % 2 := by omega
    have := hD.marks (ω.count % 2).toNat (by omega)
    rw [e] at this
    rw [crash_same hok how ⟨by omega, by omega⟩ (by rw [hold, if_neg (by omega)]; exact this), hnow, set_at (by omega), if_neg (by omega)]
    exact hD.mark _ (by omega)
  have htorn : Torn (mkAt (δ'.crash how) (ω.count + 1)) ω1.now.sec (mkAt δ (ω.count + 1)) := by
    obtain ⟨b, hb', e⟩ := Dk.crash_torn hok how (n := (ω.count + 1) % 2) ⟨by omega, by omega⟩
    refine ⟨b, hb', ?_⟩
    unfold mkAt
    show tx (δ'.crash how).now _ = _
    rw [e]
    congr 1
    · unfold tx; rw [hnow, set_at (by omega), if_pos rfl]
    · unfold Dk.orig
      rw [hold, if_pos rfl]
      dsimp only [Option.getD_some]
      rw [hD.mark _ (by omega)]
  rcases tail_torn h.kp.other (show ω1.now.count = ω.count + 1 from hc) htorn with ht | ht
  · right
    refine back c1 c2 hdb hfull (by rw [hl1]; exact hsz) (by rw [c3]; exact hM) har ⟨by omega, hc2⟩ ha hb hl (by rw [halfZ_of hl1]; exact fits) (by rw [hc]; exact ht) ?_ (area2 har hD1) (hok.crashed how)
    have e : mkAt (δ'.crash how) (ω1.count + 1) = mkAt (δ'.crash how) ω.count := by unfold mkAt; congr 2; omega
    rw [e, hcur, h.kp.this, hc]
    exact ⟨sec_len4 _, .inl (by rw [sec_drop]; show beB ω.count 4 = _; congr 1; omega)⟩
  · left
    refine back c1 c2 rfl hsy.2.symm (by rw [hl1]; exact hsz) (by rw [c3]; exact hM) hw.area ⟨hcnt, hw.count.2⟩ h.kp.a h.kp.b (fun s hs => h.kp.long s (List.mem_of_mem_take hs)) ?_ ?_ ht (area2 hw.area hD) (hok.crashed how)
    · rw [halfZ_of hl1]; show ((laidZ (ω.recs.take ω.synced.toNat)).length : Int) ≤ _; omega
    · show mkAt (δ'.crash how) ω.count = Mk.sec ⟨ω.count, ω.area, (laidZ (ω.syn.recs.take ω.syn.synced.toNat)).length, ω.synced, ω.a, ω.b⟩
      rw [hcur, hsy.1]; exact h.kp.this
end Go.Proofs.YtidjhgbdokcphaaGreat

/- Own work: the calls of a log on a disk that may die: what they leave. -/

namespace Go.Proofs.YtidjhgbdokcphaaGreat
open Go

theorem Dur.re {δ δ0 : Dk} {area : Int} {L : Bs} (h : Dur δ δ0 area L) : Dur δ δ area L := ⟨rfl, fun _ _ => rfl, h.marks, h.here, h.olds⟩
theorem lv_arm {δ : Dk} {ω : Wl} {N : Int} (h : Lv δ ω N) {n : Int} (hn : 0 ≤ n) : (δ.arm n).2 = 0 ∧ Lv (δ.arm n).1 ω N := by
  have e : δ.arm n = ({ δ with left := n }, 0) := by unfold Dk.arm; rw [if_neg (by rw [h.dead]; decide), if_neg (by omega)]
  rw [e]
  exact ⟨rfl, h.dead, h.well, h.kp.calm rfl, (h.dur.of (δ' := { δ with left := n }) rfl (.inl rfl)).re⟩
theorem dur_clean {δ : Dk} {ω : Wl} (h : Kp δ ω) (ho : δ.old = []) : Dur δ δ ω.area (laidZ (ω.recs.take ω.synced.toNat)) :=
  ⟨rfl, fun _ _ => rfl, fun k _ => by rw [ho]; rfl, h.area.less (laid_pre _ _), fun i _ o g => by rw [ho] at g; cases g⟩
theorem next_dead {δ : Dk} {m : Mk} (hd : δ.dead = false) (hn : 2 ≤ δ.now.length) (hm : alook δ.old (m.count % 2) = none) (h : (nextZ δ m).2 ≠ 0) :
    (nextZ δ m).1.now = δ.now.set (m.count % 2).toNat m.sec ∧ ∀ k : Int, alook (nextZ δ m).1.old k = if k = m.count % 2 then some (δ.now.getD (m.count % 2).toNat []) else alook δ.old k := by
  have hh : δ.has (m.count % 2) = true := by simp [Dk.has]; omega
  have e : δ.write (m.count % 2) m.sec = (δ.put (m.count % 2) m.sec).act := by unfold Dk.write; rw [if_neg (by rw [hd]; decide), if_neg (by rw [hh]; simp [sec_len4])]
  have hold : ∀ k : Int, alook (δ.put (m.count % 2) m.sec).old k = if k = m.count % 2 then some (δ.now.getD (m.count % 2).toNat []) else alook δ.old k := by
    intro k
    rw [put_old]
    by_cases hk : k = m.count % 2
    · rw [if_pos hk, if_pos ⟨hm, hk⟩]
    · rw [if_neg hk, if_neg (fun g => hk g.2)]
  unfold nextZ at h ⊢
  rw [e] at h ⊢
  by_cases h1 : (δ.put (m.count % 2) m.sec).act.2 ≠ 0
  · rw [if_pos h1]; exact ⟨rfl, hold⟩
  · rw [if_neg h1] at h ⊢
    by_cases h2 : (δ.put (m.count % 2) m.sec).act.1.sync.2 ≠ 0
    · rw [if_pos h2]
      refine ⟨(sync_keeps _).1, fun k => ?_⟩
      have : (δ.put (m.count % 2) m.sec).act.1.sync.1.old = (δ.put (m.count % 2) m.sec).act.1.old := by
        unfold Dk.sync at h2 ⊢
        split
        · rfl
        · rename_i h3
          rw [if_neg h3] at h2
          split
          · rename_i h4; rw [if_pos h4] at h2; exact absurd rfl h2
          · rfl
      dsimp only
      rw [this]; exact hold k
    · rw [if_neg h2] at h; exact absurd rfl h
def Wl.sealed (ω : Wl) (area : Int) (l : List Bs) : Wl := { ω with recs := l, synced := l.length, area := area, count := ω.count + 1 }
theorem sealed_now (ω : Wl) (area : Int) (l : List Bs) : (ω.sealed area l).now = ω.mark area l ω.a ω.b := by
  unfold Wl.now Wl.sealed Wl.mark
  dsimp only
  rw [Int.toNat_natCast, List.take_length]
theorem seal_live {δ : Dk} {ω : Wl} {area : Int} {l : List Bs} (h : (dbt (sealZ δ ω area l)).2.2 ≠ 2) : (dbt (sealZ δ ω area l)).2 = (ω.sealed area l, 0) := by
  have h0 : (sealZ δ ω area l).2.2 = 0 := by
    rcases seal_err δ ω area l with h1 | h1
    · exact h1
    · rw [(dbt_err _).1] at h; exact absurd h1 h
  rw [dbt_of h0]
  unfold sealZ at h0 ⊢
  split
  · rename_i h1; rw [if_pos h1] at h0; cases h0
  · rename_i h1; rw [if_neg h1] at h0
    split
    · rename_i h2; rw [if_pos h2] at h0; cases h0
    · rfl
theorem seal_dead {δ δ1 : Dk} {ω : Wl} {N : Int} {area : Int} {l : List Bs} (h : Lv δ ω N) (hD : Dur δ1 δ ω.area (laidZ (ω.recs.take ω.synced.toNat))) (hd1 : δ1.dead = false) (hac : δ1.acts ≤ N + 1900000) (har : 0 ≤ area ∧ area ≤ 1) (hA : Area δ1 area (laidZ l)) (hl : ((laidZ l).length : Int) ≤ 64 * halfZ δ) (hL : ∀ s ∈ l, s.length ≤ 4000) (hc : ω.count ≠ 4294967295)
    (he : (dbt (sealZ δ1 ω area l)).2.2 = 2) (hok : (dbt (sealZ δ1 ω area l)).1.Ok) (how : List Int) :
    (Lv ((dbt (sealZ δ1 ω area l)).1.crash how) ω.syn (N + 2000000) ∧ openZ ((dbt (sealZ δ1 ω area l)).1.crash how) = some ω.syn) ∨ (Lv ((dbt (sealZ δ1 ω area l)).1.crash how) (ω.sealed area l) (N + 2000000) ∧ openZ ((dbt (sealZ δ1 ω area l)).1.crash how) = some (ω.sealed area l)) := by
  obtain ⟨b1, b2⟩ := dbt_err (sealZ δ1 ω area l)
  rw [b1] at he
  rw [b2] at hok ⊢
  have sk := sync_keeps δ1
  have nk := nextZ_keeps δ1.sync.1 (ω.mark area l ω.a ω.b)
  have hsz : 2 ≤ δ.now.length ∧ δ.now.length ≤ 32768 := h.well.size
  have hl0 := hD.len
  have hcnt := h.kp.cnt
  have hct := h.well.count
  unfold sealZ at he hok ⊢
  by_cases h1 : δ1.sync.2 ≠ 0
  · rw [if_pos h1] at hok ⊢
    exact .inl (crash_old h (hD.of sk.1 (sync_old δ1)) hok (by omega) how)
  · rw [if_neg h1] at he hok ⊢
    have h1' : δ1.sync.2 = 0 := by omega
    obtain ⟨-, q2, q3⟩ := calm_sync hd1 h1'
    by_cases h2 : (nextZ δ1.sync.1 (ω.mark area l ω.a ω.b)).2 ≠ 0
    · rw [if_pos h2] at hok ⊢
      obtain ⟨n1, n2⟩ := next_dead (m := ω.mark area l ω.a ω.b) q2 (by rw [sk.1]; omega) (by rw [q3]; rfl) h2
      have hDs : Dur δ1.sync.1 δ ω.area (laidZ (ω.recs.take ω.synced.toNat)) := hD.of sk.1 (.inr q3)
      have hA2 : Area δ1.sync.1 area (laidZ l) := by
        intro i hi
        have hh : halfZ δ1.sync.1 = halfZ δ1 := halfZ_of (by rw [sk.1])
        rw [hh] at hi ⊢
        rw [sk.1]; exact hA i hi
      refine crash_mark (δ1 := δ1.sync.1) (ω1 := ω.sealed area l) h hDs ⟨hDs.len, hDs.mark, hDs.marks, hA2, fun i _ o g => by rw [q3] at g; cases g⟩ hok (by show (nextZ δ1.sync.1 (ω.mark area l ω.a ω.b)).1.acts ≤ _; omega) ?_ ?_ rfl (by show ω.count + 1 ≤ _; omega) h.well.doubt rfl har h.kp.a h.kp.b hL hl how
      · rw [sealed_now]; exact n1
      · exact n2
    · rw [if_neg h2] at he; cases he
def Wl.marked (ω : Wl) (a b : Int) : Wl := { ω.syn with a := a, b := b, count := ω.count + 1 }
theorem marked_now {ω : Wl} (a b : Int) (h : 0 ≤ ω.synced ∧ ω.synced ≤ ω.recs.length) : (ω.marked a b).now = ω.mark ω.area (ω.recs.take ω.synced.toNat) a b := by
  have e := syn_recs h
  unfold Wl.now Wl.mark Wl.marked
  show (⟨ω.count + 1, ω.area, ((laidZ (ω.syn.recs.take ω.syn.synced.toNat)).length : Int), ω.synced, a, b⟩ : Mk) = ⟨ω.count + 1, ω.area, ((laidZ (ω.recs.take ω.synced.toNat)).length : Int), ((ω.recs.take ω.synced.toNat).length : Int), a, b⟩
  rw [e.1, show ((ω.recs.take ω.synced.toNat).length : Int) = ω.synced from e.2]
theorem setm_dead {δ : Dk} {ω : Wl} {N a b : Int} (h : Lv δ ω N) (ha : 0 ≤ a ∧ a ≤ 9223372036854775807) (hb : 0 ≤ b ∧ b ≤ 9223372036854775807) (hc : ω.count ≠ 4294967295) (he : (nextZ δ (ω.mark ω.area (ω.recs.take ω.synced.toNat) a b)).2 ≠ 0)
    (hok : (nextZ δ (ω.mark ω.area (ω.recs.take ω.synced.toNat) a b)).1.Ok) (how : List Int) :
    (Lv ((nextZ δ (ω.mark ω.area (ω.recs.take ω.synced.toNat) a b)).1.crash how) ω.syn (N + 2000000) ∧ openZ ((nextZ δ (ω.mark ω.area (ω.recs.take ω.synced.toNat) a b)).1.crash how) = some ω.syn) ∨
    (Lv ((nextZ δ (ω.mark ω.area (ω.recs.take ω.synced.toNat) a b)).1.crash how) (ω.marked a b) (N + 2000000) ∧ openZ ((nextZ δ (ω.mark ω.area (ω.recs.take ω.synced.toNat) a b)).1.crash how) = some (ω.marked a b)) := by
  have nk := nextZ_keeps δ (ω.mark ω.area (ω.recs.take ω.synced.toNat) a b)
  have hsz : 2 ≤ δ.now.length ∧ δ.now.length ≤ 32768 := h.well.size
  have hac : δ.acts ≤ N := h.well.acts
  have hct := h.well.count
  have hfit : ((laidZ ω.recs).length : Int) ≤ 64 * halfZ δ := h.well.fits
  have htl := laid_take_le ω.recs ω.synced.toNat
  have hms : alook δ.old ((ω.count + 1) % 2) = none := by
    have := h.dur.marks ((ω.count + 1) % 2).toNat (by omega)
    rw [show (((ω.count + 1) % 2).toNat : Int) = (ω.count + 1) % 2 by omega] at this
    exact this
  obtain ⟨n1, n2⟩ := next_dead (m := ω.mark ω.area (ω.recs.take ω.synced.toNat) a b) h.dead hsz.1 hms he
  refine crash_mark (δ1 := δ) (ω1 := ω.marked a b) h h.dur h.dur hok (by omega) ?_ n2 rfl (by show ω.count + 1 ≤ _; omega) rfl (syn_recs h.well.synced).2.symm h.well.area ha hb (fun s hs => h.kp.long s (List.mem_of_mem_take hs)) ?_ how
  · rw [marked_now a b h.well.synced]; exact n1
  · show ((laidZ (ω.recs.take ω.synced.toNat)).length : Int) ≤ _; omega
structure Res (δ : Dk) (ω : Wl) (N : Int) (r : Dk × Wl × Int) (B : Sta × Bool) (k : Int) : Prop where
  live : r.2.2 ≠ 2 → Lv r.1 r.2.1 (N + 2000000)
  same : r.2.2 = 0 → B.2 = true → k ≠ 5 → sameZ r.2.1 B.1 = true
  dead : r.2.2 = 2 → r.1.Ok → ∀ how, ∃ ω', Lv (r.1.crash how) ω' (N + 2000000) ∧ openZ (r.1.crash how) = some ω' ∧ (sameZ ω' (toldZ ω false, ω.a, ω.b) = true ∨ (B.2 = true ∧ sameZ ω' B.1 = true))
theorem Lv.more {δ : Dk} {ω : Wl} {N M : Int} (h : Lv δ ω N) (hN : N ≤ M) : Lv δ ω M := ⟨h.dead, h.well.more hN, h.kp, h.dur⟩
theorem same_syn {ω : Wl} (hd : ω.doubt = false) (h : 0 ≤ ω.synced ∧ ω.synced ≤ ω.recs.length) : sameZ ω.syn (toldZ ω false, ω.a, ω.b) = true := by
  have e := (syn_recs h).2
  have e1 : toldZ ω false = ω.syn.recs := by unfold toldZ tl Wl.syn; rw [hd]; rfl
  have e2 : tl ω.syn = ω.syn.recs := rfl
  have e3 : ω.syn.synced = (ω.syn.recs.length : Int) := e.symm
  unfold sameZ
  rw [e1, e2]
  simp only [decide_true, Bool.true_and]
  rw [decide_eq_true e3]
  simp [Wl.syn]
theorem Res.of {δ : Dk} {ω : Wl} {N : Int} (h : Lv δ ω N) {e : Int} {B : Sta × Bool} {k : Int} (he : e ≠ 2) (hs : e = 0 → B.2 = true → k ≠ 5 → sameZ ω B.1 = true) : Res δ ω N (δ, ω, e) B k :=
  ⟨fun _ => h.more (by omega), hs, fun g => absurd g he⟩
theorem live_of {δ δ' : Dk} {ω ω' : Wl} {N : Int} (hd : δ'.dead = false) (hw : Well δ'.calm ω' (N + 2000000)) (hk : Kp δ'.calm ω') (hD : δ'.old = [] ∨ (Dur δ' δ ω.area (laidZ (ω.recs.take ω.synced.toNat)) ∧ ω'.area = ω.area ∧ ω'.recs.take ω'.synced.toNat = ω.recs.take ω.synced.toNat)) : Lv δ' ω' (N + 2000000) := by
  have hk2 : Kp δ' ω' := hk.calm rfl
  refine ⟨hd, hw, hk2, ?_⟩
  rcases hD with h | ⟨h, e1, e2⟩
  · exact dur_clean hk2 h
  · rw [e1, e2]; exact h.re
theorem seal_res {δ δ1 : Dk} {ω : Wl} {N : Int} {area : Int} {l : List Bs} {B : Sta} {k : Int} (h : Lv δ ω N) (hD : Dur δ1 δ ω.area (laidZ (ω.recs.take ω.synced.toNat))) (hd1 : δ1.dead = false) (hac : δ1.acts ≤ N + 1900000) (har : 0 ≤ area ∧ area ≤ 1) (hA : Area δ1 area (laidZ l)) (hl : ((laidZ l).length : Int) ≤ 64 * halfZ δ) (hL : ∀ s ∈ l, s.length ≤ 4000) (hc : ω.count ≠ 4294967295)
    (hB : B = (l, ω.a, ω.b)) : Res δ ω N (dbt (sealZ δ1 ω area l)) (B, true) k := by
  subst hB
  have hsame : sameZ (ω.sealed area l) (l, ω.a, ω.b) = true := by
    unfold sameZ tl Wl.sealed
    simp [h.well.doubt]
  have hlen : δ1.now.length = δ.now.length := hD.len
  refine ⟨fun g => ?_, fun g _ _ => ?_, fun g hok how => ?_⟩
  · obtain ⟨q1, q2, q3, q4⟩ := calm_dseal hd1 g
    have hs := seal_live g
    have w := (well_seal (δ1 := δ1.calm) h.well hc har hl ⟨hd1, rfl⟩ hlen hac).2.1
    have kq := (kp_seal (δ := δ.calm) (δ1 := δ1.calm) (h.kp.calm rfl) h.well hc har hl ⟨hd1, rfl⟩ hlen hac (fun k hk => hD.mark k hk) hA hL).kp
    rw [q1] at w kq
    rw [hs] at kq ⊢
    exact live_of (δ := δ) (ω := ω) q2 w kq (.inl q3)
  · rw [seal_live (by rw [g]; decide)]; exact hsame
  · rcases seal_dead h hD hd1 hac har hA hl hL hc g hok how with ⟨q1, q2⟩ | ⟨q1, q2⟩
    · exact ⟨_, q1, q2, .inl (same_syn h.well.doubt h.well.synced)⟩
    · exact ⟨_, q1, q2, .inr ⟨rfl, hsame⟩⟩
theorem lay_live {δ : Dk} {ω : Wl} {N : Int} {a2 : Int} {all : Bs} {frm : Nat} (h : Lv δ ω N) (ha : 0 ≤ a2 ∧ a2 ≤ 1) (hl : (all.length : Int) ≤ 64 * halfZ δ) (hp : a2 = ω.area → laidZ (ω.recs.take ω.synced.toNat) <+: all) : Dur (layZ δ a2 all frm).1 δ ω.area (laidZ (ω.recs.take ω.synced.toNat)) :=
  Dur.lay _ _ h.dur h.well.area ha h.well.size.1 hl hp
theorem append_res {δ : Dk} {ω : Wl} {N : Int} (h : Lv δ ω N) (s : Bs) {B : Sta} : Res δ ω N (appendZ δ ω s) (B, false) 1 := by
  have hw := h.well
  have hdb := hw.doubt
  have hm := kp_append (h.kp.calm (δ' := δ.calm) rfl) hw s
  have hwl := (well_append hw s).1
  by_cases h1 : s.length > 4000
  · have e : appendZ δ ω s = (δ, ω, 33) := by unfold appendZ; rw [if_neg (by rw [hdb]; decide), if_pos h1]
    rw [e]; exact Res.of h (by decide) (fun g => absurd g (by decide))
  by_cases h2 : ¬ ((laidZ ω.recs).length : Int) + s.length + 6 ≤ 64 * halfZ δ
  · have e : appendZ δ ω s = (δ, ω, 30) := by unfold appendZ; rw [if_neg (by rw [hdb]; decide), if_neg h1, if_pos h2]
    rw [e]; exact Res.of h (by decide) (fun g => absurd g (by decide))
  have hlen : (laidZ ω.recs ++ recZ s).length = (laidZ ω.recs).length + s.length + 6 := by rw [List.length_append, recZ_len]; omega
  have hsz : 2 ≤ δ.now.length ∧ δ.now.length ≤ 32768 := hw.size
  have hac : δ.acts ≤ N := hw.acts
  have hh := half_le hsz
  have hDl : Dur (layZ δ ω.area (laidZ ω.recs ++ recZ s) (laidZ ω.recs).length).1 δ ω.area (laidZ (ω.recs.take ω.synced.toNat)) := lay_live h hw.area (by omega) (fun _ => (laid_pre _ _).trans (List.prefix_append _ _))
  have ak := layZ_keeps δ ω.area (laidZ ω.recs ++ recZ s) (laidZ ω.recs).length
  by_cases h3 : (layZ δ ω.area (laidZ ω.recs ++ recZ s) (laidZ ω.recs).length).2 = 0
  · have e : appendZ δ ω s = ((layZ δ ω.area (laidZ ω.recs ++ recZ s) (laidZ ω.recs).length).1, { ω with recs := ω.recs ++ [s] }, 0) := by
      unfold appendZ; rw [if_neg (by rw [hdb]; decide), if_neg h1, if_neg h2, if_neg (by rw [h3]; decide)]
    obtain ⟨q1, q2⟩ := calm_layZ h.dead h3
    have e2 : appendZ δ.calm ω s = ((layZ δ ω.area (laidZ ω.recs ++ recZ s) (laidZ ω.recs).length).1.calm, { ω with recs := ω.recs ++ [s] }, 0) := by
      unfold appendZ; rw [show halfZ δ.calm = halfZ δ from rfl, if_neg (by rw [hdb]; decide), if_neg h1, if_neg h2, q1, if_neg (show ¬ (0 : Int) ≠ 0 by decide)]
    rw [e2] at hm hwl
    rw [e]
    refine ⟨fun _ => live_of (δ := δ) (ω := ω) q2 hwl hm.kp (.inr ⟨hDl, rfl, ?_⟩), fun _ g => (by cases g), fun g => (by cases g)⟩
    show (ω.recs ++ [s]).take ω.synced.toNat = _
    exact List.take_append_of_le_length (by have := hw.synced; omega)
  · have h4 : (layZ δ ω.area (laidZ ω.recs ++ recZ s) (laidZ ω.recs).length).2 = 2 := by rcases layZ_err δ ω.area (laidZ ω.recs ++ recZ s) (laidZ ω.recs).length with g | g; exact absurd g h3; exact g
    have e : appendZ δ ω s = ((layZ δ ω.area (laidZ ω.recs ++ recZ s) (laidZ ω.recs).length).1, { ω with doubt := true }, 2) := by
      unfold appendZ; rw [if_neg (by rw [hdb]; decide), if_neg h1, if_neg h2, if_pos h3, h4]; rfl
    rw [e]
    refine ⟨fun g => absurd rfl g, fun g => (by cases g), fun _ hok how => ?_⟩
    obtain ⟨q1, q2⟩ := crash_old (M := N + 2000000) h hDl hok (by show (layZ δ ω.area (laidZ ω.recs ++ recZ s) (laidZ ω.recs).length).1.acts ≤ _; omega) how
    exact ⟨_, q1, q2, .inl (same_syn hdb hw.synced)⟩
theorem sync_res {δ : Dk} {ω : Wl} {N : Int} (h : Lv δ ω N) {k : Int} : Res δ ω N (syncZ δ ω) ((toldZ ω true, ω.a, ω.b), true) k := by
  have hdb := h.well.doubt
  have et : toldZ ω true = ω.recs := by unfold toldZ tl; rw [hdb]; rfl
  unfold syncZ
  rw [if_neg (by rw [hdb]; decide)]
  split
  · rename_i hs
    exact Res.of h (by decide) (fun _ _ _ => sameZ_self hs)
  · split
    · exact Res.of h (by decide) (fun g => absurd g (by decide))
    · rename_i hc
      exact seal_res h h.dur h.dead (by have : δ.acts ≤ N := h.well.acts; omega) h.well.area h.kp.area h.well.fits h.kp.long hc (by rw [et])
theorem cut_res {δ : Dk} {ω : Wl} {N : Int} (h : Lv δ ω N) (n : Int) {k : Int} : Res δ ω N (cutZ δ ω n) (if n < 0 ∨ n > (tl ω).length then ((toldZ ω false, ω.a, ω.b), false) else (((tl ω).take n.toNat, ω.a, ω.b), true)) k := by
  have hdb := h.well.doubt
  have et : tl ω = ω.recs := by unfold tl; rw [hdb]; rfl
  rw [et]
  unfold cutZ
  rw [if_neg (by rw [hdb]; decide)]
  split
  · exact Res.of h (by decide) (fun g => absurd g (by decide))
  · split
    · exact Res.of h (by decide) (fun g => absurd g (by decide))
    · rename_i hc
      have h1 := laid_take_le ω.recs n.toNat
      have h2 : ((laidZ ω.recs).length : Int) ≤ 64 * halfZ δ := h.well.fits
      exact seal_res h h.dur h.dead (by have : δ.acts ≤ N := h.well.acts; omega) h.well.area (h.kp.area.less (laid_pre _ _)) (by omega) (fun s hs => h.kp.long s (List.mem_of_mem_take hs)) hc rfl
theorem renew_res {δ : Dk} {ω : Wl} {N : Int} (h : Lv δ ω N) (l : List Bs) {k : Int} : Res δ ω N (renewZ δ ω l) ((l, ω.a, ω.b), true) k := by
  have hdb := h.well.doubt
  unfold renewZ
  rw [if_neg (by rw [hdb]; decide)]
  split
  · exact Res.of h (by decide) (fun g => absurd g (by decide))
  · split
    · exact Res.of h (by decide) (fun g => absurd g (by decide))
    · split
      · exact Res.of h (by decide) (fun g => absurd g (by decide))
      · rename_i h1 h2 h3
        have hl : ((laidZ l).length : Int) ≤ 64 * halfZ δ := by omega
        have ha : 0 ≤ 1 - ω.area ∧ 1 - ω.area ≤ 1 := by have := h.well.area; omega
        have hsz : 2 ≤ δ.now.length ∧ δ.now.length ≤ 32768 := h.well.size
        have hac : δ.acts ≤ N := h.well.acts
        have hh := half_le hsz
        have ak := layZ_keeps δ (1 - ω.area) (laidZ l) 0
        have hDl : Dur (layZ δ (1 - ω.area) (laidZ l) 0).1 δ ω.area (laidZ (ω.recs.take ω.synced.toNat)) := lay_live h ha hl (fun g => by have := h.well.area; omega)
        split
        · rename_i h4
          have h5 : (layZ δ (1 - ω.area) (laidZ l) 0).2 = 2 := by rcases layZ_err δ (1 - ω.area) (laidZ l) 0 with g | g; exact absurd g h4; exact g
          rw [h5]
          refine ⟨fun g => absurd rfl g, fun g => (by cases g), fun _ hok how => ?_⟩
          obtain ⟨q1, q2⟩ := crash_old (M := N + 2000000) h hDl hok (by show (layZ δ (1 - ω.area) (laidZ l) 0).1.acts ≤ _; omega) how
          exact ⟨_, q1, q2, .inl (same_syn hdb h.well.synced)⟩
        · rename_i h4
          have h5 : (layZ δ (1 - ω.area) (laidZ l) 0).2 = 0 := by omega
          obtain ⟨q1, q2⟩ := calm_layZ h.dead h5
          have hAf : Area (layZ δ (1 - ω.area) (laidZ l) 0).1 (1 - ω.area) (laidZ l) := by
            have g := area_fresh (δ := δ.calm) ⟨h.dead, rfl⟩ ha hsz.1 hl
            rw [q1] at g; exact g
          refine seal_res h hDl q2 (by omega) ha hAf hl (fun s hs => ?_) (by omega) rfl
          have h1' : l.any (fun s => decide (s.length > 4000)) = false := by simpa using h1
          have := List.any_eq_false.1 h1' s hs
          simpa using this
theorem setm_res {δ : Dk} {ω : Wl} {N : Int} (h : Lv δ ω N) {a b : Int} (ha : a ≤ 9223372036854775807) (hb : b ≤ 9223372036854775807) : Res δ ω N (setmZ δ ω a b) ((toldZ ω false, a, b), decide (a ≥ 0) && decide (b ≥ 0)) 5 := by
  have hdb := h.well.doubt
  have hw := kept_setm h.well a b
  have hk := kp_setm (h.kp.calm (δ' := δ.calm) rfl) h.well ha hb
  unfold setmZ at hw hk ⊢
  rw [if_neg (by rw [hdb]; decide)] at hw hk ⊢
  by_cases h1 : a < 0 ∨ b < 0
  · rw [if_pos h1]
    exact Res.of h (by decide) (fun g => absurd g (by decide))
  rw [if_neg h1] at hw hk ⊢
  by_cases h2 : ω.count = 4294967295
  · rw [if_pos h2]; exact Res.of h (by decide) (fun g => absurd g (by decide))
  rw [if_neg h2] at hw hk ⊢
  by_cases h3 : (nextZ δ (ω.mark ω.area (ω.recs.take ω.synced.toNat) a b)).2 = 0
  · obtain ⟨q1, q2, q3⟩ := calm_next h.dead h3
    rw [q1, if_neg (show ¬ (0 : Int) ≠ 0 by decide)] at hw hk
    rw [if_neg (by rw [h3]; decide)]
    exact ⟨fun _ => live_of (δ := δ) (ω := ω) q2 hw.well hk.kp (.inl q3), fun _ _ g => absurd rfl g, fun g => (by cases g)⟩
  · have h4 : (nextZ δ (ω.mark ω.area (ω.recs.take ω.synced.toNat) a b)).2 = 2 := by rcases (nextZ_keeps δ (ω.mark ω.area (ω.recs.take ω.synced.toNat) a b)).2.2 with g | g; exact absurd g h3; exact g
    rw [if_pos h3, h4]
    refine ⟨fun g => absurd rfl g, fun g => (by cases g), fun _ hok how => ?_⟩
    rcases setm_dead h ⟨by omega, ha⟩ ⟨by omega, hb⟩ h2 h3 hok how with ⟨q1, q2⟩ | ⟨q1, q2⟩
    · exact ⟨_, q1, q2, .inl (same_syn hdb h.well.synced)⟩
    · refine ⟨_, q1, q2, .inr ⟨by simp; omega, ?_⟩⟩
      have e1 : toldZ ω false = ω.syn.recs := by unfold toldZ tl Wl.syn; rw [hdb]; rfl
      have e2 := (syn_recs h.well.synced).2
      have e3 : (ω.marked a b).synced = ((ω.marked a b).recs.length : Int) := e2.symm
      unfold sameZ
      rw [e1, decide_eq_true e3]
      simp [Wl.marked, tl, Wl.syn]
theorem Lv.i {δ : Dk} {ω : Wl} {N : Int} (h : Lv δ ω N) (hN : N ≤ 1000000000000) : WlI δ ω := by
  have g := h.well.i hN
  exact ⟨g.size, g.acts, g.area, g.count, g.synced, g.fits⟩
theorem lv_new {n : Int} (h : 16 ≤ n ∧ n ≤ 32768) : Lv (formatZ (Dk.new n)).1 newW 3 := by
  obtain ⟨-, hW, -⟩ := format_well h
  have hK := kp_new h
  have ho : (formatZ (Dk.new n)).1.old = [] := by
    have hl : (Dk.new n).now.length = n.toNat := by simp [Dk.new]
    obtain ⟨a1, a2, a3⟩ := al_write (new_al n) (n := 0) (s := zs) ⟨by omega, by omega⟩ rfl
    have l1 : ((Dk.new n).write 0 zs).1.now.length = n.toNat := by rw [a3, List.length_set, hl]
    obtain ⟨b1, b2, b3⟩ := al_write a2 (n := 1) (s := mark1.sec) ⟨by omega, by omega⟩ (sec_len4 _)
    obtain ⟨c1, c2, c3⟩ := al_sync b2
    have e : formatZ (Dk.new n) = ((fmtZ (Dk.new n) 3).1, some newW) := by
      unfold formatZ
      rw [if_neg (by show ¬ ((Dk.new n).write 0 zs).2 ≠ 0; rw [a1]; decide), if_neg (by show ¬ (((Dk.new n).write 0 zs).1.write 1 mark1.sec).2 ≠ 0; rw [b1]; decide), if_neg (by show ¬ ((((Dk.new n).write 0 zs).1.write 1 mark1.sec).1.sync).2 ≠ 0; rw [c1]; decide)]
    rw [e]
    exact (calm_sync b2.dead c1).2.2
  have hc : (formatZ (Dk.new n)).1.calm = (formatZ (Dk.new n)).1 := by
    have hl := hW.al.left
    generalize (formatZ (Dk.new n)).1 = σ at hl
    obtain ⟨q1, q2, q3, l, q5⟩ := σ
    have : l = 0 := hl
    subst this; rfl
  exact ⟨hW.al.dead, by rw [hc]; exact hW, hK, dur_clean hK ho⟩
theorem lv_end {δ : Dk} {ω : Wl} {N : Int} (h : Lv δ ω N) (hok : δ.Ok) (how : List Int) : ∃ ω', Lv (δ.crash how) ω' N ∧ openZ (δ.crash how) = some ω' ∧ sameZ ω' (toldZ ω false, ω.a, ω.b) = true := by
  obtain ⟨q1, q2⟩ := crash_old h h.dur hok (M := N) h.well.acts how
  exact ⟨_, q1, q2, same_syn h.well.doubt h.well.synced⟩
end Go.Proofs.YtidjhgbdokcphaaGreat

/- Own work: a ledger on a disk that may die: plain. -/
namespace Go.Proofs.YtidjhgbdokcphaaGreat
open Go

theorem calm_append {δ : Dk} {ω : Wl} {s : Bs} (hd : δ.dead = false) (hdb : ω.doubt = false) (h : (appendZ δ ω s).2.2 ≠ 2) : appendZ δ.calm ω s = ((appendZ δ ω s).1.calm, (appendZ δ ω s).2) := by
  by_cases h1 : s.length > 4000
  · have e : ∀ δ', appendZ δ' ω s = (δ', ω, 33) := fun δ' => by unfold appendZ; rw [if_neg (by rw [hdb]; decide), if_pos h1]
    rw [e, e]
  by_cases h2 : ¬ ((laidZ ω.recs).length : Int) + s.length + 6 ≤ 64 * halfZ δ
  · have e : appendZ δ ω s = (δ, ω, 30) := by unfold appendZ; rw [if_neg (by rw [hdb]; decide), if_neg h1, if_pos h2]
    have e2 : appendZ δ.calm ω s = (δ.calm, ω, 30) := by unfold appendZ; rw [show halfZ δ.calm = halfZ δ from rfl, if_neg (by rw [hdb]; decide), if_neg h1, if_pos h2]
    rw [e, e2]
  by_cases h3 : (layZ δ ω.area (laidZ ω.recs ++ recZ s) (laidZ ω.recs).length).2 = 0
  · have e : appendZ δ ω s = ((layZ δ ω.area (laidZ ω.recs ++ recZ s) (laidZ ω.recs).length).1, { ω with recs := ω.recs ++ [s] }, 0) := by
      unfold appendZ; rw [if_neg (by rw [hdb]; decide), if_neg h1, if_neg h2, if_neg (by rw [h3]; decide)]
    obtain ⟨q1, q2⟩ := calm_layZ hd h3
    have e2 : appendZ δ.calm ω s = ((layZ δ ω.area (laidZ ω.recs ++ recZ s) (laidZ ω.recs).length).1.calm, { ω with recs := ω.recs ++ [s] }, 0) := by
      unfold appendZ; rw [show halfZ δ.calm = halfZ δ from rfl, if_neg (by rw [hdb]; decide), if_neg h1, if_neg h2, q1, if_neg (show ¬ (0 : Int) ≠ 0 by decide)]
    rw [e, e2]
  · have h4 : (layZ δ ω.area (laidZ ω.recs ++ recZ s) (laidZ ω.recs).length).2 = 2 := by rcases layZ_err δ ω.area (laidZ ω.recs ++ recZ s) (laidZ ω.recs).length with g | g; exact absurd g h3; exact g
    have e : appendZ δ ω s = ((layZ δ ω.area (laidZ ω.recs ++ recZ s) (laidZ ω.recs).length).1, { ω with doubt := true }, 2) := by
      unfold appendZ; rw [if_neg (by rw [hdb]; decide), if_neg h1, if_neg h2, if_pos h3, h4]; rfl
    rw [e] at h; exact absurd rfl h
theorem calm_syncZ {δ : Dk} {ω : Wl} (hd : δ.dead = false) (hdb : ω.doubt = false) (h : (syncZ δ ω).2.2 ≠ 2) : syncZ δ.calm ω = ((syncZ δ ω).1.calm, (syncZ δ ω).2) := by
  by_cases h1 : ω.synced = ω.recs.length
  · have e : ∀ δ', syncZ δ' ω = (δ', ω, 0) := fun δ' => by unfold syncZ; rw [if_neg (by rw [hdb]; decide), if_pos h1]
    rw [e, e]
  by_cases h2 : ω.count = 4294967295
  · have e : ∀ δ', syncZ δ' ω = (δ', ω, 30) := fun δ' => by unfold syncZ; rw [if_neg (by rw [hdb]; decide), if_neg h1, if_pos h2]
    rw [e, e]
  have e : ∀ δ', syncZ δ' ω = dbt (sealZ δ' ω ω.area ω.recs) := fun δ' => by unfold syncZ; rw [if_neg (by rw [hdb]; decide), if_neg h1, if_neg h2]
  rw [e] at h
  rw [e, e]; exact (calm_dseal hd h).1
theorem calm_cutZ {δ : Dk} {ω : Wl} {n : Int} (hd : δ.dead = false) (hdb : ω.doubt = false) (h : (cutZ δ ω n).2.2 ≠ 2) : cutZ δ.calm ω n = ((cutZ δ ω n).1.calm, (cutZ δ ω n).2) := by
  by_cases h1 : n < 0 ∨ n > ω.recs.length
  · have e : ∀ δ', cutZ δ' ω n = (δ', ω, 32) := fun δ' => by unfold cutZ; rw [if_neg (by rw [hdb]; decide), if_pos h1]
    rw [e, e]
  by_cases h2 : ω.count = 4294967295
  · have e : ∀ δ', cutZ δ' ω n = (δ', ω, 30) := fun δ' => by unfold cutZ; rw [if_neg (by rw [hdb]; decide), if_neg h1, if_pos h2]
    rw [e, e]
  have e : ∀ δ', cutZ δ' ω n = dbt (sealZ δ' ω ω.area (ω.recs.take n.toNat)) := fun δ' => by unfold cutZ; rw [if_neg (by rw [hdb]; decide), if_neg h1, if_neg h2]
  rw [e] at h
  rw [e, e]; exact (calm_dseal hd h).1
theorem calm_renewZ {δ : Dk} {ω : Wl} {l : List Bs} (hd : δ.dead = false) (hdb : ω.doubt = false) (h : (renewZ δ ω l).2.2 ≠ 2) : renewZ δ.calm ω l = ((renewZ δ ω l).1.calm, (renewZ δ ω l).2) := by
  by_cases h1 : l.any (fun s => decide (s.length > 4000)) = true
  · have e : ∀ δ', renewZ δ' ω l = (δ', ω, 33) := fun δ' => by unfold renewZ; rw [if_neg (by rw [hdb]; decide), if_pos h1]
    rw [e, e]
  by_cases h2 : ¬ ((l.length : Int) * 6 ≤ 64 * halfZ δ) ∨ ω.count = 4294967295
  · have e : ∀ δ', halfZ δ' = halfZ δ → renewZ δ' ω l = (δ', ω, 30) := fun δ' hh => by unfold renewZ; rw [hh, if_neg (by rw [hdb]; decide), if_neg h1, if_pos h2]
    rw [e δ rfl, e δ.calm rfl]
  by_cases h3 : ¬ ((laidZ l).length : Int) ≤ 64 * halfZ δ
  · have e : ∀ δ', halfZ δ' = halfZ δ → renewZ δ' ω l = (δ', ω, 30) := fun δ' hh => by unfold renewZ; rw [hh, if_neg (by rw [hdb]; decide), if_neg h1, if_neg h2, if_pos h3]
    rw [e δ rfl, e δ.calm rfl]
  have e : ∀ δ', halfZ δ' = halfZ δ → renewZ δ' ω l = if (layZ δ' (1 - ω.area) (laidZ l) 0).2 ≠ 0 then dbt ((layZ δ' (1 - ω.area) (laidZ l) 0).1, ω, (layZ δ' (1 - ω.area) (laidZ l) 0).2) else dbt (sealZ (layZ δ' (1 - ω.area) (laidZ l) 0).1 ω (1 - ω.area) l) := fun δ' hh => by
    unfold renewZ; rw [hh, if_neg (by rw [hdb]; decide), if_neg h1, if_neg h2, if_neg h3]
  rw [e δ rfl] at h
  rw [e δ rfl, e δ.calm rfl]
  by_cases h4 : (layZ δ (1 - ω.area) (laidZ l) 0).2 = 0
  · obtain ⟨q1, q2⟩ := calm_layZ hd h4
    simp only [h4, ne_eq, not_true_eq_false, if_false] at h
    simp only [q1, h4, ne_eq, not_true_eq_false, if_false]
    exact (calm_dseal q2 h).1
  · rw [if_pos h4, (dbt_err _).1] at h
    rcases layZ_err δ (1 - ω.area) (laidZ l) 0 with g | g
    · exact absurd g h4
    · exact absurd g h
theorem next_err (δ : Dk) (m : Mk) : (nextZ δ m).2 = 0 ∨ (nextZ δ m).2 = 2 := by
  unfold nextZ
  split
  · exact .inr rfl
  · split
    · exact .inr rfl
    · exact .inl rfl
theorem calm_setmZ {δ : Dk} {ω : Wl} {a b : Int} (hd : δ.dead = false) (hdb : ω.doubt = false) (h : (setmZ δ ω a b).2.2 ≠ 2) : setmZ δ.calm ω a b = ((setmZ δ ω a b).1.calm, (setmZ δ ω a b).2) := by
  by_cases h1 : a < 0 ∨ b < 0
  · have e : ∀ δ', setmZ δ' ω a b = (δ', ω, 1) := fun δ' => by unfold setmZ; rw [if_neg (by rw [hdb]; decide), if_pos h1]
    rw [e, e]
  by_cases h2 : ω.count = 4294967295
  · have e : ∀ δ', setmZ δ' ω a b = (δ', ω, 30) := fun δ' => by unfold setmZ; rw [if_neg (by rw [hdb]; decide), if_neg h1, if_pos h2]
    rw [e, e]
  have e : ∀ δ', setmZ δ' ω a b = if (nextZ δ' (ω.mark ω.area (ω.recs.take ω.synced.toNat) a b)).2 ≠ 0 then dbt ((nextZ δ' (ω.mark ω.area (ω.recs.take ω.synced.toNat) a b)).1, ω, (nextZ δ' (ω.mark ω.area (ω.recs.take ω.synced.toNat) a b)).2) else ((nextZ δ' (ω.mark ω.area (ω.recs.take ω.synced.toNat) a b)).1, { ω with a := a, b := b, count := ω.count + 1 }, 0) := fun δ' => by
    unfold setmZ; rw [if_neg (by rw [hdb]; decide), if_neg h1, if_neg h2]
  rw [e] at h
  rw [e, e]
  by_cases h4 : (nextZ δ (ω.mark ω.area (ω.recs.take ω.synced.toNat) a b)).2 = 0
  · obtain ⟨q1, -⟩ := calm_next hd h4
    simp only [q1, h4, ne_eq, not_true_eq_false, if_false]
  · rw [if_pos h4, (dbt_err _).1] at h
    rcases next_err δ (ω.mark ω.area (ω.recs.take ω.synced.toNat) a b) with g | g
    · exact absurd g h4
    · exact absurd g h
end Go.Proofs.YtidjhgbdokcphaaGreat

/- Own work: a ledger on a disk that may die: what its calls do, and what lies behind a crash: plain. -/

namespace Go.Proofs.YtidjhgbdokcphaaGreat
open Go

def Ld.calm (s : Ld) : Ld := ⟨s.δ.calm, s.ω, s.Λ⟩
theorem metE_two {e : Int} : metE e = 2 ↔ e = 2 := by unfold metE; split <;> omega
def endL (Λ : Lg) (f : Lg → Lg) (r : Dk × Wl × Int) : Ld × Int := if (metL Λ r).2 = 0 then (⟨r.1, r.2.1, f (metL Λ r).1.Λ⟩, 0) else metL Λ r
theorem endL_calm (Λ : Lg) (f : Lg → Lg) (r : Dk × Wl × Int) : endL Λ f (r.1.calm, r.2) = ((endL Λ f r).1.calm, (endL Λ f r).2) := by
  unfold endL
  by_cases h : metE r.2.2 = 0
  · rw [if_pos (show (metL Λ (r.1.calm, r.2)).2 = 0 from h), if_pos (show (metL Λ r).2 = 0 from h)]; rfl
  · rw [if_neg (show ¬ (metL Λ (r.1.calm, r.2)).2 = 0 from h), if_neg (show ¬ (metL Λ r).2 = 0 from h)]; rfl
theorem endL_err (Λ : Lg) (f : Lg → Lg) (r : Dk × Wl × Int) : (endL Λ f r).2 = metE r.2.2 ∧ (endL Λ f r).1.δ = r.1 ∧ (endL Λ f r).1.ω = r.2.1 := by
  unfold endL
  by_cases h : metE r.2.2 = 0
  · rw [if_pos (show (metL Λ r).2 = 0 from h)]; exact ⟨h.symm, rfl, rfl⟩
  · rw [if_neg (show ¬ (metL Λ r).2 = 0 from h)]; exact ⟨rfl, rfl, rfl⟩
theorem endL_ne {Λ : Lg} {f : Lg → Lg} {r : Dk × Wl × Int} (h : (endL Λ f r).2 ≠ 2) : r.2.2 ≠ 2 := by
  intro g; rw [(endL_err Λ f r).1, g] at h; exact h rfl
theorem app_end (δ : Dk) (ω : Wl) (Λ : Lg) (e : En) : (∃ z, (∀ δ', halfZ δ' = halfZ δ → lgAppend ⟨δ', ω, Λ⟩ e = (⟨δ', ω, Λ⟩, z)) ∧ z ≠ 0 ∧ (z = 2 → Λ.doubt = true)) ∨ (∀ δ', halfZ δ' = halfZ δ → lgAppend ⟨δ', ω, Λ⟩ e = endL Λ (fun L => L.keep (enB e) e.zx) (appendZ δ' ω (enB e))) := by
  by_cases h1 : Λ.doubt = true
  · exact .inl ⟨2, fun δ' _ => by unfold lgAppend; rw [if_pos h1], by decide, fun _ => h1⟩
  by_cases h2 : fitsE e = false
  · exact .inl ⟨1, fun δ' _ => by unfold lgAppend; rw [if_neg h1, if_pos h2], by decide, fun g => absurd g (by decide)⟩
  by_cases h3 : e.zx ≤ lastZ Λ
  · exact .inl ⟨81, fun δ' _ => by unfold lgAppend; rw [if_neg h1, if_neg h2, if_pos h3], by decide, fun g => absurd g (by decide)⟩
  by_cases h4 : Λ.ents.length = 200 ∨ ((enB e).length : Int) > roomZ δ ω
  · exact .inl ⟨83, fun δ' hh => by unfold lgAppend; rw [if_neg h1, if_neg h2, if_neg h3, if_pos (by show Λ.ents.length = 200 ∨ ((enB e).length : Int) > roomZ δ' ω; rw [show roomZ δ' ω = roomZ δ ω by unfold roomZ; rw [hh]]; exact h4)], by decide, fun g => absurd g (by decide)⟩
  · exact .inr fun δ' hh => by unfold lgAppend; rw [if_neg h1, if_neg h2, if_neg h3, if_neg (by show ¬ (Λ.ents.length = 200 ∨ ((enB e).length : Int) > roomZ δ' ω); rw [show roomZ δ' ω = roomZ δ ω by unfold roomZ; rw [hh]]; exact h4)]; rfl
theorem sync_end (ω : Wl) (Λ : Lg) (h1 : Λ.doubt = false) (δ' : Dk) : lgSync ⟨δ', ω, Λ⟩ = endL Λ id (syncZ δ' ω) := by
  unfold lgSync; rw [if_neg (by rw [h1]; decide)]
  unfold endL
  by_cases h : metE (syncZ δ' ω).2.2 = 0
  · rw [if_pos (show (metL Λ (syncZ δ' ω)).2 = 0 from h), ← h]; rfl
  · rw [if_neg (show ¬ (metL Λ (syncZ δ' ω)).2 = 0 from h)]
theorem acc_end (ω : Wl) (Λ : Lg) (n : Int) : (∃ z, (∀ δ', lgAccept ⟨δ', ω, Λ⟩ n = (⟨δ', ω, Λ⟩, z)) ∧ (z = 2 → Λ.doubt = true)) ∨ (Λ.acc < n ∧ n ≤ 1073741824 ∧ ∀ δ', lgAccept ⟨δ', ω, Λ⟩ n = endL Λ (fun L => L.setAcc n) (setmZ δ' ω n Λ.cur)) := by
  by_cases h1 : Λ.doubt = true
  · exact .inl ⟨2, fun δ' => by unfold lgAccept; rw [if_pos h1], fun _ => h1⟩
  by_cases h2 : n < Λ.acc ∨ n > 1073741824
  · exact .inl ⟨82, fun δ' => by unfold lgAccept; rw [if_neg h1, if_pos h2], fun g => absurd g (by decide)⟩
  by_cases h3 : n = Λ.acc
  · exact .inl ⟨0, fun δ' => by unfold lgAccept; rw [if_neg h1, if_neg h2, if_pos h3], fun g => absurd g (by decide)⟩
  · exact .inr ⟨by omega, by omega, fun δ' => by unfold lgAccept; rw [if_neg h1, if_neg h2, if_neg h3]; rfl⟩
theorem ado_end (ω : Wl) (Λ : Lg) (n : Int) (δ' : Dk) : lgAdopt2 ⟨δ', ω, Λ⟩ n = endL Λ (fun L => L.setCur n) (setmZ δ' ω Λ.acc n) := rfl
def cutL (Λ : Lg) (n : Nat) : Lg := ⟨Λ.acc, Λ.cur, Λ.base, Λ.snap, Λ.ents.take n, Λ.zxs.take n, Λ.doubt⟩
theorem cut_end (ω : Wl) (Λ : Lg) (n : Nat) (δ' : Dk) : lgCut2 ⟨δ', ω, Λ⟩ n = endL Λ (fun _ => cutL Λ n) (cutZ δ' ω (((headL Λ.base Λ.snap).length + n : Nat) : Int)) := rfl
def newL (Λ : Lg) (base : Int) (snap : Bs) (es : List Bs) (zs : List Int) : Lg := ⟨Λ.acc, Λ.cur, base, snap, es, zs, Λ.doubt⟩
theorem ren_end (ω : Wl) (Λ : Lg) {base : Int} {snap : Bs} {es : List Bs} {zs : List Int} (h : ¬ es.length > 200) (δ' : Dk) : lgRenew ⟨δ', ω, Λ⟩ base snap es zs = endL Λ (fun _ => newL Λ base snap es zs) (renewZ δ' ω (headL base snap ++ es)) := by
  unfold lgRenew; rw [if_neg h]; rfl
/-! ### What lasts -/
def Ld.kept (s : Ld) : Nat := (s.ω.synced - (headL s.Λ.base s.Λ.snap).length).toNat
def Ld.syn (s : Ld) : Lg := ⟨s.Λ.acc, s.Λ.cur, s.Λ.base, s.Λ.snap, s.Λ.ents.take s.kept, s.Λ.zxs.take s.kept, false⟩
structure LLv (s : Ld) (N : Int) : Prop where
  lv : Lv s.δ s.ω N
  lw : LWell s.calm N
  head : ((headL s.Λ.base s.Λ.snap).length : Int) ≤ s.ω.synced
theorem LLv.more {s : Ld} {N M : Int} (h : LLv s N) (hN : N ≤ M) : LLv s M := ⟨h.lv.more hN, h.lw.more hN, h.head⟩
theorem LgW.cut {Λ : Lg} (h : LgW Λ) (k : Nat) (d : Bool) : LgW ⟨Λ.acc, Λ.cur, Λ.base, Λ.snap, Λ.ents.take k, Λ.zxs.take k, d⟩ :=
  ⟨by have := h.few; show (Λ.ents.take k).length ≤ 200; rw [List.length_take]; omega, fun x hx => h.each x (List.mem_of_mem_take hx), h.base, h.snap, h.rows.take k, h.eps⟩
theorem syn_W {s : Ld} {N : Int} (h : LLv s N) : LgW s.syn := h.lw.w.cut s.kept false
theorem syn_rows {s : Ld} {N : Int} (h : LLv s N) : s.ω.recs.take s.ω.synced.toNat = headL s.syn.base s.syn.snap ++ s.syn.ents := by
  have hr : s.ω.recs = headL s.Λ.base s.Λ.snap ++ s.Λ.ents := h.lw.recs
  have := h.head
  rw [hr, List.take_append, List.take_of_length_le (by omega)]
  unfold Ld.syn Ld.kept; dsimp only
  congr 2; omega
theorem syn_full {s : Ld} {N : Int} (h : LLv s N) (hs : s.ω.synced = s.ω.recs.length) : s.syn = s.Λ := by
  have hr : s.ω.recs = headL s.Λ.base s.Λ.snap ++ s.Λ.ents := h.lw.recs
  have hl := h.lw.w.rows.len
  have hk : s.kept = s.Λ.ents.length := by unfold Ld.kept; rw [hs, hr, List.length_append]; omega
  have hd : s.Λ.doubt = false := h.lw.live
  unfold Ld.syn
  rw [hk, List.take_of_length_le (Nat.le_refl _), List.take_of_length_le (show s.Λ.zxs.length ≤ _ by rw [show s.Λ.zxs.length = s.Λ.ents.length from hl]; exact Nat.le_refl _), ← hd]
theorem sameZ_eq {ω : Wl} {l : List Bs} {a b : Int} (h : sameZ ω (l, a, b) = true) (hd : ω.doubt = false) : ω.recs = l ∧ ω.a = a ∧ ω.b = b ∧ ω.synced = ω.recs.length := by
  unfold sameZ tl at h
  rw [hd] at h
  simp only [Bool.and_eq_true, decide_eq_true_eq, Bool.false_eq_true, if_false] at h
  exact ⟨h.1.1.1.symm, h.1.1.2.symm, h.1.2.symm, h.2⟩
structure Back (σ : Dk) (N : Int) (Λ' : Lg) : Prop where
  open_ : ∃ ω', openZ σ = some ω' ∧ openLZ ω' = some Λ' ∧ LLv ⟨σ, ω', Λ'⟩ N ∧ ω'.synced = ω'.recs.length
theorem open_of {σ : Dk} {ω' : Wl} {N : Int} {Λ' : Lg} (hL : Lv σ ω' N) (ho : openZ σ = some ω') (hs : sameZ ω' (headL Λ'.base Λ'.snap ++ Λ'.ents, Λ'.acc, Λ'.cur) = true) (hw : LgW Λ') (hd : Λ'.doubt = false) : Back σ N Λ' := by
  obtain ⟨h1, h2, h3, h4⟩ := sameZ_eq hs hL.well.doubt
  refine ⟨ω', ho, ?_, ⟨hL, ⟨hL.well, hw, hd, h1, h2, h3⟩, ?_⟩, h4⟩
  · unfold openLZ
    have := hw.eps
    rw [if_neg (by rw [h2, h3]; omega), h1, h2, h3]
    exact lparse_back hw hd
  · show ((headL Λ'.base Λ'.snap).length : Int) ≤ ω'.synced
    rw [h4, h1, List.length_append]; omega
theorem told_syn {s : Ld} {N : Int} (h : LLv s N) : toldZ s.ω false = headL s.syn.base s.syn.snap ++ s.syn.ents := by
  rw [← syn_rows h]
  unfold toldZ tl
  rw [show s.ω.doubt = false from h.lw.well.doubt]; rfl
theorem back_syn {s : Ld} {N M : Int} (h : LLv s N) {σ : Dk} {ω' : Wl} (hL : Lv σ ω' M) (ho : openZ σ = some ω') (hs : sameZ ω' (toldZ s.ω false, s.ω.a, s.ω.b) = true) : Back σ M s.syn := by
  rw [told_syn h, show s.ω.a = s.syn.acc from h.lw.a, show s.ω.b = s.syn.cur from h.lw.b] at hs
  exact open_of hL ho hs (syn_W h) rfl
structure LRes (s : Ld) (N : Int) (r : Ld × Int) (rc : Ld × Int) (Q : Lg → Prop) : Prop where
  live : r.2 ≠ 2 → LLv r.1 (N + 4000000) ∧ rc = (r.1.calm, r.2)
  dead : r.2 = 2 → r.1.δ.Ok → ∀ how, ∃ Λ', Back (r.1.δ.crash how) (N + 4000000) Λ' ∧ (Λ' = s.syn ∨ Q Λ')
theorem LRes.same {s : Ld} {N : Int} (h : LLv s N) {e : Int} (he : e = 2 → s.Λ.doubt = true) {rc : Ld × Int} (hr : rc = (s.calm, e)) {Q : Lg → Prop} : LRes s N (s, e) rc Q :=
  ⟨fun _ => ⟨h.more (by omega), hr⟩, fun g => by have h1 := he g; have h2 : s.Λ.doubt = false := h.lw.live; rw [h1] at h2; cases h2⟩
theorem Back.more {σ : Dk} {N M : Int} {Λ' : Lg} (h : Back σ N Λ') (hN : N ≤ M) : Back σ M Λ' := by
  obtain ⟨ω', h1, h2, h3, h4⟩ := h.open_
  exact ⟨ω', h1, h2, h3.more hN, h4⟩
theorem res_end {δ : Dk} {ω : Wl} {Λ : Lg} {N : Int} {f : Lg → Lg} {r rc : Dk × Wl × Int} {B : Sta × Bool} {k : Int} {Q : Lg → Prop} (h : LLv ⟨δ, ω, Λ⟩ N) (hR : Res δ ω N r B k) (hc : r.2.2 ≠ 2 → rc = (r.1.calm, r.2))
    (hw : r.2.2 ≠ 2 → LWell (endL Λ f rc).1 (N + 4000000)) (hh : r.2.2 ≠ 2 → ((headL (endL Λ f r).1.Λ.base (endL Λ f r).1.Λ.snap).length : Int) ≤ r.2.1.synced)
    (hB : B.2 = true → ∃ Λ', Q Λ' ∧ LgW Λ' ∧ Λ'.doubt = false ∧ B.1 = (headL Λ'.base Λ'.snap ++ Λ'.ents, Λ'.acc, Λ'.cur)) : LRes ⟨δ, ω, Λ⟩ N (endL Λ f r) (endL Λ f rc) Q := by
  obtain ⟨e1, e2, e3⟩ := endL_err Λ f r
  refine ⟨fun g => ?_, fun g hok how => ?_⟩
  · have g' := endL_ne g
    have hcc : endL Λ f rc = ((endL Λ f r).1.calm, (endL Λ f r).2) := by rw [hc g']; exact endL_calm Λ f r
    refine ⟨⟨?_, ?_, ?_⟩, hcc⟩
    · rw [e2, e3]; exact (hR.live g').more (by omega)
    · have := hw g'; rw [hcc] at this; exact this
    · rw [e3]; exact hh g'
  · have g' : r.2.2 = 2 := by rw [e1] at g; exact metE_two.1 g
    rw [e2] at hok ⊢
    obtain ⟨ω', w1, w2, w3⟩ := hR.dead g' hok how
    rcases w3 with w3 | ⟨b1, w3⟩
    · exact ⟨_, (back_syn h w1 w2 w3).more (by omega), .inl rfl⟩
    · obtain ⟨Λ', q1, q2, q3, q4⟩ := hB b1
      rw [q4] at w3
      exact ⟨Λ', (open_of w1 w2 w3 q2 q3).more (by omega), .inr q1⟩
theorem append_syn (δ : Dk) (ω : Wl) (s : Bs) : (appendZ δ ω s).2.1.synced = ω.synced := by
  unfold appendZ
  repeat' split
  all_goals first | rfl | (unfold dbt; split <;> rfl)
theorem setm_syn (δ : Dk) (ω : Wl) (a b : Int) : (setmZ δ ω a b).2.1.synced = ω.synced := by
  unfold setmZ
  repeat' split
  all_goals first | rfl | (unfold dbt; split <;> rfl)
theorem endL_base {Λ : Lg} {f : Lg → Lg} (hf : ∀ L : Lg, (f L).base = L.base ∧ (f L).snap = L.snap) (r : Dk × Wl × Int) : (endL Λ f r).1.Λ.base = Λ.base ∧ (endL Λ f r).1.Λ.snap = Λ.snap := by
  have hm : ∀ e, (Λ.met e).base = Λ.base ∧ (Λ.met e).snap = Λ.snap := fun e => by unfold Lg.met; split <;> exact ⟨rfl, rfl⟩
  unfold endL
  split
  · exact ⟨(hf _).1.trans (hm _).1, (hf _).2.trans (hm _).2⟩
  · exact hm _
theorem lr_append {s : Ld} {N : Int} (h : LLv s N) {e : En} (he : EnI e) : LRes s N (lgAppend s e) (lgAppend s.calm e) (fun _ => False) := by
  obtain ⟨δ, ω, Λ⟩ := s
  have hk := (lk_append h.lw he).well
  rcases app_end δ ω Λ e with ⟨z, h1, h2, h3⟩ | h1
  · show LRes _ N (lgAppend ⟨δ, ω, Λ⟩ e) (lgAppend ⟨δ.calm, ω, Λ⟩ e) _
    rw [h1 δ rfl, h1 δ.calm rfl]
    exact LRes.same h h3 rfl
  · show LRes _ N (lgAppend ⟨δ, ω, Λ⟩ e) (lgAppend ⟨δ.calm, ω, Λ⟩ e) _
    have hk' : LWell (lgAppend ⟨δ.calm, ω, Λ⟩ e).1 (N + 4000000) := hk
    rw [h1 δ.calm rfl] at hk'
    rw [h1 δ rfl, h1 δ.calm rfl]
    refine res_end h (append_res h.lv (enB e) (B := ([], 0, 0))) (fun g => calm_append h.lv.dead h.lw.well.doubt g) (fun _ => hk') (fun _ => ?_) (fun g => by cases g)
    rw [append_syn, (endL_base (f := (fun L => L.keep (enB e) e.zx)) (fun L => ⟨rfl, rfl⟩) _).1, (endL_base (f := (fun L => L.keep (enB e) e.zx)) (fun L => ⟨rfl, rfl⟩) _).2]
    exact h.head
theorem lr_sync {s : Ld} {N : Int} (h : LLv s N) : LRes s N (lgSync s) (lgSync s.calm) (fun L => L = s.Λ) := by
  obtain ⟨δ, ω, Λ⟩ := s
  have hd : Λ.doubt = false := h.lw.live
  have hr : ω.recs = headL Λ.base Λ.snap ++ Λ.ents := h.lw.recs
  obtain ⟨k1, -, k3, k4, k5⟩ := lk_sync h.lw
  have hk' : LWell (lgSync ⟨δ.calm, ω, Λ⟩).1 (N + 2000000) := k1
  show LRes _ N (lgSync ⟨δ, ω, Λ⟩) (lgSync ⟨δ.calm, ω, Λ⟩) _
  rw [sync_end ω Λ hd δ.calm] at hk'
  rw [sync_end ω Λ hd, sync_end ω Λ hd]
  refine res_end (k := 2) h (sync_res h.lv) (fun g => calm_syncZ h.lv.dead h.lw.well.doubt g) (fun _ => hk'.more (by omega)) (fun g => ?_) (fun _ => ⟨Λ, rfl, h.lw.w, hd, ?_⟩)
  · rw [(endL_base (f := id) (fun L => ⟨rfl, rfl⟩) _).1, (endL_base (f := id) (fun L => ⟨rfl, rfl⟩) _).2]
    have hh : ((headL Λ.base Λ.snap).length : Int) ≤ ω.synced := h.head
    unfold syncZ at g ⊢
    rw [if_neg (by rw [show ω.doubt = false from h.lw.well.doubt]; decide)] at g ⊢
    split
    · exact hh
    · rename_i h1
      rw [if_neg h1] at g
      split
      · exact hh
      · rename_i h2
        rw [if_neg h2] at g
        rw [seal_live g]
        show _ ≤ ((ω.recs.length : Nat) : Int)
        rw [hr, List.length_append]; omega
  · show (toldZ ω true, ω.a, ω.b) = _
    rw [show toldZ ω true = ω.recs by unfold toldZ tl; rw [show ω.doubt = false from h.lw.well.doubt]; rfl, hr, show ω.a = Λ.acc from h.lw.a, show ω.b = Λ.cur from h.lw.b]
theorem lr_accept {s : Ld} {N : Int} (h : LLv s N) (n : Int) : LRes s N (lgAccept s n) (lgAccept s.calm n) (fun L => s.Λ.acc < n ∧ L = s.syn.setAcc n) := by
  obtain ⟨δ, ω, Λ⟩ := s
  have hk := (lk_accept h.lw n).1.well
  have he := h.lw.w.eps
  show LRes _ N (lgAccept ⟨δ, ω, Λ⟩ n) (lgAccept ⟨δ.calm, ω, Λ⟩ n) _
  rcases acc_end ω Λ n with ⟨z, h1, h3⟩ | ⟨n1, n2, h1⟩
  · rw [h1, h1]; exact LRes.same h h3 rfl
  · have hk' : LWell (lgAccept ⟨δ.calm, ω, Λ⟩ n).1 (N + 4000000) := hk
    have he' : 0 ≤ Λ.cur ∧ Λ.cur ≤ Λ.acc ∧ Λ.acc ≤ 1073741824 := he
    rw [h1] at hk'
    rw [h1, h1]
    refine res_end h (setm_res h.lv (a := n) (b := Λ.cur) (by omega) (by omega)) (fun g => calm_setmZ h.lv.dead h.lw.well.doubt g) (fun _ => hk') (fun _ => ?_) (fun _ => ⟨(Ld.syn ⟨δ, ω, Λ⟩).setAcc n, ⟨n1, rfl⟩, ?_, rfl, ?_⟩)
    · rw [setm_syn, (endL_base (f := (fun L => L.setAcc n)) (fun L => ⟨rfl, rfl⟩) _).1, (endL_base (f := (fun L => L.setAcc n)) (fun L => ⟨rfl, rfl⟩) _).2]
      exact h.head
    · obtain ⟨w1, w2, w3, w4, w5, -⟩ := syn_W h
      exact ⟨w1, w2, w3, w4, w5, ⟨he'.1, by show Λ.cur ≤ n; omega, n2⟩⟩
    · show (toldZ ω false, n, Λ.cur) = _
      rw [show toldZ ω false = _ from told_syn h]; rfl
theorem lr_adopt2 {s : Ld} {N : Int} (h : LLv s N) (n : Int) (hn : s.Λ.cur ≤ n ∧ n ≤ s.Λ.acc) : LRes s N (lgAdopt2 s n) (lgAdopt2 s.calm n) (fun L => L = s.syn.setCur n) := by
  obtain ⟨δ, ω, Λ⟩ := s
  have hk := (lk_adopt2 h.lw n hn).1
  have he : 0 ≤ Λ.cur ∧ Λ.cur ≤ Λ.acc ∧ Λ.acc ≤ 1073741824 := h.lw.w.eps
  have hn' : Λ.cur ≤ n ∧ n ≤ Λ.acc := hn
  have hk' : LWell (lgAdopt2 ⟨δ.calm, ω, Λ⟩ n).1 (N + 2000000) := hk
  show LRes _ N (lgAdopt2 ⟨δ, ω, Λ⟩ n) (lgAdopt2 ⟨δ.calm, ω, Λ⟩ n) _
  rw [ado_end] at hk'
  rw [ado_end, ado_end]
  refine res_end h (setm_res h.lv (a := Λ.acc) (b := n) (by omega) (by omega)) (fun g => calm_setmZ h.lv.dead h.lw.well.doubt g) (fun _ => hk'.more (by omega)) (fun _ => ?_) (fun _ => ⟨(Ld.syn ⟨δ, ω, Λ⟩).setCur n, rfl, ?_, rfl, ?_⟩)
  · rw [setm_syn, (endL_base (f := (fun L => L.setCur n)) (fun L => ⟨rfl, rfl⟩) _).1, (endL_base (f := (fun L => L.setCur n)) (fun L => ⟨rfl, rfl⟩) _).2]
    exact h.head
  · obtain ⟨w1, w2, w3, w4, w5, -⟩ := syn_W h
    exact ⟨w1, w2, w3, w4, w5, ⟨by show 0 ≤ n; omega, hn'.2, he.2.2⟩⟩
  · show (toldZ ω false, Λ.acc, n) = _
    rw [show toldZ ω false = _ from told_syn h]; rfl
theorem LRes.mono {s : Ld} {N : Int} {r rc : Ld × Int} {Q Q' : Lg → Prop} (h : LRes s N r rc Q) (hQ : ∀ L, Q L → Q' L) : LRes s N r rc Q' :=
  ⟨h.live, fun g hok how => by obtain ⟨Λ', h1, h2⟩ := h.dead g hok how; exact ⟨Λ', h1, h2.imp id (hQ _)⟩⟩
theorem LRes.more {s : Ld} {N M : Int} {r rc : Ld × Int} {Q : Lg → Prop} (h : LRes s N r rc Q) (hN : N ≤ M) : LRes s M r rc Q :=
  ⟨fun g => ⟨(h.live g).1.more (by omega), (h.live g).2⟩, fun g hok how => by obtain ⟨Λ', h1, h2⟩ := h.dead g hok how; exact ⟨Λ', h1.more (by omega), h2⟩⟩
theorem sync_ok {s : Ld} {N : Int} (h : LLv s N) (he : (lgSync s).2 = 0) : (lgSync s).1.syn = s.Λ ∧ (lgSync s).1.Λ = s.Λ := by
  have hl := (lr_sync h).live (by rw [he]; decide)
  obtain ⟨-, -, k3, -, k5⟩ := lk_sync h.lw
  rw [hl.2] at k3 k5
  have h5 := k5 he
  have hr : (lgSync s).1.ω.recs = s.ω.recs := h5.2
  have h3 : (lgSync s).1.Λ = s.Λ := k3
  exact ⟨(syn_full hl.1 (by rw [hr]; exact h5.1)).trans h3, h3⟩
theorem lr_adopt {s : Ld} {N : Int} (h : LLv s N) (n : Int) : LRes s (N + 4000000) (lgAdopt s n) (lgAdopt s.calm n) (fun L => s.Λ.cur ≤ n ∧ n ≤ s.Λ.acc ∧ (L = s.Λ ∨ L = s.Λ.setCur n)) := by
  have hd : s.Λ.doubt = false := h.lw.live
  by_cases h2 : n < s.Λ.cur ∨ n > s.Λ.acc
  · have e : ∀ t : Ld, t.Λ = s.Λ → lgAdopt t n = (t, 82) := fun t ht => by unfold lgAdopt; rw [ht, if_neg (by rw [hd]; decide), if_pos h2]
    rw [e s rfl, e s.calm rfl]
    exact LRes.same (h.more (by omega)) (fun g => absurd g (by decide)) rfl
  have hS := lr_sync h
  by_cases h3 : (lgSync s).2 = 0
  · have hl := hS.live (by rw [h3]; decide)
    obtain ⟨s1, s2⟩ := sync_ok h h3
    have e : lgAdopt s n = lgAdopt2 (lgSync s).1 n := by unfold lgAdopt; rw [if_neg (by rw [hd]; decide), if_neg h2, if_neg (fun g => g h3)]
    have e2 : lgAdopt s.calm n = lgAdopt2 (lgSync s).1.calm n := by
      unfold lgAdopt
      rw [if_neg (show ¬ s.calm.Λ.doubt = true by show ¬ s.Λ.doubt = true; rw [hd]; decide), if_neg (show ¬ (n < s.calm.Λ.cur ∨ n > s.calm.Λ.acc) from h2), hl.2, if_neg (fun g => g h3)]
    rw [e, e2]
    have hA := lr_adopt2 hl.1 n (by rw [s2]; omega)
    refine ⟨fun g => ⟨(hA.live g).1.more (by omega), (hA.live g).2⟩, fun g hok how => ?_⟩
    obtain ⟨Λ', q1, q2⟩ := hA.dead g hok how
    refine ⟨Λ', q1.more (by omega), .inr ⟨by omega, by omega, ?_⟩⟩
    rw [s1] at q2; exact q2
  · have e : lgAdopt s n = lgSync s := by unfold lgAdopt; rw [if_neg (by rw [hd]; decide), if_neg h2, if_pos h3]
    rw [e]
    refine ⟨fun g => ?_, fun g hok how => ?_⟩
    · have hl := hS.live g
      refine ⟨hl.1.more (by omega), ?_⟩
      unfold lgAdopt
      rw [if_neg (show ¬ s.calm.Λ.doubt = true by show ¬ s.Λ.doubt = true; rw [hd]; decide), if_neg (show ¬ (n < s.calm.Λ.cur ∨ n > s.calm.Λ.acc) from h2), hl.2, if_pos h3]
    · obtain ⟨Λ', q1, q2⟩ := hS.dead g hok how
      exact ⟨Λ', q1.more (by omega), q2.imp id (fun q => ⟨by omega, by omega, .inl q⟩)⟩
theorem lr_cut2 {s : Ld} {N : Int} (h : LLv s N) {n : Nat} (hn : n ≤ s.Λ.ents.length) : LRes s N (lgCut2 s n) (lgCut2 s.calm n) (fun L => L = cutL s.Λ n) := by
  obtain ⟨δ, ω, Λ⟩ := s
  have hk := (lk_cut2 h.lw (n := n) hn).1.well
  have hk' : LWell (lgCut2 ⟨δ.calm, ω, Λ⟩ n).1 (N + 4000000) := hk
  have hr : ω.recs = headL Λ.base Λ.snap ++ Λ.ents := h.lw.recs
  have hdb : ω.doubt = false := h.lw.well.doubt
  have hd : Λ.doubt = false := h.lw.live
  have hn' : n ≤ Λ.ents.length := hn
  have hb : ∀ r, (endL Λ (fun _ => cutL Λ n) r).1.Λ.base = Λ.base ∧ (endL Λ (fun _ => cutL Λ n) r).1.Λ.snap = Λ.snap := fun r => by
    have hm : ∀ e, (Λ.met e).base = Λ.base ∧ (Λ.met e).snap = Λ.snap := fun e => by unfold Lg.met; split <;> exact ⟨rfl, rfl⟩
    unfold endL; split
    · exact ⟨rfl, rfl⟩
    · exact hm _
  show LRes _ N (lgCut2 ⟨δ, ω, Λ⟩ n) (lgCut2 ⟨δ.calm, ω, Λ⟩ n) _
  rw [cut_end] at hk'
  rw [cut_end, cut_end]
  refine res_end (k := 3) h (cut_res h.lv _) (fun g => calm_cutZ h.lv.dead hdb g) (fun _ => hk') (fun g => ?_) (fun _ => ⟨cutL Λ n, rfl, ?_, hd, ?_⟩)
  · rw [(hb _).1, (hb _).2]
    have hh : ((headL Λ.base Λ.snap).length : Int) ≤ ω.synced := h.head
    unfold cutZ at g ⊢
    rw [if_neg (by rw [hdb]; decide), if_neg (by rw [hr, List.length_append]; omega)] at g ⊢
    split
    · exact hh
    · rename_i h2
      rw [if_neg h2] at g
      rw [seal_live g]
      show _ ≤ (((ω.recs.take _).length : Nat) : Int)
      rw [List.length_take, hr, List.length_append]; omega
  · exact h.lw.w.cut n Λ.doubt
  · rw [if_neg (by unfold tl; rw [hdb]; simp only [Bool.false_eq_true, if_false]; rw [hr, List.length_append]; omega)]
    show ((tl ω).take _, ω.a, ω.b) = _
    rw [show tl ω = ω.recs by unfold tl; rw [hdb]; rfl, Int.toNat_natCast, hr, List.take_append, List.take_of_length_le (by omega), show ω.a = Λ.acc from h.lw.a, show ω.b = Λ.cur from h.lw.b]
    unfold cutL; dsimp only; congr 2; congr 1; omega
theorem lr_renew {s : Ld} {N : Int} (h : LLv s N) {base : Int} {snap : Bs} {es : List Bs} {zs : List Int} (hb : 0 ≤ base ∧ base ≤ 9223372036854775807) (hs : snap.length ≤ 65536) (hr : RowsI base es zs) : LRes s N (lgRenew s base snap es zs) (lgRenew s.calm base snap es zs) (fun L => L = newL s.Λ base snap es zs ∧ es.length ≤ 200 ∧ ∀ x ∈ es, x.length ≤ 4000) := by
  obtain ⟨δ, ω, Λ⟩ := s
  by_cases hl : es.length > 200
  · have e : ∀ δ', lgRenew ⟨δ', ω, Λ⟩ base snap es zs = (⟨δ', ω, Λ⟩, 83) := fun δ' => by unfold lgRenew; rw [if_pos hl]
    show LRes _ N (lgRenew ⟨δ, ω, Λ⟩ base snap es zs) (lgRenew ⟨δ.calm, ω, Λ⟩ base snap es zs) _
    rw [e, e]; exact LRes.same h (fun g => absurd g (by decide)) rfl
  have hk' : LWell (lgRenew ⟨δ.calm, ω, Λ⟩ base snap es zs).1 (N + 4000000) := (lk_renew h.lw hb hs hr).1.well
  have hdb : ω.doubt = false := h.lw.well.doubt
  have hd : Λ.doubt = false := h.lw.live
  have he := h.lw.w.eps
  show LRes _ N (lgRenew ⟨δ, ω, Λ⟩ base snap es zs) (lgRenew ⟨δ.calm, ω, Λ⟩ base snap es zs) _
  rw [ren_end _ _ hl] at hk'
  rw [ren_end _ _ hl, ren_end _ _ hl]
  by_cases hlong : (headL base snap ++ es).any (fun s => decide (s.length > 4000)) = true
  · have e : ∀ δ', renewZ δ' ω (headL base snap ++ es) = (δ', ω, 33) := fun δ' => by unfold renewZ; rw [if_neg (by rw [hdb]; decide), if_pos hlong]
    rw [e, e]
    have e2 : ∀ δ', endL Λ (fun _ => newL Λ base snap es zs) (δ', ω, 33) = (⟨δ', ω, Λ⟩, 83) := fun δ' => by unfold endL; rw [if_neg (by show ¬ metE 33 = 0; decide)]; rfl
    rw [e2, e2]
    exact LRes.same h (fun g => absurd g (by decide)) rfl
  have hshort : ∀ x ∈ es, x.length ≤ 4000 := fun x hx => by
    rcases Nat.lt_or_ge 4000 x.length with g | g
    · exact absurd (List.any_eq_true.2 ⟨x, List.mem_append_right _ hx, decide_eq_true g⟩) hlong
    · exact g
  refine res_end (k := 4) h (renew_res h.lv _) (fun g => calm_renewZ h.lv.dead hdb g) (fun _ => hk') (fun g => ?_) (fun _ => ⟨newL Λ base snap es zs, ⟨rfl, by omega, hshort⟩, ⟨by show es.length ≤ 200; omega, hshort, hb, hs, hr, he⟩, hd, ?_⟩)
  · have hh : ((headL Λ.base Λ.snap).length : Int) ≤ ω.synced := h.head
    have same : ∀ e, e ≠ 0 → e ≠ 2 → renewZ δ ω (headL base snap ++ es) = (δ, ω, e) → metE e ≠ 0 → ((headL (endL Λ (fun _ => newL Λ base snap es zs) (renewZ δ ω (headL base snap ++ es))).1.Λ.base (endL Λ (fun _ => newL Λ base snap es zs) (renewZ δ ω (headL base snap ++ es))).1.Λ.snap).length : Int) ≤ (renewZ δ ω (headL base snap ++ es)).2.1.synced := fun e _ h2 h3 h4 => by
      rw [h3]; unfold endL
      rw [if_neg (show ¬ (metL Λ (δ, ω, e)).2 = 0 from h4)]
      show ((headL (Λ.met e).base (Λ.met e).snap).length : Int) ≤ ω.synced
      rw [met_same h2]; exact hh
    by_cases h2 : ¬ (((headL base snap ++ es).length : Int) * 6 ≤ 64 * halfZ δ) ∨ ω.count = 4294967295
    · exact same 30 (by decide) (by decide) (by unfold renewZ; rw [if_neg (by rw [hdb]; decide), if_neg hlong, if_pos h2]) (by decide)
    by_cases h3 : ¬ ((laidZ (headL base snap ++ es)).length : Int) ≤ 64 * halfZ δ
    · exact same 30 (by decide) (by decide) (by unfold renewZ; rw [if_neg (by rw [hdb]; decide), if_neg hlong, if_neg h2, if_pos h3]) (by decide)
    have e : renewZ δ ω (headL base snap ++ es) = if (layZ δ (1 - ω.area) (laidZ (headL base snap ++ es)) 0).2 ≠ 0 then dbt ((layZ δ (1 - ω.area) (laidZ (headL base snap ++ es)) 0).1, ω, (layZ δ (1 - ω.area) (laidZ (headL base snap ++ es)) 0).2) else dbt (sealZ (layZ δ (1 - ω.area) (laidZ (headL base snap ++ es)) 0).1 ω (1 - ω.area) (headL base snap ++ es)) := by
      unfold renewZ; rw [if_neg (by rw [hdb]; decide), if_neg hlong, if_neg h2, if_neg h3]
    by_cases h4 : (layZ δ (1 - ω.area) (laidZ (headL base snap ++ es)) 0).2 = 0
    · rw [e, if_neg (fun g => g h4)] at g ⊢
      have hs := seal_live g
      obtain ⟨⟨δ2, q⟩, hq⟩ : ∃ r, dbt (sealZ (layZ δ (1 - ω.area) (laidZ (headL base snap ++ es)) 0).1 ω (1 - ω.area) (headL base snap ++ es)) = r := ⟨_, rfl⟩
      rw [hq] at hs ⊢
      dsimp only at hs; subst hs
      have e5 : (endL Λ (fun _ => newL Λ base snap es zs) (δ2, ω.sealed (1 - ω.area) (headL base snap ++ es), 0)).1.Λ = newL Λ base snap es zs := by unfold endL; rw [if_pos (by show metE 0 = 0; decide)]
      rw [e5]
      show ((headL base snap).length : Int) ≤ (((headL base snap ++ es).length : Nat) : Int)
      rw [List.length_append]; omega
    · rw [e, if_pos h4, (dbt_err _).1] at g
      rcases layZ_err δ (1 - ω.area) (laidZ (headL base snap ++ es)) 0 with g1 | g1
      · exact absurd g1 h4
      · exact absurd g1 g
  · show ((headL base snap ++ es), ω.a, ω.b) = _
    rw [show ω.a = Λ.acc from h.lw.a, show ω.b = Λ.cur from h.lw.b]; rfl
end Go.Proofs.YtidjhgbdokcphaaGreat

/- Own work: three operations that are ready in a region that draws its order. -/

namespace Go.Proofs.YtidjhgbdokcphaaGreat
open Go
section
variable {P : Program} {ops : Array Oper} {n : Nat} {RO : List HP} {H : List Nat} {Fin : EF → List HP → Prop}
variable {j : Nat} {S : List Nat} {E : Env} {RW : List HP} {op : Op} {ty : TypeId} {pos : String} {aft : Array Edge}
def only3B (ops : Array Oper) (j k l : Nat) (S : List Nat) : Bool := readyB ops (j :: S) j && readyB ops (j :: S) k && readyB ops (j :: S) l && !Nat.beq k j && !Nat.beq l j && !Nat.beq l k && S.all fun i => Nat.beq i j || Nat.beq i k || Nat.beq i l || !readyB ops (j :: S) i
theorem D.h3 {k l : Nat} {dd dk dl : Option Nat} {op' op2 : Op} {ty' ty2 : TypeId} {pos' pos2 : String} {aft' aft2 : Array Edge} {pre F pre' F' pre2 F2 : List HP} {K K' K2 : Value → List HP → Prop} {S2 S3 : List Nat} (hi : ops[j]? = some ⟨dd, op, ty, pos, aft, none⟩) (hk : ops[k]? = some ⟨dk, op', ty', pos', aft', none⟩) (hl : ops[l]? = some ⟨dl, op2, ty2, pos2, aft2, none⟩)
    (hc : (only3B ops j k l S && H.contains j && H.contains k && H.contains l && dstOk dd n && dstOk dk n && dstOk dl n) = true) (hS2 : (j :: S).erase k = S2) (hS3 : (j :: S).erase l = S3) (hp : OpSpec P ⟨none, op, ty, "", #[], none⟩ E pre K) (hL : Picks pre RW F) (hp' : OpSpec P ⟨none, op', ty', "", #[], none⟩ E pre' K') (hL' : Picks pre' RW F') (hp2 : OpSpec P ⟨none, op2, ty2, "", #[], none⟩ E pre2 K2) (hL2 : Picks pre2 RW F2)
    (h : ∀ v L', K v L' → D P ops n RO H Fin S (look (putE dd v E)) (L' ++ F)) (h' : ∀ v L', K' v L' → D P ops n RO H Fin S2 (look (putE dk v E)) (L' ++ F')) (h2 : ∀ v L', K2 v L' → D P ops n RO H Fin S3 (look (putE dl v E)) (L' ++ F2)) : D P ops n RO H Fin (j :: S) (look E) RW := by
  simp only [Bool.and_eq_true, only3B] at hc
  obtain ⟨⟨⟨⟨⟨⟨⟨⟨⟨⟨⟨⟨c1, c2⟩, c3⟩, c4⟩, c5⟩, c6⟩, c7⟩, d1⟩, d2⟩, d3⟩, d4⟩, d5⟩, d6⟩ := hc
  have hkj : k ≠ j := by rintro rfl; simp at c4
  have hlj : l ≠ j := by rintro rfl; simp at c5
  have hlk : l ≠ k := by rintro rfl; simp at c6
  have only : ∀ i, i ∈ j :: S → readyB ops (j :: S) i = true → i = j ∨ i = k ∨ i = l := by
    intro i hi hr
    rcases List.mem_cons.1 hi with rfl | hi
    · exact .inl rfl
    · have := List.all_eq_true.1 c7 i hi
      rw [hr] at this
      simp at this
      rcases this with (h | h) | h
      · exact .inl h
      · exact .inr (.inl h)
      · exact .inr (.inr h)
  refine .heavy (fun i => if i = j then ⟨dd, op, ty, pos, aft, none⟩ else if i = k then ⟨dk, op', ty', pos', aft', none⟩ else ⟨dl, op2, ty2, pos2, aft2, none⟩) (fun i => if i = j then pre else if i = k then pre' else pre2) (fun i => if i = j then F else if i = k then F' else F2) (fun i => if i = j then K else if i = k then K' else K2) ⟨j, by simp, c1⟩ ?_ ?_
  · intro i hi' hr
    rcases only i hi' hr with rfl | rfl | rfl
    · simp only [if_true]
      exact ⟨d1, hi, .inl rfl, d4, hL, SpecR.own hp⟩
    · simp only [if_neg hkj, if_true]
      exact ⟨d2, hk, .inl rfl, d5, hL', SpecR.own hp'⟩
    · simp only [if_neg hlj, if_neg hlk]
      exact ⟨d3, hl, .inl rfl, d6, hL2, SpecR.own hp2⟩
  · intro i hi' hr v L' hv
    rcases only i hi' hr with rfl | rfl | rfl
    · simp only [if_true] at hv ⊢
      have := h v L' hv
      rw [look_putE] at this
      simpa using this
    · simp only [if_neg hkj, if_true] at hv ⊢
      have := h' v L' hv
      rw [look_putE] at this
      rw [hS2]
      exact this
    · simp only [if_neg hlj, if_neg hlk] at hv ⊢
      have := h2 v L' hv
      rw [look_putE] at this
      rw [hS3]
      exact this
end
end Go.Proofs.YtidjhgbdokcphaaGreat

