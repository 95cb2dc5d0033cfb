/- Own work, in part by program, for plainRefused.proved. -/
import Derived.Test.YtmbnebafdhpgpaaGreatDoorCVRefusedP3
import Derived.Test.YtmbnebafdhpgpaaGreatDoorCVRefusedP0
import Derived.Test.YtmbnebafdhpgpaaGreatDoorCVRefusedP2
import Derived.Test.YtmbnebafdhpgpaaGreatDoorCVRefusedP1
set_option maxRecDepth 100000
namespace Go.Proofs.YtmbnebafdhpgpaaGreatDoor
open Go List Go.Proofs.Tryz 
/-! ### Tables of watches, shrunk -/
theorem I6 (ω : List Wt) (es : List Ev) : ∀ i, (AY ω es i).1.Sublist ω
 | 0 => List.Sublist.refl _
 | i + 1 => by
  rw [E7 rfl]
  exact filter_sublist.trans (I6 ω es i)
theorem Jc (ω : List Wt) (es : List Ev) : (BQ ω es).1.Sublist ω := I6 ω es es.length
theorem RS (ω : List Wt) (s : Int) : (OZ ω s).Sublist ω := filter_sublist
theorem ZO {ω υ : List Wt} (h : υ.Sublist ω) (s : Int) : B6 υ s ≤ B6 ω s := (h.filter _).length_le
theorem WG : ∀ {ω : List Wt}, (∀ w ∈ ω, 1 ≤ w.1 ∧ w.1 ≤ 5) → ω.length ≤ B6 ω 1 + B6 ω 2 + B6 ω 3 + B6 ω 4 + B6 ω 5
 | [], _ => Nat.zero_le _
 | w :: ω, h => by
  have ih := WG (ω := ω) fun x hx => h x (mem_cons_of_mem _ hx)
  have hw := h w mem_cons_self
  have key : ∀ s : Int, B6 (w :: ω) s = (if w.1 = s then 1 else 0) + B6 ω s := fun s => by
   unfold B6
   rw [filter_cons]
   by_cases g : w.1 = s
   ·rw [if_pos (decide_eq_true g), if_pos g, length_cons]; omega
   ·rw [if_neg (by simpa using g), if_neg g]; omega
  rw [key, key, key, key, key, length_cons]
  have : w.1 = 1 ∨ w.1 = 2 ∨ w.1 = 3 ∨ w.1 = 4 ∨ w.1 = 5 := by omega
  rcases this with e | e | e | e | e <;> (simp [e]; omega)
/-! ### Transactions of a service -/
def El (o t : Int) : Pt := ⟨5, [], [], AG, [], o, min (max t 4) 60, 0, AG⟩
theorem Lo {o t : Int} (ho : A4 o) (N : Nat) : EJ N (El o t) [] := by
 have hn : A4 (min (max t 4) 60) := ⟨by omega, by omega⟩
 exact ⟨⟨⟨⟨⟨by show (-9223372036854775808 : Int) ≤ 5; decide, by show (5 : Int) ≤ 9223372036854775807; decide⟩, ho, hn, A4.zero, by show 0 < FS; decide, by show 0 < FS; decide, by show 0 < FS; decide, fun a ha => by cases ha⟩, CQ.long, Nat.zero_le _, Nat.zero_le _, Nat.zero_le _⟩, ho, hn, Nat.zero_le _, CQ⟩, (fun _ h => by cases h), .inl (Nat.zero_le _)⟩
def Gg (π : Pl) : Pl := ⟨π.τ, π.ω, π.ord, π.opened + 1, π.ids, π.ev⟩
def KT (π : Pl) (t : Int) : Pl × (Int × Int) := if 16 ≤ π.τ.sess.length then (π, (0, 91)) else (Bv (Gg π) (π.opened + 1) 0 (El (π.opened + 1) t) [], (π.opened + 1, 0))
/-! ### BY of a service -/
def Ik (π : Pl) (s : Int) (r : Rq) : Pl × Int :=
 if (BW r.path r.data).2 ≠ 0 then (π, (BW r.path r.data).2) else if (BW r.path r.data).1 ∈ π.ids s then (π, 0) else if 16 ≤ (π.ids s).length then (π, 1)
 else (⟨π.τ, π.ω, π.ord, π.opened, D0 π.ids s (π.ids s ++ [(BW r.path r.data).1]), π.ev⟩, 0)
def X4 (π : Pl) (s : Int) (l : List G8) : Pl := ⟨π.τ, (Bi π.τ s π.ω l).1, π.ord, π.opened, π.ids, D0 π.ev s (π.ev s ++ (Bi π.τ s π.ω l).2)⟩
def Nj (π : Pl) (s : Int) (r : Rq) : Pl × Int :=
 if B9 r (BM π.τ (π.ids s) r) = 0 then (π, BM π.τ (π.ids s) r)
 else (⟨π.τ, (addW π.ω s (B9 r (BM π.τ (π.ids s) r)) r.path).1, π.ord, π.opened, π.ids, π.ev⟩, if (addW π.ω s (B9 r (BM π.τ (π.ids s) r)) r.path).2 ≠ 0 then (addW π.ω s (B9 r (BM π.τ (π.ids s) r)) r.path).2 else BM π.τ (π.ids s) r)
def Bz (π : Pl) (s : Int) (r : Rq) (l : List G8) : Pl × Int := if r.kind = 13 then Ik π s r else if r.kind = 14 then (X4 π s l, 0) else if r.kind = 15 then (π, 0) else Nj π s r
def ABR (π : Pl) (s : Int) : Pl := ⟨π.τ, π.ω, π.ord, π.opened, π.ids, D0 π.ev s []⟩
structure AAl (π : Pl) (s : Int) (r : Rq) (l : List G8) (x : Rp) (kids : List Bs) : Prop where
 err : x.err = (Bz π s r l).2
 cells : ∀ v ∈ BF x, AB v = true
 shape : ∃ a c, x.kidsV = .slice a kids.length c
 told : r.watch = false → Bm r.kind → ∃ av kv, x = DK π.τ (π.ids s) r av kv ∧ kids = BV π.τ (π.ids s) r
structure GI (π : Pl) (s : Int) (r : Rq) (subs : List Rq) (l : List G8) (π' : Pl) (x : Rp) (kids : List Bs) (e : Int) : Prop where
 gone : ¬ CF π.τ s → e = 67 ∧ π' = π ∧ x = U4 ∧ kids = []
 chg : CF π.τ s → Ba r.kind = true → e = 0 ∧ kids = [] ∧ ∃ y ys, y.pl = (Cn π.τ ⟨s, π.ids s⟩ r subs).1 ∧ ys.map Pt.pl = (Cn π.τ ⟨s, π.ids s⟩ r subs).2 ∧ AB y.aclV = true ∧ (∃ a c, y.subsV = .slice a ys.length c) ∧ (∀ z ∈ ys, AB z.aclV = true ∧ z.subsV = AG) ∧ π' = Bv π s r.xid y ys ∧ x.err = if y.kind = 8 then y.err else 0
 rd : CF π.τ s → ¬ Ba r.kind = true → e = 0 ∧ π' = (Bz π s r l).1 ∧ ∃ x0, AAl π s r l x0 kids ∧ x = ⟨r.xid, π'.τ.zx, x0.err, x0.path, x0.data, x0.st, x0.aclV, x0.kidsV, x0.subsV⟩
 stamp : CF π.τ s → x.xid = r.xid ∧ x.zx = π'.τ.zx
 cells : ∀ v ∈ BF x, AB v = true
 shape : ∃ a c, x.kidsV = .slice a kids.length c
structure Gi (q : HP) (s : Int) (r : Rq) (subs : List Rq) (l : List G8) : Prop where
 d : WiD q ⟨s, []⟩ AG r subs
 tz : PK q
 arm : UU q r.armV l
/-! ### Bounds -/
structure Iy (π : Pl) (n : Nat) : Prop where
 ok : π.τ.Ok (1 + 9 * n)
 w : Le π.τ
 ord : π.ord.length ≤ n
 ws : ∀ w ∈ π.ω, 1 ≤ w.1 ∧ w.1 ≤ 5
 wn : ∀ s, B6 π.ω s ≤ 64
 ev : ∀ i, (π.ev i).length ≤ n * 67108864
 ids : ∀ s, (π.ids s).length ≤ 16
 op : 0 ≤ π.opened ∧ π.opened ≤ n
 ses : ∀ x ∈ π.τ.sess, 1 ≤ x.1 ∧ x.1 ≤ π.opened
theorem Iy.few {π : Pl} {n : Nat} (h : Iy π n) : π.ω.length ≤ 320 := by
 have h1 := WG h.ws
 have := h.wn 1
 have := h.wn 2
 have := h.wn 3
 have := h.wn 4
 have := h.wn 5
 omega
theorem HJ : Iy KC 0 := by
 refine ⟨Lj, Le.new, Nat.le_refl _, (fun w hw => by cases hw), fun s => Nat.zero_le _, fun i => Nat.zero_le _, fun s => Nat.zero_le _, ⟨Int.le_refl _, Int.le_refl _⟩, fun x hx => by cases hx⟩
theorem Iy.more {π : Pl} {n m : Nat} (h : Iy π n) (hm : n ≤ m) : Iy π m := by
 have := h.op
 exact ⟨h.ok.more om, h.w, by have := h.ord; omega, h.ws, h.wn, fun i => Nat.le_trans (h.ev i) (Nat.mul_le_mul_right _ hm), h.ids, ⟨by omega, by omega⟩, h.ses⟩
theorem N9 {τ : Tr} {z : Int} {y : Pt} {ys : List Pt} : ∀ x ∈ (AC τ z y ys).1.sess, x ∈ τ.sess ∨ (y.kind = 5 ∧ x.1 = y.own ∧ 0 < y.own) := by
 have hp : ∀ l : List Pt, (AH (zxT τ z) z l).1.sess = τ.sess := fun l => by
  unfold AH
  have H : ∀ (l : List Pt) (r : Tr × List Ev), (l.foldl (fun r x => ((AJ r.1 x z).1, r.2 ++ (AJ r.1 x z).2)) r).1.sess = r.1.sess := by
   intro l
   induction l with
   | nil => intro r; rfl
   | cons x l ih => intro r; rw [foldl_cons, ih]; exact Fr _ _ _
  exact H l (zxT τ z, [])
 intro x hx
 unfold AC at hx
 dsimp only at hx
 split at hx
 ·rename_i h5
  split at hx
  ·rename_i h0
   rcases FO (show x ∈ sset τ.sess y.own (y.num, y.data) from hx) with e | e
   ·exact .inr ⟨h5, by rw [e], h0⟩
   ·exact .inl e
  ·exact .inl hx
 split at hx
 ·have := (mem_filter.1 (show x ∈ (AH (zxT τ z) z (ys.filter Aj)).1.sess.filter _ from hx)).1
  rw [hp] at this
  exact .inl this
 split at hx
 ·have hx : x ∈ (AH (zxT τ z) z ys).1.sess := hx
  rw [hp] at hx
  exact .inl hx
 split at hx
 ·exact .inl hx
 ·have hx : x ∈ (AJ (zxT τ z) y z).1.sess := hx
  rw [Fr] at hx
  exact .inl hx
theorem Iy.put {π : Pl} {n : Nat} (h : Iy π n) (hn : n ≤ 65536) (s x : Int) {y : Pt} {ys : List Pt} {N0 : Nat} (hG : EJ N0 y ys) (hN0 : N0 ≤ 65536) (h5 : y.kind = 5 → 1 ≤ y.own ∧ y.own ≤ π.opened) : Iy (Bv π s x y ys) (n + 1) := by
 have hsub : (Bv π s x y ys).ω.Sublist π.ω := by
  show (if y.kind = 6 then _ else _ : List Wt).Sublist _
  split
  ·exact (RS _ _).trans (Jc _ _)
  ·exact Jc _ _
 have hz : A4 (CY π) := by
  have := h.ord
  unfold CY
  exact ⟨by omega, by omega⟩
 have hys : ys.length ≤ 65544 := by rcases hG.len with g | ⟨-, g, -⟩ <;> omega
 have hel := Yx π.τ (CY π) y ys
 have hfl : (BQ π.ω (AC π.τ (CY π) y ys).2.1).2.length ≤ (AC π.τ (CY π) y ys).2.1.length * π.ω.length := (Ml π.ω (AC π.τ (CY π) y ys).2.1 (AC π.τ (CY π) y ys).2.1.length).2
 have hfl2 : (AC π.τ (CY π) y ys).2.1.length * π.ω.length ≤ 131090 * 320 := Nat.mul_le_mul om h.few
 have hop := h.op
 refine ⟨(hG.ok h.ok _).more om, hG.w h.w hz, ?_, fun w hw => h.ws w (hsub.subset hw), fun i => Nat.le_trans (ZO hsub i) (h.wn i), fun i => ?_, fun i => ?_, ⟨hop.1, by show π.opened ≤ _; omega⟩, fun z hz => ?_⟩
 ·show (π.ord ++ [_]).length ≤ n + 1
  have := h.ord
  rw [length_append, length_singleton]; omega
 ·have h1 := OB π.ev (BQ π.ω (AC π.τ (CY π) y ys).2.1).2 i
  have h2 := h.ev i
  have e : (n + 1) * 67108864 = n * 67108864 + 67108864 := by omega
  show ((if y.kind = 6 then D0 (DV π.ev _) y.own [] else DV π.ev _) i).length ≤ _
  rw [e]
  split
  ·unfold D0
   split
   ·exact Nat.zero_le _
   ·omega
  ·omega
 ·show ((if y.kind = 6 then D0 π.ids y.own [] else π.ids) i).length ≤ 16
  have := h.ids i
  split
  ·unfold D0
   split
   ·exact Nat.zero_le _
   ·omega
  ·exact this
 ·rcases N9 z hz with g | ⟨g1, g2, -⟩
  ·exact h.ses z g
  ·have := h5 g1
   show 1 ≤ z.1 ∧ z.1 ≤ π.opened
   omega
theorem Iy.opn {π : Pl} {n : Nat} (h : Iy π n) (hn : n ≤ 4096) (t : Int) : Iy (KT π t).1 (n + 1) := by
 unfold KT
 split
 ·exact h.more om
 ·have hop := h.op
  have hM : Iy (Gg π) (n + 1) := ⟨h.ok.more om, h.w, by have := h.ord; show π.ord.length ≤ _; omega, h.ws, h.wn, fun i => Nat.le_trans (h.ev i) (Nat.mul_le_mul_right _ om), h.ids, ⟨by show 0 ≤ π.opened + 1; omega, by show π.opened + 1 ≤ ((n + 1 : Nat) : Int); omega⟩, fun x hx => by have := h.ses x hx; show 1 ≤ x.1 ∧ x.1 ≤ π.opened + 1; omega⟩
  have hP := hM.put om (π.opened + 1) 0 (Lo (o := π.opened + 1) (t := t) ⟨by omega, by omega⟩ 0) dQ (fun _ => ⟨by show 1 ≤ π.opened + 1; omega, Int.le_refl _⟩)
  have hz : A4 (CY π) := by
   have := h.ord
   unfold CY
   exact ⟨by omega, by omega⟩
  refine ⟨?_, hP.w, ?_, hP.ws, hP.wn, ?_, hP.ids, ⟨hP.op.1, by show π.opened + 1 ≤ _; omega⟩, hP.ses⟩
  ·exact ((Lo (o := π.opened + 1) (t := t) ⟨by omega, by omega⟩ 0).ok (τ := π.τ) h.ok _).more om
  ·show (π.ord ++ [_]).length ≤ n + 1
   have := h.ord
   rw [length_append, length_singleton]; omega
  ·intro i
   have e2 : (Bv (Gg π) (π.opened + 1) 0 (El (π.opened + 1) t) []).ev = π.ev := by
    unfold Bv
    dsimp only
    rw [if_neg (by show ¬ (5 : Int) = 6; decide)]; rfl
   dsimp only
   rw [e2]
   exact Nat.le_trans (h.ev i) (Nat.mul_le_mul_right _ om)
theorem AAe {ω : List Wt} {s k : Int} {p : Bs} (hs : 1 ≤ s ∧ s ≤ 5) (h : ∀ w ∈ ω, 1 ≤ w.1 ∧ w.1 ≤ 5) (hn : ∀ i, B6 ω i ≤ 64) : (∀ w ∈ (addW ω s k p).1, 1 ≤ w.1 ∧ w.1 ≤ 5) ∧ ∀ i, B6 (addW ω s k p).1 i ≤ 64 := by
 unfold addW
 split
 ·exact ⟨h, hn⟩
 split
 ·exact ⟨h, hn⟩
 split
 ·exact ⟨h, hn⟩
 ·rename_i g
  refine ⟨fun w hw => ?_, fun i => ?_⟩
  ·rcases mem_append.1 hw with hw | hw
   ·exact h w hw
   ·rw [mem_singleton] at hw
    rw [hw]; exact hs
  ·show B6 (ω ++ [(s, (k, p))]) i ≤ 64
   rw [I7]
   split
   ·rename_i e
    have e : s = i := e
    subst e
    have := hn s
    omega
   ·have := hn i
    omega
theorem AAd {τ : Tr} {s : Int} (hs : 1 ≤ s ∧ s ≤ 5) : ∀ (l : List G8) (r : List Wt × List Ev), (∀ w ∈ r.1, 1 ≤ w.1 ∧ w.1 ≤ 5) → (∀ i, B6 r.1 i ≤ 64) → (∀ w ∈ (l.foldl (JM τ s) r).1, 1 ≤ w.1 ∧ w.1 ≤ 5) ∧ ∀ i, B6 (l.foldl (JM τ s) r).1 i ≤ 64
 | [], _, h, hn => ⟨h, hn⟩
 | a :: l, r, h, hn => by
  rw [foldl_cons]
  have hA : (∀ w ∈ (JM τ s r a).1, 1 ≤ w.1 ∧ w.1 ≤ 5) ∧ ∀ i, B6 (JM τ s r a).1 i ≤ 64 := by
   unfold JM
   split
   ·exact ⟨h, hn⟩
   split
   ·exact AAe hs h hn
   split <;> exact ⟨h, hn⟩
  exact AAd hs l _ hA.1 hA.2
theorem Iy.read {π : Pl} {n : Nat} (h : Iy π n) {s : Int} (hs : 1 ≤ s ∧ s ≤ 5) (r : Rq) {l : List G8} (hl : l.length ≤ 1048576) : Iy (Bz π s r l).1 (n + 1) := by
 have hM := h.more (Nat.le_succ n)
 unfold Bz
 split
 ·unfold Ik
  split
  ·exact hM
  split
  ·exact hM
  split
  ·exact hM
  ·rename_i g
   refine ⟨hM.ok, hM.w, hM.ord, hM.ws, hM.wn, hM.ev, fun i => ?_, hM.op, hM.ses⟩
   show (D0 π.ids s (π.ids s ++ [_]) i).length ≤ 16
   unfold D0
   split
   ·rw [length_append, length_singleton]; omega
   ·exact h.ids i
 split
 ·have hA := AAd (τ := π.τ) hs l (π.ω, []) h.ws h.wn
  refine ⟨hM.ok, hM.w, hM.ord, hA.1, hA.2, fun i => ?_, hM.ids, hM.op, hM.ses⟩
  show (D0 π.ev s (π.ev s ++ (Bi π.τ s π.ω l).2) i).length ≤ _
  have h1 := Js π.τ s π.ω l l.length (Nat.le_refl _)
  rw [take_length] at h1
  have h2 := h.ev s
  have h3 := hM.ev i
  have e : (n + 1) * 67108864 = n * 67108864 + 67108864 := by omega
  unfold D0
  split
  ·rw [length_append, e]; omega
  ·exact h3
 split
 ·exact hM
 ·unfold Nj
  split
  ·exact hM
  ·have hA := AAe (k := B9 r (BM π.τ (π.ids s) r)) (p := r.path) hs h.ws h.wn
   exact ⟨hM.ok, hM.w, hM.ord, hA.1, hA.2, hM.ev, hM.ids, hM.op, hM.ses⟩
theorem EJ.up {N M : Nat} {y : Pt} {ys : List Pt} (h : EJ N y ys) (hM : N ≤ M) : EJ M y ys :=
 ⟨h.x, h.each, h.len.imp id fun ⟨a, b, c⟩ => ⟨a, by omega, c⟩⟩
theorem MB (τ : Tr) (u : B4) (r : Rq) (subs : List Rq) : (Cn τ u r subs).1.kind ≠ 5 := by
 unfold Cn
 split
 ·show (8 : Int) ≠ 5; decide
 split
 ·show (8 : Int) ≠ 5; decide
 split
 ·unfold A6
  split
  ·show (8 : Int) ≠ 5; decide
  ·split
   ·show (8 : Int) ≠ 5; decide
   ·show (7 : Int) ≠ 5; decide
 split
 ·show (0 : Int) ≠ 5; decide
 split
 ·show (6 : Int) ≠ 5; decide
 split
 ·show (8 : Int) ≠ 5; decide
 ·exact (HN τ u r).1
theorem Iy.call {π : Pl} {n : Nat} (h : Iy π n) (hn : n ≤ 4096) {q : HP} {s : Int} (hs : CF π.τ s → 1 ≤ s ∧ s ≤ 5) {r : Rq} {subs : List Rq} {l : List G8} (hA : Gi q s r subs l) {π' : Pl} {x : Rp} {kids : List Bs} {e : Int} (hC : GI π s r subs l π' x kids e) : Iy π' (n + 1) := by
 by_cases hse : CF π.τ s
 ·by_cases hk : Ba r.kind = true
  ·obtain ⟨-, -, y, ys, hy, hys, -, -, -, rfl, -⟩ := hC.chg hse hk
   have hG0 : EJ (1 + 9 * n) (Cn π.τ ⟨s, π.ids s⟩ r subs).1 (Cn π.τ ⟨s, π.ids s⟩ r subs).2 := XT h.ok (hA.d.more (a := Ad 9 1 (.slice (some ⟨0, 0, none⟩) (π.ids s).length (π.ids s).length) (π.ids s).length (Ao (π.ids s))) (fun _ hp => AZ hp) (by have := h.ids s; omega) ⟨_, _, _, rfl⟩)
   have hG := hG0.of hy hys
   refine h.put om _ _ hG om fun h5 => ?_
   have hk5 := congrArg Pt.kind hy
   exact absurd (hk5.symm.trans (show y.pl.kind = 5 from h5)) (MB _ _ _ _)
  ·obtain ⟨-, rfl, -⟩ := hC.rd hse hk
   exact h.read (hs hse) r hA.arm.len
 ·obtain ⟨-, rfl, -⟩ := hC.gone hse
  exact h.more om
theorem Up : Fn prog 258 #[AA 16] [] fun v L => v = .bool true ∧ L = [] := by
 refine Fn.intro func258 Y Y fun F W => ?_
 refine .sr (.an Y (.sm Y (.m Y (.q (.sub Y Y om) Y (.q (.as (v' := AA 0) (by rfl) (.and Y Y)) Y (.ui Y Y Y (.an Y (.ret ?_))))))))
 exact .vv
theorem SC (p : HP) (hT : PK p) (u0 : Nat) (hu : u0 < 18446744073709551616) : Fn prog 227 #[AG, .int .u64 (u0 : Int), AA 16, .bool false, .bool false] [p] fun v L => v = .tuple #[AG, AD (EY u0)] ∧ L = [p] := by
 refine Fn.intro func227 Y Y fun F W => ?_
 have hl0 := Mp hu
 refine .sr (.a Y (.an Y (.seq (.sm Y (.q (.as (v' := .bool false) (by rfl) (.int Y Y Y)) Y (.m Y (.gr (.m Y (.gr (.q (.as (v' := .bool false) (by rfl) (.int Y Y Y)) Y (.pF Y Y (.m Y (.gr (.m Y (.gr (.q (.as (v' := .bool false) (by rfl) (.int Y Y Y)) Y (.pF Y Y (.nt (.condF Y (.sk (.sr (.oq (.allocA ABY) ?_))))))))))))))))))))))
 rintro v L' ⟨ba, rfl, rfl⟩
 refine .nt (.seq (.pc ba ((List.replicate 65 (0 : UInt8)).map Cv) ?_))
 refine .region (.an Y (.seq (.sm Y (.nt (.condF Y (.sk (.seq (.sm Y (.cv func258 [_] (Up) ?_)))))))))
 refine .nt (.condT Y (.sm Y (.q (.as (v' := .int .u64 16) (by rfl) (.conv Y underlying3 underlying160)) Y (.cv func259 [_] (Zq p hT) ?_))))
 refine .q (.as (v' := .int .u64 4) (by rfl) (.conv Y underlying3 underlying160)) Y (.an Y (.sm Y (.q (.as (v' := .int .u64 16) (by rfl) (.conv Y underlying3 underlying180)) Y (.an Y (.sm Y (.q (.as (v' := .int .u64 16) (by rfl) (.conv Y underlying3 underlying160)) Y (.q (.as (v' := .int .u64 15) (by rfl) (.int Y Y Y)) Y (.an Y (.seq (.block (.loopK (ι := Nat × (List Value) × Bs) (fun q E => (1, .int .u64 (q.1 : Int)) :: (13, AA q.2.1.length) :: E) (fun q => [Ae ba (q.2.1 ++ q.2.2.map Cv) 307]) (fun q => q.1 < 18446744073709551616 ∧ EY q.1 ++ q.2.2 = EY u0 ∧ q.2.1.length + q.2.2.length = 65) (fun q => q.1) (u0, (List.replicate 65 (0 : UInt8)).map Cv, []) (ts := [0, 3, 4, 10, 11, 12, 14, 15, 16]) O (⟨hu, append_nil _, Y⟩) O O ?_)))))))))))
 rintro ⟨u, xs, ys⟩ ⟨hu1, hex, hxl⟩
 dsimp only
 dsimp only at hu1 hex hxl
 have hel := congrArg List.length hex
 rw [length_append] at hel
 have hl1 := Mp hu1
 refine .seq (.sm Y (.m Y (.ui Y Y Y (.nt (.condD Y (fun h46 => ?_) (fun h46 => ?_))))))
 ·refine .sk (.block (.sm Y (.q (.as (v' := AA (xs.dropLast.length : Nat)) (by exact congrArg (fun z : Int => AA z) (by rw [length_dropLast]; omega)) (.sub Y Y om)) Y (.an Y (.sm Y (.m Y (.m Y (.q (.as (v' := .int .u64 ((u % 16 : Nat) : Int)) (by exact congrArg (Value.int .u64) (ABv hu1)) (.and Y Y)) Y (.q (.strIndex (c := Lc (u % 16)) Y Y underlying9 om (by rw [Int.toNat_natCast]; exact QI _ om)) Y (.q (.indexArr Y Y TG (by rw [length_dropLast]; omega)) Y (.oq (.store Y Y Y ACW ?c36 (Bf _ _)) ?_)))))))))))
  case c36 => simp; omega
  rintro v L' rfl
  refine .nil (.ptCast (b := ba) (l' := xs.dropLast ++ (Lc (u % 16) :: ys).map Cv) O (by rw [show ((0 : Nat) + ((xs.dropLast.length : Nat) : Int).toNat * 1) = xs.length - 1 from by rw [Int.toNat_natCast, length_dropLast]; omega]; exact Q2 om) ?_)
  refine .then_n (.region (.m Y (.m Y (.q (.as (v' := .int .u64 ((u / 16 : Nat) : Int)) (by exact congrArg (Value.int .u64) (ACq u)) (.shr Y Y (by first | decide | omega))) Y (.a Y (.nil (.blk_n (.then_n ?_))))))))
  exact .rk ((u / 16, xs.dropLast, Lc (u % 16) :: ys)) (⟨by dsimp only; omega, Yq hex om, by rw [length_dropLast, length_cons]; omega⟩) (by dsimp only; omega) O
 refine .xe (.sm Y (.q (.as (v' := AA (xs.dropLast.length : Nat)) (by exact congrArg (fun z : Int => AA z) (by rw [length_dropLast]; omega)) (.sub Y Y om)) Y (.an Y (.region (.m Y (.m Y (.q (.strIndex (c := Lc u) Y Y underlying9 om (by rw [Int.toNat_natCast]; exact QI _ om)) Y (.q (.indexArr Y Y TG (by rw [length_dropLast]; omega)) Y (.oq (.store Y Y Y ACW ?c47 (Bf _ _)) ?_)))))))))
 case c47 => simp; omega
 rintro v L' rfl
 refine .nil (.ptCast (b := ba) (l' := xs.dropLast ++ (Lc u :: ys).map Cv) O (by rw [show ((0 : Nat) + ((xs.dropLast.length : Nat) : Int).toNat * 1) = xs.length - 1 from by rw [Int.toNat_natCast, length_dropLast]; omega]; exact Q2 om) ?_)
 have hul : (EY u).length = 1 := by rw [L5 om]; rfl
 have hfin : Lc u :: ys = EY u0 := by rw [← hex, L5 om]; rfl
 rw [hfin]
 have hdl : xs.dropLast.length = xs.length - 1 := length_dropLast
 refine .then_n (.seq (.sm Y (.nt (.condF Y (.sk (.seq (.sm Y (.nt (.condF Y (.sk (.sm Y (.q (.to (v' := .slice (some ⟨ba, xs.length - 1, none⟩) (EY u0).length (EY u0).length) (.arrSlice (i := ((xs.dropLast.length : Nat) : Int)) (j := 65) Y TG Y Y om) (by rw [if_neg om]; congr 3 <;> omega)) Y (.q (.bytesPt (cs := EY u0) Y underlying181 underlying5 underlying9 O (by rw [show xs.length - 1 = xs.dropLast.length from hdl.symm, drop_left, take_of_length_le (by rw [length_map]; exact Nat.le_refl _)]) (by rw [length_append, length_map, hdl]; omega) (Nat.le_refl _)) Y (.an Y (.ret ?_)))))))))))))))
 exact .vv
theorem QC (p : HP) (hT : PK p) (u0 : Nat) (hu : u0 < 18446744073709551616) : Fn prog 174 #[.int .u64 (u0 : Int), AA 16] [p] fun v L => v = AD (EY u0) ∧ L = [p] := by
 refine Fn.intro func174 Y Y fun F W => ?_
 refine .sr (.an Y (.seq (.sm Y (.q (.as (v' := .bool false) (by rfl) (.int Y Y Y)) Y (.nt (.condF Y (.sk (.sm Y (.m Y (.cv func227 [_, _, _, _, _] (SC p hT u0 hu) ?_))))))))))
 refine .m Y (.ex Y Y (.ex Y Y (.a Y (.an Y (.sm Y (.an Y (.ret ?_)))))))
 exact .vv
theorem TN (p : HP) (hT : PK p) (u0 : Nat) (hu : u0 < 18446744073709551616) : Fn prog 95 #[.int .u64 (u0 : Int), AA 16] [p] fun v L => v = AD (EY u0) ∧ L = [p] := by
 refine Fn.intro func95 Y Y fun F W => ?_
 refine .sr (.an Y (.sm Y (.m Y (.cv func174 [_, _] (QC p hT u0 hu) ?_))))
 refine .an Y (.ret ?_)
 exact .vv
theorem QS (p : HP) (hT : PK p) (name secret : Bs) (hn : name.length ≤ 1048576) (hs : secret.length ≤ 1048576) : Fn prog 52 #[AD name, AD secret] [p] fun v L => v = .tuple #[AD (BW name secret).1, AA (BW name secret).2] ∧ L = [p] := by
 refine Fn.intro func52 Y Y fun F W => ?_
 refine .sr (.a Y (.an Y (.seq (.sm Y (.cv func94 [_] (MK name) ?_)))))
 refine .u (.not Y) (.nt (.condB Y (fun h12 => ?_) (fun h12 => ?_)))
 ·refine .sr (.a Y (.an Y (.rt ?_)))
  exact .dn Y Y ⟨by have hu : ¬ Ji name = true := (by simpa using h12); unfold BW; rw [if_neg hu], rfl⟩
 refine .sk (.sr (.an Y (.seq (.seq ?_))))
 have hnl : (name ++ [58] ++ secret).length = name.length + 1 + secret.length := by rw [length_append, length_append, length_singleton]
 have hf := AAP (name ++ [58] ++ secret)
 have hxl := Mp hf
 have hfc := YT (name ++ [58] ++ secret)
 have h58 : ([58] : Bs).length = 1 := rfl
 have hn58 : (name ++ [58]).length = name.length + 1 := by rw [length_append, h58]
 refine .region (.m Y (.q (.concat Y Y om) Y (.m Y (.q (.concat Y Y om) Y (.oq (.strBytes Y underlying9 underlying181 underlying5) ?_)))))
 rintro v L' ⟨rfl, b17, c17, rfl⟩
 refine .q (.slen Y underlying181 Y) Y (.m Y (.nil ?_))
 obtain ⟨m, hm⟩ : ∃ m, m = name ++ [58] ++ secret := ⟨_, rfl⟩
 rw [← hm] at hnl hf hxl hfc ⊢
 refine .then_n (.block (.loopK (ι := Nat) (fun q E => (19, AA q) :: (6, .int .u64 (NL (m.take q))) :: E) (fun q => []) (fun q => q ≤ m.length) (fun q => m.length - q) (0) (ts := [0, 4, 5, 17, 18]) O (Nat.zero_le _) O O ?_))
 rintro i hi
 refine .sr (.ui Y Y Y (.nt (.seq (.condD Y (fun h20 => ?_) (fun h20 => ?_)))))
 ·have hi2 : i < m.length := by omega
  refine .sk (.seq (.block (.sr (.q (.indexAddr Y Y KX om) Y (.q (.loadEl (p := Ad 5 1 _ m.length (m.map Cv)) (i := i * 1) (v := Cv m[i]) Y ABx O (fun h hp => AZ hp) (by simp [hi2])) Y (.an Y (.region (.m Y (.m Y (.q (.conv Y underlying5 underlying180) Y (.u (.xor Y Y) (.ui Y Y Y (.a Y (.nil (.blk_n (.then_n (.region (.q (.add Y Y om) Y (.m Y (.nt ?_))))))))))))))))))))
  rw [show IntKind.u64.wrap (IntKind.u64.wrap (BitVec.ofInt IntKind.u64.bits (NL (m.take i)) ^^^ BitVec.ofInt IntKind.u64.bits (IntKind.u64.wrap (m[i].toNat : Int))).toNat * 1099511628211) = NL (m.take (i + 1)) from (W7 hi2).symm]
  exact .rk (i + 1) om om O
 have hie : i = m.length := by omega
 subst hie
 rw [take_length, ← hfc]
 have hrl : (List.replicate (16 - (EY (Ko m)).length) (48 : UInt8)).length = 16 - (EY (Ko m)).length := length_replicate
 have hcl : (name ++ [58] ++ List.replicate (16 - (EY (Ko m)).length) (48 : UInt8)).length = name.length + 1 + (16 - (EY (Ko m)).length) := by rw [length_append, hn58, hrl]
 refine .xe (.sm Y (.cv func95 [_, _] (TN p hT (Ko m) hf) ?_))
 refine .an Y (.sm Y (.q (.concat Y Y om) Y (.m Y (.q (.strlen Y underlying9 Y) Y (.q (.to (v' := AA ((16 - (EY (Ko m)).length : Nat) : Int)) (.sub Y Y om) (by congr 1; omega)) Y (.cv func96 [_, _] (Ou (16 - (EY (Ko m)).length) om) ?_))))))
 refine .q (.concat Y Y om) Y (.m Y (.q (.concat Y Y om) Y (.a Y (.an Y (.ret ?_)))))
 exact .dn Y Y ⟨by have hu : Ji name = true := (by simpa using h12); unfold BW ACa; rw [if_pos hu, ← hm], rfl⟩
theorem WU (b : Nat) (c : Prop) [Decidable c] : Fn prog 101 #[AI b] [Ae b [.bool (decide c)] 4] fun v L => v = AA (Ai (¬ c) 110) ∧ L = [Ae b [.bool (decide c)] 4] := by
 refine Fn.intro func101 Y Y fun F W => ?_
 refine .sr (.an Y (.sr (.u (.ld Y Xc) (.u (.not Y) (.cv func90 [_, _] (Ay _ _) ?_)))))
 refine .an Y (.ret ?_)
 exact .dn Y Y ⟨by congr 1; unfold Ai; first | (simp_all; done) | (simp_all; omega) | (split <;> simp_all; done) | (split <;> simp_all <;> omega), rfl⟩
theorem Xx (t : Nat) (τ : Tr) (ids : List Bs) (iv : Value) (r : Rq) (p : HP) (hA : Dr p ⟨0, ids⟩ iv r) (N : Nat) (ho : τ.Ok N) (hN : N ≤ 1099511627776) (b5 : Nat) : Fn prog 102 #[AI b5] [Ae b5 (D6 r) 33] fun v L => v = AA (BG r.path) ∧ L = [Ae b5 (D6 r) 33] := by
 refine Fn.intro func102 Y Y fun F W => ?_
 have hpl := hA.rq.path
 have hpl2 : r.path.length ≤ 1048576 := by omega
 refine .sr (.an Y (.sr (.fa Y Bk (.u (.ld Y Ag) (.cv func87 [_] (ED r.path hpl2) ?_)))))
 refine .an Y (.ret ?_)
 exact .vv
theorem WE (t : Nat) (τ : Tr) (ids : List Bs) (iv : Value) (r : Rq) (p : HP) (hA : Dr p ⟨0, ids⟩ iv r) (N : Nat) (ho : τ.Ok N) (hN : N ≤ 1099511627776) (b8 b5 : Nat) : Fn prog 103 #[AI b8, AI b5] [Ae b8 (CM t (⟨0, ids⟩ : B4) iv r) 134, Ae b5 (D6 r) 33, Aa t τ, p] fun v L => v = AA (Ai (¬ AQ τ r.path) 60) ∧ L = [Ae b8 (CM t (⟨0, ids⟩ : B4) iv r) 134, Ae b5 (D6 r) 33, Aa t τ, p] := by
 refine Fn.intro func103 Y Y fun F W => ?_
 refine .sr (.an Y (.sr (.q (.la (CM t (⟨0, ids⟩ : B4) iv r) Y E4) Y (.fa Y Bk (.u (.ld Y Ag) (.cv func104 [_, _] (LD t τ ⟨0, ids⟩ iv r p hA N ho hN r.path) ?_))))))
 refine .u (.not Y) (.cv func90 [_, _] (Ay _ _) ?_)
 refine .an Y (.ret ?_)
 exact .dn Y Y ⟨by congr 1; unfold Ai; first | (simp_all; done) | (simp_all; omega) | (split <;> simp_all; done) | (split <;> simp_all <;> omega), rfl⟩
theorem Wl (t : Nat) (τ : Tr) (ids : List Bs) (iv : Value) (r : Rq) (p : HP) (hA : Dr p ⟨0, ids⟩ iv r) (N : Nat) (ho : τ.Ok N) (hN : N ≤ 1099511627776) (b5 b8 : Nat) : Fn prog 105 #[AI b5, AI b8] [Ae b5 (D6 r) 33, Ae b8 (CM t (⟨0, ids⟩ : B4) iv r) 134, Aa t τ, p] fun v L => v = AA (Ai (r.kind ≠ 10 ∧ ¬ Hj τ ids r.path 1) 65) ∧ L = [Ae b5 (D6 r) 33, Ae b8 (CM t (⟨0, ids⟩ : B4) iv r) 134, Aa t τ, p] := by
 refine Fn.intro func105 Y Y fun F W => ?_
 refine .sr (.an Y (.sr (.fa Y Bl (.u (.ld Y AR) (.ui Y Y Y (.m Y (.ndec (t := 6) Y (fun h1_6 => ?_) (fun h1_6 => ?_))))))))
 ·refine .kNT (t := 5) Y h1_6 (.gr (.q (.la (CM t (⟨0, ids⟩ : B4) iv r) Y E4) Y (.gr (.fa Y Bk (.gr (.u (.ld Y Ag) (.gr (.cv func92 [_, _, _] (IJ t τ ⟨0, ids⟩ iv r p hA N ho hN r.path 1) ?_))))))))
  refine .gr (.u (.not Y) (.pT Y Y (.cv func90 [_, _] (Ay _ _) ?_)))
  refine .an Y (.ret ?_)
  exact .dn Y Y ⟨by congr 1; unfold Ai; first | (simp_all; done) | (simp_all; omega) | (split <;> simp_all; done) | (split <;> simp_all <;> omega), rfl⟩
 refine .kNF (t := 5) Y h1_6 (.gk (.gk (.gk (.gk (.gk (.pF Y Y (.cv func90 [_, _] (Ay _ _) ?_)))))))
 refine .an Y (.ret ?_)
 exact .dn Y Y ⟨by congr 1; unfold Ai; first | (simp_all; done) | (simp_all; omega) | (split <;> simp_all; done) | (split <;> simp_all <;> omega), rfl⟩
theorem UW (t : Nat) (τ : Tr) (ids : List Bs) (iv : Value) (r : Rq) (p : HP) (hA : Dr p ⟨0, ids⟩ iv r) (N : Nat) (ho : τ.Ok N) (hN : N ≤ 1099511627776) (b5 b8 b9 : Nat) (va : Value) (p0 : HP) (hr : ∀ h : Hp, p0 h → Cx 1 h va 4 [.func (.func 101) #[] #[AI b9], .func (.func 102) #[] #[AI b5], .func (.func 103) #[] #[AI b8, AI b5], .func (.func 105) #[] #[AI b5, AI b8]]) : Fn prog 85 #[va] [p0, Ae b9 [.bool (decide (Bm r.kind))] 4, Ae b5 (D6 r) 33, Ae b8 (CM t (⟨0, ids⟩ : B4) iv r) 134, Aa t τ, p] fun v L => v = AA (BM τ ids r) ∧ L = [p0, Ae b9 [.bool (decide (Bm r.kind))] 4, Ae b5 (D6 r) 33, Ae b8 (CM t (⟨0, ids⟩ : B4) iv r) 134, Aa t τ, p] := by
 refine Fn.unpack (GJ [.func (.func 101) #[] #[AI b9], .func (.func 102) #[] #[AI b5], .func (.func 103) #[] #[AI b8, AI b5], .func (.func 105) #[] #[AI b5, AI b8]] (Rf τ ids r) va p0 _ rfl (by show 4 ≤ _; decide) hr ?_)
 intro i hi hz
 have hi2 : i < 4 := hi
 have hc : i = 0 ∨ i = 1 ∨ i = 2 ∨ i = 3 := by omega
 rcases hc with rfl | rfl | rfl | rfl
 ·exact CA.share (us := []) (vs := []) (ws := [AI b9]) func101 rfl rfl O (WU b9 _)
 ·exact CA.share (us := []) (vs := []) (ws := [AI b5]) func102 rfl rfl O (Xx t τ ids iv r p hA N ho hN b5)
 ·exact CA.share (us := []) (vs := []) (ws := [AI b8, AI b5]) func103 rfl rfl O (WE t τ ids iv r p hA N ho hN b8 b5)
 ·exact CA.share (us := []) (vs := []) (ws := [AI b5, AI b8]) func105 rfl rfl O (Wl t τ ids iv r p hA N ho hN b5 b8)
theorem Sh (t : Nat) (τ : Tr) (ids : List Bs) (iv : Value) (r : Rq) (p : HP) (hA : Dr p ⟨0, ids⟩ iv r) (N : Nat) (ho : τ.Ok N) (hN : N ≤ 1099511627776) : Fn prog 55 #[AI t, iv, .agg (D6 r).toArray] [Aa t τ, p] fun v L =>
    ∃ av kv : Value, v = .agg (BF (DK τ ids r av kv)).toArray ∧ (∃ a c, av = .slice a (Be τ ids r).length c) ∧ (∃ a c, kv = .slice a (BV τ ids r).length c) ∧ L = [Aa t τ, p, Ad 75 2 av (Be τ ids r).length ((Be τ ids r).flatMap CP), Ad 9 1 kv (BV τ ids r).length (Ao (BV τ ids r))] := by
 refine Fn.intro func55 Y Y fun F W => ?_
 have hrq := hA.rqcells
 have hcl := hA.cells t
 refine .sr (.oq (.box Y) ?_)
 rintro v L' ⟨b5, rfl, rfl⟩
 refine .oq (.allocA CS) ?_
 rintro v L' ⟨b6, rfl, rfl⟩
 refine .nil (.pc b5 (D6 r) ?_)
 refine .then_n (.seq (.sm Y (.q (.ptreq Y Y underlying76) Y (.nt (.condF Y (.sk (.seq (.draw [3, 5, 6] [[0, 1, 2, 3, 4, 5], [6]] mixed kQ (.go [Ae b5 _ _] O (.k Y (.fieldAddr Y Lz) (.k Y (.ld Y AR) (.k Y (.move Y) (.h2 (k := 5) Y Y kQ Y (.c func29 [_] (Cd t τ)) O (.allocA CS) O ?_ ?_)))))))))))))
 ·rintro v L' ⟨rfl, rfl⟩
  refine D.k Y (.to (v' := .agg (BF ⟨r.xid, τ.zx, 0, [], [], st0, AG, AG, AG⟩).toArray) (.buildN (pl := [(0, 1), (1, 1), (2, 1), (3, 1), (4, 1), (5, 9), (14, 1), (15, 1), (16, 1)]) (us := [(0, AA r.xid), (1, AA τ.zx)]) (cells := BF ⟨r.xid, τ.zx, 0, [], [], st0, AG, AG, AG⟩) underlying41 kQ CS Y Y) Y) (.hh Y (.allocA CS) ?_)
  rintro v L' ⟨b7, rfl, rfl⟩
  refine D.ph (.g0 (.sa Y Y Y Bg (by exact BL rfl rfl rfl) ?_))
  refine D.ph (.fin (.pc b7 (BF ⟨r.xid, τ.zx, 0, [], [], st0, AG, AG, AG⟩) ?_))
  refine .then_n (.sm Y (.m Y (.q (.la (D6 r) Y Hf) Y (.q (.to (v' := .agg (CM t (⟨0, ids⟩ : B4) iv r).toArray) (.buildN (pl := [(0, 1), (1, 1), (2, 1), (3, 10)]) (us := [(0, AI t), (1, AA (⟨0, ids⟩ : B4).ses), (2, iv), (3, .agg (D6 r).toArray)]) (cells := CM t (⟨0, ids⟩ : B4) iv r) underlying134 kQ Iz Y (IY t (⟨0, ids⟩ : B4) iv hA.shape r)) Y) Y (.oq (.allocA Iz) ?_)))))
  rintro v L' ⟨b8, rfl, rfl⟩
  refine .sa Y Y SY (by exact fun v hv => all_eq_true.1 hcl v hv) ?_
  refine .nil (.pc b8 (CM t (⟨0, ids⟩ : B4) iv r) ?_)
  refine .then_n (.seq (.joinK (ι := Nat) (fun q E => (9, AI q) :: E) (fun q => [Ae q [.bool (decide (Bm r.kind))] 4]) (fun q => True) (pre := []) (ts := [0, 5, 6, 7, 8]) O O ?_ ?_))
  ·refine .region (.fa Y Bl (.u (.ld Y AR) (.ui Y Y Y (.m Y (.dec (t := 25) Y (fun h5_25 => ?_) (fun h5_25 => ?_))))))
   ·refine .kDT (t := 24) Y h5_25 (.gk (.gk (.gk (.pT Y Y (.m Y (.gk (.gk (.gk (.pT Y Y (.m Y (.gk (.gk (.gk (.q (.as (v' := .bool (decide (Bm r.kind))) (by simp [Bm, h5_25]) (.pickT Y Y)) Y (.oq (.alloc NU) ?_)))))))))))))))
    rintro v L' ⟨b9, rfl, rfl⟩
    refine .st Y Y Y Mv ?_
    refine .nt ?_
    exact .mk (b9) (trivial) O
   refine .kDF (t := 24) Y h5_25 (.gr (.fa Y Bl (.gr (.u (.ld Y AR) (.gr (.ui Y Y Y (.pF Y Y (.m Y (.dec (t := 30) Y (fun h5_30 => ?_) (fun h5_30 => ?_))))))))))
   ·refine .kDT (t := 28) Y h5_30 (.kDT (t := 29) Y h5_30 (.gk (.gk (.gk (.pT Y Y (.m Y (.gk (.gk (.gk (.q (.as (v' := .bool (decide (Bm r.kind))) (by simp [Bm, h5_25, h5_30]) (.pickT Y Y)) Y (.oq (.alloc NU) ?_)))))))))))
    rintro v L' ⟨b9, rfl, rfl⟩
    refine .st Y Y Y Mv ?_
    refine .nt ?_
    exact .mk (b9) (trivial) O
   refine .kDF (t := 28) Y h5_30 (.kDF (t := 29) Y h5_30 (.gr (.fa Y Bl (.gr (.u (.ld Y AR) (.gr (.ui Y Y Y (.pF Y Y (.m Y (.dec (t := 35) Y (fun h5_35 => ?_) (fun h5_35 => ?_)))))))))))
   ·refine .kDT (t := 33) Y h5_35 (.kDT (t := 34) Y h5_35 (.gk (.gk (.gk (.q (.as (v' := .bool (decide (Bm r.kind))) (by simp [Bm, h5_25, h5_30, h5_35]) (.pickT Y Y)) Y (.oq (.alloc NU) ?_))))))
    rintro v L' ⟨b9, rfl, rfl⟩
    refine .st Y Y Y Mv ?_
    refine .nt ?_
    exact .mk (b9) (trivial) O
   refine .kDF (t := 33) Y h5_35 (.kDF (t := 34) Y h5_35 (.gr (.fa Y Bl (.gr (.u (.ld Y AR) (.gr (.ui Y Y Y (.q (.as (v' := .bool (decide (Bm r.kind))) (by simp [Bm, h5_25, h5_30, h5_35]) (.pickF Y Y)) Y (.oq (.alloc NU) ?_)))))))))
   rintro v L' ⟨b9, rfl, rfl⟩
   refine .st Y Y Y Mv ?_
   refine .nt ?_
   exact .mk (b9) (trivial) O
  rintro b9 _
  refine .sr (.q (.func (us := []) (vs := [_]) Y Y) Y (.q (.func (us := []) (vs := [_]) Y Y) Y (.q (.func (us := []) (vs := [_, _]) Y Y) Y (.q (.func (us := []) (vs := [_, _]) Y Y) Y (.oq (.buildSlice1 (vs := [_, _, _, _]) I9 Kj Y Y Y Y Y dQ) ?_)))))
  rintro v L' ⟨bf, rfl, rfl⟩
  refine .slMake (b := bf) (n := 4) (c := 4) (xs := [.func (.func 101) #[] #[AI b9], .func (.func 102) #[] #[AI b5], .func (.func 103) #[] #[AI b8, AI b5], .func (.func 105) #[] #[AI b5, AI b8]]) O dQ (by exact Nat.le_refl 4) Y (.cv func85 [_] (UW t τ ids iv r p hA N ho hN b5 b8 b9 _ _ (fun _ => AZ)) ?_)
  refine .fa Y Do (.oq (.store Y Y Y MD ?c79 (Bf _ _)) ?_)
  case c79 => simp
  rintro v L' rfl
  refine .nil (.pc b7 (BF ⟨r.xid, τ.zx, BM τ ids r, [], [], st0, AG, AG, AG⟩) ?_)
  refine .then_n (.seq (.sr (.fa Y Do (.u (.ld Y Ey) (.ui Y Y Y (.nt (.condN Y (fun h49 => ?_) (fun h49 => ?_))))))))
  ·refine .sr (.q (.la (BF (⟨r.xid, τ.zx, BM τ ids r, [], [], st0, AG, AG, AG⟩ : Rp)) Y BB) Y (.sa Y Y Bg (by exact BL rfl rfl rfl) ?_))
   refine .nil ?_
   have hAl : Be τ ids r = [] := EV (fun g => h49 g.1)
   have hKl : BV τ ids r = [] := EN (fun g => h49 g.1)
   refine .add (AN 75 2) (.as (q := Ad 75 2 AG (Be τ ids r).length ((Be τ ids r).flatMap CP)) (p := Ad 75 2 AG 0 []) O (by rw [hAl]; rfl) (.add (AN 9 1) (.as (q := Ad 9 1 AG (BV τ ids r).length (Ao (BV τ ids r))) (p := Ad 9 1 AG 0 []) O (by rw [hKl]; rfl) (.ptCast (b := b6) (l' := BF (DK τ ids r AG AG)) O (by rw [Nu h49]; rfl) ?_))))
   refine .then_n (.rt ?_)
   exact .d1 Y (.cellA Y BB O (by simp) Y) ⟨AG, AG, Y, ⟨_, _, congrArg (fun l : List Ac => Value.slice _ l.length _) hAl.symm⟩, ⟨_, _, congrArg (fun l : List Bs => Value.slice _ l.length _) hKl.symm⟩, Y⟩
  have hx : BM τ ids r = 0 := by omega
  obtain ⟨hrk, hth⟩ := MS hx
  rw [hx]
  refine .sk (.sm Y (.fa Y Bk (.u (.ld Y Ag) (.cv func76 [_, _] (BZ t τ r.path N ho hN) ?_))))
  refine .m Y (.ex Y Y (.ex Y Y (.fa Y Hc (.sa Y Y DD (by intro v hv; simp only [B7, mem_cons, not_mem_nil, or_false] at hv; rcases hv with rfl | rfl | rfl | rfl | rfl | rfl | rfl | rfl | rfl <;> rfl) ?_))))
  refine .nil (.pc b7 (BF ⟨r.xid, τ.zx, 0, [], [], AU τ r.path, AG, AG, AG⟩) ?_)
  refine .then_n (.seq (.sr (.fa Y Bl (.u (.ld Y AR) (.nt (.block (.sr (.ui Y Y Y (.an Y (.condD Y (fun h61 => ?_) (fun h61 => ?_)))))))))))
  ·refine .region (.m Y (.fa Y Bk (.u (.ld Y Ag) (.cv func106 [_, _] (NE t τ r.path N ho hN) ?_))))
   refine .m Y (.ex Y Y (.ex Y Y (.ex Y Y (.fa Y Tj (.oq (.store Y Y Y KM ?c116 (Bf _ _)) ?_)))))
   case c116 => simp
   rintro v L' rfl
   refine .nil (.pc b7 (BF ⟨r.xid, τ.zx, 0, [], He τ r.path, AU τ r.path, AG, AG, AG⟩) ?_)
   refine .blk_n (.then_n (.sr (.q (.la (BF (⟨r.xid, τ.zx, 0, [], He τ r.path, AU τ r.path, AG, AG, AG⟩ : Rp)) Y BB) Y (.sa Y Y Bg (by exact BL rfl rfl rfl) ?_))))
   refine .nil ?_
   have hAl : Be τ ids r = [] := EV (fun g => by have := g.2; omega)
   have hKl : BV τ ids r = [] := EN (fun g => by have := g.2; omega)
   refine .add (AN 75 2) (.as (q := Ad 75 2 AG (Be τ ids r).length ((Be τ ids r).flatMap CP)) (p := Ad 75 2 AG 0 []) O (by rw [hAl]; rfl) (.add (AN 9 1) (.as (q := Ad 9 1 AG (BV τ ids r).length (Ao (BV τ ids r))) (p := Ad 9 1 AG 0 []) O (by rw [hKl]; rfl) (.ptCast (b := b6) (l' := BF (DK τ ids r AG AG)) O (by rw [Oi hx h61]; rfl) ?_))))
   refine .then_n (.ret ?_)
   exact .d1 Y (.cellA Y BB O (by simp) Y) ⟨AG, AG, Y, ⟨_, _, congrArg (fun l : List Ac => Value.slice _ l.length _) hAl.symm⟩, ⟨_, _, congrArg (fun l : List Bs => Value.slice _ l.length _) hKl.symm⟩, Y⟩
  refine .sr (.ui Y Y Y (.an Y (.condD Y (fun h72 => ?_) (fun h72 => ?_))))
  ·refine .region (.m Y (.fa Y Bk (.u (.ld Y Ag) (.oq (.c func107 [_, _] (LK t τ r.path N ho hN)) ?_))))
   rintro v L' ⟨uk, lk, rfl, -, hlk, ⟨ak, ck, rfl⟩, rfl⟩; rw [if_pos hth] at hlk; subst hlk
   refine .m Y (.ex Y Y (.ex Y Y (.fa Y US (.oq (.store Y Y Y AAi ?c134 (Bf _ _)) ?_))))
   case c134 => simp
   rintro v L' rfl
   refine .nil (.pc b7 (BF ⟨r.xid, τ.zx, 0, [], [], AU τ r.path, AG, (.slice ak (Bh τ r.path).length ck), AG⟩) ?_)
   refine .blk_n (.then_n (.sr (.q (.la (BF (⟨r.xid, τ.zx, 0, [], [], AU τ r.path, (AG), (.slice ak (Bh τ r.path).length ck), AG⟩ : Rp)) Y BB) Y (.sa Y Y Bg (by exact BL rfl rfl rfl) ?_))))
   refine .nil ?_
   have hAl : Be τ ids r = [] := EV (fun g => by have := g.2; omega)
   have hKl : BV τ ids r = Bh τ r.path := Mk hx h72
   refine .add (AN 75 2) (.as (q := Ad 75 2 AG (Be τ ids r).length ((Be τ ids r).flatMap CP)) (p := Ad 75 2 AG 0 []) O (by rw [hAl]; rfl) (.as (q := Ad 9 1 (.slice ak (Bh τ r.path).length ck) (BV τ ids r).length (Ao (BV τ ids r))) (p := Ad 9 1 (.slice ak (Bh τ r.path).length ck) (Bh τ r.path).length (Ao (Bh τ r.path))) O (by rw [hKl]) (.ptCast (b := b6) (l' := BF (DK τ ids r AG (.slice ak (Bh τ r.path).length ck))) O (by rw [EQ hx h61]; rfl) ?_)))
   refine .then_n (.ret ?_)
   exact .d1 Y (.cellA Y BB O (by simp) Y) ⟨AG, .slice ak (Bh τ r.path).length ck, Y, ⟨_, _, congrArg (fun l : List Ac => Value.slice _ l.length _) hAl.symm⟩, ⟨_, _, congrArg (fun l : List Bs => Value.slice _ l.length _) hKl.symm⟩, Y⟩
  refine .sr (.ui Y Y Y (.an Y (.condD Y (fun h82 => ?_) (fun h82 => ?_))))
  ·refine .region (.m Y (.fa Y Bk (.u (.ld Y Ag) (.oq (.c func108 [_, _] (JN t τ r.path N ho)) ?_))))
   rintro v L' ⟨ua, rfl, ⟨aa, ca, rfl⟩, rfl⟩
   refine .m Y (.ex Y Y (.ex Y Y (.fa Y T1 (.oq (.store Y Y Y P9 ?c152 (Bf _ _)) ?_))))
   case c152 => simp
   rintro v L' rfl
   refine .nil (.pc b7 (BF ⟨r.xid, τ.zx, 0, [], [], AU τ r.path, (.slice aa (Dn τ r.path).length ca), AG, AG⟩) ?_)
   refine .blk_n (.then_n (.sr (.q (.la (BF (⟨r.xid, τ.zx, 0, [], [], AU τ r.path, (.slice aa (Dn τ r.path).length ca), (AG), AG⟩ : Rp)) Y BB) Y (.sa Y Y Bg (by exact BL rfl rfl rfl) ?_))))
   refine .nil ?_
   have hAl : Be τ ids r = Dn τ r.path := Mx hx h82
   have hKl : BV τ ids r = [] := EN (fun g => by have := g.2; omega)
   refine .add (AN 9 1) (.as (q := Ad 9 1 AG (BV τ ids r).length (Ao (BV τ ids r))) (p := Ad 9 1 AG 0 []) O (by rw [hKl]; rfl) (.as (q := Ad 75 2 (.slice aa (Dn τ r.path).length ca) (Be τ ids r).length ((Be τ ids r).flatMap CP)) (p := Ad 75 2 (.slice aa (Dn τ r.path).length ca) (Dn τ r.path).length ((Dn τ r.path).flatMap CP)) O (by rw [hAl]) (.ptCast (b := b6) (l' := BF (DK τ ids r (.slice aa (Dn τ r.path).length ca) AG)) O (by rw [EQ hx h61]; rfl) ?_)))
   refine .then_n (.ret ?_)
   exact .d1 Y (.cellA Y BB O (by simp) Y) ⟨.slice aa (Dn τ r.path).length ca, AG, Y, ⟨_, _, congrArg (fun l : List Ac => Value.slice _ l.length _) hAl.symm⟩, ⟨_, _, congrArg (fun l : List Bs => Value.slice _ l.length _) hKl.symm⟩, Y⟩
  refine .skip (.blk_n (.then_n (.sr (.q (.la (BF (⟨r.xid, τ.zx, 0, [], [], AU τ r.path, (AG), (AG), AG⟩ : Rp)) Y BB) Y (.sa Y Y Bg (by exact BL rfl rfl rfl) ?_)))))
  refine .nil ?_
  have hAl : Be τ ids r = [] := EV (fun g => h82 g.2)
  have hKl : BV τ ids r = [] := EN (fun g => h72 g.2)
  refine .add (AN 75 2) (.as (q := Ad 75 2 AG (Be τ ids r).length ((Be τ ids r).flatMap CP)) (p := Ad 75 2 AG 0 []) O (by rw [hAl]; rfl) (.add (AN 9 1) (.as (q := Ad 9 1 AG (BV τ ids r).length (Ao (BV τ ids r))) (p := Ad 9 1 AG 0 []) O (by rw [hKl]; rfl) (.ptCast (b := b6) (l' := BF (DK τ ids r AG AG)) O (by rw [EQ hx h61]; rfl) ?_))))
  refine .then_n (.ret ?_)
  exact .d1 Y (.cellA Y BB O (by simp) Y) ⟨AG, AG, Y, ⟨_, _, congrArg (fun l : List Ac => Value.slice _ l.length _) hAl.symm⟩, ⟨_, _, congrArg (fun l : List Bs => Value.slice _ l.length _) hKl.symm⟩, Y⟩
 rintro v L' ⟨b7, rfl, rfl⟩
 refine D.hh Y (.c func29 [_] (Cd t τ)) ?_
 rintro v L' ⟨rfl, rfl⟩
 refine D.kv Y (.to (v' := .agg (BF ⟨r.xid, τ.zx, 0, [], [], st0, AG, AG, AG⟩).toArray) (.buildN (pl := [(0, 1), (1, 1), (2, 1), (3, 1), (4, 1), (5, 9), (14, 1), (15, 1), (16, 1)]) (us := [(0, AA r.xid), (1, AA τ.zx)]) (cells := BF ⟨r.xid, τ.zx, 0, [], [], st0, AG, AG, AG⟩) underlying41 kQ CS Y Y) Y) (.ph (.g0 (.sa Y Y Y Bg (by exact BL rfl rfl rfl) ?_)))
 refine D.ph (.fin (.pc b7 (BF ⟨r.xid, τ.zx, 0, [], [], st0, AG, AG, AG⟩) ?_))
 refine .then_n (.sm Y (.m Y (.q (.la (D6 r) Y Hf) Y (.q (.to (v' := .agg (CM t (⟨0, ids⟩ : B4) iv r).toArray) (.buildN (pl := [(0, 1), (1, 1), (2, 1), (3, 10)]) (us := [(0, AI t), (1, AA (⟨0, ids⟩ : B4).ses), (2, iv), (3, .agg (D6 r).toArray)]) (cells := CM t (⟨0, ids⟩ : B4) iv r) underlying134 kQ Iz Y (IY t (⟨0, ids⟩ : B4) iv hA.shape r)) Y) Y (.oq (.allocA Iz) ?_)))))
 rintro v L' ⟨b8, rfl, rfl⟩
 refine .sa Y Y SY (by exact fun v hv => all_eq_true.1 hcl v hv) ?_
 refine .nil (.pc b8 (CM t (⟨0, ids⟩ : B4) iv r) ?_)
 refine .then_n (.seq (.joinK (ι := Nat) (fun q E => (9, AI q) :: E) (fun q => [Ae q [.bool (decide (Bm r.kind))] 4]) (fun q => True) (pre := []) (ts := [0, 5, 6, 7, 8]) O O ?_ ?_))
 ·refine .region (.fa Y Bl (.u (.ld Y AR) (.ui Y Y Y (.m Y (.dec (t := 25) Y (fun h5_25 => ?_) (fun h5_25 => ?_))))))
  ·refine .kDT (t := 24) Y h5_25 (.gk (.gk (.gk (.pT Y Y (.m Y (.gk (.gk (.gk (.pT Y Y (.m Y (.gk (.gk (.gk (.q (.as (v' := .bool (decide (Bm r.kind))) (by simp [Bm, h5_25]) (.pickT Y Y)) Y (.oq (.alloc NU) ?_)))))))))))))))
   rintro v L' ⟨b9, rfl, rfl⟩
   refine .st Y Y Y Mv ?_
   refine .nt ?_
   exact .mk (b9) (trivial) O
  refine .kDF (t := 24) Y h5_25 (.gr (.fa Y Bl (.gr (.u (.ld Y AR) (.gr (.ui Y Y Y (.pF Y Y (.m Y (.dec (t := 30) Y (fun h5_30 => ?_) (fun h5_30 => ?_))))))))))
  ·refine .kDT (t := 28) Y h5_30 (.kDT (t := 29) Y h5_30 (.gk (.gk (.gk (.pT Y Y (.m Y (.gk (.gk (.gk (.q (.as (v' := .bool (decide (Bm r.kind))) (by simp [Bm, h5_25, h5_30]) (.pickT Y Y)) Y (.oq (.alloc NU) ?_)))))))))))
   rintro v L' ⟨b9, rfl, rfl⟩
   refine .st Y Y Y Mv ?_
   refine .nt ?_
   exact .mk (b9) (trivial) O
  refine .kDF (t := 28) Y h5_30 (.kDF (t := 29) Y h5_30 (.gr (.fa Y Bl (.gr (.u (.ld Y AR) (.gr (.ui Y Y Y (.pF Y Y (.m Y (.dec (t := 35) Y (fun h5_35 => ?_) (fun h5_35 => ?_)))))))))))
  ·refine .kDT (t := 33) Y h5_35 (.kDT (t := 34) Y h5_35 (.gk (.gk (.gk (.q (.as (v' := .bool (decide (Bm r.kind))) (by simp [Bm, h5_25, h5_30, h5_35]) (.pickT Y Y)) Y (.oq (.alloc NU) ?_))))))
   rintro v L' ⟨b9, rfl, rfl⟩
   refine .st Y Y Y Mv ?_
   refine .nt ?_
   exact .mk (b9) (trivial) O
  refine .kDF (t := 33) Y h5_35 (.kDF (t := 34) Y h5_35 (.gr (.fa Y Bl (.gr (.u (.ld Y AR) (.gr (.ui Y Y Y (.q (.as (v' := .bool (decide (Bm r.kind))) (by simp [Bm, h5_25, h5_30, h5_35]) (.pickF Y Y)) Y (.oq (.alloc NU) ?_)))))))))
  rintro v L' ⟨b9, rfl, rfl⟩
  refine .st Y Y Y Mv ?_
  refine .nt ?_
  exact .mk (b9) (trivial) O
 rintro b9 _
 refine .sr (.q (.func (us := []) (vs := [_]) Y Y) Y (.q (.func (us := []) (vs := [_]) Y Y) Y (.q (.func (us := []) (vs := [_, _]) Y Y) Y (.q (.func (us := []) (vs := [_, _]) Y Y) Y (.oq (.buildSlice1 (vs := [_, _, _, _]) I9 Kj Y Y Y Y Y dQ) ?_)))))
 rintro v L' ⟨bf, rfl, rfl⟩
 refine .slMake (b := bf) (n := 4) (c := 4) (xs := [.func (.func 101) #[] #[AI b9], .func (.func 102) #[] #[AI b5], .func (.func 103) #[] #[AI b8, AI b5], .func (.func 105) #[] #[AI b5, AI b8]]) O dQ (by exact Nat.le_refl 4) Y (.cv func85 [_] (UW t τ ids iv r p hA N ho hN b5 b8 b9 _ _ (fun _ => AZ)) ?_)
 refine .fa Y Do (.oq (.store Y Y Y MD ?c234 (Bf _ _)) ?_)
 case c234 => simp
 rintro v L' rfl
 refine .nil (.pc b7 (BF ⟨r.xid, τ.zx, BM τ ids r, [], [], st0, AG, AG, AG⟩) ?_)
 refine .then_n (.seq (.sr (.fa Y Do (.u (.ld Y Ey) (.ui Y Y Y (.nt (.condN Y (fun h49 => ?_) (fun h49 => ?_))))))))
 ·refine .sr (.q (.la (BF (⟨r.xid, τ.zx, BM τ ids r, [], [], st0, AG, AG, AG⟩ : Rp)) Y BB) Y (.sa Y Y Bg (by exact BL rfl rfl rfl) ?_))
  refine .nil ?_
  have hAl : Be τ ids r = [] := EV (fun g => h49 g.1)
  have hKl : BV τ ids r = [] := EN (fun g => h49 g.1)
  refine .add (AN 75 2) (.as (q := Ad 75 2 AG (Be τ ids r).length ((Be τ ids r).flatMap CP)) (p := Ad 75 2 AG 0 []) O (by rw [hAl]; rfl) (.add (AN 9 1) (.as (q := Ad 9 1 AG (BV τ ids r).length (Ao (BV τ ids r))) (p := Ad 9 1 AG 0 []) O (by rw [hKl]; rfl) (.ptCast (b := b6) (l' := BF (DK τ ids r AG AG)) O (by rw [Nu h49]; rfl) ?_))))
  refine .then_n (.rt ?_)
  exact .d1 Y (.cellA Y BB O (by simp) Y) ⟨AG, AG, Y, ⟨_, _, congrArg (fun l : List Ac => Value.slice _ l.length _) hAl.symm⟩, ⟨_, _, congrArg (fun l : List Bs => Value.slice _ l.length _) hKl.symm⟩, Y⟩
 have hx : BM τ ids r = 0 := by omega
 obtain ⟨hrk, hth⟩ := MS hx
 rw [hx]
 refine .sk (.sm Y (.fa Y Bk (.u (.ld Y Ag) (.cv func76 [_, _] (BZ t τ r.path N ho hN) ?_))))
 refine .m Y (.ex Y Y (.ex Y Y (.fa Y Hc (.sa Y Y DD (by intro v hv; simp only [B7, mem_cons, not_mem_nil, or_false] at hv; rcases hv with rfl | rfl | rfl | rfl | rfl | rfl | rfl | rfl | rfl <;> rfl) ?_))))
 refine .nil (.pc b7 (BF ⟨r.xid, τ.zx, 0, [], [], AU τ r.path, AG, AG, AG⟩) ?_)
 refine .then_n (.seq (.sr (.fa Y Bl (.u (.ld Y AR) (.nt (.block (.sr (.ui Y Y Y (.an Y (.condD Y (fun h61 => ?_) (fun h61 => ?_)))))))))))
 ·refine .region (.m Y (.fa Y Bk (.u (.ld Y Ag) (.cv func106 [_, _] (NE t τ r.path N ho hN) ?_))))
  refine .m Y (.ex Y Y (.ex Y Y (.ex Y Y (.fa Y Tj (.oq (.store Y Y Y KM ?c271 (Bf _ _)) ?_)))))
  case c271 => simp
  rintro v L' rfl
  refine .nil (.pc b7 (BF ⟨r.xid, τ.zx, 0, [], He τ r.path, AU τ r.path, AG, AG, AG⟩) ?_)
  refine .blk_n (.then_n (.sr (.q (.la (BF (⟨r.xid, τ.zx, 0, [], He τ r.path, AU τ r.path, AG, AG, AG⟩ : Rp)) Y BB) Y (.sa Y Y Bg (by exact BL rfl rfl rfl) ?_))))
  refine .nil ?_
  have hAl : Be τ ids r = [] := EV (fun g => by have := g.2; omega)
  have hKl : BV τ ids r = [] := EN (fun g => by have := g.2; omega)
  refine .add (AN 75 2) (.as (q := Ad 75 2 AG (Be τ ids r).length ((Be τ ids r).flatMap CP)) (p := Ad 75 2 AG 0 []) O (by rw [hAl]; rfl) (.add (AN 9 1) (.as (q := Ad 9 1 AG (BV τ ids r).length (Ao (BV τ ids r))) (p := Ad 9 1 AG 0 []) O (by rw [hKl]; rfl) (.ptCast (b := b6) (l' := BF (DK τ ids r AG AG)) O (by rw [Oi hx h61]; rfl) ?_))))
  refine .then_n (.ret ?_)
  exact .d1 Y (.cellA Y BB O (by simp) Y) ⟨AG, AG, Y, ⟨_, _, congrArg (fun l : List Ac => Value.slice _ l.length _) hAl.symm⟩, ⟨_, _, congrArg (fun l : List Bs => Value.slice _ l.length _) hKl.symm⟩, Y⟩
 refine .sr (.ui Y Y Y (.an Y (.condD Y (fun h72 => ?_) (fun h72 => ?_))))
 ·refine .region (.m Y (.fa Y Bk (.u (.ld Y Ag) (.oq (.c func107 [_, _] (LK t τ r.path N ho hN)) ?_))))
  rintro v L' ⟨uk, lk, rfl, -, hlk, ⟨ak, ck, rfl⟩, rfl⟩; rw [if_pos hth] at hlk; subst hlk
  refine .m Y (.ex Y Y (.ex Y Y (.fa Y US (.oq (.store Y Y Y AAi ?c289 (Bf _ _)) ?_))))
  case c289 => simp
  rintro v L' rfl
  refine .nil (.pc b7 (BF ⟨r.xid, τ.zx, 0, [], [], AU τ r.path, AG, (.slice ak (Bh τ r.path).length ck), AG⟩) ?_)
  refine .blk_n (.then_n (.sr (.q (.la (BF (⟨r.xid, τ.zx, 0, [], [], AU τ r.path, (AG), (.slice ak (Bh τ r.path).length ck), AG⟩ : Rp)) Y BB) Y (.sa Y Y Bg (by exact BL rfl rfl rfl) ?_))))
  refine .nil ?_
  have hAl : Be τ ids r = [] := EV (fun g => by have := g.2; omega)
  have hKl : BV τ ids r = Bh τ r.path := Mk hx h72
  refine .add (AN 75 2) (.as (q := Ad 75 2 AG (Be τ ids r).length ((Be τ ids r).flatMap CP)) (p := Ad 75 2 AG 0 []) O (by rw [hAl]; rfl) (.as (q := Ad 9 1 (.slice ak (Bh τ r.path).length ck) (BV τ ids r).length (Ao (BV τ ids r))) (p := Ad 9 1 (.slice ak (Bh τ r.path).length ck) (Bh τ r.path).length (Ao (Bh τ r.path))) O (by rw [hKl]) (.ptCast (b := b6) (l' := BF (DK τ ids r AG (.slice ak (Bh τ r.path).length ck))) O (by rw [EQ hx h61]; rfl) ?_)))
  refine .then_n (.ret ?_)
  exact .d1 Y (.cellA Y BB O (by simp) Y) ⟨AG, .slice ak (Bh τ r.path).length ck, Y, ⟨_, _, congrArg (fun l : List Ac => Value.slice _ l.length _) hAl.symm⟩, ⟨_, _, congrArg (fun l : List Bs => Value.slice _ l.length _) hKl.symm⟩, Y⟩
 refine .sr (.ui Y Y Y (.an Y (.condD Y (fun h82 => ?_) (fun h82 => ?_))))
 ·refine .region (.m Y (.fa Y Bk (.u (.ld Y Ag) (.oq (.c func108 [_, _] (JN t τ r.path N ho)) ?_))))
  rintro v L' ⟨ua, rfl, ⟨aa, ca, rfl⟩, rfl⟩
  refine .m Y (.ex Y Y (.ex Y Y (.fa Y T1 (.oq (.store Y Y Y P9 ?c307 (Bf _ _)) ?_))))
  case c307 => simp
  rintro v L' rfl
  refine .nil (.pc b7 (BF ⟨r.xid, τ.zx, 0, [], [], AU τ r.path, (.slice aa (Dn τ r.path).length ca), AG, AG⟩) ?_)
  refine .blk_n (.then_n (.sr (.q (.la (BF (⟨r.xid, τ.zx, 0, [], [], AU τ r.path, (.slice aa (Dn τ r.path).length ca), (AG), AG⟩ : Rp)) Y BB) Y (.sa Y Y Bg (by exact BL rfl rfl rfl) ?_))))
  refine .nil ?_
  have hAl : Be τ ids r = Dn τ r.path := Mx hx h82
  have hKl : BV τ ids r = [] := EN (fun g => by have := g.2; omega)
  refine .add (AN 9 1) (.as (q := Ad 9 1 AG (BV τ ids r).length (Ao (BV τ ids r))) (p := Ad 9 1 AG 0 []) O (by rw [hKl]; rfl) (.as (q := Ad 75 2 (.slice aa (Dn τ r.path).length ca) (Be τ ids r).length ((Be τ ids r).flatMap CP)) (p := Ad 75 2 (.slice aa (Dn τ r.path).length ca) (Dn τ r.path).length ((Dn τ r.path).flatMap CP)) O (by rw [hAl]) (.ptCast (b := b6) (l' := BF (DK τ ids r (.slice aa (Dn τ r.path).length ca) AG)) O (by rw [EQ hx h61]; rfl) ?_)))
  refine .then_n (.ret ?_)
  exact .d1 Y (.cellA Y BB O (by simp) Y) ⟨.slice aa (Dn τ r.path).length ca, AG, Y, ⟨_, _, congrArg (fun l : List Ac => Value.slice _ l.length _) hAl.symm⟩, ⟨_, _, congrArg (fun l : List Bs => Value.slice _ l.length _) hKl.symm⟩, Y⟩
 refine .skip (.blk_n (.then_n (.sr (.q (.la (BF (⟨r.xid, τ.zx, 0, [], [], AU τ r.path, (AG), (AG), AG⟩ : Rp)) Y BB) Y (.sa Y Y Bg (by exact BL rfl rfl rfl) ?_)))))
 refine .nil ?_
 have hAl : Be τ ids r = [] := EV (fun g => h82 g.2)
 have hKl : BV τ ids r = [] := EN (fun g => h72 g.2)
 refine .add (AN 75 2) (.as (q := Ad 75 2 AG (Be τ ids r).length ((Be τ ids r).flatMap CP)) (p := Ad 75 2 AG 0 []) O (by rw [hAl]; rfl) (.add (AN 9 1) (.as (q := Ad 9 1 AG (BV τ ids r).length (Ao (BV τ ids r))) (p := Ad 9 1 AG 0 []) O (by rw [hKl]; rfl) (.ptCast (b := b6) (l' := BF (DK τ ids r AG AG)) O (by rw [EQ hx h61]; rfl) ?_))))
 refine .then_n (.ret ?_)
 exact .d1 Y (.cellA Y BB O (by simp) Y) ⟨AG, AG, Y, ⟨_, _, congrArg (fun l : List Ac => Value.slice _ l.length _) hAl.symm⟩, ⟨_, _, congrArg (fun l : List Bs => Value.slice _ l.length _) hKl.symm⟩, Y⟩
theorem Iy.pre {π : Pl} {n : Nat} (h : Iy π n) (hn : n ≤ 4097) : π.τ.Ok 65536 ∧ π.ord.length ≤ 1048576 ∧ π.ω.length ≤ 4096 ∧ ∀ i, (π.ev i).length ≤ 1099511627776 := by
 have h1 := h.ord
 have h2 := h.few
 refine ⟨h.ok.more om, by omega, by omega, fun i => ?_⟩
 have h3 := h.ev i
 have h4 : n * 67108864 ≤ 4097 * 67108864 := Nat.mul_le_mul_right _ hn
 omega
theorem Cg {x : Rp} (h1 : AB x.aclV = true) (h2 : AB x.kidsV = true) (h3 : AB x.subsV = true) : ∀ v ∈ BF x, AB v = true := by
 intro v hv
 simp only [BF, B7, cons_append, nil_append, mem_cons, not_mem_nil, or_false] at hv
 rcases hv with rfl | rfl | rfl | rfl | rfl | rfl | rfl | rfl | rfl | rfl | rfl | rfl | rfl | rfl | rfl | rfl | rfl <;> first | rfl | assumption
theorem Gi.rqc {q : HP} {s : Int} {r : Rq} {subs : List Rq} {l : List G8} (h : Gi q s r subs l) : ∀ v ∈ D6 r, AB v = true := h.d.w.rqcells
theorem Hz (b : Nat) (k : V4) (π : Pl) (t : Int) (n : Nat) (hB : Iy π n) (hn : n ≤ 4096) : Fn prog 9 #[AI b, AA t] [Pr b k π] fun v L => v = .tuple #[AA (KT π t).2.1, AA (KT π t).2.2] ∧ L = [Pr b k (KT π t).1] := by
 refine Fn.intro func9 Y Y fun F W => ?_
 refine .plOpen (π := π) O fun ov mi me hI => ?_
 have hop := hB.op
 have hiz : (RI π.τ).length = π.τ.sess.length := length_map _
 have hP := hB.pre om
 refine .sr (.a Y (.an Y (.seq (.sm Y (.nf Y Dm (.fa Y Fj (.u (.ld Y DA) (.oq (.call func22 Y Y (vs := [_]) Y (Ld k.t π.τ _ hP.1 (fun x hx => by have := hB.ses x hx; omega) om)) ?_))))))))
 rintro v L' ⟨⟨as1, cs1, rfl⟩, rfl⟩; rw [hiz]
 refine .q (.slen Y underlying86 Y) Y (.ui Y Y Y (.nt (.condD Y (fun h13 => ?_) (fun h13 => ?_))))
 ·have hp : KT π t = (π, (0, 91)) := if_pos om
  rw [hp]
  refine .plFold (π) hI O (by rfl) (by rfl) (by rfl) (by rfl) (by rfl) (by rfl) (.sr (.a Y (.an Y (.rt ?_))))
  exact .vv
 have hp : KT π t = ((Bv (Gg π) (π.opened + 1) 0 (El (π.opened + 1) t) []), (π.opened + 1, 0)) := if_neg om
 rw [hp]
 refine .sk (.sm Y (.nf Y Jy (.u (.ld Y AR) (.q (.add Y Y om) Y (.nf Y Jy (.oq (.store Y Y Y CC ?c21 (Bf _ _)) ?_))))))
 case c21 => simp [WA]
 rintro v L' rfl
 refine .nil (.pc b (WA k ov (Gg π).opened) ?_)
 refine .add (p := aclR (El (π.opened + 1) t)) (AN _ _) (.add (p := Ad 60 8 (El (π.opened + 1) t).subsV ([] : List Pt).length (([] : List Pt).flatMap A1)) (AN _ _) (.add (p := Ah aclR []) (fun h => CX h) ?_))
 have hI0 : LR (Gg π) mi me := ⟨hI.i1, hI.e1, hI.i2, hI.e2⟩
 have hs1 : A4 (π.opened + 1) := ⟨by omega, by omega⟩
 refine .then_n (.seq (.draw [13] [[0, 1, 2, 3, 4, 5, 6, 7, 8, 9, 10, 11, 12, 13]] mixed kQ (.g0 (.mv Y Y (.mv Y Y (.nf Y Y Y Jy (.kv Y (.ld Y AR) (.mv Y Y (.nf Y Y Y Jy (.kv Y (.ld Y AR) (.mv Y Y (.kv Y (.max2 Y Y) (.kv Y (.min2 Y Y) (.kv Y (.to (v' := .agg (A1 (El (π.opened + 1) t)).toArray) (.build (us := [(0, _), (4, _), (5, _)]) FG BK Y Y (by simp [AB])) Y) (.hh Y (.call func23 Y Y (vs := [_, _, _, _]) Y (Ms b k (Gg π) ov mi me hI0 (π.opened + 1) 0 (El (π.opened + 1) t) [] (N0 := 0) (Lo hs1 0) dQ ⟨Y, none, 0, Y⟩ (fun _ h => by cases h) hs1 A4.zero 65536 hP.1 dQ hP.2.1 hP.2.2.1 hP.2.2.2)) ?_)))))))))))))))
 rintro v L' ⟨z, rfl, hz, hzm, rfl⟩
 refine D.pf (.sm Y (.nf Y Jy (.u (.ld Y AR) (.a Y (.a Y (.nil (.idPost hzm O (.bigAdd (f := entR) (l := (Gg π).ord) (Br (Gg π) (π.opened + 1) 0 (El (π.opened + 1) t) []) (p := entR (Br (Gg π) (π.opened + 1) 0 (El (π.opened + 1) t) [])) Y O (.plFold (k := k) (Bv (Gg π) (π.opened + 1) 0 (El (π.opened + 1) t) []) hz O (by rfl) (by rfl) (by rfl) (by rfl) (by rfl) (by rfl) (.then_n (.ret ?_)))))))))))
 exact .vv
theorem Ri (r : Rq) (hr : ∀ v ∈ D6 r, AB v = true) (e : Int) : Fn prog 56 #[.agg (D6 r).toArray, AA e] [] fun v L => v = AA (B9 r e) ∧ L = [] := by
 refine Fn.intro func56 Y Y fun F W => ?_
 refine .sr (.oq (.box Y) ?_)
 rintro v L' ⟨b2, rfl, rfl⟩
 refine .a Y (.nil (.pc b2 (D6 r) ?_))
 refine .then_n (.seq (.block (.sr (.fa Y Zd (.u (.ld Y Xc) (.u (.not Y) (.an Y (.condB Y (fun h5 => ?_) (fun h5 => ?_)))))))))
 ·refine .skip (.blk_n (.then_n (.sr (.an Y (.ret ?_)))))
  have hq : True := trivial
  exact .dn Y Y ⟨by unfold B9; simp_all, rfl⟩
 refine .sr (.fa Y Bl (.u (.ld Y AR) (.ui Y Y Y (.m Y (.dec (t := 13) Y (fun h2_13 => ?_) (fun h2_13 => ?_))))))
 ·refine .kDT (t := 12) Y h2_13 (.gr (.m Y (.gr (.ui Y Y Y (.pT Y Y (.an Y (.condD Y (fun h9 => ?_) (fun h9 => ?_))))))))
  ·refine .sr (.an Y (.ret (.blk_r (.then_r ?_))))
   have hq : True := trivial
   exact .dn Y Y ⟨by unfold B9; simp_all, rfl⟩
  refine .sm Y (.ui Y Y Y (.an Y (.condN Y (fun h17 => ?_) (fun h17 => ?_))))
  ·refine .skip (.blk_n (.then_n (.sr (.an Y (.ret ?_)))))
   have hq : True := trivial
   exact .dn Y Y ⟨by unfold B9; simp_all, rfl⟩
  refine .sr (.fa Y Bl (.u (.ld Y AR) (.ui Y Y Y (.m Y (.dec (t := 24) Y (fun h5_24 => ?_) (fun h5_24 => ?_))))))
  ·refine .kDT (t := 23) Y h5_24 (.gk (.gk (.gk (.pT Y Y (.an Y (.condT Y (.sr (.an Y (.ret (.blk_r (.then_r ?_)))))))))))
   have hq : True := trivial
   exact .dn Y Y ⟨by unfold B9; simp_all, rfl⟩
  refine .kDF (t := 23) Y h5_24 (.gr (.fa Y Bl (.gr (.u (.ld Y AR) (.gr (.ui Y Y Y (.pF Y Y (.an Y (.condD Y (fun h20 => ?_) (fun h20 => ?_))))))))))
  ·refine .sr (.an Y (.ret (.blk_r (.then_r ?_))))
   have hq : True := trivial
   exact .dn Y Y ⟨by unfold B9; simp_all, rfl⟩
  refine .sr (.fa Y Bl (.u (.ld Y AR) (.ui Y Y Y (.an Y (.condD Y (fun h29 => ?_) (fun h29 => ?_))))))
  ·refine .sr (.an Y (.ret (.blk_r (.then_r ?_))))
   have hq : True := trivial
   exact .dn Y Y ⟨by unfold B9; simp_all, rfl⟩
  refine .skip (.blk_n (.then_n (.sr (.an Y (.ret ?_)))))
  have hq : True := trivial
  exact .dn Y Y ⟨by unfold B9; simp_all, rfl⟩
 refine .kDF (t := 12) Y h2_13 (.gk (.gk (.pF Y Y (.an Y (.condF Y (.sm Y (.ui Y Y Y (.an Y (.condN Y (fun h17 => ?_) (fun h17 => ?_))))))))))
 ·refine .skip (.blk_n (.then_n (.sr (.an Y (.ret ?_)))))
  have hq : True := trivial
  exact .dn Y Y ⟨by unfold B9; simp_all, rfl⟩
 refine .sr (.fa Y Bl (.u (.ld Y AR) (.ui Y Y Y (.m Y (.dec (t := 24) Y (fun h5_24 => ?_) (fun h5_24 => ?_))))))
 ·refine .kDT (t := 23) Y h5_24 (.gk (.gk (.gk (.pT Y Y (.an Y (.condT Y (.sr (.an Y (.ret (.blk_r (.then_r ?_)))))))))))
  have hq : True := trivial
  exact .dn Y Y ⟨by unfold B9; simp_all, rfl⟩
 refine .kDF (t := 23) Y h5_24 (.gr (.fa Y Bl (.gr (.u (.ld Y AR) (.gr (.ui Y Y Y (.pF Y Y (.an Y (.condD Y (fun h20 => ?_) (fun h20 => ?_))))))))))
 ·refine .sr (.an Y (.ret (.blk_r (.then_r ?_))))
  have hq : True := trivial
  exact .dn Y Y ⟨by unfold B9; simp_all, rfl⟩
 refine .sr (.fa Y Bl (.u (.ld Y AR) (.ui Y Y Y (.an Y (.condD Y (fun h29 => ?_) (fun h29 => ?_))))))
 ·refine .sr (.an Y (.ret (.blk_r (.then_r ?_))))
  have hq : True := trivial
  exact .dn Y Y ⟨by unfold B9; simp_all, rfl⟩
 refine .skip (.blk_n (.then_n (.sr (.an Y (.ret ?_)))))
 have hq : True := trivial
 exact .dn Y Y ⟨by unfold B9; simp_all, rfl⟩
section
variable {W : World} {n : Nat} {ds : List Deferred} {E : B0} {L R : List HP} {X : Act → World → Prop}
theorem G.idTakeP {m : Sm Bs} (s : Int) {ids : List Bs} (hids : ids = (BT m s).2) (hL : BI (Ah OM m) L R)
  (h : ∀ a c, (BT m s).1 = .slice a ids.length c → G W n ds E (Ad 9 1 (.slice a ids.length c) ids.length (Ao ids) :: Ah OM (BX m s) :: R) X) : G W n ds E L X := by
 subst hids; exact G.idTakeS s hL h
theorem G.idBackP {m : Sm Bs} (s : Int) {ids : List Bs} {v : Value} (hids : ids = (BT m s).2) (hv : (BT m s).1 = v) (hL : BC [Ad 9 1 v ids.length (Ao ids), Ah OM (BX m s)] L R)
  (h : G W n ds E (Ah OM m :: R) X) : G W n ds E L X := by
 subst hids; subst hv; exact G.idBack s hL h
end
theorem Sy {r : Rq} {e : Int} (h : B9 r e ≠ 0) : r.watch = true := by
 unfold B9 at h
 split at h
 ·exact absurd rfl h
 ·rename_i g; simpa using g
theorem LR.ids {π : Pl} {mi : Sm Bs} {me : Sm Ev} (h : LR π mi me) (s : Int) (v : Value) (l : List Bs) : LR ⟨π.τ, π.ω, π.ord, π.opened, D0 π.ids s l, π.ev⟩ (BR mi s (v, l)) me :=
 ⟨Bx h.i1 _ _, h.e1, fun i => Km h.i2 s (v, l) i, h.e2⟩
theorem LR.evs {π : Pl} {mi : Sm Bs} {me : Sm Ev} (h : LR π mi me) (s : Int) (v : Value) (ω : List Wt) (l : List Ev) : LR ⟨π.τ, ω, π.ord, π.opened, π.ids, D0 π.ev s l⟩ mi (BR me s (v, l)) :=
 ⟨h.i1, Bx h.e1 _ _, h.i2, fun i => Km h.e2 s (v, l) i⟩
theorem LR.evd {π : Pl} {mi : Sm Bs} {me : Sm Ev} (h : LR π mi me) (s : Int) : LR (ABR π s) mi (BX me s) :=
 ⟨h.i1, DF h.e1 _, h.i2, fun i => Kd h.e1 h.e2 s i⟩
theorem Bw (e : Int) : ∀ v ∈ BF (CV e), AB v = true := Cg rfl rfl rfl
theorem P5 (b : Nat) (k : V4) (π : Pl) (s : Int) (r : Rq) (subs : List Rq) (l : List G8) (q : HP) (hA : Gi q s r subs l) (hs : 1 ≤ s ∧ s ≤ 5) (n : Nat) (hB : Iy π n) (hn : n ≤ 4096) : Fn prog 28 #[AI b, AA s, .agg (D6 r).toArray] [Pr b k π, q] fun v L => ∃ x kids, AAl π s r l x kids ∧ v = .agg (BF x).toArray ∧ L = [Pr b k (Bz π s r l).1, q, Ad 9 1 x.kidsV kids.length (Ao kids)] := by
 refine Fn.intro func28 Y Y fun F W => ?_
 have hP := hB.pre om
 have hrc := hA.rqc
 have hid16 := hB.ids s
 have hrq := hA.d.w.rq
 have hpl := hrq.path
 have hdl := hrq.data
 refine .plOpen (π := π) O fun ov mi me hI => ?_
 have hi2 := hI.i2 s
 have hevl := hP.2.2.2 s
 refine .sr (.oq (.box Y) ?_)
 rintro v L' ⟨b5, rfl, rfl⟩
 refine .oq (.allocA CS) ?_
 rintro v L' ⟨b6, rfl, rfl⟩
 refine .nil (.pc b5 (D6 r) ?_)
 refine .then_n (.sr (.oq (.allocA CS) ?_))
 rintro v L' ⟨b7, rfl, rfl⟩
 refine .nil (.pc b7 (BF (CV 0)) ?_)
 refine .then_n (.seq (.sr (.fa Y Bl (.u (.ld Y AR) (.nt (.block (.sr (.ui Y Y Y (.an Y (.condD Y (fun h48 => ?_) (fun h48 => ?_)))))))))))
 ·refine .sr (.fa Y Bk (.u (.ld Y Ag) (.fa Y Ia (.u (.ld Y Ag) (.cv func52 [_, _] (QS q hA.tz r.path r.data om om) ?_)))))
  refine .m Y (.ex Y Y (.ex Y Y (.a Y (.an Y (.sm Y (.fa Y Do (.oq (.store Y Y Y MD ?c19 (Bf _ _)) ?_)))))))
  case c19 => simp
  rintro v L' rfl
  refine .nil (.pc b7 (BF (CV (BW r.path r.data).2)) ?_)
  refine .then_n (.seq (.idTakeP s hi2 O fun ai ci hsi => (.region (.m Y (.nf Y J2 (.u (.ld Y Q8) (.m Y (.q (.to (v' := .slice ai (π.ids s).length ci) (.lookupV (m := mi) (enc := SP) (AX.int underlying3) (v := (BT mi s).1) (fun b hb => Fq b hb) (fun hb => Fm hb) Y Y underlying82 Yj O Y) hsi) Y (.an Y (.block (.sm Y (.ui Y Y Y (.m Y (.ndec (t := 78) Y (fun h14_78 => ?_) (fun h14_78 => ?_)))))))))))))))
  ·refine .kNT (t := 77) Y h14_78 (.gk (.gk (.gk (.pT Y Y (.an Y (.condT Y (.skip (.blk_n (.blk_n (.then_n (.seq ?_)))))))))))
   have hcd : (BW r.path r.data).2 ≠ 0 ∨ (BW r.path r.data).1 ∈ (π.ids s) := by first | exact .inl (by assumption) | exact .inr (by assumption)
   have hp : Bz π s r l = (π, (BW r.path r.data).2) := by unfold Bz; rw [if_pos h48]; unfold Ik; rcases hcd with g | g; exact if_pos g; by_cases g2 : (BW r.path r.data).2 = 0; rw [if_neg (fun z => z g2), if_pos g, g2]; rw [if_pos g2]
   refine .idBackP s (hI.i2 s) hsi O (.plFold (k := k) π hI O (by rfl) (by rfl) (by rfl) (by rfl) (by rfl) (by rfl) (.add (p := Ad 9 1 AG ([] : List Bs).length (Ao [])) (AN _ _) (.region (.q (.la (BF (CV (BW r.path r.data).2)) Y BB) Y (.sa Y Y Bg (by exact Bw _) ?_)))))
   refine .nil (.pc b6 (BF (CV (BW r.path r.data).2)) ?_)
   refine .then_n (.ret ?_)
   exact .d1 Y (.cellA Y BB O (by simp) Y) ⟨CV (BW r.path r.data).2, [], ⟨by rw [hp]; rfl, Bw _, ⟨none, 0, rfl⟩, (fun _ hk => absurd hk (by unfold Bm; omega))⟩, rfl, by rw [hp]⟩
  refine .kNF (t := 77) Y h14_78 (.gr (.m Y (.gr (.m Y (.gr (.oq (.call func53 Y Y (vs := [_, _]) Y (LF _ (π.ids s) (Ad 9 1 (.slice ai (π.ids s).length ci) (π.ids s).length (Ao (π.ids s))) (fun h hp => AZ hp) om (BW r.path r.data).1)) ?_))))))
  rintro v L' ⟨rfl, rfl⟩
  refine .pF Y Y (.an Y (.condD Y (fun h75 => ?_) (fun h75 => ?_)))
  ·refine .skip (.blk_n (.blk_n (.then_n (.seq ?_))))
   have hcd : (BW r.path r.data).2 ≠ 0 ∨ (BW r.path r.data).1 ∈ (π.ids s) := by first | exact .inl (by assumption) | exact .inr (by assumption)
   have hp : Bz π s r l = (π, (BW r.path r.data).2) := by unfold Bz; rw [if_pos h48]; unfold Ik; rcases hcd with g | g; exact if_pos g; by_cases g2 : (BW r.path r.data).2 = 0; rw [if_neg (fun z => z g2), if_pos g, g2]; rw [if_pos g2]
   refine .idBackP s (hI.i2 s) hsi O (.plFold (k := k) π hI O (by rfl) (by rfl) (by rfl) (by rfl) (by rfl) (by rfl) (.add (p := Ad 9 1 AG ([] : List Bs).length (Ao [])) (AN _ _) (.region (.q (.la (BF (CV (BW r.path r.data).2)) Y BB) Y (.sa Y Y Bg (by exact Bw _) ?_)))))
   refine .nil (.pc b6 (BF (CV (BW r.path r.data).2)) ?_)
   refine .then_n (.ret ?_)
   exact .d1 Y (.cellA Y BB O (by simp) Y) ⟨CV (BW r.path r.data).2, [], ⟨by rw [hp]; rfl, Bw _, ⟨none, 0, rfl⟩, (fun _ hk => absurd hk (by unfold Bm; omega))⟩, rfl, by rw [hp]⟩
  have hc0 : (BW r.path r.data).2 = 0 := by first | assumption | omega
  have hno : (BW r.path r.data).1 ∉ (π.ids s) := by assumption
  refine .sm Y (.q (.slen Y underlying38 Y) Y (.ui Y Y Y (.an Y (.condD Y (fun h83 => ?_) (fun h83 => ?_)))))
  ·refine .region (.fa Y Do (.oq (.store Y Y Y MD ?c47 (Bf _ _)) ?_))
   case c47 => simp
   rintro v L' rfl
   refine .nil (.pc b7 (BF (CV 1)) ?_)
   refine .blk_n (.blk_n (.then_n (.seq ?_)))
   have hp : Bz π s r l = (π, 1) := by unfold Bz; rw [if_pos h48]; unfold Ik; rw [if_neg (fun z => z hc0), if_neg hno]; exact if_pos om
   refine .idBackP s (hI.i2 s) hsi O (.plFold (k := k) π hI O (by rfl) (by rfl) (by rfl) (by rfl) (by rfl) (by rfl) (.add (p := Ad 9 1 AG ([] : List Bs).length (Ao [])) (AN _ _) (.region (.q (.la (BF (CV 1)) Y BB) Y (.sa Y Y Bg (by exact Bw _) ?_)))))
   refine .nil (.pc b6 (BF (CV 1)) ?_)
   refine .then_n (.ret ?_)
   exact .d1 Y (.cellA Y BB O (by simp) Y) ⟨CV 1, [], ⟨by rw [hp]; rfl, Bw _, ⟨none, 0, rfl⟩, (fun _ hk => absurd hk (by unfold Bm; omega))⟩, rfl, by rw [hp]⟩
  refine .draw [7, 8, 9] [[0, 1, 2, 3, 4, 5, 6, 7, 8], [9]] mixed kQ (.go [Ae b _ _] O (.k Y (.move Y) (.k Y (.nilp Y) (.k Y (.fieldAddr Y J2) (.k Y (.ld Y Q8) (.k Y (.move Y) (.k Y (.move Y) (.mv Y Y (.hh Y (.buildSlice1 (vs := [_]) CO Hk Y Y Y Y Y dQ) ?_)))))))))
  rintro v L' ⟨bw, rfl, rfl⟩
  refine D.hh Y (.append1 Y Y Y CO Hk Y Y ?c63 ?c64 (Nat.le_refl _) ?c65 dQ) ?_
  case c63 => simp [Value.cells, AB]
  case c64 => rfl
  case c65 => omega
  rintro v L' ⟨⟨a13, c13, rfl⟩, rfl⟩
  refine D.ph (.g0 (.hh Y (.mapSet (m := mi) (enc := SP) (v := (.slice a13 ((π.ids s).length + 1) c13, (π.ids s) ++ [(BW r.path r.data).1])) (k := s) (AX.int underlying3) Y Y Y underlying82 ?he68) ?_))
  case he68 => rfl
  rintro v L' rfl
  refine D.ph (.fin (.idPut (m := mi) s (v := .slice a13 ((π.ids s).length + 1) c13) ((π.ids s) ++ [(BW r.path r.data).1]) O (by rw [length_append]; rfl) (by simp [Ao, Value.cells]) ?_))
  have hc02 : (BW r.path r.data).2 = 0 := hc0
  refine .ptCast (b := b7) (l' := BF (CV 0)) O (by rw [hc02]) ?_
  refine .blk_n (.blk_n (.then_n (.seq ?_)))
  have hp : Bz π s r l = (⟨π.τ, π.ω, π.ord, π.opened, D0 π.ids s ((π.ids s) ++ [(BW r.path r.data).1]), π.ev⟩, 0) := by unfold Bz; rw [if_pos h48]; unfold Ik; rw [if_neg (fun z => z hc0), if_neg hno]; exact if_neg om
  refine .plFold (k := k) ⟨π.τ, π.ω, π.ord, π.opened, D0 π.ids s ((π.ids s) ++ [(BW r.path r.data).1]), π.ev⟩ (hI.ids s (.slice a13 ((π.ids s).length + 1) c13) _) O (by rfl) (by rfl) (by rfl) (by rfl) (by rfl) (by rfl) (.add (p := Ad 9 1 AG ([] : List Bs).length (Ao [])) (AN _ _) (.region (.q (.la (BF (CV 0)) Y BB) Y (.sa Y Y Bg (by exact Bw _) ?_))))
  refine .nil (.pc b6 (BF (CV 0)) ?_)
  refine .then_n (.ret ?_)
  exact .d1 Y (.cellA Y BB O (by simp) Y) ⟨CV 0, [], ⟨by rw [hp]; rfl, Bw _, ⟨none, 0, rfl⟩, (fun _ hk => absurd hk (by unfold Bm; omega))⟩, rfl, by rw [hp]⟩
 refine .sr (.ui Y Y Y (.an Y (.condD Y (fun h88 => ?_) (fun h88 => ?_))))
 ·refine .evTake (m := me) s O ?_
  have hal := Js π.τ s π.ω l l.length (Nat.le_refl _)
  rw [take_length] at hal
  have hal2 := hA.arm.len
  have he2 := hI.e2 s
  refine .draw [24, 25, 26] [[0, 1, 2, 3, 4, 5, 6, 7, 8, 9, 10, 11, 12, 13, 14, 15, 16, 17, 18, 19, 20, 21, 22, 23, 24, 25], [26]] mixed kQ (.go [Ae b _ _, mapR k.rev _, Ae b5 _ _] O (.k Y (.move Y) (.k Y (.nilp Y) (.k Y (.fieldAddr Y HB) (.k Y (.ld Y Mg) (.k Y (.move Y) (.k Y (.move Y) (.k Y (.nilp Y) (.k Y (.fieldAddr Y HB) (.k Y (.ld Y Mg) (.k Y (.move Y) (.k Y ((.lookupV (m := me) (enc := SP) (AX.int underlying3) (v := (BT me s).1) (fun b hb => Fq b hb) (fun hb => Fm hb) Y Y underlying83 Yr O Y)) (.mv Y Y (.nf Y Y Y Dm (.kv Y (.fieldAddr Y Lv) (.kv Y (.ld Y UY) (.mv Y Y (.mv Y Y (.nf Y Y Y Dm (.kv Y (.fieldAddr Y Fj) (.kv Y (.ld Y DA) (.kv Y (.fieldAddr Y Zc) ?_))))))))))))))))))))))
  refine D.kv Y (.ld Y AB5) (.hh Y (.call func54 Y Y (vs := [_, _, _, _]) Y (VR k.u k.t π.ω π.τ s r.armV l q hA.arm _ hP.1 om hs.1 om)) ?_)
  rintro v L' ⟨aw, cw, rfl, rfl⟩
  refine D.hh Y (.append (n := (BT me s).2.length) (m := (Bi π.τ s π.ω l).2.length) (ys := (Bi π.τ s π.ω l).2.flatMap BU) (p := Ad 50 3 (.slice aw (Bi π.τ s π.ω l).2.length cw) (Bi π.τ s π.ω l).2.length ((Bi π.τ s π.ω l).2.flatMap BU)) Y Y Y DJ (.inl ⟨_, underlying47⟩) Bu Y Y ?hc103 (fun h hp => AZ hp) ?hb104 dQ) ?_
  case hc103 => intro y hy; obtain ⟨z, _, hz⟩ := mem_flatMap.1 hy; simp only [BU, mem_cons, not_mem_nil, or_false] at hz; rcases hz with rfl | rfl | rfl <;> rfl
  case hb104 => rw [← he2]; omega
  rintro v L' ⟨⟨a18, c18, rfl⟩, rfl⟩
  refine D.ph (.g0 (.hh Y (.mapSet (m := me) (enc := SP) (v := (.slice a18 ((BT me s).2.length + (Bi π.τ s π.ω l).2.length) c18, (BT me s).2 ++ (Bi π.τ s π.ω l).2)) (k := s) (AX.int underlying3) Y Y Y underlying83 ?he107) ?_))
  case he107 => rfl
  rintro v L' rfl
  refine D.ph (.fin (.evPut (m := me) s (v := .slice a18 ((BT me s).2.length + (Bi π.τ s π.ω l).2.length) c18) ((BT me s).2 ++ (Bi π.τ s π.ω l).2) O (by rw [length_append]) (by rw [flatMap_append]) ?_))
  have hIa : LR (X4 π s l) mi (BR me s (.slice a18 ((BT me s).2.length + (Bi π.τ s π.ω l).2.length) c18, (BT me s).2 ++ (Bi π.τ s π.ω l).2)) := by have h := hI.evs s (.slice a18 ((BT me s).2.length + (Bi π.τ s π.ω l).2.length) c18) (Bi π.τ s π.ω l).1 (π.ev s ++ (Bi π.τ s π.ω l).2); rw [he2] at h; unfold X4; rw [he2]; exact h
  refine .blk_n (.then_n (.seq ?_))
  have hp : Bz π s r l = (X4 π s l, 0) := by unfold Bz; rw [if_neg h48, if_pos h88]
  refine .plFold (k := k) (X4 π s l) hIa O (by rfl) (by rfl) (by rfl) (by rfl) (by rfl) (by rfl) (.add (p := Ad 9 1 AG ([] : List Bs).length (Ao [])) (AN _ _) (.region (.q (.la (BF (CV 0)) Y BB) Y (.sa Y Y Bg (by exact Bw _) ?_))))
  refine .nil (.pc b6 (BF (CV 0)) ?_)
  refine .then_n (.ret ?_)
  exact .d1 Y (.cellA Y BB O (by simp) Y) ⟨CV 0, [], ⟨by rw [hp]; rfl, Bw _, ⟨none, 0, rfl⟩, (fun _ hk => absurd hk (by unfold Bm; omega))⟩, rfl, by rw [hp]⟩
 refine .sr (.ui Y Y Y (.an Y (.condD Y (fun h116 => ?_) (fun h116 => ?_))))
 ·refine .skip (.blk_n (.then_n (.seq ?_)))
  have hp : Bz π s r l = (π, 0) := by unfold Bz; rw [if_neg h48, if_neg h88, if_pos h116]
  refine .plFold (k := k) π hI O (by rfl) (by rfl) (by rfl) (by rfl) (by rfl) (by rfl) (.add (p := Ad 9 1 AG ([] : List Bs).length (Ao [])) (AN _ _) (.region (.q (.la (BF (CV 0)) Y BB) Y (.sa Y Y Bg (by exact Bw _) ?_))))
  refine .nil (.pc b6 (BF (CV 0)) ?_)
  refine .then_n (.ret ?_)
  exact .d1 Y (.cellA Y BB O (by simp) Y) ⟨CV 0, [], ⟨by rw [hp]; rfl, Bw _, ⟨none, 0, rfl⟩, (fun _ hk => absurd hk (by unfold Bm; omega))⟩, rfl, by rw [hp]⟩
 refine .seq (.idTakeP s hi2 O fun ai ci hsi => (.fold (p := (CD [Ad 9 1 (.slice ai (π.ids s).length ci) (π.ids s).length (Ao (π.ids s)), q])) (q := [Ad 9 1 (.slice ai (π.ids s).length ci) (π.ids s).length (Ao (π.ids s)), q]) O (fun _ h => h) ?_))
 have hW : Dr (CD [Ad 9 1 (.slice ai (π.ids s).length ci) (π.ids s).length (Ao (π.ids s)), q]) ⟨0, (π.ids s)⟩ (.slice ai (π.ids s).length ci) r := (hA.d.more (a := Ad 9 1 (.slice ai (π.ids s).length ci) (π.ids s).length (Ao (π.ids s))) (fun _ hp => AZ hp) om ⟨_, _, _, rfl⟩).w.z
 refine .draw [12, 13] [[0, 1, 2, 3, 4, 5, 6, 7, 8, 9, 10, 11, 12], [13]] mixed kQ (.g0 (.mv Y Y (.nf Y Y Y Dm (.kv Y (.fieldAddr Y Fj) (.kv Y (.ld Y DA) (.mv Y Y (.nf Y Y Y J2 (.kv Y (.ld Y Q8) (.mv Y Y (.kv Y (.to (v' := .slice ai (π.ids s).length ci) (.lookupV (m := mi) (enc := SP) (AX.int underlying3) (v := (BT mi s).1) (fun b hb => Fq b hb) (fun hb => Fm hb) Y Y underlying82 Yj O Y) hsi) (.kv Y (.la (D6 r) Y Hf) (.hh Y (.call func55 Y Y (vs := [_, _, _]) Y (Sh k.t π.τ (π.ids s) (.slice ai (π.ids s).length ci) r (CD [Ad 9 1 (.slice ai (π.ids s).length ci) (π.ids s).length (Ao (π.ids s)), q]) hW _ hP.1 om)) ?_))))))))))))
 rintro v L' ⟨av, kv, rfl, ⟨aa, ca, ha⟩, ⟨ak, ck, hk⟩, rfl⟩
 refine D.ph (.g0 (.sa Y Y Y Bg (by exact Cg (by rw [ha]; rfl) (by rw [hk]; rfl) rfl) ?_))
 refine D.ph (.fin (.pc b7 (BF (DK π.τ (π.ids s) r av kv)) ?_))
 refine .focus (p := (CD [Ad 9 1 (.slice ai (π.ids s).length ci) (π.ids s).length (Ao (π.ids s)), q])) O (.unfold (q := [Ad 9 1 (.slice ai (π.ids s).length ci) (π.ids s).length (Ao (π.ids s)), q]) (fun _ h => h) (.idBackP s hi2 hsi O (.then_n (.sr (.q (.la (D6 r) Y Hf) Y (.fa Y Do (.q (.as (v' := AA (BM π.τ (π.ids s) r)) (by rfl) (.ld Y Ey)) Y (.cv func56 [_, _] (Ri r hrc (BM π.τ (π.ids s) r)) ?_))))))))
 refine .an Y (.sm Y (.ui Y Y Y (.nt (.condN Y (fun h33 => ?_) (fun h33 => ?_)))))
 ·have h33n : ¬ (B9 r (BM π.τ (π.ids s) r)) = 0 := by simpa using h33
  refine .seq (.draw [9] [[0, 1, 2, 3, 4, 5, 6, 7, 8, 9], [10]] mixed kQ (.g0 (.mv Y Y (.nf Y Y Y Dm (.kv Y (.fieldAddr Y Lv) (.kv Y (.ld Y UY) (.mv Y Y (.mv Y Y (.kv Y (.fieldAddr Y Bk) (.kv Y (.ld Y Ag) (.hh Y (.c func57 [_, _, _, _] (OR k.u π.ω s (B9 r (BM π.τ (π.ids s) r)) r.path om om)) ?_)))))))))))
  rintro v L' ⟨rfl, rfl⟩
  refine D.ph (.g0 (.kv Y (.assign Y) (.pf (.sm Y (.ui Y Y Y (.nt (.condN Y (fun h45 => ?_) (fun h45 => ?_))))))))
  ·have h45n : (addW π.ω s (B9 r (BM π.τ (π.ids s) r)) r.path).2 ≠ 0 := by simpa using h45
   refine .region (.m Y (.q (.to (v' := .agg (BF (CV (addW π.ω s (B9 r (BM π.τ (π.ids s) r)) r.path).2)).toArray) (.buildN (pl := [(0, 1), (1, 1), (2, 1), (3, 1), (4, 1), (5, 9), (14, 1), (15, 1), (16, 1)]) (us := [(2, AA (addW π.ω s (B9 r (BM π.τ (π.ids s) r)) r.path).2)]) (cells := BF (CV (addW π.ω s (B9 r (BM π.τ (π.ids s) r)) r.path).2)) underlying41 kQ CS Y Y) Y) Y (.sa Y Y Bg (by exact Bw _) ?_)))
   refine .nil (.ptCast (b := b7) (l' := BF (CV (addW π.ω s (B9 r (BM π.τ (π.ids s) r)) r.path).2)) O (by exact rfl) ?_)
   refine .blk_n (.then_n (.seq ?_))
   have hp : Bz π s r l = (⟨π.τ, (addW π.ω s (B9 r (BM π.τ (π.ids s) r)) r.path).1, π.ord, π.opened, π.ids, π.ev⟩, (addW π.ω s (B9 r (BM π.τ (π.ids s) r)) r.path).2) := by unfold Bz; rw [if_neg h48, if_neg h88, if_neg h116]; unfold Nj; rw [if_neg h33n, if_pos h45n]
   refine .plFold (k := k) ⟨π.τ, (addW π.ω s (B9 r (BM π.τ (π.ids s) r)) r.path).1, π.ord, π.opened, π.ids, π.ev⟩ ⟨hI.i1, hI.e1, hI.i2, hI.e2⟩ O (by rfl) (by rfl) (by rfl) (by rfl) (by rfl) (by rfl) (.add (p := Ad 9 1 AG ([] : List Bs).length (Ao [])) (AN _ _) (.region (.q (.to (v' := .agg (BF (CV (addW π.ω s (B9 r (BM π.τ (π.ids s) r)) r.path).2)).toArray) (.loadA Y BB O (by simp)) (by rfl)) Y (.sa Y Y Bg (by exact Bw _) ?_))))
   refine .nil (.ptCast (b := b6) (l' := BF (CV (addW π.ω s (B9 r (BM π.τ (π.ids s) r)) r.path).2)) O (by exact rfl) ?_)
   refine .then_n (.ret ?_)
   exact .d1 Y (.cellA Y BB O (by simp) Y) ⟨CV (addW π.ω s (B9 r (BM π.τ (π.ids s) r)) r.path).2, [], ⟨by rw [hp]; rfl, Bw _, ⟨none, 0, rfl⟩, (fun hw _ => absurd (Sy h33n) (by rw [hw]; decide))⟩, rfl, by rw [hp]⟩
  have h45n : ¬ (addW π.ω s (B9 r (BM π.τ (π.ids s) r)) r.path).2 ≠ 0 := by simpa using h45
  refine .skip (.blk_n (.then_n (.seq ?_)))
  have hp : Bz π s r l = (⟨π.τ, (addW π.ω s (B9 r (BM π.τ (π.ids s) r)) r.path).1, π.ord, π.opened, π.ids, π.ev⟩, BM π.τ (π.ids s) r) := by unfold Bz; rw [if_neg h48, if_neg h88, if_neg h116]; unfold Nj; rw [if_neg h33n, if_neg h45n]
  refine .plFold (k := k) ⟨π.τ, (addW π.ω s (B9 r (BM π.τ (π.ids s) r)) r.path).1, π.ord, π.opened, π.ids, π.ev⟩ ⟨hI.i1, hI.e1, hI.i2, hI.e2⟩ O (by rfl) (by rfl) (by rfl) (by rfl) (by rfl) (by rfl) (.region (.q (.la (BF ((DK π.τ (π.ids s) r av kv))) Y BB) Y (.sa Y Y Bg (by exact Cg (by rw [ha]; rfl) (by rw [hk]; rfl) rfl) ?_)))
  refine .nil (.pc b6 (BF ((DK π.τ (π.ids s) r av kv))) ?_)
  refine .then_n (.ret ?_)
  exact .d1 Y (.cellA Y BB O (by simp) Y) ⟨(DK π.τ (π.ids s) r av kv), BV π.τ (π.ids s) r, ⟨by rw [hp]; rfl, Cg (by rw [ha]; rfl) (by rw [hk]; rfl) rfl, ⟨ak, ck, hk⟩, (fun _ _ => ⟨av, kv, rfl, rfl⟩)⟩, rfl, by rw [hp]⟩
 refine .skip (.blk_n (.then_n (.seq ?_)))
 have h33 : (B9 r (BM π.τ (π.ids s) r)) = 0 := by simpa using h33
 have hp : Bz π s r l = (π, BM π.τ (π.ids s) r) := by unfold Bz; rw [if_neg h48, if_neg h88, if_neg h116]; unfold Nj; exact if_pos h33
 refine .plFold (k := k) π hI O (by rfl) (by rfl) (by rfl) (by rfl) (by rfl) (by rfl) (.region (.q (.la (BF ((DK π.τ (π.ids s) r av kv))) Y BB) Y (.sa Y Y Bg (by exact Cg (by rw [ha]; rfl) (by rw [hk]; rfl) rfl) ?_)))
 refine .nil (.pc b6 (BF ((DK π.τ (π.ids s) r av kv))) ?_)
 refine .then_n (.ret ?_)
 exact .d1 Y (.cellA Y BB O (by simp) Y) ⟨(DK π.τ (π.ids s) r av kv), BV π.τ (π.ids s) r, ⟨by rw [hp]; rfl, Cg (by rw [ha]; rfl) (by rw [hk]; rfl) rfl, ⟨ak, ck, hk⟩, (fun _ _ => ⟨av, kv, rfl, rfl⟩)⟩, rfl, by rw [hp]⟩
theorem AAz {x : Rp} (h : ∀ v ∈ BF x, AB v = true) : AB x.aclV = true ∧ AB x.kidsV = true ∧ AB x.subsV = true :=
 ⟨h _ (by simp [BF]), h _ (by simp [BF]), h _ (by simp [BF])⟩
theorem CI (b : Nat) (k : V4) (π : Pl) (s : Int) (r : Rq) (subs : List Rq) (l : List G8) (q : HP) (hA : Gi q s r subs l) (hs : CF π.τ s → 1 ≤ s ∧ s ≤ 5) (n : Nat) (hB : Iy π n) (hn : n ≤ 4096) : Fn prog 10 #[AI b, AA s, .agg (D6 r).toArray] [Pr b k π, q] fun v L => ∃ π' x kids e, GI π s r subs l π' x kids e ∧ v = .tuple #[.agg (BF x).toArray, AA e] ∧ L = [Pr b k π', q, Ad 9 1 x.kidsV kids.length (Ao kids)] := by
 refine Fn.intro func10 Y Y fun F W => ?_
 have hP := hB.pre om
 have hrc := hA.rqc
 have hid16 := hB.ids s
 have hrq := hA.d.w.rq
 refine .sr (.oq (.box Y) ?_)
 rintro v L' ⟨b5, rfl, rfl⟩
 refine .oq (.allocA CS) ?_
 rintro v L' ⟨b6, rfl, rfl⟩
 refine .a Y (.nil (.pc b5 (D6 r) ?_))
 refine .then_n (.seq (.sm Y (.m Y (.cv func24 [_, _] (Pp b k π s) ?_))))
 refine .u (.not Y) (.nt (.condN Y (fun h12 => ?_) (fun h12 => ?_)))
 ·refine .sr (.q (.to (v' := .agg (BF U4).toArray) (.buildN (pl := [(0, 1), (1, 1), (2, 1), (3, 1), (4, 1), (5, 9), (14, 1), (15, 1), (16, 1)]) (us := []) (cells := BF U4) underlying41 kQ CS Y Y) Y) Y (.sa Y Y Bg (by exact Cg rfl rfl rfl) ?_))
  refine .a Y (.nil (.pc b6 (BF U4) ?_))
  refine .add (p := Ad 9 1 AG ([] : List Bs).length (Ao [])) (AN _ _) (.then_n (.rt ?_))
  exact .d2 Y (.cellA Y BB O (by simp) Y) (.tmp Y) ⟨π, U4, [], 67, ⟨fun _ => ⟨Y, Y, Y, Y⟩, fun g => absurd g h12, fun g => absurd g h12, fun g => absurd g h12, Cg Y Y Y, ⟨none, 0, Y⟩⟩, Y, Y⟩
 have hse : CF π.τ s := by simpa using h12
 refine .sk (.sr (.oq (.allocA CS) ?_))
 rintro v L' ⟨b8, rfl, rfl⟩
 refine .nil (.pc b8 (BF U4) ?_)
 refine .then_n (.seq (.sr (.fa Y Bl (.u (.ld Y AR) (.cv func25 [_] (Iw r.kind) ?_)))))
 refine .nt (.condB Y (fun h16 => ?_) (fun h16 => ?_))
 ·refine .plOpen (π := π) O fun ov mi me hI => (.idTakeP s (hI.i2 s) O fun ai ci hsi => (.fold (p := (CD [Ad 9 1 (.slice ai (π.ids s).length ci) (π.ids s).length (Ao (π.ids s)), q])) (q := [Ad 9 1 (.slice ai (π.ids s).length ci) (π.ids s).length (Ao (π.ids s)), q]) O (fun _ h => h) ?_))
  have hW : WiD (CD [Ad 9 1 (.slice ai (π.ids s).length ci) (π.ids s).length (Ao (π.ids s)), q]) ⟨s, (π.ids s)⟩ (.slice ai (π.ids s).length ci) r subs := hA.d.more (a := Ad 9 1 (.slice ai (π.ids s).length ci) (π.ids s).length (Ao (π.ids s))) (fun _ hp => AZ hp) om ⟨_, _, _, rfl⟩
  refine .draw [22, 23, 24, 25] [[0, 1, 2, 3, 4, 5, 6, 7, 8, 9, 10, 11, 12, 13, 14, 15, 16, 17, 18, 19, 20, 21, 22, 23], [24], [25]] mixed kQ (.goI (Ww b 85 0 (AI k.t)) [Ae b5 _ _] O (.k Y (.move Y) (.k Y (.nilp Y) (.k Y (.fieldAddr Y Dm) (.k Y (.fieldAddr Y Fj) (.stL Y kQ Y DA O Y (.k Y (.move Y) (.k Y (.move Y) (.k Y (.fieldAddr Y Lz) (.k Y (.ld Y AR) (.mv Y Y (.nf Y Y Y Dm (.kv Y (.fieldAddr Y Fj) (.kv Y (.ld Y DA) (.mv Y Y (.mv Y Y (.nf Y Y Y J2 (.kv Y (.ld Y Q8) (.mv Y Y (.kv Y (.to (v' := .slice ai (π.ids s).length ci) (.lookupV (m := mi) (enc := SP) (AX.int underlying3) (v := (BT mi s).1) (fun b hb => Fq b hb) (fun hb => Fm hb) Y Y underlying82 Yj O Y) hsi) ?_))))))))))))))))))))
  refine D.kv Y (.la (D6 r) Y Hf) (.hI Y kQ (.call func27 Y Y (vs := [_, _, _, _]) Y (S9 k.t π.τ ⟨s, (π.ids s)⟩ (.slice ai (π.ids s).length ci) r (CD [Ad 9 1 (.slice ai (π.ids s).length ci) (π.ids s).length (Ao (π.ids s)), q]) hW.w _ hP.1 om hB.w om subs hW.rd hW.each hW.acls om)) O ?ivnx46 ?_)
  case ivnx46 => rintro v L' ⟨y, ys, rfl, hy, hys, hc, hcs, rfl⟩; exact ⟨_, _, O, rfl⟩
  rintro v L' ⟨y, ys, rfl, hy, hys, hc, hcs, rfl⟩
  have hG := (XT hB.ok hW).of hy hys
  have hys2 := hG.few om
  have hGo := hG.ok hP.1 (CY π)
  refine D.hI Y kQ (.c func23 [_, _, _, _] (Ms b k π ov mi me hI s r.xid y ys hG om hc hcs hA.d.w.ses hrq.xid 65536 hP.1 dQ hP.2.1 hP.2.2.1 hP.2.2.2)) O ?ivnx48 ?_
  case ivnx48 => rintro v L' ⟨z, rfl, hz, hzm, rfl⟩; exact ⟨_, _, O, rfl⟩
  rintro v L' ⟨z, rfl, hz, hzm, rfl⟩
  refine D.ph (.g0 (.hh Y (.call func26 Y Y (vs := [_, _]) Y (RX k.t (Bv π s r.xid y ys).τ (Br π s r.xid y ys) _ hGo om (entR (Br π s r.xid y ys)) (fun _ hp => Hn hp) hys2 hc.1 (by obtain ⟨-, a, c, e⟩ := hc; show AB y.subsV = true; rw [e]; rfl) (fun z hz => ⟨(hcs z hz).1, by rw [(hcs z hz).2]; rfl⟩))) ?_))
  rintro v L' ⟨w, rfl, ⟨aw, cw, hw⟩, rfl⟩
  refine D.ph (.g0 (.sa Y Y Y Bg (by exact Cg rfl rfl (by show AB w = true; rw [hw]; rfl)) ?_))
  refine D.ph (.fin (.pc b8 (BF ((BH (Bv π s r.xid y ys).τ (Br π s r.xid y ys)).ws w)) ?_))
  refine .focus (p := (CD [Ad 9 1 (.slice ai (π.ids s).length ci) (π.ids s).length (Ao (π.ids s)), q])) O (.unfold (q := [Ad 9 1 (.slice ai (π.ids s).length ci) (π.ids s).length (Ao (π.ids s)), q]) (fun _ h => h) (.idBackP s (hI.i2 s) hsi O (.idPost hzm O (.bigAdd (f := entR) (l := π.ord) (Br π s r.xid y ys) (p := entR (Br π s r.xid y ys)) Y O (.plFold (k := k) (Bv π s r.xid y ys) hz O (by rfl) (by rfl) (by rfl) (by rfl) (by rfl) (by rfl) (.add (p := Ad 9 1 AG ([] : List Bs).length (Ao [])) (AN _ _) (.then_n (.seq (.plOpen (π := (Bv π s r.xid y ys)) O fun ov2 mi2 me2 hI2 => (.draw [7, 9, 11] [[0, 1, 2, 3, 4, 5, 6, 8, 7], [9], [10, 11]] mixed kQ (.go [Ae b5 _ _] O ?_)))))))))))
  refine D.k Y (.fieldAddr Y Lz) (.k Y (.ld Y AR) (.mv Y Y (.nf Y Y Y Dm (.kv Y (.fieldAddr Y Fj) (.kv Y (.ld Y DA) (.k Y (.fieldAddr Y L3) (.hh Y (.c func29 [_] (Cd k.t (Bv π s r.xid y ys).τ)) ?_)))))))
  rintro v L' ⟨rfl, rfl⟩
  refine D.ph (.g0 (.hh Y (.store Y Y Y CC ?c67 (Bf _ _)) ?_))
  case c67 => simp
  rintro v L' rfl
  refine D.ph (.g0 (.kv Y (.fieldAddr Y L6) (.hh Y (.store Y Y Y CC ?c71 (Bf _ _)) ?_)))
  case c71 => simp
  rintro v L' rfl
  refine D.ph (.fin (.pc b8 (BF (⟨r.xid, (Bv π s r.xid y ys).τ.zx, ((BH (Bv π s r.xid y ys).τ (Br π s r.xid y ys)).ws w).err, ((BH (Bv π s r.xid y ys).τ (Br π s r.xid y ys)).ws w).path, ((BH (Bv π s r.xid y ys).τ (Br π s r.xid y ys)).ws w).data, ((BH (Bv π s r.xid y ys).τ (Br π s r.xid y ys)).ws w).st, ((BH (Bv π s r.xid y ys).τ (Br π s r.xid y ys)).ws w).aclV, ((BH (Bv π s r.xid y ys).τ (Br π s r.xid y ys)).ws w).kidsV, ((BH (Bv π s r.xid y ys).τ (Br π s r.xid y ys)).ws w).subsV⟩ : Rp)) ?_))
  refine .plFold (k := k) (Bv π s r.xid y ys) hI2 O (by rfl) (by rfl) (by rfl) (by rfl) (by rfl) (by rfl) (.then_n (.sr (.q (.to (v' := .agg (BF (⟨r.xid, (Bv π s r.xid y ys).τ.zx, ((BH (Bv π s r.xid y ys).τ (Br π s r.xid y ys)).ws w).err, ((BH (Bv π s r.xid y ys).τ (Br π s r.xid y ys)).ws w).path, ((BH (Bv π s r.xid y ys).τ (Br π s r.xid y ys)).ws w).data, ((BH (Bv π s r.xid y ys).τ (Br π s r.xid y ys)).ws w).st, ((BH (Bv π s r.xid y ys).τ (Br π s r.xid y ys)).ws w).aclV, ((BH (Bv π s r.xid y ys).τ (Br π s r.xid y ys)).ws w).kidsV, ((BH (Bv π s r.xid y ys).τ (Br π s r.xid y ys)).ws w).subsV⟩ : Rp)).toArray) (.loadA Y BB O (by simp)) (by rfl)) Y (.sa Y Y Bg (by exact Cg rfl rfl (by show AB w = true; rw [hw]; rfl)) ?_))))
  refine .a Y (.nil (.pc b6 (BF (⟨r.xid, (Bv π s r.xid y ys).τ.zx, ((BH (Bv π s r.xid y ys).τ (Br π s r.xid y ys)).ws w).err, ((BH (Bv π s r.xid y ys).τ (Br π s r.xid y ys)).ws w).path, ((BH (Bv π s r.xid y ys).τ (Br π s r.xid y ys)).ws w).data, ((BH (Bv π s r.xid y ys).τ (Br π s r.xid y ys)).ws w).st, ((BH (Bv π s r.xid y ys).τ (Br π s r.xid y ys)).ws w).aclV, ((BH (Bv π s r.xid y ys).τ (Br π s r.xid y ys)).ws w).kidsV, ((BH (Bv π s r.xid y ys).τ (Br π s r.xid y ys)).ws w).subsV⟩ : Rp)) ?_))
  refine .then_n (.ret ?_)
  exact .d2 Y (.cellA Y BB O (by simp) Y) (.tmp Y) ⟨(Bv π s r.xid y ys), (⟨r.xid, (Bv π s r.xid y ys).τ.zx, ((BH (Bv π s r.xid y ys).τ (Br π s r.xid y ys)).ws w).err, ((BH (Bv π s r.xid y ys).τ (Br π s r.xid y ys)).ws w).path, ((BH (Bv π s r.xid y ys).τ (Br π s r.xid y ys)).ws w).data, ((BH (Bv π s r.xid y ys).τ (Br π s r.xid y ys)).ws w).st, ((BH (Bv π s r.xid y ys).τ (Br π s r.xid y ys)).ws w).aclV, ((BH (Bv π s r.xid y ys).τ (Br π s r.xid y ys)).ws w).kidsV, ((BH (Bv π s r.xid y ys).τ (Br π s r.xid y ys)).ws w).subsV⟩ : Rp), [], 0, ⟨(fun g => absurd hse g), fun _ _ => ⟨Y, Y, y, ys, hy, hys, hc.1, hc.2, hcs, Y, Y⟩, fun _ g => absurd h16 g, fun _ => ⟨Y, Y⟩, Cg Y Y (by show AB w = true; rw [hw]; rfl), ⟨none, 0, Y⟩⟩, Y, Y⟩
 refine .region (.m Y (.m Y (.q (.la (D6 r) Y Hf) Y (.oq (.c func28 [_, _, _] (P5 b k π s r subs l q hA (hs hse) n hB hn)) ?_))))
 rintro v L' ⟨x, kids, hR, rfl, rfl⟩
 refine .sa Y Y Bg (by exact hR.cells) ?_
 refine .nil (.pc b8 (BF x) ?_)
 have hRc := AAz hR.cells
 refine .then_n (.seq (.plOpen (π := (Bz π s r l).1) O fun ov2 mi2 me2 hI2 => (.draw [7, 9, 11] [[0, 1, 2, 3, 4, 5, 6, 8, 7], [9], [10, 11]] mixed kQ (.go [Ae b5 _ _] O (.k Y (.fieldAddr Y Lz) (.k Y (.ld Y AR) (.mv Y Y (.nf Y Y Y Dm (.kv Y (.fieldAddr Y Fj) (.kv Y (.ld Y DA) (.k Y (.fieldAddr Y L3) (.hh Y (.c func29 [_] (Cd k.t (Bz π s r l).1.τ)) ?_))))))))))))
 rintro v L' ⟨rfl, rfl⟩
 refine D.ph (.g0 (.hh Y (.store Y Y Y CC ?c101 (Bf _ _)) ?_))
 case c101 => simp
 rintro v L' rfl
 refine D.ph (.g0 (.kv Y (.fieldAddr Y L6) (.hh Y (.store Y Y Y CC ?c105 (Bf _ _)) ?_)))
 case c105 => simp
 rintro v L' rfl
 refine D.ph (.fin (.pc b8 (BF (⟨r.xid, (Bz π s r l).1.τ.zx, x.err, x.path, x.data, x.st, x.aclV, x.kidsV, x.subsV⟩ : Rp)) ?_))
 refine .plFold (k := k) (Bz π s r l).1 hI2 O (by rfl) (by rfl) (by rfl) (by rfl) (by rfl) (by rfl) (.then_n (.sr (.q (.la (BF (⟨r.xid, (Bz π s r l).1.τ.zx, x.err, x.path, x.data, x.st, x.aclV, x.kidsV, x.subsV⟩ : Rp)) Y BB) Y (.sa Y Y Bg (by exact Cg hRc.1 hRc.2.1 hRc.2.2) ?_))))
 refine .a Y (.nil (.pc b6 (BF (⟨r.xid, (Bz π s r l).1.τ.zx, x.err, x.path, x.data, x.st, x.aclV, x.kidsV, x.subsV⟩ : Rp)) ?_))
 refine .then_n (.ret ?_)
 exact .d2 Y (.cellA Y BB O (by simp) Y) (.tmp Y) ⟨(Bz π s r l).1, (⟨r.xid, (Bz π s r l).1.τ.zx, x.err, x.path, x.data, x.st, x.aclV, x.kidsV, x.subsV⟩ : Rp), kids, 0, ⟨(fun g => absurd hse g), fun _ g => absurd g (by rw [h16]; decide), fun _ _ => ⟨Y, Y, x, hR, Y⟩, fun _ => ⟨Y, Y⟩, Cg hRc.1 hRc.2.1 hRc.2.2, hR.shape⟩, Y, Y⟩
theorem Pg : Fn prog 31 #[.slice none 0 0] [Ad 50 3 (.slice none 0 0) 0 []] fun u L => u = .slice none 0 0 ∧ L = [Ad 50 3 u 0 []] := by
 refine Fn.intro func31 Y Y fun F W => ?_
 refine .sr (.an Y (.sm Y (.m Y (.q (.slen Y underlying47 Y) Y (.m Y (.q (.slen Y underlying47 Y) Y (.q (.clip (n := 0) Y DJ Y Y (Nat.le_refl _) (.inl Y)) Y (.an Y (.ret ?_)))))))))
 exact .dn Y Y ⟨Y, Y⟩
theorem Oy (b n c : Nat) (hc : n ≤ c) (xs : List Value) : Fn prog 31 #[.slice (some ⟨b, 0, none⟩) n c] [Ad 50 3 (.slice (some ⟨b, 0, none⟩) n c) n xs] fun u L => u = .slice (some ⟨b, 0, none⟩) n n ∧ L = [Ad 50 3 u n xs] := by
 refine Fn.intro func31 Y Y fun F W => ?_
 refine .sr (.an Y (.sm Y (.m Y (.q (.slen Y underlying47 Y) Y (.m Y (.q (.slen Y underlying47 Y) Y (.q (.clip (n := n) Y DJ Y Y hc (.inr ⟨_, _, Y⟩)) Y (.an Y (.ret (.slClip O ?_))))))))))
 exact .dn Y Y ⟨Y, Y⟩
theorem RV (v : Value) (n : Nat) (xs : List Value) : Fn prog 31 #[v] [Ad 50 3 v n xs] fun u L => (∃ a c, u = .slice a n c) ∧ L = [Ad 50 3 u n xs] := by
 intro F w hs
 obtain ⟨g1, -, hp⟩ := Ap hs
 rcases hp with ⟨rfl, rfl, rfl⟩ | ⟨b, cap, rest, fr, rfl, -, -, -, h4, -⟩
 ·exact (Pg F w hs).mono fun e w' ⟨u, L, ⟨h1, h2⟩, h3⟩ => ⟨u, L, ⟨⟨_, _, h1⟩, h2⟩, h3⟩
 ·exact (Oy b n cap h4 xs F w hs).mono fun e w' ⟨u, L, ⟨h1, h2⟩, h3⟩ => ⟨u, L, ⟨⟨_, _, h1⟩, h2⟩, h3⟩
theorem ON (b : Nat) (k : V4) (π : Pl) (s : Int) : Fn prog 13 #[AI b, AA s] [Pr b k π] fun v L => ∃ a c, v = .slice a (π.ev s).length c ∧ L = [Pr b k (ABR π s), Ad 50 3 v (π.ev s).length ((π.ev s).flatMap BU)] := by
 refine Fn.intro func13 Y Y fun F W => ?_
 refine .plOpen (π := π) O fun ov mi me hI => ?_
 have he2 := hI.e2 s
 refine .sr (.an Y (.sm Y (.nf Y HB (.u (.ld Y Mg) (.m Y (.q ((.lookupV (m := me) (enc := SP) (AX.int underlying3) (v := (BT me s).1) (fun b hb => Fq b hb) (fun hb => Fm hb) Y Y underlying83 Yr O Y)) Y (.an Y (.sm Y (.nf Y HB (.u (.ld Y Mg) (.m Y (.oq (.mapDel (m := me) (enc := SP) (k := s) (AX.int underlying3) Y Y Y underlying83 ?he13) ?_))))))))))))
 case he13 => rfl
 rintro v L' rfl
 refine .nil (.evTake (m := me) s O (.slCast (T := 50) (sz := 3) (m' := (π.ev s).length) (xs' := (π.ev s).flatMap BU) O (by rw [he2]) (by rw [he2]) (.then_n (.sm Y (.oq (.c func31 [_] (RV (BT me s).1 (π.ev s).length ((π.ev s).flatMap BU))) ?_)))))
 rintro v L' ⟨⟨ac, cc, rfl⟩, rfl⟩
 refine .a Y (.nil (.plFold (k := k) (ABR π s) (hI.evd s) O (by rfl) (by rfl) (by rfl) (by rfl) (by rfl) (by rfl) (.then_n (.ret ?_))))
 exact .dn Y Y ⟨ac, cc, Y, Y⟩
theorem Wh {τ : Tr} {z : Int} {x : Pt} {l : List Pt} (h : x.kind = 8) : (AC τ z x l).1 = zxT τ z := by
 unfold AC
 dsimp only
 rw [if_neg om, if_neg om, if_neg om, if_pos h]
/-! ### Tables that are read -/
theorem PK.up {a p : HP} (hT : PK p) : PK (CD [a, p]) := by
 intro h w hp hle
 obtain ⟨h1, h2, _, a1, a2, _, h3⟩ := hp
 obtain ⟨h4, a4, hp4⟩ := Ap (p := p) (L := []) h3
 exact hT h4 w hp4 (fun b o e => hle b o (a2 b o (a4 b o e)))
theorem Mm {q : HP} : UU q AG [] := ⟨fun _ _ => .inl ⟨rfl, rfl, none, 0, rfl⟩, Nat.zero_le _, fun _ h => by cases h⟩
def H8 (k : Int) (p : Bs) : Rq := ⟨k, 0, p, [], AG, [], 0, 0, false, AG, AG⟩
theorem AAD {q : HP} (hT : Gr q) {s k : Int} (hs : A4 s) (hk : A4 k) {p : Bs} (hp : p.length ≤ 1048566) : Dr q ⟨s, []⟩ AG (H8 k p) :=
 ⟨⟨hk, A4.zero, A4.zero, A4.zero, hp, Nat.zero_le _, fun _ _ => .inl ⟨rfl, rfl, none, 0, rfl⟩, Nat.zero_le _, (fun _ h => by cases h), ⟨none, 0, 0, rfl⟩, ⟨none, 0, 0, rfl⟩⟩, hs, fun _ _ => .inl ⟨rfl, rfl, none, 0, rfl⟩, by show 0 ≤ _; decide, ⟨none, 0, 0, rfl⟩, ⟨none, 0, 0, rfl⟩, hT⟩
theorem PY {q : HP} (hT : Gr q) (hZ : PK q) {s k : Int} (hs : A4 s) (hk : A4 k) {p : Bs} (hp : p.length ≤ 1048566) : Gi q s (H8 k p) [] [] :=
 ⟨⟨AAD hT hs hk hp, CQ, fun _ _ => .inl ⟨rfl, rfl, none, 0, rfl⟩, (fun _ h => by cases h), fun _ h => by cases h⟩, hZ, Mm⟩
/-! ### The first calls -/
def FH : Pl := (KT KC 10).1
def FF (v : Value) : Rq := ⟨1, 4, [47, 97], [], v, DU, 0, 0, false, AG, AG⟩
theorem YP : Iy FH 1 := HJ.opn dQ 10
theorem MH : CF FH.τ 1 := by decide +kernel
theorem X8 (v : Value) : AV FH.τ ⟨1, []⟩ (FF v) = (⟨1, [47, 97], [], AG, DU, 0, 1, 0, AG⟩, 0) := by
 rw [Gs rfl]
 have e : B2 (Dp FH.τ ⟨1, []⟩ (FF v)) = 0 := (by decide +kernel : B2 (Dp FH.τ ⟨1, []⟩ (FF AG)) = 0)
 rw [e]
 have e2 : Ar FH.τ ⟨1, []⟩ (FF v) = Ar FH.τ ⟨1, []⟩ (FF AG) := rfl
 rw [e2]
 show ((⟨1, B3 FH.τ (FF AG), [], AG, DU, if andI 0 1 ≠ 0 then 1 else 0, C1 ((JA FH.τ (FF AG)).cver + 1), 0, AG⟩ : Pt), (0 : Int)) = _
 rw [show (JA FH.τ (FF AG)).cver = 0 by decide +kernel, show B3 FH.τ (FF AG) = [47, 97] by decide +kernel, show C1 (0 + 1) = 1 by decide, if_neg dQ]
theorem ZM (v : Value) : (Cn FH.τ ⟨1, FH.ids 1⟩ (FF v) []).1.kind = 1 := by
 show (Cn FH.τ ⟨1, []⟩ (FF v) []).1.kind = 1
 unfold Cn
 rw [if_neg (by show ¬ ¬ Ba 1 = true; decide), if_neg (fun g => g MH), if_neg (by show ¬ (1 : Int) = 6; decide), if_neg (by show ¬ (1 : Int) = 7; decide), if_neg (by show ¬ (1 : Int) = 8; decide), X8, if_neg dQ]
theorem Uq {v : Value} {π : Pl} {x : Rp} {kids : List Bs} {e : Int} (h : GI FH 1 (FF v) [] [] π x kids e) : e = 0 ∧ x.err = 0 ∧ x.xid = 4 ∧ x.zx = 4294967298 ∧ ¬ CF π.τ 9 := by
 have hk : Ba (FF v).kind = true := by show Ba 1 = true; decide
 obtain ⟨he, -, y, ys, hy, hys, -, -, -, rfl, hx⟩ := h.chg MH hk
 obtain ⟨h1, h2⟩ := h.stamp MH
 have hk1 := congrArg Pt.kind hy
 rw [ZM] at hk1
 have hk1 : y.kind = 1 := hk1
 refine ⟨he, by rw [hx, if_neg om], h1, ?_, fun g => ?_⟩
 ·rw [h2]
  show (AC FH.τ (CY FH) y ys).1.zx = _
  have := ABN FH.τ ⟨CY FH, 0, 0, y, ys⟩
  exact this.trans (by show CY FH = _; decide +kernel)
 ·have hs : (AC FH.τ (CY FH) y ys).1.sess = FH.τ.sess := by
   unfold AC
   dsimp only
   rw [if_neg om, if_neg om, if_neg om, if_neg om]
   exact Fr _ _ _
  have g : (AE (AC FH.τ (CY FH) y ys).1.sess 9).isSome = true := g
  rw [hs] at g
  exact absurd g (by decide +kernel)
/-! ### Sessions stay -/
theorem TF (τ : Tr) (u : B4) (l : List Rq) : (A6 τ u l).1.kind = 7 ∨ (A6 τ u l).1.kind = 8 := by
 unfold A6
 split
 ·exact .inr rfl
 ·split
  ·exact .inr rfl
  ·exact .inl rfl
theorem UI {τ : Tr} {u : B4} {r : Rq} {subs : List Rq} (h : (Cn τ u r subs).1.kind = 6) : r.kind = 8 := by
 unfold Cn at h
 split at h
 ·exact absurd h (by show ¬ (8 : Int) = 6; decide)
 split at h
 ·exact absurd h (by show ¬ (8 : Int) = 6; decide)
 split at h
 ·have := TF τ u subs; omega
 split at h
 ·exact absurd h (by show ¬ (0 : Int) = 6; decide)
 split at h
 ·assumption
 split at h
 ·exact absurd h (by show ¬ (8 : Int) = 6; decide)
 ·exact absurd h (HN τ u r).2.1
theorem Kw {τ : Tr} {z : Int} {y : Pt} {ys : List Pt} (h5 : y.kind ≠ 5) (h6 : y.kind ≠ 6) : (AC τ z y ys).1.sess = τ.sess := by
 have hp : ∀ l : List Pt, (AH (zxT τ z) z l).1.sess = τ.sess := fun l => by
  unfold AH
  have H : ∀ (l : List Pt) (r : Tr × List Ev), (l.foldl (fun r x => ((AJ r.1 x z).1, r.2 ++ (AJ r.1 x z).2)) r).1.sess = r.1.sess := by
   intro l
   induction l with
   | nil => intro r; rfl
   | cons x l ih => intro r; rw [foldl_cons, ih]; exact Fr _ _ _
  exact H l (zxT τ z, [])
 unfold AC
 dsimp only
 rw [if_neg h5, if_neg h6]
 split
 ·exact hp _
 split
 ·rfl
 ·exact Fr _ _ _
theorem Fl (π : Pl) (s : Int) (r : Rq) (l : List G8) : (Bz π s r l).1.τ = π.τ ∧ (Bz π s r l).1.ord = π.ord := by
 unfold Bz
 split
 ·unfold Ik
  split
  ·exact ⟨rfl, rfl⟩
  split
  ·exact ⟨rfl, rfl⟩
  split <;> exact ⟨rfl, rfl⟩
 split
 ·exact ⟨rfl, rfl⟩
 split
 ·exact ⟨rfl, rfl⟩
 ·unfold Nj
  split <;> exact ⟨rfl, rfl⟩
theorem YE {π : Pl} {s x : Int} {y : Pt} {ys : List Pt} {u : B4} {r : Rq} {subs : List Rq} (hy : y.pl = (Cn π.τ u r subs).1) (h8 : r.kind ≠ 8) : (Bv π s x y ys).τ.sess = π.τ.sess := by
 have hk := congrArg Pt.kind hy
 have hk : y.kind = (Cn π.τ u r subs).1.kind := hk
 have h5 := MB π.τ u r subs
 exact Kw (by rw [hk]; exact h5) (fun g => h8 (UI (hk.symm.trans g)))
theorem GI.sess {π : Pl} {s : Int} {r : Rq} {subs : List Rq} {l : List G8} {π' : Pl} {x : Rp} {kids : List Bs} {e : Int} (h : GI π s r subs l π' x kids e) (h8 : r.kind ≠ 8) : π'.τ.sess = π.τ.sess := by
 by_cases hse : CF π.τ s
 ·by_cases hk : Ba r.kind = true
  ·obtain ⟨-, -, y, ys, hy, -, -, -, -, rfl, -⟩ := h.chg hse hk
   exact YE hy h8
  ·obtain ⟨-, rfl, -⟩ := h.rd hse hk
   rw [(Fl π s r l).1]
 ·obtain ⟨-, rfl, -⟩ := h.gone hse
  rfl
theorem GI.ses {π : Pl} {s : Int} {r : Rq} {subs : List Rq} {l : List G8} {π' : Pl} {x : Rp} {kids : List Bs} {e : Int} (h : GI π s r subs l π' x kids e) (h8 : r.kind ≠ 8) {i : Int} (hs : CF π.τ i) : CF π'.τ i := by
 unfold CF at hs ⊢
 rw [h.sess h8]; exact hs
theorem GI.ok {π : Pl} {s : Int} {r : Rq} {subs : List Rq} {l : List G8} {π' : Pl} {x : Rp} {kids : List Bs} {e : Int} (h : GI π s r subs l π' x kids e) (hs : CF π.τ s) : e = 0 := by
 by_cases hk : Ba r.kind = true
 ·exact (h.chg hs hk).1
 ·exact (h.rd hs hk).1
/-! ### Looks -/
theorem Us {π : Pl} {s : Int} {r : Rq} {l : List G8} (hw : r.watch = false) (hk : Bm r.kind) : Bz π s r l = (π, BM π.τ (π.ids s) r) := by
 unfold Bm at hk
 unfold Bz
 rw [if_neg om, if_neg om, if_neg om]
 unfold Nj
 exact if_pos (if_pos hw)
theorem N6 {π : Pl} {s : Int} {r : Rq} {subs : List Rq} {l : List G8} {π' : Pl} {x : Rp} {kids : List Bs} {e : Int} (h : GI π s r subs l π' x kids e) (hs : CF π.τ s) (hw : r.watch = false) (hk : Bm r.kind) :
  e = 0 ∧ π = π' ∧ x.xid = r.xid ∧ x.zx = π.τ.zx ∧ x.err = BM π.τ (π.ids s) r ∧ x.data = (if BM π.τ (π.ids s) r = 0 ∧ r.kind = 9 then He π.τ r.path else []) ∧ x.st = (if BM π.τ (π.ids s) r = 0 then AU π.τ r.path else st0) ∧ kids = BV π.τ (π.ids s) r := by
 have hc : ¬ Ba r.kind = true := by
  have hk2 := hk
  unfold Bm at hk2
  rcases hk2 with g | g | g | g <;> rw [g] <;> decide
 obtain ⟨he, hp, x0, hR, hx⟩ := h.rd hs hc
 rw [Us hw hk] at hp
 subst hp
 obtain ⟨av, kv, rfl, hkids⟩ := hR.told hw hk
 exact ⟨he, rfl, by rw [hx], by rw [hx], by rw [hx]; rfl, by rw [hx]; rfl, by rw [hx]; rfl, hkids⟩
/-! ### Two services that do the same -/
theorem ABg {τ : Tr} {z : Int} {y y' : Pt} {ys ys' : List Pt} (h : y.pl = y'.pl) (hs : ys.map Pt.pl = ys'.map Pt.pl) : AC τ z y ys = AC τ z y' ys' := by
 rw [← Gx, h, hs, Gx]
structure NZ where
 what : Int
 ses : Int
 tmo : Int
 r : Rq
 subs : List Rq
 arm : List G8
 far : Bool
def Y8 (x : NZ) : List Value := [AA x.what, AA x.ses, AA x.tmo] ++ D6 x.r ++ [.bool x.far]
structure StA (p : HP) (v : Value) (xs : List NZ) : Prop where
 cells : ∀ h : Hp, p h → Cx 14 h v xs.length (xs.flatMap Y8)
 len : xs.length ≤ 1048576
 nums : ∀ x ∈ xs, A4 x.what ∧ A4 x.ses ∧ A4 x.tmo
 each : ∀ x ∈ xs, ∀ s, A4 s → Gi p s x.r x.subs x.arm
/-! ### A multi -/
theorem ABi {q : HP} (hT : Gr q) (hZ : PK q) {v : Value} (hv : ∃ a n c, v = .slice a n c) (ha : ∀ h : Hp, q h → Cx 2 h v DU.length (DU.flatMap CP)) : Gi q 1 (FF v) [] [] := by
 have i1 : A4 1 := ⟨by decide, by decide⟩
 have i4 : A4 4 := ⟨by decide, by decide⟩
 refine ⟨⟨Dr.mk0 i1 hT ⟨i1, i4, A4.zero, A4.zero⟩ ⟨by show 2 ≤ 64; decide, by show 0 ≤ 64; decide⟩ ha ⟨by show 1 ≤ 8; decide, fun a h => ?_⟩ hv ⟨none, 0, 0, rfl⟩ ⟨none, 0, 0, rfl⟩, Y9, fun _ _ => .inl ⟨rfl, rfl, none, 0, rfl⟩, (fun _ h => by cases h), fun _ h => by cases h⟩, hZ, Mm⟩
 obtain rfl := mem_singleton.1 (show a ∈ DU from h)
 exact ⟨⟨by decide, by decide⟩, by decide⟩
theorem Pz  (c n : Int) (hc : -9223372036854775808 ≤ c ∧ c ≤ 9223372036854775807) (hn : 0 < n) : Fn prog 11 #[AA c, AA n] [] fun v L => v = AA (RC c n) ∧ L = [] := by
 refine Fn.intro func11 Y Y fun F W => ?_
 refine .sr (.an Y (.seq (.sm Y (.ui Y Y Y (.nt (.condD Y (fun h6 => ?_) (fun h6 => ?_)))))))
 ·refine .region (.m Y (.q (.add Y Y om) Y (.q (.neg Y om) Y (.an Y (.sm Y (.m Y (.q (.remE Y Y om om) Y (.an Y (.ret ?_)))))))))
  have e : RC c n = (-(c + 1)) % n := by unfold RC; rw [if_pos h6]
  rw [e]
  exact .vv
 refine .sk (.sm Y (.m Y (.q (.remE Y Y om om) Y (.an Y (.ret ?_)))))
 have e : RC c n = (c) % n := by unfold RC; rw [if_neg h6]
 rw [e]
 exact .vv
theorem PW (q : HP) (hT : Gr q) (hZ : PK q) : Fn prog 7 #[] [q] fun v L => v = .bool true ∧ L = [q] := by
 refine Fn.intro func7 Y Y fun F W => ?_
 refine .sr (.an Y (.sr (.oq (.c func8 [] (ME)) ?_)))
 rintro v L' ⟨b, k, rfl, rfl⟩
 refine .an Y (.seq (.sm Y (.q (.ptreq Y Y underlying25) Y (.nt (.condF Y (.sk (.sm Y (.cv func9 [_, _] (Hz b k KC 10 0 HJ dQ) ?_))))))))
 refine .m Y (.q (.as (v' := AA 1) (by rfl) (.extract Y Y)) Y (.q (.as (v' := AA 0) (by rfl) (.extract Y Y)) Y (.a Y (.an Y (.sm Y (.m Y (.q (.build (us := [(0, _), (1, _)]) Ub GA Y Y (by simp [AB])) Y (.oq (.buildSlice (vs := [_]) Gz GA Y Y Y Y cQ dQ) ?_))))))))
 rintro v L' ⟨ba, rfl, rfl⟩
 refine .q (.to (v' := .agg (D6 (FF (.slice (some ⟨ba, 0, none⟩) 1 1))).toArray) (.build (us := [(0, _), (2, _), (1, _), (4, _)]) K4 Jp Y Y (by simp [AB])) Y) Y (.slMakeN 2 1 (b := ba) (xs := DU.flatMap CP) O Y Y (.fold (p := (CD [Ad 75 2 (.slice (some ⟨ba, 0, none⟩) 1 1) 1 (DU.flatMap CP), q])) (q := [Ad 75 2 (.slice (some ⟨ba, 0, none⟩) 1 1) 1 (DU.flatMap CP), q]) O (fun _ h => h) ?_))
 have hT1 : Gr (CD [Ad 75 2 (.slice (some ⟨ba, 0, none⟩) 1 1) 1 (DU.flatMap CP), q]) := hT.up
 have hZ1 : PK (CD [Ad 75 2 (.slice (some ⟨ba, 0, none⟩) 1 1) 1 (DU.flatMap CP), q]) := hZ.up
 have hra : ∀ h : Hp, (CD [Ad 75 2 (.slice (some ⟨ba, 0, none⟩) 1 1) 1 (DU.flatMap CP), q]) h → Cx 2 h (.slice (some ⟨ba, 0, none⟩) 1 1) DU.length (DU.flatMap CP) := ABB (fun _ => AZ)
 have hA1 : Gi (CD [Ad 75 2 (.slice (some ⟨ba, 0, none⟩) 1 1) 1 (DU.flatMap CP), q]) 1 (FF (.slice (some ⟨ba, 0, none⟩) 1 1)) [] [] := ABi hT1 hZ1 ⟨_, _, _, rfl⟩ hra
 refine .oq (.call func10 Y Y (vs := [_, _, _]) Y (CI b k FH 1 (FF (.slice (some ⟨ba, 0, none⟩) 1 1)) [] [] (CD [Ad 75 2 (.slice (some ⟨ba, 0, none⟩) 1 1) 1 (DU.flatMap CP), q]) hA1 (fun _ => ⟨by decide, by decide⟩) 1 YP dQ)) ?_
 rintro v L' ⟨π, x, kids, e, hC, rfl, rfl⟩
 refine .m Y (.ex Y Y (.ex Y Y (.oq (.allocA CS) ?_)))
 rintro v L' ⟨b4, rfl, rfl⟩
 refine .sa Y Y Bg (by exact hC.cells) ?_
 refine .a Y (.nil (.pc b4 (BF x) ?_))
 have hx := Uq hC
 have hB2 := YP.call dQ (fun _ => ⟨by decide, by decide⟩) hA1 hC
 refine .then_n (.sm Y (.q (.to (v' := .agg (D6 (H8 7 [])).toArray) (.build (us := [(0, _)]) K4 Jp Y Y (by simp [AB])) Y) Y (.oq (.call func10 Y Y (vs := [_, _, _]) Y (CI b k π 9 (H8 7 []) [] [] (CD [Ad 75 2 (.slice (some ⟨ba, 0, none⟩) 1 1) 1 (DU.flatMap CP), q]) (PY hT1 hZ1 ⟨by decide, by decide⟩ ⟨by decide, by decide⟩ (Nat.zero_le _)) (fun g => absurd g hx.2.2.2.2) 2 hB2 dQ)) ?_)))
 rintro v L' ⟨π2, x2, kids2, e2, hD, rfl, rfl⟩
 refine .m Y (.ex Y Y (.ex Y Y (.oq (.allocA CS) ?_)))
 rintro v L' ⟨b6, rfl, rfl⟩
 refine .sa Y Y Bg (by exact hD.cells) ?_
 refine .a Y (.nil (.pc b6 (BF x2) ?_))
 have h67 := (hD.gone hx.2.2.2.2).1
 refine .then_n (.sm Y (.q (.as (v' := .bool true) (by rfl) (.int Y Y Y)) Y (.m Y (.gr (.m Y (.gr (.q (.as (v' := .bool true) (by rfl) (.int Y Y Y)) Y (.pT Y Y (.m Y (.gr (.m Y (.gr (.q (.as (v' := .bool true) (by exact congrArg Value.bool (decide_eq_true (hx.1))) (.int Y Y Y)) Y (.pT Y Y (.m Y (.gr (.fa Y Do (.gr (.u (.ld Y Ey) (.gr (.q (.as (v' := .bool true) (by exact congrArg Value.bool (decide_eq_true (hx.2.1))) (.int Y Y Y)) Y (.pT Y Y (.m Y (.gr (.fa Y L3 (.gr ?_))))))))))))))))))))))))))
 refine .u (.ld Y AR) (.gr (.q (.as (v' := .bool true) (by exact congrArg Value.bool (decide_eq_true (hx.2.2.1))) (.int Y Y Y)) Y (.pT Y Y (.m Y (.gr (.fa Y L6 (.gr (.u (.ld Y AR) (.gr (.q (.as (v' := .bool true) (by exact congrArg Value.bool (decide_eq_true (hx.2.2.2.1))) (.int Y Y Y)) Y (.pT Y Y (.m Y (.gr (.m Y (.gr (.q (.as (v' := .bool true) (by exact congrArg Value.bool (decide_eq_true (h67))) (.int Y Y Y)) Y (.pT Y Y (.a Y (.nil (.focus (p := (CD [Ad 75 2 (.slice (some ⟨ba, 0, none⟩) 1 1) 1 (DU.flatMap CP), q])) O (.unfold (q := [Ad 75 2 (.slice (some ⟨ba, 0, none⟩) 1 1) 1 (DU.flatMap CP), q]) (fun _ h => h) ?_)))))))))))))))))))))
 refine .then_n (.ret ?_)
 exact .vv
/-! ### Events have their entry's zxid -/
/-! ### Counting -/
/-! ### What stays so -/
theorem JU (π : Pl) (s : Int) (r : Rq) : (Ik π s r).1.ω = π.ω ∧ (Ik π s r).1.ev = π.ev := by
 unfold Ik
 split
 ·exact ⟨rfl, rfl⟩
 split
 ·exact ⟨rfl, rfl⟩
 split <;> exact ⟨rfl, rfl⟩
theorem TU (π : Pl) (s : Int) (r : Rq) : (Nj π s r).1.ev = π.ev := by
 unfold Nj
 split <;> rfl
/-! ### Two sessions -/
def Mu (t : Int) : Pl := (KT (KT KC t).1 t).1
theorem U5 (t : Int) : (Mu t).τ.sess = [(1, (min (max t 4) 60, [])), (2, (min (max t 4) 60, []))] := rfl
theorem AAA (t : Int) : Iy (Mu t) 2 := (HJ.opn dQ t).opn dQ t
theorem ZL (t : Int) : CF (Mu t).τ 1 ∧ CF (Mu t).τ 2 := by
 unfold CF
 rw [U5]
 exact ⟨rfl, rfl⟩
/-! ### Numbered names -/
theorem Yy : ∀ (u : Nat), ∀ c ∈ Lib.decDigits u, c ≠ (47 : UInt8) := by
 intro u
 induction u using Nat.strongRecOn with
 | ind u ih =>
  intro c hc
  rw [Lib.decDigits] at hc
  have key : ∀ k, k < 10 → UInt8.ofNat (48 + k) ≠ (47 : UInt8) := by decide
  split at hc
  ·rename_i h
   rw [mem_singleton] at hc
   subst hc; exact key u h
  ·rcases mem_append.1 hc with hc | hc
   ·exact ih (u / 10) om c hc
   ·rw [mem_singleton] at hc
    subst hc; exact key _ om
theorem Ym (p : Bs) (n : Int) : ∃ d : Bs, Ft p n = p ++ d ∧ (47 : UInt8) ∉ d ∧ d ≠ [] := by
 refine ⟨_, rfl, fun hm => ?_, fun h => ?_⟩
 ·have hm := mem_of_mem_drop hm
  rcases mem_append.1 hm with hm | hm
  ·exact absurd (eq_of_mem_replicate hm) dQ
  ·unfold Lib.itoa at hm
   rw [if_neg om] at hm
   exact Yy _ _ hm rfl
 ·have := congrArg List.length h
  simp only [length_drop, length_append, length_replicate, length_nil] at this
  omega
theorem SK (a b : Bs) : ∀ n, n ≤ a.length → CK (a ++ b) n = CK a n := by
 intro n
 induction n with
 | zero => intro _; rfl
 | succ n ih =>
  intro h
  unfold CK
  rw [ih om]
  have : (a ++ b).getD n 0 = a.getD n 0 := by
   rw [getD_eq_getElem?_getD, getD_eq_getElem?_getD, List.getElem?_append_left om]
  rw [this]
theorem Qi {a b : Bs} (h : (47 : UInt8) ∉ b) : B8 (a ++ b) = B8 a := by
 have key : ∀ k, k ≤ b.length → CK (a ++ b) (a.length + k) = CK (a ++ b) a.length := by
  intro k
  induction k with
  | zero => intro _; rfl
  | succ k ih =>
   intro hk
   show CK (a ++ b) (a.length + k + 1) = _
   rw [CK]
   have : ¬ (a ++ b).getD (a.length + k) 0 = 47 := by
    rw [getD_eq_getElem?_getD, List.getElem?_append_right om, show a.length + k - a.length = k by omega, List.getElem?_eq_getElem om]
    intro e
    exact h (e ▸ getElem_mem _)
   rw [if_neg this, ih om]
 unfold B8
 rw [length_append, key _ (Nat.le_refl _), SK a b _ (Nat.le_refl _)]
theorem Su {p : Bs} (hp : p ≠ [47]) (n : Int) : AL (Ft p n) = AL p := by
 obtain ⟨d, e, hd, hne⟩ := Ym p n
 rw [e]
 have hr := EC p
 by_cases h0 : B8 p < 0
 ·unfold AL
  rw [Qi hd, if_pos (.inl h0), if_pos (.inl h0)]
 ·have h1 : p ++ d ≠ [47] := fun g => by
   have h2 := congrArg List.length g
   have h3 : 0 < d.length := length_pos_iff.2 hne
   simp only [length_append, length_singleton] at h2
   have h4 : p = [] := eq_nil_of_length_eq_zero om
   subst h4
   simp at hr; omega
  have e1 : AL (p ++ d) = if B8 p = 0 then [47] else (p ++ d).take (B8 p).toNat := by
   unfold AL
   rw [Qi hd, if_neg (fun g => g.elim h0 h1)]
  have e2 : AL p = if B8 p = 0 then [47] else p.take (B8 p).toNat := by
   unfold AL
   rw [if_neg (fun g => g.elim h0 hp)]
  rw [e1, e2]
  split
  ·rfl
  ·rw [take_append_of_le_length om]
/-! ### What wishes keep -/
structure WI (τ : Tr) : Prop where
 ok : τ.Ok 64
 root : ∃ n, AE τ.nodes [47] = some n ∧ n.st.own = 0
 closed : ∀ q, AQ τ q → q ≠ [47] → AQ τ (AL q)
 data : ∀ q n, AE τ.nodes q = some n → n.data.length ≤ 100
 bare : ∀ q n, AE τ.nodes q = some n → n.st.own ≠ 0 → ∀ c, AQ τ c → c ≠ [47] → AL c ≠ q
 few : ∀ s, (AF τ s).length ≤ 32
 ids : ∀ i s, AE τ.sess i = some s → 1 ≤ i ∧ i ≤ 5
theorem WI.able {τ : Tr} (h : WI τ) {q : Bs} (ht : AQ τ q) (hq : q ≠ [47]) : Co q := by
 obtain ⟨n, hn⟩ := EK.1 ht
 exact (h.ok.able _ (EG hn)).resolve_left hq
theorem WI.rootT {τ : Tr} (h : WI τ) : AQ τ [47] := by
 obtain ⟨n, hn, -⟩ := h.root
 exact EK.2 ⟨n, hn⟩
theorem WI.zx {τ : Tr} (h : WI τ) (z : Int) : WI (zxT τ z) := ⟨h.ok.zx z, h.root, h.closed, h.data, h.bare, h.few, h.ids⟩
theorem WI.new : WI Dv := by
 have key : ∀ q n, AE Dv.nodes q = some n → q = [47] ∧ n = ⟨[], [(31, ACY)], st0⟩ := by
  intro q n h
  have := EG h
  simp only [Dv, mem_singleton, Prod.mk.injEq] at this
  exact this
 refine ⟨Lj.more dQ, ⟨_, rfl, rfl⟩, fun q hq hne => ?_, fun q n h => ?_, fun q n h hn => ?_, fun s => ?_, fun i s h => by cases h⟩
 ·obtain ⟨n, hn⟩ := EK.1 hq
  exact absurd (key q n hn).1 hne
 ·obtain ⟨-, rfl⟩ := key q n h; decide
 ·obtain ⟨-, rfl⟩ := key q n h; exact absurd rfl hn
 ·have := E8 Dv s
  have h2 : Dv.nodes.length = 1 := rfl
  omega
/-! ### How many are whose -/
def GW (s : Int) (y : PN) : Bool := !decide (s = 0) && decide (y.2.st.own = s)
theorem N1 (τ : Tr) (s : Int) : (AF τ s).length = (τ.nodes.filter (GW s)).length := by
 unfold AF
 rw [length_map]; rfl
theorem Wr (s : Int) (p : Bs) (n : Nd) : ∀ l : List PN, ((sset l p n).filter (GW s)).length ≤ (l.filter (GW s)).length + (if s ≠ 0 ∧ n.st.own = s then 1 else 0) := by
 have one : ∀ l : List PN, ((p, n) :: l).filter (GW s) |>.length |> (· ≤ (l.filter (GW s)).length + (if s ≠ 0 ∧ n.st.own = s then 1 else 0)) := by
  intro l
  show (((p, n) :: l).filter (GW s)).length ≤ _
  by_cases g : s ≠ 0 ∧ n.st.own = s
  ·rw [if_pos g]
   rw [filter_cons]
   split <;> simp
  ·rw [if_neg g, filter_cons, if_neg (by simp only [GW, Bool.and_eq_true, Bool.not_eq_true', decide_eq_false_iff_not, decide_eq_true_eq]; exact g)]
   omega
 intro l
 induction l with
 | nil => exact one []
 | cons y l ih =>
  have h1 := one l
  have hc : (l.filter (GW s)).length ≤ ((y :: l).filter (GW s)).length := by
   rw [filter_cons]; split <;> simp
  unfold sset
  split
  ·exact Nat.le_trans h1 om
  split
  ·exact one (y :: l)
  ·rw [filter_cons, filter_cons]
   split
   ·rw [length_cons, length_cons]; omega
   ·exact ih
theorem J0 (s : Int) (p : Bs) {f : Nd → Nd} (hf : ∀ n, (f n).st.own = n.st.own) (l : List PN) : ((amod l p f).filter (GW s)).length = (l.filter (GW s)).length := by
 unfold amod
 rw [filter_map, length_map]
 congr 1
 apply filter_congr
 intro y _
 show GW s (if y.1 = p then (y.1, f y.2) else y) = GW s y
 split
 ·unfold GW
  rw [hf]
 ·rfl
theorem Zo (s : Int) (g : PN → Bool) (l : List PN) : ((l.filter g).filter (GW s)).length ≤ (l.filter (GW s)).length := (filter_sublist.filter (GW s)).length_le
theorem WV (τ : Tr) (y : Pt) (zx s : Int) : (AF (AJ τ y zx).1 s).length ≤ (AF τ s).length + (if y.kind = 1 ∧ s ≠ 0 ∧ y.own = s then 1 else 0) := by
 rw [N1, N1, FQ]
 split
 ·rename_i h1
  split
  ·show ((amod (sset τ.nodes y.path (DT y zx)) (AL y.path) (kidN y.num zx)).filter (GW s)).length ≤ _
   rw [J0 (f := kidN y.num zx) s _ (fun n => rfl)]
   refine Nat.le_trans (Wr s _ _ _) ?_
   have e : (DT y zx).st.own = y.own := rfl
   rw [e]
   by_cases g : s ≠ 0 ∧ y.own = s
   ·rw [if_pos g, if_pos ⟨h1, g⟩]; exact Nat.le_refl _
   ·rw [if_neg g]; omega
  ·omega
 split
 ·split
  ·show ((amod (FD τ y.path).nodes (AL y.path) (kidN y.num zx)).filter (GW s)).length ≤ _
   rw [J0 (f := kidN y.num zx) s _ (fun n => rfl)]
   exact Nat.le_trans (Zo s _ _) om
  ·omega
 split
 ·show ((amod τ.nodes y.path (Fw y.data y.num zx)).filter (GW s)).length ≤ _
  rw [J0 (f := Fw y.data y.num zx) s _ (fun n => rfl)]; omega
 split
 ·show ((amod τ.nodes y.path (FU y.acl y.num)).filter (GW s)).length ≤ _
  rw [J0 (f := FU y.acl y.num) s _ (fun n => rfl)]; omega
 ·omega
/-! ### A part -/
structure Rr (τ : Tr) (y : Pt) : Prop where
 kind : 0 ≤ y.kind ∧ y.kind ≤ 4
 finds : y.kind = 0 ∨ Dz τ y = true
 data : y.data.length ≤ 100
 acl : y.acl.length ≤ 1048576
 room : y.kind = 1 → τ.nodes.length < 64 ∧ (y.own ≠ 0 → (AF τ y.own).length < 32) ∧ ∀ n, AE τ.nodes (AL y.path) = some n → n.st.own = 0
structure ACt (τ : Tr) (y : Pt) (zx : Int) (υ : Tr) : Prop where
 nodes : ∀ q n, AE υ.nodes q = some n → ∃ n0, (AE τ.nodes q = some n0 ∨ (n0 = DT y zx ∧ q = y.path ∧ y.kind = 1)) ∧ (n = n0 ∨ n = kidN y.num zx n0 ∨ n = Fw y.data y.num zx n0 ∨ n = FU y.acl y.num n0)
 root : AQ υ [47]
 closed : ∀ q, AQ υ q → q ≠ [47] → AQ υ (AL q)
 there : ∀ q, AQ υ q → AQ τ q ∨ (q = y.path ∧ y.kind = 1)
 len : υ.nodes.length ≤ τ.nodes.length + (if y.kind = 1 then 1 else 0)
theorem WI.left {τ : Tr} (h : WI τ) {y : Pt} {zx : Int} (hs : Dz τ y = true) : ACt τ y zx (AJ τ y zx).1 := by
 unfold Dz at hs
 split at hs
 ·rename_i h1
  obtain ⟨ha, hnt, hu⟩ := of_decide_eq_true hs
  have hth : ∀ r, AQ (AJ τ y zx).1 r ↔ r = y.path ∨ AQ τ r := by
   intro r
   unfold AQ
   rw [Ns h1 ha hu]
   by_cases e2 : r = y.path
   ·rw [if_pos e2]; split <;> simp [e2]
   ·rw [if_neg e2]; split <;> simp [e2]
  refine ⟨fun q n hq => ?_, (hth _).2 (.inr h.rootT), fun q hq hne => ?_, fun q hq => ?_, ?_⟩
  ·rw [Ns h1 ha hu] at hq
   by_cases e1 : q = AL y.path
   ·rw [if_pos e1] at hq
    obtain ⟨n0, g, rfl⟩ := map_some hq
    by_cases e2 : q = y.path
    ·rw [if_pos e2] at g; cases g
     exact ⟨_, .inr ⟨rfl, e2, h1⟩, .inr (.inl rfl)⟩
    ·rw [if_neg e2] at g
     exact ⟨_, .inl g, .inr (.inl rfl)⟩
   ·rw [if_neg e1] at hq
    by_cases e2 : q = y.path
    ·rw [if_pos e2] at hq; cases hq
     exact ⟨_, .inr ⟨rfl, e2, h1⟩, .inl rfl⟩
    ·rw [if_neg e2] at hq
     exact ⟨_, .inl hq, .inl rfl⟩
  ·rw [hth] at hq ⊢
   right
   rcases hq with rfl | hq
   ·exact hu
   ·exact h.closed q hq hne
  ·rcases (hth q).1 hq with e | e
   ·exact .inr ⟨e, h1⟩
   ·exact .inl e
  ·rw [if_pos h1]
   unfold AJ Ab
   rw [if_pos h1]
   split
   ·show (amod (sset _ _ _) _ _).length ≤ _
    rw [H2]
    exact (Mw τ.nodes y.path (DT y zx)).1
   ·show τ.nodes.length ≤ _
    omega
 ·rename_i h1
  split at hs
  ·rename_i h2
   obtain ⟨hr, ht, hk⟩ := of_decide_eq_true hs
   have ha := h.able ht hr
   have hth : ∀ r, AQ (AJ τ y zx).1 r ↔ AQ τ r ∧ Bn r y.path = false := by
    intro r
    unfold AQ
    rw [KG h2 ha]
    cases e : Bn r y.path <;> split <;> simp
   refine ⟨fun q n hq => ?_, ?_, fun q hq hne => ?_, fun q hq => .inl ((hth q).1 hq).1, ?_⟩
   ·rw [KG h2 ha] at hq
    by_cases e1 : q = AL y.path
    ·rw [if_pos e1] at hq
     obtain ⟨n0, g, rfl⟩ := map_some hq
     split at g
     ·cases g
     ·exact ⟨_, .inl g, .inr (.inl rfl)⟩
    ·rw [if_neg e1] at hq
     split at hq
     ·cases hq
     ·exact ⟨_, .inl hq, .inl rfl⟩
   ·rw [hth]
    refine ⟨h.rootT, ?_⟩
    cases e : Bn [47] y.path with
    | false => rfl
    | true =>
     obtain ⟨r, e2⟩ := Tn e
     have := congrArg List.length e2
     simp at this
     cases hy : y.path with
     | nil => exact absurd (h.able ht hr) (by rw [hy]; decide)
     | cons c r2 =>
      rw [hy] at e2
      simp at e2
      exact absurd (by rw [hy, ← e2.1, e2.2.1]) hr
   ·rw [hth] at hq ⊢
    refine ⟨h.closed q hq.1 hne, ?_⟩
    cases e : Bn (AL q) y.path with
    | false => rfl
    | true => rw [Sg (h.able hq.1 hne) hr e] at hq; exact absurd hq.2 dQ
   ·unfold AJ As
    rw [if_neg h1, if_pos h2, if_pos ha, if_neg h1]
    show (amod (FD τ y.path).nodes _ _).length ≤ _
    rw [H2]
    exact ZY τ y.path
  ·rename_i h2
   split at hs
   ·rename_i h3
    have ht := of_decide_eq_true hs
    have hth : ∀ r, AQ (AJ τ y zx).1 r ↔ AQ τ r := by
     intro r
     unfold AQ
     rcases h3 with h3 | h4
     ·rw [XV h3 ht]; split <;> simp
     ·rw [Yt h4 ht]; split <;> simp
    refine ⟨fun q n hq => ?_, (hth _).2 h.rootT, fun q hq hne => (hth _).2 (h.closed q ((hth q).1 hq) hne), fun q hq => .inl ((hth q).1 hq), ?_⟩
    ·rcases h3 with h3 | h4
     ·rw [XV h3 ht] at hq
      split at hq
      ·obtain ⟨n0, g, rfl⟩ := map_some hq
       exact ⟨_, .inl g, .inr (.inr (.inl rfl))⟩
      ·exact ⟨_, .inl hq, .inl rfl⟩
     ·rw [Yt h4 ht] at hq
      split at hq
      ·obtain ⟨n0, g, rfl⟩ := map_some hq
       exact ⟨_, .inl g, .inr (.inr (.inr rfl))⟩
      ·exact ⟨_, .inl hq, .inl rfl⟩
    ·unfold AJ
     rw [if_neg h1, if_neg h2, if_neg h1]
     split
     ·show (amod _ _ _).length ≤ _
      rw [H2]; omega
     ·split
      ·show (amod _ _ _).length ≤ _
       rw [H2]; omega
      ·show τ.nodes.length ≤ _
       omega
   ·cases hs
theorem WI.part {τ : Tr} (h : WI τ) {y : Pt} (zx : Int) (hp : Rr τ y) : WI (AJ τ y zx).1 := by
 rcases hp.finds with h0 | hs
 ·rw [Gh h0]; exact h
 have hL := h.left (zx := zx) hs
 have hok := h.ok.part y zx hp.acl
 have hses := Fr τ y zx
 have hne : y.kind = 1 → y.path ≠ [47] := fun h1 => by
  unfold Dz at hs
  rw [if_pos h1] at hs
  exact (of_decide_eq_true hs).1.1
 have hown : ∀ q n, AE (AJ τ y zx).1.nodes q = some n → (∃ n0, AE τ.nodes q = some n0 ∧ n0.st.own = n.st.own ∧ (n.data = n0.data ∨ n.data = y.data)) ∨ (q = y.path ∧ y.kind = 1 ∧ n.st.own = y.own ∧ n.data = y.data) := fun q n hq => by
  obtain ⟨n0, g, e⟩ := hL.nodes q n hq
  have e2 : n.st.own = n0.st.own ∧ (n.data = n0.data ∨ n.data = y.data) := by rcases e with rfl | rfl | rfl | rfl <;> first | exact ⟨rfl, .inl rfl⟩ | exact ⟨rfl, .inr rfl⟩
  rcases g with g | ⟨rfl, g, g'⟩
  ·exact .inl ⟨n0, g, e2.1.symm, e2.2⟩
  ·exact .inr ⟨g, g', e2.1, e2.2.elim id id⟩
 refine ⟨⟨hok.sorted, hok.ssorted, ?_, hok.able, hok.ids, hok.acls, by rw [hses]; exact h.ok.sfew⟩, ?_, hL.closed, fun q n hq => ?_, fun q n hq hn c hc hcr hpc => ?_, fun s => ?_, by rw [hses]; exact h.ids⟩
 ·have h1 := hL.len
  have h2 := h.ok.few
  split at h1
  ·rename_i h3
   have := (hp.room h3).1
   omega
  ·omega
 ·obtain ⟨n, hn⟩ := EK.1 hL.root
  refine ⟨n, hn, ?_⟩
  obtain ⟨r, hr, hr0⟩ := h.root
  rcases hown _ _ hn with ⟨n0, g, e, -⟩ | ⟨g, g', -⟩
  ·rw [hr] at g; cases g; exact e.symm.trans hr0
  ·exact absurd g.symm (hne g')
 ·rcases hown q n hq with ⟨n0, g, -, e | e⟩ | ⟨-, -, -, e⟩
  ·rw [e]; exact h.data q n0 g
  ·rw [e]; exact hp.data
  ·rw [e]; exact hp.data
 ·
  rcases hown q n hq with ⟨n0, g, e, -⟩ | ⟨g, g', -, -⟩
  ·rcases hL.there c hc with hc0 | ⟨rfl, h1⟩
   ·exact h.bare q n0 g (by rw [e]; exact hn) c hc0 hcr hpc
   ·have := (hp.room h1).2.2 n0 (by rw [hpc]; exact g)
    exact hn (e.symm.trans this)
  ·
   subst g
   unfold Dz at hs
   rw [if_pos g'] at hs
   obtain ⟨ha, hnt, hu⟩ := of_decide_eq_true hs
   rcases hL.there c hc with hc0 | ⟨rfl, -⟩
   ·exact hnt (hpc ▸ h.closed c hc0 hcr)
   ·rw [hpc] at hu; exact hnt hu
 ·have h1 := WV τ y zx s
  have h2 := h.few s
  split at h1
  ·rename_i g
   obtain ⟨g1, g2, rfl⟩ := g
   have := (hp.room g1).2.1 g2
   omega
  ·omega
theorem DX {b : Prop} [Decidable b] {e : Int} (h : Ai b e = 0) (he : e ≠ 0) : ¬ b := fun g => by
 have h2 : (if b then e else 0) = 0 := h
 rw [if_pos g] at h2
 exact he h2
theorem No : ∀ {s : Bs}, (58 : UInt8) ∈ s → s.length = (Gb s).length + 1 + (FY s).length
 | [], h => by cases h
 | c :: s, h => by
  unfold Gb FY
  by_cases e : c = 58
  ·rw [if_pos e, if_pos e]; simp only [length_cons, length_nil]; omega
  ·rw [if_neg e, if_neg e]
   have := No (s := s) ((mem_cons.1 h).resolve_left (fun g => e g.symm))
   simp only [length_cons]; omega
theorem AAv {s : Bs} (h : Nr s = true) : s.length ≤ 29 := by
 unfold Nr at h
 rw [Bool.or_eq_true] at h
 rcases h with h | h
 ·rw [of_decide_eq_true h]; decide
 ·simp only [Bool.and_eq_true, decide_eq_true_eq] at h
  obtain ⟨⟨⟨h1, h2⟩, h3⟩, -⟩ := h
  have h4 := No h1
  unfold Ji at h2
  simp only [Bool.and_eq_true, decide_eq_true_eq] at h2
  have h5 := h2.1.2
  omega
theorem OI {l : List Ac} (h : FW l = true) : l.length ≤ 4 ∧ ∀ a ∈ l, (1 ≤ a.1 ∧ a.1 ≤ 31) ∧ a.2.length ≤ 29 := by
 unfold FW at h
 simp only [Bool.and_eq_true, decide_eq_true_eq, Bool.not_eq_true'] at h
 obtain ⟨⟨-, h1⟩, h2⟩ := h
 refine ⟨h1, fun a ha => ?_⟩
 have h3 := any_eq_false.1 h2 a ha
 unfold JX at h3
 simp only [Bool.or_eq_true, decide_eq_true_eq, Bool.not_eq_true', not_or, Bool.not_eq_false] at h3
 exact ⟨by omega, AAv h3.2⟩
theorem GF {n : Int} (h : A4 n) : (EZ n).length ≤ 10 := H4 h
theorem KU {s : Bs} (h : s.length < 128) : (FM s).length = s.length + 1 := by
 unfold FM Cu
 rw [length_append, DS, if_pos h]; simp; omega
theorem WK {a : Ac} (h : (1 ≤ a.1 ∧ a.1 ≤ 31) ∧ a.2.length ≤ 29) : (L8 a).length ≤ 40 := by
 unfold L8
 have h1 := GF (n := a.1) ⟨by omega, by omega⟩
 rw [length_append, KU om]; omega
theorem VP {l : List Ac} (h : l.length ≤ 4) (h2 : ∀ a ∈ l, (1 ≤ a.1 ∧ a.1 ≤ 31) ∧ a.2.length ≤ 29) : (Fi l).length ≤ 161 := by
 unfold Fi Cu
 have h3 := ND (f := L8) (c := 40) (l := l) (fun a ha => WK (h2 a ha))
 rw [length_append, DS, if_pos om]
 simp only [length_singleton]
 have : l.length * 40 ≤ 160 := by omega
 omega
structure Ct (y : Pt) : Prop where
 kind : A4 y.kind
 own : A4 y.own
 num : A4 y.num
 err : A4 y.err
 path : y.path.length ≤ 60
 data : y.data.length ≤ 100
 acl : y.acl.length ≤ 4 ∧ ∀ a ∈ y.acl, (1 ≤ a.1 ∧ a.1 ≤ 31) ∧ a.2.length ≤ 29
theorem Ct.len {y : Pt} (h : Ct y) : (Ie y).length ≤ 42 + y.path.length + y.data.length + (Fi y.acl).length := by
 have h1 := GF h.kind
 have h2 := GF h.own
 have h3 := GF h.num
 have h4 := GF h.err
 have h5 := KU (s := y.path) (by have := h.path; omega)
 have h6 := KU (s := y.data) (by have := h.data; omega)
 unfold Ie
 simp only [flatMap_cons, flatMap_nil, length_append, length_nil]
 omega
theorem Ct.some {y : Pt} (h : Ct y) : (Ie y).length ≤ 363 := by
 have := h.len
 have := h.path
 have := h.data
 have := VP h.acl.1 h.acl.2
 omega
theorem L9 {p : Bs} (h : BG p = 0) : p.length ≤ 60 := by
 by_cases e : p = [47]
 ·rw [e]; decide
 ·exact Ec (.inr ⟨e, h⟩)
theorem X7 {τ : Tr} (h : WI τ) : ¬ AQ τ [] := fun g => by
 have := h.able g dQ
 exact absurd this dQ
theorem Rm {τ : Tr} {p : Bs} {n : Nd} (h : AE τ.nodes p = some n) : (AU τ p).own = n.st.own ∧ (AU τ p).kids = ((Bh τ p).length : Int) := by
 unfold AU Im
 rw [h]; exact ⟨rfl, rfl⟩
theorem Hm (n : Int) : A4 (C1 n) := wrap_i64 n
theorem T2 {τ : Tr} (h : WI τ) {u : B4} (hu : 1 ≤ u.ses ∧ u.ses ≤ 5) {r : Rq} (h0 : (AV τ u r).2 = 0) : Rr τ (AV τ u r).1 ∧ Ct (AV τ u r).1 := by
 have I0 := A4.zero
 have noop : Rr τ FP ∧ Ct FP := ⟨⟨⟨Int.le_refl _, by decide⟩, .inl rfl, Nat.zero_le _, Nat.zero_le _, fun g => absurd g dQ⟩, ⟨I0, I0, I0, I0, Nat.zero_le _, Nat.zero_le _, Nat.zero_le _, fun a ha => by cases ha⟩⟩
 unfold AV at h0 ⊢
 by_cases k1 : r.kind = 1
 ·rw [if_pos k1] at h0 ⊢
  have all := E6 _ h0
  dsimp only at all ⊢
  simp only [Dp, mem_cons, forall_eq_or_imp, not_mem_nil, false_implies, implies_true, and_true] at all
  obtain ⟨a1, a2, a3, a4, a5, a6, a7, a8, a9, a10⟩ := all
  have b2 := DX a2 dQ
  have b3 := OI (Decidable.not_not.1 (DX a3 dQ))
  have b4 := Decidable.not_not.1 (DX a4 dQ)
  have b5 := DX a5 dQ
  have b7 := Decidable.not_not.1 (DX a7 dQ)
  have b8 := DX a8 dQ
  have b9 := DX a9 dQ
  have b10 := DX a10 dQ
  have hne : B3 τ r ≠ [47] := fun e => b8 (by rw [e]; exact h.rootT)
  have hpr : r.path ≠ [47] := fun e => by
   rw [e] at b4
   exact X7 h b4
  have hpar : AL (B3 τ r) = AL r.path := by
   unfold B3
   split
   ·exact Su hpr _
   ·rfl
  have hown : A4 (Ar τ u r).own := by
   show A4 (if andI r.flags 1 ≠ 0 then u.ses else 0)
   split
   ·exact ⟨by omega, by omega⟩
   ·exact I0
  refine ⟨⟨⟨by show (0 : Int) ≤ 1; decide, by show (1 : Int) ≤ 4; decide⟩, .inr ?_, by show r.data.length ≤ 100; omega, by show r.acl.length ≤ _; omega, fun _ => ⟨?_, fun ho => ?_, fun n hn => ?_⟩⟩, ⟨⟨by show (-9223372036854775808 : Int) ≤ 1; decide, by show (1 : Int) ≤ 9223372036854775807; decide⟩, hown, Hm _, I0, L9 b7, by show r.data.length ≤ 100; omega, b3⟩⟩
  ·unfold Dz
   rw [if_pos (show (Ar τ u r).kind = 1 from rfl)]
   exact decide_eq_true ⟨⟨hne, b7⟩, b8, by show AQ τ (AL (B3 τ r)); rw [hpar]; exact b4⟩
  ·have : (AS τ).length = τ.nodes.length := by unfold AS; rw [length_map]
   omega
  ·have ho : (if andI r.flags 1 ≠ 0 then u.ses else 0) ≠ 0 := ho
   by_cases hf : andI r.flags 1 ≠ 0
   ·show (AF τ (if andI r.flags 1 ≠ 0 then u.ses else 0)).length < 32
    rw [if_pos hf]
    exact Nat.lt_of_not_le fun g => b10 ⟨hf, g⟩
   ·rw [if_neg hf] at ho; exact absurd rfl ho
  ·have hn : AE τ.nodes (AL (B3 τ r)) = some n := hn
   rw [hpar] at hn
   have := (Rm hn).1
   unfold JA at b5
   omega
 rw [if_neg k1] at h0 ⊢
 by_cases k2 : r.kind = 2
 ·rw [if_pos k2] at h0 ⊢
  have all := E6 _ h0
  dsimp only at all ⊢
  simp only [GX, mem_cons, forall_eq_or_imp, not_mem_nil, false_implies, implies_true, and_true] at all
  obtain ⟨a1, a2, a3, a4, a5, a6⟩ := all
  have b2 := DX a2 dQ
  have b3 := Decidable.not_not.1 (DX a3 dQ)
  have b6 := DX a6 dQ
  refine ⟨⟨⟨by show (0 : Int) ≤ 2; decide, by show (2 : Int) ≤ 4; decide⟩, .inr ?_, Nat.zero_le _, Nat.zero_le _, fun g => absurd g (by show ¬ (2 : Int) = 1; decide)⟩, ⟨⟨by show (-9223372036854775808 : Int) ≤ 2; decide, by show (2 : Int) ≤ 9223372036854775807; decide⟩, I0, Hm _, I0, L9 a1, Nat.zero_le _, Nat.zero_le _, fun a ha => by cases ha⟩⟩
  obtain ⟨n, hn⟩ := EK.1 b3
  have := (Rm hn).2
  unfold Dz
  rw [if_neg (by show ¬ (2 : Int) = 1; decide), if_pos (show (EA τ r).kind = 2 from rfl)]
  exact decide_eq_true ⟨b2, b3, by show (Bh τ r.path).length = 0; omega⟩
 rw [if_neg k2] at h0 ⊢
 by_cases k3 : r.kind = 3 ∨ r.kind = 4 ∨ r.kind = 5
 ·rw [if_pos k3] at h0 ⊢
  have all := E6 _ h0
  dsimp only at all ⊢
  simp only [J3, mem_cons, forall_eq_or_imp, not_mem_nil, false_implies, implies_true, and_true] at all
  obtain ⟨a1, a2, a3, a4, a5⟩ := all
  have b3 := Decidable.not_not.1 (DX a3 dQ)
  unfold FJ
  split
  ·rename_i e
   have b2 : ¬ r.data.length > 100 := by
    unfold Eh at a2
    rw [if_pos e] at a2
    exact DX a2 dQ
   refine ⟨⟨⟨by show (0 : Int) ≤ 3; decide, by show (3 : Int) ≤ 4; decide⟩, .inr ?_, by show r.data.length ≤ 100; omega, Nat.zero_le _, fun g => absurd g (by show ¬ (3 : Int) = 1; decide)⟩, ⟨⟨by show (-9223372036854775808 : Int) ≤ 3; decide, by show (3 : Int) ≤ 9223372036854775807; decide⟩, I0, Hm _, I0, L9 a1, by show r.data.length ≤ 100; omega, Nat.zero_le _, fun a ha => by cases ha⟩⟩
   unfold Dz
   rw [if_neg (by show ¬ (3 : Int) = 1; decide), if_neg (by show ¬ (3 : Int) = 2; decide), if_pos (.inl rfl)]
   exact decide_eq_true b3
  ·split
   ·rename_i e' e
    have b2 : FW r.acl = true := by
     unfold Eh at a2
     rw [if_neg e', if_pos e] at a2
     exact Decidable.not_not.1 (DX a2 dQ)
    have b3' := OI b2
    refine ⟨⟨⟨by show (0 : Int) ≤ 4; decide, by show (4 : Int) ≤ 4; decide⟩, .inr ?_, Nat.zero_le _, by show r.acl.length ≤ _; omega, fun g => absurd g (by show ¬ (4 : Int) = 1; decide)⟩, ⟨⟨by show (-9223372036854775808 : Int) ≤ 4; decide, by show (4 : Int) ≤ 9223372036854775807; decide⟩, I0, Hm _, I0, L9 a1, Nat.zero_le _, b3'⟩⟩
    unfold Dz
    rw [if_neg (by show ¬ (4 : Int) = 1; decide), if_neg (by show ¬ (4 : Int) = 2; decide), if_pos (.inr rfl)]
    exact decide_eq_true b3
   ·exact noop
 ·rw [if_neg k3] at h0
  exact absurd h0 (by show ¬ (110 : Int) = 0; decide)
/-! ### A multi -/
def Fa (y : Pt) : Bool := !decide (y.kind = 0)
theorem LB (zx : Int) (cl : Bool) : ∀ (l : List Pt) (τ : Tr), DG τ zx cl (l.filter Fa) = true ↔ ∀ i (hi : i < l.length), l[i].kind ≠ 0 → Dz (AH τ zx (l.take i)).1 l[i] = true ∧ (cl = true → l[i].kind = 2)
 | [], τ => ⟨(fun _ i hi => by simp at hi), fun _ => rfl⟩
 | x :: l, τ => by
  have ih := LB zx cl l (AJ τ x zx).1
  have e : ∀ i, (AH τ zx ((x :: l).take (i + 1))).1 = (AH (AJ τ x zx).1 zx (l.take i)).1 := fun i => by
   rw [take_succ_cons]
   unfold AH
   rw [foldl_cons]
   have H : ∀ (l : List Pt) (r r' : Tr × List Ev), r.1 = r'.1 → (l.foldl (fun r x => ((AJ r.1 x zx).1, r.2 ++ (AJ r.1 x zx).2)) r).1 = (l.foldl (fun r x => ((AJ r.1 x zx).1, r.2 ++ (AJ r.1 x zx).2)) r').1 := by
    intro l
    induction l with
    | nil => intro r r' h; exact h
    | cons y l ih => intro r r' h; rw [foldl_cons, foldl_cons]; exact ih _ _ (by dsimp only; rw [h])
   exact H _ _ _ rfl
  constructor
  ·intro h i hi hk
   rw [filter_cons] at h
   cases i with
   | zero =>
    have hx : Fa x = true := by simpa [Fa] using hk
    rw [if_pos hx, DG, Bool.and_eq_true, Bool.and_eq_true] at h
    refine ⟨h.1.1, fun hc => ?_⟩
    have := h.1.2
    rw [hc] at this
    simpa using this
   | succ i =>
    have h2 : DG (AJ τ x zx).1 zx cl (l.filter Fa) = true := by
     split at h
     ·rw [DG, Bool.and_eq_true] at h; exact h.2
     ·rename_i g
      have h0 : x.kind = 0 := by simpa [Fa] using g
      rw [Gh h0]; exact h
    rw [e i]
    exact ih.1 h2 i (by simpa using hi) hk
  ·intro h
   have h2 := ih.2 fun i hi hk => by
    have := h (i + 1) (by simpa using hi) hk
    rw [e i] at this
    exact this
   rw [filter_cons]
   split
   ·rename_i g
    have h3 := h 0 (by simp) (by simpa [Fa] using g)
    rw [DG, h2, Bool.and_true, Bool.and_eq_true]
    refine ⟨h3.1, ?_⟩
    cases cl with
    | false => rfl
    | true => simpa using h3.2 rfl
   ·rename_i g
    have h0 : x.kind = 0 := by simpa [Fa] using g
    rw [Gh h0] at h2; exact h2
theorem OW (zx : Int) : ∀ (l : List Pt) (r r' : Tr × List Ev), r.1 = r'.1 → (l.foldl (fun r x => ((AJ r.1 x zx).1, r.2 ++ (AJ r.1 x zx).2)) r).1 = (l.foldl (fun r x => ((AJ r.1 x zx).1, r.2 ++ (AJ r.1 x zx).2)) r').1
 | [], _, _, h => h
 | y :: l, r, r', h => by rw [foldl_cons, foldl_cons]; exact OW zx l _ _ (by dsimp only; rw [h])
theorem GL (τ : Tr) (zx : Int) (x : Pt) (l : List Pt) : (AH τ zx (x :: l)).1 = (AH (AJ τ x zx).1 zx l).1 := by
 unfold AH
 rw [foldl_cons]
 exact OW zx l _ _ rfl
theorem I5 {u : B4} (hu : 1 ≤ u.ses ∧ u.ses ≤ 5) (zx : Int) : ∀ {l : List Rq} {σ υ : Tr}, zT σ = zT υ → WI υ → (Bd u l σ).2.2 = none → DG υ zx false ((Bd u l σ).2.1.filter Fa) = true ∧ WI (AH υ zx (Bd u l σ).2.1).1 ∧ ∀ x ∈ (Bd u l σ).2.1, Ct x
 | [], σ, υ, _, hW, _ => ⟨rfl, hW, fun _ h => by cases h⟩
 | r :: l, σ, υ, hz, hW, hn => by
  rw [C0] at hn ⊢
  have e : AV σ u r = AV υ u r := by rw [← UA σ, hz, UA]
  split at hn
  ·cases hn
  ·rename_i g
   rw [if_neg g]
   dsimp only at hn ⊢
   have h0 : (AV υ u r).2 = 0 := by rw [← e]; exact Decidable.not_not.1 g
   obtain ⟨hP, hB⟩ := T2 hW hu h0
   have hn2 := Option.map_eq_none_iff.1 hn
   have hz2 : zT (AC σ σ.zx (AV σ u r).1 []).1 = zT (AJ υ (AV σ u r).1 zx).1 := by
    rw [MY (HN σ u r)]
    exact X0 (by rw [ACN]; exact hz) _ _ _
   have hW2 : WI (AJ υ (AV σ u r).1 zx).1 := by rw [e]; exact hW.part zx hP
   obtain ⟨i1, i2, i3⟩ := I5 hu zx (l := l) hz2 hW2 hn2
   refine ⟨?_, by rw [GL]; exact i2, fun x hx => ?_⟩
   ·rw [filter_cons]
    split
    ·rename_i hr
     have hk : (AV σ u r).1.kind ≠ 0 := by simpa [Fa] using hr
     have hf : Dz υ (AV σ u r).1 = true := by rw [e] at hk ⊢; exact hP.finds.resolve_left hk
     rw [DG, hf, i1]; rfl
    ·rename_i hr
     have hk : (AV σ u r).1.kind = 0 := by simpa [Fa] using hr
     rw [Gh hk] at i1; exact i1
   ·rcases mem_cons.1 hx with rfl | hx
    ·rw [e]; exact hB
    ·exact i3 x hx
/-! ### A session's end -/
theorem KB : ∀ (l : List Bs) (τ : Tr), (A0 l τ).map (·.path) = l
 | [], _ => rfl
 | p :: l, τ => by
  show (CH τ p).path :: (A0 l _).map (·.path) = p :: l
  rw [KB l]; rfl
theorem Mj : ∀ {l : List Bs} {τ : Tr}, (∀ p ∈ l, p.length ≤ 60) → ∀ y ∈ A0 l τ, Ct y ∧ y.data = [] ∧ y.acl = []
 | [], _, _, _, h => by cases h
 | p :: l, τ, h, y, hy => by
  rcases mem_cons.1 (show y ∈ CH τ p :: A0 l _ from hy) with rfl | hy
  ·exact ⟨⟨⟨by show (-9223372036854775808 : Int) ≤ 2; decide, by show (2 : Int) ≤ 9223372036854775807; decide⟩, A4.zero, Hm _, A4.zero, h p mem_cons_self, Nat.zero_le _, Nat.zero_le _, fun a ha => by cases ha⟩, rfl, rfl⟩
  ·exact Mj (fun x hx => h x (mem_cons_of_mem _ hx)) y hy
structure JW (τ : Tr) (s : Int) (l : List Pt) : Prop where
 paths : l.map (·.path) = (AF τ s).reverse
 kinds : ∀ y ∈ l, y.kind = 2
 acl : ∀ y ∈ l, y.acl = [] ∧ y.data = []
theorem WI.owned {τ : Tr} (h : WI τ) {s : Int} {q : Bs} (hq : q ∈ AF τ s) : Co q ∧ AQ τ q ∧ q ≠ [47] ∧ (s ≠ 0 ∧ ∃ n, AE τ.nodes q = some n ∧ n.st.own = s) := by
 have h1 := (IH (h.ok.sorted.nodup Ea)).1 hq
 obtain ⟨h0, n, h2, h3⟩ := h1
 have ht : AQ τ q := EK.2 ⟨n, h2⟩
 have hne : q ≠ [47] := fun e => by
  subst e
  obtain ⟨r, g1, g2⟩ := h.root
  rw [h2] at g1; cases g1
  exact h0 (h3.symm.trans g2)
 exact ⟨h.able ht hne, ht, hne, h0, n, h2, h3⟩
theorem JW.at {τ : Tr} {s : Int} {l : List Pt} (h : JW τ s l) {i : Nat} (hi : i < l.length) : l[i].path ∈ AF τ s := by
 have : l[i].path ∈ l.map (·.path) := mem_map_of_mem (getElem_mem hi)
 rw [h.paths] at this
 simpa using this
theorem JW.lt {τ : Tr} {s : Int} {l : List Pt} (h : JW τ s l) {N : Nat} (ho : τ.Ok N) {i j : Nat} (hi : i < l.length) (hj : j < i) : l[i].path < l[j].path := by
 have hs := Pd ho s
 have hp : (l.map (·.path)).Pairwise (fun a b => b < a) := by rw [h.paths]; exact pairwise_reverse.2 hs
 have := pairwise_iff_getElem.1 hp j i (by rw [length_map]; omega) (by rw [length_map]; exact hi) hj
 simpa using this
theorem JW.able {τ : Tr} (hW : WI τ) {s : Int} {l : List Pt} (h : JW τ s l) : ∀ y ∈ l, y.kind = 2 ∧ Co y.path := fun y hy => by
 obtain ⟨i, hi, rfl⟩ := mem_iff_getElem.1 hy
 exact ⟨h.kinds _ hy, (hW.owned (h.at hi)).1⟩
theorem JW.finds {τ : Tr} (hW : WI τ) {s : Int} {l : List Pt} (h : JW τ s l) (zx : Int) {i : Nat} (hi : i < l.length) : Dz (AH τ zx (l.take i)).1 l[i] = true := by
 obtain ⟨ha, ht, hne, h0, n, hn, ho⟩ := hW.owned (h.at hi)
 have hk := h.kinds _ (getElem_mem hi)
 have hab : ∀ y ∈ l.take i, y.kind = 2 ∧ Co y.path := fun y hy => h.able hW y (mem_of_mem_take hy)
 have hth : AQ (AH τ zx (l.take i)).1 l[i].path := by
  rw [M0 _ hab]
  refine ⟨ht, fun y hy => ?_⟩
  obtain ⟨j, hj, rfl⟩ := mem_iff_getElem.1 hy
  have hj2 : j < i := by rw [length_take] at hj; omega
  rw [getElem_take]
  cases e : Bn l[i].path l[j].path with
  | false => rfl
  | true => exact absurd (h.lt hW.ok hi hj2) (AA2 e)
 have hkid : (Bh (AH τ zx (l.take i)).1 l[i].path).length = 0 := by
  have : Bh (AH τ zx (l.take i)).1 l[i].path = [] := by
   unfold Bh
   rw [map_eq_nil_iff, filter_eq_nil_iff]
   rintro ⟨c, m⟩ hm
   simp only [Bool.and_eq_true, Bool.not_eq_true', decide_eq_false_iff_not, decide_eq_true_eq, not_and]
   intro hc hp
   have hct : AQ (AH τ zx (l.take i)).1 c := (C9).2 (mem_map_of_mem (f := (·.1)) hm)
   have hct2 := ((M0 _ hab).1 hct).1
   exact hW.bare _ n hn (by rw [ho]; exact h0) c hct2 hc hp
  rw [this]; rfl
 unfold Dz
 rw [if_neg om, if_pos hk]
 exact decide_eq_true ⟨hne, hth, hkid⟩
theorem JW.wi {τ : Tr} (hW : WI τ) {s : Int} {l : List Pt} (h : JW τ s l) (zx : Int) : ∀ i, i ≤ l.length → WI (AH τ zx (l.take i)).1 := by
 intro i
 induction i with
 | zero => intro _; exact hW
 | succ i ih =>
  intro hi
  have hk := h.kinds _ (getElem_mem (show i < l.length by omega))
  have ha := h.acl _ (getElem_mem (show i < l.length by omega))
  rw [RB om]
  exact (ih om).part zx ⟨by omega, .inr (h.finds hW zx om), by rw [ha.2]; exact Nat.zero_le _, by rw [ha.1]; exact Nat.zero_le _, fun g => by omega⟩
theorem JW.sound {τ : Tr} (hW : WI τ) {s : Int} {l : List Pt} (h : JW τ s l) (zx : Int) : DG τ zx true (l.filter Fa) = true :=
 (LB zx true l τ).2 fun i hi _ => ⟨h.finds hW zx hi, fun _ => h.kinds _ (getElem_mem hi)⟩
theorem JW.none {τ : Tr} (hW : WI τ) {s : Int} (h0 : s ≠ 0) {l : List Pt} (h : JW τ s l) (zx : Int) : ∀ q n, AE (AH τ zx l).1.nodes q = some n → n.st.own ≠ s := by
 intro q n hq e
 have ha : ∀ j (hj : j < l.length), j < l.length → Co l[j].path := fun j hj _ => (h.able hW _ (getElem_mem hj)).2
 have hq' : AE (AH τ zx (l.take l.length)).1.nodes q = some n := by rw [take_length]; exact hq
 obtain ⟨⟨n0, g1, g2⟩, g3⟩ := Uh h.kinds l.length (Nat.le_refl _) ha q n hq'
 have hm : q ∈ AF τ s := (IH (hW.ok.sorted.nodup Ea)).2 ⟨h0, n0, g1, g2.trans e⟩
 have hm2 : q ∈ l.map (·.path) := by rw [h.paths]; simpa using hm
 obtain ⟨y, hy, rfl⟩ := mem_map.1 hm2
 obtain ⟨j, hj, rfl⟩ := mem_iff_getElem.1 hy
 have := g3 j hj hj
 rw [Yf] at this; cases this
theorem WI.drop {τ : Tr} (h : WI τ) (id : Int) : WI (dropS τ id) := by
 refine ⟨h.ok.dropS id, h.root, h.closed, h.data, h.bare, h.few, fun i s hi => ?_⟩
 have hm := EG hi
 have hm2 := (mem_filter.1 hm).1
 exact h.ids i s (CR (h.ok.ssorted.nodup Ud) hm2)
/-! ### An entry -/
theorem O7 {τ : Tr} {N : Nat} (ho : τ.Ok N) {s : Int} (h : ∀ q n, AE τ.nodes q = some n → n.st.own ≠ s) : AF τ s = [] := by
 rw [eq_nil_iff_forall_not_mem]
 intro q hq
 obtain ⟨-, n, h1, h2⟩ := (IH (ho.sorted.nodup Ea)).1 hq
 exact h q n h1 h2
theorem JR {u : B4} : ∀ {l : List Rq} {τ : Tr}, (Bd u l τ).2.1.length ≤ l.length
 | [], _ => Nat.le_refl _
 | r :: l, τ => by
  rw [C0]
  split
  ·exact Nat.zero_le _
  ·exact Nat.succ_le_succ (JR (l := l))
theorem Hq {z s i : Int} (hz : A4 z) (hs : A4 s) (hi : A4 i) {x : Pt} {l : List Pt} {c d : Nat} (hx : (Ie x).length ≤ c) (hl : ∀ y ∈ l, (Ie y).length ≤ d) (hn : l.length < 128) : (NW ⟨z, s, i, x, l⟩).length ≤ 31 + c + l.length * d := by
 have h1 := GF hz
 have h2 := GF hs
 have h3 := GF hi
 have h4 := ND (f := Ie) (c := d) (l := l) hl
 rw [Tp]
 unfold KA Cu
 rw [length_append, DS, if_pos hn]
 simp only [flatMap_cons, flatMap_nil, length_append, length_nil, length_singleton]
 omega
theorem Pn {k o n e : Int} (hk : A4 k) (ho : A4 o) (hn : A4 n) (he : A4 e) : (Ie ⟨k, [], [], AG, [], o, n, e, AG⟩).length ≤ 43 := by
 have hB : Ct ⟨k, [], [], AG, [], o, n, e, AG⟩ := ⟨hk, ho, hn, he, Nat.zero_le _, Nat.zero_le _, Nat.zero_le _, fun a ha => by cases ha⟩
 have h1 := hB.len
 have h2 : (Fi ([] : List Ac)).length ≤ 1 := by simp [Fi, Cu, DS]
 have h1 : (Ie ⟨k, [], [], AG, [], o, n, e, AG⟩).length ≤ 42 + 0 + 0 + (Fi ([] : List Ac)).length := h1
 omega
structure Qt (τ : Tr) (z s i : Int) (x : Pt) (l : List Pt) : Prop where
 sound : HV τ z x (l.filter Fa) = true
 wi : WI (AC τ z x l).1
 len : (NW ⟨z, s, i, x, l⟩).length ≤ 4000
 same : x.kind = 8 ∨ x.kind = 0 → (AC τ z x l).1 = zxT τ z
 shut : x.kind = 6 → AF (AC τ z x l).1 s = []
theorem YR {τ : Tr} (h : WI τ) {z s i : Int} (hz : A4 z) (hs : A4 s) (hi : A4 i) {e n : Int} (he : A4 e) (hn : A4 n) : Qt τ z s i (Ax e n) [] := by
 have hb := Pn (k := 8) ⟨by decide, by decide⟩ A4.zero hn he
 have ha : (AC τ z (Ax e n) []).1 = zxT τ z := by
  unfold AC
  dsimp only
  rw [if_neg (by show ¬ (8 : Int) = 5; decide), if_neg (by show ¬ (8 : Int) = 6; decide), if_neg (by show ¬ (8 : Int) = 7; decide), if_pos (by rfl)]
 refine ⟨?_, by rw [ha]; exact h.zx z, ?_, fun _ => ha, fun g => absurd g (by show ¬ (8 : Int) = 6; decide)⟩
 ·unfold HV
  rw [if_neg (by show ¬ ((8 : Int) = 1 ∨ (8 : Int) = 2 ∨ (8 : Int) = 3 ∨ (8 : Int) = 4); decide), if_neg (by show ¬ ((8 : Int) = 6 ∨ (8 : Int) = 7); decide)]
 ·have := Hq (x := Ax e n) (l := []) (d := 0) hz hs hi hb (fun _ g => by cases g) dQ
  simp only [length_nil] at this
  omega
theorem Xh {τ : Tr} (h : WI τ) {z s i : Int} (hz : A4 z) (hs : A4 s) (hi : A4 i) {x : Pt} (hW : Rr τ x) (hB : Ct x) : Qt τ z s i x [] := by
 have hk := hW.kind
 have hp : Ks x := by unfold Ks; omega
 have ha : (AC τ z x []).1 = zxT (AJ τ x z).1 z := by rw [MY hp, RQ]
 refine ⟨?_, by rw [ha]; exact (h.part z hW).zx z, ?_, fun g => ?_, fun g => by omega⟩
 ·unfold HV
  split
  ·rename_i g
   exact hW.finds.resolve_left om
  ·rw [if_neg om]
 ·have := Hq (x := x) (l := []) (d := 0) hz hs hi hB.some (fun _ g => by cases g) dQ
  simp only [length_nil] at this
  omega
 ·rw [ha, Gh om]
theorem AAR {τ : Tr} (h : WI τ) {u : B4} (hu : 1 ≤ u.ses ∧ u.ses ≤ 5) {z s i : Int} (hz : A4 z) (hs : A4 s) (hi : A4 i) (l : List Rq) : Qt τ z s i (A6 τ u l).1 (A6 τ u l).2 := by
 have hm : A4 (-1) := ⟨by decide, by decide⟩
 unfold A6
 split
 ·exact YR h hz hs hi ⟨by decide, by decide⟩ hm
 ·rename_i hl
  split
  ·rename_i j e he
   have := Ed he
   exact YR h hz hs hi ⟨by omega, by omega⟩ ⟨by omega, by omega⟩
  ·rename_i hn
   obtain ⟨h1, h2, h3⟩ := I5 hu z (l := l) (σ := τ) (υ := τ) rfl h hn
   have hlen : (Bd u l τ).2.1.length ≤ l.length := JR
   have ha : (AC τ z ⟨7, [], [], AG, [], 0, 0, 0, AG⟩ (Bd u l τ).2.1).1 = zxT (AH τ z (Bd u l τ).2.1).1 z := by
    unfold AC
    dsimp only
    rw [if_neg dQ, if_neg dQ, if_pos rfl, OC]
   dsimp only
   refine ⟨?_, by rw [ha]; exact h2.zx z, ?_, fun g => absurd g (by show ¬ ((7 : Int) = 8 ∨ (7 : Int) = 0); decide), fun g => absurd g (by show ¬ (7 : Int) = 6; decide)⟩
   ·unfold HV
    rw [if_neg (by show ¬ ((7 : Int) = 1 ∨ (7 : Int) = 2 ∨ (7 : Int) = 3 ∨ (7 : Int) = 4); decide), if_pos (by show (7 : Int) = 6 ∨ (7 : Int) = 7; decide)]
    exact h1
   ·have hb := Pn (k := 7) (o := 0) (n := 0) (e := 0) ⟨by decide, by decide⟩ A4.zero A4.zero A4.zero
    have := Hq hz hs hi hb (fun y hy => (h3 y hy).some) (l := (Bd u l τ).2.1) om
    have h8 : (Bd u l τ).2.1.length * 363 ≤ 8 * 363 := Nat.mul_le_mul_right _ om
    omega
theorem AAV {τ : Tr} (h : WI τ) {s : Int} (h0 : 1 ≤ s ∧ s ≤ 5) {z i : Int} (hz : A4 z) (hi : A4 i) : Qt τ z s i (Cz τ s).1 (Cz τ s).2 := by
 have hs : A4 s := ⟨by omega, by omega⟩
 have hB := Mj (l := (AF τ s).reverse) (τ := τ) (fun p hp => GT h.ok (mem_reverse.1 hp))
 have hN := fun y hy => (H1 (l := (AF τ s).reverse) (τ := τ) y hy).2
 have hD : JW τ s (A0 (AF τ s).reverse τ) := ⟨KB _ _, hN, fun y hy => ⟨(hB y hy).2.2, (hB y hy).2.1⟩⟩
 have hlen : (A0 (AF τ s).reverse τ).length ≤ 32 := by
  rw [Cj, length_reverse]; exact h.few s
 have hf : (A0 (AF τ s).reverse τ).filter Aj = A0 (AF τ s).reverse τ := SZ hN
 have ha : (AC τ z (Cz τ s).1 (Cz τ s).2).1 = dropS (zxT (AH τ z (A0 (AF τ s).reverse τ)).1 z) s := by
  unfold AC Cz
  dsimp only
  rw [if_neg dQ, if_pos rfl, hf, OC]
 have hw := hD.wi h z _ (Nat.le_refl _)
 rw [take_length] at hw
 refine ⟨?_, by rw [ha]; exact (hw.zx z).drop s, ?_, fun g => absurd g (by show ¬ ((6 : Int) = 8 ∨ (6 : Int) = 0); decide), fun _ => ?_⟩
 ·unfold HV
  rw [if_neg (by show ¬ ((6 : Int) = 1 ∨ (6 : Int) = 2 ∨ (6 : Int) = 3 ∨ (6 : Int) = 4); decide), if_pos (by show (6 : Int) = 6 ∨ (6 : Int) = 7; decide)]
  exact hD.sound h z
 ·have hb := Pn (k := 6) (o := s) (n := 0) (e := 0) ⟨by decide, by decide⟩ hs A4.zero A4.zero
  have := Hq hz hs hi hb (d := 103) (fun y hy => ?_) (l := A0 (AF τ s).reverse τ) om
  ·have h8 : (A0 (AF τ s).reverse τ).length * 103 ≤ 32 * 103 := Nat.mul_le_mul_right _ hlen
   show (NW ⟨z, s, i, ⟨6, [], [], AG, [], s, 0, 0, AG⟩, A0 (AF τ s).reverse τ⟩).length ≤ 4000
   omega
  ·obtain ⟨h1, h2, h3⟩ := hB y hy
   have h4 := h1.len
   have h5 := h1.path
   have h6 : (Fi ([] : List Ac)).length ≤ 1 := by simp [Fi, Cu, DS]
   rw [h2, h3] at h4
   simp only [length_nil] at h4
   omega
 ·rw [ha]
  have := O7 hw.ok (hD.none h om z)
  exact this
theorem Qt.of {τ : Tr} {z s i : Int} {x y : Pt} {l ys : List Pt} (h : Qt τ z s i x l) (hy : y.pl = x) (hys : ys.map Pt.pl = l) : Qt τ z s i y ys := by
 subst hy; subst hys
 have hf : (ys.map Pt.pl).filter Fa = (ys.filter Fa).map Pt.pl := by rw [filter_map]; rfl
 have hL : ∀ (cl : Bool) (l : List Pt) (τ : Tr), DG τ z cl (l.map Pt.pl) = DG τ z cl l := by
  intro cl l
  induction l with
  | nil => intro τ; rfl
  | cons x l ih =>
   intro τ
   rw [map_cons, DG, DG, ih]; rfl
 have h1 := h.sound
 rw [hf] at h1
 have e1 : HV τ z y.pl ((ys.filter Fa).map Pt.pl) = HV τ z y (ys.filter Fa) := by
  unfold HV
  rw [hL]; rfl
 have h2 := h.wi
 have h4 := h.same
 have h5 := h.shut
 rw [Gx] at h2 h4 h5
 refine ⟨e1 ▸ h1, h2, ?_, h4, h5⟩
 have h3 := h.len
 rw [← AAr]
 exact h3
/-! ### What is laid within limits is read -/
def Cf {α : Type} (f : Rn α) (b : Bs) (x : α) : Prop := ∀ r, f (some (b ++ r)) = (x, some r)
theorem Cf.bind {α β : Type} {f : Rn α} {g : α → Rn β} {b c : Bs} {x : α} {y : β} (hf : Cf f b x) (hg : Cf (g x) c y) : Cf (Et f g) (b ++ c) y := fun r => by
 rw [append_assoc]; unfold Et; rw [hf]; exact hg r
theorem Cf.end_ {α β : Type} {f : Rn α} {g : α → β} {b : Bs} {x : α} (hf : Cf f b x) : Cf (Et f fun x => Xy (g x)) b (g x) := fun r => by
 unfold Et Xy; rw [hf]
theorem FB {n : Int} (h : A4 n) : Cf Af (EZ n) n := fun r => by unfold Af CN; dsimp only; rw [Y1 h]
theorem M3 {s : Bs} (h : s.length ≤ 4096) : Cf Bj (FM s) s := fun r => by unfold Bj CN; dsimp only; rw [Wq h dQ]
theorem XW {n : Nat} (h : n ≤ 256) : Cf Po (Cu n) n := fun r => by unfold Po CN; dsimp only; rw [P0 h dQ]
theorem Nw {α : Type} {f : Rn α} {E : α → Bs} {l : List α} (h : ∀ x ∈ l, Cf f (E x) x) : ∀ i, i ≤ l.length → Cf (A5 f i) ((l.take i).flatMap E) (l.take i)
 | 0, _ => by rw [take_zero]; exact fun r => rfl
 | i + 1, hi => by
  have ih := Nw h i om
  rw [take_succ_eq_append_getElem om, flatMap_append]
  intro r
  rw [append_assoc]
  have hx := h l[i] (getElem_mem om)
  have e : [l[i]].flatMap E = E l[i] := by simp
  show ((A5 f i _).1 ++ [(f (A5 f i _).2).1], (f (A5 f i _).2).2) = _
  rw [ih, e, hx]
theorem Oc {α : Type} {f : Rn α} {E : α → Bs} {l : List α} (hl : l.length ≤ 256) (h : ∀ x ∈ l, Cf f (E x) x) : Cf (CW f) (Cu l.length ++ l.flatMap E) l := by
 have := Nw h l.length (Nat.le_refl _)
 rw [take_length] at this
 exact Cf.bind (XW hl) this
theorem AAG {a : Ac} (h1 : A4 a.1) (h2 : a.2.length ≤ 4096) : Cf HS (L8 a) a := Cf.bind (FB h1) (Cf.end_ (g := fun s => (a.1, s)) (M3 h2))
theorem Tu {y : Pt} (h : Ct y) : Cf Lt (Ie y) y.pl := by
 have e : Ie y = EZ y.kind ++ (FM y.path ++ (FM y.data ++ (Fi y.acl ++ (EZ y.own ++ (EZ y.num ++ EZ y.err))))) := by
  unfold Ie; simp [append_assoc]
 have hp := h.path
 have hd := h.data
 rw [e]
 refine Cf.bind (FB h.kind) (Cf.bind (M3 om) (Cf.bind (M3 om) (Cf.bind (Oc (by have := h.acl.1; omega) fun a ha => ?_) (Cf.bind (FB h.own) (Cf.bind (FB h.num) (Cf.end_ (g := fun x => (⟨y.kind, y.path, y.data, AG, y.acl, y.own, y.num, x, AG⟩ : Pt)) (FB h.err)))))))
 have := h.acl.2 a ha
 exact AAG ⟨by omega, by omega⟩ om
theorem Ct.pl {y : Pt} (h : Ct y) : Ct y.pl := ⟨h.kind, h.own, h.num, h.err, h.path, h.data, h.acl⟩
theorem Ct.of {y z : Pt} (e : y.pl = z.pl) (h : Ct z) : Ct y := by
 have h1 := h.pl
 rw [← e] at h1
 exact ⟨h1.kind, h1.own, h1.num, h1.err, h1.path, h1.data, h1.acl⟩
structure ZX (e : En) : Prop where
 zx : A4 e.zx
 ses : A4 e.ses
 xid : A4 e.xid
 x : Ct e.x
 subs : ∀ y ∈ e.subs, Ct y
 few : e.subs.length ≤ 64
 len : (NW e).length ≤ 4000
theorem ZX.get {e : En} (h : ZX e) : Rc (NW e) = some e.pl := by
 have e1 : NW e = EZ e.zx ++ (EZ e.ses ++ (EZ e.xid ++ (Ie e.x ++ (Cu (e.subs.map Pt.pl).length ++ (e.subs.map Pt.pl).flatMap Ie)))) := by
  have : Cu (e.subs.map Pt.pl).length ++ (e.subs.map Pt.pl).flatMap Ie = KA e.subs := Qu e.subs
  rw [this]
  unfold NW; simp [append_assoc]
 have hF : Cf Zu (NW e) e.pl := by
  rw [e1]
  refine Cf.bind (FB h.zx) (Cf.bind (FB h.ses) (Cf.bind (FB h.xid) (Cf.bind (Tu h.x) (Cf.end_ (g := fun l => (⟨e.zx, e.ses, e.xid, e.x.pl, l⟩ : En)) (Oc (by rw [length_map]; have := h.few; omega) fun y hy => ?_)))))
  obtain ⟨z, hz, rfl⟩ := mem_map.1 hy
  exact Tu (h.subs z hz).pl
 have := hF []
 rw [append_nil] at this
 unfold Rc
 rw [this]; rfl
/-! ### A tree without its sessions -/
def Hh (τ : Tr) : Tr := ⟨τ.nodes, [], τ.zx⟩
theorem Rj (τ : Tr) (x : Pt) (z : Int) : (AJ (Hh τ) x z).1 = Hh (AJ τ x z).1 := by
 rw [FQ, FQ]
 have key : ∀ {c d : Prop} [Decidable c] [Decidable d] {a b a' b' : Tr}, (c ↔ d) → a = Hh a' → b = Hh b' → (if c then a else b) = Hh (if d then a' else b') := by
  intro c d _ _ a b a' b' h h1 h2
  by_cases g : c
  ·rw [if_pos g, if_pos (h.1 g)]; exact h1
  ·rw [if_neg g, if_neg (fun k => g (h.2 k))]; exact h2
 exact key Iff.rfl (key Iff.rfl rfl rfl) (key Iff.rfl (key Iff.rfl rfl rfl) (key Iff.rfl rfl (key Iff.rfl rfl rfl)))
theorem Kn (z : Int) : ∀ (l : List Pt) (τ : Tr), (AH (Hh τ) z l).1 = Hh (AH τ z l).1
 | [], _ => rfl
 | x :: l, τ => by rw [GL, GL, Rj, Kn z l]
theorem Lq {τ : Tr} {z : Int} {x : Pt} {l : List Pt} (h5 : x.kind ≠ 5) : (AC (Hh τ) z x l).1 = Hh (AC τ z x l).1 := by
 have hz : zxT (Hh τ) z = Hh (zxT τ z) := rfl
 unfold AC
 dsimp only
 rw [if_neg h5, if_neg h5, hz]
 split
 ·show dropS (AH (Hh (zxT τ z)) z _).1 x.own = Hh (dropS (AH (zxT τ z) z _).1 x.own)
  rw [Kn]; rfl
 split
 ·exact Kn z l _
 split
 ·rfl
 ·exact Rj _ _ _
theorem K0 (τ : Tr) (u : B4) (r : Rq) : AV (Hh τ) u r = AV τ u r := rfl
theorem HX (u : B4) : ∀ (l : List Rq) (τ : Tr), (Bd u l (Hh τ)).2 = (Bd u l τ).2
 | [], _ => rfl
 | r :: l, τ => by
  rw [C0, C0, K0]
  split
  ·rfl
  ·have e : (AC (Hh τ) (Hh τ).zx (AV τ u r).1 []).1 = Hh (AC τ τ.zx (AV τ u r).1 []).1 := Lq (HN τ u r).1
   dsimp only
   rw [e, HX u l]
theorem SS (τ : Tr) (u : B4) (l : List Rq) : A6 (Hh τ) u l = A6 τ u l := by
 unfold A6
 rw [HX]
theorem M2 : ∀ (l : List Bs) (τ : Tr), A0 l (Hh τ) = A0 l τ
 | [], _ => rfl
 | p :: l, τ => by
  show CH (Hh τ) p :: A0 l (AC (Hh τ) (Hh τ).zx (CH (Hh τ) p) []).1 = CH τ p :: A0 l (AC τ τ.zx (CH τ p) []).1
  have e0 : CH (Hh τ) p = CH τ p := rfl
  have e : (AC (Hh τ) (Hh τ).zx (CH τ p) []).1 = Hh (AC τ τ.zx (CH τ p) []).1 := Lq (by show (2 : Int) ≠ 5; decide)
  rw [e0, e, M2 l]
theorem S5 (τ : Tr) (s : Int) : Cz (Hh τ) s = Cz τ s := by
 unfold Cz
 rw [M2]; rfl
/-! ### A transaction of the service -/
structure ABS (τ : Tr) (z s i : Int) (x : Pt) (l : List Pt) : Prop where
 e : Qt (Hh τ) z s i x l
 x : Ct x
 subs : ∀ y ∈ l, Ct y
 few : l.length ≤ 64
theorem XH {e n : Int} (he : A4 e) (hn : A4 n) : Ct (Ax e n) := ⟨⟨by show (-9223372036854775808 : Int) ≤ 8; decide, by show (8 : Int) ≤ 9223372036854775807; decide⟩, A4.zero, hn, he, Nat.zero_le _, Nat.zero_le _, Nat.zero_le _, fun a ha => by cases ha⟩
theorem ACF {τ : Tr} (hW : WI (Hh τ)) {u : B4} (hu : 1 ≤ u.ses ∧ u.ses ≤ 5) (r : Rq) (subs : List Rq) {z i : Int} (hz : A4 z) (hi : A4 i) : ABS τ z u.ses i (Cn τ u r subs).1 (Cn τ u r subs).2 := by
 have hs : A4 u.ses := ⟨by omega, by omega⟩
 have hm : A4 (-1) := ⟨by decide, by decide⟩
 have ref : ∀ e n : Int, A4 e → A4 n → ABS τ z u.ses i (Ax e n) [] := fun e n he hn => ⟨YR hW hz hs hi he hn, XH he hn, (fun _ h => by cases h), Nat.zero_le _⟩
 have bare : ∀ k o : Int, A4 k → A4 o → Ct ⟨k, [], [], AG, [], o, 0, 0, AG⟩ := fun k o hk ho => ⟨hk, ho, A4.zero, A4.zero, Nat.zero_le _, Nat.zero_le _, Nat.zero_le _, fun a ha => by cases ha⟩
 unfold Cn
 split
 ·exact ref 110 (-1) ⟨by decide, by decide⟩ hm
 split
 ·exact ref 67 (-1) ⟨by decide, by decide⟩ hm
 split
 ·have hE := AAR hW hu hz hs hi subs
  rw [SS] at hE
  have hlim : Ct (A6 τ u subs).1 ∧ (∀ y ∈ (A6 τ u subs).2, Ct y) ∧ (A6 τ u subs).2.length ≤ 64 := by
   unfold A6
   split
   ·exact ⟨XH ⟨by decide, by decide⟩ hm, (fun _ h => by cases h), Nat.zero_le _⟩
   ·rename_i hl
    split
    ·rename_i j e he
     have := Ed he
     exact ⟨XH ⟨by omega, by omega⟩ ⟨by omega, by omega⟩, (fun _ h => by cases h), Nat.zero_le _⟩
    ·rename_i hn
     have h3 := I5 hu z (l := subs) (σ := Hh τ) (υ := Hh τ) rfl hW (by rw [HX]; exact hn)
     rw [HX] at h3
     have hlen : (Bd u subs τ).2.1.length ≤ subs.length := JR
     exact ⟨bare 7 0 ⟨by decide, by decide⟩ A4.zero, h3.2.2, by dsimp only; omega⟩
  exact ⟨hE, hlim.1, hlim.2.1, hlim.2.2⟩
 split
 ·have noop : Rr (Hh τ) FP ∧ Ct FP := ⟨⟨⟨Int.le_refl _, by decide⟩, .inl rfl, Nat.zero_le _, Nat.zero_le _, fun g => absurd g dQ⟩, bare 0 0 A4.zero A4.zero⟩
  exact ⟨Xh hW hz hs hi noop.1 noop.2, noop.2, (fun _ h => by cases h), Nat.zero_le _⟩
 split
 ·have hE := AAV hW hu hz hi
  rw [S5] at hE
  have hB := Mj (l := (AF τ u.ses).reverse) (τ := τ) (fun p hp => GT hW.ok (mem_reverse.1 hp))
  have hlen : (A0 (AF τ u.ses).reverse τ).length ≤ 64 := by
   rw [Cj, length_reverse]
   have := hW.few u.ses
   exact Nat.le_trans this dQ
  exact ⟨hE, bare 6 u.ses ⟨by decide, by decide⟩ hs, fun y hy => (hB y hy).1, hlen⟩
 split
 ·have := Kp τ u r
  exact ref _ (-1) ⟨by omega, by omega⟩ hm
 ·rename_i g
  have := T2 hW (u := u) hu (r := r) (by rw [K0]; omega)
  rw [K0] at this
  exact ⟨Xh hW hz hs hi this.1 this.2, this.2, (fun _ h => by cases h), Nat.zero_le _⟩
/-! ### Owners -/
def GV (τ : Tr) (Q : Int → Prop) : Prop := ∀ y ∈ τ.nodes, Q y.2.st.own
theorem GV.amod {l : List PN} {Q : Int → Prop} (h : ∀ y ∈ l, Q y.2.st.own) (p : Bs) {f : Nd → Nd} (hf : ∀ n, (f n).st.own = n.st.own) : ∀ y ∈ amod l p f, Q y.2.st.own := fun y hy => by
 obtain ⟨x, hx, -, e | ⟨-, e⟩⟩ := KE hy
 ·rw [e]; exact h x hx
 ·rw [e, hf]; exact h x hx
theorem GV.part {τ : Tr} {Q : Int → Prop} (h : GV τ Q) {x : Pt} (hx : x.kind = 1 → Q x.own) (z : Int) : GV (AJ τ x z).1 Q := by
 rw [FQ]
 split
 ·rename_i h1
  split
  ·refine GV.amod (fun y hy => ?_) _ (f := kidN x.num z) fun n => rfl
   rcases FO (show y ∈ sset τ.nodes x.path (DT x z) from hy) with rfl | hy
   ·exact hx h1
   ·exact h y hy
  ·exact h
 split
 ·split
  ·exact GV.amod (fun y hy => h y (mem_filter.1 hy).1) _ (f := kidN x.num z) fun n => rfl
  ·exact h
 split
 ·exact GV.amod h _ (f := Fw x.data x.num z) fun n => rfl
 split
 ·exact GV.amod h _ (f := FU x.acl x.num) fun n => rfl
 ·exact h
theorem GV.parts {Q : Int → Prop} (z : Int) : ∀ {l : List Pt} {τ : Tr}, GV τ Q → (∀ x ∈ l, x.kind = 1 → Q x.own) → GV (AH τ z l).1 Q
 | [], _, h, _ => h
 | x :: l, τ, h, hl => by
  rw [GL]
  exact GV.parts z (h.part (hl x mem_cons_self) z) fun y hy => hl y (mem_cons_of_mem _ hy)
theorem GV.app {τ : Tr} {Q : Int → Prop} (h : GV τ Q) {x : Pt} {l : List Pt} (hx : x.kind = 1 → Q x.own) (hl : ∀ y ∈ l, y.kind = 1 → Q y.own) (z : Int) : GV (AC τ z x l).1 Q := by
 unfold AC
 dsimp only
 split
 ·split <;> exact h
 split
 ·exact GV.parts z (τ := zxT τ z) h fun y hy => hl y (mem_filter.1 hy).1
 split
 ·exact GV.parts z (τ := zxT τ z) h hl
 split
 ·exact h
 ·exact GV.part (τ := zxT τ z) h hx z
theorem OH (τ : Tr) (u : B4) (r : Rq) : (AV τ u r).1.own = 0 ∨ (AV τ u r).1.own = u.ses := by
 unfold AV
 split
 ·show (if andI r.flags 1 ≠ 0 then u.ses else 0) = 0 ∨ (if andI r.flags 1 ≠ 0 then u.ses else 0) = u.ses
  split
  ·exact .inr rfl
  ·exact .inl rfl
 split
 ·exact .inl rfl
 split
 ·unfold FJ
  split
  ·exact .inl rfl
  split <;> exact .inl rfl
 ·exact .inl rfl
theorem NV {u : B4} : ∀ {l : List Rq} {τ : Tr}, ∀ y ∈ (Bd u l τ).2.1, y.own = 0 ∨ y.own = u.ses
 | [], _, _, h => by cases h
 | r :: l, τ, y, hy => by
  rw [C0] at hy
  split at hy
  ·cases hy
  ·rcases mem_cons.1 hy with rfl | hy
   ·exact OH τ u r
   ·exact NV y hy
theorem Zk (τ : Tr) (u : B4) (r : Rq) (subs : List Rq) : ((Cn τ u r subs).1.kind = 1 → (Cn τ u r subs).1.own = 0 ∨ (Cn τ u r subs).1.own = u.ses) ∧ ∀ y ∈ (Cn τ u r subs).2, y.kind = 1 → y.own = 0 ∨ y.own = u.ses := by
 unfold Cn
 split
 ·exact ⟨fun _ => .inl rfl, fun _ h => by cases h⟩
 split
 ·exact ⟨fun _ => .inl rfl, fun _ h => by cases h⟩
 split
 ·unfold A6
  split
  ·exact ⟨fun _ => .inl rfl, fun _ h => by cases h⟩
  ·split
   ·exact ⟨fun _ => .inl rfl, fun _ h => by cases h⟩
   ·exact ⟨fun _ => .inl rfl, fun y hy _ => NV y hy⟩
 split
 ·exact ⟨fun _ => .inl rfl, fun _ h => by cases h⟩
 split
 ·exact ⟨fun _ => .inr rfl, fun y hy hk => absurd ((H1 y hy).2.symm.trans hk) dQ⟩
 split
 ·exact ⟨fun _ => .inl rfl, fun _ h => by cases h⟩
 ·exact ⟨fun _ => OH τ u r, fun _ h => by cases h⟩
structure Pb (π : Pl) : Prop where
 wi : WI (Hh π.τ)
 own : GV π.τ fun o => o = 0 ∨ CF π.τ o
 rep : HR Dv π.ord = π.τ
 zx : ∀ i (hi : i < π.ord.length), π.ord[i].zx = 4294967296 + (i : Int) + 1
 each : ∀ e ∈ π.ord, ZX e ∧ V5 (entR e) e ∧ EJ 65536 e.x e.subs
 few : ∀ x ∈ π.τ.sess, 1 ≤ x.1
theorem AAC : Pb KC := by
 refine ⟨WI.new, fun y hy => ?_, rfl, (fun i hi => by cases hi), (fun e he => by cases he), fun x hx => by cases hx⟩
 have hy : y ∈ [(([47] : Bs), (⟨[], [(31, [119, 111, 114, 108, 100])], st0⟩ : Nd))] := hy
 rw [mem_singleton] at hy
 rw [hy]; exact .inl rfl
theorem WL {e : En} (h : ZX e) (hc : AB e.x.aclV = true ∧ ∃ a c, e.x.subsV = .slice a e.subs.length c) (hcs : ∀ z ∈ e.subs, AB z.aclV = true ∧ z.subsV = AG) : V5 (entR e) e := by
 have hu : FS = 18446744073709551616 := rfl
 have hf := h.few
 have hl := h.len
 obtain ⟨h1, a, c, h2⟩ := hc
 have hP : ∀ y : Pt, Ct y → PtI y := fun y hy => by
  have h3 := hy.path
  have h4 := hy.data
  have h5 := hy.acl.1
  refine ⟨hy.kind, hy.own, hy.num, hy.err, by omega, by omega, by omega, fun a ha => ?_⟩
  have := hy.acl.2 a ha
  exact ⟨⟨by omega, by omega⟩, by omega⟩
 refine ⟨⟨⟨h.zx, h.ses, h.xid, hP _ h.x, by omega, fun y hy => hP _ (h.subs y hy)⟩, fun _ hp => MA hp, fun _ hp => Hn hp, fun z hz _ hp => Jv hp hz⟩, by omega, ⟨by omega, by have := h.x.acl.1; omega, fun z hz => by have := (h.subs z hz).acl.1; omega⟩, ⟨h1, by rw [h2]; rfl⟩, fun z hz => ⟨(hcs z hz).1, by rw [(hcs z hz).2]; rfl⟩⟩
theorem AAa {π : Pl} {s x : Int} {y : Pt} {ys : List Pt} (hz : A4 (CY π)) (hs : A4 s) (hx : A4 x) (h : ABS π.τ (CY π) s x y.pl (ys.map Pt.pl)) : ZX (Br π s x y ys) := by
 refine ⟨hz, hs, hx, Ct.of (z := y.pl) rfl h.x, fun z hz => Ct.of (z := z.pl) rfl (h.subs _ (mem_map_of_mem hz)), by have := h.few; rw [length_map] at this; exact this, ?_⟩
 have := (h.e.of rfl rfl).len
 exact this
theorem RR {τ : Tr} {u : B4} {r : Rq} {subs : List Rq} (h : (Cn τ u r subs).1.kind = 6) : (Cn τ u r subs).1.own = u.ses := by
 have h8 := UI h
 unfold Cn at h ⊢
 split at h
 ·exact absurd h (by show ¬ (8 : Int) = 6; decide)
 split at h
 ·exact absurd h (by show ¬ (8 : Int) = 6; decide)
 rename_i g1 g2
 rw [if_neg g1, if_neg g2, if_neg om, if_neg om, if_pos h8]
 rfl
theorem VB {α : Type} (l : List (Int × α)) (s o : Int) : AE (l.filter fun y => !decide (y.1 = s)) o = if o = s then none else AE l o := by
 rw [Gm (fun k => !decide (k = s))]
 by_cases e : o = s <;> simp [e]
theorem Um {τ : Tr} {z : Int} {y : Pt} {ys : List Pt} (h6 : y.kind = 6) {o : Int} (ho : o ≠ y.own) (h : CF τ o) : CF (AC τ z y ys).1 o := by
 have hp : (AH (zxT τ z) z (ys.filter Aj)).1.sess = τ.sess := by
  have := Kw (τ := τ) (z := z) (y := ⟨7, [], [], AG, [], 0, 0, 0, AG⟩) (ys := ys.filter Aj) (by show (7 : Int) ≠ 5; decide) (by show (7 : Int) ≠ 6; decide)
  unfold AC at this
  dsimp only at this
  rw [if_neg dQ, if_neg dQ, if_pos rfl] at this
  exact this
 have e : (AC τ z y ys).1.sess = τ.sess.filter fun x => !decide (x.1 = y.own) := by
  unfold AC
  dsimp only
  rw [if_neg om, if_pos h6]
  show (AH (zxT τ z) z (ys.filter Aj)).1.sess.filter _ = _
  rw [hp]
 unfold CF at h ⊢
 rw [e, VB, if_neg ho]; exact h
theorem Pb.same {π ρ : Pl} (h : Pb π) (h1 : ρ.τ = π.τ) (h2 : ρ.ord = π.ord) : Pb ρ := by
 obtain ⟨a, b, c, d, e, f⟩ := h
 refine ⟨by rw [h1]; exact a, ?_, by rw [h1, h2]; exact c, ?_, by rw [h2]; exact e, by rw [h1]; exact f⟩
 ·rw [h1]; exact b
 ·rw [h2]; exact d
theorem Tm {π : Pl} (h : HR Dv π.ord = π.τ) (s x : Int) (y : Pt) (ys : List Pt) : HR Dv (Bv π s x y ys).ord = (Bv π s x y ys).τ := by
 show HR Dv (π.ord ++ [Br π s x y ys]) = _
 rw [KN, h]; rfl
theorem Xg {π : Pl} (h : ∀ i (hi : i < π.ord.length), π.ord[i].zx = 4294967296 + (i : Int) + 1) (s x : Int) (y : Pt) (ys : List Pt) : ∀ i (hi : i < (Bv π s x y ys).ord.length), (Bv π s x y ys).ord[i].zx = 4294967296 + (i : Int) + 1 := by
 intro i hi
 have hi2 : i < (π.ord ++ [Br π s x y ys]).length := hi
 show ((π.ord ++ [Br π s x y ys])[i]'hi2).zx = _
 by_cases g : i < π.ord.length
 ·rw [getElem_append_left g]; exact h i g
 ·have hl : (π.ord ++ [Br π s x y ys]).length = π.ord.length + 1 := by rw [length_append]; rfl
  have e : i = π.ord.length := by omega
  subst e
  rw [getElem_append_right (Nat.le_refl _)]
  simp only [Nat.sub_self, getElem_cons_zero]
  rfl
theorem RP {π : Pl} {Q : En → Prop} (h : ∀ e ∈ π.ord, Q e) (s x : Int) (y : Pt) (ys : List Pt) (hq : Q (Br π s x y ys)) : ∀ e ∈ (Bv π s x y ys).ord, Q e := by
 intro e he
 rcases mem_append.1 (show e ∈ π.ord ++ [Br π s x y ys] from he) with g | g
 ·exact h e g
 ·rw [mem_singleton] at g
  rw [g]; exact hq
theorem Pb.txn {π : Pl} (h : Pb π) {u : B4} (hu : 1 ≤ u.ses ∧ u.ses ≤ 5) (hs : CF π.τ u.ses) {r : Rq} {subs : List Rq} {x : Int} (hz : A4 (CY π)) (hx : A4 x) {y : Pt} {ys : List Pt} (hy : y.pl = (Cn π.τ u r subs).1) (hys : ys.map Pt.pl = (Cn π.τ u r subs).2) (hG : EJ 65536 y ys)
  (hc : AB y.aclV = true ∧ ∃ a c, y.subsV = .slice a ys.length c) (hcs : ∀ z ∈ ys, AB z.aclV = true ∧ z.subsV = AG) : Pb (Bv π u.ses x y ys) := by
 have hT := ACF h.wi hu r subs hz hx
 rw [← hy, ← hys] at hT
 have h5 : y.kind ≠ 5 := by
  have := MB π.τ u r subs
  rw [← hy] at this; exact this
 have hO := Zk π.τ u r subs
 rw [← hy, ← hys] at hO
 have hQ : ∀ o : Int, o = 0 ∨ o = u.ses → o = 0 ∨ CF π.τ o := fun o g => g.imp id fun e => by rw [e]; exact hs
 have hA : GV (AC π.τ (CY π) y ys).1 fun o => o = 0 ∨ CF π.τ o :=
  GV.app h.own (fun k => hQ _ (hO.1 k)) (fun z hz k => hQ _ (hO.2 z.pl (mem_map_of_mem hz) k)) _
 have hwi : WI (Hh (AC π.τ (CY π) y ys).1) := by
  have := hT.e.wi
  rw [Gx, Lq h5] at this
  exact this
 have hs64 : A4 u.ses := ⟨by omega, by omega⟩
 refine ⟨hwi, ?_, Tm h.rep _ _ _ _, Xg h.zx _ _ _ _, RP h.each _ _ _ _ ⟨AAa hz hs64 hx hT, WL (AAa hz hs64 hx hT) hc hcs, hG⟩, fun w hw => ?_⟩
 ·by_cases h6 : y.kind = 6
  ·have ho : y.own = u.ses := by
    have := RR (τ := π.τ) (u := u) (r := r) (subs := subs) (by rw [← hy]; exact h6)
    rw [← hy] at this; exact this
   intro n hn
   have hn : n ∈ (AC π.τ (CY π) y ys).1.nodes := hn
   refine (hA n hn).imp id fun g => Um h6 (fun e => ?_) g
   have hsh := hT.e.shut h6
   rw [Gx, Lq h5] at hsh
   have hm : n.1 ∈ AF (Hh (AC π.τ (CY π) y ys).1) u.ses :=
    (IH (hwi.ok.sorted.nodup Ea)).2 ⟨by omega, n.2, CR (hwi.ok.sorted.nodup Ea) hn, by rw [e, ho]⟩
   rw [hsh] at hm
   cases hm
  ·intro n hn
   refine (hA n hn).imp id fun g => ?_
   show (AE (AC π.τ (CY π) y ys).1.sess _).isSome = true
   rw [Kw h5 h6]; exact g
 ·rcases N9 w hw with g | ⟨g, -⟩
  ·exact h.few w g
  ·exact absurd g h5
theorem Pb.opn {π : Pl} (h : Pb π) {n : Nat} (hB : Iy π n) (hn : n ≤ 4096) (t : Int) : Pb (KT π t).1 := by
 unfold KT
 split
 ·exact h
 ·have hop := hB.op
  have hlen := hB.ord
  have ho : A4 (π.opened + 1) := ⟨by omega, by omega⟩
  have hz : A4 (CY π) := by unfold CY; exact ⟨by omega, by omega⟩
  have hN : A4 (min (max t 4) 60) := ⟨by omega, by omega⟩
  have e5 : (AC π.τ (CY π) (El (π.opened + 1) t) []).1 = ⟨π.τ.nodes, sset π.τ.sess (π.opened + 1) (min (max t 4) 60, []), CY π⟩ := by
   unfold AC
   dsimp only
   rw [if_pos (by rfl), if_pos (by show 0 < π.opened + 1; omega)]
   rfl
  have hb := Pn (k := 5) ⟨by decide, by decide⟩ ho hN A4.zero
  have hE : ZX (Br (Gg π) (π.opened + 1) 0 (El (π.opened + 1) t) []) := by
   refine ⟨hz, ho, A4.zero, ⟨⟨by show (-9223372036854775808 : Int) ≤ 5; decide, by show (5 : Int) ≤ 9223372036854775807; decide⟩, ho, hN, A4.zero, Nat.zero_le _, Nat.zero_le _, Nat.zero_le _, fun a ha => by cases ha⟩, (fun _ h => by cases h), Nat.zero_le _, ?_⟩
   have := Hq (x := El (π.opened + 1) t) (l := []) (d := 0) hz ho A4.zero hb (fun _ g => by cases g) dQ
   simp only [length_nil] at this
   show (NW ⟨CY π, π.opened + 1, 0, El (π.opened + 1) t, []⟩).length ≤ 4000
   omega
  have hM : Pb (Gg π) := h.same rfl rfl
  refine ⟨?_, ?_, Tm hM.rep _ _ _ _, Xg hM.zx _ _ _ _, RP hM.each _ _ _ _ ⟨hE, WL hE ⟨rfl, none, 0, rfl⟩ (fun _ h => by cases h), Lo ho _⟩, fun w hw => ?_⟩
  ·show WI (Hh (AC π.τ (CY π) (El (π.opened + 1) t) []).1)
   rw [e5]
   exact h.wi.zx (CY π)
  ·intro y hy
   have hy : y ∈ (AC π.τ (CY π) (El (π.opened + 1) t) []).1.nodes := hy
   rw [e5] at hy
   refine (h.own y hy).imp id fun g => ?_
   show (AE (AC π.τ (CY π) (El (π.opened + 1) t) []).1.sess _).isSome = true
   rw [e5]
   dsimp only
   rw [HQ]
   split
   ·rfl
   ·exact g
  ·have hw : w ∈ (AC π.τ (CY π) (El (π.opened + 1) t) []).1.sess := hw
   rw [e5] at hw
   rcases FO hw with g | g
   ·rw [g]; show 1 ≤ π.opened + 1; omega
   ·exact h.few w g
theorem Pb.read {π : Pl} (h : Pb π) (s : Int) (r : Rq) (l : List G8) : Pb (Bz π s r l).1 := h.same (Fl π s r l).1 (Fl π s r l).2
theorem Pb.call {π : Pl} (h : Pb π) {n : Nat} (hB : Iy π n) (hn : n ≤ 4096) {q : HP} {s : Int} (hs : CF π.τ s → 1 ≤ s ∧ s ≤ 5) {r : Rq} {subs : List Rq} {l : List G8} (hA : Gi q s r subs l) {π' : Pl} {x : Rp} {kids : List Bs} {e : Int} (hC : GI π s r subs l π' x kids e) : Pb π' := by
 by_cases hse : CF π.τ s
 ·by_cases hk : Ba r.kind = true
  ·obtain ⟨-, -, y, ys, hy, hys, hc1, hc2, hcs, rfl, -⟩ := hC.chg hse hk
   have hG0 : EJ (1 + 9 * n) (Cn π.τ ⟨s, π.ids s⟩ r subs).1 (Cn π.τ ⟨s, π.ids s⟩ r subs).2 := XT hB.ok (hA.d.more (a := Ad 9 1 (.slice (some ⟨0, 0, none⟩) (π.ids s).length (π.ids s).length) (π.ids s).length (Ao (π.ids s))) (fun _ hp => AZ hp) (by have := hB.ids s; omega) ⟨_, _, _, rfl⟩)
   have hG := (hG0.of hy hys).up (M := 65536) om
   have hz : A4 (CY π) := by
    have := hB.ord
    unfold CY; exact ⟨by omega, by omega⟩
   exact h.txn (u := ⟨s, π.ids s⟩) (hs hse) hse hz hA.d.w.rq.xid hy hys hG ⟨hc1, hc2⟩ hcs
  ·obtain ⟨-, rfl, -⟩ := hC.rd hse hk
   exact h.read s r l
 ·obtain ⟨-, rfl, -⟩ := hC.gone hse
  exact h
/-! ### Trees of entries that are read again -/
theorem Ma : ∀ {l l' : List En} {τ : Tr}, l.map En.pl = l'.map En.pl → HR τ l = HR τ l'
 | [], [], _, _ => rfl
 | [], _ :: _, _, h => by cases h
 | _ :: _, [], _, h => by cases h
 | e :: l, e' :: l', τ, h => by
  have h : e.pl :: l.map En.pl = e'.pl :: l'.map En.pl := h
  injection h with h1 h2
  have g1 := congrArg En.zx h1
  have g2 := congrArg En.x h1
  have g3 := congrArg En.subs h1
  have hz : e.zx = e'.zx := g1
  have hx : e.x.pl = e'.x.pl := g2
  have hs : e.subs.map Pt.pl = e'.subs.map Pt.pl := g3
  show HR (Lb τ e) l = HR (Lb τ e') l'
  have ha : Lb τ e = Lb τ e' := by
   show (AC τ e.zx e.x e.subs).1 = (AC τ e'.zx e'.x e'.subs).1
   rw [hz, ABg hx hs]
  rw [ha]
  exact Ma h2
theorem P7 {ω : List Wt} {es : List Ev} {s : Int} (h : ∀ w ∈ ω, w.1 = s) : ∀ i, ∀ t ∈ (AY ω es i).2, t.1 = s
 | 0, _, ht => by cases ht
 | i + 1, t, ht => by
  rw [E7 rfl] at ht
  rcases mem_append.1 ht with ht | ht
  ·exact P7 h i t ht
  ·obtain ⟨j, hj, rfl⟩ := mem_map.1 ht
   obtain ⟨w, hw, -, hw1⟩ := Ya.1 hj
   show j = s
   rw [← hw1]
   exact h w ((I6 ω es i).subset hw)
theorem Qh {s o : Int} (ho : o ≠ s) : ∀ {l : List Y7} {f : Int → List Ev}, (∀ t ∈ l, t.1 = s) → DV f l o = f o
 | [], _, _ => rfl
 | t :: l, f, h => by
  show DV (D0 f t.1 (f t.1 ++ [t.2])) l o = f o
  rw [Qh ho fun x hx => h x (mem_cons_of_mem _ hx)]
  unfold D0
  rw [if_neg (by rw [h t mem_cons_self]; exact ho)]
theorem T6 {ω : List Wt} {s k : Int} {p : Bs} (h : ∀ w ∈ ω, w.1 = s) : ∀ w ∈ (addW ω s k p).1, w.1 = s := by
 rcases Va ω s k p with e | e | e | ⟨-, -, -, e⟩
 ·rw [e]; exact h
 ·rw [e]; exact h
 ·rw [e]; exact h
 ·rw [e]
  intro w hw
  rcases mem_append.1 hw with hw | hw
  ·exact h w hw
  ·rw [mem_singleton] at hw; rw [hw]
theorem UP {τ : Tr} {s : Int} : ∀ (l : List G8) (r : List Wt × List Ev), (∀ w ∈ r.1, w.1 = s) → ∀ w ∈ (l.foldl (JM τ s) r).1, w.1 = s
 | [], _, h => h
 | a :: l, r, h => by
  rw [foldl_cons]
  refine UP l _ ?_
  unfold JM
  split
  ·exact h
  split
  ·exact T6 h
  split <;> exact h
structure XD (π : Pl) : Prop where
 ws : ∀ w ∈ π.ω, w.1 = 1
 ev : π.ev 2 = []
theorem XD.call {π π' : Pl} (h : XD π) {r : Rq} {subs : List Rq} {l : List G8} {x : Rp} {kids : List Bs} {e : Int} (hC : GI π 1 r subs l π' x kids e) (hs : CF π.τ 1) : XD π' := by
 by_cases hk : Ba r.kind = true
 ·obtain ⟨-, -, y, ys, -, -, -, -, -, rfl, -⟩ := hC.chg hs hk
  have hT : DV π.ev (BQ π.ω (AC π.τ (CY π) y ys).2.1).2 2 = [] := by
   exact (Qh (s := 1) (o := 2) dQ (P7 (es := (AC π.τ (CY π) y ys).2.1) h.ws _)).trans h.ev
  refine ⟨fun w hw => ?_, ?_⟩
  ·have hw : w ∈ (if y.kind = 6 then OZ (BQ π.ω (AC π.τ (CY π) y ys).2.1).1 y.own else (BQ π.ω (AC π.τ (CY π) y ys).2.1).1) := hw
   split at hw
   ·exact h.ws w ((Jc _ _).subset ((RS _ _).subset hw))
   ·exact h.ws w ((Jc _ _).subset hw)
  ·show (if y.kind = 6 then D0 (DV π.ev (BQ π.ω (AC π.τ (CY π) y ys).2.1).2) y.own [] else DV π.ev (BQ π.ω (AC π.τ (CY π) y ys).2.1).2) 2 = []
   split
   ·unfold D0
    split
    ·rfl
    ·exact hT
   ·exact hT
 ·obtain ⟨-, rfl, -⟩ := hC.rd hs hk
  unfold Bz
  split
  ·exact ⟨by rw [(JU π 1 r).1]; exact h.ws, by rw [(JU π 1 r).2]; exact h.ev⟩
  split
  ·exact ⟨UP l _ h.ws, h.ev⟩
  split
  ·exact h
  ·refine ⟨?_, by rw [TU]; exact h.ev⟩
   unfold Nj
   split
   ·exact h.ws
   ·exact T6 h.ws
theorem J7 {π π' : Pl} {s : Int} {r : Rq} {subs : List Rq} {l : List G8} {x : Rp} {kids : List Bs} {e : Int} (hC : GI π s r subs l π' x kids e) (hs : CF π.τ s) (hk : Bm r.kind) : π'.τ = π.τ ∧ π'.ev = π.ev := by
 have hc : ¬ Ba r.kind = true := by
  have hk2 := hk
  unfold Bm at hk2
  rcases hk2 with g | g | g | g <;> rw [g] <;> decide
 obtain ⟨-, rfl, -⟩ := hC.rd hs hc
 refine ⟨(Fl π s r l).1, ?_⟩
 unfold Bm at hk
 unfold Bz
 rw [if_neg om, if_neg om, if_neg om, TU]
theorem OJ {π π' : Pl} {r : Rq} {subs : List Rq} {l : List G8} {x : Rp} {kids : List Bs} {e : Int} (hC : GI π 1 r subs l π' x kids e) (hs : CF π.τ 1) (hx : x.err ≠ 0) : π'.τ.nodes = π.τ.nodes ∧ π'.τ.sess = π.τ.sess ∧ π'.ev 2 = π.ev 2 := by
 by_cases hk : Ba r.kind = true
 ·obtain ⟨-, -, y, ys, -, -, -, -, -, rfl, hxe⟩ := hC.chg hs hk
  rw [hxe] at hx
  have h8 : y.kind = 8 := by
   refine Decidable.byContradiction fun g => hx ?_
   rw [if_neg g]
  have ht : (AC π.τ (CY π) y ys).1 = zxT π.τ (CY π) := Wh h8
  have he : (AC π.τ (CY π) y ys).2.1 = [] := by
   unfold AC
   dsimp only
   rw [if_neg om, if_neg om, if_neg om, if_pos h8]
  refine ⟨?_, ?_, ?_⟩
  ·show (AC π.τ (CY π) y ys).1.nodes = _
   rw [ht]; rfl
  ·show (AC π.τ (CY π) y ys).1.sess = _
   rw [ht]; rfl
  ·show (if y.kind = 6 then D0 (DV π.ev (BQ π.ω (AC π.τ (CY π) y ys).2.1).2) y.own [] else DV π.ev (BQ π.ω (AC π.τ (CY π) y ys).2.1).2) 2 = _
   rw [if_neg om, he]; rfl
 ·obtain ⟨-, rfl, x0, hR, hx0⟩ := hC.rd hs hk
  have hxe : x.err = (Bz π 1 r l).2 := by rw [hx0]; exact hR.err
  refine ⟨by rw [(Fl π 1 r l).1], by rw [(Fl π 1 r l).1], ?_⟩
  unfold Bz at hxe ⊢
  split
  ·rw [(JU π 1 r).2]
  split
  ·rfl
  split
  ·rfl
  ·rw [TU]
theorem J9 {τ : Tr} {N : Nat} (ho : τ.Ok N) {ids : List Bs} {p : Bs} (ht : AQ τ p) : BM τ ids (H8 10 p) = 0 := by
 obtain ⟨n, hn⟩ := EK.1 ht
 have hc : BG p = 0 := by
  rcases ho.able _ (EG hn) with e | e
  ·rw [show p = [47] from e]; rfl
  ·exact e.2
 unfold BM Rf
 show B2 [Ai (¬ Bm 10) 110, BG p, Ai (¬ AQ τ p) 60, Ai ((10 : Int) ≠ 10 ∧ ¬ Hj τ ids p 1) 65] = 0
 rw [hc]
 unfold Ai
 rw [if_neg dQ, if_neg (fun g => g ht), if_neg (fun g => g.1 rfl)]
 rfl
theorem HU {τ υ : Tr} (h : τ.nodes = υ.nodes) (p : Bs) : AU τ p = AU υ p ∧ (AQ τ p ↔ AQ υ p) := by
 obtain ⟨a, b, c⟩ := τ
 obtain ⟨a', b', c'⟩ := υ
 have h : a = a' := h
 subst h
 exact ⟨rfl, Iff.rfl⟩
theorem Z4 (t : Int) : Pb (Mu t) := ((AAC).opn HJ dQ t).opn (HJ.opn dQ t) dQ t
theorem ZK (t : Int) : XD (Mu t) := ⟨(fun w hw => by cases hw), rfl⟩
theorem Wi {l : List En} (h : ∀ e ∈ l, EJ 65536 e.x e.subs) : ∀ {τ : Tr} {M : Nat}, τ.Ok M → ∀ i, (HR τ (l.take i)).Ok (M + 9 * i) := by
 induction l with
 | nil => intro τ M ho i; rw [take_nil]; exact ho.more om
 | cons e l ih =>
  intro τ M ho i
  cases i with
  | zero => exact ho.more om
  | succ i =>
   have h1 := (h e mem_cons_self).ok ho e.zx
   have h2 := ih (fun x hx => h x (mem_cons_of_mem _ hx)) h1 i
   rw [take_succ_cons]
   exact (show (HR (Lb τ e) (l.take i)).Ok (M + 9 + 9 * i) from h2).more om
theorem UJ {l m : List En} (h : l.map En.pl = m.map En.pl) (hm : ∀ e ∈ m, EJ 65536 e.x e.subs) : ∀ e ∈ l, EJ 65536 e.x e.subs := by
 intro e he
 have h1 : e.pl ∈ m.map En.pl := by rw [← h]; exact mem_map_of_mem he
 obtain ⟨z, hz, hze⟩ := mem_map.1 h1
 have g1 := congrArg En.x hze
 have g2 := congrArg En.subs hze
 have hG := hm z hz
 have hG2 : EJ 65536 z.x.pl (z.subs.map Pt.pl) := by
  refine ⟨LZ.of (z := z.x) rfl hG.x, fun w hw => ?_, ?_⟩
  ·obtain ⟨v, hv, rfl⟩ := mem_map.1 hw
   exact LZ.of (z := v) rfl (hG.each v hv)
  ·rcases hG.len with q | ⟨q1, q2, q3⟩
   ·exact .inl (by rwa [length_map])
   ·exact .inr ⟨q1, by rwa [length_map], fun w hw => by obtain ⟨v, hv, rfl⟩ := mem_map.1 hw; exact q3 v hv⟩
 exact hG2.of (x := z.x.pl) (l := z.subs.map Pt.pl) g1.symm g2.symm
def Ng (m0 m1 m2 : Int) : List Value := [AA m0, AA m1, AA m2, AA 0, AD [], AD [], AG, AA 0, AA 0, AA 0, AG]
def XA (b3 : Nat) (n0 n1 n2 : Int) : Nat → HP
 | 0 => Ae b3 (Ng 0 0 0) 62
 | 1 => Ae b3 (Ng n0 0 0) 62
 | 2 => Ae b3 (Ng n0 n1 0) 62
 | _ => Ae b3 (Ng n0 n1 n2) 62
theorem X2 (b3 : Nat) (st : Rs) :
  ∀ j (hj : j < [(b3, 0), (b3, 1), (b3, 2)].length) (E : B0) (x y : Operand) (ty : TypeId), ev E x = some (Jf [(b3, 0), (b3, 1), (b3, 2)][j]) → ev E y = some (AA (Af (A5 Af j st).2).1) →
  AP prog ⟨none, .store 3 x y, ty, "", #[], none⟩ E [XA b3 (Af (A5 Af 0 st).2).1 (Af (A5 Af 1 st).2).1 (Af (A5 Af 2 st).2).1 j]
   fun _ L' => L' = [XA b3 (Af (A5 Af 0 st).2).1 (Af (A5 Af 1 st).2).1 (Af (A5 Af 2 st).2).1 (j + 1)] := by
 intro j hj E x y ty hx hy
 match j, hj with
 | 0, _ => exact AP.store (off := 0) hx hy rfl CC (by simp [Ng]) (Bf _ _)
 | 1, _ => exact AP.store (off := 1) hx hy rfl CC (by simp [Ng]) (Bf _ _)
 | 2, _ => exact AP.store (off := 2) hx hy rfl CC (by simp [Ng]) (Bf _ _)
def Ix (v0 : Int) (v1 v2 : Bs) (v3 : Value) (m0 m1 : Int) : List Value := [AA v0, AD v1, AD v2, v3, AA m0, AA m1, AA 0, AG]
def Rx (b3 b4 : Nat) (v0 : Int) (v1 v2 : Bs) (v3 : Value) (n0 n1 n2 : Int) : Nat → HP
 | 0 => CD [Ae b3 (Ix v0 v1 v2 v3 0 0) 60, Ae b4 [AA 0] 3]
 | 1 => CD [Ae b3 (Ix v0 v1 v2 v3 n0 0) 60, Ae b4 [AA 0] 3]
 | 2 => CD [Ae b3 (Ix v0 v1 v2 v3 n0 n1) 60, Ae b4 [AA 0] 3]
 | _ => CD [Ae b3 (Ix v0 v1 v2 v3 n0 n1) 60, Ae b4 [AA n2] 3]
theorem Vt (b3 b4 : Nat) (v0 : Int) (v1 v2 : Bs) (v3 : Value) (st : Rs) :
  ∀ j (hj : j < [(b3, 4), (b3, 5), (b4, 0)].length) (E : B0) (x y : Operand) (ty : TypeId), ev E x = some (Jf [(b3, 4), (b3, 5), (b4, 0)][j]) → ev E y = some (AA (Af (A5 Af j st).2).1) →
  AP prog ⟨none, .store 3 x y, ty, "", #[], none⟩ E [Rx b3 b4 v0 v1 v2 v3 (Af (A5 Af 0 st).2).1 (Af (A5 Af 1 st).2).1 (Af (A5 Af 2 st).2).1 j]
   fun _ L' => L' = [Rx b3 b4 v0 v1 v2 v3 (Af (A5 Af 0 st).2).1 (Af (A5 Af 1 st).2).1 (Af (A5 Af 2 st).2).1 (j + 1)] := by
 intro j hj E x y ty hx hy
 match j, hj with
 | 0, _ => exact AP.inL (AP.store (off := 4) hx hy rfl CC (by simp [Ix]) (Bf _ _))
 | 1, _ => exact AP.inL (AP.store (off := 5) hx hy rfl CC (by simp [Ix]) (Bf _ _))
 | 2, _ => exact AP.inR (AP.store (off := 0) hx hy rfl CC (by simp) (Bf _ _))
theorem R9 (e : En) (p : HP) (he : V5 p e) : Fn prog 62 #[.agg (DQ e).toArray, .func (.func 63) #[] #[]] [p] fun v L => v = AD (NW e) ∧ L = [p] := by
 refine Fn.intro func62 Y Y fun F W => ?_
 refine .sr (.oq (.box Y) ?_)
 rintro v L' ⟨b2, rfl, rfl⟩
 refine .a Y (.nil (.pc b2 (DQ e) ?_))
 refine .then_n (.sr (.oq (.c func119 [] (Vg)) ?_))
 rintro v L' ⟨cw, rfl, rfl⟩
 refine .an Y (.sm Y (.m Y (.q (.loadAs (vs := DQ e) Y ER O (by simp [DQ, A1]) Y) Y (.oq (.callV func63 Y Y (us := []) (vs := [_, _]) (ws := []) Y Y (P1 cw e p he)) ?_))))
 rintro v L' ⟨rfl, rfl⟩
 refine .nt (.sm Y (.cv func120 [_] (QD _ _) ?_))
 refine .an Y (.ret ?_)
 exact .vv
theorem Vj (e : En) (p : HP) (he : V5 p e) : Fn prog 33 #[.agg (DQ e).toArray] [p] fun v L => v = AD (NW e) ∧ L = [p] := by
 refine Fn.intro func33 Y Y fun F W => ?_
 refine .sr (.oq (.box Y) ?_)
 rintro v L' ⟨b1, rfl, rfl⟩
 refine .a Y (.nil (.pc b1 (DQ e) ?_))
 refine .then_n (.sr (.q (.loadAs (vs := DQ e) Y ER O (by simp [DQ, A1]) Y) Y (.cv func62 [_, _] (R9 e p he) ?_)))
 refine .an Y (.ret ?_)
 exact .vv
theorem JH (r : Nat) (st : Rs) : Fn prog 186 #[AI r] [Ic r st] fun v L => v = AD (Bj st).1 ∧ L = [Ic r (Bj st).2] := by
 refine Fn.intro func186 Y Y fun F W => ?_
 refine .sr (.an Y (.sm Y (.cv func234 [_, _] (TV r 4096 dQ st) ?_)))
 refine .an Y (.ret ?_)
 exact .vv
theorem Kq (r : Nat) (st : Rs) : Fn prog 185 #[AI r] [Ic r st] fun v L => v = AA (Af st).1 ∧ L = [Ic r (Af st).2] := V1 r st
theorem Mi (r : Nat) (st : Rs) (va : Value) (ad : List (Nat × Nat)) (q : HP) (hq : ∀ h : Hp, q h → Cx 1 h va ad.length (ad.map Jf)) (B : Nat → HP)
    (hB : ∀ j (hj : j < ad.length) (E : B0) (x y : Operand) (ty : TypeId), ev E x = some (Jf ad[j]) → ev E y = some (AA (Af (A5 Af j st).2).1) → AP prog ⟨none, .store 3 x y, ty, "", #[], none⟩ E [B j] fun _ L' => L' = [B (j + 1)]) (hn : ad.length ≤ 1048576) :
    Fn prog 116 #[AI r, va] [Ic r st, q, B 0] fun v L => v = .tuple #[] ∧ L = [Ic r (A5 Af ad.length st).2, q, B ad.length] := by
 refine Fn.intro func116 Y Y fun F W => ?_
 refine .rdAny (p := q) hq O fun aa ca e0 _ => ?_
 subst e0
 refine .sm Y (.q (.slen Y underlying247 Y) Y (.m Y (.nt (.block (.loopK (ι := Nat) (fun q E => (8, AA q) :: E) (fun q => [Ic r (A5 Af q st).2, B q]) (fun q => q ≤ ad.length) (fun q => ad.length - q) (0) (ts := [0, 6, 7]) O (Nat.zero_le _) O O ?_)))))
 rintro j hj
 refine .sr (.ui Y Y Y (.nt (.seq (.condD Y (fun h9 => ?_) (fun h9 => ?_)))))
 ·have hj2 : j < ad.length := by omega
  refine .rdShape (p := q) hq O om fun ba oa e => ?_
  subst e
  refine .sk (.seq (.block (.sr (.q (.indexAddr Y Y TR om) Y (.q (.loadEl (p := q) (i := j * 1) (v := Jf ad[j]) Y ABA O hq (by simp [hj2])) Y (.an Y (.region (.m Y (.m Y (.cv func185 [_] (Kq r _) ?_))))))))))
  refine .u (.nilp Y) (.oq (hB j hj2 _ _ _ _ Y Y) ?_)
  rintro v L' rfl
  refine .nil (.blk_n (.then_n (.region (.q (.add Y Y om) Y (.m Y (.nt ?_))))))
  exact .rk (j + 1) om om O
 have hjj : j = ad.length := by omega
 rw [hjj]
 refine .exit (.then_e (.then_e (.blk_e (.done_n ?_))))
 exact .vv
theorem R6 (r : Nat) (st : Rs) : Fn prog 188 #[AI r] [Ic r st] fun v L => v = .agg (CP (HS st).1).toArray ∧ L = [Ic r (HS st).2] := by
 refine Fn.intro func188 Y Y fun F W => ?_
 refine .sr (.oq (.allocA GA) ?_)
 rintro v L' ⟨b2, rfl, rfl⟩
 refine .nt (.sm Y (.cv func185 [_] (Kq r st) ?_))
 refine .an Y (.sm Y (.m Y (.cv func186 [_] (JH r _) ?_)))
 refine .q (.to (v' := .agg (CP (HS st).1).toArray) (.build (us := [(0, _), (1, _)]) Ub GA Y Y (by simp [AB])) Y) Y (.sa Y Y WN (by simp [CP, AB]) ?_)
 refine .nt (.ret (.pc b2 (CP (HS st).1) ?_))
 exact .d1 Y (.cellA Y P2 O (by simp [CP]) Y) ⟨Y, Y⟩
theorem Si (r : Nat) (st : Rs) : Fn prog 187 #[AI r, .func (.func 188) #[] #[]] [Ic r st] fun v L => ∃ a c, v = .slice a (CW HS st).1.length c ∧ L = [Ic r (CW HS st).2, Ad 75 2 v (CW HS st).1.length ((CW HS st).1.flatMap CP)] := by
 refine Fn.intro func187 Y Y fun F W => ?_
 obtain ⟨m, hm⟩ : ∃ m, m = (Po st).1 := ⟨_, rfl⟩
 obtain ⟨st1, hst1⟩ : ∃ s, s = (Po st).2 := ⟨_, rfl⟩
 have hm2 := UB st
 have hrow : CW HS st = A5 HS m st1 := by rw [hm, hst1]; rfl
 have hml := MU HS st1 m
 rw [hrow, hml]
 refine .sr (.an Y (.seq (.add (AN 75 2) (.region (.an Y (.seq (.sm Y (.oq (.c func189 [_, _] (LP r 256 dQ st)) ?_))))))))
 rintro v L' ⟨rfl, rfl⟩; rw [show (CN 0 (FI 256) st).1 = m from hm.symm, show (CN 0 (FI 256) st).2 = st1 from hst1.symm]
 refine .m Y (.nt (.block (.loopK (ι := Nat × Value) (fun q E => (8, AA q.1) :: (5, q.2) :: E) (fun q => [Ic r (A5 HS q.1 st1).2, Ad 75 2 q.2 q.1 ((A5 HS q.1 st1).1.flatMap CP)]) (fun q => q.1 ≤ m ∧ ∃ a c, q.2 = .slice a q.1 c) (fun q => m - q.1) (0, .slice none 0 0) (ts := [0, 1, 4, 7]) O (⟨Nat.zero_le _, none, 0, Y⟩) O O ?_)))
 rintro ⟨j, u⟩ ⟨hj, au, cu, hu⟩
 dsimp only
 dsimp only at hj hu
 subst hu
 refine .sr (.ui Y Y Y (.nt (.seq (.condD Y (fun h9 => ?_) (fun h9 => ?_)))))
 ·have hj2 : j < m := by omega
  refine .sk (.seq (.block (.region (.m Y (.m Y (.m Y (.oq (.callV func188 Y Y (us := []) (vs := [_]) (ws := []) Y Y (R6 r _)) ?_)))))))
  rintro v L' ⟨rfl, rfl⟩
  refine .oq (.buildSlice (vs := [_]) Gz GA Y Y Y Y cQ dQ) ?_
  rintro v L' ⟨b4, rfl, rfl⟩
  refine .oq (.append1 Y Y Y Gz GA Y Y ?c15 ?c16 (Nat.le_refl _) ?c17 dQ) ?_
  case c15 => simp only [map_cons, map_nil, flatten_cons, flatten_nil, append_nil]; simp [Value.cells, CP, AB]
  case c16 => rfl
  case c17 => omega
  rintro v L' ⟨⟨a5, c5, rfl⟩, rfl⟩
  refine .a Y (.nil (.blk_n (.then_n (.region (.q (.add Y Y om) Y (.m Y (.nt (.slCast (T := 75) (sz := 2) (m' := j + 1) (xs' := (A5 HS (j + 1) st1).1.flatMap CP) O (by exact rfl) (by show _ = ((A5 HS j st1).1 ++ [_]).flatMap CP; rw [flatMap_append]; simp [Value.cells, CP]) ?_))))))))
  exact .rk ((j + 1, .slice a5 (j + 1) c5)) (⟨by dsimp only; omega, _, _, rfl⟩) (by dsimp only; omega) O
 have hjj : j = m := by omega
 subst hjj
 refine .xe (.sm Y (.an Y (.ret ?_)))
 exact .dn Y Y ⟨_, _, Y, Y⟩
theorem K8 (r : Nat) (st : Rs) : Fn prog 117 #[AI r] [Ic r st] fun v L => ∃ aa ca, v = .agg (A1 ((Lt st).1.wa (.slice aa (Lt st).1.acl.length ca))).toArray ∧ L = [Ic r (Lt st).2, aclR ((Lt st).1.wa (.slice aa (Lt st).1.acl.length ca))] := by
 refine Fn.intro func117 Y Y fun F W => ?_
 refine .sr (.oq (.allocA BK) ?_)
 rintro v L' ⟨b2, rfl, rfl⟩
 refine .nt (.sr (.oq (.allocA BK) ?_))
 rintro v L' ⟨b3, rfl, rfl⟩
 refine .nt (.sm Y (.cv func185 [_] (Kq r st) ?_))
 refine .fa Y B1 (.st Y Y Y CC ?_)
 refine .nt (.sm Y (.cv func186 [_] (JH r _) ?_))
 refine .fa Y A7 (.st Y Y Y KM ?_)
 refine .nt (.sm Y (.cv func186 [_] (JH r _) ?_))
 refine .fa Y FA (.st Y Y Y KM ?_)
 refine .nt (.sm Y (.oq (.c func187 [_, _] (Si r _)) ?_))
 rintro v L' ⟨aa, ca, rfl, rfl⟩
 refine .fa Y GG (.st Y Y Y P9 ?_)
 refine .nt (.sr (.oq (.alloc F6) ?_))
 rintro v L' ⟨b4, rfl, rfl⟩
 refine .nt (.sm Y (.fa Y CZ (.fa Y Cl (.oq (.buildSlice1 (vs := [_, _, _]) TR Wk Y Y Y Y Y dQ) ?_))))
 rintro v L' ⟨b5, rfl, rfl⟩
 refine .slMake (b := b5) (n := 3) (c := 3) (xs := [(b3, 4), (b3, 5), (b4, 0)].map Jf) O dQ (by simp) Y (.ptCast (b := b3) (l' := Ix (Af st).1 (Bj (Af st).2).1 (Bj (Bj (Af st).2).2).1 (.slice aa (CW HS (Bj (Bj (Af st).2).2).2).1.length ca) 0 0) O (by exact rfl) ?_)
 refine .fold (p := Rx b3 b4 (Af st).1 (Bj (Af st).2).1 (Bj (Bj (Af st).2).2).1 (.slice aa (CW HS (Bj (Bj (Af st).2).2).2).1.length ca) (Af (A5 Af 0 (CW HS (Bj (Bj (Af st).2).2).2).2).2).1 (Af (A5 Af 1 (CW HS (Bj (Bj (Af st).2).2).2).2).2).1 (Af (A5 Af 2 (CW HS (Bj (Bj (Af st).2).2).2).2).2).1 0) (q := [Ae b3 (Ix (Af st).1 (Bj (Af st).2).1 (Bj (Bj (Af st).2).2).1 (.slice aa (CW HS (Bj (Bj (Af st).2).2).2).1.length ca) 0 0) 60, Ae b4 [AA 0] 3]) O (fun _ hp => hp) (.oq (.call func116 Y Y (vs := [_, _]) Y (Mi r (CW HS (Bj (Bj (Af st).2).2).2).2 _ [(b3, 4), (b3, 5), (b4, 0)] (Ad 204 1 (.slice (some ⟨b5, 0, none⟩) 3 3) 3 ([(b3, 4), (b3, 5), (b4, 0)].map Jf)) (fun h hp => AZ hp) (Rx b3 b4 (Af st).1 (Bj (Af st).2).1 (Bj (Bj (Af st).2).2).1 (.slice aa (CW HS (Bj (Bj (Af st).2).2).2).1.length ca) (Af (A5 Af 0 (CW HS (Bj (Bj (Af st).2).2).2).2).2).1 (Af (A5 Af 1 (CW HS (Bj (Bj (Af st).2).2).2).2).2).1 (Af (A5 Af 2 (CW HS (Bj (Bj (Af st).2).2).2).2).2).1) ?hB40 (by simp))) ?_)
 case hB40 => exact Vt b3 b4 _ _ _ _ _
 rintro v L' ⟨rfl, rfl⟩
 refine .nil (.focus (p := Rx b3 b4 (Af st).1 (Bj (Af st).2).1 (Bj (Bj (Af st).2).2).1 (.slice aa (CW HS (Bj (Bj (Af st).2).2).2).1.length ca) (Af (A5 Af 0 (CW HS (Bj (Bj (Af st).2).2).2).2).2).1 (Af (A5 Af 1 (CW HS (Bj (Bj (Af st).2).2).2).2).2).1 (Af (A5 Af 2 (CW HS (Bj (Bj (Af st).2).2).2).2).2).1 3) O (.unfold (q := [Ae b3 (Ix (Af st).1 (Bj (Af st).2).1 (Bj (Bj (Af st).2).2).1 (.slice aa (CW HS (Bj (Bj (Af st).2).2).2).1.length ca) (Af (A5 Af 0 (CW HS (Bj (Bj (Af st).2).2).2).2).2).1 (Af (A5 Af 1 (CW HS (Bj (Bj (Af st).2).2).2).2).2).1) 60, Ae b4 [AA (Af (A5 Af 2 (CW HS (Bj (Bj (Af st).2).2).2).2).2).1] 3]) (fun _ hp => hp) ?_))
 simp only [cons_append, nil_append]
 refine .then_n (.sr (.u (.ld Y AR) (.fa Y If (.oq (.store Y Y Y MD ?c45 (Bf _ _)) ?_))))
 case c45 => simp [Ix]
 rintro v L' rfl
 refine .nil (.ptCast (b := b3) (l' := A1 ((Lt st).1.wa (.slice aa (CW HS (Bj (Bj (Af st).2).2).2).1.length ca))) O (by exact rfl) ?_)
 refine .then_n (.sr (.q (.loadAs (vs := A1 ((Lt st).1.wa (.slice aa (CW HS (Bj (Bj (Af st).2).2).2).1.length ca))) Y Az O (by simp [A1]) Y) Y (.sa Y Y BP (by exact CL rfl rfl) ?_)))
 refine .nt (.ret (.ptCast (b := b2) (l' := A1 ((Lt st).1.wa (.slice aa (CW HS (Bj (Bj (Af st).2).2).2).1.length ca))) O (by exact rfl) ?_))
 exact .d1 Y (.cellA Y Az O (by simp [A1]) Y) ⟨_, _, Y, Y⟩
structure ZD (e : En) : Prop where
 x : AB e.x.aclV = true ∧ AB e.x.subsV = true
 subs : ∀ y ∈ e.subs, AB y.aclV = true ∧ y.subsV = AG
theorem ZD.cells {e : En} (h : ZD e) : ∀ v ∈ DQ e, AB v = true := by
 intro v hv
 unfold DQ at hv
 rcases mem_append.1 hv with hv | hv
 ·simp at hv; rcases hv with rfl | rfl | rfl <;> rfl
 ·exact CL h.x.1 h.x.2 v hv
def pt0 : Pt := ⟨0, [], [], AG, [], 0, 0, 0, AG⟩
def en0 : En := ⟨0, 0, 0, pt0, []⟩
theorem ABD : ∀ h, entR en0 h := fun h => ⟨fun _ => none, h, fun _ => .inl rfl, fun _ _ e => (by cases e), fun _ _ e => e, AN _ _ _, fun _ => none, h, fun _ => .inl rfl, fun _ _ e => (by cases e), fun _ _ e => e, AN _ _ _, fun _ => none, h, fun _ => .inl rfl, fun _ _ e => (by cases e), fun _ _ e => e, trivial, trivial⟩
def XC (s : Bs) (e : En) (er : Int) : Prop := (er = 0 ∧ Rc s = some e.pl ∧ ZD e) ∨ (er = 120 ∧ Rc s = none ∧ e = en0)
theorem Q3 (r : Nat) (st : Rs) : Fn prog 118 #[AI r, .func (.func 117) #[] #[]] [Ic r st] fun v L => ∃ a c, ∃ ys : List Pt, ys.map Pt.pl = (CW Lt st).1 ∧ (∀ y ∈ ys, AB y.aclV = true ∧ y.subsV = AG) ∧ v = .slice a ys.length c ∧ L = [Ic r (CW Lt st).2, Ad 60 8 v ys.length (ys.flatMap A1), Ah aclR ys] := by
 refine Fn.intro func118 Y Y fun F W => ?_
 obtain ⟨m, hm⟩ : ∃ m, m = (Po st).1 := ⟨_, rfl⟩
 obtain ⟨st1, hst1⟩ : ∃ s, s = (Po st).2 := ⟨_, rfl⟩
 have hm2 := UB st
 have hrow : CW Lt st = A5 Lt m st1 := by rw [hm, hst1]; rfl
 rw [hrow]
 refine .sr (.an Y (.seq (.add (AN 60 8) (.add (p := Ah aclR []) (fun h => CX h) (.region (.an Y (.seq (.sm Y (.oq (.c func189 [_, _] (LP r 256 dQ st)) ?_)))))))))
 rintro v L' ⟨rfl, rfl⟩; rw [show (CN 0 (FI 256) st).1 = m from hm.symm, show (CN 0 (FI 256) st).2 = st1 from hst1.symm]
 refine .m Y (.nt (.block (.loopK (ι := Nat × Value × (List Pt)) (fun q E => (8, AA q.1) :: (5, q.2.1) :: E) (fun q => [Ic r (A5 Lt q.1 st1).2, Ad 60 8 q.2.1 q.1 (q.2.2.flatMap A1), Ah aclR q.2.2]) (fun q => q.1 ≤ m ∧ (∃ a c, q.2.1 = .slice a q.1 c) ∧ q.2.2.map Pt.pl = (A5 Lt q.1 st1).1 ∧ ∀ y ∈ q.2.2, AB y.aclV = true ∧ y.subsV = AG) (fun q => m - q.1) (0, .slice none 0 0, []) (ts := [0, 1, 4, 7]) O (⟨Nat.zero_le _, ⟨none, 0, Y⟩, Y, fun y hy => by cases hy⟩) O O ?_)))
 rintro ⟨j, u, ys⟩ ⟨hj, ⟨au, cu, hu⟩, hys, hyc⟩
 dsimp only
 dsimp only at hj hu hys hyc
 subst hu
 refine .sr (.ui Y Y Y (.nt (.seq (.condD Y (fun h9 => ?_) (fun h9 => ?_)))))
 ·have hj2 : j < m := by omega
  refine .sk (.seq (.block (.region (.m Y (.m Y (.m Y (.oq (.callV func117 Y Y (us := []) (vs := [_]) (ws := []) Y Y (K8 r _)) ?_)))))))
  rintro v L' ⟨ab, cb, rfl, rfl⟩; obtain ⟨y, hy⟩ : ∃ y : Pt, y = ((Lt (A5 Lt j st1).2).1.wa (.slice ab (Lt (A5 Lt j st1).2).1.acl.length cb)) := ⟨_, rfl⟩; rw [← hy]; have hyk : AB y.aclV = true ∧ y.subsV = AG := by (rw [hy]; exact ⟨rfl, rfl⟩)
  refine .oq (.buildSlice (vs := [_]) ES BK Y Y Y Y cQ dQ) ?_
  rintro v L' ⟨b4, rfl, rfl⟩
  refine .oq (.append1 Y Y Y ES BK Y Y ?c15 ?c16 (Nat.le_refl _) ?c17 dQ) ?_
  case c15 => simp only [map_cons, map_nil, flatten_cons, flatten_nil, append_nil]; simp only [Value.cells]; intro z hz; exact CL (y := y) hyk.1 (by rw [hyk.2]; rfl) z (by simpa using hz)
  case c16 => rfl
  case c17 => omega
  rintro v L' ⟨⟨a5, c5, rfl⟩, rfl⟩
  refine .a Y (.nil (.blk_n (.then_n (.region (.q (.add Y Y om) Y (.m Y (.nt (.bigAdd (f := aclR) (l := ys) (p := aclR y) y Y O (.slCast (T := 60) (sz := 8) (m' := j + 1) (xs' := (ys ++ [y]).flatMap A1) O (by exact rfl) (by rw [flatMap_append]; simp [Value.cells]) ?_)))))))))
  exact .rk ((j + 1, .slice a5 (j + 1) c5, ys ++ [y])) (⟨by dsimp only; omega, ⟨_, _, rfl⟩, by show (ys ++ [y]).map Pt.pl = (A5 Lt j st1).1 ++ [_]; rw [map_append, hys, hy]; rfl, fun z hz => by rcases mem_append.1 hz with hz | hz; exact hyc z hz; rw [mem_singleton] at hz; subst hz; rw [hy]; exact ⟨rfl, rfl⟩⟩) (by dsimp only; omega) O
 have hjj : j = m := by omega
 subst hjj
 have hyl : ys.length = j := by have h := congrArg List.length hys; rw [length_map, MU] at h; exact h
 refine .slCast (T := 60) (sz := 8) (m' := ys.length) (xs' := ys.flatMap A1) O (by rw [hyl]) Y (.xe (.sm Y (.an Y (.ret ?_))))
 exact .dn Y Y ⟨au, cu, ys, hys, hyc, by rw [hyl], rfl⟩
theorem TM (r : Nat) (st : Rs) : Fn prog 61 #[AI r] [Ic r st] fun v L => ∃ e : En, e.pl = (Zu st).1 ∧ ZD e ∧ v = .agg (DQ e).toArray ∧ L = [Ic r (Zu st).2, entR e] := by
 refine Fn.intro func61 Y Y fun F W => ?_
 refine .sr (.oq (.allocA Ez) ?_)
 rintro v L' ⟨b2, rfl, rfl⟩
 refine .nt (.sr (.oq (.allocA Ez) ?_))
 rintro v L' ⟨b3, rfl, rfl⟩
 refine .nil (.ptCast (b := b3) (l' := Ng 0 0 0) O Y ?_)
 refine .fold (p := XA b3 (Af (A5 Af 0 st).2).1 (Af (A5 Af 1 st).2).1 (Af (A5 Af 2 st).2).1 0) (q := [Ae b3 (Ng 0 0 0) 62]) O (fun _ hp => (Zn hp)) (.then_n (.sm Y (.fa Y C4 (.fa Y Ty (.fa Y Ot (.oq (.buildSlice1 (vs := [_, _, _]) TR Wk Y Y Y Y Y dQ) ?_))))))
 rintro v L' ⟨b5, rfl, rfl⟩
 refine .slMake (b := b5) (n := 3) (c := 3) (xs := [(b3, 0), (b3, 1), (b3, 2)].map Jf) O dQ (by simp) Y (.oq (.call func116 Y Y (vs := [_, _]) Y (Mi r st _ [(b3, 0), (b3, 1), (b3, 2)] (Ad 204 1 (.slice (some ⟨b5, 0, none⟩) 3 3) 3 ([(b3, 0), (b3, 1), (b3, 2)].map Jf)) (fun h hp => AZ hp) (XA b3 (Af (A5 Af 0 st).2).1 (Af (A5 Af 1 st).2).1 (Af (A5 Af 2 st).2).1) ?hB11 (by simp))) ?_)
 case hB11 => exact X2 b3 st
 rintro v L' ⟨rfl, rfl⟩
 refine .nil (.focus (p := XA b3 (Af (A5 Af 0 st).2).1 (Af (A5 Af 1 st).2).1 (Af (A5 Af 2 st).2).1 3) O (.unfold (q := [Ae b3 (Ng (Af (A5 Af 0 st).2).1 (Af (A5 Af 1 st).2).1 (Af (A5 Af 2 st).2).1) 62]) (fun _ hp => ZR hp) ?_))
 simp only [cons_append, nil_append]
 refine .then_n (.sm Y (.oq (.c func117 [_] (K8 r (A5 Af 3 st).2)) ?_))
 rintro v L' ⟨ab, cb, rfl, rfl⟩; obtain ⟨y, hy⟩ : ∃ y : Pt, y = ((Lt (A5 Af 3 st).2).1.wa (.slice ab (Lt (A5 Af 3 st).2).1.acl.length cb)) := ⟨_, rfl⟩; rw [← hy]; have hyk : AB y.aclV = true ∧ y.subsV = AG := by (rw [hy]; exact ⟨rfl, rfl⟩)
 refine .fa Y HW (.sa Y Y BP (by exact CL (y := y) hyk.1 (by rw [hyk.2]; rfl)) ?_)
 refine .nil (.pc b3 ([AA (Af (A5 Af 0 st).2).1, AA (Af (A5 Af 1 st).2).1, AA (Af (A5 Af 2 st).2).1] ++ A1 y) ?_)
 refine .then_n (.sm Y (.oq (.c func118 [_, _] (Q3 r _)) ?_))
 rintro v L' ⟨sa, sc, ys, hys, hyc, rfl, rfl⟩
 refine .fa Y HW (.fa Y Cm (.sw Y Y Y LH ?_))
 refine .nil ?_
 obtain ⟨e, he⟩ : ∃ e : En, e = (⟨(Af (A5 Af 0 st).2).1, (Af (A5 Af 1 st).2).1, (Af (A5 Af 2 st).2).1, y.ws (.slice sa ys.length sc), ys⟩ : En) := ⟨_, rfl⟩
 have hek : ZD e := by rw [he]; exact ⟨⟨hyk.1, rfl⟩, hyc⟩
 refine .ptCast (b := b3) (l' := DQ e) O (by rw [he]; rfl) ?_
 refine .fold (p := entR e) (q := [aclR y, Ad 60 8 (.slice sa ys.length sc) ys.length (ys.flatMap A1), Ah aclR ys]) O (fun _ hp => by rw [he]; exact hp) (.then_n (.sr (.q (.loadAs (vs := DQ e) rfl ER O (by simp [DQ, A1]) rfl) rfl (.sa rfl rfl Is (by exact hek.cells) ?_))))
 refine .nt (.ret (.pc b2 (DQ e) ?_))
 exact .d1 Y (.cellA Y ER O (by simp [DQ, A1]) Y) ⟨e, by rw [he]; unfold En.pl; dsimp only; rw [hys, hy]; rfl, hek, rfl, rfl⟩
theorem Zr {s : Bs} (h : ¬ (Zu (some s)).2 = some []) : Rc s = none := by
 unfold Rc ABf
 split
 ·rename_i q hq; rw [hq] at h; exact absurd rfl h
 ·rfl
theorem ABb {s : Bs} (h : (Zu (some s)).2 = some []) : Rc s = some (Zu (some s)).1 := by
 unfold Rc ABf
 split
 ·rename_i q hq; rw [hq]
 ·rename_i h2; exact absurd (show Zu (some s) = ((Zu (some s)).1, some []) by rw [← h]) (h2 _)
theorem TB (s : Bs) (hs : s.length ≤ 2147483648) : Fn prog 60 #[AD s, .func (.func 61) #[] #[]] [] fun v L => ∃ e er, XC s e er ∧ v = .tuple #[.agg (DQ e).toArray, AA er] ∧ L = [entR e] := by
 refine Fn.intro func60 Y Y fun F W => ?_
 refine .sr (.oq (.allocA Ez) ?_)
 rintro v L' ⟨b4, rfl, rfl⟩
 refine .an Y (.sm Y (.oq (.c func114 [_] (R0 s om)) ?_))
 rintro v L' ⟨r, rfl, rfl⟩
 refine .an Y (.sm Y (.m Y (.oq (.callV func61 Y Y (us := []) (vs := [_]) (ws := []) Y Y (TM r (some s))) ?_)))
 rintro v L' ⟨e, hpl, hek, rfl, rfl⟩
 refine .oq (.allocA Ez) ?_
 rintro v L' ⟨b7, rfl, rfl⟩
 refine .sa Y Y Is (by exact hek.cells) ?_
 refine .nil (.pc b7 (DQ e) ?_)
 refine .then_n (.seq (.sm Y (.oq (.c func115 [_] (U8 r _)) ?_)))
 rintro v L' ⟨e1, he1, rfl, st', rfl⟩
 refine .ui Y Y Y (.nt (.condN Y (fun h16 => ?_) (fun h16 => ?_)))
 ·refine .sr (.oq (.allocA Ez) ?_)
  rintro v L' ⟨b8, rfl, rfl⟩
  refine .nil (.pc b8 (DQ en0) ?_)
  refine .add ABD (.then_n (.sr (.q (.loadAs (vs := DQ en0) Y ER O (by simp [DQ, A1]) Y) Y (.sa Y Y Is dQ ?_))))
  refine .a Y (.nil (.pc b4 (DQ en0) ?_))
  refine .then_n (.rt ?_)
  exact .d2 Y (.cellA Y ER O (by simp [DQ, A1]) Y) (.tmp Y) ⟨en0, 120, .inr ⟨Y, Zr (fun g => h16 (he1.2 g)), Y⟩, Y, Y⟩
 refine .sk (.sr (.q (.loadAs (vs := DQ e) Y ER O (by simp [DQ, A1]) Y) Y (.sa Y Y Is (by exact hek.cells) ?_)))
 refine .a Y (.nil (.pc b4 (DQ e) ?_))
 refine .then_n (.ret ?_)
 exact .d2 Y (.cellA Y ER O (by simp [DQ, A1]) Y) (.tmp Y) ⟨e, 0, .inl ⟨Y, by rw [hpl]; exact ABb (he1.1 h16), hek⟩, rfl, rfl⟩
theorem XC.cells {s : Bs} {e : En} {er : Int} (h : XC s e er) : ∀ v ∈ DQ e, AB v = true := by
 rcases h with ⟨-, -, h⟩ | ⟨-, -, rfl⟩
 ·exact h.cells
 ·decide
theorem Vb (s : Bs) (hs : s.length ≤ 2147483648) : Fn prog 32 #[AD s] [] fun v L => ∃ e er, XC s e er ∧ v = .tuple #[.agg (DQ e).toArray, AA er] ∧ L = [entR e] := by
 refine Fn.intro func32 Y Y fun F W => ?_
 refine .sr (.oq (.allocA Ez) ?_)
 rintro v L' ⟨b2, rfl, rfl⟩
 refine .an Y (.sm Y (.oq (.c func60 [_, _] (TB s hs)) ?_))
 rintro v L' ⟨e, er, hg, rfl, rfl⟩
 refine .ex Y Y (.ex Y Y (.sa Y Y Is (by exact hg.cells) ?_))
 refine .a Y (.nil (.pc b2 (DQ e) ?_))
 refine .then_n (.ret ?_)
 exact .d2 Y (.cellA Y ER O (by simp [DQ, A1]) Y) (.tmp Y) ⟨e, er, hg, Y, Y⟩
theorem V5.all {l : List En} {e : En} (he : e ∈ l) (h : V5 (entR e) e) : V5 (Ah entR l) e := by
 have hr : ∀ {h : Hp}, Ah entR l h → ∃ h1, (∀ b o, h1 b = some o → h b = some o) ∧ entR e h1 := fun hp => by
  obtain ⟨h1, a1, q1⟩ := IQ he hp
  exact ⟨h1, a1, q1⟩
 refine ⟨⟨h.w.i, fun _ hp => ?_, fun _ hp => ?_, fun y hy _ hp => ?_⟩, h.len, h.few, h.cx, h.cs⟩
 ·obtain ⟨h1, a1, q1⟩ := hr hp; exact Ck (MA q1) a1
 ·obtain ⟨h1, a1, q1⟩ := hr hp; exact Ck (Hn q1) a1
 ·obtain ⟨h1, a1, q1⟩ := hr hp; exact Ck (Jv q1 hy) a1
theorem ZX.got {e ge : En} {er : Int} (h : ZX e) (hg : XC (NW e) ge er) : ge.pl = e.pl ∧ ZD ge := by
 rcases hg with ⟨-, h2, h3⟩ | ⟨-, h2, -⟩
 ·rw [h.get] at h2
  injection h2 with h2
  exact ⟨h2.symm, h3⟩
 ·rw [h.get] at h2; cases h2
theorem ZJ {l m : List En} {i : Nat} {ge : En} (hi : i < m.length) (h : l.map En.pl = (m.take i).map En.pl) (hg : ge.pl = m[i].pl) : (l ++ [ge]).map En.pl = (m.take (i + 1)).map En.pl := by
 rw [map_append, h, take_succ_eq_append_getElem hi, map_append, map_singleton, map_singleton, hg]
theorem So {l m : List En} (h : l.map En.pl = m.map En.pl) : l.length = m.length := by
 have := congrArg List.length h
 rwa [length_map, length_map] at this
theorem O3 : Fn prog 34 #[.slice none 0 0] [Ad 62 11 (.slice none 0 0) 0 []] fun u L => u = .slice none 0 0 ∧ L = [Ad 62 11 u 0 []] := by
 refine Fn.intro func34 Y Y fun F W => ?_
 refine .sr (.an Y (.sm Y (.m Y (.q (.slen Y underlying54 Y) Y (.m Y (.q (.slen Y underlying54 Y) Y (.q (.clip (n := 0) Y Jz Y Y (Nat.le_refl _) (.inl Y)) Y (.an Y (.ret ?_)))))))))
 exact .dn Y Y ⟨Y, Y⟩
theorem PT (b n c : Nat) (hc : n ≤ c) (xs : List Value) : Fn prog 34 #[.slice (some ⟨b, 0, none⟩) n c] [Ad 62 11 (.slice (some ⟨b, 0, none⟩) n c) n xs] fun u L => u = .slice (some ⟨b, 0, none⟩) n n ∧ L = [Ad 62 11 u n xs] := by
 refine Fn.intro func34 Y Y fun F W => ?_
 refine .sr (.an Y (.sm Y (.m Y (.q (.slen Y underlying54 Y) Y (.m Y (.q (.slen Y underlying54 Y) Y (.q (.clip (n := n) Y Jz Y Y hc (.inr ⟨_, _, Y⟩)) Y (.an Y (.ret (.slClip O ?_))))))))))
 exact .dn Y Y ⟨Y, Y⟩
theorem Qf (v : Value) (n : Nat) (xs : List Value) : Fn prog 34 #[v] [Ad 62 11 v n xs] fun u L => (∃ a c, u = .slice a n c) ∧ L = [Ad 62 11 u n xs] := by
 intro F w hs
 obtain ⟨g1, -, hp⟩ := Ap hs
 rcases hp with ⟨rfl, rfl, rfl⟩ | ⟨b, cap, rest, fr, rfl, -, -, -, h4, -⟩
 ·exact (O3 F w hs).mono fun e w' ⟨u, L, ⟨h1, h2⟩, h3⟩ => ⟨u, L, ⟨⟨_, _, h1⟩, h2⟩, h3⟩
 ·exact (PT b n cap h4 xs F w hs).mono fun e w' ⟨u, L, ⟨h1, h2⟩, h3⟩ => ⟨u, L, ⟨⟨_, _, h1⟩, h2⟩, h3⟩
theorem MR (b : Nat) (k : V4) (π : Pl) (n : Nat) (hB : Iy π n) (hn : n ≤ 4096) (hL : ∀ e ∈ π.ord, ZX e ∧ V5 (entR e) e) : Fn prog 15 #[AI b] [Pr b k π] fun v L => ∃ l a c, l.map En.pl = π.ord.map En.pl ∧ (∀ e ∈ l, ZD e) ∧ v = .slice a l.length c ∧ L = [Pr b k π, Ad 62 11 v l.length (l.flatMap DQ), Ah entR l] := by
 refine Fn.intro func15 Y Y fun F W => ?_
 refine .plOpen (π := π) O fun ov mi me hI => (.slAny (v := ov) O fun ao co eo _ => ?_)
 subst eo
 have hol := hB.ord
 refine .add (p := QF AG []) (AN 62 11) (.add (p := Ah entR []) (fun h => CX h) (.sr (.an Y (.sr (.an Y (.seq (.sm Y (.nf Y Lr (.u (.ld Y Wu) (.q (.slen Y underlying54 Y) Y (.m Y (.nt (.block (.loopK (ι := Nat × Value × (List En)) (fun q E => (11, AA q.1) :: (3, q.2.1) :: E) (fun q => [Ad 62 11 q.2.1 q.1 (q.2.2.flatMap DQ), Ah entR q.2.2]) (fun q => q.1 ≤ π.ord.length ∧ (∃ a c, q.2.1 = .slice a q.1 c) ∧ q.2.2.map En.pl = (π.ord.take q.1).map En.pl ∧ ∀ e ∈ q.2.2, ZD e) (fun q => π.ord.length - q.1) (0, AG, []) (ts := [2, 9, 10]) O (⟨Nat.zero_le _, ⟨none, 0, Y⟩, Y, fun y hy => by cases hy⟩) O O ?_))))))))))))))
 rintro ⟨i, u, l⟩ ⟨hi, ⟨au, cu, hu⟩, hl, hk⟩
 dsimp only
 dsimp only at hi hu hl hk
 subst hu
 refine .sr (.ui Y Y Y (.nt (.seq (.condD Y (fun h12 => ?_) (fun h12 => ?_)))))
 ·have hi2 : i < π.ord.length := by omega
  have hel := hL _ (getElem_mem hi2)
  have hlen := hel.1.len
  refine .slShape (T := 62) (sz := 11) (v := .slice ao π.ord.length co) (xs := π.ord.flatMap DQ) O om fun bo bo' e0 _ _ => ?_
  simp only [Value.slice.injEq, true_and] at e0
  obtain ⟨rfl, rfl⟩ := e0
  refine .sk (.seq (.block (.sr (.q (.indexAddr Y Y Jz om) Y (.q (.loadRdA (sz := 11) (j := i * 11) (k := 11) (p := QF (.slice (some ⟨bo, 0, none⟩) π.ord.length co) π.ord) (vs := DQ π.ord[i]) Y ER O (fun h hp => AZ hp) (by simp) om om (A3 (f := DQ) (sz := 11) (fun _ _ => Y) om)) Y (.oq (.allocA Ez) ?_))))))
  rintro v L' ⟨b5, rfl, rfl⟩
  refine .sa Y Y Is (by exact hel.2.cells) ?_
  refine .nil (.pc b5 (DQ π.ord[i]) ?_)
  refine .then_n (.sr (.q (.la (DQ π.ord[i]) Y ER) Y (.cv func33 [_] (Vj π.ord[i] (Ah entR π.ord) (V5.all (getElem_mem hi2) hel.2)) ?_)))
  refine .oq (.c func32 [_] (Vb (NW π.ord[i]) om)) ?_
  rintro v L' ⟨ge, er, hge, rfl, rfl⟩
  refine .m Y (.ex Y Y (.ex Y Y (.sa Y Y Is (by exact hge.cells) ?_)))
  refine .nil (.pc b5 (DQ ge) ?_)
  have hgp := hel.1.got hge
  refine .then_n (.region (.m Y (.q (.la (DQ ge) Y ER) Y (.oq (.buildSlice (vs := [_]) Jz Ez Y Y Y Y cQ dQ) ?_))))
  rintro v L' ⟨b6, rfl, rfl⟩
  refine .oq (.append1 Y Y Y Jz Ez Y Y ?c35 ?c36 (Nat.le_refl _) ?c37 dQ) ?_
  case c35 => simp only [map_cons, map_nil, flatten_cons, flatten_nil, append_nil]; simp only [Value.cells]; exact hge.cells
  case c36 => rfl
  case c37 => omega
  rintro v L' ⟨⟨a6, c6, rfl⟩, rfl⟩
  refine .a Y (.nil (.blk_n (.then_n (.region (.q (.add Y Y om) Y (.m Y (.nt (.bigAdd (f := entR) (l := l) (p := entR ge) ge Y O (.slCast (T := 62) (sz := 11) (m' := i + 1) (xs' := (l ++ [ge]).flatMap DQ) O (by exact rfl) (by rw [flatMap_append]; simp [Value.cells]) ?_)))))))))
  exact .rk ((i + 1, .slice a6 (i + 1) c6, l ++ [ge])) (⟨by dsimp only; omega, ⟨_, _, rfl⟩, ZJ hi2 hl hgp.1, fun z hz => by rcases mem_append.1 hz with hz | hz; exact hk z hz; rw [mem_singleton] at hz; rw [hz]; exact hgp.2⟩) (by dsimp only; omega) O
 have hii : i = π.ord.length := by omega
 subst hii
 rw [take_length] at hl
 have hll := So hl
 refine .slCast (T := 62) (sz := 11) (m' := l.length) (xs' := l.flatMap DQ) O (by rw [hll]) Y (.xe (.sm Y (.oq (.c func34 [_] (Qf _ l.length (l.flatMap DQ))) ?_)))
 rintro v L' ⟨⟨ac, cc, rfl⟩, rfl⟩
 refine .a Y (.nil (.plFold (k := k) (ov := .slice ao π.ord.length co) π hI O (by rfl) (by rfl) (by rfl) (by rfl) (by rfl) (by rfl) (.then_n (.ret ?_))))
 exact .dn Y Y ⟨l, ac, cc, hl, hk, Y, Y⟩
def Hs : Bs → List Bs
 | [] => []
 | _ :: r => Al r
def ZU (s : Bs) : Bool := decide (s.head? = some 47) && (Hs s).all BN
theorem Xe {r : Bs} {k : Nat} (hk : k ≤ r.length) (h1 : ∀ j, j < k → r.getD j 0 ≠ 47) (h2 : k = r.length ∨ r.getD k 0 = 47) : Al r = r.take k :: Hs (r.drop k) := by
 have hno : (47 : UInt8) ∉ r.take k := fun hm => by
  obtain ⟨i, hi, e⟩ := mem_iff_getElem.1 hm
  rw [length_take] at hi
  rw [getElem_take] at e
  refine h1 i om ?_
  rw [getD_eq_getElem?_getD, List.getElem?_eq_getElem om, Option.getD_some]; exact e
 rcases Nat.lt_or_ge k r.length with hlt | hge
 ·have h3 : r[k] = 47 := by
   rcases h2 with h2 | h2
   ·omega
   ·rw [getD_eq_getElem?_getD, List.getElem?_eq_getElem hlt, Option.getD_some] at h2; exact h2
  have e : r = r.take k ++ 47 :: r.drop (k + 1) := by
   have := (take_append_drop k r).symm
   rw [drop_eq_getElem_cons hlt, h3] at this; exact this
  have e2 : r.drop k = 47 :: r.drop (k + 1) := by rw [drop_eq_getElem_cons hlt, h3]
  rw [e2]
  conv => lhs; rw [e]
  exact Q7 hno
 ·have : k = r.length := by omega
  subst this
  rw [take_length] at hno ⊢
  rw [drop_length, HT hno]; rfl
theorem YW {p : Bs} (h1 : p ≠ [47]) : BG p = if ZU p = true then (if p.length > 60 ∨ (Hs p).length > 6 then 41 else 0) else 40 := by
 unfold BG
 rw [if_neg h1]
 cases p with
 | nil => decide
 | cons c r =>
  by_cases hc : c = 47
  ·subst hc
   have e : Al (47 :: r) = [] :: Al r := by rw [Fz, if_pos rfl]
   have hne := Gt r
   rw [e]
   unfold ZU
   rw [show Hs (47 :: r) = Al r from rfl]
   by_cases ha : (Al r).all BN = true
   ·rw [if_neg, ha, if_pos (show (decide ((47 :: r).head? = some 47) && true) = true from by simp)]
    ·have e7 : ([] :: Al r).length = (Al r).length + 1 := rfl
     by_cases h60 : (47 :: r).length > 60 ∨ (Al r).length > 6
     ·rw [if_pos h60, if_pos (by rw [e7]; omega)]
     ·rw [if_neg h60, if_neg (by rw [e7]; omega)]
    ·simp only [List.head?_cons, tail_cons, length_cons]
     rintro (g | g | g)
     ·exact g rfl
     ·exact hne (eq_nil_of_length_eq_zero om)
     ·rw [ha] at g; cases g
   ·rw [if_pos (.inr (.inr (by rw [tail_cons]; simpa using ha))), if_neg]
    simp; simpa using ha
  ·rw [if_pos, if_neg]
   ·unfold ZU; simp [hc]
   ·left
    rw [Fz, if_neg hc]
    rcases e : Al r with _ | ⟨h, t⟩ <;> simp
theorem Pf (c : UInt8) : Fn prog 284 #[Cv c] [] fun v L => v = .bool (DW c) ∧ L = [] := by
 refine Fn.intro func284 Y Y fun F W => ?_
 refine .sr (.an Y (.sr ?_))
 refine' G.joinM (ts := [0, 2]) (t := 8) (φ := (97 ≤ c.toNat ∧ c.toNat ≤ 122)) (.cons rfl (.cons rfl (.nil))) ?w1_0 ?k1_0
 case w1_0 =>
  intro JT JF
  refine .m Y (.ui Y Y Y (.m Y (.dec (t := 5) Y (fun h1_5 => ?_) (fun h1_5 => ?_))))
  ·refine .kDT (t := 4) Y h1_5 (.gr (.m Y (.gr (.ui Y Y Y (.pT Y Y ?_)))))
   exact .midD JT JF O om
  refine .kDF (t := 4) Y h1_5 (.gk (.gk (.pF Y Y ?_)))
  exact JF om O
 refine' G.joinM (ts := [0, 2]) (t := 16) (φ := ((97 ≤ c.toNat ∧ c.toNat ≤ 122) ∨ (65 ≤ c.toNat ∧ c.toNat ≤ 90))) (.cons rfl (.cons rfl (.nil))) ?w1_6 ?k1_6
 case w1_6 =>
  intro JT JF
  refine .m Y (.dec (t := 9) Y (fun h1_9 => ?_) (fun h1_9 => ?_))
  ·refine .kDT (t := 8) Y h1_9 (.gk (.gk (.gk (.gn (.gn (.gk (.pT Y Y ?_)))))))
   exact JT om O
  refine .kDF (t := 8) Y h1_9 (.gr (.m Y (.gr (.ui Y Y Y (.gr (.m Y (.dec (t := 12) Y (fun h1_12 => ?_) (fun h1_12 => ?_))))))))
  ·refine .kDT (t := 11) Y h1_12 (.gr (.m Y (.gr (.ui Y Y Y (.gr (.pT Y Y (.pF Y Y ?_)))))))
   exact .midD JT JF O om
  refine .kDF (t := 11) Y h1_12 (.gk (.gk (.gr (.pF Y Y (.pF Y Y ?_)))))
  exact JF om O
 refine' G.joinM (ts := [0, 2]) (t := 24) (φ := (((97 ≤ c.toNat ∧ c.toNat ≤ 122) ∨ (65 ≤ c.toNat ∧ c.toNat ≤ 90)) ∨ (48 ≤ c.toNat ∧ c.toNat ≤ 57))) (.cons rfl (.cons rfl (.nil))) ?w1_14 ?k1_14
 case w1_14 =>
  intro JT JF
  refine .m Y (.dec (t := 17) Y (fun h1_17 => ?_) (fun h1_17 => ?_))
  ·refine .kDT (t := 16) Y h1_17 (.gk (.gk (.gk (.gn (.gn (.gk (.pT Y Y ?_)))))))
   exact JT om O
  refine .kDF (t := 16) Y h1_17 (.gr (.m Y (.gr (.ui Y Y Y (.gr (.m Y (.dec (t := 20) Y (fun h1_20 => ?_) (fun h1_20 => ?_))))))))
  ·refine .kDT (t := 19) Y h1_20 (.gr (.m Y (.gr (.ui Y Y Y (.gr (.pT Y Y (.pF Y Y ?_)))))))
   exact .midD JT JF O om
  refine .kDF (t := 19) Y h1_20 (.gk (.gk (.gr (.pF Y Y (.pF Y Y ?_)))))
  exact JF om O
 refine' G.joinM (ts := [0, 2]) (t := 28) (φ := ((((97 ≤ c.toNat ∧ c.toNat ≤ 122) ∨ (65 ≤ c.toNat ∧ c.toNat ≤ 90)) ∨ (48 ≤ c.toNat ∧ c.toNat ≤ 57)) ∨ c.toNat = 95)) (.cons rfl (.cons rfl (.nil))) ?w1_22 ?k1_22
 case w1_22 =>
  intro JT JF
  refine .m Y (.dec (t := 25) Y (fun h1_25 => ?_) (fun h1_25 => ?_))
  ·refine .kDT (t := 24) Y h1_25 (.gk (.gk (.pT Y Y ?_)))
   exact JT om O
  refine .kDF (t := 24) Y h1_25 (.gr (.m Y (.gr (.ui Y Y Y (.pF Y Y ?_)))))
  exact .midD JT JF O om
 refine' G.joinM (ts := [0, 2]) (t := 32) (φ := (((((97 ≤ c.toNat ∧ c.toNat ≤ 122) ∨ (65 ≤ c.toNat ∧ c.toNat ≤ 90)) ∨ (48 ≤ c.toNat ∧ c.toNat ≤ 57)) ∨ c.toNat = 95) ∨ c.toNat = 45)) (.cons rfl (.cons rfl (.nil))) ?w1_26 ?k1_26
 case w1_26 =>
  intro JT JF
  refine .m Y (.dec (t := 29) Y (fun h1_29 => ?_) (fun h1_29 => ?_))
  ·refine .kDT (t := 28) Y h1_29 (.gk (.gk (.pT Y Y ?_)))
   exact JT om O
  refine .kDF (t := 28) Y h1_29 (.gr (.m Y (.gr (.ui Y Y Y (.pF Y Y ?_)))))
  exact .midD JT JF O om
 refine' G.joinM (ts := [2]) (t := 36) (φ := ((((((97 ≤ c.toNat ∧ c.toNat ≤ 122) ∨ (65 ≤ c.toNat ∧ c.toNat ≤ 90)) ∨ (48 ≤ c.toNat ∧ c.toNat ≤ 57)) ∨ c.toNat = 95) ∨ c.toNat = 45) ∨ c.toNat = 46)) (.cons rfl (.nil)) ?w1_30 ?k1_30
 case w1_30 =>
  intro JT JF
  refine .m Y (.dec (t := 33) Y (fun h1_33 => ?_) (fun h1_33 => ?_))
  ·refine .kDT (t := 32) Y h1_33 (.gk (.gk (.pT Y Y ?_)))
   exact JT om O
  refine .kDF (t := 32) Y h1_33 (.gr (.m Y (.gr (.ui Y Y Y (.pF Y Y ?_)))))
  exact .midD JT JF O om
 refine .an Y (.ret ?_)
 exact .dn Y Y ⟨by unfold DW; simp only [Bool.decide_or, Bool.decide_and], rfl⟩
theorem Pm (s : Bs) (hs : s.length ≤ 1099511627776) : Fn prog 262 #[AD s] [] fun v L => v = .bool (BN s) ∧ L = [] := by
 refine Fn.intro func262 Y Y fun F W => ?_
 have hbs := Bb s
 refine .sr (.an Y (.seq (.sm Y (.u (.streq Y Y) (.m Y (.dec (t := 7) Y (fun h1_7 => ?_) (fun h1_7 => ?_)))))))
 ·refine .kDT (t := 6) Y h1_7 (.gk (.gk (.pT Y Y (.m Y (.gk (.gk (.pT Y Y (.nt (.condT Y (.sr (.an Y (.rt ?_))))))))))))
  exact .dn Y Y ⟨by rw [show BN s = false by unfold BN; first | (rw [show s = [] from by assumption]; rfl) | (rw [show s = [46] from by assumption]; rfl) | (rw [show s = [46, 46] from by assumption]; rfl)], rfl⟩
 refine .kDF (t := 6) Y h1_7 (.gr (.m Y (.gr (.u (.streq Y Y) (.pF Y Y (.m Y (.dec (t := 11) Y (fun h1_11 => ?_) (fun h1_11 => ?_))))))))
 ·refine .kDT (t := 9) Y h1_11 (.kDT (t := 10) Y h1_11 (.gk (.gk (.pT Y Y (.nt (.condT Y (.sr (.an Y (.rt ?_)))))))))
  exact .dn Y Y ⟨by rw [show BN s = false by unfold BN; first | (rw [show s = [] from by assumption]; rfl) | (rw [show s = [46] from by assumption]; rfl) | (rw [show s = [46, 46] from by assumption]; rfl)], rfl⟩
 refine .kDF (t := 9) Y h1_11 (.kDF (t := 10) Y h1_11 (.gr (.m Y (.gr (.u (.streq Y Y) (.pF Y Y (.nt (.condD Y (fun h14 => ?_) (fun h14 => ?_)))))))))
 ·refine .sr (.an Y (.rt ?_))
  exact .dn Y Y ⟨by rw [show BN s = false by unfold BN; first | (rw [show s = [] from by assumption]; rfl) | (rw [show s = [46] from by assumption]; rfl) | (rw [show s = [46, 46] from by assumption]; rfl)], rfl⟩
 refine .sk (.seq (.sr (.an Y (.block (.loopK (ι := Nat) (fun q E => (3, AA q) :: E) (fun q => []) (fun q => q ≤ s.length ∧ (s.take q).all DW = true) (fun q => s.length - q) (0) (ts := [0]) O (⟨Nat.zero_le _, Y⟩) O O ?_)))))
 rintro i ⟨hi, hall⟩
 refine .seq (.sm Y (.m Y (.q (.strlen Y underlying9 Y) Y (.ui Y Y Y (.nt (.condD Y (fun h18 => ?_) (fun h18 => ?_)))))))
 ·have hi2 : i < s.length := by omega
  refine .sk (.seq (.block (.sm Y (.m Y (.q (.strIndex (c := s[i]) Y Y underlying9 om (by simp)) Y (.cv func284 [_] (Pf _) ?_))))))
  refine .an Y (.sm Y (.u (.not Y) (.nt (.condB Y (fun h26 => ?_) (fun h26 => ?_)))))
  ·refine .sr (.an Y (.ret (.blk_r (.then_r (.then_r (.blk_r (.then_r ?_)))))))
   exact .dn Y Y ⟨by rw [Ql hi2 (by simpa using h26)], rfl⟩
  refine .skip (.blk_n (.then_n (.region (.m Y (.q (.add Y Y om) Y (.an Y ?_))))))
  exact .rk (i + 1) (⟨by omega, F1 hi2 hall (by simpa using h26)⟩) om O
 have hii : i = s.length := by omega
 rw [hii, take_length] at hall
 refine .xe (.sr (.an Y (.ret ?_)))
 exact .dn Y Y ⟨by rw [show BN s = true by unfold BN; rw [decide_eq_false h1_7, decide_eq_false h1_11, decide_eq_false h14, hall]; rfl], rfl⟩
theorem QN (s : Bs) (hs : s.length ≤ 1099511627776) : Fn prog 237 #[AD s] [] fun v L => ∃ (n : Nat) (b : Bool), (∃ a c, v = .tuple #[.slice a n c, .bool b]) ∧ b = ZU s ∧ (b = true → n = (Hs s).length) ∧ L = [] := by
 refine Fn.intro func237 Y Y fun F W => ?_
 refine .add (AN 9 1) (.sr (.a Y (.an Y (.sr (.an Y (.seq (.block (.loopK (ι := Bs × Value × (List Bs)) (fun q E => (0, AD q.1) :: (4, q.2.1) :: E) (fun q => [Ad 9 1 q.2.1 q.2.2.length (Ao q.2.2)]) (fun q => (∃ a c, q.2.1 = .slice a q.2.2.length c) ∧ q.2.2.all BN = true ∧ Hs s = q.2.2 ++ Hs q.1 ∧ q.1.length + q.2.2.length ≤ s.length ∧ (q.2.2 = [] → q.1 = s) ∧ (q.2.2 ≠ [] → s.head? = some 47 ∧ (q.1 = [] ∨ q.1.head? = some 47))) (fun q => q.1.length) (s, .slice none 0 0, []) (ts := []) (.nil) (⟨⟨none, 0, Y⟩, Y, Y, by simp, fun _ => rfl, fun h => absurd rfl h⟩) O O ?_))))))))
 rintro ⟨cur, u, acc⟩ ⟨⟨au, cu, hu⟩, hall, hseg, hcl, hfst, hrest⟩
 dsimp only
 dsimp only at hu hall hseg hcl hfst hrest
 subst hu
 have hbs := Bb cur
 refine .seq (.sm Y (.u (.strne Y Y) (.nt (.condN Y (fun h8 => ?_) (fun h8 => ?_)))))
 ·obtain ⟨c0, r, rfl⟩ : ∃ c0 r, cur = c0 :: r := by cases cur with | nil => exact absurd rfl h8 | cons c r => exact ⟨c, r, rfl⟩
  have hrl : (c0 :: r).length = r.length + 1 := rfl
  refine .sk (.block (.seq (.sm Y (.q (.strIndex (c := c0) Y Y underlying9 om (by simp)) Y (.ui Y Y Y (.nt (.condN Y (fun h11 => ?_) (fun h11 => ?_))))))))
  ·refine .sr (.a Y (.an Y (.rt (.blk_r (.then_r (.blk_r (.then_r ?_)))))))
   exact .dn Y Y ⟨_, _, ⟨_, _, Y⟩, (by rw [show ZU s = false by unfold ZU; rcases acc with _ | ⟨x, l⟩; (rw [← hfst rfl]; simp; intro e; exact absurd (by rw [e]; rfl) h11); (obtain ⟨-, g⟩ := hrest (by simp); rcases g with g | g; (cases g); (simp at g; exact absurd (by rw [g]; rfl) h11))]), (fun h => by cases h), rfl⟩
  have hc0 : c0 = 47 := Lx (d := 47) (by first | exact h11 | simpa using h11)
  subst hc0
  have hs47 : s.head? = some 47 := by rcases acc with _ | ⟨x, l⟩; rw [← hfst rfl]; rfl; exact (hrest (by simp)).1
  refine .sk (.sr (.an Y (.seq (.joinK (ι := Nat) (fun q E => (5, AA q) :: E) (fun q => []) (fun q => 1 ≤ q ∧ q ≤ r.length + 1 ∧ (∀ j, j < q - 1 → r.getD j 0 ≠ 47) ∧ (q - 1 = r.length ∨ r.getD (q - 1) 0 = 47)) (pre := []) (ts := [0, 4, 7, 8, 9, 10, 11]) O O ?_ ?_))))
  ·refine .block (.loopK (ι := Nat) (fun q E => (5, AA q) :: E) (fun q => []) (fun q => 1 ≤ q ∧ q ≤ r.length + 1 ∧ ∀ j, j < q - 1 → r.getD j 0 ≠ 47) (fun q => r.length + 1 - q) (1) (ts := [0, 4, 7, 8, 9, 10, 11]) O (⟨by omega, by omega, fun j hj => by omega⟩) O O ?_)
   rintro n ⟨hn1, hn2, hno⟩
   refine .seq (.sm Y (.m Y (.q (.strlen Y underlying9 Y) Y (.ui Y Y Y (.m Y (.dec (t := 16) Y (fun h6_16 => ?_) (fun h6_16 => ?_)))))))
   ·have hn3 : n < r.length + 1 := by omega
    have hn4 : n - 1 < r.length := by omega
    have hat : (47 :: r)[n]? = some r[n - 1] := by obtain ⟨m, rfl⟩ : ∃ m, n = m + 1 := ⟨n - 1, by omega⟩; simp [show m < r.length by omega]
    refine .kDT (t := 15) Y h6_16 (.gr (.m Y (.gr (.m Y (.gr (.q (.strIndex (c := r[n - 1]) Y Y underlying9 om (by rw [Int.toNat_natCast]; exact hat)) Y (.gr (.ui Y Y Y (.pT Y Y (.nt (.condN Y (fun h21 => ?_) (fun h21 => ?_))))))))))))
    ·have hne : r[n - 1] ≠ 47 := fun e => h21 (by rw [e]; rfl)
     refine .sk (.block (.region (.m Y (.q (.add Y Y om) Y (.a Y (.nil (.blk_n (.then_n ?_))))))))
     exact .rk (n + 1) (⟨by omega, by omega, fun j hj => by by_cases e : j = n - 1; (subst e; rw [getD_eq_getElem?_getD, List.getElem?_eq_getElem hn4, Option.getD_some]; exact hne); exact hno j om⟩) om O
    have hlast : r[n - 1] = 47 := Lx (d := 47) (by first | exact h21 | simpa using h21)
    refine .xe ?_
    exact .mk (n) (⟨hn1, hn2, hno, .inr (by rw [getD_eq_getElem?_getD, List.getElem?_eq_getElem hn4, Option.getD_some]; exact hlast)⟩) O
   refine .kDF (t := 15) Y h6_16 (.gk (.gk (.gk (.gk (.pF Y Y (.nt (.condF Y (.xe ?_))))))))
   exact .mk (n) (⟨hn1, hn2, hno, .inl om⟩) O
  rintro n ⟨hn1, hn2, hno, hend⟩
  have hstep := Xe (r := r) (k := n - 1) om hno hend
  have htk : ((47 :: r).take n).drop 1 = r.take (n - 1) := by obtain ⟨m, rfl⟩ : ∃ m, n = m + 1 := ⟨n - 1, by omega⟩; simp
  have hdr : (47 :: r).drop n = r.drop (n - 1) := by obtain ⟨m, rfl⟩ : ∃ m, n = m + 1 := ⟨n - 1, by omega⟩; simp
  have hsplit : Hs (47 :: r) = ((47 :: r).take n).drop 1 :: Hs ((47 :: r).drop n) := by rw [htk, hdr]; exact hstep
  have hdrop : (47 :: r).drop n = [] ∨ ((47 :: r).drop n).head? = some 47 := by rw [hdr]; rcases hend with h | h; (left; rw [h, drop_length]); (rcases Nat.lt_or_ge (n - 1) r.length with g | g; (right; rw [drop_eq_getElem_cons g]; rw [getD_eq_getElem?_getD, List.getElem?_eq_getElem g, Option.getD_some] at h; rw [h]; rfl); (left; exact drop_eq_nil_of_le g))
  refine .sm Y (.m Y (.q (.to (v' := AD (((47 :: r).take n).drop 1)) (.strMid (i := 1) (j := n) Y Y Y underlying9 om) (by rw [Int.toNat_natCast]; rfl)) Y (.oq (.call func262 Y Y (vs := [_]) Y (Pm _ (by simp; omega))) ?_)))
  rintro v L' ⟨rfl, rfl⟩
  refine .an Y (.seq (.sm Y (.u (.not Y) (.nt (.condB Y (fun h29 => ?_) (fun h29 => ?_))))))
  ·refine .sr (.a Y (.an Y (.rt (.blk_r (.then_r (.blk_r (.then_r ?_)))))))
   exact .dn Y Y ⟨_, _, ⟨_, _, Y⟩, (by rw [show ZU s = false by unfold ZU; rw [hseg, hsplit, all_append, all_cons]; rw [show BN (((47 :: r).take n).drop 1) = false by simpa using h29]; simp]), (fun h => by cases h), rfl⟩
  refine .sk (.sm Y (.m Y (.m Y (.q (.to (v' := AD (((47 :: r).take n).drop 1)) (.strMid (i := 1) (j := n) Y Y Y underlying9 om) (by rw [Int.toNat_natCast]; rfl)) Y (.oq (.buildSlice1 (vs := [_]) CO Hk Y Y Y Y Y dQ) ?_)))))
  rintro v L' ⟨b11_4, rfl, rfl⟩
  refine .oq (.append1 Y Y Y CO Hk Y Y ?c37 ?c38 (Nat.le_refl _) ?c39 dQ) ?_
  case c37 => (first | (simp [AB]; done) | (simp [AB, AW, Value.cells]; done))
  case c38 => rfl
  case c39 => omega
  rintro v L' ⟨⟨a11_5, c11_5, rfl⟩, rfl⟩
  refine .an Y (.region (.m Y (.m Y (.q (.to (v' := AD ((47 :: r).drop n)) (.strFrom (i := n) Y Y underlying9 om) (by simp)) Y (.a Y (.nil (.blk_n (.then_n ?_))))))))
  have hin := h29
  rw [show Ao acc ++ [AD (((47 :: r).take n).drop 1)] = Ao (acc ++ [((47 :: r).take n).drop 1]) by simp [Ao], show acc.length + 1 = (acc ++ [((47 :: r).take n).drop 1]).length by simp]
  exact .rk (((47 :: r).drop n, .slice a11_5 (acc ++ [((47 :: r).take n).drop 1]).length c11_5, acc ++ [((47 :: r).take n).drop 1])) (⟨⟨_, _, Y⟩, by dsimp only; rw [all_append, hall]; simpa using hin, by dsimp only; rw [hseg, hsplit, append_assoc]; rfl, by dsimp only; rw [length_drop, length_append]; simp; omega, fun h => by simp at h, fun _ => ⟨hs47, hdrop⟩⟩) (by dsimp only; rw [length_drop]; omega) O
 have hcn : cur = [] := h8
 subst hcn
 refine .xe (.sm Y (.m Y (.q (.slen Y underlying38 Y) Y (.ui Y Y Y (.a Y (.an Y (.ret ?_)))))))
 exact .dn Y Y ⟨_, _, ⟨_, _, Y⟩, (by unfold ZU; rw [hseg, show Hs [] = [] from rfl, append_nil, hall, Bool.and_true]; refine decide_eq_decide.2 ?_; rcases acc with _ | ⟨x, l⟩; (rw [← hfst rfl]; simp); (simp only [(hrest (by simp)).1, iff_true, length_cons]; omega)), (fun _ => by rw [hseg]; simp [Hs]), rfl⟩
theorem Rl (s : Bs) (hs : s.length ≤ 1099511627776) : Fn prog 195 #[AD s] [] fun v L => v = AA (BG s) ∧ L = [] := by
 refine Fn.intro func195 Y Y fun F W => ?_
 have hbs := Bb s
 refine .sr (.an Y (.seq (.sm Y (.u (.streq Y Y) (.nt (.condD Y (fun h6 => ?_) (fun h6 => ?_)))))))
 ·refine .sr (.an Y (.rt ?_))
  exact .dn Y Y ⟨by rw [show s = [47] from h6]; rfl, rfl⟩
 have hchk := YW h6
 refine .sk (.sm Y (.oq (.c func237 [_] (QN s hs)) ?_))
 rintro v L' ⟨nn, b, ⟨a3, c3, rfl⟩, hb, hnn, rfl⟩
 refine .m Y (.ex Y Y (.ex Y Y (.a Y (.an Y (.seq (.sm Y (.u (.not Y) (.nt (.condB Y (fun h13 => ?_) (fun h13 => ?_))))))))))
 ·have hbf : b = false := by simpa using h13
  rw [← hb, hbf, if_neg (by simp)] at hchk
  refine .sr (.an Y (.rt ?_))
  exact .dn Y Y ⟨by rw [hchk], rfl⟩
 have hbt : b = true := by simpa using h13
 have hnl := hnn hbt
 rw [← hb, hbt, if_pos rfl] at hchk
 refine .sk (.seq (.sm Y (.q (.strlen Y underlying9 Y) Y (.ui Y Y Y (.m Y (.dec (t := 17) Y (fun h6_17 => ?_) (fun h6_17 => ?_)))))))
 ·refine .kDT (t := 16) Y h6_17 (.gk (.gk (.gk (.pT Y Y (.nt (.condT Y (.sr (.an Y (.rt ?_)))))))))
  exact .dn Y Y ⟨by rw [hchk, if_pos (by left; omega)], rfl⟩
 refine .kDF (t := 16) Y h6_17 (.gr (.m Y (.gr (.q (.slen Y underlying38 Y) Y (.gr (.ui Y Y Y (.pF Y Y (.nt (.condD Y (fun h21 => ?_) (fun h21 => ?_))))))))))
 ·refine .sr (.an Y (.rt ?_))
  exact .dn Y Y ⟨by rw [hchk, if_pos (by right; omega)], rfl⟩
 refine .sk (.sr (.an Y (.ret ?_)))
 exact .dn Y Y ⟨by rw [hchk, if_neg om], rfl⟩
theorem K9 (s : Bs) (hs : s.length ≤ 1099511627776) : Fn prog 128 #[AD s] [] fun v L => v = AA (B8 s) ∧ L = [] := by
 refine Fn.intro func128 Y Y fun F W => ?_
 have hbs := Bb s
 refine .sr (.an Y (.seq (.sm Y (.q (.strlen Y underlying9 Y) Y (.q (.sub Y Y om) Y (.an Y (.block (.loopK (ι := Nat) (fun q E => (3, AA (dnL s.length q)) :: E) (fun q => []) (fun q => q ≤ s.length ∧ CK s (s.length - q) = B8 s) (fun q => s.length - q) (0) (ts := [0]) O (⟨Nat.zero_le _, Y⟩) O O ?_))))))))
 rintro k ⟨hk, hl⟩
 have hdn := Xf s.length k
 refine .seq (.sm Y (.ui Y Y Y (.nt (.condD Y (fun h8 => ?_) (fun h8 => ?_)))))
 ·have hk2 : k < s.length := by omega
  have hat : s[s.length - (k + 1)] = s.getD (s.length - (k + 1)) 0 := by rw [getD_eq_getElem?_getD, List.getElem?_eq_getElem om, Option.getD_some]
  refine .sk (.seq (.block (.sm Y (.m Y (.q (.strIndex (c := s[s.length - (k + 1)]) Y Y underlying9 om (by rw [show (dnL s.length k).toNat = s.length - (k + 1) by omega]; simp [show s.length - (k + 1) < s.length by omega])) Y (.ui Y Y Y (.nt (.condD Y (fun h14 => ?_) (fun h14 => ?_)))))))))
  ·have he : s.getD (s.length - (k + 1)) 0 = 47 := by rw [← hat]; exact Lx h14
   refine .sm Y (.an Y (.ret (.blk_r (.then_r (.then_r (.blk_r (.then_r ?_)))))))
   exact .dn Y Y ⟨by rw [← hl, show s.length - k = (s.length - (k + 1)) + 1 by omega, CK, if_pos he, hdn]; congr 1; omega, rfl⟩
  have hne : ¬ s.getD (s.length - (k + 1)) 0 = 47 := by rw [← hat]; exact fun e => h14 (by rw [e]; rfl)
  refine .skip (.blk_n (.then_n (.region (.m Y (.q (.sub Y Y om) Y (.an Y ?_))))))
  exact .rk (k + 1) (⟨by omega, by rw [← hl, show s.length - k = (s.length - (k + 1)) + 1 by omega, CK, if_neg hne]⟩) om O
 refine .xe (.sr (.an Y (.ret ?_)))
 exact .dn Y Y ⟨by rw [← hl, show s.length - k = 0 by omega]; rfl, rfl⟩
theorem HF (s : Bs) (hs : s.length ≤ 1099511627776) : Fn prog 67 #[AD s] [] fun v L => v = AD (AL s) ∧ L = [] := by
 refine Fn.intro func67 Y Y fun F W => ?_
 have hr := EC s
 refine .sr (.an Y (.sm Y (.oq (.c func128 [_] (K9 _ ?hs3)) ?_)))
 case hs3 => first | assumption | omega
 rintro v L' ⟨rfl, rfl⟩
 refine .an Y (.seq (.sm Y (.ui Y Y Y (.m Y (.dec (t := 8) Y (fun h2_8 => ?_) (fun h2_8 => ?_))))))
 ·refine .kDT (t := 7) Y h2_8 (.gk (.gk (.pT Y Y (.nt (.condT Y (.sr (.an Y (.rt ?_))))))))
  exact .dn Y Y ⟨by unfold AL; rw [if_pos (by first | exact .inl om | exact .inr (by assumption))], rfl⟩
 refine .kDF (t := 7) Y h2_8 (.gr (.m Y (.gr (.u (.streq Y Y) (.pF Y Y (.nt (.dec (t := 11) Y (fun h11 => ?_) (fun h11 => ?_))))))))
 ·refine .condT Y (.sr (.an Y (.rt ?_)))
  exact .dn Y Y ⟨by unfold AL; rw [if_pos (by first | exact .inl om | exact .inr (by assumption))], rfl⟩
 refine .condF Y (.sk (.seq (.sm Y (.ui Y Y Y (.nt (.condD Y (fun h13 => ?_) (fun h13 => ?_)))))))
 ·refine .sr (.an Y (.rt ?_))
  exact .dn Y Y ⟨by unfold AL; rw [if_neg (by rintro (g | g); omega; exact absurd g h11), if_pos h13], rfl⟩
 refine .sk (.sm Y (.m Y (.q (.strTo Y Y underlying9 om) Y (.an Y (.ret ?_)))))
 exact .dn Y Y ⟨by unfold AL; rw [if_neg (by rintro (g | g); omega; exact absurd g h11), if_neg h13], rfl⟩
theorem Sp (s : Bs) (hs : s.length ≤ 1099511627776) : Fn prog 68 #[AD s] [] fun v L => v = AD (C7 s) ∧ L = [] := by
 refine Fn.intro func68 Y Y fun F W => ?_
 have hr := EC s
 refine .sr (.an Y (.sm Y (.m Y (.oq (.c func128 [_] (K9 _ ?hs4)) ?_))))
 case hs4 => first | assumption | omega
 rintro v L' ⟨rfl, rfl⟩
 refine .q (.add Y Y om) Y (.q (.strFrom Y Y underlying9 om) Y (.an Y (.ret ?_)))
 exact .vv
theorem U9 (s name : Bs) (hs : s.length ≤ 1099511627776) (hn : name.length ≤ 1099511627776) : Fn prog 196 #[AD s, AD name] [] fun v L => v = AD (Fh s name) ∧ L = [] := by
 refine Fn.intro func196 Y Y fun F W => ?_
 refine .sr (.an Y (.seq (.sm Y (.u (.streq Y Y) (.nt (.condD Y (fun h6 => ?_) (fun h6 => ?_)))))))
 ·refine .sm Y (.m Y (.q (.concat Y Y om) Y (.an Y (.rt ?_))))
  exact .dn Y Y ⟨by unfold Fh; rw [if_pos h6, h6], rfl⟩
 refine .sk (.sm Y (.q (.concat Y Y (by simp; omega)) Y (.m Y (.q (.concat Y Y (by simp; omega)) Y (.an Y (.ret ?_))))))
 exact .dn Y Y ⟨by unfold Fh; rw [if_neg h6], rfl⟩
theorem Q4 (s q0 : Bs) (hq : q0.length ≤ 1099511627776) : Fn prog 127 #[AD s, AD q0] [] fun v L => v = .bool (decide (JJ s q0)) ∧ L = [] := by
 refine Fn.intro func127 Y Y fun F W => ?_
 have hb1 := Bb s
 have hb2 := Bb (Fh q0 [])
 have hkl := Z9 q0 []
 refine .sr (.an Y (.sm Y (.cv func196 [_, _] (U9 q0 [] om (by simp)) ?_)))
 refine .an Y (.sm Y (.q (.strlen Y underlying9 Y) Y (.m Y (.q (.strlen Y underlying9 Y) Y (.ui Y Y Y (.m Y (.dec (t := 13) Y (fun h2_13 => ?_) (fun h2_13 => ?_))))))))
 ·refine .kDT (t := 12) Y h2_13 (.gr (.m Y (.gr (.m Y (.gr (.q (.strlen Y underlying9 Y) Y (.gr (.q (.to (v' := AD (s.take (Fh q0 []).length)) (.strTo Y Y underlying9 om) (by rw [Int.toNat_natCast])) Y (.gr (.m Y (.gr (.u (.streq Y Y) (.pT Y Y (.an Y (.ret ?_)))))))))))))))
  exact .dn Y Y ⟨by congr 1; exact decide_eq_decide.2 ⟨fun e => ⟨e, fun g => by rw [g] at h2_13; omega⟩, fun e => e.1⟩, rfl⟩
 refine .kDF (t := 12) Y h2_13 (.gk (.gk (.gk (.gk (.gk (.gk (.pF Y Y (.an Y (.ret ?_)))))))))
 exact .dn Y Y ⟨by rw [decide_eq_false (fun e => by obtain ⟨e1, e2⟩ := e; unfold pfx at e1; have h3 := congrArg List.length e1; rw [length_take] at h3; exact e2 (by rw [← e1, take_of_length_le om]))], rfl⟩
theorem Da (x : Nat) (τ : Tr) (p : Bs) (hn : τ.nodes.length ≤ 1099511627776) : Fn prog 38 #[AI x, AD p] [Ds x τ] fun v L => v = AA (Ha τ p) ∧ L = [Ds x τ] := by
 refine Fn.intro func38 Y Y fun F W => ?_
 refine .rtOpen (x := x) (τ := τ) O fun an cn as1 cs l hl => ?_
 have hll := D7 hl
 refine .sr (.an Y (.seq (.sr (.an Y (.block (.loopK (ι := Nat) (fun q E => (5, AA q) :: E) (fun q => []) (fun q => q ≤ l.length ∧ ∀ j (hj : j < q), ∀ (hj2 : j < l.length), l[j].1 ≠ p) (fun q => l.length - q) (0) (ts := [0, 1]) O (⟨Nat.zero_le _, fun j hj => by omega⟩) O O ?_))))))
 rintro i ⟨hi, hno⟩
 refine .seq (.sm Y (.m Y (.nf Y BJ (.u (.ld Y Ci) (.q (.slen Y underlying63 Y) Y (.ui Y Y Y (.nt (.condD Y (fun h12 => ?_) (fun h12 => ?_)))))))))
 ·have hi2 : i < l.length := by omega
  refine .slShape (T := 68) (sz := 12) (v := .slice an l.length cn) (xs := l.flatMap E1) O om fun bn bn' e0 mbn _ => ?_
  simp only [Value.slice.injEq, true_and] at e0
  obtain ⟨rfl, rfl⟩ := e0
  refine .sk (.seq (.block (.sm Y (.nf Y BJ (.u (.ld Y Ci) (.m Y (.q (.indexAddr Y Y B5 om) Y (.fa Y C3 (.q (.loadRd (sz := 12) (j := i * 12 + 0) (p := M7 _ l) Y Ag O (fun h hp => AZ hp) om ((Dh (l := l) (i := i) (k := 0) om dQ).trans Y)) Y (.m Y (.u (.streq Y Y) (.nt (.condD Y (fun h24 => ?_) (fun h24 => ?_))))))))))))))
  ·refine .sm Y (.an Y (.ret (.blk_r (.then_r (.then_r (.blk_r (.then_r ?_)))))))
   have hz : Ha τ p = (i : Int) := by unfold Ha; rw [← hl, Od]; exact X5 hi2 h24 (fun j hj => hno j hj om)
   refine .rtFold (x := x) (τ := τ) (l := l) hl O Y Y Y Y Y ?_
   exact .dn Y Y ⟨by rw [hz], rfl⟩
  refine .skip (.blk_n (.then_n (.region (.m Y (.q (.add Y Y om) Y (.an Y ?_))))))
  exact .rk (i + 1) (⟨by omega, fun j hj hj2 => by by_cases e : j = i; (subst e; exact h24); exact hno j om hj2⟩) om O
 refine .xe (.sr (.an Y (.ret ?_)))
 have hz : Ha τ p = -1 := by unfold Ha; rw [← hl, Od]; exact TX (fun j hj => hno j om hj)
 refine .rtFold (x := x) (τ := τ) (l := l) hl O Y Y Y Y Y ?_
 exact .dn Y Y ⟨by rw [hz], rfl⟩
theorem MN (p : Bs) (hs : p.length ≤ 1099511627776) : Fn prog 124 #[AD p] [] fun v L => v = .bool (decide (Co p)) ∧ L = [] := by
 refine Fn.intro func124 Y Y fun F W => ?_
 refine .sr (.an Y (.sm Y (.u (.strne Y Y) (.m Y (.ndec (t := 5) Y (fun h1_5 => ?_) (fun h1_5 => ?_))))))
 ·refine .kNT (t := 4) Y h1_5 (.gr (.m Y (.gr (.cv func195 [_] (Rl p hs) ?_))))
  refine .gr (.ui Y Y Y (.pT Y Y (.an Y (.ret ?_))))
  exact .dn Y Y ⟨congrArg Value.bool (decide_eq_decide.2 ⟨fun e => ⟨h1_5, e⟩, fun e => e.2⟩), Y⟩
 refine .kNF (t := 4) Y h1_5 (.gk (.gk (.gk (.pF Y Y (.an Y (.ret ?_))))))
 exact .dn Y Y ⟨by rw [decide_eq_false (fun e => e.1 h1_5)], rfl⟩
theorem JE (v : Value) (xs : List Ac) (p : HP) (hp : ∀ h : Hp, p h → Cx 2 h v xs.length (xs.flatMap CP)) (hn : xs.length ≤ 1048576) : Fn prog 66 #[v] [p] fun u L => (∃ a c, u = .slice a xs.length c) ∧ L = [p, Ad 75 2 u xs.length (xs.flatMap CP)] := by
 refine Fn.intro func66 Y Y fun F W => ?_
 refine .rdAny (p := p) hp O fun a c e0 hl => ?_
 subst e0
 refine .add (AN 75 2) (.sr (.an Y (.sr (.an Y (.sm Y (.m Y (.oq (.append (n := 0) (m := xs.length) (ys := xs.flatMap CP) (p := p) Y Y Y Gz (.inl ⟨_, underlying30⟩) GA Y Y ?hc4 hp ?hb5 dQ) ?_)))))))
 case hc4 => exact N7 _
 case hb5 => omega
 rintro v L' ⟨⟨a3, c3, rfl⟩, rfl⟩; rw [Nat.zero_add, nil_append]
 refine .an Y (.ret ?_)
 exact .dn Y Y ⟨⟨_, _, Y⟩, Y⟩
theorem Qo (p : Bs) (ad : Option Addr) (n c : Nat) : Instr.fill (fun i => [(0, 1), (1, 1), (2, 1), (3, 9)].toArray[i]?) ([.string (bs []), .string (bs []), .slice none 0 0, .int .i64 0, .int .i64 0, .int .i64 0, .int .i64 0, .int .i64 0, .int .i64 0, .int .i64 0, .int .i64 0, .int .i64 0] : List Value).toArray [(0, AD p), (2, .slice ad n c)] = some (([AD p, .string (bs []), .slice ad n c, AA 0, AA 0, AA 0, AA 0, AA 0, AA 0, AA 0, AA 0, AA 0] : List Value).toArray) := by kernel_rfl
theorem MT (p d : Bs) (ad : Option Addr) (n c : Nat) (s0 s1 s2 s3 s4 s5 s6 s7 s8 : Value) : Instr.fill (fun i => [(0, 1), (1, 1), (2, 1), (3, 9)].toArray[i]?) ([.string (bs []), .string (bs []), .slice none 0 0, .int .i64 0, .int .i64 0, .int .i64 0, .int .i64 0, .int .i64 0, .int .i64 0, .int .i64 0, .int .i64 0, .int .i64 0] : List Value).toArray [(0, AD p), (1, AD d), (2, .slice ad n c), (3, .agg ([s0, s1, s2, s3, s4, s5, s6, s7, s8] : List Value).toArray)] = some (([AD p, AD d, .slice ad n c] ++ [s0, s1, s2, s3, s4, s5, s6, s7, s8] : List Value).toArray) := by kernel_rfl
theorem NP : Fn prog 14 #[] [] fun v L => ∃ x, v = AI x ∧ L = [Ds x Dv] := by
 refine Fn.intro func14 Y Y fun F W => ?_
 refine .sr (.an Y (.sr (.q (.build (us := [(0, _), (1, _)]) Ub GA Y Y (by simp [AB])) Y (.oq (.buildSlice (vs := [_]) Gz GA Y Y Y Y cQ dQ) ?_))))
 rintro v L' ⟨ba, rfl, rfl⟩
 refine .q (.buildN (pl := [(0, 1), (1, 1), (2, 1), (3, 9)]) (us := [(0, AD [47]), (2, .slice (some ⟨ba, 0, none⟩) 1 1)]) (cells := E1 (([47], (.slice (some ⟨ba, 0, none⟩) 1 1, ⟨[], [(31, [119, 111, 114, 108, 100])], st0⟩)) : Fx)) underlying68 kQ Fb Y (Qo _ _ _ _)) Y (.oq (.buildSlice (vs := [_]) B5 Fb Y Y Y Y cQ dQ) ?_)
 rintro v L' ⟨bn, rfl, rfl⟩
 refine .q (.build (us := [(0, _)]) ACX ACJ Y Y (by simp [AB])) Y (.oq (.box Y) ?_)
 rintro v L' ⟨x, rfl, rfl⟩
 refine .an Y (.ret (.slMakeN 2 1 (b := ba) (xs := ([(31, [119, 111, 114, 108, 100])] : List Ac).flatMap CP) O Y Y (.toRd (m := 1) O (.slMakeN 12 1 (b := bn) (xs := [(([47], (.slice (some ⟨ba, 0, none⟩) 1 1, ⟨[], [(31, [119, 111, 114, 108, 100])], st0⟩)) : Fx)].flatMap E1) O Y Y (.add (AN 102 3) (.fold (p := Ah Hu [(([47], (.slice (some ⟨ba, 0, none⟩) 1 1, ⟨[], [(31, [119, 111, 114, 108, 100])], st0⟩)) : Fx)]) (.cons (p := Zx 2 (.slice (some ⟨ba, 0, none⟩) 1 1) 1 (([(31, [119, 111, 114, 108, 100])] : List Ac).flatMap CP)) O .nil) (fun h hp => hp) (.rtFold (x := x) (τ := Dv) (l := [(([47], (.slice (some ⟨ba, 0, none⟩) 1 1, ⟨[], [(31, [119, 111, 114, 108, 100])], st0⟩)) : Fx)]) Y O Y Y Y Y Y ?_)))))))
 exact .dn Y Y ⟨_, Y, Y⟩
theorem DL {z : Fx} (hz : AB z.2.1 = true) : ∀ y ∈ (Value.agg (E1 z).toArray).cells.toList, AB y = true := by
 intro v hv
 simp only [Value.cells, E1, mem_cons, not_mem_nil, or_false] at hv
 rcases hv with rfl | rfl | rfl | rfl | rfl | rfl | rfl | rfl | rfl | rfl | rfl | rfl
 case inr.inr.inl => exact hz
 all_goals rfl
theorem Xl {sz n : Nat} {v : Value} {ys : List Value} {h : Hp} (hr : Zx sz v n ys h) : AB v = true := by
 rcases hr with ⟨-, -, a, c, rfl⟩ | ⟨b, off, cap, l, T, fr, rfl, -⟩ <;> rfl
theorem ZT {α : Type} {f : α → HP} {l : List α} {i : Nat} (hi : i < l.length) {h : Hp} (hs : Ah f l h) : ∃ h1, f l[i] h1 := by
 induction l generalizing i h with
 | nil => simp at hi
 | cons x l ih =>
  obtain ⟨h1, h2, -, -, -, p1, p2⟩ := hs
  cases i with
  | zero => exact ⟨h1, p1⟩
  | succ i => exact ih (by simpa using hi) p2
theorem G.aclShape {W : World} {n : Nat} {ds : List Deferred} {E : B0} {L R : List HP} {X : Act → World → Prop} {l : List Fx} {i : Nat} (hi : i < l.length) (hL : BI (Ah Hu l) L R) (h : AB l[i].2.1 = true → G W n ds E L X) : G W n ds E L X := by
 intro a w he hk hs
 obtain ⟨h1, -, hp⟩ := Ap (hs.pick hL)
 obtain ⟨h2, hq⟩ := ZT hi hp
 exact h (Xl hq) a w he hk hs
theorem VZ (x : Nat) (τ : Tr) (z : Fx) (hzc : AB z.2.1 = true) (N : Nat) (ho : τ.Ok N) (hN : N ≤ 1073741824) : Fn prog 125 #[AI x, .agg (E1 z).toArray] [Ds x τ, Hu z] fun v L => v = .tuple #[] ∧ L = [Ds x { τ with nodes := sset τ.nodes z.1 z.2.2 }] := by
 refine Fn.intro func125 Y Y fun F W => ?_
 refine .rtOpen (x := x) (τ := τ) O fun an cn as1 cs l hl => ?_
 have hsrt := Sc (hl ▸ ho.sorted)
 have hll := D7 hl
 have hofew := ho.few
 refine .sr (.oq (.box Y) ?_)
 rintro v L' ⟨bz, rfl, rfl⟩
 refine .nil (.ptCast (b := bz) (l' := E1 z) O Y ?_)
 refine .then_n (.seq (.add (AN 68 12) (.region (.an Y (.sr (.an Y (.seq (.sr (.an Y (.block (.loopK (ι := Nat × Bool × Value × (List Fx)) (fun q E => (6, AA q.1) :: (5, .bool q.2.1) :: (4, q.2.2.1) :: E) (fun q => [M7 q.2.2.1 q.2.2.2]) (fun q => q.1 ≤ l.length ∧ Ge l z.1 z.2 q.1 q.2.1 q.2.2.2 ∧ (∃ a c, q.2.2.1 = .slice a q.2.2.2.length c) ∧ q.2.2.2.length ≤ q.1 + q.2.1.toNat) (fun q => l.length - q.1) (0, false, .slice none 0 0, []) (ts := [0, 3]) O (⟨Nat.zero_le _, Ge.start _ _ _, ⟨none, 0, Y⟩, by simp⟩) O O ?_)))))))))))
 rintro ⟨i, b, u, acc⟩ ⟨hi, hLay, ⟨au, cu, hu⟩, hal⟩
 dsimp only
 dsimp only at hi hLay hu hal
 subst hu
 refine .seq (.sm Y (.m Y (.nf Y BJ (.u (.ld Y Ci) (.q (.slen Y underlying63 Y) Y (.ui Y Y Y (.nt (.condD Y (fun h13 => ?_) (fun h13 => ?_)))))))))
 ·have hi2 : i < l.length := by omega
  refine .slShape (T := 68) (sz := 12) (v := .slice an l.length cn) (xs := l.flatMap E1) O om fun bn bn' e0 mbn _ => ?_
  simp only [Value.slice.injEq, true_and] at e0
  obtain ⟨rfl, rfl⟩ := e0
  refine .sk (.seq (.block (.seq (.seq (.draw [] [[0, 1, 2, 3, 4, 5, 6, 7, 8, 9, 10, 11, 12, 13, 14]] mixed kQ (.g0 (.mv Y Y (.kv Y (.not Y) (.mv Y Y (.bool (t := 18) Y (fun h6_18 => ?_) (fun h6_18 => ?_)))))))))))
  ·have hbf : b = false := by simpa using h6_18
   subst hbf
   have hal : acc.length ≤ i + 0 := hal
   refine D.kB (t := 17) Y h6_18 (.gv Y (.move Y) (.gv Y (.nilp Y) (.gv Y (.fieldAddr Y BJ) (.gv Y (.ld Y Ci) (.gv Y (.move Y) (.gv Y (.indexAddr Y Y B5 om) (.gv Y (.fieldAddr Y C3) (.gv Y (.loadRd (sz := 12) (j := i * 12 + 0) (p := M7 _ l) Y Ag O (fun h hp => AZ hp) om ((Dh (l := l) (i := i) (k := 0) om dQ).trans Y)) (.gv Y (.fieldAddr Y C3) (.gv Y (.load Y Ag O Y) (.gv Y (.strge Y Y) (.kv Y (.pickT Y Y) (.pf (.condD Y (fun h30 => ?_) (fun h30 => ?_)))))))))))))))
   ·refine .sm Y (.q (.loadAs (vs := E1 z) Y Ny O (by simp [E1]) Y) Y (.oq (.buildSlice (vs := [_]) B5 Fb Y Y Y Y cQ dQ) ?_))
    rintro v L' ⟨b7_2, rfl, rfl⟩
    refine .oq (.append1 Y Y Y B5 Fb Y Y ?c30 ?c31 (Nat.le_refl _) ?c32 dQ) ?_
    case c30 => first | exact DL hzc | (simp only [map_cons, map_nil, flatten_cons, flatten_nil, append_nil]; exact DL hzc)
    case c31 => rfl
    case c32 => first | omega | (simp; omega)
    rintro v L' ⟨⟨a7_3, c7_3, rfl⟩, rfl⟩
    refine .a Y (.nil ?_)
    rw [show acc.length + 1 = (acc ++ [z]).length by rw [length_append]; rfl]
    refine .slCast (T := 68) (sz := 12) (m' := (acc ++ [z]).length) (xs' := (acc ++ [z]).flatMap E1) O Y (by simp; rfl) (.then_n (.region (.an Y (.seq (.draw [] [[0, 1, 2, 3, 4, 5, 6, 7, 8, 9, 10]] mixed kQ (.g0 (.mv Y Y (.nf Y Y Y BJ (.kv Y (.ld Y Ci) (.mv Y Y (.kv Y (.indexAddr Y Y B5 om) (.kv Y (.fieldAddr Y C3) (.kv Y (.loadRd (sz := 12) (j := i * 12 + 0) (p := M7 _ l) Y Ag O (fun h hp => AZ hp) om ((Dh (l := l) (i := i) (k := 0) om dQ).trans Y)) (.kv Y (.fieldAddr Y C3) (.kv Y (.ld Y Ag) (.kv Y (.strne Y Y) (.pf (.condN Y (fun h45 => ?_) (fun h45 => ?_)))))))))))))))))))
    ·refine .aclShape (l := l) (i := i) hi2 O fun hcl => (.region (.m Y (.m Y (.nf Y BJ (.u (.ld Y Ci) (.m Y (.q (.indexAddr Y Y B5 om) Y (.q (.loadRdA (sz := 12) (j := i * 12) (k := 12) (p := M7 _ l) (vs := E1 l[i]) Y Ny O (fun h hp => AZ hp) om om om (A3 (f := E1) (sz := 12) (fun _ _ => Y) om)) Y (.oq (.buildSlice (vs := [_]) B5 Fb Y Y Y Y cQ dQ) ?_)))))))))
     rintro v L' ⟨b10_8, rfl, rfl⟩
     refine .oq (.append1 Y Y Y B5 Fb Y Y ?c56 ?c57 (Nat.le_refl _) ?c58 dQ) ?_
     case c56 => first | exact DL hcl | (simp only [map_cons, map_nil, flatten_cons, flatten_nil, append_nil]; exact DL hcl)
     case c57 => rfl
     case c58 => first | omega | (simp; omega)
     rintro v L' ⟨⟨a10_9, c10_9, rfl⟩, rfl⟩
     refine .a Y (.nil ?_)
     rw [show (acc ++ [z]).length + 1 = ((acc ++ [z]) ++ [l[i]]).length by simp]
     refine .slCast (T := 68) (sz := 12) (m' := ((acc ++ [z]) ++ [l[i]]).length) (xs' := ((acc ++ [z]) ++ [l[i]]).flatMap E1) O Y (by simp; rfl) (.blk_n (.then_n (.region (.m Y (.q (.add Y Y om) Y (.an Y ?_))))))
     exact .rk ((i + 1, true, .slice a10_9 ((acc ++ [z]) ++ [l[i]]).length c10_9, ((acc ++ [z]) ++ [l[i]]))) (⟨by dsimp only; omega, by dsimp only; exact hLay.put hi2 h30 h45, ⟨_, _, rfl⟩, by dsimp only; simp; omega⟩) (by dsimp only; omega) O
    refine .skip (.blk_n (.then_n (.region (.m Y (.q (.add Y Y om) Y (.an Y ?_))))))
    exact .rk ((i + 1, true, .slice a7_3 (acc ++ [z]).length c7_3, (acc ++ [z]))) (⟨by dsimp only; omega, by dsimp only; exact hLay.sub hi2 h45, ⟨_, _, rfl⟩, by dsimp only; simp; omega⟩) (by dsimp only; omega) O
   refine .sk (.seq (.draw [] [[0, 1, 2, 3, 4, 5, 6, 7, 8, 9, 10]] mixed kQ (.g0 (.mv Y Y (.nf Y Y Y BJ (.kv Y (.ld Y Ci) (.mv Y Y (.kv Y (.indexAddr Y Y B5 om) (.kv Y (.fieldAddr Y C3) (.kv Y (.loadRd (sz := 12) (j := i * 12 + 0) (p := M7 _ l) Y Ag O (fun h hp => AZ hp) om ((Dh (l := l) (i := i) (k := 0) om dQ).trans Y)) (.kv Y (.fieldAddr Y C3) (.kv Y (.ld Y Ag) (.kv Y (.strne Y Y) (.pf (.condN Y (fun h45 => ?_) (fun h45 => ?_))))))))))))))))
   ·refine .aclShape (l := l) (i := i) hi2 O fun hcl => (.region (.m Y (.m Y (.nf Y BJ (.u (.ld Y Ci) (.m Y (.q (.indexAddr Y Y B5 om) Y (.q (.loadRdA (sz := 12) (j := i * 12) (k := 12) (p := M7 _ l) (vs := E1 l[i]) Y Ny O (fun h hp => AZ hp) om om om (A3 (f := E1) (sz := 12) (fun _ _ => Y) om)) Y (.oq (.buildSlice (vs := [_]) B5 Fb Y Y Y Y cQ dQ) ?_)))))))))
    rintro v L' ⟨b10_8, rfl, rfl⟩
    refine .oq (.append1 Y Y Y B5 Fb Y Y ?c86 ?c87 (Nat.le_refl _) ?c88 dQ) ?_
    case c86 => first | exact DL hcl | (simp only [map_cons, map_nil, flatten_cons, flatten_nil, append_nil]; exact DL hcl)
    case c87 => rfl
    case c88 => first | omega | (simp; omega)
    rintro v L' ⟨⟨a10_9, c10_9, rfl⟩, rfl⟩
    refine .a Y (.nil ?_)
    rw [show acc.length + 1 = (acc ++ [l[i]]).length by simp]
    refine .slCast (T := 68) (sz := 12) (m' := (acc ++ [l[i]]).length) (xs' := (acc ++ [l[i]]).flatMap E1) O Y (by simp; rfl) (.blk_n (.then_n (.region (.m Y (.q (.add Y Y om) Y (.an Y ?_))))))
    exact .rk ((i + 1, false, .slice a10_9 (acc ++ [l[i]]).length c10_9, (acc ++ [l[i]]))) (⟨by dsimp only; omega, by dsimp only; exact hLay.low hi2 (Decidable.byContradiction h30), ⟨_, _, rfl⟩, by dsimp only; simp; omega⟩) (by dsimp only; omega) O
   refine .skip (.blk_n (.then_n (.region (.m Y (.q (.add Y Y om) Y (.an Y ?_))))))
   exact .rk ((i + 1, false, .slice au acc.length cu, acc)) (⟨by dsimp only; omega, by dsimp only; exact absurd (by rw [h45]; exact Ea.irr z.1) h30, ⟨_, _, rfl⟩, by dsimp only; simp; omega⟩) (by dsimp only; omega) O
  have hbt : b = true := by simpa using h6_18
  subst hbt
  have hal : acc.length ≤ i + 1 := hal
  refine D.kB (t := 17) Y h6_18 (.gz Y (.gz Y (.gz Y (.gz Y (.gz Y (.gz Y (.gz Y (.gz Y (.gz Y (.gz Y (.gz Y (.kv Y (.pickF Y Y) (.pf (.condF Y (.sk (.seq (.draw [] [[0, 1, 2, 3, 4, 5, 6, 7, 8, 9, 10]] mixed kQ (.g0 (.mv Y Y (.nf Y Y Y BJ (.kv Y (.ld Y Ci) (.mv Y Y (.kv Y (.indexAddr Y Y B5 om) (.kv Y (.fieldAddr Y C3) (.kv Y (.loadRd (sz := 12) (j := i * 12 + 0) (p := M7 _ l) Y Ag O (fun h hp => AZ hp) om ((Dh (l := l) (i := i) (k := 0) om dQ).trans Y)) (.kv Y (.fieldAddr Y C3) (.kv Y (.ld Y Ag) (.kv Y (.strne Y Y) ?_))))))))))))))))))))))))))))
  refine D.pf (.condN Y (fun h45 => ?_) (fun h45 => ?_))
  ·refine .aclShape (l := l) (i := i) hi2 O fun hcl => (.region (.m Y (.m Y (.nf Y BJ (.u (.ld Y Ci) (.m Y (.q (.indexAddr Y Y B5 om) Y (.q (.loadRdA (sz := 12) (j := i * 12) (k := 12) (p := M7 _ l) (vs := E1 l[i]) Y Ny O (fun h hp => AZ hp) om om om (A3 (f := E1) (sz := 12) (fun _ _ => Y) om)) Y (.oq (.buildSlice (vs := [_]) B5 Fb Y Y Y Y cQ dQ) ?_)))))))))
   rintro v L' ⟨b10_8, rfl, rfl⟩
   refine .oq (.append1 Y Y Y B5 Fb Y Y ?c117 ?c118 (Nat.le_refl _) ?c119 dQ) ?_
   case c117 => first | exact DL hcl | (simp only [map_cons, map_nil, flatten_cons, flatten_nil, append_nil]; exact DL hcl)
   case c118 => rfl
   case c119 => first | omega | (simp; omega)
   rintro v L' ⟨⟨a10_9, c10_9, rfl⟩, rfl⟩
   refine .a Y (.nil ?_)
   rw [show acc.length + 1 = (acc ++ [l[i]]).length by simp]
   refine .slCast (T := 68) (sz := 12) (m' := (acc ++ [l[i]]).length) (xs' := (acc ++ [l[i]]).flatMap E1) O Y (by simp; rfl) (.blk_n (.then_n (.region (.m Y (.q (.add Y Y om) Y (.an Y ?_))))))
   exact .rk ((i + 1, true, .slice a10_9 (acc ++ [l[i]]).length c10_9, (acc ++ [l[i]]))) (⟨by dsimp only; omega, by dsimp only; exact hLay.more hi2, ⟨_, _, rfl⟩, by dsimp only; simp; omega⟩) (by dsimp only; omega) O
  refine .skip (.blk_n (.then_n (.region (.m Y (.q (.add Y Y om) Y (.an Y ?_))))))
  exact .rk ((i + 1, true, .slice au acc.length cu, acc)) (⟨by dsimp only; omega, by dsimp only; exact absurd h45 (hLay.not hsrt hi2), ⟨_, _, rfl⟩, by dsimp only; simp; omega⟩) (by dsimp only; omega) O
 have hii : i = l.length := by omega
 rw [hii] at hLay
 have hlast := hLay.last
 refine .xe (.seq (.sm Y (.u (.not Y) (.nt (.condB Y (fun h57 => ?_) (fun h57 => ?_))))))
 ·refine .region (.m Y (.q (.loadAs (vs := E1 z) Y Ny O (by simp [E1]) Y) Y (.oq (.buildSlice (vs := [_]) B5 Fb Y Y Y Y cQ dQ) ?_)))
  rintro v L' ⟨b12_2, rfl, rfl⟩
  refine .oq (.append1 Y Y Y B5 Fb Y Y ?c132 ?c133 (Nat.le_refl _) ?c134 dQ) ?_
  case c132 => first | exact DL hzc | (simp only [map_cons, map_nil, flatten_cons, flatten_nil, append_nil]; exact DL hzc)
  case c133 => rfl
  case c134 => have := Bool.toNat_le b; omega
  rintro v L' ⟨⟨a12_3, c12_3, rfl⟩, rfl⟩
  refine .a Y (.nil ?_)
  rw [show acc.length + 1 = (acc ++ [z]).length by rw [length_append]; rfl]
  refine .slCast (T := 68) (sz := 12) (m' := (acc ++ [z]).length) (xs' := (acc ++ [z]).flatMap E1) O Y (by simp; rfl) (.then_n (.region (.m Y (.m Y (.nf Y BJ (.st Y Y Y X6 ?_))))))
  refine .nil (.done_n (.bigSset hsrt z.1 z.2 (p := Hu z) Y O ?_))
  have hb : b = false := by simpa using h57
  subst hb
  have hfin : (acc ++ [z]) = sset l z.1 z.2 := hlast
  refine .rtFold (x := x) (τ := ({ τ with nodes := sset τ.nodes z.1 z.2.2 } : Tr)) (l := (sset l z.1 z.2)) (by rw [QJ, hl]) O Y (by rw [hfin]) (by rw [hfin]) Y Y ?_
  exact .vv
 refine .sk (.region (.m Y (.m Y (.nf Y BJ (.st Y Y Y X6 ?_)))))
 refine .nil (.done_n (.bigSset hsrt z.1 z.2 (p := Hu z) Y O ?_))
 have hb : b = true := by simpa using h57
 subst hb
 have hfin : acc = sset l z.1 z.2 := hlast
 refine .rtFold (x := x) (τ := ({ τ with nodes := sset τ.nodes z.1 z.2.2 } : Tr)) (l := (sset l z.1 z.2)) (by rw [QJ, hl]) O Y (by rw [hfin]) (by rw [hfin]) Y Y ?_
 exact .vv
end Go.Proofs.YtmbnebafdhpgpaaGreatDoor
