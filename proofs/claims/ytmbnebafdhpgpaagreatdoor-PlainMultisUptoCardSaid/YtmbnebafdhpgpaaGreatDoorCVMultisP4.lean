/- Own work, in part by program, for plainMultis.proved. -/
import Derived.Test.YtmbnebafdhpgpaaGreatDoorCVMultisP3
import Derived.Test.YtmbnebafdhpgpaaGreatDoorCVMultisP0
import Derived.Test.YtmbnebafdhpgpaaGreatDoorCVMultisP2
import Derived.Test.YtmbnebafdhpgpaaGreatDoorRows
import Derived.WalkKit
import Derived.ProofKit
import Derived.OpenShut
import Derived.JoinedCond
import Derived.Carry
import Derived.Deep.Grids
import Derived.Handed
import Derived.Deep.Strs
set_option maxRecDepth 100000
namespace Go.Proofs.YtmbnebafdhpgpaaGreatDoor
open Go
/-! ### Tables of watches, shrunk -/
theorem fireTo_sub (ω : List Wt) (es : List Ev) : ∀ i, (fireTo ω es i).1.Sublist ω
 | 0 => List.Sublist.refl _
 | i + 1 => by
  rw [fire_succ rfl]
  exact List.filter_sublist.trans (fireTo_sub ω es i)
theorem fire_sub (ω : List Wt) (es : List Ev) : (fireL ω es).1.Sublist ω := fireTo_sub ω es es.length
theorem drop_sub (ω : List Wt) (s : Int) : (dropW ω s).Sublist ω := List.filter_sublist
theorem cnt_sub {ω υ : List Wt} (h : υ.Sublist ω) (s : Int) : cntW υ s ≤ cntW ω s := (h.filter _).length_le
theorem wt_few : ∀ {ω : List Wt}, (∀ w ∈ ω, 1 ≤ w.1 ∧ w.1 ≤ 5) → ω.length ≤ cntW ω 1 + cntW ω 2 + cntW ω 3 + cntW ω 4 + cntW ω 5
 | [], _ => Nat.zero_le _
 | w :: ω, h => by
  have ih := wt_few (ω := ω) fun x hx => h x (List.mem_cons_of_mem _ hx)
  have hw := h w List.mem_cons_self
  have key : ∀ s : Int, cntW (w :: ω) s = (if w.1 = s then 1 else 0) + cntW ω s := fun s => by
   unfold cntW
   rw [List.filter_cons]
   by_cases g : w.1 = s
   ·rw [if_pos (decide_eq_true g), if_pos g, List.length_cons]; omega
   ·rw [if_neg (by simpa using g), if_neg g]; omega
  rw [key, key, key, key, key, List.length_cons]
  have : w.1 = 1 ∨ w.1 = 2 ∨ w.1 = 3 ∨ w.1 = 4 ∨ w.1 = 5 := by omega
  rcases this with e | e | e | e | e <;> (simp [e]; omega)
/-! ### Transactions of a service -/
def opnPt (o t : Int) : Pt := ⟨5, [], [], nilV, [], o, min (max t 4) 60, 0, nilV⟩
theorem opnPt_T {o t : Int} (ho : I64 o) (N : Nat) : TxnG N (opnPt o t) [] := by
 have hn : I64 (min (max t 4) 60) := ⟨by omega, by omega⟩
 exact ⟨⟨⟨⟨⟨by show (-9223372036854775808 : Int) ≤ 5; decide, by show (5 : Int) ≤ 9223372036854775807; decide⟩, ho, hn, I64.zero, by show 0 < U64; decide, by show 0 < U64; decide, by show 0 < U64; decide, fun a ha => by cases ha⟩, acl_nil_w.long, Nat.zero_le _, Nat.zero_le _, Nat.zero_le _⟩, ho, hn, Nat.zero_le _, acl_nil_w⟩, (fun _ h => by cases h), .inl (Nat.zero_le _)⟩
def moreP (π : Pl) : Pl := ⟨π.τ, π.ω, π.ord, π.opened + 1, π.ids, π.ev⟩
def opnP (π : Pl) (t : Int) : Pl × (Int × Int) := if 16 ≤ π.τ.sess.length then (π, (0, 91)) else (putP (moreP π) (π.opened + 1) 0 (opnPt (π.opened + 1) t) [], (π.opened + 1, 0))
/-! ### Reads of a service -/
def authP (π : Pl) (s : Int) (r : Rq) : Pl × Int :=
 if (digestZ r.path r.data).2 ≠ 0 then (π, (digestZ r.path r.data).2) else if (digestZ r.path r.data).1 ∈ π.ids s then (π, 0) else if 16 ≤ (π.ids s).length then (π, 1)
 else (⟨π.τ, π.ω, π.ord, π.opened, setF π.ids s (π.ids s ++ [(digestZ r.path r.data).1]), π.ev⟩, 0)
def armP (π : Pl) (s : Int) (l : List Arm) : Pl := ⟨π.τ, (armL π.τ s π.ω l).1, π.ord, π.opened, π.ids, setF π.ev s (π.ev s ++ (armL π.τ s π.ω l).2)⟩
def seeP (π : Pl) (s : Int) (r : Rq) : Pl × Int :=
 if laidZ r (readX π.τ (π.ids s) r) = 0 then (π, readX π.τ (π.ids s) r)
 else (⟨π.τ, (addW π.ω s (laidZ r (readX π.τ (π.ids s) r)) r.path).1, π.ord, π.opened, π.ids, π.ev⟩, if (addW π.ω s (laidZ r (readX π.τ (π.ids s) r)) r.path).2 ≠ 0 then (addW π.ω s (laidZ r (readX π.τ (π.ids s) r)) r.path).2 else readX π.τ (π.ids s) r)
def readP (π : Pl) (s : Int) (r : Rq) (l : List Arm) : Pl × Int := if r.kind = 13 then authP π s r else if r.kind = 14 then (armP π s l, 0) else if r.kind = 15 then (π, 0) else seeP π s r
structure ReadZ (π : Pl) (s : Int) (r : Rq) (l : List Arm) (x : Rp) (kids : List Bs) : Prop where
 err : x.err = (readP π s r l).2
 cells : ∀ v ∈ rpC x, isCell v = true
 shape : ∃ a c, x.kidsV = .slice a kids.length c
 told : r.watch = false → readK r.kind → ∃ av kv, x = readR π.τ (π.ids s) r av kv ∧ kids = readKl π.τ (π.ids s) r
structure CallZ (π : Pl) (s : Int) (r : Rq) (subs : List Rq) (l : List Arm) (π' : Pl) (x : Rp) (kids : List Bs) (e : Int) : Prop where
 gone : ¬ sesT π.τ s → e = 67 ∧ π' = π ∧ x = rp0 ∧ kids = []
 chg : sesT π.τ s → changesK r.kind = true → e = 0 ∧ kids = [] ∧ ∃ y ys, y.pl = (txnP π.τ ⟨s, π.ids s⟩ r subs).1 ∧ ys.map Pt.pl = (txnP π.τ ⟨s, π.ids s⟩ r subs).2 ∧ isCell y.aclV = true ∧ (∃ a c, y.subsV = .slice a ys.length c) ∧ (∀ z ∈ ys, isCell z.aclV = true ∧ z.subsV = nilV) ∧ π' = putP π s r.xid y ys ∧ x.err = if y.kind = 8 then y.err else 0
 rd : sesT π.τ s → ¬ changesK r.kind = true → e = 0 ∧ π' = (readP π s r l).1 ∧ ∃ x0, ReadZ π s r l x0 kids ∧ x = ⟨r.xid, π'.τ.zx, x0.err, x0.path, x0.data, x0.st, x0.aclV, x0.kidsV, x0.subsV⟩
 stamp : sesT π.τ s → x.xid = r.xid ∧ x.zx = π'.τ.zx
 cells : ∀ v ∈ rpC x, isCell v = true
 shape : ∃ a c, x.kidsV = .slice a kids.length c
structure CallA (q : HP) (s : Int) (r : Rq) (subs : List Rq) (l : List Arm) : Prop where
 d : WiD q ⟨s, []⟩ nilV r subs
 tz : TzP q
 arm : ArmsA q r.armV l
/-! ### Bounds -/
structure PlB (π : Pl) (n : Nat) : Prop where
 ok : π.τ.Ok (1 + 9 * n)
 w : TrW π.τ
 ord : π.ord.length ≤ n
 ws : ∀ w ∈ π.ω, 1 ≤ w.1 ∧ w.1 ≤ 5
 wn : ∀ s, cntW π.ω s ≤ 64
 ev : ∀ i, (π.ev i).length ≤ n * 67108864
 ids : ∀ s, (π.ids s).length ≤ 16
 op : 0 ≤ π.opened ∧ π.opened ≤ n
 ses : ∀ x ∈ π.τ.sess, 1 ≤ x.1 ∧ x.1 ≤ π.opened
theorem PlB.few {π : Pl} {n : Nat} (h : PlB π n) : π.ω.length ≤ 320 := by
 have h1 := wt_few h.ws
 have := h.wn 1
 have := h.wn 2
 have := h.wn 3
 have := h.wn 4
 have := h.wn 5
 omega
theorem newPl_B : PlB newPl 0 := by
 refine ⟨newT_ok, TrW.new, Nat.le_refl _, (fun w hw => by cases hw), fun s => Nat.zero_le _, fun i => Nat.zero_le _, fun s => Nat.zero_le _, ⟨Int.le_refl _, Int.le_refl _⟩, fun x hx => by cases hx⟩
theorem PlB.more {π : Pl} {n m : Nat} (h : PlB π n) (hm : n ≤ m) : PlB π m := by
 have := h.op
 exact ⟨h.ok.more (by omega), h.w, by have := h.ord; omega, h.ws, h.wn, fun i => Nat.le_trans (h.ev i) (Nat.mul_le_mul_right _ hm), h.ids, ⟨by omega, by omega⟩, h.ses⟩
theorem app_ses13 {τ : Tr} {z : Int} {y : Pt} {ys : List Pt} : ∀ x ∈ (applyZ τ z y ys).1.sess, x ∈ τ.sess ∨ (y.kind = 5 ∧ x.1 = y.own ∧ 0 < y.own) := by
 have hp : ∀ l : List Pt, (partsZ (zxT τ z) z l).1.sess = τ.sess := fun l => by
  unfold partsZ
  have H : ∀ (l : List Pt) (r : Tr × List Ev), (l.foldl (fun r x => ((partZ r.1 x z).1, r.2 ++ (partZ r.1 x z).2)) r).1.sess = r.1.sess := by
   intro l
   induction l with
   | nil => intro r; rfl
   | cons x l ih => intro r; rw [List.foldl_cons, ih]; exact part_sess _ _ _
  exact H l (zxT τ z, [])
 intro x hx
 unfold applyZ at hx
 dsimp only at hx
 split at hx
 ·rename_i h5
  split at hx
  ·rename_i h0
   rcases sset_mem (show x ∈ sset τ.sess y.own (y.num, y.data) from hx) with e | e
   ·exact .inr ⟨h5, by rw [e], h0⟩
   ·exact .inl e
  ·exact .inl hx
 split at hx
 ·have := (List.mem_filter.1 (show x ∈ (partsZ (zxT τ z) z (ys.filter isDel)).1.sess.filter _ from hx)).1
  rw [hp] at this
  exact .inl this
 split at hx
 ·have hx : x ∈ (partsZ (zxT τ z) z ys).1.sess := hx
  rw [hp] at hx
  exact .inl hx
 split at hx
 ·exact .inl hx
 ·have hx : x ∈ (partZ (zxT τ z) y z).1.sess := hx
  rw [part_sess] at hx
  exact .inl hx
theorem PlB.put {π : Pl} {n : Nat} (h : PlB π n) (hn : n ≤ 65536) (s x : Int) {y : Pt} {ys : List Pt} {N0 : Nat} (hG : TxnG N0 y ys) (hN0 : N0 ≤ 65536) (h5 : y.kind = 5 → 1 ≤ y.own ∧ y.own ≤ π.opened) : PlB (putP π s x y ys) (n + 1) := by
 have hsub : (putP π s x y ys).ω.Sublist π.ω := by
  show (if y.kind = 6 then _ else _ : List Wt).Sublist _
  split
  ·exact (drop_sub _ _).trans (fire_sub _ _)
  ·exact fire_sub _ _
 have hz : I64 (zxN π) := by
  have := h.ord
  unfold zxN
  exact ⟨by omega, by omega⟩
 have hys : ys.length ≤ 65544 := by rcases hG.len with g | ⟨-, g, -⟩ <;> omega
 have hel := app_ev π.τ (zxN π) y ys
 have hfl : (fireL π.ω (applyZ π.τ (zxN π) y ys).2.1).2.length ≤ (applyZ π.τ (zxN π) y ys).2.1.length * π.ω.length := (fire_len π.ω (applyZ π.τ (zxN π) y ys).2.1 (applyZ π.τ (zxN π) y ys).2.1.length).2
 have hfl2 : (applyZ π.τ (zxN π) y ys).2.1.length * π.ω.length ≤ 131090 * 320 := Nat.mul_le_mul (by omega) h.few
 have hop := h.op
 refine ⟨(hG.ok h.ok _).more (by omega), hG.w h.w hz, ?_, fun w hw => h.ws w (hsub.subset hw), fun i => Nat.le_trans (cnt_sub hsub i) (h.wn i), fun i => ?_, fun i => ?_, ⟨hop.1, by show π.opened ≤ _; omega⟩, fun z hz => ?_⟩
 ·show (π.ord ++ [_]).length ≤ n + 1
  have := h.ord
  rw [List.length_append, List.length_singleton]; omega
 ·have h1 := tellF_len π.ev (fireL π.ω (applyZ π.τ (zxN π) y ys).2.1).2 i
  have h2 := h.ev i
  have e : (n + 1) * 67108864 = n * 67108864 + 67108864 := by omega
  show ((if y.kind = 6 then setF (tellF π.ev _) y.own [] else tellF π.ev _) i).length ≤ _
  rw [e]
  split
  ·unfold setF
   split
   ·exact Nat.zero_le _
   ·omega
  ·omega
 ·show ((if y.kind = 6 then setF π.ids y.own [] else π.ids) i).length ≤ 16
  have := h.ids i
  split
  ·unfold setF
   split
   ·exact Nat.zero_le _
   ·omega
  ·exact this
 ·rcases app_ses13 z hz with g | ⟨g1, g2, -⟩
  ·exact h.ses z g
  ·have := h5 g1
   show 1 ≤ z.1 ∧ z.1 ≤ π.opened
   omega
theorem PlB.opn {π : Pl} {n : Nat} (h : PlB π n) (hn : n ≤ 4096) (t : Int) : PlB (opnP π t).1 (n + 1) := by
 unfold opnP
 split
 ·exact h.more (by omega)
 ·have hop := h.op
  have hM : PlB (moreP π) (n + 1) := ⟨h.ok.more (by omega), h.w, by have := h.ord; show π.ord.length ≤ _; omega, h.ws, h.wn, fun i => Nat.le_trans (h.ev i) (Nat.mul_le_mul_right _ (by omega)), h.ids, ⟨by show 0 ≤ π.opened + 1; omega, by show π.opened + 1 ≤ ((n + 1 : Nat) : Int); omega⟩, fun x hx => by have := h.ses x hx; show 1 ≤ x.1 ∧ x.1 ≤ π.opened + 1; omega⟩
  have hP := hM.put (by omega) (π.opened + 1) 0 (opnPt_T (o := π.opened + 1) (t := t) ⟨by omega, by omega⟩ 0) (by decide) (fun _ => ⟨by show 1 ≤ π.opened + 1; omega, Int.le_refl _⟩)
  have hz : I64 (zxN π) := by
   have := h.ord
   unfold zxN
   exact ⟨by omega, by omega⟩
  refine ⟨?_, hP.w, ?_, hP.ws, hP.wn, ?_, hP.ids, ⟨hP.op.1, by show π.opened + 1 ≤ _; omega⟩, hP.ses⟩
  ·exact ((opnPt_T (o := π.opened + 1) (t := t) ⟨by omega, by omega⟩ 0).ok (τ := π.τ) h.ok _).more (by omega)
  ·show (π.ord ++ [_]).length ≤ n + 1
   have := h.ord
   rw [List.length_append, List.length_singleton]; omega
  ·intro i
   have e2 : (putP (moreP π) (π.opened + 1) 0 (opnPt (π.opened + 1) t) []).ev = π.ev := by
    unfold putP
    dsimp only
    rw [if_neg (by show ¬ (5 : Int) = 6; decide)]; rfl
   dsimp only
   rw [e2]
   exact Nat.le_trans (h.ev i) (Nat.mul_le_mul_right _ (by omega))
theorem add_B {ω : List Wt} {s k : Int} {p : Bs} (hs : 1 ≤ s ∧ s ≤ 5) (h : ∀ w ∈ ω, 1 ≤ w.1 ∧ w.1 ≤ 5) (hn : ∀ i, cntW ω i ≤ 64) : (∀ w ∈ (addW ω s k p).1, 1 ≤ w.1 ∧ w.1 ≤ 5) ∧ ∀ i, cntW (addW ω s k p).1 i ≤ 64 := by
 unfold addW
 split
 ·exact ⟨h, hn⟩
 split
 ·exact ⟨h, hn⟩
 split
 ·exact ⟨h, hn⟩
 ·rename_i g
  refine ⟨fun w hw => ?_, fun i => ?_⟩
  ·rcases List.mem_append.1 hw with hw | hw
   ·exact h w hw
   ·rw [List.mem_singleton] at hw
    rw [hw]; exact hs
  ·show cntW (ω ++ [(s, (k, p))]) i ≤ 64
   rw [cnt_append]
   split
   ·rename_i e
    have e : s = i := e
    subst e
    have := hn s
    omega
   ·have := hn i
    omega
theorem arm_B {τ : Tr} {s : Int} (hs : 1 ≤ s ∧ s ≤ 5) : ∀ (l : List Arm) (r : List Wt × List Ev), (∀ w ∈ r.1, 1 ≤ w.1 ∧ w.1 ≤ 5) → (∀ i, cntW r.1 i ≤ 64) → (∀ w ∈ (l.foldl (armS τ s) r).1, 1 ≤ w.1 ∧ w.1 ≤ 5) ∧ ∀ i, cntW (l.foldl (armS τ s) r).1 i ≤ 64
 | [], _, h, hn => ⟨h, hn⟩
 | a :: l, r, h, hn => by
  rw [List.foldl_cons]
  have hA : (∀ w ∈ (armS τ s r a).1, 1 ≤ w.1 ∧ w.1 ≤ 5) ∧ ∀ i, cntW (armS τ s r a).1 i ≤ 64 := by
   unfold armS
   split
   ·exact ⟨h, hn⟩
   split
   ·exact add_B hs h hn
   split <;> exact ⟨h, hn⟩
  exact arm_B hs l _ hA.1 hA.2
theorem PlB.read {π : Pl} {n : Nat} (h : PlB π n) {s : Int} (hs : 1 ≤ s ∧ s ≤ 5) (r : Rq) {l : List Arm} (hl : l.length ≤ 1048576) : PlB (readP π s r l).1 (n + 1) := by
 have hM := h.more (Nat.le_succ n)
 unfold readP
 split
 ·unfold authP
  split
  ·exact hM
  split
  ·exact hM
  split
  ·exact hM
  ·rename_i g
   refine ⟨hM.ok, hM.w, hM.ord, hM.ws, hM.wn, hM.ev, fun i => ?_, hM.op, hM.ses⟩
   show (setF π.ids s (π.ids s ++ [_]) i).length ≤ 16
   unfold setF
   split
   ·rw [List.length_append, List.length_singleton]; omega
   ·exact h.ids i
 split
 ·have hA := arm_B (τ := π.τ) hs l (π.ω, []) h.ws h.wn
  refine ⟨hM.ok, hM.w, hM.ord, hA.1, hA.2, fun i => ?_, hM.ids, hM.op, hM.ses⟩
  show (setF π.ev s (π.ev s ++ (armL π.τ s π.ω l).2) i).length ≤ _
  have h1 := armL_len π.τ s π.ω l l.length (Nat.le_refl _)
  rw [List.take_length] at h1
  have h2 := h.ev s
  have h3 := hM.ev i
  have e : (n + 1) * 67108864 = n * 67108864 + 67108864 := by omega
  unfold setF
  split
  ·rw [List.length_append, e]; omega
  ·exact h3
 split
 ·exact hM
 ·unfold seeP
  split
  ·exact hM
  ·have hA := add_B (k := laidZ r (readX π.τ (π.ids s) r)) (p := r.path) hs h.ws h.wn
   exact ⟨hM.ok, hM.w, hM.ord, hA.1, hA.2, hM.ev, hM.ids, hM.op, hM.ses⟩
theorem txn_not5 (τ : Tr) (u : Who) (r : Rq) (subs : List Rq) : (txnP τ u r subs).1.kind ≠ 5 := by
 unfold txnP
 split
 ·show (8 : Int) ≠ 5; decide
 split
 ·show (8 : Int) ≠ 5; decide
 split
 ·unfold multiP
  split
  ·show (8 : Int) ≠ 5; decide
  ·split
   ·show (8 : Int) ≠ 5; decide
   ·show (7 : Int) ≠ 5; decide
 split
 ·show (0 : Int) ≠ 5; decide
 split
 ·show (6 : Int) ≠ 5; decide
 split
 ·show (8 : Int) ≠ 5; decide
 ·exact (part_plain τ u r).1
theorem PlB.call {π : Pl} {n : Nat} (h : PlB π n) (hn : n ≤ 4096) {q : HP} {s : Int} (hs : sesT π.τ s → 1 ≤ s ∧ s ≤ 5) {r : Rq} {subs : List Rq} {l : List Arm} (hA : CallA q s r subs l) {π' : Pl} {x : Rp} {kids : List Bs} {e : Int} (hC : CallZ π s r subs l π' x kids e) : PlB π' (n + 1) := by
 by_cases hse : sesT π.τ s
 ·by_cases hk : changesK r.kind = true
  ·obtain ⟨-, -, y, ys, hy, hys, -, -, -, rfl, -⟩ := hC.chg hse hk
   have hG0 : TxnG (1 + 9 * n) (txnP π.τ ⟨s, π.ids s⟩ r subs).1 (txnP π.τ ⟨s, π.ids s⟩ r subs).2 := txn_G h.ok (hA.d.more (a := slR 9 1 (.slice (some ⟨0, 0, none⟩) (π.ids s).length (π.ids s).length) (π.ids s).length (strs (π.ids s))) (fun _ hp => slR_rd hp) (by have := h.ids s; omega) ⟨_, _, _, rfl⟩)
   have hG := hG0.of hy hys
   refine h.put (by omega) _ _ hG (by omega) fun h5 => ?_
   have hk5 := congrArg Pt.kind hy
   exact absurd (hk5.symm.trans (show y.pl.kind = 5 from h5)) (txn_not5 _ _ _ _)
  ·obtain ⟨-, rfl, -⟩ := hC.rd hse hk
   exact h.read (hs hse) r hA.arm.len
 ·obtain ⟨-, rfl, -⟩ := hC.gone hse
  exact h.more (by omega)
theorem pow2_spec : Fn Tryz.prog 258 #[vint 16] [] fun v L => v = .bool true ∧ L = [] := by
 refine Fn.intro Tryz.func258 rfl rfl fun F W => ?_
 refine .sr (.an rfl (.sm rfl (.m rfl (.q (.sub rfl rfl (by omega)) rfl (.q (.as (v' := vint 0) (by rfl) (.and rfl rfl)) rfl (.ui rfl rfl rfl (.an rfl (.ret ?_))))))))
 exact .vv
theorem fbits_spec (p : HP) (hT : TzP p) (u0 : Nat) (hu : u0 < 18446744073709551616) : Fn Tryz.prog 227 #[nilV, .int .u64 (u0 : Int), vint 16, .bool false, .bool false] [p] fun v L => v = .tuple #[nilV, vstr (hexZ u0)] ∧ L = [p] := by
 refine Fn.intro Tryz.func227 rfl rfl fun F W => ?_
 have hl0 := hexZ_len hu
 refine .sr (.a rfl (.an rfl (.seq (.sm rfl (.q (.as (v' := .bool false) (by rfl) (.int rfl rfl rfl)) rfl (.m rfl (.grun (t := 21) rfl rfl rfl (.m rfl (.grun (t := 21) rfl rfl rfl (.q (.as (v' := .bool false) (by rfl) (.int rfl rfl rfl)) rfl (.u (.pickF rfl rfl) (.m rfl (.grun (t := 25) rfl rfl rfl (.m rfl (.grun (t := 25) rfl rfl rfl (.q (.as (v' := .bool false) (by rfl) (.int rfl rfl rfl)) rfl (.u (.pickF rfl rfl) (.nt (.condF rfl (.sk (.sr (.oq (.allocA ze_307) ?_))))))))))))))))))))))
 rintro v L' ⟨ba, rfl, rfl⟩
 refine .nt (.seq (.pc ba ((List.replicate 65 (0 : UInt8)).map vbyte) ?_))
 refine .region (.an rfl (.seq (.sm rfl (.nt (.condF rfl (.sk (.seq (.sm rfl (.cv Tryz.func258 [_] (pow2_spec) ?_)))))))))
 refine .nt (.condT rfl (.sm rfl (.q (.as (v' := .int .u64 16) (by rfl) (.conv rfl Tryz.underlying3 Tryz.underlying160)) rfl (.cv Tryz.func259 [_] (tz_spec p hT) ?_))))
 refine .q (.as (v' := .int .u64 4) (by rfl) (.conv rfl Tryz.underlying3 Tryz.underlying160)) rfl (.an rfl (.sm rfl (.q (.as (v' := .int .u64 16) (by rfl) (.conv rfl Tryz.underlying3 Tryz.underlying180)) rfl (.an rfl (.sm rfl (.q (.as (v' := .int .u64 16) (by rfl) (.conv rfl Tryz.underlying3 Tryz.underlying160)) rfl (.q (.as (v' := .int .u64 15) (by rfl) (.int rfl rfl rfl)) rfl (.an rfl (.seq (.block (.loopK (ι := Nat × (List Value) × Bs) (fun q E => (1, .int .u64 (q.1 : Int)) :: (13, vint q.2.1.length) :: E) (fun q => [ptc ba (q.2.1 ++ q.2.2.map vbyte) 307]) (fun q => q.1 < 18446744073709551616 ∧ hexZ q.1 ++ q.2.2 = hexZ u0 ∧ q.2.1.length + q.2.2.length = 65) (fun q => q.1) (u0, (List.replicate 65 (0 : UInt8)).map vbyte, []) (ts := [0, 3, 4, 10, 11, 12, 14, 15, 16]) (.cons rfl (.cons rfl (.cons rfl (.cons rfl (.cons rfl (.cons rfl (.cons rfl (.cons rfl (.cons rfl (.nil)))))))))) (⟨hu, List.append_nil _, rfl⟩) ⟨rfl, rfl, rfl, rfl, rfl, rfl, rfl, rfl, rfl, rfl, rfl, trivial⟩ (by repeat' constructor) ?_)))))))))))
 rintro ⟨u, xs, ys⟩ ⟨hu1, hex, hxl⟩
 dsimp only
 dsimp only at hu1 hex hxl
 have hel := congrArg List.length hex
 rw [List.length_append] at hel
 have hl1 := hexZ_len hu1
 refine .seq (.sm rfl (.m rfl (.ui rfl rfl rfl (.nt (.condD rfl (fun h46 => ?_) (fun h46 => ?_))))))
 ·refine .sk (.block (.sm rfl (.q (.as (v' := vint (xs.dropLast.length : Nat)) (by exact congrArg (fun z : Int => vint z) (by rw [List.length_dropLast]; omega)) (.sub rfl rfl (by omega))) rfl (.an rfl (.sm rfl (.m rfl (.m rfl (.q (.as (v' := .int .u64 ((u % 16 : Nat) : Int)) (by exact congrArg (Value.int .u64) (and15 hu1)) (.and rfl rfl)) rfl (.q (.strIndex (c := hexD (u % 16)) rfl rfl Tryz.underlying9 (by omega) (by rw [Int.toNat_natCast]; exact digit_at _ (by omega))) rfl (.q (.indexArr rfl rfl ar_307 (by rw [List.length_dropLast]; omega)) rfl (.oq (.store rfl rfl rfl sz_5 ?c36 (nfz0 _ _)) ?_)))))))))))
  case c36 => simp; omega
  rintro v L' rfl
  refine .nil (.ptCast (b := ba) (l' := xs.dropLast ++ (hexD (u % 16) :: ys).map vbyte) (by repeat' constructor) (by rw [show ((0 : Nat) + ((xs.dropLast.length : Nat) : Int).toNat * 1) = xs.length - 1 from by rw [Int.toNat_natCast, List.length_dropLast]; omega]; exact set_last (by omega)) ?_)
  refine .then_n (.region (.m rfl (.m rfl (.q (.as (v' := .int .u64 ((u / 16 : Nat) : Int)) (by exact congrArg (Value.int .u64) (shr4 u)) (.shr rfl rfl (by first | decide | omega))) rfl (.a rfl (.nil (.blk_n (.then_n ?_))))))))
  exact .rk ((u / 16, xs.dropLast, hexD (u % 16) :: ys)) (⟨by dsimp only; omega, hex_step hex (by omega), by rw [List.length_dropLast, List.length_cons]; omega⟩) (by dsimp only; omega) ⟨rfl, rfl, rfl, rfl, rfl, rfl, rfl, rfl, rfl, rfl, rfl, trivial⟩
 refine .exit (.then_e (.then_e (.blk_e (.then_n (.sm rfl (.q (.as (v' := vint (xs.dropLast.length : Nat)) (by exact congrArg (fun z : Int => vint z) (by rw [List.length_dropLast]; omega)) (.sub rfl rfl (by omega))) rfl (.an rfl (.region (.m rfl (.m rfl (.q (.strIndex (c := hexD u) rfl rfl Tryz.underlying9 (by omega) (by rw [Int.toNat_natCast]; exact digit_at _ (by omega))) rfl (.q (.indexArr rfl rfl ar_307 (by rw [List.length_dropLast]; omega)) rfl (.oq (.store rfl rfl rfl sz_5 ?c47 (nfz0 _ _)) ?_)))))))))))))
 case c47 => simp; omega
 rintro v L' rfl
 refine .nil (.ptCast (b := ba) (l' := xs.dropLast ++ (hexD u :: ys).map vbyte) (by repeat' constructor) (by rw [show ((0 : Nat) + ((xs.dropLast.length : Nat) : Int).toNat * 1) = xs.length - 1 from by rw [Int.toNat_natCast, List.length_dropLast]; omega]; exact set_last (by omega)) ?_)
 have hul : (hexZ u).length = 1 := by rw [hexZ_lt (by omega)]; rfl
 have hfin : hexD u :: ys = hexZ u0 := by rw [← hex, hexZ_lt (by omega)]; rfl
 rw [hfin]
 have hdl : xs.dropLast.length = xs.length - 1 := List.length_dropLast
 refine .then_n (.seq (.sm rfl (.nt (.condF rfl (.sk (.seq (.sm rfl (.nt (.condF rfl (.sk (.sm rfl (.q (.to (v' := .slice (some ⟨ba, xs.length - 1, none⟩) (hexZ u0).length (hexZ u0).length) (.arrSlice (i := ((xs.dropLast.length : Nat) : Int)) (j := 65) rfl ar_307 rfl rfl (by omega)) (by rw [if_neg (by omega)]; congr 3 <;> omega)) rfl (.q (.bytesPt (cs := hexZ u0) rfl Tryz.underlying181 Tryz.underlying5 Tryz.underlying9 (by repeat' constructor) (by rw [show xs.length - 1 = xs.dropLast.length from hdl.symm, List.drop_left, List.take_of_length_le (by rw [List.length_map]; exact Nat.le_refl _)]) (by rw [List.length_append, List.length_map, hdl]; omega) (Nat.le_refl _)) rfl (.an rfl (.ret ?_)))))))))))))))
 exact .vv
theorem fuint0_spec (p : HP) (hT : TzP p) (u0 : Nat) (hu : u0 < 18446744073709551616) : Fn Tryz.prog 174 #[.int .u64 (u0 : Int), vint 16] [p] fun v L => v = vstr (hexZ u0) ∧ L = [p] := by
 refine Fn.intro Tryz.func174 rfl rfl fun F W => ?_
 refine .sr (.an rfl (.seq (.sm rfl (.q (.as (v' := .bool false) (by rfl) (.int rfl rfl rfl)) rfl (.nt (.condF rfl (.sk (.sm rfl (.m rfl (.cv Tryz.func227 [_, _, _, _, _] (fbits_spec p hT u0 hu) ?_))))))))))
 refine .m rfl (.u (.extract rfl rfl) (.u (.extract rfl rfl) (.a rfl (.an rfl (.sm rfl (.an rfl (.ret ?_)))))))
 exact .vv
theorem fuint_spec (p : HP) (hT : TzP p) (u0 : Nat) (hu : u0 < 18446744073709551616) : Fn Tryz.prog 95 #[.int .u64 (u0 : Int), vint 16] [p] fun v L => v = vstr (hexZ u0) ∧ L = [p] := by
 refine Fn.intro Tryz.func95 rfl rfl fun F W => ?_
 refine .sr (.an rfl (.sm rfl (.m rfl (.cv Tryz.func174 [_, _] (fuint0_spec p hT u0 hu) ?_))))
 refine .an rfl (.ret ?_)
 exact .vv
theorem digest_spec (p : HP) (hT : TzP p) (name secret : Bs) (hn : name.length ≤ 1048576) (hs : secret.length ≤ 1048576) : Fn Tryz.prog 52 #[vstr name, vstr secret] [p] fun v L => v = .tuple #[vstr (digestZ name secret).1, vint (digestZ name secret).2] ∧ L = [p] := by
 refine Fn.intro Tryz.func52 rfl rfl fun F W => ?_
 refine .sr (.a rfl (.an rfl (.seq (.sm rfl (.cv Tryz.func94 [_] (auser_spec name) ?_)))))
 refine .u (.not rfl) (.nt (.condB rfl (fun h12 => ?_) (fun h12 => ?_)))
 ·refine .sr (.a rfl (.an rfl (.rt ?_)))
  exact .dn rfl rfl ⟨by have hu : ¬ userZ name = true := (by simpa using h12); unfold digestZ; rw [if_neg hu], rfl⟩
 refine .sk (.sr (.an rfl (.seq (.seq ?_))))
 have hnl : (name ++ [58] ++ secret).length = name.length + 1 + secret.length := by rw [List.length_append, List.length_append, List.length_singleton]
 have hf := fnvN_lt (name ++ [58] ++ secret)
 have hxl := hexZ_len hf
 have hfc := fnv_cast (name ++ [58] ++ secret)
 have h58 : ([58] : Bs).length = 1 := rfl
 have hn58 : (name ++ [58]).length = name.length + 1 := by rw [List.length_append, h58]
 refine .region (.m rfl (.q (.concat rfl rfl (by omega)) rfl (.m rfl (.q (.concat rfl rfl (by omega)) rfl (.oq (.strBytes rfl Tryz.underlying9 Tryz.underlying181 Tryz.underlying5) ?_)))))
 rintro v L' ⟨rfl, b17, c17, rfl⟩
 refine .q (.slen rfl Tryz.underlying181 rfl) rfl (.m rfl (.nil ?_))
 obtain ⟨m, hm⟩ : ∃ m, m = name ++ [58] ++ secret := ⟨_, rfl⟩
 rw [← hm] at hnl hf hxl hfc ⊢
 refine .then_n (.block (.loopK (ι := Nat) (fun q E => (19, vint q) :: (6, .int .u64 (fnvZ (m.take q))) :: E) (fun q => []) (fun q => q ≤ m.length) (fun q => m.length - q) (0) (ts := [0, 4, 5, 17, 18]) (.cons rfl (.cons rfl (.cons rfl (.cons rfl (.cons rfl (.nil)))))) (Nat.zero_le _) ⟨rfl, rfl, rfl, rfl, rfl, rfl, rfl, trivial⟩ (by repeat' constructor) ?_))
 rintro i hi
 refine .sr (.ui rfl rfl rfl (.nt (.seq (.condD rfl (fun h20 => ?_) (fun h20 => ?_)))))
 ·have hi2 : i < m.length := by omega
  refine .sk (.seq (.block (.sr (.q (.indexAddr rfl rfl el_181 (by omega)) rfl (.q (.loadEl (p := slR 5 1 _ m.length (m.map vbyte)) (i := i * 1) (v := vbyte m[i]) rfl ag_5 (by repeat' constructor) (fun h hp => slR_rd hp) (by simp [hi2])) rfl (.an rfl (.region (.m rfl (.m rfl (.q (.conv rfl Tryz.underlying5 Tryz.underlying180) rfl (.u (.xor rfl rfl) (.ui rfl rfl rfl (.a rfl (.nil (.blk_n (.then_n (.region (.q (.add rfl rfl (by omega)) rfl (.m rfl (.nt ?_))))))))))))))))))))
  rw [show IntKind.u64.wrap (IntKind.u64.wrap (BitVec.ofInt IntKind.u64.bits (fnvZ (m.take i)) ^^^ BitVec.ofInt IntKind.u64.bits (IntKind.u64.wrap (m[i].toNat : Int))).toNat * 1099511628211) = fnvZ (m.take (i + 1)) from (fnv_step hi2).symm]
  exact .rk (i + 1) (by omega) (by omega) ⟨rfl, rfl, rfl, rfl, rfl, rfl, rfl, trivial⟩
 have hie : i = m.length := by omega
 subst hie
 rw [List.take_length, ← hfc]
 have hrl : (List.replicate (16 - (hexZ (fnvN m)).length) (48 : UInt8)).length = 16 - (hexZ (fnvN m)).length := List.length_replicate
 have hcl : (name ++ [58] ++ List.replicate (16 - (hexZ (fnvN m)).length) (48 : UInt8)).length = name.length + 1 + (16 - (hexZ (fnvN m)).length) := by rw [List.length_append, hn58, hrl]
 refine .exit (.then_e (.then_e (.blk_e (.then_n (.sm rfl (.cv Tryz.func95 [_, _] (fuint_spec p hT (fnvN m) hf) ?_))))))
 refine .an rfl (.sm rfl (.q (.concat rfl rfl (by omega)) rfl (.m rfl (.q (.strlen rfl Tryz.underlying9 rfl) rfl (.q (.to (v' := vint ((16 - (hexZ (fnvN m)).length : Nat) : Int)) (.sub rfl rfl (by omega)) (by congr 1; omega)) rfl (.cv Tryz.func96 [_, _] (repeatN_spec (16 - (hexZ (fnvN m)).length) (by omega)) ?_))))))
 refine .q (.concat rfl rfl (by omega)) rfl (.m rfl (.q (.concat rfl rfl (by omega)) rfl (.a rfl (.an rfl (.ret ?_)))))
 exact .dn rfl rfl ⟨by have hu : userZ name = true := (by simpa using h12); unfold digestZ digZ; rw [if_pos hu, ← hm], rfl⟩
theorem pr1_spec (b : Nat) (c : Prop) [Decidable c] : Fn Tryz.prog 101 #[vptr b] [ptc b [.bool (decide c)] 4] fun v L => v = vint (whenZ (¬ c) 110) ∧ L = [ptc b [.bool (decide c)] 4] := by
 refine Fn.intro Tryz.func101 rfl rfl fun F W => ?_
 refine .sr (.an rfl (.sr (.u (.ld rfl ag_4) (.u (.not rfl) (.cv Tryz.func90 [_, _] (pwhen_spec _ _) ?_)))))
 refine .an rfl (.ret ?_)
 exact .dn rfl rfl ⟨by congr 1; unfold whenZ; first | (simp_all; done) | (simp_all; omega) | (split <;> simp_all; done) | (split <;> simp_all <;> omega), rfl⟩
theorem pr2_spec (t : Nat) (τ : Tr) (ids : List Bs) (iv : Value) (r : Rq) (p : HP) (hA : WiA p ⟨0, ids⟩ iv r) (N : Nat) (ho : τ.Ok N) (hN : N ≤ 1099511627776) (b5 : Nat) : Fn Tryz.prog 102 #[vptr b5] [ptc b5 (rqC r) 33] fun v L => v = vint (checkZ r.path) ∧ L = [ptc b5 (rqC r) 33] := by
 refine Fn.intro Tryz.func102 rfl rfl fun F W => ?_
 have hpl := hA.rq.path
 have hpl2 : r.path.length ≤ 1048576 := by omega
 refine .sr (.an rfl (.sr (.u (.fieldAddr rfl fo_33_2) (.u (.ld rfl ag_9) (.cv Tryz.func87 [_] (check_spec r.path hpl2) ?_)))))
 refine .an rfl (.ret ?_)
 exact .vv
theorem pr3_spec (t : Nat) (τ : Tr) (ids : List Bs) (iv : Value) (r : Rq) (p : HP) (hA : WiA p ⟨0, ids⟩ iv r) (N : Nat) (ho : τ.Ok N) (hN : N ≤ 1099511627776) (b8 b5 : Nat) : Fn Tryz.prog 103 #[vptr b8, vptr b5] [ptc b8 (wiC t (⟨0, ids⟩ : Who) iv r) 134, ptc b5 (rqC r) 33, treeR t τ, p] fun v L => v = vint (whenZ (¬ thereT τ r.path) 60) ∧ L = [ptc b8 (wiC t (⟨0, ids⟩ : Who) iv r) 134, ptc b5 (rqC r) 33, treeR t τ, p] := by
 refine Fn.intro Tryz.func103 rfl rfl fun F W => ?_
 refine .sr (.an rfl (.sr (.q (.la (wiC t (⟨0, ids⟩ : Who) iv r) rfl ag_134) rfl (.u (.fieldAddr rfl fo_33_2) (.u (.ld rfl ag_9) (.cv Tryz.func104 [_, _] (pthere_spec t τ ⟨0, ids⟩ iv r p hA N ho hN r.path) ?_))))))
 refine .u (.not rfl) (.cv Tryz.func90 [_, _] (pwhen_spec _ _) ?_)
 refine .an rfl (.ret ?_)
 exact .dn rfl rfl ⟨by congr 1; unfold whenZ; first | (simp_all; done) | (simp_all; omega) | (split <;> simp_all; done) | (split <;> simp_all <;> omega), rfl⟩
theorem pr4_spec (t : Nat) (τ : Tr) (ids : List Bs) (iv : Value) (r : Rq) (p : HP) (hA : WiA p ⟨0, ids⟩ iv r) (N : Nat) (ho : τ.Ok N) (hN : N ≤ 1099511627776) (b5 b8 : Nat) : Fn Tryz.prog 105 #[vptr b5, vptr b8] [ptc b5 (rqC r) 33, ptc b8 (wiC t (⟨0, ids⟩ : Who) iv r) 134, treeR t τ, p] fun v L => v = vint (whenZ (r.kind ≠ 10 ∧ ¬ mayT τ ids r.path 1) 65) ∧ L = [ptc b5 (rqC r) 33, ptc b8 (wiC t (⟨0, ids⟩ : Who) iv r) 134, treeR t τ, p] := by
 refine Fn.intro Tryz.func105 rfl rfl fun F W => ?_
 refine .sr (.an rfl (.sr (.u (.fieldAddr rfl fo_33_0) (.u (.ld rfl ag_3) (.ui rfl rfl rfl (.m rfl (.ndec (t := 6) rfl (fun h1_6 => ?_) (fun h1_6 => ?_))))))))
 ·refine .kNT (t := 5) rfl h1_6 (.grun (t := 6) rfl rfl rfl (.q (.la (wiC t (⟨0, ids⟩ : Who) iv r) rfl ag_134) rfl (.grun (t := 6) rfl rfl rfl (.u (.fieldAddr rfl fo_33_2) (.grun (t := 6) rfl rfl rfl (.u (.ld rfl ag_9) (.grun (t := 6) rfl rfl rfl (.cv Tryz.func92 [_, _, _] (pmay_spec t τ ⟨0, ids⟩ iv r p hA N ho hN r.path 1) ?_))))))))
  refine .grun (t := 6) rfl rfl rfl (.u (.not rfl) (.u (.pickT rfl rfl) (.cv Tryz.func90 [_, _] (pwhen_spec _ _) ?_)))
  refine .an rfl (.ret ?_)
  exact .dn rfl rfl ⟨by congr 1; unfold whenZ; first | (simp_all; done) | (simp_all; omega) | (split <;> simp_all; done) | (split <;> simp_all <;> omega), rfl⟩
 refine .kNF (t := 5) rfl h1_6 (.gk (.gk (.gk (.gk (.gk (.u (.pickF rfl rfl) (.cv Tryz.func90 [_, _] (pwhen_spec _ _) ?_)))))))
 refine .an rfl (.ret ?_)
 exact .dn rfl rfl ⟨by congr 1; unfold whenZ; first | (simp_all; done) | (simp_all; omega) | (split <;> simp_all; done) | (split <;> simp_all <;> omega), rfl⟩
theorem prfirst (t : Nat) (τ : Tr) (ids : List Bs) (iv : Value) (r : Rq) (p : HP) (hA : WiA p ⟨0, ids⟩ iv r) (N : Nat) (ho : τ.Ok N) (hN : N ≤ 1099511627776) (b5 b8 b9 : Nat) (va : Value) (p0 : HP) (hr : ∀ h : Hp, p0 h → rdS 1 h va 4 [.func (.func 101) #[] #[vptr b9], .func (.func 102) #[] #[vptr b5], .func (.func 103) #[] #[vptr b8, vptr b5], .func (.func 105) #[] #[vptr b5, vptr b8]]) : Fn Tryz.prog 85 #[va] [p0, ptc b9 [.bool (decide (readK r.kind))] 4, ptc b5 (rqC r) 33, ptc b8 (wiC t (⟨0, ids⟩ : Who) iv r) 134, treeR t τ, p] fun v L => v = vint (readX τ ids r) ∧ L = [p0, ptc b9 [.bool (decide (readK r.kind))] 4, ptc b5 (rqC r) 33, ptc b8 (wiC t (⟨0, ids⟩ : Who) iv r) 134, treeR t τ, p] := by
 refine Fn.unpack (pfirst_spec [.func (.func 101) #[] #[vptr b9], .func (.func 102) #[] #[vptr b5], .func (.func 103) #[] #[vptr b8, vptr b5], .func (.func 105) #[] #[vptr b5, vptr b8]] (readE τ ids r) va p0 _ rfl (by show 4 ≤ _; decide) hr ?_)
 intro i hi hz
 have hi2 : i < 4 := hi
 have hc : i = 0 ∨ i = 1 ∨ i = 2 ∨ i = 3 := by omega
 rcases hc with rfl | rfl | rfl | rfl
 ·exact FunV.share (us := []) (vs := []) (ws := [vptr b9]) Tryz.func101 rfl rfl (by repeat' constructor) (pr1_spec b9 _)
 ·exact FunV.share (us := []) (vs := []) (ws := [vptr b5]) Tryz.func102 rfl rfl (by repeat' constructor) (pr2_spec t τ ids iv r p hA N ho hN b5)
 ·exact FunV.share (us := []) (vs := []) (ws := [vptr b8, vptr b5]) Tryz.func103 rfl rfl (by repeat' constructor) (pr3_spec t τ ids iv r p hA N ho hN b8 b5)
 ·exact FunV.share (us := []) (vs := []) (ws := [vptr b5, vptr b8]) Tryz.func105 rfl rfl (by repeat' constructor) (pr4_spec t τ ids iv r p hA N ho hN b5 b8)
theorem pread_spec (t : Nat) (τ : Tr) (ids : List Bs) (iv : Value) (r : Rq) (p : HP) (hA : WiA p ⟨0, ids⟩ iv r) (N : Nat) (ho : τ.Ok N) (hN : N ≤ 1099511627776) : Fn Tryz.prog 55 #[vptr t, iv, .agg (rqC r).toArray] [treeR t τ, p] fun v L =>
    ∃ av kv : Value, v = .agg (rpC (readR τ ids r av kv)).toArray ∧ (∃ a c, av = .slice a (readAl τ ids r).length c) ∧ (∃ a c, kv = .slice a (readKl τ ids r).length c) ∧ L = [treeR t τ, p, slR 75 2 av (readAl τ ids r).length ((readAl τ ids r).flatMap acC), slR 9 1 kv (readKl τ ids r).length (strs (readKl τ ids r))] := by
 refine Fn.intro Tryz.func55 rfl rfl fun F W => ?_
 have hrq := hA.rqcells
 have hcl := hA.cells t
 refine .sr (.oq (.box rfl) ?_)
 rintro v L' ⟨b5, rfl, rfl⟩
 refine .oq (.allocA ze_41) ?_
 rintro v L' ⟨b6, rfl, rfl⟩
 refine .nil (.pc b5 (rqC r) ?_)
 refine .then_n (.seq (.sm rfl (.q (.ptreq rfl rfl Tryz.underlying76) rfl (.nt (.condF rfl (.sk (.seq (.draw [3, 5, 6] [[0, 1, 2, 3, 4, 5], [6]] mixed (by kernel_rfl) (.go [ptc b5 _ _] (by repeat' constructor) (.k rfl (.fieldAddr rfl fo_33_1) (.k rfl (.ld rfl ag_3) (.k rfl (.move rfl) (.h2 (k := 5) rfl rfl (by kernel_rfl) rfl (.c Tryz.func29 [_] (trzxid_spec t τ)) (by repeat' constructor) (.allocA ze_41) (by repeat' constructor) ?_ ?_)))))))))))))
 ·rintro v L' ⟨rfl, rfl⟩
  refine D.k rfl (.to (v' := .agg (rpC ⟨r.xid, τ.zx, 0, [], [], st0, nilV, nilV, nilV⟩).toArray) (.buildN (pl := [(0, 1), (1, 1), (2, 1), (3, 1), (4, 1), (5, 9), (14, 1), (15, 1), (16, 1)]) (us := [(0, vint r.xid), (1, vint τ.zx)]) (cells := rpC ⟨r.xid, τ.zx, 0, [], [], st0, nilV, nilV, nilV⟩) Tryz.underlying41 (by kernel_rfl) ze_41 rfl rfl) rfl) (.hh rfl (.allocA ze_41) ?_)
  rintro v L' ⟨b7, rfl, rfl⟩
  refine D.ph (.g0 (.sa rfl rfl rfl sz_41 (by exact rp_cells rfl rfl rfl) ?_))
  refine D.ph (.fin (.pc b7 (rpC ⟨r.xid, τ.zx, 0, [], [], st0, nilV, nilV, nilV⟩) ?_))
  refine .then_n (.sm rfl (.m rfl (.q (.la (rqC r) rfl ag_33) rfl (.q (.to (v' := .agg (wiC t (⟨0, ids⟩ : Who) iv r).toArray) (.buildN (pl := [(0, 1), (1, 1), (2, 1), (3, 10)]) (us := [(0, vptr t), (1, vint (⟨0, ids⟩ : Who).ses), (2, iv), (3, .agg (rqC r).toArray)]) (cells := wiC t (⟨0, ids⟩ : Who) iv r) Tryz.underlying134 (by kernel_rfl) ze_134 rfl (fill_wish t (⟨0, ids⟩ : Who) iv hA.shape r)) rfl) rfl (.oq (.allocA ze_134) ?_)))))
  rintro v L' ⟨b8, rfl, rfl⟩
  refine .sa rfl rfl sz_134 (by exact fun v hv => List.all_eq_true.1 hcl v hv) ?_
  refine .nil (.pc b8 (wiC t (⟨0, ids⟩ : Who) iv r) ?_)
  refine .then_n (.seq (.joinK (ι := Nat) (fun q E => (9, vptr q) :: E) (fun q => [ptc q [.bool (decide (readK r.kind))] 4]) (fun q => True) (pre := []) (ts := [0, 5, 6, 7, 8]) (.cons rfl (.cons rfl (.cons rfl (.cons rfl (.cons rfl (.nil)))))) (by repeat' constructor) ?_ ?_))
  ·refine .region (.u (.fieldAddr rfl fo_33_0) (.u (.ld rfl ag_3) (.ui rfl rfl rfl (.m rfl (.dec (t := 25) rfl (fun h5_25 => ?_) (fun h5_25 => ?_))))))
   ·refine .kDT (t := 24) rfl h5_25 (.gk (.gk (.gk (.u (.pickT rfl rfl) (.m rfl (.gk (.gk (.gk (.u (.pickT rfl rfl) (.m rfl (.gk (.gk (.gk (.q (.as (v' := .bool (decide (readK r.kind))) (by simp [readK, h5_25]) (.pickT rfl rfl)) rfl (.oq (.alloc ze_4) ?_)))))))))))))))
    rintro v L' ⟨b9, rfl, rfl⟩
    refine .st rfl rfl rfl sz_4 ?_
    refine .nt ?_
    exact .mk (b9) (trivial) ⟨rfl, rfl, rfl, rfl, rfl, rfl, trivial⟩
   refine .kDF (t := 24) rfl h5_25 (.grun (t := 25) rfl rfl rfl (.u (.fieldAddr rfl fo_33_0) (.grun (t := 25) rfl rfl rfl (.u (.ld rfl ag_3) (.grun (t := 25) rfl rfl rfl (.ui rfl rfl rfl (.u (.pickF rfl rfl) (.m rfl (.dec (t := 30) rfl (fun h5_30 => ?_) (fun h5_30 => ?_))))))))))
   ·refine .kDT (t := 28) rfl h5_30 (.kDT (t := 29) rfl h5_30 (.gk (.gk (.gk (.u (.pickT rfl rfl) (.m rfl (.gk (.gk (.gk (.q (.as (v' := .bool (decide (readK r.kind))) (by simp [readK, h5_25, h5_30]) (.pickT rfl rfl)) rfl (.oq (.alloc ze_4) ?_)))))))))))
    rintro v L' ⟨b9, rfl, rfl⟩
    refine .st rfl rfl rfl sz_4 ?_
    refine .nt ?_
    exact .mk (b9) (trivial) ⟨rfl, rfl, rfl, rfl, rfl, rfl, trivial⟩
   refine .kDF (t := 28) rfl h5_30 (.kDF (t := 29) rfl h5_30 (.grun (t := 30) rfl rfl rfl (.u (.fieldAddr rfl fo_33_0) (.grun (t := 30) rfl rfl rfl (.u (.ld rfl ag_3) (.grun (t := 30) rfl rfl rfl (.ui rfl rfl rfl (.u (.pickF rfl rfl) (.m rfl (.dec (t := 35) rfl (fun h5_35 => ?_) (fun h5_35 => ?_)))))))))))
   ·refine .kDT (t := 33) rfl h5_35 (.kDT (t := 34) rfl h5_35 (.gk (.gk (.gk (.q (.as (v' := .bool (decide (readK r.kind))) (by simp [readK, h5_25, h5_30, h5_35]) (.pickT rfl rfl)) rfl (.oq (.alloc ze_4) ?_))))))
    rintro v L' ⟨b9, rfl, rfl⟩
    refine .st rfl rfl rfl sz_4 ?_
    refine .nt ?_
    exact .mk (b9) (trivial) ⟨rfl, rfl, rfl, rfl, rfl, rfl, trivial⟩
   refine .kDF (t := 33) rfl h5_35 (.kDF (t := 34) rfl h5_35 (.grun (t := 35) rfl rfl rfl (.u (.fieldAddr rfl fo_33_0) (.grun (t := 35) rfl rfl rfl (.u (.ld rfl ag_3) (.grun (t := 35) rfl rfl rfl (.ui rfl rfl rfl (.q (.as (v' := .bool (decide (readK r.kind))) (by simp [readK, h5_25, h5_30, h5_35]) (.pickF rfl rfl)) rfl (.oq (.alloc ze_4) ?_)))))))))
   rintro v L' ⟨b9, rfl, rfl⟩
   refine .st rfl rfl rfl sz_4 ?_
   refine .nt ?_
   exact .mk (b9) (trivial) ⟨rfl, rfl, rfl, rfl, rfl, rfl, trivial⟩
  rintro b9 _
  refine .sr (.q (.func (us := []) (vs := [_]) rfl rfl) rfl (.q (.func (us := []) (vs := [_]) rfl rfl) rfl (.q (.func (us := []) (vs := [_, _]) rfl rfl) rfl (.q (.func (us := []) (vs := [_, _]) rfl rfl) rfl (.oq (.buildSlice1 (vs := [_, _, _, _]) el_230 ze_176 rfl rfl rfl rfl rfl (by decide)) ?_)))))
  rintro v L' ⟨bf, rfl, rfl⟩
  refine .slMake (b := bf) (n := 4) (c := 4) (xs := [.func (.func 101) #[] #[vptr b9], .func (.func 102) #[] #[vptr b5], .func (.func 103) #[] #[vptr b8, vptr b5], .func (.func 105) #[] #[vptr b5, vptr b8]]) (by repeat' constructor) (by decide) (by exact Nat.le_refl 4) rfl (.cv Tryz.func85 [_] (prfirst t τ ids iv r p hA N ho hN b5 b8 b9 _ _ (fun _ => slR_rd)) ?_)
  refine .u (.fieldAddr rfl fo_41_2) (.oq (.store rfl rfl rfl sz_27 ?c79 (nfz0 _ _)) ?_)
  case c79 => simp
  rintro v L' rfl
  refine .nil (.pc b7 (rpC ⟨r.xid, τ.zx, readX τ ids r, [], [], st0, nilV, nilV, nilV⟩) ?_)
  refine .then_n (.seq (.sr (.u (.fieldAddr rfl fo_41_2) (.u (.ld rfl ag_27) (.ui rfl rfl rfl (.nt (.condN rfl (fun h49 => ?_) (fun h49 => ?_))))))))
  ·refine .sr (.q (.la (rpC (⟨r.xid, τ.zx, readX τ ids r, [], [], st0, nilV, nilV, nilV⟩ : Rp)) rfl ag_41) rfl (.sa rfl rfl sz_41 (by exact rp_cells rfl rfl rfl) ?_))
   refine .nil ?_
   have hAl : readAl τ ids r = [] := readAl_no (fun g => h49 g.1)
   have hKl : readKl τ ids r = [] := readKl_no (fun g => h49 g.1)
   refine .add (slR_nil 75 2) (.as (q := slR 75 2 nilV (readAl τ ids r).length ((readAl τ ids r).flatMap acC)) (p := slR 75 2 nilV 0 []) (by repeat' constructor) (by rw [hAl]; rfl) (.add (slR_nil 9 1) (.as (q := slR 9 1 nilV (readKl τ ids r).length (strs (readKl τ ids r))) (p := slR 9 1 nilV 0 []) (by repeat' constructor) (by rw [hKl]; rfl) (.ptCast (b := b6) (l' := rpC (readR τ ids r nilV nilV)) (by repeat' constructor) (by rw [readR_bad h49]; rfl) ?_))))
   refine .then_n (.rt ?_)
   exact .d1 rfl (.cellA rfl ag_41 (by repeat' constructor) (by simp) rfl) ⟨nilV, nilV, rfl, ⟨_, _, congrArg (fun l : List Ac => Value.slice _ l.length _) hAl.symm⟩, ⟨_, _, congrArg (fun l : List Bs => Value.slice _ l.length _) hKl.symm⟩, rfl⟩
  have hx : readX τ ids r = 0 := by omega
  obtain ⟨hrk, hth⟩ := read_there hx
  rw [hx]
  refine .sk (.sm rfl (.u (.fieldAddr rfl fo_33_2) (.u (.ld rfl ag_9) (.cv Tryz.func76 [_, _] (trstat_spec t τ r.path N ho hN) ?_))))
  refine .m rfl (.u (.extract rfl rfl) (.u (.extract rfl rfl) (.u (.fieldAddr rfl fo_41_5) (.sa rfl rfl sz_37 (by intro v hv; simp only [stC, List.mem_cons, List.not_mem_nil, or_false] at hv; rcases hv with rfl | rfl | rfl | rfl | rfl | rfl | rfl | rfl | rfl <;> rfl) ?_))))
  refine .nil (.pc b7 (rpC ⟨r.xid, τ.zx, 0, [], [], statD τ r.path, nilV, nilV, nilV⟩) ?_)
  refine .then_n (.seq (.sr (.u (.fieldAddr rfl fo_33_0) (.u (.ld rfl ag_3) (.nt (.block (.sr (.ui rfl rfl rfl (.an rfl (.condD rfl (fun h61 => ?_) (fun h61 => ?_)))))))))))
  ·refine .region (.m rfl (.u (.fieldAddr rfl fo_33_2) (.u (.ld rfl ag_9) (.cv Tryz.func106 [_, _] (trget_spec t τ r.path N ho hN) ?_))))
   refine .m rfl (.u (.extract rfl rfl) (.u (.extract rfl rfl) (.u (.extract rfl rfl) (.u (.fieldAddr rfl fo_41_4) (.oq (.store rfl rfl rfl sz_9 ?c116 (nfz0 _ _)) ?_)))))
   case c116 => simp
   rintro v L' rfl
   refine .nil (.pc b7 (rpC ⟨r.xid, τ.zx, 0, [], dataD τ r.path, statD τ r.path, nilV, nilV, nilV⟩) ?_)
   refine .blk_n (.then_n (.sr (.q (.la (rpC (⟨r.xid, τ.zx, 0, [], dataD τ r.path, statD τ r.path, nilV, nilV, nilV⟩ : Rp)) rfl ag_41) rfl (.sa rfl rfl sz_41 (by exact rp_cells rfl rfl rfl) ?_))))
   refine .nil ?_
   have hAl : readAl τ ids r = [] := readAl_no (fun g => by have := g.2; omega)
   have hKl : readKl τ ids r = [] := readKl_no (fun g => by have := g.2; omega)
   refine .add (slR_nil 75 2) (.as (q := slR 75 2 nilV (readAl τ ids r).length ((readAl τ ids r).flatMap acC)) (p := slR 75 2 nilV 0 []) (by repeat' constructor) (by rw [hAl]; rfl) (.add (slR_nil 9 1) (.as (q := slR 9 1 nilV (readKl τ ids r).length (strs (readKl τ ids r))) (p := slR 9 1 nilV 0 []) (by repeat' constructor) (by rw [hKl]; rfl) (.ptCast (b := b6) (l' := rpC (readR τ ids r nilV nilV)) (by repeat' constructor) (by rw [readR_get hx h61]; rfl) ?_))))
   refine .then_n (.ret ?_)
   exact .d1 rfl (.cellA rfl ag_41 (by repeat' constructor) (by simp) rfl) ⟨nilV, nilV, rfl, ⟨_, _, congrArg (fun l : List Ac => Value.slice _ l.length _) hAl.symm⟩, ⟨_, _, congrArg (fun l : List Bs => Value.slice _ l.length _) hKl.symm⟩, rfl⟩
  refine .sr (.ui rfl rfl rfl (.an rfl (.condD rfl (fun h72 => ?_) (fun h72 => ?_))))
  ·refine .region (.m rfl (.u (.fieldAddr rfl fo_33_2) (.u (.ld rfl ag_9) (.oq (.c Tryz.func107 [_, _] (trkids_spec t τ r.path N ho hN)) ?_))))
   rintro v L' ⟨uk, lk, rfl, -, hlk, ⟨ak, ck, rfl⟩, rfl⟩; rw [if_pos hth] at hlk; subst hlk
   refine .m rfl (.u (.extract rfl rfl) (.u (.extract rfl rfl) (.u (.fieldAddr rfl fo_41_7) (.oq (.store rfl rfl rfl sz_38 ?c134 (nfz0 _ _)) ?_))))
   case c134 => simp
   rintro v L' rfl
   refine .nil (.pc b7 (rpC ⟨r.xid, τ.zx, 0, [], [], statD τ r.path, nilV, (.slice ak (kidsZ τ r.path).length ck), nilV⟩) ?_)
   refine .blk_n (.then_n (.sr (.q (.la (rpC (⟨r.xid, τ.zx, 0, [], [], statD τ r.path, (nilV), (.slice ak (kidsZ τ r.path).length ck), nilV⟩ : Rp)) rfl ag_41) rfl (.sa rfl rfl sz_41 (by exact rp_cells rfl rfl rfl) ?_))))
   refine .nil ?_
   have hAl : readAl τ ids r = [] := readAl_no (fun g => by have := g.2; omega)
   have hKl : readKl τ ids r = kidsZ τ r.path := readKl_yes hx h72
   refine .add (slR_nil 75 2) (.as (q := slR 75 2 nilV (readAl τ ids r).length ((readAl τ ids r).flatMap acC)) (p := slR 75 2 nilV 0 []) (by repeat' constructor) (by rw [hAl]; rfl) (.as (q := slR 9 1 (.slice ak (kidsZ τ r.path).length ck) (readKl τ ids r).length (strs (readKl τ ids r))) (p := slR 9 1 (.slice ak (kidsZ τ r.path).length ck) (kidsZ τ r.path).length (strs (kidsZ τ r.path))) (by repeat' constructor) (by rw [hKl]) (.ptCast (b := b6) (l' := rpC (readR τ ids r nilV (.slice ak (kidsZ τ r.path).length ck))) (by repeat' constructor) (by rw [readR_other hx h61]; rfl) ?_)))
   refine .then_n (.ret ?_)
   exact .d1 rfl (.cellA rfl ag_41 (by repeat' constructor) (by simp) rfl) ⟨nilV, .slice ak (kidsZ τ r.path).length ck, rfl, ⟨_, _, congrArg (fun l : List Ac => Value.slice _ l.length _) hAl.symm⟩, ⟨_, _, congrArg (fun l : List Bs => Value.slice _ l.length _) hKl.symm⟩, rfl⟩
  refine .sr (.ui rfl rfl rfl (.an rfl (.condD rfl (fun h82 => ?_) (fun h82 => ?_))))
  ·refine .region (.m rfl (.u (.fieldAddr rfl fo_33_2) (.u (.ld rfl ag_9) (.oq (.c Tryz.func108 [_, _] (tracl_spec t τ r.path N ho)) ?_))))
   rintro v L' ⟨ua, rfl, ⟨aa, ca, rfl⟩, rfl⟩
   refine .m rfl (.u (.extract rfl rfl) (.u (.extract rfl rfl) (.u (.fieldAddr rfl fo_41_6) (.oq (.store rfl rfl rfl sz_30 ?c152 (nfz0 _ _)) ?_))))
   case c152 => simp
   rintro v L' rfl
   refine .nil (.pc b7 (rpC ⟨r.xid, τ.zx, 0, [], [], statD τ r.path, (.slice aa (aclD τ r.path).length ca), nilV, nilV⟩) ?_)
   refine .blk_n (.then_n (.sr (.q (.la (rpC (⟨r.xid, τ.zx, 0, [], [], statD τ r.path, (.slice aa (aclD τ r.path).length ca), (nilV), nilV⟩ : Rp)) rfl ag_41) rfl (.sa rfl rfl sz_41 (by exact rp_cells rfl rfl rfl) ?_))))
   refine .nil ?_
   have hAl : readAl τ ids r = aclD τ r.path := readAl_yes hx h82
   have hKl : readKl τ ids r = [] := readKl_no (fun g => by have := g.2; omega)
   refine .add (slR_nil 9 1) (.as (q := slR 9 1 nilV (readKl τ ids r).length (strs (readKl τ ids r))) (p := slR 9 1 nilV 0 []) (by repeat' constructor) (by rw [hKl]; rfl) (.as (q := slR 75 2 (.slice aa (aclD τ r.path).length ca) (readAl τ ids r).length ((readAl τ ids r).flatMap acC)) (p := slR 75 2 (.slice aa (aclD τ r.path).length ca) (aclD τ r.path).length ((aclD τ r.path).flatMap acC)) (by repeat' constructor) (by rw [hAl]) (.ptCast (b := b6) (l' := rpC (readR τ ids r (.slice aa (aclD τ r.path).length ca) nilV)) (by repeat' constructor) (by rw [readR_other hx h61]; rfl) ?_)))
   refine .then_n (.ret ?_)
   exact .d1 rfl (.cellA rfl ag_41 (by repeat' constructor) (by simp) rfl) ⟨.slice aa (aclD τ r.path).length ca, nilV, rfl, ⟨_, _, congrArg (fun l : List Ac => Value.slice _ l.length _) hAl.symm⟩, ⟨_, _, congrArg (fun l : List Bs => Value.slice _ l.length _) hKl.symm⟩, rfl⟩
  refine .skip (.blk_n (.then_n (.sr (.q (.la (rpC (⟨r.xid, τ.zx, 0, [], [], statD τ r.path, (nilV), (nilV), nilV⟩ : Rp)) rfl ag_41) rfl (.sa rfl rfl sz_41 (by exact rp_cells rfl rfl rfl) ?_)))))
  refine .nil ?_
  have hAl : readAl τ ids r = [] := readAl_no (fun g => h82 g.2)
  have hKl : readKl τ ids r = [] := readKl_no (fun g => h72 g.2)
  refine .add (slR_nil 75 2) (.as (q := slR 75 2 nilV (readAl τ ids r).length ((readAl τ ids r).flatMap acC)) (p := slR 75 2 nilV 0 []) (by repeat' constructor) (by rw [hAl]; rfl) (.add (slR_nil 9 1) (.as (q := slR 9 1 nilV (readKl τ ids r).length (strs (readKl τ ids r))) (p := slR 9 1 nilV 0 []) (by repeat' constructor) (by rw [hKl]; rfl) (.ptCast (b := b6) (l' := rpC (readR τ ids r nilV nilV)) (by repeat' constructor) (by rw [readR_other hx h61]; rfl) ?_))))
  refine .then_n (.ret ?_)
  exact .d1 rfl (.cellA rfl ag_41 (by repeat' constructor) (by simp) rfl) ⟨nilV, nilV, rfl, ⟨_, _, congrArg (fun l : List Ac => Value.slice _ l.length _) hAl.symm⟩, ⟨_, _, congrArg (fun l : List Bs => Value.slice _ l.length _) hKl.symm⟩, rfl⟩
 rintro v L' ⟨b7, rfl, rfl⟩
 refine D.hh rfl (.c Tryz.func29 [_] (trzxid_spec t τ)) ?_
 rintro v L' ⟨rfl, rfl⟩
 refine D.kv rfl (.to (v' := .agg (rpC ⟨r.xid, τ.zx, 0, [], [], st0, nilV, nilV, nilV⟩).toArray) (.buildN (pl := [(0, 1), (1, 1), (2, 1), (3, 1), (4, 1), (5, 9), (14, 1), (15, 1), (16, 1)]) (us := [(0, vint r.xid), (1, vint τ.zx)]) (cells := rpC ⟨r.xid, τ.zx, 0, [], [], st0, nilV, nilV, nilV⟩) Tryz.underlying41 (by kernel_rfl) ze_41 rfl rfl) rfl) (.ph (.g0 (.sa rfl rfl rfl sz_41 (by exact rp_cells rfl rfl rfl) ?_)))
 refine D.ph (.fin (.pc b7 (rpC ⟨r.xid, τ.zx, 0, [], [], st0, nilV, nilV, nilV⟩) ?_))
 refine .then_n (.sm rfl (.m rfl (.q (.la (rqC r) rfl ag_33) rfl (.q (.to (v' := .agg (wiC t (⟨0, ids⟩ : Who) iv r).toArray) (.buildN (pl := [(0, 1), (1, 1), (2, 1), (3, 10)]) (us := [(0, vptr t), (1, vint (⟨0, ids⟩ : Who).ses), (2, iv), (3, .agg (rqC r).toArray)]) (cells := wiC t (⟨0, ids⟩ : Who) iv r) Tryz.underlying134 (by kernel_rfl) ze_134 rfl (fill_wish t (⟨0, ids⟩ : Who) iv hA.shape r)) rfl) rfl (.oq (.allocA ze_134) ?_)))))
 rintro v L' ⟨b8, rfl, rfl⟩
 refine .sa rfl rfl sz_134 (by exact fun v hv => List.all_eq_true.1 hcl v hv) ?_
 refine .nil (.pc b8 (wiC t (⟨0, ids⟩ : Who) iv r) ?_)
 refine .then_n (.seq (.joinK (ι := Nat) (fun q E => (9, vptr q) :: E) (fun q => [ptc q [.bool (decide (readK r.kind))] 4]) (fun q => True) (pre := []) (ts := [0, 5, 6, 7, 8]) (.cons rfl (.cons rfl (.cons rfl (.cons rfl (.cons rfl (.nil)))))) (by repeat' constructor) ?_ ?_))
 ·refine .region (.u (.fieldAddr rfl fo_33_0) (.u (.ld rfl ag_3) (.ui rfl rfl rfl (.m rfl (.dec (t := 25) rfl (fun h5_25 => ?_) (fun h5_25 => ?_))))))
  ·refine .kDT (t := 24) rfl h5_25 (.gk (.gk (.gk (.u (.pickT rfl rfl) (.m rfl (.gk (.gk (.gk (.u (.pickT rfl rfl) (.m rfl (.gk (.gk (.gk (.q (.as (v' := .bool (decide (readK r.kind))) (by simp [readK, h5_25]) (.pickT rfl rfl)) rfl (.oq (.alloc ze_4) ?_)))))))))))))))
   rintro v L' ⟨b9, rfl, rfl⟩
   refine .st rfl rfl rfl sz_4 ?_
   refine .nt ?_
   exact .mk (b9) (trivial) ⟨rfl, rfl, rfl, rfl, rfl, rfl, trivial⟩
  refine .kDF (t := 24) rfl h5_25 (.grun (t := 25) rfl rfl rfl (.u (.fieldAddr rfl fo_33_0) (.grun (t := 25) rfl rfl rfl (.u (.ld rfl ag_3) (.grun (t := 25) rfl rfl rfl (.ui rfl rfl rfl (.u (.pickF rfl rfl) (.m rfl (.dec (t := 30) rfl (fun h5_30 => ?_) (fun h5_30 => ?_))))))))))
  ·refine .kDT (t := 28) rfl h5_30 (.kDT (t := 29) rfl h5_30 (.gk (.gk (.gk (.u (.pickT rfl rfl) (.m rfl (.gk (.gk (.gk (.q (.as (v' := .bool (decide (readK r.kind))) (by simp [readK, h5_25, h5_30]) (.pickT rfl rfl)) rfl (.oq (.alloc ze_4) ?_)))))))))))
   rintro v L' ⟨b9, rfl, rfl⟩
   refine .st rfl rfl rfl sz_4 ?_
   refine .nt ?_
   exact .mk (b9) (trivial) ⟨rfl, rfl, rfl, rfl, rfl, rfl, trivial⟩
  refine .kDF (t := 28) rfl h5_30 (.kDF (t := 29) rfl h5_30 (.grun (t := 30) rfl rfl rfl (.u (.fieldAddr rfl fo_33_0) (.grun (t := 30) rfl rfl rfl (.u (.ld rfl ag_3) (.grun (t := 30) rfl rfl rfl (.ui rfl rfl rfl (.u (.pickF rfl rfl) (.m rfl (.dec (t := 35) rfl (fun h5_35 => ?_) (fun h5_35 => ?_)))))))))))
  ·refine .kDT (t := 33) rfl h5_35 (.kDT (t := 34) rfl h5_35 (.gk (.gk (.gk (.q (.as (v' := .bool (decide (readK r.kind))) (by simp [readK, h5_25, h5_30, h5_35]) (.pickT rfl rfl)) rfl (.oq (.alloc ze_4) ?_))))))
   rintro v L' ⟨b9, rfl, rfl⟩
   refine .st rfl rfl rfl sz_4 ?_
   refine .nt ?_
   exact .mk (b9) (trivial) ⟨rfl, rfl, rfl, rfl, rfl, rfl, trivial⟩
  refine .kDF (t := 33) rfl h5_35 (.kDF (t := 34) rfl h5_35 (.grun (t := 35) rfl rfl rfl (.u (.fieldAddr rfl fo_33_0) (.grun (t := 35) rfl rfl rfl (.u (.ld rfl ag_3) (.grun (t := 35) rfl rfl rfl (.ui rfl rfl rfl (.q (.as (v' := .bool (decide (readK r.kind))) (by simp [readK, h5_25, h5_30, h5_35]) (.pickF rfl rfl)) rfl (.oq (.alloc ze_4) ?_)))))))))
  rintro v L' ⟨b9, rfl, rfl⟩
  refine .st rfl rfl rfl sz_4 ?_
  refine .nt ?_
  exact .mk (b9) (trivial) ⟨rfl, rfl, rfl, rfl, rfl, rfl, trivial⟩
 rintro b9 _
 refine .sr (.q (.func (us := []) (vs := [_]) rfl rfl) rfl (.q (.func (us := []) (vs := [_]) rfl rfl) rfl (.q (.func (us := []) (vs := [_, _]) rfl rfl) rfl (.q (.func (us := []) (vs := [_, _]) rfl rfl) rfl (.oq (.buildSlice1 (vs := [_, _, _, _]) el_230 ze_176 rfl rfl rfl rfl rfl (by decide)) ?_)))))
 rintro v L' ⟨bf, rfl, rfl⟩
 refine .slMake (b := bf) (n := 4) (c := 4) (xs := [.func (.func 101) #[] #[vptr b9], .func (.func 102) #[] #[vptr b5], .func (.func 103) #[] #[vptr b8, vptr b5], .func (.func 105) #[] #[vptr b5, vptr b8]]) (by repeat' constructor) (by decide) (by exact Nat.le_refl 4) rfl (.cv Tryz.func85 [_] (prfirst t τ ids iv r p hA N ho hN b5 b8 b9 _ _ (fun _ => slR_rd)) ?_)
 refine .u (.fieldAddr rfl fo_41_2) (.oq (.store rfl rfl rfl sz_27 ?c234 (nfz0 _ _)) ?_)
 case c234 => simp
 rintro v L' rfl
 refine .nil (.pc b7 (rpC ⟨r.xid, τ.zx, readX τ ids r, [], [], st0, nilV, nilV, nilV⟩) ?_)
 refine .then_n (.seq (.sr (.u (.fieldAddr rfl fo_41_2) (.u (.ld rfl ag_27) (.ui rfl rfl rfl (.nt (.condN rfl (fun h49 => ?_) (fun h49 => ?_))))))))
 ·refine .sr (.q (.la (rpC (⟨r.xid, τ.zx, readX τ ids r, [], [], st0, nilV, nilV, nilV⟩ : Rp)) rfl ag_41) rfl (.sa rfl rfl sz_41 (by exact rp_cells rfl rfl rfl) ?_))
  refine .nil ?_
  have hAl : readAl τ ids r = [] := readAl_no (fun g => h49 g.1)
  have hKl : readKl τ ids r = [] := readKl_no (fun g => h49 g.1)
  refine .add (slR_nil 75 2) (.as (q := slR 75 2 nilV (readAl τ ids r).length ((readAl τ ids r).flatMap acC)) (p := slR 75 2 nilV 0 []) (by repeat' constructor) (by rw [hAl]; rfl) (.add (slR_nil 9 1) (.as (q := slR 9 1 nilV (readKl τ ids r).length (strs (readKl τ ids r))) (p := slR 9 1 nilV 0 []) (by repeat' constructor) (by rw [hKl]; rfl) (.ptCast (b := b6) (l' := rpC (readR τ ids r nilV nilV)) (by repeat' constructor) (by rw [readR_bad h49]; rfl) ?_))))
  refine .then_n (.rt ?_)
  exact .d1 rfl (.cellA rfl ag_41 (by repeat' constructor) (by simp) rfl) ⟨nilV, nilV, rfl, ⟨_, _, congrArg (fun l : List Ac => Value.slice _ l.length _) hAl.symm⟩, ⟨_, _, congrArg (fun l : List Bs => Value.slice _ l.length _) hKl.symm⟩, rfl⟩
 have hx : readX τ ids r = 0 := by omega
 obtain ⟨hrk, hth⟩ := read_there hx
 rw [hx]
 refine .sk (.sm rfl (.u (.fieldAddr rfl fo_33_2) (.u (.ld rfl ag_9) (.cv Tryz.func76 [_, _] (trstat_spec t τ r.path N ho hN) ?_))))
 refine .m rfl (.u (.extract rfl rfl) (.u (.extract rfl rfl) (.u (.fieldAddr rfl fo_41_5) (.sa rfl rfl sz_37 (by intro v hv; simp only [stC, List.mem_cons, List.not_mem_nil, or_false] at hv; rcases hv with rfl | rfl | rfl | rfl | rfl | rfl | rfl | rfl | rfl <;> rfl) ?_))))
 refine .nil (.pc b7 (rpC ⟨r.xid, τ.zx, 0, [], [], statD τ r.path, nilV, nilV, nilV⟩) ?_)
 refine .then_n (.seq (.sr (.u (.fieldAddr rfl fo_33_0) (.u (.ld rfl ag_3) (.nt (.block (.sr (.ui rfl rfl rfl (.an rfl (.condD rfl (fun h61 => ?_) (fun h61 => ?_)))))))))))
 ·refine .region (.m rfl (.u (.fieldAddr rfl fo_33_2) (.u (.ld rfl ag_9) (.cv Tryz.func106 [_, _] (trget_spec t τ r.path N ho hN) ?_))))
  refine .m rfl (.u (.extract rfl rfl) (.u (.extract rfl rfl) (.u (.extract rfl rfl) (.u (.fieldAddr rfl fo_41_4) (.oq (.store rfl rfl rfl sz_9 ?c271 (nfz0 _ _)) ?_)))))
  case c271 => simp
  rintro v L' rfl
  refine .nil (.pc b7 (rpC ⟨r.xid, τ.zx, 0, [], dataD τ r.path, statD τ r.path, nilV, nilV, nilV⟩) ?_)
  refine .blk_n (.then_n (.sr (.q (.la (rpC (⟨r.xid, τ.zx, 0, [], dataD τ r.path, statD τ r.path, nilV, nilV, nilV⟩ : Rp)) rfl ag_41) rfl (.sa rfl rfl sz_41 (by exact rp_cells rfl rfl rfl) ?_))))
  refine .nil ?_
  have hAl : readAl τ ids r = [] := readAl_no (fun g => by have := g.2; omega)
  have hKl : readKl τ ids r = [] := readKl_no (fun g => by have := g.2; omega)
  refine .add (slR_nil 75 2) (.as (q := slR 75 2 nilV (readAl τ ids r).length ((readAl τ ids r).flatMap acC)) (p := slR 75 2 nilV 0 []) (by repeat' constructor) (by rw [hAl]; rfl) (.add (slR_nil 9 1) (.as (q := slR 9 1 nilV (readKl τ ids r).length (strs (readKl τ ids r))) (p := slR 9 1 nilV 0 []) (by repeat' constructor) (by rw [hKl]; rfl) (.ptCast (b := b6) (l' := rpC (readR τ ids r nilV nilV)) (by repeat' constructor) (by rw [readR_get hx h61]; rfl) ?_))))
  refine .then_n (.ret ?_)
  exact .d1 rfl (.cellA rfl ag_41 (by repeat' constructor) (by simp) rfl) ⟨nilV, nilV, rfl, ⟨_, _, congrArg (fun l : List Ac => Value.slice _ l.length _) hAl.symm⟩, ⟨_, _, congrArg (fun l : List Bs => Value.slice _ l.length _) hKl.symm⟩, rfl⟩
 refine .sr (.ui rfl rfl rfl (.an rfl (.condD rfl (fun h72 => ?_) (fun h72 => ?_))))
 ·refine .region (.m rfl (.u (.fieldAddr rfl fo_33_2) (.u (.ld rfl ag_9) (.oq (.c Tryz.func107 [_, _] (trkids_spec t τ r.path N ho hN)) ?_))))
  rintro v L' ⟨uk, lk, rfl, -, hlk, ⟨ak, ck, rfl⟩, rfl⟩; rw [if_pos hth] at hlk; subst hlk
  refine .m rfl (.u (.extract rfl rfl) (.u (.extract rfl rfl) (.u (.fieldAddr rfl fo_41_7) (.oq (.store rfl rfl rfl sz_38 ?c289 (nfz0 _ _)) ?_))))
  case c289 => simp
  rintro v L' rfl
  refine .nil (.pc b7 (rpC ⟨r.xid, τ.zx, 0, [], [], statD τ r.path, nilV, (.slice ak (kidsZ τ r.path).length ck), nilV⟩) ?_)
  refine .blk_n (.then_n (.sr (.q (.la (rpC (⟨r.xid, τ.zx, 0, [], [], statD τ r.path, (nilV), (.slice ak (kidsZ τ r.path).length ck), nilV⟩ : Rp)) rfl ag_41) rfl (.sa rfl rfl sz_41 (by exact rp_cells rfl rfl rfl) ?_))))
  refine .nil ?_
  have hAl : readAl τ ids r = [] := readAl_no (fun g => by have := g.2; omega)
  have hKl : readKl τ ids r = kidsZ τ r.path := readKl_yes hx h72
  refine .add (slR_nil 75 2) (.as (q := slR 75 2 nilV (readAl τ ids r).length ((readAl τ ids r).flatMap acC)) (p := slR 75 2 nilV 0 []) (by repeat' constructor) (by rw [hAl]; rfl) (.as (q := slR 9 1 (.slice ak (kidsZ τ r.path).length ck) (readKl τ ids r).length (strs (readKl τ ids r))) (p := slR 9 1 (.slice ak (kidsZ τ r.path).length ck) (kidsZ τ r.path).length (strs (kidsZ τ r.path))) (by repeat' constructor) (by rw [hKl]) (.ptCast (b := b6) (l' := rpC (readR τ ids r nilV (.slice ak (kidsZ τ r.path).length ck))) (by repeat' constructor) (by rw [readR_other hx h61]; rfl) ?_)))
  refine .then_n (.ret ?_)
  exact .d1 rfl (.cellA rfl ag_41 (by repeat' constructor) (by simp) rfl) ⟨nilV, .slice ak (kidsZ τ r.path).length ck, rfl, ⟨_, _, congrArg (fun l : List Ac => Value.slice _ l.length _) hAl.symm⟩, ⟨_, _, congrArg (fun l : List Bs => Value.slice _ l.length _) hKl.symm⟩, rfl⟩
 refine .sr (.ui rfl rfl rfl (.an rfl (.condD rfl (fun h82 => ?_) (fun h82 => ?_))))
 ·refine .region (.m rfl (.u (.fieldAddr rfl fo_33_2) (.u (.ld rfl ag_9) (.oq (.c Tryz.func108 [_, _] (tracl_spec t τ r.path N ho)) ?_))))
  rintro v L' ⟨ua, rfl, ⟨aa, ca, rfl⟩, rfl⟩
  refine .m rfl (.u (.extract rfl rfl) (.u (.extract rfl rfl) (.u (.fieldAddr rfl fo_41_6) (.oq (.store rfl rfl rfl sz_30 ?c307 (nfz0 _ _)) ?_))))
  case c307 => simp
  rintro v L' rfl
  refine .nil (.pc b7 (rpC ⟨r.xid, τ.zx, 0, [], [], statD τ r.path, (.slice aa (aclD τ r.path).length ca), nilV, nilV⟩) ?_)
  refine .blk_n (.then_n (.sr (.q (.la (rpC (⟨r.xid, τ.zx, 0, [], [], statD τ r.path, (.slice aa (aclD τ r.path).length ca), (nilV), nilV⟩ : Rp)) rfl ag_41) rfl (.sa rfl rfl sz_41 (by exact rp_cells rfl rfl rfl) ?_))))
  refine .nil ?_
  have hAl : readAl τ ids r = aclD τ r.path := readAl_yes hx h82
  have hKl : readKl τ ids r = [] := readKl_no (fun g => by have := g.2; omega)
  refine .add (slR_nil 9 1) (.as (q := slR 9 1 nilV (readKl τ ids r).length (strs (readKl τ ids r))) (p := slR 9 1 nilV 0 []) (by repeat' constructor) (by rw [hKl]; rfl) (.as (q := slR 75 2 (.slice aa (aclD τ r.path).length ca) (readAl τ ids r).length ((readAl τ ids r).flatMap acC)) (p := slR 75 2 (.slice aa (aclD τ r.path).length ca) (aclD τ r.path).length ((aclD τ r.path).flatMap acC)) (by repeat' constructor) (by rw [hAl]) (.ptCast (b := b6) (l' := rpC (readR τ ids r (.slice aa (aclD τ r.path).length ca) nilV)) (by repeat' constructor) (by rw [readR_other hx h61]; rfl) ?_)))
  refine .then_n (.ret ?_)
  exact .d1 rfl (.cellA rfl ag_41 (by repeat' constructor) (by simp) rfl) ⟨.slice aa (aclD τ r.path).length ca, nilV, rfl, ⟨_, _, congrArg (fun l : List Ac => Value.slice _ l.length _) hAl.symm⟩, ⟨_, _, congrArg (fun l : List Bs => Value.slice _ l.length _) hKl.symm⟩, rfl⟩
 refine .skip (.blk_n (.then_n (.sr (.q (.la (rpC (⟨r.xid, τ.zx, 0, [], [], statD τ r.path, (nilV), (nilV), nilV⟩ : Rp)) rfl ag_41) rfl (.sa rfl rfl sz_41 (by exact rp_cells rfl rfl rfl) ?_)))))
 refine .nil ?_
 have hAl : readAl τ ids r = [] := readAl_no (fun g => h82 g.2)
 have hKl : readKl τ ids r = [] := readKl_no (fun g => h72 g.2)
 refine .add (slR_nil 75 2) (.as (q := slR 75 2 nilV (readAl τ ids r).length ((readAl τ ids r).flatMap acC)) (p := slR 75 2 nilV 0 []) (by repeat' constructor) (by rw [hAl]; rfl) (.add (slR_nil 9 1) (.as (q := slR 9 1 nilV (readKl τ ids r).length (strs (readKl τ ids r))) (p := slR 9 1 nilV 0 []) (by repeat' constructor) (by rw [hKl]; rfl) (.ptCast (b := b6) (l' := rpC (readR τ ids r nilV nilV)) (by repeat' constructor) (by rw [readR_other hx h61]; rfl) ?_))))
 refine .then_n (.ret ?_)
 exact .d1 rfl (.cellA rfl ag_41 (by repeat' constructor) (by simp) rfl) ⟨nilV, nilV, rfl, ⟨_, _, congrArg (fun l : List Ac => Value.slice _ l.length _) hAl.symm⟩, ⟨_, _, congrArg (fun l : List Bs => Value.slice _ l.length _) hKl.symm⟩, rfl⟩
theorem PlB.pre {π : Pl} {n : Nat} (h : PlB π n) (hn : n ≤ 4097) : π.τ.Ok 65536 ∧ π.ord.length ≤ 1048576 ∧ π.ω.length ≤ 4096 ∧ ∀ i, (π.ev i).length ≤ 1099511627776 := by
 have h1 := h.ord
 have h2 := h.few
 refine ⟨h.ok.more (by omega), by omega, by omega, fun i => ?_⟩
 have h3 := h.ev i
 have h4 : n * 67108864 ≤ 4097 * 67108864 := Nat.mul_le_mul_right _ hn
 omega
theorem rpC_cells {x : Rp} (h1 : isCell x.aclV = true) (h2 : isCell x.kidsV = true) (h3 : isCell x.subsV = true) : ∀ v ∈ rpC x, isCell v = true := by
 intro v hv
 simp only [rpC, stC, List.cons_append, List.nil_append, List.mem_cons, List.not_mem_nil, or_false] at hv
 rcases hv with rfl | rfl | rfl | rfl | rfl | rfl | rfl | rfl | rfl | rfl | rfl | rfl | rfl | rfl | rfl | rfl | rfl <;> first | rfl | assumption
theorem CallA.rqc {q : HP} {s : Int} {r : Rq} {subs : List Rq} {l : List Arm} (h : CallA q s r subs l) : ∀ v ∈ rqC r, isCell v = true := h.d.w.rqcells
theorem plopen_spec (b : Nat) (k : PlK) (π : Pl) (t : Int) (n : Nat) (hB : PlB π n) (hn : n ≤ 4096) : Fn Tryz.prog 9 #[vptr b, vint t] [plR b k π] fun v L => v = .tuple #[vint (opnP π t).2.1, vint (opnP π t).2.2] ∧ L = [plR b k (opnP π t).1] := by
 refine Fn.intro Tryz.func9 rfl rfl fun F W => ?_
 refine .plOpen (π := π) (by repeat' constructor) fun ov mi me hI => ?_
 have hop := hB.op
 have hiz : (idsZ π.τ).length = π.τ.sess.length := List.length_map _
 have hP := hB.pre (by omega)
 refine .sr (.a rfl (.an rfl (.seq (.sm rfl (.nf rfl fo_85_0 (.u (.fieldAddr rfl fo_81_0) (.u (.ld rfl ag_76) (.oq (.call Tryz.func22 rfl rfl (vs := [_]) rfl (trsessions_spec k.t π.τ _ hP.1 (fun x hx => by have := hB.ses x hx; omega) (by omega))) ?_))))))))
 rintro v L' ⟨⟨as1, cs1, rfl⟩, rfl⟩; rw [hiz]
 refine .q (.slen rfl Tryz.underlying86 rfl) rfl (.ui rfl rfl rfl (.nt (.condD rfl (fun h13 => ?_) (fun h13 => ?_))))
 ·have hp : opnP π t = (π, (0, 91)) := if_pos (by omega)
  rw [hp]
  refine .plFold (π) hI (by repeat' constructor) (by rfl) (by rfl) (by rfl) (by rfl) (by rfl) (by rfl) (.sr (.a rfl (.an rfl (.rt ?_))))
  exact .vv
 have hp : opnP π t = ((putP (moreP π) (π.opened + 1) 0 (opnPt (π.opened + 1) t) []), (π.opened + 1, 0)) := if_neg (by omega)
 rw [hp]
 refine .sk (.sm rfl (.nf rfl fo_85_2 (.u (.ld rfl ag_3) (.q (.add rfl rfl (by omega)) rfl (.nf rfl fo_85_2 (.oq (.store rfl rfl rfl sz_3 ?c21 (nfz0 _ _)) ?_))))))
 case c21 => simp [plC]
 rintro v L' rfl
 refine .nil (.pc b (plC k ov (moreP π).opened) ?_)
 refine .add (p := aclR (opnPt (π.opened + 1) t)) (slR_nil _ _) (.add (p := slR 60 8 (opnPt (π.opened + 1) t).subsV ([] : List Pt).length (([] : List Pt).flatMap ptC)) (slR_nil _ _) (.add (p := bigR aclR []) (fun h => big_nil h) ?_))
 have hI0 : PlI (moreP π) mi me := ⟨hI.i1, hI.e1, hI.i2, hI.e2⟩
 have hs1 : I64 (π.opened + 1) := ⟨by omega, by omega⟩
 refine .then_n (.seq (.draw [13] [[0, 1, 2, 3, 4, 5, 6, 7, 8, 9, 10, 11, 12, 13]] mixed (by kernel_rfl) (.g0 (.mv rfl rfl (.mv rfl rfl (.nf rfl rfl rfl fo_85_2 (.kv rfl (.ld rfl ag_3) (.mv rfl rfl (.nf rfl rfl rfl fo_85_2 (.kv rfl (.ld rfl ag_3) (.mv rfl rfl (.kv rfl (.max2 rfl rfl) (.kv rfl (.min2 rfl rfl) (.kv rfl (.to (v' := .agg (ptC (opnPt (π.opened + 1) t)).toArray) (.build (us := [(0, _), (4, _), (5, _)]) fl_60 ze_60 rfl rfl (by simp [isCell])) rfl) (.hh rfl (.call Tryz.func23 rfl rfl (vs := [_, _, _, _]) rfl (plput_spec b k (moreP π) ov mi me hI0 (π.opened + 1) 0 (opnPt (π.opened + 1) t) [] (N0 := 0) (opnPt_T hs1 0) (by decide) ⟨rfl, none, 0, rfl⟩ (fun _ h => by cases h) hs1 I64.zero 65536 hP.1 (by decide) hP.2.1 hP.2.2.1 hP.2.2.2)) ?_)))))))))))))))
 rintro v L' ⟨z, rfl, hz, hzm, rfl⟩
 refine D.pf (.sm rfl (.nf rfl fo_85_2 (.u (.ld rfl ag_3) (.a rfl (.a rfl (.nil (.idPost hzm (by repeat' constructor) (.bigAdd (f := entR) (l := (moreP π).ord) (entP (moreP π) (π.opened + 1) 0 (opnPt (π.opened + 1) t) []) (p := entR (entP (moreP π) (π.opened + 1) 0 (opnPt (π.opened + 1) t) [])) rfl (by repeat' constructor) (.plFold (k := k) (putP (moreP π) (π.opened + 1) 0 (opnPt (π.opened + 1) t) []) hz (by repeat' constructor) (by rfl) (by rfl) (by rfl) (by rfl) (by rfl) (by rfl) (.then_n (.ret ?_)))))))))))
 exact .vv
theorem pllaid_spec (r : Rq) (hr : ∀ v ∈ rqC r, isCell v = true) (e : Int) : Fn Tryz.prog 56 #[.agg (rqC r).toArray, vint e] [] fun v L => v = vint (laidZ r e) ∧ L = [] := by
 refine Fn.intro Tryz.func56 rfl rfl fun F W => ?_
 refine .sr (.oq (.box rfl) ?_)
 rintro v L' ⟨b2, rfl, rfl⟩
 refine .a rfl (.nil (.pc b2 (rqC r) ?_))
 refine .then_n (.seq (.block (.sr (.u (.fieldAddr rfl fo_33_7) (.u (.ld rfl ag_4) (.u (.not rfl) (.an rfl (.condB rfl (fun h5 => ?_) (fun h5 => ?_)))))))))
 ·refine .skip (.blk_n (.then_n (.sr (.an rfl (.ret ?_)))))
  have hq : True := trivial
  exact .dn rfl rfl ⟨by unfold laidZ; simp_all, rfl⟩
 refine .sr (.u (.fieldAddr rfl fo_33_0) (.u (.ld rfl ag_3) (.ui rfl rfl rfl (.m rfl (.dec (t := 13) rfl (fun h2_13 => ?_) (fun h2_13 => ?_))))))
 ·refine .kDT (t := 12) rfl h2_13 (.grun (t := 13) rfl rfl rfl (.m rfl (.grun (t := 13) rfl rfl rfl (.ui rfl rfl rfl (.u (.pickT rfl rfl) (.an rfl (.condD rfl (fun h9 => ?_) (fun h9 => ?_))))))))
  ·refine .sr (.an rfl (.ret (.blk_r (.then_r ?_))))
   have hq : True := trivial
   exact .dn rfl rfl ⟨by unfold laidZ; simp_all, rfl⟩
  refine .sm rfl (.ui rfl rfl rfl (.an rfl (.condN rfl (fun h17 => ?_) (fun h17 => ?_))))
  ·refine .skip (.blk_n (.then_n (.sr (.an rfl (.ret ?_)))))
   have hq : True := trivial
   exact .dn rfl rfl ⟨by unfold laidZ; simp_all, rfl⟩
  refine .sr (.u (.fieldAddr rfl fo_33_0) (.u (.ld rfl ag_3) (.ui rfl rfl rfl (.m rfl (.dec (t := 24) rfl (fun h5_24 => ?_) (fun h5_24 => ?_))))))
  ·refine .kDT (t := 23) rfl h5_24 (.gk (.gk (.gk (.u (.pickT rfl rfl) (.an rfl (.condT rfl (.sr (.an rfl (.ret (.blk_r (.then_r ?_)))))))))))
   have hq : True := trivial
   exact .dn rfl rfl ⟨by unfold laidZ; simp_all, rfl⟩
  refine .kDF (t := 23) rfl h5_24 (.grun (t := 24) rfl rfl rfl (.u (.fieldAddr rfl fo_33_0) (.grun (t := 24) rfl rfl rfl (.u (.ld rfl ag_3) (.grun (t := 24) rfl rfl rfl (.ui rfl rfl rfl (.u (.pickF rfl rfl) (.an rfl (.condD rfl (fun h20 => ?_) (fun h20 => ?_))))))))))
  ·refine .sr (.an rfl (.ret (.blk_r (.then_r ?_))))
   have hq : True := trivial
   exact .dn rfl rfl ⟨by unfold laidZ; simp_all, rfl⟩
  refine .sr (.u (.fieldAddr rfl fo_33_0) (.u (.ld rfl ag_3) (.ui rfl rfl rfl (.an rfl (.condD rfl (fun h29 => ?_) (fun h29 => ?_))))))
  ·refine .sr (.an rfl (.ret (.blk_r (.then_r ?_))))
   have hq : True := trivial
   exact .dn rfl rfl ⟨by unfold laidZ; simp_all, rfl⟩
  refine .skip (.blk_n (.then_n (.sr (.an rfl (.ret ?_)))))
  have hq : True := trivial
  exact .dn rfl rfl ⟨by unfold laidZ; simp_all, rfl⟩
 refine .kDF (t := 12) rfl h2_13 (.gk (.gk (.u (.pickF rfl rfl) (.an rfl (.condF rfl (.sm rfl (.ui rfl rfl rfl (.an rfl (.condN rfl (fun h17 => ?_) (fun h17 => ?_))))))))))
 ·refine .skip (.blk_n (.then_n (.sr (.an rfl (.ret ?_)))))
  have hq : True := trivial
  exact .dn rfl rfl ⟨by unfold laidZ; simp_all, rfl⟩
 refine .sr (.u (.fieldAddr rfl fo_33_0) (.u (.ld rfl ag_3) (.ui rfl rfl rfl (.m rfl (.dec (t := 24) rfl (fun h5_24 => ?_) (fun h5_24 => ?_))))))
 ·refine .kDT (t := 23) rfl h5_24 (.gk (.gk (.gk (.u (.pickT rfl rfl) (.an rfl (.condT rfl (.sr (.an rfl (.ret (.blk_r (.then_r ?_)))))))))))
  have hq : True := trivial
  exact .dn rfl rfl ⟨by unfold laidZ; simp_all, rfl⟩
 refine .kDF (t := 23) rfl h5_24 (.grun (t := 24) rfl rfl rfl (.u (.fieldAddr rfl fo_33_0) (.grun (t := 24) rfl rfl rfl (.u (.ld rfl ag_3) (.grun (t := 24) rfl rfl rfl (.ui rfl rfl rfl (.u (.pickF rfl rfl) (.an rfl (.condD rfl (fun h20 => ?_) (fun h20 => ?_))))))))))
 ·refine .sr (.an rfl (.ret (.blk_r (.then_r ?_))))
  have hq : True := trivial
  exact .dn rfl rfl ⟨by unfold laidZ; simp_all, rfl⟩
 refine .sr (.u (.fieldAddr rfl fo_33_0) (.u (.ld rfl ag_3) (.ui rfl rfl rfl (.an rfl (.condD rfl (fun h29 => ?_) (fun h29 => ?_))))))
 ·refine .sr (.an rfl (.ret (.blk_r (.then_r ?_))))
  have hq : True := trivial
  exact .dn rfl rfl ⟨by unfold laidZ; simp_all, rfl⟩
 refine .skip (.blk_n (.then_n (.sr (.an rfl (.ret ?_)))))
 have hq : True := trivial
 exact .dn rfl rfl ⟨by unfold laidZ; simp_all, rfl⟩
section
variable {W : World} {n : Nat} {ds : List Deferred} {E : Env} {L R : List HP} {X : Act → World → Prop}
theorem G.idTakeP {m : Sm Bs} (s : Int) {ids : List Bs} (hids : ids = (smAt m s).2) (hL : Pick (bigR idR m) L R)
  (h : ∀ a c, (smAt m s).1 = .slice a ids.length c → G W n ds E (slR 9 1 (.slice a ids.length c) ids.length (strs ids) :: bigR idR (adel m s) :: R) X) : G W n ds E L X := by
 subst hids; exact G.idTakeS s hL h
theorem G.idBackP {m : Sm Bs} (s : Int) {ids : List Bs} {v : Value} (hids : ids = (smAt m s).2) (hv : (smAt m s).1 = v) (hL : Picks [slR 9 1 v ids.length (strs ids), bigR idR (adel m s)] L R)
  (h : G W n ds E (bigR idR m :: R) X) : G W n ds E L X := by
 subst hids; subst hv; exact G.idBack s hL h
end
theorem laid_watch {r : Rq} {e : Int} (h : laidZ r e ≠ 0) : r.watch = true := by
 unfold laidZ at h
 split at h
 ·exact absurd rfl h
 ·rename_i g; simpa using g
theorem PlI.ids {π : Pl} {mi : Sm Bs} {me : Sm Ev} (h : PlI π mi me) (s : Int) (v : Value) (l : List Bs) : PlI ⟨π.τ, π.ω, π.ord, π.opened, setF π.ids s l, π.ev⟩ (aset mi s (v, l)) me :=
 ⟨nodup_aset h.i1 _ _, h.e1, fun i => smAt_setF h.i2 s (v, l) i, h.e2⟩
theorem PlI.evs {π : Pl} {mi : Sm Bs} {me : Sm Ev} (h : PlI π mi me) (s : Int) (v : Value) (ω : List Wt) (l : List Ev) : PlI ⟨π.τ, ω, π.ord, π.opened, π.ids, setF π.ev s l⟩ mi (aset me s (v, l)) :=
 ⟨h.i1, nodup_aset h.e1 _ _, h.i2, fun i => smAt_setF h.e2 s (v, l) i⟩
theorem errR_cells (e : Int) : ∀ v ∈ rpC (errR e), isCell v = true := rpC_cells rfl rfl rfl
theorem plread_spec (b : Nat) (k : PlK) (π : Pl) (s : Int) (r : Rq) (subs : List Rq) (l : List Arm) (q : HP) (hA : CallA q s r subs l) (hs : 1 ≤ s ∧ s ≤ 5) (n : Nat) (hB : PlB π n) (hn : n ≤ 4096) : Fn Tryz.prog 28 #[vptr b, vint s, .agg (rqC r).toArray] [plR b k π, q] fun v L => ∃ x kids, ReadZ π s r l x kids ∧ v = .agg (rpC x).toArray ∧ L = [plR b k (readP π s r l).1, q, slR 9 1 x.kidsV kids.length (strs kids)] := by
 refine Fn.intro Tryz.func28 rfl rfl fun F W => ?_
 have hP := hB.pre (by omega)
 have hrc := hA.rqc
 have hid16 := hB.ids s
 have hrq := hA.d.w.rq
 have hpl := hrq.path
 have hdl := hrq.data
 refine .plOpen (π := π) (by repeat' constructor) fun ov mi me hI => ?_
 have hi2 := hI.i2 s
 have hevl := hP.2.2.2 s
 refine .sr (.oq (.box rfl) ?_)
 rintro v L' ⟨b5, rfl, rfl⟩
 refine .oq (.allocA ze_41) ?_
 rintro v L' ⟨b6, rfl, rfl⟩
 refine .nil (.pc b5 (rqC r) ?_)
 refine .then_n (.sr (.oq (.allocA ze_41) ?_))
 rintro v L' ⟨b7, rfl, rfl⟩
 refine .nil (.pc b7 (rpC (errR 0)) ?_)
 refine .then_n (.seq (.sr (.u (.fieldAddr rfl fo_33_0) (.u (.ld rfl ag_3) (.nt (.block (.sr (.ui rfl rfl rfl (.an rfl (.condD rfl (fun h48 => ?_) (fun h48 => ?_)))))))))))
 ·refine .sr (.u (.fieldAddr rfl fo_33_2) (.u (.ld rfl ag_9) (.u (.fieldAddr rfl fo_33_3) (.u (.ld rfl ag_9) (.cv Tryz.func52 [_, _] (digest_spec q hA.tz r.path r.data (by omega) (by omega)) ?_)))))
  refine .m rfl (.u (.extract rfl rfl) (.u (.extract rfl rfl) (.a rfl (.an rfl (.sm rfl (.u (.fieldAddr rfl fo_41_2) (.oq (.store rfl rfl rfl sz_27 ?c19 (nfz0 _ _)) ?_)))))))
  case c19 => simp
  rintro v L' rfl
  refine .nil (.pc b7 (rpC (errR (digestZ r.path r.data).2)) ?_)
  refine .then_n (.seq (.idTakeP s hi2 (by repeat' constructor) fun ai ci hsi => (.region (.m rfl (.nf rfl fo_85_3 (.u (.ld rfl ag_82) (.m rfl (.q (.to (v' := .slice ai (π.ids s).length ci) (.lookupV (m := mi) (enc := smE) (KeyLaw.int Tryz.underlying3) (v := (smAt mi s).1) (fun b hb => smAt_some b hb) (fun hb => smAt_none hb) rfl rfl Tryz.underlying82 ze_38 (by repeat' constructor) rfl) hsi) rfl (.an rfl (.block (.sm rfl (.ui rfl rfl rfl (.m rfl (.ndec (t := 78) rfl (fun h14_78 => ?_) (fun h14_78 => ?_)))))))))))))))
  ·refine .kNT (t := 77) rfl h14_78 (.gk (.gk (.gk (.u (.pickT rfl rfl) (.an rfl (.condT rfl (.skip (.blk_n (.blk_n (.then_n (.seq ?_)))))))))))
   have hcd : (digestZ r.path r.data).2 ≠ 0 ∨ (digestZ r.path r.data).1 ∈ (π.ids s) := by first | exact .inl (by assumption) | exact .inr (by assumption)
   have hp : readP π s r l = (π, (digestZ r.path r.data).2) := by unfold readP; rw [if_pos h48]; unfold authP; rcases hcd with g | g; exact if_pos g; by_cases g2 : (digestZ r.path r.data).2 = 0; rw [if_neg (fun z => z g2), if_pos g, g2]; rw [if_pos g2]
   refine .idBackP s (hI.i2 s) hsi (by repeat' constructor) (.plFold (k := k) π hI (by repeat' constructor) (by rfl) (by rfl) (by rfl) (by rfl) (by rfl) (by rfl) (.add (p := slR 9 1 nilV ([] : List Bs).length (strs [])) (slR_nil _ _) (.region (.q (.la (rpC (errR (digestZ r.path r.data).2)) rfl ag_41) rfl (.sa rfl rfl sz_41 (by exact errR_cells _) ?_)))))
   refine .nil (.pc b6 (rpC (errR (digestZ r.path r.data).2)) ?_)
   refine .then_n (.ret ?_)
   exact .d1 rfl (.cellA rfl ag_41 (by repeat' constructor) (by simp) rfl) ⟨errR (digestZ r.path r.data).2, [], ⟨by rw [hp]; rfl, errR_cells _, ⟨none, 0, rfl⟩, (fun _ hk => absurd hk (by unfold readK; omega))⟩, rfl, by rw [hp]⟩
  refine .kNF (t := 77) rfl h14_78 (.grun (t := 78) rfl rfl rfl (.m rfl (.grun (t := 78) rfl rfl rfl (.m rfl (.grun (t := 78) rfl rfl rfl (.oq (.call Tryz.func53 rfl rfl (vs := [_, _]) rfl (ascont_spec _ (π.ids s) (slR 9 1 (.slice ai (π.ids s).length ci) (π.ids s).length (strs (π.ids s))) (fun h hp => slR_rd hp) (by omega) (digestZ r.path r.data).1)) ?_))))))
  rintro v L' ⟨rfl, rfl⟩
  refine .u (.pickF rfl rfl) (.an rfl (.condD rfl (fun h75 => ?_) (fun h75 => ?_)))
  ·refine .skip (.blk_n (.blk_n (.then_n (.seq ?_))))
   have hcd : (digestZ r.path r.data).2 ≠ 0 ∨ (digestZ r.path r.data).1 ∈ (π.ids s) := by first | exact .inl (by assumption) | exact .inr (by assumption)
   have hp : readP π s r l = (π, (digestZ r.path r.data).2) := by unfold readP; rw [if_pos h48]; unfold authP; rcases hcd with g | g; exact if_pos g; by_cases g2 : (digestZ r.path r.data).2 = 0; rw [if_neg (fun z => z g2), if_pos g, g2]; rw [if_pos g2]
   refine .idBackP s (hI.i2 s) hsi (by repeat' constructor) (.plFold (k := k) π hI (by repeat' constructor) (by rfl) (by rfl) (by rfl) (by rfl) (by rfl) (by rfl) (.add (p := slR 9 1 nilV ([] : List Bs).length (strs [])) (slR_nil _ _) (.region (.q (.la (rpC (errR (digestZ r.path r.data).2)) rfl ag_41) rfl (.sa rfl rfl sz_41 (by exact errR_cells _) ?_)))))
   refine .nil (.pc b6 (rpC (errR (digestZ r.path r.data).2)) ?_)
   refine .then_n (.ret ?_)
   exact .d1 rfl (.cellA rfl ag_41 (by repeat' constructor) (by simp) rfl) ⟨errR (digestZ r.path r.data).2, [], ⟨by rw [hp]; rfl, errR_cells _, ⟨none, 0, rfl⟩, (fun _ hk => absurd hk (by unfold readK; omega))⟩, rfl, by rw [hp]⟩
  have hc0 : (digestZ r.path r.data).2 = 0 := by first | assumption | omega
  have hno : (digestZ r.path r.data).1 ∉ (π.ids s) := by assumption
  refine .sm rfl (.q (.slen rfl Tryz.underlying38 rfl) rfl (.ui rfl rfl rfl (.an rfl (.condD rfl (fun h83 => ?_) (fun h83 => ?_)))))
  ·refine .region (.u (.fieldAddr rfl fo_41_2) (.oq (.store rfl rfl rfl sz_27 ?c47 (nfz0 _ _)) ?_))
   case c47 => simp
   rintro v L' rfl
   refine .nil (.pc b7 (rpC (errR 1)) ?_)
   refine .blk_n (.blk_n (.then_n (.seq ?_)))
   have hp : readP π s r l = (π, 1) := by unfold readP; rw [if_pos h48]; unfold authP; rw [if_neg (fun z => z hc0), if_neg hno]; exact if_pos (by omega)
   refine .idBackP s (hI.i2 s) hsi (by repeat' constructor) (.plFold (k := k) π hI (by repeat' constructor) (by rfl) (by rfl) (by rfl) (by rfl) (by rfl) (by rfl) (.add (p := slR 9 1 nilV ([] : List Bs).length (strs [])) (slR_nil _ _) (.region (.q (.la (rpC (errR 1)) rfl ag_41) rfl (.sa rfl rfl sz_41 (by exact errR_cells _) ?_)))))
   refine .nil (.pc b6 (rpC (errR 1)) ?_)
   refine .then_n (.ret ?_)
   exact .d1 rfl (.cellA rfl ag_41 (by repeat' constructor) (by simp) rfl) ⟨errR 1, [], ⟨by rw [hp]; rfl, errR_cells _, ⟨none, 0, rfl⟩, (fun _ hk => absurd hk (by unfold readK; omega))⟩, rfl, by rw [hp]⟩
  refine .draw [7, 8, 9] [[0, 1, 2, 3, 4, 5, 6, 7, 8], [9]] mixed (by kernel_rfl) (.go [ptc b _ _] (by repeat' constructor) (.k rfl (.move rfl) (.k rfl (.nilp rfl) (.k rfl (.fieldAddr rfl fo_85_3) (.k rfl (.ld rfl ag_82) (.k rfl (.move rfl) (.k rfl (.move rfl) (.mv rfl rfl (.hh rfl (.buildSlice1 (vs := [_]) el_38 ze_9 rfl rfl rfl rfl rfl (by decide)) ?_)))))))))
  rintro v L' ⟨bw, rfl, rfl⟩
  refine D.hh rfl (.append1 rfl rfl rfl el_38 ze_9 rfl rfl ?c63 ?c64 (Nat.le_refl _) ?c65 (by decide)) ?_
  case c63 => simp [Value.cells, isCell]
  case c64 => rfl
  case c65 => omega
  rintro v L' ⟨⟨a13, c13, rfl⟩, rfl⟩
  refine D.ph (.g0 (.hh rfl (.mapSet (m := mi) (enc := smE) (v := (.slice a13 ((π.ids s).length + 1) c13, (π.ids s) ++ [(digestZ r.path r.data).1])) (k := s) (KeyLaw.int Tryz.underlying3) rfl rfl rfl Tryz.underlying82 ?he68) ?_))
  case he68 => rfl
  rintro v L' rfl
  refine D.ph (.fin (.idPut (m := mi) s (v := .slice a13 ((π.ids s).length + 1) c13) ((π.ids s) ++ [(digestZ r.path r.data).1]) (by repeat' constructor) (by rw [List.length_append]; rfl) (by simp [strs, Value.cells]) ?_))
  have hc02 : (digestZ r.path r.data).2 = 0 := hc0
  refine .ptCast (b := b7) (l' := rpC (errR 0)) (by repeat' constructor) (by rw [hc02]) ?_
  refine .blk_n (.blk_n (.then_n (.seq ?_)))
  have hp : readP π s r l = (⟨π.τ, π.ω, π.ord, π.opened, setF π.ids s ((π.ids s) ++ [(digestZ r.path r.data).1]), π.ev⟩, 0) := by unfold readP; rw [if_pos h48]; unfold authP; rw [if_neg (fun z => z hc0), if_neg hno]; exact if_neg (by omega)
  refine .plFold (k := k) ⟨π.τ, π.ω, π.ord, π.opened, setF π.ids s ((π.ids s) ++ [(digestZ r.path r.data).1]), π.ev⟩ (hI.ids s (.slice a13 ((π.ids s).length + 1) c13) _) (by repeat' constructor) (by rfl) (by rfl) (by rfl) (by rfl) (by rfl) (by rfl) (.add (p := slR 9 1 nilV ([] : List Bs).length (strs [])) (slR_nil _ _) (.region (.q (.la (rpC (errR 0)) rfl ag_41) rfl (.sa rfl rfl sz_41 (by exact errR_cells _) ?_))))
  refine .nil (.pc b6 (rpC (errR 0)) ?_)
  refine .then_n (.ret ?_)
  exact .d1 rfl (.cellA rfl ag_41 (by repeat' constructor) (by simp) rfl) ⟨errR 0, [], ⟨by rw [hp]; rfl, errR_cells _, ⟨none, 0, rfl⟩, (fun _ hk => absurd hk (by unfold readK; omega))⟩, rfl, by rw [hp]⟩
 refine .sr (.ui rfl rfl rfl (.an rfl (.condD rfl (fun h88 => ?_) (fun h88 => ?_))))
 ·refine .evTake (m := me) s (by repeat' constructor) ?_
  have hal := armL_len π.τ s π.ω l l.length (Nat.le_refl _)
  rw [List.take_length] at hal
  have hal2 := hA.arm.len
  have he2 := hI.e2 s
  refine .draw [24, 25, 26] [[0, 1, 2, 3, 4, 5, 6, 7, 8, 9, 10, 11, 12, 13, 14, 15, 16, 17, 18, 19, 20, 21, 22, 23, 24, 25], [26]] mixed (by kernel_rfl) (.go [ptc b _ _, mapR k.rev _, ptc b5 _ _] (by repeat' constructor) (.k rfl (.move rfl) (.k rfl (.nilp rfl) (.k rfl (.fieldAddr rfl fo_85_4) (.k rfl (.ld rfl ag_83) (.k rfl (.move rfl) (.k rfl (.move rfl) (.k rfl (.nilp rfl) (.k rfl (.fieldAddr rfl fo_85_4) (.k rfl (.ld rfl ag_83) (.k rfl (.move rfl) (.k rfl ((.lookupV (m := me) (enc := smE) (KeyLaw.int Tryz.underlying3) (v := (smAt me s).1) (fun b hb => smAt_some b hb) (fun hb => smAt_none hb) rfl rfl Tryz.underlying83 ze_47 (by repeat' constructor) rfl)) (.mv rfl rfl (.nf rfl rfl rfl fo_85_0 (.kv rfl (.fieldAddr rfl fo_81_1) (.kv rfl (.ld rfl ag_78) (.mv rfl rfl (.mv rfl rfl (.nf rfl rfl rfl fo_85_0 (.kv rfl (.fieldAddr rfl fo_81_0) (.kv rfl (.ld rfl ag_76) (.kv rfl (.fieldAddr rfl fo_33_9) ?_))))))))))))))))))))))
  refine D.kv rfl (.ld rfl ag_31) (.hh rfl (.call Tryz.func54 rfl rfl (vs := [_, _, _, _]) rfl (warm_spec k.u k.t π.ω π.τ s r.armV l q hA.arm _ hP.1 (by omega) hs.1 (by omega))) ?_)
  rintro v L' ⟨aw, cw, rfl, rfl⟩
  refine D.hh rfl (.append (n := (smAt me s).2.length) (m := (armL π.τ s π.ω l).2.length) (ys := (armL π.τ s π.ω l).2.flatMap evC) (p := slR 50 3 (.slice aw (armL π.τ s π.ω l).2.length cw) (armL π.τ s π.ω l).2.length ((armL π.τ s π.ω l).2.flatMap evC)) rfl rfl rfl el_47 (.inl ⟨_, Tryz.underlying47⟩) ze_50 rfl rfl ?hc103 (fun h hp => slR_rd hp) ?hb104 (by decide)) ?_
  case hc103 => intro y hy; obtain ⟨z, _, hz⟩ := List.mem_flatMap.1 hy; simp only [evC, List.mem_cons, List.not_mem_nil, or_false] at hz; rcases hz with rfl | rfl | rfl <;> rfl
  case hb104 => rw [← he2]; omega
  rintro v L' ⟨⟨a18, c18, rfl⟩, rfl⟩
  refine D.ph (.g0 (.hh rfl (.mapSet (m := me) (enc := smE) (v := (.slice a18 ((smAt me s).2.length + (armL π.τ s π.ω l).2.length) c18, (smAt me s).2 ++ (armL π.τ s π.ω l).2)) (k := s) (KeyLaw.int Tryz.underlying3) rfl rfl rfl Tryz.underlying83 ?he107) ?_))
  case he107 => rfl
  rintro v L' rfl
  refine D.ph (.fin (.evPut (m := me) s (v := .slice a18 ((smAt me s).2.length + (armL π.τ s π.ω l).2.length) c18) ((smAt me s).2 ++ (armL π.τ s π.ω l).2) (by repeat' constructor) (by rw [List.length_append]) (by rw [List.flatMap_append]) ?_))
  have hIa : PlI (armP π s l) mi (aset me s (.slice a18 ((smAt me s).2.length + (armL π.τ s π.ω l).2.length) c18, (smAt me s).2 ++ (armL π.τ s π.ω l).2)) := by have h := hI.evs s (.slice a18 ((smAt me s).2.length + (armL π.τ s π.ω l).2.length) c18) (armL π.τ s π.ω l).1 (π.ev s ++ (armL π.τ s π.ω l).2); rw [he2] at h; unfold armP; rw [he2]; exact h
  refine .blk_n (.then_n (.seq ?_))
  have hp : readP π s r l = (armP π s l, 0) := by unfold readP; rw [if_neg h48, if_pos h88]
  refine .plFold (k := k) (armP π s l) hIa (by repeat' constructor) (by rfl) (by rfl) (by rfl) (by rfl) (by rfl) (by rfl) (.add (p := slR 9 1 nilV ([] : List Bs).length (strs [])) (slR_nil _ _) (.region (.q (.la (rpC (errR 0)) rfl ag_41) rfl (.sa rfl rfl sz_41 (by exact errR_cells _) ?_))))
  refine .nil (.pc b6 (rpC (errR 0)) ?_)
  refine .then_n (.ret ?_)
  exact .d1 rfl (.cellA rfl ag_41 (by repeat' constructor) (by simp) rfl) ⟨errR 0, [], ⟨by rw [hp]; rfl, errR_cells _, ⟨none, 0, rfl⟩, (fun _ hk => absurd hk (by unfold readK; omega))⟩, rfl, by rw [hp]⟩
 refine .sr (.ui rfl rfl rfl (.an rfl (.condD rfl (fun h116 => ?_) (fun h116 => ?_))))
 ·refine .skip (.blk_n (.then_n (.seq ?_)))
  have hp : readP π s r l = (π, 0) := by unfold readP; rw [if_neg h48, if_neg h88, if_pos h116]
  refine .plFold (k := k) π hI (by repeat' constructor) (by rfl) (by rfl) (by rfl) (by rfl) (by rfl) (by rfl) (.add (p := slR 9 1 nilV ([] : List Bs).length (strs [])) (slR_nil _ _) (.region (.q (.la (rpC (errR 0)) rfl ag_41) rfl (.sa rfl rfl sz_41 (by exact errR_cells _) ?_))))
  refine .nil (.pc b6 (rpC (errR 0)) ?_)
  refine .then_n (.ret ?_)
  exact .d1 rfl (.cellA rfl ag_41 (by repeat' constructor) (by simp) rfl) ⟨errR 0, [], ⟨by rw [hp]; rfl, errR_cells _, ⟨none, 0, rfl⟩, (fun _ hk => absurd hk (by unfold readK; omega))⟩, rfl, by rw [hp]⟩
 refine .seq (.idTakeP s hi2 (by repeat' constructor) fun ai ci hsi => (.fold (p := (sep [slR 9 1 (.slice ai (π.ids s).length ci) (π.ids s).length (strs (π.ids s)), q])) (q := [slR 9 1 (.slice ai (π.ids s).length ci) (π.ids s).length (strs (π.ids s)), q]) (by repeat' constructor) (fun _ h => h) ?_))
 have hW : WiA (sep [slR 9 1 (.slice ai (π.ids s).length ci) (π.ids s).length (strs (π.ids s)), q]) ⟨0, (π.ids s)⟩ (.slice ai (π.ids s).length ci) r := (hA.d.more (a := slR 9 1 (.slice ai (π.ids s).length ci) (π.ids s).length (strs (π.ids s))) (fun _ hp => slR_rd hp) (by omega) ⟨_, _, _, rfl⟩).w.z
 refine .draw [12, 13] [[0, 1, 2, 3, 4, 5, 6, 7, 8, 9, 10, 11, 12], [13]] mixed (by kernel_rfl) (.g0 (.mv rfl rfl (.nf rfl rfl rfl fo_85_0 (.kv rfl (.fieldAddr rfl fo_81_0) (.kv rfl (.ld rfl ag_76) (.mv rfl rfl (.nf rfl rfl rfl fo_85_3 (.kv rfl (.ld rfl ag_82) (.mv rfl rfl (.kv rfl (.to (v' := .slice ai (π.ids s).length ci) (.lookupV (m := mi) (enc := smE) (KeyLaw.int Tryz.underlying3) (v := (smAt mi s).1) (fun b hb => smAt_some b hb) (fun hb => smAt_none hb) rfl rfl Tryz.underlying82 ze_38 (by repeat' constructor) rfl) hsi) (.kv rfl (.la (rqC r) rfl ag_33) (.hh rfl (.call Tryz.func55 rfl rfl (vs := [_, _, _]) rfl (pread_spec k.t π.τ (π.ids s) (.slice ai (π.ids s).length ci) r (sep [slR 9 1 (.slice ai (π.ids s).length ci) (π.ids s).length (strs (π.ids s)), q]) hW _ hP.1 (by omega))) ?_))))))))))))
 rintro v L' ⟨av, kv, rfl, ⟨aa, ca, ha⟩, ⟨ak, ck, hk⟩, rfl⟩
 refine D.ph (.g0 (.sa rfl rfl rfl sz_41 (by exact rpC_cells (by rw [ha]; rfl) (by rw [hk]; rfl) rfl) ?_))
 refine D.ph (.fin (.pc b7 (rpC (readR π.τ (π.ids s) r av kv)) ?_))
 refine .focus (p := (sep [slR 9 1 (.slice ai (π.ids s).length ci) (π.ids s).length (strs (π.ids s)), q])) (by repeat' constructor) (.unfold (q := [slR 9 1 (.slice ai (π.ids s).length ci) (π.ids s).length (strs (π.ids s)), q]) (fun _ h => h) (.idBackP s hi2 hsi (by repeat' constructor) (.then_n (.sr (.q (.la (rqC r) rfl ag_33) rfl (.u (.fieldAddr rfl fo_41_2) (.q (.as (v' := vint (readX π.τ (π.ids s) r)) (by rfl) (.ld rfl ag_27)) rfl (.cv Tryz.func56 [_, _] (pllaid_spec r hrc (readX π.τ (π.ids s) r)) ?_))))))))
 refine .an rfl (.sm rfl (.ui rfl rfl rfl (.nt (.condN rfl (fun h33 => ?_) (fun h33 => ?_)))))
 ·have h33n : ¬ (laidZ r (readX π.τ (π.ids s) r)) = 0 := by simpa using h33
  refine .seq (.draw [9] [[0, 1, 2, 3, 4, 5, 6, 7, 8, 9], [10]] mixed (by kernel_rfl) (.g0 (.mv rfl rfl (.nf rfl rfl rfl fo_85_0 (.kv rfl (.fieldAddr rfl fo_81_1) (.kv rfl (.ld rfl ag_78) (.mv rfl rfl (.mv rfl rfl (.kv rfl (.fieldAddr rfl fo_33_2) (.kv rfl (.ld rfl ag_9) (.hh rfl (.c Tryz.func57 [_, _, _, _] (wadd_spec k.u π.ω s (laidZ r (readX π.τ (π.ids s) r)) r.path (by omega) (by omega))) ?_)))))))))))
  rintro v L' ⟨rfl, rfl⟩
  refine D.ph (.g0 (.kv rfl (.assign rfl) (.pf (.sm rfl (.ui rfl rfl rfl (.nt (.condN rfl (fun h45 => ?_) (fun h45 => ?_))))))))
  ·have h45n : (addW π.ω s (laidZ r (readX π.τ (π.ids s) r)) r.path).2 ≠ 0 := by simpa using h45
   refine .region (.m rfl (.q (.to (v' := .agg (rpC (errR (addW π.ω s (laidZ r (readX π.τ (π.ids s) r)) r.path).2)).toArray) (.buildN (pl := [(0, 1), (1, 1), (2, 1), (3, 1), (4, 1), (5, 9), (14, 1), (15, 1), (16, 1)]) (us := [(2, vint (addW π.ω s (laidZ r (readX π.τ (π.ids s) r)) r.path).2)]) (cells := rpC (errR (addW π.ω s (laidZ r (readX π.τ (π.ids s) r)) r.path).2)) Tryz.underlying41 (by kernel_rfl) ze_41 rfl rfl) rfl) rfl (.sa rfl rfl sz_41 (by exact errR_cells _) ?_)))
   refine .nil (.ptCast (b := b7) (l' := rpC (errR (addW π.ω s (laidZ r (readX π.τ (π.ids s) r)) r.path).2)) (by repeat' constructor) (by exact rfl) ?_)
   refine .blk_n (.then_n (.seq ?_))
   have hp : readP π s r l = (⟨π.τ, (addW π.ω s (laidZ r (readX π.τ (π.ids s) r)) r.path).1, π.ord, π.opened, π.ids, π.ev⟩, (addW π.ω s (laidZ r (readX π.τ (π.ids s) r)) r.path).2) := by unfold readP; rw [if_neg h48, if_neg h88, if_neg h116]; unfold seeP; rw [if_neg h33n, if_pos h45n]
   refine .plFold (k := k) ⟨π.τ, (addW π.ω s (laidZ r (readX π.τ (π.ids s) r)) r.path).1, π.ord, π.opened, π.ids, π.ev⟩ ⟨hI.i1, hI.e1, hI.i2, hI.e2⟩ (by repeat' constructor) (by rfl) (by rfl) (by rfl) (by rfl) (by rfl) (by rfl) (.add (p := slR 9 1 nilV ([] : List Bs).length (strs [])) (slR_nil _ _) (.region (.q (.to (v' := .agg (rpC (errR (addW π.ω s (laidZ r (readX π.τ (π.ids s) r)) r.path).2)).toArray) (.loadA rfl ag_41 (by repeat' constructor) (by simp)) (by rfl)) rfl (.sa rfl rfl sz_41 (by exact errR_cells _) ?_))))
   refine .nil (.ptCast (b := b6) (l' := rpC (errR (addW π.ω s (laidZ r (readX π.τ (π.ids s) r)) r.path).2)) (by repeat' constructor) (by exact rfl) ?_)
   refine .then_n (.ret ?_)
   exact .d1 rfl (.cellA rfl ag_41 (by repeat' constructor) (by simp) rfl) ⟨errR (addW π.ω s (laidZ r (readX π.τ (π.ids s) r)) r.path).2, [], ⟨by rw [hp]; rfl, errR_cells _, ⟨none, 0, rfl⟩, (fun hw _ => absurd (laid_watch h33n) (by rw [hw]; decide))⟩, rfl, by rw [hp]⟩
  have h45n : ¬ (addW π.ω s (laidZ r (readX π.τ (π.ids s) r)) r.path).2 ≠ 0 := by simpa using h45
  refine .skip (.blk_n (.then_n (.seq ?_)))
  have hp : readP π s r l = (⟨π.τ, (addW π.ω s (laidZ r (readX π.τ (π.ids s) r)) r.path).1, π.ord, π.opened, π.ids, π.ev⟩, readX π.τ (π.ids s) r) := by unfold readP; rw [if_neg h48, if_neg h88, if_neg h116]; unfold seeP; rw [if_neg h33n, if_neg h45n]
  refine .plFold (k := k) ⟨π.τ, (addW π.ω s (laidZ r (readX π.τ (π.ids s) r)) r.path).1, π.ord, π.opened, π.ids, π.ev⟩ ⟨hI.i1, hI.e1, hI.i2, hI.e2⟩ (by repeat' constructor) (by rfl) (by rfl) (by rfl) (by rfl) (by rfl) (by rfl) (.region (.q (.la (rpC ((readR π.τ (π.ids s) r av kv))) rfl ag_41) rfl (.sa rfl rfl sz_41 (by exact rpC_cells (by rw [ha]; rfl) (by rw [hk]; rfl) rfl) ?_)))
  refine .nil (.pc b6 (rpC ((readR π.τ (π.ids s) r av kv))) ?_)
  refine .then_n (.ret ?_)
  exact .d1 rfl (.cellA rfl ag_41 (by repeat' constructor) (by simp) rfl) ⟨(readR π.τ (π.ids s) r av kv), readKl π.τ (π.ids s) r, ⟨by rw [hp]; rfl, rpC_cells (by rw [ha]; rfl) (by rw [hk]; rfl) rfl, ⟨ak, ck, hk⟩, (fun _ _ => ⟨av, kv, rfl, rfl⟩)⟩, rfl, by rw [hp]⟩
 refine .skip (.blk_n (.then_n (.seq ?_)))
 have h33 : (laidZ r (readX π.τ (π.ids s) r)) = 0 := by simpa using h33
 have hp : readP π s r l = (π, readX π.τ (π.ids s) r) := by unfold readP; rw [if_neg h48, if_neg h88, if_neg h116]; unfold seeP; exact if_pos h33
 refine .plFold (k := k) π hI (by repeat' constructor) (by rfl) (by rfl) (by rfl) (by rfl) (by rfl) (by rfl) (.region (.q (.la (rpC ((readR π.τ (π.ids s) r av kv))) rfl ag_41) rfl (.sa rfl rfl sz_41 (by exact rpC_cells (by rw [ha]; rfl) (by rw [hk]; rfl) rfl) ?_)))
 refine .nil (.pc b6 (rpC ((readR π.τ (π.ids s) r av kv))) ?_)
 refine .then_n (.ret ?_)
 exact .d1 rfl (.cellA rfl ag_41 (by repeat' constructor) (by simp) rfl) ⟨(readR π.τ (π.ids s) r av kv), readKl π.τ (π.ids s) r, ⟨by rw [hp]; rfl, rpC_cells (by rw [ha]; rfl) (by rw [hk]; rfl) rfl, ⟨ak, ck, hk⟩, (fun _ _ => ⟨av, kv, rfl, rfl⟩)⟩, rfl, by rw [hp]⟩
theorem rpC_of {x : Rp} (h : ∀ v ∈ rpC x, isCell v = true) : isCell x.aclV = true ∧ isCell x.kidsV = true ∧ isCell x.subsV = true :=
 ⟨h _ (by simp [rpC]), h _ (by simp [rpC]), h _ (by simp [rpC])⟩
theorem plcall_spec (b : Nat) (k : PlK) (π : Pl) (s : Int) (r : Rq) (subs : List Rq) (l : List Arm) (q : HP) (hA : CallA q s r subs l) (hs : sesT π.τ s → 1 ≤ s ∧ s ≤ 5) (n : Nat) (hB : PlB π n) (hn : n ≤ 4096) : Fn Tryz.prog 10 #[vptr b, vint s, .agg (rqC r).toArray] [plR b k π, q] fun v L => ∃ π' x kids e, CallZ π s r subs l π' x kids e ∧ v = .tuple #[.agg (rpC x).toArray, vint e] ∧ L = [plR b k π', q, slR 9 1 x.kidsV kids.length (strs kids)] := by
 refine Fn.intro Tryz.func10 rfl rfl fun F W => ?_
 have hP := hB.pre (by omega)
 have hrc := hA.rqc
 have hid16 := hB.ids s
 have hrq := hA.d.w.rq
 refine .sr (.oq (.box rfl) ?_)
 rintro v L' ⟨b5, rfl, rfl⟩
 refine .oq (.allocA ze_41) ?_
 rintro v L' ⟨b6, rfl, rfl⟩
 refine .a rfl (.nil (.pc b5 (rqC r) ?_))
 refine .then_n (.seq (.sm rfl (.m rfl (.cv Tryz.func24 [_, _] (plthere_spec b k π s) ?_))))
 refine .u (.not rfl) (.nt (.condN rfl (fun h12 => ?_) (fun h12 => ?_)))
 ·refine .sr (.q (.to (v' := .agg (rpC rp0).toArray) (.buildN (pl := [(0, 1), (1, 1), (2, 1), (3, 1), (4, 1), (5, 9), (14, 1), (15, 1), (16, 1)]) (us := []) (cells := rpC rp0) Tryz.underlying41 (by kernel_rfl) ze_41 rfl rfl) rfl) rfl (.sa rfl rfl sz_41 (by exact rpC_cells rfl rfl rfl) ?_))
  refine .a rfl (.nil (.pc b6 (rpC rp0) ?_))
  refine .add (p := slR 9 1 nilV ([] : List Bs).length (strs [])) (slR_nil _ _) (.then_n (.rt ?_))
  exact .d2 rfl (.cellA rfl ag_41 (by repeat' constructor) (by simp) rfl) (.tmp rfl) ⟨π, rp0, [], 67, ⟨fun _ => ⟨rfl, rfl, rfl, rfl⟩, fun g => absurd g h12, fun g => absurd g h12, fun g => absurd g h12, rpC_cells rfl rfl rfl, ⟨none, 0, rfl⟩⟩, rfl, rfl⟩
 have hse : sesT π.τ s := by simpa using h12
 refine .sk (.sr (.oq (.allocA ze_41) ?_))
 rintro v L' ⟨b8, rfl, rfl⟩
 refine .nil (.pc b8 (rpC rp0) ?_)
 refine .then_n (.seq (.sr (.u (.fieldAddr rfl fo_33_0) (.u (.ld rfl ag_3) (.cv Tryz.func25 [_] (pchanges_spec r.kind) ?_)))))
 refine .nt (.condB rfl (fun h16 => ?_) (fun h16 => ?_))
 ·refine .plOpen (π := π) (by repeat' constructor) fun ov mi me hI => (.idTakeP s (hI.i2 s) (by repeat' constructor) fun ai ci hsi => (.fold (p := (sep [slR 9 1 (.slice ai (π.ids s).length ci) (π.ids s).length (strs (π.ids s)), q])) (q := [slR 9 1 (.slice ai (π.ids s).length ci) (π.ids s).length (strs (π.ids s)), q]) (by repeat' constructor) (fun _ h => h) ?_))
  have hW : WiD (sep [slR 9 1 (.slice ai (π.ids s).length ci) (π.ids s).length (strs (π.ids s)), q]) ⟨s, (π.ids s)⟩ (.slice ai (π.ids s).length ci) r subs := hA.d.more (a := slR 9 1 (.slice ai (π.ids s).length ci) (π.ids s).length (strs (π.ids s))) (fun _ hp => slR_rd hp) (by omega) ⟨_, _, _, rfl⟩
  refine .draw [22, 23, 24, 25] [[0, 1, 2, 3, 4, 5, 6, 7, 8, 9, 10, 11, 12, 13, 14, 15, 16, 17, 18, 19, 20, 21, 22, 23], [24], [25]] mixed (by kernel_rfl) (.goI (keepC b 85 0 (vptr k.t)) [ptc b5 _ _] (by repeat' constructor) (.k rfl (.move rfl) (.k rfl (.nilp rfl) (.k rfl (.fieldAddr rfl fo_85_0) (.k rfl (.fieldAddr rfl fo_81_0) (.stL rfl (by kernel_rfl) rfl ag_76 (by repeat' constructor) rfl (.k rfl (.move rfl) (.k rfl (.move rfl) (.k rfl (.fieldAddr rfl fo_33_1) (.k rfl (.ld rfl ag_3) (.mv rfl rfl (.nf rfl rfl rfl fo_85_0 (.kv rfl (.fieldAddr rfl fo_81_0) (.kv rfl (.ld rfl ag_76) (.mv rfl rfl (.mv rfl rfl (.nf rfl rfl rfl fo_85_3 (.kv rfl (.ld rfl ag_82) (.mv rfl rfl (.kv rfl (.to (v' := .slice ai (π.ids s).length ci) (.lookupV (m := mi) (enc := smE) (KeyLaw.int Tryz.underlying3) (v := (smAt mi s).1) (fun b hb => smAt_some b hb) (fun hb => smAt_none hb) rfl rfl Tryz.underlying82 ze_38 (by repeat' constructor) rfl) hsi) ?_))))))))))))))))))))
  refine D.kv rfl (.la (rqC r) rfl ag_33) (.hI rfl (by kernel_rfl) (.call Tryz.func27 rfl rfl (vs := [_, _, _, _]) rfl (ptxnA_spec k.t π.τ ⟨s, (π.ids s)⟩ (.slice ai (π.ids s).length ci) r (sep [slR 9 1 (.slice ai (π.ids s).length ci) (π.ids s).length (strs (π.ids s)), q]) hW.w _ hP.1 (by omega) hB.w (by omega) subs hW.rd hW.each hW.acls (by omega))) (by repeat' constructor) ?ivnx46 ?_)
  case ivnx46 => rintro v L' ⟨y, ys, rfl, hy, hys, hc, hcs, rfl⟩; exact ⟨_, _, (by repeat' constructor), rfl⟩
  rintro v L' ⟨y, ys, rfl, hy, hys, hc, hcs, rfl⟩
  have hG := (txn_G hB.ok hW).of hy hys
  have hys2 := hG.few (by omega)
  have hGo := hG.ok hP.1 (zxN π)
  refine D.hI rfl (by kernel_rfl) (.c Tryz.func23 [_, _, _, _] (plput_spec b k π ov mi me hI s r.xid y ys hG (by omega) hc hcs hA.d.w.ses hrq.xid 65536 hP.1 (by decide) hP.2.1 hP.2.2.1 hP.2.2.2)) (by repeat' constructor) ?ivnx48 ?_
  case ivnx48 => rintro v L' ⟨z, rfl, hz, hzm, rfl⟩; exact ⟨_, _, (by repeat' constructor), rfl⟩
  rintro v L' ⟨z, rfl, hz, hzm, rfl⟩
  refine D.ph (.g0 (.hh rfl (.call Tryz.func26 rfl rfl (vs := [_, _]) rfl (preply_spec k.t (putP π s r.xid y ys).τ (entP π s r.xid y ys) _ hGo (by omega) (entR (entP π s r.xid y ys)) (fun _ hp => ent_subs hp) hys2 hc.1 (by obtain ⟨-, a, c, e⟩ := hc; show isCell y.subsV = true; rw [e]; rfl) (fun z hz => ⟨(hcs z hz).1, by rw [(hcs z hz).2]; rfl⟩))) ?_))
  rintro v L' ⟨w, rfl, ⟨aw, cw, hw⟩, rfl⟩
  refine D.ph (.g0 (.sa rfl rfl rfl sz_41 (by exact rpC_cells rfl rfl (by show isCell w = true; rw [hw]; rfl)) ?_))
  refine D.ph (.fin (.pc b8 (rpC ((headR (putP π s r.xid y ys).τ (entP π s r.xid y ys)).ws w)) ?_))
  refine .focus (p := (sep [slR 9 1 (.slice ai (π.ids s).length ci) (π.ids s).length (strs (π.ids s)), q])) (by repeat' constructor) (.unfold (q := [slR 9 1 (.slice ai (π.ids s).length ci) (π.ids s).length (strs (π.ids s)), q]) (fun _ h => h) (.idBackP s (hI.i2 s) hsi (by repeat' constructor) (.idPost hzm (by repeat' constructor) (.bigAdd (f := entR) (l := π.ord) (entP π s r.xid y ys) (p := entR (entP π s r.xid y ys)) rfl (by repeat' constructor) (.plFold (k := k) (putP π s r.xid y ys) hz (by repeat' constructor) (by rfl) (by rfl) (by rfl) (by rfl) (by rfl) (by rfl) (.add (p := slR 9 1 nilV ([] : List Bs).length (strs [])) (slR_nil _ _) (.then_n (.seq (.plOpen (π := (putP π s r.xid y ys)) (by repeat' constructor) fun ov2 mi2 me2 hI2 => (.draw [7, 9, 11] [[0, 1, 2, 3, 4, 5, 6, 8, 7], [9], [10, 11]] mixed (by kernel_rfl) (.go [ptc b5 _ _] (by repeat' constructor) ?_)))))))))))
  refine D.k rfl (.fieldAddr rfl fo_33_1) (.k rfl (.ld rfl ag_3) (.mv rfl rfl (.nf rfl rfl rfl fo_85_0 (.kv rfl (.fieldAddr rfl fo_81_0) (.kv rfl (.ld rfl ag_76) (.k rfl (.fieldAddr rfl fo_41_0) (.hh rfl (.c Tryz.func29 [_] (trzxid_spec k.t (putP π s r.xid y ys).τ)) ?_)))))))
  rintro v L' ⟨rfl, rfl⟩
  refine D.ph (.g0 (.hh rfl (.store rfl rfl rfl sz_3 ?c67 (nfz0 _ _)) ?_))
  case c67 => simp
  rintro v L' rfl
  refine D.ph (.g0 (.kv rfl (.fieldAddr rfl fo_41_1) (.hh rfl (.store rfl rfl rfl sz_3 ?c71 (nfz0 _ _)) ?_)))
  case c71 => simp
  rintro v L' rfl
  refine D.ph (.fin (.pc b8 (rpC (⟨r.xid, (putP π s r.xid y ys).τ.zx, ((headR (putP π s r.xid y ys).τ (entP π s r.xid y ys)).ws w).err, ((headR (putP π s r.xid y ys).τ (entP π s r.xid y ys)).ws w).path, ((headR (putP π s r.xid y ys).τ (entP π s r.xid y ys)).ws w).data, ((headR (putP π s r.xid y ys).τ (entP π s r.xid y ys)).ws w).st, ((headR (putP π s r.xid y ys).τ (entP π s r.xid y ys)).ws w).aclV, ((headR (putP π s r.xid y ys).τ (entP π s r.xid y ys)).ws w).kidsV, ((headR (putP π s r.xid y ys).τ (entP π s r.xid y ys)).ws w).subsV⟩ : Rp)) ?_))
  refine .plFold (k := k) (putP π s r.xid y ys) hI2 (by repeat' constructor) (by rfl) (by rfl) (by rfl) (by rfl) (by rfl) (by rfl) (.then_n (.sr (.q (.to (v' := .agg (rpC (⟨r.xid, (putP π s r.xid y ys).τ.zx, ((headR (putP π s r.xid y ys).τ (entP π s r.xid y ys)).ws w).err, ((headR (putP π s r.xid y ys).τ (entP π s r.xid y ys)).ws w).path, ((headR (putP π s r.xid y ys).τ (entP π s r.xid y ys)).ws w).data, ((headR (putP π s r.xid y ys).τ (entP π s r.xid y ys)).ws w).st, ((headR (putP π s r.xid y ys).τ (entP π s r.xid y ys)).ws w).aclV, ((headR (putP π s r.xid y ys).τ (entP π s r.xid y ys)).ws w).kidsV, ((headR (putP π s r.xid y ys).τ (entP π s r.xid y ys)).ws w).subsV⟩ : Rp)).toArray) (.loadA rfl ag_41 (by repeat' constructor) (by simp)) (by rfl)) rfl (.sa rfl rfl sz_41 (by exact rpC_cells rfl rfl (by show isCell w = true; rw [hw]; rfl)) ?_))))
  refine .a rfl (.nil (.pc b6 (rpC (⟨r.xid, (putP π s r.xid y ys).τ.zx, ((headR (putP π s r.xid y ys).τ (entP π s r.xid y ys)).ws w).err, ((headR (putP π s r.xid y ys).τ (entP π s r.xid y ys)).ws w).path, ((headR (putP π s r.xid y ys).τ (entP π s r.xid y ys)).ws w).data, ((headR (putP π s r.xid y ys).τ (entP π s r.xid y ys)).ws w).st, ((headR (putP π s r.xid y ys).τ (entP π s r.xid y ys)).ws w).aclV, ((headR (putP π s r.xid y ys).τ (entP π s r.xid y ys)).ws w).kidsV, ((headR (putP π s r.xid y ys).τ (entP π s r.xid y ys)).ws w).subsV⟩ : Rp)) ?_))
  refine .then_n (.ret ?_)
  exact .d2 rfl (.cellA rfl ag_41 (by repeat' constructor) (by simp) rfl) (.tmp rfl) ⟨(putP π s r.xid y ys), (⟨r.xid, (putP π s r.xid y ys).τ.zx, ((headR (putP π s r.xid y ys).τ (entP π s r.xid y ys)).ws w).err, ((headR (putP π s r.xid y ys).τ (entP π s r.xid y ys)).ws w).path, ((headR (putP π s r.xid y ys).τ (entP π s r.xid y ys)).ws w).data, ((headR (putP π s r.xid y ys).τ (entP π s r.xid y ys)).ws w).st, ((headR (putP π s r.xid y ys).τ (entP π s r.xid y ys)).ws w).aclV, ((headR (putP π s r.xid y ys).τ (entP π s r.xid y ys)).ws w).kidsV, ((headR (putP π s r.xid y ys).τ (entP π s r.xid y ys)).ws w).subsV⟩ : Rp), [], 0, ⟨(fun g => absurd hse g), fun _ _ => ⟨rfl, rfl, y, ys, hy, hys, hc.1, hc.2, hcs, rfl, rfl⟩, fun _ g => absurd h16 g, fun _ => ⟨rfl, rfl⟩, rpC_cells rfl rfl (by show isCell w = true; rw [hw]; rfl), ⟨none, 0, rfl⟩⟩, rfl, rfl⟩
 refine .region (.m rfl (.m rfl (.q (.la (rqC r) rfl ag_33) rfl (.oq (.c Tryz.func28 [_, _, _] (plread_spec b k π s r subs l q hA (hs hse) n hB hn)) ?_))))
 rintro v L' ⟨x, kids, hR, rfl, rfl⟩
 refine .sa rfl rfl sz_41 (by exact hR.cells) ?_
 refine .nil (.pc b8 (rpC x) ?_)
 have hRc := rpC_of hR.cells
 refine .then_n (.seq (.plOpen (π := (readP π s r l).1) (by repeat' constructor) fun ov2 mi2 me2 hI2 => (.draw [7, 9, 11] [[0, 1, 2, 3, 4, 5, 6, 8, 7], [9], [10, 11]] mixed (by kernel_rfl) (.go [ptc b5 _ _] (by repeat' constructor) (.k rfl (.fieldAddr rfl fo_33_1) (.k rfl (.ld rfl ag_3) (.mv rfl rfl (.nf rfl rfl rfl fo_85_0 (.kv rfl (.fieldAddr rfl fo_81_0) (.kv rfl (.ld rfl ag_76) (.k rfl (.fieldAddr rfl fo_41_0) (.hh rfl (.c Tryz.func29 [_] (trzxid_spec k.t (readP π s r l).1.τ)) ?_))))))))))))
 rintro v L' ⟨rfl, rfl⟩
 refine D.ph (.g0 (.hh rfl (.store rfl rfl rfl sz_3 ?c101 (nfz0 _ _)) ?_))
 case c101 => simp
 rintro v L' rfl
 refine D.ph (.g0 (.kv rfl (.fieldAddr rfl fo_41_1) (.hh rfl (.store rfl rfl rfl sz_3 ?c105 (nfz0 _ _)) ?_)))
 case c105 => simp
 rintro v L' rfl
 refine D.ph (.fin (.pc b8 (rpC (⟨r.xid, (readP π s r l).1.τ.zx, x.err, x.path, x.data, x.st, x.aclV, x.kidsV, x.subsV⟩ : Rp)) ?_))
 refine .plFold (k := k) (readP π s r l).1 hI2 (by repeat' constructor) (by rfl) (by rfl) (by rfl) (by rfl) (by rfl) (by rfl) (.then_n (.sr (.q (.la (rpC (⟨r.xid, (readP π s r l).1.τ.zx, x.err, x.path, x.data, x.st, x.aclV, x.kidsV, x.subsV⟩ : Rp)) rfl ag_41) rfl (.sa rfl rfl sz_41 (by exact rpC_cells hRc.1 hRc.2.1 hRc.2.2) ?_))))
 refine .a rfl (.nil (.pc b6 (rpC (⟨r.xid, (readP π s r l).1.τ.zx, x.err, x.path, x.data, x.st, x.aclV, x.kidsV, x.subsV⟩ : Rp)) ?_))
 refine .then_n (.ret ?_)
 exact .d2 rfl (.cellA rfl ag_41 (by repeat' constructor) (by simp) rfl) (.tmp rfl) ⟨(readP π s r l).1, (⟨r.xid, (readP π s r l).1.τ.zx, x.err, x.path, x.data, x.st, x.aclV, x.kidsV, x.subsV⟩ : Rp), kids, 0, ⟨(fun g => absurd hse g), fun _ g => absurd g (by rw [h16]; decide), fun _ _ => ⟨rfl, rfl, x, hR, rfl⟩, fun _ => ⟨rfl, rfl⟩, rpC_cells hRc.1 hRc.2.1 hRc.2.2, hR.shape⟩, rfl, rfl⟩
def getQ (q : Bs) : Rq := ⟨9, 0, q, [], nilV, [], 0, 0, false, nilV, nilV⟩
def kidsQ (q : Bs) : Rq := ⟨11, 0, q, [], nilV, [], 0, 0, false, nilV, nilV⟩
def cut5 (s : Stt) : Stt := ⟨0, 0, 0, s.ver, s.cver, s.av, 0, s.len, s.kids⟩
def toldR13 (τ : Tr) (ids : List Bs) (q : Bs) (kv : Value) : Rp := ⟨0, 0, readX τ ids (getQ q), [], if readX τ ids (getQ q) = 0 then dataD τ q else [], if readX τ ids (getQ q) = 0 then cut5 (statD τ q) else st0, nilV, kv, nilV⟩
def toldB13 (τ : Tr) (ids : List Bs) (q : Bs) : Bs := repB (toldR13 τ ids q nilV) [] (readKl τ ids (kidsQ q)) []
def toldsB (τ : Tr) (ids : List Bs) (l : List Rq) : Bs := l.flatMap fun r => toldB13 τ ids r.path
theorem zT_readX (τ : Tr) (ids : List Bs) (r : Rq) : readX (zT τ) ids r = readX τ ids r := by
 unfold readX readE
 simp only [zT_there, zT_may]
theorem zT_data (τ : Tr) (p : Bs) : dataD (zT τ) p = dataD τ p := by
 unfold dataD
 rw [show alook (zT τ).nodes p = (alook τ.nodes p).map zN from zL_look _ _]
 cases alook τ.nodes p <;> rfl
theorem zT_told (τ : Tr) (ids : List Bs) (q : Bs) : toldB13 (zT τ) ids q = toldB13 τ ids q := by
 unfold toldB13 toldR13 readKl
 simp only [zT_readX, zT_data, zT_kids, zT_stat]
 rfl
theorem told_same {τ υ : Tr} (h : zT τ = zT υ) (ids : List Bs) (l : List Rq) : toldsB τ ids l = toldsB υ ids l := by
 unfold toldsB
 have : (fun r : Rq => toldB13 τ ids r.path) = fun r => toldB13 υ ids r.path := by
  funext r
  rw [← zT_told τ, h, zT_told]
 rw [this]
structure OneI (u : Who) (l : List Rq) (τ : Tr) (i : Nat) (σ υ : Tr) (xs : List Pt) : Prop where
 at_ : MultiAt u l τ i σ xs
 same : zT σ = zT υ
theorem OneI.zero (u : Who) (l : List Rq) {τ υ : Tr} (h : zT τ = zT υ) : OneI u l τ 0 τ υ [] := ⟨MultiAt.zero u l τ, h⟩
theorem OneI.part {u : Who} {l : List Rq} {τ σ υ : Tr} {i : Nat} {xs : List Pt} (h : OneI u l τ i σ υ xs) (r : Rq) : partP σ u r = partP υ u r := by rw [← zT_part σ, h.same, zT_part]
theorem OneI.ok {u : Who} {l : List Rq} {τ σ υ : Tr} {i : Nat} {xs : List Pt} (h : OneI u l τ i σ υ xs) (hi : i < l.length) (hl : ¬ (l.length = 0 ∨ l.length > 8)) (hk : (multiP τ u l).1.kind ≠ 8) : (partP υ u l[i]).2 = 0 := by
 refine Decidable.byContradiction fun g => hk ?_
 rw [← h.part] at g
 rw [h.at_.stop hi g hl]; rfl
theorem OneI.step {u : Who} {l : List Rq} {τ σ υ : Tr} {i : Nat} {xs : List Pt} (h : OneI u l τ i σ υ xs) (hi : i < l.length) (h0 : (partP υ u l[i]).2 = 0) (z : Int) :
  OneI u l τ (i + 1) (applyZ σ σ.zx (partP υ u l[i]).1 []).1 (applyZ υ z (partP υ u l[i]).1 []).1 (xs ++ [(partP υ u l[i]).1]) := by
 have e := h.part l[i]
 have hk := part_plain υ u l[i]
 refine ⟨by rw [← e] at h0 ⊢; exact h.at_.step hi h0, ?_⟩
 rw [apply_part hk, apply_part hk]
 exact zT_part1 (by rw [zT_zx, zT_zx]; exact h.same) _ _ _
theorem zT_parts {τ υ : Tr} (h : zT τ = zT υ) (zx zy : Int) : ∀ l : List Pt, zT (partsZ τ zx l).1 = zT (partsZ υ zy l).1 := by
 intro l
 unfold partsZ
 have H : ∀ (l : List Pt) (r r' : Tr × List Ev), zT r.1 = zT r'.1 → zT (l.foldl (fun r x => ((partZ r.1 x zx).1, r.2 ++ (partZ r.1 x zx).2)) r).1 = zT (l.foldl (fun r x => ((partZ r.1 x zy).1, r.2 ++ (partZ r.1 x zy).2)) r').1 := by
  intro l
  induction l with
  | nil => intro r r' h; exact h
  | cons x l ih =>
   intro r r' h
   rw [List.foldl_cons, List.foldl_cons]
   exact ih _ _ (zT_part1 h x zx zy)
 exact H l _ _ h
theorem multi_tree {u : Who} {τ σ υ : Tr} {xs : List Pt} (hx : zT σ = zT (partsZ τ 0 xs).1) (r : Rq) : zT (applyZ σ σ.zx (partP υ u r).1 []).1 = zT (partsZ τ 0 (xs ++ [(partP υ u r).1])).1 := by
 rw [apply_part (part_plain υ u _), parts_snoc]
 exact zT_part1 (by rw [zT_zx]; exact hx) _ _ _
theorem OneI.done {u : Who} {l : List Rq} {τ σ υ : Tr} {xs : List Pt} (h : OneI u l τ l.length σ υ xs) (hx : zT σ = zT (partsZ τ 0 xs).1) (hl : ¬ (l.length = 0 ∨ l.length > 8)) (z : Int) : zT (applyZ τ z (multiP τ u l).1 (multiP τ u l).2).1 = zT υ := by
 have e := h.at_.done hl
 rw [e, ← h.same, hx]
 unfold applyZ
 dsimp only
 rw [if_neg (by decide), if_neg (by decide), if_pos rfl]
 exact zT_parts (zT_zx τ z) z 0 xs
theorem err_tree {τ : Tr} {z : Int} {x : Pt} {l : List Pt} (h : x.kind = 8) : (applyZ τ z x l).1 = zxT τ z := by
 unfold applyZ
 dsimp only
 rw [if_neg (by omega), if_neg (by omega), if_neg (by omega), if_pos h]
/-! ### Tables that are read -/
theorem TzP.up {a p : HP} (hT : TzP p) : TzP (sep [a, p]) := by
 intro h w hp hle
 obtain ⟨h1, h2, _, a1, a2, _, h3⟩ := hp
 obtain ⟨h4, a4, hp4⟩ := sep_head (p := p) (L := []) h3
 exact hT h4 w hp4 (fun b o e => hle b o (a2 b o (a4 b o e)))
theorem armA_nil {q : HP} : ArmsA q nilV [] := ⟨fun _ _ => .inl ⟨rfl, rfl, none, 0, rfl⟩, Nat.zero_le _, fun _ h => by cases h⟩
def pathQ (k : Int) (p : Bs) : Rq := ⟨k, 0, p, [], nilV, [], 0, 0, false, nilV, nilV⟩
theorem pathQ_W {q : HP} (hT : TabP q) {s k : Int} (hs : I64 s) (hk : I64 k) {p : Bs} (hp : p.length ≤ 1048566) : WiA q ⟨s, []⟩ nilV (pathQ k p) :=
 ⟨⟨hk, I64.zero, I64.zero, I64.zero, hp, Nat.zero_le _, fun _ _ => .inl ⟨rfl, rfl, none, 0, rfl⟩, Nat.zero_le _, (fun _ h => by cases h), ⟨none, 0, 0, rfl⟩, ⟨none, 0, 0, rfl⟩⟩, hs, fun _ _ => .inl ⟨rfl, rfl, none, 0, rfl⟩, by show 0 ≤ _; decide, ⟨none, 0, 0, rfl⟩, ⟨none, 0, 0, rfl⟩, hT⟩
theorem pathQ_A {q : HP} (hT : TabP q) (hZ : TzP q) {s k : Int} (hs : I64 s) (hk : I64 k) {p : Bs} (hp : p.length ≤ 1048566) : CallA q s (pathQ k p) [] [] :=
 ⟨⟨pathQ_W hT hs hk hp, acl_nil_w, fun _ _ => .inl ⟨rfl, rfl, none, 0, rfl⟩, (fun _ h => by cases h), fun _ h => by cases h⟩, hZ, armA_nil⟩
/-! ### The first calls -/
def aw13 : Pl := (opnP newPl 10).1
def rqA13 (v : Value) : Rq := ⟨1, 4, [47, 97], [], v, acl31, 0, 0, false, nilV, nilV⟩
theorem aw13_B : PlB aw13 1 := newPl_B.opn (by decide) 10
theorem aw13_ses : sesT aw13.τ 1 := by decide +kernel
theorem part13_A (v : Value) : partP aw13.τ ⟨1, []⟩ (rqA13 v) = (⟨1, [47, 97], [], nilV, acl31, 0, 1, 0, nilV⟩, 0) := by
 rw [part_one rfl]
 have e : firstZ (createE aw13.τ ⟨1, []⟩ (rqA13 v)) = 0 := (by decide +kernel : firstZ (createE aw13.τ ⟨1, []⟩ (rqA13 nilV)) = 0)
 rw [e]
 have e2 : createX aw13.τ ⟨1, []⟩ (rqA13 v) = createX aw13.τ ⟨1, []⟩ (rqA13 nilV) := rfl
 rw [e2]
 show ((⟨1, fullZ aw13.τ (rqA13 nilV), [], nilV, acl31, if andI 0 1 ≠ 0 then 1 else 0, wrapI ((upS aw13.τ (rqA13 nilV)).cver + 1), 0, nilV⟩ : Pt), (0 : Int)) = _
 rw [show (upS aw13.τ (rqA13 nilV)).cver = 0 by decide +kernel, show fullZ aw13.τ (rqA13 nilV) = [47, 97] by decide +kernel, show wrapI (0 + 1) = 1 by decide, if_neg (by decide)]
theorem txn13_A (v : Value) : (txnP aw13.τ ⟨1, aw13.ids 1⟩ (rqA13 v) []).1.kind = 1 := by
 show (txnP aw13.τ ⟨1, []⟩ (rqA13 v) []).1.kind = 1
 unfold txnP
 rw [if_neg (by show ¬ ¬ changesK 1 = true; decide), if_neg (fun g => g aw13_ses), if_neg (by show ¬ (1 : Int) = 6; decide), if_neg (by show ¬ (1 : Int) = 7; decide), if_neg (by show ¬ (1 : Int) = 8; decide), part13_A, if_neg (by decide)]
theorem aw13_call {v : Value} {π : Pl} {x : Rp} {kids : List Bs} {e : Int} (h : CallZ aw13 1 (rqA13 v) [] [] π x kids e) : e = 0 ∧ x.err = 0 ∧ x.xid = 4 ∧ x.zx = 4294967298 ∧ ¬ sesT π.τ 9 := by
 have hk : changesK (rqA13 v).kind = true := by show changesK 1 = true; decide
 obtain ⟨he, -, y, ys, hy, hys, -, -, -, rfl, hx⟩ := h.chg aw13_ses hk
 obtain ⟨h1, h2⟩ := h.stamp aw13_ses
 have hk1 := congrArg Pt.kind hy
 rw [txn13_A] at hk1
 have hk1 : y.kind = 1 := hk1
 refine ⟨he, by rw [hx, if_neg (by omega)], h1, ?_, fun g => ?_⟩
 ·rw [h2]
  show (applyZ aw13.τ (zxN aw13) y ys).1.zx = _
  have := app_zx aw13.τ ⟨zxN aw13, 0, 0, y, ys⟩
  exact this.trans (by show zxN aw13 = _; decide +kernel)
 ·have hs : (applyZ aw13.τ (zxN aw13) y ys).1.sess = aw13.τ.sess := by
   unfold applyZ
   dsimp only
   rw [if_neg (by omega), if_neg (by omega), if_neg (by omega), if_neg (by omega)]
   exact part_sess _ _ _
  have g : (alook (applyZ aw13.τ (zxN aw13) y ys).1.sess 9).isSome = true := g
  rw [hs] at g
  exact absurd g (by decide +kernel)
/-! ### Sessions stay -/
theorem multi_not6 (τ : Tr) (u : Who) (l : List Rq) : (multiP τ u l).1.kind = 7 ∨ (multiP τ u l).1.kind = 8 := by
 unfold multiP
 split
 ·exact .inr rfl
 ·split
  ·exact .inr rfl
  ·exact .inl rfl
theorem txn_six {τ : Tr} {u : Who} {r : Rq} {subs : List Rq} (h : (txnP τ u r subs).1.kind = 6) : r.kind = 8 := by
 unfold txnP at h
 split at h
 ·exact absurd h (by show ¬ (8 : Int) = 6; decide)
 split at h
 ·exact absurd h (by show ¬ (8 : Int) = 6; decide)
 split at h
 ·have := multi_not6 τ u subs; omega
 split at h
 ·exact absurd h (by show ¬ (0 : Int) = 6; decide)
 split at h
 ·assumption
 split at h
 ·exact absurd h (by show ¬ (8 : Int) = 6; decide)
 ·exact absurd h (part_plain τ u r).2.1
theorem app_sess0 {τ : Tr} {z : Int} {y : Pt} {ys : List Pt} (h5 : y.kind ≠ 5) (h6 : y.kind ≠ 6) : (applyZ τ z y ys).1.sess = τ.sess := by
 have hp : ∀ l : List Pt, (partsZ (zxT τ z) z l).1.sess = τ.sess := fun l => by
  unfold partsZ
  have H : ∀ (l : List Pt) (r : Tr × List Ev), (l.foldl (fun r x => ((partZ r.1 x z).1, r.2 ++ (partZ r.1 x z).2)) r).1.sess = r.1.sess := by
   intro l
   induction l with
   | nil => intro r; rfl
   | cons x l ih => intro r; rw [List.foldl_cons, ih]; exact part_sess _ _ _
  exact H l (zxT τ z, [])
 unfold applyZ
 dsimp only
 rw [if_neg h5, if_neg h6]
 split
 ·exact hp _
 split
 ·rfl
 ·exact part_sess _ _ _
theorem read_tree (π : Pl) (s : Int) (r : Rq) (l : List Arm) : (readP π s r l).1.τ = π.τ ∧ (readP π s r l).1.ord = π.ord := by
 unfold readP
 split
 ·unfold authP
  split
  ·exact ⟨rfl, rfl⟩
  split
  ·exact ⟨rfl, rfl⟩
  split <;> exact ⟨rfl, rfl⟩
 split
 ·exact ⟨rfl, rfl⟩
 split
 ·exact ⟨rfl, rfl⟩
 ·unfold seeP
  split <;> exact ⟨rfl, rfl⟩
theorem put_sess {π : Pl} {s x : Int} {y : Pt} {ys : List Pt} {u : Who} {r : Rq} {subs : List Rq} (hy : y.pl = (txnP π.τ u r subs).1) (h8 : r.kind ≠ 8) : (putP π s x y ys).τ.sess = π.τ.sess := by
 have hk := congrArg Pt.kind hy
 have hk : y.kind = (txnP π.τ u r subs).1.kind := hk
 have h5 := txn_not5 π.τ u r subs
 exact app_sess0 (by rw [hk]; exact h5) (fun g => h8 (txn_six (hk.symm.trans g)))
theorem CallZ.sess {π : Pl} {s : Int} {r : Rq} {subs : List Rq} {l : List Arm} {π' : Pl} {x : Rp} {kids : List Bs} {e : Int} (h : CallZ π s r subs l π' x kids e) (h8 : r.kind ≠ 8) : π'.τ.sess = π.τ.sess := by
 by_cases hse : sesT π.τ s
 ·by_cases hk : changesK r.kind = true
  ·obtain ⟨-, -, y, ys, hy, -, -, -, -, rfl, -⟩ := h.chg hse hk
   exact put_sess hy h8
  ·obtain ⟨-, rfl, -⟩ := h.rd hse hk
   rw [(read_tree π s r l).1]
 ·obtain ⟨-, rfl, -⟩ := h.gone hse
  rfl
theorem CallZ.ses {π : Pl} {s : Int} {r : Rq} {subs : List Rq} {l : List Arm} {π' : Pl} {x : Rp} {kids : List Bs} {e : Int} (h : CallZ π s r subs l π' x kids e) (h8 : r.kind ≠ 8) {i : Int} (hs : sesT π.τ i) : sesT π'.τ i := by
 unfold sesT at hs ⊢
 rw [h.sess h8]; exact hs
theorem CallZ.ok {π : Pl} {s : Int} {r : Rq} {subs : List Rq} {l : List Arm} {π' : Pl} {x : Rp} {kids : List Bs} {e : Int} (h : CallZ π s r subs l π' x kids e) (hs : sesT π.τ s) : e = 0 := by
 by_cases hk : changesK r.kind = true
 ·exact (h.chg hs hk).1
 ·exact (h.rd hs hk).1
/-! ### Looks -/
theorem look_same {π : Pl} {s : Int} {r : Rq} {l : List Arm} (hw : r.watch = false) (hk : readK r.kind) : readP π s r l = (π, readX π.τ (π.ids s) r) := by
 unfold readK at hk
 unfold readP
 rw [if_neg (by omega), if_neg (by omega), if_neg (by omega)]
 unfold seeP
 exact if_pos (if_pos hw)
theorem look_call {π : Pl} {s : Int} {r : Rq} {subs : List Rq} {l : List Arm} {π' : Pl} {x : Rp} {kids : List Bs} {e : Int} (h : CallZ π s r subs l π' x kids e) (hs : sesT π.τ s) (hw : r.watch = false) (hk : readK r.kind) :
  e = 0 ∧ π = π' ∧ x.xid = r.xid ∧ x.zx = π.τ.zx ∧ x.err = readX π.τ (π.ids s) r ∧ x.data = (if readX π.τ (π.ids s) r = 0 ∧ r.kind = 9 then dataD π.τ r.path else []) ∧ x.st = (if readX π.τ (π.ids s) r = 0 then statD π.τ r.path else st0) ∧ kids = readKl π.τ (π.ids s) r := by
 have hc : ¬ changesK r.kind = true := by
  have hk2 := hk
  unfold readK at hk2
  rcases hk2 with g | g | g | g <;> rw [g] <;> decide
 obtain ⟨he, hp, x0, hR, hx⟩ := h.rd hs hc
 rw [look_same hw hk] at hp
 subst hp
 obtain ⟨av, kv, rfl, hkids⟩ := hR.told hw hk
 exact ⟨he, rfl, by rw [hx], by rw [hx], by rw [hx]; rfl, by rw [hx]; rfl, by rw [hx]; rfl, hkids⟩
/-! ### Two services that do the same -/
structure PlS (π ρ : Pl) : Prop where
 τ : π.τ = ρ.τ
 ω : π.ω = ρ.ω
 n : π.ord.length = ρ.ord.length
 o : π.opened = ρ.opened
 ids : π.ids = ρ.ids
 ev : π.ev = ρ.ev
theorem PlS.refl (π : Pl) : PlS π π := ⟨rfl, rfl, rfl, rfl, rfl, rfl⟩
theorem app_pl {τ : Tr} {z : Int} {y y' : Pt} {ys ys' : List Pt} (h : y.pl = y'.pl) (hs : ys.map Pt.pl = ys'.map Pt.pl) : applyZ τ z y ys = applyZ τ z y' ys' := by
 rw [← apply_plm, h, hs, apply_plm]
theorem pl_kind {y y' : Pt} (h : y.pl = y'.pl) : y.kind = y'.kind ∧ y.own = y'.own ∧ y.err = y'.err := by
 have h1 := congrArg Pt.kind h
 have h2 := congrArg Pt.own h
 have h3 := congrArg Pt.err h
 exact ⟨h1, h2, h3⟩
theorem PlS.put {π ρ : Pl} (h : PlS π ρ) (s x : Int) {y y' : Pt} {ys ys' : List Pt} (hy : y.pl = y'.pl) (hs : ys.map Pt.pl = ys'.map Pt.pl) : PlS (putP π s x y ys) (putP ρ s x y' ys') := by
 have hz : zxN π = zxN ρ := by unfold zxN; rw [h.n]
 have hk := (pl_kind hy).1
 have ho := (pl_kind hy).2.1
 have ha : applyZ π.τ (zxN π) y ys = applyZ ρ.τ (zxN ρ) y' ys' := by rw [h.τ, hz]; exact app_pl hy hs
 refine ⟨?_, ?_, ?_, h.o, ?_, ?_⟩
 ·show (applyZ π.τ (zxN π) y ys).1 = _
  rw [ha]; rfl
 ·show (if y.kind = 6 then _ else _ : List Wt) = (if y'.kind = 6 then _ else _)
  rw [ha, h.ω, hk, ho]
 ·show (π.ord ++ [_]).length = (ρ.ord ++ [_]).length
  rw [List.length_append, List.length_append, h.n]; rfl
 ·show (if y.kind = 6 then setF π.ids y.own [] else π.ids) = (if y'.kind = 6 then setF ρ.ids y'.own [] else ρ.ids)
  rw [hk, ho, h.ids]
 ·show (if y.kind = 6 then setF (tellF π.ev (fireL π.ω (applyZ π.τ (zxN π) y ys).2.1).2) y.own [] else tellF π.ev (fireL π.ω (applyZ π.τ (zxN π) y ys).2.1).2) = (if y'.kind = 6 then setF (tellF ρ.ev (fireL ρ.ω (applyZ ρ.τ (zxN ρ) y' ys').2.1).2) y'.own [] else tellF ρ.ev (fireL ρ.ω (applyZ ρ.τ (zxN ρ) y' ys').2.1).2)
  rw [ha, h.ω, hk, ho, h.ev]
theorem PlS.read {π ρ : Pl} (h : PlS π ρ) (s : Int) (r : Rq) (l : List Arm) : PlS (readP π s r l).1 (readP ρ s r l).1 ∧ (readP π s r l).2 = (readP ρ s r l).2 := by
 have hA : PlS (authP π s r).1 (authP ρ s r).1 ∧ (authP π s r).2 = (authP ρ s r).2 := by
  unfold authP
  rw [h.ids]
  split
  ·exact ⟨h, rfl⟩
  split
  ·exact ⟨h, rfl⟩
  split
  ·exact ⟨h, rfl⟩
  ·exact ⟨⟨h.τ, h.ω, h.n, h.o, rfl, h.ev⟩, rfl⟩
 have hM : PlS (armP π s l) (armP ρ s l) := by
  unfold armP
  refine ⟨h.τ, ?_, h.n, h.o, h.ids, ?_⟩
  ·dsimp only; rw [h.τ, h.ω]
  ·dsimp only; rw [h.τ, h.ω, h.ev]
 have hS : PlS (seeP π s r).1 (seeP ρ s r).1 ∧ (seeP π s r).2 = (seeP ρ s r).2 := by
  unfold seeP
  rw [h.ids, h.τ, h.ω]
  split
  ·exact ⟨h, rfl⟩
  ·exact ⟨⟨rfl, rfl, h.n, h.o, rfl, h.ev⟩, rfl⟩
 unfold readP
 split
 ·exact hA
 split
 ·exact ⟨hM, rfl⟩
 split
 ·exact ⟨h, rfl⟩
 ·exact hS
theorem PlS.call {π ρ : Pl} (h : PlS π ρ) {s : Int} {r : Rq} {subs : List Rq} {l : List Arm} {π' ρ' : Pl} {x x' : Rp} {kids kids' : List Bs} {e e' : Int} (h1 : CallZ π s r subs l π' x kids e) (h2 : CallZ ρ s r subs l ρ' x' kids' e') : PlS π' ρ' ∧ e = e' ∧ x.err = x'.err := by
 by_cases hse : sesT π.τ s
 ·have hse2 : sesT ρ.τ s := h.τ ▸ hse
  by_cases hk : changesK r.kind = true
  ·obtain ⟨he, -, y, ys, hy, hys, -, -, -, rfl, hx⟩ := h1.chg hse hk
   obtain ⟨he', -, y', ys', hy', hys', -, -, -, rfl, hx'⟩ := h2.chg hse2 hk
   have e1 : y.pl = y'.pl := by rw [hy, hy', h.τ, h.ids]
   have e2 : ys.map Pt.pl = ys'.map Pt.pl := by rw [hys, hys', h.τ, h.ids]
   have ek := (pl_kind e1).1
   have ee := (pl_kind e1).2.2
   exact ⟨h.put s r.xid e1 e2, by rw [he, he'], by rw [hx, hx', ek, ee]⟩
  ·obtain ⟨he, rfl, x0, hR, hx⟩ := h1.rd hse hk
   obtain ⟨he', rfl, x0', hR', hx'⟩ := h2.rd hse2 hk
   have := h.read s r l
   exact ⟨this.1, by rw [he, he'], by rw [hx, hx']; exact hR.err.trans (this.2.trans hR'.err.symm)⟩
 ·have hse2 : ¬ sesT ρ.τ s := h.τ ▸ hse
  obtain ⟨he, rfl, hx, -⟩ := h1.gone hse
  obtain ⟨he', rfl, hx', -⟩ := h2.gone hse2
  exact ⟨h, by rw [he, he'], by rw [hx, hx']⟩
structure Sp13 where
 what : Int
 ses : Int
 tmo : Int
 r : Rq
 subs : List Rq
 arm : List Arm
 far : Bool
def spC (x : Sp13) : List Value := [vint x.what, vint x.ses, vint x.tmo] ++ rqC x.r ++ [.bool x.far]
structure StA (p : HP) (v : Value) (xs : List Sp13) : Prop where
 cells : ∀ h : Hp, p h → rdS 14 h v xs.length (xs.flatMap spC)
 len : xs.length ≤ 1048576
 nums : ∀ x ∈ xs, I64 x.what ∧ I64 x.ses ∧ I64 x.tmo
 each : ∀ x ∈ xs, ∀ s, I64 s → CallA p s x.r x.subs x.arm
structure PaA (p : HP) (v : Value) (l : List Rq) : Prop where
 cells : ∀ h : Hp, p h → rdS 10 h v l.length (l.flatMap rqC)
 len : l.length ≤ 1048576
 each : ∀ r ∈ l, ∀ s, I64 s → ∃ subs arm, CallA p s r subs arm
theorem toldB13_len {τ : Tr} (hw : TrW τ) {N : Nat} (ho : τ.Ok N) (hN : N ≤ 1048576) (ids : List Bs) (q : Bs) : (toldB13 τ ids q).length ≤ 1134629911619 := by
 have h1 := readKl_w ho hN ids (kidsQ q)
 have h2 := txs_len h1.1 h1.2
 have hR := read_i hw ho hN (ids := ids) (r := getQ q) I64.zero nilV nilV
 have hI : RpI (toldR13 τ ids q nilV) := by
  refine ⟨I64.zero, I64.zero, hR.err, Nat.zero_le _, ?_, fun n hn => ?_⟩
  ·show (if readX τ ids (getQ q) = 0 then dataD τ q else []).length ≤ _
   split
   ·exact data_w hw _
   ·exact Nat.zero_le _
  ·have hn : n ∈ nums9 (if readX τ ids (getQ q) = 0 then cut5 (statD τ q) else st0) := hn
   split at hn
   ·have h9 := st9_i64 hw ho (by omega) q
    simp only [nums9, cut5, List.mem_cons, List.not_mem_nil, or_false] at hn
    rcases hn with rfl | rfl | rfl | rfl | rfl | rfl | rfl | rfl | rfl <;> first | exact I64.zero | exact h9 _ (by simp [nums9])
   ·have := hn
    simp only [nums9, st0, List.mem_cons, List.not_mem_nil, or_false, or_self] at this
    rw [this]; exact I64.zero
 have h3 := ans_len hI (acl := []) aclB_nil (kids := readKl τ ids (kidsQ q))
 unfold toldB13 repB
 simp only [List.length_append, List.flatMap_nil, List.length_nil]
 have : (cntB 0).length = 1 := by simp [cntB, sevZ]
 omega
theorem toldR13_L {τ : Tr} (hw : TrW τ) {N : Nat} (ho : τ.Ok N) (hN : N ≤ 1048576) (ids : List Bs) (q : Bs) {p : HP} {kv : Value} (hk : ∀ h : Hp, p h → rdS 1 h kv (readKl τ ids (kidsQ q)).length (strs (readKl τ ids (kidsQ q)))) (hsh : ∃ a c, kv = .slice a (readKl τ ids (kidsQ q)).length c) : RpL p (toldR13 τ ids q kv) [] (readKl τ ids (kidsQ q)) [] := by
 have h1 := readKl_w ho hN ids (kidsQ q)
 have hR := read_i hw ho hN (ids := ids) (r := getQ q) I64.zero nilV nilV
 have nil : ∀ (sz : Nat) (h : Hp), rdS sz h nilV 0 [] := fun _ _ => .inl ⟨rfl, rfl, none, 0, rfl⟩
 obtain ⟨a, c, e⟩ := hsh
 refine ⟨⟨⟨I64.zero, I64.zero, hR.err, Nat.zero_le _, ?_, fun n hn => ?_⟩, fun h _ => nil 2 h, acl_nil_w, hk, h1.1, h1.2⟩, fun h _ => nil 17 h, Nat.zero_le _, (fun _ h => by cases h), (fun _ h => by cases h), ⟨none, 0, 0, rfl⟩, ⟨a, _, c, e⟩⟩
 ·show (if readX τ ids (getQ q) = 0 then dataD τ q else []).length ≤ _
  split
  ·exact data_w hw _
  ·exact Nat.zero_le _
 ·have hn : n ∈ nums9 (if readX τ ids (getQ q) = 0 then cut5 (statD τ q) else st0) := hn
  split at hn
  ·have h9 := st9_i64 hw ho (by omega) q
   simp only [nums9, cut5, List.mem_cons, List.not_mem_nil, or_false] at hn
   rcases hn with rfl | rfl | rfl | rfl | rfl | rfl | rfl | rfl | rfl <;> first | exact I64.zero | exact h9 _ (by simp [nums9])
  ·have := hn
   simp only [nums9, st0, List.mem_cons, List.not_mem_nil, or_false, or_self] at this
   rw [this]; exact I64.zero
theorem toldR13_eq {τ : Tr} {ids : List Bs} {q : Bs} {e : Int} {d : Bs} {s : Stt} (kv : Value) (he : e = readX τ ids (pathQ 9 q)) (hd : d = (if readX τ ids (pathQ 9 q) = 0 ∧ (pathQ 9 q).kind = 9 then dataD τ (pathQ 9 q).path else [])) (hs : s = (if readX τ ids (pathQ 9 q) = 0 then statD τ (pathQ 9 q).path else st0)) :
  (⟨0, 0, e, [], d, cut5 s, nilV, kv, nilV⟩ : Rp) = toldR13 τ ids q kv := by
 subst he; subst hd; subst hs
 unfold toldR13
 have e1 : getQ q = pathQ 9 q := rfl
 rw [e1]
 by_cases g : readX τ ids (pathQ 9 q) = 0
 ·rw [if_pos ⟨g, rfl⟩, if_pos g, if_pos g, if_pos g]; rfl
 ·rw [if_neg (fun h => g h.1), if_neg g, if_neg g, if_neg g]; rfl
theorem toldsB_at {τ : Tr} {ids : List Bs} {l : List Rq} {i : Nat} (hi : i < l.length) : toldsB τ ids (l.take (i + 1)) = toldsB τ ids (l.take i) ++ toldB13 τ ids l[i].path := by
 unfold toldsB
 rw [List.take_succ_eq_append_getElem hi, List.flatMap_append]; simp
theorem toldsB_len {τ : Tr} (hw : TrW τ) {N : Nat} (ho : τ.Ok N) (hN : N ≤ 1048576) (ids : List Bs) (l : List Rq) : (toldsB τ ids l).length ≤ l.length * 1134629911619 :=
 fm_most8 (f := fun r : Rq => toldB13 τ ids r.path) (fun r _ => toldB13_len hw ho hN ids r.path)
theorem told_repB (τ : Tr) (ids : List Bs) (q : Bs) (kv : Value) : repB (toldR13 τ ids q kv) [] (readKl τ ids (kidsQ q)) [] = toldB13 τ ids q := rfl
/-! ### A multi -/
def multQ (w : Value) : Rq := ⟨6, 0, [], [], nilV, [], 0, 0, false, w, nilV⟩
theorem multL_err {u : Who} : ∀ {l : List Rq} {τ : Tr} {i : Nat} {e : Int}, (multiL u l τ).2.2 = some (i, e) → e ≠ 0
 | [], _, _, _, h => by cases h
 | r :: l, τ, i, e, h => by
  rw [multi_cons] at h
  split at h
  ·rename_i g
   simp only [Option.some.injEq, Prod.mk.injEq] at h
   rw [← h.2]; exact g
  ·dsimp only at h
   rcases hm : (multiL u l (applyZ τ τ.zx (partP τ u r).1 []).1).2.2 with _ | ⟨j, f⟩
   ·rw [hm] at h; cases h
   ·rw [hm] at h
    simp only [Option.map_some, Option.some.injEq, Prod.mk.injEq] at h
    rw [← h.2]; exact multL_err hm
theorem multP_err {τ : Tr} {u : Who} {l : List Rq} (h : (multiP τ u l).1.kind = 8) : (multiP τ u l).1.err ≠ 0 := by
 unfold multiP at h ⊢
 split
 ·show (1 : Int) ≠ 0; decide
 ·rename_i g
  rw [if_neg g] at h
  split
  ·rename_i i e he
   exact multL_err he
  ·rename_i he
   rw [he] at h
   exact absurd h (by show ¬ (7 : Int) = 8; decide)
theorem multP_len {τ : Tr} {u : Who} {l : List Rq} (h : (multiP τ u l).1.kind ≠ 8) : ¬ (l.length = 0 ∨ l.length > 8) := fun g => h (by unfold multiP; rw [if_pos g]; rfl)
structure Mult13 (π : Pl) (m : List Rq) (π3 : Pl) (x : Rp) : Prop where
 ids : π3.ids = π.ids
 bad : x.err ≠ 0 → zT π3.τ = zT π.τ
 good : x.err = 0 → (multiP π.τ ⟨1, π.ids 1⟩ m).1.kind ≠ 8 ∧ zT π3.τ = zT (applyZ π.τ (zxN π) (multiP π.τ ⟨1, π.ids 1⟩ m).1 (multiP π.τ ⟨1, π.ids 1⟩ m).2).1
theorem mult13 {π π3 : Pl} {w : Value} {m : List Rq} {l : List Arm} {x : Rp} {kids : List Bs} {e : Int} (h : CallZ π 1 (multQ w) m l π3 x kids e) (hs : sesT π.τ 1) : Mult13 π m π3 x := by
 obtain ⟨-, -, y, ys, hy, hys, -, -, -, rfl, hx⟩ := h.chg hs (by show changesK 6 = true; decide)
 rw [txn_multi hs rfl] at hy hys
 have hk : y.kind = (multiP π.τ ⟨1, π.ids 1⟩ m).1.kind := by have := congrArg Pt.kind hy; exact this
 have he : y.err = (multiP π.τ ⟨1, π.ids 1⟩ m).1.err := by have := congrArg Pt.err hy; exact this
 have h6 : ¬ y.kind = 6 := by have := multi_not6 π.τ ⟨1, π.ids 1⟩ m; omega
 refine ⟨?_, fun g => ?_, fun g => ?_⟩
 ·show (if y.kind = 6 then _ else _) = _
  rw [if_neg h6]
 ·have h8 : y.kind = 8 := by
   refine Decidable.byContradiction fun k => g ?_
   rw [hx, if_neg k]
  show zT (applyZ π.τ (zxN π) y ys).1 = _
  rw [err_tree h8]; rfl
 ·have h8 : y.kind ≠ 8 := fun k => by
   rw [hx, if_pos k] at g
   exact multP_err (hk.symm.trans k) (he.symm.trans g)
  refine ⟨fun k => h8 (hk.trans k), ?_⟩
  show zT (applyZ π.τ (zxN π) y ys).1 = _
  rw [← apply_plm, hy, hys]
def OneJ (u : Who) (m : List Rq) (τ : Tr) (i : Nat) (υ : Tr) : Prop := ∃ σ xs, OneI u m τ i σ υ xs ∧ zT σ = zT (partsZ τ 0 xs).1
theorem OneJ.zero (u : Who) (m : List Rq) {τ υ : Tr} (h : zT τ = zT υ) : OneJ u m τ 0 υ := ⟨τ, [], OneI.zero u m h, rfl⟩
theorem OneJ.step {ρ ρ' : Pl} {s : Int} {m : List Rq} {τ : Tr} {i : Nat} (h : OneJ ⟨s, ρ.ids s⟩ m τ i ρ.τ) (hi : i < m.length) (hm : (multiP τ ⟨s, ρ.ids s⟩ m).1.kind ≠ 8) (hk : 1 ≤ m[i].kind ∧ m[i].kind ≤ 4) {subs : List Rq} {l : List Arm} {x : Rp} {kids : List Bs} {e : Int} (hC : CallZ ρ s m[i] subs l ρ' x kids e) (hs : sesT ρ.τ s) :
  OneJ ⟨s, ρ.ids s⟩ m τ (i + 1) ρ'.τ ∧ x.err = 0 ∧ ρ'.ids = ρ.ids ∧ e = 0 := by
 obtain ⟨σ, xs, hO, hx⟩ := h
 have h0 := hO.ok hi (multP_len hm) hm
 have hc : changesK m[i].kind = true := by
  have : m[i].kind = 1 ∨ m[i].kind = 2 ∨ m[i].kind = 3 ∨ m[i].kind = 4 := by omega
  rcases this with g | g | g | g <;> rw [g] <;> decide
 obtain ⟨he, -, y, ys, hy, hys, -, -, -, rfl, hxe⟩ := hC.chg hs hc
 rw [txn_one hs (by omega), if_neg (by omega)] at hy hys
 have hp := part_plain ρ.τ ⟨s, ρ.ids s⟩ m[i]
 have hkk : y.kind = (partP ρ.τ ⟨s, ρ.ids s⟩ m[i]).1.kind := by have := congrArg Pt.kind hy; exact this
 have h6 : ¬ y.kind = 6 := by rw [hkk]; exact hp.2.1
 have h8 : ¬ y.kind = 8 := by rw [hkk]; exact hp.2.2.2
 refine ⟨⟨_, _, ?_, multi_tree (u := ⟨s, ρ.ids s⟩) (υ := ρ.τ) hx m[i]⟩, by rw [hxe, if_neg h8], ?_, he⟩
 ·have := hO.step hi h0 (zxN ρ)
  have ea : (applyZ ρ.τ (zxN ρ) y ys).1 = (applyZ ρ.τ (zxN ρ) (partP ρ.τ ⟨s, ρ.ids s⟩ m[i]).1 []).1 := by rw [← apply_plm, hy, hys]
  show OneI _ m τ (i + 1) _ (applyZ ρ.τ (zxN ρ) y ys).1 _
  rw [ea]; exact this
 ·show (if y.kind = 6 then _ else _) = _
  rw [if_neg h6]
theorem OneJ.done {u : Who} {m : List Rq} {τ υ : Tr} (h : OneJ u m τ m.length υ) (hm : (multiP τ u m).1.kind ≠ 8) (z : Int) : zT (applyZ τ z (multiP τ u m).1 (multiP τ u m).2).1 = zT υ := by
 obtain ⟨σ, xs, hO, hx⟩ := h
 exact hO.done hx (multP_len hm) z
theorem aw13_A {q : HP} (hT : TabP q) (hZ : TzP q) {v : Value} (hv : ∃ a n c, v = .slice a n c) (ha : ∀ h : Hp, q h → rdS 2 h v acl31.length (acl31.flatMap acC)) : CallA q 1 (rqA13 v) [] [] := by
 have i1 : I64 1 := ⟨by decide, by decide⟩
 have i4 : I64 4 := ⟨by decide, by decide⟩
 refine ⟨⟨WiA.mk0 i1 hT ⟨i1, i4, I64.zero, I64.zero⟩ ⟨by show 2 ≤ 64; decide, by show 0 ≤ 64; decide⟩ ha ⟨by show 1 ≤ 8; decide, fun a h => ?_⟩ hv ⟨none, 0, 0, rfl⟩ ⟨none, 0, 0, rfl⟩, acl31_w, fun _ _ => .inl ⟨rfl, rfl, none, 0, rfl⟩, (fun _ h => by cases h), fun _ h => by cases h⟩, hZ, armA_nil⟩
 obtain rfl := List.mem_singleton.1 (show a ∈ acl31 from h)
 exact ⟨⟨by decide, by decide⟩, by decide⟩
theorem mult_A {q : HP} {T : TypeId} {w : Value} {l m : List Rq} {v : Value} (hP : PaA q v l) (hm : ∀ r ∈ m, r ∈ l) (hT : TabP q) (hZ : TzP q) (hw : ∃ a c, w = .slice a m.length c) {s : Int} (hs : I64 s) : CallA (sep [slR T 10 w m.length (m.flatMap rqC), q]) s (multQ w) m [] := by
 obtain ⟨a, c, e⟩ := hw
 have hW := (pathQ_W (q := sep [slR T 10 w m.length (m.flatMap rqC), q]) hT.up hs (k := 6) ⟨by decide, by decide⟩ (p := []) (Nat.zero_le _)).rq
 refine ⟨⟨⟨⟨hW.kind, hW.xid, hW.flags, hW.ver, hW.path, hW.data, hW.acl, hW.many, hW.ids, ⟨a, _, c, e⟩, hW.arm⟩, hs, fun _ _ => .inl ⟨rfl, rfl, none, 0, rfl⟩, by show 0 ≤ _; decide, ⟨none, 0, 0, rfl⟩, ⟨none, 0, 0, rfl⟩, hT.up⟩, acl_nil_w, rd_head (fun _ hp => slR_rd hp), fun x hx => ?_, fun x hx => ?_⟩, hZ.up, armA_nil⟩
 ·obtain ⟨subs, arm, hA⟩ := hP.each x (hm x hx) s hs
  exact hA.d.w.up
 ·obtain ⟨subs, arm, hA⟩ := hP.each x (hm x hx) s hs
  exact hA.d.a
theorem r2texts_spec (va : Value) (l : List Bs) (p : HP) (hp : ∀ h : Hp, p h → rdS 1 h va l.length (strs l)) (hl : l.length ≤ 1048576) (hs : ∀ s ∈ l, s.length ≤ 1048576) : Fn Tryz.prog 112 #[va] [p] fun v L => v = vstr (txsB l) ∧ L = [p] := by
 refine Fn.intro Tryz.func112 rfl rfl fun F W => ?_
 refine .rdAny (p := p) hp (by repeat' constructor) fun aa ca e _ => ?_
 subst e
 have htl := txs_len hl hs
 have hll : (txsB l).length = (cntB l.length).length + (l.flatMap txtB).length := by unfold txsB; rw [List.length_append]
 refine .sr (.an rfl (.sm rfl (.q (.slen rfl Tryz.underlying38 rfl) rfl (.cv Tryz.func59 [_] (r1cnt_spec l.length (by omega)) ?_))))
 refine .an rfl (.seq (.sr (.an rfl (.block (.loopK (ι := Nat × Bs) (fun q E => (4, vint q.1) :: (3, vstr q.2) :: E) (fun q => []) (fun q => q.1 ≤ l.length ∧ q.2 = cntB l.length ++ (l.take q.1).flatMap txtB) (fun q => l.length - q.1) (0, cntB l.length) (ts := [0, 2]) (.cons rfl (.cons rfl (.nil))) (⟨Nat.zero_le _, by simp⟩) ⟨rfl, rfl, rfl, rfl, trivial⟩ (by repeat' constructor) ?_)))))
 rintro ⟨i, t⟩ ⟨hj, ht⟩
 dsimp only
 dsimp only at hj ht
 have htl2 : t.length = (cntB l.length).length + ((l.take i).flatMap txtB).length := by rw [ht, List.length_append]
 refine .seq (.sm rfl (.m rfl (.q (.slen rfl Tryz.underlying38 rfl) rfl (.ui rfl rfl rfl (.nt (.condD rfl (fun h11 => ?_) (fun h11 => ?_)))))))
 ·have hi2 : i < l.length := by omega
  have hfs := fm_stepL txtB hi2
  have hsl := hs _ (List.getElem_mem hi2)
  have htx := txs_each (s := l[i]) (by omega)
  refine .rdShape (p := p) hp (by repeat' constructor) (by omega) fun ba oa e => ?_
  subst e
  refine .sk (.seq (.block (.region (.m rfl (.m rfl (.m rfl (.q (.indexAddr rfl rfl el_38 (by omega)) rfl (.q (.loadEl (p := p) (i := i * 1) (v := vstr l[i]) rfl ag_9 (by repeat' constructor) hp (by rw [Nat.mul_one]; simp [hi2])) rfl (.cv Tryz.func110 [_] (r1txt_spec l[i] (by omega)) ?_)))))))))
  refine .q (.concat rfl rfl (by omega)) rfl (.a rfl (.nil (.blk_n (.then_n (.region (.m rfl (.q (.add rfl rfl (by omega)) rfl (.an rfl ?_))))))))
  exact .rk ((i + 1, t ++ txtB l[i])) (⟨by dsimp only; omega, by dsimp only; rw [fm_step txtB hi2, ht]; simp only [List.append_assoc]⟩) (by dsimp only; omega) ⟨rfl, rfl, rfl, rfl, trivial⟩
 have hie : i = l.length := by omega
 have hfin : t = txsB l := by rw [ht, hie, List.take_length]; rfl
 subst hfin
 refine .exit (.then_e (.then_e (.blk_e (.then_n (.sm rfl (.an rfl (.ret ?_)))))))
 exact .vv
theorem r2answer_spec (x : Rp) (acl : List Ac) (kids : List Bs) (p : HP) (h : AnL p x acl kids) (ha : isCell x.aclV = true) (hk : isCell x.kidsV = true) (hs : isCell x.subsV = true) : Fn Tryz.prog 58 #[.agg (rpC x).toArray] [p] fun v L => v = vstr (ansB x acl kids) ∧ L = [p] := by
 refine Fn.intro Tryz.func58 rfl rfl fun F W => ?_
 have hi := h.i
 have hal := h.aclI.long
 have htl := txs_len h.few h.each
 have hx1 := txs_each hi.path
 have hx2 := txs_each (s := x.data) (by have := hi.data; omega)
 have hn3 := nums_most (l := [x.xid, x.zx, x.err]) (fun n hn => by simp only [List.mem_cons, List.not_mem_nil, or_false] at hn; rcases hn with rfl | rfl | rfl; exact hi.xid; exact hi.zx; exact hi.err)
 have hn9 := nums_most hi.st
 have hn9l : (nums9 x.st).length = 9 := rfl
 rw [hn9l] at hn9
 simp only [List.length_cons, List.length_nil] at hn3
 have hpl := hi.path
 have hdl := hi.data
 refine .sr (.oq (.box rfl) ?_)
 rintro v L' ⟨b1, rfl, rfl⟩
 refine .a rfl (.nil (.pc b1 (rpC x) ?_))
 refine .then_n (.sr (.u (.fieldAddr rfl fo_41_5) (.q (.loadAs (vs := stC x.st) rfl ag_37 (by repeat' constructor) (by simp) rfl) rfl (.oq (.allocA ze_37) ?_))))
 rintro v L' ⟨b3, rfl, rfl⟩
 refine .sa rfl rfl sz_37 (by intro v hv; simp only [stC, List.mem_cons, List.not_mem_nil, or_false] at hv; rcases hv with rfl | rfl | rfl | rfl | rfl | rfl | rfl | rfl | rfl <;> rfl) ?_
 refine .nil (.pc b3 (stC x.st) ?_)
 refine .then_n (.seq (.draw [6, 7, 34, 35] [[0, 1, 2, 3, 4, 5, 8, 9, 12, 13, 16, 17, 18, 19, 20, 21, 22, 23, 24, 25, 26, 27, 28, 29, 30, 31, 32, 33, 37, 38, 41, 42, 6, 7, 10, 11, 14, 15, 34, 35, 36, 39, 40, 43], [44, 45]] mixed (by kernel_rfl) (.go [ptc b1 _ _, ptc b3 _ _, p] (by repeat' constructor) (.k rfl (.fieldAddr rfl fo_41_0) (.k rfl (.ld rfl ag_3) (.k rfl (.fieldAddr rfl fo_41_1) (.k rfl (.ld rfl ag_3) (.k rfl (.fieldAddr rfl fo_41_2) (.k rfl (.ld rfl ag_27) (.k rfl (.fieldAddr rfl fo_41_3) (.k rfl (.ld rfl ag_9) (.k rfl (.fieldAddr rfl fo_41_4) (.k rfl (.ld rfl ag_9) (.k rfl (.fieldAddr rfl fo_37_0) (.k rfl (.ld rfl ag_3) (.k rfl (.fieldAddr rfl fo_37_1) (.k rfl (.ld rfl ag_3) (.k rfl (.fieldAddr rfl fo_37_2) (.k rfl (.ld rfl ag_3) (.k rfl (.fieldAddr rfl fo_37_3) (.k rfl (.ld rfl ag_3) (.k rfl (.fieldAddr rfl fo_37_4) (.k rfl (.ld rfl ag_3) (.k rfl (.fieldAddr rfl fo_37_5) (.k rfl (.ld rfl ag_3) (.k rfl (.fieldAddr rfl fo_37_6) (.k rfl (.ld rfl ag_3) (.k rfl (.fieldAddr rfl fo_37_7) (.k rfl (.ld rfl ag_3) (.k rfl (.fieldAddr rfl fo_37_8) ?_))))))))))))))))))))))))))))))
 refine D.k rfl (.ld rfl ag_3) (.k rfl (.fieldAddr rfl fo_41_6) (.k rfl (.ld rfl ag_30) (.k rfl (.fieldAddr rfl fo_41_7) (.k rfl (.ld rfl ag_38) (.h2 (k := 34) rfl rfl (by kernel_rfl) rfl (.buildSlice1 (vs := [_, _, _]) el_86 ze_3 rfl rfl rfl rfl rfl (by decide)) (by repeat' constructor) (.buildSlice1 (vs := [_, _, _, _, _, _, _, _, _]) el_86 ze_3 rfl rfl rfl rfl rfl (by decide)) (by repeat' constructor) ?_ ?_)))))
 ·rintro v L' ⟨b4, rfl, rfl⟩
  refine D.h2 (k := 34) rfl rfl (by kernel_rfl) rfl (.call Tryz.func109 rfl rfl (vs := [_]) rfl (r2nums_spec _ ([x.xid, x.zx, x.err]) (ptc b4 (ints ([x.xid, x.zx, x.err])) 3) (fun h hp => slR_rd (slR_pt hp rfl)) (fun n hn => by simp only [List.mem_cons, List.not_mem_nil, or_false] at hn; rcases hn with rfl | rfl | rfl; exact hi.xid; exact hi.zx; exact hi.err) (by simp [nums9]))) (by repeat' constructor) (.buildSlice1 (vs := [_, _, _, _, _, _, _, _, _]) el_86 ze_3 rfl rfl rfl rfl rfl (by decide)) (by repeat' constructor) ?_ ?_
  ·rintro v L' ⟨rfl, rfl⟩
   refine D.m rfl (by kernel_rfl) (.c Tryz.func110 [_] (r1txt_spec x.path (by omega))) (by repeat' constructor) ?_
   refine D.k rfl (.concat rfl rfl (by simp only [List.length_append, txtB] at *; omega)) (.m rfl (by kernel_rfl) (.c Tryz.func110 [_] (r1txt_spec x.data (by omega))) (by repeat' constructor) ?_)
   refine D.k rfl (.concat rfl rfl (by simp only [List.length_append, txtB] at *; omega)) (.hh rfl (.buildSlice1 (vs := [_, _, _, _, _, _, _, _, _]) el_86 ze_3 rfl rfl rfl rfl rfl (by decide)) ?_)
   rintro v L' ⟨b5, rfl, rfl⟩
   refine D.hh rfl (.call Tryz.func109 rfl rfl (vs := [_]) rfl (r2nums_spec _ (nums9 x.st) (ptc b5 (ints (nums9 x.st)) 3) (fun h hp => slR_rd (slR_pt hp rfl)) hi.st (by simp [nums9]))) ?_
   rintro v L' ⟨rfl, rfl⟩
   refine D.kv rfl (.concat rfl rfl (by simp only [List.length_append, txtB] at *; omega)) (.m rfl (by kernel_rfl) (.c Tryz.func111 [_] (r2acls_spec x.aclV acl p h.racl (fun a ha => (h.aclI.each a ha).1) (by omega) h.aclI.few)) (by repeat' constructor) ?_)
   refine D.kv rfl (.concat rfl rfl (by simp only [List.length_append, txtB] at *; omega)) (.m rfl (by kernel_rfl) (.c Tryz.func112 [_] (r2texts_spec x.kidsV kids p h.rkids h.few h.each)) (by repeat' constructor) ?_)
   refine D.ph (.g0 (.kv rfl (.concat rfl rfl (by simp only [List.length_append, txtB] at *; omega)) (.kv rfl (.assign rfl) (.pf (.ret ?_)))))
   exact .vv
  rintro v L' ⟨b5, rfl, rfl⟩
  refine D.hh rfl (.call Tryz.func109 rfl rfl (vs := [_]) rfl (r2nums_spec _ ([x.xid, x.zx, x.err]) (ptc b4 (ints ([x.xid, x.zx, x.err])) 3) (fun h hp => slR_rd (slR_pt hp rfl)) (fun n hn => by simp only [List.mem_cons, List.not_mem_nil, or_false] at hn; rcases hn with rfl | rfl | rfl; exact hi.xid; exact hi.zx; exact hi.err) (by simp [nums9]))) ?_
  rintro v L' ⟨rfl, rfl⟩
  refine D.m rfl (by kernel_rfl) (.c Tryz.func110 [_] (r1txt_spec x.path (by omega))) (by repeat' constructor) ?_
  refine D.k rfl (.concat rfl rfl (by simp only [List.length_append, txtB] at *; omega)) (.m rfl (by kernel_rfl) (.c Tryz.func110 [_] (r1txt_spec x.data (by omega))) (by repeat' constructor) ?_)
  refine D.k rfl (.concat rfl rfl (by simp only [List.length_append, txtB] at *; omega)) (.hh rfl (.call Tryz.func109 rfl rfl (vs := [_]) rfl (r2nums_spec _ (nums9 x.st) (ptc b5 (ints (nums9 x.st)) 3) (fun h hp => slR_rd (slR_pt hp rfl)) hi.st (by simp [nums9]))) ?_)
  rintro v L' ⟨rfl, rfl⟩
  refine D.kv rfl (.concat rfl rfl (by simp only [List.length_append, txtB] at *; omega)) (.m rfl (by kernel_rfl) (.c Tryz.func111 [_] (r2acls_spec x.aclV acl p h.racl (fun a ha => (h.aclI.each a ha).1) (by omega) h.aclI.few)) (by repeat' constructor) ?_)
  refine D.kv rfl (.concat rfl rfl (by simp only [List.length_append, txtB] at *; omega)) (.m rfl (by kernel_rfl) (.c Tryz.func112 [_] (r2texts_spec x.kidsV kids p h.rkids h.few h.each)) (by repeat' constructor) ?_)
  refine D.ph (.g0 (.kv rfl (.concat rfl rfl (by simp only [List.length_append, txtB] at *; omega)) (.kv rfl (.assign rfl) (.pf (.ret ?_)))))
  exact .vv
 rintro v L' ⟨b5, rfl, rfl⟩
 refine D.hh rfl (.buildSlice1 (vs := [_, _, _]) el_86 ze_3 rfl rfl rfl rfl rfl (by decide)) ?_
 rintro v L' ⟨b4, rfl, rfl⟩
 refine D.hh rfl (.call Tryz.func109 rfl rfl (vs := [_]) rfl (r2nums_spec _ ([x.xid, x.zx, x.err]) (ptc b4 (ints ([x.xid, x.zx, x.err])) 3) (fun h hp => slR_rd (slR_pt hp rfl)) (fun n hn => by simp only [List.mem_cons, List.not_mem_nil, or_false] at hn; rcases hn with rfl | rfl | rfl; exact hi.xid; exact hi.zx; exact hi.err) (by simp [nums9]))) ?_
 rintro v L' ⟨rfl, rfl⟩
 refine D.m rfl (by kernel_rfl) (.c Tryz.func110 [_] (r1txt_spec x.path (by omega))) (by repeat' constructor) ?_
 refine D.k rfl (.concat rfl rfl (by simp only [List.length_append, txtB] at *; omega)) (.m rfl (by kernel_rfl) (.c Tryz.func110 [_] (r1txt_spec x.data (by omega))) (by repeat' constructor) ?_)
 refine D.k rfl (.concat rfl rfl (by simp only [List.length_append, txtB] at *; omega)) (.hh rfl (.call Tryz.func109 rfl rfl (vs := [_]) rfl (r2nums_spec _ (nums9 x.st) (ptc b5 (ints (nums9 x.st)) 3) (fun h hp => slR_rd (slR_pt hp rfl)) hi.st (by simp [nums9]))) ?_)
 rintro v L' ⟨rfl, rfl⟩
 refine D.kv rfl (.concat rfl rfl (by simp only [List.length_append, txtB] at *; omega)) (.m rfl (by kernel_rfl) (.c Tryz.func111 [_] (r2acls_spec x.aclV acl p h.racl (fun a ha => (h.aclI.each a ha).1) (by omega) h.aclI.few)) (by repeat' constructor) ?_)
 refine D.kv rfl (.concat rfl rfl (by simp only [List.length_append, txtB] at *; omega)) (.m rfl (by kernel_rfl) (.c Tryz.func112 [_] (r2texts_spec x.kidsV kids p h.rkids h.few h.each)) (by repeat' constructor) ?_)
 refine D.ph (.g0 (.kv rfl (.concat rfl rfl (by simp only [List.length_append, txtB] at *; omega)) (.kv rfl (.assign rfl) (.pf (.ret ?_)))))
 exact .vv
theorem r2reply_spec (x : Rp) (acl : List Ac) (kids : List Bs) (subs : List Rp) (p : HP) (h : RpL p x acl kids subs) : Fn Tryz.prog 30 #[.agg (rpC x).toArray] [p] fun v L => v = vstr (repB x acl kids subs) ∧ L = [p] := by
 refine Fn.intro Tryz.func30 rfl rfl fun F W => ?_
 have hi := h.a.i
 have htl := txs_len h.a.few h.a.each
 have hal := ans_len hi (acl := acl) h.a.aclI.long (kids := kids)
 have hsl := an0s_len h.few fun y hy => (h.each y hy).1
 have hfew := h.few
 have hcl : (cntB subs.length).length ≤ 10 := sev_len10 (by have : U64 = 18446744073709551616 := rfl; omega)
 have hc1 : isCell x.aclV = true := by obtain ⟨a, n, c, e⟩ := h.sh.1; rw [e]; rfl
 have hc2 : isCell x.kidsV = true := by obtain ⟨a, n, c, e⟩ := h.sh.2; rw [e]; rfl
 refine .rdAny (p := p) h.rd (by repeat' constructor) fun aa ca hsv _ => ?_
 have hrd : ∀ g : Hp, p g → rdS 17 g (.slice aa subs.length ca) subs.length (subs.flatMap rpC) := fun g hp => hsv ▸ h.rd g hp
 refine .sr (.oq (.box rfl) ?_)
 rintro v L' ⟨b1, rfl, rfl⟩
 refine .a rfl (.nil (.pc b1 (rpC x) ?_))
 refine .then_n (.seq (.draw [] [[0, 1, 2, 3, 4, 5, 6, 7]] mixed (by kernel_rfl) (.go [ptc b1 _ _, p] (by repeat' constructor) (.kv rfl (.la (rpC x) rfl ag_41) (.m rfl (by kernel_rfl) (.c Tryz.func58 [_] (r2answer_spec x acl kids p h.a hc1 hc2 (by rw [hsv]; rfl))) (by repeat' constructor) ?_)))))
 refine D.kv rfl (.fieldAddr rfl fo_41_8) (.kv rfl (.to (v' := .slice aa subs.length ca) (.load rfl ag_39 (by repeat' constructor) rfl) (by exact hsv)) (.kv rfl (.slen rfl Tryz.underlying39 rfl) (.m rfl (by kernel_rfl) (.c Tryz.func59 [_] (r1cnt_spec subs.length (by omega))) (by repeat' constructor) ?_)))
 refine D.kv rfl (.concat rfl rfl (by omega)) (.kv rfl (.assign rfl) (.pf (.seq (.sr (.an rfl (.block (.loopK (ι := Nat × Bs) (fun q E => (4, vint q.1) :: (3, vstr q.2) :: E) (fun q => []) (fun q => q.1 ≤ subs.length ∧ q.2 = ansB x acl kids ++ cntB subs.length ++ (subs.take q.1).flatMap an0) (fun q => subs.length - q.1) (0, ansB x acl kids ++ cntB subs.length) (ts := [1, 2]) (.cons rfl (.cons rfl (.nil))) (⟨Nat.zero_le _, by simp⟩) ⟨rfl, rfl, rfl, rfl, trivial⟩ (by repeat' constructor) ?_)))))))
 rintro ⟨i, t⟩ ⟨hj, ht⟩
 dsimp only
 dsimp only at hj ht
 have htl2 : t.length = (ansB x acl kids).length + (cntB subs.length).length + ((subs.take i).flatMap an0).length := by rw [ht, List.length_append, List.length_append]
 refine .seq (.sm rfl (.u (.fieldAddr rfl fo_41_8) (.q (.to (v' := .slice aa subs.length ca) (.load rfl ag_39 (by repeat' constructor) rfl) (by exact hsv)) rfl (.q (.slen rfl Tryz.underlying39 rfl) rfl (.ui rfl rfl rfl (.nt (.condD rfl (fun h16 => ?_) (fun h16 => ?_))))))))
 ·have hi2 : i < subs.length := by omega
  have hfs := fm_stepL an0 hi2
  obtain ⟨hz1, hz2, hz3⟩ := h.each _ (List.getElem_mem hi2)
  have hz4 := an0_len hz1
  refine .rdShape (p := p) hrd (by repeat' constructor) (by omega) fun ba oa e => ?_
  subst e
  refine .sk (.seq (.block (.region (.m rfl (.u (.fieldAddr rfl fo_41_8) (.q (.to (v' := .slice (some ⟨ba, oa, none⟩) subs.length ca) (.load rfl ag_39 (by repeat' constructor) rfl) (by exact hsv)) rfl (.m rfl (.q (.indexAddr rfl rfl el_39 (by omega)) rfl (.q (.loadRdA (sz := 17) (j := i * 17) (k := 17) (p := p) (vs := rpC subs[i]) rfl ag_41 (by repeat' constructor) hrd (by simp) (by omega) (by omega) (flatMap_at (f := rpC) (sz := 17) (fun _ _ => rfl) hi2)) rfl (.oq (.call Tryz.func58 rfl rfl (vs := [_]) rfl (r2answer_spec subs[i] [] [] p ⟨hz1, by rw [hz2]; exact fun _ _ => .inl ⟨rfl, rfl, none, 0, rfl⟩, ⟨by decide, aclB_nil, fun a ha => by cases ha⟩, by rw [hz3]; exact fun _ _ => .inl ⟨rfl, rfl, none, 0, rfl⟩, Nat.zero_le _, fun s hs => by cases hs⟩ (by rw [hz2]; rfl) (by rw [hz3]; rfl) (h.subc _ (List.getElem_mem hi2)))) ?_))))))))))
  rintro v L' ⟨rfl, rfl⟩; rw [show ansB subs[i] [] [] = an0 subs[i] from rfl]
  refine .q (.concat rfl rfl (by omega)) rfl (.a rfl (.nil (.blk_n (.then_n (.region (.m rfl (.q (.add rfl rfl (by omega)) rfl (.an rfl ?_))))))))
  exact .rk ((i + 1, t ++ an0 subs[i])) (⟨by dsimp only; omega, by dsimp only; rw [fm_step an0 hi2, ht]; simp only [List.append_assoc]⟩) (by dsimp only; omega) ⟨rfl, rfl, rfl, rfl, trivial⟩
 have hie : i = subs.length := by omega
 have hfin : t = repB x acl kids subs := by rw [ht, hie, List.take_length]; rfl
 subst hfin
 refine .exit (.then_e (.then_e (.blk_e (.then_n (.sm rfl (.an rfl (.ret ?_)))))))
 exact .vv
theorem pick13_spec  (c n : Int) (hc : -9223372036854775808 ≤ c ∧ c ≤ 9223372036854775807) (hn : 0 < n) : Fn Tryz.prog 11 #[vint c, vint n] [] fun v L => v = vint (pickZ c n) ∧ L = [] := by
 refine Fn.intro Tryz.func11 rfl rfl fun F W => ?_
 refine .sr (.an rfl (.seq (.sm rfl (.ui rfl rfl rfl (.nt (.condD rfl (fun h6 => ?_) (fun h6 => ?_)))))))
 ·refine .region (.m rfl (.q (.add rfl rfl (by omega)) rfl (.q (.neg rfl (by omega)) rfl (.an rfl (.sm rfl (.m rfl (.q (.remE rfl rfl (by omega) (by omega)) rfl (.an rfl (.ret ?_)))))))))
  have e : pickZ c n = (-(c + 1)) % n := by unfold pickZ; rw [if_pos h6]
  rw [e]
  exact .vv
 refine .sk (.sm rfl (.m rfl (.q (.remE rfl rfl (by omega) (by omega)) rfl (.an rfl (.ret ?_)))))
 have e : pickZ c n = (c) % n := by unfold pickZ; rw [if_neg h6]
 rw [e]
 exact .vv
theorem awake13_spec (q : HP) (hT : TabP q) (hZ : TzP q) : Fn Tryz.prog 7 #[] [q] fun v L => v = .bool true ∧ L = [q] := by
 refine Fn.intro Tryz.func7 rfl rfl fun F W => ?_
 refine .sr (.an rfl (.sr (.oq (.c Tryz.func8 [] (plnew_spec)) ?_)))
 rintro v L' ⟨b, k, rfl, rfl⟩
 refine .an rfl (.seq (.sm rfl (.q (.ptreq rfl rfl Tryz.underlying25) rfl (.nt (.condF rfl (.sk (.sm rfl (.cv Tryz.func9 [_, _] (plopen_spec b k newPl 10 0 newPl_B (by decide)) ?_))))))))
 refine .m rfl (.q (.as (v' := vint 1) (by rfl) (.extract rfl rfl)) rfl (.q (.as (v' := vint 0) (by rfl) (.extract rfl rfl)) rfl (.a rfl (.an rfl (.sm rfl (.m rfl (.q (.build (us := [(0, _), (1, _)]) fl_75 ze_75 rfl rfl (by simp [isCell])) rfl (.oq (.buildSlice (vs := [_]) el_30 ze_75 rfl rfl rfl rfl (by first | (simp [Value.cells]; done) | (intro v hv; simp only [List.mem_cons, List.not_mem_nil, or_false] at hv; (repeat (first | (subst hv; rfl) | (rcases hv with hv | hv; (subst hv; rfl)))))) (by decide)) ?_))))))))
 rintro v L' ⟨ba, rfl, rfl⟩
 refine .q (.to (v' := .agg (rqC (rqA13 (.slice (some ⟨ba, 0, none⟩) 1 1))).toArray) (.build (us := [(0, _), (2, _), (1, _), (4, _)]) fl_33 ze_33 rfl rfl (by simp [isCell])) rfl) rfl (.slMakeN 2 1 (b := ba) (xs := acl31.flatMap acC) (by repeat' constructor) rfl rfl (.fold (p := (sep [slR 75 2 (.slice (some ⟨ba, 0, none⟩) 1 1) 1 (acl31.flatMap acC), q])) (q := [slR 75 2 (.slice (some ⟨ba, 0, none⟩) 1 1) 1 (acl31.flatMap acC), q]) (by repeat' constructor) (fun _ h => h) ?_))
 have hT1 : TabP (sep [slR 75 2 (.slice (some ⟨ba, 0, none⟩) 1 1) 1 (acl31.flatMap acC), q]) := hT.up
 have hZ1 : TzP (sep [slR 75 2 (.slice (some ⟨ba, 0, none⟩) 1 1) 1 (acl31.flatMap acC), q]) := hZ.up
 have hra : ∀ h : Hp, (sep [slR 75 2 (.slice (some ⟨ba, 0, none⟩) 1 1) 1 (acl31.flatMap acC), q]) h → rdS 2 h (.slice (some ⟨ba, 0, none⟩) 1 1) acl31.length (acl31.flatMap acC) := rd_acl (fun _ => slR_rd)
 have hA1 : CallA (sep [slR 75 2 (.slice (some ⟨ba, 0, none⟩) 1 1) 1 (acl31.flatMap acC), q]) 1 (rqA13 (.slice (some ⟨ba, 0, none⟩) 1 1)) [] [] := aw13_A hT1 hZ1 ⟨_, _, _, rfl⟩ hra
 refine .oq (.call Tryz.func10 rfl rfl (vs := [_, _, _]) rfl (plcall_spec b k aw13 1 (rqA13 (.slice (some ⟨ba, 0, none⟩) 1 1)) [] [] (sep [slR 75 2 (.slice (some ⟨ba, 0, none⟩) 1 1) 1 (acl31.flatMap acC), q]) hA1 (fun _ => ⟨by decide, by decide⟩) 1 aw13_B (by decide))) ?_
 rintro v L' ⟨π, x, kids, e, hC, rfl, rfl⟩
 refine .m rfl (.u (.extract rfl rfl) (.u (.extract rfl rfl) (.oq (.allocA ze_41) ?_)))
 rintro v L' ⟨b4, rfl, rfl⟩
 refine .sa rfl rfl sz_41 (by exact hC.cells) ?_
 refine .a rfl (.nil (.pc b4 (rpC x) ?_))
 have hx := aw13_call hC
 have hB2 := aw13_B.call (by decide) (fun _ => ⟨by decide, by decide⟩) hA1 hC
 refine .then_n (.sm rfl (.q (.to (v' := .agg (rqC (pathQ 7 [])).toArray) (.build (us := [(0, _)]) fl_33 ze_33 rfl rfl (by simp [isCell])) rfl) rfl (.oq (.call Tryz.func10 rfl rfl (vs := [_, _, _]) rfl (plcall_spec b k π 9 (pathQ 7 []) [] [] (sep [slR 75 2 (.slice (some ⟨ba, 0, none⟩) 1 1) 1 (acl31.flatMap acC), q]) (pathQ_A hT1 hZ1 ⟨by decide, by decide⟩ ⟨by decide, by decide⟩ (Nat.zero_le _)) (fun g => absurd g hx.2.2.2.2) 2 hB2 (by decide))) ?_)))
 rintro v L' ⟨π2, x2, kids2, e2, hD, rfl, rfl⟩
 refine .m rfl (.u (.extract rfl rfl) (.u (.extract rfl rfl) (.oq (.allocA ze_41) ?_)))
 rintro v L' ⟨b6, rfl, rfl⟩
 refine .sa rfl rfl sz_41 (by exact hD.cells) ?_
 refine .a rfl (.nil (.pc b6 (rpC x2) ?_))
 have h67 := (hD.gone hx.2.2.2.2).1
 refine .then_n (.sm rfl (.q (.as (v' := .bool true) (by rfl) (.int rfl rfl rfl)) rfl (.m rfl (.grun (t := 33) rfl rfl rfl (.m rfl (.grun (t := 33) rfl rfl rfl (.q (.as (v' := .bool true) (by rfl) (.int rfl rfl rfl)) rfl (.u (.pickT rfl rfl) (.m rfl (.grun (t := 37) rfl rfl rfl (.m rfl (.grun (t := 37) rfl rfl rfl (.q (.as (v' := .bool true) (by exact congrArg Value.bool (decide_eq_true (hx.1))) (.int rfl rfl rfl)) rfl (.u (.pickT rfl rfl) (.m rfl (.grun (t := 41) rfl rfl rfl (.u (.fieldAddr rfl fo_41_2) (.grun (t := 41) rfl rfl rfl (.u (.ld rfl ag_27) (.grun (t := 41) rfl rfl rfl (.q (.as (v' := .bool true) (by exact congrArg Value.bool (decide_eq_true (hx.2.1))) (.int rfl rfl rfl)) rfl (.u (.pickT rfl rfl) (.m rfl (.grun (t := 46) rfl rfl rfl (.u (.fieldAddr rfl fo_41_0) (.grun (t := 46) rfl rfl rfl ?_))))))))))))))))))))))))))
 refine .u (.ld rfl ag_3) (.grun (t := 46) rfl rfl rfl (.q (.as (v' := .bool true) (by exact congrArg Value.bool (decide_eq_true (hx.2.2.1))) (.int rfl rfl rfl)) rfl (.u (.pickT rfl rfl) (.m rfl (.grun (t := 51) rfl rfl rfl (.u (.fieldAddr rfl fo_41_1) (.grun (t := 51) rfl rfl rfl (.u (.ld rfl ag_3) (.grun (t := 51) rfl rfl rfl (.q (.as (v' := .bool true) (by exact congrArg Value.bool (decide_eq_true (hx.2.2.2.1))) (.int rfl rfl rfl)) rfl (.u (.pickT rfl rfl) (.m rfl (.grun (t := 56) rfl rfl rfl (.m rfl (.grun (t := 56) rfl rfl rfl (.q (.as (v' := .bool true) (by exact congrArg Value.bool (decide_eq_true (h67))) (.int rfl rfl rfl)) rfl (.u (.pickT rfl rfl) (.a rfl (.nil (.focus (p := (sep [slR 75 2 (.slice (some ⟨ba, 0, none⟩) 1 1) 1 (acl31.flatMap acC), q])) (by repeat' constructor) (.unfold (q := [slR 75 2 (.slice (some ⟨ba, 0, none⟩) 1 1) 1 (acl31.flatMap acC), q]) (fun _ h => h) ?_)))))))))))))))))))))
 refine .then_n (.ret ?_)
 exact .vv
theorem fill_told0 (e : Int) (d : Bs) (s : Stt) (a : Option Addr) (n c : Nat) : Instr.fill (fun i => [(0, 1), (1, 1), (2, 1), (3, 1), (4, 1), (5, 9), (14, 1), (15, 1), (16, 1)].toArray[i]?) ([.int .i64 0, .int .i64 0, .int .i64 0, .string (bs []), .string (bs []), .int .i64 0, .int .i64 0, .int .i64 0, .int .i64 0, .int .i64 0, .int .i64 0, .int .i64 0, .int .i64 0, .int .i64 0, .slice none 0 0, .slice none 0 0, .slice none 0 0] : List Value).toArray [(2, vint e), (4, vstr d), (5, .agg (stC s).toArray), (7, .slice a n c)] = some (rpC (⟨0, 0, e, [], d, s, nilV, .slice a n c, nilV⟩ : Rp)).toArray := by kernel_rfl
theorem fill_told (e : Int) (d : Bs) (s : Stt) {kv : Value} (h : ∃ a n c, kv = .slice a n c) : Instr.fill (fun i => [(0, 1), (1, 1), (2, 1), (3, 1), (4, 1), (5, 9), (14, 1), (15, 1), (16, 1)].toArray[i]?) ([.int .i64 0, .int .i64 0, .int .i64 0, .string (bs []), .string (bs []), .int .i64 0, .int .i64 0, .int .i64 0, .int .i64 0, .int .i64 0, .int .i64 0, .int .i64 0, .int .i64 0, .int .i64 0, .slice none 0 0, .slice none 0 0, .slice none 0 0] : List Value).toArray [(2, vint e), (4, vstr d), (5, .agg (stC s).toArray), (7, kv)] = some (rpC (⟨0, 0, e, [], d, s, nilV, kv, nilV⟩ : Rp)).toArray := by
 obtain ⟨a, n, c, rfl⟩ := h
 exact fill_told0 e d s a n c
theorem told13_spec (b : Nat) (k : PlK) (π : Pl) (hses : sesT π.τ 1) (lv : Value) (l : List Rq) (p : HP) (hl : ∀ h : Hp, p h → rdS 10 h lv l.length (l.flatMap rqC)) (hlen : l.length ≤ 8) (hpth : ∀ r ∈ l, r.path.length ≤ 1048566) (q : HP) (hT : TabP q) (hZ : TzP q) (n : Nat) (hB : PlB π n) (hn : n ≤ 4096) : Fn Tryz.prog 12 #[vptr b, lv] [plR b k π, p, q] fun v L => v = vstr (toldsB π.τ (π.ids 1) l) ∧ L = [plR b k π, p, q] := by
 refine Fn.intro Tryz.func12 rfl rfl fun F W => ?_
 refine .rdAny (p := p) hl (by repeat' constructor) fun al cl e _ => ?_
 subst e
 have hP := hB.pre (by omega)
 refine .sr (.an rfl (.sr (.an rfl (.seq (.sr (.an rfl (.block (.loopK (ι := Nat) (fun q E => (6, vint q) :: (5, vstr (toldsB π.τ (π.ids 1) (l.take q))) :: E) (fun q => []) (fun q => q ≤ l.length) (fun q => l.length - q) (0) (ts := [0, 1, 4]) (.cons rfl (.cons rfl (.cons rfl (.nil)))) (Nat.zero_le _) ⟨rfl, rfl, rfl, rfl, rfl, trivial⟩ (by repeat' constructor) ?_))))))))
 rintro i hi
 refine .seq (.sm rfl (.m rfl (.q (.slen rfl Tryz.underlying23 rfl) rfl (.ui rfl rfl rfl (.nt (.condD rfl (fun h15 => ?_) (fun h15 => ?_)))))))
 ·have hi2 : i < l.length := by omega
  have hpi := hpth _ (List.getElem_mem hi2)
  refine .rdShape (p := p) hl (by repeat' constructor) (by omega) fun bl ol e => ?_
  subst e
  refine .sk (.seq (.block (.sm rfl (.m rfl (.m rfl (.q (.indexAddr rfl rfl el_23 (by omega)) rfl (.u (.fieldAddr rfl fo_33_2) (.q (.loadRd (sz := 10) (j := i * 10 + 2) (p := p) (v := vstr l[i].path) rfl ag_9 (by repeat' constructor) hl (by omega) ((flatMap_cell (f := rqC) (sz := 10) (l := l) (i := i) (k := 2) (fun _ _ => rfl) (by omega) (by decide)).trans rfl)) rfl (.q (.to (v' := .agg (rqC (pathQ 9 l[i].path)).toArray) (.build (us := [(0, _), (2, _)]) fl_33 ze_33 rfl rfl (by simp [isCell])) rfl) rfl (.oq (.c Tryz.func10 [_, _, _] (plcall_spec b k π 1 (pathQ 9 l[i].path) [] [] q (pathQ_A hT hZ ⟨by decide, by decide⟩ ⟨by decide, by decide⟩ hpi) (fun _ => ⟨by decide, by decide⟩) n hB hn)) ?_))))))))))
  rintro v L' ⟨ρ1, x1, kids1, e1, hC1, rfl, rfl⟩; obtain ⟨he1, rfl, -, -, hxe1, hxd1, hxs1, hki1⟩ := look_call hC1 hses rfl (.inl rfl)
  refine .m rfl (.u (.extract rfl rfl) (.u (.extract rfl rfl) (.oq (.allocA ze_41) ?_)))
  rintro v L' ⟨b7, rfl, rfl⟩
  refine .sa rfl rfl sz_41 (by exact hC1.cells) ?_
  refine .a rfl (.nil (.pc b7 (rpC x1) ?_))
  refine .then_n (.sm rfl (.m rfl (.m rfl (.q (.indexAddr rfl rfl el_23 (by omega)) rfl (.u (.fieldAddr rfl fo_33_2) (.q (.loadRd (sz := 10) (j := i * 10 + 2) (p := p) (v := vstr l[i].path) rfl ag_9 (by repeat' constructor) hl (by omega) ((flatMap_cell (f := rqC) (sz := 10) (l := l) (i := i) (k := 2) (fun _ _ => rfl) (by omega) (by decide)).trans rfl)) rfl (.q (.to (v' := .agg (rqC (pathQ 11 l[i].path)).toArray) (.build (us := [(0, _), (2, _)]) fl_33 ze_33 rfl rfl (by simp [isCell])) rfl) rfl (.oq (.c Tryz.func10 [_, _, _] (plcall_spec b k π 1 (pathQ 11 l[i].path) [] [] q (pathQ_A hT hZ ⟨by decide, by decide⟩ ⟨by decide, by decide⟩ hpi) (fun _ => ⟨by decide, by decide⟩) n hB hn)) ?_))))))))
  rintro v L' ⟨ρ2, x2, kids2, e2, hC2, rfl, rfl⟩; obtain ⟨he2, rfl, -, -, hxe2, hxd2, hxs2, hki2⟩ := look_call hC2 hses rfl (.inr (.inr (.inl rfl)))
  refine .m rfl (.u (.extract rfl rfl) (.u (.extract rfl rfl) (.oq (.allocA ze_41) ?_)))
  rintro v L' ⟨b9, rfl, rfl⟩
  refine .sa rfl rfl sz_41 (by exact hC2.cells) ?_
  refine .a rfl (.nil (.pc b9 (rpC x2) ?_))
  have hki3 : kids2 = (readKl π.τ (π.ids 1) (kidsQ l[i].path)) := hki2
  subst hki3
  have hk3 : ∃ a n c, x2.kidsV = .slice a n c := by obtain ⟨a, c, e⟩ := hC2.shape; exact ⟨a, _, c, e⟩
  refine .then_n (.sr (.u (.fieldAddr rfl fo_41_5) (.u (.fieldAddr rfl fo_37_3) (.u (.ld rfl ag_3) (.u (.fieldAddr rfl fo_41_5) (.u (.fieldAddr rfl fo_37_5) (.u (.ld rfl ag_3) (.u (.fieldAddr rfl fo_41_5) (.u (.fieldAddr rfl fo_37_4) (.u (.ld rfl ag_3) (.u (.fieldAddr rfl fo_41_5) (.u (.fieldAddr rfl fo_37_7) (.u (.ld rfl ag_3) (.u (.fieldAddr rfl fo_41_5) (.u (.fieldAddr rfl fo_37_8) (.u (.ld rfl ag_3) (.q (.to (v' := .agg (stC (cut5 x1.st)).toArray) (.build (us := [(3, _), (5, _), (4, _), (7, _), (8, _)]) fl_37 ze_37 rfl rfl (by simp [isCell])) rfl) rfl (.oq (.allocA ze_37) ?_))))))))))))))))))
  rintro v L' ⟨b11, rfl, rfl⟩
  refine .sa rfl rfl sz_37 (by simp [stC, isCell]) ?_
  refine .nil (.pc b11 (stC (cut5 x1.st)) ?_)
  have hX := toldR13_eq x2.kidsV hxe1 hxd1 hxs1
  have hXL := toldR13_L hB.w hP.1 (by omega) (π.ids 1) l[i].path (p := slR 9 1 x2.kidsV (readKl π.τ (π.ids 1) (kidsQ l[i].path)).length (strs (readKl π.τ (π.ids 1) (kidsQ l[i].path)))) (kv := x2.kidsV) (fun _ hp => slR_rd hp) hC2.shape
  have htl := toldsB_len hB.w hP.1 (by omega) (π.ids 1) (l.take i)
  have htk : (l.take i).length = i := by rw [List.length_take]; omega
  have htm : (l.take i).length * 1134629911619 ≤ 8 * 1134629911619 := Nat.mul_le_mul_right _ (by omega)
  have ht1 := toldB13_len hB.w hP.1 (by omega) (π.ids 1) l[i].path
  refine .then_n (.region (.m rfl (.u (.fieldAddr rfl fo_41_2) (.u (.ld rfl ag_27) (.u (.fieldAddr rfl fo_41_4) (.u (.ld rfl ag_9) (.q (.la (stC (cut5 x1.st)) rfl ag_37) rfl (.u (.fieldAddr rfl fo_41_7) (.u (.ld rfl ag_38) (.q (.to (v' := .agg (rpC (toldR13 π.τ (π.ids 1) l[i].path x2.kidsV)).toArray) (.to (v' := .agg (rpC (⟨0, 0, x1.err, [], x1.data, cut5 x1.st, nilV, x2.kidsV, nilV⟩ : Rp)).toArray) (.buildN (pl := [(0, 1), (1, 1), (2, 1), (3, 1), (4, 1), (5, 9), (14, 1), (15, 1), (16, 1)]) (us := [(2, vint x1.err), (4, vstr x1.data), (5, .agg (stC (cut5 x1.st)).toArray), (7, x2.kidsV)]) (cells := rpC (⟨0, 0, x1.err, [], x1.data, cut5 x1.st, nilV, x2.kidsV, nilV⟩ : Rp)) Tryz.underlying41 (by kernel_rfl) ze_41 rfl (fill_told x1.err x1.data (cut5 x1.st) hk3)) rfl) (by rw [← hX])) rfl (.oq (.c Tryz.func30 [_] (r2reply_spec (toldR13 π.τ (π.ids 1) l[i].path x2.kidsV) [] (readKl π.τ (π.ids 1) (kidsQ l[i].path)) [] (slR 9 1 x2.kidsV (readKl π.τ (π.ids 1) (kidsQ l[i].path)).length (strs (readKl π.τ (π.ids 1) (kidsQ l[i].path)))) hXL)) ?_)))))))))))
  rintro v L' ⟨rfl, rfl⟩; rw [told_repB]
  refine .q (.concat rfl rfl (by omega)) rfl (.a rfl (.nil (.blk_n (.then_n (.region (.m rfl (.q (.add rfl rfl (by omega)) rfl (.an rfl ?_))))))))
  rw [← toldsB_at hi2]
  exact .rk (i + 1) (by omega) (by omega) ⟨rfl, rfl, rfl, rfl, rfl, trivial⟩
 have hie : i = l.length := by omega
 rw [hie, List.take_length]
 refine .exit (.then_e (.then_e (.blk_e (.then_n (.sm rfl (.an rfl (.ret ?_)))))))
 exact .vv
theorem st_rq {xs : List Sp13} {i : Nat} (hi : i < xs.length) : ((xs.flatMap spC).drop (i * 14 + 3)).take 10 = rqC xs[i].r := by
 have h := flatMap_at (f := spC) (sz := 14) (l := xs) (fun _ _ => rfl) hi
 have h2 : ((((xs.flatMap spC).drop (i * 14)).take 14).drop 3).take 10 = rqC xs[i].r := by rw [h]; rfl
 rw [List.drop_take, List.take_take, List.drop_drop] at h2
 exact h2
theorem plainMultis13_spec (ax : Option Addr) (cx : Nat) (xs : List Sp13) (ap : Option Addr) (cp : Nat) (ps : List Rq) (q : HP) (hT : TabP q) (hZ : TzP q) (hS : StA q (.slice ax xs.length cx) xs) (hPa : PaA q (.slice ap ps.length cp) ps) : Fn Tryz.prog 3 #[.slice ax xs.length cx, .slice ap ps.length cp] [q] fun v L => v = .bool true ∧ L = [q] := by
 refine Fn.intro Tryz.func3 rfl rfl fun F W => ?_
 have hAw := aw13_B
 have hsw := aw13_ses
 refine .sr (.an rfl (.sr (.cv Tryz.func7 [] (awake13_spec q hT hZ) ?_)))
 refine .an rfl (.sr (.oq (.c Tryz.func8 [] (plnew_spec)) ?_))
 rintro v L' ⟨b, k, rfl, rfl⟩
 refine .an rfl (.sr (.oq (.c Tryz.func8 [] (plnew_spec)) ?_))
 rintro v L' ⟨c, j, rfl, rfl⟩
 refine .an rfl (.seq (.sm rfl (.u (.not rfl) (.m rfl (.grun (t := 26) rfl rfl rfl (.m rfl (.grun (t := 26) rfl rfl rfl (.q (.ptreq rfl rfl Tryz.underlying25) rfl (.u (.pickF rfl rfl) (.m rfl (.grun (t := 30) rfl rfl rfl (.m rfl (.grun (t := 30) rfl rfl rfl (.q (.ptreq rfl rfl Tryz.underlying25) rfl (.u (.pickF rfl rfl) (.nt (.condF rfl (.sk (.sm rfl (.cv Tryz.func9 [_, _] (plopen_spec b k newPl 10 0 newPl_B (by decide)) ?_))))))))))))))))))))
 refine .nt (.sm rfl (.cv Tryz.func9 [_, _] (plopen_spec c j newPl 10 0 newPl_B (by decide)) ?_))
 refine .nt (.seq (.sr (.an rfl (.block (.loopK (ι := Nat × Pl × Pl) (fun q E => (8, vint q.1) :: E) (fun q => [plR b k q.2.1, plR c j q.2.2]) (fun q => q.1 ≤ 60 ∧ q.1 ≤ xs.length ∧ PlB q.2.1 (q.1 + 1) ∧ PlB q.2.2 (q.1 + 1) ∧ sesT q.2.1.τ 1 ∧ PlS q.2.1 q.2.2) (fun q => 60 - q.1) (0, (opnP newPl 10).1, (opnP newPl 10).1) (ts := [0, 1, 4, 6, 7]) (.cons rfl (.cons rfl (.cons rfl (.cons rfl (.cons rfl (.nil)))))) (⟨by decide, Nat.zero_le _, hAw, hAw, hsw, PlS.refl _⟩) ⟨rfl, rfl, rfl, rfl, rfl, rfl, trivial⟩ (by repeat' constructor) ?_)))))
 rintro ⟨i, π, ρ⟩ ⟨hi, hix, hB, hD, hs, hE⟩
 dsimp only
 dsimp only at hi hix hB hD hs hE
 refine .seq (.sm rfl (.m rfl (.q (.slen rfl Tryz.underlying22 rfl) rfl (.ui rfl rfl rfl (.m rfl (.dec (t := 42) rfl (fun h9_42 => ?_) (fun h9_42 => ?_)))))))
 ·refine .kDT (t := 41) rfl h9_42 (.grun (t := 42) rfl rfl rfl (.m rfl (.grun (t := 42) rfl rfl rfl (.ui rfl rfl rfl (.u (.pickT rfl rfl) (.nt (.condD rfl (fun h45 => ?_) (fun h45 => ?_))))))))
  ·have hi2 : i < xs.length := by omega
   have hi60 : i < 60 := by omega
   have hA := hS.each _ (List.getElem_mem hi2) 1 ⟨by decide, by decide⟩
   refine .rdShape (p := q) hS.cells (by repeat' constructor) (by omega) fun bx ox e => ?_
   subst e
   refine .sk (.seq (.block (.sm rfl (.m rfl (.q (.indexAddr rfl rfl el_22 (by omega)) rfl (.u (.fieldAddr rfl fo_35_3) (.q (.loadRdA (sz := 14) (j := i * 14 + 3) (k := 10) (p := q) (vs := rqC xs[i].r) rfl ag_33 (by repeat' constructor) hS.cells (by omega) (by omega) (by omega) (st_rq hi2)) rfl (.oq (.allocA ze_33) ?_))))))))
   rintro v L' ⟨b9, rfl, rfl⟩
   refine .sa rfl rfl sz_33 (by exact hA.rqc) ?_
   refine .nil (.pc b9 (rqC xs[i].r) ?_)
   refine .then_n (.seq (.sr (.u (.fieldAddr rfl fo_33_0) (.u (.ld rfl ag_3) (.ui rfl rfl rfl (.nt (.condD rfl (fun h55 => ?_) (fun h55 => ?_))))))))
   ·refine .exit (.then_e (.blk_e (.then_n (.region (.m rfl (.q (.add rfl rfl (by omega)) rfl (.an rfl ?_)))))))
    exact .rk ((i + 1, π, ρ)) (⟨by dsimp only; omega, by dsimp only; omega, hB.more (by omega), hD.more (by omega), hs, hE⟩) (by dsimp only; omega) ⟨rfl, rfl, rfl, rfl, rfl, rfl, trivial⟩
   refine .sk (.sm rfl (.q (.la (rqC xs[i].r) rfl ag_33) rfl (.oq (.call Tryz.func10 rfl rfl (vs := [_, _, _]) rfl (plcall_spec b k π 1 xs[i].r xs[i].subs xs[i].arm q hA (fun _ => ⟨by decide, by decide⟩) (i + 1) hB (by omega))) ?_)))
   rintro v L' ⟨π2, x1, kids1, e1, hC, rfl, rfl⟩
   refine .nt (.region (.m rfl (.q (.la (rqC xs[i].r) rfl ag_33) rfl (.oq (.call Tryz.func10 rfl rfl (vs := [_, _, _]) rfl (plcall_spec c j ρ 1 xs[i].r xs[i].subs xs[i].arm q hA (fun _ => ⟨by decide, by decide⟩) (i + 1) hD (by omega))) ?_))))
   rintro v L' ⟨ρ2, x2, kids2, e2, hC2, rfl, rfl⟩
   refine .nil (.blk_n (.then_n (.region (.m rfl (.q (.add rfl rfl (by omega)) rfl (.an rfl ?_))))))
   exact .rk ((i + 1, π2, ρ2)) (⟨by dsimp only; omega, by dsimp only; omega, hB.call (by omega) (fun _ => ⟨by decide, by decide⟩) hA hC, hD.call (by omega) (fun _ => ⟨by decide, by decide⟩) hA hC2, hC.ses h55 hs, (hE.call hC hC2).1⟩) (by dsimp only; omega) ⟨rfl, rfl, rfl, rfl, rfl, rfl, trivial⟩
  refine .exit (.then_e (.then_e (.blk_e (.then_n (.seq ?_)))))
  have hB := hB.more (m := 61) (by omega)
  have hD := hD.more (m := 61) (by omega)
  clear hix
  refine .add (slR_nil 33 10) (.region (.an rfl (.seq (.sr (.an rfl (.block (.loopK (ι := Nat × (List Rq) × Value) (fun q E => (11, vint q.1) :: (10, q.2.2) :: E) (fun q => [slR 33 10 q.2.2 q.2.1.length (q.2.1.flatMap rqC)]) (fun q => q.1 ≤ 8 ∧ q.1 ≤ ps.length ∧ q.2.1.length ≤ q.1 ∧ (∀ r ∈ q.2.1, r ∈ ps ∧ 1 ≤ r.kind ∧ r.kind ≤ 4) ∧ ∃ a c, q.2.2 = .slice a q.2.1.length c) (fun q => 8 - q.1) (0, [], .slice none 0 0) (ts := [1, 4, 6, 7]) (.cons rfl (.cons rfl (.cons rfl (.cons rfl (.nil))))) (⟨by decide, Nat.zero_le _, Nat.zero_le _, (fun r h => by cases h), none, 0, rfl⟩) ⟨rfl, rfl, rfl, rfl, rfl, rfl, trivial⟩ (by repeat' constructor) ?_)))))))
  rintro ⟨i, m, w⟩ ⟨hi8, hip, hml, hmk, aw, cw, hw⟩
  dsimp only
  dsimp only at hi8 hip hml hmk hw
  subst hw
  refine .seq (.sm rfl (.m rfl (.q (.slen rfl Tryz.underlying23 rfl) rfl (.ui rfl rfl rfl (.m rfl (.dec (t := 66) rfl (fun h17_66 => ?_) (fun h17_66 => ?_)))))))
  ·refine .kDT (t := 65) rfl h17_66 (.grun (t := 66) rfl rfl rfl (.m rfl (.grun (t := 66) rfl rfl rfl (.ui rfl rfl rfl (.u (.pickT rfl rfl) (.nt (.condD rfl (fun h69 => ?_) (fun h69 => ?_))))))))
   ·have hi3 : i < ps.length := by omega
    have hi8b : i < 8 := by omega
    refine .rdShape (p := q) hPa.cells (by repeat' constructor) (by omega) fun bp op e => ?_
    subst e
    obtain ⟨psubs, parm, hAp⟩ := hPa.each _ (List.getElem_mem hi3) 1 ⟨by decide, by decide⟩
    refine .sk (.seq (.block (.sm rfl (.m rfl (.q (.indexAddr rfl rfl el_23 (by omega)) rfl (.u (.fieldAddr rfl fo_33_0) (.q (.loadRd (sz := 10) (j := i * 10 + 0) (p := q) (v := vint ps[i].kind) rfl ag_3 (by repeat' constructor) hPa.cells (by omega) ((flatMap_cell (f := rqC) (sz := 10) (l := ps) (i := i) (k := 0) (fun _ _ => rfl) (by omega) (by decide)).trans rfl)) rfl (.ui rfl rfl rfl (.m rfl (.dec (t := 78) rfl (fun h19_78 => ?_) (fun h19_78 => ?_)))))))))))
    ·refine .kDT (t := 77) rfl h19_78 (.grun (t := 78) rfl rfl rfl (.m rfl (.grun (t := 78) rfl rfl rfl (.m rfl (.grun (t := 78) rfl rfl rfl (.q (.indexAddr rfl rfl el_23 (by omega)) rfl (.grun (t := 78) rfl rfl rfl (.u (.fieldAddr rfl fo_33_0) (.grun (t := 78) rfl rfl rfl (.q (.loadRd (sz := 10) (j := i * 10 + 0) (p := q) (v := vint ps[i].kind) rfl ag_3 (by repeat' constructor) hPa.cells (by omega) ((flatMap_cell (f := rqC) (sz := 10) (l := ps) (i := i) (k := 0) (fun _ _ => rfl) (by omega) (by decide)).trans rfl)) rfl (.grun (t := 78) rfl rfl rfl (.ui rfl rfl rfl (.u (.pickT rfl rfl) (.m rfl (.dec (t := 86) rfl (fun h19_86 => ?_) (fun h19_86 => ?_))))))))))))))))
     ·refine .kDT (t := 84) rfl h19_86 (.kDT (t := 85) rfl h19_86 (.grun (t := 86) rfl rfl rfl (.m rfl (.grun (t := 86) rfl rfl rfl (.m rfl (.grun (t := 86) rfl rfl rfl (.q (.indexAddr rfl rfl el_23 (by omega)) rfl (.grun (t := 86) rfl rfl rfl (.u (.fieldAddr rfl fo_33_5) (.grun (t := 86) rfl rfl rfl (.q (.loadRd (sz := 10) (j := i * 10 + 5) (p := q) (v := vint ps[i].flags) rfl ag_3 (by repeat' constructor) hPa.cells (by omega) ((flatMap_cell (f := rqC) (sz := 10) (l := ps) (i := i) (k := 5) (fun _ _ => rfl) (by omega) (by decide)).trans rfl)) rfl (.grun (t := 86) rfl rfl rfl (.cv Tryz.func11 [_, _] (pick13_spec ps[i].flags 4 hAp.d.w.rq.flags (by decide)) ?_)))))))))))))
      refine .grun (t := 86) rfl rfl rfl (.ui rfl rfl rfl (.u (.pickT rfl rfl) (.nt (.condD rfl (fun h94 => ?_) (fun h94 => ?_)))))
      ·refine .region (.m rfl (.m rfl (.m rfl (.q (.indexAddr rfl rfl el_23 (by omega)) rfl (.q (.loadRdA (sz := 10) (j := i * 10) (k := 10) (p := q) (vs := rqC ps[i]) rfl ag_33 (by repeat' constructor) hPa.cells (by simp) (by omega) (by omega) (flatMap_at (f := rqC) (sz := 10) (fun _ _ => rfl) (by omega))) rfl (.oq (.buildSlice (vs := [_]) el_23 ze_33 rfl rfl rfl rfl (by first | (simp [Value.cells]; done) | (intro v hv; simp only [List.mem_cons, List.not_mem_nil, or_false] at hv; (repeat (first | (subst hv; rfl) | (rcases hv with hv | hv; (subst hv; rfl)))))) (by decide)) ?_))))))
       rintro v L' ⟨bw, rfl, rfl⟩
       refine .oq (.append1 rfl rfl rfl el_23 ze_33 rfl rfl ?c84 ?c85 (Nat.le_refl _) ?c86 (by decide)) ?_
       case c84 => simp only [List.map_cons, List.map_nil, List.flatten_cons, List.flatten_nil, List.append_nil]; simp only [Value.cells]; exact hAp.rqc
       case c85 => rfl
       case c86 => omega
       rintro v L' ⟨⟨a20, c20, rfl⟩, rfl⟩
       refine .a rfl (.nil (.blk_n (.then_n (.region (.m rfl (.q (.add rfl rfl (by omega)) rfl (.an rfl (.slCast (T := 33) (sz := 10) (m' := (m ++ [ps[i]]).length) (xs' := (m ++ [ps[i]]).flatMap rqC) (by repeat' constructor) (by rw [List.length_append]; rfl) (by rw [List.flatMap_append]; simp [Value.cells]) ?_))))))))
       rw [show m.length + 1 = (m ++ [ps[i]]).length from by rw [List.length_append]; rfl]
       exact .rk ((i + 1, m ++ [ps[i]], .slice a20 (m ++ [ps[i]]).length c20)) (⟨by dsimp only; omega, by dsimp only; omega, by dsimp only; rw [List.length_append, List.length_singleton]; omega, fun r hr => by rcases List.mem_append.1 hr with h | h; exact hmk r h; rw [List.mem_singleton.1 h]; exact ⟨List.getElem_mem hi3, by assumption, by assumption⟩, a20, c20, rfl⟩) (by dsimp only; omega) ⟨rfl, rfl, rfl, rfl, rfl, rfl, trivial⟩
      refine .skip (.blk_n (.then_n (.region (.m rfl (.q (.add rfl rfl (by omega)) rfl (.an rfl ?_))))))
      exact .rk ((i + 1, m, .slice aw m.length cw)) (⟨by dsimp only; omega, by dsimp only; omega, by dsimp only; omega, hmk, aw, cw, rfl⟩) (by dsimp only; omega) ⟨rfl, rfl, rfl, rfl, rfl, rfl, trivial⟩
     refine .kDF (t := 84) rfl h19_86 (.kDF (t := 85) rfl h19_86 (.gk (.gk (.gk (.gk (.gk (.gk (.gk (.u (.pickF rfl rfl) (.nt (.condF rfl (.skip (.blk_n (.then_n (.region (.m rfl (.q (.add rfl rfl (by omega)) rfl (.an rfl ?_))))))))))))))))))
     exact .rk ((i + 1, m, .slice aw m.length cw)) (⟨by dsimp only; omega, by dsimp only; omega, by dsimp only; omega, hmk, aw, cw, rfl⟩) (by dsimp only; omega) ⟨rfl, rfl, rfl, rfl, rfl, rfl, trivial⟩
    refine .kDF (t := 77) rfl h19_78 (.gk (.gk (.gk (.gk (.gk (.gk (.u (.pickF rfl rfl) (.m rfl (.gk (.gk (.gk (.gk (.gk (.gk (.gk (.u (.pickF rfl rfl) (.nt (.condF rfl (.skip (.blk_n (.then_n (.region (.m rfl (.q (.add rfl rfl (by omega)) rfl (.an rfl ?_)))))))))))))))))))))))))
    exact .rk ((i + 1, m, .slice aw m.length cw)) (⟨by dsimp only; omega, by dsimp only; omega, by dsimp only; omega, hmk, aw, cw, rfl⟩) (by dsimp only; omega) ⟨rfl, rfl, rfl, rfl, rfl, rfl, trivial⟩
   refine .exit (.then_e (.then_e (.blk_e (.then_n (.seq ?_)))))
   have hm8 : m.length ≤ 8 := by omega
   have hmp : ∀ r ∈ m, r.path.length ≤ 1048566 := fun r hr => by obtain ⟨su, ar, hA⟩ := hPa.each r (hmk r hr).1 1 ⟨by decide, by decide⟩; exact hA.d.w.rq.path
   refine .region (.m rfl (.m rfl (.oq (.call Tryz.func12 rfl rfl (vs := [_, _]) rfl (told13_spec b k π hs (.slice aw m.length cw) m (slR 33 10 (.slice aw m.length cw) m.length (m.flatMap rqC)) (fun _ hp => slR_rd hp) hm8 hmp q hT hZ 61 hB (by decide))) ?_)))
   rintro v L' ⟨rfl, rfl⟩
   refine .an rfl (.sm rfl (.m rfl (.q (.to (v' := .agg (rqC (multQ (.slice aw m.length cw))).toArray) (.build (us := [(0, _), (8, _)]) fl_33 ze_33 rfl rfl (by simp [isCell])) rfl) rfl (.fold (p := (sep [slR 33 10 (.slice aw m.length cw) m.length (m.flatMap rqC), q])) (q := [slR 33 10 (.slice aw m.length cw) m.length (m.flatMap rqC), q]) (by repeat' constructor) (fun _ h => h) ?_))))
   have hA6 : CallA (sep [slR 33 10 (.slice aw m.length cw) m.length (m.flatMap rqC), q]) 1 (multQ (.slice aw m.length cw)) m [] := mult_A hPa (fun r hr => (hmk r hr).1) hT hZ ⟨aw, cw, rfl⟩ ⟨by decide, by decide⟩
   refine .oq (.call Tryz.func10 rfl rfl (vs := [_, _, _]) rfl (plcall_spec b k π 1 (multQ (.slice aw m.length cw)) m [] (sep [slR 33 10 (.slice aw m.length cw) m.length (m.flatMap rqC), q]) hA6 (fun _ => ⟨by decide, by decide⟩) 61 hB (by decide))) ?_
   rintro v L' ⟨π3, x3, kids3, e3, hC3, rfl, rfl⟩
   refine .m rfl (.u (.extract rfl rfl) (.u (.extract rfl rfl) (.oq (.allocA ze_41) ?_)))
   rintro v L' ⟨b13, rfl, rfl⟩
   refine .sa rfl rfl sz_41 (by exact hC3.cells) ?_
   refine .a rfl (.nil (.pc b13 (rpC x3) ?_))
   refine .focus (p := (sep [slR 33 10 (.slice aw m.length cw) m.length (m.flatMap rqC), q])) (by repeat' constructor) (.unfold (q := [slR 33 10 (.slice aw m.length cw) m.length (m.flatMap rqC), q]) (fun _ h => h) ?_)
   have hM := mult13 hC3 hs
   have he3 := hC3.ok hs
   have hB3 := hB.call (by decide) (fun _ => ⟨by decide, by decide⟩) hA6 hC3
   have hs3 := hC3.ses (by show (6 : Int) ≠ 8; decide) hs
   refine .then_n (.seq (.sm rfl (.q (.as (v' := .bool false) (by simp [he3]) (.int rfl rfl rfl)) rfl (.nt (.condF rfl (.sk (.seq (.sr (.u (.fieldAddr rfl fo_41_2) (.u (.ld rfl ag_27) (.ui rfl rfl rfl (.nt (.condN rfl (fun h116 => ?_) (fun h116 => ?_))))))))))))))
   ·refine .sm rfl (.m rfl (.oq (.call Tryz.func12 rfl rfl (vs := [_, _]) rfl (told13_spec b k π3 hs3 (.slice aw m.length cw) m (slR 33 10 (.slice aw m.length cw) m.length (m.flatMap rqC)) (fun _ hp => slR_rd hp) hm8 hmp q hT hZ 62 hB3 (by decide))) ?_))
    rintro v L' ⟨rfl, rfl⟩
    refine .an rfl (.sm rfl (.m rfl (.q (.as (v' := .bool true) (by exact congrArg Value.bool (decide_eq_true (by rw [hM.ids]; exact (told_same (hM.bad (by simpa using h116)) (π.ids 1) m).symm))) (.streq rfl rfl)) rfl (.an rfl (.rt ?_)))))
    exact .vv
   refine .sk (.seq (.seq ?_))
   have hx3 : x3.err = 0 := by simpa using h116
   obtain ⟨hk8, hz3⟩ := hM.good hx3
   have hJ : OneJ ⟨1, ρ.ids 1⟩ m π.τ 0 ρ.τ := OneJ.zero _ m (by rw [hE.τ])
   have hids := hE.ids
   refine .region (.an rfl (.block (.loopK (ι := Nat × Pl) (fun q E => (16, vint q.1) :: E) (fun q => [plR c j q.2]) (fun q => q.1 ≤ m.length ∧ PlB q.2 (61 + q.1) ∧ sesT q.2.τ 1 ∧ q.2.ids = ρ.ids ∧ OneJ ⟨1, q.2.ids 1⟩ m π.τ q.1 q.2.τ) (fun q => m.length - q.1) (0, ρ) (ts := [6, 7, 10]) (.cons rfl (.cons rfl (.cons rfl (.nil)))) (⟨Nat.zero_le _, hD, hE.τ ▸ hs, rfl, hJ⟩) ⟨rfl, rfl, rfl, rfl, trivial⟩ (by repeat' constructor) ?_)))
   rintro ⟨i, ρ4⟩ ⟨hi, hB4, hs4, hid4, hJ4⟩
   dsimp only
   dsimp only at hi hB4 hs4 hid4 hJ4
   refine .seq (.sm rfl (.m rfl (.q (.slen rfl Tryz.underlying23 rfl) rfl (.ui rfl rfl rfl (.nt (.condD rfl (fun h126 => ?_) (fun h126 => ?_)))))))
   ·have hi4 : i < m.length := by omega
    have hmi := hmk _ (List.getElem_mem hi4)
    obtain ⟨su5, ar5, hA5⟩ := hPa.each _ hmi.1 1 ⟨by decide, by decide⟩
    refine .slShape (v := .slice aw m.length cw) (by repeat' constructor) (by omega) fun bw' cw' e0 _ _ => ?_
    simp only [Value.slice.injEq, true_and] at e0
    obtain ⟨rfl, rfl⟩ := e0
    refine .sk (.seq (.block (.sm rfl (.m rfl (.m rfl (.q (.indexAddr rfl rfl el_23 (by omega)) rfl (.q (.loadRdA (sz := 10) (j := i * 10) (k := 10) (p := slR 33 10 _ m.length (m.flatMap rqC)) (vs := rqC m[i]) rfl ag_33 (by repeat' constructor) (fun h hp => slR_rd hp) (by simp) (by omega) (by omega) (flatMap_at (f := rqC) (sz := 10) (fun _ _ => rfl) (by omega))) rfl (.oq (.call Tryz.func10 rfl rfl (vs := [_, _, _]) rfl (plcall_spec c j ρ4 1 m[i] su5 ar5 q hA5 (fun _ => ⟨by decide, by decide⟩) (61 + i) hB4 (by omega))) ?_))))))))
    rintro v L' ⟨ρ5, x5, kids5, e5, hC5, rfl, rfl⟩
    refine .m rfl (.u (.extract rfl rfl) (.u (.extract rfl rfl) (.oq (.allocA ze_41) ?_)))
    rintro v L' ⟨b17, rfl, rfl⟩
    refine .sa rfl rfl sz_41 (by exact hC5.cells) ?_
    refine .a rfl (.nil (.pc b17 (rpC x5) ?_))
    have hst := hJ4.step hi4 (by rw [hid4, ← hE.ids]; exact hk8) hmi.2 hC5 hs4
    refine .then_n (.sm rfl (.q (.as (v' := .bool false) (by simp [hst.2.2.2]) (.int rfl rfl rfl)) rfl (.m rfl (.grun (t := 140) rfl rfl rfl (.u (.fieldAddr rfl fo_41_2) (.grun (t := 140) rfl rfl rfl (.u (.ld rfl ag_27) (.grun (t := 140) rfl rfl rfl (.q (.as (v' := .bool false) (by simp [hst.2.1]) (.int rfl rfl rfl)) rfl (.u (.pickF rfl rfl) (.nt (.condF rfl (.skip (.blk_n (.then_n (.region (.m rfl (.q (.add rfl rfl (by omega)) rfl (.an rfl ?_)))))))))))))))))))
    exact .rk ((i + 1, ρ5)) (⟨by dsimp only; omega, (hB4.call (by omega) (fun _ => ⟨by decide, by decide⟩) hA5 hC5).more (by omega), hC5.ses (by omega) hs4, hst.2.2.1.trans hid4, by dsimp only; rw [hst.2.2.1]; exact hst.1⟩) (by dsimp only; omega) ⟨rfl, rfl, rfl, rfl, trivial⟩
   have hie : i = m.length := by omega
   subst hie
   have hfin : zT π3.τ = zT ρ4.τ := hz3.trans (by have h := hJ4.done (by rw [hid4, ← hE.ids]; exact hk8) (zxN π); rw [hid4, ← hE.ids] at h; exact h)
   refine .exit (.then_e (.then_e (.blk_e (.then_n (.sm rfl (.m rfl (.oq (.call Tryz.func12 rfl rfl (vs := [_, _]) rfl (told13_spec b k π3 hs3 (.slice aw m.length cw) m (slR 33 10 (.slice aw m.length cw) m.length (m.flatMap rqC)) (fun _ hp => slR_rd hp) hm8 hmp q hT hZ 62 hB3 (by decide))) ?_)))))))
   rintro v L' ⟨rfl, rfl⟩
   refine .an rfl (.sm rfl (.m rfl (.oq (.call Tryz.func12 rfl rfl (vs := [_, _]) rfl (told13_spec c j ρ4 hs4 (.slice aw m.length cw) m (slR 33 10 (.slice aw m.length cw) m.length (m.flatMap rqC)) (fun _ hp => slR_rd hp) hm8 hmp q hT hZ (61 + m.length) hB4 (by omega))) ?_)))
   rintro v L' ⟨rfl, rfl⟩
   refine .an rfl (.sm rfl (.m rfl (.q (.as (v' := .bool true) (by exact congrArg Value.bool (decide_eq_true (by rw [hM.ids, hid4, ← hE.ids]; exact told_same hfin (π.ids 1) m))) (.streq rfl rfl)) rfl (.an rfl (.ret ?_)))))
   exact .vv
  refine .kDF (t := 65) rfl h17_66 (.gk (.gk (.u (.pickF rfl rfl) (.nt (.condF rfl (.exit (.then_e (.then_e (.blk_e (.then_n (.seq ?_)))))))))))
  have hm8 : m.length ≤ 8 := by omega
  have hmp : ∀ r ∈ m, r.path.length ≤ 1048566 := fun r hr => by obtain ⟨su, ar, hA⟩ := hPa.each r (hmk r hr).1 1 ⟨by decide, by decide⟩; exact hA.d.w.rq.path
  refine .region (.m rfl (.m rfl (.oq (.call Tryz.func12 rfl rfl (vs := [_, _]) rfl (told13_spec b k π hs (.slice aw m.length cw) m (slR 33 10 (.slice aw m.length cw) m.length (m.flatMap rqC)) (fun _ hp => slR_rd hp) hm8 hmp q hT hZ 61 hB (by decide))) ?_)))
  rintro v L' ⟨rfl, rfl⟩
  refine .an rfl (.sm rfl (.m rfl (.q (.to (v' := .agg (rqC (multQ (.slice aw m.length cw))).toArray) (.build (us := [(0, _), (8, _)]) fl_33 ze_33 rfl rfl (by simp [isCell])) rfl) rfl (.fold (p := (sep [slR 33 10 (.slice aw m.length cw) m.length (m.flatMap rqC), q])) (q := [slR 33 10 (.slice aw m.length cw) m.length (m.flatMap rqC), q]) (by repeat' constructor) (fun _ h => h) ?_))))
  have hA6 : CallA (sep [slR 33 10 (.slice aw m.length cw) m.length (m.flatMap rqC), q]) 1 (multQ (.slice aw m.length cw)) m [] := mult_A hPa (fun r hr => (hmk r hr).1) hT hZ ⟨aw, cw, rfl⟩ ⟨by decide, by decide⟩
  refine .oq (.call Tryz.func10 rfl rfl (vs := [_, _, _]) rfl (plcall_spec b k π 1 (multQ (.slice aw m.length cw)) m [] (sep [slR 33 10 (.slice aw m.length cw) m.length (m.flatMap rqC), q]) hA6 (fun _ => ⟨by decide, by decide⟩) 61 hB (by decide))) ?_
  rintro v L' ⟨π3, x3, kids3, e3, hC3, rfl, rfl⟩
  refine .m rfl (.u (.extract rfl rfl) (.u (.extract rfl rfl) (.oq (.allocA ze_41) ?_)))
  rintro v L' ⟨b13, rfl, rfl⟩
  refine .sa rfl rfl sz_41 (by exact hC3.cells) ?_
  refine .a rfl (.nil (.pc b13 (rpC x3) ?_))
  refine .focus (p := (sep [slR 33 10 (.slice aw m.length cw) m.length (m.flatMap rqC), q])) (by repeat' constructor) (.unfold (q := [slR 33 10 (.slice aw m.length cw) m.length (m.flatMap rqC), q]) (fun _ h => h) ?_)
  have hM := mult13 hC3 hs
  have he3 := hC3.ok hs
  have hB3 := hB.call (by decide) (fun _ => ⟨by decide, by decide⟩) hA6 hC3
  have hs3 := hC3.ses (by show (6 : Int) ≠ 8; decide) hs
  refine .then_n (.seq (.sm rfl (.q (.as (v' := .bool false) (by simp [he3]) (.int rfl rfl rfl)) rfl (.nt (.condF rfl (.sk (.seq (.sr (.u (.fieldAddr rfl fo_41_2) (.u (.ld rfl ag_27) (.ui rfl rfl rfl (.nt (.condN rfl (fun h116 => ?_) (fun h116 => ?_))))))))))))))
  ·refine .sm rfl (.m rfl (.oq (.call Tryz.func12 rfl rfl (vs := [_, _]) rfl (told13_spec b k π3 hs3 (.slice aw m.length cw) m (slR 33 10 (.slice aw m.length cw) m.length (m.flatMap rqC)) (fun _ hp => slR_rd hp) hm8 hmp q hT hZ 62 hB3 (by decide))) ?_))
   rintro v L' ⟨rfl, rfl⟩
   refine .an rfl (.sm rfl (.m rfl (.q (.as (v' := .bool true) (by exact congrArg Value.bool (decide_eq_true (by rw [hM.ids]; exact (told_same (hM.bad (by simpa using h116)) (π.ids 1) m).symm))) (.streq rfl rfl)) rfl (.an rfl (.rt ?_)))))
   exact .vv
  refine .sk (.seq (.seq ?_))
  have hx3 : x3.err = 0 := by simpa using h116
  obtain ⟨hk8, hz3⟩ := hM.good hx3
  have hJ : OneJ ⟨1, ρ.ids 1⟩ m π.τ 0 ρ.τ := OneJ.zero _ m (by rw [hE.τ])
  have hids := hE.ids
  refine .region (.an rfl (.block (.loopK (ι := Nat × Pl) (fun q E => (16, vint q.1) :: E) (fun q => [plR c j q.2]) (fun q => q.1 ≤ m.length ∧ PlB q.2 (61 + q.1) ∧ sesT q.2.τ 1 ∧ q.2.ids = ρ.ids ∧ OneJ ⟨1, q.2.ids 1⟩ m π.τ q.1 q.2.τ) (fun q => m.length - q.1) (0, ρ) (ts := [6, 7, 10]) (.cons rfl (.cons rfl (.cons rfl (.nil)))) (⟨Nat.zero_le _, hD, hE.τ ▸ hs, rfl, hJ⟩) ⟨rfl, rfl, rfl, rfl, trivial⟩ (by repeat' constructor) ?_)))
  rintro ⟨i, ρ4⟩ ⟨hi, hB4, hs4, hid4, hJ4⟩
  dsimp only
  dsimp only at hi hB4 hs4 hid4 hJ4
  refine .seq (.sm rfl (.m rfl (.q (.slen rfl Tryz.underlying23 rfl) rfl (.ui rfl rfl rfl (.nt (.condD rfl (fun h126 => ?_) (fun h126 => ?_)))))))
  ·have hi4 : i < m.length := by omega
   have hmi := hmk _ (List.getElem_mem hi4)
   obtain ⟨su5, ar5, hA5⟩ := hPa.each _ hmi.1 1 ⟨by decide, by decide⟩
   refine .slShape (v := .slice aw m.length cw) (by repeat' constructor) (by omega) fun bw' cw' e0 _ _ => ?_
   simp only [Value.slice.injEq, true_and] at e0
   obtain ⟨rfl, rfl⟩ := e0
   refine .sk (.seq (.block (.sm rfl (.m rfl (.m rfl (.q (.indexAddr rfl rfl el_23 (by omega)) rfl (.q (.loadRdA (sz := 10) (j := i * 10) (k := 10) (p := slR 33 10 _ m.length (m.flatMap rqC)) (vs := rqC m[i]) rfl ag_33 (by repeat' constructor) (fun h hp => slR_rd hp) (by simp) (by omega) (by omega) (flatMap_at (f := rqC) (sz := 10) (fun _ _ => rfl) (by omega))) rfl (.oq (.call Tryz.func10 rfl rfl (vs := [_, _, _]) rfl (plcall_spec c j ρ4 1 m[i] su5 ar5 q hA5 (fun _ => ⟨by decide, by decide⟩) (61 + i) hB4 (by omega))) ?_))))))))
   rintro v L' ⟨ρ5, x5, kids5, e5, hC5, rfl, rfl⟩
   refine .m rfl (.u (.extract rfl rfl) (.u (.extract rfl rfl) (.oq (.allocA ze_41) ?_)))
   rintro v L' ⟨b17, rfl, rfl⟩
   refine .sa rfl rfl sz_41 (by exact hC5.cells) ?_
   refine .a rfl (.nil (.pc b17 (rpC x5) ?_))
   have hst := hJ4.step hi4 (by rw [hid4, ← hE.ids]; exact hk8) hmi.2 hC5 hs4
   refine .then_n (.sm rfl (.q (.as (v' := .bool false) (by simp [hst.2.2.2]) (.int rfl rfl rfl)) rfl (.m rfl (.grun (t := 140) rfl rfl rfl (.u (.fieldAddr rfl fo_41_2) (.grun (t := 140) rfl rfl rfl (.u (.ld rfl ag_27) (.grun (t := 140) rfl rfl rfl (.q (.as (v' := .bool false) (by simp [hst.2.1]) (.int rfl rfl rfl)) rfl (.u (.pickF rfl rfl) (.nt (.condF rfl (.skip (.blk_n (.then_n (.region (.m rfl (.q (.add rfl rfl (by omega)) rfl (.an rfl ?_)))))))))))))))))))
   exact .rk ((i + 1, ρ5)) (⟨by dsimp only; omega, (hB4.call (by omega) (fun _ => ⟨by decide, by decide⟩) hA5 hC5).more (by omega), hC5.ses (by omega) hs4, hst.2.2.1.trans hid4, by dsimp only; rw [hst.2.2.1]; exact hst.1⟩) (by dsimp only; omega) ⟨rfl, rfl, rfl, rfl, trivial⟩
  have hie : i = m.length := by omega
  subst hie
  have hfin : zT π3.τ = zT ρ4.τ := hz3.trans (by have h := hJ4.done (by rw [hid4, ← hE.ids]; exact hk8) (zxN π); rw [hid4, ← hE.ids] at h; exact h)
  refine .exit (.then_e (.then_e (.blk_e (.then_n (.sm rfl (.m rfl (.oq (.call Tryz.func12 rfl rfl (vs := [_, _]) rfl (told13_spec b k π3 hs3 (.slice aw m.length cw) m (slR 33 10 (.slice aw m.length cw) m.length (m.flatMap rqC)) (fun _ hp => slR_rd hp) hm8 hmp q hT hZ 62 hB3 (by decide))) ?_)))))))
  rintro v L' ⟨rfl, rfl⟩
  refine .an rfl (.sm rfl (.m rfl (.oq (.call Tryz.func12 rfl rfl (vs := [_, _]) rfl (told13_spec c j ρ4 hs4 (.slice aw m.length cw) m (slR 33 10 (.slice aw m.length cw) m.length (m.flatMap rqC)) (fun _ hp => slR_rd hp) hm8 hmp q hT hZ (61 + m.length) hB4 (by omega))) ?_)))
  rintro v L' ⟨rfl, rfl⟩
  refine .an rfl (.sm rfl (.m rfl (.q (.as (v' := .bool true) (by exact congrArg Value.bool (decide_eq_true (by rw [hM.ids, hid4, ← hE.ids]; exact told_same hfin (π.ids 1) m))) (.streq rfl rfl)) rfl (.an rfl (.ret ?_)))))
  exact .vv
 refine .kDF (t := 41) rfl h9_42 (.gk (.gk (.u (.pickF rfl rfl) (.nt (.condF rfl (.exit (.then_e (.then_e (.blk_e (.then_n (.seq ?_)))))))))))
 have hB := hB.more (m := 61) (by omega)
 have hD := hD.more (m := 61) (by omega)
 clear hix
 refine .add (slR_nil 33 10) (.region (.an rfl (.seq (.sr (.an rfl (.block (.loopK (ι := Nat × (List Rq) × Value) (fun q E => (11, vint q.1) :: (10, q.2.2) :: E) (fun q => [slR 33 10 q.2.2 q.2.1.length (q.2.1.flatMap rqC)]) (fun q => q.1 ≤ 8 ∧ q.1 ≤ ps.length ∧ q.2.1.length ≤ q.1 ∧ (∀ r ∈ q.2.1, r ∈ ps ∧ 1 ≤ r.kind ∧ r.kind ≤ 4) ∧ ∃ a c, q.2.2 = .slice a q.2.1.length c) (fun q => 8 - q.1) (0, [], .slice none 0 0) (ts := [1, 4, 6, 7]) (.cons rfl (.cons rfl (.cons rfl (.cons rfl (.nil))))) (⟨by decide, Nat.zero_le _, Nat.zero_le _, (fun r h => by cases h), none, 0, rfl⟩) ⟨rfl, rfl, rfl, rfl, rfl, rfl, trivial⟩ (by repeat' constructor) ?_)))))))
 rintro ⟨i, m, w⟩ ⟨hi8, hip, hml, hmk, aw, cw, hw⟩
 dsimp only
 dsimp only at hi8 hip hml hmk hw
 subst hw
 refine .seq (.sm rfl (.m rfl (.q (.slen rfl Tryz.underlying23 rfl) rfl (.ui rfl rfl rfl (.m rfl (.dec (t := 66) rfl (fun h17_66 => ?_) (fun h17_66 => ?_)))))))
 ·refine .kDT (t := 65) rfl h17_66 (.grun (t := 66) rfl rfl rfl (.m rfl (.grun (t := 66) rfl rfl rfl (.ui rfl rfl rfl (.u (.pickT rfl rfl) (.nt (.condD rfl (fun h69 => ?_) (fun h69 => ?_))))))))
  ·have hi3 : i < ps.length := by omega
   have hi8b : i < 8 := by omega
   refine .rdShape (p := q) hPa.cells (by repeat' constructor) (by omega) fun bp op e => ?_
   subst e
   obtain ⟨psubs, parm, hAp⟩ := hPa.each _ (List.getElem_mem hi3) 1 ⟨by decide, by decide⟩
   refine .sk (.seq (.block (.sm rfl (.m rfl (.q (.indexAddr rfl rfl el_23 (by omega)) rfl (.u (.fieldAddr rfl fo_33_0) (.q (.loadRd (sz := 10) (j := i * 10 + 0) (p := q) (v := vint ps[i].kind) rfl ag_3 (by repeat' constructor) hPa.cells (by omega) ((flatMap_cell (f := rqC) (sz := 10) (l := ps) (i := i) (k := 0) (fun _ _ => rfl) (by omega) (by decide)).trans rfl)) rfl (.ui rfl rfl rfl (.m rfl (.dec (t := 78) rfl (fun h19_78 => ?_) (fun h19_78 => ?_)))))))))))
   ·refine .kDT (t := 77) rfl h19_78 (.grun (t := 78) rfl rfl rfl (.m rfl (.grun (t := 78) rfl rfl rfl (.m rfl (.grun (t := 78) rfl rfl rfl (.q (.indexAddr rfl rfl el_23 (by omega)) rfl (.grun (t := 78) rfl rfl rfl (.u (.fieldAddr rfl fo_33_0) (.grun (t := 78) rfl rfl rfl (.q (.loadRd (sz := 10) (j := i * 10 + 0) (p := q) (v := vint ps[i].kind) rfl ag_3 (by repeat' constructor) hPa.cells (by omega) ((flatMap_cell (f := rqC) (sz := 10) (l := ps) (i := i) (k := 0) (fun _ _ => rfl) (by omega) (by decide)).trans rfl)) rfl (.grun (t := 78) rfl rfl rfl (.ui rfl rfl rfl (.u (.pickT rfl rfl) (.m rfl (.dec (t := 86) rfl (fun h19_86 => ?_) (fun h19_86 => ?_))))))))))))))))
    ·refine .kDT (t := 84) rfl h19_86 (.kDT (t := 85) rfl h19_86 (.grun (t := 86) rfl rfl rfl (.m rfl (.grun (t := 86) rfl rfl rfl (.m rfl (.grun (t := 86) rfl rfl rfl (.q (.indexAddr rfl rfl el_23 (by omega)) rfl (.grun (t := 86) rfl rfl rfl (.u (.fieldAddr rfl fo_33_5) (.grun (t := 86) rfl rfl rfl (.q (.loadRd (sz := 10) (j := i * 10 + 5) (p := q) (v := vint ps[i].flags) rfl ag_3 (by repeat' constructor) hPa.cells (by omega) ((flatMap_cell (f := rqC) (sz := 10) (l := ps) (i := i) (k := 5) (fun _ _ => rfl) (by omega) (by decide)).trans rfl)) rfl (.grun (t := 86) rfl rfl rfl (.cv Tryz.func11 [_, _] (pick13_spec ps[i].flags 4 hAp.d.w.rq.flags (by decide)) ?_)))))))))))))
     refine .grun (t := 86) rfl rfl rfl (.ui rfl rfl rfl (.u (.pickT rfl rfl) (.nt (.condD rfl (fun h94 => ?_) (fun h94 => ?_)))))
     ·refine .region (.m rfl (.m rfl (.m rfl (.q (.indexAddr rfl rfl el_23 (by omega)) rfl (.q (.loadRdA (sz := 10) (j := i * 10) (k := 10) (p := q) (vs := rqC ps[i]) rfl ag_33 (by repeat' constructor) hPa.cells (by simp) (by omega) (by omega) (flatMap_at (f := rqC) (sz := 10) (fun _ _ => rfl) (by omega))) rfl (.oq (.buildSlice (vs := [_]) el_23 ze_33 rfl rfl rfl rfl (by first | (simp [Value.cells]; done) | (intro v hv; simp only [List.mem_cons, List.not_mem_nil, or_false] at hv; (repeat (first | (subst hv; rfl) | (rcases hv with hv | hv; (subst hv; rfl)))))) (by decide)) ?_))))))
      rintro v L' ⟨bw, rfl, rfl⟩
      refine .oq (.append1 rfl rfl rfl el_23 ze_33 rfl rfl ?c263 ?c264 (Nat.le_refl _) ?c265 (by decide)) ?_
      case c263 => simp only [List.map_cons, List.map_nil, List.flatten_cons, List.flatten_nil, List.append_nil]; simp only [Value.cells]; exact hAp.rqc
      case c264 => rfl
      case c265 => omega
      rintro v L' ⟨⟨a20, c20, rfl⟩, rfl⟩
      refine .a rfl (.nil (.blk_n (.then_n (.region (.m rfl (.q (.add rfl rfl (by omega)) rfl (.an rfl (.slCast (T := 33) (sz := 10) (m' := (m ++ [ps[i]]).length) (xs' := (m ++ [ps[i]]).flatMap rqC) (by repeat' constructor) (by rw [List.length_append]; rfl) (by rw [List.flatMap_append]; simp [Value.cells]) ?_))))))))
      rw [show m.length + 1 = (m ++ [ps[i]]).length from by rw [List.length_append]; rfl]
      exact .rk ((i + 1, m ++ [ps[i]], .slice a20 (m ++ [ps[i]]).length c20)) (⟨by dsimp only; omega, by dsimp only; omega, by dsimp only; rw [List.length_append, List.length_singleton]; omega, fun r hr => by rcases List.mem_append.1 hr with h | h; exact hmk r h; rw [List.mem_singleton.1 h]; exact ⟨List.getElem_mem hi3, by assumption, by assumption⟩, a20, c20, rfl⟩) (by dsimp only; omega) ⟨rfl, rfl, rfl, rfl, rfl, rfl, trivial⟩
     refine .skip (.blk_n (.then_n (.region (.m rfl (.q (.add rfl rfl (by omega)) rfl (.an rfl ?_))))))
     exact .rk ((i + 1, m, .slice aw m.length cw)) (⟨by dsimp only; omega, by dsimp only; omega, by dsimp only; omega, hmk, aw, cw, rfl⟩) (by dsimp only; omega) ⟨rfl, rfl, rfl, rfl, rfl, rfl, trivial⟩
    refine .kDF (t := 84) rfl h19_86 (.kDF (t := 85) rfl h19_86 (.gk (.gk (.gk (.gk (.gk (.gk (.gk (.u (.pickF rfl rfl) (.nt (.condF rfl (.skip (.blk_n (.then_n (.region (.m rfl (.q (.add rfl rfl (by omega)) rfl (.an rfl ?_))))))))))))))))))
    exact .rk ((i + 1, m, .slice aw m.length cw)) (⟨by dsimp only; omega, by dsimp only; omega, by dsimp only; omega, hmk, aw, cw, rfl⟩) (by dsimp only; omega) ⟨rfl, rfl, rfl, rfl, rfl, rfl, trivial⟩
   refine .kDF (t := 77) rfl h19_78 (.gk (.gk (.gk (.gk (.gk (.gk (.u (.pickF rfl rfl) (.m rfl (.gk (.gk (.gk (.gk (.gk (.gk (.gk (.u (.pickF rfl rfl) (.nt (.condF rfl (.skip (.blk_n (.then_n (.region (.m rfl (.q (.add rfl rfl (by omega)) rfl (.an rfl ?_)))))))))))))))))))))))))
   exact .rk ((i + 1, m, .slice aw m.length cw)) (⟨by dsimp only; omega, by dsimp only; omega, by dsimp only; omega, hmk, aw, cw, rfl⟩) (by dsimp only; omega) ⟨rfl, rfl, rfl, rfl, rfl, rfl, trivial⟩
  refine .exit (.then_e (.then_e (.blk_e (.then_n (.seq ?_)))))
  have hm8 : m.length ≤ 8 := by omega
  have hmp : ∀ r ∈ m, r.path.length ≤ 1048566 := fun r hr => by obtain ⟨su, ar, hA⟩ := hPa.each r (hmk r hr).1 1 ⟨by decide, by decide⟩; exact hA.d.w.rq.path
  refine .region (.m rfl (.m rfl (.oq (.call Tryz.func12 rfl rfl (vs := [_, _]) rfl (told13_spec b k π hs (.slice aw m.length cw) m (slR 33 10 (.slice aw m.length cw) m.length (m.flatMap rqC)) (fun _ hp => slR_rd hp) hm8 hmp q hT hZ 61 hB (by decide))) ?_)))
  rintro v L' ⟨rfl, rfl⟩
  refine .an rfl (.sm rfl (.m rfl (.q (.to (v' := .agg (rqC (multQ (.slice aw m.length cw))).toArray) (.build (us := [(0, _), (8, _)]) fl_33 ze_33 rfl rfl (by simp [isCell])) rfl) rfl (.fold (p := (sep [slR 33 10 (.slice aw m.length cw) m.length (m.flatMap rqC), q])) (q := [slR 33 10 (.slice aw m.length cw) m.length (m.flatMap rqC), q]) (by repeat' constructor) (fun _ h => h) ?_))))
  have hA6 : CallA (sep [slR 33 10 (.slice aw m.length cw) m.length (m.flatMap rqC), q]) 1 (multQ (.slice aw m.length cw)) m [] := mult_A hPa (fun r hr => (hmk r hr).1) hT hZ ⟨aw, cw, rfl⟩ ⟨by decide, by decide⟩
  refine .oq (.call Tryz.func10 rfl rfl (vs := [_, _, _]) rfl (plcall_spec b k π 1 (multQ (.slice aw m.length cw)) m [] (sep [slR 33 10 (.slice aw m.length cw) m.length (m.flatMap rqC), q]) hA6 (fun _ => ⟨by decide, by decide⟩) 61 hB (by decide))) ?_
  rintro v L' ⟨π3, x3, kids3, e3, hC3, rfl, rfl⟩
  refine .m rfl (.u (.extract rfl rfl) (.u (.extract rfl rfl) (.oq (.allocA ze_41) ?_)))
  rintro v L' ⟨b13, rfl, rfl⟩
  refine .sa rfl rfl sz_41 (by exact hC3.cells) ?_
  refine .a rfl (.nil (.pc b13 (rpC x3) ?_))
  refine .focus (p := (sep [slR 33 10 (.slice aw m.length cw) m.length (m.flatMap rqC), q])) (by repeat' constructor) (.unfold (q := [slR 33 10 (.slice aw m.length cw) m.length (m.flatMap rqC), q]) (fun _ h => h) ?_)
  have hM := mult13 hC3 hs
  have he3 := hC3.ok hs
  have hB3 := hB.call (by decide) (fun _ => ⟨by decide, by decide⟩) hA6 hC3
  have hs3 := hC3.ses (by show (6 : Int) ≠ 8; decide) hs
  refine .then_n (.seq (.sm rfl (.q (.as (v' := .bool false) (by simp [he3]) (.int rfl rfl rfl)) rfl (.nt (.condF rfl (.sk (.seq (.sr (.u (.fieldAddr rfl fo_41_2) (.u (.ld rfl ag_27) (.ui rfl rfl rfl (.nt (.condN rfl (fun h116 => ?_) (fun h116 => ?_))))))))))))))
  ·refine .sm rfl (.m rfl (.oq (.call Tryz.func12 rfl rfl (vs := [_, _]) rfl (told13_spec b k π3 hs3 (.slice aw m.length cw) m (slR 33 10 (.slice aw m.length cw) m.length (m.flatMap rqC)) (fun _ hp => slR_rd hp) hm8 hmp q hT hZ 62 hB3 (by decide))) ?_))
   rintro v L' ⟨rfl, rfl⟩
   refine .an rfl (.sm rfl (.m rfl (.q (.as (v' := .bool true) (by exact congrArg Value.bool (decide_eq_true (by rw [hM.ids]; exact (told_same (hM.bad (by simpa using h116)) (π.ids 1) m).symm))) (.streq rfl rfl)) rfl (.an rfl (.rt ?_)))))
   exact .vv
  refine .sk (.seq (.seq ?_))
  have hx3 : x3.err = 0 := by simpa using h116
  obtain ⟨hk8, hz3⟩ := hM.good hx3
  have hJ : OneJ ⟨1, ρ.ids 1⟩ m π.τ 0 ρ.τ := OneJ.zero _ m (by rw [hE.τ])
  have hids := hE.ids
  refine .region (.an rfl (.block (.loopK (ι := Nat × Pl) (fun q E => (16, vint q.1) :: E) (fun q => [plR c j q.2]) (fun q => q.1 ≤ m.length ∧ PlB q.2 (61 + q.1) ∧ sesT q.2.τ 1 ∧ q.2.ids = ρ.ids ∧ OneJ ⟨1, q.2.ids 1⟩ m π.τ q.1 q.2.τ) (fun q => m.length - q.1) (0, ρ) (ts := [6, 7, 10]) (.cons rfl (.cons rfl (.cons rfl (.nil)))) (⟨Nat.zero_le _, hD, hE.τ ▸ hs, rfl, hJ⟩) ⟨rfl, rfl, rfl, rfl, trivial⟩ (by repeat' constructor) ?_)))
  rintro ⟨i, ρ4⟩ ⟨hi, hB4, hs4, hid4, hJ4⟩
  dsimp only
  dsimp only at hi hB4 hs4 hid4 hJ4
  refine .seq (.sm rfl (.m rfl (.q (.slen rfl Tryz.underlying23 rfl) rfl (.ui rfl rfl rfl (.nt (.condD rfl (fun h126 => ?_) (fun h126 => ?_)))))))
  ·have hi4 : i < m.length := by omega
   have hmi := hmk _ (List.getElem_mem hi4)
   obtain ⟨su5, ar5, hA5⟩ := hPa.each _ hmi.1 1 ⟨by decide, by decide⟩
   refine .slShape (v := .slice aw m.length cw) (by repeat' constructor) (by omega) fun bw' cw' e0 _ _ => ?_
   simp only [Value.slice.injEq, true_and] at e0
   obtain ⟨rfl, rfl⟩ := e0
   refine .sk (.seq (.block (.sm rfl (.m rfl (.m rfl (.q (.indexAddr rfl rfl el_23 (by omega)) rfl (.q (.loadRdA (sz := 10) (j := i * 10) (k := 10) (p := slR 33 10 _ m.length (m.flatMap rqC)) (vs := rqC m[i]) rfl ag_33 (by repeat' constructor) (fun h hp => slR_rd hp) (by simp) (by omega) (by omega) (flatMap_at (f := rqC) (sz := 10) (fun _ _ => rfl) (by omega))) rfl (.oq (.call Tryz.func10 rfl rfl (vs := [_, _, _]) rfl (plcall_spec c j ρ4 1 m[i] su5 ar5 q hA5 (fun _ => ⟨by decide, by decide⟩) (61 + i) hB4 (by omega))) ?_))))))))
   rintro v L' ⟨ρ5, x5, kids5, e5, hC5, rfl, rfl⟩
   refine .m rfl (.u (.extract rfl rfl) (.u (.extract rfl rfl) (.oq (.allocA ze_41) ?_)))
   rintro v L' ⟨b17, rfl, rfl⟩
   refine .sa rfl rfl sz_41 (by exact hC5.cells) ?_
   refine .a rfl (.nil (.pc b17 (rpC x5) ?_))
   have hst := hJ4.step hi4 (by rw [hid4, ← hE.ids]; exact hk8) hmi.2 hC5 hs4
   refine .then_n (.sm rfl (.q (.as (v' := .bool false) (by simp [hst.2.2.2]) (.int rfl rfl rfl)) rfl (.m rfl (.grun (t := 140) rfl rfl rfl (.u (.fieldAddr rfl fo_41_2) (.grun (t := 140) rfl rfl rfl (.u (.ld rfl ag_27) (.grun (t := 140) rfl rfl rfl (.q (.as (v' := .bool false) (by simp [hst.2.1]) (.int rfl rfl rfl)) rfl (.u (.pickF rfl rfl) (.nt (.condF rfl (.skip (.blk_n (.then_n (.region (.m rfl (.q (.add rfl rfl (by omega)) rfl (.an rfl ?_)))))))))))))))))))
   exact .rk ((i + 1, ρ5)) (⟨by dsimp only; omega, (hB4.call (by omega) (fun _ => ⟨by decide, by decide⟩) hA5 hC5).more (by omega), hC5.ses (by omega) hs4, hst.2.2.1.trans hid4, by dsimp only; rw [hst.2.2.1]; exact hst.1⟩) (by dsimp only; omega) ⟨rfl, rfl, rfl, rfl, trivial⟩
  have hie : i = m.length := by omega
  subst hie
  have hfin : zT π3.τ = zT ρ4.τ := hz3.trans (by have h := hJ4.done (by rw [hid4, ← hE.ids]; exact hk8) (zxN π); rw [hid4, ← hE.ids] at h; exact h)
  refine .exit (.then_e (.then_e (.blk_e (.then_n (.sm rfl (.m rfl (.oq (.call Tryz.func12 rfl rfl (vs := [_, _]) rfl (told13_spec b k π3 hs3 (.slice aw m.length cw) m (slR 33 10 (.slice aw m.length cw) m.length (m.flatMap rqC)) (fun _ hp => slR_rd hp) hm8 hmp q hT hZ 62 hB3 (by decide))) ?_)))))))
  rintro v L' ⟨rfl, rfl⟩
  refine .an rfl (.sm rfl (.m rfl (.oq (.call Tryz.func12 rfl rfl (vs := [_, _]) rfl (told13_spec c j ρ4 hs4 (.slice aw m.length cw) m (slR 33 10 (.slice aw m.length cw) m.length (m.flatMap rqC)) (fun _ hp => slR_rd hp) hm8 hmp q hT hZ (61 + m.length) hB4 (by omega))) ?_)))
  rintro v L' ⟨rfl, rfl⟩
  refine .an rfl (.sm rfl (.m rfl (.q (.as (v' := .bool true) (by exact congrArg Value.bool (decide_eq_true (by rw [hM.ids, hid4, ← hE.ids]; exact told_same hfin (π.ids 1) m))) (.streq rfl rfl)) rfl (.an rfl (.ret ?_)))))
  exact .vv
 refine .kDF (t := 65) rfl h17_66 (.gk (.gk (.u (.pickF rfl rfl) (.nt (.condF rfl (.exit (.then_e (.then_e (.blk_e (.then_n (.seq ?_)))))))))))
 have hm8 : m.length ≤ 8 := by omega
 have hmp : ∀ r ∈ m, r.path.length ≤ 1048566 := fun r hr => by obtain ⟨su, ar, hA⟩ := hPa.each r (hmk r hr).1 1 ⟨by decide, by decide⟩; exact hA.d.w.rq.path
 refine .region (.m rfl (.m rfl (.oq (.call Tryz.func12 rfl rfl (vs := [_, _]) rfl (told13_spec b k π hs (.slice aw m.length cw) m (slR 33 10 (.slice aw m.length cw) m.length (m.flatMap rqC)) (fun _ hp => slR_rd hp) hm8 hmp q hT hZ 61 hB (by decide))) ?_)))
 rintro v L' ⟨rfl, rfl⟩
 refine .an rfl (.sm rfl (.m rfl (.q (.to (v' := .agg (rqC (multQ (.slice aw m.length cw))).toArray) (.build (us := [(0, _), (8, _)]) fl_33 ze_33 rfl rfl (by simp [isCell])) rfl) rfl (.fold (p := (sep [slR 33 10 (.slice aw m.length cw) m.length (m.flatMap rqC), q])) (q := [slR 33 10 (.slice aw m.length cw) m.length (m.flatMap rqC), q]) (by repeat' constructor) (fun _ h => h) ?_))))
 have hA6 : CallA (sep [slR 33 10 (.slice aw m.length cw) m.length (m.flatMap rqC), q]) 1 (multQ (.slice aw m.length cw)) m [] := mult_A hPa (fun r hr => (hmk r hr).1) hT hZ ⟨aw, cw, rfl⟩ ⟨by decide, by decide⟩
 refine .oq (.call Tryz.func10 rfl rfl (vs := [_, _, _]) rfl (plcall_spec b k π 1 (multQ (.slice aw m.length cw)) m [] (sep [slR 33 10 (.slice aw m.length cw) m.length (m.flatMap rqC), q]) hA6 (fun _ => ⟨by decide, by decide⟩) 61 hB (by decide))) ?_
 rintro v L' ⟨π3, x3, kids3, e3, hC3, rfl, rfl⟩
 refine .m rfl (.u (.extract rfl rfl) (.u (.extract rfl rfl) (.oq (.allocA ze_41) ?_)))
 rintro v L' ⟨b13, rfl, rfl⟩
 refine .sa rfl rfl sz_41 (by exact hC3.cells) ?_
 refine .a rfl (.nil (.pc b13 (rpC x3) ?_))
 refine .focus (p := (sep [slR 33 10 (.slice aw m.length cw) m.length (m.flatMap rqC), q])) (by repeat' constructor) (.unfold (q := [slR 33 10 (.slice aw m.length cw) m.length (m.flatMap rqC), q]) (fun _ h => h) ?_)
 have hM := mult13 hC3 hs
 have he3 := hC3.ok hs
 have hB3 := hB.call (by decide) (fun _ => ⟨by decide, by decide⟩) hA6 hC3
 have hs3 := hC3.ses (by show (6 : Int) ≠ 8; decide) hs
 refine .then_n (.seq (.sm rfl (.q (.as (v' := .bool false) (by simp [he3]) (.int rfl rfl rfl)) rfl (.nt (.condF rfl (.sk (.seq (.sr (.u (.fieldAddr rfl fo_41_2) (.u (.ld rfl ag_27) (.ui rfl rfl rfl (.nt (.condN rfl (fun h116 => ?_) (fun h116 => ?_))))))))))))))
 ·refine .sm rfl (.m rfl (.oq (.call Tryz.func12 rfl rfl (vs := [_, _]) rfl (told13_spec b k π3 hs3 (.slice aw m.length cw) m (slR 33 10 (.slice aw m.length cw) m.length (m.flatMap rqC)) (fun _ hp => slR_rd hp) hm8 hmp q hT hZ 62 hB3 (by decide))) ?_))
  rintro v L' ⟨rfl, rfl⟩
  refine .an rfl (.sm rfl (.m rfl (.q (.as (v' := .bool true) (by exact congrArg Value.bool (decide_eq_true (by rw [hM.ids]; exact (told_same (hM.bad (by simpa using h116)) (π.ids 1) m).symm))) (.streq rfl rfl)) rfl (.an rfl (.rt ?_)))))
  exact .vv
 refine .sk (.seq (.seq ?_))
 have hx3 : x3.err = 0 := by simpa using h116
 obtain ⟨hk8, hz3⟩ := hM.good hx3
 have hJ : OneJ ⟨1, ρ.ids 1⟩ m π.τ 0 ρ.τ := OneJ.zero _ m (by rw [hE.τ])
 have hids := hE.ids
 refine .region (.an rfl (.block (.loopK (ι := Nat × Pl) (fun q E => (16, vint q.1) :: E) (fun q => [plR c j q.2]) (fun q => q.1 ≤ m.length ∧ PlB q.2 (61 + q.1) ∧ sesT q.2.τ 1 ∧ q.2.ids = ρ.ids ∧ OneJ ⟨1, q.2.ids 1⟩ m π.τ q.1 q.2.τ) (fun q => m.length - q.1) (0, ρ) (ts := [6, 7, 10]) (.cons rfl (.cons rfl (.cons rfl (.nil)))) (⟨Nat.zero_le _, hD, hE.τ ▸ hs, rfl, hJ⟩) ⟨rfl, rfl, rfl, rfl, trivial⟩ (by repeat' constructor) ?_)))
 rintro ⟨i, ρ4⟩ ⟨hi, hB4, hs4, hid4, hJ4⟩
 dsimp only
 dsimp only at hi hB4 hs4 hid4 hJ4
 refine .seq (.sm rfl (.m rfl (.q (.slen rfl Tryz.underlying23 rfl) rfl (.ui rfl rfl rfl (.nt (.condD rfl (fun h126 => ?_) (fun h126 => ?_)))))))
 ·have hi4 : i < m.length := by omega
  have hmi := hmk _ (List.getElem_mem hi4)
  obtain ⟨su5, ar5, hA5⟩ := hPa.each _ hmi.1 1 ⟨by decide, by decide⟩
  refine .slShape (v := .slice aw m.length cw) (by repeat' constructor) (by omega) fun bw' cw' e0 _ _ => ?_
  simp only [Value.slice.injEq, true_and] at e0
  obtain ⟨rfl, rfl⟩ := e0
  refine .sk (.seq (.block (.sm rfl (.m rfl (.m rfl (.q (.indexAddr rfl rfl el_23 (by omega)) rfl (.q (.loadRdA (sz := 10) (j := i * 10) (k := 10) (p := slR 33 10 _ m.length (m.flatMap rqC)) (vs := rqC m[i]) rfl ag_33 (by repeat' constructor) (fun h hp => slR_rd hp) (by simp) (by omega) (by omega) (flatMap_at (f := rqC) (sz := 10) (fun _ _ => rfl) (by omega))) rfl (.oq (.call Tryz.func10 rfl rfl (vs := [_, _, _]) rfl (plcall_spec c j ρ4 1 m[i] su5 ar5 q hA5 (fun _ => ⟨by decide, by decide⟩) (61 + i) hB4 (by omega))) ?_))))))))
  rintro v L' ⟨ρ5, x5, kids5, e5, hC5, rfl, rfl⟩
  refine .m rfl (.u (.extract rfl rfl) (.u (.extract rfl rfl) (.oq (.allocA ze_41) ?_)))
  rintro v L' ⟨b17, rfl, rfl⟩
  refine .sa rfl rfl sz_41 (by exact hC5.cells) ?_
  refine .a rfl (.nil (.pc b17 (rpC x5) ?_))
  have hst := hJ4.step hi4 (by rw [hid4, ← hE.ids]; exact hk8) hmi.2 hC5 hs4
  refine .then_n (.sm rfl (.q (.as (v' := .bool false) (by simp [hst.2.2.2]) (.int rfl rfl rfl)) rfl (.m rfl (.grun (t := 140) rfl rfl rfl (.u (.fieldAddr rfl fo_41_2) (.grun (t := 140) rfl rfl rfl (.u (.ld rfl ag_27) (.grun (t := 140) rfl rfl rfl (.q (.as (v' := .bool false) (by simp [hst.2.1]) (.int rfl rfl rfl)) rfl (.u (.pickF rfl rfl) (.nt (.condF rfl (.skip (.blk_n (.then_n (.region (.m rfl (.q (.add rfl rfl (by omega)) rfl (.an rfl ?_)))))))))))))))))))
  exact .rk ((i + 1, ρ5)) (⟨by dsimp only; omega, (hB4.call (by omega) (fun _ => ⟨by decide, by decide⟩) hA5 hC5).more (by omega), hC5.ses (by omega) hs4, hst.2.2.1.trans hid4, by dsimp only; rw [hst.2.2.1]; exact hst.1⟩) (by dsimp only; omega) ⟨rfl, rfl, rfl, rfl, trivial⟩
 have hie : i = m.length := by omega
 subst hie
 have hfin : zT π3.τ = zT ρ4.τ := hz3.trans (by have h := hJ4.done (by rw [hid4, ← hE.ids]; exact hk8) (zxN π); rw [hid4, ← hE.ids] at h; exact h)
 refine .exit (.then_e (.then_e (.blk_e (.then_n (.sm rfl (.m rfl (.oq (.call Tryz.func12 rfl rfl (vs := [_, _]) rfl (told13_spec b k π3 hs3 (.slice aw m.length cw) m (slR 33 10 (.slice aw m.length cw) m.length (m.flatMap rqC)) (fun _ hp => slR_rd hp) hm8 hmp q hT hZ 62 hB3 (by decide))) ?_)))))))
 rintro v L' ⟨rfl, rfl⟩
 refine .an rfl (.sm rfl (.m rfl (.oq (.call Tryz.func12 rfl rfl (vs := [_, _]) rfl (told13_spec c j ρ4 hs4 (.slice aw m.length cw) m (slR 33 10 (.slice aw m.length cw) m.length (m.flatMap rqC)) (fun _ hp => slR_rd hp) hm8 hmp q hT hZ (61 + m.length) hB4 (by omega))) ?_)))
 rintro v L' ⟨rfl, rfl⟩
 refine .an rfl (.sm rfl (.m rfl (.q (.as (v' := .bool true) (by exact congrArg Value.bool (decide_eq_true (by rw [hM.ids, hid4, ← hE.ids]; exact told_same hfin (π.ids 1) m))) (.streq rfl rfl)) rfl (.an rfl (.ret ?_)))))
 exact .vv
open Go Go.ChangeShapes Go.WideShapes Go.ChangeAt Go.RowKit
section
variable {H : Type} {enc : TypeId × Value → H} {P : Program} {W W' : World}
theorem trodAll_old (hl : laidOutB P = true) (hb : Below W.heap.size W W') (sp : Nat → Bool) : ∀ (ts : List TypeId) (vs : List Value) (ds : List (DataW H)) (p : List MemPlace), (∀ t ∈ ts, P.readableRec t = true ∧ t < P.types.size) →
  DataW.TrodAll enc P W 0 (fun _ => true) true ts vs ds p → (∀ x ∈ p, x.block < W.heap.size) → (∀ x ∈ p, sp x.block = true) → DataW.TrodAll enc P W' 0 sp true ts vs ds p
 | [], vs, ds, p, _, h, _, _ => by
  obtain ⟨rfl, rfl, rfl⟩ := trodAll_nil h
  exact h
 | t :: ts, vs, ds, p, hr, h, hlt, hsp => by
  obtain ⟨v, vs1, d, ds1, a, b, rfl, rfl, rfl, h1, h2⟩ := trodAll_cons h
  have r := hr t (by simp)
  refine ⟨a, b, WideElems.Trod_stays hl r.1 r.2 h1 (fun x hx => hb.same (hlt x (by simp [hx]))) (fun x hx => hsp x (by simp [hx])), ?_, rfl⟩
  exact trodAll_old hl hb sp ts vs1 ds1 b (fun t ht => hr t (by simp [ht])) h2 (fun x hx => hlt x (by simp [hx])) (fun x hx => hsp x (by simp [hx]))
theorem settled {fn : Func} {s : ChangeSpec} {apart fresh handsOn again : Bool} {args : Array Value} {ds gs : List (DataW H)} {before : List MemPlace} {tb : TypeId}
  (hW : DataW.Whole enc P fn.params.toList s.vars apart W args.toList ds gs before) (hvars : s.vars = []) (hspec : ∀ gs', gs' = [] → s.fn H (ds ++ gs') = { results := [.lit (.bool true)], args := ds })
  (hres : fn.resultTypes = #[tb]) (htb : P.underlying tb = some .bool) (hl : laidOutB P = true) (hr : ∀ t ∈ fn.params.toList, P.readableRec t = true ∧ t < P.types.size) (hb : Below W.heap.size W W') :
  s.post enc P fn apart fresh handsOn again W args (.bool true) W' := by
 have hW' := hW
 have hlt := hW.lt
 obtain ⟨p, q, hA, hV, rfl, hfz, hnd⟩ := hW
 rw [hvars] at hV
 obtain ⟨rfl, rfl⟩ := trodVars_none hV
 have hs := hspec [] rfl
 have hargs : ∀ sp : Nat → Bool, (∀ x ∈ p, sp x.block = true) → DataW.TrodAll enc P W' 0 sp true fn.params.toList args.toList ds p := fun sp hsp =>
  trodAll_old hl hb sp _ _ _ _ hr hA (fun x hx => hlt x (by simp [hx])) hsp
 have hbool : ∀ (b : Nat) (sp : Nat → Bool) (hd : Bool), DataW.TrodAll enc P W' b sp hd fn.resultTypes.toList ((Value.bool true).resultList fn.resultTypes.size) [.lit (.bool true)] [] := by
  intro b sp hd
  rw [hres]
  exact trodAll_cons_mk (shut_bool htb _) trodAll_mk0
 refine ⟨ds, [], p ++ [], [], p, [], hW', ?_, ?_, ?_, hb.frame _, fun _ => ⟨ok_one hres rfl (okWide_bool_mk htb _), [.lit (.bool true)] ++ ds, [], p, ⟨p, [], ?_, ?_, by simp, ?_, ?_⟩, ?_⟩⟩
 ·rw [hs]; exact hbool _ _ _
 ·rw [hs]; exact hargs _ (fun x hx => by simpa using hlt x (by simp [hx]))
 ·rw [hs, hvars]; exact hV
 ·exact trodAll_append (hargs _ (fun _ _ => rfl)) (hbool _ _ _)
 ·rw [hvars]; exact hV
 ·intro b off hp
  rw [hb.frozen (p := ⟨b, off, none⟩) (hlt (.cell b off) (by simp [hp]))]
  exact hfz b off (by simp [hp])
 ·intro ha
  have := hnd ha
  simpa using this
 ·intro x hx _
  simp [hx]
theorem old_calls {f : FuncId} {args : Array Value} (h : Fn P f args [Old W] fun v L => v = .bool true ∧ L = [Old W]) :
  Calls P f args W fun e W' => e = .returned (.bool true) ∧ Below W.heap.size W W' := by
 have h0 : St [Old W] W := ⟨fun b => W.heap[b]?, fun _ => none, fun _ => .inr rfl, fun b o h => h, fun b o h => (by cases h), fun b hb => rfl, trivial⟩
 refine (h [] W h0).mono ?_
 rintro e W' ⟨v, L, ⟨rfl, rfl⟩, rfl, hs, hk⟩
 refine ⟨rfl, hk.os, hk.tape, hk.output, hk.size, fun k hk' => ?_⟩
 obtain ⟨h1, a1, hp⟩ := sep_head hs
 have e1 := hp k hk'
 have : ∃ o, W.heap[k]? = some o := ⟨_, Array.getElem?_eq_getElem hk'⟩
 obtain ⟨o, ho⟩ := this
 rw [ho] at e1 ⊢
 exact a1 _ _ e1
theorem old_rd {a : Addr} {len cap : Nat} {V : Nat → Value} (hc : ∀ i, i < len → W.cell? (a.add i) = some (V i)) (hle : len ≤ cap) : ∀ h : Hp, Old W h → rdS 1 h (.slice (some a) len cap) len ((List.range len).map V) := by
 intro h hold
 rcases Nat.eq_zero_or_pos len with rfl | hpos
 ·exact .inl ⟨rfl, rfl, some a, cap, rfl⟩
 ·obtain ⟨b, off, spot⟩ := a
  have h0 := hc 0 hpos
  have e0 : (⟨b, off, spot⟩ : Addr).add 0 = ⟨b, off, spot⟩ := by simp [Addr.add]
  rw [e0] at h0
  simp only [World.cell?] at h0
  rcases hw : W.heap[b]? with _ | o
  ·rw [hw] at h0; cases h0
  ·cases o with
   | cells c T fr =>
    rw [hw] at h0
    dsimp only at h0
    split at h0
    ·cases h0
    ·rename_i hsp
     have hspot : spot = none := by simpa using hsp
     subst hspot
     have hc' : ∀ i, i < len → c[off + i]? = some (V i) := by
      intro i hi
      have := hc i hi
      have e1 : (⟨b, off, none⟩ : Addr).add i = ⟨b, off + i, none⟩ := by
       simp only [Addr.add]; split
       ·rename_i h0; simp [h0]
       ·rfl
      rw [e1] at this
      simp only [World.cell?, hw] at this
      simpa using this
     have hlt : b < W.heap.size := by
      rcases Nat.lt_or_ge b W.heap.size with h' | h'
      ·exact h'
      ·rw [Array.getElem?_eq_none h'] at hw; cases hw
     have hlen : off + len ≤ c.size := by
      have := hc' (len - 1) (by omega)
      rcases Nat.lt_or_ge (off + (len - 1)) c.size with h' | h'
      ·omega
      ·rw [Array.getElem?_eq_none h'] at this; cases this
     refine .inr ⟨b, off, cap, c.toList, T, fr, rfl, by rw [hold b hlt, hw], ?_, by simpa using hlen, hle⟩
     apply List.ext_getElem?
     intro i
     rw [Nat.mul_one, List.getElem?_take, List.getElem?_map, List.getElem?_drop]
     split
     ·rename_i hi
      rw [List.getElem?_range hi]
      simpa using hc' i hi
     ·rename_i hi
      rw [List.getElem?_eq_none (by simpa using hi)]; rfl
   | _ => rw [hw] at h0; cases h0
end
open Go Go.ChangeShapes Go.WideShapes Go.ChangeAt Go.RowKit
section
variable {H : Type} {enc : TypeId × Value → H} {P : Program} {W : World}
theorem string_vstr (s : ByteArray) : Value.string s = vstr s.data.toList := by cases s; rfl
end
open Go Go.ChangeShapes Go.WideShapes Go.ChangeAt Go.RowKit
section
variable {H : Type} {enc : TypeId × Value → H} {P : Program} {W : World}
theorem flat_at {α : Type} {sz : Nat} (f : Nat → List α) : ∀ n, (∀ i, i < n → (f i).length = sz) → ∀ j, j < n * sz → ((List.range n).flatMap f)[j]? = (f (j / sz))[j % sz]? ∧ ((List.range n).flatMap f).length = n * sz := by
 intro n
 induction n with
 | zero => intro _ j hj; omega
 | succ n ih =>
  intro hf j hj
  have hn := hf n (by omega)
  have hlen : ((List.range n).flatMap f).length = n * sz := by
   rcases Nat.eq_zero_or_pos (n * sz) with h0 | h0
   ·rcases Nat.eq_zero_or_pos n with h1 | h1
    ·subst h1; simp
    ·have : sz = 0 := by
      rcases Nat.eq_zero_or_pos sz with h2 | h2
      ·exact h2
      ·have := Nat.mul_pos h1 h2; omega
     subst this; omega
   ·exact (ih (fun i hi => hf i (by omega)) 0 h0).2
  have e : (List.range (n + 1)).flatMap f = (List.range n).flatMap f ++ f n := by simp [List.range_succ]
  have hm : (n + 1) * sz = n * sz + sz := by rw [Nat.add_mul, Nat.one_mul]
  rw [e]
  refine ⟨?_, by rw [List.length_append, hlen, hn, hm]⟩
  rcases Nat.lt_or_ge j (n * sz) with h | h
  ·rw [List.getElem?_append_left (by omega)]
   exact (ih (fun i hi => hf i (by omega)) j h).1
  ·rw [List.getElem?_append_right (by omega), hlen]
   have hs : 0 < sz := by omega
   have h1 : j / sz = n := by
    have : j < (n + 1) * sz := hj
    have a := Nat.div_lt_of_lt_mul (show j < sz * (n + 1) by rw [Nat.mul_comm]; exact this)
    have b := (Nat.le_div_iff_mul_le hs).2 h
    omega
   have h2 : j % sz = j - n * sz := by
    have := Nat.div_add_mod j sz
    rw [h1, Nat.mul_comm] at this; omega
   rw [h1, h2]
theorem rdS_regroup {sz n c c1 : Nat} {a : Option Addr} {ys : List Value} {h : Hp} (hr : rdS 1 h (.slice a (n * sz) c1) (n * sz) ys) (hc : n ≤ c) (hs : 0 < sz) : rdS sz h (.slice a n c) n ys := by
 rcases hr with ⟨h1, h2, -⟩ | ⟨b, off, cap, l, T, fr, hv, hb, h1, h2, h3⟩
 ·have : n = 0 := by
   rcases Nat.eq_zero_or_pos n with h0 | h0
   ·exact h0
   ·have := Nat.mul_pos h0 hs; omega
  subst this
  exact .inl ⟨rfl, h2, a, c, rfl⟩
 ·simp only [Value.slice.injEq] at hv
  obtain ⟨rfl, -, -⟩ := hv
  exact .inr ⟨b, off, c, l, T, fr, rfl, hb, by rw [← h1, Nat.mul_one], by rw [Nat.mul_one] at h2; exact h2, hc⟩
abbrev Reads (enc : TypeId × Value → H) (P : Program) (W : World) (fuel : Nat) (t : TypeId) (cs : List Value) (x : DataW H × List MemPlace) : Prop := DataW.trod enc P W 0 (fun _ => true) true fuel t cs = some x
theorem dec_int {t : TypeId} {fuel : Nat} {cs : List Value} {x : DataW H × List MemPlace} (ht : P.underlying t = some (.int .i64)) (h : Reads enc P W fuel t cs x) : ∃ n : Int, cs = [vint n] ∧ -9223372036854775808 ≤ n ∧ n ≤ 9223372036854775807 := by
 obtain ⟨n, rfl, -, hwf⟩ := DataW.trod_int ht h
 exact ⟨n, rfl, bounds_i64 hwf⟩
theorem dec_bool {t : TypeId} {fuel : Nat} {cs : List Value} {x : DataW H × List MemPlace} (ht : P.underlying t = some .bool) (h : Reads enc P W fuel t cs x) : ∃ b : Bool, cs = [.bool b] := by
 obtain ⟨b, rfl, -⟩ := DataW.trod_bool ht h
 exact ⟨b, rfl⟩
end
open Go Go.ChangeShapes Go.WideShapes Go.ChangeAt Go.RowKit
theorem bulk_pos {H : Type} (d : DataW H) : 1 ≤ Rows.uptoBulk d := by
 cases d with
 | lit l => cases l <;> simp [Rows.uptoBulk]
 | _ => simp [Rows.uptoBulk]
theorem bulk_part {H : Type} {d : DataW H} : ∀ {l : List (DataW H)}, d ∈ l → Rows.uptoBulk d ≤ Rows.uptoBulkAll l
 | x :: l, h => by
  unfold Rows.uptoBulkAll
  rcases List.mem_cons.1 h with rfl | h
  ·omega
  ·have := bulk_part h; omega
theorem bulk_count {H : Type} : ∀ l : List (DataW H), l.length ≤ Rows.uptoBulkAll l
 | [] => by simp
 | x :: l => by
  have h1 := bulk_pos x
  have h2 := bulk_count l
  unfold Rows.uptoBulkAll
  rw [List.length_cons]; omega
theorem bulk_sum {H : Type} : ∀ l : List (DataW H), (l.map Rows.uptoBulk).sum ≤ Rows.uptoBulkAll l
 | [] => by simp
 | x :: l => by
  have h2 := bulk_sum l
  unfold Rows.uptoBulkAll
  rw [List.map_cons, List.sum_cons]; omega
theorem bulk_small {H : Type} {l : List (DataW H)} (h : Rows.uptoSmall H l = true) {d : DataW H} (hd : d ∈ l) : Rows.uptoBulk d ≤ 1048576 :=
 Nat.le_trans (bulk_part hd) (of_decide_eq_true h)
instance : Inhabited Value := ⟨.bool false⟩
section
variable {H : Type} {enc : TypeId × Value → H} {P : Program} {W : World} {N : Nat}
theorem dec_int' {t : TypeId} {fuel : Nat} {cs : List Value} {x : DataW H × List MemPlace} (ht : P.underlying t = some (.int .i64)) (h : Reads enc P W fuel t cs x) : ∃ n : Int, cs = [vint n] ∧ (-9223372036854775808 ≤ n ∧ n ≤ 9223372036854775807) := by
 obtain ⟨n, h1, h2⟩ := dec_int ht h; exact ⟨n, h1, h2⟩
theorem dec_sliceV {Z : Type} [Inhabited Z] (toC : Z → List Value) (Q : Z → Prop) {t e : TypeId} {sz : Nat} {fuel : Nat} {cs : List Value} {x : DataW H × List MemPlace} (ht : P.underlying t = some (.slice e)) (hc : P.cellsOf e = sz) (hs : 0 < sz)
  (hdec : ∀ (n : Nat) (cs : List Value) (y : DataW H × List MemPlace), Reads enc P W n e cs y → Rows.uptoBulk y.1 ≤ N → ∃ z, cs = toC z ∧ Q z) (h : Reads enc P W fuel t cs x) (hb : Rows.uptoBulk x.1 ≤ N + 1) :
  ∃ z : Value × List Z, cs = [z.1] ∧ (∀ h : Hp, Old W h → rdS sz h z.1 z.2.length (z.2.flatMap toC)) ∧ z.2.length ≤ N ∧ ∀ y ∈ z.2, Q y := by
 subst hc
 rcases Go.Deep.open_slice ht h with ⟨rfl, rfl⟩ | ⟨a, len, cap, m, n, Dd, Pl, rfl, -, hl, hm, hmm, rfl, hx⟩
 ·exact ⟨(_, []), rfl, fun h _ => .inl ⟨rfl, rfl, none, 0, rfl⟩, by simp, by simp⟩
 ·simp only [if_true] at hmm
  subst hmm
  have hbl : len ≤ N := by
   have := bulk_count ((List.range len).map Dd)
   simp only [Rows.uptoBulk] at hb
   rw [List.length_map, List.length_range] at this
   omega
  have hbe : ∀ i, i < len → Rows.uptoBulk (Dd i) ≤ N := fun i hi => by
   have := bulk_part (d := Dd i) (l := (List.range len).map Dd) (List.mem_map_of_mem (by simpa using hi))
   simp only [Rows.uptoBulk] at hb
   omega
  obtain ⟨Zf, hZ⟩ := Go.Deep.choose_lt (α := Z) (p := fun i z => W.cells? 0 (a.add (i * P.cellsOf e)) (P.cellsOf e) = some (toC z) ∧ Q z) (n := len) (fun i hi => by
   obtain ⟨cs', h1, h2⟩ := hx i (by omega)
   obtain ⟨z, rfl, h3⟩ := hdec _ _ _ h2 (hbe i hi)
   exact ⟨z, h1, h3⟩)
  have hlenf : ∀ i, i < len → (toC (Zf i)).length = P.cellsOf e := fun i hi => (World.cells?_some (hZ i hi).1).2.1
  have hflat := flat_at (fun i => toC (Zf i)) len hlenf
  refine ⟨(_, (List.range len).map Zf), rfl, ?_, ?_, ?_⟩
  ·intro h hold
   dsimp only
   rw [List.length_map, List.length_range]
   refine rdS_regroup (c1 := len * P.cellsOf e) ?_ hl hs
   have e1 : ((List.range len).map Zf).flatMap toC = (List.range (len * P.cellsOf e)).map (fun j => ((List.range len).flatMap fun i => toC (Zf i)).getD j (.bool false)) := by
    rw [List.flatMap_map]
    apply List.ext_getElem?
    intro j
    rcases Nat.lt_or_ge j (len * P.cellsOf e) with hj | hj
    ·rw [List.getElem?_map, List.getElem?_range hj]
     have := (hflat j hj).2
     have hjl : j < ((List.range len).flatMap fun i => toC (Zf i)).length := by omega
     simp only [Option.map_some, List.getD_eq_getElem?_getD, List.getElem?_eq_getElem hjl, Option.getD_some]
    ·have : ((List.range len).flatMap fun i => toC (Zf i)).length = len * P.cellsOf e := by
      rcases Nat.eq_zero_or_pos (len * P.cellsOf e) with h0 | h0
      ·have : len = 0 := by
        rcases Nat.eq_zero_or_pos len with h1 | h1
        ·exact h1
        ·have := Nat.mul_pos h1 hs; omega
       subst this; simp
      ·exact (hflat 0 h0).2
     rw [List.getElem?_eq_none (by omega), List.getElem?_eq_none (by simpa using hj)]
   rw [e1]
   refine old_rd (W := W) (fun j hj => ?_) (Nat.le_refl _) h hold
   have hi : j / P.cellsOf e < len := Nat.div_lt_of_lt_mul (by rw [Nat.mul_comm]; exact hj)
   have hcell := (World.cells?_some (hZ (j / P.cellsOf e) hi).1).2.2 (j % P.cellsOf e) (Nat.mod_lt _ hs)
   rw [Addr.add_add, Nat.mul_comm, Nat.div_add_mod] at hcell
   rw [hcell]
   obtain ⟨f1, f2⟩ := hflat j hj
   rw [List.getD_eq_getElem?_getD, f1]
   have : j % P.cellsOf e < (toC (Zf (j / P.cellsOf e))).length := by rw [hlenf _ hi]; exact Nat.mod_lt _ hs
   simp [this]
  ·dsimp only; rw [List.length_map, List.length_range]; exact hbl
  ·intro z hz
   obtain ⟨i, hi, rfl⟩ := List.mem_map.1 hz
   exact (hZ i (by simpa using hi)).2
theorem dec_sliceQV {Z : Type} [Inhabited Z] (toC : Z → List Value) (Q : Nat → Z → Prop) {t e : TypeId} {sz : Nat} {fuel : Nat} {cs : List Value} {x : DataW H × List MemPlace} (ht : P.underlying t = some (.slice e)) (hc : P.cellsOf e = sz) (hs : 0 < sz)
  (hdec : ∀ (n : Nat) (cs : List Value) (y : DataW H × List MemPlace), Reads enc P W n e cs y → ∃ z, cs = toC z ∧ Q (Rows.uptoBulk y.1) z) (h : Reads enc P W fuel t cs x) (hb : Rows.uptoBulk x.1 ≤ N + 1) :
  ∃ (z : Value × List Z) (ws : List Nat), cs = [z.1] ∧ (∀ h : Hp, Old W h → rdS sz h z.1 z.2.length (z.2.flatMap toC)) ∧ z.2.length ≤ N ∧ ws.length = z.2.length ∧ ws.sum ≤ N ∧ (∀ w ∈ ws, 1 ≤ w) ∧ ∀ i (h1 : i < z.2.length) (h2 : i < ws.length), Q ws[i] z.2[i] := by
 subst hc
 rcases Go.Deep.open_slice ht h with ⟨rfl, rfl⟩ | ⟨a, len, cap, m, n, Dd, Pl, rfl, -, hl, hm, hmm, rfl, hx⟩
 ·exact ⟨(_, []), [], rfl, fun h _ => .inl ⟨rfl, rfl, none, 0, rfl⟩, by simp, rfl, by simp, (fun _ h => by cases h), (fun i h1 _ => by simp at h1)⟩
 ·simp only [if_true] at hmm
  subst hmm
  have hbl : len ≤ N := by
   have := bulk_count ((List.range len).map Dd)
   simp only [Rows.uptoBulk] at hb
   rw [List.length_map, List.length_range] at this
   omega
  have hall : ((List.range len).map fun i => Rows.uptoBulk (Dd i)).sum ≤ N := by
   have := bulk_sum ((List.range len).map Dd)
   rw [List.map_map] at this
   simp only [Rows.uptoBulk] at hb
   have e : ((List.range len).map fun i => Rows.uptoBulk (Dd i)) = (List.range len).map (Rows.uptoBulk ∘ Dd) := rfl
   rw [e]; omega
  obtain ⟨Zf, hZ⟩ := Go.Deep.choose_lt (α := Z) (p := fun i z => W.cells? 0 (a.add (i * P.cellsOf e)) (P.cellsOf e) = some (toC z) ∧ Q (Rows.uptoBulk (Dd i)) z) (n := len) (fun i hi => by
   obtain ⟨cs', h1, h2⟩ := hx i (by omega)
   obtain ⟨z, rfl, h3⟩ := hdec _ _ _ h2
   exact ⟨z, h1, h3⟩)
  have hlenf : ∀ i, i < len → (toC (Zf i)).length = P.cellsOf e := fun i hi => (World.cells?_some (hZ i hi).1).2.1
  have hflat := flat_at (fun i => toC (Zf i)) len hlenf
  refine ⟨(_, (List.range len).map Zf), (List.range len).map fun i => Rows.uptoBulk (Dd i), rfl, ?_, ?_, by simp, hall, ?_, ?_⟩
  ·intro h hold
   dsimp only
   rw [List.length_map, List.length_range]
   refine rdS_regroup (c1 := len * P.cellsOf e) ?_ hl hs
   have e1 : ((List.range len).map Zf).flatMap toC = (List.range (len * P.cellsOf e)).map (fun j => ((List.range len).flatMap fun i => toC (Zf i)).getD j (.bool false)) := by
    rw [List.flatMap_map]
    apply List.ext_getElem?
    intro j
    rcases Nat.lt_or_ge j (len * P.cellsOf e) with hj | hj
    ·rw [List.getElem?_map, List.getElem?_range hj]
     have := (hflat j hj).2
     have hjl : j < ((List.range len).flatMap fun i => toC (Zf i)).length := by omega
     simp only [Option.map_some, List.getD_eq_getElem?_getD, List.getElem?_eq_getElem hjl, Option.getD_some]
    ·have : ((List.range len).flatMap fun i => toC (Zf i)).length = len * P.cellsOf e := by
      rcases Nat.eq_zero_or_pos (len * P.cellsOf e) with h0 | h0
      ·have : len = 0 := by
        rcases Nat.eq_zero_or_pos len with h1 | h1
        ·exact h1
        ·have := Nat.mul_pos h1 hs; omega
       subst this; simp
      ·exact (hflat 0 h0).2
     rw [List.getElem?_eq_none (by omega), List.getElem?_eq_none (by simpa using hj)]
   rw [e1]
   refine old_rd (W := W) (fun j hj => ?_) (Nat.le_refl _) h hold
   have hi : j / P.cellsOf e < len := Nat.div_lt_of_lt_mul (by rw [Nat.mul_comm]; exact hj)
   have hcell := (World.cells?_some (hZ (j / P.cellsOf e) hi).1).2.2 (j % P.cellsOf e) (Nat.mod_lt _ hs)
   rw [Addr.add_add, Nat.mul_comm, Nat.div_add_mod] at hcell
   rw [hcell]
   obtain ⟨f1, f2⟩ := hflat j hj
   rw [List.getD_eq_getElem?_getD, f1]
   have : j % P.cellsOf e < (toC (Zf (j / P.cellsOf e))).length := by rw [hlenf _ hi]; exact Nat.mod_lt _ hs
   simp [this]
  ·dsimp only; rw [List.length_map, List.length_range]; exact hbl
  ·intro w hw
   obtain ⟨i, -, rfl⟩ := List.mem_map.1 hw
   exact bulk_pos _
  ·intro i h1 h2
   simp only [List.getElem_map, List.getElem_range]
   exact (hZ i (by simpa using h1)).2
/-! ### With weights: what is read weighs no more than its bulk -/
theorem dec_strW {t : TypeId} {fuel : Nat} {cs : List Value} {x : DataW H × List MemPlace} (ht : P.underlying t = some .string) (h : Reads enc P W fuel t cs x) : ∃ s : List UInt8, cs = [vstr s] ∧ s.length + 1 ≤ Rows.uptoBulk x.1 := by
 obtain ⟨s, rfl, rfl, -⟩ := DataW.trod_string ht h
 exact ⟨s.data.toList, by rw [string_vstr], by simp [Rows.uptoBulk]⟩
theorem dec_intW {t : TypeId} {fuel : Nat} {cs : List Value} {x : DataW H × List MemPlace} (ht : P.underlying t = some (.int .i64)) (h : Reads enc P W fuel t cs x) : ∃ n : Int, cs = [vint n] ∧ (-9223372036854775808 ≤ n ∧ n ≤ 9223372036854775807) ∧ 1 ≤ Rows.uptoBulk x.1 := by
 obtain ⟨n, h1, h2⟩ := dec_int' ht h; exact ⟨n, h1, h2, bulk_pos _⟩
theorem slice_shape {t e : TypeId} {fuel : Nat} {v : Value} {x : DataW H × List MemPlace} (ht : P.underlying t = some (.slice e)) (h : Reads enc P W fuel t [v] x) : ∃ a n c, v = .slice a n c := by
 rcases Go.Deep.open_slice ht h with ⟨hv, -⟩ | ⟨a, len, cap, m, n, Dd, Pl, hv, -⟩
 ·rw [List.cons.injEq] at hv; rw [hv.1]; exact ⟨_, _, _, rfl⟩
 ·rw [List.cons.injEq] at hv; rw [hv.1]; exact ⟨_, _, _, rfl⟩
theorem sum_le {Z : Type} {m : Z → Nat} : ∀ {l : List Z} {ws : List Nat}, ws.length = l.length → (∀ i (h1 : i < l.length) (h2 : i < ws.length), m l[i] ≤ ws[i]) → (l.map m).sum ≤ ws.sum
 | [], _, _, _ => by simp
 | z :: l, [], h, _ => by simp at h
 | z :: l, w :: ws, h, hq => by
  have h0 := hq 0 (by simp) (by simp)
  have h1 := sum_le (l := l) (ws := ws) (m := m) (by simpa using h) (fun i h1 h2 => hq (i + 1) (by simpa using h1) (by simpa using h2))
  rw [List.map_cons, List.sum_cons, List.sum_cons]
  have h0' : m z ≤ w := h0
  omega
theorem dec_sliceW {Z : Type} [Inhabited Z] (toC : Z → List Value) (Q : Z → Prop) (m : Z → Nat) {t e : TypeId} {sz : Nat} {fuel : Nat} {cs : List Value} {x : DataW H × List MemPlace} (ht : P.underlying t = some (.slice e)) (hc : P.cellsOf e = sz) (hs : 0 < sz)
  (hdec : ∀ (n : Nat) (cs : List Value) (y : DataW H × List MemPlace), Reads enc P W n e cs y → ∃ z, cs = toC z ∧ Q z ∧ m z ≤ Rows.uptoBulk y.1) (h : Reads enc P W fuel t cs x) :
  ∃ z : Value × List Z, cs = [z.1] ∧ (∀ h : Hp, Old W h → rdS sz h z.1 z.2.length (z.2.flatMap toC)) ∧ (∀ y ∈ z.2, Q y) ∧ z.2.length + 1 ≤ Rows.uptoBulk x.1 ∧ 1 + (z.2.map m).sum ≤ Rows.uptoBulk x.1 := by
 have hp := bulk_pos x.1
 obtain ⟨z, ws, h1, h2, h3, h4, h5, -, h7⟩ := dec_sliceQV (N := Rows.uptoBulk x.1 - 1) toC (fun B z => Q z ∧ m z ≤ B) ht hc hs hdec h (by omega)
 refine ⟨z, h1, h2, fun y hy => ?_, by omega, ?_⟩
 ·obtain ⟨i, hi, rfl⟩ := List.mem_iff_getElem.1 hy
  exact (h7 i hi (by omega)).1
 ·have := sum_le (m := m) h4 (fun i g1 g2 => (h7 i g1 g2).2)
  omega
theorem rd_shape {sz n : Nat} {v : Value} {ys : List Value} (hr : ∀ h : Hp, Old W h → rdS sz h v n ys) : ∃ a c, v = .slice a n c := by
 have h := hr (fun b => if b < W.heap.size then W.heap[b]? else none) (fun b hb => if_pos hb)
 rcases h with ⟨rfl, -, a, c, rfl⟩ | ⟨b, off, cap, l, T, fr, rfl, -⟩
 ·exact ⟨_, _, rfl⟩
 ·exact ⟨_, _, rfl⟩
end
open Go Go.ChangeShapes Go.WideShapes Go.ChangeAt Go.RowKit
def mAc (a : Ac) : Nat := 3 + a.2.length
theorem sum_mem {α : Type} {m : α → Nat} : ∀ {l : List α} {x : α}, x ∈ l → m x ≤ (l.map m).sum
 | y :: l, x, h => by
  rw [List.map_cons, List.sum_cons]
  rcases List.mem_cons.1 h with rfl | h
  ·omega
  ·have := sum_mem (m := m) h; omega
theorem sum_three {α : Type} {m : α → Nat} (hm : ∀ x, 3 ≤ m x) : ∀ l : List α, 3 * l.length ≤ (l.map m).sum
 | [] => by simp
 | y :: l => by have := sum_three hm l; have := hm y; rw [List.map_cons, List.sum_cons, List.length_cons]; omega
theorem fm_weigh {α : Type} {f : α → Bs} {m : α → Nat} : ∀ {l : List α}, (∀ x ∈ l, (f x).length ≤ 20 * m x) → (l.flatMap f).length ≤ 20 * (l.map m).sum
 | [], _ => by simp
 | y :: l, h => by
  have h1 := h y (List.mem_cons_self ..)
  have h2 := fm_weigh (l := l) (m := m) (f := f) (fun x hx => h x (List.mem_cons_of_mem _ hx))
  rw [List.flatMap_cons, List.length_append, List.map_cons, List.sum_cons]; omega
theorem aclW_of {l : List Ac} (h : ∀ a ∈ l, I64 a.1) (hm : (l.map mAc).sum ≤ 1048576) : AclW l := by
 have hl := sum_three (m := mAc) (fun a => by unfold mAc; omega) l
 have hu : U64 = 18446744073709551616 := rfl
 have hi : ∀ a ∈ l, a.2.length ≤ 1048576 := fun a ha => by
  have h1 := sum_mem (m := mAc) ha
  have h2 : mAc a = 3 + a.2.length := rfl
  omega
 refine ⟨by omega, ?_, fun a ha => ⟨⟨h a ha, by have := hi a ha; omega⟩, hi a ha⟩⟩
 have h3 := fm_weigh (f := acB) (m := mAc) (l := l) (fun a ha => by
  have h1 := numB_len8 (h a ha)
  have h2 := sev_len10 (u := a.2.length) (by have := hi a ha; omega)
  unfold acB txtB cntB mAc
  rw [List.length_append, List.length_append]; omega)
 have h4 := sev_len10 (u := l.length) (by omega)
 unfold aclB cntB
 rw [List.length_append]; omega
instance : Inhabited Pt := ⟨ptS 0 [] [] 0⟩
instance : Inhabited En := ⟨⟨0, 0, 0, ptS 0 [] [] 0, []⟩⟩
instance : Inhabited Rq := ⟨⟨0, 0, [], [], nilV, [], 0, 0, false, nilV, nilV⟩⟩
def mRq (r : Rq) : Nat := 10 + r.path.length + r.data.length + (r.acl.map mAc).sum
structure RqG (p : HP) (r : Rq) : Prop where
 kind : I64 r.kind
 xid : I64 r.xid
 flags : I64 r.flags
 ver : I64 r.ver
 acl : ∀ h : Hp, p h → rdS 2 h r.aclV r.acl.length (r.acl.flatMap acC)
 ash : ∃ a n c, r.aclV = .slice a n c
 each : ∀ a ∈ r.acl, I64 a.1
 sub : ∃ a n c, r.subsV = .slice a n c
 arm : ∃ a n c, r.armV = .slice a n c
structure RqD (p : HP) (r : Rq) (l : List Rq) : Prop where
 own : RqG p r ∧ mRq r ≤ 1048576
 rd : ∀ h : Hp, p h → rdS 10 h r.subsV l.length (l.flatMap rqC)
 each : ∀ x ∈ l, RqG p x ∧ mRq x ≤ 1048576
theorem RqG.w {p : HP} {r : Rq} (h : RqG p r) (hm : mRq r ≤ 1048576) {s : Int} {iv : Value} {ids : List Bs} (hs : I64 s) (hi : Ids p iv ids) (hT : TabP p) : WiA p ⟨s, ids⟩ iv r := by
 unfold mRq at hm
 have h3 := sum_three (m := mAc) (fun a => by unfold mAc; omega) r.acl
 refine ⟨⟨h.kind, h.xid, h.flags, h.ver, by omega, by omega, h.acl, by omega, fun a ha => ⟨h.each a ha, ?_⟩, h.sub, h.arm⟩, hs, hi.1, hi.2.1, hi.2.2, h.ash, hT⟩
 have h1 := sum_mem (m := mAc) ha
 have h2 : mAc a = 3 + a.2.length := rfl
 omega
theorem RqD.wi {p : HP} {r : Rq} {l : List Rq} (h : RqD p r l) {s : Int} {iv : Value} {ids : List Bs} (hs : I64 s) (hi : Ids p iv ids) (hT : TabP p) : WiD p ⟨s, ids⟩ iv r l := by
 have ha : ∀ x : Rq, RqG p x → mRq x ≤ 1048576 → AclW x.acl := fun x hx hm => aclW_of hx.each (by unfold mRq at hm; omega)
 exact ⟨h.own.1.w h.own.2 hs hi hT, ha _ h.own.1 h.own.2, h.rd, fun x hx => (h.each x hx).1.w (h.each x hx).2 hs hi hT, fun x hx => ha _ (h.each x hx).1 (h.each x hx).2⟩
theorem tab_of {W : World} (h : Lib.TabIs Tryz.prog W "internal/strconv.uint64pow10" .u64 Lib.pow10Tab) {g : Nat} (hg : Tryz.prog.globalNamed "internal/strconv.uint64pow10" = some g) : TabP (Old W) := by
 intro hp w hold hle
 unfold Lib.TabIs World.var? at h ⊢
 rw [hg] at h ⊢
 simp only [Option.bind_some] at h ⊢
 cases e : W.heap[g]? with
 | none => rw [e] at h; cases h
 | some o =>
  have hlt : g < W.heap.size := (Array.getElem?_eq_some_iff.1 e).1
  have h2 : w.heap[g]? = some o := hle g o (by rw [hold g hlt, e])
  rw [h2]
  rw [e] at h
  exact h
theorem decAc {H : Type} {enc : TypeId × Value → H} {W : World} (n : Nat) (cs : List Value) (y : DataW H × List MemPlace) (h : Reads enc Tryz.prog W n 75 cs y) : ∃ a : Ac, cs = acC a ∧ I64 a.1 ∧ mAc a ≤ Rows.uptoBulk y.1 := by
 obtain ⟨xs, m, -, rfl, hlen, hxs, hf⟩ := DataW.trod_struct Tryz.underlying75 h
 rw [show Tryz.prog.cellsOf 75 = 2 by kernel_rfl] at hlen
 obtain ⟨a0, a1, rfl⟩ : ∃ a0 a1, cs = [a0, a1] := by
  match cs, hlen with
  | [a0, a1], _ => exact ⟨a0, a1, rfl⟩
 obtain ⟨y0, y1, rfl⟩ : ∃ y0 y1, xs = [y0, y1] := by
  match xs, hxs with
  | [y0, y1], _ => exact ⟨y0, y1, rfl⟩
 try simp only [Rows.uptoBulk, Rows.uptoBulkAll, List.map_cons, List.map_nil]
 have g0 : Reads enc Tryz.prog W m 3 (([a0, a1] : List Value).drop 0 |>.take (Tryz.prog.cellsOf 3)) y0 := hf 0 _ rfl
 rw [show Tryz.prog.cellsOf 3 = 1 by kernel_rfl] at g0
 have p0 := bulk_pos y0.1
 obtain ⟨z0, e0, q0, r0⟩ := dec_intW Tryz.underlying3 g0
 try simp at e0
 have g1 : Reads enc Tryz.prog W m 9 (([a0, a1] : List Value).drop 1 |>.take (Tryz.prog.cellsOf 9)) y1 := hf 1 _ rfl
 rw [show Tryz.prog.cellsOf 9 = 1 by kernel_rfl] at g1
 have p1 := bulk_pos y1.1
 obtain ⟨z1, e1, r1⟩ := dec_strW Tryz.underlying9 g1
 try simp at e1
 subst e0
 subst e1
 exact ⟨(z0, z1), rfl, q0, by unfold mAc; dsimp only; omega⟩
theorem decRq {H : Type} {enc : TypeId × Value → H} {W : World} (n : Nat) (cs : List Value) (y : DataW H × List MemPlace) (h : Reads enc Tryz.prog W n 33 cs y) : ∃ r0 : Rq, cs = rqC r0 ∧ RqG (Old W) r0 ∧ mRq r0 ≤ Rows.uptoBulk y.1 := by
 obtain ⟨xs, m, -, rfl, hlen, hxs, hf⟩ := DataW.trod_struct Tryz.underlying33 h
 rw [show Tryz.prog.cellsOf 33 = 10 by kernel_rfl] at hlen
 obtain ⟨a0, a1, a2, a3, a4, a5, a6, a7, a8, a9, rfl⟩ : ∃ a0 a1 a2 a3 a4 a5 a6 a7 a8 a9, cs = [a0, a1, a2, a3, a4, a5, a6, a7, a8, a9] := by
  match cs, hlen with
  | [a0, a1, a2, a3, a4, a5, a6, a7, a8, a9], _ => exact ⟨a0, a1, a2, a3, a4, a5, a6, a7, a8, a9, rfl⟩
 obtain ⟨y0, y1, y2, y3, y4, y5, y6, y7, y8, y9, rfl⟩ : ∃ y0 y1 y2 y3 y4 y5 y6 y7 y8 y9, xs = [y0, y1, y2, y3, y4, y5, y6, y7, y8, y9] := by
  match xs, hxs with
  | [y0, y1, y2, y3, y4, y5, y6, y7, y8, y9], _ => exact ⟨y0, y1, y2, y3, y4, y5, y6, y7, y8, y9, rfl⟩
 try simp only [Rows.uptoBulk, Rows.uptoBulkAll, List.map_cons, List.map_nil]
 have g0 : Reads enc Tryz.prog W m 3 (([a0, a1, a2, a3, a4, a5, a6, a7, a8, a9] : List Value).drop 0 |>.take (Tryz.prog.cellsOf 3)) y0 := hf 0 _ rfl
 rw [show Tryz.prog.cellsOf 3 = 1 by kernel_rfl] at g0
 have p0 := bulk_pos y0.1
 obtain ⟨z0, e0, q0, r0⟩ := dec_intW Tryz.underlying3 g0
 try simp at e0
 have g1 : Reads enc Tryz.prog W m 3 (([a0, a1, a2, a3, a4, a5, a6, a7, a8, a9] : List Value).drop 1 |>.take (Tryz.prog.cellsOf 3)) y1 := hf 1 _ rfl
 rw [show Tryz.prog.cellsOf 3 = 1 by kernel_rfl] at g1
 have p1 := bulk_pos y1.1
 obtain ⟨z1, e1, q1, r1⟩ := dec_intW Tryz.underlying3 g1
 try simp at e1
 have g2 : Reads enc Tryz.prog W m 9 (([a0, a1, a2, a3, a4, a5, a6, a7, a8, a9] : List Value).drop 2 |>.take (Tryz.prog.cellsOf 9)) y2 := hf 2 _ rfl
 rw [show Tryz.prog.cellsOf 9 = 1 by kernel_rfl] at g2
 have p2 := bulk_pos y2.1
 obtain ⟨z2, e2, r2⟩ := dec_strW Tryz.underlying9 g2
 try simp at e2
 have g3 : Reads enc Tryz.prog W m 9 (([a0, a1, a2, a3, a4, a5, a6, a7, a8, a9] : List Value).drop 3 |>.take (Tryz.prog.cellsOf 9)) y3 := hf 3 _ rfl
 rw [show Tryz.prog.cellsOf 9 = 1 by kernel_rfl] at g3
 have p3 := bulk_pos y3.1
 obtain ⟨z3, e3, r3⟩ := dec_strW Tryz.underlying9 g3
 try simp at e3
 have g4 : Reads enc Tryz.prog W m 30 (([a0, a1, a2, a3, a4, a5, a6, a7, a8, a9] : List Value).drop 4 |>.take (Tryz.prog.cellsOf 30)) y4 := hf 4 _ rfl
 rw [show Tryz.prog.cellsOf 30 = 1 by kernel_rfl] at g4
 have p4 := bulk_pos y4.1
 obtain ⟨⟨v4, l4⟩, e4, k4, q4, c4, r4⟩ := dec_sliceW acC (fun a => I64 a.1) mAc Tryz.underlying30 (show Tryz.prog.cellsOf 75 = 2 by kernel_rfl) (by decide) (fun n cs y h => decAc n cs y h) g4
 dsimp only at e4 k4 q4 c4 r4
 have ck4 : isCell v4 = true := by obtain ⟨sa, sc, hs⟩ := rd_shape k4; rw [hs]; rfl
 have sh4 : ∃ a n c, v4 = .slice a n c := by obtain ⟨sa, sc, hs⟩ := rd_shape k4; exact ⟨_, _, _, hs⟩
 try simp at e4
 have g5 : Reads enc Tryz.prog W m 3 (([a0, a1, a2, a3, a4, a5, a6, a7, a8, a9] : List Value).drop 5 |>.take (Tryz.prog.cellsOf 3)) y5 := hf 5 _ rfl
 rw [show Tryz.prog.cellsOf 3 = 1 by kernel_rfl] at g5
 have p5 := bulk_pos y5.1
 obtain ⟨z5, e5, q5, r5⟩ := dec_intW Tryz.underlying3 g5
 try simp at e5
 have g6 : Reads enc Tryz.prog W m 3 (([a0, a1, a2, a3, a4, a5, a6, a7, a8, a9] : List Value).drop 6 |>.take (Tryz.prog.cellsOf 3)) y6 := hf 6 _ rfl
 rw [show Tryz.prog.cellsOf 3 = 1 by kernel_rfl] at g6
 have p6 := bulk_pos y6.1
 obtain ⟨z6, e6, q6, r6⟩ := dec_intW Tryz.underlying3 g6
 try simp at e6
 have g7 : Reads enc Tryz.prog W m 4 (([a0, a1, a2, a3, a4, a5, a6, a7, a8, a9] : List Value).drop 7 |>.take (Tryz.prog.cellsOf 4)) y7 := hf 7 _ rfl
 rw [show Tryz.prog.cellsOf 4 = 1 by kernel_rfl] at g7
 have p7 := bulk_pos y7.1
 obtain ⟨z7, e7⟩ := dec_bool Tryz.underlying4 g7
 try simp at e7
 have g8 : Reads enc Tryz.prog W m 23 (([a0, a1, a2, a3, a4, a5, a6, a7, a8, a9] : List Value).drop 8 |>.take (Tryz.prog.cellsOf 23)) y8 := hf 8 _ rfl
 rw [show Tryz.prog.cellsOf 23 = 1 by kernel_rfl] at g8
 have p8 := bulk_pos y8.1
 obtain ⟨z8, e8, s8⟩ : ∃ z : Value, a8 = z ∧ ∃ a n c, z = .slice a n c := ⟨_, rfl, slice_shape Tryz.underlying23 g8⟩
 have ck8 : isCell z8 = true := by obtain ⟨sa, sn, sc, hs⟩ := s8; rw [hs]; rfl
 try simp at e8
 have g9 : Reads enc Tryz.prog W m 31 (([a0, a1, a2, a3, a4, a5, a6, a7, a8, a9] : List Value).drop 9 |>.take (Tryz.prog.cellsOf 31)) y9 := hf 9 _ rfl
 rw [show Tryz.prog.cellsOf 31 = 1 by kernel_rfl] at g9
 have p9 := bulk_pos y9.1
 obtain ⟨z9, e9, s9⟩ : ∃ z : Value, a9 = z ∧ ∃ a n c, z = .slice a n c := ⟨_, rfl, slice_shape Tryz.underlying31 g9⟩
 have ck9 : isCell z9 = true := by obtain ⟨sa, sn, sc, hs⟩ := s9; rw [hs]; rfl
 try simp at e9
 subst e0
 subst e1
 subst e2
 subst e3
 subst e4
 subst e5
 subst e6
 subst e7
 subst e8
 subst e9
 exact ⟨⟨z0, z1, z2, z3, a4, l4, z5, z6, z7, a8, a9⟩, rfl, ⟨q0, q1, q5, q6, k4, sh4, q4, s8, s9⟩, by unfold mRq; dsimp only; omega⟩
open Go Go.ChangeShapes Go.WideShapes Go.ChangeAt Go.RowKit
instance : Inhabited Sp13 := ⟨⟨0, 0, 0, ⟨0, 0, [], [], nilV, [], 0, 0, false, nilV, nilV⟩, [], [], false⟩⟩
theorem sum_at13 {l : List Nat} {i : Nat} (h : i < l.length) : l[i] ≤ l.sum := by
 have := sum_mem (m := id) (l := l) (List.getElem_mem h)
 simpa using this
def mArm (a : Arm) : Nat := 5 + a.2.1.length
structure RqV (p : HP) (r : Rq) (l : List Rq) (m : List Arm) : Prop where
 d : RqD p r l
 a : ArmsA p r.armV m
theorem RqV.A {p : HP} {r : Rq} {l : List Rq} {m : List Arm} (h : RqV p r l m) (hT : TabP p) (hZ : TzP p) {s : Int} (hs : I64 s) : CallA p s r l m :=
 ⟨h.d.wi hs ⟨fun _ _ => .inl ⟨rfl, rfl, none, 0, rfl⟩, Nat.zero_le _, none, 0, 0, rfl⟩ hT, hZ, h.a⟩
structure SpQ (p : HP) (x : Sp13) : Prop where
 nums : I64 x.what ∧ I64 x.ses ∧ I64 x.tmo
 r : RqV p x.r x.subs x.arm
structure StQ (p : HP) (v : Value) (l : List Sp13) : Prop where
 cells : ∀ h : Hp, p h → rdS 14 h v l.length (l.flatMap spC)
 len : l.length ≤ 1048576
 each : ∀ x ∈ l, SpQ p x
theorem StQ.A {p : HP} {v : Value} {l : List Sp13} (h : StQ p v l) (hT : TabP p) (hZ : TzP p) : StA p v l := ⟨h.cells, h.len, fun x hx => (h.each x hx).nums, fun x hx _ hs => (h.each x hx).r.A hT hZ hs⟩
structure PaQ (p : HP) (v : Value) (l : List Rq) : Prop where
 cells : ∀ h : Hp, p h → rdS 10 h v l.length (l.flatMap rqC)
 len : l.length ≤ 1048576
 each : ∀ r ∈ l, ∃ ks m, RqV p r ks m
theorem PaQ.A {p : HP} {v : Value} {l : List Rq} (h : PaQ p v l) (hT : TabP p) (hZ : TzP p) : PaA p v l := ⟨h.cells, h.len, fun r hr _ hs => by obtain ⟨ks, m, g⟩ := h.each r hr; exact ⟨ks, m, g.A hT hZ hs⟩⟩
theorem tz_of {W : World} (h : Lib.TabIs Tryz.prog W "math/bits.deBruijn64tab" .u8 (Lib.deBruijn64tab.map fun n : Nat => (n : Int))) {g : Nat} (hg : Tryz.prog.globalNamed "math/bits.deBruijn64tab" = some g) : TzP (Old W) := by
 intro hp w hold hle
 unfold Lib.TabIs World.var? at h ⊢
 rw [hg] at h ⊢
 simp only [Option.bind_some] at h ⊢
 cases e : W.heap[g]? with
 | none => rw [e] at h; cases h
 | some o =>
  have hlt : g < W.heap.size := (Array.getElem?_eq_some_iff.1 e).1
  have h2 : w.heap[g]? = some o := hle g o (by rw [hold g hlt, e])
  rw [h2]
  rw [e] at h
  exact h
theorem decArm {H : Type} {enc : TypeId × Value → H} {W : World} (n : Nat) (cs : List Value) (y : DataW H × List MemPlace) (h : Reads enc Tryz.prog W n 186 cs y) : ∃ a : Arm, cs = armC a ∧ True ∧ mArm a ≤ Rows.uptoBulk y.1 := by
 obtain ⟨xs, m, -, rfl, hlen, hxs, hf⟩ := DataW.trod_struct Tryz.underlying186 h
 rw [show Tryz.prog.cellsOf 186 = 5 by kernel_rfl] at hlen
 obtain ⟨a0, a1, a2, a3, a4, rfl⟩ : ∃ a0 a1 a2 a3 a4, cs = [a0, a1, a2, a3, a4] := by
  match cs, hlen with
  | [a0, a1, a2, a3, a4], _ => exact ⟨a0, a1, a2, a3, a4, rfl⟩
 obtain ⟨y0, y1, y2, y3, y4, rfl⟩ : ∃ y0 y1 y2 y3 y4, xs = [y0, y1, y2, y3, y4] := by
  match xs, hxs with
  | [y0, y1, y2, y3, y4], _ => exact ⟨y0, y1, y2, y3, y4, rfl⟩
 try simp only [Rows.uptoBulk, Rows.uptoBulkAll, List.map_cons, List.map_nil]
 have g0 : Reads enc Tryz.prog W m 3 (([a0, a1, a2, a3, a4] : List Value).drop 0 |>.take (Tryz.prog.cellsOf 3)) y0 := hf 0 _ rfl
 rw [show Tryz.prog.cellsOf 3 = 1 by kernel_rfl] at g0
 have p0 := bulk_pos y0.1
 obtain ⟨z0, e0, q0, r0⟩ := dec_intW Tryz.underlying3 g0
 try simp at e0
 have g1 : Reads enc Tryz.prog W m 9 (([a0, a1, a2, a3, a4] : List Value).drop 1 |>.take (Tryz.prog.cellsOf 9)) y1 := hf 1 _ rfl
 rw [show Tryz.prog.cellsOf 9 = 1 by kernel_rfl] at g1
 have p1 := bulk_pos y1.1
 obtain ⟨z1, e1, r1⟩ := dec_strW Tryz.underlying9 g1
 try simp at e1
 have g2 : Reads enc Tryz.prog W m 3 (([a0, a1, a2, a3, a4] : List Value).drop 2 |>.take (Tryz.prog.cellsOf 3)) y2 := hf 2 _ rfl
 rw [show Tryz.prog.cellsOf 3 = 1 by kernel_rfl] at g2
 have p2 := bulk_pos y2.1
 obtain ⟨z2, e2, q2, r2⟩ := dec_intW Tryz.underlying3 g2
 try simp at e2
 have g3 : Reads enc Tryz.prog W m 3 (([a0, a1, a2, a3, a4] : List Value).drop 3 |>.take (Tryz.prog.cellsOf 3)) y3 := hf 3 _ rfl
 rw [show Tryz.prog.cellsOf 3 = 1 by kernel_rfl] at g3
 have p3 := bulk_pos y3.1
 obtain ⟨z3, e3, q3, r3⟩ := dec_intW Tryz.underlying3 g3
 try simp at e3
 have g4 : Reads enc Tryz.prog W m 3 (([a0, a1, a2, a3, a4] : List Value).drop 4 |>.take (Tryz.prog.cellsOf 3)) y4 := hf 4 _ rfl
 rw [show Tryz.prog.cellsOf 3 = 1 by kernel_rfl] at g4
 have p4 := bulk_pos y4.1
 obtain ⟨z4, e4, q4, r4⟩ := dec_intW Tryz.underlying3 g4
 try simp at e4
 subst e0
 subst e1
 subst e2
 subst e3
 subst e4
 exact ⟨(z0, (z1, (z2, (z3, z4)))), rfl, trivial, by unfold mArm; dsimp only; omega⟩
theorem decRqV {H : Type} {enc : TypeId × Value → H} {W : World} (n : Nat) (cs : List Value) (y : DataW H × List MemPlace) (h : Reads enc Tryz.prog W n 33 cs y) : ∃ (r0 : Rq) (l : List Rq) (m : List Arm), cs = rqC r0 ∧ (Rows.uptoBulk y.1 ≤ 1048576 → RqV (Old W) r0 l m) := by
 obtain ⟨xs, m, -, rfl, hlen, hxs, hf⟩ := DataW.trod_struct Tryz.underlying33 h
 rw [show Tryz.prog.cellsOf 33 = 10 by kernel_rfl] at hlen
 obtain ⟨a0, a1, a2, a3, a4, a5, a6, a7, a8, a9, rfl⟩ : ∃ a0 a1 a2 a3 a4 a5 a6 a7 a8 a9, cs = [a0, a1, a2, a3, a4, a5, a6, a7, a8, a9] := by
  match cs, hlen with
  | [a0, a1, a2, a3, a4, a5, a6, a7, a8, a9], _ => exact ⟨a0, a1, a2, a3, a4, a5, a6, a7, a8, a9, rfl⟩
 obtain ⟨y0, y1, y2, y3, y4, y5, y6, y7, y8, y9, rfl⟩ : ∃ y0 y1 y2 y3 y4 y5 y6 y7 y8 y9, xs = [y0, y1, y2, y3, y4, y5, y6, y7, y8, y9] := by
  match xs, hxs with
  | [y0, y1, y2, y3, y4, y5, y6, y7, y8, y9], _ => exact ⟨y0, y1, y2, y3, y4, y5, y6, y7, y8, y9, rfl⟩
 try simp only [Rows.uptoBulk, Rows.uptoBulkAll, List.map_cons, List.map_nil]
 have g0 : Reads enc Tryz.prog W m 3 (([a0, a1, a2, a3, a4, a5, a6, a7, a8, a9] : List Value).drop 0 |>.take (Tryz.prog.cellsOf 3)) y0 := hf 0 _ rfl
 rw [show Tryz.prog.cellsOf 3 = 1 by kernel_rfl] at g0
 have p0 := bulk_pos y0.1
 obtain ⟨z0, e0, q0, r0⟩ := dec_intW Tryz.underlying3 g0
 try simp at e0
 have g1 : Reads enc Tryz.prog W m 3 (([a0, a1, a2, a3, a4, a5, a6, a7, a8, a9] : List Value).drop 1 |>.take (Tryz.prog.cellsOf 3)) y1 := hf 1 _ rfl
 rw [show Tryz.prog.cellsOf 3 = 1 by kernel_rfl] at g1
 have p1 := bulk_pos y1.1
 obtain ⟨z1, e1, q1, r1⟩ := dec_intW Tryz.underlying3 g1
 try simp at e1
 have g2 : Reads enc Tryz.prog W m 9 (([a0, a1, a2, a3, a4, a5, a6, a7, a8, a9] : List Value).drop 2 |>.take (Tryz.prog.cellsOf 9)) y2 := hf 2 _ rfl
 rw [show Tryz.prog.cellsOf 9 = 1 by kernel_rfl] at g2
 have p2 := bulk_pos y2.1
 obtain ⟨z2, e2, r2⟩ := dec_strW Tryz.underlying9 g2
 try simp at e2
 have g3 : Reads enc Tryz.prog W m 9 (([a0, a1, a2, a3, a4, a5, a6, a7, a8, a9] : List Value).drop 3 |>.take (Tryz.prog.cellsOf 9)) y3 := hf 3 _ rfl
 rw [show Tryz.prog.cellsOf 9 = 1 by kernel_rfl] at g3
 have p3 := bulk_pos y3.1
 obtain ⟨z3, e3, r3⟩ := dec_strW Tryz.underlying9 g3
 try simp at e3
 have g4 : Reads enc Tryz.prog W m 30 (([a0, a1, a2, a3, a4, a5, a6, a7, a8, a9] : List Value).drop 4 |>.take (Tryz.prog.cellsOf 30)) y4 := hf 4 _ rfl
 rw [show Tryz.prog.cellsOf 30 = 1 by kernel_rfl] at g4
 have p4 := bulk_pos y4.1
 obtain ⟨⟨v4, l4⟩, e4, k4, q4, c4, r4⟩ := dec_sliceW acC (fun a => I64 a.1) mAc Tryz.underlying30 (show Tryz.prog.cellsOf 75 = 2 by kernel_rfl) (by decide) (fun n cs y h => decAc n cs y h) g4
 dsimp only at e4 k4 q4 c4 r4
 have ck4 : isCell v4 = true := by obtain ⟨sa, sc, hs⟩ := rd_shape k4; rw [hs]; rfl
 have sh4 : ∃ a n c, v4 = .slice a n c := by obtain ⟨sa, sc, hs⟩ := rd_shape k4; exact ⟨_, _, _, hs⟩
 try simp at e4
 have g5 : Reads enc Tryz.prog W m 3 (([a0, a1, a2, a3, a4, a5, a6, a7, a8, a9] : List Value).drop 5 |>.take (Tryz.prog.cellsOf 3)) y5 := hf 5 _ rfl
 rw [show Tryz.prog.cellsOf 3 = 1 by kernel_rfl] at g5
 have p5 := bulk_pos y5.1
 obtain ⟨z5, e5, q5, r5⟩ := dec_intW Tryz.underlying3 g5
 try simp at e5
 have g6 : Reads enc Tryz.prog W m 3 (([a0, a1, a2, a3, a4, a5, a6, a7, a8, a9] : List Value).drop 6 |>.take (Tryz.prog.cellsOf 3)) y6 := hf 6 _ rfl
 rw [show Tryz.prog.cellsOf 3 = 1 by kernel_rfl] at g6
 have p6 := bulk_pos y6.1
 obtain ⟨z6, e6, q6, r6⟩ := dec_intW Tryz.underlying3 g6
 try simp at e6
 have g7 : Reads enc Tryz.prog W m 4 (([a0, a1, a2, a3, a4, a5, a6, a7, a8, a9] : List Value).drop 7 |>.take (Tryz.prog.cellsOf 4)) y7 := hf 7 _ rfl
 rw [show Tryz.prog.cellsOf 4 = 1 by kernel_rfl] at g7
 have p7 := bulk_pos y7.1
 obtain ⟨z7, e7⟩ := dec_bool Tryz.underlying4 g7
 try simp at e7
 have g8 : Reads enc Tryz.prog W m 23 (([a0, a1, a2, a3, a4, a5, a6, a7, a8, a9] : List Value).drop 8 |>.take (Tryz.prog.cellsOf 23)) y8 := hf 8 _ rfl
 rw [show Tryz.prog.cellsOf 23 = 1 by kernel_rfl] at g8
 have p8 := bulk_pos y8.1
 obtain ⟨⟨v8, l8⟩, e8, k8, q8, c8, r8⟩ := dec_sliceW rqC (fun r => RqG (Old W) r) mRq Tryz.underlying23 (show Tryz.prog.cellsOf 33 = 10 by kernel_rfl) (by decide) (fun n cs y h => decRq n cs y h) g8
 dsimp only at e8 k8 q8 c8 r8
 have ck8 : isCell v8 = true := by obtain ⟨sa, sc, hs⟩ := rd_shape k8; rw [hs]; rfl
 have sh8 : ∃ a n c, v8 = .slice a n c := by obtain ⟨sa, sc, hs⟩ := rd_shape k8; exact ⟨_, _, _, hs⟩
 try simp at e8
 have g9 : Reads enc Tryz.prog W m 31 (([a0, a1, a2, a3, a4, a5, a6, a7, a8, a9] : List Value).drop 9 |>.take (Tryz.prog.cellsOf 31)) y9 := hf 9 _ rfl
 rw [show Tryz.prog.cellsOf 31 = 1 by kernel_rfl] at g9
 have p9 := bulk_pos y9.1
 obtain ⟨⟨v9, l9⟩, e9, k9, q9, c9, r9⟩ := dec_sliceW armC (fun _ => True) mArm Tryz.underlying31 (show Tryz.prog.cellsOf 186 = 5 by kernel_rfl) (by decide) (fun n cs y h => decArm n cs y h) g9
 dsimp only at e9 k9 q9 c9 r9
 have ck9 : isCell v9 = true := by obtain ⟨sa, sc, hs⟩ := rd_shape k9; rw [hs]; rfl
 have sh9 : ∃ a n c, v9 = .slice a n c := by obtain ⟨sa, sc, hs⟩ := rd_shape k9; exact ⟨_, _, _, hs⟩
 try simp at e9
 subst e0
 subst e1
 subst e2
 subst e3
 subst e4
 subst e5
 subst e6
 subst e7
 subst e8
 subst e9
 refine ⟨⟨z0, z1, z2, z3, a4, l4, z5, z6, z7, a8, a9⟩, l8, l9, rfl, fun hb => ⟨⟨⟨⟨q0, q1, q5, q6, k4, sh4, q4, sh8, sh9⟩, by unfold mRq; dsimp only; omega⟩, k8, fun x hx => ⟨q8 x hx, ?_⟩⟩, k9, by omega, fun a ha => ?_⟩⟩
 ·have h6 := sum_mem (m := mRq) hx
  omega
 ·have h6 := sum_mem (m := mArm) ha
  have h8 : mArm a = 5 + a.2.1.length := rfl
  omega
theorem decSp {H : Type} {enc : TypeId × Value → H} {W : World} (n : Nat) (cs : List Value) (y : DataW H × List MemPlace) (h : Reads enc Tryz.prog W n 35 cs y) : ∃ x : Sp13, cs = spC x ∧ (Rows.uptoBulk y.1 ≤ 1048576 → SpQ (Old W) x) := by
 obtain ⟨xs, m, -, rfl, hlen, hxs, hf⟩ := DataW.trod_struct Tryz.underlying35 h
 rw [show Tryz.prog.cellsOf 35 = 14 by kernel_rfl] at hlen
 obtain ⟨a0, a1, a2, a3, a4, a5, a6, a7, a8, a9, a10, a11, a12, a13, rfl⟩ : ∃ a0 a1 a2 a3 a4 a5 a6 a7 a8 a9 a10 a11 a12 a13, cs = [a0, a1, a2, a3, a4, a5, a6, a7, a8, a9, a10, a11, a12, a13] := by
  match cs, hlen with
  | [a0, a1, a2, a3, a4, a5, a6, a7, a8, a9, a10, a11, a12, a13], _ => exact ⟨a0, a1, a2, a3, a4, a5, a6, a7, a8, a9, a10, a11, a12, a13, rfl⟩
 obtain ⟨y0, y1, y2, y3, y4, rfl⟩ : ∃ y0 y1 y2 y3 y4, xs = [y0, y1, y2, y3, y4] := by
  match xs, hxs with
  | [y0, y1, y2, y3, y4], _ => exact ⟨y0, y1, y2, y3, y4, rfl⟩
 try simp only [Rows.uptoBulk, Rows.uptoBulkAll, List.map_cons, List.map_nil]
 have g0 : Reads enc Tryz.prog W m 3 (([a0, a1, a2, a3, a4, a5, a6, a7, a8, a9, a10, a11, a12, a13] : List Value).drop 0 |>.take (Tryz.prog.cellsOf 3)) y0 := hf 0 _ rfl
 rw [show Tryz.prog.cellsOf 3 = 1 by kernel_rfl] at g0
 have p0 := bulk_pos y0.1
 obtain ⟨z0, e0, q0, r0⟩ := dec_intW Tryz.underlying3 g0
 try simp at e0
 have g1 : Reads enc Tryz.prog W m 3 (([a0, a1, a2, a3, a4, a5, a6, a7, a8, a9, a10, a11, a12, a13] : List Value).drop 1 |>.take (Tryz.prog.cellsOf 3)) y1 := hf 1 _ rfl
 rw [show Tryz.prog.cellsOf 3 = 1 by kernel_rfl] at g1
 have p1 := bulk_pos y1.1
 obtain ⟨z1, e1, q1, r1⟩ := dec_intW Tryz.underlying3 g1
 try simp at e1
 have g2 : Reads enc Tryz.prog W m 3 (([a0, a1, a2, a3, a4, a5, a6, a7, a8, a9, a10, a11, a12, a13] : List Value).drop 2 |>.take (Tryz.prog.cellsOf 3)) y2 := hf 2 _ rfl
 rw [show Tryz.prog.cellsOf 3 = 1 by kernel_rfl] at g2
 have p2 := bulk_pos y2.1
 obtain ⟨z2, e2, q2, r2⟩ := dec_intW Tryz.underlying3 g2
 try simp at e2
 have g3 : Reads enc Tryz.prog W m 33 (([a0, a1, a2, a3, a4, a5, a6, a7, a8, a9, a10, a11, a12, a13] : List Value).drop 3 |>.take (Tryz.prog.cellsOf 33)) y3 := hf 3 _ rfl
 rw [show Tryz.prog.cellsOf 33 = 10 by kernel_rfl] at g3
 have p3 := bulk_pos y3.1
 obtain ⟨r3, l3, m3, e3, q3⟩ := decRqV _ _ _ g3
 try simp [ptC, enC, rqC] at e3
 have g4 : Reads enc Tryz.prog W m 4 (([a0, a1, a2, a3, a4, a5, a6, a7, a8, a9, a10, a11, a12, a13] : List Value).drop 13 |>.take (Tryz.prog.cellsOf 4)) y4 := hf 4 _ rfl
 rw [show Tryz.prog.cellsOf 4 = 1 by kernel_rfl] at g4
 have p4 := bulk_pos y4.1
 obtain ⟨z4, e4⟩ := dec_bool Tryz.underlying4 g4
 try simp at e4
 subst e0
 subst e1
 subst e2
 obtain ⟨rfl, rfl, rfl, rfl, rfl, rfl, rfl, rfl, rfl, rfl⟩ := e3
 subst e4
 exact ⟨⟨z0, z1, z2, r3, l3, m3, z4⟩, rfl, fun hb => ⟨⟨q0, q1, q2⟩, q3 (by omega)⟩⟩
theorem dec_scr13 {H : Type} {enc : TypeId × Value → H} {W : World} {fuel : Nat} {cs : List Value} {x : DataW H × List MemPlace} (h : Reads enc Tryz.prog W fuel 22 cs x) (hb : Rows.uptoBulk x.1 ≤ 1048576) : ∃ (v : Value) (xs : List Sp13), cs = [v] ∧ StQ (Old W) v xs := by
 obtain ⟨⟨v, xs⟩, ws, h1, h2, h3, h4, h5, -, h7⟩ := dec_sliceQV (N := 1048576) spC (fun B o => B ≤ 1048576 → SpQ (Old W) o) Tryz.underlying22 (show Tryz.prog.cellsOf 35 = 14 by kernel_rfl) (by decide) (fun n cs y h => decSp n cs y h) h (by omega)
 dsimp only at h1 h2 h3 h4 h7
 refine ⟨v, xs, h1, h2, h3, fun o ho => ?_⟩
 obtain ⟨i, hi, rfl⟩ := List.mem_iff_getElem.1 ho
 have hw : i < ws.length := by omega
 exact h7 i hi hw (Nat.le_trans (sum_at13 hw) h5)
theorem dec_par13 {H : Type} {enc : TypeId × Value → H} {W : World} {fuel : Nat} {cs : List Value} {x : DataW H × List MemPlace} (h : Reads enc Tryz.prog W fuel 23 cs x) (hb : Rows.uptoBulk x.1 ≤ 1048576) : ∃ (v : Value) (xs : List Rq), cs = [v] ∧ PaQ (Old W) v xs := by
 obtain ⟨⟨v, xs⟩, ws, h1, h2, h3, h4, h5, -, h7⟩ := dec_sliceQV (N := 1048576) rqC (fun B o => B ≤ 1048576 → ∃ ks m, RqV (Old W) o ks m) Tryz.underlying23 (show Tryz.prog.cellsOf 33 = 10 by kernel_rfl) (by decide) (fun n cs y h => by obtain ⟨r0, l, m, e, q⟩ := decRqV n cs y h; exact ⟨r0, e, fun hb => ⟨l, m, q hb⟩⟩) h (by omega)
 dsimp only at h1 h2 h3 h4 h7
 refine ⟨v, xs, h1, h2, h3, fun o ho => ?_⟩
 obtain ⟨i, hi, rfl⟩ := List.mem_iff_getElem.1 ho
 have hw : i < ws.length := by omega
 exact h7 i hi hw (Nat.le_trans (sum_at13 hw) h5)
end Go.Proofs.YtmbnebafdhpgpaaGreatDoor
