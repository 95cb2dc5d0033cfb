/- Own work, some of it printed by program, texts that were built one by one: a part of the proof of snapFuzzy.proved. -/
import Derived.Test.YtgppfpmmijbncaaGreatDoorCSFuzzyP2
import Derived.Test.YtgppfpmmijbncaaGreatDoorCSFuzzyP1
import Derived.Test.YtgppfpmmijbncaaGreatDoorCSFuzzyP0
set_option maxRecDepth 100000
namespace Go.Proofs.YtgppfpmmijbncaaGreatDoor
open Go
theorem rfailR_spec (r : Nat) (st : Rs) : Fn Tryz.prog 91 #[vptr r] [rdR r st] fun v L => v = .tuple #[] ∧ L = [rdR r none] := by
 intro F w hs
 obtain ⟨h1, h2, hd, a1, a2, ⟨y, hy, hp⟩, hF⟩ := hs
 subst hy
 have hs' : St ([rdW r y.1 y.2.1 y.2.2] ++ F) w := sep_flat ⟨h1, h2, hd, a1, a2, hp, hF⟩
 refine (rfail_spec r y.1 y.2.1 y.2.2 F w hs').mono ?_
 rintro e w' ⟨u, L, ⟨rfl, rfl⟩, he, hs2, hk⟩
 refine ⟨_, _, ⟨rfl, rfl⟩, he, sep_imp (fun hh hq => ⟨(y.1, (y.2.1, if y.2.2 = 0 then 11 else y.2.2)), ?_, hh, fun _ => none, fun _ => .inr rfl, fun _ _ e => e, fun _ _ e => (by cases e), hq, trivial⟩) hs2, hk⟩
 unfold stW
 dsimp only
 have hne : (if y.2.2 = 0 then 11 else y.2.2) ≠ 0 := by split <;> omega
 rw [if_neg hne]
theorem rnumN_spec (r : Nat) (st : Rs) : Fn Tryz.prog 92 #[vptr r] [rdR r st] fun v L => v = vint (numR st).1 ∧ L = [rdR r (numR st).2] := rnum_spec r st
theorem rtxtN_spec (r : Nat) (st : Rs) : Fn Tryz.prog 90 #[vptr r, vint 4096] [rdR r st] fun v L => v = vstr (txtR st).1 ∧ L = [rdR r (txtR st).2] := rtext_spec r 4096 (by decide) st
theorem rtxt4_spec (r : Nat) (st : Rs) : Fn Tryz.prog 90 #[vptr r, vint 4] [rdR r st] fun v L => v = vstr (txt4R st).1 ∧ L = [rdR r (txt4R st).2] := rtext_spec r 4 (by decide) st
theorem rcntN_spec (r : Nat) (st : Rs) : Fn Tryz.prog 93 #[vptr r, vint 256] [rdR r st] fun v L => v = vint ((cntR st).1 : Nat) ∧ L = [rdR r (cntR st).2] := rcount_spec r 256 (by decide) st
theorem txtR_le8 (st : Rs) : (txtR st).1.length ≤ 4096 := by
 unfold txtR runP
 split
 ·exact Nat.zero_le _
 ·split
  ·rename_i x hx; exact (txt_form hx).2
  ·exact Nat.zero_le _
/-! ### A tree that is laid anew -/
def layT (z : Int) (l : List PN) : Tr := if l = [] then zxT newT z else ⟨l, [], z⟩
theorem okN_sorted {l : List PN} (h : okN l) : SortedK l ∧ ∀ y ∈ l, ¬ lastP l < y.1 := by
 induction l using snocInd with
 | h0 => exact ⟨by unfold SortedK; simp, fun y hy => by cases hy⟩
 | h1 l x ih =>
  obtain ⟨h1, h2⟩ := okN_snoc.1 h
  obtain ⟨i1, i2⟩ := ih h1
  have hb : ∀ y ∈ l, y.1 < x.1 := fun y hy => by
   rcases linB.tri y.1 (lastP l) with g | g | g
   ·exact linB.tr _ _ _ g h2.2.1
   ·rw [g]; exact h2.2.1
   ·exact absurd g (i2 y hy)
  refine ⟨sorted_snoc i1 hb, fun y hy => ?_⟩
  rw [lastP_snoc]
  rcases List.mem_append.1 hy with hy | hy
  ·exact fun g => linB.irr _ (linB.tr _ _ _ g (hb y hy))
  ·rw [List.mem_singleton] at hy; rw [hy]; exact linB.irr _
theorem okN_able {l : List PN} (h : okN l) : ∀ y ∈ l, checkZ y.1 = 0 := fun y hy => by
 obtain ⟨i, hi, rfl⟩ := List.mem_iff_getElem.1 hy
 exact (h i hi).1
theorem sset_snoc {l : List PN} {k : Bs} {v : Nd} (h : ∀ y ∈ l, y.1 < k) : sset l k v = l ++ [(k, v)] := by
 induction l with
 | nil => rfl
 | cons y l ih =>
  have h1 := h y List.mem_cons_self
  unfold sset
  rw [if_neg (fun e => linB.irr k (by rw [e] at h1; exact h1)), if_neg (fun g => linB.irr _ (linB.tr _ _ _ g h1)), ih fun z hz => h z (List.mem_cons_of_mem _ hz)]
  rfl
theorem lay_next {z : Int} {l : List PN} {y : PN} (h : okN (l ++ [y])) (hb : y.2.st.len = 0 ∧ y.2.st.kids = 0) : layZ (layT z l) y.1 y.2.data y.2.acl y.2.st = layT z (l ++ [y]) := by
 obtain ⟨h1, h2⟩ := okN_snoc.1 h
 have hn : laidN y.2.data y.2.acl y.2.st = y.2 := by
  obtain ⟨p, d, a, s1, s2, s3, s4, s5, s6, s7, s8, s9⟩ := y
  obtain ⟨b1, b2⟩ := hb
  dsimp only at b1 b2
  subst b1; subst b2
  rfl
 unfold layZ
 rw [if_pos h2.1, hn]
 have hlt : ∀ x ∈ l, x.1 < y.1 := fun x hx => by
  have := (okN_sorted h).1
  unfold SortedK at this
  rw [List.map_append, List.pairwise_append] at this
  exact this.2.2 _ (List.mem_map_of_mem hx) _ (by simp)
 unfold layT
 rw [if_neg (show ¬ l ++ [y] = [] by simp)]
 by_cases e : l = []
 ·subst e
  have hr : y.1 = [47] := h2.2.2.1 rfl
  rw [if_pos rfl]
  refine Tr.ext' ?_ rfl rfl
  show sset [([47], _)] y.1 y.2 = [] ++ [y]
  unfold sset
  rw [if_pos hr.symm]; rfl
 ·rw [if_neg e]
  refine Tr.ext' ?_ rfl rfl
  exact sset_snoc hlt
theorem layT_ok {z : Int} {l : List PN} (h : okN l) (ha : ∀ y ∈ l, y.2.acl.length ≤ 1048576) : (layT z l).Ok (l.length + 1) := by
 unfold layT
 split
 ·exact (newT_ok.more (by omega)).zx z
 ·exact ⟨(okN_sorted h).1, by unfold SortedK; simp, Nat.le_succ _, fun y hy => check_able (okN_able h y hy), fun x hx => (by cases hx), ha, Nat.zero_le _⟩
theorem bad_node {s : Bs} {j : Nat} (hj : j < snM s) (hbad : ¬ nextN (lastP (manyR ndR j (sn3 s)).1) (ndR (manyR ndR j (sn3 s)).2).1.1) : sn4 s = none := by
 unfold sn4
 refine if_neg fun h => hbad ?_
 have hl : (snL s).length = snM s := manyL _ _ _
 have h1 := h j (by omega)
 have e1 : (snL s).take j = (manyR ndR j (sn3 s)).1 := many_take _ _ _ _ (by omega)
 have e2 : (snL s).take (j + 1) = (manyR ndR (j + 1) (sn3 s)).1 := many_take _ _ _ _ (by omega)
 rw [List.take_succ_eq_append_getElem (by omega), e1] at e2
 have e3 : [(snL s)[j]] = [(ndR (manyR ndR j (sn3 s)).2).1] := List.append_cancel_left e2
 rw [e1, List.cons.inj e3 |>.1] at h1
 exact h1
theorem bad_sess {s : Bs} {j : Nat} (hj : j < snK s) (hbad : ¬ nextS (lastI (manyR ssR j (cntR (sn4 s)).2).1) (ssR (manyR ssR j (cntR (sn4 s)).2).2).1.1) : sn6 s = none := by
 unfold sn6
 refine if_neg fun h => hbad ?_
 have hl : (snS s).length = snK s := manyL _ _ _
 have h1 := h j (by omega)
 have e1 : (snS s).take j = (manyR ssR j (cntR (sn4 s)).2).1 := many_take _ _ _ _ (by omega)
 have e2 : (snS s).take (j + 1) = (manyR ssR (j + 1) (cntR (sn4 s)).2).1 := many_take _ _ _ _ (by omega)
 rw [List.take_succ_eq_append_getElem (by omega), e1] at e2
 have e3 : [(snS s)[j]] = [(ssR (manyR ssR j (cntR (sn4 s)).2).2).1] := List.append_cancel_left e2
 rw [e1, List.cons.inj e3 |>.1] at h1
 exact h1
theorem st7_set {l : List Int} {i : Nat} (hi : i < 7) (hl : l.length = i) (n : Int) : (stC (st7 l)).set i (vint n) = stC (st7 (l ++ [n])) := by
 subst hl
 match l, hi with
 | [], _ => rfl
 | [a], _ => rfl
 | [a, b], _ => rfl
 | [a, b, c], _ => rfl
 | [a, b, c, d], _ => rfl
 | [a, b, c, d, e], _ => rfl
 | [a, b, c, d, e, f], _ => rfl
 | _ :: _ :: _ :: _ :: _ :: _ :: _ :: _, h => exact absurd h (by simp only [List.length_cons]; omega)
theorem okS_sorted {l : List SN} (h : okS l) : SortedK l ∧ ∀ x ∈ l, ¬ lastI l < x.1 := by
 induction l using snocInd with
 | h0 => exact ⟨by unfold SortedK; simp, fun y hy => by cases hy⟩
 | h1 l x ih =>
  obtain ⟨h1, h2⟩ := okS_snoc.1 h
  obtain ⟨i1, i2⟩ := ih h1
  have h2 : lastI l < x.1 := h2
  have hb : ∀ y ∈ l, y.1 < x.1 := fun y hy => by have := i2 y hy; omega
  refine ⟨?_, fun y hy => ?_⟩
  ·unfold SortedK at i1 ⊢
   rw [List.map_append, List.pairwise_append]
   refine ⟨i1, by simp, fun a ha b hb2 => ?_⟩
   obtain ⟨y, hy, rfl⟩ := List.mem_map.1 ha
   simp at hb2; subst hb2
   exact hb y hy
  ·rw [lastI_snoc]
   rcases List.mem_append.1 hy with hy | hy
   ·have := hb y hy; omega
   ·rw [List.mem_singleton] at hy; rw [hy]; omega
theorem okS_pos {l : List SN} (h : okS l) : 0 ≤ lastI l ∧ ∀ x ∈ l, 1 ≤ x.1 := by
 induction l using snocInd with
 | h0 => exact ⟨Int.le_refl _, fun y hy => by cases hy⟩
 | h1 l x ih =>
  obtain ⟨h1, h2⟩ := okS_snoc.1 h
  obtain ⟨i1, i2⟩ := ih h1
  have h2 : lastI l < x.1 := h2
  refine ⟨by rw [lastI_snoc]; omega, fun y hy => ?_⟩
  rcases List.mem_append.1 hy with hy | hy
  ·exact i2 y hy
  ·rw [List.mem_singleton] at hy; rw [hy]; omega
theorem sset_snocI {l : List SN} {k : Int} {v : Int × Bs} (h : ∀ y ∈ l, y.1 < k) : sset l k v = l ++ [(k, v)] := by
 induction l with
 | nil => rfl
 | cons y l ih =>
  have h1 := h y List.mem_cons_self
  unfold sset
  rw [if_neg (by omega), if_neg (by omega), ih fun z hz => h z (List.mem_cons_of_mem _ hz)]
  rfl
theorem layT_sess (z : Int) (l : List PN) : (layT z l).sess = [] := by unfold layT; split <;> rfl
def laySs (τ : Tr) (l : List SN) : Tr := ⟨τ.nodes, l, τ.zx⟩
theorem lays_next {τ : Tr} {l : List SN} {x : SN} (h : okS (l ++ [x])) : layS (laySs τ l) x.1 x.2.1 x.2.2 = laySs τ (l ++ [x]) := by
 have hp := (okS_pos h).2 x (by simp)
 obtain ⟨h1, h2⟩ := okS_snoc.1 h
 have h2 : lastI l < x.1 := h2
 unfold layS
 rw [if_pos (by omega)]
 refine Tr.ext' rfl ?_ rfl
 exact sset_snocI fun y hy => by have := (okS_sorted h1).2 y hy; omega
theorem seven_at {b12 k : Nat} (h : k < 7) : ([.pointer (some ⟨b12, 0, none⟩), .pointer (some ⟨b12, 1, none⟩), .pointer (some ⟨b12, 2, none⟩), .pointer (some ⟨b12, 3, none⟩), .pointer (some ⟨b12, 4, none⟩), .pointer (some ⟨b12, 5, none⟩), .pointer (some ⟨b12, 6, none⟩)] : List Value)[((k : Nat) : Int).toNat * 1]? = some (.pointer (some ⟨b12, k, none⟩)) := by
 rw [show ((k : Nat) : Int).toNat * 1 = k by omega]
 match k, h with
 | 0, _ => rfl
 | 1, _ => rfl
 | 2, _ => rfl
 | 3, _ => rfl
 | 4, _ => rfl
 | 5, _ => rfl
 | 6, _ => rfl
theorem nodes_acl : ∀ (j : Nat) (st : Rs), ∀ y ∈ (manyR ndR j st).1, y.2.acl.length ≤ 1048576
 | 0, _, y, hy => by cases hy
 | j + 1, st, y, hy => by
  rcases List.mem_append.1 (show y ∈ (manyR ndR j st).1 ++ [(ndR (manyR ndR j st).2).1] from hy) with hy | hy
  ·exact nodes_acl j st y hy
  ·rw [List.mem_singleton] at hy
   rw [hy]
   have h := cntR_le (txtR (txtR (manyR ndR j st).2).2).2
   show (manyR acR (cntR (txtR (txtR (manyR ndR j st).2).2).2).1 _).1.length ≤ _
   rw [manyL]; omega
theorem read_tree {s : Bs} {υ φ : Tr} (h6 : sn6 s = some []) (hυ : sn4 s ≠ none → υ = layT (numR (sn1 s)).1 (snL s)) (hφ : φ = laySs υ (snS s)) : φ = ⟨snL s, snS s, (numR (sn1 s)).1⟩ := by
 have hr : readZ s = some ⟨snL s, snS s, (numR (sn1 s)).1⟩ := if_pos h6
 have hg := read_good.1 hr
 have h4 : sn4 s ≠ none := fun g => by
  unfold sn6 at h6
  rw [g] at h6
  split at h6
  ·rw [show (manyR ssR (snK s) (cntR none).2).2 = none from many_ne strict_ss _] at h6; cases h6
  ·cases h6
 rw [hφ, hυ h4]
 unfold layT laySs
 rw [if_neg (show ¬ snL s = [] from hg.ne)]
set_option maxHeartbeats 1000000 in
theorem sread_spec (s : Bs) (hs : s.length ≤ 70368744177664) : Fn Tryz.prog 40 #[vstr s] [] fun v L => (readZ s = none ∧ v = .tuple #[.pointer none, vint 70] ∧ L = []) ∨ (∃ τ t, readZ s = some τ ∧ v = .tuple #[vptr t, vint 0] ∧ L = [treeR t τ]) := by
 refine Fn.intro Tryz.func40 rfl rfl fun F W => ?_
 obtain ⟨m, hm⟩ : ∃ m, m = snM s := ⟨_, rfl⟩
 have hm256 : m ≤ 256 := by rw [hm]; exact cntR_le _
 refine .sr (.a rfl (.an rfl (.sm rfl (.oq (.c Tryz.func89 [_] (cread_spec s hs)) ?_))))
 rintro v L' ⟨r, rfl, rfl⟩
 refine .an rfl (.sr (.oq (.c Tryz.func11 [] (trnew_spec)) ?_))
 rintro v L' ⟨t, rfl, rfl⟩
 refine .an rfl (.seq (.joinK (ι := Unit) (fun q E => E) (fun q => [rdR r (sn1 s)]) (fun q => True) (pre := [rdR r (some s)]) (ts := [2, 3, 4, 5]) (.cons rfl (.cons rfl (.cons rfl (.cons rfl (.nil))))) (by repeat' constructor) ?_ ?_))
 ·refine .sm rfl (.cv Tryz.func90 [_, _] (rtxt4_spec r (some s)) ?_)
  refine .u (.strne rfl rfl) (.nt (.condN rfl (fun h23 => ?_) (fun h23 => ?_)))
  ·refine .region (.m rfl (.cv Tryz.func91 [_] (rfailR_spec r _) ?_))
   refine .nt (.rdCast (st' := sn1 s) (by repeat' constructor) (by unfold sn1; rw [if_neg (show ¬ (txt4R (some s)).1 = headB from h23)]) ?_)
   exact .mk (()) (trivial) ⟨rfl, rfl, rfl, rfl, trivial⟩
  refine .sk (.rdCast (st' := sn1 s) (by repeat' constructor) (by unfold sn1; rw [if_pos (show (txt4R (some s)).1 = headB from h23)]) ?_)
  exact .mk (()) (trivial) ⟨rfl, rfl, rfl, rfl, trivial⟩
 rintro _u _
 refine .sm rfl (.m rfl (.cv Tryz.func92 [_] (rnumN_spec r (sn1 s)) ?_))
 refine .cv Tryz.func63 [_, _] (trlayzx_spec t newT (numR (sn1 s)).1) ?_
 refine .nt (.sm rfl (.oq (.c Tryz.func93 [_, _] (rcntN_spec r (numR (sn1 s)).2)) ?_))
 rintro v L' ⟨rfl, rfl⟩; rw [show (cntR (numR (sn1 s)).2).1 = m from hm.symm]
 refine .a rfl (.an rfl (.seq (.joinK (ι := Unit) (fun q E => E) (fun q => [rdR r (sn3 s)]) (fun q => True) (pre := [rdR r (cntR (numR (sn1 s)).2).2]) (ts := [2, 3, 4, 5, 6, 7]) (.cons rfl (.cons rfl (.cons rfl (.cons rfl (.cons rfl (.cons rfl (.nil))))))) (by repeat' constructor) ?_ ?_)))
 ·refine .sm rfl (.ui rfl rfl rfl (.nt (.condD rfl (fun h33 => ?_) (fun h33 => ?_))))
  ·refine .region (.m rfl (.cv Tryz.func91 [_] (rfailR_spec r _) ?_))
   refine .nt (.rdCast (st' := sn3 s) (by repeat' constructor) (by unfold sn3; rw [if_pos (by rw [← hm]; omega)]) ?_)
   exact .mk (()) (trivial) ⟨rfl, rfl, rfl, rfl, rfl, rfl, trivial⟩
  refine .sk (.rdCast (st' := sn3 s) (by repeat' constructor) (by unfold sn3; rw [if_neg (by rw [← hm]; omega)]) ?_)
  exact .mk (()) (trivial) ⟨rfl, rfl, rfl, rfl, rfl, rfl, trivial⟩
 rintro _u _
 refine .seq (.trCast (τ' := layT (numR (sn1 s)).1 (manyR ndR 0 (sn3 s)).1) (by repeat' constructor) rfl (.joinK (ι := Tr) (fun q E => E) (fun q => [rdR r (sn4 s), treeR t q]) (fun q => (sn4 s ≠ none → q = layT (numR (sn1 s)).1 (snL s)) ∧ q.sess = []) (pre := [rdR r (sn3 s), treeR t (layT (numR (sn1 s)).1 (manyR ndR 0 (sn3 s)).1)]) (ts := [2, 3, 4, 5]) (.cons rfl (.cons rfl (.cons rfl (.cons rfl (.nil))))) (by repeat' constructor) ?_ ?_))
 ·refine .sm rfl (.m rfl (.nt (.block (.loopK (ι := Nat) (fun q E => (37, vint q) :: (6, vstr (lastP (manyR ndR q (sn3 s)).1)) :: E) (fun q => [rdR r (manyR ndR q (sn3 s)).2, treeR t (layT (numR (sn1 s)).1 (manyR ndR q (sn3 s)).1)]) (fun q => q ≤ m ∧ okN (manyR ndR q (sn3 s)).1) (fun q => m - q) (0) (ts := [2, 3, 4, 5, 36]) (.cons rfl (.cons rfl (.cons rfl (.cons rfl (.cons rfl (.nil)))))) (⟨Nat.zero_le _, okN_nil⟩) ⟨rfl, rfl, rfl, rfl, rfl, rfl, rfl, trivial⟩ (by repeat' constructor) ?_))))
  rintro j ⟨hj, hok⟩
  have hlj : (manyR ndR j (sn3 s)).1.length = j := manyL _ _ _
  have hlo : (layT (numR (sn1 s)).1 (manyR ndR j (sn3 s)).1).Ok (j + 1) := by have h := layT_ok (z := (numR (sn1 s)).1) hok (nodes_acl j (sn3 s)); rw [hlj] at h; exact h
  refine .sr (.ui rfl rfl rfl (.nt (.seq (.condD rfl (fun h38 => ?_) (fun h38 => ?_)))))
  ·have hj2m : j < m := by omega
   have hj2 : j < snM s := by omega
   have hpl := txtR_le8 (manyR ndR j (sn3 s)).2
   refine .sk (.seq (.block (.sm rfl (.cv Tryz.func90 [_, _] (rtxtN_spec r (manyR ndR j (sn3 s)).2) ?_))))
   refine .m rfl (.cv Tryz.func90 [_, _] (rtxtN_spec r (txtR (manyR ndR j (sn3 s)).2).2) ?_)
   refine .a rfl (.an rfl (.seq (.sm rfl (.cv Tryz.func94 [_] (check_spec (txtR (manyR ndR j (sn3 s)).2).1 (by omega)) ?_))))
   refine .ui rfl rfl rfl (.m rfl (.ndec (t := 46) rfl (fun h12_46 => ?_) (fun h12_46 => ?_)))
   ·refine .kNT (t := 45) rfl h12_46 (.gk (.gk (.gk (.u (.pickT rfl rfl) (.m rfl (.gk (.gk (.gk (.gk (.gk (.u (.pickT rfl rfl) (.nt (.condT rfl (.sm rfl (.cv Tryz.func91 [_] (rfailR_spec r _) ?_)))))))))))))))
    refine .nt (.exit (.then_e (.blk_o rfl (.then_e (.then_e (.blk_e (.then_n (.rdCast (st' := sn4 s) (by repeat' constructor) (bad_node hj2 (fun g => h12_46 g.1)).symm ?_))))))))
    exact .mk (layT (numR (sn1 s)).1 (manyR ndR j (sn3 s)).1) (⟨fun g => absurd (bad_node hj2 (fun g => h12_46 g.1)) g, layT_sess _ _⟩) ⟨rfl, rfl, rfl, rfl, trivial⟩
   refine .kNF (t := 45) rfl h12_46 (.grun (t := 46) rfl rfl rfl (.m rfl (.grun (t := 46) rfl rfl rfl (.m rfl (.grun (t := 46) rfl rfl rfl (.u (.strle rfl rfl) (.u (.pickF rfl rfl) (.m rfl (.dec (t := 51) rfl (fun h12_51 => ?_) (fun h12_51 => ?_))))))))))
   ·refine .kDT (t := 49) rfl h12_51 (.kDT (t := 50) rfl h12_51 (.gk (.gk (.gk (.gk (.gk (.u (.pickT rfl rfl) (.nt (.condT rfl (.sm rfl (.cv Tryz.func91 [_] (rfailR_spec r _) ?_)))))))))))
    refine .nt (.exit (.then_e (.blk_o rfl (.then_e (.then_e (.blk_e (.then_n (.rdCast (st' := sn4 s) (by repeat' constructor) (bad_node hj2 (fun g => h12_51 g.2.1)).symm ?_))))))))
    exact .mk (layT (numR (sn1 s)).1 (manyR ndR j (sn3 s)).1) (⟨fun g => absurd (bad_node hj2 (fun g => h12_51 g.2.1)) g, layT_sess _ _⟩) ⟨rfl, rfl, rfl, rfl, trivial⟩
   refine .kDF (t := 49) rfl h12_51 (.kDF (t := 50) rfl h12_51 (.grun (t := 51) rfl rfl rfl (.m rfl (.grun (t := 51) rfl rfl rfl (.u (.streq rfl rfl) (.grun (t := 51) rfl rfl rfl (.m rfl (.grun (t := 51) rfl rfl rfl (.u (.streq rfl rfl) (.grun (t := 51) rfl rfl rfl (.q (.boolne rfl rfl Tryz.underlying4) rfl (.u (.pickF rfl rfl) (.nt (.condB rfl (fun h57 => ?_) (fun h57 => ?_)))))))))))))))
   ·refine .sm rfl (.cv Tryz.func91 [_] (rfailR_spec r _) ?_)
    refine .nt (.exit (.then_e (.blk_o rfl (.then_e (.then_e (.blk_e (.then_n (.rdCast (st' := sn4 s) (by repeat' constructor) (bad_node hj2 (fun g => by have g3 : (lastP (manyR ndR j (sn3 s)).1 = [] ↔ (txtR (manyR ndR j (sn3 s)).2).1 = [47]) := g.2.2; simp [g3] at h57)).symm ?_))))))))
    exact .mk (layT (numR (sn1 s)).1 (manyR ndR j (sn3 s)).1) (⟨fun g => absurd (bad_node hj2 (fun g => by have g3 : (lastP (manyR ndR j (sn3 s)).1 = [] ↔ (txtR (manyR ndR j (sn3 s)).2).1 = [47]) := g.2.2; simp [g3] at h57)) g, layT_sess _ _⟩) ⟨rfl, rfl, rfl, rfl, trivial⟩
   have hnx : nextN (lastP (manyR ndR j (sn3 s)).1) ((ndR (manyR ndR j (sn3 s)).2).1).1 := ⟨h12_46, Decidable.not_not.1 h12_51, show (lastP (manyR ndR j (sn3 s)).1 = [] ↔ (txtR (manyR ndR j (sn3 s)).2).1 = [47]) from by simpa using h57⟩
   have hok2 : okN (manyR ndR (j + 1) (sn3 s)).1 := okN_snoc.2 ⟨hok, hnx⟩
   obtain ⟨na, hna⟩ : ∃ n, n = (cntR (txtR (txtR (manyR ndR j (sn3 s)).2).2).2).1 := ⟨_, rfl⟩
   have hna2 : na ≤ 256 := by rw [hna]; exact cntR_le _
   refine .sk (.sm rfl (.q (.as (v' := vstr (lastP (manyR ndR (j + 1) (sn3 s)).1)) (by exact congrArg vstr (lastP_snoc (manyR ndR j (sn3 s)).1 (ndR (manyR ndR j (sn3 s)).2).1).symm) (.assign rfl)) rfl (.nt (.seq (.add (slR_nil 90 2) (.region (.an rfl (.seq (.sm rfl (.oq (.c Tryz.func93 [_, _] (rcntN_spec r (txtR (txtR (manyR ndR j (sn3 s)).2).2).2)) ?_))))))))))
   rintro v L' ⟨rfl, rfl⟩; rw [show (cntR (txtR (txtR (manyR ndR j (sn3 s)).2).2).2).1 = na from hna.symm]
   refine .m rfl (.nt (.block (.loopK (ι := Nat × Value) (fun q E => (63, vint q.1) :: (10, q.2) :: E) (fun q => [rdR r (manyR acR q.1 (cntR (txtR (txtR (manyR ndR j (sn3 s)).2).2).2).2).2, slR 90 2 q.2 q.1 ((manyR acR q.1 (cntR (txtR (txtR (manyR ndR j (sn3 s)).2).2).2).2).1.flatMap acC)]) (fun q => q.1 ≤ na ∧ ∃ a c, q.2 = .slice a q.1 c) (fun q => na - q.1) (0, .slice none 0 0) (ts := [2, 3, 4, 5, 6, 8, 9, 36, 37, 38, 39, 40, 41, 42, 43, 44, 45, 46, 47, 48, 49, 50, 51, 52, 53, 54, 55, 56, 57, 60, 61, 62]) (.cons rfl (.cons rfl (.cons rfl (.cons rfl (.cons rfl (.cons rfl (.cons rfl (.cons rfl (.cons rfl (.cons rfl (.cons rfl (.cons rfl (.cons rfl (.cons rfl (.cons rfl (.cons rfl (.cons rfl (.cons rfl (.cons rfl (.cons rfl (.cons rfl (.cons rfl (.cons rfl (.cons rfl (.cons rfl (.cons rfl (.cons rfl (.cons rfl (.cons rfl (.cons rfl (.cons rfl (.cons rfl (.nil))))))))))))))))))))))))))))))))) (⟨Nat.zero_le _, none, 0, rfl⟩) ⟨rfl, rfl, rfl, rfl, rfl, rfl, rfl, rfl, rfl, rfl, rfl, rfl, rfl, rfl, rfl, rfl, rfl, rfl, rfl, rfl, rfl, rfl, rfl, rfl, rfl, rfl, rfl, rfl, rfl, rfl, rfl, rfl, rfl, rfl, trivial⟩ (by repeat' constructor) ?_)))
   rintro ⟨i, u⟩ ⟨hi, au, cu, hu⟩
   dsimp only
   dsimp only at hi hu
   subst hu
   refine .sr (.ui rfl rfl rfl (.nt (.seq (.condD rfl (fun h64 => ?_) (fun h64 => ?_)))))
   ·have hi2 : i < na := by omega
    refine .sk (.seq (.block (.sm rfl (.cv Tryz.func92 [_] (rnumN_spec r _) ?_))))
    refine .an rfl (.region (.m rfl (.m rfl (.m rfl (.cv Tryz.func90 [_, _] (rtxtN_spec r _) ?_)))))
    refine .q (.to (v' := .agg (acC (acR (manyR acR i (cntR (txtR (txtR (manyR ndR j (sn3 s)).2).2).2).2).2).1).toArray) (.build (us := [(0, _), (1, _)]) fl_90 ze_90 rfl rfl (by simp [isCell])) rfl) rfl (.oq (.buildSlice (vs := [_]) el_34 ze_90 rfl rfl rfl rfl (by first | (simp [Value.cells]; done) | (intro v hv; simp only [List.mem_cons, List.not_mem_nil, or_false] at hv; (repeat (first | (subst hv; rfl) | (rcases hv with hv | hv; (subst hv; rfl)))))) (by decide)) ?_)
    rintro v L' ⟨b19, rfl, rfl⟩
    refine .oq (.append1 rfl rfl rfl el_34 ze_90 rfl rfl ?c73 ?c74 (Nat.le_refl _) ?c75 (by decide)) ?_
    case c73 => simp only [List.map_cons, List.map_nil, List.flatten_cons, List.flatten_nil, List.append_nil]; simp [Value.cells, acC, isCell]
    case c74 => rfl
    case c75 => omega
    rintro v L' ⟨⟨a5, c5, rfl⟩, rfl⟩
    refine .a rfl (.nil (.blk_n (.then_n (.region (.q (.add rfl rfl (by omega)) rfl (.m rfl (.nt (.slCast (T := 90) (sz := 2) (m' := i + 1) (xs' := (manyR acR (i + 1) (cntR (txtR (txtR (manyR ndR j (sn3 s)).2).2).2).2).1.flatMap acC) (by repeat' constructor) (by exact rfl) (by show _ = ((manyR acR i (cntR (txtR (txtR (manyR ndR j (sn3 s)).2).2).2).2).1 ++ [_]).flatMap acC; rw [List.flatMap_append]; simp [Value.cells, acC]) ?_))))))))
    exact .rk ((i + 1, .slice a5 (i + 1) c5)) (⟨by dsimp only; omega, _, _, rfl⟩) (by dsimp only; omega) ⟨rfl, rfl, rfl, rfl, rfl, rfl, rfl, rfl, rfl, rfl, rfl, rfl, rfl, rfl, rfl, rfl, rfl, rfl, rfl, rfl, rfl, rfl, rfl, rfl, rfl, rfl, rfl, rfl, rfl, rfl, rfl, rfl, rfl, rfl, trivial⟩
   have hii : i = na := by omega
   subst hii
   rw [hna]
   refine .exit (.then_e (.then_e (.blk_e (.then_n (.sr (.oq (.allocA ze_92) ?_))))))
   rintro v L' ⟨b12, rfl, rfl⟩
   refine .nil (.ptCast (b := b12) (l' := stC (st7 (manyR numR 0 (manyR acR (cntR (txtR (txtR (manyR ndR j (sn3 s)).2).2).2).1 (cntR (txtR (txtR (manyR ndR j (sn3 s)).2).2).2).2).2).1)) (by repeat' constructor) rfl (.then_n (.seq (.sr (.u (.fieldAddr rfl fo_92_0) (.u (.fieldAddr rfl fo_92_1) (.u (.fieldAddr rfl fo_92_2) (.u (.fieldAddr rfl fo_92_3) (.u (.fieldAddr rfl fo_92_4) (.u (.fieldAddr rfl fo_92_5) (.u (.fieldAddr rfl fo_92_6) (.q (.buildA (us := [(0, .pointer (some ⟨b12, 0, none⟩)), (1, .pointer (some ⟨b12, 1, none⟩)), (2, .pointer (some ⟨b12, 2, none⟩)), (3, .pointer (some ⟨b12, 3, none⟩)), (4, .pointer (some ⟨b12, 4, none⟩)), (5, .pointer (some ⟨b12, 5, none⟩)), (6, .pointer (some ⟨b12, 6, none⟩))]) (cells := ([.pointer (some ⟨b12, 0, none⟩), .pointer (some ⟨b12, 1, none⟩), .pointer (some ⟨b12, 2, none⟩), .pointer (some ⟨b12, 3, none⟩), .pointer (some ⟨b12, 4, none⟩), .pointer (some ⟨b12, 5, none⟩), .pointer (some ⟨b12, 6, none⟩)] : List Value)) ar_158 ze_158 rfl (by kernel_rfl)) rfl ?_))))))))))))
   refine .m rfl (.nt (.block (.loopK (ι := Nat) (fun q E => (83, vint q) :: E) (fun q => [rdR r (manyR numR q (manyR acR (cntR (txtR (txtR (manyR ndR j (sn3 s)).2).2).2).1 (cntR (txtR (txtR (manyR ndR j (sn3 s)).2).2).2).2).2).2, ptc b12 (stC (st7 (manyR numR q (manyR acR (cntR (txtR (txtR (manyR ndR j (sn3 s)).2).2).2).1 (cntR (txtR (txtR (manyR ndR j (sn3 s)).2).2).2).2).2).1)) 92]) (fun q => q ≤ 7) (fun q => 7 - q) (0) (ts := [2, 3, 4, 5, 6, 8, 9, 10, 12, 36, 37, 38, 39, 40, 41, 42, 43, 44, 45, 46, 47, 48, 49, 50, 51, 52, 53, 54, 55, 56, 57, 60, 61, 62, 63, 64, 75, 76, 77, 78, 79, 80, 81, 82]) (.cons rfl (.cons rfl (.cons rfl (.cons rfl (.cons rfl (.cons rfl (.cons rfl (.cons rfl (.cons rfl (.cons rfl (.cons rfl (.cons rfl (.cons rfl (.cons rfl (.cons rfl (.cons rfl (.cons rfl (.cons rfl (.cons rfl (.cons rfl (.cons rfl (.cons rfl (.cons rfl (.cons rfl (.cons rfl (.cons rfl (.cons rfl (.cons rfl (.cons rfl (.cons rfl (.cons rfl (.cons rfl (.cons rfl (.cons rfl (.cons rfl (.cons rfl (.cons rfl (.cons rfl (.cons rfl (.cons rfl (.cons rfl (.cons rfl (.cons rfl (.cons rfl (.nil))))))))))))))))))))))))))))))))))))))))))))) (Nat.zero_le _) ⟨rfl, rfl, rfl, rfl, rfl, rfl, rfl, rfl, rfl, rfl, rfl, rfl, rfl, rfl, rfl, rfl, rfl, rfl, rfl, rfl, rfl, rfl, rfl, rfl, rfl, rfl, rfl, rfl, rfl, rfl, rfl, rfl, rfl, rfl, rfl, rfl, rfl, rfl, rfl, rfl, rfl, rfl, rfl, rfl, rfl, trivial⟩ (by repeat' constructor) ?_)))
   rintro k hk
   refine .sr (.ui rfl rfl rfl (.nt (.seq (.condD rfl (fun h84 => ?_) (fun h84 => ?_)))))
   ·have hk2 : k < 7 := by omega
    refine .sk (.seq (.block (.sr (.q (.arrIndex (cs := ([.pointer (some ⟨b12, 0, none⟩), .pointer (some ⟨b12, 1, none⟩), .pointer (some ⟨b12, 2, none⟩), .pointer (some ⟨b12, 3, none⟩), .pointer (some ⟨b12, 4, none⟩), .pointer (some ⟨b12, 5, none⟩), .pointer (some ⟨b12, 6, none⟩)] : List Value)) (v := .pointer (some ⟨b12, k, none⟩)) rfl rfl ar_158 ag_157 (by omega) (seven_at hk2)) rfl (.an rfl (.region (.m rfl (.m rfl (.cv Tryz.func92 [_] (rnumN_spec r _) ?_)))))))))
    refine .u (.nilp rfl) (.oq (.store rfl rfl rfl sz_3 ?c96 (nfz0 _ _)) ?_)
    case c96 => simp [stC]; omega
    rintro v L' rfl
    refine .nil (.blk_n (.then_n (.region (.q (.add rfl rfl (by omega)) rfl (.m rfl (.nt (.ptCast (b := b12) (l' := stC (st7 (manyR numR (k + 1) (manyR acR (cntR (txtR (txtR (manyR ndR j (sn3 s)).2).2).2).1 (cntR (txtR (txtR (manyR ndR j (sn3 s)).2).2).2).2).2).1)) (by repeat' constructor) (st7_set hk2 (manyL _ _ _) _) ?_)))))))
    exact .rk (k + 1) (by omega) (by omega) ⟨rfl, rfl, rfl, rfl, rfl, rfl, rfl, rfl, rfl, rfl, rfl, rfl, rfl, rfl, rfl, rfl, rfl, rfl, rfl, rfl, rfl, rfl, rfl, rfl, rfl, rfl, rfl, rfl, rfl, rfl, rfl, rfl, rfl, rfl, rfl, rfl, rfl, rfl, rfl, rfl, rfl, rfl, rfl, rfl, rfl, trivial⟩
   have hkk : k = 7 := by omega
   subst hkk
   refine .exit (.then_e (.then_e (.blk_e (.then_n (.region (.m rfl (.m rfl (.m rfl (.m rfl (.q (.loadAs (vs := stC (st7 (manyR numR 7 (manyR acR (cntR (txtR (txtR (manyR ndR j (sn3 s)).2).2).2).1 (cntR (txtR (txtR (manyR ndR j (sn3 s)).2).2).2).2).2).1)) rfl ag_92 (by repeat' constructor) (by simp [stC]) rfl) rfl (.oq (.call Tryz.func59 rfl rfl (vs := [_, _, _, _, _]) rfl (trlay_spec t (layT (numR (sn1 s)).1 (manyR ndR j (sn3 s)).1) (txtR (manyR ndR j (sn3 s)).2).1 (txtR (txtR (manyR ndR j (sn3 s)).2).2).1 _ (manyR acR (cntR (txtR (txtR (manyR ndR j (sn3 s)).2).2).2).1 (cntR (txtR (txtR (manyR ndR j (sn3 s)).2).2).2).2).1 (st7 (manyR numR 7 (manyR acR (cntR (txtR (txtR (manyR ndR j (sn3 s)).2).2).2).1 (cntR (txtR (txtR (manyR ndR j (sn3 s)).2).2).2).2).2).1) (slR 90 2 _ (cntR (txtR (txtR (manyR ndR j (sn3 s)).2).2).2).1 ((manyR acR (cntR (txtR (txtR (manyR ndR j (sn3 s)).2).2).2).1 (cntR (txtR (txtR (manyR ndR j (sn3 s)).2).2).2).2).1.flatMap acC)) (fun h hp => by rw [manyL]; exact slR_rd hp) (by rw [manyL, ← hna]; omega) (by omega))) ?_)))))))))))
   rintro v L' ⟨rfl, rfl⟩
   refine .nil (.blk_n (.then_n (.region (.q (.add rfl rfl (by omega)) rfl (.m rfl (.nt (.trCast (τ' := layT (numR (sn1 s)).1 (manyR ndR (j + 1) (sn3 s)).1) (by repeat' constructor) (lay_next (y := (ndR (manyR ndR j (sn3 s)).2).1) hok2 ⟨rfl, rfl⟩).symm ?_)))))))
   exact .rk (j + 1) (⟨by omega, hok2⟩) (by omega) ⟨rfl, rfl, rfl, rfl, rfl, rfl, rfl, trivial⟩
  have hjj : j = snM s := by omega
  refine .exit (.then_e (.then_e (.blk_e (.then_n (.rdCast (st' := sn4 s) (by repeat' constructor) (by unfold sn4; rw [if_pos (show okN (snL s) from by unfold snL; rw [← hjj]; exact hok), ← hjj]) ?_)))))
  exact .mk (layT (numR (sn1 s)).1 (manyR ndR j (sn3 s)).1) (⟨fun _ => by unfold snL; rw [← hjj], layT_sess _ _⟩) ⟨rfl, rfl, rfl, rfl, trivial⟩
 rintro υ ⟨hυ, hυs⟩
 refine .sr (.an rfl (.seq (.joinK (ι := Tr) (fun q E => E) (fun q => [rdR r (sn6 s), treeR t q]) (fun q => sn6 s ≠ none → q = laySs υ (snS s)) (pre := [rdR r (sn4 s), treeR t υ]) (ts := [2, 3, 4, 5]) (.cons rfl (.cons rfl (.cons rfl (.cons rfl (.nil))))) (by repeat' constructor) ?_ ?_)))
 ·refine .sm rfl (.oq (.c Tryz.func93 [_, _] (rcntN_spec r (sn4 s))) ?_)
  rintro v L' ⟨rfl, rfl⟩; rw [show (cntR (sn4 s)).1 = snK s from rfl]
  refine .m rfl (.nt (.block (.trCast (τ' := laySs υ (manyR ssR 0 (cntR (sn4 s)).2).1) (by repeat' constructor) (by rw [show laySs υ (manyR ssR 0 (cntR (sn4 s)).2).1 = ⟨υ.nodes, [], υ.zx⟩ from rfl]; exact Tr.ext' rfl hυs.symm rfl) (.loopK (ι := Nat) (fun q E => (100, vint q) :: (15, vint (lastI (manyR ssR q (cntR (sn4 s)).2).1)) :: E) (fun q => [rdR r (manyR ssR q (cntR (sn4 s)).2).2, treeR t (laySs υ (manyR ssR q (cntR (sn4 s)).2).1)]) (fun q => q ≤ snK s ∧ okS (manyR ssR q (cntR (sn4 s)).2).1) (fun q => snK s - q) (0) (ts := [2, 3, 4, 5, 99]) (.cons rfl (.cons rfl (.cons rfl (.cons rfl (.cons rfl (.nil)))))) (⟨Nat.zero_le _, okS_nil⟩) ⟨rfl, rfl, rfl, rfl, rfl, rfl, rfl, trivial⟩ (by repeat' constructor) ?_))))
  rintro i ⟨hi, hoks⟩
  refine .sr (.ui rfl rfl rfl (.nt (.seq (.condD rfl (fun h101 => ?_) (fun h101 => ?_)))))
  ·have hi2 : i < snK s := by omega
   have hk256 : snK s ≤ 256 := cntR_le _
   refine .sk (.seq (.block (.sm rfl (.cv Tryz.func92 [_] (rnumN_spec r _) ?_))))
   refine .m rfl (.cv Tryz.func92 [_] (rnumN_spec r _) ?_)
   refine .a rfl (.an rfl (.seq (.sm rfl (.m rfl (.ui rfl rfl rfl (.nt (.condD rfl (fun h108 => ?_) (fun h108 => ?_))))))))
   ·have h108b : ¬ nextS (lastI (manyR ssR i (cntR (sn4 s)).2).1) (ssR (manyR ssR i (cntR (sn4 s)).2).2).1.1 := by unfold nextS; have := h108; show ¬ _ < (numR (manyR ssR i (cntR (sn4 s)).2).2).1; omega
    refine .sm rfl (.cv Tryz.func91 [_] (rfailR_spec r _) ?_)
    refine .nt (.exit (.then_e (.blk_o rfl (.then_e (.then_e (.blk_e (.then_n (.rdCast (st' := sn6 s) (by repeat' constructor) (bad_sess hi2 (fun g => h108b g)).symm ?_))))))))
    exact .mk (laySs υ (manyR ssR i (cntR (sn4 s)).2).1) (fun g => absurd (bad_sess hi2 (fun g => h108b g)) g) ⟨rfl, rfl, rfl, rfl, trivial⟩
   have hnx : nextS (lastI (manyR ssR i (cntR (sn4 s)).2).1) (ssR (manyR ssR i (cntR (sn4 s)).2).2).1.1 := by unfold nextS; have := h108; show _ < (numR (manyR ssR i (cntR (sn4 s)).2).2).1; omega
   have hok2 : okS (manyR ssR (i + 1) (cntR (sn4 s)).2).1 := okS_snoc.2 ⟨hoks, hnx⟩
   refine .sk (.sm rfl (.q (.as (v' := vint (lastI (manyR ssR (i + 1) (cntR (sn4 s)).2).1)) (by exact congrArg vint (lastI_snoc (manyR ssR i (cntR (sn4 s)).2).1 (ssR (manyR ssR i (cntR (sn4 s)).2).2).1).symm) (.assign rfl)) rfl (.nt (.region (.m rfl (.m rfl (.m rfl (.m rfl (.cv Tryz.func90 [_, _] (rtxtN_spec r _) ?_)))))))))
   refine .cv Tryz.func61 [_, _, _, _] (trlayses_spec t _ _ _ _) ?_
   refine .nil (.blk_n (.then_n (.region (.q (.add rfl rfl (by omega)) rfl (.m rfl (.nt (.trCast (τ' := laySs υ (manyR ssR (i + 1) (cntR (sn4 s)).2).1) (by repeat' constructor) (lays_next (x := (ssR (manyR ssR i (cntR (sn4 s)).2).2).1) hok2).symm ?_)))))))
   exact .rk (i + 1) (⟨by omega, hok2⟩) (by omega) ⟨rfl, rfl, rfl, rfl, rfl, rfl, rfl, trivial⟩
  have hii : i = snK s := by omega
  refine .exit (.then_e (.then_e (.blk_e (.then_n (.rdCast (st' := sn6 s) (by repeat' constructor) (by unfold sn6; rw [if_pos (show okS (snS s) from by unfold snS; rw [← hii]; exact hoks), ← hii]) ?_)))))
  exact .mk (laySs υ (manyR ssR i (cntR (sn4 s)).2).1) (fun _ => by unfold snS; rw [← hii]) ⟨rfl, rfl, rfl, rfl, trivial⟩
 rintro φ hφ
 refine .seq (.sm rfl (.oq (.c Tryz.func95 [_] (rend_spec r _)) ?_))
 rintro v L' ⟨e1, he1, rfl, st', rfl⟩
 refine .ui rfl rfl rfl (.nt (.condN rfl (fun h121 => ?_) (fun h121 => ?_)))
 ·refine .sr (.a rfl (.an rfl (.rt ?_)))
  exact .dn rfl rfl (.inl ⟨by unfold readZ; exact if_neg (fun g => h121 (he1.2 g)), rfl, rfl⟩)
 have h6 : sn6 s = some [] := he1.1 (by simpa using h121)
 have hφ2 : φ = ⟨snL s, snS s, (numR (sn1 s)).1⟩ := read_tree h6 hυ (hφ (by rw [h6]; simp))
 subst hφ2
 refine .sk (.sm rfl (.a rfl (.an rfl (.ret ?_))))
 exact .dn rfl rfl (.inr ⟨_, t, by unfold readZ; exact if_pos h6, rfl, rfl⟩)
theorem right_ok {τ : Tr} (h : RightT τ) : τ.Ok 256 :=
 ⟨(okN_sorted h.n).1, (okS_sorted h.s).1, h.nf, fun y hy => check_able (okN_able h.n y hy), (okS_pos h.s).2, fun y hy => by have := (h.nd y hy).2.1; omega, h.sf⟩
theorem read_ok {s : Bs} {τ : Tr} (h : readZ s = some τ) : τ.Ok 256 := right_ok (read_form h).1
theorem dec_none {s : Bs} (h : readZ s = none) : decZ s = none := by unfold decZ; rw [h]
theorem dec_some {s : Bs} {τ : Tr} (h : readZ s = some τ) (hw : wholeZ τ) : decZ s = some τ := by unfold decZ; rw [h]; exact if_pos hw
theorem dec_not {s : Bs} {τ : Tr} (h : readZ s = some τ) (hw : ¬ wholeZ τ) : decZ s = none := by unfold decZ; rw [h]; exact if_neg hw
def TreeOr (o : Option Tr) (e : Int) (v : Value) (L : List HP) : Prop := (o = none ∧ v = .tuple #[.pointer none, vint e] ∧ L = []) ∨ ∃ τ t, o = some τ ∧ v = .tuple #[vptr t, vint 0] ∧ L = [treeR t τ]
theorem sdecode_spec (s : Bs) (hs : s.length ≤ 70368744177664) : Fn Tryz.prog 13 #[vstr s] [] (TreeOr (decZ s) 70) := by
 refine Fn.intro Tryz.func13 rfl rfl fun F W => ?_
 refine .sr (.a rfl (.an rfl (.sm rfl (.oq (.c Tryz.func40 [_] (sread_spec s hs)) ?_))))
 rintro v L' (⟨hz, rfl, rfl⟩ | ⟨τ, t, hz, rfl, rfl⟩)
 ·refine .m rfl (.u (.extract rfl rfl) (.u (.extract rfl rfl) (.a rfl (.an rfl (.seq (.sm rfl (.q (.as (v' := .bool true) (by rfl) (.int rfl rfl rfl)) rfl (.nt (.condT rfl (.sm rfl (.a rfl (.an rfl (.rt ?_)))))))))))))
  exact .dn rfl rfl (.inl ⟨dec_none hz, rfl, rfl⟩)
 have ho := read_ok hz
 have hfew := ho.few
 have hpz : (pathsZ τ).length = τ.nodes.length := List.length_map _
 refine .m rfl (.u (.extract rfl rfl) (.u (.extract rfl rfl) (.a rfl (.an rfl (.seq (.sm rfl (.q (.as (v' := .bool false) (by rfl) (.int rfl rfl rfl)) rfl (.nt (.condF rfl (.sk (.seq (.sm rfl (.oq (.c Tryz.func22 [_] (trpaths_spec t τ 256 ho (by decide))) ?_)))))))))))))
 rintro v L' ⟨⟨ap, cp, rfl⟩, rfl⟩; rw [hpz]
 refine .q (.slen rfl Tryz.underlying54 rfl) rfl (.m rfl (.nt (.block (.loopK (ι := Nat) (fun q E => (21, vint q) :: E) (fun q => [treeR t τ]) (fun q => q ≤ τ.nodes.length ∧ ∀ i (hi : i < τ.nodes.length), i < q → τ.nodes[i].1 = [47] ∨ thereT τ (parentZ τ.nodes[i].1)) (fun q => τ.nodes.length - q) (0) (ts := [4, 19, 20]) (.cons rfl (.cons rfl (.cons rfl (.nil)))) (⟨Nat.zero_le _, fun i _ h => absurd h (Nat.not_lt_zero _)⟩) ⟨rfl, rfl, rfl, rfl, trivial⟩ (by repeat' constructor) ?_))))
 rintro j ⟨hj, hno⟩
 refine .sr (.ui rfl rfl rfl (.nt (.seq (.condD rfl (fun h22 => ?_) (fun h22 => ?_)))))
 ·have hj2 : j < τ.nodes.length := by omega
  have hpl := able_len (ho.able _ (List.getElem_mem hj2))
  refine .slShape (T := 9) (sz := 1) (v := .slice ap τ.nodes.length cp) (xs := strs (pathsZ τ)) (by repeat' constructor) (by omega) fun bp bp' e0 mbp _ => ?_
  simp only [Value.slice.injEq, true_and] at e0
  obtain ⟨rfl, rfl⟩ := e0
  refine .sk (.seq (.block (.sr (.q (.indexAddr rfl rfl el_54 (by omega)) rfl (.q (.loadRd (sz := 1) (j := j * 1) (p := slR 9 1 _ τ.nodes.length (strs (pathsZ τ))) (v := vstr τ.nodes[j].1) rfl ag_9 (by repeat' constructor) (fun h hp => slR_rd hp) (by simp) (by simp [strs, pathsZ, hj2])) rfl (.an rfl (.sm rfl (.m rfl (.cv Tryz.func42 [_] (parent_spec τ.nodes[j].1 (by omega)) ?_)))))))))
  refine .cv Tryz.func41 [_, _] (trstat_spec t τ (parentZ τ.nodes[j].1) 256 ho (by decide)) ?_
  refine .m rfl (.u (.extract rfl rfl) (.u (.extract rfl rfl) (.oq (.allocA ze_92) ?_)))
  rintro v L' ⟨b8, rfl, rfl⟩
  refine .oq (.storeA rfl rfl ?c30 sz_92 ?c33 ?c31 (nfz0 _ _)) ?_
  case c30 => intro v hv; simp only [stC, List.mem_cons, List.not_mem_nil, or_false] at hv; rcases hv with rfl | rfl | rfl | rfl | rfl | rfl | rfl | rfl | rfl <;> rfl
  case c33 => rfl
  case c31 => simp [stC]
  rintro v L' rfl
  refine .an rfl (.sm rfl (.u (.not rfl) (.m rfl (.ndec (t := 34) rfl (fun h8_34 => ?_) (fun h8_34 => ?_)))))
  ·refine .kNT (t := 33) rfl h8_34 (.grun (t := 34) rfl rfl rfl (.m rfl (.grun (t := 34) rfl rfl rfl (.u (.strne rfl rfl) (.u (.pickT rfl rfl) (.nt (.condN rfl (fun h37 => ?_) (fun h37 => ?_))))))))
   ·refine .sr (.a rfl (.an rfl (.ret (.blk_r (.then_r (.then_r (.blk_r (.then_r ?_))))))))
    exact .dn rfl rfl (.inl ⟨dec_not hz (fun g => by rcases g _ (List.mem_map_of_mem (List.getElem_mem hj2)) with g1 | g1; exact h37 g1; exact h8_34 g1), rfl, rfl⟩)
   refine .skip (.blk_n (.then_n (.region (.q (.add rfl rfl (by omega)) rfl (.m rfl (.nt ?_))))))
   exact .rk (j + 1) (⟨by omega, fun i hi hij => by by_cases e : i = j; (subst e; exact .inl h37); exact hno i hi (by omega)⟩) (by omega) ⟨rfl, rfl, rfl, rfl, trivial⟩
  refine .kNF (t := 33) rfl h8_34 (.gk (.gk (.u (.pickF rfl rfl) (.nt (.condF rfl (.skip (.blk_n (.then_n (.region (.q (.add rfl rfl (by omega)) rfl (.m rfl (.nt ?_))))))))))))
  exact .rk (j + 1) (⟨by omega, fun i hi hij => by by_cases e : i = j; (subst e; exact .inr h8_34); exact hno i hi (by omega)⟩) (by omega) ⟨rfl, rfl, rfl, rfl, trivial⟩
 refine .exit (.then_e (.then_e (.blk_e (.then_n (.sm rfl (.a rfl (.an rfl (.ret ?_))))))))
 exact .dn rfl rfl (.inr ⟨τ, t, dec_some hz (fun p hp => by obtain ⟨y, hy, rfl⟩ := List.mem_map.1 hp; obtain ⟨i, hi, rfl⟩ := List.mem_iff_getElem.1 hy; exact hno i hi (by omega)), rfl, rfl⟩)
/- not in this seat -/
/- not in this seat -/
theorem strs_at {xs : List Bs} {i : Nat} (hi : i < xs.length) : (strs xs)[i * 1]? = some (vstr xs[i]) := by
 unfold strs; rw [Nat.mul_one, List.getElem?_map, List.getElem?_eq_getElem hi]; rfl
theorem ints_at {xs : List Int} {i : Nat} (hi : i < xs.length) : (ints xs)[i * 1]? = some (vint xs[i]) := by
 unfold ints; rw [Nat.mul_one, List.getElem?_map, List.getElem?_eq_getElem hi]; rfl
theorem texts7_spec (xs ys : List Bs) (va vb : Value) (h1 : xs.length ≤ 4611686018427387904) : Fn Tryz.prog 69 #[va, vb] [slR 9 1 va xs.length (strs xs), slR 9 1 vb ys.length (strs ys)] fun v L => v = .bool (decide (xs = ys)) ∧ L = [slR 9 1 va xs.length (strs xs), slR 9 1 vb ys.length (strs ys)] := by
 refine Fn.intro Tryz.func69 rfl rfl fun F W => ?_
 refine .slAny (v := va) (by repeat' constructor) fun aa ca e0 _ => ?_
 subst e0
 refine .slAny (v := vb) (by repeat' constructor) fun ab cb e0 _ => ?_
 subst e0
 refine .sr (.an rfl (.seq (.sm rfl (.q (.slen rfl Tryz.underlying54 rfl) rfl (.m rfl (.q (.slen rfl Tryz.underlying54 rfl) rfl (.ui rfl rfl rfl (.nt (.condN rfl (fun h10 => ?_) (fun h10 => ?_))))))))))
 ·refine .sr (.an rfl (.rt ?_))
  exact .dn rfl rfl ⟨by rw [decide_eq_false (fun e => h10 (by rw [e]))], rfl⟩
 have hlen : xs.length = ys.length := by omega
 refine .sk (.seq (.sr (.an rfl (.block (.loopK (ι := Nat) (fun q E => (5, vint q) :: E) (fun q => []) (fun q => q ≤ xs.length ∧ xs.take q = ys.take q) (fun q => xs.length - q) (0) (ts := [0, 1]) (.cons rfl (.cons rfl (.nil))) (⟨Nat.zero_le _, rfl⟩) ⟨rfl, rfl, rfl, trivial⟩ (by repeat' constructor) ?_)))))
 rintro i ⟨hi, hpre⟩
 refine .seq (.sm rfl (.m rfl (.q (.slen rfl Tryz.underlying54 rfl) rfl (.ui rfl rfl rfl (.nt (.condD rfl (fun h14 => ?_) (fun h14 => ?_)))))))
 ·have hi2 : i < xs.length := by omega
  have hi3 : i < ys.length := by omega
  refine .slShape (v := .slice aa _ ca) (by repeat' constructor) (by omega) fun ba ba' e0 mba _ => ?_
  simp only [Value.slice.injEq, true_and] at e0
  obtain ⟨rfl, rfl⟩ := e0
  refine .slShape (v := .slice ab _ cb) (by repeat' constructor) (by omega) fun bb bb' e0 mbb _ => ?_
  simp only [Value.slice.injEq, true_and] at e0
  obtain ⟨rfl, rfl⟩ := e0
  refine .sk (.seq (.block (.seq (.draw [] [[0, 1, 2, 3, 4, 5, 6, 7, 8]] mixed (by kernel_rfl) (.g0 (.mv rfl rfl (.mv rfl rfl (.kv rfl (.indexAddr rfl rfl el_54 (by omega)) (.kv rfl (.loadRd (sz := 1) (j := i * 1) (p := slR 9 1 _ xs.length (strs xs)) rfl ag_9 (by repeat' constructor) (fun h hp => slR_rd hp) (by omega) (strs_at (by omega))) (.mv rfl rfl (.mv rfl rfl (.kv rfl (.indexAddr rfl rfl el_54 (by omega)) (.kv rfl (.loadRd (sz := 1) (j := i * 1) (p := slR 9 1 _ ys.length (strs ys)) rfl ag_9 (by repeat' constructor) (fun h hp => slR_rd hp) (by omega) (strs_at (by omega))) (.kv rfl (.strne rfl rfl) (.pf (.condN rfl (fun h25 => ?_) (fun h25 => ?_)))))))))))))))))
  ·refine .sr (.an rfl (.ret (.blk_r (.then_r (.then_r (.blk_r (.then_r ?_)))))))
   exact .dn rfl rfl ⟨by rw [decide_eq_false (fun e => h25 (by simp only [e]))], rfl⟩
  refine .skip (.blk_n (.then_n (.region (.m rfl (.q (.add rfl rfl (by omega)) rfl (.an rfl ?_))))))
  exact .rk (i + 1) (⟨by omega, by rw [List.take_succ_eq_append_getElem hi2, List.take_succ_eq_append_getElem hi3, hpre, h25]⟩) (by omega) ⟨rfl, rfl, rfl, trivial⟩
 refine .exit (.then_e (.then_e (.blk_e (.then_n (.sr (.an rfl (.ret ?_)))))))
 exact .dn rfl rfl ⟨by rw [decide_eq_true (by have hii : i = xs.length := (by omega); rw [hii, List.take_length] at hpre; rw [hlen, List.take_length] at hpre; exact hpre)], rfl⟩
theorem numbers7_spec (xs ys : List Int) (va vb : Value) (h1 : xs.length ≤ 4611686018427387904) : Fn Tryz.prog 74 #[va, vb] [slR 3 1 va xs.length (ints xs), slR 3 1 vb ys.length (ints ys)] fun v L => v = .bool (decide (xs = ys)) ∧ L = [slR 3 1 va xs.length (ints xs), slR 3 1 vb ys.length (ints ys)] := by
 refine Fn.intro Tryz.func74 rfl rfl fun F W => ?_
 refine .slAny (v := va) (by repeat' constructor) fun aa ca e0 _ => ?_
 subst e0
 refine .slAny (v := vb) (by repeat' constructor) fun ab cb e0 _ => ?_
 subst e0
 refine .sr (.an rfl (.seq (.sm rfl (.q (.slen rfl Tryz.underlying45 rfl) rfl (.m rfl (.q (.slen rfl Tryz.underlying45 rfl) rfl (.ui rfl rfl rfl (.nt (.condN rfl (fun h10 => ?_) (fun h10 => ?_))))))))))
 ·refine .sr (.an rfl (.rt ?_))
  exact .dn rfl rfl ⟨by rw [decide_eq_false (fun e => h10 (by rw [e]))], rfl⟩
 have hlen : xs.length = ys.length := by omega
 refine .sk (.seq (.sr (.an rfl (.block (.loopK (ι := Nat) (fun q E => (5, vint q) :: E) (fun q => []) (fun q => q ≤ xs.length ∧ xs.take q = ys.take q) (fun q => xs.length - q) (0) (ts := [0, 1]) (.cons rfl (.cons rfl (.nil))) (⟨Nat.zero_le _, rfl⟩) ⟨rfl, rfl, rfl, trivial⟩ (by repeat' constructor) ?_)))))
 rintro i ⟨hi, hpre⟩
 refine .seq (.sm rfl (.m rfl (.q (.slen rfl Tryz.underlying45 rfl) rfl (.ui rfl rfl rfl (.nt (.condD rfl (fun h14 => ?_) (fun h14 => ?_)))))))
 ·have hi2 : i < xs.length := by omega
  have hi3 : i < ys.length := by omega
  refine .slShape (v := .slice aa _ ca) (by repeat' constructor) (by omega) fun ba ba' e0 mba _ => ?_
  simp only [Value.slice.injEq, true_and] at e0
  obtain ⟨rfl, rfl⟩ := e0
  refine .slShape (v := .slice ab _ cb) (by repeat' constructor) (by omega) fun bb bb' e0 mbb _ => ?_
  simp only [Value.slice.injEq, true_and] at e0
  obtain ⟨rfl, rfl⟩ := e0
  refine .sk (.seq (.block (.seq (.draw [] [[0, 1, 2, 3, 4, 5, 6, 7, 8]] mixed (by kernel_rfl) (.g0 (.mv rfl rfl (.mv rfl rfl (.kv rfl (.indexAddr rfl rfl el_45 (by omega)) (.kv rfl (.loadRd (sz := 1) (j := i * 1) (p := slR 3 1 _ xs.length (ints xs)) rfl ag_3 (by repeat' constructor) (fun h hp => slR_rd hp) (by omega) (ints_at (by omega))) (.mv rfl rfl (.mv rfl rfl (.kv rfl (.indexAddr rfl rfl el_45 (by omega)) (.kv rfl (.loadRd (sz := 1) (j := i * 1) (p := slR 3 1 _ ys.length (ints ys)) rfl ag_3 (by repeat' constructor) (fun h hp => slR_rd hp) (by omega) (ints_at (by omega))) (.kv rfl (.int rfl rfl rfl) (.pf (.condN rfl (fun h25 => ?_) (fun h25 => ?_)))))))))))))))))
  ·refine .sr (.an rfl (.ret (.blk_r (.then_r (.then_r (.blk_r (.then_r ?_)))))))
   exact .dn rfl rfl ⟨by rw [decide_eq_false (fun e => h25 (by simp only [e]))], rfl⟩
  refine .skip (.blk_n (.then_n (.region (.m rfl (.q (.add rfl rfl (by omega)) rfl (.an rfl ?_))))))
  exact .rk (i + 1) (⟨by omega, by rw [List.take_succ_eq_append_getElem hi2, List.take_succ_eq_append_getElem hi3, hpre, h25]⟩) (by omega) ⟨rfl, rfl, rfl, trivial⟩
 refine .exit (.then_e (.then_e (.blk_e (.then_n (.sr (.an rfl (.ret ?_)))))))
 exact .dn rfl rfl ⟨by rw [decide_eq_true (by have hii : i = xs.length := (by omega); rw [hii, List.take_length] at hpre; rw [hlen, List.take_length] at hpre; exact hpre)], rfl⟩
def segsZ : Bs → List Bs
 | [] => []
 | _ :: r => splitZ r
def okZ (s : Bs) : Bool := decide (s.head? = some 47) && (segsZ s).all isNameZ
theorem seg_step {r : Bs} {k : Nat} (hk : k ≤ r.length) (h1 : ∀ j, j < k → r.getD j 0 ≠ 47) (h2 : k = r.length ∨ r.getD k 0 = 47) : splitZ r = r.take k :: segsZ (r.drop k) := by
 have hno : (47 : UInt8) ∉ r.take k := fun hm => by
  obtain ⟨i, hi, e⟩ := List.mem_iff_getElem.1 hm
  rw [List.length_take] at hi
  rw [List.getElem_take] at e
  refine h1 i (by omega) ?_
  rw [List.getD_eq_getElem?_getD, List.getElem?_eq_getElem (by omega), Option.getD_some]; exact e
 rcases Nat.lt_or_ge k r.length with hlt | hge
 ·have h3 : r[k] = 47 := by
   rcases h2 with h2 | h2
   ·omega
   ·rw [List.getD_eq_getElem?_getD, List.getElem?_eq_getElem hlt, Option.getD_some] at h2; exact h2
  have e : r = r.take k ++ 47 :: r.drop (k + 1) := by
   have := (List.take_append_drop k r).symm
   rw [List.drop_eq_getElem_cons hlt, h3] at this; exact this
  have e2 : r.drop k = 47 :: r.drop (k + 1) := by rw [List.drop_eq_getElem_cons hlt, h3]
  rw [e2]
  conv => lhs; rw [e]
  exact split_at hno
 ·have : k = r.length := by omega
  subst this
  rw [List.take_length] at hno ⊢
  rw [List.drop_length, split_none hno]; rfl
theorem check_ok {p : Bs} (h1 : p ≠ [47]) : checkZ p = if okZ p = true then (if p.length > 60 ∨ (segsZ p).length > 6 then 41 else 0) else 40 := by
 unfold checkZ
 rw [if_neg h1]
 cases p with
 | nil => decide
 | cons c r =>
  by_cases hc : c = 47
  ·subst hc
   have e : splitZ (47 :: r) = [] :: splitZ r := by rw [split_cons, if_pos rfl]
   have hne := splitZ_ne r
   rw [e]
   unfold okZ
   rw [show segsZ (47 :: r) = splitZ r from rfl]
   by_cases ha : (splitZ r).all isNameZ = true
   ·rw [if_neg, ha, if_pos (show (decide ((47 :: r).head? = some 47) && true) = true from by simp)]
    ·have e7 : ([] :: splitZ r).length = (splitZ r).length + 1 := rfl
     by_cases h60 : (47 :: r).length > 60 ∨ (splitZ r).length > 6
     ·rw [if_pos h60, if_pos (by rw [e7]; omega)]
     ·rw [if_neg h60, if_neg (by rw [e7]; omega)]
    ·simp only [List.head?_cons, List.tail_cons, List.length_cons]
     rintro (g | g | g)
     ·exact g rfl
     ·exact hne (List.eq_nil_of_length_eq_zero (by omega))
     ·rw [ha] at g; cases g
   ·rw [if_pos (.inr (.inr (by rw [List.tail_cons]; simpa using ha))), if_neg]
    simp; simpa using ha
  ·rw [if_pos, if_neg]
   ·unfold okZ; simp [hc]
   ·left
    rw [split_cons, if_neg hc]
    rcases e : splitZ r with _ | ⟨h, t⟩ <;> simp
theorem rletter_spec (c : UInt8) : Fn Tryz.prog 171 #[vbyte c] [] fun v L => v = .bool (letterB c) ∧ L = [] := by
 refine Fn.intro Tryz.func171 rfl rfl fun F W => ?_
 refine .sr (.an rfl (.sm rfl (.ui rfl rfl rfl (.m rfl (.dec (t := 5) rfl (fun h1_5 => ?_) (fun h1_5 => ?_))))))
 ·refine .kDT (t := 4) rfl h1_5 (.grun (t := 5) rfl rfl rfl (.m rfl (.grun (t := 5) rfl rfl rfl (.ui rfl rfl rfl (.u (.pickT rfl rfl) (.m rfl (.dec (t := 9) rfl (fun h1_9 => ?_) (fun h1_9 => ?_))))))))
  ·refine .kDT (t := 7) rfl h1_9 (.kDT (t := 8) rfl h1_9 (.gk (.gk (.gk (.gskipU (t := 12) rfl rfl rfl (.gskipU (t := 12) rfl rfl rfl (.gk (.u (.pickT rfl rfl) (.m rfl (.gk (.gk (.gk (.gskipU (t := 20) rfl rfl rfl (.gskipU (t := 20) rfl rfl rfl (.gk (.u (.pickT rfl rfl) (.m rfl (.gk (.gk (.u (.pickT rfl rfl) (.m rfl (.gk (.gk (.u (.pickT rfl rfl) (.m rfl (.gk (.gk (.u (.pickT rfl rfl) (.an rfl (.ret ?_))))))))))))))))))))))))))))))
   exact .dn rfl rfl ⟨by first | (rw [letter_of (by omega)]; done) | (rcases Decidable.em ((c.toNat : Int) = 46) with hd | hd; (rw [decide_eq_true hd, letter_of (by omega)]); (rw [decide_eq_false hd, letter_not (by omega)])), rfl⟩
  refine .kDF (t := 7) rfl h1_9 (.kDF (t := 8) rfl h1_9 (.grun (t := 9) rfl rfl rfl (.m rfl (.grun (t := 9) rfl rfl rfl (.ui rfl rfl rfl (.grun (t := 9) rfl rfl rfl (.m rfl (.dec (t := 12) rfl (fun h1_12 => ?_) (fun h1_12 => ?_)))))))))
  ·refine .kDT (t := 11) rfl h1_12 (.grun (t := 12) rfl rfl rfl (.m rfl (.grun (t := 12) rfl rfl rfl (.ui rfl rfl rfl (.grun (t := 9) rfl rfl rfl (.u (.pickT rfl rfl) (.u (.pickF rfl rfl) (.m rfl (.dec (t := 17) rfl (fun h1_17 => ?_) (fun h1_17 => ?_))))))))))
   ·refine .kDT (t := 14) rfl h1_17 (.kDT (t := 15) rfl h1_17 (.kDT (t := 16) rfl h1_17 (.gk (.gk (.gk (.gskipU (t := 20) rfl rfl rfl (.gskipU (t := 20) rfl rfl rfl (.gk (.u (.pickT rfl rfl) (.m rfl (.gk (.gk (.u (.pickT rfl rfl) (.m rfl (.gk (.gk (.u (.pickT rfl rfl) (.m rfl (.gk (.gk (.u (.pickT rfl rfl) (.an rfl (.ret ?_)))))))))))))))))))))))
    exact .dn rfl rfl ⟨by first | (rw [letter_of (by omega)]; done) | (rcases Decidable.em ((c.toNat : Int) = 46) with hd | hd; (rw [decide_eq_true hd, letter_of (by omega)]); (rw [decide_eq_false hd, letter_not (by omega)])), rfl⟩
   refine .kDF (t := 14) rfl h1_17 (.kDF (t := 15) rfl h1_17 (.kDF (t := 16) rfl h1_17 (.grun (t := 17) rfl rfl rfl (.m rfl (.grun (t := 17) rfl rfl rfl (.ui rfl rfl rfl (.grun (t := 17) rfl rfl rfl (.m rfl (.dec (t := 20) rfl (fun h1_20 => ?_) (fun h1_20 => ?_))))))))))
   ·refine .kDT (t := 19) rfl h1_20 (.grun (t := 20) rfl rfl rfl (.m rfl (.grun (t := 20) rfl rfl rfl (.ui rfl rfl rfl (.grun (t := 17) rfl rfl rfl (.u (.pickT rfl rfl) (.u (.pickF rfl rfl) (.m rfl (.dec (t := 25) rfl (fun h1_25 => ?_) (fun h1_25 => ?_))))))))))
    ·refine .kDT (t := 22) rfl h1_25 (.kDT (t := 23) rfl h1_25 (.kDT (t := 24) rfl h1_25 (.gk (.gk (.u (.pickT rfl rfl) (.m rfl (.gk (.gk (.u (.pickT rfl rfl) (.m rfl (.gk (.gk (.u (.pickT rfl rfl) (.an rfl (.ret ?_)))))))))))))))
     exact .dn rfl rfl ⟨by first | (rw [letter_of (by omega)]; done) | (rcases Decidable.em ((c.toNat : Int) = 46) with hd | hd; (rw [decide_eq_true hd, letter_of (by omega)]); (rw [decide_eq_false hd, letter_not (by omega)])), rfl⟩
    refine .kDF (t := 22) rfl h1_25 (.kDF (t := 23) rfl h1_25 (.kDF (t := 24) rfl h1_25 (.grun (t := 25) rfl rfl rfl (.m rfl (.grun (t := 25) rfl rfl rfl (.ui rfl rfl rfl (.u (.pickF rfl rfl) (.m rfl (.dec (t := 29) rfl (fun h1_29 => ?_) (fun h1_29 => ?_))))))))))
    ·refine .kDT (t := 27) rfl h1_29 (.kDT (t := 28) rfl h1_29 (.gk (.gk (.u (.pickT rfl rfl) (.m rfl (.gk (.gk (.u (.pickT rfl rfl) (.an rfl (.ret ?_))))))))))
     exact .dn rfl rfl ⟨by first | (rw [letter_of (by omega)]; done) | (rcases Decidable.em ((c.toNat : Int) = 46) with hd | hd; (rw [decide_eq_true hd, letter_of (by omega)]); (rw [decide_eq_false hd, letter_not (by omega)])), rfl⟩
    refine .kDF (t := 27) rfl h1_29 (.kDF (t := 28) rfl h1_29 (.grun (t := 29) rfl rfl rfl (.m rfl (.grun (t := 29) rfl rfl rfl (.ui rfl rfl rfl (.u (.pickF rfl rfl) (.m rfl (.dec (t := 33) rfl (fun h1_33 => ?_) (fun h1_33 => ?_)))))))))
    ·refine .kDT (t := 31) rfl h1_33 (.kDT (t := 32) rfl h1_33 (.gk (.gk (.u (.pickT rfl rfl) (.an rfl (.ret ?_))))))
     exact .dn rfl rfl ⟨by first | (rw [letter_of (by omega)]; done) | (rcases Decidable.em ((c.toNat : Int) = 46) with hd | hd; (rw [decide_eq_true hd, letter_of (by omega)]); (rw [decide_eq_false hd, letter_not (by omega)])), rfl⟩
    refine .kDF (t := 31) rfl h1_33 (.kDF (t := 32) rfl h1_33 (.grun (t := 33) rfl rfl rfl (.m rfl (.grun (t := 33) rfl rfl rfl (.ui rfl rfl rfl (.u (.pickF rfl rfl) (.an rfl (.ret ?_))))))))
    exact .dn rfl rfl ⟨by first | (rw [letter_of (by omega)]; done) | (rcases Decidable.em ((c.toNat : Int) = 46) with hd | hd; (rw [decide_eq_true hd, letter_of (by omega)]); (rw [decide_eq_false hd, letter_not (by omega)])), rfl⟩
   refine .kDF (t := 19) rfl h1_20 (.gk (.gk (.grun (t := 17) rfl rfl rfl (.u (.pickF rfl rfl) (.u (.pickF rfl rfl) (.m rfl (.grun (t := 25) rfl rfl rfl (.m rfl (.grun (t := 25) rfl rfl rfl (.ui rfl rfl rfl (.u (.pickF rfl rfl) (.m rfl (.dec (t := 29) rfl (fun h1_29 => ?_) (fun h1_29 => ?_))))))))))))))
   ·refine .kDT (t := 27) rfl h1_29 (.kDT (t := 28) rfl h1_29 (.gk (.gk (.u (.pickT rfl rfl) (.m rfl (.gk (.gk (.u (.pickT rfl rfl) (.an rfl (.ret ?_))))))))))
    exact .dn rfl rfl ⟨by first | (rw [letter_of (by omega)]; done) | (rcases Decidable.em ((c.toNat : Int) = 46) with hd | hd; (rw [decide_eq_true hd, letter_of (by omega)]); (rw [decide_eq_false hd, letter_not (by omega)])), rfl⟩
   refine .kDF (t := 27) rfl h1_29 (.kDF (t := 28) rfl h1_29 (.grun (t := 29) rfl rfl rfl (.m rfl (.grun (t := 29) rfl rfl rfl (.ui rfl rfl rfl (.u (.pickF rfl rfl) (.m rfl (.dec (t := 33) rfl (fun h1_33 => ?_) (fun h1_33 => ?_)))))))))
   ·refine .kDT (t := 31) rfl h1_33 (.kDT (t := 32) rfl h1_33 (.gk (.gk (.u (.pickT rfl rfl) (.an rfl (.ret ?_))))))
    exact .dn rfl rfl ⟨by first | (rw [letter_of (by omega)]; done) | (rcases Decidable.em ((c.toNat : Int) = 46) with hd | hd; (rw [decide_eq_true hd, letter_of (by omega)]); (rw [decide_eq_false hd, letter_not (by omega)])), rfl⟩
   refine .kDF (t := 31) rfl h1_33 (.kDF (t := 32) rfl h1_33 (.grun (t := 33) rfl rfl rfl (.m rfl (.grun (t := 33) rfl rfl rfl (.ui rfl rfl rfl (.u (.pickF rfl rfl) (.an rfl (.ret ?_))))))))
   exact .dn rfl rfl ⟨by first | (rw [letter_of (by omega)]; done) | (rcases Decidable.em ((c.toNat : Int) = 46) with hd | hd; (rw [decide_eq_true hd, letter_of (by omega)]); (rw [decide_eq_false hd, letter_not (by omega)])), rfl⟩
  refine .kDF (t := 11) rfl h1_12 (.gk (.gk (.grun (t := 9) rfl rfl rfl (.u (.pickF rfl rfl) (.u (.pickF rfl rfl) (.m rfl (.grun (t := 17) rfl rfl rfl (.m rfl (.grun (t := 17) rfl rfl rfl (.ui rfl rfl rfl (.grun (t := 17) rfl rfl rfl (.m rfl (.dec (t := 20) rfl (fun h1_20 => ?_) (fun h1_20 => ?_))))))))))))))
  ·refine .kDT (t := 19) rfl h1_20 (.grun (t := 20) rfl rfl rfl (.m rfl (.grun (t := 20) rfl rfl rfl (.ui rfl rfl rfl (.grun (t := 17) rfl rfl rfl (.u (.pickT rfl rfl) (.u (.pickF rfl rfl) (.m rfl (.dec (t := 25) rfl (fun h1_25 => ?_) (fun h1_25 => ?_))))))))))
   ·refine .kDT (t := 22) rfl h1_25 (.kDT (t := 23) rfl h1_25 (.kDT (t := 24) rfl h1_25 (.gk (.gk (.u (.pickT rfl rfl) (.m rfl (.gk (.gk (.u (.pickT rfl rfl) (.m rfl (.gk (.gk (.u (.pickT rfl rfl) (.an rfl (.ret ?_)))))))))))))))
    exact .dn rfl rfl ⟨by first | (rw [letter_of (by omega)]; done) | (rcases Decidable.em ((c.toNat : Int) = 46) with hd | hd; (rw [decide_eq_true hd, letter_of (by omega)]); (rw [decide_eq_false hd, letter_not (by omega)])), rfl⟩
   refine .kDF (t := 22) rfl h1_25 (.kDF (t := 23) rfl h1_25 (.kDF (t := 24) rfl h1_25 (.grun (t := 25) rfl rfl rfl (.m rfl (.grun (t := 25) rfl rfl rfl (.ui rfl rfl rfl (.u (.pickF rfl rfl) (.m rfl (.dec (t := 29) rfl (fun h1_29 => ?_) (fun h1_29 => ?_))))))))))
   ·refine .kDT (t := 27) rfl h1_29 (.kDT (t := 28) rfl h1_29 (.gk (.gk (.u (.pickT rfl rfl) (.m rfl (.gk (.gk (.u (.pickT rfl rfl) (.an rfl (.ret ?_))))))))))
    exact .dn rfl rfl ⟨by first | (rw [letter_of (by omega)]; done) | (rcases Decidable.em ((c.toNat : Int) = 46) with hd | hd; (rw [decide_eq_true hd, letter_of (by omega)]); (rw [decide_eq_false hd, letter_not (by omega)])), rfl⟩
   refine .kDF (t := 27) rfl h1_29 (.kDF (t := 28) rfl h1_29 (.grun (t := 29) rfl rfl rfl (.m rfl (.grun (t := 29) rfl rfl rfl (.ui rfl rfl rfl (.u (.pickF rfl rfl) (.m rfl (.dec (t := 33) rfl (fun h1_33 => ?_) (fun h1_33 => ?_)))))))))
   ·refine .kDT (t := 31) rfl h1_33 (.kDT (t := 32) rfl h1_33 (.gk (.gk (.u (.pickT rfl rfl) (.an rfl (.ret ?_))))))
    exact .dn rfl rfl ⟨by first | (rw [letter_of (by omega)]; done) | (rcases Decidable.em ((c.toNat : Int) = 46) with hd | hd; (rw [decide_eq_true hd, letter_of (by omega)]); (rw [decide_eq_false hd, letter_not (by omega)])), rfl⟩
   refine .kDF (t := 31) rfl h1_33 (.kDF (t := 32) rfl h1_33 (.grun (t := 33) rfl rfl rfl (.m rfl (.grun (t := 33) rfl rfl rfl (.ui rfl rfl rfl (.u (.pickF rfl rfl) (.an rfl (.ret ?_))))))))
   exact .dn rfl rfl ⟨by first | (rw [letter_of (by omega)]; done) | (rcases Decidable.em ((c.toNat : Int) = 46) with hd | hd; (rw [decide_eq_true hd, letter_of (by omega)]); (rw [decide_eq_false hd, letter_not (by omega)])), rfl⟩
  refine .kDF (t := 19) rfl h1_20 (.gk (.gk (.grun (t := 17) rfl rfl rfl (.u (.pickF rfl rfl) (.u (.pickF rfl rfl) (.m rfl (.grun (t := 25) rfl rfl rfl (.m rfl (.grun (t := 25) rfl rfl rfl (.ui rfl rfl rfl (.u (.pickF rfl rfl) (.m rfl (.dec (t := 29) rfl (fun h1_29 => ?_) (fun h1_29 => ?_))))))))))))))
  ·refine .kDT (t := 27) rfl h1_29 (.kDT (t := 28) rfl h1_29 (.gk (.gk (.u (.pickT rfl rfl) (.m rfl (.gk (.gk (.u (.pickT rfl rfl) (.an rfl (.ret ?_))))))))))
   exact .dn rfl rfl ⟨by first | (rw [letter_of (by omega)]; done) | (rcases Decidable.em ((c.toNat : Int) = 46) with hd | hd; (rw [decide_eq_true hd, letter_of (by omega)]); (rw [decide_eq_false hd, letter_not (by omega)])), rfl⟩
  refine .kDF (t := 27) rfl h1_29 (.kDF (t := 28) rfl h1_29 (.grun (t := 29) rfl rfl rfl (.m rfl (.grun (t := 29) rfl rfl rfl (.ui rfl rfl rfl (.u (.pickF rfl rfl) (.m rfl (.dec (t := 33) rfl (fun h1_33 => ?_) (fun h1_33 => ?_)))))))))
  ·refine .kDT (t := 31) rfl h1_33 (.kDT (t := 32) rfl h1_33 (.gk (.gk (.u (.pickT rfl rfl) (.an rfl (.ret ?_))))))
   exact .dn rfl rfl ⟨by first | (rw [letter_of (by omega)]; done) | (rcases Decidable.em ((c.toNat : Int) = 46) with hd | hd; (rw [decide_eq_true hd, letter_of (by omega)]); (rw [decide_eq_false hd, letter_not (by omega)])), rfl⟩
  refine .kDF (t := 31) rfl h1_33 (.kDF (t := 32) rfl h1_33 (.grun (t := 33) rfl rfl rfl (.m rfl (.grun (t := 33) rfl rfl rfl (.ui rfl rfl rfl (.u (.pickF rfl rfl) (.an rfl (.ret ?_))))))))
  exact .dn rfl rfl ⟨by first | (rw [letter_of (by omega)]; done) | (rcases Decidable.em ((c.toNat : Int) = 46) with hd | hd; (rw [decide_eq_true hd, letter_of (by omega)]); (rw [decide_eq_false hd, letter_not (by omega)])), rfl⟩
 refine .kDF (t := 4) rfl h1_5 (.gk (.gk (.u (.pickF rfl rfl) (.m rfl (.grun (t := 9) rfl rfl rfl (.m rfl (.grun (t := 9) rfl rfl rfl (.ui rfl rfl rfl (.grun (t := 9) rfl rfl rfl (.m rfl (.dec (t := 12) rfl (fun h1_12 => ?_) (fun h1_12 => ?_))))))))))))
 ·refine .kDT (t := 11) rfl h1_12 (.grun (t := 12) rfl rfl rfl (.m rfl (.grun (t := 12) rfl rfl rfl (.ui rfl rfl rfl (.grun (t := 9) rfl rfl rfl (.u (.pickT rfl rfl) (.u (.pickF rfl rfl) (.m rfl (.dec (t := 17) rfl (fun h1_17 => ?_) (fun h1_17 => ?_))))))))))
  ·refine .kDT (t := 14) rfl h1_17 (.kDT (t := 15) rfl h1_17 (.kDT (t := 16) rfl h1_17 (.gk (.gk (.gk (.gskipU (t := 20) rfl rfl rfl (.gskipU (t := 20) rfl rfl rfl (.gk (.u (.pickT rfl rfl) (.m rfl (.gk (.gk (.u (.pickT rfl rfl) (.m rfl (.gk (.gk (.u (.pickT rfl rfl) (.m rfl (.gk (.gk (.u (.pickT rfl rfl) (.an rfl (.ret ?_)))))))))))))))))))))))
   exact .dn rfl rfl ⟨by first | (rw [letter_of (by omega)]; done) | (rcases Decidable.em ((c.toNat : Int) = 46) with hd | hd; (rw [decide_eq_true hd, letter_of (by omega)]); (rw [decide_eq_false hd, letter_not (by omega)])), rfl⟩
  refine .kDF (t := 14) rfl h1_17 (.kDF (t := 15) rfl h1_17 (.kDF (t := 16) rfl h1_17 (.grun (t := 17) rfl rfl rfl (.m rfl (.grun (t := 17) rfl rfl rfl (.ui rfl rfl rfl (.grun (t := 17) rfl rfl rfl (.m rfl (.dec (t := 20) rfl (fun h1_20 => ?_) (fun h1_20 => ?_))))))))))
  ·refine .kDT (t := 19) rfl h1_20 (.grun (t := 20) rfl rfl rfl (.m rfl (.grun (t := 20) rfl rfl rfl (.ui rfl rfl rfl (.grun (t := 17) rfl rfl rfl (.u (.pickT rfl rfl) (.u (.pickF rfl rfl) (.m rfl (.dec (t := 25) rfl (fun h1_25 => ?_) (fun h1_25 => ?_))))))))))
   ·refine .kDT (t := 22) rfl h1_25 (.kDT (t := 23) rfl h1_25 (.kDT (t := 24) rfl h1_25 (.gk (.gk (.u (.pickT rfl rfl) (.m rfl (.gk (.gk (.u (.pickT rfl rfl) (.m rfl (.gk (.gk (.u (.pickT rfl rfl) (.an rfl (.ret ?_)))))))))))))))
    exact .dn rfl rfl ⟨by first | (rw [letter_of (by omega)]; done) | (rcases Decidable.em ((c.toNat : Int) = 46) with hd | hd; (rw [decide_eq_true hd, letter_of (by omega)]); (rw [decide_eq_false hd, letter_not (by omega)])), rfl⟩
   refine .kDF (t := 22) rfl h1_25 (.kDF (t := 23) rfl h1_25 (.kDF (t := 24) rfl h1_25 (.grun (t := 25) rfl rfl rfl (.m rfl (.grun (t := 25) rfl rfl rfl (.ui rfl rfl rfl (.u (.pickF rfl rfl) (.m rfl (.dec (t := 29) rfl (fun h1_29 => ?_) (fun h1_29 => ?_))))))))))
   ·refine .kDT (t := 27) rfl h1_29 (.kDT (t := 28) rfl h1_29 (.gk (.gk (.u (.pickT rfl rfl) (.m rfl (.gk (.gk (.u (.pickT rfl rfl) (.an rfl (.ret ?_))))))))))
    exact .dn rfl rfl ⟨by first | (rw [letter_of (by omega)]; done) | (rcases Decidable.em ((c.toNat : Int) = 46) with hd | hd; (rw [decide_eq_true hd, letter_of (by omega)]); (rw [decide_eq_false hd, letter_not (by omega)])), rfl⟩
   refine .kDF (t := 27) rfl h1_29 (.kDF (t := 28) rfl h1_29 (.grun (t := 29) rfl rfl rfl (.m rfl (.grun (t := 29) rfl rfl rfl (.ui rfl rfl rfl (.u (.pickF rfl rfl) (.m rfl (.dec (t := 33) rfl (fun h1_33 => ?_) (fun h1_33 => ?_)))))))))
   ·refine .kDT (t := 31) rfl h1_33 (.kDT (t := 32) rfl h1_33 (.gk (.gk (.u (.pickT rfl rfl) (.an rfl (.ret ?_))))))
    exact .dn rfl rfl ⟨by first | (rw [letter_of (by omega)]; done) | (rcases Decidable.em ((c.toNat : Int) = 46) with hd | hd; (rw [decide_eq_true hd, letter_of (by omega)]); (rw [decide_eq_false hd, letter_not (by omega)])), rfl⟩
   refine .kDF (t := 31) rfl h1_33 (.kDF (t := 32) rfl h1_33 (.grun (t := 33) rfl rfl rfl (.m rfl (.grun (t := 33) rfl rfl rfl (.ui rfl rfl rfl (.u (.pickF rfl rfl) (.an rfl (.ret ?_))))))))
   exact .dn rfl rfl ⟨by first | (rw [letter_of (by omega)]; done) | (rcases Decidable.em ((c.toNat : Int) = 46) with hd | hd; (rw [decide_eq_true hd, letter_of (by omega)]); (rw [decide_eq_false hd, letter_not (by omega)])), rfl⟩
  refine .kDF (t := 19) rfl h1_20 (.gk (.gk (.grun (t := 17) rfl rfl rfl (.u (.pickF rfl rfl) (.u (.pickF rfl rfl) (.m rfl (.grun (t := 25) rfl rfl rfl (.m rfl (.grun (t := 25) rfl rfl rfl (.ui rfl rfl rfl (.u (.pickF rfl rfl) (.m rfl (.dec (t := 29) rfl (fun h1_29 => ?_) (fun h1_29 => ?_))))))))))))))
  ·refine .kDT (t := 27) rfl h1_29 (.kDT (t := 28) rfl h1_29 (.gk (.gk (.u (.pickT rfl rfl) (.m rfl (.gk (.gk (.u (.pickT rfl rfl) (.an rfl (.ret ?_))))))))))
   exact .dn rfl rfl ⟨by first | (rw [letter_of (by omega)]; done) | (rcases Decidable.em ((c.toNat : Int) = 46) with hd | hd; (rw [decide_eq_true hd, letter_of (by omega)]); (rw [decide_eq_false hd, letter_not (by omega)])), rfl⟩
  refine .kDF (t := 27) rfl h1_29 (.kDF (t := 28) rfl h1_29 (.grun (t := 29) rfl rfl rfl (.m rfl (.grun (t := 29) rfl rfl rfl (.ui rfl rfl rfl (.u (.pickF rfl rfl) (.m rfl (.dec (t := 33) rfl (fun h1_33 => ?_) (fun h1_33 => ?_)))))))))
  ·refine .kDT (t := 31) rfl h1_33 (.kDT (t := 32) rfl h1_33 (.gk (.gk (.u (.pickT rfl rfl) (.an rfl (.ret ?_))))))
   exact .dn rfl rfl ⟨by first | (rw [letter_of (by omega)]; done) | (rcases Decidable.em ((c.toNat : Int) = 46) with hd | hd; (rw [decide_eq_true hd, letter_of (by omega)]); (rw [decide_eq_false hd, letter_not (by omega)])), rfl⟩
  refine .kDF (t := 31) rfl h1_33 (.kDF (t := 32) rfl h1_33 (.grun (t := 33) rfl rfl rfl (.m rfl (.grun (t := 33) rfl rfl rfl (.ui rfl rfl rfl (.u (.pickF rfl rfl) (.an rfl (.ret ?_))))))))
  exact .dn rfl rfl ⟨by first | (rw [letter_of (by omega)]; done) | (rcases Decidable.em ((c.toNat : Int) = 46) with hd | hd; (rw [decide_eq_true hd, letter_of (by omega)]); (rw [decide_eq_false hd, letter_not (by omega)])), rfl⟩
 refine .kDF (t := 11) rfl h1_12 (.gk (.gk (.grun (t := 9) rfl rfl rfl (.u (.pickF rfl rfl) (.u (.pickF rfl rfl) (.m rfl (.grun (t := 17) rfl rfl rfl (.m rfl (.grun (t := 17) rfl rfl rfl (.ui rfl rfl rfl (.grun (t := 17) rfl rfl rfl (.m rfl (.dec (t := 20) rfl (fun h1_20 => ?_) (fun h1_20 => ?_))))))))))))))
 ·refine .kDT (t := 19) rfl h1_20 (.grun (t := 20) rfl rfl rfl (.m rfl (.grun (t := 20) rfl rfl rfl (.ui rfl rfl rfl (.grun (t := 17) rfl rfl rfl (.u (.pickT rfl rfl) (.u (.pickF rfl rfl) (.m rfl (.dec (t := 25) rfl (fun h1_25 => ?_) (fun h1_25 => ?_))))))))))
  ·refine .kDT (t := 22) rfl h1_25 (.kDT (t := 23) rfl h1_25 (.kDT (t := 24) rfl h1_25 (.gk (.gk (.u (.pickT rfl rfl) (.m rfl (.gk (.gk (.u (.pickT rfl rfl) (.m rfl (.gk (.gk (.u (.pickT rfl rfl) (.an rfl (.ret ?_)))))))))))))))
   exact .dn rfl rfl ⟨by first | (rw [letter_of (by omega)]; done) | (rcases Decidable.em ((c.toNat : Int) = 46) with hd | hd; (rw [decide_eq_true hd, letter_of (by omega)]); (rw [decide_eq_false hd, letter_not (by omega)])), rfl⟩
  refine .kDF (t := 22) rfl h1_25 (.kDF (t := 23) rfl h1_25 (.kDF (t := 24) rfl h1_25 (.grun (t := 25) rfl rfl rfl (.m rfl (.grun (t := 25) rfl rfl rfl (.ui rfl rfl rfl (.u (.pickF rfl rfl) (.m rfl (.dec (t := 29) rfl (fun h1_29 => ?_) (fun h1_29 => ?_))))))))))
  ·refine .kDT (t := 27) rfl h1_29 (.kDT (t := 28) rfl h1_29 (.gk (.gk (.u (.pickT rfl rfl) (.m rfl (.gk (.gk (.u (.pickT rfl rfl) (.an rfl (.ret ?_))))))))))
   exact .dn rfl rfl ⟨by first | (rw [letter_of (by omega)]; done) | (rcases Decidable.em ((c.toNat : Int) = 46) with hd | hd; (rw [decide_eq_true hd, letter_of (by omega)]); (rw [decide_eq_false hd, letter_not (by omega)])), rfl⟩
  refine .kDF (t := 27) rfl h1_29 (.kDF (t := 28) rfl h1_29 (.grun (t := 29) rfl rfl rfl (.m rfl (.grun (t := 29) rfl rfl rfl (.ui rfl rfl rfl (.u (.pickF rfl rfl) (.m rfl (.dec (t := 33) rfl (fun h1_33 => ?_) (fun h1_33 => ?_)))))))))
  ·refine .kDT (t := 31) rfl h1_33 (.kDT (t := 32) rfl h1_33 (.gk (.gk (.u (.pickT rfl rfl) (.an rfl (.ret ?_))))))
   exact .dn rfl rfl ⟨by first | (rw [letter_of (by omega)]; done) | (rcases Decidable.em ((c.toNat : Int) = 46) with hd | hd; (rw [decide_eq_true hd, letter_of (by omega)]); (rw [decide_eq_false hd, letter_not (by omega)])), rfl⟩
  refine .kDF (t := 31) rfl h1_33 (.kDF (t := 32) rfl h1_33 (.grun (t := 33) rfl rfl rfl (.m rfl (.grun (t := 33) rfl rfl rfl (.ui rfl rfl rfl (.u (.pickF rfl rfl) (.an rfl (.ret ?_))))))))
  exact .dn rfl rfl ⟨by first | (rw [letter_of (by omega)]; done) | (rcases Decidable.em ((c.toNat : Int) = 46) with hd | hd; (rw [decide_eq_true hd, letter_of (by omega)]); (rw [decide_eq_false hd, letter_not (by omega)])), rfl⟩
 refine .kDF (t := 19) rfl h1_20 (.gk (.gk (.grun (t := 17) rfl rfl rfl (.u (.pickF rfl rfl) (.u (.pickF rfl rfl) (.m rfl (.grun (t := 25) rfl rfl rfl (.m rfl (.grun (t := 25) rfl rfl rfl (.ui rfl rfl rfl (.u (.pickF rfl rfl) (.m rfl (.dec (t := 29) rfl (fun h1_29 => ?_) (fun h1_29 => ?_))))))))))))))
 ·refine .kDT (t := 27) rfl h1_29 (.kDT (t := 28) rfl h1_29 (.gk (.gk (.u (.pickT rfl rfl) (.m rfl (.gk (.gk (.u (.pickT rfl rfl) (.an rfl (.ret ?_))))))))))
  exact .dn rfl rfl ⟨by first | (rw [letter_of (by omega)]; done) | (rcases Decidable.em ((c.toNat : Int) = 46) with hd | hd; (rw [decide_eq_true hd, letter_of (by omega)]); (rw [decide_eq_false hd, letter_not (by omega)])), rfl⟩
 refine .kDF (t := 27) rfl h1_29 (.kDF (t := 28) rfl h1_29 (.grun (t := 29) rfl rfl rfl (.m rfl (.grun (t := 29) rfl rfl rfl (.ui rfl rfl rfl (.u (.pickF rfl rfl) (.m rfl (.dec (t := 33) rfl (fun h1_33 => ?_) (fun h1_33 => ?_)))))))))
 ·refine .kDT (t := 31) rfl h1_33 (.kDT (t := 32) rfl h1_33 (.gk (.gk (.u (.pickT rfl rfl) (.an rfl (.ret ?_))))))
  exact .dn rfl rfl ⟨by first | (rw [letter_of (by omega)]; done) | (rcases Decidable.em ((c.toNat : Int) = 46) with hd | hd; (rw [decide_eq_true hd, letter_of (by omega)]); (rw [decide_eq_false hd, letter_not (by omega)])), rfl⟩
 refine .kDF (t := 31) rfl h1_33 (.kDF (t := 32) rfl h1_33 (.grun (t := 33) rfl rfl rfl (.m rfl (.grun (t := 33) rfl rfl rfl (.ui rfl rfl rfl (.u (.pickF rfl rfl) (.an rfl (.ret ?_))))))))
 exact .dn rfl rfl ⟨by first | (rw [letter_of (by omega)]; done) | (rcases Decidable.em ((c.toNat : Int) = 46) with hd | hd; (rw [decide_eq_true hd, letter_of (by omega)]); (rw [decide_eq_false hd, letter_not (by omega)])), rfl⟩
theorem risname_spec (s : Bs) (hs : s.length ≤ 1099511627776) : Fn Tryz.prog 151 #[vstr s] [] fun v L => v = .bool (isNameZ s) ∧ L = [] := by
 refine Fn.intro Tryz.func151 rfl rfl fun F W => ?_
 have hbs := bs_size s
 refine .sr (.an rfl (.seq (.sm rfl (.u (.streq rfl rfl) (.m rfl (.dec (t := 7) rfl (fun h1_7 => ?_) (fun h1_7 => ?_)))))))
 ·refine .kDT (t := 6) rfl h1_7 (.gk (.gk (.u (.pickT rfl rfl) (.m rfl (.gk (.gk (.u (.pickT rfl rfl) (.nt (.condT rfl (.sr (.an rfl (.rt ?_))))))))))))
  exact .dn rfl rfl ⟨by rw [show isNameZ s = false by unfold isNameZ; first | (rw [show s = [] from by assumption]; rfl) | (rw [show s = [46] from by assumption]; rfl) | (rw [show s = [46, 46] from by assumption]; rfl)], rfl⟩
 refine .kDF (t := 6) rfl h1_7 (.grun (t := 7) rfl rfl rfl (.m rfl (.grun (t := 7) rfl rfl rfl (.u (.streq rfl rfl) (.u (.pickF rfl rfl) (.m rfl (.dec (t := 11) rfl (fun h1_11 => ?_) (fun h1_11 => ?_))))))))
 ·refine .kDT (t := 9) rfl h1_11 (.kDT (t := 10) rfl h1_11 (.gk (.gk (.u (.pickT rfl rfl) (.nt (.condT rfl (.sr (.an rfl (.rt ?_)))))))))
  exact .dn rfl rfl ⟨by rw [show isNameZ s = false by unfold isNameZ; first | (rw [show s = [] from by assumption]; rfl) | (rw [show s = [46] from by assumption]; rfl) | (rw [show s = [46, 46] from by assumption]; rfl)], rfl⟩
 refine .kDF (t := 9) rfl h1_11 (.kDF (t := 10) rfl h1_11 (.grun (t := 11) rfl rfl rfl (.m rfl (.grun (t := 11) rfl rfl rfl (.u (.streq rfl rfl) (.u (.pickF rfl rfl) (.nt (.condD rfl (fun h14 => ?_) (fun h14 => ?_)))))))))
 ·refine .sr (.an rfl (.rt ?_))
  exact .dn rfl rfl ⟨by rw [show isNameZ s = false by unfold isNameZ; first | (rw [show s = [] from by assumption]; rfl) | (rw [show s = [46] from by assumption]; rfl) | (rw [show s = [46, 46] from by assumption]; rfl)], rfl⟩
 refine .sk (.seq (.sr (.an rfl (.block (.loopK (ι := Nat) (fun q E => (3, vint q) :: E) (fun q => []) (fun q => q ≤ s.length ∧ (s.take q).all letterB = true) (fun q => s.length - q) (0) (ts := [0]) (.cons rfl (.nil)) (⟨Nat.zero_le _, rfl⟩) ⟨rfl, rfl, trivial⟩ (by repeat' constructor) ?_)))))
 rintro i ⟨hi, hall⟩
 refine .seq (.sm rfl (.m rfl (.q (.strlen rfl Tryz.underlying9 rfl) rfl (.ui rfl rfl rfl (.nt (.condD rfl (fun h18 => ?_) (fun h18 => ?_)))))))
 ·have hi2 : i < s.length := by omega
  refine .sk (.seq (.block (.sm rfl (.m rfl (.q (.strIndex (c := s[i]) rfl rfl Tryz.underlying9 (by omega) (by simp)) rfl (.cv Tryz.func171 [_] (rletter_spec _) ?_))))))
  refine .an rfl (.sm rfl (.u (.not rfl) (.nt (.condB rfl (fun h26 => ?_) (fun h26 => ?_)))))
  ·refine .sr (.an rfl (.ret (.blk_r (.then_r (.then_r (.blk_r (.then_r ?_)))))))
   exact .dn rfl rfl ⟨by rw [name_bad hi2 (by simpa using h26)], rfl⟩
  refine .skip (.blk_n (.then_n (.region (.m rfl (.q (.add rfl rfl (by omega)) rfl (.an rfl ?_))))))
  exact .rk (i + 1) (⟨by omega, all_next hi2 hall (by simpa using h26)⟩) (by omega) ⟨rfl, rfl, trivial⟩
 have hii : i = s.length := by omega
 rw [hii, List.take_length] at hall
 refine .exit (.then_e (.then_e (.blk_e (.then_n (.sr (.an rfl (.ret ?_)))))))
 exact .dn rfl rfl ⟨by rw [show isNameZ s = true by unfold isNameZ; rw [decide_eq_false h1_7, decide_eq_false h1_11, decide_eq_false h14, hall]; rfl], rfl⟩
theorem rnames_spec (s : Bs) (hs : s.length ≤ 1099511627776) : Fn Tryz.prog 137 #[vstr s] [] fun v L => ∃ (n : Nat) (b : Bool), (∃ a c, v = .tuple #[.slice a n c, .bool b]) ∧ b = okZ s ∧ (b = true → n = (segsZ s).length) ∧ L = [] := by
 refine Fn.intro Tryz.func137 rfl rfl fun F W => ?_
 refine .add (slR_nil 9 1) (.sr (.a rfl (.an rfl (.sr (.an rfl (.seq (.block (.loopK (ι := Bs × Value × (List Bs)) (fun q E => (0, vstr q.1) :: (4, q.2.1) :: E) (fun q => [slR 9 1 q.2.1 q.2.2.length (strs q.2.2)]) (fun q => (∃ a c, q.2.1 = .slice a q.2.2.length c) ∧ q.2.2.all isNameZ = true ∧ segsZ s = q.2.2 ++ segsZ q.1 ∧ q.1.length + q.2.2.length ≤ s.length ∧ (q.2.2 = [] → q.1 = s) ∧ (q.2.2 ≠ [] → s.head? = some 47 ∧ (q.1 = [] ∨ q.1.head? = some 47))) (fun q => q.1.length) (s, .slice none 0 0, []) (ts := []) (.nil) (⟨⟨none, 0, rfl⟩, rfl, rfl, by simp, fun _ => rfl, fun h => absurd rfl h⟩) ⟨rfl, rfl, trivial⟩ (by repeat' constructor) ?_))))))))
 rintro ⟨cur, u, acc⟩ ⟨⟨au, cu, hu⟩, hall, hseg, hcl, hfst, hrest⟩
 dsimp only
 dsimp only at hu hall hseg hcl hfst hrest
 subst hu
 have hbs := bs_size cur
 refine .seq (.sm rfl (.u (.strne rfl rfl) (.nt (.condN rfl (fun h8 => ?_) (fun h8 => ?_)))))
 ·obtain ⟨c0, r, rfl⟩ : ∃ c0 r, cur = c0 :: r := by cases cur with | nil => exact absurd rfl h8 | cons c r => exact ⟨c, r, rfl⟩
  have hrl : (c0 :: r).length = r.length + 1 := rfl
  refine .sk (.block (.seq (.sm rfl (.q (.strIndex (c := c0) rfl rfl Tryz.underlying9 (by omega) (by simp)) rfl (.ui rfl rfl rfl (.nt (.condN rfl (fun h11 => ?_) (fun h11 => ?_))))))))
  ·refine .sr (.a rfl (.an rfl (.rt (.blk_r (.then_r (.blk_r (.then_r ?_)))))))
   exact .dn rfl rfl ⟨_, _, ⟨_, _, rfl⟩, (by rw [show okZ s = false by unfold okZ; rcases acc with _ | ⟨x, l⟩; (rw [← hfst rfl]; simp; intro e; exact absurd (by rw [e]; rfl) h11); (obtain ⟨-, g⟩ := hrest (by simp); rcases g with g | g; (cases g); (simp at g; exact absurd (by rw [g]; rfl) h11))]), (fun h => by cases h), rfl⟩
  have hc0 : c0 = 47 := byte_eq (d := 47) (by first | exact h11 | simpa using h11)
  subst hc0
  have hs47 : s.head? = some 47 := by rcases acc with _ | ⟨x, l⟩; rw [← hfst rfl]; rfl; exact (hrest (by simp)).1
  refine .sk (.sr (.an rfl (.seq (.joinK (ι := Nat) (fun q E => (5, vint q) :: E) (fun q => []) (fun q => 1 ≤ q ∧ q ≤ r.length + 1 ∧ (∀ j, j < q - 1 → r.getD j 0 ≠ 47) ∧ (q - 1 = r.length ∨ r.getD (q - 1) 0 = 47)) (pre := []) (ts := [0, 4, 7, 8, 9, 10, 11]) (.cons rfl (.cons rfl (.cons rfl (.cons rfl (.cons rfl (.cons rfl (.cons rfl (.nil)))))))) (by repeat' constructor) ?_ ?_))))
  ·refine .block (.loopK (ι := Nat) (fun q E => (5, vint q) :: E) (fun q => []) (fun q => 1 ≤ q ∧ q ≤ r.length + 1 ∧ ∀ j, j < q - 1 → r.getD j 0 ≠ 47) (fun q => r.length + 1 - q) (1) (ts := [0, 4, 7, 8, 9, 10, 11]) (.cons rfl (.cons rfl (.cons rfl (.cons rfl (.cons rfl (.cons rfl (.cons rfl (.nil)))))))) (⟨by omega, by omega, fun j hj => by omega⟩) ⟨rfl, rfl, rfl, rfl, rfl, rfl, rfl, rfl, trivial⟩ (by repeat' constructor) ?_)
   rintro n ⟨hn1, hn2, hno⟩
   refine .seq (.sm rfl (.m rfl (.q (.strlen rfl Tryz.underlying9 rfl) rfl (.ui rfl rfl rfl (.m rfl (.dec (t := 16) rfl (fun h6_16 => ?_) (fun h6_16 => ?_)))))))
   ·have hn3 : n < r.length + 1 := by omega
    have hn4 : n - 1 < r.length := by omega
    have hat : (47 :: r)[n]? = some r[n - 1] := by obtain ⟨m, rfl⟩ : ∃ m, n = m + 1 := ⟨n - 1, by omega⟩; simp [show m < r.length by omega]
    refine .kDT (t := 15) rfl h6_16 (.grun (t := 16) rfl rfl rfl (.m rfl (.grun (t := 16) rfl rfl rfl (.m rfl (.grun (t := 16) rfl rfl rfl (.q (.strIndex (c := r[n - 1]) rfl rfl Tryz.underlying9 (by omega) (by rw [Int.toNat_natCast]; exact hat)) rfl (.grun (t := 16) rfl rfl rfl (.ui rfl rfl rfl (.u (.pickT rfl rfl) (.nt (.condN rfl (fun h21 => ?_) (fun h21 => ?_))))))))))))
    ·have hne : r[n - 1] ≠ 47 := fun e => h21 (by rw [e]; rfl)
     refine .sk (.block (.region (.m rfl (.q (.add rfl rfl (by omega)) rfl (.a rfl (.nil (.blk_n (.then_n ?_))))))))
     exact .rk (n + 1) (⟨by omega, by omega, fun j hj => by by_cases e : j = n - 1; (subst e; rw [List.getD_eq_getElem?_getD, List.getElem?_eq_getElem hn4, Option.getD_some]; exact hne); exact hno j (by omega)⟩) (by omega) ⟨rfl, rfl, rfl, rfl, rfl, rfl, rfl, rfl, trivial⟩
    have hlast : r[n - 1] = 47 := byte_eq (d := 47) (by first | exact h21 | simpa using h21)
    refine .exit (.then_e (.then_e (.blk_e (.then_n ?_))))
    exact .mk (n) (⟨hn1, hn2, hno, .inr (by rw [List.getD_eq_getElem?_getD, List.getElem?_eq_getElem hn4, Option.getD_some]; exact hlast)⟩) ⟨rfl, rfl, rfl, rfl, rfl, rfl, rfl, rfl, trivial⟩
   refine .kDF (t := 15) rfl h6_16 (.gk (.gk (.gk (.gk (.u (.pickF rfl rfl) (.nt (.condF rfl (.exit (.then_e (.then_e (.blk_e (.then_n ?_))))))))))))
   exact .mk (n) (⟨hn1, hn2, hno, .inl (by omega)⟩) ⟨rfl, rfl, rfl, rfl, rfl, rfl, rfl, rfl, trivial⟩
  rintro n ⟨hn1, hn2, hno, hend⟩
  have hstep := seg_step (r := r) (k := n - 1) (by omega) hno hend
  have htk : ((47 :: r).take n).drop 1 = r.take (n - 1) := by obtain ⟨m, rfl⟩ : ∃ m, n = m + 1 := ⟨n - 1, by omega⟩; simp
  have hdr : (47 :: r).drop n = r.drop (n - 1) := by obtain ⟨m, rfl⟩ : ∃ m, n = m + 1 := ⟨n - 1, by omega⟩; simp
  have hsplit : segsZ (47 :: r) = ((47 :: r).take n).drop 1 :: segsZ ((47 :: r).drop n) := by rw [htk, hdr]; exact hstep
  have hdrop : (47 :: r).drop n = [] ∨ ((47 :: r).drop n).head? = some 47 := by rw [hdr]; rcases hend with h | h; (left; rw [h, List.drop_length]); (rcases Nat.lt_or_ge (n - 1) r.length with g | g; (right; rw [List.drop_eq_getElem_cons g]; rw [List.getD_eq_getElem?_getD, List.getElem?_eq_getElem g, Option.getD_some] at h; rw [h]; rfl); (left; exact List.drop_eq_nil_of_le g))
  refine .sm rfl (.m rfl (.q (.to (v' := vstr (((47 :: r).take n).drop 1)) (.strMid (i := 1) (j := n) rfl rfl rfl Tryz.underlying9 (by omega)) (by rw [Int.toNat_natCast]; rfl)) rfl (.oq (.call Tryz.func151 rfl rfl (vs := [_]) rfl (risname_spec _ (by simp; omega))) ?_)))
  rintro v L' ⟨rfl, rfl⟩
  refine .an rfl (.seq (.sm rfl (.u (.not rfl) (.nt (.condB rfl (fun h29 => ?_) (fun h29 => ?_))))))
  ·refine .sr (.a rfl (.an rfl (.rt (.blk_r (.then_r (.blk_r (.then_r ?_)))))))
   exact .dn rfl rfl ⟨_, _, ⟨_, _, rfl⟩, (by rw [show okZ s = false by unfold okZ; rw [hseg, hsplit, List.all_append, List.all_cons]; rw [show isNameZ (((47 :: r).take n).drop 1) = false by simpa using h29]; simp]), (fun h => by cases h), rfl⟩
  refine .sk (.sm rfl (.m rfl (.m rfl (.q (.to (v' := vstr (((47 :: r).take n).drop 1)) (.strMid (i := 1) (j := n) rfl rfl rfl Tryz.underlying9 (by omega)) (by rw [Int.toNat_natCast]; rfl)) rfl (.oq (.buildSlice1 (vs := [_]) el_54 ze_9 rfl rfl rfl rfl rfl (by decide)) ?_)))))
  rintro v L' ⟨b11_4, rfl, rfl⟩
  refine .oq (.append1 rfl rfl rfl el_54 ze_9 rfl rfl ?c37 ?c38 (Nat.le_refl _) ?c39 (by decide)) ?_
  case c37 => (first | (simp [isCell]; done) | (simp [isCell, setAll, Value.cells]; done))
  case c38 => rfl
  case c39 => omega
  rintro v L' ⟨⟨a11_5, c11_5, rfl⟩, rfl⟩
  refine .an rfl (.region (.m rfl (.m rfl (.q (.to (v' := vstr ((47 :: r).drop n)) (.strFrom (i := n) rfl rfl Tryz.underlying9 (by omega)) (by simp)) rfl (.a rfl (.nil (.blk_n (.then_n ?_))))))))
  have hin := h29
  rw [show strs acc ++ [vstr (((47 :: r).take n).drop 1)] = strs (acc ++ [((47 :: r).take n).drop 1]) by simp [strs], show acc.length + 1 = (acc ++ [((47 :: r).take n).drop 1]).length by simp]
  exact .rk (((47 :: r).drop n, .slice a11_5 (acc ++ [((47 :: r).take n).drop 1]).length c11_5, acc ++ [((47 :: r).take n).drop 1])) (⟨⟨_, _, rfl⟩, by dsimp only; rw [List.all_append, hall]; simpa using hin, by dsimp only; rw [hseg, hsplit, List.append_assoc]; rfl, by dsimp only; rw [List.length_drop, List.length_append]; simp; omega, fun h => by simp at h, fun _ => ⟨hs47, hdrop⟩⟩) (by dsimp only; rw [List.length_drop]; omega) ⟨rfl, rfl, trivial⟩
 have hcn : cur = [] := h8
 subst hcn
 refine .exit (.then_e (.then_e (.blk_e (.then_n (.sm rfl (.m rfl (.q (.slen rfl Tryz.underlying54 rfl) rfl (.ui rfl rfl rfl (.a rfl (.an rfl (.ret ?_)))))))))))
 exact .dn rfl rfl ⟨_, _, ⟨_, _, rfl⟩, (by unfold okZ; rw [hseg, show segsZ [] = [] from rfl, List.append_nil, hall, Bool.and_true]; refine decide_eq_decide.2 ?_; rcases acc with _ | ⟨x, l⟩; (rw [← hfst rfl]; simp); (simp only [(hrest (by simp)).1, iff_true, List.length_cons]; omega)), (fun _ => by rw [hseg]; simp [segsZ]), rfl⟩
theorem rcheck_spec (s : Bs) (hs : s.length ≤ 1099511627776) : Fn Tryz.prog 104 #[vstr s] [] fun v L => v = vint (checkZ s) ∧ L = [] := by
 refine Fn.intro Tryz.func104 rfl rfl fun F W => ?_
 have hbs := bs_size s
 refine .sr (.an rfl (.seq (.sm rfl (.u (.streq rfl rfl) (.nt (.condD rfl (fun h6 => ?_) (fun h6 => ?_)))))))
 ·refine .sr (.an rfl (.rt ?_))
  exact .dn rfl rfl ⟨by rw [show s = [47] from h6]; rfl, rfl⟩
 have hchk := check_ok h6
 refine .sk (.sm rfl (.oq (.c Tryz.func137 [_] (rnames_spec s hs)) ?_))
 rintro v L' ⟨nn, b, ⟨a3, c3, rfl⟩, hb, hnn, rfl⟩
 refine .m rfl (.u (.extract rfl rfl) (.u (.extract rfl rfl) (.a rfl (.an rfl (.seq (.sm rfl (.u (.not rfl) (.nt (.condB rfl (fun h13 => ?_) (fun h13 => ?_))))))))))
 ·have hbf : b = false := by simpa using h13
  rw [← hb, hbf, if_neg (by simp)] at hchk
  refine .sr (.an rfl (.rt ?_))
  exact .dn rfl rfl ⟨by rw [hchk], rfl⟩
 have hbt : b = true := by simpa using h13
 have hnl := hnn hbt
 rw [← hb, hbt, if_pos rfl] at hchk
 refine .sk (.seq (.sm rfl (.q (.strlen rfl Tryz.underlying9 rfl) rfl (.ui rfl rfl rfl (.m rfl (.dec (t := 17) rfl (fun h6_17 => ?_) (fun h6_17 => ?_)))))))
 ·refine .kDT (t := 16) rfl h6_17 (.gk (.gk (.gk (.u (.pickT rfl rfl) (.nt (.condT rfl (.sr (.an rfl (.rt ?_)))))))))
  exact .dn rfl rfl ⟨by rw [hchk, if_pos (by left; omega)], rfl⟩
 refine .kDF (t := 16) rfl h6_17 (.grun (t := 17) rfl rfl rfl (.m rfl (.grun (t := 17) rfl rfl rfl (.q (.slen rfl Tryz.underlying54 rfl) rfl (.grun (t := 17) rfl rfl rfl (.ui rfl rfl rfl (.u (.pickF rfl rfl) (.nt (.condD rfl (fun h21 => ?_) (fun h21 => ?_))))))))))
 ·refine .sr (.an rfl (.rt ?_))
  exact .dn rfl rfl ⟨by rw [hchk, if_pos (by right; omega)], rfl⟩
 refine .sk (.sr (.an rfl (.ret ?_)))
 exact .dn rfl rfl ⟨by rw [hchk, if_neg (by omega)], rfl⟩
theorem rslash_spec (s : Bs) (hs : s.length ≤ 1099511627776) : Fn Tryz.prog 121 #[vstr s] [] fun v L => v = vint (lidxZ s) ∧ L = [] := by
 refine Fn.intro Tryz.func121 rfl rfl fun F W => ?_
 have hbs := bs_size s
 refine .sr (.an rfl (.seq (.sm rfl (.q (.strlen rfl Tryz.underlying9 rfl) rfl (.q (.sub rfl rfl (by omega)) rfl (.an rfl (.block (.loopK (ι := Nat) (fun q E => (3, vint (dnL s.length q)) :: E) (fun q => []) (fun q => q ≤ s.length ∧ lidxTo s (s.length - q) = lidxZ s) (fun q => s.length - q) (0) (ts := [0]) (.cons rfl (.nil)) (⟨Nat.zero_le _, rfl⟩) ⟨rfl, rfl, trivial⟩ (by repeat' constructor) ?_))))))))
 rintro k ⟨hk, hl⟩
 have hdn := dnL_eq s.length k
 refine .seq (.sm rfl (.ui rfl rfl rfl (.nt (.condD rfl (fun h8 => ?_) (fun h8 => ?_)))))
 ·have hk2 : k < s.length := by omega
  have hat : s[s.length - (k + 1)] = s.getD (s.length - (k + 1)) 0 := by rw [List.getD_eq_getElem?_getD, List.getElem?_eq_getElem (by omega), Option.getD_some]
  refine .sk (.seq (.block (.sm rfl (.m rfl (.q (.strIndex (c := s[s.length - (k + 1)]) rfl rfl Tryz.underlying9 (by omega) (by rw [show (dnL s.length k).toNat = s.length - (k + 1) by omega]; simp [show s.length - (k + 1) < s.length by omega])) rfl (.ui rfl rfl rfl (.nt (.condD rfl (fun h14 => ?_) (fun h14 => ?_)))))))))
  ·have he : s.getD (s.length - (k + 1)) 0 = 47 := by rw [← hat]; exact byte_eq h14
   refine .sm rfl (.an rfl (.ret (.blk_r (.then_r (.then_r (.blk_r (.then_r ?_)))))))
   exact .dn rfl rfl ⟨by rw [← hl, show s.length - k = (s.length - (k + 1)) + 1 by omega, lidxTo, if_pos he, hdn]; congr 1; omega, rfl⟩
  have hne : ¬ s.getD (s.length - (k + 1)) 0 = 47 := by rw [← hat]; exact fun e => h14 (by rw [e]; rfl)
  refine .skip (.blk_n (.then_n (.region (.m rfl (.q (.sub rfl rfl (by omega)) rfl (.an rfl ?_))))))
  exact .rk (k + 1) (⟨by omega, by rw [← hl, show s.length - k = (s.length - (k + 1)) + 1 by omega, lidxTo, if_neg hne]⟩) (by omega) ⟨rfl, rfl, trivial⟩
 refine .exit (.then_e (.then_e (.blk_e (.then_n (.sr (.an rfl (.ret ?_)))))))
 exact .dn rfl rfl ⟨by rw [← hl, show s.length - k = 0 by omega]; rfl, rfl⟩
theorem rparent_spec (s : Bs) (hs : s.length ≤ 1099511627776) : Fn Tryz.prog 83 #[vstr s] [] fun v L => v = vstr (parentZ s) ∧ L = [] := by
 refine Fn.intro Tryz.func83 rfl rfl fun F W => ?_
 have hr := lidx_range s
 refine .sr (.an rfl (.sm rfl (.oq (.c Tryz.func121 [_] (rslash_spec _ ?hs3)) ?_)))
 case hs3 => first | assumption | omega
 rintro v L' ⟨rfl, rfl⟩
 refine .an rfl (.seq (.sm rfl (.ui rfl rfl rfl (.m rfl (.dec (t := 8) rfl (fun h2_8 => ?_) (fun h2_8 => ?_))))))
 ·refine .kDT (t := 7) rfl h2_8 (.gk (.gk (.u (.pickT rfl rfl) (.nt (.condT rfl (.sr (.an rfl (.rt ?_))))))))
  exact .dn rfl rfl ⟨by unfold parentZ; rw [if_pos (by first | exact .inl (by omega) | exact .inr (by assumption))], rfl⟩
 refine .kDF (t := 7) rfl h2_8 (.grun (t := 8) rfl rfl rfl (.m rfl (.grun (t := 8) rfl rfl rfl (.u (.streq rfl rfl) (.u (.pickF rfl rfl) (.nt (.dec (t := 11) rfl (fun h11 => ?_) (fun h11 => ?_))))))))
 ·refine .condT rfl (.sr (.an rfl (.rt ?_)))
  exact .dn rfl rfl ⟨by unfold parentZ; rw [if_pos (by first | exact .inl (by omega) | exact .inr (by assumption))], rfl⟩
 refine .condF rfl (.sk (.seq (.sm rfl (.ui rfl rfl rfl (.nt (.condD rfl (fun h13 => ?_) (fun h13 => ?_)))))))
 ·refine .sr (.an rfl (.rt ?_))
  exact .dn rfl rfl ⟨by unfold parentZ; rw [if_neg (by rintro (g | g); omega; exact absurd g h11), if_pos h13], rfl⟩
 refine .sk (.sm rfl (.m rfl (.q (.strTo rfl rfl Tryz.underlying9 (by omega)) rfl (.an rfl (.ret ?_)))))
 exact .dn rfl rfl ⟨by unfold parentZ; rw [if_neg (by rintro (g | g); omega; exact absurd g h11), if_neg h13], rfl⟩
theorem rbase_spec (s : Bs) (hs : s.length ≤ 1099511627776) : Fn Tryz.prog 112 #[vstr s] [] fun v L => v = vstr (baseZ s) ∧ L = [] := by
 refine Fn.intro Tryz.func112 rfl rfl fun F W => ?_
 have hr := lidx_range s
 refine .sr (.an rfl (.sm rfl (.m rfl (.oq (.c Tryz.func121 [_] (rslash_spec _ ?hs4)) ?_))))
 case hs4 => first | assumption | omega
 rintro v L' ⟨rfl, rfl⟩
 refine .q (.add rfl rfl (by omega)) rfl (.q (.strFrom rfl rfl Tryz.underlying9 (by omega)) rfl (.an rfl (.ret ?_)))
 exact .vv
theorem rkid_spec (s name : Bs) (hs : s.length ≤ 1099511627776) (hn : name.length ≤ 1099511627776) : Fn Tryz.prog 122 #[vstr s, vstr name] [] fun v L => v = vstr (kidZ s name) ∧ L = [] := by
 refine Fn.intro Tryz.func122 rfl rfl fun F W => ?_
 refine .sr (.an rfl (.seq (.sm rfl (.u (.streq rfl rfl) (.nt (.condD rfl (fun h6 => ?_) (fun h6 => ?_)))))))
 ·refine .sm rfl (.m rfl (.q (.concat rfl rfl (by omega)) rfl (.an rfl (.rt ?_))))
  exact .dn rfl rfl ⟨by unfold kidZ; rw [if_pos h6, h6], rfl⟩
 refine .sk (.sm rfl (.q (.concat rfl rfl (by simp; omega)) rfl (.m rfl (.q (.concat rfl rfl (by simp; omega)) rfl (.an rfl (.ret ?_))))))
 exact .dn rfl rfl ⟨by unfold kidZ; rw [if_neg h6], rfl⟩
theorem runder_spec (s q0 : Bs) (hq : q0.length ≤ 1099511627776) : Fn Tryz.prog 147 #[vstr s, vstr q0] [] fun v L => v = .bool (decide (underZ s q0)) ∧ L = [] := by
 refine Fn.intro Tryz.func147 rfl rfl fun F W => ?_
 have hb1 := bs_size s
 have hb2 := bs_size (kidZ q0 [])
 have hkl := kid_len q0 []
 refine .sr (.an rfl (.sm rfl (.cv Tryz.func122 [_, _] (rkid_spec q0 [] (by omega) (by simp)) ?_)))
 refine .an rfl (.sm rfl (.q (.strlen rfl Tryz.underlying9 rfl) rfl (.m rfl (.q (.strlen rfl Tryz.underlying9 rfl) rfl (.ui rfl rfl rfl (.m rfl (.dec (t := 13) rfl (fun h2_13 => ?_) (fun h2_13 => ?_))))))))
 ·refine .kDT (t := 12) rfl h2_13 (.grun (t := 13) rfl rfl rfl (.m rfl (.grun (t := 13) rfl rfl rfl (.m rfl (.grun (t := 13) rfl rfl rfl (.q (.strlen rfl Tryz.underlying9 rfl) rfl (.grun (t := 13) rfl rfl rfl (.q (.to (v' := vstr (s.take (kidZ q0 []).length)) (.strTo rfl rfl Tryz.underlying9 (by omega)) (by rw [Int.toNat_natCast])) rfl (.grun (t := 13) rfl rfl rfl (.m rfl (.grun (t := 13) rfl rfl rfl (.u (.streq rfl rfl) (.u (.pickT rfl rfl) (.an rfl (.ret ?_)))))))))))))))
  exact .dn rfl rfl ⟨by congr 1; exact decide_eq_decide.2 ⟨fun e => ⟨e, fun g => by rw [g] at h2_13; omega⟩, fun e => e.1⟩, rfl⟩
 refine .kDF (t := 12) rfl h2_13 (.gk (.gk (.gk (.gk (.gk (.gk (.u (.pickF rfl rfl) (.an rfl (.ret ?_)))))))))
 exact .dn rfl rfl ⟨by rw [decide_eq_false (fun e => by obtain ⟨e1, e2⟩ := e; unfold pfx at e1; have h3 := congrArg List.length e1; rw [List.length_take] at h3; exact e2 (by rw [← e1, List.take_of_length_le (by omega)]))], rfl⟩
theorem rplace_spec (x : Nat) (τ : Tr) (p : Bs) (hn : τ.nodes.length ≤ 1099511627776) : Fn Tryz.prog 82 #[vptr x, vstr p] [refR x τ] fun v L => v = vint (placeZ τ p) ∧ L = [refR x τ] := by
 refine Fn.intro Tryz.func82 rfl rfl fun F W => ?_
 refine .rtOpen (x := x) (τ := τ) (by repeat' constructor) fun an cn as1 cs l hl => ?_
 have hll := nds_len hl
 refine .sr (.an rfl (.seq (.sr (.an rfl (.block (.loopK (ι := Nat) (fun q E => (5, vint q) :: E) (fun q => []) (fun q => q ≤ l.length ∧ ∀ j (hj : j < q), ∀ (hj2 : j < l.length), l[j].1 ≠ p) (fun q => l.length - q) (0) (ts := [0, 1]) (.cons rfl (.cons rfl (.nil))) (⟨Nat.zero_le _, fun j hj => by omega⟩) ⟨rfl, rfl, rfl, trivial⟩ (by repeat' constructor) ?_))))))
 rintro i ⟨hi, hno⟩
 refine .seq (.sm rfl (.m rfl (.nf rfl fo_87_0 (.u (.ld rfl ag_73) (.q (.slen rfl Tryz.underlying73 rfl) rfl (.ui rfl rfl rfl (.nt (.condD rfl (fun h12 => ?_) (fun h12 => ?_)))))))))
 ·have hi2 : i < l.length := by omega
  refine .slShape (T := 129) (sz := 12) (v := .slice an l.length cn) (xs := l.flatMap rnC) (by repeat' constructor) (by omega) fun bn bn' e0 mbn _ => ?_
  simp only [Value.slice.injEq, true_and] at e0
  obtain ⟨rfl, rfl⟩ := e0
  refine .sk (.seq (.block (.sm rfl (.nf rfl fo_87_0 (.u (.ld rfl ag_73) (.m rfl (.q (.indexAddr rfl rfl el_73 (by omega)) rfl (.u (.fieldAddr rfl fo_129_0) (.q (.loadRd (sz := 12) (j := i * 12 + 0) (p := rnR _ l) rfl ag_9 (by repeat' constructor) (fun h hp => slR_rd hp) (by omega) ((rn_cell (l := l) (i := i) (k := 0) (by omega) (by decide)).trans rfl)) rfl (.m rfl (.u (.streq rfl rfl) (.nt (.condD rfl (fun h24 => ?_) (fun h24 => ?_))))))))))))))
  ·refine .sm rfl (.an rfl (.ret (.blk_r (.then_r (.then_r (.blk_r (.then_r ?_)))))))
   have hz : placeZ τ p = (i : Int) := by unfold placeZ; rw [← hl, place_nds]; exact place_at hi2 h24 (fun j hj => hno j hj (by omega))
   refine .rtFold (x := x) (τ := τ) (l := l) hl (by repeat' constructor) rfl rfl rfl rfl rfl ?_
   exact .dn rfl rfl ⟨by rw [hz], rfl⟩
  refine .skip (.blk_n (.then_n (.region (.m rfl (.q (.add rfl rfl (by omega)) rfl (.an rfl ?_))))))
  exact .rk (i + 1) (⟨by omega, fun j hj hj2 => by by_cases e : j = i; (subst e; exact h24); exact hno j (by omega) hj2⟩) (by omega) ⟨rfl, rfl, rfl, trivial⟩
 refine .exit (.then_e (.then_e (.blk_e (.then_n (.sr (.an rfl (.ret ?_)))))))
 have hz : placeZ τ p = -1 := by unfold placeZ; rw [← hl, place_nds]; exact place_none (fun j hj => hno j (by omega) hj)
 refine .rtFold (x := x) (τ := τ) (l := l) hl (by repeat' constructor) rfl rfl rfl rfl rfl ?_
 exact .dn rfl rfl ⟨by rw [hz], rfl⟩
theorem rable_spec (p : Bs) (hs : p.length ≤ 1099511627776) : Fn Tryz.prog 123 #[vstr p] [] fun v L => v = .bool (decide (ableZ p)) ∧ L = [] := by
 refine Fn.intro Tryz.func123 rfl rfl fun F W => ?_
 refine .sr (.an rfl (.sm rfl (.u (.strne rfl rfl) (.m rfl (.ndec (t := 5) rfl (fun h1_5 => ?_) (fun h1_5 => ?_))))))
 ·refine .kNT (t := 4) rfl h1_5 (.grun (t := 5) rfl rfl rfl (.m rfl (.grun (t := 5) rfl rfl rfl (.cv Tryz.func104 [_] (rcheck_spec p hs) ?_))))
  refine .grun (t := 5) rfl rfl rfl (.ui rfl rfl rfl (.u (.pickT rfl rfl) (.an rfl (.ret ?_))))
  exact .dn rfl rfl ⟨congrArg Value.bool (decide_eq_decide.2 ⟨fun e => ⟨h1_5, e⟩, fun e => e.2⟩), rfl⟩
 refine .kNF (t := 4) rfl h1_5 (.gk (.gk (.gk (.u (.pickF rfl rfl) (.an rfl (.ret ?_))))))
 exact .dn rfl rfl ⟨by rw [decide_eq_false (fun e => e.1 h1_5)], rfl⟩
theorem rrows_spec (v : Value) (xs : List Ac) (p : HP) (hp : ∀ h : Hp, p h → rdS 2 h v xs.length (xs.flatMap acC)) (hn : xs.length ≤ 1048576) : Fn Tryz.prog 110 #[v] [p] fun u L => (∃ a c, u = .slice a xs.length c) ∧ L = [p, slR 90 2 u xs.length (xs.flatMap acC)] := by
 refine Fn.intro Tryz.func110 rfl rfl fun F W => ?_
 refine .rdAny (p := p) hp (by repeat' constructor) fun a c e0 hl => ?_
 subst e0
 refine .add (slR_nil 90 2) (.sr (.an rfl (.sr (.an rfl (.sm rfl (.m rfl (.oq (.append (n := 0) (m := xs.length) (ys := xs.flatMap acC) (p := p) rfl rfl rfl el_34 (.inl ⟨_, Tryz.underlying34⟩) ze_90 rfl rfl ?hc4 hp ?hb5 (by decide)) ?_)))))))
 case hc4 => exact acC_cells _
 case hb5 => omega
 rintro v L' ⟨⟨a3, c3, rfl⟩, rfl⟩; rw [Nat.zero_add, List.nil_append]
 refine .an rfl (.ret ?_)
 exact .dn rfl rfl ⟨⟨_, _, rfl⟩, rfl⟩
theorem fill_rnode0 (p : Bs) (ad : Option Addr) (n c : Nat) : Instr.fill (fun i => [(0, 1), (1, 1), (2, 1), (3, 9)].toArray[i]?) ([.string (bs []), .string (bs []), .slice none 0 0, .int .i64 0, .int .i64 0, .int .i64 0, .int .i64 0, .int .i64 0, .int .i64 0, .int .i64 0, .int .i64 0, .int .i64 0] : List Value).toArray [(0, vstr p), (2, .slice ad n c)] = some (([vstr p, .string (bs []), .slice ad n c, vint 0, vint 0, vint 0, vint 0, vint 0, vint 0, vint 0, vint 0, vint 0] : List Value).toArray) := by kernel_rfl
theorem fill_rnode (p d : Bs) (ad : Option Addr) (n c : Nat) (s0 s1 s2 s3 s4 s5 s6 s7 s8 : Value) : Instr.fill (fun i => [(0, 1), (1, 1), (2, 1), (3, 9)].toArray[i]?) ([.string (bs []), .string (bs []), .slice none 0 0, .int .i64 0, .int .i64 0, .int .i64 0, .int .i64 0, .int .i64 0, .int .i64 0, .int .i64 0, .int .i64 0, .int .i64 0] : List Value).toArray [(0, vstr p), (1, vstr d), (2, .slice ad n c), (3, .agg ([s0, s1, s2, s3, s4, s5, s6, s7, s8] : List Value).toArray)] = some (([vstr p, vstr d, .slice ad n c] ++ [s0, s1, s2, s3, s4, s5, s6, s7, s8] : List Value).toArray) := by kernel_rfl
theorem rfnew_spec : Fn Tryz.prog 34 #[] [] fun v L => ∃ x, v = vptr x ∧ L = [refR x newT] := by
 refine Fn.intro Tryz.func34 rfl rfl fun F W => ?_
 refine .sr (.an rfl (.sr (.q (.build (us := [(0, _), (1, _)]) fl_90 ze_90 rfl rfl (by simp [isCell])) rfl (.oq (.buildSlice (vs := [_]) el_34 ze_90 rfl rfl rfl rfl (by first | (simp [Value.cells]; done) | (intro v hv; simp only [List.mem_cons, List.not_mem_nil, or_false] at hv; (repeat (first | (subst hv; rfl) | (rcases hv with hv | hv; (subst hv; rfl)))))) (by decide)) ?_))))
 rintro v L' ⟨ba, rfl, rfl⟩
 refine .q (.buildN (pl := [(0, 1), (1, 1), (2, 1), (3, 9)]) (us := [(0, vstr [47]), (2, .slice (some ⟨ba, 0, none⟩) 1 1)]) (cells := rnC (([47], (.slice (some ⟨ba, 0, none⟩) 1 1, ⟨[], [(31, [119, 111, 114, 108, 100])], st0⟩)) : Rno)) Tryz.underlying129 (by kernel_rfl) ze_129 rfl (fill_rnode0 _ _ _ _)) rfl (.oq (.buildSlice (vs := [_]) el_73 ze_129 rfl rfl rfl rfl (by first | (simp [Value.cells]; done) | (intro v hv; simp only [List.mem_cons, List.not_mem_nil, or_false] at hv; (repeat (first | (subst hv; rfl) | (rcases hv with hv | hv; (subst hv; rfl)))))) (by decide)) ?_)
 rintro v L' ⟨bn, rfl, rfl⟩
 refine .q (.build (us := [(0, _)]) fl_87 ze_87 rfl rfl (by simp [isCell])) rfl (.oq (.box rfl) ?_)
 rintro v L' ⟨x, rfl, rfl⟩
 refine .an rfl (.ret (.slMakeN 2 1 (b := ba) (xs := ([(31, [119, 111, 114, 108, 100])] : List Ac).flatMap acC) (by repeat' constructor) rfl rfl (.toRd (m := 1) (by repeat' constructor) (.slMakeN 12 1 (b := bn) (xs := [(([47], (.slice (some ⟨ba, 0, none⟩) 1 1, ⟨[], [(31, [119, 111, 114, 108, 100])], st0⟩)) : Rno)].flatMap rnC) (by repeat' constructor) rfl rfl (.add (slR_nil 127 3) (.fold (p := bigR inA [(([47], (.slice (some ⟨ba, 0, none⟩) 1 1, ⟨[], [(31, [119, 111, 114, 108, 100])], st0⟩)) : Rno)]) (.cons (p := rdO 2 (.slice (some ⟨ba, 0, none⟩) 1 1) 1 (([(31, [119, 111, 114, 108, 100])] : List Ac).flatMap acC)) (by repeat' constructor) .nil) (fun h hp => hp) (.rtFold (x := x) (τ := newT) (l := [(([47], (.slice (some ⟨ba, 0, none⟩) 1 1, ⟨[], [(31, [119, 111, 114, 108, 100])], st0⟩)) : Rno)]) rfl (by repeat' constructor) rfl rfl rfl rfl rfl ?_)))))))
 exact .dn rfl rfl ⟨_, rfl, rfl⟩
theorem rn_cells {z : Rno} (hz : isCell z.2.1 = true) : ∀ y ∈ (Value.agg (rnC z).toArray).cells.toList, isCell y = true := by
 intro v hv
 simp only [Value.cells, rnC, List.mem_cons, List.not_mem_nil, or_false] at hv
 rcases hv with rfl | rfl | rfl | rfl | rfl | rfl | rfl | rfl | rfl | rfl | rfl | rfl
 case inr.inr.inl => exact hz
 all_goals rfl
theorem rdO_cell {sz n : Nat} {v : Value} {ys : List Value} {h : Hp} (hr : rdO sz v n ys h) : isCell v = true := by
 rcases hr with ⟨-, -, a, c, rfl⟩ | ⟨b, off, cap, l, T, fr, rfl, -⟩ <;> rfl
theorem big_get {α : Type} {f : α → HP} {l : List α} {i : Nat} (hi : i < l.length) {h : Hp} (hs : bigR f l h) : ∃ h1, f l[i] h1 := by
 induction l generalizing i h with
 | nil => simp at hi
 | cons x l ih =>
  obtain ⟨h1, h2, -, -, -, p1, p2⟩ := hs
  cases i with
  | zero => exact ⟨h1, p1⟩
  | succ i => exact ih (by simpa using hi) p2
theorem G.aclShape {W : World} {n : Nat} {ds : List Deferred} {E : Env} {L R : List HP} {X : Act → World → Prop} {l : List Rno} {i : Nat} (hi : i < l.length) (hL : Pick (bigR inA l) L R) (h : isCell l[i].2.1 = true → G W n ds E L X) : G W n ds E L X := by
 intro a w he hk hs
 obtain ⟨h1, -, hp⟩ := sep_head (hs.pick hL)
 obtain ⟨h2, hq⟩ := big_get hi hp
 exact h (rdO_cell hq) a w he hk hs
theorem rlay_spec (x : Nat) (τ : Tr) (z : Rno) (hzc : isCell z.2.1 = true) (N : Nat) (ho : τ.Ok N) (hN : N ≤ 1073741824) : Fn Tryz.prog 109 #[vptr x, .agg (rnC z).toArray] [refR x τ, inA z] fun v L => v = .tuple #[] ∧ L = [refR x { τ with nodes := sset τ.nodes z.1 z.2.2 }] := by
 refine Fn.intro Tryz.func109 rfl rfl fun F W => ?_
 refine .rtOpen (x := x) (τ := τ) (by repeat' constructor) fun an cn as1 cs l hl => ?_
 have hsrt := nds_sorted (hl ▸ ho.sorted)
 have hll := nds_len hl
 have hofew := ho.few
 refine .sr (.oq (.box rfl) ?_)
 rintro v L' ⟨bz, rfl, rfl⟩
 refine .nil (.ptCast (b := bz) (l' := rnC z) (by repeat' constructor) rfl (.then_n (.seq (.add (slR_nil 129 12) (.region (.an rfl (.sr (.an rfl (.seq (.sr (.an rfl (.block (.loopK (ι := Nat × Bool × Value × (List Rno)) (fun q E => (6, vint q.1) :: (5, .bool q.2.1) :: (4, q.2.2.1) :: E) (fun q => [rnR q.2.2.1 q.2.2.2]) (fun q => q.1 ≤ l.length ∧ LayI l z.1 z.2 q.1 q.2.1 q.2.2.2 ∧ (∃ a c, q.2.2.1 = .slice a q.2.2.2.length c) ∧ q.2.2.2.length ≤ q.1 + q.2.1.toNat) (fun q => l.length - q.1) (0, false, .slice none 0 0, []) (ts := [0, 3]) (.cons rfl (.cons rfl (.nil))) (⟨Nat.zero_le _, LayI.start _ _ _, ⟨none, 0, rfl⟩, by simp⟩) ⟨rfl, rfl, rfl, rfl, rfl, trivial⟩ (by repeat' constructor) ?_)))))))))))))
 rintro ⟨i, b, u, acc⟩ ⟨hi, hLay, ⟨au, cu, hu⟩, hal⟩
 dsimp only
 dsimp only at hi hLay hu hal
 subst hu
 refine .seq (.sm rfl (.m rfl (.nf rfl fo_87_0 (.u (.ld rfl ag_73) (.q (.slen rfl Tryz.underlying73 rfl) rfl (.ui rfl rfl rfl (.nt (.condD rfl (fun h13 => ?_) (fun h13 => ?_)))))))))
 ·have hi2 : i < l.length := by omega
  refine .slShape (T := 129) (sz := 12) (v := .slice an l.length cn) (xs := l.flatMap rnC) (by repeat' constructor) (by omega) fun bn bn' e0 mbn _ => ?_
  simp only [Value.slice.injEq, true_and] at e0
  obtain ⟨rfl, rfl⟩ := e0
  refine .sk (.seq (.block (.seq (.seq (.draw [] [[0, 1, 2, 3, 4, 5, 6, 7, 8, 9, 10, 11, 12, 13, 14]] mixed (by kernel_rfl) (.g0 (.mv rfl rfl (.kv rfl (.not rfl) (.mv rfl rfl (.bool (t := 18) rfl (fun h6_18 => ?_) (fun h6_18 => ?_)))))))))))
  ·have hbf : b = false := by simpa using h6_18
   subst hbf
   have hal : acc.length ≤ i + 0 := hal
   refine D.kB (t := 17) rfl h6_18 (.gv rfl (.move rfl) (.gv rfl (.nilp rfl) (.gv rfl (.fieldAddr rfl fo_87_0) (.gv rfl (.ld rfl ag_73) (.gv rfl (.move rfl) (.gv rfl (.indexAddr rfl rfl el_73 (by omega)) (.gv rfl (.fieldAddr rfl fo_129_0) (.gv rfl (.loadRd (sz := 12) (j := i * 12 + 0) (p := rnR _ l) rfl ag_9 (by repeat' constructor) (fun h hp => slR_rd hp) (by omega) ((rn_cell (l := l) (i := i) (k := 0) (by omega) (by decide)).trans rfl)) (.gv rfl (.fieldAddr rfl fo_129_0) (.gv rfl (.load rfl ag_9 (by repeat' constructor) rfl) (.gv rfl (.strge rfl rfl) (.kv rfl (.pickT rfl rfl) (.pf (.condD rfl (fun h30 => ?_) (fun h30 => ?_)))))))))))))))
   ·refine .sm rfl (.q (.loadAs (vs := rnC z) rfl ag_129 (by repeat' constructor) (by simp [rnC]) rfl) rfl (.oq (.buildSlice (vs := [_]) el_73 ze_129 rfl rfl rfl rfl (by first | (simp [Value.cells]; done) | (intro v hv; simp only [List.mem_cons, List.not_mem_nil, or_false] at hv; (repeat (first | (subst hv; rfl) | (rcases hv with hv | hv; (subst hv; rfl)))))) (by decide)) ?_))
    rintro v L' ⟨b7_2, rfl, rfl⟩
    refine .oq (.append1 rfl rfl rfl el_73 ze_129 rfl rfl ?c30 ?c31 (Nat.le_refl _) ?c32 (by decide)) ?_
    case c30 => first | exact rn_cells hzc | (simp only [List.map_cons, List.map_nil, List.flatten_cons, List.flatten_nil, List.append_nil]; exact rn_cells hzc)
    case c31 => rfl
    case c32 => first | omega | (simp; omega)
    rintro v L' ⟨⟨a7_3, c7_3, rfl⟩, rfl⟩
    refine .a rfl (.nil ?_)
    rw [show acc.length + 1 = (acc ++ [z]).length by rw [List.length_append]; rfl]
    refine .slCast (T := 129) (sz := 12) (m' := (acc ++ [z]).length) (xs' := (acc ++ [z]).flatMap rnC) (by repeat' constructor) rfl (by simp; rfl) (.then_n (.region (.an rfl (.seq (.draw [] [[0, 1, 2, 3, 4, 5, 6, 7, 8, 9, 10]] mixed (by kernel_rfl) (.g0 (.mv rfl rfl (.nf rfl rfl rfl fo_87_0 (.kv rfl (.ld rfl ag_73) (.mv rfl rfl (.kv rfl (.indexAddr rfl rfl el_73 (by omega)) (.kv rfl (.fieldAddr rfl fo_129_0) (.kv rfl (.loadRd (sz := 12) (j := i * 12 + 0) (p := rnR _ l) rfl ag_9 (by repeat' constructor) (fun h hp => slR_rd hp) (by omega) ((rn_cell (l := l) (i := i) (k := 0) (by omega) (by decide)).trans rfl)) (.kv rfl (.fieldAddr rfl fo_129_0) (.kv rfl (.ld rfl ag_9) (.kv rfl (.strne rfl rfl) (.pf (.condN rfl (fun h45 => ?_) (fun h45 => ?_)))))))))))))))))))
    ·refine .aclShape (l := l) (i := i) hi2 (by repeat' constructor) fun hcl => (.region (.m rfl (.m rfl (.nf rfl fo_87_0 (.u (.ld rfl ag_73) (.m rfl (.q (.indexAddr rfl rfl el_73 (by omega)) rfl (.q (.loadRdA (sz := 12) (j := i * 12) (k := 12) (p := rnR _ l) (vs := rnC l[i]) rfl ag_129 (by repeat' constructor) (fun h hp => slR_rd hp) (by omega) (by omega) (by omega) (flatMap_at (f := rnC) (sz := 12) (fun _ _ => rfl) (by omega))) rfl (.oq (.buildSlice (vs := [_]) el_73 ze_129 rfl rfl rfl rfl (by first | (simp [Value.cells]; done) | (intro v hv; simp only [List.mem_cons, List.not_mem_nil, or_false] at hv; (repeat (first | (subst hv; rfl) | (rcases hv with hv | hv; (subst hv; rfl)))))) (by decide)) ?_)))))))))
     rintro v L' ⟨b10_8, rfl, rfl⟩
     refine .oq (.append1 rfl rfl rfl el_73 ze_129 rfl rfl ?c56 ?c57 (Nat.le_refl _) ?c58 (by decide)) ?_
     case c56 => first | exact rn_cells hcl | (simp only [List.map_cons, List.map_nil, List.flatten_cons, List.flatten_nil, List.append_nil]; exact rn_cells hcl)
     case c57 => rfl
     case c58 => first | omega | (simp; omega)
     rintro v L' ⟨⟨a10_9, c10_9, rfl⟩, rfl⟩
     refine .a rfl (.nil ?_)
     rw [show (acc ++ [z]).length + 1 = ((acc ++ [z]) ++ [l[i]]).length by simp]
     refine .slCast (T := 129) (sz := 12) (m' := ((acc ++ [z]) ++ [l[i]]).length) (xs' := ((acc ++ [z]) ++ [l[i]]).flatMap rnC) (by repeat' constructor) rfl (by simp; rfl) (.blk_n (.then_n (.region (.m rfl (.q (.add rfl rfl (by omega)) rfl (.an rfl ?_))))))
     exact .rk ((i + 1, true, .slice a10_9 ((acc ++ [z]) ++ [l[i]]).length c10_9, ((acc ++ [z]) ++ [l[i]]))) (⟨by dsimp only; omega, by dsimp only; exact hLay.put hi2 h30 h45, ⟨_, _, rfl⟩, by dsimp only; simp; omega⟩) (by dsimp only; omega) ⟨rfl, rfl, rfl, rfl, rfl, trivial⟩
    refine .skip (.blk_n (.then_n (.region (.m rfl (.q (.add rfl rfl (by omega)) rfl (.an rfl ?_))))))
    exact .rk ((i + 1, true, .slice a7_3 (acc ++ [z]).length c7_3, (acc ++ [z]))) (⟨by dsimp only; omega, by dsimp only; exact hLay.sub hi2 h45, ⟨_, _, rfl⟩, by dsimp only; simp; omega⟩) (by dsimp only; omega) ⟨rfl, rfl, rfl, rfl, rfl, trivial⟩
   refine .sk (.seq (.draw [] [[0, 1, 2, 3, 4, 5, 6, 7, 8, 9, 10]] mixed (by kernel_rfl) (.g0 (.mv rfl rfl (.nf rfl rfl rfl fo_87_0 (.kv rfl (.ld rfl ag_73) (.mv rfl rfl (.kv rfl (.indexAddr rfl rfl el_73 (by omega)) (.kv rfl (.fieldAddr rfl fo_129_0) (.kv rfl (.loadRd (sz := 12) (j := i * 12 + 0) (p := rnR _ l) rfl ag_9 (by repeat' constructor) (fun h hp => slR_rd hp) (by omega) ((rn_cell (l := l) (i := i) (k := 0) (by omega) (by decide)).trans rfl)) (.kv rfl (.fieldAddr rfl fo_129_0) (.kv rfl (.ld rfl ag_9) (.kv rfl (.strne rfl rfl) (.pf (.condN rfl (fun h45 => ?_) (fun h45 => ?_))))))))))))))))
   ·refine .aclShape (l := l) (i := i) hi2 (by repeat' constructor) fun hcl => (.region (.m rfl (.m rfl (.nf rfl fo_87_0 (.u (.ld rfl ag_73) (.m rfl (.q (.indexAddr rfl rfl el_73 (by omega)) rfl (.q (.loadRdA (sz := 12) (j := i * 12) (k := 12) (p := rnR _ l) (vs := rnC l[i]) rfl ag_129 (by repeat' constructor) (fun h hp => slR_rd hp) (by omega) (by omega) (by omega) (flatMap_at (f := rnC) (sz := 12) (fun _ _ => rfl) (by omega))) rfl (.oq (.buildSlice (vs := [_]) el_73 ze_129 rfl rfl rfl rfl (by first | (simp [Value.cells]; done) | (intro v hv; simp only [List.mem_cons, List.not_mem_nil, or_false] at hv; (repeat (first | (subst hv; rfl) | (rcases hv with hv | hv; (subst hv; rfl)))))) (by decide)) ?_)))))))))
    rintro v L' ⟨b10_8, rfl, rfl⟩
    refine .oq (.append1 rfl rfl rfl el_73 ze_129 rfl rfl ?c86 ?c87 (Nat.le_refl _) ?c88 (by decide)) ?_
    case c86 => first | exact rn_cells hcl | (simp only [List.map_cons, List.map_nil, List.flatten_cons, List.flatten_nil, List.append_nil]; exact rn_cells hcl)
    case c87 => rfl
    case c88 => first | omega | (simp; omega)
    rintro v L' ⟨⟨a10_9, c10_9, rfl⟩, rfl⟩
    refine .a rfl (.nil ?_)
    rw [show acc.length + 1 = (acc ++ [l[i]]).length by simp]
    refine .slCast (T := 129) (sz := 12) (m' := (acc ++ [l[i]]).length) (xs' := (acc ++ [l[i]]).flatMap rnC) (by repeat' constructor) rfl (by simp; rfl) (.blk_n (.then_n (.region (.m rfl (.q (.add rfl rfl (by omega)) rfl (.an rfl ?_))))))
    exact .rk ((i + 1, false, .slice a10_9 (acc ++ [l[i]]).length c10_9, (acc ++ [l[i]]))) (⟨by dsimp only; omega, by dsimp only; exact hLay.low hi2 (Decidable.byContradiction h30), ⟨_, _, rfl⟩, by dsimp only; simp; omega⟩) (by dsimp only; omega) ⟨rfl, rfl, rfl, rfl, rfl, trivial⟩
   refine .skip (.blk_n (.then_n (.region (.m rfl (.q (.add rfl rfl (by omega)) rfl (.an rfl ?_))))))
   exact .rk ((i + 1, false, .slice au acc.length cu, acc)) (⟨by dsimp only; omega, by dsimp only; exact absurd (by rw [h45]; exact linB.irr z.1) h30, ⟨_, _, rfl⟩, by dsimp only; simp; omega⟩) (by dsimp only; omega) ⟨rfl, rfl, rfl, rfl, rfl, trivial⟩
  have hbt : b = true := by simpa using h6_18
  subst hbt
  have hal : acc.length ≤ i + 1 := hal
  refine D.kB (t := 17) rfl h6_18 (.gz rfl (.gz rfl (.gz rfl (.gz rfl (.gz rfl (.gz rfl (.gz rfl (.gz rfl (.gz rfl (.gz rfl (.gz rfl (.kv rfl (.pickF rfl rfl) (.pf (.condF rfl (.sk (.seq (.draw [] [[0, 1, 2, 3, 4, 5, 6, 7, 8, 9, 10]] mixed (by kernel_rfl) (.g0 (.mv rfl rfl (.nf rfl rfl rfl fo_87_0 (.kv rfl (.ld rfl ag_73) (.mv rfl rfl (.kv rfl (.indexAddr rfl rfl el_73 (by omega)) (.kv rfl (.fieldAddr rfl fo_129_0) (.kv rfl (.loadRd (sz := 12) (j := i * 12 + 0) (p := rnR _ l) rfl ag_9 (by repeat' constructor) (fun h hp => slR_rd hp) (by omega) ((rn_cell (l := l) (i := i) (k := 0) (by omega) (by decide)).trans rfl)) (.kv rfl (.fieldAddr rfl fo_129_0) (.kv rfl (.ld rfl ag_9) (.kv rfl (.strne rfl rfl) ?_))))))))))))))))))))))))))))
  refine D.pf (.condN rfl (fun h45 => ?_) (fun h45 => ?_))
  ·refine .aclShape (l := l) (i := i) hi2 (by repeat' constructor) fun hcl => (.region (.m rfl (.m rfl (.nf rfl fo_87_0 (.u (.ld rfl ag_73) (.m rfl (.q (.indexAddr rfl rfl el_73 (by omega)) rfl (.q (.loadRdA (sz := 12) (j := i * 12) (k := 12) (p := rnR _ l) (vs := rnC l[i]) rfl ag_129 (by repeat' constructor) (fun h hp => slR_rd hp) (by omega) (by omega) (by omega) (flatMap_at (f := rnC) (sz := 12) (fun _ _ => rfl) (by omega))) rfl (.oq (.buildSlice (vs := [_]) el_73 ze_129 rfl rfl rfl rfl (by first | (simp [Value.cells]; done) | (intro v hv; simp only [List.mem_cons, List.not_mem_nil, or_false] at hv; (repeat (first | (subst hv; rfl) | (rcases hv with hv | hv; (subst hv; rfl)))))) (by decide)) ?_)))))))))
   rintro v L' ⟨b10_8, rfl, rfl⟩
   refine .oq (.append1 rfl rfl rfl el_73 ze_129 rfl rfl ?c117 ?c118 (Nat.le_refl _) ?c119 (by decide)) ?_
   case c117 => first | exact rn_cells hcl | (simp only [List.map_cons, List.map_nil, List.flatten_cons, List.flatten_nil, List.append_nil]; exact rn_cells hcl)
   case c118 => rfl
   case c119 => first | omega | (simp; omega)
   rintro v L' ⟨⟨a10_9, c10_9, rfl⟩, rfl⟩
   refine .a rfl (.nil ?_)
   rw [show acc.length + 1 = (acc ++ [l[i]]).length by simp]
   refine .slCast (T := 129) (sz := 12) (m' := (acc ++ [l[i]]).length) (xs' := (acc ++ [l[i]]).flatMap rnC) (by repeat' constructor) rfl (by simp; rfl) (.blk_n (.then_n (.region (.m rfl (.q (.add rfl rfl (by omega)) rfl (.an rfl ?_))))))
   exact .rk ((i + 1, true, .slice a10_9 (acc ++ [l[i]]).length c10_9, (acc ++ [l[i]]))) (⟨by dsimp only; omega, by dsimp only; exact hLay.more hi2, ⟨_, _, rfl⟩, by dsimp only; simp; omega⟩) (by dsimp only; omega) ⟨rfl, rfl, rfl, rfl, rfl, trivial⟩
  refine .skip (.blk_n (.then_n (.region (.m rfl (.q (.add rfl rfl (by omega)) rfl (.an rfl ?_))))))
  exact .rk ((i + 1, true, .slice au acc.length cu, acc)) (⟨by dsimp only; omega, by dsimp only; exact absurd h45 (hLay.not hsrt hi2), ⟨_, _, rfl⟩, by dsimp only; simp; omega⟩) (by dsimp only; omega) ⟨rfl, rfl, rfl, rfl, rfl, trivial⟩
 have hii : i = l.length := by omega
 rw [hii] at hLay
 have hlast := hLay.last
 refine .exit (.then_e (.then_e (.blk_e (.then_n (.seq (.sm rfl (.u (.not rfl) (.nt (.condB rfl (fun h57 => ?_) (fun h57 => ?_))))))))))
 ·refine .region (.m rfl (.q (.loadAs (vs := rnC z) rfl ag_129 (by repeat' constructor) (by simp [rnC]) rfl) rfl (.oq (.buildSlice (vs := [_]) el_73 ze_129 rfl rfl rfl rfl (by first | (simp [Value.cells]; done) | (intro v hv; simp only [List.mem_cons, List.not_mem_nil, or_false] at hv; (repeat (first | (subst hv; rfl) | (rcases hv with hv | hv; (subst hv; rfl)))))) (by decide)) ?_)))
  rintro v L' ⟨b12_2, rfl, rfl⟩
  refine .oq (.append1 rfl rfl rfl el_73 ze_129 rfl rfl ?c132 ?c133 (Nat.le_refl _) ?c134 (by decide)) ?_
  case c132 => first | exact rn_cells hzc | (simp only [List.map_cons, List.map_nil, List.flatten_cons, List.flatten_nil, List.append_nil]; exact rn_cells hzc)
  case c133 => rfl
  case c134 => have := Bool.toNat_le b; omega
  rintro v L' ⟨⟨a12_3, c12_3, rfl⟩, rfl⟩
  refine .a rfl (.nil ?_)
  rw [show acc.length + 1 = (acc ++ [z]).length by rw [List.length_append]; rfl]
  refine .slCast (T := 129) (sz := 12) (m' := (acc ++ [z]).length) (xs' := (acc ++ [z]).flatMap rnC) (by repeat' constructor) rfl (by simp; rfl) (.then_n (.region (.m rfl (.m rfl (.nf rfl fo_87_0 (.st rfl rfl rfl sz_73 ?_))))))
  refine .nil (.done_n (.bigSset hsrt z.1 z.2 (p := inA z) rfl (by repeat' constructor) ?_))
  have hb : b = false := by simpa using h57
  subst hb
  have hfin : (acc ++ [z]) = sset l z.1 z.2 := hlast
  refine .rtFold (x := x) (τ := ({ τ with nodes := sset τ.nodes z.1 z.2.2 } : Tr)) (l := (sset l z.1 z.2)) (by rw [nds_sset, hl]) (by repeat' constructor) rfl (by rw [hfin]) (by rw [hfin]) rfl rfl ?_
  exact .vv
 refine .sk (.region (.m rfl (.m rfl (.nf rfl fo_87_0 (.st rfl rfl rfl sz_73 ?_)))))
 refine .nil (.done_n (.bigSset hsrt z.1 z.2 (p := inA z) rfl (by repeat' constructor) ?_))
 have hb : b = true := by simpa using h57
 subst hb
 have hfin : acc = sset l z.1 z.2 := hlast
 refine .rtFold (x := x) (τ := ({ τ with nodes := sset τ.nodes z.1 z.2.2 } : Tr)) (l := (sset l z.1 z.2)) (by rw [nds_sset, hl]) (by repeat' constructor) rfl (by rw [hfin]) (by rw [hfin]) rfl rfl ?_
 exact .vv
theorem rkid7_spec (x : Nat) (τ : Tr) (p : Bs) (num zx : Int) (N : Nat) (ho : τ.Ok N) (hN : N ≤ 1073741824) : Fn Tryz.prog 146 #[vptr x, vstr p, vint num, vint zx] [refR x τ] fun v L => v = .tuple #[] ∧ L = [refR x (kidT τ p num zx)] := by
 refine Fn.intro Tryz.func146 rfl rfl fun F W => ?_
 have hfew := ho.few
 have hnd := ho.sorted.nodup linB
 refine .sm rfl (.m rfl (.cv Tryz.func82 [_, _] (rplace_spec x τ p (by omega)) ?_))
 refine .an rfl (.sm rfl (.ui rfl rfl rfl (.nt (.condD rfl (fun h13 => ?_) (fun h13 => ?_)))))
 ·obtain ⟨k, hk, hpk, hkp⟩ := place_get (l := τ.nodes) h13
  have hpz : placeZ τ p = k := hpk
  rw [hpz]
  refine .rtOpen (x := x) (τ := τ) (by repeat' constructor) fun an cn as1 cs l hl => ?_
  have hll := nds_len hl
  have hkl : k < l.length := by omega
  have hlk : l[k].1 = p := by have := nds_get hl hkl; rw [← hkp]; simp only [this]
  refine .slShape (T := 129) (sz := 12) (v := .slice an l.length cn) (xs := l.flatMap rnC) (by repeat' constructor) (by omega) fun bn bn' e0 mbn _ => ?_
  simp only [Value.slice.injEq, true_and] at e0
  obtain ⟨rfl, rfl⟩ := e0
  refine .sm rfl (.nf rfl fo_87_0 (.u (.ld rfl ag_73) (.m rfl (.m rfl (.q (.indexAddr rfl rfl el_73 (by omega)) rfl (.u (.fieldAddr rfl fo_129_3) (.u (.fieldAddr rfl fo_92_4) (.oq (.storeRd (sz := 12) (j := k * 12 + 7) rfl rfl ?hv14 sz_3 ?ho15 ?hi16) ?_))))))))
  case hv14 => first | rfl | assumption
  case ho15 => omega
  case hi16 => omega
  rintro v L' rfl
  refine .nil (.slCast (T := 129) (sz := 12) (m' := l.length) (xs' := (l.set k (l[k].1, (l[k].2.1, { l[k].2.2 with st := { l[k].2.2.st with cver := num } }))).flatMap rnC) (by repeat' constructor) rfl (flatMap_set (f := rnC) (sz := 12) (fun _ => rfl) (by simpa using hkl) (by decide) (by rfl)) (.then_n (.region (.m rfl (.nf rfl fo_87_0 (.u (.ld rfl ag_73) (.m rfl (.m rfl (.q (.indexAddr rfl rfl el_73 (by omega)) rfl (.u (.fieldAddr rfl fo_129_3) (.u (.fieldAddr rfl fo_92_2) (.oq (.storeRd (sz := 12) (j := k * 12 + 5) rfl rfl ?hv26 sz_3 ?ho27 ?hi28) ?_))))))))))))
  case hv26 => first | rfl | assumption
  case ho27 => omega
  case hi28 => omega
  rintro v L' rfl
  refine .nil (.slCast (T := 129) (sz := 12) (m' := l.length) (xs' := ((l.set k (l[k].1, (l[k].2.1, { l[k].2.2 with st := { l[k].2.2.st with cver := num } }))).set k (l[k].1, (l[k].2.1, kidN num zx l[k].2.2))).flatMap rnC) (by repeat' constructor) rfl (flatMap_set (f := rnC) (sz := 12) (fun _ => rfl) (by simpa using hkl) (by decide) (by rw [List.getElem_set_self]; rfl)) ?_)
  rw [List.set_set]
  refine .done_n (.bigSet (y := (l[k].1, (l[k].2.1, kidN num zx l[k].2.2))) hkl (by rfl) (by repeat' constructor) (.rtFold (x := x) (τ := (kidT τ p num zx)) (l := (l.set k (l[k].1, (l[k].2.1, kidN num zx l[k].2.2)))) (nds_mod hl hnd hkl hlk (kidN num zx) rfl) (by repeat' constructor) rfl (by simp) rfl rfl rfl ?_))
  exact .vv
 refine .skip (.done_n (.rfCast (x := x) (τ' := kidT τ p num zx) (by repeat' constructor) (by unfold kidT; rw [amod_none (by have h0 : ¬ 0 ≤ placeTo τ.nodes p := h13; rw [place_iff] at h0; simpa using h0)]) ?_))
 exact .vv
theorem rlay2_spec (x : Nat) (τ : Tr) (z : Rno) (hzc : isCell z.2.1 = true) (N : Nat) (ho : τ.Ok N) (hN : N ≤ 1073741824) {T : TypeId} : Fn Tryz.prog 109 #[vptr x, .agg (rnC z).toArray] [refR x τ, slR T 2 z.2.1 z.2.2.acl.length (z.2.2.acl.flatMap acC)] fun v L => v = .tuple #[] ∧ L = [refR x { τ with nodes := sset τ.nodes z.1 z.2.2 }] :=
 Fn.pre2 (rlay_spec x τ z hzc N ho hN) fun F w hs => by
  have h1 := sep_imp (q := inA z) (fun h hp => slR_rd hp) (sep_swap hs)
  exact sep_swap h1
theorem rcreate_spec (x : Nat) (τ : Tr) (y : Pt) (zx : Int) (p : HP) (hy : PtA p y) (N : Nat) (ho : τ.Ok N) (hN : N + 1 ≤ 1073741824) : Fn Tryz.prog 119 #[vptr x, .agg (ptC y).toArray, vint zx] [refR x τ, p] fun v L => ∃ a c, v = .slice a (createZ τ y zx).2.length c ∧ L = [refR x (createZ τ y zx).1, p, slR 150 3 v (createZ τ y zx).2.length ((createZ τ y zx).2.flatMap evC)] := by
 refine Fn.intro Tryz.func119 rfl rfl fun F W => ?_
 have hfew := hy.few
 have hpl := hy.plen
 have hpar := parent_len y.path
 have hof := ho.few
 refine .sr (.oq (.box rfl) ?_)
 rintro v L' ⟨bx, rfl, rfl⟩
 refine .a rfl (.nil (.ptCast (b := bx) (l' := ptC y) (by repeat' constructor) rfl (.then_n (.sr (.u (.fieldAddr rfl fo_37_1) (.u (.ld rfl ag_9) (.cv Tryz.func83 [_] (rparent_spec y.path (by omega)) ?_)))))))
 refine .an rfl (.sr (.u (.fieldAddr rfl fo_37_1) (.u (.ld rfl ag_9) (.cv Tryz.func123 [_] (rable_spec y.path (by omega)) ?_))))
 refine .an rfl (.seq (.sm rfl (.u (.not rfl) (.m rfl (.ndec (t := 18) rfl (fun h3_18 => ?_) (fun h3_18 => ?_))))))
 ·refine .kNT (t := 17) rfl h3_18 (.gk (.gk (.gk (.gk (.u (.pickT rfl rfl) (.nt (.condT rfl (.sr (.an rfl (.rt (.add (slR_nil 150 3) ?_)))))))))))
  have hc : createZ τ y zx = (τ, []) := by unfold createZ; rw [if_neg (fun g => h3_18 g.1)]
  refine .rfCast (x := x) (τ' := (createZ τ y zx).1) (by repeat' constructor) (by rw [hc]) (.slCast (T := 150) (sz := 3) (m' := (createZ τ y zx).2.length) (xs' := (createZ τ y zx).2.flatMap evC) (by repeat' constructor) (by (rw [hc]; try rfl)) (by (rw [hc]; try rfl)) ?_)
  exact .dn rfl rfl ⟨_, _, by (rw [hc]; try rfl), rfl⟩
 refine .kNF (t := 17) rfl h3_18 (.grun (t := 18) rfl rfl rfl (.m rfl (.grun (t := 18) rfl rfl rfl (.m rfl (.grun (t := 18) rfl rfl rfl (.cv Tryz.func82 [_, _] (rplace_spec x τ (parentZ y.path) (by omega)) ?_))))))
 refine .grun (t := 18) rfl rfl rfl (.ui rfl rfl rfl (.u (.pickF rfl rfl) (.nt (.condD rfl (fun h23 => ?_) (fun h23 => ?_)))))
 ·refine .sr (.an rfl (.rt (.add (slR_nil 150 3) ?_)))
  have hc : createZ τ y zx = (τ, []) := by unfold createZ; rw [if_neg (fun g => absurd (place_iff.2 g.2) (by have h0 : placeTo τ.nodes (parentZ y.path) < 0 := h23; omega))]
  refine .rfCast (x := x) (τ' := (createZ τ y zx).1) (by repeat' constructor) (by rw [hc]) (.slCast (T := 150) (sz := 3) (m' := (createZ τ y zx).2.length) (xs' := (createZ τ y zx).2.flatMap evC) (by repeat' constructor) (by (rw [hc]; try rfl)) (by (rw [hc]; try rfl)) ?_)
  exact .dn rfl rfl ⟨_, _, by (rw [hc]; try rfl), rfl⟩
 have hup : thereT τ (parentZ y.path) := place_iff.1 (by have h0 : ¬ placeTo τ.nodes (parentZ y.path) < 0 := h23; omega)
 have hab : ableZ y.path := h3_18
 refine .sk (.sr (.an rfl (.seq (.sm rfl (.u (.fieldAddr rfl fo_37_1) (.u (.ld rfl ag_9) (.cv Tryz.func82 [_, _] (rplace_spec x τ y.path (by omega)) ?_)))))))
 refine .ui rfl rfl rfl (.nt (.condD rfl (fun h28 => ?_) (fun h28 => ?_)))
 ·refine .region (.an rfl (.seq (.draw [7, 15] [[0, 1, 2, 3, 4, 5, 6, 8, 9, 10, 11, 12, 13, 7, 14], [15]] mixed (by kernel_rfl) (.go [ptc bx _ _] (by repeat' constructor) (.k rfl (.move rfl) (.k rfl (.fieldAddr rfl fo_37_1) (.k rfl (.ld rfl ag_9) (.k rfl (.fieldAddr rfl fo_37_2) (.k rfl (.ld rfl ag_9) (.kv rfl (.fieldAddr rfl fo_37_3) (.kv rfl (.ld rfl ag_34) (.k rfl (.move rfl) (.k rfl (.move rfl) (.k rfl (.move rfl) (.k rfl (.fieldAddr rfl fo_37_4) (.k rfl (.ld rfl ag_3) (.k rfl (.build (us := [(0, _), (1, _), (2, _), (6, _)]) fl_92 ze_92 rfl rfl (by simp [isCell])) (.hh rfl (.c Tryz.func110 [_] (rrows_spec y.aclV y.acl p hy.acl hfew)) ?_))))))))))))))))))
  rintro v L' ⟨⟨a8, c8, rfl⟩, rfl⟩
  refine D.kv rfl (.buildN (pl := [(0, 1), (1, 1), (2, 1), (3, 9)]) (us := [(0, vstr y.path), (1, vstr y.data), (2, .slice a8 y.acl.length c8), (3, .agg ([vint zx, vint zx, vint zx, vint 0, vint 0, vint 0, vint y.own, vint 0, vint 0] : List Value).toArray)]) (cells := [vstr y.path, vstr y.data, .slice a8 y.acl.length c8] ++ [vint zx, vint zx, vint zx, vint 0, vint 0, vint 0, vint y.own, vint 0, vint 0]) Tryz.underlying129 (by kernel_rfl) ze_129 rfl (fill_rnode _ _ _ _ _ _ _ _ _ _ _ _ _ _)) (.ph (.g0 (.hh rfl (.c Tryz.func109 [_, _] (rlay2_spec x τ ((y.path, (.slice a8 y.acl.length c8, newN y zx)) : Rno) rfl N ho (by omega))) ?_)))
  rintro v L' ⟨rfl, rfl⟩
  refine D.ph (.fin (.rfCast (x := x) (τ' := ({ τ with nodes := sset τ.nodes y.path (newN y zx) } : Tr)) (by repeat' constructor) (rfl) ?_))
  have hoL := ho.lay (.inr hab) (newN y zx) hfew
  refine .then_n (.sm rfl (.m rfl (.u (.fieldAddr rfl fo_37_5) (.u (.ld rfl ag_3) (.m rfl (.cv Tryz.func146 [_, _, _, _] (rkid7_spec x ({ τ with nodes := sset τ.nodes y.path (newN y zx) } : Tr) (parentZ y.path) y.num zx (N + 1) hoL (by omega)) ?_))))))
  refine .nt (.sm rfl (.u (.fieldAddr rfl fo_37_1) (.u (.ld rfl ag_9) (.m rfl (.q (.build (us := [(0, _), (1, _), (2, _)]) fl_150 ze_150 rfl rfl (by simp [isCell])) rfl (.m rfl (.m rfl (.q (.build (us := [(0, _), (1, _), (2, _)]) fl_150 ze_150 rfl rfl (by simp [isCell])) rfl (.oq (.buildSlice (vs := [_, _]) el_30 ze_150 rfl rfl rfl rfl (by first | (simp [Value.cells]; done) | (intro v hv; simp only [List.mem_cons, List.not_mem_nil, or_false] at hv; (repeat (first | (subst hv; rfl) | (rcases hv with hv | hv; (subst hv; rfl)))))) (by decide)) ?_)))))))))
  rintro v L' ⟨bo, rfl, rfl⟩
  refine .a rfl (.nil (.slMakeN 3 2 (b := bo) (xs := ([(3, (y.path, zx)), (4, (parentZ y.path, zx))] : List Ev).flatMap evC) (by repeat' constructor) rfl rfl (.then_n (.ret ?_))))
  have hc : createZ τ y zx = (kidT ({ τ with nodes := sset τ.nodes y.path (newN y zx) } : Tr) (parentZ y.path) y.num zx, [(3, (y.path, zx)), (4, (parentZ y.path, zx))]) := by unfold createZ; rw [if_pos ⟨hab, hup⟩, if_pos (show thereT τ y.path from place_iff.1 h28)]
  refine .rfCast (x := x) (τ' := (createZ τ y zx).1) (by repeat' constructor) (by rw [hc]) (.slCast (T := 150) (sz := 3) (m' := (createZ τ y zx).2.length) (xs' := (createZ τ y zx).2.flatMap evC) (by repeat' constructor) (by (rw [hc]; try rfl)) (by (rw [hc]; try rfl)) ?_)
  exact .dn rfl rfl ⟨_, _, by (rw [hc]; try rfl), rfl⟩
 refine .sk (.seq (.draw [7, 15] [[0, 1, 2, 3, 4, 5, 6, 8, 9, 10, 11, 12, 13, 7, 14], [15]] mixed (by kernel_rfl) (.go [ptc bx _ _] (by repeat' constructor) (.k rfl (.move rfl) (.k rfl (.fieldAddr rfl fo_37_1) (.k rfl (.ld rfl ag_9) (.k rfl (.fieldAddr rfl fo_37_2) (.k rfl (.ld rfl ag_9) (.kv rfl (.fieldAddr rfl fo_37_3) (.kv rfl (.ld rfl ag_34) (.k rfl (.move rfl) (.k rfl (.move rfl) (.k rfl (.move rfl) (.k rfl (.fieldAddr rfl fo_37_4) (.k rfl (.ld rfl ag_3) (.k rfl (.build (us := [(0, _), (1, _), (2, _), (6, _)]) fl_92 ze_92 rfl rfl (by simp [isCell])) (.hh rfl (.c Tryz.func110 [_] (rrows_spec y.aclV y.acl p hy.acl hfew)) ?_)))))))))))))))))
 rintro v L' ⟨⟨a8, c8, rfl⟩, rfl⟩
 refine D.kv rfl (.buildN (pl := [(0, 1), (1, 1), (2, 1), (3, 9)]) (us := [(0, vstr y.path), (1, vstr y.data), (2, .slice a8 y.acl.length c8), (3, .agg ([vint zx, vint zx, vint zx, vint 0, vint 0, vint 0, vint y.own, vint 0, vint 0] : List Value).toArray)]) (cells := [vstr y.path, vstr y.data, .slice a8 y.acl.length c8] ++ [vint zx, vint zx, vint zx, vint 0, vint 0, vint 0, vint y.own, vint 0, vint 0]) Tryz.underlying129 (by kernel_rfl) ze_129 rfl (fill_rnode _ _ _ _ _ _ _ _ _ _ _ _ _ _)) (.ph (.g0 (.hh rfl (.c Tryz.func109 [_, _] (rlay2_spec x τ ((y.path, (.slice a8 y.acl.length c8, newN y zx)) : Rno) rfl N ho (by omega))) ?_)))
 rintro v L' ⟨rfl, rfl⟩
 refine D.ph (.fin (.rfCast (x := x) (τ' := ({ τ with nodes := sset τ.nodes y.path (newN y zx) } : Tr)) (by repeat' constructor) (rfl) ?_))
 have hoL := ho.lay (.inr hab) (newN y zx) hfew
 refine .then_n (.sm rfl (.m rfl (.u (.fieldAddr rfl fo_37_5) (.u (.ld rfl ag_3) (.m rfl (.cv Tryz.func146 [_, _, _, _] (rkid7_spec x ({ τ with nodes := sset τ.nodes y.path (newN y zx) } : Tr) (parentZ y.path) y.num zx (N + 1) hoL (by omega)) ?_))))))
 refine .nt (.sm rfl (.u (.fieldAddr rfl fo_37_1) (.u (.ld rfl ag_9) (.m rfl (.q (.build (us := [(0, _), (1, _), (2, _)]) fl_150 ze_150 rfl rfl (by simp [isCell])) rfl (.m rfl (.m rfl (.q (.build (us := [(0, _), (1, _), (2, _)]) fl_150 ze_150 rfl rfl (by simp [isCell])) rfl (.oq (.buildSlice (vs := [_, _]) el_30 ze_150 rfl rfl rfl rfl (by first | (simp [Value.cells]; done) | (intro v hv; simp only [List.mem_cons, List.not_mem_nil, or_false] at hv; (repeat (first | (subst hv; rfl) | (rcases hv with hv | hv; (subst hv; rfl)))))) (by decide)) ?_)))))))))
 rintro v L' ⟨bo, rfl, rfl⟩
 refine .a rfl (.nil (.slMakeN 3 2 (b := bo) (xs := ([(1, (y.path, zx)), (4, (parentZ y.path, zx))] : List Ev).flatMap evC) (by repeat' constructor) rfl rfl (.then_n (.ret ?_))))
 have hc : createZ τ y zx = (kidT ({ τ with nodes := sset τ.nodes y.path (newN y zx) } : Tr) (parentZ y.path) y.num zx, [(1, (y.path, zx)), (4, (parentZ y.path, zx))]) := by unfold createZ; rw [if_pos ⟨hab, hup⟩, if_neg (show ¬ thereT τ y.path from fun g => h28 (place_iff.2 g))]
 refine .rfCast (x := x) (τ' := (createZ τ y zx).1) (by repeat' constructor) (by rw [hc]) (.slCast (T := 150) (sz := 3) (m' := (createZ τ y zx).2.length) (xs' := (createZ τ y zx).2.flatMap evC) (by repeat' constructor) (by (rw [hc]; try rfl)) (by (rw [hc]; try rfl)) ?_)
 exact .dn rfl rfl ⟨_, _, by (rw [hc]; try rfl), rfl⟩
theorem rerase_spec (x : Nat) (τ : Tr) (y : Pt) (zx : Int) (p : HP) (hy : PtA p y) (N : Nat) (ho : τ.Ok N) (hN : N + 1 ≤ 1073741824) : Fn Tryz.prog 120 #[vptr x, .agg (ptC y).toArray, vint zx] [refR x τ] fun v L => ∃ a c, v = .slice a (eraseZ τ y zx).2.length c ∧ L = [refR x (eraseZ τ y zx).1, slR 150 3 v (eraseZ τ y zx).2.length ((eraseZ τ y zx).2.flatMap evC)] := by
 refine Fn.intro Tryz.func120 rfl rfl fun F W => ?_
 have hfew := hy.few
 have hpl := hy.plen
 have hpar := parent_len y.path
 have hof := ho.few
 refine .sr (.oq (.box rfl) ?_)
 rintro v L' ⟨bx, rfl, rfl⟩
 refine .a rfl (.nil (.ptCast (b := bx) (l' := ptC y) (by repeat' constructor) rfl (.then_n (.sr (.u (.fieldAddr rfl fo_37_1) (.u (.ld rfl ag_9) (.cv Tryz.func123 [_] (rable_spec y.path (by omega)) ?_)))))))
 refine .an rfl (.seq (.sm rfl (.u (.not rfl) (.nt (.condN rfl (fun h18 => ?_) (fun h18 => ?_))))))
 ·refine .sr (.an rfl (.rt (.add (slR_nil 150 3) ?_)))
  have hc : eraseZ τ y zx = (τ, []) := by unfold eraseZ; rw [if_neg h18]
  refine .rfCast (x := x) (τ' := (eraseZ τ y zx).1) (by repeat' constructor) (by rw [hc]) (.slCast (T := 150) (sz := 3) (m' := (eraseZ τ y zx).2.length) (xs' := (eraseZ τ y zx).2.flatMap evC) (by repeat' constructor) (by (rw [hc]; try rfl)) (by (rw [hc]; try rfl)) ?_)
  exact .dn rfl rfl ⟨_, _, by (rw [hc]; try rfl), rfl⟩
 refine .sk (.sr (.u (.fieldAddr rfl fo_37_1) (.u (.ld rfl ag_9) (.cv Tryz.func83 [_] (rparent_spec y.path (by omega)) ?_))))
 refine .an rfl (.sm rfl (.u (.fieldAddr rfl fo_37_1) (.u (.ld rfl ag_9) (.cv Tryz.func82 [_, _] (rplace_spec x τ y.path (by omega)) ?_))))
 refine .ui rfl rfl rfl (.an rfl (.seq (.add (slR_nil 129 12) (.rtOpen (x := x) (τ := τ) (by repeat' constructor) fun an cn as1 cs l hl => ?_))))
 have hll := nds_len hl
 refine .region (.an rfl (.seq (.sr (.an rfl (.block (.loopK (ι := Nat × Value) (fun q E => (11, vint q.1) :: (10, q.2) :: E) (fun q => [rnR q.2 ((l.take q.1).filter fun w => !hitT w.1 y.path)]) (fun q => q.1 ≤ l.length ∧ ∃ a c, q.2 = .slice a ((l.take q.1).filter fun w => !hitT w.1 y.path).length c) (fun q => l.length - q.1) (0, .slice none 0 0) (ts := [0, 2, 4, 6, 8, 9]) (.cons rfl (.cons rfl (.cons rfl (.cons rfl (.cons rfl (.cons rfl (.nil))))))) (⟨Nat.zero_le _, none, 0, rfl⟩) ⟨rfl, rfl, rfl, rfl, rfl, rfl, rfl, rfl, trivial⟩ (by repeat' constructor) ?_))))))
 rintro ⟨i, u⟩ ⟨hi, au, cu, hu⟩
 dsimp only
 dsimp only at hi hu
 subst hu
 have hfl := List.length_filter_le (fun w : Rno => !hitT w.1 y.path) (l.take i)
 rw [List.length_take] at hfl
 refine .seq (.sm rfl (.m rfl (.nf rfl fo_87_0 (.u (.ld rfl ag_73) (.q (.slen rfl Tryz.underlying73 rfl) rfl (.ui rfl rfl rfl (.nt (.condD rfl (fun h33 => ?_) (fun h33 => ?_)))))))))
 ·have hi2 : i < l.length := by omega
  have hpi : l[i].1.length ≤ 60 := by have := nds_get hl hi2; have h2 := able_len (ho.able _ (List.getElem_mem (l := τ.nodes) (n := i) (by omega))); rw [this] at h2; exact h2
  refine .slShape (T := 129) (sz := 12) (v := .slice an l.length cn) (xs := l.flatMap rnC) (by repeat' constructor) (by omega) fun bn bn' e0 mbn _ => ?_
  simp only [Value.slice.injEq, true_and] at e0
  obtain ⟨rfl, rfl⟩ := e0
  refine .sk (.seq (.block (.seq (.draw [10] [[0, 1, 2, 3, 4, 5, 6, 7, 8, 9, 10], [11]] mixed (by kernel_rfl) (.g0 (.mv rfl rfl (.nf rfl rfl rfl fo_87_0 (.kv rfl (.ld rfl ag_73) (.mv rfl rfl (.kv rfl (.indexAddr rfl rfl el_73 (by omega)) (.kv rfl (.fieldAddr rfl fo_129_0) (.kv rfl (.loadRd (sz := 12) (j := i * 12 + 0) (p := rnR _ l) rfl ag_9 (by repeat' constructor) (fun h hp => slR_rd hp) (by omega) ((rn_cell (l := l) (i := i) (k := 0) (by omega) (by decide)).trans rfl)) (.kv rfl (.fieldAddr rfl fo_37_1) (.kv rfl (.ld rfl ag_9) (.hh rfl (.c Tryz.func147 [_, _] (runder_spec l[i].1 y.path (by omega))) ?_)))))))))))))))
  rintro v L' ⟨rfl, rfl⟩
  refine D.ph (.g0 (.kv rfl (.assign rfl) (.pf (.seq (.draw [] [[0, 1, 2, 3, 4, 5, 6, 7, 8, 9, 10, 11, 12, 13, 14]] mixed (by kernel_rfl) (.g0 (.mv rfl rfl (.nf rfl rfl rfl fo_87_0 (.kv rfl (.ld rfl ag_73) (.mv rfl rfl (.kv rfl (.indexAddr rfl rfl el_73 (by omega)) (.kv rfl (.fieldAddr rfl fo_129_0) (.kv rfl (.loadRd (sz := 12) (j := i * 12 + 0) (p := rnR _ l) rfl ag_9 (by repeat' constructor) (fun h hp => slR_rd hp) (by omega) ((rn_cell (l := l) (i := i) (k := 0) (by omega) (by decide)).trans rfl)) (.kv rfl (.fieldAddr rfl fo_37_1) (.kv rfl (.ld rfl ag_9) (.kv rfl (.strne rfl rfl) (.mv rfl rfl (.ndec (t := 58) rfl (fun h11_58 => ?_) (fun h11_58 => ?_)))))))))))))))))))
  ·refine D.kNT (t := 57) rfl h11_58 (.gv rfl (.move rfl) (.gv rfl (.not rfl) (.kv rfl (.pickT rfl rfl) (.pf (.condN rfl (fun h61 => ?_) (fun h61 => ?_))))))
   ·have hhit : hitT l[i].1 y.path = false := by unfold hitT; rw [decide_eq_false h11_58, decide_eq_false h61]; rfl
    refine .aclShape (l := l) (i := i) hi2 (by repeat' constructor) fun hcl => (.region (.m rfl (.m rfl (.nf rfl fo_87_0 (.u (.ld rfl ag_73) (.m rfl (.q (.indexAddr rfl rfl el_73 (by omega)) rfl (.q (.loadRdA (sz := 12) (j := i * 12) (k := 12) (p := rnR _ l) (vs := rnC l[i]) rfl ag_129 (by repeat' constructor) (fun h hp => slR_rd hp) (by omega) (by omega) (by omega) (flatMap_at (f := rnC) (sz := 12) (fun _ _ => rfl) (by omega))) rfl (.oq (.buildSlice (vs := [_]) el_73 ze_129 rfl rfl rfl rfl (by first | (simp [Value.cells]; done) | (intro v hv; simp only [List.mem_cons, List.not_mem_nil, or_false] at hv; (repeat (first | (subst hv; rfl) | (rcases hv with hv | hv; (subst hv; rfl)))))) (by decide)) ?_)))))))))
    rintro v L' ⟨b12_8, rfl, rfl⟩
    refine .oq (.append1 rfl rfl rfl el_73 ze_129 rfl rfl ?c63 ?c64 (Nat.le_refl _) ?c65 (by decide)) ?_
    case c63 => first | exact rn_cells hcl | (simp only [List.map_cons, List.map_nil, List.flatten_cons, List.flatten_nil, List.append_nil]; exact rn_cells hcl)
    case c64 => rfl
    case c65 => first | omega | (simp; omega)
    rintro v L' ⟨⟨a12_9, c12_9, rfl⟩, rfl⟩
    refine .a rfl (.nil (.blk_n (.then_n (.region (.m rfl (.q (.add rfl rfl (by omega)) rfl (.an rfl ?_)))))))
    have hst : ((l.take (i + 1)).filter fun w => !hitT w.1 y.path) = ((l.take i).filter fun w => !hitT w.1 y.path) ++ [l[i]] := by rw [List.take_succ_eq_append_getElem hi2, List.filter_append]; simp [hhit]
    rw [show ((l.take i).filter fun w => !hitT w.1 y.path).length + 1 = ((l.take (i + 1)).filter fun w => !hitT w.1 y.path).length by rw [hst, List.length_append]; rfl]
    refine .slCast (T := 129) (sz := 12) (m' := ((l.take (i + 1)).filter fun w => !hitT w.1 y.path).length) (xs' := ((l.take (i + 1)).filter fun w => !hitT w.1 y.path).flatMap rnC) (by repeat' constructor) rfl (by rw [hst, List.flatMap_append]; simp; rfl) ?_
    exact .rk ((i + 1, .slice a12_9 ((l.take (i + 1)).filter fun w => !hitT w.1 y.path).length c12_9)) (⟨by dsimp only; omega, _, _, rfl⟩) (by dsimp only; omega) ⟨rfl, rfl, rfl, rfl, rfl, rfl, rfl, rfl, trivial⟩
   refine .skip (.blk_n (.then_n (.region (.m rfl (.q (.add rfl rfl (by omega)) rfl (.an rfl ?_))))))
   have hhit : hitT l[i].1 y.path = true := by unfold hitT; rw [decide_eq_true (p := underZ l[i].1 y.path) (by simpa using h61), Bool.or_true]
   have hst : ((l.take (i + 1)).filter fun w => !hitT w.1 y.path) = ((l.take i).filter fun w => !hitT w.1 y.path) := by rw [List.take_succ_eq_append_getElem hi2, List.filter_append]; simp [hhit]
   rw [← hst]
   exact .rk ((i + 1, .slice au ((l.take (i + 1)).filter fun w => !hitT w.1 y.path).length cu)) (⟨by dsimp only; omega, _, _, rfl⟩) (by dsimp only; omega) ⟨rfl, rfl, rfl, rfl, rfl, rfl, rfl, rfl, trivial⟩
  refine D.kNF (t := 57) rfl h11_58 (.gz rfl (.gz rfl (.kv rfl (.pickF rfl rfl) (.pf (.condF rfl (.skip (.blk_n (.then_n (.region (.m rfl (.q (.add rfl rfl (by omega)) rfl (.an rfl ?_))))))))))))
  have hhit : hitT l[i].1 y.path = true := by unfold hitT; rw [decide_eq_true h11_58]; rfl
  have hst : ((l.take (i + 1)).filter fun w => !hitT w.1 y.path) = ((l.take i).filter fun w => !hitT w.1 y.path) := by rw [List.take_succ_eq_append_getElem hi2, List.filter_append]; simp [hhit]
  rw [← hst]
  exact .rk ((i + 1, .slice au ((l.take (i + 1)).filter fun w => !hitT w.1 y.path).length cu)) (⟨by dsimp only; omega, _, _, rfl⟩) (by dsimp only; omega) ⟨rfl, rfl, rfl, rfl, rfl, rfl, rfl, rfl, trivial⟩
 have hii : i = l.length := by omega
 subst hii
 rw [List.take_length]
 refine .exit (.then_e (.then_e (.blk_e (.then_n (.sm rfl (.m rfl (.nf rfl fo_87_0 (.st rfl rfl rfl sz_73 ?_))))))))
 refine .nil (.bigSub (l := (l.filter fun w => !hitT w.1 y.path)) List.filter_sublist (by repeat' constructor) (.rtFold (x := x) (τ := (cutT τ y.path)) (l := (l.filter fun w => !hitT w.1 y.path)) (by rw [nds_filter (fun q => !hitT q y.path), hl]; rfl) (by repeat' constructor) rfl rfl rfl rfl rfl (.then_n (.sm rfl (.m rfl (.u (.fieldAddr rfl fo_37_5) (.u (.ld rfl ag_3) (.m rfl (.oq (.c Tryz.func146 [_, _, _, _] (rkid7_spec x (cutT τ y.path) (parentZ y.path) y.num zx N (ho.cut y.path) (by omega))) ?_)))))))))
 rintro v L' ⟨rfl, rfl⟩; have hoK := (ho.cut y.path).kid (parentZ y.path) y.num zx; have hofk := hoK.few
 refine .nt (.seq (.sm rfl (.u (.not rfl) (.nt (.condN rfl (fun h83 => ?_) (fun h83 => ?_))))))
 ·have hth : ¬ thereT τ y.path := fun g => h83 (place_iff.2 g)
  refine .sr (.an rfl (.rt (.add (slR_nil 150 3) ?_)))
  have hc : eraseZ τ y zx = ((kidT (cutT τ y.path) (parentZ y.path) y.num zx), []) := by unfold eraseZ; rw [if_pos h18, if_neg hth]
  refine .rfCast (x := x) (τ' := (eraseZ τ y zx).1) (by repeat' constructor) (by rw [hc]) (.slCast (T := 150) (sz := 3) (m' := (eraseZ τ y zx).2.length) (xs' := (eraseZ τ y zx).2.flatMap evC) (by repeat' constructor) (by (rw [hc]; try rfl)) (by (rw [hc]; try rfl)) ?_)
  exact .dn rfl rfl ⟨_, _, by (rw [hc]; try rfl), rfl⟩
 have hth : thereT τ y.path := place_iff.1 h83
 refine .sk (.sr (.u (.fieldAddr rfl fo_37_1) (.u (.ld rfl ag_9) (.m rfl (.q (.build (us := [(0, _), (1, _), (2, _)]) fl_150 ze_150 rfl rfl (by simp [isCell])) rfl (.oq (.buildSlice (vs := [_]) el_30 ze_150 rfl rfl rfl rfl (by first | (simp [Value.cells]; done) | (intro v hv; simp only [List.mem_cons, List.not_mem_nil, or_false] at hv; (repeat (first | (subst hv; rfl) | (rcases hv with hv | hv; (subst hv; rfl)))))) (by decide)) ?_))))))
 rintro v L' ⟨bo, rfl, rfl⟩
 refine .a rfl (.nil (.slMakeN 3 1 (b := bo) (xs := ([(2, (y.path, zx))] : List Ev).flatMap evC) (by repeat' constructor) rfl rfl (.then_n (.seq (.sm rfl (.m rfl (.cv Tryz.func82 [_, _] (rplace_spec x (kidT (cutT τ y.path) (parentZ y.path) y.num zx) (parentZ y.path) (by omega)) ?_)))))))
 refine .ui rfl rfl rfl (.nt (.condD rfl (fun h92 => ?_) (fun h92 => ?_)))
 ·refine .region (.m rfl (.m rfl (.m rfl (.q (.build (us := [(0, _), (1, _), (2, _)]) fl_150 ze_150 rfl rfl (by simp [isCell])) rfl (.oq (.buildSlice (vs := [_]) el_30 ze_150 rfl rfl rfl rfl (by first | (simp [Value.cells]; done) | (intro v hv; simp only [List.mem_cons, List.not_mem_nil, or_false] at hv; (repeat (first | (subst hv; rfl) | (rcases hv with hv | hv; (subst hv; rfl)))))) (by decide)) ?_)))))
  rintro v L' ⟨b19_4, rfl, rfl⟩
  refine .oq (.append1 rfl rfl rfl el_30 ze_150 rfl rfl ?c108 ?c109 (Nat.le_refl _) ?c110 (by decide)) ?_
  case c108 => (first | (simp [isCell]; done) | (simp [isCell, setAll, Value.cells]; done))
  case c109 => rfl
  case c110 => omega
  rintro v L' ⟨⟨a19_5, c19_5, rfl⟩, rfl⟩
  refine .an rfl (.sm rfl (.an rfl (.ret ?_)))
  have hc : eraseZ τ y zx = ((kidT (cutT τ y.path) (parentZ y.path) y.num zx), [(2, (y.path, zx)), (4, (parentZ y.path, zx))]) := by unfold eraseZ; rw [if_pos h18, if_pos hth, if_pos (show thereT (cutT τ y.path) (parentZ y.path) from kid_there.1 (place_iff.1 h92))]
  refine .rfCast (x := x) (τ' := (eraseZ τ y zx).1) (by repeat' constructor) (by rw [hc]) (.slCast (T := 150) (sz := 3) (m' := (eraseZ τ y zx).2.length) (xs' := (eraseZ τ y zx).2.flatMap evC) (by repeat' constructor) (by (rw [hc]; try rfl)) (by (rw [hc]; try rfl)) ?_)
  exact .dn rfl rfl ⟨_, _, by (rw [hc]; try rfl), rfl⟩
 refine .sk (.sm rfl (.an rfl (.ret ?_)))
 have hc : eraseZ τ y zx = ((kidT (cutT τ y.path) (parentZ y.path) y.num zx), [(2, (y.path, zx))]) := by unfold eraseZ; rw [if_pos h18, if_pos hth, if_neg (show ¬ thereT (cutT τ y.path) (parentZ y.path) from fun g => h92 (place_iff.2 (kid_there.2 g)))]
 refine .rfCast (x := x) (τ' := (eraseZ τ y zx).1) (by repeat' constructor) (by rw [hc]) (.slCast (T := 150) (sz := 3) (m' := (eraseZ τ y zx).2.length) (xs' := (eraseZ τ y zx).2.flatMap evC) (by repeat' constructor) (by (rw [hc]; try rfl)) (by (rw [hc]; try rfl)) ?_)
 exact .dn rfl rfl ⟨_, _, by (rw [hc]; try rfl), rfl⟩
theorem rpart_spec (x : Nat) (τ : Tr) (y : Pt) (zx : Int) (p : HP) (hy : PtA p y) (N : Nat) (ho : τ.Ok N) (hN : N + 1 ≤ 1073741824) : Fn Tryz.prog 79 #[vptr x, .agg (ptC y).toArray, vint zx] [refR x τ, p] fun v L => ∃ a c, v = .slice a (partZ τ y zx).2.length c ∧ L = [refR x (partZ τ y zx).1, p, slR 150 3 v (partZ τ y zx).2.length ((partZ τ y zx).2.flatMap evC)] := by
 refine Fn.intro Tryz.func79 rfl rfl fun F W => ?_
 have hfew := hy.few
 have hpl := hy.plen
 have hof := ho.few
 have hnd := ho.sorted.nodup linB
 refine .sr (.oq (.box rfl) ?_)
 rintro v L' ⟨bx, rfl, rfl⟩
 refine .a rfl (.nil (.ptCast (b := bx) (l' := ptC y) (by repeat' constructor) rfl (.then_n (.sm rfl (.u (.fieldAddr rfl fo_37_1) (.u (.ld rfl ag_9) (.cv Tryz.func82 [_, _] (rplace_spec x τ y.path (by omega)) ?_)))))))
 refine .an rfl (.seq (.sr (.u (.fieldAddr rfl fo_37_0) (.u (.ld rfl ag_3) (.nt (.block (.sr (.ui rfl rfl rfl (.an rfl (.condD rfl (fun h14 => ?_) (fun h14 => ?_)))))))))))
 ·refine .sm rfl (.q (.loadAs (vs := ptC y) rfl ag_37 (by repeat' constructor) (by simp [ptC]) rfl) rfl (.m rfl (.oq (.c Tryz.func119 [_, _, _] (rcreate_spec x τ y zx p hy N ho hN)) ?_)))
  rintro v L' ⟨a4, c4, rfl, rfl⟩
  refine .an rfl (.ret (.blk_r (.then_r ?_)))
  have hc : partZ τ y zx = createZ τ y zx := by unfold partZ; rw [if_pos h14]
  refine .rfCast (x := x) (τ' := (partZ τ y zx).1) (by repeat' constructor) (by rw [hc]) (.slCast (T := 150) (sz := 3) (m' := (partZ τ y zx).2.length) (xs' := (partZ τ y zx).2.flatMap evC) (by repeat' constructor) (by (rw [hc]; try rfl)) (by (rw [hc]; try rfl)) ?_)
  exact .dn rfl rfl ⟨_, _, by (rw [hc]; try rfl), rfl⟩
 refine .sr (.ui rfl rfl rfl (.an rfl (.condD rfl (fun h20 => ?_) (fun h20 => ?_))))
 ·refine .sm rfl (.q (.loadAs (vs := ptC y) rfl ag_37 (by repeat' constructor) (by simp [ptC]) rfl) rfl (.m rfl (.oq (.c Tryz.func120 [_, _, _] (rerase_spec x τ y zx p hy N ho hN)) ?_)))
  rintro v L' ⟨a6, c6, rfl, rfl⟩
  refine .an rfl (.ret (.blk_r (.then_r ?_)))
  have hc : partZ τ y zx = eraseZ τ y zx := by unfold partZ; rw [if_neg h14, if_pos h20]
  refine .rfCast (x := x) (τ' := (partZ τ y zx).1) (by repeat' constructor) (by rw [hc]) (.slCast (T := 150) (sz := 3) (m' := (partZ τ y zx).2.length) (xs' := (partZ τ y zx).2.flatMap evC) (by repeat' constructor) (by (rw [hc]; try rfl)) (by (rw [hc]; try rfl)) ?_)
  exact .dn rfl rfl ⟨_, _, by (rw [hc]; try rfl), rfl⟩
 refine .sr (.ui rfl rfl rfl (.an rfl (.condD rfl (fun h26 => ?_) (fun h26 => ?_))))
 ·refine .sm rfl (.ui rfl rfl rfl (.nt (.condD rfl (fun h29 => ?_) (fun h29 => ?_))))
  ·obtain ⟨k, hk, hpk, hkp⟩ := place_get (l := τ.nodes) h29
   have hpz : placeZ τ y.path = k := hpk
   rw [hpz]
   refine .rtOpen (x := x) (τ := τ) (by repeat' constructor) fun an cn as1 cs l hl => ?_
   have hll := nds_len hl
   have hkl : k < l.length := by omega
   have hlk : l[k].1 = y.path := by have := nds_get hl hkl; rw [← hkp]; simp only [this]
   refine .slShape (T := 129) (sz := 12) (v := .slice an l.length cn) (xs := l.flatMap rnC) (by repeat' constructor) (by omega) fun bn bn' e0 mbn _ => ?_
   simp only [Value.slice.injEq, true_and] at e0
   obtain ⟨rfl, rfl⟩ := e0
   refine .seq (.draw [9] [[0, 1, 2, 3, 4, 5, 6, 7, 8, 9]] mixed (by kernel_rfl) (.g0 (.mv rfl rfl (.nf rfl rfl rfl fo_87_0 (.kv rfl (.ld rfl ag_73) (.mv rfl rfl (.kv rfl (.fieldAddr rfl fo_37_2) (.kv rfl (.ld rfl ag_9) (.kv rfl (.indexAddr rfl rfl el_73 (by omega)) (.kv rfl (.fieldAddr rfl fo_129_1) (.hh rfl (.storeRd (sz := 12) (j := k * 12 + 1) rfl rfl ?hv33 sz_9 ?ho34 ?hi35) ?_)))))))))))
   case hv33 => first | rfl | assumption
   case ho34 => omega
   case hi35 => omega
   rintro v L' rfl
   refine D.ph (.fin (.slCast (T := 129) (sz := 12) (m' := l.length) (xs' := (l.set k (l[k].1, (l[k].2.1, { l[k].2.2 with data := y.data }))).flatMap rnC) (by repeat' constructor) rfl (flatMap_set (f := rnC) (sz := 12) (fun _ => rfl) (by simpa using hkl) (by decide) (by rfl)) (.then_n (.seq (.draw [10] [[0, 1, 2, 3, 4, 5, 6, 7, 8, 9, 10]] mixed (by kernel_rfl) (.g0 (.mv rfl rfl (.nf rfl rfl rfl fo_87_0 (.kv rfl (.ld rfl ag_73) (.mv rfl rfl (.kv rfl (.fieldAddr rfl fo_37_5) (.kv rfl (.ld rfl ag_3) (.kv rfl (.indexAddr rfl rfl el_73 (by omega)) (.kv rfl (.fieldAddr rfl fo_129_3) (.kv rfl (.fieldAddr rfl fo_92_3) (.hh rfl (.storeRd (sz := 12) (j := k * 12 + 6) rfl rfl ?hv46 sz_3 ?ho47 ?hi48) ?_))))))))))))))))
   case hv46 => first | rfl | assumption
   case ho47 => omega
   case hi48 => omega
   rintro v L' rfl
   refine D.ph (.fin (.slCast (T := 129) (sz := 12) (m' := l.length) (xs' := ((l.set k (l[k].1, (l[k].2.1, { l[k].2.2 with data := y.data }))).set k (l[k].1, (l[k].2.1, { l[k].2.2 with data := y.data, st := { l[k].2.2.st with ver := y.num } }))).flatMap rnC) (by repeat' constructor) rfl (flatMap_set (f := rnC) (sz := 12) (fun _ => rfl) (by simpa using hkl) (by decide) (by rw [List.getElem_set_self]; rfl)) ?_))
   rw [List.set_set]
   refine .then_n (.sm rfl (.nf rfl fo_87_0 (.u (.ld rfl ag_73) (.m rfl (.m rfl (.q (.indexAddr rfl rfl el_73 (by omega)) rfl (.u (.fieldAddr rfl fo_129_3) (.u (.fieldAddr rfl fo_92_1) (.oq (.storeRd (sz := 12) (j := k * 12 + 4) rfl rfl ?hv58 sz_3 ?ho59 ?hi60) ?_)))))))))
   case hv58 => first | rfl | assumption
   case ho59 => omega
   case hi60 => omega
   rintro v L' rfl
   refine .nil (.slCast (T := 129) (sz := 12) (m' := l.length) (xs' := ((l.set k (l[k].1, (l[k].2.1, { l[k].2.2 with data := y.data, st := { l[k].2.2.st with ver := y.num } }))).set k (l[k].1, (l[k].2.1, setN y.data y.num zx l[k].2.2))).flatMap rnC) (by repeat' constructor) rfl (flatMap_set (f := rnC) (sz := 12) (fun _ => rfl) (by simpa using hkl) (by decide) (by rw [List.getElem_set_self]; rfl)) ?_)
   rw [List.set_set]
   refine .bigSet (y := (l[k].1, (l[k].2.1, setN y.data y.num zx l[k].2.2))) hkl (by rfl) (by repeat' constructor) (.rtFold (x := x) (τ := ({ τ with nodes := amod τ.nodes y.path (setN y.data y.num zx) } : Tr)) (l := (l.set k (l[k].1, (l[k].2.1, setN y.data y.num zx l[k].2.2)))) (nds_mod hl hnd hkl hlk (setN y.data y.num zx) rfl) (by repeat' constructor) rfl (by simp) rfl rfl rfl (.then_n (.sr (.u (.fieldAddr rfl fo_37_1) (.u (.ld rfl ag_9) (.m rfl (.q (.build (us := [(0, _), (1, _), (2, _)]) fl_150 ze_150 rfl rfl (by simp [isCell])) rfl (.oq (.buildSlice (vs := [_]) el_30 ze_150 rfl rfl rfl rfl (by first | (simp [Value.cells]; done) | (intro v hv; simp only [List.mem_cons, List.not_mem_nil, or_false] at hv; (repeat (first | (subst hv; rfl) | (rcases hv with hv | hv; (subst hv; rfl)))))) (by decide)) ?_))))))))
   rintro v L' ⟨bo, rfl, rfl⟩
   refine .a rfl (.nil (.slMakeN 3 1 (b := bo) (xs := ([(3, (y.path, zx))] : List Ev).flatMap evC) (by repeat' constructor) rfl rfl (.then_n (.ret (.blk_r (.then_r ?_))))))
   have hc : partZ τ y zx = (({ τ with nodes := amod τ.nodes y.path (setN y.data y.num zx) } : Tr), [(3, (y.path, zx))]) := by unfold partZ; rw [if_neg h14, if_neg h20, if_pos ⟨h26, place_iff.1 h29⟩]
   refine .rfCast (x := x) (τ' := (partZ τ y zx).1) (by repeat' constructor) (by rw [hc]) (.slCast (T := 150) (sz := 3) (m' := (partZ τ y zx).2.length) (xs' := (partZ τ y zx).2.flatMap evC) (by repeat' constructor) (by (rw [hc]; try rfl)) (by (rw [hc]; try rfl)) ?_)
   exact .dn rfl rfl ⟨_, _, by (rw [hc]; try rfl), rfl⟩
  refine .skip (.blk_n (.then_n (.sr (.an rfl (.ret (.add (slR_nil 150 3) ?_))))))
  have hc : partZ τ y zx = (τ, []) := by unfold partZ; rw [if_neg h14, if_neg h20, if_neg (fun g => h29 (place_iff.2 g.2)), if_neg (fun g => h29 (place_iff.2 g.2))]
  refine .rfCast (x := x) (τ' := (partZ τ y zx).1) (by repeat' constructor) (by rw [hc]) (.slCast (T := 150) (sz := 3) (m' := (partZ τ y zx).2.length) (xs' := (partZ τ y zx).2.flatMap evC) (by repeat' constructor) (by (rw [hc]; try rfl)) (by (rw [hc]; try rfl)) ?_)
  exact .dn rfl rfl ⟨_, _, by (rw [hc]; try rfl), rfl⟩
 refine .sr (.ui rfl rfl rfl (.an rfl (.condD rfl (fun h63 => ?_) (fun h63 => ?_))))
 ·refine .sm rfl (.ui rfl rfl rfl (.nt (.condD rfl (fun h66 => ?_) (fun h66 => ?_))))
  ·obtain ⟨k, hk, hpk, hkp⟩ := place_get (l := τ.nodes) h66
   have hpz : placeZ τ y.path = k := hpk
   rw [hpz]
   refine .rtOpen (x := x) (τ := τ) (by repeat' constructor) fun an cn as1 cs l hl => ?_
   have hll := nds_len hl
   have hkl : k < l.length := by omega
   have hlk : l[k].1 = y.path := by have := nds_get hl hkl; rw [← hkp]; simp only [this]
   refine .slShape (T := 129) (sz := 12) (v := .slice an l.length cn) (xs := l.flatMap rnC) (by repeat' constructor) (by omega) fun bn bn' e0 mbn _ => ?_
   simp only [Value.slice.injEq, true_and] at e0
   obtain ⟨rfl, rfl⟩ := e0
   refine .seq (.draw [7, 10] [[0, 1, 2, 3, 4, 5, 6, 7], [8, 9, 10]] mixed (by kernel_rfl) (.go [ptc bx _ _, ptc x _ _] (by repeat' constructor) (.k rfl (.move rfl) (.k rfl (.nilp rfl) (.k rfl (.fieldAddr rfl fo_87_0) (.k rfl (.ld rfl ag_73) (.k rfl (.move rfl) (.kv rfl (.fieldAddr rfl fo_37_3) (.kv rfl (.ld rfl ag_34) (.hh rfl (.c Tryz.func110 [_] (rrows_spec y.aclV y.acl p hy.acl hfew)) ?_))))))))))
   rintro v L' ⟨⟨a15, c15, rfl⟩, rfl⟩
   refine D.ph (.g0 (.kv rfl (.indexAddr rfl rfl el_73 (by omega)) (.kv rfl (.fieldAddr rfl fo_129_2) (.hh rfl (.storeRd (sz := 12) (j := k * 12 + 2) rfl rfl ?hv81 sz_34 ?ho82 ?hi83) ?_))))
   case hv81 => first | rfl | assumption
   case ho82 => omega
   case hi83 => omega
   rintro v L' rfl
   refine D.ph (.fin (.slCast (T := 129) (sz := 12) (m' := l.length) (xs' := (l.set k (l[k].1, (.slice a15 y.acl.length c15, { l[k].2.2 with acl := y.acl }))).flatMap rnC) (by repeat' constructor) rfl (flatMap_set (f := rnC) (sz := 12) (fun _ => rfl) (by simpa using hkl) (by decide) (by rfl)) (.then_n (.draw [10] [[0, 1, 2, 3, 4, 5, 6, 7, 8, 9, 10]] mixed (by kernel_rfl) (.g0 (.mv rfl rfl (.nf rfl rfl rfl fo_87_0 (.kv rfl (.ld rfl ag_73) (.mv rfl rfl (.kv rfl (.fieldAddr rfl fo_37_5) (.kv rfl (.ld rfl ag_3) (.kv rfl (.indexAddr rfl rfl el_73 (by omega)) (.kv rfl (.fieldAddr rfl fo_129_3) (.kv rfl (.fieldAddr rfl fo_92_5) (.hh rfl (.storeRd (sz := 12) (j := k * 12 + 8) rfl rfl ?hv94 sz_3 ?ho95 ?hi96) ?_)))))))))))))))
   case hv94 => first | rfl | assumption
   case ho95 => omega
   case hi96 => omega
   rintro v L' rfl
   refine D.ph (.fin (.slCast (T := 129) (sz := 12) (m' := l.length) (xs' := ((l.set k (l[k].1, (.slice a15 y.acl.length c15, { l[k].2.2 with acl := y.acl }))).set k (l[k].1, (.slice a15 y.acl.length c15, aclN y.acl y.num l[k].2.2))).flatMap rnC) (by repeat' constructor) rfl (flatMap_set (f := rnC) (sz := 12) (fun _ => rfl) (by simpa using hkl) (by decide) (by rw [List.getElem_set_self]; rfl)) ?_))
   rw [List.set_set]
   refine .toRd (v := .slice a15 y.acl.length c15) (by repeat' constructor) (.bigRep (l[k].1, (.slice a15 y.acl.length c15, aclN y.acl y.num l[k].2.2)) hkl (p := rdO 2 (.slice a15 y.acl.length c15) y.acl.length (y.acl.flatMap acC)) rfl (by repeat' constructor) (.rtFold (x := x) (τ := ({ τ with nodes := amod τ.nodes y.path (aclN y.acl y.num) } : Tr)) (l := (l.set k (l[k].1, (.slice a15 y.acl.length c15, aclN y.acl y.num l[k].2.2)))) (nds_mod hl hnd hkl hlk (aclN y.acl y.num) rfl) (by repeat' constructor) rfl (by simp) rfl rfl rfl (.blk_n (.then_n (.sr (.an rfl (.ret (.add (slR_nil 150 3) ?_))))))))
   have hc : partZ τ y zx = (({ τ with nodes := amod τ.nodes y.path (aclN y.acl y.num) } : Tr), []) := by unfold partZ; rw [if_neg h14, if_neg h20, if_neg (fun g => h26 g.1), if_pos ⟨h63, place_iff.1 h66⟩]
   refine .rfCast (x := x) (τ' := (partZ τ y zx).1) (by repeat' constructor) (by rw [hc]) (.slCast (T := 150) (sz := 3) (m' := (partZ τ y zx).2.length) (xs' := (partZ τ y zx).2.flatMap evC) (by repeat' constructor) (by (rw [hc]; try rfl)) (by (rw [hc]; try rfl)) ?_)
   exact .dn rfl rfl ⟨_, _, by (rw [hc]; try rfl), rfl⟩
  refine .skip (.blk_n (.then_n (.sr (.an rfl (.ret (.add (slR_nil 150 3) ?_))))))
  have hc : partZ τ y zx = (τ, []) := by unfold partZ; rw [if_neg h14, if_neg h20, if_neg (fun g => h26 g.1), if_neg (fun g => h66 (place_iff.2 g.2))]
  refine .rfCast (x := x) (τ' := (partZ τ y zx).1) (by repeat' constructor) (by rw [hc]) (.slCast (T := 150) (sz := 3) (m' := (partZ τ y zx).2.length) (xs' := (partZ τ y zx).2.flatMap evC) (by repeat' constructor) (by (rw [hc]; try rfl)) (by (rw [hc]; try rfl)) ?_)
  exact .dn rfl rfl ⟨_, _, by (rw [hc]; try rfl), rfl⟩
 refine .skip (.blk_n (.then_n (.sr (.an rfl (.ret (.add (slR_nil 150 3) ?_))))))
 have hc : partZ τ y zx = (τ, []) := by unfold partZ; rw [if_neg h14, if_neg h20, if_neg (fun g => h26 g.1), if_neg (fun g => h63 g.1)]
 refine .rfCast (x := x) (τ' := (partZ τ y zx).1) (by repeat' constructor) (by rw [hc]) (.slCast (T := 150) (sz := 3) (m' := (partZ τ y zx).2.length) (xs' := (partZ τ y zx).2.flatMap evC) (by repeat' constructor) (by (rw [hc]; try rfl)) (by (rw [hc]; try rfl)) ?_)
 exact .dn rfl rfl ⟨_, _, by (rw [hc]; try rfl), rfl⟩
theorem rs_cells (z : Int × (Int × Bs)) : ∀ y ∈ (Value.agg (rsC z).toArray).cells.toList, isCell y = true := by
 intro v hv
 simp only [Value.cells, rsC, List.mem_cons, List.not_mem_nil, or_false] at hv
 rcases hv with rfl | rfl | rfl <;> rfl
theorem rsl_cells (l : SsM) : ∀ y ∈ l.flatMap rsC, isCell y = true := by
 intro y hy
 obtain ⟨a, -, h⟩ := List.mem_flatMap.1 hy
 simp only [rsC, List.mem_cons, List.not_mem_nil, or_false] at h
 rcases h with rfl | rfl | rfl <;> rfl
theorem rdrop_spec (x : Nat) (τ : Tr) (id : Int) (hN : τ.sess.length ≤ 1073741824) : Fn Tryz.prog 80 #[vptr x, vint id] [refR x τ] fun v L => v = .tuple #[] ∧ L = [refR x (dropS τ id)] := by
 refine Fn.intro Tryz.func80 rfl rfl fun F W => ?_
 refine .rtOpen (x := x) (τ := τ) (by repeat' constructor) fun an cn as1 cs l hl => (.add (slR_nil 127 3) (.sr (.an rfl (.seq (.sr (.an rfl (.block (.loopK (ι := Nat × Value) (fun q E => (5, vint q.1) :: (4, q.2) :: E) (fun q => [rsR q.2 ((τ.sess.take q.1).filter fun w => !decide (w.1 = id))]) (fun q => q.1 ≤ τ.sess.length ∧ ∃ a c, q.2 = .slice a ((τ.sess.take q.1).filter fun w => !decide (w.1 = id)).length c) (fun q => τ.sess.length - q.1) (0, .slice none 0 0) (ts := [0, 1]) (.cons rfl (.cons rfl (.nil))) (⟨Nat.zero_le _, none, 0, rfl⟩) ⟨rfl, rfl, rfl, rfl, trivial⟩ (by repeat' constructor) ?_))))))))
 rintro ⟨i, u⟩ ⟨hi, au, cu, hu⟩
 dsimp only
 dsimp only at hi hu
 subst hu
 have hfl := List.length_filter_le (fun w : Int × (Int × Bs) => !decide (w.1 = id)) (τ.sess.take i)
 rw [List.length_take] at hfl
 refine .seq (.sm rfl (.m rfl (.nf rfl fo_87_1 (.u (.ld rfl ag_59) (.q (.slen rfl Tryz.underlying59 rfl) rfl (.ui rfl rfl rfl (.nt (.condD rfl (fun h12 => ?_) (fun h12 => ?_)))))))))
 ·have hi2 : i < τ.sess.length := by omega
  refine .slShape (T := 127) (sz := 3) (v := .slice as1 τ.sess.length cs) (xs := τ.sess.flatMap rsC) (by repeat' constructor) (by omega) fun bs bs' e0 mbs _ => ?_
  simp only [Value.slice.injEq, true_and] at e0
  obtain ⟨rfl, rfl⟩ := e0
  refine .sk (.seq (.block (.sm rfl (.nf rfl fo_87_1 (.u (.ld rfl ag_59) (.m rfl (.q (.indexAddr rfl rfl el_59 (by omega)) rfl (.u (.fieldAddr rfl fo_127_0) (.q (.loadRd (sz := 3) (j := i * 3 + 0) (p := rsR _ τ.sess) rfl ag_3 (by repeat' constructor) (fun h hp => slR_rd hp) (by omega) ((rs_cell (l := τ.sess) (i := i) (k := 0) (by omega) (by decide)).trans rfl)) rfl (.m rfl (.ui rfl rfl rfl (.nt (.condN rfl (fun h24 => ?_) (fun h24 => ?_))))))))))))))
  ·refine .region (.m rfl (.m rfl (.nf rfl fo_87_1 (.u (.ld rfl ag_59) (.m rfl (.q (.indexAddr rfl rfl el_59 (by omega)) rfl (.q (.loadRdA (sz := 3) (j := i * 3) (k := 3) (p := rsR _ τ.sess) (vs := rsC τ.sess[i]) rfl ag_127 (by repeat' constructor) (fun h hp => slR_rd hp) (by omega) (by omega) (by omega) (flatMap_at (f := rsC) (sz := 3) (fun _ _ => rfl) (by omega))) rfl (.oq (.buildSlice (vs := [_]) el_59 ze_127 rfl rfl rfl rfl (by first | (simp [Value.cells]; done) | (intro v hv; simp only [List.mem_cons, List.not_mem_nil, or_false] at hv; (repeat (first | (subst hv; rfl) | (rcases hv with hv | hv; (subst hv; rfl)))))) (by decide)) ?_))))))))
   rintro v L' ⟨b5_8, rfl, rfl⟩
   refine .oq (.append1 rfl rfl rfl el_59 ze_127 rfl rfl ?c30 ?c31 (Nat.le_refl _) ?c32 (by decide)) ?_
   case c30 => first | exact rs_cells _ | (simp only [List.map_cons, List.map_nil, List.flatten_cons, List.flatten_nil, List.append_nil]; exact rs_cells _)
   case c31 => rfl
   case c32 => first | omega | (simp; omega)
   rintro v L' ⟨⟨a5_9, c5_9, rfl⟩, rfl⟩
   refine .a rfl (.nil (.blk_n (.then_n (.region (.m rfl (.q (.add rfl rfl (by omega)) rfl (.an rfl ?_)))))))
   have hst : ((τ.sess.take (i + 1)).filter fun w => !decide (w.1 = id)) = ((τ.sess.take i).filter fun w => !decide (w.1 = id)) ++ [τ.sess[i]] := by rw [List.take_succ_eq_append_getElem hi2, List.filter_append]; simp [show ¬ τ.sess[i].1 = id from h24]
   rw [show ((τ.sess.take i).filter fun w => !decide (w.1 = id)).length + 1 = ((τ.sess.take (i + 1)).filter fun w => !decide (w.1 = id)).length by rw [hst, List.length_append]; rfl]
   refine .slCast (T := 127) (sz := 3) (m' := ((τ.sess.take (i + 1)).filter fun w => !decide (w.1 = id)).length) (xs' := ((τ.sess.take (i + 1)).filter fun w => !decide (w.1 = id)).flatMap rsC) (by repeat' constructor) rfl (by rw [hst, List.flatMap_append]; simp; rfl) ?_
   exact .rk ((i + 1, .slice a5_9 ((τ.sess.take (i + 1)).filter fun w => !decide (w.1 = id)).length c5_9)) (⟨by dsimp only; omega, _, _, rfl⟩) (by dsimp only; omega) ⟨rfl, rfl, rfl, rfl, trivial⟩
  refine .skip (.blk_n (.then_n (.region (.m rfl (.q (.add rfl rfl (by omega)) rfl (.an rfl ?_))))))
  have hst : ((τ.sess.take (i + 1)).filter fun w => !decide (w.1 = id)) = ((τ.sess.take i).filter fun w => !decide (w.1 = id)) := by rw [List.take_succ_eq_append_getElem hi2, List.filter_append]; simp [show τ.sess[i].1 = id from h24]
  rw [← hst]
  exact .rk ((i + 1, .slice au ((τ.sess.take (i + 1)).filter fun w => !decide (w.1 = id)).length cu)) (⟨by dsimp only; omega, _, _, rfl⟩) (by dsimp only; omega) ⟨rfl, rfl, rfl, rfl, trivial⟩
 have hii : i = τ.sess.length := by omega
 subst hii
 rw [List.take_length]
 refine .exit (.then_e (.then_e (.blk_e (.then_n (.region (.m rfl (.m rfl (.nf rfl fo_87_1 (.st rfl rfl rfl sz_59 ?_)))))))))
 refine .nil (.done_n (.rtFold (x := x) (τ := (dropS τ id)) (l := l) hl (by repeat' constructor) rfl rfl rfl rfl rfl ?_))
 exact .vv
theorem ropen_spec (x : Nat) (τ : Tr) (id n : Int) (s : Bs) (N : Nat) (ho : τ.Ok N) (hN : τ.sess.length ≤ 1073741824) : Fn Tryz.prog 78 #[vptr x, .agg (rsC (id, (n, s))).toArray] [refR x τ] fun v L => v = .tuple #[] ∧ L = [refR x (openS τ id n s)] := by
 refine Fn.intro Tryz.func78 rfl rfl fun F W => ?_
 have hsl : (dropS τ id).sess.length ≤ τ.sess.length := List.length_filter_le _ _
 refine .sr (.oq (.box rfl) ?_)
 rintro v L' ⟨bz, rfl, rfl⟩
 refine .nil (.ptCast (b := bz) (l' := rsC (id, (n, s))) (by repeat' constructor) rfl (.then_n (.sm rfl (.u (.fieldAddr rfl fo_127_0) (.u (.ld rfl ag_3) (.cv Tryz.func80 [_, _] (rdrop_spec x τ id hN) ?_))))))
 refine .nt (.seq (.rtOpen (x := x) (τ := (dropS τ id)) (by repeat' constructor) fun an cn as1 cs l hl => (.region (.slForm (T := 127) (sz := 3) (a := as1) (m := (dropS τ id).sess.length) (c := cs) (by repeat' constructor) (fun e0 e1 e2 => ?_) (fun bs e0 e1 => ?_)))))
 ·subst e0
  refine .an rfl (.seq (.joinK (ι := Nat) (fun q E => (4, vint q) :: E) (fun q => []) (fun q => q ≤ (dropS τ id).sess.length ∧ (∀ w ∈ ((dropS τ id).sess.take q), w.1 < id) ∧ ∀ h : q < (dropS τ id).sess.length, ¬ (dropS τ id).sess[q].1 < id) (pre := []) (ts := [0, 3]) (.cons rfl (.cons rfl (.nil))) (by repeat' constructor) ?_ ?_))
  ·refine .block (.loopK (ι := Nat) (fun q E => (4, vint q) :: E) (fun q => []) (fun q => q ≤ (dropS τ id).sess.length ∧ ∀ w ∈ ((dropS τ id).sess.take q), w.1 < id) (fun q => (dropS τ id).sess.length - q) (0) (ts := [0, 3]) (.cons rfl (.cons rfl (.nil))) (⟨Nat.zero_le _, by simp⟩) ⟨rfl, rfl, rfl, trivial⟩ (by repeat' constructor) ?_)
   rintro i ⟨hi, hlow⟩
   refine .seq (.seq (.draw [] [[0, 1, 2, 3, 4, 5, 6, 7, 8, 9, 10, 11, 12, 13, 14, 15, 16, 17, 18, 19]] mixed (by kernel_rfl) (.g0 (.mv rfl rfl (.mv rfl rfl (.nf rfl rfl rfl fo_87_1 (.kv rfl (.ld rfl ag_59) (.kv rfl (.slen rfl Tryz.underlying59 rfl) (.kv rfl (.int rfl rfl rfl) (.mv rfl rfl (.dec (t := 17) rfl (fun h3_17 => ?_) (fun h3_17 => ?_))))))))))))
   ·exfalso; omega
   refine D.kDF (t := 16) rfl h3_17 (.gz rfl (.gz rfl (.gz rfl (.gz rfl (.gz rfl (.gz rfl (.gz rfl (.gz rfl (.gz rfl (.gz rfl (.gz rfl (.kv rfl (.pickF rfl rfl) (.pf (.condF rfl (.exit (.then_e (.then_e (.blk_e (.then_n ?_)))))))))))))))))))
   exact .mk (i) (⟨hi, hlow, fun h => absurd h (by omega)⟩) ⟨rfl, rfl, rfl, trivial⟩
  rintro i ⟨hi, hlow, hhigh⟩
  refine .seq (.add (slR_nil 127 3) (.region (.an rfl (.seq ?_))))
  have hadr : (none : Option Addr) = none ∨ ∃ b off, (none : Option Addr) = some (⟨b, off, none⟩ : Addr) := .inl rfl
  refine .region (.m rfl (.m rfl (.nf rfl fo_87_1 (.u (.ld rfl ag_59) (.m rfl (.q (.to (v' := .slice (none : Option Addr) i cs) (.slTo (j := (i : Int)) rfl el_59 rfl (by omega) hadr) (by rw [Int.toNat_natCast])) rfl (.oq (.append (n := 0) (m := i) (ys := ((dropS τ id).sess.take i).flatMap rsC) (p := slR 127 3 (.slice (none : Option Addr) (dropS τ id).sess.length cs) (dropS τ id).sess.length ((dropS τ id).sess.flatMap rsC)) rfl rfl rfl el_59 (.inl ⟨_, Tryz.underlying59⟩) ze_127 rfl rfl ?hc24 ?hr25 ?hb26 (by decide)) ?_)))))))
  case hc24 => exact rsl_cells _
  case hr25 => exact fun h hp => by have := slR_rd_to hi hp; rw [(flat_take (f := rsC) (sz := 3) (fun _ => rfl) _ i).1] at this; exact this
  case hb26 => omega
  rintro v L' ⟨⟨a6, c6, rfl⟩, rfl⟩; rw [Nat.zero_add, List.nil_append]
  refine .an rfl (.sm rfl (.q (.loadAs (vs := rsC (id, (n, s))) rfl ag_127 (by repeat' constructor) (by simp [rsC]) rfl) rfl (.oq (.buildSlice (vs := [_]) el_59 ze_127 rfl rfl rfl rfl (by first | (simp [Value.cells]; done) | (intro v hv; simp only [List.mem_cons, List.not_mem_nil, or_false] at hv; (repeat (first | (subst hv; rfl) | (rcases hv with hv | hv; (subst hv; rfl)))))) (by decide)) ?_)))
  rintro v L' ⟨b7_2, rfl, rfl⟩
  refine .oq (.append1 rfl rfl rfl el_59 ze_127 rfl rfl ?c32 ?c33 (Nat.le_refl _) ?c34 (by decide)) ?_
  case c32 => first | exact rs_cells _ | (simp only [List.map_cons, List.map_nil, List.flatten_cons, List.flatten_nil, List.append_nil]; exact rs_cells _)
  case c33 => rfl
  case c34 => first | omega | (simp; omega)
  rintro v L' ⟨⟨a7_3, c7_3, rfl⟩, rfl⟩
  refine .a rfl (.nil (.slCast (T := 127) (sz := 3) (m' := i + 1) (xs' := (((dropS τ id).sess.take i) ++ [(id, (n, s))]).flatMap rsC) (by repeat' constructor) rfl (by rw [List.flatMap_append]; simp; rfl) (.then_n (.region (.m rfl (.m rfl (.m rfl (.nf rfl fo_87_1 (.u (.ld rfl ag_59) (.m rfl (.q (.slFromO (i := (i : Int)) rfl el_59 rfl (by omega)) rfl (.oq (.append (n := i + 1) (m := (dropS τ id).sess.length - (i : Int).toNat) (ys := ((dropS τ id).sess.drop i).flatMap rsC) (p := slR 127 3 (.slice (none : Option Addr) (dropS τ id).sess.length cs) (dropS τ id).sess.length ((dropS τ id).sess.flatMap rsC)) rfl rfl rfl el_59 (.inl ⟨_, Tryz.underlying59⟩) ze_127 rfl rfl ?hc44 ?hr45 ?hb46 (by decide)) ?_))))))))))))
  case hc44 => exact rsl_cells _
  case hr45 => exact fun h hp => by rw [Int.toNat_natCast]; have := slR_rd_from hi hp; rw [(flat_take (f := rsC) (sz := 3) (fun _ => rfl) _ i).2] at this; exact this
  case hb46 => omega
  rintro v L' ⟨⟨a8, c8, rfl⟩, rfl⟩
  refine .nf rfl fo_87_1 (.st rfl rfl rfl sz_59 ?_)
  refine .nil (.done_n ?_)
  have hfin : ((dropS τ id).sess.take i) ++ [(id, (n, s))] ++ ((dropS τ id).sess.drop i) = (openS τ id n s).sess := by rw [sset_at hi hlow hhigh (fun w hw => by have := (List.mem_filter.1 hw).2; simpa using this), ← open_drop ho id n s]; rfl
  have hlen : i + 1 + ((dropS τ id).sess.length - (i : Int).toNat) = (openS τ id n s).sess.length := by rw [← hfin]; simp; omega
  refine .rtFold (x := x) (τ := (openS τ id n s)) (l := l) hl (by repeat' constructor) rfl rfl rfl hlen (by rw [← List.flatMap_append, hfin]) ?_
  exact .vv
 subst e0
 refine .an rfl (.seq (.joinK (ι := Nat) (fun q E => (4, vint q) :: E) (fun q => []) (fun q => q ≤ (dropS τ id).sess.length ∧ (∀ w ∈ ((dropS τ id).sess.take q), w.1 < id) ∧ ∀ h : q < (dropS τ id).sess.length, ¬ (dropS τ id).sess[q].1 < id) (pre := []) (ts := [0, 3]) (.cons rfl (.cons rfl (.nil))) (by repeat' constructor) ?_ ?_))
 ·refine .block (.loopK (ι := Nat) (fun q E => (4, vint q) :: E) (fun q => []) (fun q => q ≤ (dropS τ id).sess.length ∧ ∀ w ∈ ((dropS τ id).sess.take q), w.1 < id) (fun q => (dropS τ id).sess.length - q) (0) (ts := [0, 3]) (.cons rfl (.cons rfl (.nil))) (⟨Nat.zero_le _, by simp⟩) ⟨rfl, rfl, rfl, trivial⟩ (by repeat' constructor) ?_)
  rintro i ⟨hi, hlow⟩
  refine .seq (.seq (.draw [] [[0, 1, 2, 3, 4, 5, 6, 7, 8, 9, 10, 11, 12, 13, 14, 15, 16, 17, 18, 19]] mixed (by kernel_rfl) (.g0 (.mv rfl rfl (.mv rfl rfl (.nf rfl rfl rfl fo_87_1 (.kv rfl (.ld rfl ag_59) (.kv rfl (.slen rfl Tryz.underlying59 rfl) (.kv rfl (.int rfl rfl rfl) (.mv rfl rfl (.dec (t := 17) rfl (fun h3_17 => ?_) (fun h3_17 => ?_))))))))))))
  ·have hi2 : i < (dropS τ id).sess.length := by omega
   refine D.kDT (t := 16) rfl h3_17 (.gv rfl (.move rfl) (.gv rfl (.nilp rfl) (.gv rfl (.fieldAddr rfl fo_87_1) (.gv rfl (.ld rfl ag_59) (.gv rfl (.move rfl) (.gv rfl (.indexAddr rfl rfl el_59 (by omega)) (.gv rfl (.fieldAddr rfl fo_127_0) (.gv rfl (.loadRd (sz := 3) (j := i * 3 + 0) (p := rsR _ (dropS τ id).sess) rfl ag_3 (by repeat' constructor) (fun h hp => slR_rd hp) (by omega) ((rs_cell (l := (dropS τ id).sess) (i := i) (k := 0) (by omega) (by decide)).trans rfl)) (.gv rfl (.fieldAddr rfl fo_127_0) (.gv rfl (.load rfl ag_3 (by repeat' constructor) rfl) (.gv rfl (.int rfl rfl rfl) (.kv rfl (.pickT rfl rfl) (.pf (.condD rfl (fun h29 => ?_) (fun h29 => ?_)))))))))))))))
   ·refine .sk (.block (.region (.m rfl (.q (.add rfl rfl (by omega)) rfl (.a rfl (.nil (.blk_n (.then_n ?_))))))))
    exact .rk (i + 1) (⟨by omega, fun w hw => by rw [List.take_succ_eq_append_getElem hi2] at hw; rcases List.mem_append.1 hw with hw | hw; (exact hlow w hw); (rw [List.mem_singleton] at hw; rw [hw]; exact h29)⟩) (by omega) ⟨rfl, rfl, rfl, trivial⟩
   refine .exit (.then_e (.then_e (.blk_e (.then_n ?_))))
   exact .mk (i) (⟨hi, hlow, fun h => h29⟩) ⟨rfl, rfl, rfl, trivial⟩
  refine D.kDF (t := 16) rfl h3_17 (.gz rfl (.gz rfl (.gz rfl (.gz rfl (.gz rfl (.gz rfl (.gz rfl (.gz rfl (.gz rfl (.gz rfl (.gz rfl (.kv rfl (.pickF rfl rfl) (.pf (.condF rfl (.exit (.then_e (.then_e (.blk_e (.then_n ?_)))))))))))))))))))
  exact .mk (i) (⟨hi, hlow, fun h => absurd h (by omega)⟩) ⟨rfl, rfl, rfl, trivial⟩
 rintro i ⟨hi, hlow, hhigh⟩
 refine .seq (.add (slR_nil 127 3) (.region (.an rfl (.seq ?_))))
 have hadr : (some (⟨bs, 0, none⟩ : Addr)) = none ∨ ∃ b off, (some (⟨bs, 0, none⟩ : Addr)) = some (⟨b, off, none⟩ : Addr) := .inr ⟨_, _, rfl⟩
 refine .region (.m rfl (.m rfl (.nf rfl fo_87_1 (.u (.ld rfl ag_59) (.m rfl (.q (.to (v' := .slice (some (⟨bs, 0, none⟩ : Addr)) i cs) (.slTo (j := (i : Int)) rfl el_59 rfl (by omega) hadr) (by rw [Int.toNat_natCast])) rfl (.oq (.append (n := 0) (m := i) (ys := ((dropS τ id).sess.take i).flatMap rsC) (p := slR 127 3 (.slice (some (⟨bs, 0, none⟩ : Addr)) (dropS τ id).sess.length cs) (dropS τ id).sess.length ((dropS τ id).sess.flatMap rsC)) rfl rfl rfl el_59 (.inl ⟨_, Tryz.underlying59⟩) ze_127 rfl rfl ?hc83 ?hr84 ?hb85 (by decide)) ?_)))))))
 case hc83 => exact rsl_cells _
 case hr84 => exact fun h hp => by have := slR_rd_to hi hp; rw [(flat_take (f := rsC) (sz := 3) (fun _ => rfl) _ i).1] at this; exact this
 case hb85 => omega
 rintro v L' ⟨⟨a6, c6, rfl⟩, rfl⟩; rw [Nat.zero_add, List.nil_append]
 refine .an rfl (.sm rfl (.q (.loadAs (vs := rsC (id, (n, s))) rfl ag_127 (by repeat' constructor) (by simp [rsC]) rfl) rfl (.oq (.buildSlice (vs := [_]) el_59 ze_127 rfl rfl rfl rfl (by first | (simp [Value.cells]; done) | (intro v hv; simp only [List.mem_cons, List.not_mem_nil, or_false] at hv; (repeat (first | (subst hv; rfl) | (rcases hv with hv | hv; (subst hv; rfl)))))) (by decide)) ?_)))
 rintro v L' ⟨b7_2, rfl, rfl⟩
 refine .oq (.append1 rfl rfl rfl el_59 ze_127 rfl rfl ?c91 ?c92 (Nat.le_refl _) ?c93 (by decide)) ?_
 case c91 => first | exact rs_cells _ | (simp only [List.map_cons, List.map_nil, List.flatten_cons, List.flatten_nil, List.append_nil]; exact rs_cells _)
 case c92 => rfl
 case c93 => first | omega | (simp; omega)
 rintro v L' ⟨⟨a7_3, c7_3, rfl⟩, rfl⟩
 refine .a rfl (.nil (.slCast (T := 127) (sz := 3) (m' := i + 1) (xs' := (((dropS τ id).sess.take i) ++ [(id, (n, s))]).flatMap rsC) (by repeat' constructor) rfl (by rw [List.flatMap_append]; simp; rfl) (.then_n (.region (.m rfl (.m rfl (.m rfl (.nf rfl fo_87_1 (.u (.ld rfl ag_59) (.m rfl (.q (.slFromO (i := (i : Int)) rfl el_59 rfl (by omega)) rfl (.oq (.append (n := i + 1) (m := (dropS τ id).sess.length - (i : Int).toNat) (ys := ((dropS τ id).sess.drop i).flatMap rsC) (p := slR 127 3 (.slice (some (⟨bs, 0, none⟩ : Addr)) (dropS τ id).sess.length cs) (dropS τ id).sess.length ((dropS τ id).sess.flatMap rsC)) rfl rfl rfl el_59 (.inl ⟨_, Tryz.underlying59⟩) ze_127 rfl rfl ?hc103 ?hr104 ?hb105 (by decide)) ?_))))))))))))
 case hc103 => exact rsl_cells _
 case hr104 => exact fun h hp => by rw [Int.toNat_natCast]; have := slR_rd_from hi hp; rw [(flat_take (f := rsC) (sz := 3) (fun _ => rfl) _ i).2] at this; exact this
 case hb105 => omega
 rintro v L' ⟨⟨a8, c8, rfl⟩, rfl⟩
 refine .nf rfl fo_87_1 (.st rfl rfl rfl sz_59 ?_)
 refine .nil (.done_n ?_)
 have hfin : ((dropS τ id).sess.take i) ++ [(id, (n, s))] ++ ((dropS τ id).sess.drop i) = (openS τ id n s).sess := by rw [sset_at hi hlow hhigh (fun w hw => by have := (List.mem_filter.1 hw).2; simpa using this), ← open_drop ho id n s]; rfl
 have hlen : i + 1 + ((dropS τ id).sess.length - (i : Int).toNat) = (openS τ id n s).sess.length := by rw [← hfin]; simp; omega
 refine .rtFold (x := x) (τ := (openS τ id n s)) (l := l) hl (by repeat' constructor) rfl rfl rfl hlen (by rw [← List.flatMap_append, hfin]) ?_
 exact .vv
theorem rkids_spec (x : Nat) (τ : Tr) (p : Bs) (N : Nat) (ho : τ.Ok N) (hN : N ≤ 1073741824) : Fn Tryz.prog 70 #[vptr x, vstr p] [refR x τ] fun v L => (∃ a c, v = .slice a (kidsZ τ p).length c) ∧ L = [refR x τ, slR 9 1 v (kidsZ τ p).length (strs (kidsZ τ p))] := by
 refine Fn.intro Tryz.func70 rfl rfl fun F W => ?_
 refine .rtOpen (x := x) (τ := τ) (by repeat' constructor) fun an cn as1 cs l hl => ?_
 have hll := nds_len hl
 have hofew := ho.few
 refine .add (slR_nil 9 1) (.sr (.an rfl (.sr (.an rfl (.seq (.sr (.an rfl (.block (.loopK (ι := Nat × Value) (fun q E => (6, vint q.1) :: (5, q.2) :: E) (fun q => [slR 9 1 q.2 (kidsN (l.take q.1) p).length (strs (kidsN (l.take q.1) p))]) (fun q => q.1 ≤ l.length ∧ ∃ a c, q.2 = .slice a (kidsN (l.take q.1) p).length c) (fun q => l.length - q.1) (0, .slice none 0 0) (ts := [0, 1, 4]) (.cons rfl (.cons rfl (.cons rfl (.nil)))) (⟨Nat.zero_le _, none, 0, rfl⟩) ⟨rfl, rfl, rfl, rfl, rfl, trivial⟩ (by repeat' constructor) ?_)))))))))
 rintro ⟨i, u⟩ ⟨hi, au, cu, hu⟩
 dsimp only
 dsimp only at hi hu
 subst hu
 have hkl := kidsN_len (l.take i) p
 rw [List.length_take] at hkl
 refine .seq (.sm rfl (.m rfl (.nf rfl fo_87_0 (.u (.ld rfl ag_73) (.q (.slen rfl Tryz.underlying73 rfl) rfl (.ui rfl rfl rfl (.nt (.condD rfl (fun h13 => ?_) (fun h13 => ?_)))))))))
 ·have hi2 : i < l.length := by omega
  have hpi : l[i].1.length ≤ 60 := by have := nds_get hl hi2; have h2 := able_len (ho.able _ (List.getElem_mem (l := τ.nodes) (n := i) (by omega))); rw [this] at h2; exact h2
  refine .slShape (T := 129) (sz := 12) (v := .slice an l.length cn) (xs := l.flatMap rnC) (by repeat' constructor) (by omega) fun bn bn' e0 mbn _ => ?_
  simp only [Value.slice.injEq, true_and] at e0
  obtain ⟨rfl, rfl⟩ := e0
  refine .sk (.seq (.block (.sm rfl (.nf rfl fo_87_0 (.u (.ld rfl ag_73) (.m rfl (.q (.indexAddr rfl rfl el_73 (by omega)) rfl (.u (.fieldAddr rfl fo_129_0) (.q (.loadRd (sz := 12) (j := i * 12 + 0) (p := rnR _ l) rfl ag_9 (by repeat' constructor) (fun h hp => slR_rd hp) (by omega) ((rn_cell (l := l) (i := i) (k := 0) (by omega) (by decide)).trans rfl)) rfl (.u (.strne rfl rfl) (.m rfl (.ndec (t := 25) rfl (fun h5_25 => ?_) (fun h5_25 => ?_)))))))))))))
  ·refine .kNT (t := 24) rfl h5_25 (.grun (t := 25) rfl rfl rfl (.m rfl (.grun (t := 25) rfl rfl rfl (.u (.nilp rfl) (.grun (t := 25) rfl rfl rfl (.u (.fieldAddr rfl fo_87_0) (.grun (t := 25) rfl rfl rfl (.u (.ld rfl ag_73) (.grun (t := 25) rfl rfl rfl (.m rfl (.grun (t := 25) rfl rfl rfl (.q (.indexAddr rfl rfl el_73 (by omega)) rfl (.grun (t := 25) rfl rfl rfl (.u (.fieldAddr rfl fo_129_0) (.grun (t := 25) rfl rfl rfl (.q (.loadRd (sz := 12) (j := i * 12 + 0) (p := rnR _ l) rfl ag_9 (by repeat' constructor) (fun h hp => slR_rd hp) (by omega) ((rn_cell (l := l) (i := i) (k := 0) (by omega) (by decide)).trans rfl)) rfl (.grun (t := 25) rfl rfl rfl (.cv Tryz.func83 [_] (rparent_spec l[i].1 (by omega)) ?_))))))))))))))))))
   refine .grun (t := 25) rfl rfl rfl (.m rfl (.grun (t := 25) rfl rfl rfl (.u (.streq rfl rfl) (.u (.pickT rfl rfl) (.nt (.condD rfl (fun h37 => ?_) (fun h37 => ?_)))))))
   ·refine .region (.m rfl (.m rfl (.nf rfl fo_87_0 (.u (.ld rfl ag_73) (.m rfl (.q (.indexAddr rfl rfl el_73 (by omega)) rfl (.u (.fieldAddr rfl fo_129_0) (.q (.loadRd (sz := 12) (j := i * 12 + 0) (p := rnR _ l) rfl ag_9 (by repeat' constructor) (fun h hp => slR_rd hp) (by omega) ((rn_cell (l := l) (i := i) (k := 0) (by omega) (by decide)).trans rfl)) rfl (.cv Tryz.func112 [_] (rbase_spec l[i].1 (by omega)) ?_)))))))))
    refine .oq (.buildSlice1 (vs := [_]) el_54 ze_9 rfl rfl rfl rfl rfl (by decide)) ?_
    rintro v L' ⟨b6_10, rfl, rfl⟩
    refine .oq (.append1 rfl rfl rfl el_54 ze_9 rfl rfl ?c45 ?c46 (Nat.le_refl _) ?c47 (by decide)) ?_
    case c45 => (first | (simp [isCell]; done) | (simp [isCell, setAll, Value.cells]; done))
    case c46 => rfl
    case c47 => first | omega | (simp; omega)
    rintro v L' ⟨⟨a6_11, c6_11, rfl⟩, rfl⟩
    refine .a rfl (.nil (.blk_n (.then_n (.region (.m rfl (.q (.add rfl rfl (by omega)) rfl (.an rfl ?_)))))))
    have hst : (kidsN (l.take (i + 1)) p) = (kidsN (l.take i) p) ++ [baseZ l[i].1] := by unfold kidsN; rw [List.take_succ_eq_append_getElem hi2, List.filter_append, List.map_append]; simp [show ¬ l[i].1 = [47] from h5_25, show parentZ l[i].1 = p from h37]
    rw [show strs (kidsN (l.take i) p) ++ [vstr (baseZ l[i].1)] = strs (kidsN (l.take (i + 1)) p) by rw [hst]; simp [strs], show (kidsN (l.take i) p).length + 1 = (kidsN (l.take (i + 1)) p).length by rw [hst, List.length_append]; rfl]
    exact .rk ((i + 1, .slice a6_11 (kidsN (l.take (i + 1)) p).length c6_11)) (⟨by dsimp only; omega, _, _, rfl⟩) (by dsimp only; omega) ⟨rfl, rfl, rfl, rfl, rfl, trivial⟩
   refine .skip (.blk_n (.then_n (.region (.m rfl (.q (.add rfl rfl (by omega)) rfl (.an rfl ?_))))))
   have hst : (kidsN (l.take (i + 1)) p) = (kidsN (l.take i) p) := by unfold kidsN; rw [List.take_succ_eq_append_getElem hi2, List.filter_append, List.map_append]; simp; exact fun g1 g2 => h37 g2
   rw [← hst]
   exact .rk ((i + 1, .slice au (kidsN (l.take (i + 1)) p).length cu)) (⟨by dsimp only; omega, _, _, rfl⟩) (by dsimp only; omega) ⟨rfl, rfl, rfl, rfl, rfl, trivial⟩
  refine .kNF (t := 24) rfl h5_25 (.gk (.gk (.gk (.gk (.gk (.gk (.gk (.gk (.gk (.gk (.gk (.u (.pickF rfl rfl) (.nt (.condF rfl (.skip (.blk_n (.then_n (.region (.m rfl (.q (.add rfl rfl (by omega)) rfl (.an rfl ?_)))))))))))))))))))))
  have hst : (kidsN (l.take (i + 1)) p) = (kidsN (l.take i) p) := by unfold kidsN; rw [List.take_succ_eq_append_getElem hi2, List.filter_append, List.map_append]; simp; exact fun g1 _ => g1 h5_25
  rw [← hst]
  exact .rk ((i + 1, .slice au (kidsN (l.take (i + 1)) p).length cu)) (⟨by dsimp only; omega, _, _, rfl⟩) (by dsimp only; omega) ⟨rfl, rfl, rfl, rfl, rfl, trivial⟩
 have hii : i = l.length := by omega
 rw [hii, List.take_length, kidsN_eq hl]
 refine .exit (.then_e (.then_e (.blk_e (.then_n (.sm rfl (.an rfl (.ret (.rtFold (x := x) (τ := τ) (l := l) hl (by repeat' constructor) rfl rfl rfl rfl rfl ?_))))))))
 exact .dn rfl rfl ⟨⟨_, _, rfl⟩, rfl⟩
theorem rowned_spec (x : Nat) (τ : Tr) (s : Int) (N : Nat) (ho : τ.Ok N) (hN : N ≤ 1073741824) : Fn Tryz.prog 72 #[vptr x, vint s] [refR x τ] fun v L => (∃ a c, v = .slice a (ownedZ τ s).length c) ∧ L = [refR x τ, slR 9 1 v (ownedZ τ s).length (strs (ownedZ τ s))] := by
 refine Fn.intro Tryz.func72 rfl rfl fun F W => ?_
 refine .rtOpen (x := x) (τ := τ) (by repeat' constructor) fun an cn as1 cs l hl => ?_
 have hll := nds_len hl
 have hofew := ho.few
 refine .add (slR_nil 9 1) (.sr (.an rfl (.sr (.an rfl (.seq (.sr (.an rfl (.block (.loopK (ι := Nat × Value) (fun q E => (6, vint q.1) :: (5, q.2) :: E) (fun q => [slR 9 1 q.2 (ownN (l.take q.1) s).length (strs (ownN (l.take q.1) s))]) (fun q => q.1 ≤ l.length ∧ ∃ a c, q.2 = .slice a (ownN (l.take q.1) s).length c) (fun q => l.length - q.1) (0, .slice none 0 0) (ts := [0, 1, 4]) (.cons rfl (.cons rfl (.cons rfl (.nil)))) (⟨Nat.zero_le _, none, 0, rfl⟩) ⟨rfl, rfl, rfl, rfl, rfl, trivial⟩ (by repeat' constructor) ?_)))))))))
 rintro ⟨i, u⟩ ⟨hi, au, cu, hu⟩
 dsimp only
 dsimp only at hi hu
 subst hu
 have hkl := ownN_len (l.take i) s
 rw [List.length_take] at hkl
 refine .seq (.sm rfl (.m rfl (.nf rfl fo_87_0 (.u (.ld rfl ag_73) (.q (.slen rfl Tryz.underlying73 rfl) rfl (.ui rfl rfl rfl (.nt (.condD rfl (fun h13 => ?_) (fun h13 => ?_)))))))))
 ·have hi2 : i < l.length := by omega
  have hpi : l[i].1.length ≤ 60 := by have := nds_get hl hi2; have h2 := able_len (ho.able _ (List.getElem_mem (l := τ.nodes) (n := i) (by omega))); rw [this] at h2; exact h2
  refine .slShape (T := 129) (sz := 12) (v := .slice an l.length cn) (xs := l.flatMap rnC) (by repeat' constructor) (by omega) fun bn bn' e0 mbn _ => ?_
  simp only [Value.slice.injEq, true_and] at e0
  obtain ⟨rfl, rfl⟩ := e0
  refine .sk (.seq (.block (.sm rfl (.ui rfl rfl rfl (.m rfl (.ndec (t := 18) rfl (fun h5_18 => ?_) (fun h5_18 => ?_)))))))
  ·refine .kNT (t := 17) rfl h5_18 (.grun (t := 18) rfl rfl rfl (.m rfl (.grun (t := 18) rfl rfl rfl (.u (.nilp rfl) (.grun (t := 18) rfl rfl rfl (.u (.fieldAddr rfl fo_87_0) (.grun (t := 18) rfl rfl rfl (.u (.ld rfl ag_73) (.grun (t := 18) rfl rfl rfl (.m rfl (.grun (t := 18) rfl rfl rfl (.q (.indexAddr rfl rfl el_73 (by omega)) rfl (.grun (t := 18) rfl rfl rfl (.u (.fieldAddr rfl fo_129_3) (.grun (t := 18) rfl rfl rfl (.u (.fieldAddr rfl fo_92_6) (.grun (t := 18) rfl rfl rfl (.q (.loadRd (sz := 12) (j := i * 12 + 9) (p := rnR _ l) rfl ag_3 (by repeat' constructor) (fun h hp => slR_rd hp) (by omega) ((rn_cell (l := l) (i := i) (k := 9) (by omega) (by decide)).trans rfl)) rfl (.grun (t := 18) rfl rfl rfl (.m rfl (.grun (t := 18) rfl rfl rfl (.ui rfl rfl rfl (.u (.pickT rfl rfl) (.nt (.condD rfl (fun h30 => ?_) (fun h30 => ?_))))))))))))))))))))))))))
   ·refine .region (.m rfl (.m rfl (.nf rfl fo_87_0 (.u (.ld rfl ag_73) (.m rfl (.q (.indexAddr rfl rfl el_73 (by omega)) rfl (.u (.fieldAddr rfl fo_129_0) (.q (.loadRd (sz := 12) (j := i * 12 + 0) (p := rnR _ l) rfl ag_9 (by repeat' constructor) (fun h hp => slR_rd hp) (by omega) ((rn_cell (l := l) (i := i) (k := 0) (by omega) (by decide)).trans rfl)) rfl (.oq (.buildSlice1 (vs := [_]) el_54 ze_9 rfl rfl rfl rfl rfl (by decide)) ?_)))))))))
    rintro v L' ⟨b6_9, rfl, rfl⟩
    refine .oq (.append1 rfl rfl rfl el_54 ze_9 rfl rfl ?c35 ?c36 (Nat.le_refl _) ?c37 (by decide)) ?_
    case c35 => (first | (simp [isCell]; done) | (simp [isCell, setAll, Value.cells]; done))
    case c36 => rfl
    case c37 => first | omega | (simp; omega)
    rintro v L' ⟨⟨a6_10, c6_10, rfl⟩, rfl⟩
    refine .a rfl (.nil (.blk_n (.then_n (.region (.m rfl (.q (.add rfl rfl (by omega)) rfl (.an rfl ?_)))))))
    have hst : (ownN (l.take (i + 1)) s) = (ownN (l.take i) s) ++ [l[i].1] := by unfold ownN; rw [List.take_succ_eq_append_getElem hi2, List.filter_append, List.map_append]; simp [show ¬ s = 0 from h5_18, show l[i].2.2.st.own = s from h30]
    rw [show strs (ownN (l.take i) s) ++ [vstr (l[i].1)] = strs (ownN (l.take (i + 1)) s) by rw [hst]; simp [strs], show (ownN (l.take i) s).length + 1 = (ownN (l.take (i + 1)) s).length by rw [hst, List.length_append]; rfl]
    exact .rk ((i + 1, .slice a6_10 (ownN (l.take (i + 1)) s).length c6_10)) (⟨by dsimp only; omega, _, _, rfl⟩) (by dsimp only; omega) ⟨rfl, rfl, rfl, rfl, rfl, trivial⟩
   refine .skip (.blk_n (.then_n (.region (.m rfl (.q (.add rfl rfl (by omega)) rfl (.an rfl ?_))))))
   have hst : (ownN (l.take (i + 1)) s) = (ownN (l.take i) s) := by unfold ownN; rw [List.take_succ_eq_append_getElem hi2, List.filter_append, List.map_append]; simp; exact fun g1 g2 => h30 g2
   rw [← hst]
   exact .rk ((i + 1, .slice au (ownN (l.take (i + 1)) s).length cu)) (⟨by dsimp only; omega, _, _, rfl⟩) (by dsimp only; omega) ⟨rfl, rfl, rfl, rfl, rfl, trivial⟩
  refine .kNF (t := 17) rfl h5_18 (.gk (.gk (.gk (.gk (.gk (.gk (.gk (.gk (.gk (.gk (.gk (.u (.pickF rfl rfl) (.nt (.condF rfl (.skip (.blk_n (.then_n (.region (.m rfl (.q (.add rfl rfl (by omega)) rfl (.an rfl ?_)))))))))))))))))))))
  have hst : (ownN (l.take (i + 1)) s) = (ownN (l.take i) s) := by unfold ownN; rw [List.take_succ_eq_append_getElem hi2, List.filter_append, List.map_append]; simp; exact fun g1 _ => g1 h5_18
  rw [← hst]
  exact .rk ((i + 1, .slice au (ownN (l.take (i + 1)) s).length cu)) (⟨by dsimp only; omega, _, _, rfl⟩) (by dsimp only; omega) ⟨rfl, rfl, rfl, rfl, rfl, trivial⟩
 have hii : i = l.length := by omega
 rw [hii, List.take_length, ownN_eq hl]
 refine .exit (.then_e (.then_e (.blk_e (.then_n (.sm rfl (.an rfl (.ret (.rtFold (x := x) (τ := τ) (l := l) hl (by repeat' constructor) rfl rfl rfl rfl rfl ?_))))))))
 exact .dn rfl rfl ⟨⟨_, _, rfl⟩, rfl⟩
/- not in this seat -/
theorem rclone_spec (x : Nat) (τ : Tr) (N : Nat) (ho : τ.Ok N) (hN : N ≤ 1073741824) : Fn Tryz.prog 81 #[vptr x] [refR x τ] fun v L => ∃ u, v = vptr u ∧ L = [refR u τ, refR x τ] := by
 refine Fn.intro Tryz.func81 rfl rfl fun F W => ?_
 refine .rtOpen (x := x) (τ := τ) (by repeat' constructor) fun an cn as1 cs l hl => ?_
 have hll := nds_len hl
 have hofew := ho.few
 have hosf := ho.sfew
 refine .sr (.an rfl (.sm rfl (.nf rfl fo_87_2 (.u (.ld rfl ag_3) (.q (.build (us := [(2, _)]) fl_87 ze_87 rfl rfl (by simp [isCell])) rfl (.oq (.box rfl) ?_))))))
 rintro v L' ⟨u, rfl, rfl⟩
 refine .an rfl (.seq (.add (slR_nil 127 3) (.ptCast (b := u) (l' := [.slice none 0 0, .slice none 0 0, vint τ.zx]) (by repeat' constructor) rfl (.draw [9, 12] [[0, 1, 2, 3, 4, 5, 6, 7, 8, 9], [10, 11, 12]] mixed (by kernel_rfl) (.go [ptc x _ _] (by repeat' constructor) (.k rfl (.move rfl) (.mv rfl rfl (.nf rfl rfl rfl fo_87_1 (.kv rfl (.ld rfl ag_59) (.mv rfl rfl (.nf rfl rfl rfl fo_87_1 (.kv rfl (.ld rfl ag_59) (.hh rfl (.append (n := 0) (m := τ.sess.length) (ys := τ.sess.flatMap rsC) (p := rsR (.slice as1 τ.sess.length cs) τ.sess) rfl rfl rfl el_59 (.inl ⟨_, Tryz.underlying59⟩) ze_127 rfl rfl ?hc16 ?hr17 ?hb18 (by decide)) ?_)))))))))))))
 case hc16 => exact rsl_cells _
 case hr17 => exact fun h hp => slR_rd hp
 case hb18 => omega
 rintro v L' ⟨⟨a2, c2, rfl⟩, rfl⟩; rw [Nat.zero_add, List.nil_append]
 refine D.ph (.g0 (.nf rfl rfl rfl fo_87_1 (.hh rfl (.store rfl rfl rfl sz_59 ?c23 (nfz0 _ _)) ?_)))
 case c23 => first | decide | (simp; omega) | simp
 rintro v L' rfl
 refine D.pf (.seq (.seq (.ptCast (b := u) (l' := [.slice none 0 0, .slice a2 τ.sess.length c2, vint τ.zx]) (by repeat' constructor) rfl (.add (slR_nil 129 12) (.add (p := bigR inA []) big_nil (.region (.an rfl (.block (.loopK (ι := Nat × Value × (List Rno)) (fun q E => (4, vint q.1) :: E) (fun q => [ptc u [q.2.1, .slice a2 τ.sess.length c2, vint τ.zx] 87, rnR q.2.1 q.2.2, bigR inA q.2.2]) (fun q => q.1 ≤ l.length ∧ ndsZ q.2.2 = ndsZ (l.take q.1) ∧ ∃ a c, q.2.1 = .slice a q.2.2.length c) (fun q => l.length - q.1) (0, .slice none 0 0, []) (ts := [0, 2, 3]) (.cons rfl (.cons rfl (.cons rfl (.nil)))) (⟨Nat.zero_le _, rfl, none, 0, rfl⟩) ⟨rfl, rfl, rfl, rfl, trivial⟩ (by repeat' constructor) ?_)))))))))
 rintro ⟨i, w, acc⟩ ⟨hi, hac, aw, cw, hw⟩
 dsimp only
 dsimp only at hi hac hw
 subst hw
 have hal : acc.length = i := by have := congrArg List.length hac; simp [ndsZ] at this; omega
 refine .seq (.sm rfl (.m rfl (.nf rfl fo_87_0 (.u (.ld rfl ag_73) (.q (.slen rfl Tryz.underlying73 rfl) rfl (.ui rfl rfl rfl (.nt (.condD rfl (fun h30 => ?_) (fun h30 => ?_)))))))))
 ·have hi2 : i < l.length := by omega
  refine .slShape (T := 129) (sz := 12) (v := .slice an l.length cn) (xs := l.flatMap rnC) (by repeat' constructor) (by omega) fun bn bn' e0 mbn _ => ?_
  simp only [Value.slice.injEq, true_and] at e0
  obtain ⟨rfl, rfl⟩ := e0
  refine .sk (.seq (.block (.seq (.aclShape (l := l) (i := i) hi2 (by repeat' constructor) fun hcl => (.region (.m rfl (.nf rfl fo_87_0 (.u (.ld rfl ag_73) (.m rfl (.q (.indexAddr rfl rfl el_73 (by omega)) rfl (.q (.loadRdA (sz := 12) (j := i * 12) (k := 12) (p := rnR _ l) (vs := rnC l[i]) rfl ag_129 (by repeat' constructor) (fun h hp => slR_rd hp) (by omega) (by omega) (by omega) (flatMap_at (f := rnC) (sz := 12) (fun _ _ => rfl) (by omega))) rfl (.oq (.allocA ze_129) ?_))))))))))))
  rintro v L' ⟨b5, rfl, rfl⟩
  refine .oq (.storeA rfl rfl ?c43 sz_129 ?c46 ?c44 (nfz0 _ _)) ?_
  case c43 => intro v hv; exact rn_cells hcl v (by simpa [Value.cells] using hv)
  case c46 => rfl
  case c44 => simp [rnC]
  rintro v L' rfl
  refine .nil (.ptCast (b := b5) (l' := rnC l[i]) (by repeat' constructor) rfl (.then_n (.sr (.u (.fieldAddr rfl fo_129_2) (.u (.ld rfl ag_34) (.oq (.call Tryz.func110 rfl rfl (vs := [_]) rfl (rrows_spec l[i].2.1 l[i].2.2.acl (bigR inA l) (big_rd hi2) (by have := ho.acls _ (List.getElem_mem (l := τ.nodes) (n := i) (by omega)); rw [nds_get hl hi2] at this; exact this))) ?_))))))
  rintro v L' ⟨⟨a7, c7, rfl⟩, rfl⟩
  refine .u (.fieldAddr rfl fo_129_2) (.oq (.store rfl rfl rfl sz_34 ?c53 (nfz0 _ _)) ?_)
  case c53 => simp [rnC]
  rintro v L' rfl
  refine .nil (.ptCast (b := b5) (l' := rnC ((l[i].1, (.slice a7 l[i].2.2.acl.length c7, l[i].2.2)) : Rno)) (by repeat' constructor) rfl (.then_n (.draw [6, 7, 10] [[0, 1, 2, 3, 4, 5, 6, 7], [8, 9, 10]] mixed (by kernel_rfl) (.go [ptc b5 _ _, ptc u _ _] (by repeat' constructor) (.k rfl (.move rfl) (.k rfl (.move rfl) (.k rfl (.nilp rfl) (.k rfl (.fieldAddr rfl fo_87_0) (.k rfl (.ld rfl ag_73) (.kv rfl (.loadAs (vs := rnC ((l[i].1, (.slice a7 l[i].2.2.acl.length c7, l[i].2.2)) : Rno)) rfl ag_129 (by repeat' constructor) (by simp [rnC]) rfl) (.hh rfl (.buildSlice (vs := [_]) el_73 ze_129 rfl rfl rfl rfl (by first | (simp [Value.cells]; done) | (intro v hv; simp only [List.mem_cons, List.not_mem_nil, or_false] at hv; (repeat (first | (subst hv; rfl) | (rcases hv with hv | hv; (subst hv; rfl)))))) (by decide)) ?_)))))))))))
  rintro v L' ⟨b8_6, rfl, rfl⟩
  refine D.hh rfl (.append1 rfl rfl rfl el_73 ze_129 rfl rfl ?c64 ?c65 (Nat.le_refl _) ?c66 (by decide)) ?_
  case c64 => first | exact rn_cells rfl | (simp only [List.map_cons, List.map_nil, List.flatten_cons, List.flatten_nil, List.append_nil]; exact rn_cells rfl)
  case c65 => rfl
  case c66 => first | omega | (simp; omega)
  rintro v L' ⟨⟨a8_7, c8_7, rfl⟩, rfl⟩
  refine D.ph (.g0 (.nf rfl rfl rfl fo_87_0 (.hh rfl (.store rfl rfl rfl sz_73 ?c71 (nfz0 _ _)) ?_)))
  case c71 => first | decide | (simp; omega) | simp
  rintro v L' rfl
  refine D.ph (.fin (.blk_n (.then_n (.region (.m rfl (.q (.add rfl rfl (by omega)) rfl (.an rfl (.toRd (v := .slice a7 l[i].2.2.acl.length c7) (by repeat' constructor) (.bigSnoc (l := acc) ((l[i].1, (.slice a7 l[i].2.2.acl.length c7, l[i].2.2)) : Rno) (p := rdO 2 (.slice a7 l[i].2.2.acl.length c7) l[i].2.2.acl.length (l[i].2.2.acl.flatMap acC)) rfl (by repeat' constructor) ?_)))))))))
  rw [show acc.length + 1 = (acc ++ [((l[i].1, (.slice a7 l[i].2.2.acl.length c7, l[i].2.2)) : Rno)]).length by rw [List.length_append]; rfl]
  refine .slCast (T := 129) (sz := 12) (m' := (acc ++ [((l[i].1, (.slice a7 l[i].2.2.acl.length c7, l[i].2.2)) : Rno)]).length) (xs' := (acc ++ [((l[i].1, (.slice a7 l[i].2.2.acl.length c7, l[i].2.2)) : Rno)]).flatMap rnC) (by repeat' constructor) rfl (by rw [List.flatMap_append]; simp; rfl) (.ptCast (b := u) (l' := [.slice a8_7 (acc ++ [((l[i].1, (.slice a7 l[i].2.2.acl.length c7, l[i].2.2)) : Rno)]).length c8_7, .slice a2 τ.sess.length c2, vint τ.zx]) (by repeat' constructor) rfl ?_)
  exact .rk ((i + 1, .slice a8_7 (acc ++ [((l[i].1, (.slice a7 l[i].2.2.acl.length c7, l[i].2.2)) : Rno)]).length c8_7, acc ++ [((l[i].1, (.slice a7 l[i].2.2.acl.length c7, l[i].2.2)) : Rno)])) (⟨by dsimp only; omega, by dsimp only; rw [List.take_succ_eq_append_getElem hi2]; unfold ndsZ at hac ⊢; rw [List.map_append, List.map_append, hac]; rfl, _, _, rfl⟩) (by dsimp only; omega) ⟨rfl, rfl, rfl, rfl, trivial⟩
 have hii : i = l.length := by omega
 rw [hii, List.take_length, hl] at hac
 refine .exit (.then_e (.then_e (.blk_e (.then_n (.sm rfl (.an rfl (.ret (.rtFold (x := u) (τ := τ) (l := acc) hac (by repeat' constructor) rfl rfl rfl rfl rfl (.rtFold (x := x) (τ := τ) (l := l) hl (by repeat' constructor) rfl rfl rfl rfl rfl ?_)))))))))
 exact .dn rfl rfl ⟨_, rfl, rfl⟩
def applyZ0 (τ : Tr) (zx : Int) (x : Pt) (subs : List Pt) : Tr × (List Ev × Int) :=
 if x.kind = 5 then (if 0 < x.own then openS τ x.own x.num x.data else τ, ([], 0))
 else if x.kind = 6 then (dropS (partsZ τ zx (subs.filter isDel)).1 x.own, ((partsZ τ zx (subs.filter isDel)).2, 0))
 else if x.kind = 7 then ((partsZ τ zx subs).1, ((partsZ τ zx subs).2, 0))
 else if x.kind = 8 then (τ, ([], x.err))
 else ((partZ τ x zx).1, ((partZ τ x zx).2, 0))
theorem part_zx (τ : Tr) (x : Pt) (zx z : Int) : partZ (zxT τ z) x zx = (zxT (partZ τ x zx).1 z, (partZ τ x zx).2) := by
 unfold partZ createZ eraseZ
 have h : ∀ p, thereT (zxT τ z) p ↔ thereT τ p := fun p => Iff.rfl
 simp only [h]
 repeat' split
 all_goals first | rfl | contradiction
theorem parts_zx (τ : Tr) (zx z : Int) (l : List Pt) : partsZ (zxT τ z) zx l = (zxT (partsZ τ zx l).1 z, (partsZ τ zx l).2) := by
 have key : ∀ (l : List Pt) (r : Tr × List Ev), l.foldl (fun r x => ((partZ r.1 x zx).1, r.2 ++ (partZ r.1 x zx).2)) (zxT r.1 z, r.2) = (zxT (l.foldl (fun r x => ((partZ r.1 x zx).1, r.2 ++ (partZ r.1 x zx).2)) r).1 z, (l.foldl (fun r x => ((partZ r.1 x zx).1, r.2 ++ (partZ r.1 x zx).2)) r).2) := by
  intro l
  induction l with
  | nil => intro r; rfl
  | cons x l ih =>
   intro r
   rw [List.foldl_cons, List.foldl_cons]
   dsimp only
   rw [part_zx]
   exact ih ((partZ r.1 x zx).1, r.2 ++ (partZ r.1 x zx).2)
 exact key l (τ, [])
theorem apply_zx (τ : Tr) (zx : Int) (x : Pt) (subs : List Pt) : applyZ τ zx x subs = (zxT (applyZ0 τ zx x subs).1 zx, (applyZ0 τ zx x subs).2) := by
 unfold applyZ applyZ0
 dsimp only
 rw [part_zx, parts_zx, parts_zx]
 repeat' split
 all_goals rfl
theorem rapply_spec (x : Nat) (τ : Tr) (zx ses xid : Int) (y : Pt) (subs : List Pt) (p : HP) (hx : TxA p y subs) (N : Nat) (ho : τ.Ok N) (hN : N + subs.length + 1 ≤ 1073741824) : Fn Tryz.prog 30 #[vptr x, .agg ([vint zx, vint ses, vint xid] ++ ptC y).toArray] [refR x τ, p] fun v L => ∃ u e, v = .tuple #[u, vint e] ∧ e = (applyZ τ zx y subs).2.2 ∧ (∃ a c, u = .slice a (applyZ τ zx y subs).2.1.length c) ∧ L = [refR x (applyZ τ zx y subs).1, p, slR 150 3 u (applyZ τ zx y subs).2.1.length ((applyZ τ zx y subs).2.1.flatMap evC)] := by
 refine Fn.intro Tryz.func30 rfl rfl fun F W => ?_
 refine .rdAny (p := p) hx.rd (by repeat' constructor) fun asb csb esub _ => ?_
 have hrd := hx.rd
 rw [esub] at hrd
 have hfs := hx.few
 have hosf := ho.sfew
 refine .sr (.oq (.box rfl) ?_)
 rintro v L' ⟨be, rfl, rfl⟩
 refine .a rfl (.a rfl (.nil (.ptCast (b := be) (l' := ([vint zx, vint ses, vint xid] ++ ptC y)) (by repeat' constructor) rfl (.then_n (.sr (.u (.fieldAddr rfl fo_39_3) (.q (.loadAs (vs := ptC y) rfl ag_37 (by repeat' constructor) (by simp [ptC]) rfl) rfl (.oq (.allocA ze_37) ?_))))))))
 rintro v L' ⟨bx, rfl, rfl⟩
 refine .oq (.storeA rfl rfl ?c9 sz_37 ?c12 ?c10 (nfz0 _ _)) ?_
 case c9 => exact hx.own.all
 case c12 => rfl
 case c10 => simp [ptC]
 rintro v L' rfl
 refine .nil (.ptCast (b := bx) (l' := ptC y) (by repeat' constructor) rfl (.then_n (.sr (.an rfl (.sr (.an rfl (.seq (.sr (.u (.fieldAddr rfl fo_37_0) (.u (.ld rfl ag_3) (.nt (.block (.sr (.ui rfl rfl rfl (.an rfl (.condD rfl (fun h20 => ?_) (fun h20 => ?_)))))))))))))))))
 ·refine .sr (.u (.fieldAddr rfl fo_37_4) (.u (.ld rfl ag_3) (.ui rfl rfl rfl (.nt (.condD rfl (fun h24 => ?_) (fun h24 => ?_))))))
  ·refine .region (.m rfl (.u (.fieldAddr rfl fo_37_4) (.u (.ld rfl ag_3) (.u (.fieldAddr rfl fo_37_5) (.u (.ld rfl ag_3) (.u (.fieldAddr rfl fo_37_2) (.u (.ld rfl ag_9) (.q (.to (v' := .agg (rsC (y.own, (y.num, y.data))).toArray) (.build (us := [(0, _), (1, _), (2, _)]) fl_127 ze_127 rfl rfl (by simp [isCell])) rfl) rfl (.cv Tryz.func78 [_, _] (ropen_spec x τ y.own y.num y.data N ho (by omega)) ?_)))))))))
   refine .nil (.blk_n (.then_n (.seq (.add (slR_nil 150 3) ?_))))
   have hz : (applyZ τ zx y subs) = (zxT (openS τ y.own y.num y.data) zx, ([], 0)) := by rw [apply_zx]; unfold applyZ0; rw [if_pos h20, if_pos (show 0 < y.own by omega)]
   refine .rtOpen (x := x) (τ := (openS τ y.own y.num y.data)) (by repeat' constructor) fun an cn as1 cs l hl => (.region (.m rfl (.u (.fieldAddr rfl fo_39_0) (.u (.ld rfl ag_3) (.nf rfl fo_87_2 (.st rfl rfl rfl sz_3 ?_))))))
   refine .nil (.rtFold (x := x) (τ := (zxT (openS τ y.own y.num y.data) zx)) (l := l) hl (by repeat' constructor) rfl rfl rfl rfl rfl (.then_n (.sm rfl (.m rfl (.a rfl (.an rfl (.ret (.rfCast (x := x) (τ' := (applyZ τ zx y subs).1) (by repeat' constructor) (by rw [hz]) (.slCast (T := 150) (sz := 3) (m' := (applyZ τ zx y subs).2.1.length) (xs' := (applyZ τ zx y subs).2.1.flatMap evC) (by repeat' constructor) (by (rw [hz]; try rfl)) (by (rw [hz]; try rfl)) ?_)))))))))
   exact .dn rfl rfl ⟨_, _, rfl, by rw [hz], ⟨_, _, by (rw [hz]; try rfl)⟩, rfl⟩
  refine .skip (.blk_n (.then_n (.seq (.add (slR_nil 150 3) ?_))))
  have hz : (applyZ τ zx y subs) = (zxT (τ) zx, ([], 0)) := by rw [apply_zx]; unfold applyZ0; rw [if_pos h20, if_neg (show ¬ 0 < y.own by omega)]
  refine .rtOpen (x := x) (τ := (τ)) (by repeat' constructor) fun an cn as1 cs l hl => (.region (.m rfl (.u (.fieldAddr rfl fo_39_0) (.u (.ld rfl ag_3) (.nf rfl fo_87_2 (.st rfl rfl rfl sz_3 ?_))))))
  refine .nil (.rtFold (x := x) (τ := (zxT (τ) zx)) (l := l) hl (by repeat' constructor) rfl rfl rfl rfl rfl (.then_n (.sm rfl (.m rfl (.a rfl (.an rfl (.ret (.rfCast (x := x) (τ' := (applyZ τ zx y subs).1) (by repeat' constructor) (by rw [hz]) (.slCast (T := 150) (sz := 3) (m' := (applyZ τ zx y subs).2.1.length) (xs' := (applyZ τ zx y subs).2.1.flatMap evC) (by repeat' constructor) (by (rw [hz]; try rfl)) (by (rw [hz]; try rfl)) ?_)))))))))
  exact .dn rfl rfl ⟨_, _, rfl, by rw [hz], ⟨_, _, by (rw [hz]; try rfl)⟩, rfl⟩
 refine .seq (.sr ?_)
 rcases Decidable.em (y.kind = 6) with hk6 | hk6
 ·refine .q (.as (v' := .bool true) (by exact congrArg Value.bool (decide_eq_true hk6)) (.int rfl rfl rfl)) rfl (.an rfl (.condT rfl (.sk (.condT rfl (.seq (.sr (.an rfl (.block (.add (slR_nil 150 3) (.rfCast (x := x) (τ' := (partsZ τ zx ((subs.take 0).filter isDel)).1) (by repeat' constructor) (by rw [List.take_zero]; rfl) (.slCast (T := 150) (sz := 3) (m' := (partsZ τ zx ((subs.take 0).filter isDel)).2.length) (xs' := (partsZ τ zx ((subs.take 0).filter isDel)).2.flatMap evC) (by repeat' constructor) (by rw [List.take_zero]; rfl) (by rw [List.take_zero]; rfl) (.loopK (ι := Nat × Value) (fun q E => (9, vint q.1) :: (7, q.2) :: E) (fun q => [refR x (partsZ τ zx ((subs.take q.1).filter isDel)).1, slR 150 3 q.2 (partsZ τ zx ((subs.take q.1).filter isDel)).2.length ((partsZ τ zx ((subs.take q.1).filter isDel)).2.flatMap evC)]) (fun q => q.1 ≤ subs.length ∧ ∃ a c, q.2 = .slice a (partsZ τ zx ((subs.take q.1).filter isDel)).2.length c) (fun q => subs.length - q.1) (0, .slice none 0 0) (ts := [0, 3, 4, 5, 6, 8]) (.cons rfl (.cons rfl (.cons rfl (.cons rfl (.cons rfl (.cons rfl (.nil))))))) (⟨Nat.zero_le _, none, 0, by rw [List.take_zero]; rfl⟩) ⟨rfl, rfl, rfl, rfl, rfl, rfl, rfl, rfl, trivial⟩ (by repeat' constructor) ?_))))))))))))
  rintro ⟨i, u⟩ ⟨hi, au, cu, hu⟩
  dsimp only
  dsimp only at hi hu
  subst hu
  have hev := parts_ev τ zx ((subs.take i).filter isDel)
  have hfl := List.length_filter_le isDel (subs.take i)
  rw [List.length_take] at hfl
  have hok : (partsZ τ zx ((subs.take i).filter isDel)).1.Ok (N + subs.length) := (ho.parts zx _ (fun w hw => (hx.each w (List.mem_of_mem_take (List.mem_filter.1 hw).1)).few)).more (by omega)
  refine .seq (.sm rfl (.u (.fieldAddr rfl fo_37_7) (.q (.as (v' := .slice asb subs.length csb) (by exact esub) (.ld rfl ag_35)) rfl (.q (.slen rfl Tryz.underlying35 rfl) rfl (.ui rfl rfl rfl (.nt (.condD rfl (fun h41 => ?_) (fun h41 => ?_))))))))
  ·have hi2 : i < subs.length := by omega
   refine .rdShape (p := p) hrd (by repeat' constructor) (by omega) fun bs os e1 => ?_
   subst e1
   have hys := hx.each _ (List.getElem_mem hi2)
   refine .sk (.seq (.block (.sr (.u (.fieldAddr rfl fo_37_0) (.u (.ld rfl ag_3) (.q (.as (v' := .bool false) (by exact congrArg Value.bool (decide_eq_false (by omega))) (.int rfl rfl rfl)) rfl (.m rfl (.grun (t := 47) rfl rfl rfl (.u (.fieldAddr rfl fo_37_7) (.grun (t := 47) rfl rfl rfl (.q (.as (v' := .slice (some ⟨bs, os, none⟩) subs.length csb) (by exact esub) (.ld rfl ag_35)) rfl (.grun (t := 47) rfl rfl rfl (.m rfl (.grun (t := 47) rfl rfl rfl (.q (.indexAddr rfl rfl el_35 (by omega)) rfl (.grun (t := 47) rfl rfl rfl (.u (.fieldAddr rfl fo_37_0) (.grun (t := 47) rfl rfl rfl (.q (.loadRd (sz := 8) (j := i * 8 + 0) (p := p) rfl ag_3 (by repeat' constructor) hrd (by omega) ((flatMap_cell (f := ptC) (sz := 8) (l := subs) (i := i) (k := 0) (fun _ _ => rfl) (by omega) (by decide)).trans rfl)) rfl ?_)))))))))))))))))))
   refine .grun (t := 47) rfl rfl rfl (.ui rfl rfl rfl (.u (.pickF rfl rfl) (.nt (.condD rfl (fun h55 => ?_) (fun h55 => ?_)))))
   ·refine .seq (.draw [8] [[0, 1, 2, 3, 4, 5, 6, 7, 8], [9]] mixed (by kernel_rfl) (.g0 (.mv rfl rfl (.kv rfl (.fieldAddr rfl fo_37_7) (.kv rfl (.as (v' := .slice (some ⟨bs, os, none⟩) subs.length csb) (by exact esub) (.ld rfl ag_35)) (.mv rfl rfl (.kv rfl (.indexAddr rfl rfl el_35 (by omega)) (.kv rfl (.loadRdA (sz := 8) (j := i * 8) (k := 8) (p := p) (vs := ptC subs[i]) rfl ag_37 (by repeat' constructor) hrd (by simp) (by omega) (by omega) (flatMap_at (f := ptC) (sz := 8) (fun _ _ => rfl) (by omega))) (.kv rfl (.fieldAddr rfl fo_39_0) (.kv rfl (.ld rfl ag_3) (.hh rfl (.c Tryz.func79 [_, _, _] (rpart_spec x (partsZ τ zx ((subs.take i).filter isDel)).1 subs[i] zx p hys (N + subs.length) hok (by omega))) ?_)))))))))))
    rintro v L' ⟨a15, c15, rfl, rfl⟩
    refine D.ph (.g0 (.kv rfl (.assign rfl) (.pf (.region (.m rfl (.m rfl (.oq (.append (n := (partsZ τ zx ((subs.take i).filter isDel)).2.length) (m := (partZ (partsZ τ zx ((subs.take i).filter isDel)).1 subs[i] zx).2.length) (ys := (partZ (partsZ τ zx ((subs.take i).filter isDel)).1 subs[i] zx).2.flatMap evC) (p := slR 150 3 (.slice a15 (partZ (partsZ τ zx ((subs.take i).filter isDel)).1 subs[i] zx).2.length c15) (partZ (partsZ τ zx ((subs.take i).filter isDel)).1 subs[i] zx).2.length ((partZ (partsZ τ zx ((subs.take i).filter isDel)).1 subs[i] zx).2.flatMap evC)) rfl rfl rfl el_30 (.inl ⟨_, Tryz.underlying30⟩) ze_150 rfl rfl ?hc76 ?hr77 ?hb78 (by decide)) ?_)))))))
    case hc76 => exact evC_cells _
    case hr77 => exact fun h hp => slR_rd hp
    case hb78 => have := part_ev (partsZ τ zx ((subs.take i).filter isDel)).1 subs[i] zx; omega
    rintro v L' ⟨⟨a16_2, c16_2, rfl⟩, rfl⟩
    refine .a rfl (.nil (.blk_n (.then_n (.region (.m rfl (.q (.add rfl rfl (by omega)) rfl (.an rfl ?_)))))))
    have hst := filter_take_yes (f := isDel) hi2 (by unfold isDel; rw [decide_eq_true h55])
    refine .rfCast (x := x) (τ' := (partsZ τ zx ((subs.take (i + 1)).filter isDel)).1) (by repeat' constructor) (by rw [hst, parts_snoc]) (.slCast (T := 150) (sz := 3) (m' := (partsZ τ zx ((subs.take (i + 1)).filter isDel)).2.length) (xs' := (partsZ τ zx ((subs.take (i + 1)).filter isDel)).2.flatMap evC) (by repeat' constructor) (by rw [hst, parts_snoc]; simp) (by rw [hst, parts_snoc]; simp) ?_)
    exact .rk ((i + 1, .slice a16_2 ((partsZ τ zx ((subs.take i).filter isDel)).2.length + (partZ (partsZ τ zx ((subs.take i).filter isDel)).1 subs[i] zx).2.length) c16_2)) (⟨by dsimp only; omega, _, _, by rw [hst, parts_snoc, List.length_append]⟩) (by dsimp only; omega) ⟨rfl, rfl, rfl, rfl, rfl, rfl, rfl, rfl, trivial⟩
   refine .skip (.blk_n (.then_n (.region (.m rfl (.q (.add rfl rfl (by omega)) rfl (.an rfl ?_))))))
   have hst := filter_take_no (f := isDel) hi2 (by unfold isDel; rw [decide_eq_false h55])
   refine .rfCast (x := x) (τ' := (partsZ τ zx ((subs.take (i + 1)).filter isDel)).1) (by repeat' constructor) (by rw [hst]) (.slCast (T := 150) (sz := 3) (m' := (partsZ τ zx ((subs.take (i + 1)).filter isDel)).2.length) (xs' := (partsZ τ zx ((subs.take (i + 1)).filter isDel)).2.flatMap evC) (by repeat' constructor) (by rw [hst]) (by rw [hst]) ?_)
   exact .rk ((i + 1, .slice au (partsZ τ zx ((subs.take i).filter isDel)).2.length cu)) (⟨by dsimp only; omega, _, _, by rw [hst]⟩) (by dsimp only; omega) ⟨rfl, rfl, rfl, rfl, rfl, rfl, rfl, rfl, trivial⟩
  have hii : i = subs.length := by omega
  rw [hii, List.take_length]
  refine .exit (.then_e (.then_e (.blk_e (.then_n (.sr (.u (.fieldAddr rfl fo_37_0) (.u (.ld rfl ag_3) (.q (.as (v' := .bool true) (by exact congrArg Value.bool (decide_eq_true hk6)) (.int rfl rfl rfl)) rfl (.nt (.condT rfl (.region (.m rfl (.u (.fieldAddr rfl fo_37_4) (.u (.ld rfl ag_3) (.cv Tryz.func80 [_, _] (rdrop_spec x (partsZ τ zx (subs.filter isDel)).1 y.own (by have := (ho.parts zx (subs.filter isDel) (fun w hw => (hx.each w (List.mem_filter.1 hw).1).few)).sfew; have := List.length_filter_le isDel subs; omega)) ?_)))))))))))))))
  refine .nil (.blk_n (.then_n (.seq ?_)))
  have hz : (applyZ τ zx y subs) = (zxT (dropS (partsZ τ zx (subs.filter isDel)).1 y.own) zx, ((partsZ τ zx (subs.filter isDel)).2, 0)) := by rw [apply_zx]; unfold applyZ0; rw [if_neg h20, if_pos hk6]
  refine .rtOpen (x := x) (τ := (dropS (partsZ τ zx (subs.filter isDel)).1 y.own)) (by repeat' constructor) fun an cn as1 cs l hl => (.region (.m rfl (.u (.fieldAddr rfl fo_39_0) (.u (.ld rfl ag_3) (.nf rfl fo_87_2 (.st rfl rfl rfl sz_3 ?_))))))
  refine .nil (.rtFold (x := x) (τ := (zxT (dropS (partsZ τ zx (subs.filter isDel)).1 y.own) zx)) (l := l) hl (by repeat' constructor) rfl rfl rfl rfl rfl (.then_n (.sm rfl (.m rfl (.a rfl (.an rfl (.ret (.rfCast (x := x) (τ' := (applyZ τ zx y subs).1) (by repeat' constructor) (by rw [hz]) (.slCast (T := 150) (sz := 3) (m' := (applyZ τ zx y subs).2.1.length) (xs' := (applyZ τ zx y subs).2.1.flatMap evC) (by repeat' constructor) (by (rw [hz]; try rfl)) (by (rw [hz]; try rfl)) ?_)))))))))
  exact .dn rfl rfl ⟨_, _, rfl, by rw [hz], ⟨_, _, by (rw [hz]; try rfl)⟩, rfl⟩
 refine .q (.as (v' := .bool false) (by exact congrArg Value.bool (decide_eq_false hk6)) (.int rfl rfl rfl)) rfl (.an rfl (.condF rfl (.region ?_)))
 rcases Decidable.em (y.kind = 7) with hk7 | hk7
 ·refine .q (.as (v' := .bool true) (by exact congrArg Value.bool (decide_eq_true hk7)) (.int rfl rfl rfl)) rfl (.an rfl (.condT rfl (.seq (.sr (.an rfl (.block (.add (slR_nil 150 3) (.rfCast (x := x) (τ' := (partsZ τ zx (subs.take 0)).1) (by repeat' constructor) (by rw [List.take_zero]; rfl) (.slCast (T := 150) (sz := 3) (m' := (partsZ τ zx (subs.take 0)).2.length) (xs' := (partsZ τ zx (subs.take 0)).2.flatMap evC) (by repeat' constructor) (by rw [List.take_zero]; rfl) (by rw [List.take_zero]; rfl) (.loopK (ι := Nat × Value) (fun q E => (9, vint q.1) :: (7, q.2) :: E) (fun q => [refR x (partsZ τ zx (subs.take q.1)).1, slR 150 3 q.2 (partsZ τ zx (subs.take q.1)).2.length ((partsZ τ zx (subs.take q.1)).2.flatMap evC)]) (fun q => q.1 ≤ subs.length ∧ ∃ a c, q.2 = .slice a (partsZ τ zx (subs.take q.1)).2.length c) (fun q => subs.length - q.1) (0, .slice none 0 0) (ts := [0, 3, 4, 5, 6, 8]) (.cons rfl (.cons rfl (.cons rfl (.cons rfl (.cons rfl (.cons rfl (.nil))))))) (⟨Nat.zero_le _, none, 0, by rw [List.take_zero]; rfl⟩) ⟨rfl, rfl, rfl, rfl, rfl, rfl, rfl, rfl, trivial⟩ (by repeat' constructor) ?_))))))))))
  rintro ⟨i, u⟩ ⟨hi, au, cu, hu⟩
  dsimp only
  dsimp only at hi hu
  subst hu
  have hev := parts_ev τ zx (subs.take i)
  have hfl := List.length_take_le i subs
  have hok : (partsZ τ zx (subs.take i)).1.Ok (N + subs.length) := (ho.parts zx _ (fun w hw => (hx.each w (List.mem_of_mem_take hw)).few)).more (by rw [List.length_take]; omega)
  refine .seq (.sm rfl (.u (.fieldAddr rfl fo_37_7) (.q (.as (v' := .slice asb subs.length csb) (by exact esub) (.ld rfl ag_35)) rfl (.q (.slen rfl Tryz.underlying35 rfl) rfl (.ui rfl rfl rfl (.nt (.condD rfl (fun h41 => ?_) (fun h41 => ?_))))))))
  ·have hi2 : i < subs.length := by omega
   refine .rdShape (p := p) hrd (by repeat' constructor) (by omega) fun bs os e1 => ?_
   subst e1
   have hys := hx.each _ (List.getElem_mem hi2)
   refine .sk (.seq (.block (.sr (.u (.fieldAddr rfl fo_37_0) (.u (.ld rfl ag_3) (.q (.as (v' := .bool true) (by exact congrArg Value.bool (decide_eq_true hk7)) (.int rfl rfl rfl)) rfl (.m rfl (.gk (.gk (.gk (.gk (.gk (.gk (.gk (.u (.pickT rfl rfl) (.nt (.condT rfl (.seq (.draw [8] [[0, 1, 2, 3, 4, 5, 6, 7, 8], [9]] mixed (by kernel_rfl) (.g0 (.mv rfl rfl (.kv rfl (.fieldAddr rfl fo_37_7) (.kv rfl (.as (v' := .slice (some ⟨bs, os, none⟩) subs.length csb) (by exact esub) (.ld rfl ag_35)) (.mv rfl rfl (.kv rfl (.indexAddr rfl rfl el_35 (by omega)) (.kv rfl (.loadRdA (sz := 8) (j := i * 8) (k := 8) (p := p) (vs := ptC subs[i]) rfl ag_37 (by repeat' constructor) hrd (by simp) (by omega) (by omega) (flatMap_at (f := ptC) (sz := 8) (fun _ _ => rfl) (by omega))) ?_))))))))))))))))))))))))))
   refine D.kv rfl (.fieldAddr rfl fo_39_0) (.kv rfl (.ld rfl ag_3) (.hh rfl (.c Tryz.func79 [_, _, _] (rpart_spec x (partsZ τ zx (subs.take i)).1 subs[i] zx p hys (N + subs.length) hok (by omega))) ?_))
   rintro v L' ⟨a15, c15, rfl, rfl⟩
   refine D.ph (.g0 (.kv rfl (.assign rfl) (.pf (.region (.m rfl (.m rfl (.oq (.append (n := (partsZ τ zx (subs.take i)).2.length) (m := (partZ (partsZ τ zx (subs.take i)).1 subs[i] zx).2.length) (ys := (partZ (partsZ τ zx (subs.take i)).1 subs[i] zx).2.flatMap evC) (p := slR 150 3 (.slice a15 (partZ (partsZ τ zx (subs.take i)).1 subs[i] zx).2.length c15) (partZ (partsZ τ zx (subs.take i)).1 subs[i] zx).2.length ((partZ (partsZ τ zx (subs.take i)).1 subs[i] zx).2.flatMap evC)) rfl rfl rfl el_30 (.inl ⟨_, Tryz.underlying30⟩) ze_150 rfl rfl ?hc126 ?hr127 ?hb128 (by decide)) ?_)))))))
   case hc126 => exact evC_cells _
   case hr127 => exact fun h hp => slR_rd hp
   case hb128 => have := part_ev (partsZ τ zx (subs.take i)).1 subs[i] zx; omega
   rintro v L' ⟨⟨a16_2, c16_2, rfl⟩, rfl⟩
   refine .a rfl (.nil (.blk_n (.then_n (.region (.m rfl (.q (.add rfl rfl (by omega)) rfl (.an rfl ?_)))))))
   have hst := List.take_succ_eq_append_getElem hi2
   refine .rfCast (x := x) (τ' := (partsZ τ zx (subs.take (i + 1))).1) (by repeat' constructor) (by rw [hst, parts_snoc]) (.slCast (T := 150) (sz := 3) (m' := (partsZ τ zx (subs.take (i + 1))).2.length) (xs' := (partsZ τ zx (subs.take (i + 1))).2.flatMap evC) (by repeat' constructor) (by rw [hst, parts_snoc]; simp) (by rw [hst, parts_snoc]; simp) ?_)
   exact .rk ((i + 1, .slice a16_2 ((partsZ τ zx (subs.take i)).2.length + (partZ (partsZ τ zx (subs.take i)).1 subs[i] zx).2.length) c16_2)) (⟨by dsimp only; omega, _, _, by rw [hst, parts_snoc, List.length_append]⟩) (by dsimp only; omega) ⟨rfl, rfl, rfl, rfl, rfl, rfl, rfl, rfl, trivial⟩
  have hii : i = subs.length := by omega
  rw [hii, List.take_length]
  refine .exit (.then_e (.then_e (.blk_e (.then_n (.sr (.u (.fieldAddr rfl fo_37_0) (.u (.ld rfl ag_3) (.q (.as (v' := .bool false) (by exact congrArg Value.bool (decide_eq_false (by omega))) (.int rfl rfl rfl)) rfl (.nt (.condF rfl (.skip (.blk_n (.then_n (.seq ?_))))))))))))))
  have hz : (applyZ τ zx y subs) = (zxT ((partsZ τ zx subs).1) zx, ((partsZ τ zx subs).2, 0)) := by rw [apply_zx]; unfold applyZ0; rw [if_neg h20, if_neg hk6, if_pos hk7]
  refine .rtOpen (x := x) (τ := ((partsZ τ zx subs).1)) (by repeat' constructor) fun an cn as1 cs l hl => (.region (.m rfl (.u (.fieldAddr rfl fo_39_0) (.u (.ld rfl ag_3) (.nf rfl fo_87_2 (.st rfl rfl rfl sz_3 ?_))))))
  refine .nil (.rtFold (x := x) (τ := (zxT ((partsZ τ zx subs).1) zx)) (l := l) hl (by repeat' constructor) rfl rfl rfl rfl rfl (.then_n (.sm rfl (.m rfl (.a rfl (.an rfl (.ret (.rfCast (x := x) (τ' := (applyZ τ zx y subs).1) (by repeat' constructor) (by rw [hz]) (.slCast (T := 150) (sz := 3) (m' := (applyZ τ zx y subs).2.1.length) (xs' := (applyZ τ zx y subs).2.1.flatMap evC) (by repeat' constructor) (by (rw [hz]; try rfl)) (by (rw [hz]; try rfl)) ?_)))))))))
  exact .dn rfl rfl ⟨_, _, rfl, by rw [hz], ⟨_, _, by (rw [hz]; try rfl)⟩, rfl⟩
 refine .q (.as (v' := .bool false) (by exact congrArg Value.bool (decide_eq_false hk7)) (.int rfl rfl rfl)) rfl (.an rfl (.condF rfl (.sr (.ui rfl rfl rfl (.an rfl (.condD rfl (fun h75 => ?_) (fun h75 => ?_)))))))
 ·refine .region (.u (.fieldAddr rfl fo_37_6) (.u (.ld rfl ag_31) (.a rfl (.nil (.blk_n (.then_n (.seq (.add (slR_nil 150 3) ?_))))))))
  have hz : (applyZ τ zx y subs) = (zxT (τ) zx, ([], y.err)) := by rw [apply_zx]; unfold applyZ0; rw [if_neg h20, if_neg hk6, if_neg hk7, if_pos h75]
  refine .rtOpen (x := x) (τ := (τ)) (by repeat' constructor) fun an cn as1 cs l hl => (.region (.m rfl (.u (.fieldAddr rfl fo_39_0) (.u (.ld rfl ag_3) (.nf rfl fo_87_2 (.st rfl rfl rfl sz_3 ?_))))))
  refine .nil (.rtFold (x := x) (τ := (zxT (τ) zx)) (l := l) hl (by repeat' constructor) rfl rfl rfl rfl rfl (.then_n (.sm rfl (.m rfl (.a rfl (.an rfl (.ret (.rfCast (x := x) (τ' := (applyZ τ zx y subs).1) (by repeat' constructor) (by rw [hz]) (.slCast (T := 150) (sz := 3) (m' := (applyZ τ zx y subs).2.1.length) (xs' := (applyZ τ zx y subs).2.1.flatMap evC) (by repeat' constructor) (by (rw [hz]; try rfl)) (by (rw [hz]; try rfl)) ?_)))))))))
  exact .dn rfl rfl ⟨_, _, rfl, by rw [hz], ⟨_, _, by (rw [hz]; try rfl)⟩, rfl⟩
 refine .region (.m rfl (.q (.loadAs (vs := ptC y) rfl ag_37 (by repeat' constructor) (by simp [ptC]) rfl) rfl (.u (.fieldAddr rfl fo_39_0) (.u (.ld rfl ag_3) (.oq (.c Tryz.func79 [_, _, _] (rpart_spec x τ y zx p hx.own N ho (by omega))) ?_)))))
 rintro v L' ⟨a5, c5, rfl, rfl⟩
 refine .a rfl (.nil (.blk_n (.then_n (.seq ?_))))
 have hz : (applyZ τ zx y subs) = (zxT ((partZ τ y zx).1) zx, ((partZ τ y zx).2, 0)) := by rw [apply_zx]; unfold applyZ0; rw [if_neg h20, if_neg hk6, if_neg hk7, if_neg h75]
 refine .rtOpen (x := x) (τ := ((partZ τ y zx).1)) (by repeat' constructor) fun an cn as1 cs l hl => (.region (.m rfl (.u (.fieldAddr rfl fo_39_0) (.u (.ld rfl ag_3) (.nf rfl fo_87_2 (.st rfl rfl rfl sz_3 ?_))))))
 refine .nil (.rtFold (x := x) (τ := (zxT ((partZ τ y zx).1) zx)) (l := l) hl (by repeat' constructor) rfl rfl rfl rfl rfl (.then_n (.sm rfl (.m rfl (.a rfl (.an rfl (.ret (.rfCast (x := x) (τ' := (applyZ τ zx y subs).1) (by repeat' constructor) (by rw [hz]) (.slCast (T := 150) (sz := 3) (m' := (applyZ τ zx y subs).2.1.length) (xs' := (applyZ τ zx y subs).2.1.flatMap evC) (by repeat' constructor) (by (rw [hz]; try rfl)) (by (rw [hz]; try rfl)) ?_)))))))))
 exact .dn rfl rfl ⟨_, _, rfl, by rw [hz], ⟨_, _, by (rw [hz]; try rfl)⟩, rfl⟩
theorem sev_small {u : Nat} (h : u < 128) : sevZ u = [UInt8.ofNat u] := by rw [sevZ.eq_1, if_pos h]
def wantZ : Bs := [4, 84, 82, 69, 69, 0, 1, 1, 47, 0, 1, 62, 5, 119, 111, 114, 108, 100, 0, 0, 0, 0, 0, 0, 0, 0]
theorem num_zero : numB 0 = [0] := sev_small (u := 0) (by decide)
theorem enc_new : encZ newT = wantZ := by
 have h1 : txtB headB = [4, 84, 82, 69, 69] := by unfold txtB cntB; rw [sev_small (by decide)]; decide
 have h2 : nodesB newT.nodes = [1] ++ ([1, 47] ++ ([0] ++ ([1] ++ ([62] ++ [5, 119, 111, 114, 108, 100]) ++ [0, 0, 0, 0, 0, 0, 0]))) := by
  have e31 : numB 31 = [62] := sev_small (u := 62) (by decide)
  unfold nodesB newT ndB aclB txtB cntB
  simp only [List.length_cons, List.length_nil, List.flatMap_cons, List.flatMap_nil, List.append_nil]
  unfold acB txtB cntB nums7 st0
  simp only [List.length_cons, List.length_nil, List.flatMap_cons, List.flatMap_nil, List.append_nil, num_zero, e31]
  rw [sev_small (u := 0 + 1) (by decide), sev_small (u := 0) (by decide), sev_small (u := 0 + 1 + 1 + 1 + 1 + 1) (by decide)]
  decide
 have h3 : sessB newT.sess = [0] := by unfold sessB cntB newT; rw [sev_small (by decide)]; rfl
 unfold encZ layB
 rw [h1, h2, h3, show newT.zx = 0 from rfl, num_zero]
 decide
theorem newT_right : RightT newT := Hist.right (es := []) .nil (by decide)
theorem dec_new : decZ wantZ = some newT := by
 rw [← enc_new]
 exact dec_some (read_back newT_right) (Hist.whole (es := []) .nil)
theorem new_step (k : Nat) (h : 1 < k) : fzStep newT k (beginZ newT) = ⟨newT.zx, newT.nodes, newT.sess, true⟩ := still_end newT_ok (path_ne newT_ok) h
theorem awake8_spec : Fn Tryz.prog 9 #[] [] fun v L => v = .bool true ∧ L = [] := by
 refine Fn.intro Tryz.func9 rfl rfl fun F W => ?_
 have hz0 : FzN newT (beginZ newT) 1 := .begin TrW.new (by decide)
 have hz1 := FzN.step TrW.new newT_ok (M := 1) (by decide) 1 hz0
 have hz2 := FzN.step TrW.new newT_ok (M := 1) (by decide) 2 hz0
 refine .sr (.an rfl (.sr (.oq (.c Tryz.func11 [] (trnew_spec)) ?_)))
 rintro v L' ⟨t, rfl, rfl⟩
 refine .an rfl (.sm rfl (.oq (.c Tryz.func14 [_] (sencode_spec t newT 1 newT_ok (by decide) TrW.new)) ?_))
 rintro v L' ⟨rfl, rfl⟩; rw [enc_new]
 refine .an rfl (.sr (.an rfl (.sm rfl (.oq (.c Tryz.func13 [_] (sdecode_spec wantZ (by decide))) ?_))))
 rintro v L' (⟨g, -, -⟩ | ⟨υ, u, g, rfl, rfl⟩); (rw [dec_new] at g; cases g); obtain rfl : newT = υ := by rw [dec_new] at g; exact Option.some.inj g
 refine .m rfl (.u (.extract rfl rfl) (.u (.extract rfl rfl) (.a rfl (.an rfl (.sm rfl (.oq (.c Tryz.func17 [_] (sbegin_spec t newT)) ?_))))))
 rintro v L' ⟨f, rfl, rfl⟩
 refine .an rfl (.seq (.sm rfl (.q (.as (v' := .bool false) (by rfl) (.ptreq rfl rfl Tryz.underlying28)) rfl (.m rfl (.grun (t := 21) rfl rfl rfl (.m rfl (.grun (t := 21) rfl rfl rfl (.q (.as (v' := .bool false) (by rfl) (.ptreq rfl rfl Tryz.underlying28)) rfl (.u (.pickF rfl rfl) (.m rfl (.grun (t := 25) rfl rfl rfl (.m rfl (.grun (t := 25) rfl rfl rfl (.q (.as (v' := .bool false) (by rfl) (.ptreq rfl rfl Tryz.underlying47)) rfl (.u (.pickF rfl rfl) (.nt (.condF rfl (.sk (.sm rfl (.oq (.c Tryz.func18 [_, _] (sstep_spec f t newT (beginZ newT) 1 1 1 newT_ok (by decide) TrW.new hz0 (by decide) (by decide) (by decide))) ?_))))))))))))))))))))
 rintro v L' ⟨rfl, rfl⟩; rw [show fzStep newT (1 : Int).toNat (beginZ newT) = fzStep newT 1 (beginZ newT) from rfl, show (fzStep newT 1 (beginZ newT)).all = false by rw [still_at newT_ok (path_ne newT_ok) 1 (by decide)]]
 refine .an rfl (.sm rfl (.oq (.c Tryz.func18 [_, _] (sstep_spec f t newT (fzStep newT 1 (beginZ newT)) 1 1 1 newT_ok (by decide) TrW.new hz1 (by decide) (by decide) (by decide))) ?_))
 rintro v L' ⟨rfl, rfl⟩; rw [show fzStep newT (1 : Int).toNat (fzStep newT 1 (beginZ newT)) = fzStep newT 2 (beginZ newT) from (step_add newT 1 1 _).symm, show (fzStep newT 2 (beginZ newT)).all = true by rw [new_step 2 (by decide)]]
 refine .an rfl (.sm rfl (.m rfl (.q (.as (v' := .bool true) (by exact congrArg Value.bool (decide_eq_true (by rfl))) (.streq rfl rfl)) rfl (.m rfl (.grun (t := 36) rfl rfl rfl (.m rfl (.grun (t := 36) rfl rfl rfl (.q (.as (v' := .bool true) (by rfl) (.int rfl rfl rfl)) rfl (.u (.pickT rfl rfl) (.m rfl (.grun (t := 40) rfl rfl rfl (.m rfl (.grun (t := 40) rfl rfl rfl (.m rfl (.grun (t := 40) rfl rfl rfl (.oq (.c Tryz.func15 [_, _] (trsame_spec u t newT newT 1 1 newT_ok newT_ok)) ?_))))))))))))))))
 rintro v L' ⟨rfl, rfl⟩; rw [decide_eq_true rfl]
 refine .u (.pickT rfl rfl) (.m rfl (.grun (t := 45) rfl rfl rfl (.m rfl (.grun (t := 45) rfl rfl rfl (.u (.not rfl) (.u (.pickT rfl rfl) (.m rfl (.grun (t := 49) rfl rfl rfl (.m rfl (.u (.pickT rfl rfl) (.m rfl (.grun (t := 52) rfl rfl rfl (.m rfl (.grun (t := 52) rfl rfl rfl (.oq (.c Tryz.func20 [_] (stext_spec f t newT (fzStep newT 2 (beginZ newT)) 1 1 newT_ok (by decide) TrW.new hz2 (by decide))) ?_)))))))))))))))
 rintro v L' ⟨rfl, rfl⟩; rw [still_text newT_ok (path_ne newT_ok) (k := 2) (by decide), enc_new]
 refine .grun (t := 52) rfl rfl rfl (.m rfl (.grun (t := 52) rfl rfl rfl (.q (.as (v' := .bool true) (by exact congrArg Value.bool (decide_eq_true (by rfl))) (.streq rfl rfl)) rfl (.u (.pickT rfl rfl) (.an rfl (.ret ?_))))))
 exact .vv
theorem rn_stat {l : List Rno} {k : Nat} (hk : k < l.length) : ((l.flatMap rnC).drop (k * 12 + 3)).take 9 = stC l[k].2.2.st := by
 have h := flatMap_at (f := rnC) (sz := 12) (l := l) (i := k) (fun _ _ => rfl) hk
 have h2 := congrArg (List.drop 3) h
 rw [List.drop_take, List.drop_drop] at h2
 exact h2
theorem al_get' {β : Type} {l : List (Bs × β)} (hn : (l.map (·.1)).Nodup) {i : Nat} (hi : i < l.length) : alook l l[i].1 = some l[i].2 := al_of_mem hn (List.getElem_mem hi)
theorem stat_none {τ : Tr} {p : Bs} (h : ¬ thereT τ p) : statD τ p = st0 := by
 unfold statD statZ
 unfold thereT at h
 cases e : alook τ.nodes p with
 | none => rfl
 | some y => rw [e] at h; exact absurd rfl h
theorem stat_some {τ : Tr} {p : Bs} {n : Nd} (h : alook τ.nodes p = some n) : statD τ p = { n.st with len := n.data.length, kids := (kidsZ τ p).length } := by
 unfold statD statZ; rw [h]; rfl
theorem there_some' {τ : Tr} {p : Bs} : thereT τ p ↔ ∃ n, alook τ.nodes p = some n := Option.isSome_iff_exists
theorem rstat_spec (x : Nat) (τ : Tr) (p : Bs) (N : Nat) (ho : τ.Ok N) (hN : N ≤ 1073741824) : Fn Tryz.prog 65 #[vptr x, vstr p] [refR x τ] fun v L => v = .tuple #[.agg (stC (statD τ p)).toArray, .bool (decide (thereT τ p))] ∧ L = [refR x τ] := by
 refine Fn.intro Tryz.func65 rfl rfl fun F W => ?_
 have hof := ho.few
 refine .sr (.oq (.allocA ze_92) ?_)
 rintro v L' ⟨b4, rfl, rfl⟩
 refine .an rfl (.sm rfl (.m rfl (.cv Tryz.func82 [_, _] (rplace_spec x τ p (by omega)) ?_)))
 refine .an rfl (.seq (.sm rfl (.ui rfl rfl rfl (.nt (.condD rfl (fun h12 => ?_) (fun h12 => ?_))))))
 ·refine .sr (.q (.to (v' := .agg (stC st0).toArray) (.build (us := []) fl_92 ze_92 rfl rfl (by simp [isCell])) rfl) rfl (.oq (.storeA rfl rfl ?c10 sz_92 ?c13 ?c11 (nfz0 _ _)) ?_))
  case c10 => intro v hv; simp only [stC, List.mem_cons, List.not_mem_nil, or_false] at hv; rcases hv with rfl | rfl | rfl | rfl | rfl | rfl | rfl | rfl | rfl <;> rfl
  case c13 => rfl
  case c11 => simp [stC]
  rintro v L' rfl
  refine .an rfl (.rt ?_)
  have hth : ¬ thereT τ p := fun g => absurd (place_iff.2 g) (by have h0 : placeTo τ.nodes p < 0 := h12; omega)
  refine .ptCast (b := b4) (l' := stC (statD τ p)) (by repeat' constructor) (by rw [stat_none hth]; rfl) ?_
  exact .d2 rfl (.cellA rfl ag_92 (by repeat' constructor) (by simp [stC]) rfl) (.tmp rfl) ⟨by rw [decide_eq_false hth]; rfl, rfl⟩
 have h12b : 0 ≤ placeTo τ.nodes p := by have h0 : ¬ placeTo τ.nodes p < 0 := h12; omega
 obtain ⟨k, hk, hpk, hkp⟩ := place_get (l := τ.nodes) h12b
 have hpz : placeZ τ p = k := hpk
 rw [hpz]
 obtain ⟨nd, hnd⟩ : ∃ nd, alook τ.nodes p = some nd := by have g2 : alook τ.nodes (τ.nodes[k]).1 = some (τ.nodes[k]).2 := al_get' (ho.sorted.nodup linB) (i := k) hk; rw [hkp] at g2; exact ⟨_, g2⟩
 have hsd := stat_some hnd
 refine .sk (.seq (.rtOpen (x := x) (τ := τ) (by repeat' constructor) fun am cm as2 cs2 m hm => ?_))
 have hml := nds_len hm
 have hkm : k < m.length := by omega
 refine .slShape (T := 129) (sz := 12) (v := .slice am m.length cm) (xs := m.flatMap rnC) (by repeat' constructor) (by omega) fun bm bm' e0 mbm _ => ?_
 simp only [Value.slice.injEq, true_and] at e0
 obtain ⟨rfl, rfl⟩ := e0
 have hlk : alook τ.nodes p = some m[k].2.2 := by have g := nds_get hm (i := k) hkm; have g2 : alook τ.nodes (τ.nodes[k]).1 = some (τ.nodes[k]).2 := al_get' (ho.sorted.nodup linB) (i := k) hk; rw [hkp, show τ.nodes[k] = (m[k].1, m[k].2.2) from g] at g2; exact g2
 have hmn : m[k].2.2 = nd := by rw [hnd] at hlk; exact (Option.some.inj hlk).symm
 refine .region (.m rfl (.nf rfl fo_87_0 (.u (.ld rfl ag_73) (.m rfl (.q (.indexAddr rfl rfl el_73 (by omega)) rfl (.u (.fieldAddr rfl fo_129_3) (.q (.loadRdA (sz := 12) (j := k * 12 + 3) (k := 9) (p := rnR _ m) (vs := stC m[k].2.2.st) rfl ag_92 (by repeat' constructor) (fun h hp => slR_rd hp) (by simp) (by omega) (by omega) (rn_stat hkm)) rfl (.oq (.allocA ze_92) ?_))))))))
 rintro v L' ⟨b7, rfl, rfl⟩
 refine .oq (.storeA rfl rfl ?c25 sz_92 ?c28 ?c26 (nfz0 _ _)) ?_
 case c25 => intro v hv; simp only [stC, List.mem_cons, List.not_mem_nil, or_false] at hv; rcases hv with rfl | rfl | rfl | rfl | rfl | rfl | rfl | rfl | rfl <;> rfl
 case c28 => rfl
 case c26 => simp [stC]
 rintro v L' rfl
 refine .nil (.ptCast (b := b7) (l' := stC nd.st) (by repeat' constructor) (by rw [hmn]; rfl) (.then_n (.sm rfl (.nf rfl fo_87_0 (.u (.ld rfl ag_73) (.m rfl (.q (.indexAddr rfl rfl el_73 (by omega)) rfl (.u (.fieldAddr rfl fo_129_1) (.q (.loadRd (sz := 12) (j := k * 12 + 1) (p := rnR _ m) rfl ag_9 (by repeat' constructor) (fun h hp => slR_rd hp) (by omega) ((rn_cell (l := m) (i := k) (k := 1) (by omega) (by decide)).trans rfl)) rfl (.q (.strlen rfl Tryz.underlying9 rfl) rfl (.u (.fieldAddr rfl fo_92_7) (.oq (.store rfl rfl rfl sz_3 ?c39 (nfz0 _ _)) ?_))))))))))))
 case c39 => simp [stC]
 rintro v L' rfl
 refine .nil (.ptCast (b := b7) (l' := stC { nd.st with len := nd.data.length }) (by repeat' constructor) (by rw [hmn]; rfl) (.rtFold (x := x) (τ := τ) (l := m) hm (by repeat' constructor) rfl rfl rfl rfl rfl (.then_n (.sm rfl (.m rfl (.oq (.c Tryz.func70 [_, _] (rkids_spec x τ p N ho (by omega))) ?_))))))
 rintro v L' ⟨⟨a7, c7, rfl⟩, rfl⟩
 refine .q (.slen rfl Tryz.underlying54 rfl) rfl (.u (.fieldAddr rfl fo_92_8) (.oq (.store rfl rfl rfl sz_3 ?c48 (nfz0 _ _)) ?_))
 case c48 => simp [stC]
 rintro v L' rfl
 refine .nil (.ptCast (b := b7) (l' := stC (statD τ p)) (by repeat' constructor) (by rw [hsd]; rfl) (.then_n (.sr (.q (.loadAs (vs := stC (statD τ p)) rfl ag_92 (by repeat' constructor) (by simp [stC]) rfl) rfl (.oq (.storeA rfl rfl ?c52 sz_92 ?c55 ?c53 (nfz0 _ _)) ?_)))))
 case c52 => intro v hv; simp only [stC, List.mem_cons, List.not_mem_nil, or_false] at hv; rcases hv with rfl | rfl | rfl | rfl | rfl | rfl | rfl | rfl | rfl <;> rfl
 case c55 => rfl
 case c53 => simp [stC]
 rintro v L' rfl
 refine .an rfl (.ret ?_)
 have hth : thereT τ p := there_some'.2 ⟨nd, hnd⟩
 refine .ptCast (b := b4) (l' := stC (statD τ p)) (by repeat' constructor) rfl ?_
 exact .d2 rfl (.cellA rfl ag_92 (by repeat' constructor) (by simp [stC]) rfl) (.tmp rfl) ⟨by rw [decide_eq_true hth]; rfl, rfl⟩
theorem rrowseq_spec (va vb : Value) (xs ys : List Ac) (p q : HP) (hp : ∀ h : Hp, p h → rdS 2 h va xs.length (xs.flatMap acC)) (hq : ∀ h : Hp, q h → rdS 2 h vb ys.length (ys.flatMap acC)) (hn : xs.length ≤ 1048576) : Fn Tryz.prog 68 #[va, vb] [p, q] fun v L => v = .bool (decide (xs = ys)) ∧ L = [p, q] := by
 refine Fn.intro Tryz.func68 rfl rfl fun F W => ?_
 refine .rdAny (p := p) hp (by repeat' constructor) fun aa ca e0 _ => ?_
 subst e0
 refine .rdAny (p := q) hq (by repeat' constructor) fun ab cb e0 _ => ?_
 subst e0
 refine .sr (.an rfl (.seq (.sm rfl (.q (.slen rfl Tryz.underlying34 rfl) rfl (.m rfl (.q (.slen rfl Tryz.underlying34 rfl) rfl (.ui rfl rfl rfl (.nt (.condN rfl (fun h10 => ?_) (fun h10 => ?_))))))))))
 ·refine .sr (.an rfl (.rt ?_))
  exact .dn rfl rfl ⟨by rw [decide_eq_false (fun e => h10 (by rw [e]))], rfl⟩
 have hlen : xs.length = ys.length := by omega
 refine .sk (.seq (.sr (.an rfl (.block (.loopK (ι := Nat) (fun q E => (5, vint q) :: E) (fun q => []) (fun q => q ≤ xs.length ∧ xs.take q = ys.take q) (fun q => xs.length - q) (0) (ts := [0, 1]) (.cons rfl (.cons rfl (.nil))) (⟨Nat.zero_le _, rfl⟩) ⟨rfl, rfl, rfl, trivial⟩ (by repeat' constructor) ?_)))))
 rintro i ⟨hi, hpre⟩
 refine .seq (.sm rfl (.m rfl (.q (.slen rfl Tryz.underlying34 rfl) rfl (.ui rfl rfl rfl (.nt (.condD rfl (fun h14 => ?_) (fun h14 => ?_)))))))
 ·have hi2 : i < xs.length := by omega
  have hi3 : i < ys.length := by omega
  refine .rdShape (p := p) hp (by repeat' constructor) (by omega) fun ba oa e0 => ?_
  subst e0
  refine .rdShape (p := q) hq (by repeat' constructor) (by omega) fun bb ob e0 => ?_
  subst e0
  refine .sk (.seq (.block (.seq (.draw [] [[0, 1, 2, 3, 4, 5, 6, 7, 8]] mixed (by kernel_rfl) (.g0 (.mv rfl rfl (.mv rfl rfl (.kv rfl (.indexAddr rfl rfl el_34 (by omega)) (.kv rfl (.loadRdA (sz := 2) (j := i * 2) (k := 2) (p := p) (vs := acC xs[i]) rfl ag_90 (by repeat' constructor) hp (by simp) (by omega) (by omega) (flatMap_at (f := acC) (sz := 2) (fun _ _ => rfl) (by omega))) (.mv rfl rfl (.mv rfl rfl (.kv rfl (.indexAddr rfl rfl el_34 (by omega)) (.kv rfl (.loadRdA (sz := 2) (j := i * 2) (k := 2) (p := q) (vs := acC ys[i]) rfl ag_90 (by repeat' constructor) hq (by simp) (by omega) (by omega) (flatMap_at (f := acC) (sz := 2) (fun _ _ => rfl) (by omega))) (.kv rfl (.structNe (r := decide (xs[i] = ys[i])) rfl rfl (by kernel_rfl) (ac_eq 9998 _ _)) ?_))))))))))))))
  refine D.pf (.condN rfl (fun h25 => ?_) (fun h25 => ?_))
  ·refine .sr (.an rfl (.ret (.blk_r (.then_r (.then_r (.blk_r (.then_r ?_)))))))
   exact .dn rfl rfl ⟨by rw [decide_eq_false (fun e => h25 (by simp only [e]))], rfl⟩
  refine .skip (.blk_n (.then_n (.region (.m rfl (.q (.add rfl rfl (by omega)) rfl (.an rfl ?_))))))
  exact .rk (i + 1) (⟨by omega, by rw [List.take_succ_eq_append_getElem hi2, List.take_succ_eq_append_getElem hi3, hpre, h25]⟩) (by omega) ⟨rfl, rfl, rfl, trivial⟩
 refine .exit (.then_e (.then_e (.blk_e (.then_n (.sr (.an rfl (.ret ?_)))))))
 exact .dn rfl rfl ⟨by rw [decide_eq_true (by have hii : i = xs.length := (by omega); rw [hii, List.take_length] at hpre; rw [hlen, List.take_length] at hpre; exact hpre)], rfl⟩
theorem rlaynode_spec (x : Nat) (τ : Tr) (p d : Bs) (va : Value) (acl : List Ac) (s : Stt) (q : HP) (hq : ∀ h : Hp, q h → rdS 2 h va acl.length (acl.flatMap acC)) (hacl : acl.length ≤ 1048576) (hpl : p.length ≤ 1048576) (N : Nat) (ho : τ.Ok N) (hN : N ≤ 1073741824) : Fn Tryz.prog 60 #[vptr x, vstr p, vstr d, va, .agg (stC s).toArray] [refR x τ, q] fun v L => v = .tuple #[] ∧ L = [refR x (layZ τ p d acl s), q] := by
 refine Fn.intro Tryz.func60 rfl rfl fun F W => ?_
 have hof := ho.few
 refine .sr (.oq (.box rfl) ?_)
 rintro v L' ⟨b9, rfl, rfl⟩
 refine .nil (.ptCast (b := b9) (l' := stC s) (by repeat' constructor) rfl (.then_n (.seq (.sm rfl (.cv Tryz.func104 [_] (rcheck_spec p (by omega)) ?_)))))
 refine .ui rfl rfl rfl (.nt (.condN rfl (fun h12 => ?_) (fun h12 => ?_)))
 ·refine .rt (.rfCast (x := x) (τ' := layZ τ p d acl s) (by repeat' constructor) (by unfold layZ; rw [if_neg h12]) ?_)
  exact .vv
 refine .sk (.sr (.u (.fieldAddr rfl fo_92_7) (.oq (.store rfl rfl rfl sz_3 ?c8 (nfz0 _ _)) ?_)))
 case c8 => simp [stC]
 rintro v L' rfl
 refine .nt (.sr (.u (.fieldAddr rfl fo_92_8) (.oq (.store rfl rfl rfl sz_3 ?c12 (nfz0 _ _)) ?_)))
 case c12 => simp [stC]
 rintro v L' rfl
 refine .nil (.ptCast (b := b9) (l' := [vint s.cz, vint s.mz, vint s.pz, vint s.ver, vint s.cver, vint s.av, vint s.own, vint 0, vint 0]) (by repeat' constructor) rfl (.then_n (.draw [4, 7] [[0, 1, 2, 3, 5, 4, 6], [7]] mixed (by kernel_rfl) (.go [ptc b9 _ _] (by repeat' constructor) (.k rfl (.move rfl) (.k rfl (.move rfl) (.k rfl (.move rfl) (.mv rfl rfl (.k rfl (.loadAs (vs := [vint s.cz, vint s.mz, vint s.pz, vint s.ver, vint s.cver, vint s.av, vint s.own, vint 0, vint 0]) rfl ag_92 (by repeat' constructor) (by simp) rfl) (.hh rfl (.c Tryz.func110 [_] (rrows_spec va acl q hq hacl)) ?_))))))))))
 rintro v L' ⟨⟨a8, c8, rfl⟩, rfl⟩
 refine D.kv rfl (.buildN (pl := [(0, 1), (1, 1), (2, 1), (3, 9)]) (us := [(0, vstr p), (1, vstr d), (2, .slice a8 acl.length c8), (3, .agg ([vint s.cz, vint s.mz, vint s.pz, vint s.ver, vint s.cver, vint s.av, vint s.own, vint 0, vint 0] : List Value).toArray)]) (cells := [vstr p, vstr d, .slice a8 acl.length c8] ++ [vint s.cz, vint s.mz, vint s.pz, vint s.ver, vint s.cver, vint s.av, vint s.own, vint 0, vint 0]) Tryz.underlying129 (by kernel_rfl) ze_129 rfl (fill_rnode _ _ _ _ _ _ _ _ _ _ _ _ _ _)) (.ph (.g0 (.hh rfl (.c Tryz.func109 [_, _] (rlay2_spec x τ ((p, (.slice a8 acl.length c8, laidN d acl s)) : Rno) rfl N ho (by omega))) ?_)))
 rintro v L' ⟨rfl, rfl⟩
 refine D.ph (.fin (.done_n (.rfCast (x := x) (τ' := layZ τ p d acl s) (by repeat' constructor) (by unfold layZ; rw [if_pos h12]) ?_)))
 exact .vv
theorem rlayses_spec (x : Nat) (τ : Tr) (id n : Int) (s : Bs) (N : Nat) (ho : τ.Ok N) (hN : N + 1 ≤ 1073741824) : Fn Tryz.prog 62 #[vptr x, vint id, vint n, vstr s] [refR x τ] fun v L => v = .tuple #[] ∧ L = [refR x (layS τ id n s)] := by
 refine Fn.intro Tryz.func62 rfl rfl fun F W => ?_
 have hosf := ho.sfew
 refine .sm rfl (.ui rfl rfl rfl (.nt (.condD rfl (fun h9 => ?_) (fun h9 => ?_))))
 ·refine .region (.m rfl (.m rfl (.m rfl (.m rfl (.q (.to (v' := .agg (rsC (id, (n, s))).toArray) (.build (us := [(0, _), (1, _), (2, _)]) fl_127 ze_127 rfl rfl (by simp [isCell])) rfl) rfl (.cv Tryz.func78 [_, _] (ropen_spec x τ id n s N ho (by omega)) ?_))))))
  refine .nil (.done_n (.rfCast (x := x) (τ' := layS τ id n s) (by repeat' constructor) (by unfold layS; rw [if_pos h9]) ?_))
  exact .vv
 refine .skip (.done_n (.rfCast (x := x) (τ' := layS τ id n s) (by repeat' constructor) (by unfold layS; rw [if_neg h9]) ?_))
 exact .vv
/- not in this seat -/
set_option maxHeartbeats 1000000 in
theorem alike7_spec (t x : Nat) (τ : Tr) (N : Nat) (ho : τ.Ok N) (hN : N ≤ 1073741824) (hb : ∀ y ∈ τ.sess, y.1 ≤ 9223372036854775807) : Fn Tryz.prog 26 #[vptr t, vptr x] [treeR t τ, refR x τ] fun r L => r = .bool true ∧ L = [treeR t τ, refR x τ] := by
 refine Fn.intro Tryz.func26 rfl rfl fun F W => ?_
 have hfew := ho.few
 have hsf := ho.sfew
 have hpz : (pathsZ τ).length = τ.nodes.length := List.length_map _
 have hiz : (idsZ τ).length = τ.sess.length := List.length_map _
 refine .sr (.an rfl (.sr (.an rfl (.seq (.seq (.add (slR_nil 9 1) (.region (.an rfl (.block (.loopK (ι := Nat × Value) (fun q E => (6, vint q.1) :: (5, q.2) :: E) (fun q => [treeR t τ, refR x τ, slR 9 1 q.2 ((pathsZ τ).take q.1).length (strs ((pathsZ τ).take q.1))]) (fun q => q.1 ≤ τ.nodes.length ∧ ∃ a c, q.2 = .slice a ((pathsZ τ).take q.1).length c) (fun q => τ.nodes.length - q.1) (0, .slice none 0 0) (ts := [0, 1]) (.cons rfl (.cons rfl (.nil))) (⟨Nat.zero_le _, none, 0, rfl⟩) ⟨rfl, rfl, rfl, rfl, trivial⟩ (by repeat' constructor) ?_))))))))))
 rintro ⟨i, u⟩ ⟨hi, au, cu, hu⟩
 dsimp only
 dsimp only at hi hu
 subst hu
 have hpl2 : ((pathsZ τ).take i).length = i := by rw [List.length_take]; omega
 refine .seq (.seq (.rtOpen (x := x) (τ := τ) (by repeat' constructor) fun an cn as1 cs l hl => ?_))
 have hll := nds_len hl
 refine .region (.m rfl (.m rfl (.nf rfl fo_87_0 (.u (.ld rfl ag_73) (.q (.slen rfl Tryz.underlying73 rfl) rfl (.ui rfl rfl rfl (.nil (.rtFold (x := x) (τ := τ) (l := l) hl (by repeat' constructor) rfl rfl rfl rfl rfl (.then_n (.condD rfl (fun h36 => ?_) (fun h36 => ?_)))))))))))
 ·have hi2 : i < τ.nodes.length := by omega
  obtain ⟨hst, hth⟩ : statD τ τ.nodes[i].1 = { τ.nodes[i].2.st with len := τ.nodes[i].2.data.length, kids := (kidsZ τ τ.nodes[i].1).length } ∧ thereT τ τ.nodes[i].1 := by have h1 : alook τ.nodes τ.nodes[i].1 = some τ.nodes[i].2 := al_of_mem (ho.sorted.nodup linB) (List.getElem_mem hi2); exact ⟨stat_some h1, there_some'.2 ⟨_, h1⟩⟩
  have hlk : alook τ.nodes τ.nodes[i].1 = some τ.nodes[i].2 := al_of_mem (ho.sorted.nodup linB) (List.getElem_mem hi2)
  have hda : dataD τ τ.nodes[i].1 = τ.nodes[i].2.data := by unfold dataD; rw [hlk]; rfl
  have hac : aclD τ τ.nodes[i].1 = τ.nodes[i].2.acl := by unfold aclD; rw [hlk]; rfl
  have hacl := ho.acls _ (List.getElem_mem hi2)
  have hkl := kidsZ_len τ τ.nodes[i].1
  have hpsn : (pathsZ τ).take (i + 1) = (pathsZ τ).take i ++ [τ.nodes[i].1] := by rw [List.take_succ_eq_append_getElem (by omega)]; simp [pathsZ]
  refine .sk (.seq (.block (.seq (.rtOpen (x := x) (τ := τ) (by repeat' constructor) fun an cn as1 cs l hl => ?_))))
  have hll := nds_len hl
  have hil : i < l.length := by omega
  have hgl := nds_get hl hil
  refine .slShape (T := 129) (sz := 12) (v := .slice an l.length cn) (xs := l.flatMap rnC) (by repeat' constructor) (by omega) fun bn bn' e0 mbn _ => ?_
  simp only [Value.slice.injEq, true_and] at e0
  obtain ⟨rfl, rfl⟩ := e0
  refine .region (.m rfl (.nf rfl fo_87_0 (.u (.ld rfl ag_73) (.m rfl (.q (.indexAddr rfl rfl el_73 (by omega)) rfl (.u (.fieldAddr rfl fo_129_0) (.q (.to (v' := vstr τ.nodes[i].1) (.loadRd (sz := 12) (j := i * 12 + 0) (p := rnR _ l) rfl ag_9 (by repeat' constructor) (fun h hp => slR_rd hp) (by omega) ((rn_cell (l := l) (i := i) (k := 0) (by omega) (by decide)).trans rfl)) (by rw [hgl])) rfl (.a rfl (.nil (.rtFold (x := x) (τ := τ) (l := l) hl (by repeat' constructor) rfl rfl rfl rfl rfl (.then_n (.sm rfl (.m rfl (.oq (.buildSlice1 (vs := [_]) el_54 ze_9 rfl rfl rfl rfl rfl (by decide)) ?_))))))))))))))
  rintro v L' ⟨b6_2, rfl, rfl⟩
  refine .oq (.append1 rfl rfl rfl el_54 ze_9 rfl rfl ?c22 ?c23 (Nat.le_refl _) ?c24 (by decide)) ?_
  case c22 => (first | (simp [isCell]; done) | (simp [isCell, setAll, Value.cells]; done))
  case c23 => rfl
  case c24 => first | omega | (simp; omega)
  rintro v L' ⟨⟨a6_3, c6_3, rfl⟩, rfl⟩
  refine .a rfl (.nil ?_)
  rw [show strs ((pathsZ τ).take i) ++ [vstr τ.nodes[i].1] = strs ((pathsZ τ).take (i + 1)) by rw [hpsn]; simp [strs], show ((pathsZ τ).take i).length + 1 = ((pathsZ τ).take (i + 1)).length by rw [hpsn, List.length_append]; rfl]
  refine .then_n (.sm rfl (.m rfl (.oq (.c Tryz.func64 [_, _] (trget_spec t τ τ.nodes[i].1 N ho (by omega))) ?_)))
  rintro v L' ⟨rfl, rfl⟩; rw [if_pos hth]
  refine .m rfl (.u (.extract rfl rfl) (.u (.extract rfl rfl) (.u (.extract rfl rfl) (.oq (.allocA ze_92) ?_))))
  rintro v L' ⟨b9, rfl, rfl⟩
  refine .a rfl (.oq (.storeA rfl rfl ?c35 sz_92 ?c38 ?c36 (nfz0 _ _)) ?_)
  case c35 => intro v hv; simp only [stC, List.mem_cons, List.not_mem_nil, or_false] at hv; rcases hv with rfl | rfl | rfl | rfl | rfl | rfl | rfl | rfl | rfl <;> rfl
  case c38 => rfl
  case c36 => simp [stC]
  rintro v L' rfl
  refine .a rfl (.nil (.ptCast (b := b9) (l' := stC (statD τ τ.nodes[i].1)) (by repeat' constructor) rfl (.then_n (.sm rfl (.m rfl (.oq (.c Tryz.func65 [_, _] (rstat_spec x τ τ.nodes[i].1 N ho hN)) ?_))))))
  rintro v L' ⟨rfl, rfl⟩; rw [decide_eq_true hth]
  refine .m rfl (.u (.extract rfl rfl) (.u (.extract rfl rfl) (.oq (.allocA ze_92) ?_)))
  rintro v L' ⟨b11, rfl, rfl⟩
  refine .oq (.storeA rfl rfl ?c47 sz_92 ?c50 ?c48 (nfz0 _ _)) ?_
  case c47 => intro v hv; simp only [stC, List.mem_cons, List.not_mem_nil, or_false] at hv; rcases hv with rfl | rfl | rfl | rfl | rfl | rfl | rfl | rfl | rfl <;> rfl
  case c50 => rfl
  case c48 => simp [stC]
  rintro v L' rfl
  refine .a rfl (.nil (.ptCast (b := b11) (l' := stC (statD τ τ.nodes[i].1)) (by repeat' constructor) rfl (.then_n (.sm rfl (.m rfl (.oq (.c Tryz.func41 [_, _] (trstat_spec t τ τ.nodes[i].1 N ho (by omega))) ?_))))))
  rintro v L' ⟨rfl, rfl⟩; rw [decide_eq_true hth]
  refine .m rfl (.u (.extract rfl rfl) (.u (.extract rfl rfl) (.oq (.allocA ze_92) ?_)))
  rintro v L' ⟨b13, rfl, rfl⟩
  refine .oq (.storeA rfl rfl ?c59 sz_92 ?c62 ?c60 (nfz0 _ _)) ?_
  case c59 => intro v hv; simp only [stC, List.mem_cons, List.not_mem_nil, or_false] at hv; rcases hv with rfl | rfl | rfl | rfl | rfl | rfl | rfl | rfl | rfl <;> rfl
  case c62 => rfl
  case c60 => simp [stC]
  rintro v L' rfl
  refine .a rfl (.nil (.ptCast (b := b13) (l' := stC (statD τ τ.nodes[i].1)) (by repeat' constructor) rfl (.then_n (.sm rfl (.m rfl (.oq (.c Tryz.func66 [_, _] (tracl_spec t τ τ.nodes[i].1 N ho)) ?_))))))
  rintro v L' ⟨ua, rfl, ⟨aa, ca, rfl⟩, rfl⟩; rw [if_pos hth]
  refine .m rfl (.u (.extract rfl rfl) (.u (.extract rfl rfl) (.a rfl (.an rfl (.sm rfl (.m rfl (.oq (.c Tryz.func67 [_, _] (trkids_spec t τ τ.nodes[i].1 N ho (by omega))) ?_)))))))
  rintro v L' ⟨uk, lk, rfl, -, hlk, ⟨ak, ck, rfl⟩, rfl⟩; rw [if_pos hth] at hlk; subst hlk; rw [if_pos hth]
  refine .m rfl (.u (.extract rfl rfl) (.u (.extract rfl rfl) (.a rfl (.an rfl (.seq (.rtOpen (x := x) (τ := τ) (by repeat' constructor) fun an cn as1 cs l hl => ?_))))))
  have hll := nds_len hl
  have hil : i < l.length := by omega
  have hgl := nds_get hl hil
  refine .slShape (T := 129) (sz := 12) (v := .slice an l.length cn) (xs := l.flatMap rnC) (by repeat' constructor) (by omega) fun bn bn' e0 mbn _ => ?_
  simp only [Value.slice.injEq, true_and] at e0
  obtain ⟨rfl, rfl⟩ := e0
  refine .region (.m rfl (.m rfl (.nf rfl fo_87_0 (.u (.ld rfl ag_73) (.m rfl (.q (.indexAddr rfl rfl el_73 (by omega)) rfl (.u (.fieldAddr rfl fo_129_2) (.q (.loadRd (sz := 12) (j := i * 12 + 2) (p := rnR _ l) rfl ag_34 (by repeat' constructor) (fun h hp => slR_rd hp) (by omega) ((rn_cell (l := l) (i := i) (k := 2) (by omega) (by decide)).trans rfl)) rfl (.oq (.call Tryz.func68 rfl rfl (vs := [_, _]) rfl (rrowseq_spec _ l[i].2.1 (aclD τ τ.nodes[i].1) l[i].2.2.acl _ (bigR inA l) (fun h hp => slR_rd (T := 90) hp) (big_rd hil) (by rw [hac]; exact hacl))) ?_)))))))))
  rintro v L' ⟨rfl, rfl⟩; rw [decide_eq_true (by rw [hac, hgl])]
  refine .a rfl (.nil (.rtFold (x := x) (τ := τ) (l := l) hl (by repeat' constructor) rfl rfl rfl rfl rfl (.then_n (.sm rfl (.m rfl (.m rfl (.oq (.c Tryz.func70 [_, _] (rkids_spec x τ τ.nodes[i].1 N ho hN)) ?_)))))))
  rintro v L' ⟨⟨a13, c13, rfl⟩, rfl⟩
  refine .oq (.call Tryz.func69 rfl rfl (vs := [_, _]) rfl (texts7_spec (kidsZ τ τ.nodes[i].1) (kidsZ τ τ.nodes[i].1) _ _ (by omega))) ?_
  rintro v L' ⟨rfl, rfl⟩; rw [decide_eq_true rfl]
  refine .an rfl (.seq (.seq (.rtOpen (x := x) (τ := τ) (by repeat' constructor) fun an cn as1 cs l hl => ?_)))
  have hll := nds_len hl
  have hil : i < l.length := by omega
  have hgl := nds_get hl hil
  refine .slShape (T := 129) (sz := 12) (v := .slice an l.length cn) (xs := l.flatMap rnC) (by repeat' constructor) (by omega) fun bn bn' e0 mbn _ => ?_
  simp only [Value.slice.injEq, true_and] at e0
  obtain ⟨rfl, rfl⟩ := e0
  have hdl : dataD τ τ.nodes[i].1 = l[i].2.2.data := hda.trans (by rw [hgl])
  refine .region (.m rfl (.m rfl (.nf rfl fo_87_0 (.u (.ld rfl ag_73) (.m rfl (.q (.indexAddr rfl rfl el_73 (by omega)) rfl (.u (.fieldAddr rfl fo_129_1) (.q (.loadRd (sz := 12) (j := i * 12 + 1) (p := rnR _ l) rfl ag_9 (by repeat' constructor) (fun h hp => slR_rd hp) (by omega) ((rn_cell (l := l) (i := i) (k := 1) (by omega) (by decide)).trans rfl)) rfl (.q (.as (v' := .bool false) (by simp [hdl]) (.strne rfl rfl)) rfl (.m rfl (.grun (t := 107) rfl rfl rfl (.q (.loadAs (vs := stC (statD τ τ.nodes[i].1)) rfl ag_92 (by repeat' constructor) (by simp [stC]) rfl) rfl (.grun (t := 107) rfl rfl rfl (.q (.loadAs (vs := stC (statD τ τ.nodes[i].1)) rfl ag_92 (by repeat' constructor) (by simp [stC]) rfl) rfl (.grun (t := 107) rfl rfl rfl (.q (.as (v' := .bool false) (by simp) (.structNe (r := decide (statD τ τ.nodes[i].1 = statD τ τ.nodes[i].1)) rfl rfl (by kernel_rfl) (st_eq 9998 _ _))) rfl ?_))))))))))))))))
  refine .u (.pickF rfl rfl) (.m rfl (.grun (t := 112) rfl rfl rfl (.q (.loadAs (vs := stC (statD τ τ.nodes[i].1)) rfl ag_92 (by repeat' constructor) (by simp [stC]) rfl) rfl (.grun (t := 112) rfl rfl rfl (.q (.loadAs (vs := stC (statD τ τ.nodes[i].1)) rfl ag_92 (by repeat' constructor) (by simp [stC]) rfl) rfl (.grun (t := 112) rfl rfl rfl (.q (.as (v' := .bool false) (by simp) (.structNe (r := decide (statD τ τ.nodes[i].1 = statD τ τ.nodes[i].1)) rfl rfl (by kernel_rfl) (st_eq 9998 _ _))) rfl (.u (.pickF rfl rfl) (.m rfl (.grun (t := 117) rfl rfl rfl (.m rfl (.grun (t := 117) rfl rfl rfl (.u (.not rfl) (.u (.pickF rfl rfl) (.m rfl (.grun (t := 121) rfl rfl rfl (.m rfl (.grun (t := 121) rfl rfl rfl (.u (.not rfl) (.u (.pickF rfl rfl) (.m rfl (.grun (t := 125) rfl rfl rfl (.m rfl (.grun (t := 125) rfl rfl rfl (.u (.not rfl) (.u (.pickF rfl rfl) (.m rfl (.grun (t := 129) rfl rfl rfl (.m rfl (.grun (t := 129) rfl rfl rfl ?_))))))))))))))))))))))))))))))
  refine .q (.as (v' := .bool false) (by rfl) (.int rfl rfl rfl)) rfl (.u (.pickF rfl rfl) (.m rfl (.grun (t := 133) rfl rfl rfl (.m rfl (.grun (t := 133) rfl rfl rfl (.q (.as (v' := .bool false) (by rfl) (.int rfl rfl rfl)) rfl (.u (.pickF rfl rfl) (.m rfl (.grun (t := 137) rfl rfl rfl (.m rfl (.grun (t := 137) rfl rfl rfl (.q (.as (v' := .bool false) (by rfl) (.int rfl rfl rfl)) rfl (.u (.pickF rfl rfl) (.nil (.rtFold (x := x) (τ := τ) (l := l) hl (by repeat' constructor) rfl rfl rfl rfl rfl (.then_n (.condF rfl (.sk (.seq (.rtOpen (x := x) (τ := τ) (by repeat' constructor) fun an cn as1 cs l hl => ?_))))))))))))))))))))
  have hll := nds_len hl
  have hil : i < l.length := by omega
  have hgl := nds_get hl hil
  refine .slShape (T := 129) (sz := 12) (v := .slice an l.length cn) (xs := l.flatMap rnC) (by repeat' constructor) (by omega) fun bn bn' e0 mbn _ => ?_
  simp only [Value.slice.injEq, true_and] at e0
  obtain ⟨rfl, rfl⟩ := e0
  refine .region (.m rfl (.nf rfl fo_87_0 (.u (.ld rfl ag_73) (.m rfl (.q (.indexAddr rfl rfl el_73 (by omega)) rfl (.u (.fieldAddr rfl fo_129_3) (.u (.fieldAddr rfl fo_92_6) (.q (.loadRd (sz := 12) (j := i * 12 + 9) (p := rnR _ l) rfl ag_3 (by repeat' constructor) (fun h hp => slR_rd hp) (by omega) ((rn_cell (l := l) (i := i) (k := 9) (by omega) (by decide)).trans rfl)) rfl (.a rfl (.nil (.rtFold (x := x) (τ := τ) (l := l) hl (by repeat' constructor) rfl rfl rfl rfl rfl ?_)))))))))))
  have how : ∀ s, (ownedZ τ s).length ≤ τ.nodes.length := owned_len τ
  generalize l[i].2.2.st.own = ow
  refine .then_n (.sm rfl (.m rfl (.oq (.c Tryz.func71 [_, _] (trowned_spec t τ ow N ho (by omega))) ?_)))
  rintro v L' ⟨⟨ao, co, rfl⟩, rfl⟩
  refine .m rfl (.m rfl (.oq (.c Tryz.func72 [_, _] (rowned_spec x τ ow N ho hN)) ?_))
  rintro v L' ⟨⟨ap, cp, rfl⟩, rfl⟩
  refine .oq (.call Tryz.func69 rfl rfl (vs := [_, _]) rfl (texts7_spec (ownedZ τ ow) (ownedZ τ ow) _ _ (by have := how ow; omega))) ?_
  rintro v L' ⟨rfl, rfl⟩; rw [decide_eq_true rfl]
  refine .an rfl (.sm rfl (.u (.not rfl) (.nt (.condF rfl (.skip (.blk_n (.then_n (.region (.m rfl (.q (.add rfl rfl (by omega)) rfl (.an rfl ?_)))))))))))
  exact .rk ((i + 1, .slice a6_3 ((pathsZ τ).take (i + 1)).length c6_3)) (⟨by dsimp only; omega, _, _, rfl⟩) (by dsimp only; omega) ⟨rfl, rfl, rfl, rfl, trivial⟩
 have hii : i = τ.nodes.length := by omega
 have hpt : (pathsZ τ).take i = pathsZ τ := List.take_of_length_le (by omega)
 rw [hpt]
 refine .exit (.then_e (.then_e (.blk_e (.then_n (.sr (.an rfl (.seq (.seq (.add (slR_nil 3 1) (.region (.an rfl (.block (.loopK (ι := Nat × Value) (fun q E => (24, vint q.1) :: (23, q.2) :: E) (fun q => [treeR t τ, refR x τ, slR 3 1 q.2 ((idsZ τ).take q.1).length (ints ((idsZ τ).take q.1))]) (fun q => q.1 ≤ τ.sess.length ∧ ∃ a c, q.2 = .slice a ((idsZ τ).take q.1).length c) (fun q => τ.sess.length - q.1) (0, .slice none 0 0) (ts := [0, 1, 5]) (.cons rfl (.cons rfl (.cons rfl (.nil)))) (⟨Nat.zero_le _, none, 0, rfl⟩) ⟨rfl, rfl, rfl, rfl, rfl, trivial⟩ (by repeat' constructor) ?_)))))))))))))
 rintro ⟨j, w⟩ ⟨hj, aw, cw, hw⟩
 dsimp only
 dsimp only at hj hw
 subst hw
 have hjl : ((idsZ τ).take j).length = j := by rw [List.length_take]; omega
 refine .seq (.seq (.rtOpen (x := x) (τ := τ) (by repeat' constructor) fun an cn as1 cs l hl => ?_))
 have hll := nds_len hl
 refine .region (.m rfl (.m rfl (.nf rfl fo_87_1 (.u (.ld rfl ag_59) (.q (.slen rfl Tryz.underlying59 rfl) rfl (.ui rfl rfl rfl (.nil (.rtFold (x := x) (τ := τ) (l := l) hl (by repeat' constructor) rfl rfl rfl rfl rfl (.then_n (.condD rfl (fun h165 => ?_) (fun h165 => ?_)))))))))))
 ·have hj2 : j < τ.sess.length := by omega
  have hsl : alook τ.sess τ.sess[j].1 = some τ.sess[j].2 := al_of_mem (ho.ssorted.nodup linI) (List.getElem_mem hj2)
  have hsd : sesD τ τ.sess[j].1 = τ.sess[j].2 ∧ sesT τ τ.sess[j].1 := by unfold sesD sesT; rw [hsl]; exact ⟨rfl, rfl⟩
  have hisn : (idsZ τ).take (j + 1) = (idsZ τ).take j ++ [τ.sess[j].1] := by rw [List.take_succ_eq_append_getElem (by omega)]; simp [idsZ]
  refine .sk (.seq (.block (.seq (.rtOpen (x := x) (τ := τ) (by repeat' constructor) fun an cn as1 cs l hl => (.slShape (T := 127) (sz := 3) (v := .slice as1 τ.sess.length cs) (xs := τ.sess.flatMap rsC) (by repeat' constructor) (by omega) fun bs bs' e0 mbs _ => ?_)))))
  simp only [Value.slice.injEq, true_and] at e0
  obtain ⟨rfl, rfl⟩ := e0
  refine .region (.m rfl (.m rfl (.nf rfl fo_87_1 (.u (.ld rfl ag_59) (.m rfl (.q (.indexAddr rfl rfl el_59 (by omega)) rfl (.u (.fieldAddr rfl fo_127_0) (.q (.loadRd (sz := 3) (j := j * 3 + 0) (p := rsR _ τ.sess) rfl ag_3 (by repeat' constructor) (fun h hp => slR_rd hp) (by omega) ((rs_cell (l := τ.sess) (i := j) (k := 0) (by omega) (by decide)).trans rfl)) rfl (.oq (.buildSlice1 (vs := [_]) el_45 ze_3 rfl rfl rfl rfl rfl (by decide)) ?_)))))))))
  rintro v L' ⟨b24, rfl, rfl⟩
  refine .oq (.append1 rfl rfl rfl el_45 ze_3 rfl rfl ?c150 ?c151 (Nat.le_refl _) ?c152 (by decide)) ?_
  case c150 => (first | (simp [isCell]; done) | (simp [isCell, setAll, Value.cells]; done))
  case c151 => rfl
  case c152 => first | omega | (simp; omega)
  rintro v L' ⟨⟨a24_23, c24_23, rfl⟩, rfl⟩
  refine .a rfl (.nil ?_)
  rw [show ints ((idsZ τ).take j) ++ [vint τ.sess[j].1] = ints ((idsZ τ).take (j + 1)) by rw [hisn]; simp [ints], show ((idsZ τ).take j).length + 1 = ((idsZ τ).take (j + 1)).length by rw [hisn, List.length_append]; rfl]
  refine .rtFold (x := x) (τ := τ) (l := l) hl (by repeat' constructor) rfl rfl rfl rfl rfl (.then_n (.seq (.rtOpen (x := x) (τ := τ) (by repeat' constructor) fun an cn as1 cs l hl => (.slShape (T := 127) (sz := 3) (v := .slice as1 τ.sess.length cs) (xs := τ.sess.flatMap rsC) (by repeat' constructor) (by omega) fun bs bs' e0 mbs _ => ?_))))
  simp only [Value.slice.injEq, true_and] at e0
  obtain ⟨rfl, rfl⟩ := e0
  refine .region (.m rfl (.m rfl (.nf rfl fo_87_1 (.u (.ld rfl ag_59) (.m rfl (.q (.indexAddr rfl rfl el_59 (by omega)) rfl (.u (.fieldAddr rfl fo_127_0) (.q (.loadRd (sz := 3) (j := j * 3 + 0) (p := rsR _ τ.sess) rfl ag_3 (by repeat' constructor) (fun h hp => slR_rd hp) (by omega) ((rs_cell (l := τ.sess) (i := j) (k := 0) (by omega) (by decide)).trans rfl)) rfl (.rtFold (x := x) (τ := τ) (l := l) hl (by repeat' constructor) rfl rfl rfl rfl rfl (.oq (.c Tryz.func73 [_, _] (trsession_spec t τ τ.sess[j].1)) ?_))))))))))
  rintro v L' ⟨rfl, rfl⟩; rw [hsd.1, decide_eq_true hsd.2]
  refine .m rfl (.u (.extract rfl rfl) (.u (.extract rfl rfl) (.u (.extract rfl rfl) (.a rfl (.a rfl (.an rfl (.seq (.rtOpen (x := x) (τ := τ) (by repeat' constructor) fun an cn as1 cs l hl => (.slShape (T := 127) (sz := 3) (v := .slice as1 τ.sess.length cs) (xs := τ.sess.flatMap rsC) (by repeat' constructor) (by omega) fun bs bs' e0 mbs _ => ?_)))))))))
  simp only [Value.slice.injEq, true_and] at e0
  obtain ⟨rfl, rfl⟩ := e0
  refine .region (.m rfl (.m rfl (.nf rfl fo_87_1 (.u (.ld rfl ag_59) (.m rfl (.q (.indexAddr rfl rfl el_59 (by omega)) rfl (.u (.fieldAddr rfl fo_127_1) (.q (.loadRd (sz := 3) (j := j * 3 + 1) (p := rsR _ τ.sess) rfl ag_3 (by repeat' constructor) (fun h hp => slR_rd hp) (by omega) ((rs_cell (l := τ.sess) (i := j) (k := 1) (by omega) (by decide)).trans rfl)) rfl (.q (.as (v' := .bool false) (by simp) (.int rfl rfl rfl)) rfl (.m rfl (.grun (t := 203) rfl rfl rfl (.m rfl (.grun (t := 203) rfl rfl rfl (.m rfl (.grun (t := 203) rfl rfl rfl (.u (.nilp rfl) (.grun (t := 203) rfl rfl rfl (.u (.fieldAddr rfl fo_87_1) (.grun (t := 203) rfl rfl rfl (.u (.ld rfl ag_59) (.grun (t := 203) rfl rfl rfl (.m rfl (.grun (t := 203) rfl rfl rfl (.q (.indexAddr rfl rfl el_59 (by omega)) rfl (.grun (t := 203) rfl rfl rfl (.u (.fieldAddr rfl fo_127_2) (.grun (t := 203) rfl rfl rfl ?_)))))))))))))))))))))))))))
  refine .q (.loadRd (sz := 3) (j := j * 3 + 2) (p := rsR _ τ.sess) rfl ag_9 (by repeat' constructor) (fun h hp => slR_rd hp) (by omega) ((rs_cell (l := τ.sess) (i := j) (k := 2) (by omega) (by decide)).trans rfl)) rfl (.grun (t := 203) rfl rfl rfl (.q (.as (v' := .bool false) (by simp) (.strne rfl rfl)) rfl (.u (.pickF rfl rfl) (.m rfl (.grun (t := 215) rfl rfl rfl (.m rfl (.grun (t := 215) rfl rfl rfl (.u (.not rfl) (.u (.pickF rfl rfl) (.nil (.rtFold (x := x) (τ := τ) (l := l) hl (by repeat' constructor) rfl rfl rfl rfl rfl (.then_n (.condF rfl (.skip (.blk_n (.then_n (.region (.m rfl (.q (.add rfl rfl (by omega)) rfl (.an rfl ?_))))))))))))))))))))
  exact .rk ((j + 1, .slice a24_23 ((idsZ τ).take (j + 1)).length c24_23)) (⟨by dsimp only; omega, _, _, rfl⟩) (by dsimp only; omega) ⟨rfl, rfl, rfl, rfl, rfl, trivial⟩
 have hjj : j = τ.sess.length := by omega
 have hjt : (idsZ τ).take j = idsZ τ := List.take_of_length_le (by omega)
 rw [hjt]
 refine .exit (.then_e (.then_e (.blk_e (.then_n (.sm rfl (.oq (.c Tryz.func22 [_] (trpaths_spec t τ N ho (by omega))) ?_))))))
 rintro v L' ⟨⟨a28, c28, rfl⟩, rfl⟩
 refine .m rfl (.oq (.call Tryz.func69 rfl rfl (vs := [_, _]) rfl (texts7_spec (pathsZ τ) (pathsZ τ) _ _ (by omega))) ?_)
 rintro v L' ⟨rfl, rfl⟩; rw [decide_eq_true rfl]
 refine .an rfl (.sm rfl (.oq (.c Tryz.func75 [_] (trsessions_spec t τ N ho hb (by omega))) ?_))
 rintro v L' ⟨⟨a29, c29, rfl⟩, rfl⟩
 refine .m rfl (.oq (.call Tryz.func74 rfl rfl (vs := [_, _]) rfl (numbers7_spec (idsZ τ) (idsZ τ) _ _ (by omega))) ?_)
 rintro v L' ⟨rfl, rfl⟩; rw [decide_eq_true rfl]
 refine .an rfl (.seq (.rtOpen (x := x) (τ := τ) (by repeat' constructor) fun an cn as1 cs l hl => (.draw [] [[0, 1, 2, 3, 4, 5, 6, 7, 8, 9, 10, 11, 12, 13]] mixed (by kernel_rfl) (.go [treeR t τ, ptc x _ _] (by repeat' constructor) (.mv rfl rfl (.mv rfl rfl (.gv rfl (.move rfl) (.kv rfl (.pickT rfl rfl) (.mv rfl rfl (.gv rfl (.move rfl) (.gm (t := 231) rfl rfl rfl (by kernel_rfl) (.c Tryz.func24 [_] (trzxid_spec t τ)) (by repeat' constructor) ?_)))))))))))
 refine D.gv rfl (.move rfl) (.gv rfl (.nilp rfl) (.gv rfl (.fieldAddr rfl fo_87_2) (.gv rfl (.ld rfl ag_3) (.gv rfl (.as (v' := .bool true) (by simp) (.int rfl rfl rfl)) (.kv rfl (.pickT rfl rfl) (.kv rfl (.assign rfl) (.ph (.fin (.rtFold (x := x) (τ := τ) (l := l) hl (by repeat' constructor) rfl rfl rfl rfl rfl (.then_n (.ret ?_)))))))))))
 exact .vv
/- not in this seat -/
section
variable {P : Program} {W : World} {n : Nat} {ds : List Deferred} {E : Env} {L R : List HP} {X : Act → World → Prop}
end
section
variable {P : Program} {E : Env} {L : List HP} {ty : TypeId}
end
section
variable {P : Program} {E : Env} {L : List HP} {ty : TypeId}
theorem Quiet.quoU {t t' : TypeId} {x y : Operand} {a b : Int} (hx : ev E x = some (.int .u64 a)) (hy : ev E y = some (.int .u64 b)) (h0 : 0 ≤ a ∧ a < 18446744073709551616) (hb : 0 < b) :
  Quiet P ⟨none, .binOp .quo t x y t', ty, "", #[], none⟩ E L (.int .u64 (a / b)) := by
 intro ρ w ha _
 have e : a.tdiv b = a / b := Int.tdiv_eq_ediv_of_nonneg h0.1
 have h1 : a / b ≤ a := Int.ediv_le_self b h0.1
 have h2 : 0 ≤ a / b := Int.ediv_nonneg h0.1 (by omega)
 have hw : IntKind.u64.wrap (a / b) = a / b := by rw [u64wrap]; omega
 simp [execOp, ha x _ hx, ha y _ hy, eqGuard, binOp, Op.intDiv, Bind.bind, Sem.bind, Pure.pure, Sem.run, show b ≠ 0 by omega, e, hw]
theorem Quiet.remU {t t' : TypeId} {x y : Operand} {a b : Int} (hx : ev E x = some (.int .u64 a)) (hy : ev E y = some (.int .u64 b)) (h0 : 0 ≤ a) (hb : 0 < b) :
  Quiet P ⟨none, .binOp .rem t x y t', ty, "", #[], none⟩ E L (.int .u64 (a % b)) := by
 intro ρ w ha _
 have e : a.tmod b = a % b := Int.tmod_eq_emod_of_nonneg h0
 simp [execOp, ha x _ hx, ha y _ hy, eqGuard, binOp, Op.intDiv, Bind.bind, Sem.bind, Pure.pure, Sem.run, show b ≠ 0 by omega, e]
end
theorem r1zig_spec (n : Int) (hn : I64 n) : Fn Tryz.prog 145 #[vint n] [] fun v L => v = .int .u64 (zigZ n : Nat) ∧ L = [] := by
 refine Fn.intro Tryz.func145 rfl rfl fun F W => ?_
 refine .sr (.an rfl (.seq (.sm rfl (.ui rfl rfl rfl (.nt (.condD rfl (fun h4 => ?_) (fun h4 => ?_)))))))
 ·refine .sm rfl (.q (.conv rfl Tryz.underlying3 Tryz.underlying171) rfl (.q (.as (v' := .int .u64 (zigZ n : Nat)) (by exact congrArg (Value.int .u64) (by rw [u64wrap, u64wrap]; unfold zigZ; rw [if_pos (by omega)]; omega)) (.int rfl rfl rfl)) rfl (.an rfl (.rt ?_))))
  exact .vv
 refine .sk (.sm rfl (.q (.add rfl rfl (by omega)) rfl (.q (.neg rfl (by omega)) rfl (.q (.conv rfl Tryz.underlying3 Tryz.underlying171) rfl (.ui rfl rfl rfl (.q (.as (v' := .int .u64 (zigZ n : Nat)) (by exact congrArg (Value.int .u64) (by rw [u64wrap, u64wrap, u64wrap]; unfold zigZ; rw [if_neg (by omega)]; omega)) (.int rfl rfl rfl)) rfl (.an rfl (.ret ?_))))))))
 exact .vv
theorem sev_step' {u : Nat} (h : 128 ≤ u) (bs : Bs) : bs ++ [UInt8.ofNat (u % 128 + 128)] ++ sevZ (u / 128) = bs ++ sevZ u := by
 rw [sevZ.eq_1 u, if_neg (by omega), List.append_assoc]; rfl
theorem sev_last' {u : Nat} (h : ¬ 128 ≤ u) : [UInt8.ofNat u] = sevZ u := by
 rw [sevZ.eq_1 u, if_pos (by omega)]
theorem u8_of {u : Nat} (h : u < 256) : Value.int .u8 (IntKind.u8.wrap (u : Int)) = vbyte (UInt8.ofNat u) := by
 have e : IntKind.u8.wrap (u : Int) = (u : Int) := by simp [IntKind.wrap, IntKind.bits, IntKind.signed]; omega
 rw [e]; show Value.int .u8 (u : Int) = .int .u8 ((UInt8.ofNat u).toNat : Int)
 rw [u8_ofNat h]
theorem r1sev_spec (u0 : Nat) (hu : u0 < U64) : Fn Tryz.prog 144 #[.int .u64 u0] [] fun v L => v = vstr (sevZ u0) ∧ L = [] := by
 refine Fn.intro Tryz.func144 rfl rfl fun F W => ?_
 have hs10 := sev_len10 hu
 have h64 : U64 = 18446744073709551616 := rfl
 refine .sr (.an rfl (.seq (.add (slR_nil 5 1) (.region (.an rfl (.seq (.block (.loopK (ι := Nat × Value × Bs) (fun q E => (0, .int .u64 q.1) :: (3, q.2.1) :: E) (fun q => [bytR q.2.1 q.2.2]) (fun q => q.1 ≤ u0 ∧ (∃ a c, q.2.1 = .slice a q.2.2.length c) ∧ q.2.2 ++ sevZ q.1 = sevZ u0) (fun q => q.1) (u0, .slice none 0 0, []) (ts := [2]) (.cons rfl (.nil)) (⟨Nat.le_refl _, ⟨none, 0, rfl⟩, rfl⟩) ⟨rfl, rfl, rfl, trivial⟩ (by repeat' constructor) ?_))))))))
 rintro ⟨u, v, b⟩ ⟨hu0, ⟨av, cv, hv⟩, heq⟩
 dsimp only
 dsimp only at hu0 hv heq
 subst hv
 have hbl := congrArg List.length heq
 rw [List.length_append] at hbl
 have hsl := sev_len u
 refine .seq (.sm rfl (.ui rfl rfl rfl (.nt (.condD rfl (fun h5 => ?_) (fun h5 => ?_)))))
 ·refine .sk (.block (.sm rfl (.m rfl (.q (.to (v' := .int .u64 ((u % 128 : Nat) : Int)) (.remU rfl rfl (by omega) (by decide)) (by rfl)) rfl (.ui rfl rfl rfl (.q (.as (v' := vbyte (UInt8.ofNat (u % 128 + 128))) (by rw [u64wrap, show (((u % 128 : Nat) : Int) + 128) % 18446744073709551616 = ((u % 128 + 128 : Nat) : Int) by omega]; exact u8_of (by omega)) (.conv rfl Tryz.underlying171 Tryz.underlying5)) rfl (.oq (.buildSlice1 (vs := [_]) el_163 ze_5 rfl rfl rfl rfl rfl (by decide)) ?_)))))))
  rintro v L' ⟨b3, rfl, rfl⟩
  refine .oq (.append1 rfl rfl rfl el_163 ze_5 rfl rfl ?c12 ?c13 (Nat.le_refl _) ?c14 (by decide)) ?_
  case c12 => (first | (simp [isCell]; done) | (simp [isCell, setAll, Value.cells]; done))
  case c13 => rfl
  case c14 => omega
  rintro v L' ⟨⟨a3, c3, rfl⟩, rfl⟩
  refine .an rfl (.region (.m rfl (.q (.to (v' := .int .u64 ((u / 128 : Nat) : Int)) (.quoU rfl rfl (by omega) (by decide)) (by rfl)) rfl (.a rfl (.nil (.blk_n (.then_n (.slCast (T := 5) (sz := 1) (m' := (b ++ [(UInt8.ofNat (u % 128 + 128))]).length) (xs' := bysL (b ++ [(UInt8.ofNat (u % 128 + 128))])) (by repeat' constructor) (by simp) (by simp [bysL, Value.cells]) ?_))))))))
  exact .rk ((u / 128, .slice a3 (b.length + 1) c3, b ++ [(UInt8.ofNat (u % 128 + 128))])) (⟨by dsimp only; omega, ⟨a3, c3, by simp⟩, by dsimp only; rw [sev_step' (by omega)]; exact heq⟩) (by dsimp only; omega) ⟨rfl, rfl, rfl, trivial⟩
 refine .exit (.then_e (.then_e (.blk_e (.then_n (.sm rfl (.m rfl (.q (.as (v' := vbyte (UInt8.ofNat u)) (by exact u8_of (by omega)) (.conv rfl Tryz.underlying171 Tryz.underlying5)) rfl (.oq (.buildSlice1 (vs := [_]) el_163 ze_5 rfl rfl rfl rfl rfl (by decide)) ?_))))))))
 rintro v L' ⟨b5, rfl, rfl⟩
 refine .oq (.append1 rfl rfl rfl el_163 ze_5 rfl rfl ?c24 ?c25 (Nat.le_refl _) ?c26 (by decide)) ?_
 case c24 => (first | (simp [isCell]; done) | (simp [isCell, setAll, Value.cells]; done))
 case c25 => rfl
 case c26 => omega
 rintro v L' ⟨⟨a5, c5, rfl⟩, rfl⟩
 refine .an rfl (.seq (.slCast (T := 5) (sz := 1) (m' := (b ++ [(UInt8.ofNat u)]).length) (xs' := bysL (b ++ [(UInt8.ofNat u)])) (by repeat' constructor) (by simp) (by simp [bysL, Value.cells]) ?_))
 have hfin : b ++ [(UInt8.ofNat u)] = sevZ u0 := by rw [sev_last' (by omega)]; exact heq
 refine .region (.m rfl (.q (.bytesBy (cs := b ++ [(UInt8.ofNat u)]) (n := b.length + 1) (p := slR 5 1 (.slice a5 (b.length + 1) c5) (b ++ [(UInt8.ofNat u)]).length (bysL (b ++ [(UInt8.ofNat u)]))) rfl Tryz.underlying163 Tryz.underlying5 Tryz.underlying9 (fun h hp => by rw [show b.length + 1 = (b ++ [(UInt8.ofNat u)]).length by simp] at hp ⊢; exact slR_rd hp) (by repeat' constructor)) rfl (.an rfl (.ret ?_))))
 rw [hfin]
 exact .vv
theorem r1num_spec (n : Int) (hn : I64 n) : Fn Tryz.prog 116 #[vint n] [] fun v L => v = vstr (numB n) ∧ L = [] := by
 refine Fn.intro Tryz.func116 rfl rfl fun F W => ?_
 refine .sr (.an rfl (.sm rfl (.cv Tryz.func145 [_] (r1zig_spec n hn) ?_)))
 refine .cv Tryz.func144 [_] (r1sev_spec (zigZ n) (zig_lt hn)) ?_
 refine .an rfl (.ret ?_)
 exact .vv
theorem r1cnt_spec (n : Nat) (hn : n ≤ 70368744177664) : Fn Tryz.prog 117 #[vint n] [] fun v L => v = vstr (cntB n) ∧ L = [] := by
 refine Fn.intro Tryz.func117 rfl rfl fun F W => ?_
 have hz : n < U64 := by unfold U64; omega
 refine .sr (.an rfl (.sm rfl (.u (.max2 rfl rfl) (.q (.as (v' := .int .u64 (n : Nat)) (by exact congrArg (Value.int .u64) (by rw [u64wrap]; omega)) (.conv rfl Tryz.underlying3 Tryz.underlying171)) rfl (.cv Tryz.func144 [_] (r1sev_spec n hz) ?_)))))
 refine .an rfl (.ret ?_)
 exact .vv
theorem r1txt_spec (s : Bs) (hs : s.length ≤ 70368744100000) : Fn Tryz.prog 115 #[vstr s] [] fun v L => v = vstr (txtB s) ∧ L = [] := by
 refine Fn.intro Tryz.func115 rfl rfl fun F W => ?_
 have hc : (cntB s.length).length ≤ 10 := sev_len10 (by unfold U64; omega)
 refine .sr (.an rfl (.sm rfl (.q (.strlen rfl Tryz.underlying9 rfl) rfl (.cv Tryz.func117 [_] (r1cnt_spec s.length (by omega)) ?_))))
 refine .m rfl (.q (.concat rfl rfl (by omega)) rfl (.an rfl (.ret ?_)))
 exact .vv
theorem last_at {l : List PN} {i : Nat} (hl : l.length = i + 1) : lastP l = (l[i]'(by omega)).1 := by
 have : l = l.take i ++ [l[i]'(by omega)] := by rw [← List.take_succ_eq_append_getElem (by omega), List.take_of_length_le (by omega)]
 conv => lhs; rw [this]
 exact lastP_snoc _ _
end Go.Proofs.YtgppfpmmijbncaaGreatDoor
