/- Own work, some of it printed by program, texts that were built one by one: a part of the proof of prepMultis.proved. -/
import Derived.Test.YtkjlihfalfbmjaaGreatDoorCPMultisP2
import Derived.Test.YtkjlihfalfbmjaaGreatDoorCPMultisP1
import Derived.Test.YtkjlihfalfbmjaaGreatDoorCPMultisP0
import Derived.RangeFuncRecord
import Derived.Test.YtkjlihfalfbmjaaGreatDoorRows
import Derived.WalkKit
import Derived.ProofKit
import Derived.OpenShut
import Derived.JoinedCond
import Derived.Carry
import Derived.Deep.Grids
import Derived.Handed
import Derived.Deep.Strs
set_option maxRecDepth 100000
namespace Go.Proofs.YtkjlihfalfbmjaaGreatDoor
open Go
def nilP : HP := fun _ => True
theorem nilP_ok (h : Hp) : nilP h := trivial
def closeT : List Bs → Tr → Tr
 | [], τ => τ
 | p :: l, τ => closeT l (applyZ τ τ.zx (delX τ p) []).1
theorem closeT_app : ∀ (l m : List Bs) (τ : Tr), closeT (l ++ m) τ = closeT m (closeT l τ)
 | [], _, _ => rfl
 | _ :: l, m, _ => closeT_app l m _
theorem closeL_app : ∀ (l m : List Bs) (τ : Tr), closeL (l ++ m) τ = closeL l τ ++ closeL m (closeT l τ)
 | [], _, _ => rfl
 | p :: l, m, τ => by
  show delX τ p :: closeL (l ++ m) _ = (delX τ p :: closeL l _) ++ _
  rw [closeL_app l m]; rfl
theorem closeL_len : ∀ (l : List Bs) (τ : Tr), (closeL l τ).length = l.length
 | [], _ => rfl
 | _ :: l, _ => congrArg Nat.succ (closeL_len l _)
theorem closeT_step {l : List Bs} {i : Nat} (hi : i < l.length) (τ : Tr) : closeT (l.take (i + 1)) τ = (applyZ (closeT (l.take i) τ) (closeT (l.take i) τ).zx (delX (closeT (l.take i) τ) l[i]) []).1 := by
 rw [List.take_succ_eq_append_getElem hi, closeT_app]; rfl
theorem closeL_step {l : List Bs} {i : Nat} (hi : i < l.length) (τ : Tr) : closeL (l.take (i + 1)) τ = closeL (l.take i) τ ++ [delX (closeT (l.take i) τ) l[i]] := by
 rw [List.take_succ_eq_append_getElem hi, closeL_app]; rfl
theorem closeT_ok {N : Nat} : ∀ (l : List Bs) {τ : Tr}, τ.Ok N → (closeT l τ).Ok (N + l.length)
 | [], _, h => h
 | p :: l, τ, h => by
  have h1 : (applyZ τ τ.zx (delX τ p) []).1.Ok (N + 1) := h.apply τ.zx (delX τ p) [] (Nat.zero_le _) (fun _ h => by cases h)
  have h2 := closeT_ok l h1
  rw [List.length_cons, show N + (l.length + 1) = N + 1 + l.length by omega]
  exact h2
theorem closeL_plain : ∀ (l : List Bs) (τ : Tr), ∀ y ∈ closeL l τ, y.aclV = nilV ∧ y.acl = [] ∧ y.subsV = nilV ∧ y.pl = y
 | [], _, y, hy => by cases hy
 | p :: l, τ, y, hy => by
  rcases List.mem_cons.1 (show y ∈ delX τ p :: closeL l _ from hy) with rfl | hy
  ·exact ⟨rfl, rfl, rfl, rfl⟩
  ·exact closeL_plain l _ y hy
theorem map_pl : ∀ {l : List Pt}, (∀ y ∈ l, y.pl = y) → l.map Pt.pl = l
 | [], _ => rfl
 | y :: l, h => by rw [List.map_cons, h y List.mem_cons_self, map_pl fun z hz => h z (List.mem_cons_of_mem _ hz)]
theorem owned_short {τ : Tr} {N : Nat} (ho : τ.Ok N) {s : Int} {p : Bs} (hp : p ∈ ownedZ τ s) : p.length ≤ 60 := by
 unfold ownedZ at hp
 obtain ⟨y, hy, rfl⟩ := List.mem_map.1 hp
 exact able_len (ho.able y (List.mem_filter.1 hy).1)
theorem big_none : ∀ {l : List Pt}, (∀ y ∈ l, y.aclV = nilV ∧ y.acl = []) → ∀ h : Hp, bigR aclR l h
 | [], _, h => big_nil h
 | y :: l, hl, h => by
  refine big_of_cons ?_
  obtain ⟨h1, h2⟩ := hl y List.mem_cons_self
  have ha : ∀ g : Hp, aclR y g := fun g => by
   unfold aclR
   rw [h1, h2]
   exact slR_nil _ 2 g
  exact ⟨fun _ => none, h, fun _ => .inl rfl, (fun _ _ e => by cases e), fun _ _ e => e, ha _, h, fun _ => none, fun _ => .inr rfl, fun _ _ e => e, (fun _ _ e => by cases e), big_none (fun z hz => hl z (List.mem_cons_of_mem _ hz)) _, trivial⟩
theorem flat8_len (l : List Pt) : (l.flatMap ptC).length = l.length * 8 := flatMap_len (fun _ _ => rfl)
theorem spl_app {xs ys zs : List Value} {n : Nat} (hn : xs.length = n) (hl : zs.length = ys.length) : spl (xs ++ ys) n zs = xs ++ zs := by
 unfold spl
 have e : (xs ++ ys).drop (n + zs.length) = [] := List.drop_eq_nil_of_le (by rw [List.length_append]; omega)
 rw [e, ← hn, List.take_left, List.append_nil]
def clsC (s : Int) (z : Value) : List Value := [vint 6, vstr [], vstr [], nilV, vint s, vint 0, vint 0, z]
def clsJ (K : HP) (c b : Nat) (τ : Tr) (s : Int) (l : List Bs) (i : Nat) : HP := fun h => ∃ z : Value, (∃ a k, z = .slice a i k) ∧ sep [K, treeR c (closeT (l.take i) τ), ptc b (clsC s z) 43, slR 43 8 z i ((closeL (l.take i) τ).flatMap ptC)] h
theorem multiL_R {p : HP} {u : Who} {iv : Value} : ∀ {l : List Rq} {τ : Tr}, (∀ r ∈ l, WiA p u iv r ∧ AclW r.acl) → (∀ y ∈ (multiL u l τ).2.1, PtR y) ∧ (multiL u l τ).2.1.length ≤ l.length
 | [], _, _ => ⟨(fun _ h => by cases h), Nat.le_refl _⟩
 | r :: l, τ, h => by
  rw [multi_cons]
  split
  ·exact ⟨(fun _ g => by cases g), Nat.zero_le _⟩
  ·obtain ⟨h1, h2⟩ := multiL_R (l := l) (τ := (applyZ τ τ.zx (partP τ u r).1 []).1) (fun x hx => h x (List.mem_cons_of_mem _ hx))
   have h0 := h r List.mem_cons_self
   refine ⟨fun y hy => ?_, Nat.succ_le_succ h2⟩
   rcases List.mem_cons.1 hy with rfl | hy
   ·exact part_R h0.1 h0.2
   ·exact h1 y hy
theorem multi_stop_i {u : Who} : ∀ {l : List Rq} {τ : Tr} {i : Nat} {e : Int}, (multiL u l τ).2.2 = some (i, e) → i < l.length ∧ 0 ≤ e ∧ e ≤ 110
 | [], _, _, _, h => by cases h
 | r :: l, τ, i, e, h => by
  rw [multi_cons] at h
  split at h
  ·have h2 : (0, (partP τ u r).2) = (i, e) := Option.some.inj h
   obtain ⟨rfl, rfl⟩ := Prod.mk.inj h2
   have := part_code τ u r
   exact ⟨by rw [List.length_cons]; omega, this.1, this.2⟩
  ·have h2 : Option.map (fun x : Nat × Int => (x.1 + 1, x.2)) (multiL u l (applyZ τ τ.zx (partP τ u r).1 []).1).2.2 = some (i, e) := h
   obtain ⟨⟨j, k⟩, h3, h4⟩ := Option.map_eq_some_iff.1 h2
   obtain ⟨rfl, rfl⟩ := Prod.mk.inj h4
   have := multi_stop_i h3
   exact ⟨by rw [List.length_cons]; omega, this.2.1, this.2.2⟩
theorem multi_R {p : HP} {u : Who} {iv : Value} {l : List Rq} {τ : Tr} (h : ∀ r ∈ l, WiA p u iv r ∧ AclW r.acl) : PtR (multiP τ u l).1 ∧ (∀ y ∈ (multiP τ u l).2, PtR y) ∧ (multiP τ u l).2.length ≤ 8 := by
 have hm : I64 (-1) := ⟨by decide, by decide⟩
 unfold multiP
 split
 ·exact ⟨refusal_R ⟨by decide, by decide⟩ hm, (fun _ g => by cases g), by show 0 ≤ 8; decide⟩
 ·rename_i hl
  have h8 : l.length ≤ 8 := by omega
  obtain ⟨h1, h2⟩ := multiL_R (τ := τ) h
  split
  ·rename_i i e he
   have hie : i < 8 ∧ 0 ≤ e ∧ e ≤ 110 := by
    have := multi_stop_i he
    omega
   exact ⟨refusal_R ⟨by omega, by omega⟩ ⟨by omega, by omega⟩, (fun _ g => by cases g), by show 0 ≤ 8; decide⟩
  ·refine ⟨⟨⟨⟨by show (-9223372036854775808 : Int) ≤ 7; decide, by show (7 : Int) ≤ 9223372036854775807; decide⟩, I64.zero, I64.zero, I64.zero, by show 0 < U64; decide, by show 0 < U64; decide, by show 0 < U64; decide, fun a ha => by cases ha⟩, acl_nil_w.long, Nat.zero_le _, Nat.zero_le _, Nat.zero_le _⟩, h1, by show (multiL u l τ).2.1.length ≤ 8; omega⟩
theorem del_R {τ : Tr} {p : Bs} (hp : p.length ≤ 60) : PtR (delX τ p) ∧ (ptB (delX τ p)).length ≤ 200 := by
 have hu : U64 = 18446744073709551616 := rfl
 have hn : I64 (wrapI ((statD τ (parentZ p)).cver + 1)) := wrap_i64 _
 have hR : PtR (delX τ p) := ⟨⟨⟨by show (-9223372036854775808 : Int) ≤ 2; decide, by show (2 : Int) ≤ 9223372036854775807; decide⟩, I64.zero, hn, I64.zero, by show p.length < U64; omega, by show 0 < U64; decide, by show 0 < U64; decide, fun a ha => by cases ha⟩, acl_nil_w.long, Nat.zero_le _, by show p.length ≤ _; omega, Nat.zero_le _⟩
 refine ⟨hR, ?_⟩
 have h1 := numB_ten hR.i.kind
 have h2 := sev_len10 (u := p.length) (by omega)
 have h5 := numB_ten hR.i.own
 have h6 := numB_ten hR.i.num
 have h7 := numB_ten hR.i.err
 have h8 : (txtB (delX τ p).path).length ≤ 70 := by
  show (txtB p).length ≤ 70
  unfold txtB cntB
  rw [List.length_append]; omega
 have h9 : (txtB (delX τ p).data).length ≤ 10 := by
  show (txtB []).length ≤ 10
  simp [txtB, cntB, sevZ]
 have h10 : (aclB (delX τ p).acl).length ≤ 10 := by
  show (aclB []).length ≤ 10
  simp [aclB, cntB, sevZ]
 unfold ptB
 simp only [List.flatMap_cons, List.flatMap_nil, List.length_append, List.length_nil]
 omega
theorem closeL_R : ∀ {l : List Bs} {τ : Tr}, (∀ p ∈ l, p.length ≤ 60) → ∀ y ∈ closeL l τ, PtR y ∧ (ptB y).length ≤ 200
 | [], _, _, _, h => by cases h
 | p :: l, τ, h, y, hy => by
  rcases List.mem_cons.1 (show y ∈ delX τ p :: closeL l _ from hy) with rfl | hy
  ·exact del_R (h p List.mem_cons_self)
  ·exact closeL_R (fun x hx => h x (List.mem_cons_of_mem _ hx)) y hy
def readK (k : Int) : Prop := k = 9 ∨ k = 10 ∨ k = 11 ∨ k = 12
instance (k : Int) : Decidable (readK k) := inferInstanceAs (Decidable (_ ∨ _))
theorem RqA.up {a p : HP} {r : Rq} (h : RqA p r) : RqA (sep [a, p]) r := ⟨h.kind, h.xid, h.flags, h.ver, h.path, h.data, rd_tail h.acl, h.many, h.ids, h.sub, h.arm⟩
theorem WiA.up {a p : HP} {u : Who} {iv : Value} {r : Rq} (h : WiA p u iv r) : WiA (sep [a, p]) u iv r := ⟨h.rq.up, h.ses, rd_tail h.ids, h.few, h.shape, h.ashape, h.tab.up⟩
def zS (s : Stt) : Stt := { s with cz := 0, mz := 0, pz := 0 }
def zN (n : Nd) : Nd := { n with st := zS n.st }
def zL (l : List PN) : List PN := l.map fun y => (y.1, zN y.2)
def zT (τ : Tr) : Tr := ⟨zL τ.nodes, τ.sess, 0⟩
theorem zL_look : ∀ (l : List PN) (p : Bs), alook (zL l) p = (alook l p).map zN
 | [], _ => rfl
 | y :: l, p => by
  show alook ((y.1, zN y.2) :: zL l) p = (alook (y :: l) p).map zN
  unfold alook
  split
  ·rfl
  ·exact zL_look l p
theorem zT_there (τ : Tr) (p : Bs) : thereT (zT τ) p ↔ thereT τ p := by
 unfold thereT
 rw [show alook (zT τ).nodes p = (alook τ.nodes p).map zN from zL_look _ _]
 cases alook τ.nodes p <;> simp
theorem zT_paths (τ : Tr) : pathsZ (zT τ) = pathsZ τ := by
 unfold pathsZ zT zL
 rw [List.map_map]; rfl
theorem zT_kids (τ : Tr) (p : Bs) : kidsZ (zT τ) p = kidsZ τ p := by
 unfold kidsZ zT zL
 rw [List.filter_map, List.map_map]; rfl
theorem zT_owned (τ : Tr) (s : Int) : ownedZ (zT τ) s = ownedZ τ s := by
 unfold ownedZ zT zL
 rw [List.filter_map, List.map_map]; rfl
theorem zT_stat (τ : Tr) (p : Bs) : statD (zT τ) p = zS (statD τ p) := by
 unfold statD statZ
 rw [show alook (zT τ).nodes p = (alook τ.nodes p).map zN from zL_look _ _, zT_kids]
 cases alook τ.nodes p <;> rfl
theorem zT_acl (τ : Tr) (p : Bs) : aclD (zT τ) p = aclD τ p := by
 unfold aclD
 rw [show alook (zT τ).nodes p = (alook τ.nodes p).map zN from zL_look _ _]
 cases alook τ.nodes p <;> rfl
theorem zT_may (τ : Tr) (ids : List Bs) (p : Bs) (k : Int) : mayT (zT τ) ids p k ↔ mayT τ ids p k := by
 unfold mayT
 rw [zT_there, zT_acl]
theorem when_iff {a b : Prop} [Decidable a] [Decidable b] (h : a ↔ b) (e : Int) : whenZ a e = whenZ b e := by
 by_cases g : a
 ·rw [show whenZ a e = e from if_pos g, show whenZ b e = e from if_pos (h.1 g)]
 ·rw [show whenZ a e = 0 from if_neg g, show whenZ b e = 0 from if_neg (fun k => g (h.2 k))]
theorem zT_up (τ : Tr) (r : Rq) : upS (zT τ) r = zS (upS τ r) := zT_stat _ _
theorem zT_full (τ : Tr) (r : Rq) : fullZ (zT τ) r = fullZ τ r := by
 unfold fullZ
 rw [zT_up]; rfl
theorem zT_part (τ : Tr) (u : Who) (r : Rq) : partP (zT τ) u r = partP τ u r := by
 have e1 : createX (zT τ) u r = createX τ u r := by
  unfold createX
  rw [zT_full, zT_up]; rfl
 have e2 : createE (zT τ) u r = createE τ u r := by
  unfold createE
  rw [zT_full, zT_up, zT_paths, zT_owned, when_iff (not_congr (zT_there τ (parentZ r.path))), when_iff (not_congr (zT_may τ u.ids (parentZ r.path) 4)), when_iff (zT_there τ (fullZ τ r))]
  rfl
 have e3 : eraseX (zT τ) r = eraseX τ r := by
  unfold eraseX
  rw [zT_up]; rfl
 have e4 : eraseE (zT τ) u r = eraseE τ u r := by
  unfold eraseE
  rw [zT_stat, when_iff (not_congr (zT_there τ r.path)), when_iff (not_congr (zT_may τ u.ids (parentZ r.path) 8))]
  rfl
 have es : ∀ k p, stampK k (statD (zT τ) p) = stampK k (statD τ p) := fun k p => by
  rw [zT_stat]
  unfold stampK
  split <;> rfl
 have e5 : nodeX (zT τ) r = nodeX τ r := by
  unfold nodeX
  rw [es, es]
 have e6 : nodeE (zT τ) u r = nodeE τ u r := by
  unfold nodeE
  rw [es, when_iff (not_congr (zT_there τ r.path)), when_iff (not_congr (zT_may τ u.ids r.path (permK r.kind)))]
 unfold partP
 rw [e1, e2, e3, e4, e5, e6]
/-! ### Steps -/
theorem zL_sset : ∀ (l : List PN) (p : Bs) (n : Nd), zL (sset l p n) = sset (zL l) p (zN n)
 | [], _, _ => rfl
 | y :: l, p, n => by
  show zL (if y.1 = p then (p, n) :: l else if p < y.1 then (p, n) :: y :: l else y :: sset l p n) = if y.1 = p then (p, zN n) :: zL l else if p < y.1 then (p, zN n) :: (y.1, zN y.2) :: zL l else (y.1, zN y.2) :: sset (zL l) p (zN n)
  split
  ·rfl
  ·split
   ·rfl
   ·show (y.1, zN y.2) :: zL (sset l p n) = _
    rw [zL_sset l p n]
theorem zL_amod {l : List PN} {p : Bs} {f g : Nd → Nd} (h : ∀ n, zN (f n) = g (zN n)) : zL (amod l p f) = amod (zL l) p g := by
 unfold zL amod
 rw [List.map_map, List.map_map]
 refine List.map_congr_left fun y _ => ?_
 dsimp only [Function.comp]
 split
 ·rw [h]
 ·rfl
theorem zL_filter (l : List PN) (f : Bs → Bool) : zL (l.filter fun y => f y.1) = (zL l).filter fun y => f y.1 := by
 unfold zL
 rw [List.filter_map]; rfl
theorem zT_kid {τ υ : Tr} (h : zT τ = zT υ) (p : Bs) (num zx zy : Int) : zT (kidT τ p num zx) = zT (kidT υ p num zy) := by
 have e : ∀ (σ : Tr) (z : Int), zT (kidT σ p num z) = { zT σ with nodes := amod (zT σ).nodes p (fun n => { n with st := { n.st with cver := num } }) } := fun σ z => by
  unfold zT kidT
  dsimp only
  rw [zL_amod (g := fun n => { n with st := { n.st with cver := num } }) (fun n => rfl)]
 rw [e, e, h]
theorem ite_zT {c d : Prop} [Decidable c] [Decidable d] (h : c ↔ d) {a b a' b' : Tr} (h1 : c → zT a = zT a') (h2 : ¬ c → zT b = zT b') : zT (if c then a else b) = zT (if d then a' else b') := by
 by_cases g : c
 ·rw [if_pos g, if_pos (h.1 g)]; exact h1 g
 ·rw [if_neg g, if_neg (fun k => g (h.2 k))]; exact h2 g
theorem part_fst (τ : Tr) (x : Pt) (zx : Int) : (partZ τ x zx).1 = if x.kind = 1 then (if ableZ x.path ∧ thereT τ (parentZ x.path) then kidT { τ with nodes := sset τ.nodes x.path (newN x zx) } (parentZ x.path) x.num zx else τ) else if x.kind = 2 then (if ableZ x.path then kidT (cutT τ x.path) (parentZ x.path) x.num zx else τ) else if x.kind = 3 ∧ thereT τ x.path then { τ with nodes := amod τ.nodes x.path (setN x.data x.num zx) } else if x.kind = 4 ∧ thereT τ x.path then { τ with nodes := amod τ.nodes x.path (aclN x.acl x.num) } else τ := by
 unfold partZ createZ eraseZ
 simp only [apply_ite Prod.fst]
theorem zT_part1 {τ υ : Tr} (h : zT τ = zT υ) (x : Pt) (zx zy : Int) : zT (partZ τ x zx).1 = zT (partZ υ x zy).1 := by
 have ht : ∀ p, thereT τ p ↔ thereT υ p := fun p => by rw [← zT_there τ, h, zT_there]
 rw [part_fst, part_fst]
 refine ite_zT Iff.rfl (fun _ => ite_zT (and_congr_right' (ht _)) (fun _ => zT_kid ?_ _ _ _ _) (fun _ => h)) (fun _ => ite_zT Iff.rfl (fun _ => ite_zT Iff.rfl (fun _ => zT_kid ?_ _ _ _ _) (fun _ => h)) (fun _ => ite_zT (and_congr_right' (ht _)) (fun _ => ?_) (fun _ => ite_zT (and_congr_right' (ht _)) (fun _ => ?_) (fun _ => h))))
 ·have e : ∀ (σ : Tr) (z : Int), zT { σ with nodes := sset σ.nodes x.path (newN x z) } = { zT σ with nodes := sset (zT σ).nodes x.path (zN (newN x 0)) } := fun σ z => by
   unfold zT
   dsimp only
   rw [zL_sset]; rfl
  exact (e τ zx).trans (by rw [h]; exact (e υ zy).symm)
 ·have e : ∀ σ : Tr, zT (cutT σ x.path) = { zT σ with nodes := (zT σ).nodes.filter fun y => !hitT y.1 x.path } := fun σ => by
   unfold zT cutT
   dsimp only
   rw [zL_filter σ.nodes (fun q => !hitT q x.path)]
  rw [e, e, h]
 ·have e : ∀ (σ : Tr) (z : Int), zT { σ with nodes := amod σ.nodes x.path (setN x.data x.num z) } = { zT σ with nodes := amod (zT σ).nodes x.path (fun n => { n with data := x.data, st := { n.st with ver := x.num } }) } := fun σ z => by
   unfold zT
   dsimp only
   rw [zL_amod (g := fun n => { n with data := x.data, st := { n.st with ver := x.num } }) (fun n => rfl)]
  exact (e τ zx).trans (by rw [h]; exact (e υ zy).symm)
 ·have e : ∀ (σ : Tr), zT { σ with nodes := amod σ.nodes x.path (aclN x.acl x.num) } = { zT σ with nodes := amod (zT σ).nodes x.path (aclN x.acl x.num) } := fun σ => by
   unfold zT
   dsimp only
   rw [zL_amod (g := aclN x.acl x.num) (fun n => rfl)]
  exact (e τ).trans (by rw [h]; exact (e υ).symm)
theorem zT_zx (τ : Tr) (z : Int) : zT (zxT τ z) = zT τ := rfl
def plainK (x : Pt) : Prop := x.kind ≠ 5 ∧ x.kind ≠ 6 ∧ x.kind ≠ 7 ∧ x.kind ≠ 8
theorem apply_part {τ : Tr} {zx : Int} {x : Pt} (h : plainK x) (l : List Pt) : (applyZ τ zx x l).1 = (partZ (zxT τ zx) x zx).1 := by
 obtain ⟨h5, h6, h7, h8⟩ := h
 unfold applyZ
 dsimp only
 rw [if_neg h5, if_neg h6, if_neg h7, if_neg h8]
theorem ite_zx {c d : Prop} [Decidable c] [Decidable d] (h : c ↔ d) (z : Int) {a b a' b' : Tr} (h1 : a = zxT a' z) (h2 : b = zxT b' z) : (if c then a else b) = zxT (if d then a' else b') z := by
 by_cases g : c
 ·rw [if_pos g, if_pos (h.1 g)]; exact h1
 ·rw [if_neg g, if_neg (fun k => g (h.2 k))]; exact h2
theorem part_zxT (τ : Tr) (x : Pt) (zx z : Int) : (partZ (zxT τ z) x zx).1 = zxT (partZ τ x zx).1 z := by
 rw [part_fst, part_fst]
 exact ite_zx Iff.rfl z (ite_zx Iff.rfl z rfl rfl) (ite_zx Iff.rfl z (ite_zx Iff.rfl z rfl rfl) (ite_zx Iff.rfl z rfl (ite_zx Iff.rfl z rfl rfl)))
theorem parts_zxT (τ : Tr) (zx z : Int) (l : List Pt) : (partsZ (zxT τ z) zx l).1 = zxT (partsZ τ zx l).1 z := by
 unfold partsZ
 have H : ∀ (l : List Pt) (σ : Tr) (e e' : List Ev), (l.foldl (fun r x => ((partZ r.1 x zx).1, r.2 ++ (partZ r.1 x zx).2)) (zxT σ z, e)).1 = zxT (l.foldl (fun r x => ((partZ r.1 x zx).1, r.2 ++ (partZ r.1 x zx).2)) (σ, e')).1 z := by
  intro l
  induction l with
  | nil => intro σ e e'; rfl
  | cons x l ih =>
   intro σ e e'
   rw [List.foldl_cons, List.foldl_cons]
   dsimp only
   rw [part_zxT]
   exact ih _ _ _
 exact H l τ [] []
theorem plainK_of {x : Pt} (h : x.kind = 0 ∨ x.kind = 1 ∨ x.kind = 2 ∨ x.kind = 3 ∨ x.kind = 4) : plainK x := by
 unfold plainK; omega
theorem part_plain (τ : Tr) (u : Who) (r : Rq) : plainK (partP τ u r).1 := by
 refine plainK_of ?_
 unfold partP
 split
 ·exact .inr (.inl rfl)
 split
 ·exact .inr (.inr (.inl rfl))
 split
 ·unfold nodeX
  split
  ·exact .inr (.inr (.inr (.inl rfl)))
  split
  ·exact .inr (.inr (.inr (.inr rfl)))
  ·exact .inl rfl
 ·exact .inl rfl
structure TwoI (u : Who) (l : List Rq) (τ : Tr) (i : Nat) (σ υ : Tr) (xs : List Pt) : Prop where
 at_ : MultiAt u l τ i σ xs
 same : zT σ = zT υ
 two : zxT υ 300 = zxT (partsZ τ 300 xs).1 300
theorem TwoI.zero (u : Who) (l : List Rq) (τ : Tr) : TwoI u l τ 0 τ τ [] := ⟨MultiAt.zero u l τ, rfl, rfl⟩
theorem TwoI.part {u : Who} {l : List Rq} {τ σ υ : Tr} {i : Nat} {xs : List Pt} (h : TwoI u l τ i σ υ xs) (r : Rq) : partP σ u r = partP υ u r := by rw [← zT_part σ, h.same, zT_part]
theorem TwoI.step {u : Who} {l : List Rq} {τ σ υ : Tr} {i : Nat} {xs : List Pt} (h : TwoI u l τ i σ υ xs) (hi : i < l.length) (h0 : (partP υ u l[i]).2 = 0) :
  TwoI u l τ (i + 1) (applyZ σ σ.zx (partP υ u l[i]).1 []).1 (applyZ υ 300 (partP υ u l[i]).1 []).1 (xs ++ [(partP υ u l[i]).1]) := by
 have e := h.part l[i]
 have hk := part_plain υ u l[i]
 refine ⟨by rw [← e] at h0 ⊢; exact h.at_.step hi h0, ?_, ?_⟩
 ·rw [apply_part hk, apply_part hk]
  exact zT_part1 (by rw [zT_zx, zT_zx]; exact h.same) _ _ _
 ·rw [apply_part hk, parts_snoc, h.two, part_zxT]; rfl
theorem TwoI.stop {u : Who} {l : List Rq} {τ σ υ : Tr} {i : Nat} {xs : List Pt} (h : TwoI u l τ i σ υ xs) (hi : i < l.length) (h0 : (partP υ u l[i]).2 ≠ 0) (hl : ¬ (l.length = 0 ∨ l.length > 8)) : multiP τ u l = (refusal (partP υ u l[i]).2 i, []) := by
 have e := h.part l[i]
 rw [← e] at h0 ⊢
 exact h.at_.stop hi h0 hl
theorem TwoI.done {u : Who} {l : List Rq} {τ σ υ : Tr} {xs : List Pt} (h : TwoI u l τ l.length σ υ xs) (hl : ¬ (l.length = 0 ∨ l.length > 8)) :
  multiP τ u l = (⟨7, [], [], nilV, [], 0, 0, 0, nilV⟩, xs) ∧ zxT υ 300 = (applyZ τ 300 (multiP τ u l).1 (multiP τ u l).2).1 := by
 have e := h.at_.done hl
 refine ⟨e, ?_⟩
 rw [e]
 unfold applyZ
 dsimp only
 rw [if_neg (by decide), if_neg (by decide), if_pos rfl, parts_zxT]
 exact h.two
section
variable {P : Program} {ops : Array Oper} {n : Nat} {RO : List HP} {H : List Nat} {Fin : EF → List HP → Prop}
variable {j : Nat} {S : List Nat} {E : Env} {RW : List HP} {op : Op} {ty : TypeId} {pos : String} {aft : Array Edge}
end
section
variable {P : Program} {W : World} {n : Nat} {ds : List Deferred} {E : Env} {L R : List HP} {Q : Exit → Act → World → Prop}
theorem OpSpec.append1S {t e : TypeId} {ty : TypeId} {x y : Operand} {v : Value} {b n m c sz by' : Nat} {xs l : List Value} {T : TypeId} {z : Value} {zl : List Value} {ts : Array TypeId} (hts : ts = #[t, t]) (hx : ev E x = some v) (hy : ev E y = some (.slice (some ⟨b, 0, none⟩) m c)) (ht : elemOf' P t = some (e, sz, by'))
  (hz : zeroOf P e = some z) (hzc : z.cells = zl.toArray) (hzl : zl.length = sz) (hcell : ∀ y ∈ l, isCell y = true) (hl : l.length = m * sz) (hmc : m ≤ c) (hb : (n + m) * by' ≤ 140737488355328) (hb0 : 0 < by') (hm : 0 < m) :
  OpSpec P ⟨none, .call { callee := .builtin .append, args := #[x, y], argTypes := ts }, ty, "", #[], none⟩ E [slR e sz v n xs, ptc b l T] fun v' L' => ∃ b' c', v' = .slice (some ⟨b', 0, none⟩) (n + m) c' ∧ L' = [slR e sz v' (n + m) (xs ++ l)] := by
 intro ρ w F ha hs
 refine (OpSpec.append1 (ty := ty) hts hx hy ht hz hzc hzl hcell hl hmc hb hb0 ρ w F ha hs).mono ?_
 rintro v' w' ⟨L', ⟨⟨a, k, rfl⟩, rfl⟩, hs', hk⟩
 obtain ⟨h1, a1, hp⟩ := sep_head hs'
 rcases hp with ⟨h2, h3, -⟩ | ⟨b', cap, rest, fr, h2, -⟩
 ·omega
 ·simp only [Value.slice.injEq] at h2
  obtain ⟨rfl, -, rfl⟩ := h2
  exact ⟨_, ⟨b', k, rfl, rfl⟩, hs', hk⟩
/-! ### Code in a round's frame -/
abbrev FR (l : Nat) : Fence := Fence.wide.inRound l
def noDefer (o : Oper) : Bool := match o.op with
 | .defer _ => false
 | _ => true
theorem noDefer_op {o : Oper} (h : noDefer o = true) : ∀ c, o.op ≠ .defer c := by
 intro c e
 unfold noDefer at h
 rw [e] at h
 cases h
theorem rowsIn_of {F : Fence} (hF : ∀ m m', StepsIn (Machine.fenced P F) P m m' ↔ Steps P m m') {m : Nat} {row : String} {args : Array Value} {w : World} {K : Value → World → Prop} (h : Rows P row args w K) : RowsIn F m P row args w K :=
 fun c cs _ => let ⟨v, w', r, s⟩ := h c cs; ⟨v, w', r, (hF _ _).2 s⟩
theorem upon_round {l m : Nat} {o : Oper} {a : Act} {next next' : Act → World → Prop} (hn : ∀ a w, next a w → next' a w) {r : Result Next} (h : o.upon P a next Q r) : o.uponIn (FR l) m P a next' Q r := by
  cases r with
  | ok nx w' =>
    cases nx <;> first | exact hn _ _ h | exact h.elim | skip
    · refine ⟨(fun hd => by cases hd), ?_⟩
      have h1 : CallsIn Fence.wide (m - 1) P _ _ w' _ := callsIn_wide.2 h
      have h2 : CallsIn (FR l) (m - 1) P _ _ w' _ := CallsIn.mono h1 (R' := fun e w'' => match e with
        | .returned v => next' (a.put o.dst v) w''
        | .panicked chain => Q (.panic chain) a w''
        | .outgrown => LetsOut Q) (by
          intro e w'' hq
          cases e
          · exact hn _ _ hq
          · exact hq
          · exact hq)
      exact h2.mono (by intro e w'' hq; cases e <;> exact hq)
    · exact ⟨(fun hd => by cases hd), RowsIn.mono (rowsIn_of (F := FR l) (fun _ _ => stepsIn_wide) h) (fun v w'' hq => hn _ _ hq)⟩
  | halt x w' => cases x <;> first | exact h | exact h.elim
theorem ops_round {l m : Nat} {ops : Array Oper} (hQ : ¬ LetsOut Q) (hnd : ∀ (i : Nat) (o : Oper), ops[i]? = some o → noDefer o = true) : ∀ (idx : List Nat) (a : Act) (w : World), wpOps P ops Q idx a w → wpOpsIn (FR l) m P ops Q idx a w
 | [], _, _, h => h
 | i :: rest, a, w, h => by
  unfold wpOps at h
  unfold wpOpsIn
  cases ho : ops[i]? with
  | none => rw [ho] at h; exact ops_round hQ hnd rest a w h
  | some o =>
   rw [ho] at h
   dsimp only at h ⊢
   split at h
   ·rename_i hw
    rw [if_pos hw]
    rcases h with h | h
    ·refine ⟨fun _ _ => trivial, ?_⟩
     rw [Oper.semAt_eq _ _ _ (noDefer_op (hnd _ _ ho))]
     exact upon_round (fun a w => ops_round hQ hnd rest a w) h
    ·exact absurd h.2 hQ
   ·rename_i hw
    rw [if_neg hw]
    exact ⟨fun _ _ => trivial, ops_round hQ hnd rest _ _ h⟩
theorem noDefer_all {os : List Oper} (h : os.all noDefer = true) : ∀ (i : Nat) (o : Oper), os.toArray[i]? = some o → noDefer o = true := by
 intro i o ho
 rw [List.getElem?_toArray] at ho
 exact List.all_eq_true.1 h o (List.mem_of_getElem? ho)
theorem GR.seq {F : Fence} {m : Nat} {x y : Code} (h : G W n ds E L (x.wpIn F m P (Exit.then (y.wpIn F m P Q) Q))) : G W n ds E L ((Code.seq x y).wpIn F m P Q) := fun a w he hk hs => wpIn_seq (h a w he hk hs)
theorem GR.block {F : Fence} {m id : Nat} {c : Code} (h : G W n ds E L (c.wpIn F m P (Exit.inBlock id Q))) : G W n ds E L ((Code.block id c).wpIn F m P Q) := fun a w he hk hs => wpIn_block (h a w he hk hs)
theorem GR.region {l m id : Nat} {os : List Oper} (hQ : ¬ LetsOut Q) (hnd : os.all noDefer = true) (h : G W n ds E L (wpList P os.toArray Q os)) : G W n ds E L ((Code.region id os.toArray false).wpIn (FR l) m P Q) := by
 intro a w he hk hs
 refine wpIn_region (ops_round hQ (noDefer_all hnd) _ _ _ ?_)
 rw [List.range_eq_range', List.size_toArray, wpOps_eq_wpList os 0 (by simp)]
 exact h a w he hk hs
theorem draw_any {id : Nat} {l : List Oper} (H : List Nat) (Ss : List (List Nat))
  (hc : (directB l.toArray && permB l.toArray.size Ss.flatten && chainB l.toArray Ss) = true)
  (h : Phases P l.toArray n H W ds (Q .normal) Ss (look E) L) : G W n ds E L fun a w => wpAny P .any l.toArray Q l.toArray.size (Array.replicate l.toArray.size false) a { w with drawn := w.drawn + 1 } := by
 intro a w he hk hs
 simp only [Bool.and_eq_true] at hc
 have hp := hc.1.2
 simp only [permB, Bool.and_eq_true, Nat.beq_eq] at hp
 have hlen : Ss.flatten.length = l.toArray.size := hp.1.1.1
 have hmem : ∀ i, i ∈ Ss.flatten ↔ i < l.toArray.size := by
  intro i
  constructor
  ·intro hi; have := List.all_eq_true.1 hp.1.1.2 i hi; simpa [Nat.blt_eq] using this
  ·intro hi; have := List.all_eq_true.1 hp.2 i (List.mem_range.2 hi); simpa using this
 have hn : Ss.flatten.Nodup := nodup_of hp.1.2
 refine Phases.sound (H := H) hc.1.1 Ss hc.2 hn (look E) L _ _ _ _ h (by omega) ?_ (by simp) ⟨he.size, he.defers, he.slots⟩ (hk.trans (Keeps.drew w)) hs.drew
 intro i
 rw [hmem]
 simp only [Array.getD_eq_getD_getElem?, Array.getElem?_replicate, List.size_toArray]
 by_cases hlt : i < l.length <;> simp [hlt]
theorem GR.draw {r m id : Nat} {l : List Oper} (hQ : ¬ LetsOut Q) (hnd : l.all noDefer = true) (H : List Nat) (Ss : List (List Nat)) (hm : P.follows .mixedOrders = true)
  (hc : (directB l.toArray && permB l.toArray.size Ss.flatten && chainB l.toArray Ss) = true)
  (h : Phases P l.toArray n H W ds (Q .normal) Ss (look E) L) : G W n ds E L ((Code.region id l.toArray true).wpIn (FR r) m P Q) := by
 intro a w he hk hs
 refine wpIn_region_draw fun t => ops_round hQ (noDefer_all hnd) _ _ _ ?_
 simp only [Region.schedule, hm, Bool.true_or, if_true]
 exact wpAny_sound l.toArray.size t _ a _ (draw_any (id := id) H Ss hc h a w he hk hs)
/-! ### Who is ranged over, and what it calls -/
def yV (l : Nat) : Value := .func (.yield l) #[] #[]
def YieldH (P : Program) (l : Nat) (args : Array Value) (pre : List HP) (post : Value → List HP → Prop) : Prop :=
 ∀ (F : List HP) (w : World), St (pre ++ F) w → ∃ fn tmps assign body, (Instr.yield l args).run P w = .ok (.round l fn tmps assign body) w ∧
  RoundIn Fence.wide 0 P l fn tmps assign body w fun e w' => ∃ v L, post v L ∧ e = .returned v ∧ St (L ++ F) w' ∧ Keeps w w'
def IterV (P : Program) (g : Value) (N : Nat) (A : Nat → Array Value) (pre : List HP) : Prop :=
 ∃ (gf : FuncId) (lb : List Value) (fn : Func) (c : Code), g = .func (.func gf) #[] lb.toArray ∧ P.funcs[gf]? = some fn ∧ fn.body = some c ∧ (fn.name == "runtime.NumGoroutine") = false ∧
  ∀ (l : Nat) (J : Nat → HP), (∀ i, i < N → YieldH P l (A i) [J i] fun v L => v = .bool true ∧ L = [J (i + 1)]) → Fn P gf (yV l :: lb).toArray (J 0 :: pre) fun _ L => L = J N :: pre
def RndQ (J : HP) (F : List HP) (W : World) : Exit → Act → World → Prop
 | .normal, _, w => St (J :: F) w ∧ Keeps W w
 | _, _, _ => False
theorem G.rnd {J : HP} {F : List HP} (hL : Picks [J] L R) (hF : Suff F R) : G W n ds E L (RndQ J F W .normal) := fun _ _ _ hk hs => ⟨hF.st (L := [J]) (hs.picks hL), hk⟩
theorem St.swap {p q : HP} {w : World} (h : St (p :: q :: L) w) : St (q :: p :: L) w := h.perm (List.Perm.swap _ _ _)
theorem EnvOK.par {a : Act} (h : EnvOK n ds E a) {p : Nat} (hp : p < n) (v : Value) : EnvOK n ds ((p, v) :: E) { a with tmps := a.tmps.setIfInBounds p v } := by
 have hd : dstOk (some p) n = true := by simpa [dstOk, Nat.blt_eq] using hp
 have := h.put hd v
 exact ⟨by simpa using h.size, h.defers, by simpa [Act.put, putE] using this.slots⟩
theorem zip2 (p q : Nat) (x y : Value) (t : Array Value) : (#[p, q].zip #[x, y]).foldl (fun tmps (t, a) => tmps.setIfInBounds t a) t = (t.setIfInBounds p x).setIfInBounds q y := by simp
theorem G.rangeFunc {g : Operand} {p q : Nat} {assign body : Code} {gv : Value} {N : Nat} (A : Nat → Value × Value) (J : Nat → HP) (Ep : Nat → Env → Env) {pre : List HP} (hg : ev E g = some gv) (hi : IterV P gv N (fun i => #[(A i).1, (A i).2]) pre) (hp : Nat.blt p n = true) (hq : Nat.blt q n = true) (hL : Picks (J 0 :: pre) L R)
  (hassign : ∀ (l i : Nat) (F : List HP) (W' : World) (X : Act → World → Prop), i < N → G W' n [] (Ep i E) F X → G W' n [] ((q, (A i).2) :: (p, (A i).1) :: E) F (assign.wpIn (FR l) 0 P (Exit.then X fun _ _ _ => False)))
  (hround : ∀ (l i : Nat) (F : List HP) (W' : World), i < N → G W' n [] (Ep i E) (J i :: F) (body.wpIn (FR l) 0 P (RndQ (J (i + 1)) F W')))
  (hdone : ∀ D : Nat, G W n (⟨.collected D, #[]⟩ :: ds) E (J N :: pt D (.deferred (some [])) :: (pre ++ R)) (Q .normal)) : G W n ds E L ((Code.rangeFunc g #[p, q] assign body).wp P Q) := by
 intro a w he hk hs
 refine (wpIn_wide (n := 0)).1 (wpIn_rangeFunc ?_)
 intro fn _
 obtain ⟨gf, lb, gn, c, rfl, hgf, hgb, hgn, hit⟩ := hi
 have hge : a.eval g = .func (.func gf) #[] lb.toArray := he.agrees _ _ hg
 obtain ⟨rec, hrec⟩ : ∃ rec : LoopState → Option Code → Loop, rec = fun st pe => { state := st, pending := pe, fn, tmps := a.tmps, params := #[p, q], assign, body, defers := w.heap.size } := ⟨_, rfl⟩
 obtain ⟨W1, hW1⟩ : ∃ W1, (w.alloc (.deferred (some []))).alloc (.loop (rec .ready none)) = W1 := ⟨_, rfl⟩
 have hs0 : St (pt w.heap.size (.deferred (some [])) :: L) (w.alloc (.deferred (some []))) := hs.new _
 have hs1 : St (pt (w.heap.size + 1) (.loop (rec .ready none)) :: pt w.heap.size (.deferred (some [])) :: L) W1 := by
  rw [← hW1]
  have := hs0.new (.loop (rec .ready none))
  rwa [show (w.alloc (.deferred (some []))).heap.size = w.heap.size + 1 by simp] at this
 have hk1 : Keeps w W1 := by rw [← hW1]; exact (Keeps.new w _).trans (Keeps.new _ _)
 refine ⟨w.heap.size + 1, [{ target := .collected w.heap.size, args := #[] }], W1, { target := .fn (.func gf) lb.toArray, args := #[yV (w.heap.size + 1)] }, W1, gf, #[yV (w.heap.size + 1)] ++ lb.toArray, W1, ?_, ?_, fun _ _ => trivial, ?_, (fun h => by cases h), ?_⟩
 ·rw [← hW1, hrec]; exact run_enterLoop_outer _ _ _ _ _
 ·simp only [resolve, hge]
  simp [Deferred.ofValue, Bind.bind, Sem.bind, Pure.pure, Sem.run, yV, Act.eval]
 ·have hgn' : ¬ gn.name = "runtime.NumGoroutine" := by simpa using hgn
  simp [invoke, callFunc, program, Bind.bind, Sem.bind, Pure.pure, Sem.run, hgf, hgb, hgn']
 ·refine callsIn_wide.2 ?_
  obtain ⟨J', hJ'⟩ : ∃ J' : Nat → HP, J' = fun i => sep [J i, pt (w.heap.size + 1) (.loop (rec .ready none)), pt w.heap.size (.deferred (some []))] := ⟨_, rfl⟩
  have hs2 : St ((J' 0 :: pre) ++ R) W1 := by
   have h2 := hs1.perm (List.Perm.cons _ (List.Perm.cons _ hL.perm))
   rw [hJ']
   exact sep_fold (L1 := [J 0, _, _]) (sep_perm ((List.Perm.cons _ (List.Perm.swap _ _ _)).trans (List.Perm.swap _ _ _)) h2)
  have hy : ∀ i, i < N → YieldH P (w.heap.size + 1) #[(A i).1, (A i).2] [J' i] fun v L => v = .bool true ∧ L = [J' (i + 1)] := by
   intro i hiN F w2 hw2
   rw [hJ'] at hw2
   have hw3 : St (J i :: pt (w.heap.size + 1) (.loop (rec .ready none)) :: pt w.heap.size (.deferred (some [])) :: F) w2 := sep_flat (L1 := [J i, _, _]) hw2
   have hl := hw3.swap.pt
   have hyr := run_yield (P := P) (args := #[(A i).1, (A i).2]) hl (by rw [hrec]; rfl)
   rw [hrec] at hyr
   have h0 : EnvOK n [] E { tmps := a.tmps, defers := [] } := ⟨he.size, rfl, he.slots⟩
   have h1 := (h0.par (by simpa [Nat.blt_eq] using hp) (A i).1).par (by simpa [Nat.blt_eq] using hq) (A i).2
   refine ⟨fn, _, assign, body, hyr, roundIn_of_wpIn (F := Fence.wide) trivial (hassign (w.heap.size + 1) i _ w2 _ hiN ?_ _ _ (by simpa only [zip2] using h1) (Keeps.refl _) hw3)⟩
   intro a2 wb he2 hkb hwb
   have hlb := hwb.swap.pt
   refine ⟨_, run_beginRound hlb (by rw [hrec]), ?_⟩
   have hw4 : St (J i :: pt (w.heap.size + 1) (.loop { rec .ready none with state := .busy }) :: pt w.heap.size (.deferred (some [])) :: F) (wb.putObj (w.heap.size + 1) (.loop { rec .ready none with state := .busy })) := (St.set hwb.swap).swap
   refine wpIn_mono (hround (w.heap.size + 1) i _ _ hiN _ _ he2 (Keeps.refl _) hw4) ?_
   ·rintro e a3 w3 hp3
    cases e with
    | normal =>
     obtain ⟨hw5, hk5⟩ := hp3
     have hl5 := hw5.swap.pt
     have hend := run_endRound (P := P) none hl5
     refine ⟨_, _, hend, .bool true, [J' (i + 1)], ⟨rfl, rfl⟩, rfl, ?_, (hkb.trans ((Keeps.set _ _ _).trans hk5)).trans (Keeps.set _ _ _)⟩
     rw [hJ']
     refine sep_fold (L1 := [J (i + 1), _, _]) ?_
     have h6 := (St.set (o' := .loop (rec .ready none)) hw5.swap).swap
     rw [hrec] at h6 ⊢
     exact h6
    | _ => exact hp3.elim
  have ea : #[yV (w.heap.size + 1)] ++ lb.toArray = (yV (w.heap.size + 1) :: lb).toArray := by simp
  rw [ea]
  refine (hit (w.heap.size + 1) J' hy R W1 hs2).mono ?_
  rintro e w2 ⟨v, L', hL', rfl, hw2, hk2⟩
  subst hL'
  rw [hJ'] at hw2
  have hw3 : St (J N :: pt (w.heap.size + 1) (.loop (rec .ready none)) :: pt w.heap.size (.deferred (some [])) :: (pre ++ R)) w2 := sep_flat (L1 := [J N, _, _]) hw2
  have hl := hw3.swap.pt
  have hend := run_endLoop (P := P) hl (by rw [hrec]; simp)
  rw [hrec] at hend
  refine ⟨none, _, hend, ?_⟩
  refine hdone w.heap.size _ _ ⟨he.size, by show _ :: a.defers = _; rw [he.defers], he.slots⟩ ((hk.trans hk1).trans (hk2.trans (Keeps.set _ _ _))) ?_
  exact (St.set hw3.swap).tail
/-! ### A function that holds one -/
def FnQM (P : Program) (fn : Func) (post : Value → List HP → Prop) (F : List HP) (W : World) : Exit → Act → World → Prop :=
 bodyPostM Fence.wide 0 P fn fun e w' => ∃ v L, post v L ∧ e = .returned v ∧ St (L ++ F) w' ∧ Keeps W w'
theorem Fn.introM {f : FuncId} {fn : Func} {c : Code} {vs : List Value} {pre : List HP} {post : Value → List HP → Prop} {n : Nat}
    (hf : P.funcs[f]? = some fn) (hb : fn.body = some c) (hn : vs.length + (fn.ntmps - vs.length) = n)
    (h : ∀ F W, G W n [] (argE 0 vs) (pre ++ F) (c.wp P (FnQM P fn post F W))) : Fn P f vs.toArray pre post := by
  intro F w hs
  refine (callsIn_wide (n := 0)).1 (callsIn_of_wp_marks hf hb trivial (wpIn_wide.2 (h F w _ w ⟨?_, rfl, fun t v hl => ?_⟩ (.refl w) hs)) rfl)
  · simp [← hn]
  obtain ⟨-, h2⟩ := look_argE _ _ _ _ hl
  have hlt : t < vs.length := by
    rcases Nat.lt_or_ge t vs.length with h | h
    · exact h
    simp [List.getElem?_eq_none h] at h2
  simp only [Nat.sub_zero] at h2
  rw [List.getElem?_eq_getElem hlt] at h2
  simp only [Option.some.injEq] at h2
  simp [Array.getElem?_append, hlt, h2]
theorem G.doneM1 {fn : Func} {post : Value → List HP → Prop} {F : List HP} {L1 L' : List HP} {v : Value} {r : ResultVar} {D : Nat} (hl : fn.results = #[r]) (hD : Pick (pt D (.deferred (some []))) L L1) (hr : ResR P E L1 r v) (hp : post v L') (hL : Picks L' L1 R) (hF : Suff F R) :
  G W n [⟨.collected D, #[]⟩] E L (FnQM P fn post F W .ret) := by
 intro a w he hk hs
 show LeavesInM Fence.wide 0 P fn a.tmps _ a.defers .returning w
 rw [he.defers]
 have hs1 := hs.pick hD
 refine ⟨by simp, .inl ⟨D, _, rfl, run_takeDeferred hs1.pt, ?_⟩⟩
 have hs2 := (St.set (o' := .deferred none) hs1).tail
 exact ⟨v, results_1 hl (hr _ _ he.slots hs2), v, L', hp, rfl, hF.st (hs2.picks hL), hk.trans (Keeps.set _ _ _)⟩
/-! ### Who calls it -/
theorem GY.region {id : Nat} {os : List Oper} (h : G W n ds E L (wpListIn Fence.wide 0 P os.toArray Q os)) : G W n ds E L ((Code.region id os.toArray false).wp P Q) :=
 fun a w he hk hs => (wpIn_wide (n := 0)).1 (wpIn_region_list (by simpa using h a w he hk hs))
theorem GY.nil {ops : Array Oper} (h : G W n ds E L (Q .normal)) : G W n ds E L (wpListIn Fence.wide 0 P ops Q []) := h
theorem GY.q {ops : Array Oper} {d : Nat} {op : Op} {ty : TypeId} {pos : String} {aft : Array Edge} {rest : List Oper} {v : Value} (hnd : noDefer ⟨some d, op, ty, pos, aft, none⟩ = true)
  (hp : Quiet P ⟨none, op, ty, "", #[], none⟩ E L v) (hd : Nat.blt d n = true)
  (h : G W n ds ((d, v) :: E) L (wpListIn Fence.wide 0 P ops Q rest)) : G W n ds E L (wpListIn Fence.wide 0 P ops Q (⟨some d, op, ty, pos, aft, none⟩ :: rest)) := by
 intro a w he hk hs
 unfold wpListIn
 rw [if_pos (by simp [Region.wanted])]
 refine ⟨fun _ _ => trivial, ?_⟩
 rw [Oper.semAt_eq _ _ _ (noDefer_op hnd)]
 have := hp a.eval w he.agrees hs
 rw [show execOp a.eval ⟨some d, op, ty, pos, aft, none⟩ = execOp a.eval ⟨none, op, ty, "", #[], none⟩ from rfl, this]
 exact h _ _ (he.put (dst := some d) hd _) hk hs
theorem GY.yield {ops : Array Oper} {d l : Nat} {x : Operand} {xs : Array Operand} {ts : Array TypeId} {ty : TypeId} {pos : String} {aft : Array Edge} {rest : List Oper} {vs : List Value} {pre F : List HP} {post : Value → List HP → Prop}
  (hv : ev E x = some (yV l)) (hx : xs.toList.map (ev E) = vs.map some) (hy : YieldH P l vs.toArray pre post) (hL : Picks pre L F) (hd : Nat.blt d n = true)
  (h : ∀ v L', post v L' → G W n ds ((d, v) :: E) (L' ++ F) (wpListIn Fence.wide 0 P ops Q rest)) : G W n ds E L (wpListIn Fence.wide 0 P ops Q (⟨some d, .call { callee := .value x, args := xs, argTypes := ts }, ty, pos, aft, none⟩ :: rest)) := by
 intro a w he hk hs
 unfold wpListIn
 rw [if_pos (by simp [Region.wanted])]
 refine ⟨fun _ _ => trivial, ?_⟩
 rw [Oper.semAt_eq _ _ _ (fun c e => by cases e)]
 obtain ⟨fn, tmps, assign, body, hyr, hr⟩ := hy F w (hs.picks hL)
 have hvs : xs.map a.eval = vs.toArray := by
  apply Array.ext'
  rw [Array.toList_map]
  exact agree_list he.agrees _ _ hx
 have hxv : a.eval x = .func (.yield l) #[] #[] := he.agrees _ _ hv
 have hrun : (execOp a.eval ⟨some d, .call { callee := .value x, args := xs, argTypes := ts }, ty, pos, aft, none⟩).run P w = .ok (.round l fn tmps assign body) w := by
  have e : (execOp a.eval ⟨some d, .call { callee := .value x, args := xs, argTypes := ts }, ty, pos, aft, none⟩).run P w = (Instr.yield l vs.toArray).run P w := by
   simp [execOp, resolve, hxv, Deferred.ofValue, invoke, Bind.bind, Sem.bind, Pure.pure, Sem.run, hvs]
  rw [e]; exact hyr
 rw [hrun]
 refine ⟨(fun hd => by cases hd), hr.mono ?_⟩
 rintro e w' ⟨v, L', hv', rfl, hs', hk'⟩
 exact h v L' hv' _ _ (he.put (dst := some d) hd _) (hk.trans hk') hs'
end
theorem back_spec (a : Option Addr) (n c : Nat) : Fn Tryz.prog 101 #[.slice a n c] [] fun v L => ∃ b, v = .func (.func 144) #[] [vptr b].toArray ∧ L = [ptc b [.slice a n c] 23] := by
 refine Fn.intro Tryz.func101 rfl rfl fun F W => ?_
 refine .sr (.oq (.box rfl) ?_)
 rintro v L' ⟨b, rfl, rfl⟩
 refine .an rfl (.sr (.q (.func (us := []) (vs := [_]) rfl rfl) rfl (.an rfl (.ret ?_))))
 exact .dn rfl rfl ⟨b, rfl, rfl⟩
theorem back_at {xs : List Bs} {k : Nat} (hk : k < xs.length) : (strs xs)[((xs.length : Int) - 1 - k).toNat * 1]? = some (vstr (xs.reverse.getD k [])) := by
 have e : ((xs.length : Int) - 1 - k).toNat * 1 = xs.length - 1 - k := by omega
 rw [e, List.getElem?_map, ← List.getElem?_reverse hk, List.getD_eq_getElem?_getD]
 rw [List.getElem?_eq_getElem (by simpa using hk)]
 rfl
theorem back1_spec (va : Value) (xs : List Bs) (b : Nat) (q : HP) (hq : ∀ h : Hp, q h → rdS 1 h va xs.length (strs xs)) (hl : xs.length ≤ 1099511627776) (l : Nat) (J : Nat → HP) (hY : ∀ i, i < xs.length → YieldH Tryz.prog l (#[vint ((xs.length : Int) - 1 - (i : Nat)), vstr (xs.reverse.getD i [])]) [J i] fun v L => v = .bool true ∧ L = [J (i + 1)]) : Fn Tryz.prog 144 #[yV l, vptr b] [J 0, ptc b [va] 23, q] fun _ L => L = [J xs.length, ptc b [va] 23, q] := by
 refine Fn.intro Tryz.func144 rfl rfl fun F W => ?_
 refine .rdAny (p := q) hq (by repeat' constructor) fun aa ca ee _ => ?_
 subst ee
 have hJ : ∀ i j : Nat, i = j → J i = J j := fun i j e => by rw [e]
 refine .sr (.u (.ld rfl ag_23) (.q (.slen rfl Tryz.underlying23 rfl) rfl (.q (.to (v' := vint ((xs.length : Int) - 1 - ((0 : Nat) : Int))) (.sub rfl rfl (by omega)) (by congr 1; omega)) rfl (.an rfl (.block (.loopK (ι := Nat) (fun q E => (3, vint ((xs.length : Int) - 1 - q)) :: E) (fun q => [J q]) (fun q => q ≤ xs.length) (fun q => xs.length - q) (0) (ts := [0, 1]) (.cons rfl (.cons rfl (.nil))) (Nat.zero_le _) ⟨rfl, rfl, rfl, trivial⟩ (by repeat' constructor) ?_))))))
 rintro k hk
 refine .seq (.sm rfl (.ui rfl rfl rfl (.nt (.condD rfl (fun h8 => ?_) (fun h8 => ?_)))))
 ·have hkl : k < xs.length := by omega
  refine .rdShape (p := q) hq (by repeat' constructor) (by omega) fun ba oa e => ?_
  subst e
  refine .sk (.seq (.block (.seq (GY.region (GY.q rfl (.move rfl) rfl (GY.q rfl (.move rfl) rfl (GY.q rfl (.ld rfl ag_23) rfl (GY.q rfl (.move rfl) rfl (GY.q rfl (.indexAddr rfl rfl el_23 (by omega)) rfl (GY.q rfl (.loadEl (p := q) (i := ((xs.length : Int) - 1 - k).toNat * 1) (v := vstr (xs.reverse.getD k [])) rfl ag_9 (by repeat' constructor) hq (back_at hkl)) rfl (GY.yield (vs := [_, _]) rfl rfl (hY k hkl) (by repeat' constructor) rfl ?_)))))))))))
  rintro v L' ⟨rfl, rfl⟩
  refine GY.q rfl (.not rfl) rfl (GY.nil (.then_n (.condF rfl (.skip (.blk_n (.then_n (.region (.m rfl (.q (.to (v' := vint ((xs.length : Int) - 1 - ((k + 1 : Nat) : Int))) (.sub rfl rfl (by omega)) (by congr 1; omega)) rfl (.an rfl ?_))))))))))
  exact .rk (k + 1) (by omega) (by omega) ⟨rfl, rfl, rfl, trivial⟩
 have hkl : k = xs.length := by omega
 subst hkl
 refine .exit (.then_e (.then_e (.blk_e (.done_n ?_))))
 exact .dn rfl rfl rfl
theorem back_iter (va : Value) (xs : List Bs) (b : Nat) (q : HP) (hq : ∀ h : Hp, q h → rdS 1 h va xs.length (strs xs)) (hl : xs.length ≤ 1099511627776) : IterV Tryz.prog (.func (.func 144) #[] [vptr b].toArray) xs.length (fun i => #[vint ((xs.length : Int) - 1 - (i : Nat)), vstr (xs.reverse.getD i [])]) [ptc b [va] 23, q] :=
 ⟨_, [vptr b], _, _, rfl, Tryz.func144, rfl, rfl, fun l J hY => back1_spec va xs b q hq hl l J hY⟩
theorem pcloses_spec (t : Nat) (τ : Tr) (u : Who) (iv : Value) (r : Rq) (p : HP) (hA : WiA p u iv r) (N : Nat) (ho : τ.Ok N) (hN : N ≤ 1099511627776) (hN2 : N + N ≤ 1099511627776) : Fn Tryz.prog 46 #[.agg (wiC t u iv r).toArray] [treeR t τ, p] fun v L =>
    ∃ (w : Value) (ys : List Pt), v = .agg (ptC ((closeP τ u.ses).1.ws w)).toArray ∧ ys.map Pt.pl = (closeP τ u.ses).2 ∧ (∃ a c, w = .slice a ys.length c) ∧ (∀ y ∈ ys, isCell y.aclV = true ∧ y.subsV = nilV) ∧ L = [treeR t τ, p, slR 43 8 w ys.length (ys.flatMap ptC), bigR aclR ys] := by
 refine Fn.introM (vs := [.agg (wiC t u iv r).toArray]) Tryz.func46 rfl rfl ?_
 intro F W
 refine .add (p := nilP) nilP_ok ?_
 have hlr : (ownedZ τ u.ses).reverse.length = (ownedZ τ u.ses).length := List.length_reverse
 refine .sr (.oq (.box rfl) ?_)
 rintro v L' ⟨b1, rfl, rfl⟩
 refine .oq (.allocA ze_43) ?_
 rintro v L' ⟨bx, rfl, rfl⟩
 refine .nil (.ptCast (b := b1) (l' := wiC t u iv r) (by repeat' constructor) (by exact rfl) (.then_n (.sr (.u (.fieldAddr rfl fo_99_0) (.u (.ld rfl ag_30) (.oq (.c Tryz.func32 [_] (trclone_spec t τ N ho hN)) ?_))))))
 rintro v L' ⟨c, rfl, rfl⟩
 refine .oq (.alloc ze_30) ?_
 rintro v L' ⟨b3, rfl, rfl⟩
 refine .st rfl rfl rfl sz_30 ?_
 refine .nt (.sr (.u (.fieldAddr rfl fo_99_1) (.u (.ld rfl ag_3) (.q (.build (us := [(0, _), (4, _)]) fl_43 ze_43 rfl rfl (by simp [isCell])) rfl (.oq (.allocA ze_43) ?_)))))
 rintro v L' ⟨b4, rfl, rfl⟩
 refine .oq (.storeA rfl rfl ?c19 sz_43 ?c22 ?c20 (nfz0 _ _)) ?_
 case c19 => (first | (simp [isCell]; done) | (simp [isCell, setAll, Value.cells]; done))
 case c22 => (first | (simp; done) | (simp [setAll, spl, Value.cells]; done))
 case c20 => (first | (simp; done) | (simp [setAll, spl, Value.cells]; done))
 rintro v L' rfl
 refine .nil (.ptCast (b := b4) (l' := clsC u.ses (nilV)) (by repeat' constructor) (by exact rfl) (.then_n (.seq (.sr (.u (.ld rfl ag_30) (.u (.fieldAddr rfl fo_99_1) (.u (.ld rfl ag_3) (.oq (.c Tryz.func37 [_, _] (trowned_spec c τ u.ses N ho hN)) ?_))))))))
 rintro v L' ⟨⟨ao, co, rfl⟩, rfl⟩
 refine .oq (.c Tryz.func101 [_] (back_spec _ _ _)) ?_
 rintro v L' ⟨bb, rfl, rfl⟩
 refine .nt (.block (.add (slR_nil 43 8) (.fold (p := clsJ (ptc b3 [vptr c] 30) c b4 τ u.ses (ownedZ τ u.ses).reverse 0) (q := [ptc b3 [vptr c] 30, treeR c τ, ptc b4 (clsC u.ses nilV) 43, slR 43 8 nilV 0 []]) (by repeat' constructor) (fun h hp => ⟨nilV, ⟨none, 0, rfl⟩, hp⟩) (.rangeFunc (fun i => (vint (((ownedZ τ u.ses).length : Int) - 1 - (i : Nat)), vstr ((ownedZ τ u.ses).reverse.getD i []))) (fun i => clsJ (ptc b3 [vptr c] 30) c b4 τ u.ses (ownedZ τ u.ses).reverse i) (fun i E => (6, vstr ((ownedZ τ u.ses).reverse.getD i [])) :: (22, vstr ((ownedZ τ u.ses).reverse.getD i [])) :: (21, vint (((ownedZ τ u.ses).length : Int) - 1 - (i : Nat))) :: E) (pre := [ptc bb [.slice ao (ownedZ τ u.ses).length co] 23, slR 9 1 (.slice ao (ownedZ τ u.ses).length co) (ownedZ τ u.ses).length (strs (ownedZ τ u.ses))]) (N := (ownedZ τ u.ses).length) rfl (back_iter _ _ bb _ (fun _ hp => slR_rd hp) (by have := owned_len τ u.ses; have := ho.few; omega)) rfl rfl (by repeat' constructor) (fun lr i F2 W2 X hi hX => ?_) (fun lr i F2 W2 hi => ?_) (fun D => ?_)))))
 ·refine GR.region (by rintro ⟨_, _, h⟩; exact h) rfl (.a rfl (.nil ?_))
  exact .then_n hX
 ·have hi2 : i < (ownedZ τ u.ses).reverse.length := by rw [hlr]; exact hi
  have hget : (ownedZ τ u.ses).reverse.getD i [] = (ownedZ τ u.ses).reverse[i] := by rw [List.getD_eq_getElem?_getD, List.getElem?_eq_getElem hi2]; rfl
  rw [hget]
  have hshort : ((ownedZ τ u.ses).reverse[i]).length ≤ 60 := owned_short ho (List.mem_reverse.1 (List.getElem_mem hi2))
  have hok : (closeT ((ownedZ τ u.ses).reverse.take i) τ).Ok (N + N) := (closeT_ok ((ownedZ τ u.ses).reverse.take i) ho).more (by rw [List.length_take]; have := owned_len τ u.ses; have := ho.few; omega)
  refine .open (q := fun z : Value => [ptc b3 [vptr c] 30, treeR c (closeT ((ownedZ τ u.ses).reverse.take i) τ), ptc b4 (clsC u.ses z) 43, slR 43 8 z i ((closeL ((ownedZ τ u.ses).reverse.take i) τ).flatMap ptC)]) (φ := fun z : Value => ∃ a k, z = .slice a i k) (fun _ hp => hp) ?_
  rintro z ⟨az, cz, rfl⟩
  refine .add (p := nilP) nilP_ok (GR.block (GR.seq (GR.draw (by rintro ⟨_, _, h⟩; exact h) rfl [2, 3, 7, 8] [[0, 1, 2, 3, 4, 5, 6, 7, 8], [9]] mixed (by kernel_rfl) (.go [ptc b3 _ _] (by repeat' constructor) (.k rfl (.ld rfl ag_30) (.k rfl (.move rfl) (.h2 (k := 7) rfl rfl (by kernel_rfl) rfl (.c Tryz.func98 [_] (parent_spec ((ownedZ τ u.ses).reverse[i]) (by omega))) (by repeat' constructor) (.allocA ze_37) (by repeat' constructor) ?_ ?_)))))))
  ·rintro v L' ⟨rfl, rfl⟩
   refine D.h2 (k := 7) rfl rfl (by kernel_rfl) rfl (.c Tryz.func13 [_, _] (trstat_spec c (closeT ((ownedZ τ u.ses).reverse.take i) τ) (parentZ ((ownedZ τ u.ses).reverse[i])) (N + N) hok hN2)) (by repeat' constructor) (.allocA ze_37) (by repeat' constructor) ?_ ?_
   ·rintro v L' ⟨rfl, rfl⟩
    refine D.k rfl (.move rfl) (.k rfl (.extract rfl rfl) (.k rfl (.extract rfl rfl) (.hh rfl (.allocA ze_37) ?_)))
    rintro v L' ⟨b7, rfl, rfl⟩
    refine D.hh rfl (.storeA rfl rfl ?c44 sz_37 ?c47 ?c45 (nfz0 _ _)) ?_
    case c44 => intro v hv; simp only [stC, List.mem_cons, List.not_mem_nil, or_false] at hv; rcases hv with rfl | rfl | rfl | rfl | rfl | rfl | rfl | rfl | rfl <;> rfl
    case c47 => rfl
    case c45 => simp [stC]
    rintro v L' rfl
    refine D.ph (.g0 (.kv rfl (.assign rfl) (.ph (.fin (.ptCast (b := b7) (l' := stC (statD (closeT ((ownedZ τ u.ses).reverse.take i) τ) (parentZ ((ownedZ τ u.ses).reverse[i])))) (by repeat' constructor) (by exact rfl) (.then_n (GR.seq (GR.region (by rintro ⟨_, _, h⟩; exact h) rfl (.m rfl (.u (.fieldAddr rfl fo_37_4) (.u (.ld rfl ag_3) (.u (.addW rfl rfl) (.q (.build (us := [(0, _), (1, _), (5, _)]) fl_43 ze_43 rfl rfl (by simp [isCell])) rfl (.oq (.allocA ze_43) ?_))))))))))))))
    rintro v L' ⟨b9, rfl, rfl⟩
    refine .oq (.storeA rfl rfl ?c56 sz_43 ?c59 ?c57 (nfz0 _ _)) ?_
    case c56 => (first | (simp [isCell]; done) | (simp [isCell, setAll, Value.cells]; done))
    case c59 => (first | (simp; done) | (simp [setAll, spl, Value.cells]; done))
    case c57 => (first | (simp; done) | (simp [setAll, spl, Value.cells]; done))
    rintro v L' rfl
    refine .nil (.ptCast (b := b9) (l' := ptC (delX (closeT ((ownedZ τ u.ses).reverse.take i) τ) (ownedZ τ u.ses).reverse[i])) (by repeat' constructor) (by exact rfl) (.then_n (GR.seq (GR.draw (by rintro ⟨_, _, h⟩; exact h) rfl [2, 5] [[0, 1, 3, 2, 4], [5]] mixed (by kernel_rfl) (.go [ptc b3 _ _, ptc b9 _ _] (by repeat' constructor) (.k rfl (.ld rfl ag_30) (.kv rfl (.ld rfl ag_30) (.k rfl (.to (v' := .agg (ptC (delX (closeT ((ownedZ τ u.ses).reverse.take i) τ) (ownedZ τ u.ses).reverse[i])).toArray) (.loadA rfl ag_43 (by repeat' constructor) (by simp [ptC])) (by rfl)) (.hh rfl (.c Tryz.func64 [_] (trzxid_spec c (closeT ((ownedZ τ u.ses).reverse.take i) τ))) ?_)))))))))
    rintro v L' ⟨rfl, rfl⟩
    refine D.kv rfl (.buildN (pl := [(0, 1), (1, 1), (2, 1), (3, 8)]) (us := [(0, vint (closeT ((ownedZ τ u.ses).reverse.take i) τ).zx), (3, .agg (ptC (delX (closeT ((ownedZ τ u.ses).reverse.take i) τ) (ownedZ τ u.ses).reverse[i])).toArray)]) (cells := [vint (closeT ((ownedZ τ u.ses).reverse.take i) τ).zx, vint 0, vint 0] ++ ptC (delX (closeT ((ownedZ τ u.ses).reverse.take i) τ) (ownedZ τ u.ses).reverse[i])) Tryz.underlying54 (by kernel_rfl) ze_54 rfl (fill_entry _ _ _ _ _ _ _ _ _)) (.ph (.g0 (.hh rfl (.call Tryz.func33 rfl rfl (vs := [_, _]) rfl (trapply_spec c (closeT ((ownedZ τ u.ses).reverse.take i) τ) (closeT ((ownedZ τ u.ses).reverse.take i) τ).zx 0 0 (delX (closeT ((ownedZ τ u.ses).reverse.take i) τ) (ownedZ τ u.ses).reverse[i]) [] nilP (txS_ok _ (by omega)) (N + N) hok (by show N + N + 0 ≤ _; omega))) ?_)))
    rintro v L' ⟨ue, ee, rfl, -, ⟨ae, ce, rfl⟩, rfl⟩; rw [← closeT_step hi2 τ]
    refine D.pf (GR.draw (by rintro ⟨_, _, h⟩; exact h) rfl [4, 5, 7, 9] [[0, 1, 2, 3, 4], [5], [6, 8, 7, 9]] mixed (by kernel_rfl) (.go [ptc b9 _ _, ptc b4 _ _] (by repeat' constructor) (.k rfl (.fieldAddr rfl fo_43_7) (.k rfl (.ld rfl ag_41) (.k rfl (.to (v' := .agg (ptC (delX (closeT ((ownedZ τ u.ses).reverse.take i) τ) (ownedZ τ u.ses).reverse[i])).toArray) (.loadA rfl ag_43 (by repeat' constructor) (by simp [ptC])) (by rfl)) (.k rfl (.slen rfl Tryz.underlying41 rfl) (.hh rfl (.buildSlice (vs := [_]) el_41 ze_43 rfl rfl rfl rfl (by first | (simp [Value.cells]; done) | (intro v hv; simp only [List.mem_cons, List.not_mem_nil, or_false] at hv; (repeat (first | (subst hv; rfl) | (rcases hv with hv | hv; (subst hv; rfl)))))) (by decide)) ?_)))))))
    rintro v L' ⟨b10, rfl, rfl⟩
    refine D.ph (.g0 (.hh rfl (.append1S rfl rfl rfl el_41 ze_43 rfl rfl ?c75 ?c76 (Nat.le_refl _) ?c77 (by decide) (by decide)) ?_))
    case c75 => simp only [List.map_cons, List.map_nil, List.flatten_cons, List.flatten_nil, List.append_nil]; simp only [Value.cells]; intro z hz; simp at hz; rcases hz with rfl | rfl | rfl | rfl | rfl | rfl | rfl | rfl <;> rfl
    case c76 => rfl
    case c77 => have := owned_len τ u.ses; have := ho.few; omega
    rintro v L' ⟨a8, c8, rfl, rfl⟩
    refine D.ph (.g0 (.k rfl (.indexAddr rfl rfl el_41 (by omega)) (.k rfl (.fieldAddr rfl fo_43_7) (.h2 (k := 9) rfl rfl (by kernel_rfl) rfl (.storeRdA (sz := 8) (j := i * 8) (k := 8) (vs := ptC (delX (closeT ((ownedZ τ u.ses).reverse.take i) τ) (ownedZ τ u.ses).reverse[i])) rfl rfl (pt_cells rfl rfl) sz_43 rfl ?ho82 ?hi83) (by repeat' constructor) (.store rfl rfl rfl sz_41 ?c84 (nfz0 _ _)) (by repeat' constructor) ?_ ?_))))
    case ho82 => simp
    case hi83 => omega
    case c84 => simp [clsC]
    ·rintro v L' rfl
     refine D.hh rfl (.store rfl rfl rfl sz_41 ?c88 (nfz0 _ _)) ?_
     case c88 => simp [clsC]
     rintro v L' rfl
     refine D.ph (.fin (.slCast (T := 43) (sz := 8) (m' := i + 1) (xs' := (closeL ((ownedZ τ u.ses).reverse.take (i + 1)) τ).flatMap ptC) (by repeat' constructor) (by exact rfl) (by rw [closeL_step hi2 τ, List.flatMap_append]; exact spl_app (by rw [flat8_len, closeL_len, List.length_take, Nat.min_eq_left (Nat.le_of_lt hi2)]) rfl) (.ptCast (b := b4) (l' := clsC u.ses (.slice (some ⟨a8, 0, none⟩) (i + 1) c8)) (by repeat' constructor) (by exact rfl) (.blk_n (.fold (p := clsJ (ptc b3 [vptr c] 30) c b4 τ u.ses (ownedZ τ u.ses).reverse (i + 1)) (q := [ptc b3 [vptr c] 30, treeR c (closeT ((ownedZ τ u.ses).reverse.take (i + 1)) τ), ptc b4 (clsC u.ses (.slice (some ⟨a8, 0, none⟩) (i + 1) c8)) 43, slR 43 8 (.slice (some ⟨a8, 0, none⟩) (i + 1) c8) (i + 1) ((closeL ((ownedZ τ u.ses).reverse.take (i + 1)) τ).flatMap ptC)]) (by repeat' constructor) (fun h hp => ⟨_, ⟨_, _, rfl⟩, hp⟩) ?_)))))
     exact .rnd (by repeat' constructor) (by repeat' constructor)
    rintro v L' rfl
    refine D.hh rfl (.storeRdA (sz := 8) (j := i * 8) (k := 8) (vs := ptC (delX (closeT ((ownedZ τ u.ses).reverse.take i) τ) (ownedZ τ u.ses).reverse[i])) rfl rfl (pt_cells rfl rfl) sz_43 rfl ?ho91 ?hi92) ?_
    case ho91 => simp
    case hi92 => omega
    rintro v L' rfl
    refine D.ph (.fin (.slCast (T := 43) (sz := 8) (m' := i + 1) (xs' := (closeL ((ownedZ τ u.ses).reverse.take (i + 1)) τ).flatMap ptC) (by repeat' constructor) (by exact rfl) (by rw [closeL_step hi2 τ, List.flatMap_append]; exact spl_app (by rw [flat8_len, closeL_len, List.length_take, Nat.min_eq_left (Nat.le_of_lt hi2)]) rfl) (.ptCast (b := b4) (l' := clsC u.ses (.slice (some ⟨a8, 0, none⟩) (i + 1) c8)) (by repeat' constructor) (by exact rfl) (.blk_n (.fold (p := clsJ (ptc b3 [vptr c] 30) c b4 τ u.ses (ownedZ τ u.ses).reverse (i + 1)) (q := [ptc b3 [vptr c] 30, treeR c (closeT ((ownedZ τ u.ses).reverse.take (i + 1)) τ), ptc b4 (clsC u.ses (.slice (some ⟨a8, 0, none⟩) (i + 1) c8)) 43, slR 43 8 (.slice (some ⟨a8, 0, none⟩) (i + 1) c8) (i + 1) ((closeL ((ownedZ τ u.ses).reverse.take (i + 1)) τ).flatMap ptC)]) (by repeat' constructor) (fun h hp => ⟨_, ⟨_, _, rfl⟩, hp⟩) ?_)))))
    exact .rnd (by repeat' constructor) (by repeat' constructor)
   rintro v L' ⟨b7, rfl, rfl⟩
   refine D.hh rfl (.c Tryz.func13 [_, _] (trstat_spec c (closeT ((ownedZ τ u.ses).reverse.take i) τ) (parentZ ((ownedZ τ u.ses).reverse[i])) (N + N) hok hN2)) ?_
   rintro v L' ⟨rfl, rfl⟩
   refine D.mv rfl rfl (.kv rfl (.extract rfl rfl) (.k rfl (.extract rfl rfl) (.hh rfl (.storeA rfl rfl ?c99 sz_37 ?c102 ?c100 (nfz0 _ _)) ?_)))
   case c99 => intro v hv; simp only [stC, List.mem_cons, List.not_mem_nil, or_false] at hv; rcases hv with rfl | rfl | rfl | rfl | rfl | rfl | rfl | rfl | rfl <;> rfl
   case c102 => rfl
   case c100 => simp [stC]
   rintro v L' rfl
   refine D.ph (.g0 (.kv rfl (.assign rfl) (.ph (.fin (.ptCast (b := b7) (l' := stC (statD (closeT ((ownedZ τ u.ses).reverse.take i) τ) (parentZ ((ownedZ τ u.ses).reverse[i])))) (by repeat' constructor) (by exact rfl) (.then_n (GR.seq (GR.region (by rintro ⟨_, _, h⟩; exact h) rfl (.m rfl (.u (.fieldAddr rfl fo_37_4) (.u (.ld rfl ag_3) (.u (.addW rfl rfl) (.q (.build (us := [(0, _), (1, _), (5, _)]) fl_43 ze_43 rfl rfl (by simp [isCell])) rfl (.oq (.allocA ze_43) ?_))))))))))))))
   rintro v L' ⟨b9, rfl, rfl⟩
   refine .oq (.storeA rfl rfl ?c111 sz_43 ?c114 ?c112 (nfz0 _ _)) ?_
   case c111 => (first | (simp [isCell]; done) | (simp [isCell, setAll, Value.cells]; done))
   case c114 => (first | (simp; done) | (simp [setAll, spl, Value.cells]; done))
   case c112 => (first | (simp; done) | (simp [setAll, spl, Value.cells]; done))
   rintro v L' rfl
   refine .nil (.ptCast (b := b9) (l' := ptC (delX (closeT ((ownedZ τ u.ses).reverse.take i) τ) (ownedZ τ u.ses).reverse[i])) (by repeat' constructor) (by exact rfl) (.then_n (GR.seq (GR.draw (by rintro ⟨_, _, h⟩; exact h) rfl [2, 5] [[0, 1, 3, 2, 4], [5]] mixed (by kernel_rfl) (.go [ptc b3 _ _, ptc b9 _ _] (by repeat' constructor) (.k rfl (.ld rfl ag_30) (.kv rfl (.ld rfl ag_30) (.k rfl (.to (v' := .agg (ptC (delX (closeT ((ownedZ τ u.ses).reverse.take i) τ) (ownedZ τ u.ses).reverse[i])).toArray) (.loadA rfl ag_43 (by repeat' constructor) (by simp [ptC])) (by rfl)) (.hh rfl (.c Tryz.func64 [_] (trzxid_spec c (closeT ((ownedZ τ u.ses).reverse.take i) τ))) ?_)))))))))
   rintro v L' ⟨rfl, rfl⟩
   refine D.kv rfl (.buildN (pl := [(0, 1), (1, 1), (2, 1), (3, 8)]) (us := [(0, vint (closeT ((ownedZ τ u.ses).reverse.take i) τ).zx), (3, .agg (ptC (delX (closeT ((ownedZ τ u.ses).reverse.take i) τ) (ownedZ τ u.ses).reverse[i])).toArray)]) (cells := [vint (closeT ((ownedZ τ u.ses).reverse.take i) τ).zx, vint 0, vint 0] ++ ptC (delX (closeT ((ownedZ τ u.ses).reverse.take i) τ) (ownedZ τ u.ses).reverse[i])) Tryz.underlying54 (by kernel_rfl) ze_54 rfl (fill_entry _ _ _ _ _ _ _ _ _)) (.ph (.g0 (.hh rfl (.call Tryz.func33 rfl rfl (vs := [_, _]) rfl (trapply_spec c (closeT ((ownedZ τ u.ses).reverse.take i) τ) (closeT ((ownedZ τ u.ses).reverse.take i) τ).zx 0 0 (delX (closeT ((ownedZ τ u.ses).reverse.take i) τ) (ownedZ τ u.ses).reverse[i]) [] nilP (txS_ok _ (by omega)) (N + N) hok (by show N + N + 0 ≤ _; omega))) ?_)))
   rintro v L' ⟨ue, ee, rfl, -, ⟨ae, ce, rfl⟩, rfl⟩; rw [← closeT_step hi2 τ]
   refine D.pf (GR.draw (by rintro ⟨_, _, h⟩; exact h) rfl [4, 5, 7, 9] [[0, 1, 2, 3, 4], [5], [6, 8, 7, 9]] mixed (by kernel_rfl) (.go [ptc b9 _ _, ptc b4 _ _] (by repeat' constructor) (.k rfl (.fieldAddr rfl fo_43_7) (.k rfl (.ld rfl ag_41) (.k rfl (.to (v' := .agg (ptC (delX (closeT ((ownedZ τ u.ses).reverse.take i) τ) (ownedZ τ u.ses).reverse[i])).toArray) (.loadA rfl ag_43 (by repeat' constructor) (by simp [ptC])) (by rfl)) (.k rfl (.slen rfl Tryz.underlying41 rfl) (.hh rfl (.buildSlice (vs := [_]) el_41 ze_43 rfl rfl rfl rfl (by first | (simp [Value.cells]; done) | (intro v hv; simp only [List.mem_cons, List.not_mem_nil, or_false] at hv; (repeat (first | (subst hv; rfl) | (rcases hv with hv | hv; (subst hv; rfl)))))) (by decide)) ?_)))))))
   rintro v L' ⟨b10, rfl, rfl⟩
   refine D.ph (.g0 (.hh rfl (.append1S rfl rfl rfl el_41 ze_43 rfl rfl ?c130 ?c131 (Nat.le_refl _) ?c132 (by decide) (by decide)) ?_))
   case c130 => simp only [List.map_cons, List.map_nil, List.flatten_cons, List.flatten_nil, List.append_nil]; simp only [Value.cells]; intro z hz; simp at hz; rcases hz with rfl | rfl | rfl | rfl | rfl | rfl | rfl | rfl <;> rfl
   case c131 => rfl
   case c132 => have := owned_len τ u.ses; have := ho.few; omega
   rintro v L' ⟨a8, c8, rfl, rfl⟩
   refine D.ph (.g0 (.k rfl (.indexAddr rfl rfl el_41 (by omega)) (.k rfl (.fieldAddr rfl fo_43_7) (.h2 (k := 9) rfl rfl (by kernel_rfl) rfl (.storeRdA (sz := 8) (j := i * 8) (k := 8) (vs := ptC (delX (closeT ((ownedZ τ u.ses).reverse.take i) τ) (ownedZ τ u.ses).reverse[i])) rfl rfl (pt_cells rfl rfl) sz_43 rfl ?ho137 ?hi138) (by repeat' constructor) (.store rfl rfl rfl sz_41 ?c139 (nfz0 _ _)) (by repeat' constructor) ?_ ?_))))
   case ho137 => simp
   case hi138 => omega
   case c139 => simp [clsC]
   ·rintro v L' rfl
    refine D.hh rfl (.store rfl rfl rfl sz_41 ?c143 (nfz0 _ _)) ?_
    case c143 => simp [clsC]
    rintro v L' rfl
    refine D.ph (.fin (.slCast (T := 43) (sz := 8) (m' := i + 1) (xs' := (closeL ((ownedZ τ u.ses).reverse.take (i + 1)) τ).flatMap ptC) (by repeat' constructor) (by exact rfl) (by rw [closeL_step hi2 τ, List.flatMap_append]; exact spl_app (by rw [flat8_len, closeL_len, List.length_take, Nat.min_eq_left (Nat.le_of_lt hi2)]) rfl) (.ptCast (b := b4) (l' := clsC u.ses (.slice (some ⟨a8, 0, none⟩) (i + 1) c8)) (by repeat' constructor) (by exact rfl) (.blk_n (.fold (p := clsJ (ptc b3 [vptr c] 30) c b4 τ u.ses (ownedZ τ u.ses).reverse (i + 1)) (q := [ptc b3 [vptr c] 30, treeR c (closeT ((ownedZ τ u.ses).reverse.take (i + 1)) τ), ptc b4 (clsC u.ses (.slice (some ⟨a8, 0, none⟩) (i + 1) c8)) 43, slR 43 8 (.slice (some ⟨a8, 0, none⟩) (i + 1) c8) (i + 1) ((closeL ((ownedZ τ u.ses).reverse.take (i + 1)) τ).flatMap ptC)]) (by repeat' constructor) (fun h hp => ⟨_, ⟨_, _, rfl⟩, hp⟩) ?_)))))
    exact .rnd (by repeat' constructor) (by repeat' constructor)
   rintro v L' rfl
   refine D.hh rfl (.storeRdA (sz := 8) (j := i * 8) (k := 8) (vs := ptC (delX (closeT ((ownedZ τ u.ses).reverse.take i) τ) (ownedZ τ u.ses).reverse[i])) rfl rfl (pt_cells rfl rfl) sz_43 rfl ?ho146 ?hi147) ?_
   case ho146 => simp
   case hi147 => omega
   rintro v L' rfl
   refine D.ph (.fin (.slCast (T := 43) (sz := 8) (m' := i + 1) (xs' := (closeL ((ownedZ τ u.ses).reverse.take (i + 1)) τ).flatMap ptC) (by repeat' constructor) (by exact rfl) (by rw [closeL_step hi2 τ, List.flatMap_append]; exact spl_app (by rw [flat8_len, closeL_len, List.length_take, Nat.min_eq_left (Nat.le_of_lt hi2)]) rfl) (.ptCast (b := b4) (l' := clsC u.ses (.slice (some ⟨a8, 0, none⟩) (i + 1) c8)) (by repeat' constructor) (by exact rfl) (.blk_n (.fold (p := clsJ (ptc b3 [vptr c] 30) c b4 τ u.ses (ownedZ τ u.ses).reverse (i + 1)) (q := [ptc b3 [vptr c] 30, treeR c (closeT ((ownedZ τ u.ses).reverse.take (i + 1)) τ), ptc b4 (clsC u.ses (.slice (some ⟨a8, 0, none⟩) (i + 1) c8)) 43, slR 43 8 (.slice (some ⟨a8, 0, none⟩) (i + 1) c8) (i + 1) ((closeL ((ownedZ τ u.ses).reverse.take (i + 1)) τ).flatMap ptC)]) (by repeat' constructor) (fun h hp => ⟨_, ⟨_, _, rfl⟩, hp⟩) ?_)))))
   exact .rnd (by repeat' constructor) (by repeat' constructor)
  rintro v L' ⟨b7, rfl, rfl⟩
  refine D.hh rfl (.c Tryz.func98 [_] (parent_spec ((ownedZ τ u.ses).reverse[i]) (by omega))) ?_
  rintro v L' ⟨rfl, rfl⟩
  refine D.hh rfl (.c Tryz.func13 [_, _] (trstat_spec c (closeT ((ownedZ τ u.ses).reverse.take i) τ) (parentZ ((ownedZ τ u.ses).reverse[i])) (N + N) hok hN2)) ?_
  rintro v L' ⟨rfl, rfl⟩
  refine D.mv rfl rfl (.kv rfl (.extract rfl rfl) (.k rfl (.extract rfl rfl) (.hh rfl (.storeA rfl rfl ?c156 sz_37 ?c159 ?c157 (nfz0 _ _)) ?_)))
  case c156 => intro v hv; simp only [stC, List.mem_cons, List.not_mem_nil, or_false] at hv; rcases hv with rfl | rfl | rfl | rfl | rfl | rfl | rfl | rfl | rfl <;> rfl
  case c159 => rfl
  case c157 => simp [stC]
  rintro v L' rfl
  refine D.ph (.g0 (.kv rfl (.assign rfl) (.ph (.fin (.ptCast (b := b7) (l' := stC (statD (closeT ((ownedZ τ u.ses).reverse.take i) τ) (parentZ ((ownedZ τ u.ses).reverse[i])))) (by repeat' constructor) (by exact rfl) (.then_n (GR.seq (GR.region (by rintro ⟨_, _, h⟩; exact h) rfl (.m rfl (.u (.fieldAddr rfl fo_37_4) (.u (.ld rfl ag_3) (.u (.addW rfl rfl) (.q (.build (us := [(0, _), (1, _), (5, _)]) fl_43 ze_43 rfl rfl (by simp [isCell])) rfl (.oq (.allocA ze_43) ?_))))))))))))))
  rintro v L' ⟨b9, rfl, rfl⟩
  refine .oq (.storeA rfl rfl ?c168 sz_43 ?c171 ?c169 (nfz0 _ _)) ?_
  case c168 => (first | (simp [isCell]; done) | (simp [isCell, setAll, Value.cells]; done))
  case c171 => (first | (simp; done) | (simp [setAll, spl, Value.cells]; done))
  case c169 => (first | (simp; done) | (simp [setAll, spl, Value.cells]; done))
  rintro v L' rfl
  refine .nil (.ptCast (b := b9) (l' := ptC (delX (closeT ((ownedZ τ u.ses).reverse.take i) τ) (ownedZ τ u.ses).reverse[i])) (by repeat' constructor) (by exact rfl) (.then_n (GR.seq (GR.draw (by rintro ⟨_, _, h⟩; exact h) rfl [2, 5] [[0, 1, 3, 2, 4], [5]] mixed (by kernel_rfl) (.go [ptc b3 _ _, ptc b9 _ _] (by repeat' constructor) (.k rfl (.ld rfl ag_30) (.kv rfl (.ld rfl ag_30) (.k rfl (.to (v' := .agg (ptC (delX (closeT ((ownedZ τ u.ses).reverse.take i) τ) (ownedZ τ u.ses).reverse[i])).toArray) (.loadA rfl ag_43 (by repeat' constructor) (by simp [ptC])) (by rfl)) (.hh rfl (.c Tryz.func64 [_] (trzxid_spec c (closeT ((ownedZ τ u.ses).reverse.take i) τ))) ?_)))))))))
  rintro v L' ⟨rfl, rfl⟩
  refine D.kv rfl (.buildN (pl := [(0, 1), (1, 1), (2, 1), (3, 8)]) (us := [(0, vint (closeT ((ownedZ τ u.ses).reverse.take i) τ).zx), (3, .agg (ptC (delX (closeT ((ownedZ τ u.ses).reverse.take i) τ) (ownedZ τ u.ses).reverse[i])).toArray)]) (cells := [vint (closeT ((ownedZ τ u.ses).reverse.take i) τ).zx, vint 0, vint 0] ++ ptC (delX (closeT ((ownedZ τ u.ses).reverse.take i) τ) (ownedZ τ u.ses).reverse[i])) Tryz.underlying54 (by kernel_rfl) ze_54 rfl (fill_entry _ _ _ _ _ _ _ _ _)) (.ph (.g0 (.hh rfl (.call Tryz.func33 rfl rfl (vs := [_, _]) rfl (trapply_spec c (closeT ((ownedZ τ u.ses).reverse.take i) τ) (closeT ((ownedZ τ u.ses).reverse.take i) τ).zx 0 0 (delX (closeT ((ownedZ τ u.ses).reverse.take i) τ) (ownedZ τ u.ses).reverse[i]) [] nilP (txS_ok _ (by omega)) (N + N) hok (by show N + N + 0 ≤ _; omega))) ?_)))
  rintro v L' ⟨ue, ee, rfl, -, ⟨ae, ce, rfl⟩, rfl⟩; rw [← closeT_step hi2 τ]
  refine D.pf (GR.draw (by rintro ⟨_, _, h⟩; exact h) rfl [4, 5, 7, 9] [[0, 1, 2, 3, 4], [5], [6, 8, 7, 9]] mixed (by kernel_rfl) (.go [ptc b9 _ _, ptc b4 _ _] (by repeat' constructor) (.k rfl (.fieldAddr rfl fo_43_7) (.k rfl (.ld rfl ag_41) (.k rfl (.to (v' := .agg (ptC (delX (closeT ((ownedZ τ u.ses).reverse.take i) τ) (ownedZ τ u.ses).reverse[i])).toArray) (.loadA rfl ag_43 (by repeat' constructor) (by simp [ptC])) (by rfl)) (.k rfl (.slen rfl Tryz.underlying41 rfl) (.hh rfl (.buildSlice (vs := [_]) el_41 ze_43 rfl rfl rfl rfl (by first | (simp [Value.cells]; done) | (intro v hv; simp only [List.mem_cons, List.not_mem_nil, or_false] at hv; (repeat (first | (subst hv; rfl) | (rcases hv with hv | hv; (subst hv; rfl)))))) (by decide)) ?_)))))))
  rintro v L' ⟨b10, rfl, rfl⟩
  refine D.ph (.g0 (.hh rfl (.append1S rfl rfl rfl el_41 ze_43 rfl rfl ?c187 ?c188 (Nat.le_refl _) ?c189 (by decide) (by decide)) ?_))
  case c187 => simp only [List.map_cons, List.map_nil, List.flatten_cons, List.flatten_nil, List.append_nil]; simp only [Value.cells]; intro z hz; simp at hz; rcases hz with rfl | rfl | rfl | rfl | rfl | rfl | rfl | rfl <;> rfl
  case c188 => rfl
  case c189 => have := owned_len τ u.ses; have := ho.few; omega
  rintro v L' ⟨a8, c8, rfl, rfl⟩
  refine D.ph (.g0 (.k rfl (.indexAddr rfl rfl el_41 (by omega)) (.k rfl (.fieldAddr rfl fo_43_7) (.h2 (k := 9) rfl rfl (by kernel_rfl) rfl (.storeRdA (sz := 8) (j := i * 8) (k := 8) (vs := ptC (delX (closeT ((ownedZ τ u.ses).reverse.take i) τ) (ownedZ τ u.ses).reverse[i])) rfl rfl (pt_cells rfl rfl) sz_43 rfl ?ho194 ?hi195) (by repeat' constructor) (.store rfl rfl rfl sz_41 ?c196 (nfz0 _ _)) (by repeat' constructor) ?_ ?_))))
  case ho194 => simp
  case hi195 => omega
  case c196 => simp [clsC]
  ·rintro v L' rfl
   refine D.hh rfl (.store rfl rfl rfl sz_41 ?c200 (nfz0 _ _)) ?_
   case c200 => simp [clsC]
   rintro v L' rfl
   refine D.ph (.fin (.slCast (T := 43) (sz := 8) (m' := i + 1) (xs' := (closeL ((ownedZ τ u.ses).reverse.take (i + 1)) τ).flatMap ptC) (by repeat' constructor) (by exact rfl) (by rw [closeL_step hi2 τ, List.flatMap_append]; exact spl_app (by rw [flat8_len, closeL_len, List.length_take, Nat.min_eq_left (Nat.le_of_lt hi2)]) rfl) (.ptCast (b := b4) (l' := clsC u.ses (.slice (some ⟨a8, 0, none⟩) (i + 1) c8)) (by repeat' constructor) (by exact rfl) (.blk_n (.fold (p := clsJ (ptc b3 [vptr c] 30) c b4 τ u.ses (ownedZ τ u.ses).reverse (i + 1)) (q := [ptc b3 [vptr c] 30, treeR c (closeT ((ownedZ τ u.ses).reverse.take (i + 1)) τ), ptc b4 (clsC u.ses (.slice (some ⟨a8, 0, none⟩) (i + 1) c8)) 43, slR 43 8 (.slice (some ⟨a8, 0, none⟩) (i + 1) c8) (i + 1) ((closeL ((ownedZ τ u.ses).reverse.take (i + 1)) τ).flatMap ptC)]) (by repeat' constructor) (fun h hp => ⟨_, ⟨_, _, rfl⟩, hp⟩) ?_)))))
   exact .rnd (by repeat' constructor) (by repeat' constructor)
  rintro v L' rfl
  refine D.hh rfl (.storeRdA (sz := 8) (j := i * 8) (k := 8) (vs := ptC (delX (closeT ((ownedZ τ u.ses).reverse.take i) τ) (ownedZ τ u.ses).reverse[i])) rfl rfl (pt_cells rfl rfl) sz_43 rfl ?ho203 ?hi204) ?_
  case ho203 => simp
  case hi204 => omega
  rintro v L' rfl
  refine D.ph (.fin (.slCast (T := 43) (sz := 8) (m' := i + 1) (xs' := (closeL ((ownedZ τ u.ses).reverse.take (i + 1)) τ).flatMap ptC) (by repeat' constructor) (by exact rfl) (by rw [closeL_step hi2 τ, List.flatMap_append]; exact spl_app (by rw [flat8_len, closeL_len, List.length_take, Nat.min_eq_left (Nat.le_of_lt hi2)]) rfl) (.ptCast (b := b4) (l' := clsC u.ses (.slice (some ⟨a8, 0, none⟩) (i + 1) c8)) (by repeat' constructor) (by exact rfl) (.blk_n (.fold (p := clsJ (ptc b3 [vptr c] 30) c b4 τ u.ses (ownedZ τ u.ses).reverse (i + 1)) (q := [ptc b3 [vptr c] 30, treeR c (closeT ((ownedZ τ u.ses).reverse.take (i + 1)) τ), ptc b4 (clsC u.ses (.slice (some ⟨a8, 0, none⟩) (i + 1) c8)) 43, slR 43 8 (.slice (some ⟨a8, 0, none⟩) (i + 1) c8) (i + 1) ((closeL ((ownedZ τ u.ses).reverse.take (i + 1)) τ).flatMap ptC)]) (by repeat' constructor) (fun h hp => ⟨_, ⟨_, _, rfl⟩, hp⟩) ?_)))))
  exact .rnd (by repeat' constructor) (by repeat' constructor)
 refine .open (q := fun z : Value => [ptc b3 [vptr c] 30, treeR c (closeT ((ownedZ τ u.ses).reverse.take (ownedZ τ u.ses).length) τ), ptc b4 (clsC u.ses z) 43, slR 43 8 z (ownedZ τ u.ses).length ((closeL ((ownedZ τ u.ses).reverse.take (ownedZ τ u.ses).length) τ).flatMap ptC)]) (φ := fun z : Value => ∃ a k, z = .slice a (ownedZ τ u.ses).length k) (fun _ hp => hp) ?_
 rintro z ⟨az, cz, rfl⟩
 have htk : (ownedZ τ u.ses).reverse.take (ownedZ τ u.ses).length = (ownedZ τ u.ses).reverse := List.take_of_length_le (by omega)
 rw [htk]
 refine .blk_n (.then_n (.sr (.q (.to (v' := .agg (clsC u.ses (.slice az (ownedZ τ u.ses).length cz)).toArray) (.loadA rfl ag_43 (by repeat' constructor) (by simp [clsC])) (by rfl)) rfl (.oq (.storeA rfl rfl ?c207 sz_43 ?c210 ?c208 (nfz0 _ _)) ?_))))
 case c207 => simp [clsC, isCell]
 case c210 => rfl
 case c208 => simp [clsC, ptC]
 rintro v L' rfl
 refine .nil (.ptCast (b := bx) (l' := clsC u.ses (.slice az (ownedZ τ u.ses).length cz)) (by repeat' constructor) (by exact rfl) ?_)
 have hcl : (closeL (ownedZ τ u.ses).reverse τ).length = (ownedZ τ u.ses).length := by rw [closeL_len, hlr]
 refine .slCast (T := 43) (sz := 8) (m' := (closeL (ownedZ τ u.ses).reverse τ).length) (xs' := (closeL (ownedZ τ u.ses).reverse τ).flatMap ptC) (by repeat' constructor) (by omega) rfl (.add (p := bigR aclR (closeL (ownedZ τ u.ses).reverse τ)) (big_none fun y hy => ⟨(closeL_plain _ _ y hy).1, (closeL_plain _ _ y hy).2.1⟩) (.then_n (.ret ?_)))
 exact .doneM1 rfl (by repeat' constructor) (.cellA rfl ag_43 (by repeat' constructor) (by simp [clsC]) rfl) ⟨.slice az (ownedZ τ u.ses).length cz, closeL (ownedZ τ u.ses).reverse τ, rfl, map_pl fun y hy => (closeL_plain _ _ y hy).2.2.2, ⟨az, cz, by rw [hcl]⟩, fun y hy => ⟨by rw [(closeL_plain _ _ y hy).1]; rfl, (closeL_plain _ _ y hy).2.2.1⟩, rfl⟩ (by repeat' constructor) (by repeat' constructor)
theorem ptxnA_spec (t : Nat) (τ : Tr) (u : Who) (iv : Value) (r : Rq) (p : HP) (hA : WiA p u iv r) (N : Nat) (ho : τ.Ok N) (hN : N ≤ 1099511627776) (hw : TrW τ) (hN2 : N + 16 ≤ 1099511627776) (subs : List Rq) (hr : ∀ h : Hp, p h → rdS 10 h r.subsV subs.length (subs.flatMap rqC)) (hS : ∀ x ∈ subs, WiA p u iv x) (hSa : ∀ x ∈ subs, AclW x.acl) (hN3 : N + N ≤ 1099511627776) : Fn Tryz.prog 14 #[vptr t, vint u.ses, iv, .agg (rqC r).toArray] [treeR t τ, p] fun v L =>
    ∃ (y : Pt) (ys : List Pt), v = .agg (ptC y).toArray ∧ y.pl = (txnP τ u r subs).1 ∧ ys.map Pt.pl = (txnP τ u r subs).2 ∧ (isCell y.aclV = true ∧ ∃ a c, y.subsV = .slice a ys.length c) ∧ (∀ z ∈ ys, isCell z.aclV = true ∧ z.subsV = nilV) ∧ L = [treeR t τ, p, aclR y, slR 43 8 y.subsV ys.length (ys.flatMap ptC), bigR aclR ys] := by
 refine Fn.intro Tryz.func14 rfl rfl fun F W => ?_
 have hcl := hA.cells t
 refine .sr (.oq (.box rfl) ?_)
 rintro v L' ⟨b7, rfl, rfl⟩
 refine .oq (.allocA ze_43) ?_
 rintro v L' ⟨b8, rfl, rfl⟩
 refine .nil (.ptCast (b := b7) (l' := rqC r) (by repeat' constructor) (by exact rfl) (.then_n (.seq (.sm rfl (.q (.ptreq rfl rfl Tryz.underlying30) rfl (.nt (.condF rfl (.sk (.sm rfl (.m rfl (.cv Tryz.func44 [_, _] (trsession_spec t τ u.ses) ?_)))))))))))
 refine .m rfl (.u (.extract rfl rfl) (.u (.extract rfl rfl) (.u (.extract rfl rfl) (.a rfl (.a rfl (.an rfl (.sm rfl (.m rfl (.m rfl (.q (.to (v' := .agg (rqC r).toArray) (.loadA rfl ag_28 (by repeat' constructor) (by simp [rqC])) (by rfl)) rfl (.q (.to (v' := .agg (wiC t u iv r).toArray) (.buildN (pl := [(0, 1), (1, 1), (2, 1), (3, 10)]) (us := [(0, vptr t), (1, vint u.ses), (2, iv), (3, .agg (rqC r).toArray)]) (cells := wiC t u iv r) Tryz.underlying99 (by kernel_rfl) ze_99 rfl (fill_wish t u iv hA.shape r)) rfl) rfl (.oq (.allocA ze_99) ?_))))))))))))
 rintro v L' ⟨b1, rfl, rfl⟩
 refine .oq (.storeA rfl rfl ?c21 sz_99 ?c24 ?c22 (nfz0 _ _)) ?_
 case c21 => exact fun v hv => List.all_eq_true.1 hcl v hv
 case c24 => rfl
 case c22 => simp [wiC, rqC]
 rintro v L' rfl
 refine .nil (.ptCast (b := b1) (l' := wiC t u iv r) (by repeat' constructor) (by exact rfl) (.then_n (.seq (.block (.sr (.u (.fieldAddr rfl fo_28_0) (.u (.ld rfl ag_3) (.cv Tryz.func21 [_] (pchanges_spec r.kind) ?_))))))))
 refine .u (.not rfl) (.an rfl (.condB rfl (fun h30 => ?_) (fun h30 => ?_)))
 ·have hT : txnP τ u r subs = (refusal 110 (-1), []) := if_pos (by simpa using h30)
  refine .sr (.cv Tryz.func43 [_, _] (prefusal_spec 110 (-1)) ?_)
  refine .oq (.storeA rfl rfl ?c33 sz_43 ?c36 ?c34 (nfz0 _ _)) ?_
  case c33 => simp [ptC, refusal, isCell]
  case c36 => rfl
  case c34 => simp [ptC]
  rintro v L' rfl
  refine .nil (.ptCast (b := b8) (l' := [vint ((refusal 110 (-1))).kind, vstr ((refusal 110 (-1))).path, vstr ((refusal 110 (-1))).data, nilV, vint ((refusal 110 (-1))).own, vint ((refusal 110 (-1))).num, vint ((refusal 110 (-1))).err, nilV]) (by repeat' constructor) (by exact rfl) (.add (slR_nil 85 2) (.add (slR_nil 43 8) (.add (p := bigR aclR []) (fun h => big_nil h) (.then_n (.ret (.blk_r (.then_r ?_))))))))
  exact .d1 rfl (.cellA rfl ag_43 (by repeat' constructor) (by simp [spl, setAll]) rfl) ⟨refusal 110 (-1), [], rfl, by rw [hT]; rfl, by rw [hT]; rfl, ⟨rfl, none, 0, rfl⟩, (fun _ h => by cases h), rfl⟩
 have hc : changesK r.kind = true := by simpa using h30
 refine .sm rfl (.u (.not rfl) (.an rfl (.condN rfl (fun h36 => ?_) (fun h36 => ?_))))
 ·have hT : txnP τ u r subs = (refusal 67 (-1), []) := by unfold txnP; rw [if_neg (fun g => g hc), if_pos h36]
  refine .sr (.cv Tryz.func43 [_, _] (prefusal_spec 67 (-1)) ?_)
  refine .oq (.storeA rfl rfl ?c41 sz_43 ?c44 ?c42 (nfz0 _ _)) ?_
  case c41 => simp [ptC, refusal, isCell]
  case c44 => rfl
  case c42 => simp [ptC]
  rintro v L' rfl
  refine .nil (.ptCast (b := b8) (l' := [vint ((refusal 67 (-1))).kind, vstr ((refusal 67 (-1))).path, vstr ((refusal 67 (-1))).data, nilV, vint ((refusal 67 (-1))).own, vint ((refusal 67 (-1))).num, vint ((refusal 67 (-1))).err, nilV]) (by repeat' constructor) (by exact rfl) (.add (slR_nil 85 2) (.add (slR_nil 43 8) (.add (p := bigR aclR []) (fun h => big_nil h) (.then_n (.ret (.blk_r (.then_r ?_))))))))
  exact .d1 rfl (.cellA rfl ag_43 (by repeat' constructor) (by simp [spl, setAll]) rfl) ⟨refusal 67 (-1), [], rfl, by rw [hT]; rfl, by rw [hT]; rfl, ⟨rfl, none, 0, rfl⟩, (fun _ h => by cases h), rfl⟩
 refine .sr (.u (.fieldAddr rfl fo_28_0) (.u (.ld rfl ag_3) (.ui rfl rfl rfl (.an rfl (.condD rfl (fun h40 => ?_) (fun h40 => ?_))))))
 ·have hT : txnP τ u r subs = multiP τ u subs := by unfold txnP; rw [if_neg (fun g => g hc), if_neg (fun g => g h36), if_pos h40]
  refine .sr (.q (.to (v' := .agg (wiC t u iv r).toArray) (.loadA rfl ag_99 (by repeat' constructor) (by simp [wiC, rqC])) (by rfl)) rfl (.oq (.c Tryz.func45 [_] (pmulti_spec t τ u iv r p hA N ho hN hw hN2 subs hr hS hSa)) ?_))
  rintro v L' ⟨w, ys, rfl, hys, ⟨aw, cw, rfl⟩, hyk, rfl⟩
  refine .oq (.storeA rfl rfl ?c52 sz_43 ?c55 ?c53 (nfz0 _ _)) ?_
  case c52 => exact ptC_ws (by rw [(multi_acl τ u subs).1]; rfl)
  case c55 => rfl
  case c53 => simp [ptC]
  rintro v L' rfl
  refine .nil (.ptCast (b := b8) (l' := [vint ((multiP τ u subs).1).kind, vstr ((multiP τ u subs).1).path, vstr ((multiP τ u subs).1).data, (multiP τ u subs).1.aclV, vint ((multiP τ u subs).1).own, vint ((multiP τ u subs).1).num, vint ((multiP τ u subs).1).err, .slice aw ys.length cw]) (by repeat' constructor) (by exact rfl) (.add (slR_nil 85 2) (.as (q := aclR ((multiP τ u subs).1.ws (.slice aw ys.length cw))) (p := slR 85 2 nilV 0 []) (by repeat' constructor) (by show _ = slR _ _ (multiP τ u subs).1.aclV (multiP τ u subs).1.acl.length ((multiP τ u subs).1.acl.flatMap acC); rw [(multi_acl τ u subs).1, (multi_acl τ u subs).2]; rfl) (.then_n (.ret (.blk_r (.then_r ?_)))))))
  exact .d1 rfl (.cellA rfl ag_43 (by repeat' constructor) (by simp [spl, setAll]) rfl) ⟨(multiP τ u subs).1.ws (.slice aw ys.length cw), ys, rfl, by rw [hT]; exact multi_pl τ u subs _, by rw [hT]; exact hys, ⟨by show isCell (multiP τ u subs).1.aclV = true; rw [(multi_acl τ u subs).1]; rfl, aw, cw, rfl⟩, hyk, rfl⟩
 refine .sr (.u (.fieldAddr rfl fo_28_0) (.u (.ld rfl ag_3) (.ui rfl rfl rfl (.an rfl (.condD rfl (fun h46 => ?_) (fun h46 => ?_))))))
 ·have hT : txnP τ u r subs = (noopX, []) := by unfold txnP; rw [if_neg (fun g => g hc), if_neg (fun g => g h36), if_neg h40, if_pos h46]
  refine .sr (.q (.build (us := [(0, _)]) fl_43 ze_43 rfl rfl (by simp [isCell])) rfl (.oq (.storeA rfl rfl ?c61 sz_43 ?c64 ?c62 (nfz0 _ _)) ?_))
  case c61 => (first | (simp [isCell]; done) | (simp [isCell, setAll, Value.cells]; done))
  case c64 => (first | (simp; done) | (simp [setAll, spl, Value.cells]; done))
  case c62 => (first | (simp; done) | (simp [setAll, spl, Value.cells]; done))
  rintro v L' rfl
  refine .nil (.ptCast (b := b8) (l' := [vint (noopX).kind, vstr (noopX).path, vstr (noopX).data, nilV, vint (noopX).own, vint (noopX).num, vint (noopX).err, nilV]) (by repeat' constructor) (by exact rfl) (.add (slR_nil 85 2) (.add (slR_nil 43 8) (.add (p := bigR aclR []) (fun h => big_nil h) (.then_n (.ret (.blk_r (.then_r ?_))))))))
  exact .d1 rfl (.cellA rfl ag_43 (by repeat' constructor) (by simp [spl, setAll]) rfl) ⟨noopX, [], rfl, by rw [hT]; rfl, by rw [hT]; rfl, ⟨rfl, none, 0, rfl⟩, (fun _ h => by cases h), rfl⟩
 refine .sr (.u (.fieldAddr rfl fo_28_0) (.u (.ld rfl ag_3) (.ui rfl rfl rfl (.an rfl (.condD rfl (fun h51 => ?_) (fun h51 => ?_))))))
 ·have hT : txnP τ u r subs = closeP τ u.ses := by unfold txnP; rw [if_neg (fun g => g hc), if_neg (fun g => g h36), if_neg h40, if_neg h46, if_pos h51]
  refine .sr (.q (.to (v' := .agg (wiC t u iv r).toArray) (.loadA rfl ag_99 (by repeat' constructor) (by simp [wiC, rqC])) (by rfl)) rfl (.oq (.c Tryz.func46 [_] (pcloses_spec t τ u iv r p hA N ho hN hN3)) ?_))
  rintro v L' ⟨w, ys, rfl, hys, ⟨aw, cw, rfl⟩, hyk, rfl⟩
  refine .oq (.storeA rfl rfl ?c72 sz_43 ?c75 ?c73 (nfz0 _ _)) ?_
  case c72 => exact ptC_ws (by rfl)
  case c75 => rfl
  case c73 => simp [ptC]
  rintro v L' rfl
  refine .nil (.ptCast (b := b8) (l' := [vint ((closeP τ u.ses).1).kind, vstr ((closeP τ u.ses).1).path, vstr ((closeP τ u.ses).1).data, (closeP τ u.ses).1.aclV, vint ((closeP τ u.ses).1).own, vint ((closeP τ u.ses).1).num, vint ((closeP τ u.ses).1).err, .slice aw ys.length cw]) (by repeat' constructor) (by exact rfl) (.add (slR_nil 85 2) (.as (q := aclR ((closeP τ u.ses).1.ws (.slice aw ys.length cw))) (p := slR 85 2 nilV 0 []) (by repeat' constructor) rfl (.then_n (.ret (.blk_r (.then_r ?_)))))))
  exact .d1 rfl (.cellA rfl ag_43 (by repeat' constructor) (by simp [spl, setAll]) rfl) ⟨(closeP τ u.ses).1.ws (.slice aw ys.length cw), ys, rfl, by rw [hT]; rfl, by rw [hT]; exact hys, ⟨rfl, aw, cw, rfl⟩, hyk, rfl⟩
 have hk8 : r.kind ≠ 8 := h51
 refine .skip (.blk_n (.then_n (.sr (.q (.to (v' := .agg (wiC t u iv r).toArray) (.loadA rfl ag_99 (by repeat' constructor) (by simp [wiC, rqC])) (by rfl)) rfl (.oq (.c Tryz.func47 [_] (ppart_spec t τ u iv r p hA N ho hN (cver_i64 hw _))) ?_)))))
 rintro v L' ⟨w, rfl, ⟨aw, cw, rfl⟩, rfl⟩
 refine .m rfl (.u (.extract rfl rfl) (.u (.extract rfl rfl) (.oq (.allocA ze_43) ?_)))
 rintro v L' ⟨b13, rfl, rfl⟩
 refine .oq (.storeA rfl rfl ?c84 sz_43 ?c87 ?c85 (nfz0 _ _)) ?_
 case c84 => exact fun v hv => List.all_eq_true.1 (ptC_cells ⟨none, 0, 0, part_sub τ u r⟩) v hv
 case c87 => rfl
 case c85 => simp [ptC]
 rintro v L' rfl
 refine .a rfl (.nil (.ptCast (b := b13) (l' := [vint ((partP τ u r).1).kind, vstr ((partP τ u r).1).path, vstr ((partP τ u r).1).data, .slice aw (partP τ u r).1.acl.length cw, vint ((partP τ u r).1).own, vint ((partP τ u r).1).num, vint ((partP τ u r).1).err, (partP τ u r).1.subsV]) (by repeat' constructor) (by exact rfl) (.then_n (.seq (.sm rfl (.ui rfl rfl rfl (.nt (.condN rfl (fun h63 => ?_) (fun h63 => ?_)))))))))
 ·have hT : txnP τ u r subs = (refusal (partP τ u r).2 (-1), []) := by unfold txnP; rw [if_neg (fun g => g hc), if_neg (fun g => g h36), if_neg h40, if_neg h46, if_neg hk8, if_pos h63]
  refine .sm rfl (.cv Tryz.func43 [_, _] (prefusal_spec (partP τ u r).2 (-1)) ?_)
  refine .oq (.storeA rfl rfl ?c92 sz_43 ?c95 ?c93 (nfz0 _ _)) ?_
  case c92 => simp [ptC, refusal, isCell]
  case c95 => rfl
  case c93 => simp [ptC]
  rintro v L' rfl
  refine .nil (.ptCast (b := b8) (l' := [vint ((refusal (partP τ u r).2 (-1))).kind, vstr ((refusal (partP τ u r).2 (-1))).path, vstr ((refusal (partP τ u r).2 (-1))).data, nilV, vint ((refusal (partP τ u r).2 (-1))).own, vint ((refusal (partP τ u r).2 (-1))).num, vint ((refusal (partP τ u r).2 (-1))).err, nilV]) (by repeat' constructor) (by exact rfl) (.add (slR_nil 85 2) (.add (slR_nil 43 8) (.add (p := bigR aclR []) (fun h => big_nil h) (.then_n (.rt ?_))))))
  exact .d1 rfl (.cellA rfl ag_43 (by repeat' constructor) (by simp [spl, setAll]) rfl) ⟨refusal (partP τ u r).2 (-1), [], rfl, by rw [hT]; rfl, by rw [hT]; rfl, ⟨rfl, none, 0, rfl⟩, (fun _ h => by cases h), rfl⟩
 have hT : txnP τ u r subs = ((partP τ u r).1, []) := by unfold txnP; rw [if_neg (fun g => g hc), if_neg (fun g => g h36), if_neg h40, if_neg h46, if_neg hk8, if_neg (fun g => g h63)]
 refine .sk (.sr (.q (.to (v' := .agg ([vint ((partP τ u r).1).kind, vstr ((partP τ u r).1).path, vstr ((partP τ u r).1).data, .slice aw (partP τ u r).1.acl.length cw, vint ((partP τ u r).1).own, vint ((partP τ u r).1).num, vint ((partP τ u r).1).err, nilV]).toArray) (.loadA rfl ag_43 (by repeat' constructor) (by simp)) (by rw [← part_sub τ u r]; rfl)) rfl (.oq (.storeA rfl rfl ?c98 sz_43 ?c101 ?c99 (nfz0 _ _)) ?_)))
 case c98 => simp [isCell]
 case c101 => (first | (simp; done) | (simp [setAll, spl, Value.cells]; done))
 case c99 => (first | (simp; done) | (simp [setAll, spl, Value.cells]; done))
 rintro v L' rfl
 refine .nil (.ptCast (b := b8) (l' := [vint ((partP τ u r).1).kind, vstr ((partP τ u r).1).path, vstr ((partP τ u r).1).data, .slice aw (partP τ u r).1.acl.length cw, vint ((partP τ u r).1).own, vint ((partP τ u r).1).num, vint ((partP τ u r).1).err, nilV]) (by repeat' constructor) (by exact rfl) (.add (slR_nil 43 8) (.add (p := bigR aclR []) (fun h => big_nil h) (.then_n (.ret ?_)))))
 exact .d1 rfl (.cellA rfl ag_43 (by repeat' constructor) (by simp [spl, setAll]) rfl) ⟨(withA (partP τ u r).1 (.slice aw (partP τ u r).1.acl.length cw)).ws nilV, [], rfl, by rw [hT]; exact part_pl τ u r (.slice aw (partP τ u r).1.acl.length cw), by rw [hT]; rfl, ⟨rfl, none, 0, rfl⟩, (fun _ h => by cases h), rfl⟩
/-! ### What Txn answers -/
structure Good (y : Pt) : Prop where
 r : PtR y
 n : PtN y
theorem Good.of {y z : Pt} (e : y.pl = z.pl) (h : Good z) : Good y := by
 refine ⟨PtR.of e h.r, ?_⟩
 have hk : PtN z.pl := ⟨h.n.own, h.n.num, h.n.data, h.n.acl⟩
 rw [← e] at hk
 exact ⟨hk.own, hk.num, hk.data, hk.acl⟩
theorem refusal_G {e n : Int} (he : I64 e) (hn : I64 n) : Good (refusal e n) := ⟨refusal_R he hn, I64.zero, hn, by show 0 ≤ _; decide, acl_nil_w⟩
theorem part_G {τ : Tr} {u : Who} {r : Rq} {p : HP} {iv : Value} (h : WiA p u iv r) (ha : AclW r.acl) : Good (partP τ u r).1 := ⟨part_R h ha, part_n τ u h.ses (by have := h.rq.data; omega) ha⟩
theorem multiL_N {p : HP} {u : Who} {iv : Value} : ∀ {l : List Rq} {τ : Tr}, (∀ r ∈ l, WiA p u iv r ∧ AclW r.acl) → ∀ y ∈ (multiL u l τ).2.1, PtN y
 | [], _, _, _, h => by cases h
 | r :: l, τ, h, y, hy => by
  rw [multi_cons] at hy
  split at hy
  ·cases hy
  ·rcases List.mem_cons.1 hy with rfl | hy
   ·exact (part_G (h r List.mem_cons_self).1 (h r List.mem_cons_self).2).n
   ·exact multiL_N (fun x hx => h x (List.mem_cons_of_mem _ hx)) y hy
theorem multi_N {p : HP} {u : Who} {iv : Value} {l : List Rq} {τ : Tr} (h : ∀ r ∈ l, WiA p u iv r ∧ AclW r.acl) : PtN (multiP τ u l).1 ∧ ∀ y ∈ (multiP τ u l).2, PtN y := by
 have hm : I64 (-1) := ⟨by decide, by decide⟩
 unfold multiP
 split
 ·exact ⟨(refusal_G ⟨by decide, by decide⟩ hm).n, fun _ g => by cases g⟩
 ·rename_i hl
  split
  ·rename_i i e he
   have hie : i < 8 ∧ 0 ≤ e ∧ e ≤ 110 := by
    have := multi_stop_i he
    omega
   exact ⟨(refusal_G ⟨by omega, by omega⟩ ⟨by omega, by omega⟩).n, fun _ g => by cases g⟩
  ·exact ⟨⟨I64.zero, I64.zero, Nat.zero_le _, acl_nil_w⟩, multiL_N h⟩
theorem del_N {τ : Tr} {p : Bs} : PtN (delX τ p) := ⟨I64.zero, wrap_i64 _, Nat.zero_le _, acl_nil_w⟩
theorem closeL_N : ∀ {l : List Bs} {τ : Tr}, ∀ y ∈ closeL l τ, PtN y ∧ y.kind = 2
 | [], _, _, h => by cases h
 | p :: l, τ, y, hy => by
  rcases List.mem_cons.1 (show y ∈ delX τ p :: closeL l _ from hy) with rfl | hy
  ·exact ⟨del_N, rfl⟩
  ·exact closeL_N y hy
structure TxnG (N : Nat) (y : Pt) (l : List Pt) : Prop where
 x : Good y
 each : ∀ z ∈ l, Good z
 len : l.length ≤ 8 ∨ (y.kind = 6 ∧ l.length ≤ N ∧ ∀ z ∈ l, z.kind = 2)
theorem txn_G {τ : Tr} {N : Nat} (ho : τ.Ok N) {u : Who} {r : Rq} {p : HP} {iv : Value} {subs : List Rq} (hd : WiD p u iv r subs) : TxnG N (txnP τ u r subs).1 (txnP τ u r subs).2 := by
 have hm : I64 (-1) := ⟨by decide, by decide⟩
 have few : ∀ {x : Pt}, Good x → TxnG N x [] := fun h => ⟨h, (fun _ g => by cases g), .inl (Nat.zero_le _)⟩
 unfold txnP
 split
 ·exact few (refusal_G ⟨by decide, by decide⟩ hm)
 split
 ·exact few (refusal_G ⟨by decide, by decide⟩ hm)
 split
 ·have h1 := multi_R (τ := τ) (u := u) (l := subs) (fun x hx => ⟨hd.each x hx, hd.acls x hx⟩)
  have h2 := multi_N (τ := τ) (u := u) (l := subs) (fun x hx => ⟨hd.each x hx, hd.acls x hx⟩)
  exact ⟨⟨h1.1, h2.1⟩, fun z hz => ⟨h1.2.1 z hz, h2.2 z hz⟩, .inl h1.2.2⟩
 split
 ·exact few ⟨⟨⟨I64.zero, I64.zero, I64.zero, I64.zero, by show 0 < U64; decide, by show 0 < U64; decide, by show 0 < U64; decide, fun a ha => by cases ha⟩, acl_nil_w.long, Nat.zero_le _, Nat.zero_le _, Nat.zero_le _⟩, I64.zero, I64.zero, Nat.zero_le _, acl_nil_w⟩
 split
 ·have hcl : (closeL (ownedZ τ u.ses).reverse τ).length = (ownedZ τ u.ses).length := by rw [closeL_len, List.length_reverse]
  have hfew := owned_len τ u.ses
  have hon := ho.few
  have hL := closeL_R (l := (ownedZ τ u.ses).reverse) (τ := τ) (fun q hq => owned_short ho (List.mem_reverse.1 hq))
  refine ⟨⟨⟨⟨⟨by show (-9223372036854775808 : Int) ≤ 6; decide, by show (6 : Int) ≤ 9223372036854775807; decide⟩, hd.w.ses, I64.zero, I64.zero, by show 0 < U64; decide, by show 0 < U64; decide, by show 0 < U64; decide, fun a ha => by cases ha⟩, acl_nil_w.long, Nat.zero_le _, Nat.zero_le _, Nat.zero_le _⟩, hd.w.ses, I64.zero, Nat.zero_le _, acl_nil_w⟩, fun z hz => ⟨(hL z hz).1, (closeL_N z hz).1⟩, .inr ⟨rfl, ?_, fun z hz => (closeL_N z hz).2⟩⟩
  show (closeL (ownedZ τ u.ses).reverse τ).length ≤ N
  omega
 split
 ·have := part_code τ u r
  exact few (refusal_G ⟨by omega, by omega⟩ hm)
 ·exact few (part_G hd.w hd.a)
theorem TxnG.of {N : Nat} {x y : Pt} {l ys : List Pt} (h : TxnG N x l) (hy : y.pl = x) (hys : ys.map Pt.pl = l) : TxnG N y ys := by
 subst hy; subst hys
 refine ⟨Good.of (z := y.pl) rfl h.x, fun z hz => Good.of (z := z.pl) rfl (h.each _ (List.mem_map_of_mem hz)), ?_⟩
 rcases h.len with h1 | ⟨h1, h2, h3⟩
 ·exact .inl (by rwa [List.length_map] at h1)
 ·exact .inr ⟨h1, by rwa [List.length_map] at h2, fun z hz => h3 z.pl (List.mem_map_of_mem (f := Pt.pl) hz)⟩
theorem TxnG.few {N : Nat} {x : Pt} {l : List Pt} (h : TxnG N x l) (hN : N ≤ 1048576) : l.length ≤ 1048576 := by
 rcases h.len with h1 | ⟨-, h2, -⟩ <;> omega
theorem TxnG.tx {N : Nat} {y : Pt} {ys : List Pt} (h : TxnG N y ys) (hN : N ≤ 1048576) (z s i : Int) (hc : isCell y.aclV = true ∧ ∃ a c, y.subsV = .slice a ys.length c) (hcs : ∀ z ∈ ys, isCell z.aclV = true ∧ z.subsV = nilV) : TxA (entR ⟨z, s, i, y, ys⟩) y ys := by
 refine ⟨⟨fun _ hp => ent_acl hp, h.x.r.many, h.x.r.path, ?_, hc.1⟩, fun _ hp => ent_subs hp, h.few hN, fun w hw => ⟨fun _ hp => ent_each hp hw, (h.each w hw).r.many, (h.each w hw).r.path, by rw [(hcs w hw).2]; rfl, (hcs w hw).1⟩⟩
 obtain ⟨a, c, e⟩ := hc.2
 rw [e]; rfl
theorem TxnG.n {N : Nat} {y : Pt} {ys : List Pt} (h : TxnG N y ys) {z s i : Int} (hz : I64 z) : EnN ⟨z, s, i, y, ys⟩ := ⟨hz, h.x.n, fun w hw => (h.each w hw).n⟩
theorem TxnG.w {N : Nat} {y : Pt} {ys : List Pt} (h : TxnG N y ys) {τ : Tr} (hw : TrW τ) {z : Int} (hz : I64 z) : TrW (applyZ τ z y ys).1 := hw.app (h.n (s := 0) (i := 0) hz)
theorem erase_ok {τ : Tr} {N : Nat} (h : τ.Ok N) {x : Pt} (hk : x.kind = 2) (zx : Int) : (partZ τ x zx).1.Ok N := by
 unfold partZ
 rw [if_neg (by omega), if_pos hk]
 unfold eraseZ
 split
 ·exact (h.cut _).kid _ _ _
 ·exact h
theorem erases_ok {τ : Tr} {N : Nat} (h : τ.Ok N) (zx : Int) (l : List Pt) (hl : ∀ x ∈ l, x.kind = 2) : (partsZ τ zx l).1.Ok N := by
 unfold partsZ
 have H : ∀ (l : List Pt) (r : Tr × List Ev), r.1.Ok N → (∀ x ∈ l, x.kind = 2) → (l.foldl (fun r x => ((partZ r.1 x zx).1, r.2 ++ (partZ r.1 x zx).2)) r).1.Ok N := by
  intro l
  induction l with
  | nil => intro r h _; exact h
  | cons x l ih =>
   intro r h hl
   rw [List.foldl_cons]
   exact ih _ (erase_ok h (hl x List.mem_cons_self) zx) fun y hy => hl y (List.mem_cons_of_mem _ hy)
 exact H l _ h hl
theorem TxnG.ok {N : Nat} {y : Pt} {ys : List Pt} (h : TxnG N y ys) {τ : Tr} {M : Nat} (ho : τ.Ok M) (z : Int) : (applyZ τ z y ys).1.Ok (M + 9) := by
 rcases h.len with h1 | ⟨h1, -, h3⟩
 ·exact (ho.apply z y ys h.x.r.many fun w hw => (h.each w hw).r.many).more (by omega)
 ·unfold applyZ
  dsimp only
  rw [if_neg (by omega), if_pos h1]
  exact ((erases_ok (ho.zx z) z _ fun w hw => h3 w (List.mem_filter.1 hw).1).dropS _).more (by omega)
theorem parts_plm (τ : Tr) (zx : Int) (l : List Pt) : partsZ τ zx (l.map Pt.pl) = partsZ τ zx l := by
 unfold partsZ
 rw [List.foldl_map]; rfl
theorem filter_plm (l : List Pt) : (l.map Pt.pl).filter isDel = (l.filter isDel).map Pt.pl := by
 rw [List.filter_map]; rfl
theorem apply_plm (τ : Tr) (zx : Int) (y : Pt) (ys : List Pt) : applyZ τ zx y.pl (ys.map Pt.pl) = applyZ τ zx y ys := by
 unfold applyZ
 dsimp only
 rw [filter_plm, parts_plm, parts_plm]; rfl
/-! ### Wishes of a list -/
structure Wh where
 ses : Int
 opn : Bool
 idv : Value
 ids : List Bs
 r : Rq
 subs : List Rq
def whC (w : Wh) : List Value := [vint w.ses, .bool w.opn, w.idv] ++ rqC w.r
structure WhA (p : HP) (w : Wh) : Prop where
 ses : I64 w.ses
 d : ∀ s, I64 s → WiD p ⟨s, w.ids⟩ w.idv w.r w.subs
structure WhsA (p : HP) (v : Value) (l : List Wh) : Prop where
 cells : ∀ h : Hp, p h → rdS 13 h v l.length (l.flatMap whC)
 len : l.length ≤ 1048576
 each : ∀ w ∈ l, WhA p w
def sesK (c : Int) : Int := 1 + pickZ c 5
theorem sesK_rng (c : Int) : 1 ≤ sesK c ∧ sesK c ≤ 5 := by
 have := pickZ_range c (n := 5) (by decide)
 unfold sesK; omega
theorem sesK_i (c : Int) : I64 (sesK c) := by
 have := sesK_rng c
 exact ⟨by omega, by omega⟩
def openP (s : Int) : Pt := ⟨5, [], [], nilV, [], s, 10, 0, nilV⟩
theorem openP_G {s : Int} (hs : I64 s) : Good (openP s) := ⟨⟨⟨⟨by show (-9223372036854775808 : Int) ≤ 5; decide, by show (5 : Int) ≤ 9223372036854775807; decide⟩, hs, ⟨by show (-9223372036854775808 : Int) ≤ 10; decide, by show (10 : Int) ≤ 9223372036854775807; decide⟩, I64.zero, by show 0 < U64; decide, by show 0 < U64; decide, by show 0 < U64; decide, fun a ha => by cases ha⟩, acl_nil_w.long, Nat.zero_le _, Nat.zero_le _, Nat.zero_le _⟩, hs, ⟨by show (-9223372036854775808 : Int) ≤ 10; decide, by show (10 : Int) ≤ 9223372036854775807; decide⟩, Nat.zero_le _, acl_nil_w⟩
theorem openP_T {s : Int} (hs : I64 s) (N : Nat) : TxnG N (openP s) [] := ⟨openP_G hs, (fun _ g => by cases g), .inl (Nat.zero_le _)⟩
def ansW (τ : Tr) (w : Wh) : Pt × List Pt := if w.opn = true then (openP (sesK w.ses), []) else txnP τ ⟨sesK w.ses, w.ids⟩ w.r w.subs
theorem ans_G {τ : Tr} {N : Nat} (ho : τ.Ok N) {p : HP} {w : Wh} (h : WhA p w) : TxnG N (ansW τ w).1 (ansW τ w).2 := by
 unfold ansW
 split
 ·exact openP_T (sesK_i _) N
 ·exact txn_G ho (h.d _ (sesK_i _))
def xidW (w : Wh) : Int := if w.opn = true then 0 else w.r.xid
theorem ses_part (τ : Tr) (zx : Int) {x : Pt} (h : plainK x) (l : List Pt) (s : Int) : sesT (applyZ τ zx x l).1 s ↔ sesT τ s := by
 unfold sesT
 rw [apply_part h, part_sess]; rfl
theorem ses_open (τ : Tr) (zx : Int) {s : Int} (h : 0 < s) : sesT (applyZ τ zx (openP s) []).1 s := by
 unfold sesT applyZ
 dsimp only
 rw [if_pos (show (openP s).kind = 5 from rfl), if_pos (show 0 < (openP s).own from h)]
 show (alook (sset τ.sess s (10, [])) s).isSome = true
 rw [al_sset, if_pos rfl]; rfl
/-! ### A part alone -/
theorem txn_one {τ : Tr} {u : Who} {k : Rq} (hs : sesT τ u.ses) (hk : k.kind = 1 ∨ k.kind = 2 ∨ k.kind = 3 ∨ k.kind = 4) (ks : List Rq) : txnP τ u k ks = if (partP τ u k).2 ≠ 0 then (refusal (partP τ u k).2 (-1), []) else ((partP τ u k).1, []) := by
 unfold txnP
 rw [if_neg (by rcases hk with h | h | h | h <;> rw [h] <;> decide), if_neg (fun g => g hs), if_neg (by omega), if_neg (by omega), if_neg (by omega)]
theorem txn_multi {τ : Tr} {u : Who} {k : Rq} (hs : sesT τ u.ses) (hk : k.kind = 6) (ks : List Rq) : txnP τ u k ks = multiP τ u ks := by
 unfold txnP
 rw [if_neg (by rw [hk]; decide), if_neg (fun g => g hs), if_pos hk]
theorem multi_one (τ : Tr) (u : Who) (k : Rq) : multiP τ u [k] = if (partP τ u k).2 ≠ 0 then (refusal (partP τ u k).2 0, []) else (⟨7, [], [], nilV, [], 0, 0, 0, nilV⟩, [(partP τ u k).1]) := by
 by_cases h : (partP τ u k).2 ≠ 0
 ·rw [if_pos h]
  have := (MultiAt.zero u [k] τ).stop (Nat.zero_lt_one : 0 < [k].length) h (fun g => by simp at g)
  exact this
 ·rw [if_neg h]
  have h0 : (partP τ u k).2 = 0 := by omega
  have := ((MultiAt.zero u [k] τ).step (Nat.zero_lt_one : 0 < [k].length) h0)
  exact MultiAt.done this (fun g => by simp at g)
theorem part_five {τ : Tr} {u : Who} {k : Rq} (h : k.kind = 5) : (partP τ u k).1 = noopX := by
 unfold partP nodeX
 rw [if_neg (by omega), if_neg (by omega), if_pos (by omega), if_neg (by omega), if_neg (by omega)]
theorem part_other {τ : Tr} {u : Who} {k : Rq} (h : k.kind ≠ 1 ∧ k.kind ≠ 2 ∧ k.kind ≠ 3 ∧ k.kind ≠ 4 ∧ k.kind ≠ 5) : partP τ u k = (noopX, 110) := by
 unfold partP
 rw [if_neg h.1, if_neg h.2.1, if_neg (by omega)]
structure AloneA (τ : Tr) (u : Who) (k : Rq) (y : Pt) (ys : List Pt) : Prop where
 ok : (partP τ u k).2 = 0 → y.pl = (partP τ u k).1
 no : (partP τ u k).2 ≠ 0 → y.kind = 8 ∧ y.err = (partP τ u k).2
 acl : isCell y.aclV = true
 sub : ∃ a c, y.subsV = .slice a ys.length c
 each : ∀ z ∈ ys, isCell z.aclV = true ∧ z.subsV = nilV
 few : ∃ N, N ≤ 1048576 ∧ TxnG N y ys
theorem AloneA.kind {τ : Tr} {u : Who} {k : Rq} {y : Pt} {ys : List Pt} (h : AloneA τ u k y ys) : y.kind = 8 ↔ (partP τ u k).2 ≠ 0 := by
 constructor
 ·intro h8 h0
  have h1 := congrArg Pt.kind (h.ok h0)
  have h2 := (part_plain τ u k).2.2.2
  exact h2 (h1.symm.trans h8)
 ·exact fun g => (h.no g).1
theorem AloneA.take {τ : Tr} {u : Who} {k : Rq} {y : Pt} {ys : List Pt} (h : AloneA τ u k y ys) (h0 : (partP τ u k).2 = 0) (zx : Int) : (applyZ τ zx y ys).1 = (applyZ τ zx (partP τ u k).1 []).1 := by
 have h1 := h.ok h0
 have h2 : plainK y := by
  have := part_plain τ u k
  rw [← h1] at this; exact this
 rw [apply_part h2, apply_part (part_plain τ u k), ← h1]; rfl
theorem fill_e013 (a b : Int) (s0 s1 s2 s3 s4 s5 s6 s7 : Value) : Instr.fill (fun i => [(0, 1), (1, 1), (2, 1), (3, 8)].toArray[i]?) (([.int .i64 0, .int .i64 0, .int .i64 0, .int .i64 0, .string (bs []), .string (bs []), .slice none 0 0, .int .i64 0, .int .i64 0, .int .i64 0, .slice none 0 0] : List Value).toArray) [(0, vint a), (1, vint b), (3, .agg ([s0, s1, s2, s3, s4, s5, s6, s7] : List Value).toArray)] = some (([vint a, vint b, vint 0] ++ [s0, s1, s2, s3, s4, s5, s6, s7] : List Value).toArray) := by kernel_rfl
theorem fill_e0123 (a b c : Int) (s0 s1 s2 s3 s4 s5 s6 s7 : Value) : Instr.fill (fun i => [(0, 1), (1, 1), (2, 1), (3, 8)].toArray[i]?) (([.int .i64 0, .int .i64 0, .int .i64 0, .int .i64 0, .string (bs []), .string (bs []), .slice none 0 0, .int .i64 0, .int .i64 0, .int .i64 0, .slice none 0 0] : List Value).toArray) [(0, vint a), (1, vint b), (2, vint c), (3, .agg ([s0, s1, s2, s3, s4, s5, s6, s7] : List Value).toArray)] = some (([vint a, vint b, vint c] ++ [s0, s1, s2, s3, s4, s5, s6, s7] : List Value).toArray) := by kernel_rfl
theorem fill_e03 (a : Int) (s0 s1 s2 s3 s4 s5 s6 s7 : Value) : Instr.fill (fun i => [(0, 1), (1, 1), (2, 1), (3, 8)].toArray[i]?) (([.int .i64 0, .int .i64 0, .int .i64 0, .int .i64 0, .string (bs []), .string (bs []), .slice none 0 0, .int .i64 0, .int .i64 0, .int .i64 0, .slice none 0 0] : List Value).toArray) [(0, vint a), (3, .agg ([s0, s1, s2, s3, s4, s5, s6, s7] : List Value).toArray)] = some (([vint a, vint 0, vint 0] ++ [s0, s1, s2, s3, s4, s5, s6, s7] : List Value).toArray) := by kernel_rfl
theorem en_cells {a b c : Int} {y : Pt} {l : List Pt} (h1 : isCell y.aclV = true) (h2 : isCell y.subsV = true) : ∀ v ∈ enC ⟨a, b, c, y, l⟩, isCell v = true := by
 intro v hv
 simp only [enC, ptC, List.cons_append, List.nil_append, List.mem_cons, List.not_mem_nil, or_false] at hv
 rcases hv with rfl | rfl | rfl | rfl | rfl | rfl | rfl | rfl | rfl | rfl | rfl <;> first | rfl | assumption
theorem entry12_spec (t : Nat) (τ : Tr) (w : Wh) (zx : Int) (p : HP) (hW : WhA p w) (N : Nat) (ho : τ.Ok N) (hN : N ≤ 524288) (hw : TrW τ) : Fn Tryz.prog 28 #[vptr t, .agg (whC w).toArray, vint zx] [treeR t τ, p] fun v L =>
    ∃ (y : Pt) (ys : List Pt), v = .agg (enC ⟨zx, sesK w.ses, xidW w, y, ys⟩).toArray ∧ y.pl = (ansW τ w).1 ∧ ys.map Pt.pl = (ansW τ w).2 ∧ (isCell y.aclV = true ∧ ∃ a c, y.subsV = .slice a ys.length c) ∧ (∀ z ∈ ys, isCell z.aclV = true ∧ z.subsV = nilV) ∧ L = [treeR t τ, p, entR ⟨zx, sesK w.ses, xidW w, y, ys⟩] := by
 refine Fn.intro Tryz.func28 rfl rfl fun F W => ?_
 have hs := sesK_i w.ses
 have hsr := sesK_rng w.ses
 have hpk := pickZ_range w.ses (n := 5) (by decide)
 have hD := hW.d _ hs
 refine .sr (.oq (.box rfl) ?_)
 rintro v L' ⟨b4, rfl, rfl⟩
 refine .oq (.allocA ze_54) ?_
 rintro v L' ⟨b6, rfl, rfl⟩
 refine .nil (.ptCast (b := b4) (l' := whC w) (by repeat' constructor) (by exact rfl) (.then_n (.sr (.u (.fieldAddr rfl fo_67_0) (.u (.ld rfl ag_3) (.cv Tryz.func12 [_, _] (pick12_spec w.ses 5 hW.ses (by decide)) ?_))))))
 refine .q (.to (v' := vint (sesK w.ses)) (.add rfl rfl (by omega)) rfl) rfl (.an rfl (.seq (.sr (.u (.fieldAddr rfl fo_67_1) (.u (.ld rfl ag_4) (.nt (.condB rfl (fun h13 => ?_) (fun h13 => ?_))))))))
 ·have e1 : ansW τ w = (openP (sesK w.ses), []) := if_pos h13
  have e2 : xidW w = 0 := if_pos h13
  refine .sm rfl (.m rfl (.m rfl (.q (.to (v' := .agg (ptC (openP (sesK w.ses))).toArray) (.build (us := [(0, _), (4, _), (5, _)]) fl_43 ze_43 rfl rfl (by simp [isCell])) rfl) rfl (.q (.to (v' := .agg (enC (⟨zx, sesK w.ses, 0, openP (sesK w.ses), []⟩ : En)).toArray) (.buildN (pl := [(0, 1), (1, 1), (2, 1), (3, 8)]) (us := [(0, vint (⟨zx, sesK w.ses, 0, openP (sesK w.ses), []⟩ : En).zx), (1, vint (⟨zx, sesK w.ses, 0, openP (sesK w.ses), []⟩ : En).ses), (3, .agg (ptC (⟨zx, sesK w.ses, 0, openP (sesK w.ses), []⟩ : En).x).toArray)]) (cells := enC (⟨zx, sesK w.ses, 0, openP (sesK w.ses), []⟩ : En)) Tryz.underlying54 (by kernel_rfl) ze_54 rfl (fill_e013 _ _ _ _ _ _ _ _ _ _)) rfl) rfl (.oq (.storeA rfl rfl ?c15 sz_54 ?c18 ?c16 (nfz0 _ _)) ?_)))))
  case c15 => exact en_cells rfl rfl
  case c18 => rfl
  case c16 => simp [enC, ptC]
  rintro v L' rfl
  refine .nil (.ptCast (b := b6) (l' := enC (⟨zx, sesK w.ses, 0, openP (sesK w.ses), []⟩ : En)) (by repeat' constructor) (by exact rfl) (.add (slR_nil 85 2) (.add (slR_nil 43 8) (.add (p := bigR aclR []) (fun h => big_nil h) (.fold (p := entR (⟨zx, sesK w.ses, 0, openP (sesK w.ses), []⟩ : En)) (q := [aclR (openP (sesK w.ses)), slR 43 8 (openP (sesK w.ses)).subsV ([] : List Pt).length (([] : List Pt).flatMap ptC), bigR aclR ([] : List Pt)]) (by repeat' constructor) (fun _ h => h) (.then_n (.rt ?_)))))))
  exact .d1 rfl (.cellA rfl ag_54 (by repeat' constructor) (by simp [spl, setAll, enC, ptC]) rfl) ⟨openP (sesK w.ses), [], by rw [e2]; rfl, by rw [e1]; rfl, by rw [e1]; rfl, ⟨rfl, none, 0, rfl⟩, (fun _ h => by cases h), by rw [e2]⟩
 have h13n : ¬ w.opn = true := by rw [h13]; decide
 have e1 : ansW τ w = txnP τ (⟨sesK w.ses, w.ids⟩ : Who) w.r w.subs := if_neg h13n
 have e2 : xidW w = w.r.xid := if_neg h13n
 refine .sk (.seq (.draw [11, 13] [[0, 1, 2, 3, 4, 5, 6, 7, 8, 9, 10, 11], [12, 13]] mixed (by kernel_rfl) (.go [ptc b4 _ _] (by repeat' constructor) (.k rfl (.move rfl) (.k rfl (.move rfl) (.k rfl (.fieldAddr rfl fo_67_3) (.k rfl (.fieldAddr rfl fo_28_1) (.k rfl (.ld rfl ag_3) (.mv rfl rfl (.mv rfl rfl (.kv rfl (.fieldAddr rfl fo_67_2) (.kv rfl (.ld rfl ag_23) (.kv rfl (.fieldAddr rfl fo_67_3) (.kv rfl (.to (v' := .agg (rqC w.r).toArray) (.loadA rfl ag_28 (by repeat' constructor) (by simp [whC, rqC])) (by rfl)) (.hh rfl (.c Tryz.func14 [_, _, _, _] (ptxnA_spec t τ (⟨sesK w.ses, w.ids⟩ : Who) w.idv w.r p hD.w N ho (by omega) hw (by omega) w.subs hD.rd hD.each hD.acls (by omega))) ?_)))))))))))))))
 rintro v L' ⟨y, ys, rfl, hy, hys, ⟨hc, a1, c1, hsub⟩, hyk, rfl⟩
 refine D.ph (.g0 (.kv rfl (.to (v' := .agg (enC (⟨zx, sesK w.ses, w.r.xid, y, ys⟩ : En)).toArray) (.buildN (pl := [(0, 1), (1, 1), (2, 1), (3, 8)]) (us := [(0, vint (⟨zx, sesK w.ses, w.r.xid, y, ys⟩ : En).zx), (1, vint (⟨zx, sesK w.ses, w.r.xid, y, ys⟩ : En).ses), (2, vint (⟨zx, sesK w.ses, w.r.xid, y, ys⟩ : En).xid), (3, .agg (ptC (⟨zx, sesK w.ses, w.r.xid, y, ys⟩ : En).x).toArray)]) (cells := enC (⟨zx, sesK w.ses, w.r.xid, y, ys⟩ : En)) Tryz.underlying54 (by kernel_rfl) ze_54 rfl (fill_e0123 _ _ _ _ _ _ _ _ _ _ _)) rfl) (.hh rfl (.storeA rfl rfl ?c32 sz_54 ?c35 ?c33 (nfz0 _ _)) ?_)))
 case c32 => exact en_cells hc (by rw [hsub]; rfl)
 case c35 => rfl
 case c33 => simp [enC, ptC]
 rintro v L' rfl
 refine D.ph (.fin (.ptCast (b := b6) (l' := enC (⟨zx, sesK w.ses, w.r.xid, y, ys⟩ : En)) (by repeat' constructor) (by exact rfl) (.fold (p := entR (⟨zx, sesK w.ses, w.r.xid, y, ys⟩ : En)) (q := [aclR y, slR 43 8 y.subsV ys.length (ys.flatMap ptC), bigR aclR ys]) (by repeat' constructor) (fun _ h => h) (.then_n (.ret ?_)))))
 exact .d1 rfl (.cellA rfl ag_54 (by repeat' constructor) (by simp [spl, setAll, enC, ptC]) rfl) ⟨y, ys, by rw [e2]; rfl, by rw [e1]; exact hy, by rw [e1]; exact hys, ⟨hc, a1, c1, hsub⟩, hyk, by rw [e2]⟩
theorem openP_tx (p : HP) (s : Int) : TxA p (openP s) [] := ⟨⟨fun _ _ => .inl ⟨rfl, rfl, none, 0, rfl⟩, Nat.zero_le _, Nat.zero_le _, rfl, rfl⟩, fun _ _ => .inl ⟨rfl, rfl, none, 0, rfl⟩, Nat.zero_le _, fun _ h => by cases h⟩
theorem alone_one {τ : Tr} {u : Who} {k : Rq} {ks : List Rq} {y : Pt} {ys : List Pt} {N : Nat} (hs : sesT τ u.ses) (hk : k.kind = 1 ∨ k.kind = 2 ∨ k.kind = 3 ∨ k.kind = 4) (hy : y.pl = (txnP τ u k ks).1) (_hys : ys.map Pt.pl = (txnP τ u k ks).2) (hc : isCell y.aclV = true ∧ ∃ a c, y.subsV = .slice a ys.length c) (hcs : ∀ z ∈ ys, isCell z.aclV = true ∧ z.subsV = nilV) (hN : N ≤ 1048576) (hG : TxnG N y ys) : AloneA τ u k y ys := by
 rw [txn_one hs hk] at hy
 refine ⟨fun h => ?_, fun h => ?_, hc.1, hc.2, hcs, N, hN, hG⟩
 ·rw [if_neg (by omega)] at hy; exact hy
 ·rw [if_pos h] at hy; exact ⟨congrArg Pt.kind hy, congrArg Pt.err hy⟩
theorem alone_other {τ : Tr} {u : Who} {k : Rq} (h : k.kind ≠ 1 ∧ k.kind ≠ 2 ∧ k.kind ≠ 3 ∧ k.kind ≠ 4 ∧ k.kind ≠ 5) : AloneA τ u k (⟨8, [], [], nilV, [], 0, 0, 110, nilV⟩ : Pt) [] := by
 have e := part_other (τ := τ) (u := u) h
 refine ⟨fun g => ?_, fun _ => ?_, rfl, ⟨none, 0, rfl⟩, (fun _ h => by cases h), 0, Nat.zero_le _, ⟨Good.of (z := refusal 110 0) rfl (refusal_G ⟨by decide, by decide⟩ I64.zero), (fun _ h => by cases h), .inl (Nat.zero_le _)⟩⟩
 ·rw [e] at g; exact absurd g (by decide)
 ·rw [e]; exact ⟨rfl, rfl⟩
theorem alone_five {τ : Tr} {u : Who} {k : Rq} {y : Pt} {N : Nat} (hy : y.pl = (if (partP τ u k).2 ≠ 0 then ((refusal (partP τ u k).2 0, []) : Pt × List Pt) else (⟨7, [], [], nilV, [], 0, 0, 0, nilV⟩, [(partP τ u k).1])).1) (hk : k.kind = 5) (h7 : y.kind = 7) : AloneA τ u k noopX [] := by
 have h0 : (partP τ u k).2 = 0 := Decidable.byContradiction fun g => by
  rw [if_pos g] at hy
  have h8 : y.kind = 8 := congrArg Pt.kind hy
  omega
 refine ⟨fun _ => (part_five hk).symm, fun g => absurd h0 g, rfl, ⟨none, 0, rfl⟩, (fun _ h => by cases h), 0, Nat.zero_le _, ⟨⟨⟨⟨I64.zero, I64.zero, I64.zero, I64.zero, by show 0 < U64; decide, by show 0 < U64; decide, by show 0 < U64; decide, fun a ha => by cases ha⟩, acl_nil_w.long, Nat.zero_le _, Nat.zero_le _, Nat.zero_le _⟩, I64.zero, I64.zero, Nat.zero_le _, acl_nil_w⟩, (fun _ h => by cases h), .inl (Nat.zero_le _)⟩⟩
theorem alone_ref {τ : Tr} {u : Who} {k : Rq} {y : Pt} {ys : List Pt} {N : Nat} (hy : y.pl = (if (partP τ u k).2 ≠ 0 then ((refusal (partP τ u k).2 0, []) : Pt × List Pt) else (⟨7, [], [], nilV, [], 0, 0, 0, nilV⟩, [(partP τ u k).1])).1) (_hys : ys.map Pt.pl = (if (partP τ u k).2 ≠ 0 then ((refusal (partP τ u k).2 0, []) : Pt × List Pt) else (⟨7, [], [], nilV, [], 0, 0, 0, nilV⟩, [(partP τ u k).1])).2) (h7 : ¬ y.kind = 7)
  (hc : isCell y.aclV = true ∧ ∃ a c, y.subsV = .slice a ys.length c) (hcs : ∀ z ∈ ys, isCell z.aclV = true ∧ z.subsV = nilV) (hN : N ≤ 1048576) (hG : TxnG N y ys) : AloneA τ u k y ys := by
 have h0 : (partP τ u k).2 ≠ 0 := fun g => by
  rw [if_neg (fun f => f g)] at hy
  exact h7 (congrArg Pt.kind hy)
 rw [if_pos h0] at hy
 exact ⟨fun g => absurd g h0, fun _ => ⟨congrArg Pt.kind hy, congrArg Pt.err hy⟩, hc.1, hc.2, hcs, N, hN, hG⟩
theorem wi_multi {a p : HP} {u : Who} {iv w : Value} {k : Rq} {ks : List Rq} (h : WiD p u iv k ks) (hw : ∃ a n c, w = .slice a n c) (hr : ∀ h : Hp, a h → rdS 10 h w [k].length ([k].flatMap rqC)) : WiD (sep [a, p]) u iv ⟨6, 0, [], [], nilV, [], 0, 0, false, w, nilV⟩ [k] :=
 ⟨⟨⟨⟨by show (-9223372036854775808 : Int) ≤ 6; decide, by show (6 : Int) ≤ 9223372036854775807; decide⟩, I64.zero, I64.zero, I64.zero, Nat.zero_le _, Nat.zero_le _, fun _ _ => .inl ⟨rfl, rfl, none, 0, rfl⟩, Nat.zero_le _, (fun _ h => by cases h), hw, ⟨none, 0, 0, rfl⟩⟩, h.w.ses, rd_tail h.w.ids, h.w.few, h.w.shape, ⟨none, 0, 0, rfl⟩, h.w.tab.up⟩, acl_nil_w, rd_head hr,
  fun x hx => by rw [List.mem_singleton] at hx; subst hx; exact h.w.up, fun x hx => by rw [List.mem_singleton] at hx; subst hx; exact h.a⟩
theorem prepMultis12_spec (va iv : Value) (ws : List Wh) (s0 : Int) (ids : List Bs) (r : Rq) (subs : List Rq) (q : HP) (hA : WhsA q va ws) (hs0 : I64 s0) (hD : WiD q (⟨sesK s0, ids⟩ : Who) iv r subs) (hK : ∀ k ∈ subs, ∃ ks, WiD q (⟨sesK s0, ids⟩ : Who) iv k ks) : Fn Tryz.prog 7 #[va, vint s0, iv, .agg (rqC r).toArray] [q] fun v L => v = .bool true ∧ L = [q] := by
 refine Fn.intro Tryz.func7 rfl rfl fun F W => ?_
 refine .rdAny (p := q) hA.cells (by repeat' constructor) fun aa ca ee _ => ?_
 subst ee
 refine .rdAny (p := q) hD.rd (by repeat' constructor) fun ar cr hsv hcr => ?_
 have hrd : ∀ h : Hp, q h → rdS 10 h (.slice ar subs.length cr) subs.length (subs.flatMap rqC) := fun h hp => hsv ▸ hD.rd h hp
 have hlen := hA.len
 have hsr := sesK_rng s0
 have hpk := pickZ_range s0 (n := 5) (by decide)
 refine .sr (.oq (.box rfl) ?_)
 rintro v L' ⟨b7, rfl, rfl⟩
 refine .a rfl (.nil (.ptCast (b := b7) (l' := rqC r) (by repeat' constructor) (by exact rfl) (.then_n (.sr (.cv Tryz.func10 [] (awake12_spec q hD.w.tab) ?_)))))
 refine .an rfl (.sr (.oq (.c Tryz.func26 [] (trnew_spec)) ?_))
 rintro v L' ⟨t, rfl, rfl⟩
 refine .an rfl (.seq (.sm rfl (.u (.not rfl) (.m rfl (.grun (t := 23) rfl rfl rfl (.m rfl (.grun (t := 23) rfl rfl rfl (.q (.ptreq rfl rfl Tryz.underlying30) rfl (.u (.pickF rfl rfl) (.nt (.condF rfl (.sk (.seq (.sr (.an rfl (.block (.loopK (ι := Nat × Tr) (fun q E => (11, vint q.1) :: E) (fun q => [treeR t q.2]) (fun q => q.1 ≤ 100 ∧ q.1 ≤ ws.length ∧ q.2.Ok (1 + 9 * q.1) ∧ TrW q.2) (fun q => ws.length - q.1) (0, newT) (ts := [0, 1, 2, 7, 8, 10]) (.cons rfl (.cons rfl (.cons rfl (.cons rfl (.cons rfl (.cons rfl (.nil))))))) (⟨Nat.zero_le _, Nat.zero_le _, newT_ok, TrW.new⟩) ⟨rfl, rfl, rfl, rfl, rfl, rfl, rfl, trivial⟩ (by repeat' constructor) ?_)))))))))))))))))
 rintro ⟨i, τ⟩ ⟨hi1, hi2, hok, hw⟩
 dsimp only
 dsimp only at hi1 hi2 hok hw
 refine .seq (.sm rfl (.m rfl (.q (.slen rfl Tryz.underlying62 rfl) rfl (.ui rfl rfl rfl (.m rfl (.dec (t := 31) rfl (fun h6_31 => ?_) (fun h6_31 => ?_)))))))
 ·refine .kDT (t := 30) rfl h6_31 (.grun (t := 31) rfl rfl rfl (.m rfl (.grun (t := 31) rfl rfl rfl (.ui rfl rfl rfl (.u (.pickT rfl rfl) (.nt (.condD rfl (fun h34 => ?_) (fun h34 => ?_))))))))
  ·have hi3 : i < ws.length := by omega
   refine .rdShape (p := q) hA.cells (by repeat' constructor) (by omega) fun ba oa ee => ?_
   subst ee
   have hWi := hA.each _ (List.getElem_mem hi3)
   have hzi : I64 (1 + (i : Int)) := ⟨by omega, by omega⟩
   refine .sk (.seq (.block (.region (.m rfl (.m rfl (.m rfl (.m rfl (.q (.indexAddr rfl rfl el_62 (by omega)) rfl (.q (.loadRdA (sz := 13) (j := i * 13) (k := 13) (p := q) (vs := whC ws[i]) rfl ag_67 (by repeat' constructor) hA.cells (by simp) (by omega) (by omega) (flatMap_at (f := whC) (sz := 13) (fun _ _ => rfl) (by omega))) rfl (.m rfl (.q (.add rfl rfl (by omega)) rfl (.oq (.c Tryz.func28 [_, _, _] (entry12_spec t τ ws[i] (1 + i) q hWi (1 + 9 * i) hok (by omega) hw)) ?_))))))))))))
   rintro v L' ⟨y, ys, rfl, hy, hys, ⟨hc, a1, c1, hsub⟩, hyk, rfl⟩
   have hG : TxnG (1 + 9 * i) y ys := (ans_G hok hWi).of hy hys
   have hTx := hG.tx (by omega) (1 + i) (sesK ws[i].ses) (xidW ws[i]) ⟨hc, a1, c1, hsub⟩ hyk
   refine .oq (.c Tryz.func33 [_, _] (trapply_spec t τ (1 + i) (sesK ws[i].ses) (xidW ws[i]) y ys (entR (⟨1 + i, sesK ws[i].ses, xidW ws[i], y, ys⟩ : En)) hTx (1 + 9 * i) hok (by have := hTx.few; omega))) ?_
   rintro v L' ⟨ue, ee, rfl, -, ⟨ae, ce, rfl⟩, rfl⟩
   refine .nil (.blk_n (.then_n (.region (.m rfl (.q (.add rfl rfl (by omega)) rfl (.an rfl ?_))))))
   exact .rk ((i + 1, (applyZ τ (1 + i) y ys).1)) (⟨by dsimp only; omega, by dsimp only; omega, (hG.ok hok _).more (by dsimp only; omega), hG.w hw hzi⟩) (by dsimp only; omega) ⟨rfl, rfl, rfl, rfl, rfl, rfl, rfl, trivial⟩
  refine .exit (.then_e (.then_e (.blk_e (.then_n (.sm rfl (.cv Tryz.func12 [_, _] (pick12_spec s0 5 hs0 (by decide)) ?_))))))
  refine .q (.to (v' := vint (sesK s0)) (.add rfl rfl (by omega)) rfl) rfl (.an rfl (.sm rfl (.m rfl (.q (.to (v' := .agg (ptC (openP (sesK s0))).toArray) (.build (us := [(0, _), (4, _), (5, _)]) fl_43 ze_43 rfl rfl (by simp [isCell])) rfl) rfl (.q (.to (v' := .agg (enC (⟨200, 0, 0, openP (sesK s0), []⟩ : En)).toArray) (.buildN (pl := [(0, 1), (1, 1), (2, 1), (3, 8)]) (us := [(0, vint (⟨200, 0, 0, openP (sesK s0), []⟩ : En).zx), (3, .agg (ptC (⟨200, 0, 0, openP (sesK s0), []⟩ : En).x).toArray)]) (cells := enC (⟨200, 0, 0, openP (sesK s0), []⟩ : En)) Tryz.underlying54 (by kernel_rfl) ze_54 rfl (fill_e03 _ _ _ _ _ _ _ _ _)) rfl) rfl (.oq (.call Tryz.func33 rfl rfl (vs := [_, _]) rfl (trapply_spec t τ 200 0 0 (openP (sesK s0)) [] q (openP_tx q _) (1 + 9 * i) hok (by show 1 + 9 * i + 0 ≤ _; omega))) ?_))))))
  rintro v L' ⟨ue, ee, rfl, -, ⟨ae, ce, rfl⟩, rfl⟩
  refine .nil ?_
  have hs0i := sesK_i s0
  have hok1 : (applyZ τ 200 (openP (sesK s0)) []).1.Ok 920 := ((openP_T hs0i 0).ok hok 200).more (by omega)
  have hw1 : TrW (applyZ τ 200 (openP (sesK s0)) []).1 := (openP_T hs0i 0).w hw ⟨by decide, by decide⟩
  have hse : sesT (applyZ τ 200 (openP (sesK s0)) []).1 (sesK s0) := ses_open τ 200 (by omega)
  have h6 : I64 6 := ⟨by decide, by decide⟩
  have hD6 := hD.K h6
  revert hok1 hw1 hse
  generalize (applyZ τ 200 (openP (sesK s0)) []).1 = σ0
  intro hok1 hw1 hse
  refine .then_n (.sr (.u (.fieldAddr rfl fo_28_0) (.oq (.store rfl rfl rfl sz_3 ?c41 (nfz0 _ _)) ?_)))
  case c41 => simp [rqC]
  rintro v L' rfl
  refine .nil (.ptCast (b := b7) (l' := rqC (withK r 6)) (by repeat' constructor) (by exact rfl) (.then_n (.sm rfl (.m rfl (.m rfl (.q (.to (v' := .agg (rqC (withK r 6)).toArray) (.loadA rfl ag_28 (by repeat' constructor) (by simp [rqC])) (by rfl)) rfl (.oq (.c Tryz.func14 [_, _, _, _] (ptxnA_spec t σ0 (⟨sesK s0, ids⟩ : Who) iv (withK r 6) q hD6.w (920) hok1 (by omega) hw1 (by omega) subs hD6.rd hD6.each hD6.acls (by omega))) ?_)))))))
  rintro v L' ⟨y12, ys12, rfl, hy12, hys12, ⟨hc12, as12, cs12, hsub12⟩, hyk12, rfl⟩
  refine .oq (.allocA ze_43) ?_
  rintro v L' ⟨b13, rfl, rfl⟩
  refine .oq (.storeA rfl rfl ?c51 sz_43 ?c54 ?c52 (nfz0 _ _)) ?_
  case c51 => exact pt_cells hc12 (by rw [hsub12]; rfl)
  case c54 => rfl
  case c52 => simp [ptC]
  rintro v L' rfl
  refine .nil (.ptCast (b := b13) (l' := ptC y12) (by repeat' constructor) (by exact rfl) (.fold (p := entR ⟨300, 0, 0, y12, ys12⟩) (q := [aclR y12, slR 43 8 y12.subsV ys12.length (ys12.flatMap ptC), bigR aclR ys12]) (by repeat' constructor) (fun _ h => h) ?_))
  have hG0 : TxnG 920 y12 ys12 := (txn_G hok1 hD6).of hy12 hys12
  have hT0 : txnP σ0 (⟨sesK s0, ids⟩ : Who) (withK r 6) subs = multiP σ0 (⟨sesK s0, ids⟩ : Who) subs := txn_multi hse rfl subs
  rw [hT0] at hy12 hys12
  have hTx0 := hG0.tx (by omega) 300 0 0 ⟨hc12, as12, cs12, hsub12⟩ hyk12
  have hsv : (withK r 6).subsV = .slice ar subs.length cr := hsv
  refine .then_n (.seq (.sr (.u (.fieldAddr rfl fo_28_8) (.q (.to (v' := .slice _ subs.length cr) (.load rfl ag_25 (by repeat' constructor) (by rfl)) hsv) rfl (.q (.slen rfl Tryz.underlying25 rfl) rfl (.ui rfl rfl rfl (.m rfl (.dec (t := 65) rfl (fun h13_65 => ?_) (fun h13_65 => ?_)))))))))
  ·refine .kDT (t := 64) rfl h13_65 (.gk (.gk (.gk (.gk (.u (.pickT rfl rfl) (.nt (.condT rfl (.seq ?_))))))))
   have hm : multiP σ0 (⟨sesK s0, ids⟩ : Who) subs = (refusal 1 (-1), []) := by unfold multiP; rw [if_pos (by omega)]
   rw [hm] at hy12
   refine .region (.u (.fieldAddr rfl fo_43_0) (.u (.ld rfl ag_3) (.q (.as (v' := .bool true) (by exact congrArg Value.bool (decide_eq_true (congrArg Pt.kind hy12))) (.int rfl rfl rfl)) rfl (.m rfl (.grun (t := 74) rfl rfl rfl (.u (.fieldAddr rfl fo_43_6) (.grun (t := 74) rfl rfl rfl (.u (.ld rfl ag_40) (.grun (t := 74) rfl rfl rfl (.q (.as (v' := .bool true) (by exact congrArg Value.bool (decide_eq_true (congrArg Pt.err hy12))) (.int rfl rfl rfl)) rfl (.u (.pickT rfl rfl) (.m rfl (.grun (t := 79) rfl rfl rfl (.u (.fieldAddr rfl fo_43_5) (.grun (t := 79) rfl rfl rfl (.u (.ld rfl ag_3) (.grun (t := 79) rfl rfl rfl (.q (.as (v' := .bool true) (by exact congrArg Value.bool (decide_eq_true (congrArg Pt.num hy12))) (.int rfl rfl rfl)) rfl (.u (.pickT rfl rfl) (.an rfl (.rt ?_)))))))))))))))))))))
   exact .vv
  refine .kDF (t := 64) rfl h13_65 (.grun (t := 65) rfl rfl rfl (.u (.fieldAddr rfl fo_28_8) (.grun (t := 65) rfl rfl rfl (.q (.to (v' := .slice _ subs.length cr) (.load rfl ag_25 (by repeat' constructor) (by rfl)) hsv) rfl (.grun (t := 65) rfl rfl rfl (.q (.slen rfl Tryz.underlying25 rfl) rfl (.grun (t := 65) rfl rfl rfl (.ui rfl rfl rfl (.u (.pickF rfl rfl) (.nt (.condD rfl (fun h70 => ?_) (fun h70 => ?_))))))))))))
  ·refine .seq ?_
   have hm : multiP σ0 (⟨sesK s0, ids⟩ : Who) subs = (refusal 1 (-1), []) := by unfold multiP; rw [if_pos (by omega)]
   rw [hm] at hy12
   refine .region (.u (.fieldAddr rfl fo_43_0) (.u (.ld rfl ag_3) (.q (.as (v' := .bool true) (by exact congrArg Value.bool (decide_eq_true (congrArg Pt.kind hy12))) (.int rfl rfl rfl)) rfl (.m rfl (.grun (t := 74) rfl rfl rfl (.u (.fieldAddr rfl fo_43_6) (.grun (t := 74) rfl rfl rfl (.u (.ld rfl ag_40) (.grun (t := 74) rfl rfl rfl (.q (.as (v' := .bool true) (by exact congrArg Value.bool (decide_eq_true (congrArg Pt.err hy12))) (.int rfl rfl rfl)) rfl (.u (.pickT rfl rfl) (.m rfl (.grun (t := 79) rfl rfl rfl (.u (.fieldAddr rfl fo_43_5) (.grun (t := 79) rfl rfl rfl (.u (.ld rfl ag_3) (.grun (t := 79) rfl rfl rfl (.q (.as (v' := .bool true) (by exact congrArg Value.bool (decide_eq_true (congrArg Pt.num hy12))) (.int rfl rfl rfl)) rfl (.u (.pickT rfl rfl) (.an rfl (.rt ?_)))))))))))))))))))))
   exact .vv
  refine .sk (.seq ?_)
  have hl8 : ¬ (subs.length = 0 ∨ subs.length > 8) := by omega
  refine .region (.m rfl (.oq (.c Tryz.func32 [_] (trclone_spec t σ0 920 hok1 (by decide))) ?_))
  rintro v L' ⟨o1, rfl, rfl⟩
  refine .an rfl (.sm rfl (.q (.to (v' := .agg (ptC y12).toArray) (.loadA rfl ag_43 (by repeat' constructor) (by simp [ptC])) (by rfl)) rfl (.q (.to (v' := .agg (enC (⟨300, 0, 0, y12, ys12⟩ : En)).toArray) (.buildN (pl := [(0, 1), (1, 1), (2, 1), (3, 8)]) (us := [(0, vint (⟨300, 0, 0, y12, ys12⟩ : En).zx), (3, .agg (ptC (⟨300, 0, 0, y12, ys12⟩ : En).x).toArray)]) (cells := enC (⟨300, 0, 0, y12, ys12⟩ : En)) Tryz.underlying54 (by kernel_rfl) ze_54 rfl (fill_e03 _ _ _ _ _ _ _ _ _)) rfl) rfl (.oq (.c Tryz.func33 [_, _] (trapply_spec o1 σ0 300 0 0 y12 ys12 (entR (⟨300, 0, 0, y12, ys12⟩ : En)) hTx0 920 hok1 (by have := hTx0.few; omega))) ?_))))
  rintro v L' ⟨u16, e16, rfl, -, ⟨a16, c16, rfl⟩, rfl⟩
  refine .nt (.sm rfl (.oq (.c Tryz.func32 [_] (trclone_spec t σ0 920 hok1 (by decide))) ?_))
  rintro v L' ⟨o2, rfl, rfl⟩
  refine .an rfl (.seq (.sr (.an rfl (.block (.loopK (ι := Nat × Tr × Tr × (List Pt)) (fun q E => (16, vint q.1) :: E) (fun q => [treeR o2 q.2.2.1]) (fun q => q.1 ≤ subs.length ∧ TwoI (⟨sesK s0, ids⟩ : Who) subs σ0 q.1 q.2.1 q.2.2.1 q.2.2.2 ∧ q.2.2.1.Ok (920 + 9 * q.1) ∧ TrW q.2.2.1 ∧ sesT q.2.2.1 (sesK s0)) (fun q => subs.length - q.1) (0, σ0, σ0, []) (ts := [2, 7, 12, 13, 14, 15]) (.cons rfl (.cons rfl (.cons rfl (.cons rfl (.cons rfl (.cons rfl (.nil))))))) (⟨Nat.zero_le _, TwoI.zero _ _ _, hok1, hw1, hse⟩) ⟨rfl, rfl, rfl, rfl, rfl, rfl, rfl, trivial⟩ (by repeat' constructor) ?_)))))
  rintro ⟨j, σ, υ, xs⟩ ⟨hj, hTI, hok2, hw2, hse2⟩
  dsimp only
  dsimp only at hj hTI hok2 hw2 hse2
  refine .seq (.sm rfl (.u (.fieldAddr rfl fo_28_8) (.q (.to (v' := .slice _ subs.length cr) (.load rfl ag_25 (by repeat' constructor) (by rfl)) hsv) rfl (.q (.slen rfl Tryz.underlying25 rfl) rfl (.ui rfl rfl rfl (.nt (.condD rfl (fun h96 => ?_) (fun h96 => ?_))))))))
  ·have hj2 : j < subs.length := by omega
   have hj8 : j < 8 := by omega
   obtain ⟨ks, hDk⟩ := hK _ (List.getElem_mem hj2)
   refine .rdShape (p := q) hrd (by repeat' constructor) (by omega) fun bk ok ee => ?_
   subst ee
   refine .sk (.seq (.block (.sr (.u (.fieldAddr rfl fo_28_8) (.q (.to (v' := .slice _ subs.length cr) (.load rfl ag_25 (by repeat' constructor) (by rfl)) hsv) rfl (.m rfl (.q (.indexAddr rfl rfl el_25 (by omega)) rfl (.q (.loadRdA (sz := 10) (j := j * 10) (k := 10) (p := q) (vs := rqC subs[j]) rfl ag_28 (by repeat' constructor) hrd (by simp) (by omega) (by omega) (flatMap_at (f := rqC) (sz := 10) (fun _ _ => rfl) (by omega))) rfl (.oq (.allocA ze_28) ?_)))))))))
   rintro v L' ⟨b17, rfl, rfl⟩
   refine .oq (.storeA rfl rfl ?c106 sz_28 ?c109 ?c107 (nfz0 _ _)) ?_
   case c106 => exact hDk.w.rqcells
   case c109 => rfl
   case c107 => simp [rqC]
   rintro v L' rfl
   refine .nil (.ptCast (b := b17) (l' := rqC subs[j]) (by repeat' constructor) (by exact rfl) (.then_n (.sm rfl (.m rfl (.m rfl (.q (.to (v' := .agg (rqC subs[j]).toArray) (.loadA rfl ag_28 (by repeat' constructor) (by simp [rqC])) (by rfl)) rfl (.oq (.c Tryz.func14 [_, _, _, _] (ptxnA_spec o2 υ (⟨sesK s0, ids⟩ : Who) iv subs[j] q hDk.w (920 + 9 * j) hok2 (by omega) hw2 (by omega) ks hDk.rd hDk.each hDk.acls (by omega))) ?_)))))))
   rintro v L' ⟨y22, ys22, rfl, hy22, hys22, ⟨hc22, as22, cs22, hsub22⟩, hyk22, rfl⟩
   refine .oq (.allocA ze_43) ?_
   rintro v L' ⟨b18, rfl, rfl⟩
   refine .oq (.storeA rfl rfl ?c119 sz_43 ?c122 ?c120 (nfz0 _ _)) ?_
   case c119 => exact pt_cells hc22 (by rw [hsub22]; rfl)
   case c122 => rfl
   case c120 => simp [ptC]
   rintro v L' rfl
   refine .nil (.ptCast (b := b18) (l' := ptC y22) (by repeat' constructor) (by exact rfl) (.fold (p := entR ⟨300, 0, 0, y22, ys22⟩) (q := [aclR y22, slR 43 8 y22.subsV ys22.length (ys22.flatMap ptC), bigR aclR ys22]) (by repeat' constructor) (fun _ h => h) ?_))
   have hG2 : TxnG (920 + 9 * j) y22 ys22 := (txn_G hok2 hDk).of hy22 hys22
   refine .then_n (.seq (.joinK (ι := Pt × (List Pt)) (fun q E => E) (fun q => [ptc b18 (ptC q.1) 43, entR ⟨300, 0, 0, q.1, q.2⟩]) (fun q => AloneA υ (⟨sesK s0, ids⟩ : Who) subs[j] q.1 q.2) (pre := [ptc b18 _ _, entR ⟨300, 0, 0, y22, ys22⟩]) (ts := [2, 7, 12, 13, 14, 15, 16, 17, 18, 92, 93, 94, 95, 96, 99, 100, 101, 102, 103, 104, 105, 106, 107, 108]) (.cons rfl (.cons rfl (.cons rfl (.cons rfl (.cons rfl (.cons rfl (.cons rfl (.cons rfl (.cons rfl (.cons rfl (.cons rfl (.cons rfl (.cons rfl (.cons rfl (.cons rfl (.cons rfl (.cons rfl (.cons rfl (.cons rfl (.cons rfl (.cons rfl (.cons rfl (.cons rfl (.cons rfl (.nil))))))))))))))))))))))))) (by repeat' constructor) ?_ ?_))
   ·refine .sr (.u (.fieldAddr rfl fo_28_0) (.u (.ld rfl ag_3) (.nt (.block (.sr (.ui rfl rfl rfl (.an rfl (.condD rfl (fun h112 => ?_) (fun h112 => ?_)))))))))
    ·refine .sm rfl (.m rfl (.m rfl (.q (.to (v' := .agg (rqC subs[j]).toArray) (.loadA rfl ag_28 (by repeat' constructor) (by simp [rqC])) (by rfl)) rfl (.oq (.buildSlice (vs := [_]) el_25 ze_28 rfl rfl rfl rfl (by first | (simp [Value.cells]; done) | (intro v hv; simp only [List.mem_cons, List.not_mem_nil, or_false] at hv; (repeat (first | (subst hv; rfl) | (rcases hv with hv | hv; (subst hv; rfl)))))) (by decide)) ?_))))
     rintro v L' ⟨bs, rfl, rfl⟩
     refine .slMakeN 10 1 (b := bs) (xs := [subs[j]].flatMap rqC) (by repeat' constructor) rfl rfl (.fold (p := (sep [slR 28 10 (.slice (some ⟨bs, 0, none⟩) 1 1) 1 ([subs[j]].flatMap rqC), q])) (q := [slR 28 10 (.slice (some ⟨bs, 0, none⟩) 1 1) 1 ([subs[j]].flatMap rqC), q]) (by repeat' constructor) (fun _ h => h) ?_)
     have hD1 := wi_multi (a := slR 28 10 (.slice (some ⟨bs, 0, none⟩) 1 1) 1 ([subs[j]].flatMap rqC)) hDk ⟨some ⟨bs, 0, none⟩, 1, 1, rfl⟩ (fun _ => slR_rd)
     refine .q (.to (v' := .agg (rqC (⟨6, 0, [], [], nilV, [], 0, 0, false, .slice (some ⟨bs, 0, none⟩) 1 1, nilV⟩ : Rq)).toArray) (.build (us := [(0, _), (8, _)]) fl_28 ze_28 rfl rfl (by simp [isCell])) rfl) rfl (.oq (.c Tryz.func14 [_, _, _, _] (ptxnA_spec o2 υ (⟨sesK s0, ids⟩ : Who) iv (⟨6, 0, [], [], nilV, [], 0, 0, false, .slice (some ⟨bs, 0, none⟩) 1 1, nilV⟩ : Rq) (sep [slR 28 10 (.slice (some ⟨bs, 0, none⟩) 1 1) 1 ([subs[j]].flatMap rqC), q]) hD1.w (920 + 9 * j) hok2 (by omega) hw2 (by omega) [subs[j]] hD1.rd hD1.each hD1.acls (by omega))) ?_)
     rintro v L' ⟨y26, ys26, rfl, hy26, hys26, ⟨hc26, as26, cs26, hsub26⟩, hyk26, rfl⟩
     refine .oq (.storeA rfl rfl ?c136 sz_43 ?c139 ?c137 (nfz0 _ _)) ?_
     case c136 => exact pt_cells hc26 (by rw [hsub26]; rfl)
     case c139 => rfl
     case c137 => simp [ptC]
     rintro v L' rfl
     refine .nil (.ptCast (b := b18) (l' := ptC y26) (by repeat' constructor) (by exact rfl) (.fold (p := entR ⟨300, 0, 0, y26, ys26⟩) (q := [aclR y26, slR 43 8 y26.subsV ys26.length (ys26.flatMap ptC), bigR aclR ys26]) (by repeat' constructor) (fun _ h => h) (.focus (p := (sep [slR 28 10 (.slice (some ⟨bs, 0, none⟩) 1 1) 1 ([subs[j]].flatMap rqC), q])) (by repeat' constructor) (.unfold (q := [slR 28 10 (.slice (some ⟨bs, 0, none⟩) 1 1) 1 ([subs[j]].flatMap rqC), q]) (fun _ h => h) ?_))))
     have hT1 : txnP υ (⟨sesK s0, ids⟩ : Who) (⟨6, 0, [], [], nilV, [], 0, 0, false, .slice (some ⟨bs, 0, none⟩) 1 1, nilV⟩ : Rq) [subs[j]] = multiP υ (⟨sesK s0, ids⟩ : Who) [subs[j]] := txn_multi hse2 rfl _
     have hG3 : TxnG (920 + 9 * j) y26 ys26 := (txn_G hok2 hD1).of hy26 hys26
     rw [hT1, multi_one] at hy26 hys26
     refine .then_n (.sr (.u (.fieldAddr rfl fo_43_0) (.u (.ld rfl ag_3) (.ui rfl rfl rfl (.nt (.condD rfl (fun h123 => ?_) (fun h123 => ?_)))))))
     ·refine .region (.q (.to (v' := .agg (ptC noopX).toArray) (.build (us := []) fl_43 ze_43 rfl rfl (by simp [isCell])) rfl) rfl (.oq (.storeA rfl rfl ?c145 sz_43 ?c148 ?c146 (nfz0 _ _)) ?_))
      case c145 => exact pt_cells (y := noopX) rfl rfl
      case c148 => rfl
      case c146 => simp [ptC]
      rintro v L' rfl
      refine .nil (.ptCast (b := b18) (l' := ptC noopX) (by repeat' constructor) (by exact rfl) (.add (slR_nil 85 2) (.add (slR_nil 43 8) (.add (p := bigR aclR []) (fun h => big_nil h) (.fold (p := entR ⟨300, 0, 0, noopX, ([] : List Pt)⟩) (q := [aclR noopX, slR 43 8 noopX.subsV ([] : List Pt).length (([] : List Pt).flatMap ptC), bigR aclR ([] : List Pt)]) (by repeat' constructor) (fun _ h => h) (.blk_n (.then_n ?_)))))))
      exact .mk ((noopX, [])) (alone_five hy26 h112 h123 (N := 920)) ⟨rfl, rfl, rfl, rfl, rfl, rfl, rfl, rfl, rfl, rfl, rfl, rfl, rfl, rfl, rfl, rfl, rfl, rfl, rfl, rfl, rfl, rfl, rfl, rfl, trivial⟩
     refine .skip (.blk_n (.then_n ?_))
     exact .mk ((y26, ys26)) (alone_ref hy26 hys26 h123 ⟨hc26, as26, cs26, hsub26⟩ hyk26 (by omega) hG3) ⟨rfl, rfl, rfl, rfl, rfl, rfl, rfl, rfl, rfl, rfl, rfl, rfl, rfl, rfl, rfl, rfl, rfl, rfl, rfl, rfl, rfl, rfl, rfl, rfl, trivial⟩
    refine .seq (.sr (.ui rfl rfl rfl (.an rfl (.condD rfl (fun h125 => ?_) (fun h125 => ?_)))))
    ·refine .sk (.condD rfl (fun h125 => ?_) (fun h125 => ?_))
     ·refine .skip (.blk_n (.then_n ?_))
      exact .mk ((y22, ys22)) (alone_one hse2 (by omega) hy22 hys22 ⟨hc22, as22, cs22, hsub22⟩ hyk22 (by omega) hG2) ⟨rfl, rfl, rfl, rfl, rfl, rfl, rfl, rfl, rfl, rfl, rfl, rfl, rfl, rfl, rfl, rfl, rfl, rfl, rfl, rfl, rfl, rfl, rfl, rfl, trivial⟩
     refine .region (.q (.to (v' := .agg (ptC (⟨8, [], [], nilV, [], 0, 0, 110, nilV⟩ : Pt)).toArray) (.build (us := [(0, _), (6, _)]) fl_43 ze_43 rfl rfl (by simp [isCell])) rfl) rfl (.oq (.storeA rfl rfl ?c152 sz_43 ?c155 ?c153 (nfz0 _ _)) ?_))
     case c152 => exact pt_cells (y := (⟨8, [], [], nilV, [], 0, 0, 110, nilV⟩ : Pt)) rfl rfl
     case c155 => rfl
     case c153 => simp [ptC]
     rintro v L' rfl
     refine .nil (.ptCast (b := b18) (l' := ptC (⟨8, [], [], nilV, [], 0, 0, 110, nilV⟩ : Pt)) (by repeat' constructor) (by exact rfl) (.add (slR_nil 85 2) (.add (slR_nil 43 8) (.add (p := bigR aclR []) (fun h => big_nil h) (.fold (p := entR ⟨300, 0, 0, (⟨8, [], [], nilV, [], 0, 0, 110, nilV⟩ : Pt), ([] : List Pt)⟩) (q := [aclR (⟨8, [], [], nilV, [], 0, 0, 110, nilV⟩ : Pt), slR 43 8 (⟨8, [], [], nilV, [], 0, 0, 110, nilV⟩ : Pt).subsV ([] : List Pt).length (([] : List Pt).flatMap ptC), bigR aclR ([] : List Pt)]) (by repeat' constructor) (fun _ h => h) (.blk_n (.then_n ?_)))))))
     exact .mk (((⟨8, [], [], nilV, [], 0, 0, 110, nilV⟩ : Pt), [])) (alone_other ⟨by omega, by omega, by omega, by omega, by omega⟩) ⟨rfl, rfl, rfl, rfl, rfl, rfl, rfl, rfl, rfl, rfl, rfl, rfl, rfl, rfl, rfl, rfl, rfl, rfl, rfl, rfl, rfl, rfl, rfl, rfl, trivial⟩
    refine .sr (.ui rfl rfl rfl (.an rfl (.condD rfl (fun h125 => ?_) (fun h125 => ?_))))
    ·refine .sk (.condD rfl (fun h125 => ?_) (fun h125 => ?_))
     ·refine .skip (.blk_n (.then_n ?_))
      exact .mk ((y22, ys22)) (alone_one hse2 (by omega) hy22 hys22 ⟨hc22, as22, cs22, hsub22⟩ hyk22 (by omega) hG2) ⟨rfl, rfl, rfl, rfl, rfl, rfl, rfl, rfl, rfl, rfl, rfl, rfl, rfl, rfl, rfl, rfl, rfl, rfl, rfl, rfl, rfl, rfl, rfl, rfl, trivial⟩
     refine .region (.q (.to (v' := .agg (ptC (⟨8, [], [], nilV, [], 0, 0, 110, nilV⟩ : Pt)).toArray) (.build (us := [(0, _), (6, _)]) fl_43 ze_43 rfl rfl (by simp [isCell])) rfl) rfl (.oq (.storeA rfl rfl ?c159 sz_43 ?c162 ?c160 (nfz0 _ _)) ?_))
     case c159 => exact pt_cells (y := (⟨8, [], [], nilV, [], 0, 0, 110, nilV⟩ : Pt)) rfl rfl
     case c162 => rfl
     case c160 => simp [ptC]
     rintro v L' rfl
     refine .nil (.ptCast (b := b18) (l' := ptC (⟨8, [], [], nilV, [], 0, 0, 110, nilV⟩ : Pt)) (by repeat' constructor) (by exact rfl) (.add (slR_nil 85 2) (.add (slR_nil 43 8) (.add (p := bigR aclR []) (fun h => big_nil h) (.fold (p := entR ⟨300, 0, 0, (⟨8, [], [], nilV, [], 0, 0, 110, nilV⟩ : Pt), ([] : List Pt)⟩) (q := [aclR (⟨8, [], [], nilV, [], 0, 0, 110, nilV⟩ : Pt), slR 43 8 (⟨8, [], [], nilV, [], 0, 0, 110, nilV⟩ : Pt).subsV ([] : List Pt).length (([] : List Pt).flatMap ptC), bigR aclR ([] : List Pt)]) (by repeat' constructor) (fun _ h => h) (.blk_n (.then_n ?_)))))))
     exact .mk (((⟨8, [], [], nilV, [], 0, 0, 110, nilV⟩ : Pt), [])) (alone_other ⟨by omega, by omega, by omega, by omega, by omega⟩) ⟨rfl, rfl, rfl, rfl, rfl, rfl, rfl, rfl, rfl, rfl, rfl, rfl, rfl, rfl, rfl, rfl, rfl, rfl, rfl, rfl, rfl, rfl, rfl, rfl, trivial⟩
    refine .sr (.ui rfl rfl rfl (.an rfl (.condD rfl (fun h125 => ?_) (fun h125 => ?_))))
    ·refine .sk (.condD rfl (fun h125 => ?_) (fun h125 => ?_))
     ·refine .skip (.blk_n (.then_n ?_))
      exact .mk ((y22, ys22)) (alone_one hse2 (by omega) hy22 hys22 ⟨hc22, as22, cs22, hsub22⟩ hyk22 (by omega) hG2) ⟨rfl, rfl, rfl, rfl, rfl, rfl, rfl, rfl, rfl, rfl, rfl, rfl, rfl, rfl, rfl, rfl, rfl, rfl, rfl, rfl, rfl, rfl, rfl, rfl, trivial⟩
     refine .region (.q (.to (v' := .agg (ptC (⟨8, [], [], nilV, [], 0, 0, 110, nilV⟩ : Pt)).toArray) (.build (us := [(0, _), (6, _)]) fl_43 ze_43 rfl rfl (by simp [isCell])) rfl) rfl (.oq (.storeA rfl rfl ?c166 sz_43 ?c169 ?c167 (nfz0 _ _)) ?_))
     case c166 => exact pt_cells (y := (⟨8, [], [], nilV, [], 0, 0, 110, nilV⟩ : Pt)) rfl rfl
     case c169 => rfl
     case c167 => simp [ptC]
     rintro v L' rfl
     refine .nil (.ptCast (b := b18) (l' := ptC (⟨8, [], [], nilV, [], 0, 0, 110, nilV⟩ : Pt)) (by repeat' constructor) (by exact rfl) (.add (slR_nil 85 2) (.add (slR_nil 43 8) (.add (p := bigR aclR []) (fun h => big_nil h) (.fold (p := entR ⟨300, 0, 0, (⟨8, [], [], nilV, [], 0, 0, 110, nilV⟩ : Pt), ([] : List Pt)⟩) (q := [aclR (⟨8, [], [], nilV, [], 0, 0, 110, nilV⟩ : Pt), slR 43 8 (⟨8, [], [], nilV, [], 0, 0, 110, nilV⟩ : Pt).subsV ([] : List Pt).length (([] : List Pt).flatMap ptC), bigR aclR ([] : List Pt)]) (by repeat' constructor) (fun _ h => h) (.blk_n (.then_n ?_)))))))
     exact .mk (((⟨8, [], [], nilV, [], 0, 0, 110, nilV⟩ : Pt), [])) (alone_other ⟨by omega, by omega, by omega, by omega, by omega⟩) ⟨rfl, rfl, rfl, rfl, rfl, rfl, rfl, rfl, rfl, rfl, rfl, rfl, rfl, rfl, rfl, rfl, rfl, rfl, rfl, rfl, rfl, rfl, rfl, rfl, trivial⟩
    refine .region (.ui rfl rfl rfl (.an rfl (.condD rfl (fun h125 => ?_) (fun h125 => ?_))))
    ·refine .skip (.blk_n (.then_n ?_))
     exact .mk ((y22, ys22)) (alone_one hse2 (by omega) hy22 hys22 ⟨hc22, as22, cs22, hsub22⟩ hyk22 (by omega) hG2) ⟨rfl, rfl, rfl, rfl, rfl, rfl, rfl, rfl, rfl, rfl, rfl, rfl, rfl, rfl, rfl, rfl, rfl, rfl, rfl, rfl, rfl, rfl, rfl, rfl, trivial⟩
    refine .region (.q (.to (v' := .agg (ptC (⟨8, [], [], nilV, [], 0, 0, 110, nilV⟩ : Pt)).toArray) (.build (us := [(0, _), (6, _)]) fl_43 ze_43 rfl rfl (by simp [isCell])) rfl) rfl (.oq (.storeA rfl rfl ?c173 sz_43 ?c176 ?c174 (nfz0 _ _)) ?_))
    case c173 => exact pt_cells (y := (⟨8, [], [], nilV, [], 0, 0, 110, nilV⟩ : Pt)) rfl rfl
    case c176 => rfl
    case c174 => simp [ptC]
    rintro v L' rfl
    refine .nil (.ptCast (b := b18) (l' := ptC (⟨8, [], [], nilV, [], 0, 0, 110, nilV⟩ : Pt)) (by repeat' constructor) (by exact rfl) (.add (slR_nil 85 2) (.add (slR_nil 43 8) (.add (p := bigR aclR []) (fun h => big_nil h) (.fold (p := entR ⟨300, 0, 0, (⟨8, [], [], nilV, [], 0, 0, 110, nilV⟩ : Pt), ([] : List Pt)⟩) (q := [aclR (⟨8, [], [], nilV, [], 0, 0, 110, nilV⟩ : Pt), slR 43 8 (⟨8, [], [], nilV, [], 0, 0, 110, nilV⟩ : Pt).subsV ([] : List Pt).length (([] : List Pt).flatMap ptC), bigR aclR ([] : List Pt)]) (by repeat' constructor) (fun _ h => h) (.blk_n (.then_n ?_)))))))
    exact .mk (((⟨8, [], [], nilV, [], 0, 0, 110, nilV⟩ : Pt), [])) (alone_other ⟨by omega, by omega, by omega, by omega, by omega⟩) ⟨rfl, rfl, rfl, rfl, rfl, rfl, rfl, rfl, rfl, rfl, rfl, rfl, rfl, rfl, rfl, rfl, rfl, rfl, rfl, rfl, rfl, rfl, rfl, rfl, trivial⟩
   rintro ⟨y, ys⟩ hAl
   dsimp only
   dsimp only at hAl
   refine .seq (.sr (.u (.fieldAddr rfl fo_43_0) (.u (.ld rfl ag_3) (.ui rfl rfl rfl (.nt (.condD rfl (fun h132 => ?_) (fun h132 => ?_)))))))
   ·have hne := hAl.kind.1 h132
    have hst := hTI.stop hj2 hne hl8
    rw [hst] at hy12
    refine .sr (.u (.fieldAddr rfl fo_43_0) (.u (.ld rfl ag_3) (.q (.as (v' := .bool true) (by exact congrArg Value.bool (decide_eq_true (congrArg Pt.kind hy12))) (.int rfl rfl rfl)) rfl (.m rfl (.grun (t := 136) rfl rfl rfl (.u (.fieldAddr rfl fo_43_5) (.grun (t := 136) rfl rfl rfl (.u (.ld rfl ag_3) (.grun (t := 136) rfl rfl rfl (.m rfl (.grun (t := 136) rfl rfl rfl (.q (.as (v' := .bool true) (by exact congrArg Value.bool (decide_eq_true (congrArg Pt.num hy12))) (.int rfl rfl rfl)) rfl (.u (.pickT rfl rfl) (.m rfl (.grun (t := 142) rfl rfl rfl (.u (.fieldAddr rfl fo_43_6) (.grun (t := 142) rfl rfl rfl (.u (.ld rfl ag_40) (.grun (t := 142) rfl rfl rfl (.u (.fieldAddr rfl fo_43_6) (.grun (t := 142) rfl rfl rfl (.u (.ld rfl ag_40) (.grun (t := 142) rfl rfl rfl (.q (.as (v' := .bool true) (by exact congrArg Value.bool (decide_eq_true ((congrArg Pt.err hy12).trans (hAl.no hne).2.symm))) (.int rfl rfl rfl)) rfl ?_))))))))))))))))))))))))
    refine .u (.pickT rfl rfl) (.an rfl (.rt (.blk_r (.then_r (.then_r (.blk_r (.then_r ?_)))))))
    exact .vv
   have h0 : (partP υ (⟨sesK s0, ids⟩ : Who) subs[j]).2 = 0 := Decidable.byContradiction fun g => h132 (hAl.kind.2 g)
   obtain ⟨N2, hN2, hG4⟩ := hAl.few
   have hTx2 := hG4.tx hN2 300 0 0 ⟨hAl.acl, hAl.sub⟩ hAl.each
   have hok3 := hG4.ok hok2 300
   have hw3 := hG4.w hw2 (z := 300) ⟨by decide, by decide⟩
   refine .sk (.region (.m rfl (.q (.to (v' := .agg (ptC y).toArray) (.loadA rfl ag_43 (by repeat' constructor) (by simp [ptC])) (by rfl)) rfl (.q (.to (v' := .agg (enC (⟨300, 0, 0, y, ys⟩ : En)).toArray) (.buildN (pl := [(0, 1), (1, 1), (2, 1), (3, 8)]) (us := [(0, vint (⟨300, 0, 0, y, ys⟩ : En).zx), (3, .agg (ptC (⟨300, 0, 0, y, ys⟩ : En).x).toArray)]) (cells := enC (⟨300, 0, 0, y, ys⟩ : En)) Tryz.underlying54 (by kernel_rfl) ze_54 rfl (fill_e03 _ _ _ _ _ _ _ _ _)) rfl) rfl (.oq (.c Tryz.func33 [_, _] (trapply_spec o2 υ 300 0 0 y ys (entR (⟨300, 0, 0, y, ys⟩ : En)) hTx2 (920 + 9 * j) hok2 (by have := hTx2.few; omega))) ?_)))))
   rintro v L' ⟨u35, e35, rfl, -, ⟨a35, c35, rfl⟩, rfl⟩
   refine .nil (.blk_n (.then_n (.region (.m rfl (.q (.add rfl rfl (by omega)) rfl (.an rfl ?_))))))
   rw [hAl.take h0 300]
   exact .rk ((j + 1, (applyZ σ σ.zx (partP υ (⟨sesK s0, ids⟩ : Who) subs[j]).1 []).1, (applyZ υ 300 (partP υ (⟨sesK s0, ids⟩ : Who) subs[j]).1 []).1, xs ++ [(partP υ (⟨sesK s0, ids⟩ : Who) subs[j]).1])) (⟨by dsimp only; omega, hTI.step hj2 h0, by have := hok3; rw [hAl.take h0 300] at this; exact this.more (by dsimp only; omega), by have := hw3; rw [hAl.take h0 300] at this; exact this, (ses_part υ 300 (part_plain υ (⟨sesK s0, ids⟩ : Who) subs[j]) [] _).2 hse2⟩) (by dsimp only; omega) ⟨rfl, rfl, rfl, rfl, rfl, rfl, rfl, trivial⟩
  have hje : j = subs.length := by omega
  subst hje
  have hdn := hTI.done hl8
  rw [hdn.1] at hy12 hys12
  have hxl : ys12.length = subs.length := by have h := hTI.at_.2.2; rw [← List.length_map (f := Pt.pl), hys12]; exact h
  have hsame : (applyZ σ0 300 y12 ys12).1 = zxT υ 300 := by rw [hdn.2, hdn.1, ← apply_plm, hy12, hys12]
  refine .exit (.then_e (.then_e (.blk_e (.then_n (.sm rfl (.cv Tryz.func35 [_, _] (trlayzx_spec o2 υ 300) ?_))))))
  refine .nt (.sr (.u (.fieldAddr rfl fo_43_0) (.u (.ld rfl ag_3) (.q (.as (v' := .bool true) (by exact congrArg Value.bool (decide_eq_true (congrArg Pt.kind hy12))) (.int rfl rfl rfl)) rfl (.m rfl (.grun (t := 158) rfl rfl rfl (.u (.fieldAddr rfl fo_43_7) (.grun (t := 158) rfl rfl rfl (.q (.to (v' := .slice as12 ys12.length cs12) (.load rfl ag_41 (by repeat' constructor) (by rfl)) hsub12) rfl (.grun (t := 158) rfl rfl rfl (.q (.slen rfl Tryz.underlying41 rfl) rfl (.grun (t := 158) rfl rfl rfl (.u (.fieldAddr rfl fo_28_8) (.grun (t := 158) rfl rfl rfl (.q (.to (v' := .slice _ subs.length cr) (.load rfl ag_25 (by repeat' constructor) (by rfl)) hsv) rfl (.grun (t := 158) rfl rfl rfl (.q (.slen rfl Tryz.underlying25 rfl) rfl (.grun (t := 158) rfl rfl rfl (.q (.as (v' := .bool true) (by exact congrArg Value.bool (decide_eq_true (by rw [hxl]))) (.int rfl rfl rfl)) rfl (.u (.pickT rfl rfl) (.m rfl (.grun (t := 167) rfl rfl rfl (.m rfl (.grun (t := 167) rfl rfl rfl (.m rfl (.grun (t := 167) rfl rfl rfl ?_))))))))))))))))))))))))))
  refine .oq (.c Tryz.func36 [_, _] (trsame_spec o1 o2 (applyZ σ0 300 y12 ys12).1 (zxT υ 300) _ _ (hG0.ok hok1 300) (hok2.zx 300))) ?_
  rintro v L' ⟨rfl, rfl⟩; rw [decide_eq_true hsame]
  refine .u (.pickT rfl rfl) (.an rfl (.ret ?_))
  exact .vv
 refine .kDF (t := 30) rfl h6_31 (.gk (.gk (.u (.pickF rfl rfl) (.nt (.condF rfl (.exit (.then_e (.then_e (.blk_e (.then_n (.sm rfl (.cv Tryz.func12 [_, _] (pick12_spec s0 5 hs0 (by decide)) ?_))))))))))))
 refine .q (.to (v' := vint (sesK s0)) (.add rfl rfl (by omega)) rfl) rfl (.an rfl (.sm rfl (.m rfl (.q (.to (v' := .agg (ptC (openP (sesK s0))).toArray) (.build (us := [(0, _), (4, _), (5, _)]) fl_43 ze_43 rfl rfl (by simp [isCell])) rfl) rfl (.q (.to (v' := .agg (enC (⟨200, 0, 0, openP (sesK s0), []⟩ : En)).toArray) (.buildN (pl := [(0, 1), (1, 1), (2, 1), (3, 8)]) (us := [(0, vint (⟨200, 0, 0, openP (sesK s0), []⟩ : En).zx), (3, .agg (ptC (⟨200, 0, 0, openP (sesK s0), []⟩ : En).x).toArray)]) (cells := enC (⟨200, 0, 0, openP (sesK s0), []⟩ : En)) Tryz.underlying54 (by kernel_rfl) ze_54 rfl (fill_e03 _ _ _ _ _ _ _ _ _)) rfl) rfl (.oq (.call Tryz.func33 rfl rfl (vs := [_, _]) rfl (trapply_spec t τ 200 0 0 (openP (sesK s0)) [] q (openP_tx q _) (1 + 9 * i) hok (by show 1 + 9 * i + 0 ≤ _; omega))) ?_))))))
 rintro v L' ⟨ue, ee, rfl, -, ⟨ae, ce, rfl⟩, rfl⟩
 refine .nil ?_
 have hs0i := sesK_i s0
 have hok1 : (applyZ τ 200 (openP (sesK s0)) []).1.Ok 920 := ((openP_T hs0i 0).ok hok 200).more (by omega)
 have hw1 : TrW (applyZ τ 200 (openP (sesK s0)) []).1 := (openP_T hs0i 0).w hw ⟨by decide, by decide⟩
 have hse : sesT (applyZ τ 200 (openP (sesK s0)) []).1 (sesK s0) := ses_open τ 200 (by omega)
 have h6 : I64 6 := ⟨by decide, by decide⟩
 have hD6 := hD.K h6
 revert hok1 hw1 hse
 generalize (applyZ τ 200 (openP (sesK s0)) []).1 = σ0
 intro hok1 hw1 hse
 refine .then_n (.sr (.u (.fieldAddr rfl fo_28_0) (.oq (.store rfl rfl rfl sz_3 ?c228 (nfz0 _ _)) ?_)))
 case c228 => simp [rqC]
 rintro v L' rfl
 refine .nil (.ptCast (b := b7) (l' := rqC (withK r 6)) (by repeat' constructor) (by exact rfl) (.then_n (.sm rfl (.m rfl (.m rfl (.q (.to (v' := .agg (rqC (withK r 6)).toArray) (.loadA rfl ag_28 (by repeat' constructor) (by simp [rqC])) (by rfl)) rfl (.oq (.c Tryz.func14 [_, _, _, _] (ptxnA_spec t σ0 (⟨sesK s0, ids⟩ : Who) iv (withK r 6) q hD6.w (920) hok1 (by omega) hw1 (by omega) subs hD6.rd hD6.each hD6.acls (by omega))) ?_)))))))
 rintro v L' ⟨y12, ys12, rfl, hy12, hys12, ⟨hc12, as12, cs12, hsub12⟩, hyk12, rfl⟩
 refine .oq (.allocA ze_43) ?_
 rintro v L' ⟨b13, rfl, rfl⟩
 refine .oq (.storeA rfl rfl ?c238 sz_43 ?c241 ?c239 (nfz0 _ _)) ?_
 case c238 => exact pt_cells hc12 (by rw [hsub12]; rfl)
 case c241 => rfl
 case c239 => simp [ptC]
 rintro v L' rfl
 refine .nil (.ptCast (b := b13) (l' := ptC y12) (by repeat' constructor) (by exact rfl) (.fold (p := entR ⟨300, 0, 0, y12, ys12⟩) (q := [aclR y12, slR 43 8 y12.subsV ys12.length (ys12.flatMap ptC), bigR aclR ys12]) (by repeat' constructor) (fun _ h => h) ?_))
 have hG0 : TxnG 920 y12 ys12 := (txn_G hok1 hD6).of hy12 hys12
 have hT0 : txnP σ0 (⟨sesK s0, ids⟩ : Who) (withK r 6) subs = multiP σ0 (⟨sesK s0, ids⟩ : Who) subs := txn_multi hse rfl subs
 rw [hT0] at hy12 hys12
 have hTx0 := hG0.tx (by omega) 300 0 0 ⟨hc12, as12, cs12, hsub12⟩ hyk12
 have hsv : (withK r 6).subsV = .slice ar subs.length cr := hsv
 refine .then_n (.seq (.sr (.u (.fieldAddr rfl fo_28_8) (.q (.to (v' := .slice _ subs.length cr) (.load rfl ag_25 (by repeat' constructor) (by rfl)) hsv) rfl (.q (.slen rfl Tryz.underlying25 rfl) rfl (.ui rfl rfl rfl (.m rfl (.dec (t := 65) rfl (fun h13_65 => ?_) (fun h13_65 => ?_)))))))))
 ·refine .kDT (t := 64) rfl h13_65 (.gk (.gk (.gk (.gk (.u (.pickT rfl rfl) (.nt (.condT rfl (.seq ?_))))))))
  have hm : multiP σ0 (⟨sesK s0, ids⟩ : Who) subs = (refusal 1 (-1), []) := by unfold multiP; rw [if_pos (by omega)]
  rw [hm] at hy12
  refine .region (.u (.fieldAddr rfl fo_43_0) (.u (.ld rfl ag_3) (.q (.as (v' := .bool true) (by exact congrArg Value.bool (decide_eq_true (congrArg Pt.kind hy12))) (.int rfl rfl rfl)) rfl (.m rfl (.grun (t := 74) rfl rfl rfl (.u (.fieldAddr rfl fo_43_6) (.grun (t := 74) rfl rfl rfl (.u (.ld rfl ag_40) (.grun (t := 74) rfl rfl rfl (.q (.as (v' := .bool true) (by exact congrArg Value.bool (decide_eq_true (congrArg Pt.err hy12))) (.int rfl rfl rfl)) rfl (.u (.pickT rfl rfl) (.m rfl (.grun (t := 79) rfl rfl rfl (.u (.fieldAddr rfl fo_43_5) (.grun (t := 79) rfl rfl rfl (.u (.ld rfl ag_3) (.grun (t := 79) rfl rfl rfl (.q (.as (v' := .bool true) (by exact congrArg Value.bool (decide_eq_true (congrArg Pt.num hy12))) (.int rfl rfl rfl)) rfl (.u (.pickT rfl rfl) (.an rfl (.rt ?_)))))))))))))))))))))
  exact .vv
 refine .kDF (t := 64) rfl h13_65 (.grun (t := 65) rfl rfl rfl (.u (.fieldAddr rfl fo_28_8) (.grun (t := 65) rfl rfl rfl (.q (.to (v' := .slice _ subs.length cr) (.load rfl ag_25 (by repeat' constructor) (by rfl)) hsv) rfl (.grun (t := 65) rfl rfl rfl (.q (.slen rfl Tryz.underlying25 rfl) rfl (.grun (t := 65) rfl rfl rfl (.ui rfl rfl rfl (.u (.pickF rfl rfl) (.nt (.condD rfl (fun h70 => ?_) (fun h70 => ?_))))))))))))
 ·refine .seq ?_
  have hm : multiP σ0 (⟨sesK s0, ids⟩ : Who) subs = (refusal 1 (-1), []) := by unfold multiP; rw [if_pos (by omega)]
  rw [hm] at hy12
  refine .region (.u (.fieldAddr rfl fo_43_0) (.u (.ld rfl ag_3) (.q (.as (v' := .bool true) (by exact congrArg Value.bool (decide_eq_true (congrArg Pt.kind hy12))) (.int rfl rfl rfl)) rfl (.m rfl (.grun (t := 74) rfl rfl rfl (.u (.fieldAddr rfl fo_43_6) (.grun (t := 74) rfl rfl rfl (.u (.ld rfl ag_40) (.grun (t := 74) rfl rfl rfl (.q (.as (v' := .bool true) (by exact congrArg Value.bool (decide_eq_true (congrArg Pt.err hy12))) (.int rfl rfl rfl)) rfl (.u (.pickT rfl rfl) (.m rfl (.grun (t := 79) rfl rfl rfl (.u (.fieldAddr rfl fo_43_5) (.grun (t := 79) rfl rfl rfl (.u (.ld rfl ag_3) (.grun (t := 79) rfl rfl rfl (.q (.as (v' := .bool true) (by exact congrArg Value.bool (decide_eq_true (congrArg Pt.num hy12))) (.int rfl rfl rfl)) rfl (.u (.pickT rfl rfl) (.an rfl (.rt ?_)))))))))))))))))))))
  exact .vv
 refine .sk (.seq ?_)
 have hl8 : ¬ (subs.length = 0 ∨ subs.length > 8) := by omega
 refine .region (.m rfl (.oq (.c Tryz.func32 [_] (trclone_spec t σ0 920 hok1 (by decide))) ?_))
 rintro v L' ⟨o1, rfl, rfl⟩
 refine .an rfl (.sm rfl (.q (.to (v' := .agg (ptC y12).toArray) (.loadA rfl ag_43 (by repeat' constructor) (by simp [ptC])) (by rfl)) rfl (.q (.to (v' := .agg (enC (⟨300, 0, 0, y12, ys12⟩ : En)).toArray) (.buildN (pl := [(0, 1), (1, 1), (2, 1), (3, 8)]) (us := [(0, vint (⟨300, 0, 0, y12, ys12⟩ : En).zx), (3, .agg (ptC (⟨300, 0, 0, y12, ys12⟩ : En).x).toArray)]) (cells := enC (⟨300, 0, 0, y12, ys12⟩ : En)) Tryz.underlying54 (by kernel_rfl) ze_54 rfl (fill_e03 _ _ _ _ _ _ _ _ _)) rfl) rfl (.oq (.c Tryz.func33 [_, _] (trapply_spec o1 σ0 300 0 0 y12 ys12 (entR (⟨300, 0, 0, y12, ys12⟩ : En)) hTx0 920 hok1 (by have := hTx0.few; omega))) ?_))))
 rintro v L' ⟨u16, e16, rfl, -, ⟨a16, c16, rfl⟩, rfl⟩
 refine .nt (.sm rfl (.oq (.c Tryz.func32 [_] (trclone_spec t σ0 920 hok1 (by decide))) ?_))
 rintro v L' ⟨o2, rfl, rfl⟩
 refine .an rfl (.seq (.sr (.an rfl (.block (.loopK (ι := Nat × Tr × Tr × (List Pt)) (fun q E => (16, vint q.1) :: E) (fun q => [treeR o2 q.2.2.1]) (fun q => q.1 ≤ subs.length ∧ TwoI (⟨sesK s0, ids⟩ : Who) subs σ0 q.1 q.2.1 q.2.2.1 q.2.2.2 ∧ q.2.2.1.Ok (920 + 9 * q.1) ∧ TrW q.2.2.1 ∧ sesT q.2.2.1 (sesK s0)) (fun q => subs.length - q.1) (0, σ0, σ0, []) (ts := [2, 7, 12, 13, 14, 15]) (.cons rfl (.cons rfl (.cons rfl (.cons rfl (.cons rfl (.cons rfl (.nil))))))) (⟨Nat.zero_le _, TwoI.zero _ _ _, hok1, hw1, hse⟩) ⟨rfl, rfl, rfl, rfl, rfl, rfl, rfl, trivial⟩ (by repeat' constructor) ?_)))))
 rintro ⟨j, σ, υ, xs⟩ ⟨hj, hTI, hok2, hw2, hse2⟩
 dsimp only
 dsimp only at hj hTI hok2 hw2 hse2
 refine .seq (.sm rfl (.u (.fieldAddr rfl fo_28_8) (.q (.to (v' := .slice _ subs.length cr) (.load rfl ag_25 (by repeat' constructor) (by rfl)) hsv) rfl (.q (.slen rfl Tryz.underlying25 rfl) rfl (.ui rfl rfl rfl (.nt (.condD rfl (fun h96 => ?_) (fun h96 => ?_))))))))
 ·have hj2 : j < subs.length := by omega
  have hj8 : j < 8 := by omega
  obtain ⟨ks, hDk⟩ := hK _ (List.getElem_mem hj2)
  refine .rdShape (p := q) hrd (by repeat' constructor) (by omega) fun bk ok ee => ?_
  subst ee
  refine .sk (.seq (.block (.sr (.u (.fieldAddr rfl fo_28_8) (.q (.to (v' := .slice _ subs.length cr) (.load rfl ag_25 (by repeat' constructor) (by rfl)) hsv) rfl (.m rfl (.q (.indexAddr rfl rfl el_25 (by omega)) rfl (.q (.loadRdA (sz := 10) (j := j * 10) (k := 10) (p := q) (vs := rqC subs[j]) rfl ag_28 (by repeat' constructor) hrd (by simp) (by omega) (by omega) (flatMap_at (f := rqC) (sz := 10) (fun _ _ => rfl) (by omega))) rfl (.oq (.allocA ze_28) ?_)))))))))
  rintro v L' ⟨b17, rfl, rfl⟩
  refine .oq (.storeA rfl rfl ?c293 sz_28 ?c296 ?c294 (nfz0 _ _)) ?_
  case c293 => exact hDk.w.rqcells
  case c296 => rfl
  case c294 => simp [rqC]
  rintro v L' rfl
  refine .nil (.ptCast (b := b17) (l' := rqC subs[j]) (by repeat' constructor) (by exact rfl) (.then_n (.sm rfl (.m rfl (.m rfl (.q (.to (v' := .agg (rqC subs[j]).toArray) (.loadA rfl ag_28 (by repeat' constructor) (by simp [rqC])) (by rfl)) rfl (.oq (.c Tryz.func14 [_, _, _, _] (ptxnA_spec o2 υ (⟨sesK s0, ids⟩ : Who) iv subs[j] q hDk.w (920 + 9 * j) hok2 (by omega) hw2 (by omega) ks hDk.rd hDk.each hDk.acls (by omega))) ?_)))))))
  rintro v L' ⟨y22, ys22, rfl, hy22, hys22, ⟨hc22, as22, cs22, hsub22⟩, hyk22, rfl⟩
  refine .oq (.allocA ze_43) ?_
  rintro v L' ⟨b18, rfl, rfl⟩
  refine .oq (.storeA rfl rfl ?c306 sz_43 ?c309 ?c307 (nfz0 _ _)) ?_
  case c306 => exact pt_cells hc22 (by rw [hsub22]; rfl)
  case c309 => rfl
  case c307 => simp [ptC]
  rintro v L' rfl
  refine .nil (.ptCast (b := b18) (l' := ptC y22) (by repeat' constructor) (by exact rfl) (.fold (p := entR ⟨300, 0, 0, y22, ys22⟩) (q := [aclR y22, slR 43 8 y22.subsV ys22.length (ys22.flatMap ptC), bigR aclR ys22]) (by repeat' constructor) (fun _ h => h) ?_))
  have hG2 : TxnG (920 + 9 * j) y22 ys22 := (txn_G hok2 hDk).of hy22 hys22
  refine .then_n (.seq (.joinK (ι := Pt × (List Pt)) (fun q E => E) (fun q => [ptc b18 (ptC q.1) 43, entR ⟨300, 0, 0, q.1, q.2⟩]) (fun q => AloneA υ (⟨sesK s0, ids⟩ : Who) subs[j] q.1 q.2) (pre := [ptc b18 _ _, entR ⟨300, 0, 0, y22, ys22⟩]) (ts := [2, 7, 12, 13, 14, 15, 16, 17, 18, 92, 93, 94, 95, 96, 99, 100, 101, 102, 103, 104, 105, 106, 107, 108]) (.cons rfl (.cons rfl (.cons rfl (.cons rfl (.cons rfl (.cons rfl (.cons rfl (.cons rfl (.cons rfl (.cons rfl (.cons rfl (.cons rfl (.cons rfl (.cons rfl (.cons rfl (.cons rfl (.cons rfl (.cons rfl (.cons rfl (.cons rfl (.cons rfl (.cons rfl (.cons rfl (.cons rfl (.nil))))))))))))))))))))))))) (by repeat' constructor) ?_ ?_))
  ·refine .sr (.u (.fieldAddr rfl fo_28_0) (.u (.ld rfl ag_3) (.nt (.block (.sr (.ui rfl rfl rfl (.an rfl (.condD rfl (fun h112 => ?_) (fun h112 => ?_)))))))))
   ·refine .sm rfl (.m rfl (.m rfl (.q (.to (v' := .agg (rqC subs[j]).toArray) (.loadA rfl ag_28 (by repeat' constructor) (by simp [rqC])) (by rfl)) rfl (.oq (.buildSlice (vs := [_]) el_25 ze_28 rfl rfl rfl rfl (by first | (simp [Value.cells]; done) | (intro v hv; simp only [List.mem_cons, List.not_mem_nil, or_false] at hv; (repeat (first | (subst hv; rfl) | (rcases hv with hv | hv; (subst hv; rfl)))))) (by decide)) ?_))))
    rintro v L' ⟨bs, rfl, rfl⟩
    refine .slMakeN 10 1 (b := bs) (xs := [subs[j]].flatMap rqC) (by repeat' constructor) rfl rfl (.fold (p := (sep [slR 28 10 (.slice (some ⟨bs, 0, none⟩) 1 1) 1 ([subs[j]].flatMap rqC), q])) (q := [slR 28 10 (.slice (some ⟨bs, 0, none⟩) 1 1) 1 ([subs[j]].flatMap rqC), q]) (by repeat' constructor) (fun _ h => h) ?_)
    have hD1 := wi_multi (a := slR 28 10 (.slice (some ⟨bs, 0, none⟩) 1 1) 1 ([subs[j]].flatMap rqC)) hDk ⟨some ⟨bs, 0, none⟩, 1, 1, rfl⟩ (fun _ => slR_rd)
    refine .q (.to (v' := .agg (rqC (⟨6, 0, [], [], nilV, [], 0, 0, false, .slice (some ⟨bs, 0, none⟩) 1 1, nilV⟩ : Rq)).toArray) (.build (us := [(0, _), (8, _)]) fl_28 ze_28 rfl rfl (by simp [isCell])) rfl) rfl (.oq (.c Tryz.func14 [_, _, _, _] (ptxnA_spec o2 υ (⟨sesK s0, ids⟩ : Who) iv (⟨6, 0, [], [], nilV, [], 0, 0, false, .slice (some ⟨bs, 0, none⟩) 1 1, nilV⟩ : Rq) (sep [slR 28 10 (.slice (some ⟨bs, 0, none⟩) 1 1) 1 ([subs[j]].flatMap rqC), q]) hD1.w (920 + 9 * j) hok2 (by omega) hw2 (by omega) [subs[j]] hD1.rd hD1.each hD1.acls (by omega))) ?_)
    rintro v L' ⟨y26, ys26, rfl, hy26, hys26, ⟨hc26, as26, cs26, hsub26⟩, hyk26, rfl⟩
    refine .oq (.storeA rfl rfl ?c323 sz_43 ?c326 ?c324 (nfz0 _ _)) ?_
    case c323 => exact pt_cells hc26 (by rw [hsub26]; rfl)
    case c326 => rfl
    case c324 => simp [ptC]
    rintro v L' rfl
    refine .nil (.ptCast (b := b18) (l' := ptC y26) (by repeat' constructor) (by exact rfl) (.fold (p := entR ⟨300, 0, 0, y26, ys26⟩) (q := [aclR y26, slR 43 8 y26.subsV ys26.length (ys26.flatMap ptC), bigR aclR ys26]) (by repeat' constructor) (fun _ h => h) (.focus (p := (sep [slR 28 10 (.slice (some ⟨bs, 0, none⟩) 1 1) 1 ([subs[j]].flatMap rqC), q])) (by repeat' constructor) (.unfold (q := [slR 28 10 (.slice (some ⟨bs, 0, none⟩) 1 1) 1 ([subs[j]].flatMap rqC), q]) (fun _ h => h) ?_))))
    have hT1 : txnP υ (⟨sesK s0, ids⟩ : Who) (⟨6, 0, [], [], nilV, [], 0, 0, false, .slice (some ⟨bs, 0, none⟩) 1 1, nilV⟩ : Rq) [subs[j]] = multiP υ (⟨sesK s0, ids⟩ : Who) [subs[j]] := txn_multi hse2 rfl _
    have hG3 : TxnG (920 + 9 * j) y26 ys26 := (txn_G hok2 hD1).of hy26 hys26
    rw [hT1, multi_one] at hy26 hys26
    refine .then_n (.sr (.u (.fieldAddr rfl fo_43_0) (.u (.ld rfl ag_3) (.ui rfl rfl rfl (.nt (.condD rfl (fun h123 => ?_) (fun h123 => ?_)))))))
    ·refine .region (.q (.to (v' := .agg (ptC noopX).toArray) (.build (us := []) fl_43 ze_43 rfl rfl (by simp [isCell])) rfl) rfl (.oq (.storeA rfl rfl ?c332 sz_43 ?c335 ?c333 (nfz0 _ _)) ?_))
     case c332 => exact pt_cells (y := noopX) rfl rfl
     case c335 => rfl
     case c333 => simp [ptC]
     rintro v L' rfl
     refine .nil (.ptCast (b := b18) (l' := ptC noopX) (by repeat' constructor) (by exact rfl) (.add (slR_nil 85 2) (.add (slR_nil 43 8) (.add (p := bigR aclR []) (fun h => big_nil h) (.fold (p := entR ⟨300, 0, 0, noopX, ([] : List Pt)⟩) (q := [aclR noopX, slR 43 8 noopX.subsV ([] : List Pt).length (([] : List Pt).flatMap ptC), bigR aclR ([] : List Pt)]) (by repeat' constructor) (fun _ h => h) (.blk_n (.then_n ?_)))))))
     exact .mk ((noopX, [])) (alone_five hy26 h112 h123 (N := 920)) ⟨rfl, rfl, rfl, rfl, rfl, rfl, rfl, rfl, rfl, rfl, rfl, rfl, rfl, rfl, rfl, rfl, rfl, rfl, rfl, rfl, rfl, rfl, rfl, rfl, trivial⟩
    refine .skip (.blk_n (.then_n ?_))
    exact .mk ((y26, ys26)) (alone_ref hy26 hys26 h123 ⟨hc26, as26, cs26, hsub26⟩ hyk26 (by omega) hG3) ⟨rfl, rfl, rfl, rfl, rfl, rfl, rfl, rfl, rfl, rfl, rfl, rfl, rfl, rfl, rfl, rfl, rfl, rfl, rfl, rfl, rfl, rfl, rfl, rfl, trivial⟩
   refine .seq (.sr (.ui rfl rfl rfl (.an rfl (.condD rfl (fun h125 => ?_) (fun h125 => ?_)))))
   ·refine .sk (.condD rfl (fun h125 => ?_) (fun h125 => ?_))
    ·refine .skip (.blk_n (.then_n ?_))
     exact .mk ((y22, ys22)) (alone_one hse2 (by omega) hy22 hys22 ⟨hc22, as22, cs22, hsub22⟩ hyk22 (by omega) hG2) ⟨rfl, rfl, rfl, rfl, rfl, rfl, rfl, rfl, rfl, rfl, rfl, rfl, rfl, rfl, rfl, rfl, rfl, rfl, rfl, rfl, rfl, rfl, rfl, rfl, trivial⟩
    refine .region (.q (.to (v' := .agg (ptC (⟨8, [], [], nilV, [], 0, 0, 110, nilV⟩ : Pt)).toArray) (.build (us := [(0, _), (6, _)]) fl_43 ze_43 rfl rfl (by simp [isCell])) rfl) rfl (.oq (.storeA rfl rfl ?c339 sz_43 ?c342 ?c340 (nfz0 _ _)) ?_))
    case c339 => exact pt_cells (y := (⟨8, [], [], nilV, [], 0, 0, 110, nilV⟩ : Pt)) rfl rfl
    case c342 => rfl
    case c340 => simp [ptC]
    rintro v L' rfl
    refine .nil (.ptCast (b := b18) (l' := ptC (⟨8, [], [], nilV, [], 0, 0, 110, nilV⟩ : Pt)) (by repeat' constructor) (by exact rfl) (.add (slR_nil 85 2) (.add (slR_nil 43 8) (.add (p := bigR aclR []) (fun h => big_nil h) (.fold (p := entR ⟨300, 0, 0, (⟨8, [], [], nilV, [], 0, 0, 110, nilV⟩ : Pt), ([] : List Pt)⟩) (q := [aclR (⟨8, [], [], nilV, [], 0, 0, 110, nilV⟩ : Pt), slR 43 8 (⟨8, [], [], nilV, [], 0, 0, 110, nilV⟩ : Pt).subsV ([] : List Pt).length (([] : List Pt).flatMap ptC), bigR aclR ([] : List Pt)]) (by repeat' constructor) (fun _ h => h) (.blk_n (.then_n ?_)))))))
    exact .mk (((⟨8, [], [], nilV, [], 0, 0, 110, nilV⟩ : Pt), [])) (alone_other ⟨by omega, by omega, by omega, by omega, by omega⟩) ⟨rfl, rfl, rfl, rfl, rfl, rfl, rfl, rfl, rfl, rfl, rfl, rfl, rfl, rfl, rfl, rfl, rfl, rfl, rfl, rfl, rfl, rfl, rfl, rfl, trivial⟩
   refine .sr (.ui rfl rfl rfl (.an rfl (.condD rfl (fun h125 => ?_) (fun h125 => ?_))))
   ·refine .sk (.condD rfl (fun h125 => ?_) (fun h125 => ?_))
    ·refine .skip (.blk_n (.then_n ?_))
     exact .mk ((y22, ys22)) (alone_one hse2 (by omega) hy22 hys22 ⟨hc22, as22, cs22, hsub22⟩ hyk22 (by omega) hG2) ⟨rfl, rfl, rfl, rfl, rfl, rfl, rfl, rfl, rfl, rfl, rfl, rfl, rfl, rfl, rfl, rfl, rfl, rfl, rfl, rfl, rfl, rfl, rfl, rfl, trivial⟩
    refine .region (.q (.to (v' := .agg (ptC (⟨8, [], [], nilV, [], 0, 0, 110, nilV⟩ : Pt)).toArray) (.build (us := [(0, _), (6, _)]) fl_43 ze_43 rfl rfl (by simp [isCell])) rfl) rfl (.oq (.storeA rfl rfl ?c346 sz_43 ?c349 ?c347 (nfz0 _ _)) ?_))
    case c346 => exact pt_cells (y := (⟨8, [], [], nilV, [], 0, 0, 110, nilV⟩ : Pt)) rfl rfl
    case c349 => rfl
    case c347 => simp [ptC]
    rintro v L' rfl
    refine .nil (.ptCast (b := b18) (l' := ptC (⟨8, [], [], nilV, [], 0, 0, 110, nilV⟩ : Pt)) (by repeat' constructor) (by exact rfl) (.add (slR_nil 85 2) (.add (slR_nil 43 8) (.add (p := bigR aclR []) (fun h => big_nil h) (.fold (p := entR ⟨300, 0, 0, (⟨8, [], [], nilV, [], 0, 0, 110, nilV⟩ : Pt), ([] : List Pt)⟩) (q := [aclR (⟨8, [], [], nilV, [], 0, 0, 110, nilV⟩ : Pt), slR 43 8 (⟨8, [], [], nilV, [], 0, 0, 110, nilV⟩ : Pt).subsV ([] : List Pt).length (([] : List Pt).flatMap ptC), bigR aclR ([] : List Pt)]) (by repeat' constructor) (fun _ h => h) (.blk_n (.then_n ?_)))))))
    exact .mk (((⟨8, [], [], nilV, [], 0, 0, 110, nilV⟩ : Pt), [])) (alone_other ⟨by omega, by omega, by omega, by omega, by omega⟩) ⟨rfl, rfl, rfl, rfl, rfl, rfl, rfl, rfl, rfl, rfl, rfl, rfl, rfl, rfl, rfl, rfl, rfl, rfl, rfl, rfl, rfl, rfl, rfl, rfl, trivial⟩
   refine .sr (.ui rfl rfl rfl (.an rfl (.condD rfl (fun h125 => ?_) (fun h125 => ?_))))
   ·refine .sk (.condD rfl (fun h125 => ?_) (fun h125 => ?_))
    ·refine .skip (.blk_n (.then_n ?_))
     exact .mk ((y22, ys22)) (alone_one hse2 (by omega) hy22 hys22 ⟨hc22, as22, cs22, hsub22⟩ hyk22 (by omega) hG2) ⟨rfl, rfl, rfl, rfl, rfl, rfl, rfl, rfl, rfl, rfl, rfl, rfl, rfl, rfl, rfl, rfl, rfl, rfl, rfl, rfl, rfl, rfl, rfl, rfl, trivial⟩
    refine .region (.q (.to (v' := .agg (ptC (⟨8, [], [], nilV, [], 0, 0, 110, nilV⟩ : Pt)).toArray) (.build (us := [(0, _), (6, _)]) fl_43 ze_43 rfl rfl (by simp [isCell])) rfl) rfl (.oq (.storeA rfl rfl ?c353 sz_43 ?c356 ?c354 (nfz0 _ _)) ?_))
    case c353 => exact pt_cells (y := (⟨8, [], [], nilV, [], 0, 0, 110, nilV⟩ : Pt)) rfl rfl
    case c356 => rfl
    case c354 => simp [ptC]
    rintro v L' rfl
    refine .nil (.ptCast (b := b18) (l' := ptC (⟨8, [], [], nilV, [], 0, 0, 110, nilV⟩ : Pt)) (by repeat' constructor) (by exact rfl) (.add (slR_nil 85 2) (.add (slR_nil 43 8) (.add (p := bigR aclR []) (fun h => big_nil h) (.fold (p := entR ⟨300, 0, 0, (⟨8, [], [], nilV, [], 0, 0, 110, nilV⟩ : Pt), ([] : List Pt)⟩) (q := [aclR (⟨8, [], [], nilV, [], 0, 0, 110, nilV⟩ : Pt), slR 43 8 (⟨8, [], [], nilV, [], 0, 0, 110, nilV⟩ : Pt).subsV ([] : List Pt).length (([] : List Pt).flatMap ptC), bigR aclR ([] : List Pt)]) (by repeat' constructor) (fun _ h => h) (.blk_n (.then_n ?_)))))))
    exact .mk (((⟨8, [], [], nilV, [], 0, 0, 110, nilV⟩ : Pt), [])) (alone_other ⟨by omega, by omega, by omega, by omega, by omega⟩) ⟨rfl, rfl, rfl, rfl, rfl, rfl, rfl, rfl, rfl, rfl, rfl, rfl, rfl, rfl, rfl, rfl, rfl, rfl, rfl, rfl, rfl, rfl, rfl, rfl, trivial⟩
   refine .region (.ui rfl rfl rfl (.an rfl (.condD rfl (fun h125 => ?_) (fun h125 => ?_))))
   ·refine .skip (.blk_n (.then_n ?_))
    exact .mk ((y22, ys22)) (alone_one hse2 (by omega) hy22 hys22 ⟨hc22, as22, cs22, hsub22⟩ hyk22 (by omega) hG2) ⟨rfl, rfl, rfl, rfl, rfl, rfl, rfl, rfl, rfl, rfl, rfl, rfl, rfl, rfl, rfl, rfl, rfl, rfl, rfl, rfl, rfl, rfl, rfl, rfl, trivial⟩
   refine .region (.q (.to (v' := .agg (ptC (⟨8, [], [], nilV, [], 0, 0, 110, nilV⟩ : Pt)).toArray) (.build (us := [(0, _), (6, _)]) fl_43 ze_43 rfl rfl (by simp [isCell])) rfl) rfl (.oq (.storeA rfl rfl ?c360 sz_43 ?c363 ?c361 (nfz0 _ _)) ?_))
   case c360 => exact pt_cells (y := (⟨8, [], [], nilV, [], 0, 0, 110, nilV⟩ : Pt)) rfl rfl
   case c363 => rfl
   case c361 => simp [ptC]
   rintro v L' rfl
   refine .nil (.ptCast (b := b18) (l' := ptC (⟨8, [], [], nilV, [], 0, 0, 110, nilV⟩ : Pt)) (by repeat' constructor) (by exact rfl) (.add (slR_nil 85 2) (.add (slR_nil 43 8) (.add (p := bigR aclR []) (fun h => big_nil h) (.fold (p := entR ⟨300, 0, 0, (⟨8, [], [], nilV, [], 0, 0, 110, nilV⟩ : Pt), ([] : List Pt)⟩) (q := [aclR (⟨8, [], [], nilV, [], 0, 0, 110, nilV⟩ : Pt), slR 43 8 (⟨8, [], [], nilV, [], 0, 0, 110, nilV⟩ : Pt).subsV ([] : List Pt).length (([] : List Pt).flatMap ptC), bigR aclR ([] : List Pt)]) (by repeat' constructor) (fun _ h => h) (.blk_n (.then_n ?_)))))))
   exact .mk (((⟨8, [], [], nilV, [], 0, 0, 110, nilV⟩ : Pt), [])) (alone_other ⟨by omega, by omega, by omega, by omega, by omega⟩) ⟨rfl, rfl, rfl, rfl, rfl, rfl, rfl, rfl, rfl, rfl, rfl, rfl, rfl, rfl, rfl, rfl, rfl, rfl, rfl, rfl, rfl, rfl, rfl, rfl, trivial⟩
  rintro ⟨y, ys⟩ hAl
  dsimp only
  dsimp only at hAl
  refine .seq (.sr (.u (.fieldAddr rfl fo_43_0) (.u (.ld rfl ag_3) (.ui rfl rfl rfl (.nt (.condD rfl (fun h132 => ?_) (fun h132 => ?_)))))))
  ·have hne := hAl.kind.1 h132
   have hst := hTI.stop hj2 hne hl8
   rw [hst] at hy12
   refine .sr (.u (.fieldAddr rfl fo_43_0) (.u (.ld rfl ag_3) (.q (.as (v' := .bool true) (by exact congrArg Value.bool (decide_eq_true (congrArg Pt.kind hy12))) (.int rfl rfl rfl)) rfl (.m rfl (.grun (t := 136) rfl rfl rfl (.u (.fieldAddr rfl fo_43_5) (.grun (t := 136) rfl rfl rfl (.u (.ld rfl ag_3) (.grun (t := 136) rfl rfl rfl (.m rfl (.grun (t := 136) rfl rfl rfl (.q (.as (v' := .bool true) (by exact congrArg Value.bool (decide_eq_true (congrArg Pt.num hy12))) (.int rfl rfl rfl)) rfl (.u (.pickT rfl rfl) (.m rfl (.grun (t := 142) rfl rfl rfl (.u (.fieldAddr rfl fo_43_6) (.grun (t := 142) rfl rfl rfl (.u (.ld rfl ag_40) (.grun (t := 142) rfl rfl rfl (.u (.fieldAddr rfl fo_43_6) (.grun (t := 142) rfl rfl rfl (.u (.ld rfl ag_40) (.grun (t := 142) rfl rfl rfl (.q (.as (v' := .bool true) (by exact congrArg Value.bool (decide_eq_true ((congrArg Pt.err hy12).trans (hAl.no hne).2.symm))) (.int rfl rfl rfl)) rfl ?_))))))))))))))))))))))))
   refine .u (.pickT rfl rfl) (.an rfl (.rt (.blk_r (.then_r (.then_r (.blk_r (.then_r ?_)))))))
   exact .vv
  have h0 : (partP υ (⟨sesK s0, ids⟩ : Who) subs[j]).2 = 0 := Decidable.byContradiction fun g => h132 (hAl.kind.2 g)
  obtain ⟨N2, hN2, hG4⟩ := hAl.few
  have hTx2 := hG4.tx hN2 300 0 0 ⟨hAl.acl, hAl.sub⟩ hAl.each
  have hok3 := hG4.ok hok2 300
  have hw3 := hG4.w hw2 (z := 300) ⟨by decide, by decide⟩
  refine .sk (.region (.m rfl (.q (.to (v' := .agg (ptC y).toArray) (.loadA rfl ag_43 (by repeat' constructor) (by simp [ptC])) (by rfl)) rfl (.q (.to (v' := .agg (enC (⟨300, 0, 0, y, ys⟩ : En)).toArray) (.buildN (pl := [(0, 1), (1, 1), (2, 1), (3, 8)]) (us := [(0, vint (⟨300, 0, 0, y, ys⟩ : En).zx), (3, .agg (ptC (⟨300, 0, 0, y, ys⟩ : En).x).toArray)]) (cells := enC (⟨300, 0, 0, y, ys⟩ : En)) Tryz.underlying54 (by kernel_rfl) ze_54 rfl (fill_e03 _ _ _ _ _ _ _ _ _)) rfl) rfl (.oq (.c Tryz.func33 [_, _] (trapply_spec o2 υ 300 0 0 y ys (entR (⟨300, 0, 0, y, ys⟩ : En)) hTx2 (920 + 9 * j) hok2 (by have := hTx2.few; omega))) ?_)))))
  rintro v L' ⟨u35, e35, rfl, -, ⟨a35, c35, rfl⟩, rfl⟩
  refine .nil (.blk_n (.then_n (.region (.m rfl (.q (.add rfl rfl (by omega)) rfl (.an rfl ?_))))))
  rw [hAl.take h0 300]
  exact .rk ((j + 1, (applyZ σ σ.zx (partP υ (⟨sesK s0, ids⟩ : Who) subs[j]).1 []).1, (applyZ υ 300 (partP υ (⟨sesK s0, ids⟩ : Who) subs[j]).1 []).1, xs ++ [(partP υ (⟨sesK s0, ids⟩ : Who) subs[j]).1])) (⟨by dsimp only; omega, hTI.step hj2 h0, by have := hok3; rw [hAl.take h0 300] at this; exact this.more (by dsimp only; omega), by have := hw3; rw [hAl.take h0 300] at this; exact this, (ses_part υ 300 (part_plain υ (⟨sesK s0, ids⟩ : Who) subs[j]) [] _).2 hse2⟩) (by dsimp only; omega) ⟨rfl, rfl, rfl, rfl, rfl, rfl, rfl, trivial⟩
 have hje : j = subs.length := by omega
 subst hje
 have hdn := hTI.done hl8
 rw [hdn.1] at hy12 hys12
 have hxl : ys12.length = subs.length := by have h := hTI.at_.2.2; rw [← List.length_map (f := Pt.pl), hys12]; exact h
 have hsame : (applyZ σ0 300 y12 ys12).1 = zxT υ 300 := by rw [hdn.2, hdn.1, ← apply_plm, hy12, hys12]
 refine .exit (.then_e (.then_e (.blk_e (.then_n (.sm rfl (.cv Tryz.func35 [_, _] (trlayzx_spec o2 υ 300) ?_))))))
 refine .nt (.sr (.u (.fieldAddr rfl fo_43_0) (.u (.ld rfl ag_3) (.q (.as (v' := .bool true) (by exact congrArg Value.bool (decide_eq_true (congrArg Pt.kind hy12))) (.int rfl rfl rfl)) rfl (.m rfl (.grun (t := 158) rfl rfl rfl (.u (.fieldAddr rfl fo_43_7) (.grun (t := 158) rfl rfl rfl (.q (.to (v' := .slice as12 ys12.length cs12) (.load rfl ag_41 (by repeat' constructor) (by rfl)) hsub12) rfl (.grun (t := 158) rfl rfl rfl (.q (.slen rfl Tryz.underlying41 rfl) rfl (.grun (t := 158) rfl rfl rfl (.u (.fieldAddr rfl fo_28_8) (.grun (t := 158) rfl rfl rfl (.q (.to (v' := .slice _ subs.length cr) (.load rfl ag_25 (by repeat' constructor) (by rfl)) hsv) rfl (.grun (t := 158) rfl rfl rfl (.q (.slen rfl Tryz.underlying25 rfl) rfl (.grun (t := 158) rfl rfl rfl (.q (.as (v' := .bool true) (by exact congrArg Value.bool (decide_eq_true (by rw [hxl]))) (.int rfl rfl rfl)) rfl (.u (.pickT rfl rfl) (.m rfl (.grun (t := 167) rfl rfl rfl (.m rfl (.grun (t := 167) rfl rfl rfl (.m rfl (.grun (t := 167) rfl rfl rfl ?_))))))))))))))))))))))))))
 refine .oq (.c Tryz.func36 [_, _] (trsame_spec o1 o2 (applyZ σ0 300 y12 ys12).1 (zxT υ 300) _ _ (hG0.ok hok1 300) (hok2.zx 300))) ?_
 rintro v L' ⟨rfl, rfl⟩; rw [decide_eq_true hsame]
 refine .u (.pickT rfl rfl) (.an rfl (.ret ?_))
 exact .vv
open Go Go.ChangeShapes Go.WideShapes Go.ChangeAt Go.RowKit
section
variable {H : Type} {enc : TypeId × Value → H} {P : Program} {W W' : World}
theorem trodAll_old (hl : laidOutB P = true) (hb : Below W.heap.size W W') (sp : Nat → Bool) : ∀ (ts : List TypeId) (vs : List Value) (ds : List (DataW H)) (p : List MemPlace), (∀ t ∈ ts, P.readableRec t = true ∧ t < P.types.size) →
  DataW.TrodAll enc P W 0 (fun _ => true) true ts vs ds p → (∀ x ∈ p, x.block < W.heap.size) → (∀ x ∈ p, sp x.block = true) → DataW.TrodAll enc P W' 0 sp true ts vs ds p
 | [], vs, ds, p, _, h, _, _ => by
  obtain ⟨rfl, rfl, rfl⟩ := trodAll_nil h
  exact h
 | t :: ts, vs, ds, p, hr, h, hlt, hsp => by
  obtain ⟨v, vs1, d, ds1, a, b, rfl, rfl, rfl, h1, h2⟩ := trodAll_cons h
  have r := hr t (by simp)
  refine ⟨a, b, WideElems.Trod_stays hl r.1 r.2 h1 (fun x hx => hb.same (hlt x (by simp [hx]))) (fun x hx => hsp x (by simp [hx])), ?_, rfl⟩
  exact trodAll_old hl hb sp ts vs1 ds1 b (fun t ht => hr t (by simp [ht])) h2 (fun x hx => hlt x (by simp [hx])) (fun x hx => hsp x (by simp [hx]))
theorem settled {fn : Func} {s : ChangeSpec} {apart fresh handsOn again : Bool} {args : Array Value} {ds gs : List (DataW H)} {before : List MemPlace} {tb : TypeId}
  (hW : DataW.Whole enc P fn.params.toList s.vars apart W args.toList ds gs before) (hvars : s.vars = []) (hspec : ∀ gs', gs' = [] → s.fn H (ds ++ gs') = { results := [.lit (.bool true)], args := ds })
  (hres : fn.resultTypes = #[tb]) (htb : P.underlying tb = some .bool) (hl : laidOutB P = true) (hr : ∀ t ∈ fn.params.toList, P.readableRec t = true ∧ t < P.types.size) (hb : Below W.heap.size W W') :
  s.post enc P fn apart fresh handsOn again W args (.bool true) W' := by
 have hW' := hW
 have hlt := hW.lt
 obtain ⟨p, q, hA, hV, rfl, hfz, hnd⟩ := hW
 rw [hvars] at hV
 obtain ⟨rfl, rfl⟩ := trodVars_none hV
 have hs := hspec [] rfl
 have hargs : ∀ sp : Nat → Bool, (∀ x ∈ p, sp x.block = true) → DataW.TrodAll enc P W' 0 sp true fn.params.toList args.toList ds p := fun sp hsp =>
  trodAll_old hl hb sp _ _ _ _ hr hA (fun x hx => hlt x (by simp [hx])) hsp
 have hbool : ∀ (b : Nat) (sp : Nat → Bool) (hd : Bool), DataW.TrodAll enc P W' b sp hd fn.resultTypes.toList ((Value.bool true).resultList fn.resultTypes.size) [.lit (.bool true)] [] := by
  intro b sp hd
  rw [hres]
  exact trodAll_cons_mk (shut_bool htb _) trodAll_mk0
 refine ⟨ds, [], p ++ [], [], p, [], hW', ?_, ?_, ?_, hb.frame _, fun _ => ⟨ok_one hres rfl (okWide_bool_mk htb _), [.lit (.bool true)] ++ ds, [], p, ⟨p, [], ?_, ?_, by simp, ?_, ?_⟩, ?_⟩⟩
 ·rw [hs]; exact hbool _ _ _
 ·rw [hs]; exact hargs _ (fun x hx => by simpa using hlt x (by simp [hx]))
 ·rw [hs, hvars]; exact hV
 ·exact trodAll_append (hargs _ (fun _ _ => rfl)) (hbool _ _ _)
 ·rw [hvars]; exact hV
 ·intro b off hp
  rw [hb.frozen (p := ⟨b, off, none⟩) (hlt (.cell b off) (by simp [hp]))]
  exact hfz b off (by simp [hp])
 ·intro ha
  have := hnd ha
  simpa using this
 ·intro x hx _
  simp [hx]
theorem old_calls {f : FuncId} {args : Array Value} (h : Fn P f args [Old W] fun v L => v = .bool true ∧ L = [Old W]) :
  Calls P f args W fun e W' => e = .returned (.bool true) ∧ Below W.heap.size W W' := by
 have h0 : St [Old W] W := ⟨fun b => W.heap[b]?, fun _ => none, fun _ => .inr rfl, fun b o h => h, fun b o h => (by cases h), fun b hb => rfl, trivial⟩
 refine (h [] W h0).mono ?_
 rintro e W' ⟨v, L, ⟨rfl, rfl⟩, rfl, hs, hk⟩
 refine ⟨rfl, hk.os, hk.tape, hk.output, hk.size, fun k hk' => ?_⟩
 obtain ⟨h1, a1, hp⟩ := sep_head hs
 have e1 := hp k hk'
 have : ∃ o, W.heap[k]? = some o := ⟨_, Array.getElem?_eq_getElem hk'⟩
 obtain ⟨o, ho⟩ := this
 rw [ho] at e1 ⊢
 exact a1 _ _ e1
theorem old_rd {a : Addr} {len cap : Nat} {V : Nat → Value} (hc : ∀ i, i < len → W.cell? (a.add i) = some (V i)) (hle : len ≤ cap) : ∀ h : Hp, Old W h → rdS 1 h (.slice (some a) len cap) len ((List.range len).map V) := by
 intro h hold
 rcases Nat.eq_zero_or_pos len with rfl | hpos
 ·exact .inl ⟨rfl, rfl, some a, cap, rfl⟩
 ·obtain ⟨b, off, spot⟩ := a
  have h0 := hc 0 hpos
  have e0 : (⟨b, off, spot⟩ : Addr).add 0 = ⟨b, off, spot⟩ := by simp [Addr.add]
  rw [e0] at h0
  simp only [World.cell?] at h0
  rcases hw : W.heap[b]? with _ | o
  ·rw [hw] at h0; cases h0
  ·cases o with
   | cells c T fr =>
    rw [hw] at h0
    dsimp only at h0
    split at h0
    ·cases h0
    ·rename_i hsp
     have hspot : spot = none := by simpa using hsp
     subst hspot
     have hc' : ∀ i, i < len → c[off + i]? = some (V i) := by
      intro i hi
      have := hc i hi
      have e1 : (⟨b, off, none⟩ : Addr).add i = ⟨b, off + i, none⟩ := by
       simp only [Addr.add]; split
       ·rename_i h0; simp [h0]
       ·rfl
      rw [e1] at this
      simp only [World.cell?, hw] at this
      simpa using this
     have hlt : b < W.heap.size := by
      rcases Nat.lt_or_ge b W.heap.size with h' | h'
      ·exact h'
      ·rw [Array.getElem?_eq_none h'] at hw; cases hw
     have hlen : off + len ≤ c.size := by
      have := hc' (len - 1) (by omega)
      rcases Nat.lt_or_ge (off + (len - 1)) c.size with h' | h'
      ·omega
      ·rw [Array.getElem?_eq_none h'] at this; cases this
     refine .inr ⟨b, off, cap, c.toList, T, fr, rfl, by rw [hold b hlt, hw], ?_, by simpa using hlen, hle⟩
     apply List.ext_getElem?
     intro i
     rw [Nat.mul_one, List.getElem?_take, List.getElem?_map, List.getElem?_drop]
     split
     ·rename_i hi
      rw [List.getElem?_range hi]
      simpa using hc' i hi
     ·rename_i hi
      rw [List.getElem?_eq_none (by simpa using hi)]; rfl
   | _ => rw [hw] at h0; cases h0
theorem arg_int {t : TypeId} {r : Reach} {b0 : Nat} {v : Value} {d : DataW H} {ps : List MemPlace} (ht : P.underlying t = some (.int .i64)) (hval : Value.okWide P W r b0 t v)
  (h : DataW.Trod enc P W 0 (fun _ => true) true t v d ps) : ∃ n : Int, v = vint n ∧ d = .lit (.int .i64 n) ∧ -9223372036854775808 ≤ n ∧ n ≤ 9223372036854775807 := by
 obtain ⟨n, rfl, rfl, rfl, hwf⟩ := open_int ht hval h
 exact ⟨n, rfl, rfl, bounds_i64 hwf⟩
end
open Go Go.ChangeShapes Go.WideShapes Go.ChangeAt Go.RowKit
section
variable {H : Type} {enc : TypeId × Value → H} {P : Program} {W : World}
theorem string_vstr (s : ByteArray) : Value.string s = vstr s.data.toList := by cases s; rfl
end
open Go Go.ChangeShapes Go.WideShapes Go.ChangeAt Go.RowKit
section
variable {H : Type} {enc : TypeId × Value → H} {P : Program} {W : World}
theorem flat_at {α : Type} {sz : Nat} (f : Nat → List α) : ∀ n, (∀ i, i < n → (f i).length = sz) → ∀ j, j < n * sz → ((List.range n).flatMap f)[j]? = (f (j / sz))[j % sz]? ∧ ((List.range n).flatMap f).length = n * sz := by
 intro n
 induction n with
 | zero => intro _ j hj; omega
 | succ n ih =>
  intro hf j hj
  have hn := hf n (by omega)
  have hlen : ((List.range n).flatMap f).length = n * sz := by
   rcases Nat.eq_zero_or_pos (n * sz) with h0 | h0
   ·rcases Nat.eq_zero_or_pos n with h1 | h1
    ·subst h1; simp
    ·have : sz = 0 := by
      rcases Nat.eq_zero_or_pos sz with h2 | h2
      ·exact h2
      ·have := Nat.mul_pos h1 h2; omega
     subst this; omega
   ·exact (ih (fun i hi => hf i (by omega)) 0 h0).2
  have e : (List.range (n + 1)).flatMap f = (List.range n).flatMap f ++ f n := by simp [List.range_succ]
  have hm : (n + 1) * sz = n * sz + sz := by rw [Nat.add_mul, Nat.one_mul]
  rw [e]
  refine ⟨?_, by rw [List.length_append, hlen, hn, hm]⟩
  rcases Nat.lt_or_ge j (n * sz) with h | h
  ·rw [List.getElem?_append_left (by omega)]
   exact (ih (fun i hi => hf i (by omega)) j h).1
  ·rw [List.getElem?_append_right (by omega), hlen]
   have hs : 0 < sz := by omega
   have h1 : j / sz = n := by
    have : j < (n + 1) * sz := hj
    have a := Nat.div_lt_of_lt_mul (show j < sz * (n + 1) by rw [Nat.mul_comm]; exact this)
    have b := (Nat.le_div_iff_mul_le hs).2 h
    omega
   have h2 : j % sz = j - n * sz := by
    have := Nat.div_add_mod j sz
    rw [h1, Nat.mul_comm] at this; omega
   rw [h1, h2]
theorem rdS_regroup {sz n c c1 : Nat} {a : Option Addr} {ys : List Value} {h : Hp} (hr : rdS 1 h (.slice a (n * sz) c1) (n * sz) ys) (hc : n ≤ c) (hs : 0 < sz) : rdS sz h (.slice a n c) n ys := by
 rcases hr with ⟨h1, h2, -⟩ | ⟨b, off, cap, l, T, fr, hv, hb, h1, h2, h3⟩
 ·have : n = 0 := by
   rcases Nat.eq_zero_or_pos n with h0 | h0
   ·exact h0
   ·have := Nat.mul_pos h0 hs; omega
  subst this
  exact .inl ⟨rfl, h2, a, c, rfl⟩
 ·simp only [Value.slice.injEq] at hv
  obtain ⟨rfl, -, -⟩ := hv
  exact .inr ⟨b, off, c, l, T, fr, rfl, hb, by rw [← h1, Nat.mul_one], by rw [Nat.mul_one] at h2; exact h2, hc⟩
abbrev Reads (enc : TypeId × Value → H) (P : Program) (W : World) (fuel : Nat) (t : TypeId) (cs : List Value) (x : DataW H × List MemPlace) : Prop := DataW.trod enc P W 0 (fun _ => true) true fuel t cs = some x
theorem dec_int {t : TypeId} {fuel : Nat} {cs : List Value} {x : DataW H × List MemPlace} (ht : P.underlying t = some (.int .i64)) (h : Reads enc P W fuel t cs x) : ∃ n : Int, cs = [vint n] ∧ -9223372036854775808 ≤ n ∧ n ≤ 9223372036854775807 := by
 obtain ⟨n, rfl, -, hwf⟩ := DataW.trod_int ht h
 exact ⟨n, rfl, bounds_i64 hwf⟩
theorem dec_bool {t : TypeId} {fuel : Nat} {cs : List Value} {x : DataW H × List MemPlace} (ht : P.underlying t = some .bool) (h : Reads enc P W fuel t cs x) : ∃ b : Bool, cs = [.bool b] := by
 obtain ⟨b, rfl, -⟩ := DataW.trod_bool ht h
 exact ⟨b, rfl⟩
end
open Go Go.ChangeShapes Go.WideShapes Go.ChangeAt Go.RowKit
theorem bulk_pos {H : Type} (d : DataW H) : 1 ≤ Rows.uptoBulk d := by
 cases d with
 | lit l => cases l <;> simp [Rows.uptoBulk]
 | _ => simp [Rows.uptoBulk]
theorem bulk_part {H : Type} {d : DataW H} : ∀ {l : List (DataW H)}, d ∈ l → Rows.uptoBulk d ≤ Rows.uptoBulkAll l
 | x :: l, h => by
  unfold Rows.uptoBulkAll
  rcases List.mem_cons.1 h with rfl | h
  ·omega
  ·have := bulk_part h; omega
theorem bulk_count {H : Type} : ∀ l : List (DataW H), l.length ≤ Rows.uptoBulkAll l
 | [] => by simp
 | x :: l => by
  have h1 := bulk_pos x
  have h2 := bulk_count l
  unfold Rows.uptoBulkAll
  rw [List.length_cons]; omega
theorem bulk_sum {H : Type} : ∀ l : List (DataW H), (l.map Rows.uptoBulk).sum ≤ Rows.uptoBulkAll l
 | [] => by simp
 | x :: l => by
  have h2 := bulk_sum l
  unfold Rows.uptoBulkAll
  rw [List.map_cons, List.sum_cons]; omega
theorem bulk_small {H : Type} {l : List (DataW H)} (h : Rows.uptoSmall H l = true) {d : DataW H} (hd : d ∈ l) : Rows.uptoBulk d ≤ 1048576 :=
 Nat.le_trans (bulk_part hd) (of_decide_eq_true h)
instance : Inhabited Value := ⟨.bool false⟩
section
variable {H : Type} {enc : TypeId × Value → H} {P : Program} {W : World} {N : Nat}
theorem dec_int' {t : TypeId} {fuel : Nat} {cs : List Value} {x : DataW H × List MemPlace} (ht : P.underlying t = some (.int .i64)) (h : Reads enc P W fuel t cs x) : ∃ n : Int, cs = [vint n] ∧ (-9223372036854775808 ≤ n ∧ n ≤ 9223372036854775807) := by
 obtain ⟨n, h1, h2⟩ := dec_int ht h; exact ⟨n, h1, h2⟩
theorem dec_sliceV {Z : Type} [Inhabited Z] (toC : Z → List Value) (Q : Z → Prop) {t e : TypeId} {sz : Nat} {fuel : Nat} {cs : List Value} {x : DataW H × List MemPlace} (ht : P.underlying t = some (.slice e)) (hc : P.cellsOf e = sz) (hs : 0 < sz)
  (hdec : ∀ (n : Nat) (cs : List Value) (y : DataW H × List MemPlace), Reads enc P W n e cs y → Rows.uptoBulk y.1 ≤ N → ∃ z, cs = toC z ∧ Q z) (h : Reads enc P W fuel t cs x) (hb : Rows.uptoBulk x.1 ≤ N + 1) :
  ∃ z : Value × List Z, cs = [z.1] ∧ (∀ h : Hp, Old W h → rdS sz h z.1 z.2.length (z.2.flatMap toC)) ∧ z.2.length ≤ N ∧ ∀ y ∈ z.2, Q y := by
 subst hc
 rcases Go.Deep.open_slice ht h with ⟨rfl, rfl⟩ | ⟨a, len, cap, m, n, Dd, Pl, rfl, -, hl, hm, hmm, rfl, hx⟩
 ·exact ⟨(_, []), rfl, fun h _ => .inl ⟨rfl, rfl, none, 0, rfl⟩, by simp, by simp⟩
 ·simp only [if_true] at hmm
  subst hmm
  have hbl : len ≤ N := by
   have := bulk_count ((List.range len).map Dd)
   simp only [Rows.uptoBulk] at hb
   rw [List.length_map, List.length_range] at this
   omega
  have hbe : ∀ i, i < len → Rows.uptoBulk (Dd i) ≤ N := fun i hi => by
   have := bulk_part (d := Dd i) (l := (List.range len).map Dd) (List.mem_map_of_mem (by simpa using hi))
   simp only [Rows.uptoBulk] at hb
   omega
  obtain ⟨Zf, hZ⟩ := Go.Deep.choose_lt (α := Z) (p := fun i z => W.cells? 0 (a.add (i * P.cellsOf e)) (P.cellsOf e) = some (toC z) ∧ Q z) (n := len) (fun i hi => by
   obtain ⟨cs', h1, h2⟩ := hx i (by omega)
   obtain ⟨z, rfl, h3⟩ := hdec _ _ _ h2 (hbe i hi)
   exact ⟨z, h1, h3⟩)
  have hlenf : ∀ i, i < len → (toC (Zf i)).length = P.cellsOf e := fun i hi => (World.cells?_some (hZ i hi).1).2.1
  have hflat := flat_at (fun i => toC (Zf i)) len hlenf
  refine ⟨(_, (List.range len).map Zf), rfl, ?_, ?_, ?_⟩
  ·intro h hold
   dsimp only
   rw [List.length_map, List.length_range]
   refine rdS_regroup (c1 := len * P.cellsOf e) ?_ hl hs
   have e1 : ((List.range len).map Zf).flatMap toC = (List.range (len * P.cellsOf e)).map (fun j => ((List.range len).flatMap fun i => toC (Zf i)).getD j (.bool false)) := by
    rw [List.flatMap_map]
    apply List.ext_getElem?
    intro j
    rcases Nat.lt_or_ge j (len * P.cellsOf e) with hj | hj
    ·rw [List.getElem?_map, List.getElem?_range hj]
     have := (hflat j hj).2
     have hjl : j < ((List.range len).flatMap fun i => toC (Zf i)).length := by omega
     simp only [Option.map_some, List.getD_eq_getElem?_getD, List.getElem?_eq_getElem hjl, Option.getD_some]
    ·have : ((List.range len).flatMap fun i => toC (Zf i)).length = len * P.cellsOf e := by
      rcases Nat.eq_zero_or_pos (len * P.cellsOf e) with h0 | h0
      ·have : len = 0 := by
        rcases Nat.eq_zero_or_pos len with h1 | h1
        ·exact h1
        ·have := Nat.mul_pos h1 hs; omega
       subst this; simp
      ·exact (hflat 0 h0).2
     rw [List.getElem?_eq_none (by omega), List.getElem?_eq_none (by simpa using hj)]
   rw [e1]
   refine old_rd (W := W) (fun j hj => ?_) (Nat.le_refl _) h hold
   have hi : j / P.cellsOf e < len := Nat.div_lt_of_lt_mul (by rw [Nat.mul_comm]; exact hj)
   have hcell := (World.cells?_some (hZ (j / P.cellsOf e) hi).1).2.2 (j % P.cellsOf e) (Nat.mod_lt _ hs)
   rw [Addr.add_add, Nat.mul_comm, Nat.div_add_mod] at hcell
   rw [hcell]
   obtain ⟨f1, f2⟩ := hflat j hj
   rw [List.getD_eq_getElem?_getD, f1]
   have : j % P.cellsOf e < (toC (Zf (j / P.cellsOf e))).length := by rw [hlenf _ hi]; exact Nat.mod_lt _ hs
   simp [this]
  ·dsimp only; rw [List.length_map, List.length_range]; exact hbl
  ·intro z hz
   obtain ⟨i, hi, rfl⟩ := List.mem_map.1 hz
   exact (hZ i (by simpa using hi)).2
theorem dec_sliceQV {Z : Type} [Inhabited Z] (toC : Z → List Value) (Q : Nat → Z → Prop) {t e : TypeId} {sz : Nat} {fuel : Nat} {cs : List Value} {x : DataW H × List MemPlace} (ht : P.underlying t = some (.slice e)) (hc : P.cellsOf e = sz) (hs : 0 < sz)
  (hdec : ∀ (n : Nat) (cs : List Value) (y : DataW H × List MemPlace), Reads enc P W n e cs y → ∃ z, cs = toC z ∧ Q (Rows.uptoBulk y.1) z) (h : Reads enc P W fuel t cs x) (hb : Rows.uptoBulk x.1 ≤ N + 1) :
  ∃ (z : Value × List Z) (ws : List Nat), cs = [z.1] ∧ (∀ h : Hp, Old W h → rdS sz h z.1 z.2.length (z.2.flatMap toC)) ∧ z.2.length ≤ N ∧ ws.length = z.2.length ∧ ws.sum ≤ N ∧ (∀ w ∈ ws, 1 ≤ w) ∧ ∀ i (h1 : i < z.2.length) (h2 : i < ws.length), Q ws[i] z.2[i] := by
 subst hc
 rcases Go.Deep.open_slice ht h with ⟨rfl, rfl⟩ | ⟨a, len, cap, m, n, Dd, Pl, rfl, -, hl, hm, hmm, rfl, hx⟩
 ·exact ⟨(_, []), [], rfl, fun h _ => .inl ⟨rfl, rfl, none, 0, rfl⟩, by simp, rfl, by simp, (fun _ h => by cases h), (fun i h1 _ => by simp at h1)⟩
 ·simp only [if_true] at hmm
  subst hmm
  have hbl : len ≤ N := by
   have := bulk_count ((List.range len).map Dd)
   simp only [Rows.uptoBulk] at hb
   rw [List.length_map, List.length_range] at this
   omega
  have hall : ((List.range len).map fun i => Rows.uptoBulk (Dd i)).sum ≤ N := by
   have := bulk_sum ((List.range len).map Dd)
   rw [List.map_map] at this
   simp only [Rows.uptoBulk] at hb
   have e : ((List.range len).map fun i => Rows.uptoBulk (Dd i)) = (List.range len).map (Rows.uptoBulk ∘ Dd) := rfl
   rw [e]; omega
  obtain ⟨Zf, hZ⟩ := Go.Deep.choose_lt (α := Z) (p := fun i z => W.cells? 0 (a.add (i * P.cellsOf e)) (P.cellsOf e) = some (toC z) ∧ Q (Rows.uptoBulk (Dd i)) z) (n := len) (fun i hi => by
   obtain ⟨cs', h1, h2⟩ := hx i (by omega)
   obtain ⟨z, rfl, h3⟩ := hdec _ _ _ h2
   exact ⟨z, h1, h3⟩)
  have hlenf : ∀ i, i < len → (toC (Zf i)).length = P.cellsOf e := fun i hi => (World.cells?_some (hZ i hi).1).2.1
  have hflat := flat_at (fun i => toC (Zf i)) len hlenf
  refine ⟨(_, (List.range len).map Zf), (List.range len).map fun i => Rows.uptoBulk (Dd i), rfl, ?_, ?_, by simp, hall, ?_, ?_⟩
  ·intro h hold
   dsimp only
   rw [List.length_map, List.length_range]
   refine rdS_regroup (c1 := len * P.cellsOf e) ?_ hl hs
   have e1 : ((List.range len).map Zf).flatMap toC = (List.range (len * P.cellsOf e)).map (fun j => ((List.range len).flatMap fun i => toC (Zf i)).getD j (.bool false)) := by
    rw [List.flatMap_map]
    apply List.ext_getElem?
    intro j
    rcases Nat.lt_or_ge j (len * P.cellsOf e) with hj | hj
    ·rw [List.getElem?_map, List.getElem?_range hj]
     have := (hflat j hj).2
     have hjl : j < ((List.range len).flatMap fun i => toC (Zf i)).length := by omega
     simp only [Option.map_some, List.getD_eq_getElem?_getD, List.getElem?_eq_getElem hjl, Option.getD_some]
    ·have : ((List.range len).flatMap fun i => toC (Zf i)).length = len * P.cellsOf e := by
      rcases Nat.eq_zero_or_pos (len * P.cellsOf e) with h0 | h0
      ·have : len = 0 := by
        rcases Nat.eq_zero_or_pos len with h1 | h1
        ·exact h1
        ·have := Nat.mul_pos h1 hs; omega
       subst this; simp
      ·exact (hflat 0 h0).2
     rw [List.getElem?_eq_none (by omega), List.getElem?_eq_none (by simpa using hj)]
   rw [e1]
   refine old_rd (W := W) (fun j hj => ?_) (Nat.le_refl _) h hold
   have hi : j / P.cellsOf e < len := Nat.div_lt_of_lt_mul (by rw [Nat.mul_comm]; exact hj)
   have hcell := (World.cells?_some (hZ (j / P.cellsOf e) hi).1).2.2 (j % P.cellsOf e) (Nat.mod_lt _ hs)
   rw [Addr.add_add, Nat.mul_comm, Nat.div_add_mod] at hcell
   rw [hcell]
   obtain ⟨f1, f2⟩ := hflat j hj
   rw [List.getD_eq_getElem?_getD, f1]
   have : j % P.cellsOf e < (toC (Zf (j / P.cellsOf e))).length := by rw [hlenf _ hi]; exact Nat.mod_lt _ hs
   simp [this]
  ·dsimp only; rw [List.length_map, List.length_range]; exact hbl
  ·intro w hw
   obtain ⟨i, -, rfl⟩ := List.mem_map.1 hw
   exact bulk_pos _
  ·intro i h1 h2
   simp only [List.getElem_map, List.getElem_range]
   exact (hZ i (by simpa using h1)).2
/-! ### With weights: what is read weighs no more than its bulk -/
theorem dec_strW {t : TypeId} {fuel : Nat} {cs : List Value} {x : DataW H × List MemPlace} (ht : P.underlying t = some .string) (h : Reads enc P W fuel t cs x) : ∃ s : List UInt8, cs = [vstr s] ∧ s.length + 1 ≤ Rows.uptoBulk x.1 := by
 obtain ⟨s, rfl, rfl, -⟩ := DataW.trod_string ht h
 exact ⟨s.data.toList, by rw [string_vstr], by simp [Rows.uptoBulk]⟩
theorem dec_intW {t : TypeId} {fuel : Nat} {cs : List Value} {x : DataW H × List MemPlace} (ht : P.underlying t = some (.int .i64)) (h : Reads enc P W fuel t cs x) : ∃ n : Int, cs = [vint n] ∧ (-9223372036854775808 ≤ n ∧ n ≤ 9223372036854775807) ∧ 1 ≤ Rows.uptoBulk x.1 := by
 obtain ⟨n, h1, h2⟩ := dec_int' ht h; exact ⟨n, h1, h2, bulk_pos _⟩
theorem slice_shape {t e : TypeId} {fuel : Nat} {v : Value} {x : DataW H × List MemPlace} (ht : P.underlying t = some (.slice e)) (h : Reads enc P W fuel t [v] x) : ∃ a n c, v = .slice a n c := by
 rcases Go.Deep.open_slice ht h with ⟨hv, -⟩ | ⟨a, len, cap, m, n, Dd, Pl, hv, -⟩
 ·rw [List.cons.injEq] at hv; rw [hv.1]; exact ⟨_, _, _, rfl⟩
 ·rw [List.cons.injEq] at hv; rw [hv.1]; exact ⟨_, _, _, rfl⟩
theorem sum_le {Z : Type} {m : Z → Nat} : ∀ {l : List Z} {ws : List Nat}, ws.length = l.length → (∀ i (h1 : i < l.length) (h2 : i < ws.length), m l[i] ≤ ws[i]) → (l.map m).sum ≤ ws.sum
 | [], _, _, _ => by simp
 | z :: l, [], h, _ => by simp at h
 | z :: l, w :: ws, h, hq => by
  have h0 := hq 0 (by simp) (by simp)
  have h1 := sum_le (l := l) (ws := ws) (m := m) (by simpa using h) (fun i h1 h2 => hq (i + 1) (by simpa using h1) (by simpa using h2))
  rw [List.map_cons, List.sum_cons, List.sum_cons]
  have h0' : m z ≤ w := h0
  omega
theorem dec_sliceW {Z : Type} [Inhabited Z] (toC : Z → List Value) (Q : Z → Prop) (m : Z → Nat) {t e : TypeId} {sz : Nat} {fuel : Nat} {cs : List Value} {x : DataW H × List MemPlace} (ht : P.underlying t = some (.slice e)) (hc : P.cellsOf e = sz) (hs : 0 < sz)
  (hdec : ∀ (n : Nat) (cs : List Value) (y : DataW H × List MemPlace), Reads enc P W n e cs y → ∃ z, cs = toC z ∧ Q z ∧ m z ≤ Rows.uptoBulk y.1) (h : Reads enc P W fuel t cs x) :
  ∃ z : Value × List Z, cs = [z.1] ∧ (∀ h : Hp, Old W h → rdS sz h z.1 z.2.length (z.2.flatMap toC)) ∧ (∀ y ∈ z.2, Q y) ∧ z.2.length + 1 ≤ Rows.uptoBulk x.1 ∧ 1 + (z.2.map m).sum ≤ Rows.uptoBulk x.1 := by
 have hp := bulk_pos x.1
 obtain ⟨z, ws, h1, h2, h3, h4, h5, -, h7⟩ := dec_sliceQV (N := Rows.uptoBulk x.1 - 1) toC (fun B z => Q z ∧ m z ≤ B) ht hc hs hdec h (by omega)
 refine ⟨z, h1, h2, fun y hy => ?_, by omega, ?_⟩
 ·obtain ⟨i, hi, rfl⟩ := List.mem_iff_getElem.1 hy
  exact (h7 i hi (by omega)).1
 ·have := sum_le (m := m) h4 (fun i g1 g2 => (h7 i g1 g2).2)
  omega
theorem rd_shape {sz n : Nat} {v : Value} {ys : List Value} (hr : ∀ h : Hp, Old W h → rdS sz h v n ys) : ∃ a c, v = .slice a n c := by
 have h := hr (fun b => if b < W.heap.size then W.heap[b]? else none) (fun b hb => if_pos hb)
 rcases h with ⟨rfl, -, a, c, rfl⟩ | ⟨b, off, cap, l, T, fr, rfl, -⟩
 ·exact ⟨_, _, rfl⟩
 ·exact ⟨_, _, rfl⟩
end
open Go Go.ChangeShapes Go.WideShapes Go.ChangeAt Go.RowKit
def mAc (a : Ac) : Nat := 3 + a.2.length
theorem sum_mem {α : Type} {m : α → Nat} : ∀ {l : List α} {x : α}, x ∈ l → m x ≤ (l.map m).sum
 | y :: l, x, h => by
  rw [List.map_cons, List.sum_cons]
  rcases List.mem_cons.1 h with rfl | h
  ·omega
  ·have := sum_mem (m := m) h; omega
theorem sum_three {α : Type} {m : α → Nat} (hm : ∀ x, 3 ≤ m x) : ∀ l : List α, 3 * l.length ≤ (l.map m).sum
 | [] => by simp
 | y :: l => by have := sum_three hm l; have := hm y; rw [List.map_cons, List.sum_cons, List.length_cons]; omega
theorem fm_weigh {α : Type} {f : α → Bs} {m : α → Nat} : ∀ {l : List α}, (∀ x ∈ l, (f x).length ≤ 20 * m x) → (l.flatMap f).length ≤ 20 * (l.map m).sum
 | [], _ => by simp
 | y :: l, h => by
  have h1 := h y (List.mem_cons_self ..)
  have h2 := fm_weigh (l := l) (m := m) (f := f) (fun x hx => h x (List.mem_cons_of_mem _ hx))
  rw [List.flatMap_cons, List.length_append, List.map_cons, List.sum_cons]; omega
theorem aclW_of {l : List Ac} (h : ∀ a ∈ l, I64 a.1) (hm : (l.map mAc).sum ≤ 1048576) : AclW l := by
 have hl := sum_three (m := mAc) (fun a => by unfold mAc; omega) l
 have hu : U64 = 18446744073709551616 := rfl
 have hi : ∀ a ∈ l, a.2.length ≤ 1048576 := fun a ha => by
  have h1 := sum_mem (m := mAc) ha
  have h2 : mAc a = 3 + a.2.length := rfl
  omega
 refine ⟨by omega, ?_, fun a ha => ⟨⟨h a ha, by have := hi a ha; omega⟩, hi a ha⟩⟩
 have h3 := fm_weigh (f := acB) (m := mAc) (l := l) (fun a ha => by
  have h1 := numB_len8 (h a ha)
  have h2 := sev_len10 (u := a.2.length) (by have := hi a ha; omega)
  unfold acB txtB cntB mAc
  rw [List.length_append, List.length_append]; omega)
 have h4 := sev_len10 (u := l.length) (by omega)
 unfold aclB cntB
 rw [List.length_append]; omega
instance : Inhabited Pt := ⟨ptS 0 [] [] 0⟩
instance : Inhabited En := ⟨⟨0, 0, 0, ptS 0 [] [] 0, []⟩⟩
instance : Inhabited Rq := ⟨⟨0, 0, [], [], nilV, [], 0, 0, false, nilV, nilV⟩⟩
def mRq (r : Rq) : Nat := 10 + r.path.length + r.data.length + (r.acl.map mAc).sum
structure RqG (p : HP) (r : Rq) : Prop where
 kind : I64 r.kind
 xid : I64 r.xid
 flags : I64 r.flags
 ver : I64 r.ver
 acl : ∀ h : Hp, p h → rdS 2 h r.aclV r.acl.length (r.acl.flatMap acC)
 ash : ∃ a n c, r.aclV = .slice a n c
 each : ∀ a ∈ r.acl, I64 a.1
 sub : ∃ a n c, r.subsV = .slice a n c
 arm : ∃ a n c, r.armV = .slice a n c
structure RqD (p : HP) (r : Rq) (l : List Rq) : Prop where
 own : RqG p r ∧ mRq r ≤ 1048576
 rd : ∀ h : Hp, p h → rdS 10 h r.subsV l.length (l.flatMap rqC)
 each : ∀ x ∈ l, RqG p x ∧ mRq x ≤ 1048576
theorem RqG.w {p : HP} {r : Rq} (h : RqG p r) (hm : mRq r ≤ 1048576) {s : Int} {iv : Value} {ids : List Bs} (hs : I64 s) (hi : Ids p iv ids) (hT : TabP p) : WiA p ⟨s, ids⟩ iv r := by
 unfold mRq at hm
 have h3 := sum_three (m := mAc) (fun a => by unfold mAc; omega) r.acl
 refine ⟨⟨h.kind, h.xid, h.flags, h.ver, by omega, by omega, h.acl, by omega, fun a ha => ⟨h.each a ha, ?_⟩, h.sub, h.arm⟩, hs, hi.1, hi.2.1, hi.2.2, h.ash, hT⟩
 have h1 := sum_mem (m := mAc) ha
 have h2 : mAc a = 3 + a.2.length := rfl
 omega
theorem RqD.wi {p : HP} {r : Rq} {l : List Rq} (h : RqD p r l) {s : Int} {iv : Value} {ids : List Bs} (hs : I64 s) (hi : Ids p iv ids) (hT : TabP p) : WiD p ⟨s, ids⟩ iv r l := by
 have ha : ∀ x : Rq, RqG p x → mRq x ≤ 1048576 → AclW x.acl := fun x hx hm => aclW_of hx.each (by unfold mRq at hm; omega)
 exact ⟨h.own.1.w h.own.2 hs hi hT, ha _ h.own.1 h.own.2, h.rd, fun x hx => (h.each x hx).1.w (h.each x hx).2 hs hi hT, fun x hx => ha _ (h.each x hx).1 (h.each x hx).2⟩
theorem fm_strs (l : List Bs) : (l.flatMap fun s => [vstr s]) = strs l := by
 induction l with
 | nil => rfl
 | cons z l ih => rw [List.flatMap_cons, ih]; rfl
theorem tab_of {W : World} (h : Lib.TabIs Tryz.prog W "internal/strconv.uint64pow10" .u64 Lib.pow10Tab) {g : Nat} (hg : Tryz.prog.globalNamed "internal/strconv.uint64pow10" = some g) : TabP (Old W) := by
 intro hp w hold hle
 unfold Lib.TabIs World.var? at h ⊢
 rw [hg] at h ⊢
 simp only [Option.bind_some] at h ⊢
 cases e : W.heap[g]? with
 | none => rw [e] at h; cases h
 | some o =>
  have hlt : g < W.heap.size := (Array.getElem?_eq_some_iff.1 e).1
  have h2 : w.heap[g]? = some o := hle g o (by rw [hold g hlt, e])
  rw [h2]
  rw [e] at h
  exact h
theorem decAc {H : Type} {enc : TypeId × Value → H} {W : World} (n : Nat) (cs : List Value) (y : DataW H × List MemPlace) (h : Reads enc Tryz.prog W n 85 cs y) : ∃ a : Ac, cs = acC a ∧ I64 a.1 ∧ mAc a ≤ Rows.uptoBulk y.1 := by
 obtain ⟨xs, m, -, rfl, hlen, hxs, hf⟩ := DataW.trod_struct Tryz.underlying85 h
 rw [show Tryz.prog.cellsOf 85 = 2 by kernel_rfl] at hlen
 obtain ⟨a0, a1, rfl⟩ : ∃ a0 a1, cs = [a0, a1] := by
  match cs, hlen with
  | [a0, a1], _ => exact ⟨a0, a1, rfl⟩
 obtain ⟨y0, y1, rfl⟩ : ∃ y0 y1, xs = [y0, y1] := by
  match xs, hxs with
  | [y0, y1], _ => exact ⟨y0, y1, rfl⟩
 try simp only [Rows.uptoBulk, Rows.uptoBulkAll, List.map_cons, List.map_nil]
 have g0 : Reads enc Tryz.prog W m 3 (([a0, a1] : List Value).drop 0 |>.take (Tryz.prog.cellsOf 3)) y0 := hf 0 _ rfl
 rw [show Tryz.prog.cellsOf 3 = 1 by kernel_rfl] at g0
 have p0 := bulk_pos y0.1
 obtain ⟨z0, e0, q0, r0⟩ := dec_intW Tryz.underlying3 g0
 try simp at e0
 have g1 : Reads enc Tryz.prog W m 9 (([a0, a1] : List Value).drop 1 |>.take (Tryz.prog.cellsOf 9)) y1 := hf 1 _ rfl
 rw [show Tryz.prog.cellsOf 9 = 1 by kernel_rfl] at g1
 have p1 := bulk_pos y1.1
 obtain ⟨z1, e1, r1⟩ := dec_strW Tryz.underlying9 g1
 try simp at e1
 subst e0
 subst e1
 exact ⟨(z0, z1), rfl, q0, by unfold mAc; dsimp only; omega⟩
theorem decRq {H : Type} {enc : TypeId × Value → H} {W : World} (n : Nat) (cs : List Value) (y : DataW H × List MemPlace) (h : Reads enc Tryz.prog W n 28 cs y) : ∃ r0 : Rq, cs = rqC r0 ∧ RqG (Old W) r0 ∧ mRq r0 ≤ Rows.uptoBulk y.1 := by
 obtain ⟨xs, m, -, rfl, hlen, hxs, hf⟩ := DataW.trod_struct Tryz.underlying28 h
 rw [show Tryz.prog.cellsOf 28 = 10 by kernel_rfl] at hlen
 obtain ⟨a0, a1, a2, a3, a4, a5, a6, a7, a8, a9, rfl⟩ : ∃ a0 a1 a2 a3 a4 a5 a6 a7 a8 a9, cs = [a0, a1, a2, a3, a4, a5, a6, a7, a8, a9] := by
  match cs, hlen with
  | [a0, a1, a2, a3, a4, a5, a6, a7, a8, a9], _ => exact ⟨a0, a1, a2, a3, a4, a5, a6, a7, a8, a9, rfl⟩
 obtain ⟨y0, y1, y2, y3, y4, y5, y6, y7, y8, y9, rfl⟩ : ∃ y0 y1 y2 y3 y4 y5 y6 y7 y8 y9, xs = [y0, y1, y2, y3, y4, y5, y6, y7, y8, y9] := by
  match xs, hxs with
  | [y0, y1, y2, y3, y4, y5, y6, y7, y8, y9], _ => exact ⟨y0, y1, y2, y3, y4, y5, y6, y7, y8, y9, rfl⟩
 try simp only [Rows.uptoBulk, Rows.uptoBulkAll, List.map_cons, List.map_nil]
 have g0 : Reads enc Tryz.prog W m 3 (([a0, a1, a2, a3, a4, a5, a6, a7, a8, a9] : List Value).drop 0 |>.take (Tryz.prog.cellsOf 3)) y0 := hf 0 _ rfl
 rw [show Tryz.prog.cellsOf 3 = 1 by kernel_rfl] at g0
 have p0 := bulk_pos y0.1
 obtain ⟨z0, e0, q0, r0⟩ := dec_intW Tryz.underlying3 g0
 try simp at e0
 have g1 : Reads enc Tryz.prog W m 3 (([a0, a1, a2, a3, a4, a5, a6, a7, a8, a9] : List Value).drop 1 |>.take (Tryz.prog.cellsOf 3)) y1 := hf 1 _ rfl
 rw [show Tryz.prog.cellsOf 3 = 1 by kernel_rfl] at g1
 have p1 := bulk_pos y1.1
 obtain ⟨z1, e1, q1, r1⟩ := dec_intW Tryz.underlying3 g1
 try simp at e1
 have g2 : Reads enc Tryz.prog W m 9 (([a0, a1, a2, a3, a4, a5, a6, a7, a8, a9] : List Value).drop 2 |>.take (Tryz.prog.cellsOf 9)) y2 := hf 2 _ rfl
 rw [show Tryz.prog.cellsOf 9 = 1 by kernel_rfl] at g2
 have p2 := bulk_pos y2.1
 obtain ⟨z2, e2, r2⟩ := dec_strW Tryz.underlying9 g2
 try simp at e2
 have g3 : Reads enc Tryz.prog W m 9 (([a0, a1, a2, a3, a4, a5, a6, a7, a8, a9] : List Value).drop 3 |>.take (Tryz.prog.cellsOf 9)) y3 := hf 3 _ rfl
 rw [show Tryz.prog.cellsOf 9 = 1 by kernel_rfl] at g3
 have p3 := bulk_pos y3.1
 obtain ⟨z3, e3, r3⟩ := dec_strW Tryz.underlying9 g3
 try simp at e3
 have g4 : Reads enc Tryz.prog W m 24 (([a0, a1, a2, a3, a4, a5, a6, a7, a8, a9] : List Value).drop 4 |>.take (Tryz.prog.cellsOf 24)) y4 := hf 4 _ rfl
 rw [show Tryz.prog.cellsOf 24 = 1 by kernel_rfl] at g4
 have p4 := bulk_pos y4.1
 obtain ⟨⟨v4, l4⟩, e4, k4, q4, c4, r4⟩ := dec_sliceW acC (fun a => I64 a.1) mAc Tryz.underlying24 (show Tryz.prog.cellsOf 85 = 2 by kernel_rfl) (by decide) (fun n cs y h => decAc n cs y h) g4
 dsimp only at e4 k4 q4 c4 r4
 have ck4 : isCell v4 = true := by obtain ⟨sa, sc, hs⟩ := rd_shape k4; rw [hs]; rfl
 have sh4 : ∃ a n c, v4 = .slice a n c := by obtain ⟨sa, sc, hs⟩ := rd_shape k4; exact ⟨_, _, _, hs⟩
 try simp at e4
 have g5 : Reads enc Tryz.prog W m 3 (([a0, a1, a2, a3, a4, a5, a6, a7, a8, a9] : List Value).drop 5 |>.take (Tryz.prog.cellsOf 3)) y5 := hf 5 _ rfl
 rw [show Tryz.prog.cellsOf 3 = 1 by kernel_rfl] at g5
 have p5 := bulk_pos y5.1
 obtain ⟨z5, e5, q5, r5⟩ := dec_intW Tryz.underlying3 g5
 try simp at e5
 have g6 : Reads enc Tryz.prog W m 3 (([a0, a1, a2, a3, a4, a5, a6, a7, a8, a9] : List Value).drop 6 |>.take (Tryz.prog.cellsOf 3)) y6 := hf 6 _ rfl
 rw [show Tryz.prog.cellsOf 3 = 1 by kernel_rfl] at g6
 have p6 := bulk_pos y6.1
 obtain ⟨z6, e6, q6, r6⟩ := dec_intW Tryz.underlying3 g6
 try simp at e6
 have g7 : Reads enc Tryz.prog W m 4 (([a0, a1, a2, a3, a4, a5, a6, a7, a8, a9] : List Value).drop 7 |>.take (Tryz.prog.cellsOf 4)) y7 := hf 7 _ rfl
 rw [show Tryz.prog.cellsOf 4 = 1 by kernel_rfl] at g7
 have p7 := bulk_pos y7.1
 obtain ⟨z7, e7⟩ := dec_bool Tryz.underlying4 g7
 try simp at e7
 have g8 : Reads enc Tryz.prog W m 25 (([a0, a1, a2, a3, a4, a5, a6, a7, a8, a9] : List Value).drop 8 |>.take (Tryz.prog.cellsOf 25)) y8 := hf 8 _ rfl
 rw [show Tryz.prog.cellsOf 25 = 1 by kernel_rfl] at g8
 have p8 := bulk_pos y8.1
 obtain ⟨z8, e8, s8⟩ : ∃ z : Value, a8 = z ∧ ∃ a n c, z = .slice a n c := ⟨_, rfl, slice_shape Tryz.underlying25 g8⟩
 have ck8 : isCell z8 = true := by obtain ⟨sa, sn, sc, hs⟩ := s8; rw [hs]; rfl
 try simp at e8
 have g9 : Reads enc Tryz.prog W m 26 (([a0, a1, a2, a3, a4, a5, a6, a7, a8, a9] : List Value).drop 9 |>.take (Tryz.prog.cellsOf 26)) y9 := hf 9 _ rfl
 rw [show Tryz.prog.cellsOf 26 = 1 by kernel_rfl] at g9
 have p9 := bulk_pos y9.1
 obtain ⟨z9, e9, s9⟩ : ∃ z : Value, a9 = z ∧ ∃ a n c, z = .slice a n c := ⟨_, rfl, slice_shape Tryz.underlying26 g9⟩
 have ck9 : isCell z9 = true := by obtain ⟨sa, sn, sc, hs⟩ := s9; rw [hs]; rfl
 try simp at e9
 subst e0
 subst e1
 subst e2
 subst e3
 subst e4
 subst e5
 subst e6
 subst e7
 subst e8
 subst e9
 exact ⟨⟨z0, z1, z2, z3, a4, l4, z5, z6, z7, a8, a9⟩, rfl, ⟨q0, q1, q5, q6, k4, sh4, q4, s8, s9⟩, by unfold mRq; dsimp only; omega⟩
theorem decRqD {H : Type} {enc : TypeId × Value → H} {W : World} (n : Nat) (cs : List Value) (y : DataW H × List MemPlace) (h : Reads enc Tryz.prog W n 28 cs y) : ∃ (r0 : Rq) (l : List Rq), cs = rqC r0 ∧ (Rows.uptoBulk y.1 ≤ 1048576 → RqD (Old W) r0 l) := by
 obtain ⟨xs, m, -, rfl, hlen, hxs, hf⟩ := DataW.trod_struct Tryz.underlying28 h
 rw [show Tryz.prog.cellsOf 28 = 10 by kernel_rfl] at hlen
 obtain ⟨a0, a1, a2, a3, a4, a5, a6, a7, a8, a9, rfl⟩ : ∃ a0 a1 a2 a3 a4 a5 a6 a7 a8 a9, cs = [a0, a1, a2, a3, a4, a5, a6, a7, a8, a9] := by
  match cs, hlen with
  | [a0, a1, a2, a3, a4, a5, a6, a7, a8, a9], _ => exact ⟨a0, a1, a2, a3, a4, a5, a6, a7, a8, a9, rfl⟩
 obtain ⟨y0, y1, y2, y3, y4, y5, y6, y7, y8, y9, rfl⟩ : ∃ y0 y1 y2 y3 y4 y5 y6 y7 y8 y9, xs = [y0, y1, y2, y3, y4, y5, y6, y7, y8, y9] := by
  match xs, hxs with
  | [y0, y1, y2, y3, y4, y5, y6, y7, y8, y9], _ => exact ⟨y0, y1, y2, y3, y4, y5, y6, y7, y8, y9, rfl⟩
 try simp only [Rows.uptoBulk, Rows.uptoBulkAll, List.map_cons, List.map_nil]
 have g0 : Reads enc Tryz.prog W m 3 (([a0, a1, a2, a3, a4, a5, a6, a7, a8, a9] : List Value).drop 0 |>.take (Tryz.prog.cellsOf 3)) y0 := hf 0 _ rfl
 rw [show Tryz.prog.cellsOf 3 = 1 by kernel_rfl] at g0
 have p0 := bulk_pos y0.1
 obtain ⟨z0, e0, q0, r0⟩ := dec_intW Tryz.underlying3 g0
 try simp at e0
 have g1 : Reads enc Tryz.prog W m 3 (([a0, a1, a2, a3, a4, a5, a6, a7, a8, a9] : List Value).drop 1 |>.take (Tryz.prog.cellsOf 3)) y1 := hf 1 _ rfl
 rw [show Tryz.prog.cellsOf 3 = 1 by kernel_rfl] at g1
 have p1 := bulk_pos y1.1
 obtain ⟨z1, e1, q1, r1⟩ := dec_intW Tryz.underlying3 g1
 try simp at e1
 have g2 : Reads enc Tryz.prog W m 9 (([a0, a1, a2, a3, a4, a5, a6, a7, a8, a9] : List Value).drop 2 |>.take (Tryz.prog.cellsOf 9)) y2 := hf 2 _ rfl
 rw [show Tryz.prog.cellsOf 9 = 1 by kernel_rfl] at g2
 have p2 := bulk_pos y2.1
 obtain ⟨z2, e2, r2⟩ := dec_strW Tryz.underlying9 g2
 try simp at e2
 have g3 : Reads enc Tryz.prog W m 9 (([a0, a1, a2, a3, a4, a5, a6, a7, a8, a9] : List Value).drop 3 |>.take (Tryz.prog.cellsOf 9)) y3 := hf 3 _ rfl
 rw [show Tryz.prog.cellsOf 9 = 1 by kernel_rfl] at g3
 have p3 := bulk_pos y3.1
 obtain ⟨z3, e3, r3⟩ := dec_strW Tryz.underlying9 g3
 try simp at e3
 have g4 : Reads enc Tryz.prog W m 24 (([a0, a1, a2, a3, a4, a5, a6, a7, a8, a9] : List Value).drop 4 |>.take (Tryz.prog.cellsOf 24)) y4 := hf 4 _ rfl
 rw [show Tryz.prog.cellsOf 24 = 1 by kernel_rfl] at g4
 have p4 := bulk_pos y4.1
 obtain ⟨⟨v4, l4⟩, e4, k4, q4, c4, r4⟩ := dec_sliceW acC (fun a => I64 a.1) mAc Tryz.underlying24 (show Tryz.prog.cellsOf 85 = 2 by kernel_rfl) (by decide) (fun n cs y h => decAc n cs y h) g4
 dsimp only at e4 k4 q4 c4 r4
 have ck4 : isCell v4 = true := by obtain ⟨sa, sc, hs⟩ := rd_shape k4; rw [hs]; rfl
 have sh4 : ∃ a n c, v4 = .slice a n c := by obtain ⟨sa, sc, hs⟩ := rd_shape k4; exact ⟨_, _, _, hs⟩
 try simp at e4
 have g5 : Reads enc Tryz.prog W m 3 (([a0, a1, a2, a3, a4, a5, a6, a7, a8, a9] : List Value).drop 5 |>.take (Tryz.prog.cellsOf 3)) y5 := hf 5 _ rfl
 rw [show Tryz.prog.cellsOf 3 = 1 by kernel_rfl] at g5
 have p5 := bulk_pos y5.1
 obtain ⟨z5, e5, q5, r5⟩ := dec_intW Tryz.underlying3 g5
 try simp at e5
 have g6 : Reads enc Tryz.prog W m 3 (([a0, a1, a2, a3, a4, a5, a6, a7, a8, a9] : List Value).drop 6 |>.take (Tryz.prog.cellsOf 3)) y6 := hf 6 _ rfl
 rw [show Tryz.prog.cellsOf 3 = 1 by kernel_rfl] at g6
 have p6 := bulk_pos y6.1
 obtain ⟨z6, e6, q6, r6⟩ := dec_intW Tryz.underlying3 g6
 try simp at e6
 have g7 : Reads enc Tryz.prog W m 4 (([a0, a1, a2, a3, a4, a5, a6, a7, a8, a9] : List Value).drop 7 |>.take (Tryz.prog.cellsOf 4)) y7 := hf 7 _ rfl
 rw [show Tryz.prog.cellsOf 4 = 1 by kernel_rfl] at g7
 have p7 := bulk_pos y7.1
 obtain ⟨z7, e7⟩ := dec_bool Tryz.underlying4 g7
 try simp at e7
 have g8 : Reads enc Tryz.prog W m 25 (([a0, a1, a2, a3, a4, a5, a6, a7, a8, a9] : List Value).drop 8 |>.take (Tryz.prog.cellsOf 25)) y8 := hf 8 _ rfl
 rw [show Tryz.prog.cellsOf 25 = 1 by kernel_rfl] at g8
 have p8 := bulk_pos y8.1
 obtain ⟨⟨v8, l8⟩, e8, k8, q8, c8, r8⟩ := dec_sliceW rqC (fun r => RqG (Old W) r) mRq Tryz.underlying25 (show Tryz.prog.cellsOf 28 = 10 by kernel_rfl) (by decide) (fun n cs y h => decRq n cs y h) g8
 dsimp only at e8 k8 q8 c8 r8
 have ck8 : isCell v8 = true := by obtain ⟨sa, sc, hs⟩ := rd_shape k8; rw [hs]; rfl
 have sh8 : ∃ a n c, v8 = .slice a n c := by obtain ⟨sa, sc, hs⟩ := rd_shape k8; exact ⟨_, _, _, hs⟩
 try simp at e8
 have g9 : Reads enc Tryz.prog W m 26 (([a0, a1, a2, a3, a4, a5, a6, a7, a8, a9] : List Value).drop 9 |>.take (Tryz.prog.cellsOf 26)) y9 := hf 9 _ rfl
 rw [show Tryz.prog.cellsOf 26 = 1 by kernel_rfl] at g9
 have p9 := bulk_pos y9.1
 obtain ⟨z9, e9, s9⟩ : ∃ z : Value, a9 = z ∧ ∃ a n c, z = .slice a n c := ⟨_, rfl, slice_shape Tryz.underlying26 g9⟩
 have ck9 : isCell z9 = true := by obtain ⟨sa, sn, sc, hs⟩ := s9; rw [hs]; rfl
 try simp at e9
 subst e0
 subst e1
 subst e2
 subst e3
 subst e4
 subst e5
 subst e6
 subst e7
 subst e8
 subst e9
 refine ⟨⟨z0, z1, z2, z3, a4, l4, z5, z6, z7, a8, a9⟩, l8, rfl, fun hb => ⟨⟨⟨q0, q1, q5, q6, k4, sh4, q4, sh8, s9⟩, by unfold mRq; dsimp only; omega⟩, k8, fun x hx => ⟨q8 x hx, ?_⟩⟩⟩
 have h6 := sum_mem (m := mRq) hx
 omega
theorem dec_ids12 {H : Type} {enc : TypeId × Value → H} {W : World} {fuel : Nat} {cs : List Value} {x : DataW H × List MemPlace} (h : Reads enc Tryz.prog W fuel 23 cs x) (hb : Rows.uptoBulk x.1 ≤ 1048576) : ∃ (v : Value) (l : List Bs), cs = [v] ∧ Ids (Old W) v l ∧ l.length ≤ Rows.uptoBulk x.1 := by
 obtain ⟨⟨v, l⟩, h1, h2, h3, h4, h5⟩ := dec_sliceW (fun s : Bs => [vstr s]) (fun _ => True) (fun s => s.length + 1) Tryz.underlying23 (show Tryz.prog.cellsOf 9 = 1 by kernel_rfl) (by decide) (fun n cs y h => by obtain ⟨s, e, hs⟩ := dec_strW Tryz.underlying9 h; exact ⟨s, e, trivial, hs⟩) h
 dsimp only at h1 h2 h3 h4 h5
 refine ⟨v, l, h1, ⟨fun h hp => by rw [← fm_strs]; exact h2 h hp, by omega, ?_⟩, by omega⟩
 rw [h1] at h
 exact slice_shape Tryz.underlying23 h
open Go Go.ChangeShapes Go.WideShapes Go.ChangeAt Go.RowKit
instance : Inhabited Wh := ⟨⟨0, false, nilV, [], ⟨0, 0, [], [], nilV, [], 0, 0, false, nilV, nilV⟩, []⟩⟩
theorem sum_at12 {l : List Nat} {i : Nat} (h : i < l.length) : l[i] ≤ l.sum := by
 have := sum_mem (m := id) (l := l) (List.getElem_mem h)
 simpa using this
structure WhQ (p : HP) (w : Wh) : Prop where
 ses : I64 w.ses
 ids : Ids p w.idv w.ids
 r : RqD p w.r w.subs
structure WhsQ (p : HP) (v : Value) (l : List Wh) : Prop where
 cells : ∀ h : Hp, p h → rdS 13 h v l.length (l.flatMap whC)
 len : l.length ≤ 1048576
 each : ∀ w ∈ l, WhQ p w
theorem WhsQ.A {p : HP} {v : Value} {l : List Wh} (h : WhsQ p v l) (hT : TabP p) : WhsA p v l := ⟨h.cells, h.len, fun w hw => ⟨(h.each w hw).ses, fun _ hs => (h.each w hw).r.wi hs (h.each w hw).ids hT⟩⟩
theorem dec_ids0 {H : Type} {enc : TypeId × Value → H} {W : World} {fuel : Nat} {cs : List Value} {x : DataW H × List MemPlace} (h : Reads enc Tryz.prog W fuel 23 cs x) : ∃ (v : Value) (l : List Bs), cs = [v] ∧ (Rows.uptoBulk x.1 ≤ 1048576 → Ids (Old W) v l) := by
 obtain ⟨⟨v, l⟩, h1, h2, h3, h4, h5⟩ := dec_sliceW (fun s : Bs => [vstr s]) (fun _ => True) (fun s => s.length + 1) Tryz.underlying23 (show Tryz.prog.cellsOf 9 = 1 by kernel_rfl) (by decide) (fun n cs y h => by obtain ⟨s, e, hs⟩ := dec_strW Tryz.underlying9 h; exact ⟨s, e, trivial, hs⟩) h
 dsimp only at h1 h2 h3 h4 h5
 refine ⟨v, l, h1, fun hb => ⟨fun h hp => by rw [← fm_strs]; exact h2 h hp, by omega, ?_⟩⟩
 rw [h1] at h
 exact slice_shape Tryz.underlying23 h
theorem decRqE {H : Type} {enc : TypeId × Value → H} {W : World} (n : Nat) (cs : List Value) (y : DataW H × List MemPlace) (h : Reads enc Tryz.prog W n 28 cs y) : ∃ (r0 : Rq) (l : List Rq), cs = rqC r0 ∧ (Rows.uptoBulk y.1 ≤ 1048576 → RqD (Old W) r0 l ∧ ∀ k ∈ l, ∃ ks, RqD (Old W) k ks) := by
 obtain ⟨xs, m, -, rfl, hlen, hxs, hf⟩ := DataW.trod_struct Tryz.underlying28 h
 rw [show Tryz.prog.cellsOf 28 = 10 by kernel_rfl] at hlen
 obtain ⟨a0, a1, a2, a3, a4, a5, a6, a7, a8, a9, rfl⟩ : ∃ a0 a1 a2 a3 a4 a5 a6 a7 a8 a9, cs = [a0, a1, a2, a3, a4, a5, a6, a7, a8, a9] := by
  match cs, hlen with
  | [a0, a1, a2, a3, a4, a5, a6, a7, a8, a9], _ => exact ⟨a0, a1, a2, a3, a4, a5, a6, a7, a8, a9, rfl⟩
 obtain ⟨y0, y1, y2, y3, y4, y5, y6, y7, y8, y9, rfl⟩ : ∃ y0 y1 y2 y3 y4 y5 y6 y7 y8 y9, xs = [y0, y1, y2, y3, y4, y5, y6, y7, y8, y9] := by
  match xs, hxs with
  | [y0, y1, y2, y3, y4, y5, y6, y7, y8, y9], _ => exact ⟨y0, y1, y2, y3, y4, y5, y6, y7, y8, y9, rfl⟩
 try simp only [Rows.uptoBulk, Rows.uptoBulkAll, List.map_cons, List.map_nil]
 have g0 : Reads enc Tryz.prog W m 3 (([a0, a1, a2, a3, a4, a5, a6, a7, a8, a9] : List Value).drop 0 |>.take (Tryz.prog.cellsOf 3)) y0 := hf 0 _ rfl
 rw [show Tryz.prog.cellsOf 3 = 1 by kernel_rfl] at g0
 have p0 := bulk_pos y0.1
 obtain ⟨z0, e0, q0, r0⟩ := dec_intW Tryz.underlying3 g0
 try simp at e0
 have g1 : Reads enc Tryz.prog W m 3 (([a0, a1, a2, a3, a4, a5, a6, a7, a8, a9] : List Value).drop 1 |>.take (Tryz.prog.cellsOf 3)) y1 := hf 1 _ rfl
 rw [show Tryz.prog.cellsOf 3 = 1 by kernel_rfl] at g1
 have p1 := bulk_pos y1.1
 obtain ⟨z1, e1, q1, r1⟩ := dec_intW Tryz.underlying3 g1
 try simp at e1
 have g2 : Reads enc Tryz.prog W m 9 (([a0, a1, a2, a3, a4, a5, a6, a7, a8, a9] : List Value).drop 2 |>.take (Tryz.prog.cellsOf 9)) y2 := hf 2 _ rfl
 rw [show Tryz.prog.cellsOf 9 = 1 by kernel_rfl] at g2
 have p2 := bulk_pos y2.1
 obtain ⟨z2, e2, r2⟩ := dec_strW Tryz.underlying9 g2
 try simp at e2
 have g3 : Reads enc Tryz.prog W m 9 (([a0, a1, a2, a3, a4, a5, a6, a7, a8, a9] : List Value).drop 3 |>.take (Tryz.prog.cellsOf 9)) y3 := hf 3 _ rfl
 rw [show Tryz.prog.cellsOf 9 = 1 by kernel_rfl] at g3
 have p3 := bulk_pos y3.1
 obtain ⟨z3, e3, r3⟩ := dec_strW Tryz.underlying9 g3
 try simp at e3
 have g4 : Reads enc Tryz.prog W m 24 (([a0, a1, a2, a3, a4, a5, a6, a7, a8, a9] : List Value).drop 4 |>.take (Tryz.prog.cellsOf 24)) y4 := hf 4 _ rfl
 rw [show Tryz.prog.cellsOf 24 = 1 by kernel_rfl] at g4
 have p4 := bulk_pos y4.1
 obtain ⟨⟨v4, l4⟩, e4, k4, q4, c4, r4⟩ := dec_sliceW acC (fun a => I64 a.1) mAc Tryz.underlying24 (show Tryz.prog.cellsOf 85 = 2 by kernel_rfl) (by decide) (fun n cs y h => decAc n cs y h) g4
 dsimp only at e4 k4 q4 c4 r4
 have ck4 : isCell v4 = true := by obtain ⟨sa, sc, hs⟩ := rd_shape k4; rw [hs]; rfl
 have sh4 : ∃ a n c, v4 = .slice a n c := by obtain ⟨sa, sc, hs⟩ := rd_shape k4; exact ⟨_, _, _, hs⟩
 try simp at e4
 have g5 : Reads enc Tryz.prog W m 3 (([a0, a1, a2, a3, a4, a5, a6, a7, a8, a9] : List Value).drop 5 |>.take (Tryz.prog.cellsOf 3)) y5 := hf 5 _ rfl
 rw [show Tryz.prog.cellsOf 3 = 1 by kernel_rfl] at g5
 have p5 := bulk_pos y5.1
 obtain ⟨z5, e5, q5, r5⟩ := dec_intW Tryz.underlying3 g5
 try simp at e5
 have g6 : Reads enc Tryz.prog W m 3 (([a0, a1, a2, a3, a4, a5, a6, a7, a8, a9] : List Value).drop 6 |>.take (Tryz.prog.cellsOf 3)) y6 := hf 6 _ rfl
 rw [show Tryz.prog.cellsOf 3 = 1 by kernel_rfl] at g6
 have p6 := bulk_pos y6.1
 obtain ⟨z6, e6, q6, r6⟩ := dec_intW Tryz.underlying3 g6
 try simp at e6
 have g7 : Reads enc Tryz.prog W m 4 (([a0, a1, a2, a3, a4, a5, a6, a7, a8, a9] : List Value).drop 7 |>.take (Tryz.prog.cellsOf 4)) y7 := hf 7 _ rfl
 rw [show Tryz.prog.cellsOf 4 = 1 by kernel_rfl] at g7
 have p7 := bulk_pos y7.1
 obtain ⟨z7, e7⟩ := dec_bool Tryz.underlying4 g7
 try simp at e7
 have g8 : Reads enc Tryz.prog W m 25 (([a0, a1, a2, a3, a4, a5, a6, a7, a8, a9] : List Value).drop 8 |>.take (Tryz.prog.cellsOf 25)) y8 := hf 8 _ rfl
 rw [show Tryz.prog.cellsOf 25 = 1 by kernel_rfl] at g8
 have p8 := bulk_pos y8.1
 obtain ⟨⟨v8, l8⟩, ws8, e8, k8, c8, n8, m8, -, q8⟩ := dec_sliceQV (N := Rows.uptoBulk y8.1) rqC (fun B o => B ≤ 1048576 → ∃ ks, RqD (Old W) o ks) Tryz.underlying25 (show Tryz.prog.cellsOf 28 = 10 by kernel_rfl) (by decide) (fun n cs y h => by obtain ⟨r0, l, e, q⟩ := decRqD n cs y h; exact ⟨r0, e, fun hb => ⟨l, q hb⟩⟩) g8 (by omega)
 dsimp only at e8 k8 q8 c8 n8 m8
 have ck8 : isCell v8 = true := by obtain ⟨sa, sc, hs⟩ := rd_shape k8; rw [hs]; rfl
 have sh8 : ∃ a n c, v8 = .slice a n c := by obtain ⟨sa, sc, hs⟩ := rd_shape k8; exact ⟨_, _, _, hs⟩
 try simp at e8
 have g9 : Reads enc Tryz.prog W m 26 (([a0, a1, a2, a3, a4, a5, a6, a7, a8, a9] : List Value).drop 9 |>.take (Tryz.prog.cellsOf 26)) y9 := hf 9 _ rfl
 rw [show Tryz.prog.cellsOf 26 = 1 by kernel_rfl] at g9
 have p9 := bulk_pos y9.1
 obtain ⟨z9, e9, s9⟩ : ∃ z : Value, a9 = z ∧ ∃ a n c, z = .slice a n c := ⟨_, rfl, slice_shape Tryz.underlying26 g9⟩
 have ck9 : isCell z9 = true := by obtain ⟨sa, sn, sc, hs⟩ := s9; rw [hs]; rfl
 try simp at e9
 subst e0
 subst e1
 subst e2
 subst e3
 subst e4
 subst e5
 subst e6
 subst e7
 subst e8
 subst e9
 refine ⟨⟨z0, z1, z2, z3, a4, l4, z5, z6, z7, a8, a9⟩, l8, rfl, fun hb => ?_⟩
 have hk : ∀ k ∈ l8, ∃ ks, RqD (Old W) k ks := fun k hk => by
  obtain ⟨i, hi, rfl⟩ := List.mem_iff_getElem.1 hk
  have hw : i < ws8.length := by omega
  exact q8 i hi hw (by have := sum_at12 hw; omega)
 exact ⟨⟨⟨⟨q0, q1, q5, q6, k4, sh4, q4, sh8, s9⟩, by unfold mRq; dsimp only; omega⟩, k8, fun x hx => (hk x hx).choose_spec.own⟩, hk⟩
theorem decWh {H : Type} {enc : TypeId × Value → H} {W : World} (n : Nat) (cs : List Value) (y : DataW H × List MemPlace) (h : Reads enc Tryz.prog W n 67 cs y) : ∃ w : Wh, cs = whC w ∧ (Rows.uptoBulk y.1 ≤ 1048576 → WhQ (Old W) w) := by
 obtain ⟨xs, m, -, rfl, hlen, hxs, hf⟩ := DataW.trod_struct Tryz.underlying67 h
 rw [show Tryz.prog.cellsOf 67 = 13 by kernel_rfl] at hlen
 obtain ⟨a0, a1, a2, a3, a4, a5, a6, a7, a8, a9, a10, a11, a12, rfl⟩ : ∃ a0 a1 a2 a3 a4 a5 a6 a7 a8 a9 a10 a11 a12, cs = [a0, a1, a2, a3, a4, a5, a6, a7, a8, a9, a10, a11, a12] := by
  match cs, hlen with
  | [a0, a1, a2, a3, a4, a5, a6, a7, a8, a9, a10, a11, a12], _ => exact ⟨a0, a1, a2, a3, a4, a5, a6, a7, a8, a9, a10, a11, a12, rfl⟩
 obtain ⟨y0, y1, y2, y3, rfl⟩ : ∃ y0 y1 y2 y3, xs = [y0, y1, y2, y3] := by
  match xs, hxs with
  | [y0, y1, y2, y3], _ => exact ⟨y0, y1, y2, y3, rfl⟩
 try simp only [Rows.uptoBulk, Rows.uptoBulkAll, List.map_cons, List.map_nil]
 have g0 : Reads enc Tryz.prog W m 3 (([a0, a1, a2, a3, a4, a5, a6, a7, a8, a9, a10, a11, a12] : List Value).drop 0 |>.take (Tryz.prog.cellsOf 3)) y0 := hf 0 _ rfl
 rw [show Tryz.prog.cellsOf 3 = 1 by kernel_rfl] at g0
 have p0 := bulk_pos y0.1
 obtain ⟨z0, e0, q0, r0⟩ := dec_intW Tryz.underlying3 g0
 try simp at e0
 have g1 : Reads enc Tryz.prog W m 4 (([a0, a1, a2, a3, a4, a5, a6, a7, a8, a9, a10, a11, a12] : List Value).drop 1 |>.take (Tryz.prog.cellsOf 4)) y1 := hf 1 _ rfl
 rw [show Tryz.prog.cellsOf 4 = 1 by kernel_rfl] at g1
 have p1 := bulk_pos y1.1
 obtain ⟨z1, e1⟩ := dec_bool Tryz.underlying4 g1
 try simp at e1
 have g2 : Reads enc Tryz.prog W m 23 (([a0, a1, a2, a3, a4, a5, a6, a7, a8, a9, a10, a11, a12] : List Value).drop 2 |>.take (Tryz.prog.cellsOf 23)) y2 := hf 2 _ rfl
 rw [show Tryz.prog.cellsOf 23 = 1 by kernel_rfl] at g2
 have p2 := bulk_pos y2.1
 obtain ⟨v2, l2, e2, q2⟩ := dec_ids0 g2
 try simp at e2
 have g3 : Reads enc Tryz.prog W m 28 (([a0, a1, a2, a3, a4, a5, a6, a7, a8, a9, a10, a11, a12] : List Value).drop 3 |>.take (Tryz.prog.cellsOf 28)) y3 := hf 3 _ rfl
 rw [show Tryz.prog.cellsOf 28 = 10 by kernel_rfl] at g3
 have p3 := bulk_pos y3.1
 obtain ⟨r3, l3, e3, q3⟩ := decRqD _ _ _ g3
 try simp [ptC, enC, rqC] at e3
 subst e0
 subst e1
 subst e2
 obtain ⟨rfl, rfl, rfl, rfl, rfl, rfl, rfl, rfl, rfl, rfl⟩ := e3
 exact ⟨⟨z0, z1, a2, l2, r3, l3⟩, rfl, fun hb => ⟨q0, q2 (by omega), q3 (by omega)⟩⟩
theorem dec_whs12 {H : Type} {enc : TypeId × Value → H} {W : World} {fuel : Nat} {cs : List Value} {x : DataW H × List MemPlace} (h : Reads enc Tryz.prog W fuel 62 cs x) (hb : Rows.uptoBulk x.1 ≤ 1048576) : ∃ (v : Value) (xs : List Wh), cs = [v] ∧ WhsQ (Old W) v xs := by
 obtain ⟨⟨v, xs⟩, ws, h1, h2, h3, h4, h5, -, h7⟩ := dec_sliceQV (N := 1048576) whC (fun B o => B ≤ 1048576 → WhQ (Old W) o) Tryz.underlying62 (show Tryz.prog.cellsOf 67 = 13 by kernel_rfl) (by decide) (fun n cs y h => decWh n cs y h) h (by omega)
 dsimp only at h1 h2 h3 h4 h7
 refine ⟨v, xs, h1, h2, h3, fun o ho => ?_⟩
 obtain ⟨i, hi, rfl⟩ := List.mem_iff_getElem.1 ho
 have hw : i < ws.length := by omega
 exact h7 i hi hw (Nat.le_trans (sum_at12 hw) h5)
end Go.Proofs.YtkjlihfalfbmjaaGreatDoor
