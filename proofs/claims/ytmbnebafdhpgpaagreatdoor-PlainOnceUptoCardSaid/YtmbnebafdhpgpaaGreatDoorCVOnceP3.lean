/- Own work, in part by program, for plainOnce.proved. -/
import Derived.Test.YtmbnebafdhpgpaaGreatDoorCVOnceP2
import Derived.Test.YtmbnebafdhpgpaaGreatDoorCVOnceP0
import Derived.Test.YtmbnebafdhpgpaaGreatDoorCVOnceP1
import Derived.RangeFuncRecord
import Derived.Shelf.Slices.CompactI
import Derived.Shelf.Slices.Cells
import Derived.Shelf.Spec.TrailingZeros
import Derived.Ground.Names7Prog
import Derived.Test.YtmbnebafdhpgpaaGreatDoorProg
set_option maxRecDepth 100000
namespace Go.Proofs.YtmbnebafdhpgpaaGreatDoor
open Go
structure PtR (y : Pt) : Prop where
 i : PtI y
 acl : (aclB y.acl).length ≤ 33000000
 many : y.acl.length ≤ 1048576
 path : y.path.length ≤ 1048576
 data : y.data.length ≤ 1048576
theorem numB_ten {n : Int} (h : I64 n) : (numB n).length ≤ 10 := numB_len8 h
theorem big_get12 {α : Type} {f : α → HP} : ∀ {l : List α} {x : α} {h : Hp}, x ∈ l → bigR f l h → ∃ h1, (∀ b o, h1 b = some o → h b = some o) ∧ f x h1
 | y :: l, x, h, hx, hp => by
  have hq := big_cons hp
  rcases List.mem_cons.1 hx with rfl | hx
  ·exact sep_head hq
  ·obtain ⟨h1, a1, q1⟩ := sep_head (sep_perm (List.Perm.swap _ _ _) hq)
   obtain ⟨h2, a2, q2⟩ := big_get12 hx q1
   exact ⟨h2, fun b o hb => a1 b o (a2 b o hb), q2⟩
 | [], _, _, hx, _ => by cases hx
theorem ent_acl {e : En} {h : Hp} (hp : entR e h) : rdS 2 h e.x.aclV e.x.acl.length (e.x.acl.flatMap acC) := by
 obtain ⟨h1, a1, q1⟩ := sep_head hp
 exact rdS_mono (slR_rd q1) a1
theorem ent_subs {e : En} {h : Hp} (hp : entR e h) : rdS 8 h e.x.subsV e.subs.length (e.subs.flatMap ptC) := by
 obtain ⟨h1, a1, q1⟩ := sep_head (sep_perm (List.Perm.swap _ _ _) hp)
 exact rdS_mono (slR_rd q1) a1
theorem ent_each {e : En} {h : Hp} (hp : entR e h) {y : Pt} (hy : y ∈ e.subs) : rdS 2 h y.aclV y.acl.length (y.acl.flatMap acC) := by
 have hq : sep [bigR aclR e.subs, aclR e.x, subsR e] h := sep_perm (by
  refine List.Perm.trans (List.Perm.cons _ (List.Perm.swap _ _ _)) (List.Perm.swap _ _ _)) hp
 obtain ⟨h1, a1, q1⟩ := sep_head hq
 obtain ⟨h2, a2, q2⟩ := big_get12 hy q1
 exact rdS_mono (slR_rd q2) (fun b o hb => a1 b o (a2 b o hb))
theorem when_code {b : Prop} [Decidable b] {e : Int} (h : 0 ≤ e ∧ e ≤ 110) : 0 ≤ whenZ b e ∧ whenZ b e ≤ 110 := by
 show 0 ≤ (if b then e else 0) ∧ (if b then e else 0) ≤ 110
 split <;> omega
theorem check_code (p : Bs) : 0 ≤ checkZ p ∧ checkZ p ≤ 110 := by rcases check_err p with h | h | h <;> omega
theorem first_code {l : List Int} (h : ∀ e ∈ l, 0 ≤ e ∧ e ≤ 110) : 0 ≤ firstZ l ∧ firstZ l ≤ 110 := by
 rcases first_mem l with g | g
 ·omega
 ·exact h _ g
theorem wrong_code (r : Rq) : 0 ≤ wrongE r ∧ wrongE r ≤ 110 := by
 unfold wrongE
 split
 ·exact when_code (by omega)
 split
 ·exact when_code (by omega)
 ·omega
theorem part_code (τ : Tr) (u : Who) (r : Rq) : 0 ≤ (partP τ u r).2 ∧ (partP τ u r).2 ≤ 110 := by
 unfold partP
 split
 ·refine first_code fun e he => ?_
  simp only [createE, List.mem_cons, List.not_mem_nil, or_false] at he
  rcases he with rfl | rfl | rfl | rfl | rfl | rfl | rfl | rfl | rfl | rfl <;> first | exact check_code _ | exact when_code (by omega)
 split
 ·refine first_code fun e he => ?_
  simp only [eraseE, List.mem_cons, List.not_mem_nil, or_false] at he
  rcases he with rfl | rfl | rfl | rfl | rfl | rfl <;> first | exact check_code _ | exact when_code (by omega)
 split
 ·refine first_code fun e he => ?_
  simp only [nodeE, List.mem_cons, List.not_mem_nil, or_false] at he
  rcases he with rfl | rfl | rfl | rfl | rfl <;> first | exact check_code _ | exact wrong_code _ | exact when_code (by omega)
 ·exact ⟨by show (0 : Int) ≤ 110; decide, by show (110 : Int) ≤ 110; decide⟩
theorem refusal_R {e n : Int} (he : I64 e) (hn : I64 n) : PtR (refusal e n) :=
 ⟨⟨⟨by show (-9223372036854775808 : Int) ≤ 8; decide, by show (8 : Int) ≤ 9223372036854775807; decide⟩, I64.zero, hn, he, by show 0 < U64; decide, by show 0 < U64; decide, by show 0 < U64; decide, fun a ha => by cases ha⟩, acl_nil_w.long, Nat.zero_le _, Nat.zero_le _, Nat.zero_le _⟩
theorem part_R {τ : Tr} {u : Who} {r : Rq} {p : HP} {iv : Value} (h : WiA p u iv r) (ha : AclW r.acl) : PtR (partP τ u r).1 := by
 have h1 := part_n τ u h.ses (by have := h.rq.data; omega) ha
 exact ⟨part_i h ha, h1.acl.long, part_acl h τ, part_path h τ, h1.data⟩
theorem PtR.of {y z : Pt} (e : y.pl = z.pl) (h : PtR z) : PtR y := by
 have hk : PtR z.pl := ⟨⟨h.i.kind, h.i.own, h.i.num, h.i.err, h.i.path, h.i.data, h.i.many, h.i.acl⟩, h.acl, h.many, h.path, h.data⟩
 rw [← e] at hk
 exact ⟨⟨hk.i.kind, hk.i.own, hk.i.num, hk.i.err, hk.i.path, hk.i.data, hk.i.many, hk.i.acl⟩, hk.acl, hk.many, hk.path, hk.data⟩
def Ids (p : HP) (v : Value) (l : List Bs) : Prop := (∀ h : Hp, p h → rdS 1 h v l.length (strs l)) ∧ l.length ≤ 1048576 ∧ ∃ a n c, v = .slice a n c
structure WiD (p : HP) (u : Who) (iv : Value) (r : Rq) (subs : List Rq) : Prop where
 w : WiA p u iv r
 a : AclW r.acl
 rd : ∀ h : Hp, p h → rdS 10 h r.subsV subs.length (subs.flatMap rqC)
 each : ∀ x ∈ subs, WiA p u iv x
 acls : ∀ x ∈ subs, AclW x.acl
def nilP : HP := fun _ => True
theorem nilP_ok (h : Hp) : nilP h := trivial
def closeT : List Bs → Tr → Tr
 | [], τ => τ
 | p :: l, τ => closeT l (applyZ τ τ.zx (delX τ p) []).1
theorem closeT_app : ∀ (l m : List Bs) (τ : Tr), closeT (l ++ m) τ = closeT m (closeT l τ)
 | [], _, _ => rfl
 | _ :: l, m, _ => closeT_app l m _
theorem closeL_app : ∀ (l m : List Bs) (τ : Tr), closeL (l ++ m) τ = closeL l τ ++ closeL m (closeT l τ)
 | [], _, _ => rfl
 | p :: l, m, τ => by
  show delX τ p :: closeL (l ++ m) _ = (delX τ p :: closeL l _) ++ _
  rw [closeL_app l m]; rfl
theorem closeL_len : ∀ (l : List Bs) (τ : Tr), (closeL l τ).length = l.length
 | [], _ => rfl
 | _ :: l, _ => congrArg Nat.succ (closeL_len l _)
theorem closeT_step {l : List Bs} {i : Nat} (hi : i < l.length) (τ : Tr) : closeT (l.take (i + 1)) τ = (applyZ (closeT (l.take i) τ) (closeT (l.take i) τ).zx (delX (closeT (l.take i) τ) l[i]) []).1 := by
 rw [List.take_succ_eq_append_getElem hi, closeT_app]; rfl
theorem closeL_step {l : List Bs} {i : Nat} (hi : i < l.length) (τ : Tr) : closeL (l.take (i + 1)) τ = closeL (l.take i) τ ++ [delX (closeT (l.take i) τ) l[i]] := by
 rw [List.take_succ_eq_append_getElem hi, closeL_app]; rfl
theorem closeT_ok {N : Nat} : ∀ (l : List Bs) {τ : Tr}, τ.Ok N → (closeT l τ).Ok (N + l.length)
 | [], _, h => h
 | p :: l, τ, h => by
  have h1 : (applyZ τ τ.zx (delX τ p) []).1.Ok (N + 1) := h.apply τ.zx (delX τ p) [] (Nat.zero_le _) (fun _ h => by cases h)
  have h2 := closeT_ok l h1
  rw [List.length_cons, show N + (l.length + 1) = N + 1 + l.length by omega]
  exact h2
theorem closeL_plain : ∀ (l : List Bs) (τ : Tr), ∀ y ∈ closeL l τ, y.aclV = nilV ∧ y.acl = [] ∧ y.subsV = nilV ∧ y.pl = y
 | [], _, y, hy => by cases hy
 | p :: l, τ, y, hy => by
  rcases List.mem_cons.1 (show y ∈ delX τ p :: closeL l _ from hy) with rfl | hy
  ·exact ⟨rfl, rfl, rfl, rfl⟩
  ·exact closeL_plain l _ y hy
theorem map_pl : ∀ {l : List Pt}, (∀ y ∈ l, y.pl = y) → l.map Pt.pl = l
 | [], _ => rfl
 | y :: l, h => by rw [List.map_cons, h y List.mem_cons_self, map_pl fun z hz => h z (List.mem_cons_of_mem _ hz)]
theorem owned_short {τ : Tr} {N : Nat} (ho : τ.Ok N) {s : Int} {p : Bs} (hp : p ∈ ownedZ τ s) : p.length ≤ 60 := by
 unfold ownedZ at hp
 obtain ⟨y, hy, rfl⟩ := List.mem_map.1 hp
 exact able_len (ho.able y (List.mem_filter.1 hy).1)
theorem big_none : ∀ {l : List Pt}, (∀ y ∈ l, y.aclV = nilV ∧ y.acl = []) → ∀ h : Hp, bigR aclR l h
 | [], _, h => big_nil h
 | y :: l, hl, h => by
  refine big_of_cons ?_
  obtain ⟨h1, h2⟩ := hl y List.mem_cons_self
  have ha : ∀ g : Hp, aclR y g := fun g => by
   unfold aclR
   rw [h1, h2]
   exact slR_nil _ 2 g
  exact ⟨fun _ => none, h, fun _ => .inl rfl, (fun _ _ e => by cases e), fun _ _ e => e, ha _, h, fun _ => none, fun _ => .inr rfl, fun _ _ e => e, (fun _ _ e => by cases e), big_none (fun z hz => hl z (List.mem_cons_of_mem _ hz)) _, trivial⟩
theorem flat8_len (l : List Pt) : (l.flatMap ptC).length = l.length * 8 := flatMap_len (fun _ _ => rfl)
theorem spl_app {xs ys zs : List Value} {n : Nat} (hn : xs.length = n) (hl : zs.length = ys.length) : spl (xs ++ ys) n zs = xs ++ zs := by
 unfold spl
 have e : (xs ++ ys).drop (n + zs.length) = [] := List.drop_eq_nil_of_le (by rw [List.length_append]; omega)
 rw [e, ← hn, List.take_left, List.append_nil]
def clsC (s : Int) (z : Value) : List Value := [vint 6, vstr [], vstr [], nilV, vint s, vint 0, vint 0, z]
def clsJ (K : HP) (c b : Nat) (τ : Tr) (s : Int) (l : List Bs) (i : Nat) : HP := fun h => ∃ z : Value, (∃ a k, z = .slice a i k) ∧ sep [K, treeR c (closeT (l.take i) τ), ptc b (clsC s z) 60, slR 60 8 z i ((closeL (l.take i) τ).flatMap ptC)] h
theorem multiL_R {p : HP} {u : Who} {iv : Value} : ∀ {l : List Rq} {τ : Tr}, (∀ r ∈ l, WiA p u iv r ∧ AclW r.acl) → (∀ y ∈ (multiL u l τ).2.1, PtR y) ∧ (multiL u l τ).2.1.length ≤ l.length
 | [], _, _ => ⟨(fun _ h => by cases h), Nat.le_refl _⟩
 | r :: l, τ, h => by
  rw [multi_cons]
  split
  ·exact ⟨(fun _ g => by cases g), Nat.zero_le _⟩
  ·obtain ⟨h1, h2⟩ := multiL_R (l := l) (τ := (applyZ τ τ.zx (partP τ u r).1 []).1) (fun x hx => h x (List.mem_cons_of_mem _ hx))
   have h0 := h r List.mem_cons_self
   refine ⟨fun y hy => ?_, Nat.succ_le_succ h2⟩
   rcases List.mem_cons.1 hy with rfl | hy
   ·exact part_R h0.1 h0.2
   ·exact h1 y hy
theorem multi_stop_i {u : Who} : ∀ {l : List Rq} {τ : Tr} {i : Nat} {e : Int}, (multiL u l τ).2.2 = some (i, e) → i < l.length ∧ 0 ≤ e ∧ e ≤ 110
 | [], _, _, _, h => by cases h
 | r :: l, τ, i, e, h => by
  rw [multi_cons] at h
  split at h
  ·have h2 : (0, (partP τ u r).2) = (i, e) := Option.some.inj h
   obtain ⟨rfl, rfl⟩ := Prod.mk.inj h2
   have := part_code τ u r
   exact ⟨by rw [List.length_cons]; omega, this.1, this.2⟩
  ·have h2 : Option.map (fun x : Nat × Int => (x.1 + 1, x.2)) (multiL u l (applyZ τ τ.zx (partP τ u r).1 []).1).2.2 = some (i, e) := h
   obtain ⟨⟨j, k⟩, h3, h4⟩ := Option.map_eq_some_iff.1 h2
   obtain ⟨rfl, rfl⟩ := Prod.mk.inj h4
   have := multi_stop_i h3
   exact ⟨by rw [List.length_cons]; omega, this.2.1, this.2.2⟩
theorem multi_R {p : HP} {u : Who} {iv : Value} {l : List Rq} {τ : Tr} (h : ∀ r ∈ l, WiA p u iv r ∧ AclW r.acl) : PtR (multiP τ u l).1 ∧ (∀ y ∈ (multiP τ u l).2, PtR y) ∧ (multiP τ u l).2.length ≤ 8 := by
 have hm : I64 (-1) := ⟨by decide, by decide⟩
 unfold multiP
 split
 ·exact ⟨refusal_R ⟨by decide, by decide⟩ hm, (fun _ g => by cases g), by show 0 ≤ 8; decide⟩
 ·rename_i hl
  have h8 : l.length ≤ 8 := by omega
  obtain ⟨h1, h2⟩ := multiL_R (τ := τ) h
  split
  ·rename_i i e he
   have hie : i < 8 ∧ 0 ≤ e ∧ e ≤ 110 := by
    have := multi_stop_i he
    omega
   exact ⟨refusal_R ⟨by omega, by omega⟩ ⟨by omega, by omega⟩, (fun _ g => by cases g), by show 0 ≤ 8; decide⟩
  ·refine ⟨⟨⟨⟨by show (-9223372036854775808 : Int) ≤ 7; decide, by show (7 : Int) ≤ 9223372036854775807; decide⟩, I64.zero, I64.zero, I64.zero, by show 0 < U64; decide, by show 0 < U64; decide, by show 0 < U64; decide, fun a ha => by cases ha⟩, acl_nil_w.long, Nat.zero_le _, Nat.zero_le _, Nat.zero_le _⟩, h1, by show (multiL u l τ).2.1.length ≤ 8; omega⟩
theorem del_R {τ : Tr} {p : Bs} (hp : p.length ≤ 60) : PtR (delX τ p) ∧ (ptB (delX τ p)).length ≤ 200 := by
 have hu : U64 = 18446744073709551616 := rfl
 have hn : I64 (wrapI ((statD τ (parentZ p)).cver + 1)) := wrap_i64 _
 have hR : PtR (delX τ p) := ⟨⟨⟨by show (-9223372036854775808 : Int) ≤ 2; decide, by show (2 : Int) ≤ 9223372036854775807; decide⟩, I64.zero, hn, I64.zero, by show p.length < U64; omega, by show 0 < U64; decide, by show 0 < U64; decide, fun a ha => by cases ha⟩, acl_nil_w.long, Nat.zero_le _, by show p.length ≤ _; omega, Nat.zero_le _⟩
 refine ⟨hR, ?_⟩
 have h1 := numB_ten hR.i.kind
 have h2 := sev_len10 (u := p.length) (by omega)
 have h5 := numB_ten hR.i.own
 have h6 := numB_ten hR.i.num
 have h7 := numB_ten hR.i.err
 have h8 : (txtB (delX τ p).path).length ≤ 70 := by
  show (txtB p).length ≤ 70
  unfold txtB cntB
  rw [List.length_append]; omega
 have h9 : (txtB (delX τ p).data).length ≤ 10 := by
  show (txtB []).length ≤ 10
  simp [txtB, cntB, sevZ]
 have h10 : (aclB (delX τ p).acl).length ≤ 10 := by
  show (aclB []).length ≤ 10
  simp [aclB, cntB, sevZ]
 unfold ptB
 simp only [List.flatMap_cons, List.flatMap_nil, List.length_append, List.length_nil]
 omega
theorem closeL_R : ∀ {l : List Bs} {τ : Tr}, (∀ p ∈ l, p.length ≤ 60) → ∀ y ∈ closeL l τ, PtR y ∧ (ptB y).length ≤ 200
 | [], _, _, _, h => by cases h
 | p :: l, τ, h, y, hy => by
  rcases List.mem_cons.1 (show y ∈ delX τ p :: closeL l _ from hy) with rfl | hy
  ·exact del_R (h p List.mem_cons_self)
  ·exact closeL_R (fun x hx => h x (List.mem_cons_of_mem _ hx)) y hy
def readK (k : Int) : Prop := k = 9 ∨ k = 10 ∨ k = 11 ∨ k = 12
instance (k : Int) : Decidable (readK k) := inferInstanceAs (Decidable (_ ∨ _))
def readE (τ : Tr) (ids : List Bs) (r : Rq) : List Int := [whenZ (¬ readK r.kind) 110, checkZ r.path, whenZ (¬ thereT τ r.path) 60, whenZ (r.kind ≠ 10 ∧ ¬ mayT τ ids r.path 1) 65]
def readX (τ : Tr) (ids : List Bs) (r : Rq) : Int := firstZ (readE τ ids r)
def readAl (τ : Tr) (ids : List Bs) (r : Rq) : List Ac := if readX τ ids r = 0 ∧ r.kind = 12 then aclD τ r.path else []
def readKl (τ : Tr) (ids : List Bs) (r : Rq) : List Bs := if readX τ ids r = 0 ∧ r.kind = 11 then kidsZ τ r.path else []
def readR (τ : Tr) (ids : List Bs) (r : Rq) (av kv : Value) : Rp :=
 ⟨r.xid, τ.zx, readX τ ids r, [], if readX τ ids r = 0 ∧ r.kind = 9 then dataD τ r.path else [], if readX τ ids r = 0 then statD τ r.path else st0, av, kv, nilV⟩
theorem read_there {τ : Tr} {ids : List Bs} {r : Rq} (h : readX τ ids r = 0) : readK r.kind ∧ thereT τ r.path := by
 have h0 := first_zero _ h
 have h1 := h0 (whenZ (¬ readK r.kind) 110) (by unfold readE; simp)
 have h2 := h0 (whenZ (¬ thereT τ r.path) 60) (by unfold readE; simp)
 constructor
 ·unfold whenZ at h1
  split at h1
  ·cases h1
  ·rename_i g; exact Decidable.not_not.1 g
 ·unfold whenZ at h2
  split at h2
  ·cases h2
  ·rename_i g; exact Decidable.not_not.1 g
theorem readAl_no {τ : Tr} {ids : List Bs} {r : Rq} (h : ¬ (readX τ ids r = 0 ∧ r.kind = 12)) : readAl τ ids r = [] := if_neg h
theorem readKl_no {τ : Tr} {ids : List Bs} {r : Rq} (h : ¬ (readX τ ids r = 0 ∧ r.kind = 11)) : readKl τ ids r = [] := if_neg h
theorem readAl_yes {τ : Tr} {ids : List Bs} {r : Rq} (h : readX τ ids r = 0) (hk : r.kind = 12) : readAl τ ids r = aclD τ r.path := if_pos ⟨h, hk⟩
theorem readKl_yes {τ : Tr} {ids : List Bs} {r : Rq} (h : readX τ ids r = 0) (hk : r.kind = 11) : readKl τ ids r = kidsZ τ r.path := if_pos ⟨h, hk⟩
theorem readR_bad {τ : Tr} {ids : List Bs} {r : Rq} {av kv : Value} (h : readX τ ids r ≠ 0) : readR τ ids r av kv = ⟨r.xid, τ.zx, readX τ ids r, [], [], st0, av, kv, nilV⟩ := by
 unfold readR
 rw [if_neg (fun g => h g.1), if_neg h]
theorem readR_get {τ : Tr} {ids : List Bs} {r : Rq} {av kv : Value} (h : readX τ ids r = 0) (hk : r.kind = 9) : readR τ ids r av kv = ⟨r.xid, τ.zx, 0, [], dataD τ r.path, statD τ r.path, av, kv, nilV⟩ := by
 unfold readR
 rw [if_pos ⟨h, hk⟩, if_pos h, h]
theorem readR_other {τ : Tr} {ids : List Bs} {r : Rq} {av kv : Value} (h : readX τ ids r = 0) (hk : ¬ r.kind = 9) : readR τ ids r av kv = ⟨r.xid, τ.zx, 0, [], [], statD τ r.path, av, kv, nilV⟩ := by
 unfold readR
 rw [if_neg (fun g => hk g.2), if_pos h, h]
theorem RqA.up {a p : HP} {r : Rq} (h : RqA p r) : RqA (sep [a, p]) r := ⟨h.kind, h.xid, h.flags, h.ver, h.path, h.data, rd_tail h.acl, h.many, h.ids, h.sub, h.arm⟩
theorem WiA.more {a p : HP} {s : Int} {ids all : List Bs} {iv iv2 : Value} {r : Rq} (h : WiA p ⟨s, ids⟩ iv r) (hr : ∀ h : Hp, a h → rdS 1 h iv2 all.length (strs all)) (hl : all.length ≤ 1048576) (hs : ∃ a n c, iv2 = .slice a n c) : WiA (sep [a, p]) ⟨s, all⟩ iv2 r := ⟨h.rq.up, h.ses, rd_head hr, hl, hs, h.ashape, h.tab.up⟩
theorem WiD.more {a p : HP} {s : Int} {ids all : List Bs} {iv iv2 : Value} {r : Rq} {subs : List Rq} (h : WiD p ⟨s, ids⟩ iv r subs) (hr : ∀ h : Hp, a h → rdS 1 h iv2 all.length (strs all)) (hl : all.length ≤ 1048576) (hs : ∃ a n c, iv2 = .slice a n c) : WiD (sep [a, p]) ⟨s, all⟩ iv2 r subs :=
 ⟨h.w.more hr hl hs, h.a, rd_tail h.rd, fun x hx => (h.each x hx).more hr hl hs, h.acls⟩
theorem WiA.z {p : HP} {s : Int} {ids : List Bs} {iv : Value} {r : Rq} (h : WiA p ⟨s, ids⟩ iv r) : WiA p ⟨0, ids⟩ iv r := ⟨h.rq, I64.zero, h.ids, h.few, h.shape, h.ashape, h.tab⟩
/-! ### Steps -/
def plainK (x : Pt) : Prop := x.kind ≠ 5 ∧ x.kind ≠ 6 ∧ x.kind ≠ 7 ∧ x.kind ≠ 8
theorem plainK_of {x : Pt} (h : x.kind = 0 ∨ x.kind = 1 ∨ x.kind = 2 ∨ x.kind = 3 ∨ x.kind = 4) : plainK x := by
 unfold plainK; omega
theorem part_plain (τ : Tr) (u : Who) (r : Rq) : plainK (partP τ u r).1 := by
 refine plainK_of ?_
 unfold partP
 split
 ·exact .inr (.inl rfl)
 split
 ·exact .inr (.inr (.inl rfl))
 split
 ·unfold nodeX
  split
  ·exact .inr (.inr (.inr (.inl rfl)))
  split
  ·exact .inr (.inr (.inr (.inr rfl)))
  ·exact .inl rfl
 ·exact .inl rfl
section
variable {P : Program} {ops : Array Oper} {n : Nat} {RO : List HP} {H : List Nat} {Fin : EF → List HP → Prop}
variable {j : Nat} {S : List Nat} {E : Env} {RW : List HP} {op : Op} {ty : TypeId} {pos : String} {aft : Array Edge}
end
section
variable {P : Program} {W : World} {n : Nat} {ds : List Deferred} {E : Env} {L R : List HP} {Q : Exit → Act → World → Prop}
theorem OpSpec.append1S {t e : TypeId} {ty : TypeId} {x y : Operand} {v : Value} {b n m c sz by' : Nat} {xs l : List Value} {T : TypeId} {z : Value} {zl : List Value} {ts : Array TypeId} (hts : ts = #[t, t]) (hx : ev E x = some v) (hy : ev E y = some (.slice (some ⟨b, 0, none⟩) m c)) (ht : elemOf' P t = some (e, sz, by'))
  (hz : zeroOf P e = some z) (hzc : z.cells = zl.toArray) (hzl : zl.length = sz) (hcell : ∀ y ∈ l, isCell y = true) (hl : l.length = m * sz) (hmc : m ≤ c) (hb : (n + m) * by' ≤ 140737488355328) (hb0 : 0 < by') (hm : 0 < m) :
  OpSpec P ⟨none, .call { callee := .builtin .append, args := #[x, y], argTypes := ts }, ty, "", #[], none⟩ E [slR e sz v n xs, ptc b l T] fun v' L' => ∃ b' c', v' = .slice (some ⟨b', 0, none⟩) (n + m) c' ∧ L' = [slR e sz v' (n + m) (xs ++ l)] := by
 intro ρ w F ha hs
 refine (OpSpec.append1 (ty := ty) hts hx hy ht hz hzc hzl hcell hl hmc hb hb0 ρ w F ha hs).mono ?_
 rintro v' w' ⟨L', ⟨⟨a, k, rfl⟩, rfl⟩, hs', hk⟩
 obtain ⟨h1, a1, hp⟩ := sep_head hs'
 rcases hp with ⟨h2, h3, -⟩ | ⟨b', cap, rest, fr, h2, -⟩
 ·omega
 ·simp only [Value.slice.injEq] at h2
  obtain ⟨rfl, -, rfl⟩ := h2
  exact ⟨_, ⟨b', k, rfl, rfl⟩, hs', hk⟩
/-! ### Code in a round's frame -/
abbrev FR (l : Nat) : Fence := Fence.wide.inRound l
def noDefer (o : Oper) : Bool := match o.op with
 | .defer _ => false
 | _ => true
theorem noDefer_op {o : Oper} (h : noDefer o = true) : ∀ c, o.op ≠ .defer c := by
 intro c e
 unfold noDefer at h
 rw [e] at h
 cases h
theorem rowsIn_of {F : Fence} (hF : ∀ m m', StepsIn (Machine.fenced P F) P m m' ↔ Steps P m m') {m : Nat} {row : String} {args : Array Value} {w : World} {K : Value → World → Prop} (h : Rows P row args w K) : RowsIn F m P row args w K :=
 fun c cs _ => let ⟨v, w', r, s⟩ := h c cs; ⟨v, w', r, (hF _ _).2 s⟩
theorem upon_round {l m : Nat} {o : Oper} {a : Act} {next next' : Act → World → Prop} (hn : ∀ a w, next a w → next' a w) {r : Result Next} (h : o.upon P a next Q r) : o.uponIn (FR l) m P a next' Q r := by
  cases r with
  | ok nx w' =>
    cases nx <;> first | exact hn _ _ h | exact h.elim | skip
    · refine ⟨(fun hd => by cases hd), ?_⟩
      have h1 : CallsIn Fence.wide (m - 1) P _ _ w' _ := callsIn_wide.2 h
      have h2 : CallsIn (FR l) (m - 1) P _ _ w' _ := CallsIn.mono h1 (R' := fun e w'' => match e with
        | .returned v => next' (a.put o.dst v) w''
        | .panicked chain => Q (.panic chain) a w''
        | .outgrown => LetsOut Q) (by
          intro e w'' hq
          cases e
          · exact hn _ _ hq
          · exact hq
          · exact hq)
      exact h2.mono (by intro e w'' hq; cases e <;> exact hq)
    · exact ⟨(fun hd => by cases hd), RowsIn.mono (rowsIn_of (F := FR l) (fun _ _ => stepsIn_wide) h) (fun v w'' hq => hn _ _ hq)⟩
  | halt x w' => cases x <;> first | exact h | exact h.elim
theorem ops_round {l m : Nat} {ops : Array Oper} (hQ : ¬ LetsOut Q) (hnd : ∀ (i : Nat) (o : Oper), ops[i]? = some o → noDefer o = true) : ∀ (idx : List Nat) (a : Act) (w : World), wpOps P ops Q idx a w → wpOpsIn (FR l) m P ops Q idx a w
 | [], _, _, h => h
 | i :: rest, a, w, h => by
  unfold wpOps at h
  unfold wpOpsIn
  cases ho : ops[i]? with
  | none => rw [ho] at h; exact ops_round hQ hnd rest a w h
  | some o =>
   rw [ho] at h
   dsimp only at h ⊢
   split at h
   ·rename_i hw
    rw [if_pos hw]
    rcases h with h | h
    ·refine ⟨fun _ _ => trivial, ?_⟩
     rw [Oper.semAt_eq _ _ _ (noDefer_op (hnd _ _ ho))]
     exact upon_round (fun a w => ops_round hQ hnd rest a w) h
    ·exact absurd h.2 hQ
   ·rename_i hw
    rw [if_neg hw]
    exact ⟨fun _ _ => trivial, ops_round hQ hnd rest _ _ h⟩
theorem noDefer_all {os : List Oper} (h : os.all noDefer = true) : ∀ (i : Nat) (o : Oper), os.toArray[i]? = some o → noDefer o = true := by
 intro i o ho
 rw [List.getElem?_toArray] at ho
 exact List.all_eq_true.1 h o (List.mem_of_getElem? ho)
theorem GR.seq {F : Fence} {m : Nat} {x y : Code} (h : G W n ds E L (x.wpIn F m P (Exit.then (y.wpIn F m P Q) Q))) : G W n ds E L ((Code.seq x y).wpIn F m P Q) := fun a w he hk hs => wpIn_seq (h a w he hk hs)
theorem GR.block {F : Fence} {m id : Nat} {c : Code} (h : G W n ds E L (c.wpIn F m P (Exit.inBlock id Q))) : G W n ds E L ((Code.block id c).wpIn F m P Q) := fun a w he hk hs => wpIn_block (h a w he hk hs)
theorem GR.region {l m id : Nat} {os : List Oper} (hQ : ¬ LetsOut Q) (hnd : os.all noDefer = true) (h : G W n ds E L (wpList P os.toArray Q os)) : G W n ds E L ((Code.region id os.toArray false).wpIn (FR l) m P Q) := by
 intro a w he hk hs
 refine wpIn_region (ops_round hQ (noDefer_all hnd) _ _ _ ?_)
 rw [List.range_eq_range', List.size_toArray, wpOps_eq_wpList os 0 (by simp)]
 exact h a w he hk hs
theorem draw_any {id : Nat} {l : List Oper} (H : List Nat) (Ss : List (List Nat))
  (hc : (directB l.toArray && permB l.toArray.size Ss.flatten && chainB l.toArray Ss) = true)
  (h : Phases P l.toArray n H W ds (Q .normal) Ss (look E) L) : G W n ds E L fun a w => wpAny P .any l.toArray Q l.toArray.size (Array.replicate l.toArray.size false) a { w with drawn := w.drawn + 1 } := by
 intro a w he hk hs
 simp only [Bool.and_eq_true] at hc
 have hp := hc.1.2
 simp only [permB, Bool.and_eq_true, Nat.beq_eq] at hp
 have hlen : Ss.flatten.length = l.toArray.size := hp.1.1.1
 have hmem : ∀ i, i ∈ Ss.flatten ↔ i < l.toArray.size := by
  intro i
  constructor
  ·intro hi; have := List.all_eq_true.1 hp.1.1.2 i hi; simpa [Nat.blt_eq] using this
  ·intro hi; have := List.all_eq_true.1 hp.2 i (List.mem_range.2 hi); simpa using this
 have hn : Ss.flatten.Nodup := nodup_of hp.1.2
 refine Phases.sound (H := H) hc.1.1 Ss hc.2 hn (look E) L _ _ _ _ h (by omega) ?_ (by simp) ⟨he.size, he.defers, he.slots⟩ (hk.trans (Keeps.drew w)) hs.drew
 intro i
 rw [hmem]
 simp only [Array.getD_eq_getD_getElem?, Array.getElem?_replicate, List.size_toArray]
 by_cases hlt : i < l.length <;> simp [hlt]
theorem GR.draw {r m id : Nat} {l : List Oper} (hQ : ¬ LetsOut Q) (hnd : l.all noDefer = true) (H : List Nat) (Ss : List (List Nat)) (hm : P.follows .mixedOrders = true)
  (hc : (directB l.toArray && permB l.toArray.size Ss.flatten && chainB l.toArray Ss) = true)
  (h : Phases P l.toArray n H W ds (Q .normal) Ss (look E) L) : G W n ds E L ((Code.region id l.toArray true).wpIn (FR r) m P Q) := by
 intro a w he hk hs
 refine wpIn_region_draw fun t => ops_round hQ (noDefer_all hnd) _ _ _ ?_
 simp only [Region.schedule, hm, Bool.true_or, if_true]
 exact wpAny_sound l.toArray.size t _ a _ (draw_any (id := id) H Ss hc h a w he hk hs)
/-! ### Who is ranged over, and what it calls -/
def yV (l : Nat) : Value := .func (.yield l) #[] #[]
def YieldH (P : Program) (l : Nat) (args : Array Value) (pre : List HP) (post : Value → List HP → Prop) : Prop :=
 ∀ (F : List HP) (w : World), St (pre ++ F) w → ∃ fn tmps assign body, (Instr.yield l args).run P w = .ok (.round l fn tmps assign body) w ∧
  RoundIn Fence.wide 0 P l fn tmps assign body w fun e w' => ∃ v L, post v L ∧ e = .returned v ∧ St (L ++ F) w' ∧ Keeps w w'
def IterV (P : Program) (g : Value) (N : Nat) (A : Nat → Array Value) (pre : List HP) : Prop :=
 ∃ (gf : FuncId) (lb : List Value) (fn : Func) (c : Code), g = .func (.func gf) #[] lb.toArray ∧ P.funcs[gf]? = some fn ∧ fn.body = some c ∧ (fn.name == "runtime.NumGoroutine") = false ∧
  ∀ (l : Nat) (J : Nat → HP), (∀ i, i < N → YieldH P l (A i) [J i] fun v L => v = .bool true ∧ L = [J (i + 1)]) → Fn P gf (yV l :: lb).toArray (J 0 :: pre) fun _ L => L = J N :: pre
def RndQ (J : HP) (F : List HP) (W : World) : Exit → Act → World → Prop
 | .normal, _, w => St (J :: F) w ∧ Keeps W w
 | _, _, _ => False
theorem G.rnd {J : HP} {F : List HP} (hL : Picks [J] L R) (hF : Suff F R) : G W n ds E L (RndQ J F W .normal) := fun _ _ _ hk hs => ⟨hF.st (L := [J]) (hs.picks hL), hk⟩
theorem St.swap {p q : HP} {w : World} (h : St (p :: q :: L) w) : St (q :: p :: L) w := h.perm (List.Perm.swap _ _ _)
theorem EnvOK.par {a : Act} (h : EnvOK n ds E a) {p : Nat} (hp : p < n) (v : Value) : EnvOK n ds ((p, v) :: E) { a with tmps := a.tmps.setIfInBounds p v } := by
 have hd : dstOk (some p) n = true := by simpa [dstOk, Nat.blt_eq] using hp
 have := h.put hd v
 exact ⟨by simpa using h.size, h.defers, by simpa [Act.put, putE] using this.slots⟩
theorem zip2 (p q : Nat) (x y : Value) (t : Array Value) : (#[p, q].zip #[x, y]).foldl (fun tmps (t, a) => tmps.setIfInBounds t a) t = (t.setIfInBounds p x).setIfInBounds q y := by simp
theorem G.rangeFunc {g : Operand} {p q : Nat} {assign body : Code} {gv : Value} {N : Nat} (A : Nat → Value × Value) (J : Nat → HP) (Ep : Nat → Env → Env) {pre : List HP} (hg : ev E g = some gv) (hi : IterV P gv N (fun i => #[(A i).1, (A i).2]) pre) (hp : Nat.blt p n = true) (hq : Nat.blt q n = true) (hL : Picks (J 0 :: pre) L R)
  (hassign : ∀ (l i : Nat) (F : List HP) (W' : World) (X : Act → World → Prop), i < N → G W' n [] (Ep i E) F X → G W' n [] ((q, (A i).2) :: (p, (A i).1) :: E) F (assign.wpIn (FR l) 0 P (Exit.then X fun _ _ _ => False)))
  (hround : ∀ (l i : Nat) (F : List HP) (W' : World), i < N → G W' n [] (Ep i E) (J i :: F) (body.wpIn (FR l) 0 P (RndQ (J (i + 1)) F W')))
  (hdone : ∀ D : Nat, G W n (⟨.collected D, #[]⟩ :: ds) E (J N :: pt D (.deferred (some [])) :: (pre ++ R)) (Q .normal)) : G W n ds E L ((Code.rangeFunc g #[p, q] assign body).wp P Q) := by
 intro a w he hk hs
 refine (wpIn_wide (n := 0)).1 (wpIn_rangeFunc ?_)
 intro fn _
 obtain ⟨gf, lb, gn, c, rfl, hgf, hgb, hgn, hit⟩ := hi
 have hge : a.eval g = .func (.func gf) #[] lb.toArray := he.agrees _ _ hg
 obtain ⟨rec, hrec⟩ : ∃ rec : LoopState → Option Code → Loop, rec = fun st pe => { state := st, pending := pe, fn, tmps := a.tmps, params := #[p, q], assign, body, defers := w.heap.size } := ⟨_, rfl⟩
 obtain ⟨W1, hW1⟩ : ∃ W1, (w.alloc (.deferred (some []))).alloc (.loop (rec .ready none)) = W1 := ⟨_, rfl⟩
 have hs0 : St (pt w.heap.size (.deferred (some [])) :: L) (w.alloc (.deferred (some []))) := hs.new _
 have hs1 : St (pt (w.heap.size + 1) (.loop (rec .ready none)) :: pt w.heap.size (.deferred (some [])) :: L) W1 := by
  rw [← hW1]
  have := hs0.new (.loop (rec .ready none))
  rwa [show (w.alloc (.deferred (some []))).heap.size = w.heap.size + 1 by simp] at this
 have hk1 : Keeps w W1 := by rw [← hW1]; exact (Keeps.new w _).trans (Keeps.new _ _)
 refine ⟨w.heap.size + 1, [{ target := .collected w.heap.size, args := #[] }], W1, { target := .fn (.func gf) lb.toArray, args := #[yV (w.heap.size + 1)] }, W1, gf, #[yV (w.heap.size + 1)] ++ lb.toArray, W1, ?_, ?_, fun _ _ => trivial, ?_, (fun h => by cases h), ?_⟩
 ·rw [← hW1, hrec]; exact run_enterLoop_outer _ _ _ _ _
 ·simp only [resolve, hge]
  simp [Deferred.ofValue, Bind.bind, Sem.bind, Pure.pure, Sem.run, yV, Act.eval]
 ·have hgn' : ¬ gn.name = "runtime.NumGoroutine" := by simpa using hgn
  simp [invoke, callFunc, program, Bind.bind, Sem.bind, Pure.pure, Sem.run, hgf, hgb, hgn']
 ·refine callsIn_wide.2 ?_
  obtain ⟨J', hJ'⟩ : ∃ J' : Nat → HP, J' = fun i => sep [J i, pt (w.heap.size + 1) (.loop (rec .ready none)), pt w.heap.size (.deferred (some []))] := ⟨_, rfl⟩
  have hs2 : St ((J' 0 :: pre) ++ R) W1 := by
   have h2 := hs1.perm (List.Perm.cons _ (List.Perm.cons _ hL.perm))
   rw [hJ']
   exact sep_fold (L1 := [J 0, _, _]) (sep_perm ((List.Perm.cons _ (List.Perm.swap _ _ _)).trans (List.Perm.swap _ _ _)) h2)
  have hy : ∀ i, i < N → YieldH P (w.heap.size + 1) #[(A i).1, (A i).2] [J' i] fun v L => v = .bool true ∧ L = [J' (i + 1)] := by
   intro i hiN F w2 hw2
   rw [hJ'] at hw2
   have hw3 : St (J i :: pt (w.heap.size + 1) (.loop (rec .ready none)) :: pt w.heap.size (.deferred (some [])) :: F) w2 := sep_flat (L1 := [J i, _, _]) hw2
   have hl := hw3.swap.pt
   have hyr := run_yield (P := P) (args := #[(A i).1, (A i).2]) hl (by rw [hrec]; rfl)
   rw [hrec] at hyr
   have h0 : EnvOK n [] E { tmps := a.tmps, defers := [] } := ⟨he.size, rfl, he.slots⟩
   have h1 := (h0.par (by simpa [Nat.blt_eq] using hp) (A i).1).par (by simpa [Nat.blt_eq] using hq) (A i).2
   refine ⟨fn, _, assign, body, hyr, roundIn_of_wpIn (F := Fence.wide) trivial (hassign (w.heap.size + 1) i _ w2 _ hiN ?_ _ _ (by simpa only [zip2] using h1) (Keeps.refl _) hw3)⟩
   intro a2 wb he2 hkb hwb
   have hlb := hwb.swap.pt
   refine ⟨_, run_beginRound hlb (by rw [hrec]), ?_⟩
   have hw4 : St (J i :: pt (w.heap.size + 1) (.loop { rec .ready none with state := .busy }) :: pt w.heap.size (.deferred (some [])) :: F) (wb.putObj (w.heap.size + 1) (.loop { rec .ready none with state := .busy })) := (St.set hwb.swap).swap
   refine wpIn_mono (hround (w.heap.size + 1) i _ _ hiN _ _ he2 (Keeps.refl _) hw4) ?_
   ·rintro e a3 w3 hp3
    cases e with
    | normal =>
     obtain ⟨hw5, hk5⟩ := hp3
     have hl5 := hw5.swap.pt
     have hend := run_endRound (P := P) none hl5
     refine ⟨_, _, hend, .bool true, [J' (i + 1)], ⟨rfl, rfl⟩, rfl, ?_, (hkb.trans ((Keeps.set _ _ _).trans hk5)).trans (Keeps.set _ _ _)⟩
     rw [hJ']
     refine sep_fold (L1 := [J (i + 1), _, _]) ?_
     have h6 := (St.set (o' := .loop (rec .ready none)) hw5.swap).swap
     rw [hrec] at h6 ⊢
     exact h6
    | _ => exact hp3.elim
  have ea : #[yV (w.heap.size + 1)] ++ lb.toArray = (yV (w.heap.size + 1) :: lb).toArray := by simp
  rw [ea]
  refine (hit (w.heap.size + 1) J' hy R W1 hs2).mono ?_
  rintro e w2 ⟨v, L', hL', rfl, hw2, hk2⟩
  subst hL'
  rw [hJ'] at hw2
  have hw3 : St (J N :: pt (w.heap.size + 1) (.loop (rec .ready none)) :: pt w.heap.size (.deferred (some [])) :: (pre ++ R)) w2 := sep_flat (L1 := [J N, _, _]) hw2
  have hl := hw3.swap.pt
  have hend := run_endLoop (P := P) hl (by rw [hrec]; simp)
  rw [hrec] at hend
  refine ⟨none, _, hend, ?_⟩
  refine hdone w.heap.size _ _ ⟨he.size, by show _ :: a.defers = _; rw [he.defers], he.slots⟩ ((hk.trans hk1).trans (hk2.trans (Keeps.set _ _ _))) ?_
  exact (St.set hw3.swap).tail
/-! ### A function that holds one -/
def FnQM (P : Program) (fn : Func) (post : Value → List HP → Prop) (F : List HP) (W : World) : Exit → Act → World → Prop :=
 bodyPostM Fence.wide 0 P fn fun e w' => ∃ v L, post v L ∧ e = .returned v ∧ St (L ++ F) w' ∧ Keeps W w'
theorem Fn.introM {f : FuncId} {fn : Func} {c : Code} {vs : List Value} {pre : List HP} {post : Value → List HP → Prop} {n : Nat}
    (hf : P.funcs[f]? = some fn) (hb : fn.body = some c) (hn : vs.length + (fn.ntmps - vs.length) = n)
    (h : ∀ F W, G W n [] (argE 0 vs) (pre ++ F) (c.wp P (FnQM P fn post F W))) : Fn P f vs.toArray pre post := by
  intro F w hs
  refine (callsIn_wide (n := 0)).1 (callsIn_of_wp_marks hf hb trivial (wpIn_wide.2 (h F w _ w ⟨?_, rfl, fun t v hl => ?_⟩ (.refl w) hs)) rfl)
  · simp [← hn]
  obtain ⟨-, h2⟩ := look_argE _ _ _ _ hl
  have hlt : t < vs.length := by
    rcases Nat.lt_or_ge t vs.length with h | h
    · exact h
    simp [List.getElem?_eq_none h] at h2
  simp only [Nat.sub_zero] at h2
  rw [List.getElem?_eq_getElem hlt] at h2
  simp only [Option.some.injEq] at h2
  simp [Array.getElem?_append, hlt, h2]
theorem G.doneM1 {fn : Func} {post : Value → List HP → Prop} {F : List HP} {L1 L' : List HP} {v : Value} {r : ResultVar} {D : Nat} (hl : fn.results = #[r]) (hD : Pick (pt D (.deferred (some []))) L L1) (hr : ResR P E L1 r v) (hp : post v L') (hL : Picks L' L1 R) (hF : Suff F R) :
  G W n [⟨.collected D, #[]⟩] E L (FnQM P fn post F W .ret) := by
 intro a w he hk hs
 show LeavesInM Fence.wide 0 P fn a.tmps _ a.defers .returning w
 rw [he.defers]
 have hs1 := hs.pick hD
 refine ⟨by simp, .inl ⟨D, _, rfl, run_takeDeferred hs1.pt, ?_⟩⟩
 have hs2 := (St.set (o' := .deferred none) hs1).tail
 exact ⟨v, results_1 hl (hr _ _ he.slots hs2), v, L', hp, rfl, hF.st (hs2.picks hL), hk.trans (Keeps.set _ _ _)⟩
/-! ### Who calls it -/
theorem GY.region {id : Nat} {os : List Oper} (h : G W n ds E L (wpListIn Fence.wide 0 P os.toArray Q os)) : G W n ds E L ((Code.region id os.toArray false).wp P Q) :=
 fun a w he hk hs => (wpIn_wide (n := 0)).1 (wpIn_region_list (by simpa using h a w he hk hs))
theorem GY.nil {ops : Array Oper} (h : G W n ds E L (Q .normal)) : G W n ds E L (wpListIn Fence.wide 0 P ops Q []) := h
theorem GY.q {ops : Array Oper} {d : Nat} {op : Op} {ty : TypeId} {pos : String} {aft : Array Edge} {rest : List Oper} {v : Value} (hnd : noDefer ⟨some d, op, ty, pos, aft, none⟩ = true)
  (hp : Quiet P ⟨none, op, ty, "", #[], none⟩ E L v) (hd : Nat.blt d n = true)
  (h : G W n ds ((d, v) :: E) L (wpListIn Fence.wide 0 P ops Q rest)) : G W n ds E L (wpListIn Fence.wide 0 P ops Q (⟨some d, op, ty, pos, aft, none⟩ :: rest)) := by
 intro a w he hk hs
 unfold wpListIn
 rw [if_pos (by simp [Region.wanted])]
 refine ⟨fun _ _ => trivial, ?_⟩
 rw [Oper.semAt_eq _ _ _ (noDefer_op hnd)]
 have := hp a.eval w he.agrees hs
 rw [show execOp a.eval ⟨some d, op, ty, pos, aft, none⟩ = execOp a.eval ⟨none, op, ty, "", #[], none⟩ from rfl, this]
 exact h _ _ (he.put (dst := some d) hd _) hk hs
theorem GY.yield {ops : Array Oper} {d l : Nat} {x : Operand} {xs : Array Operand} {ts : Array TypeId} {ty : TypeId} {pos : String} {aft : Array Edge} {rest : List Oper} {vs : List Value} {pre F : List HP} {post : Value → List HP → Prop}
  (hv : ev E x = some (yV l)) (hx : xs.toList.map (ev E) = vs.map some) (hy : YieldH P l vs.toArray pre post) (hL : Picks pre L F) (hd : Nat.blt d n = true)
  (h : ∀ v L', post v L' → G W n ds ((d, v) :: E) (L' ++ F) (wpListIn Fence.wide 0 P ops Q rest)) : G W n ds E L (wpListIn Fence.wide 0 P ops Q (⟨some d, .call { callee := .value x, args := xs, argTypes := ts }, ty, pos, aft, none⟩ :: rest)) := by
 intro a w he hk hs
 unfold wpListIn
 rw [if_pos (by simp [Region.wanted])]
 refine ⟨fun _ _ => trivial, ?_⟩
 rw [Oper.semAt_eq _ _ _ (fun c e => by cases e)]
 obtain ⟨fn, tmps, assign, body, hyr, hr⟩ := hy F w (hs.picks hL)
 have hvs : xs.map a.eval = vs.toArray := by
  apply Array.ext'
  rw [Array.toList_map]
  exact agree_list he.agrees _ _ hx
 have hxv : a.eval x = .func (.yield l) #[] #[] := he.agrees _ _ hv
 have hrun : (execOp a.eval ⟨some d, .call { callee := .value x, args := xs, argTypes := ts }, ty, pos, aft, none⟩).run P w = .ok (.round l fn tmps assign body) w := by
  have e : (execOp a.eval ⟨some d, .call { callee := .value x, args := xs, argTypes := ts }, ty, pos, aft, none⟩).run P w = (Instr.yield l vs.toArray).run P w := by
   simp [execOp, resolve, hxv, Deferred.ofValue, invoke, Bind.bind, Sem.bind, Pure.pure, Sem.run, hvs]
  rw [e]; exact hyr
 rw [hrun]
 refine ⟨(fun hd => by cases hd), hr.mono ?_⟩
 rintro e w' ⟨v, L', hv', rfl, hs', hk'⟩
 exact h v L' hv' _ _ (he.put (dst := some d) hd _) (hk.trans hk') hs'
end
theorem back_spec (a : Option Addr) (n c : Nat) : Fn Tryz.prog 79 #[.slice a n c] [] fun v L => ∃ b, v = .func (.func 139) #[] [vptr b].toArray ∧ L = [ptc b [.slice a n c] 38] := by
 refine Fn.intro Tryz.func79 rfl rfl fun F W => ?_
 refine .sr (.oq (.box rfl) ?_)
 rintro v L' ⟨b, rfl, rfl⟩
 refine .an rfl (.sr (.q (.func (us := []) (vs := [_]) rfl rfl) rfl (.an rfl (.ret ?_))))
 exact .dn rfl rfl ⟨b, rfl, rfl⟩
theorem back_at {xs : List Bs} {k : Nat} (hk : k < xs.length) : (strs xs)[((xs.length : Int) - 1 - k).toNat * 1]? = some (vstr (xs.reverse.getD k [])) := by
 have e : ((xs.length : Int) - 1 - k).toNat * 1 = xs.length - 1 - k := by omega
 rw [e, List.getElem?_map, ← List.getElem?_reverse hk, List.getD_eq_getElem?_getD]
 rw [List.getElem?_eq_getElem (by simpa using hk)]
 rfl
theorem back1_spec (va : Value) (xs : List Bs) (b : Nat) (q : HP) (hq : ∀ h : Hp, q h → rdS 1 h va xs.length (strs xs)) (hl : xs.length ≤ 1099511627776) (l : Nat) (J : Nat → HP) (hY : ∀ i, i < xs.length → YieldH Tryz.prog l (#[vint ((xs.length : Int) - 1 - (i : Nat)), vstr (xs.reverse.getD i [])]) [J i] fun v L => v = .bool true ∧ L = [J (i + 1)]) : Fn Tryz.prog 139 #[yV l, vptr b] [J 0, ptc b [va] 38, q] fun _ L => L = [J xs.length, ptc b [va] 38, q] := by
 refine Fn.intro Tryz.func139 rfl rfl fun F W => ?_
 refine .rdAny (p := q) hq (by repeat' constructor) fun aa ca ee _ => ?_
 subst ee
 have hJ : ∀ i j : Nat, i = j → J i = J j := fun i j e => by rw [e]
 refine .sr (.u (.ld rfl ag_38) (.q (.slen rfl Tryz.underlying38 rfl) rfl (.q (.to (v' := vint ((xs.length : Int) - 1 - ((0 : Nat) : Int))) (.sub rfl rfl (by omega)) (by congr 1; omega)) rfl (.an rfl (.block (.loopK (ι := Nat) (fun q E => (3, vint ((xs.length : Int) - 1 - q)) :: E) (fun q => [J q]) (fun q => q ≤ xs.length) (fun q => xs.length - q) (0) (ts := [0, 1]) (.cons rfl (.cons rfl (.nil))) (Nat.zero_le _) ⟨rfl, rfl, rfl, trivial⟩ (by repeat' constructor) ?_))))))
 rintro k hk
 refine .seq (.sm rfl (.ui rfl rfl rfl (.nt (.condD rfl (fun h8 => ?_) (fun h8 => ?_)))))
 ·have hkl : k < xs.length := by omega
  refine .rdShape (p := q) hq (by repeat' constructor) (by omega) fun ba oa e => ?_
  subst e
  refine .sk (.seq (.block (.seq (GY.region (GY.q rfl (.move rfl) rfl (GY.q rfl (.move rfl) rfl (GY.q rfl (.ld rfl ag_38) rfl (GY.q rfl (.move rfl) rfl (GY.q rfl (.indexAddr rfl rfl el_38 (by omega)) rfl (GY.q rfl (.loadEl (p := q) (i := ((xs.length : Int) - 1 - k).toNat * 1) (v := vstr (xs.reverse.getD k [])) rfl ag_9 (by repeat' constructor) hq (back_at hkl)) rfl (GY.yield (vs := [_, _]) rfl rfl (hY k hkl) (by repeat' constructor) rfl ?_)))))))))))
  rintro v L' ⟨rfl, rfl⟩
  refine GY.q rfl (.not rfl) rfl (GY.nil (.then_n (.condF rfl (.skip (.blk_n (.then_n (.region (.m rfl (.q (.to (v' := vint ((xs.length : Int) - 1 - ((k + 1 : Nat) : Int))) (.sub rfl rfl (by omega)) (by congr 1; omega)) rfl (.an rfl ?_))))))))))
  exact .rk (k + 1) (by omega) (by omega) ⟨rfl, rfl, rfl, trivial⟩
 have hkl : k = xs.length := by omega
 subst hkl
 refine .exit (.then_e (.then_e (.blk_e (.done_n ?_))))
 exact .dn rfl rfl rfl
theorem back_iter (va : Value) (xs : List Bs) (b : Nat) (q : HP) (hq : ∀ h : Hp, q h → rdS 1 h va xs.length (strs xs)) (hl : xs.length ≤ 1099511627776) : IterV Tryz.prog (.func (.func 139) #[] [vptr b].toArray) xs.length (fun i => #[vint ((xs.length : Int) - 1 - (i : Nat)), vstr (xs.reverse.getD i [])]) [ptc b [va] 38, q] :=
 ⟨_, [vptr b], _, _, rfl, Tryz.func139, rfl, rfl, fun l J hY => back1_spec va xs b q hq hl l J hY⟩
theorem pcloses_spec (t : Nat) (τ : Tr) (u : Who) (iv : Value) (r : Rq) (p : HP) (hA : WiA p u iv r) (N : Nat) (ho : τ.Ok N) (hN : N ≤ 1099511627776) (hN2 : N + N ≤ 1099511627776) : Fn Tryz.prog 50 #[.agg (wiC t u iv r).toArray] [treeR t τ, p] fun v L =>
    ∃ (w : Value) (ys : List Pt), v = .agg (ptC ((closeP τ u.ses).1.ws w)).toArray ∧ ys.map Pt.pl = (closeP τ u.ses).2 ∧ (∃ a c, w = .slice a ys.length c) ∧ (∀ y ∈ ys, isCell y.aclV = true ∧ y.subsV = nilV) ∧ L = [treeR t τ, p, slR 60 8 w ys.length (ys.flatMap ptC), bigR aclR ys] := by
 refine Fn.introM (vs := [.agg (wiC t u iv r).toArray]) Tryz.func50 rfl rfl ?_
 intro F W
 refine .add (p := nilP) nilP_ok ?_
 have hlr : (ownedZ τ u.ses).reverse.length = (ownedZ τ u.ses).length := List.length_reverse
 refine .sr (.oq (.box rfl) ?_)
 rintro v L' ⟨b1, rfl, rfl⟩
 refine .oq (.allocA ze_60) ?_
 rintro v L' ⟨bx, rfl, rfl⟩
 refine .nil (.pc b1 (wiC t u iv r) ?_)
 refine .then_n (.sr (.u (.fieldAddr rfl fo_134_0) (.u (.ld rfl ag_76) (.oq (.c Tryz.func78 [_] (trclone_spec t τ N ho hN)) ?_))))
 rintro v L' ⟨c, rfl, rfl⟩
 refine .oq (.alloc ze_76) ?_
 rintro v L' ⟨b3, rfl, rfl⟩
 refine .st rfl rfl rfl sz_76 ?_
 refine .nt (.sr (.u (.fieldAddr rfl fo_134_1) (.u (.ld rfl ag_3) (.q (.build (us := [(0, _), (4, _)]) fl_60 ze_60 rfl rfl (by simp [isCell])) rfl (.oq (.allocA ze_60) ?_)))))
 rintro v L' ⟨b4, rfl, rfl⟩
 refine .sa rfl rfl sz_60 (by (first | (simp [isCell]; done) | (simp [isCell, setAll, Value.cells]; done))) ?_
 refine .nil (.pc b4 (clsC u.ses (nilV)) ?_)
 refine .then_n (.seq (.sr (.u (.ld rfl ag_76) (.u (.fieldAddr rfl fo_134_1) (.u (.ld rfl ag_3) (.oq (.c Tryz.func80 [_, _] (trowned_spec c τ u.ses N ho hN)) ?_))))))
 rintro v L' ⟨⟨ao, co, rfl⟩, rfl⟩
 refine .oq (.c Tryz.func79 [_] (back_spec _ _ _)) ?_
 rintro v L' ⟨bb, rfl, rfl⟩
 refine .nt (.block (.add (slR_nil 60 8) (.fold (p := clsJ (ptc b3 [vptr c] 76) c b4 τ u.ses (ownedZ τ u.ses).reverse 0) (q := [ptc b3 [vptr c] 76, treeR c τ, ptc b4 (clsC u.ses nilV) 60, slR 60 8 nilV 0 []]) (by repeat' constructor) (fun h hp => ⟨nilV, ⟨none, 0, rfl⟩, hp⟩) (.rangeFunc (fun i => (vint (((ownedZ τ u.ses).length : Int) - 1 - (i : Nat)), vstr ((ownedZ τ u.ses).reverse.getD i []))) (fun i => clsJ (ptc b3 [vptr c] 76) c b4 τ u.ses (ownedZ τ u.ses).reverse i) (fun i E => (6, vstr ((ownedZ τ u.ses).reverse.getD i [])) :: (22, vstr ((ownedZ τ u.ses).reverse.getD i [])) :: (21, vint (((ownedZ τ u.ses).length : Int) - 1 - (i : Nat))) :: E) (pre := [ptc bb [.slice ao (ownedZ τ u.ses).length co] 38, slR 9 1 (.slice ao (ownedZ τ u.ses).length co) (ownedZ τ u.ses).length (strs (ownedZ τ u.ses))]) (N := (ownedZ τ u.ses).length) rfl (back_iter _ _ bb _ (fun _ hp => slR_rd hp) (by have := owned_len τ u.ses; have := ho.few; omega)) rfl rfl (by repeat' constructor) (fun lr i F2 W2 X hi hX => ?_) (fun lr i F2 W2 hi => ?_) (fun D => ?_)))))
 ·refine GR.region (by rintro ⟨_, _, h⟩; exact h) rfl (.a rfl (.nil ?_))
  exact .then_n hX
 ·have hi2 : i < (ownedZ τ u.ses).reverse.length := by rw [hlr]; exact hi
  have hget : (ownedZ τ u.ses).reverse.getD i [] = (ownedZ τ u.ses).reverse[i] := by rw [List.getD_eq_getElem?_getD, List.getElem?_eq_getElem hi2]; rfl
  rw [hget]
  have hshort : ((ownedZ τ u.ses).reverse[i]).length ≤ 60 := owned_short ho (List.mem_reverse.1 (List.getElem_mem hi2))
  have hok : (closeT ((ownedZ τ u.ses).reverse.take i) τ).Ok (N + N) := (closeT_ok ((ownedZ τ u.ses).reverse.take i) ho).more (by rw [List.length_take]; have := owned_len τ u.ses; have := ho.few; omega)
  refine .open (q := fun z : Value => [ptc b3 [vptr c] 76, treeR c (closeT ((ownedZ τ u.ses).reverse.take i) τ), ptc b4 (clsC u.ses z) 60, slR 60 8 z i ((closeL ((ownedZ τ u.ses).reverse.take i) τ).flatMap ptC)]) (φ := fun z : Value => ∃ a k, z = .slice a i k) (fun _ hp => hp) ?_
  rintro z ⟨az, cz, rfl⟩
  refine .add (p := nilP) nilP_ok (GR.block (GR.seq (GR.draw (by rintro ⟨_, _, h⟩; exact h) rfl [2, 3, 7, 8] [[0, 1, 2, 3, 4, 5, 6, 7, 8], [9]] mixed (by kernel_rfl) (.go [ptc b3 _ _] (by repeat' constructor) (.k rfl (.ld rfl ag_76) (.k rfl (.move rfl) (.h2 (k := 7) rfl rfl (by kernel_rfl) rfl (.c Tryz.func81 [_] (parent_spec ((ownedZ τ u.ses).reverse[i]) (by omega))) (by repeat' constructor) (.allocA ze_37) (by repeat' constructor) ?_ ?_)))))))
  ·rintro v L' ⟨rfl, rfl⟩
   refine D.h2 (k := 7) rfl rfl (by kernel_rfl) rfl (.c Tryz.func76 [_, _] (trstat_spec c (closeT ((ownedZ τ u.ses).reverse.take i) τ) (parentZ ((ownedZ τ u.ses).reverse[i])) (N + N) hok hN2)) (by repeat' constructor) (.allocA ze_37) (by repeat' constructor) ?_ ?_
   ·rintro v L' ⟨rfl, rfl⟩
    refine D.k rfl (.move rfl) (.k rfl (.extract rfl rfl) (.k rfl (.extract rfl rfl) (.hh rfl (.allocA ze_37) ?_)))
    rintro v L' ⟨b7, rfl, rfl⟩
    refine D.sa rfl rfl rfl sz_37 (by intro v hv; simp only [stC, List.mem_cons, List.not_mem_nil, or_false] at hv; rcases hv with rfl | rfl | rfl | rfl | rfl | rfl | rfl | rfl | rfl <;> rfl) ?_
    refine D.ph (.g0 (.kv rfl (.assign rfl) (.ph (.fin (.pc b7 (stC (statD (closeT ((ownedZ τ u.ses).reverse.take i) τ) (parentZ ((ownedZ τ u.ses).reverse[i])))) ?_)))))
    refine .then_n (GR.seq (GR.region (by rintro ⟨_, _, h⟩; exact h) rfl (.m rfl (.u (.fieldAddr rfl fo_37_4) (.u (.ld rfl ag_3) (.u (.addW rfl rfl) (.q (.build (us := [(0, _), (1, _), (5, _)]) fl_60 ze_60 rfl rfl (by simp [isCell])) rfl (.oq (.allocA ze_60) ?_))))))))
    rintro v L' ⟨b9, rfl, rfl⟩
    refine .sa rfl rfl sz_60 (by (first | (simp [isCell]; done) | (simp [isCell, setAll, Value.cells]; done))) ?_
    refine .nil (.pc b9 (ptC (delX (closeT ((ownedZ τ u.ses).reverse.take i) τ) (ownedZ τ u.ses).reverse[i])) ?_)
    refine .then_n (GR.seq (GR.draw (by rintro ⟨_, _, h⟩; exact h) rfl [2, 5] [[0, 1, 3, 2, 4], [5]] mixed (by kernel_rfl) (.go [ptc b3 _ _, ptc b9 _ _] (by repeat' constructor) (.k rfl (.ld rfl ag_76) (.kv rfl (.ld rfl ag_76) (.k rfl (.to (v' := .agg (ptC (delX (closeT ((ownedZ τ u.ses).reverse.take i) τ) (ownedZ τ u.ses).reverse[i])).toArray) (.loadA rfl ag_60 (by repeat' constructor) (by simp [ptC])) (by rfl)) (.hh rfl (.c Tryz.func29 [_] (trzxid_spec c (closeT ((ownedZ τ u.ses).reverse.take i) τ))) ?_)))))))
    rintro v L' ⟨rfl, rfl⟩
    refine D.kv rfl (.buildN (pl := [(0, 1), (1, 1), (2, 1), (3, 8)]) (us := [(0, vint (closeT ((ownedZ τ u.ses).reverse.take i) τ).zx), (3, .agg (ptC (delX (closeT ((ownedZ τ u.ses).reverse.take i) τ) (ownedZ τ u.ses).reverse[i])).toArray)]) (cells := [vint (closeT ((ownedZ τ u.ses).reverse.take i) τ).zx, vint 0, vint 0] ++ ptC (delX (closeT ((ownedZ τ u.ses).reverse.take i) τ) (ownedZ τ u.ses).reverse[i])) Tryz.underlying62 (by kernel_rfl) ze_62 rfl (fill_entry _ _ _ _ _ _ _ _ _)) (.ph (.g0 (.hh rfl (.call Tryz.func42 rfl rfl (vs := [_, _]) rfl (trapply_spec c (closeT ((ownedZ τ u.ses).reverse.take i) τ) (closeT ((ownedZ τ u.ses).reverse.take i) τ).zx 0 0 (delX (closeT ((ownedZ τ u.ses).reverse.take i) τ) (ownedZ τ u.ses).reverse[i]) [] nilP (txS_ok _ (by omega)) (N + N) hok (by show N + N + 0 ≤ _; omega))) ?_)))
    rintro v L' ⟨ue, ee, rfl, -, ⟨ae, ce, rfl⟩, rfl⟩; rw [← closeT_step hi2 τ]
    refine D.pf (GR.draw (by rintro ⟨_, _, h⟩; exact h) rfl [4, 5, 7, 9] [[0, 1, 2, 3, 4], [5], [6, 8, 7, 9]] mixed (by kernel_rfl) (.go [ptc b9 _ _, ptc b4 _ _] (by repeat' constructor) (.k rfl (.fieldAddr rfl fo_60_7) (.k rfl (.ld rfl ag_58) (.k rfl (.to (v' := .agg (ptC (delX (closeT ((ownedZ τ u.ses).reverse.take i) τ) (ownedZ τ u.ses).reverse[i])).toArray) (.loadA rfl ag_60 (by repeat' constructor) (by simp [ptC])) (by rfl)) (.k rfl (.slen rfl Tryz.underlying58 rfl) (.hh rfl (.buildSlice (vs := [_]) el_58 ze_60 rfl rfl rfl rfl (by first | (simp [Value.cells]; done) | (intro v hv; simp only [List.mem_cons, List.not_mem_nil, or_false] at hv; (repeat (first | (subst hv; rfl) | (rcases hv with hv | hv; (subst hv; rfl)))))) (by decide)) ?_)))))))
    rintro v L' ⟨b10, rfl, rfl⟩
    refine D.ph (.g0 (.hh rfl (.append1S rfl rfl rfl el_58 ze_60 rfl rfl ?c75 ?c76 (Nat.le_refl _) ?c77 (by decide) (by decide)) ?_))
    case c75 => simp only [List.map_cons, List.map_nil, List.flatten_cons, List.flatten_nil, List.append_nil]; simp only [Value.cells]; intro z hz; simp at hz; rcases hz with rfl | rfl | rfl | rfl | rfl | rfl | rfl | rfl <;> rfl
    case c76 => rfl
    case c77 => have := owned_len τ u.ses; have := ho.few; omega
    rintro v L' ⟨a8, c8, rfl, rfl⟩
    refine D.ph (.g0 (.k rfl (.indexAddr rfl rfl el_58 (by omega)) (.k rfl (.fieldAddr rfl fo_60_7) (.h2 (k := 9) rfl rfl (by kernel_rfl) rfl (.storeRdA (sz := 8) (j := i * 8) (k := 8) (vs := ptC (delX (closeT ((ownedZ τ u.ses).reverse.take i) τ) (ownedZ τ u.ses).reverse[i])) rfl rfl (pt_cells rfl rfl) sz_60 rfl ?ho82 ?hi83) (by repeat' constructor) (.store rfl rfl rfl sz_58 ?c84 (nfz0 _ _)) (by repeat' constructor) ?_ ?_))))
    case ho82 => simp
    case hi83 => omega
    case c84 => simp [clsC]
    ·rintro v L' rfl
     refine D.hh rfl (.store rfl rfl rfl sz_58 ?c88 (nfz0 _ _)) ?_
     case c88 => simp [clsC]
     rintro v L' rfl
     refine D.ph (.fin (.slCast (T := 60) (sz := 8) (m' := i + 1) (xs' := (closeL ((ownedZ τ u.ses).reverse.take (i + 1)) τ).flatMap ptC) (by repeat' constructor) (by exact rfl) (by rw [closeL_step hi2 τ, List.flatMap_append]; exact spl_app (by rw [flat8_len, closeL_len, List.length_take, Nat.min_eq_left (Nat.le_of_lt hi2)]) rfl) (.pc b4 (clsC u.ses (.slice (some ⟨a8, 0, none⟩) (i + 1) c8)) ?_)))
     refine .blk_n (.fold (p := clsJ (ptc b3 [vptr c] 76) c b4 τ u.ses (ownedZ τ u.ses).reverse (i + 1)) (q := [ptc b3 [vptr c] 76, treeR c (closeT ((ownedZ τ u.ses).reverse.take (i + 1)) τ), ptc b4 (clsC u.ses (.slice (some ⟨a8, 0, none⟩) (i + 1) c8)) 60, slR 60 8 (.slice (some ⟨a8, 0, none⟩) (i + 1) c8) (i + 1) ((closeL ((ownedZ τ u.ses).reverse.take (i + 1)) τ).flatMap ptC)]) (by repeat' constructor) (fun h hp => ⟨_, ⟨_, _, rfl⟩, hp⟩) ?_)
     exact .rnd (by repeat' constructor) (by repeat' constructor)
    rintro v L' rfl
    refine D.hh rfl (.storeRdA (sz := 8) (j := i * 8) (k := 8) (vs := ptC (delX (closeT ((ownedZ τ u.ses).reverse.take i) τ) (ownedZ τ u.ses).reverse[i])) rfl rfl (pt_cells rfl rfl) sz_60 rfl ?ho91 ?hi92) ?_
    case ho91 => simp
    case hi92 => omega
    rintro v L' rfl
    refine D.ph (.fin (.slCast (T := 60) (sz := 8) (m' := i + 1) (xs' := (closeL ((ownedZ τ u.ses).reverse.take (i + 1)) τ).flatMap ptC) (by repeat' constructor) (by exact rfl) (by rw [closeL_step hi2 τ, List.flatMap_append]; exact spl_app (by rw [flat8_len, closeL_len, List.length_take, Nat.min_eq_left (Nat.le_of_lt hi2)]) rfl) (.pc b4 (clsC u.ses (.slice (some ⟨a8, 0, none⟩) (i + 1) c8)) ?_)))
    refine .blk_n (.fold (p := clsJ (ptc b3 [vptr c] 76) c b4 τ u.ses (ownedZ τ u.ses).reverse (i + 1)) (q := [ptc b3 [vptr c] 76, treeR c (closeT ((ownedZ τ u.ses).reverse.take (i + 1)) τ), ptc b4 (clsC u.ses (.slice (some ⟨a8, 0, none⟩) (i + 1) c8)) 60, slR 60 8 (.slice (some ⟨a8, 0, none⟩) (i + 1) c8) (i + 1) ((closeL ((ownedZ τ u.ses).reverse.take (i + 1)) τ).flatMap ptC)]) (by repeat' constructor) (fun h hp => ⟨_, ⟨_, _, rfl⟩, hp⟩) ?_)
    exact .rnd (by repeat' constructor) (by repeat' constructor)
   rintro v L' ⟨b7, rfl, rfl⟩
   refine D.hh rfl (.c Tryz.func76 [_, _] (trstat_spec c (closeT ((ownedZ τ u.ses).reverse.take i) τ) (parentZ ((ownedZ τ u.ses).reverse[i])) (N + N) hok hN2)) ?_
   rintro v L' ⟨rfl, rfl⟩
   refine D.mv rfl rfl (.kv rfl (.extract rfl rfl) (.k rfl (.extract rfl rfl) (.sa rfl rfl rfl sz_37 (by intro v hv; simp only [stC, List.mem_cons, List.not_mem_nil, or_false] at hv; rcases hv with rfl | rfl | rfl | rfl | rfl | rfl | rfl | rfl | rfl <;> rfl) ?_)))
   refine D.ph (.g0 (.kv rfl (.assign rfl) (.ph (.fin (.pc b7 (stC (statD (closeT ((ownedZ τ u.ses).reverse.take i) τ) (parentZ ((ownedZ τ u.ses).reverse[i])))) ?_)))))
   refine .then_n (GR.seq (GR.region (by rintro ⟨_, _, h⟩; exact h) rfl (.m rfl (.u (.fieldAddr rfl fo_37_4) (.u (.ld rfl ag_3) (.u (.addW rfl rfl) (.q (.build (us := [(0, _), (1, _), (5, _)]) fl_60 ze_60 rfl rfl (by simp [isCell])) rfl (.oq (.allocA ze_60) ?_))))))))
   rintro v L' ⟨b9, rfl, rfl⟩
   refine .sa rfl rfl sz_60 (by (first | (simp [isCell]; done) | (simp [isCell, setAll, Value.cells]; done))) ?_
   refine .nil (.pc b9 (ptC (delX (closeT ((ownedZ τ u.ses).reverse.take i) τ) (ownedZ τ u.ses).reverse[i])) ?_)
   refine .then_n (GR.seq (GR.draw (by rintro ⟨_, _, h⟩; exact h) rfl [2, 5] [[0, 1, 3, 2, 4], [5]] mixed (by kernel_rfl) (.go [ptc b3 _ _, ptc b9 _ _] (by repeat' constructor) (.k rfl (.ld rfl ag_76) (.kv rfl (.ld rfl ag_76) (.k rfl (.to (v' := .agg (ptC (delX (closeT ((ownedZ τ u.ses).reverse.take i) τ) (ownedZ τ u.ses).reverse[i])).toArray) (.loadA rfl ag_60 (by repeat' constructor) (by simp [ptC])) (by rfl)) (.hh rfl (.c Tryz.func29 [_] (trzxid_spec c (closeT ((ownedZ τ u.ses).reverse.take i) τ))) ?_)))))))
   rintro v L' ⟨rfl, rfl⟩
   refine D.kv rfl (.buildN (pl := [(0, 1), (1, 1), (2, 1), (3, 8)]) (us := [(0, vint (closeT ((ownedZ τ u.ses).reverse.take i) τ).zx), (3, .agg (ptC (delX (closeT ((ownedZ τ u.ses).reverse.take i) τ) (ownedZ τ u.ses).reverse[i])).toArray)]) (cells := [vint (closeT ((ownedZ τ u.ses).reverse.take i) τ).zx, vint 0, vint 0] ++ ptC (delX (closeT ((ownedZ τ u.ses).reverse.take i) τ) (ownedZ τ u.ses).reverse[i])) Tryz.underlying62 (by kernel_rfl) ze_62 rfl (fill_entry _ _ _ _ _ _ _ _ _)) (.ph (.g0 (.hh rfl (.call Tryz.func42 rfl rfl (vs := [_, _]) rfl (trapply_spec c (closeT ((ownedZ τ u.ses).reverse.take i) τ) (closeT ((ownedZ τ u.ses).reverse.take i) τ).zx 0 0 (delX (closeT ((ownedZ τ u.ses).reverse.take i) τ) (ownedZ τ u.ses).reverse[i]) [] nilP (txS_ok _ (by omega)) (N + N) hok (by show N + N + 0 ≤ _; omega))) ?_)))
   rintro v L' ⟨ue, ee, rfl, -, ⟨ae, ce, rfl⟩, rfl⟩; rw [← closeT_step hi2 τ]
   refine D.pf (GR.draw (by rintro ⟨_, _, h⟩; exact h) rfl [4, 5, 7, 9] [[0, 1, 2, 3, 4], [5], [6, 8, 7, 9]] mixed (by kernel_rfl) (.go [ptc b9 _ _, ptc b4 _ _] (by repeat' constructor) (.k rfl (.fieldAddr rfl fo_60_7) (.k rfl (.ld rfl ag_58) (.k rfl (.to (v' := .agg (ptC (delX (closeT ((ownedZ τ u.ses).reverse.take i) τ) (ownedZ τ u.ses).reverse[i])).toArray) (.loadA rfl ag_60 (by repeat' constructor) (by simp [ptC])) (by rfl)) (.k rfl (.slen rfl Tryz.underlying58 rfl) (.hh rfl (.buildSlice (vs := [_]) el_58 ze_60 rfl rfl rfl rfl (by first | (simp [Value.cells]; done) | (intro v hv; simp only [List.mem_cons, List.not_mem_nil, or_false] at hv; (repeat (first | (subst hv; rfl) | (rcases hv with hv | hv; (subst hv; rfl)))))) (by decide)) ?_)))))))
   rintro v L' ⟨b10, rfl, rfl⟩
   refine D.ph (.g0 (.hh rfl (.append1S rfl rfl rfl el_58 ze_60 rfl rfl ?c130 ?c131 (Nat.le_refl _) ?c132 (by decide) (by decide)) ?_))
   case c130 => simp only [List.map_cons, List.map_nil, List.flatten_cons, List.flatten_nil, List.append_nil]; simp only [Value.cells]; intro z hz; simp at hz; rcases hz with rfl | rfl | rfl | rfl | rfl | rfl | rfl | rfl <;> rfl
   case c131 => rfl
   case c132 => have := owned_len τ u.ses; have := ho.few; omega
   rintro v L' ⟨a8, c8, rfl, rfl⟩
   refine D.ph (.g0 (.k rfl (.indexAddr rfl rfl el_58 (by omega)) (.k rfl (.fieldAddr rfl fo_60_7) (.h2 (k := 9) rfl rfl (by kernel_rfl) rfl (.storeRdA (sz := 8) (j := i * 8) (k := 8) (vs := ptC (delX (closeT ((ownedZ τ u.ses).reverse.take i) τ) (ownedZ τ u.ses).reverse[i])) rfl rfl (pt_cells rfl rfl) sz_60 rfl ?ho137 ?hi138) (by repeat' constructor) (.store rfl rfl rfl sz_58 ?c139 (nfz0 _ _)) (by repeat' constructor) ?_ ?_))))
   case ho137 => simp
   case hi138 => omega
   case c139 => simp [clsC]
   ·rintro v L' rfl
    refine D.hh rfl (.store rfl rfl rfl sz_58 ?c143 (nfz0 _ _)) ?_
    case c143 => simp [clsC]
    rintro v L' rfl
    refine D.ph (.fin (.slCast (T := 60) (sz := 8) (m' := i + 1) (xs' := (closeL ((ownedZ τ u.ses).reverse.take (i + 1)) τ).flatMap ptC) (by repeat' constructor) (by exact rfl) (by rw [closeL_step hi2 τ, List.flatMap_append]; exact spl_app (by rw [flat8_len, closeL_len, List.length_take, Nat.min_eq_left (Nat.le_of_lt hi2)]) rfl) (.pc b4 (clsC u.ses (.slice (some ⟨a8, 0, none⟩) (i + 1) c8)) ?_)))
    refine .blk_n (.fold (p := clsJ (ptc b3 [vptr c] 76) c b4 τ u.ses (ownedZ τ u.ses).reverse (i + 1)) (q := [ptc b3 [vptr c] 76, treeR c (closeT ((ownedZ τ u.ses).reverse.take (i + 1)) τ), ptc b4 (clsC u.ses (.slice (some ⟨a8, 0, none⟩) (i + 1) c8)) 60, slR 60 8 (.slice (some ⟨a8, 0, none⟩) (i + 1) c8) (i + 1) ((closeL ((ownedZ τ u.ses).reverse.take (i + 1)) τ).flatMap ptC)]) (by repeat' constructor) (fun h hp => ⟨_, ⟨_, _, rfl⟩, hp⟩) ?_)
    exact .rnd (by repeat' constructor) (by repeat' constructor)
   rintro v L' rfl
   refine D.hh rfl (.storeRdA (sz := 8) (j := i * 8) (k := 8) (vs := ptC (delX (closeT ((ownedZ τ u.ses).reverse.take i) τ) (ownedZ τ u.ses).reverse[i])) rfl rfl (pt_cells rfl rfl) sz_60 rfl ?ho146 ?hi147) ?_
   case ho146 => simp
   case hi147 => omega
   rintro v L' rfl
   refine D.ph (.fin (.slCast (T := 60) (sz := 8) (m' := i + 1) (xs' := (closeL ((ownedZ τ u.ses).reverse.take (i + 1)) τ).flatMap ptC) (by repeat' constructor) (by exact rfl) (by rw [closeL_step hi2 τ, List.flatMap_append]; exact spl_app (by rw [flat8_len, closeL_len, List.length_take, Nat.min_eq_left (Nat.le_of_lt hi2)]) rfl) (.pc b4 (clsC u.ses (.slice (some ⟨a8, 0, none⟩) (i + 1) c8)) ?_)))
   refine .blk_n (.fold (p := clsJ (ptc b3 [vptr c] 76) c b4 τ u.ses (ownedZ τ u.ses).reverse (i + 1)) (q := [ptc b3 [vptr c] 76, treeR c (closeT ((ownedZ τ u.ses).reverse.take (i + 1)) τ), ptc b4 (clsC u.ses (.slice (some ⟨a8, 0, none⟩) (i + 1) c8)) 60, slR 60 8 (.slice (some ⟨a8, 0, none⟩) (i + 1) c8) (i + 1) ((closeL ((ownedZ τ u.ses).reverse.take (i + 1)) τ).flatMap ptC)]) (by repeat' constructor) (fun h hp => ⟨_, ⟨_, _, rfl⟩, hp⟩) ?_)
   exact .rnd (by repeat' constructor) (by repeat' constructor)
  rintro v L' ⟨b7, rfl, rfl⟩
  refine D.hh rfl (.c Tryz.func81 [_] (parent_spec ((ownedZ τ u.ses).reverse[i]) (by omega))) ?_
  rintro v L' ⟨rfl, rfl⟩
  refine D.hh rfl (.c Tryz.func76 [_, _] (trstat_spec c (closeT ((ownedZ τ u.ses).reverse.take i) τ) (parentZ ((ownedZ τ u.ses).reverse[i])) (N + N) hok hN2)) ?_
  rintro v L' ⟨rfl, rfl⟩
  refine D.mv rfl rfl (.kv rfl (.extract rfl rfl) (.k rfl (.extract rfl rfl) (.sa rfl rfl rfl sz_37 (by intro v hv; simp only [stC, List.mem_cons, List.not_mem_nil, or_false] at hv; rcases hv with rfl | rfl | rfl | rfl | rfl | rfl | rfl | rfl | rfl <;> rfl) ?_)))
  refine D.ph (.g0 (.kv rfl (.assign rfl) (.ph (.fin (.pc b7 (stC (statD (closeT ((ownedZ τ u.ses).reverse.take i) τ) (parentZ ((ownedZ τ u.ses).reverse[i])))) ?_)))))
  refine .then_n (GR.seq (GR.region (by rintro ⟨_, _, h⟩; exact h) rfl (.m rfl (.u (.fieldAddr rfl fo_37_4) (.u (.ld rfl ag_3) (.u (.addW rfl rfl) (.q (.build (us := [(0, _), (1, _), (5, _)]) fl_60 ze_60 rfl rfl (by simp [isCell])) rfl (.oq (.allocA ze_60) ?_))))))))
  rintro v L' ⟨b9, rfl, rfl⟩
  refine .sa rfl rfl sz_60 (by (first | (simp [isCell]; done) | (simp [isCell, setAll, Value.cells]; done))) ?_
  refine .nil (.pc b9 (ptC (delX (closeT ((ownedZ τ u.ses).reverse.take i) τ) (ownedZ τ u.ses).reverse[i])) ?_)
  refine .then_n (GR.seq (GR.draw (by rintro ⟨_, _, h⟩; exact h) rfl [2, 5] [[0, 1, 3, 2, 4], [5]] mixed (by kernel_rfl) (.go [ptc b3 _ _, ptc b9 _ _] (by repeat' constructor) (.k rfl (.ld rfl ag_76) (.kv rfl (.ld rfl ag_76) (.k rfl (.to (v' := .agg (ptC (delX (closeT ((ownedZ τ u.ses).reverse.take i) τ) (ownedZ τ u.ses).reverse[i])).toArray) (.loadA rfl ag_60 (by repeat' constructor) (by simp [ptC])) (by rfl)) (.hh rfl (.c Tryz.func29 [_] (trzxid_spec c (closeT ((ownedZ τ u.ses).reverse.take i) τ))) ?_)))))))
  rintro v L' ⟨rfl, rfl⟩
  refine D.kv rfl (.buildN (pl := [(0, 1), (1, 1), (2, 1), (3, 8)]) (us := [(0, vint (closeT ((ownedZ τ u.ses).reverse.take i) τ).zx), (3, .agg (ptC (delX (closeT ((ownedZ τ u.ses).reverse.take i) τ) (ownedZ τ u.ses).reverse[i])).toArray)]) (cells := [vint (closeT ((ownedZ τ u.ses).reverse.take i) τ).zx, vint 0, vint 0] ++ ptC (delX (closeT ((ownedZ τ u.ses).reverse.take i) τ) (ownedZ τ u.ses).reverse[i])) Tryz.underlying62 (by kernel_rfl) ze_62 rfl (fill_entry _ _ _ _ _ _ _ _ _)) (.ph (.g0 (.hh rfl (.call Tryz.func42 rfl rfl (vs := [_, _]) rfl (trapply_spec c (closeT ((ownedZ τ u.ses).reverse.take i) τ) (closeT ((ownedZ τ u.ses).reverse.take i) τ).zx 0 0 (delX (closeT ((ownedZ τ u.ses).reverse.take i) τ) (ownedZ τ u.ses).reverse[i]) [] nilP (txS_ok _ (by omega)) (N + N) hok (by show N + N + 0 ≤ _; omega))) ?_)))
  rintro v L' ⟨ue, ee, rfl, -, ⟨ae, ce, rfl⟩, rfl⟩; rw [← closeT_step hi2 τ]
  refine D.pf (GR.draw (by rintro ⟨_, _, h⟩; exact h) rfl [4, 5, 7, 9] [[0, 1, 2, 3, 4], [5], [6, 8, 7, 9]] mixed (by kernel_rfl) (.go [ptc b9 _ _, ptc b4 _ _] (by repeat' constructor) (.k rfl (.fieldAddr rfl fo_60_7) (.k rfl (.ld rfl ag_58) (.k rfl (.to (v' := .agg (ptC (delX (closeT ((ownedZ τ u.ses).reverse.take i) τ) (ownedZ τ u.ses).reverse[i])).toArray) (.loadA rfl ag_60 (by repeat' constructor) (by simp [ptC])) (by rfl)) (.k rfl (.slen rfl Tryz.underlying58 rfl) (.hh rfl (.buildSlice (vs := [_]) el_58 ze_60 rfl rfl rfl rfl (by first | (simp [Value.cells]; done) | (intro v hv; simp only [List.mem_cons, List.not_mem_nil, or_false] at hv; (repeat (first | (subst hv; rfl) | (rcases hv with hv | hv; (subst hv; rfl)))))) (by decide)) ?_)))))))
  rintro v L' ⟨b10, rfl, rfl⟩
  refine D.ph (.g0 (.hh rfl (.append1S rfl rfl rfl el_58 ze_60 rfl rfl ?c187 ?c188 (Nat.le_refl _) ?c189 (by decide) (by decide)) ?_))
  case c187 => simp only [List.map_cons, List.map_nil, List.flatten_cons, List.flatten_nil, List.append_nil]; simp only [Value.cells]; intro z hz; simp at hz; rcases hz with rfl | rfl | rfl | rfl | rfl | rfl | rfl | rfl <;> rfl
  case c188 => rfl
  case c189 => have := owned_len τ u.ses; have := ho.few; omega
  rintro v L' ⟨a8, c8, rfl, rfl⟩
  refine D.ph (.g0 (.k rfl (.indexAddr rfl rfl el_58 (by omega)) (.k rfl (.fieldAddr rfl fo_60_7) (.h2 (k := 9) rfl rfl (by kernel_rfl) rfl (.storeRdA (sz := 8) (j := i * 8) (k := 8) (vs := ptC (delX (closeT ((ownedZ τ u.ses).reverse.take i) τ) (ownedZ τ u.ses).reverse[i])) rfl rfl (pt_cells rfl rfl) sz_60 rfl ?ho194 ?hi195) (by repeat' constructor) (.store rfl rfl rfl sz_58 ?c196 (nfz0 _ _)) (by repeat' constructor) ?_ ?_))))
  case ho194 => simp
  case hi195 => omega
  case c196 => simp [clsC]
  ·rintro v L' rfl
   refine D.hh rfl (.store rfl rfl rfl sz_58 ?c200 (nfz0 _ _)) ?_
   case c200 => simp [clsC]
   rintro v L' rfl
   refine D.ph (.fin (.slCast (T := 60) (sz := 8) (m' := i + 1) (xs' := (closeL ((ownedZ τ u.ses).reverse.take (i + 1)) τ).flatMap ptC) (by repeat' constructor) (by exact rfl) (by rw [closeL_step hi2 τ, List.flatMap_append]; exact spl_app (by rw [flat8_len, closeL_len, List.length_take, Nat.min_eq_left (Nat.le_of_lt hi2)]) rfl) (.pc b4 (clsC u.ses (.slice (some ⟨a8, 0, none⟩) (i + 1) c8)) ?_)))
   refine .blk_n (.fold (p := clsJ (ptc b3 [vptr c] 76) c b4 τ u.ses (ownedZ τ u.ses).reverse (i + 1)) (q := [ptc b3 [vptr c] 76, treeR c (closeT ((ownedZ τ u.ses).reverse.take (i + 1)) τ), ptc b4 (clsC u.ses (.slice (some ⟨a8, 0, none⟩) (i + 1) c8)) 60, slR 60 8 (.slice (some ⟨a8, 0, none⟩) (i + 1) c8) (i + 1) ((closeL ((ownedZ τ u.ses).reverse.take (i + 1)) τ).flatMap ptC)]) (by repeat' constructor) (fun h hp => ⟨_, ⟨_, _, rfl⟩, hp⟩) ?_)
   exact .rnd (by repeat' constructor) (by repeat' constructor)
  rintro v L' rfl
  refine D.hh rfl (.storeRdA (sz := 8) (j := i * 8) (k := 8) (vs := ptC (delX (closeT ((ownedZ τ u.ses).reverse.take i) τ) (ownedZ τ u.ses).reverse[i])) rfl rfl (pt_cells rfl rfl) sz_60 rfl ?ho203 ?hi204) ?_
  case ho203 => simp
  case hi204 => omega
  rintro v L' rfl
  refine D.ph (.fin (.slCast (T := 60) (sz := 8) (m' := i + 1) (xs' := (closeL ((ownedZ τ u.ses).reverse.take (i + 1)) τ).flatMap ptC) (by repeat' constructor) (by exact rfl) (by rw [closeL_step hi2 τ, List.flatMap_append]; exact spl_app (by rw [flat8_len, closeL_len, List.length_take, Nat.min_eq_left (Nat.le_of_lt hi2)]) rfl) (.pc b4 (clsC u.ses (.slice (some ⟨a8, 0, none⟩) (i + 1) c8)) ?_)))
  refine .blk_n (.fold (p := clsJ (ptc b3 [vptr c] 76) c b4 τ u.ses (ownedZ τ u.ses).reverse (i + 1)) (q := [ptc b3 [vptr c] 76, treeR c (closeT ((ownedZ τ u.ses).reverse.take (i + 1)) τ), ptc b4 (clsC u.ses (.slice (some ⟨a8, 0, none⟩) (i + 1) c8)) 60, slR 60 8 (.slice (some ⟨a8, 0, none⟩) (i + 1) c8) (i + 1) ((closeL ((ownedZ τ u.ses).reverse.take (i + 1)) τ).flatMap ptC)]) (by repeat' constructor) (fun h hp => ⟨_, ⟨_, _, rfl⟩, hp⟩) ?_)
  exact .rnd (by repeat' constructor) (by repeat' constructor)
 refine .open (q := fun z : Value => [ptc b3 [vptr c] 76, treeR c (closeT ((ownedZ τ u.ses).reverse.take (ownedZ τ u.ses).length) τ), ptc b4 (clsC u.ses z) 60, slR 60 8 z (ownedZ τ u.ses).length ((closeL ((ownedZ τ u.ses).reverse.take (ownedZ τ u.ses).length) τ).flatMap ptC)]) (φ := fun z : Value => ∃ a k, z = .slice a (ownedZ τ u.ses).length k) (fun _ hp => hp) ?_
 rintro z ⟨az, cz, rfl⟩
 have htk : (ownedZ τ u.ses).reverse.take (ownedZ τ u.ses).length = (ownedZ τ u.ses).reverse := List.take_of_length_le (by omega)
 rw [htk]
 refine .blk_n (.then_n (.sr (.q (.la (clsC u.ses (.slice az (ownedZ τ u.ses).length cz)) rfl ag_60) rfl (.sa rfl rfl sz_60 (by simp [clsC, isCell]) ?_))))
 refine .nil (.pc bx (clsC u.ses (.slice az (ownedZ τ u.ses).length cz)) ?_)
 have hcl : (closeL (ownedZ τ u.ses).reverse τ).length = (ownedZ τ u.ses).length := by rw [closeL_len, hlr]
 refine .slCast (T := 60) (sz := 8) (m' := (closeL (ownedZ τ u.ses).reverse τ).length) (xs' := (closeL (ownedZ τ u.ses).reverse τ).flatMap ptC) (by repeat' constructor) (by omega) rfl (.add (p := bigR aclR (closeL (ownedZ τ u.ses).reverse τ)) (big_none fun y hy => ⟨(closeL_plain _ _ y hy).1, (closeL_plain _ _ y hy).2.1⟩) (.then_n (.ret ?_)))
 exact .doneM1 rfl (by repeat' constructor) (.cellA rfl ag_60 (by repeat' constructor) (by simp [clsC]) rfl) ⟨.slice az (ownedZ τ u.ses).length cz, closeL (ownedZ τ u.ses).reverse τ, rfl, map_pl fun y hy => (closeL_plain _ _ y hy).2.2.2, ⟨az, cz, by rw [hcl]⟩, fun y hy => ⟨by rw [(closeL_plain _ _ y hy).1]; rfl, (closeL_plain _ _ y hy).2.2.1⟩, rfl⟩ (by repeat' constructor) (by repeat' constructor)
theorem ptxnA_spec (t : Nat) (τ : Tr) (u : Who) (iv : Value) (r : Rq) (p : HP) (hA : WiA p u iv r) (N : Nat) (ho : τ.Ok N) (hN : N ≤ 1099511627776) (hw : TrW τ) (hN2 : N + 16 ≤ 1099511627776) (subs : List Rq) (hr : ∀ h : Hp, p h → rdS 10 h r.subsV subs.length (subs.flatMap rqC)) (hS : ∀ x ∈ subs, WiA p u iv x) (hSa : ∀ x ∈ subs, AclW x.acl) (hN3 : N + N ≤ 1099511627776) : Fn Tryz.prog 27 #[vptr t, vint u.ses, iv, .agg (rqC r).toArray] [treeR t τ, p] fun v L =>
    ∃ (y : Pt) (ys : List Pt), v = .agg (ptC y).toArray ∧ y.pl = (txnP τ u r subs).1 ∧ ys.map Pt.pl = (txnP τ u r subs).2 ∧ (isCell y.aclV = true ∧ ∃ a c, y.subsV = .slice a ys.length c) ∧ (∀ z ∈ ys, isCell z.aclV = true ∧ z.subsV = nilV) ∧ L = [treeR t τ, p, aclR y, slR 60 8 y.subsV ys.length (ys.flatMap ptC), bigR aclR ys] := by
 refine Fn.intro Tryz.func27 rfl rfl fun F W => ?_
 have hcl := hA.cells t
 refine .sr (.oq (.box rfl) ?_)
 rintro v L' ⟨b7, rfl, rfl⟩
 refine .oq (.allocA ze_60) ?_
 rintro v L' ⟨b8, rfl, rfl⟩
 refine .nil (.pc b7 (rqC r) ?_)
 refine .then_n (.seq (.sm rfl (.q (.ptreq rfl rfl Tryz.underlying76) rfl (.nt (.condF rfl (.sk (.sm rfl (.m rfl (.cv Tryz.func45 [_, _] (trsession_spec t τ u.ses) ?_)))))))))
 refine .m rfl (.u (.extract rfl rfl) (.u (.extract rfl rfl) (.u (.extract rfl rfl) (.a rfl (.a rfl (.an rfl (.sm rfl (.m rfl (.m rfl (.q (.la (rqC r) rfl ag_33) rfl (.q (.to (v' := .agg (wiC t u iv r).toArray) (.buildN (pl := [(0, 1), (1, 1), (2, 1), (3, 10)]) (us := [(0, vptr t), (1, vint u.ses), (2, iv), (3, .agg (rqC r).toArray)]) (cells := wiC t u iv r) Tryz.underlying134 (by kernel_rfl) ze_134 rfl (fill_wish t u iv hA.shape r)) rfl) rfl (.oq (.allocA ze_134) ?_))))))))))))
 rintro v L' ⟨b1, rfl, rfl⟩
 refine .sa rfl rfl sz_134 (by exact fun v hv => List.all_eq_true.1 hcl v hv) ?_
 refine .nil (.pc b1 (wiC t u iv r) ?_)
 refine .then_n (.seq (.block (.sr (.u (.fieldAddr rfl fo_33_0) (.u (.ld rfl ag_3) (.cv Tryz.func25 [_] (pchanges_spec r.kind) ?_))))))
 refine .u (.not rfl) (.an rfl (.condB rfl (fun h30 => ?_) (fun h30 => ?_)))
 ·have hT : txnP τ u r subs = (refusal 110 (-1), []) := if_pos (by simpa using h30)
  refine .sr (.cv Tryz.func48 [_, _] (prefusal_spec 110 (-1)) ?_)
  refine .sa rfl rfl sz_60 (by simp [ptC, refusal, isCell]) ?_
  refine .nil (.pc b8 ([vint ((refusal 110 (-1))).kind, vstr ((refusal 110 (-1))).path, vstr ((refusal 110 (-1))).data, nilV, vint ((refusal 110 (-1))).own, vint ((refusal 110 (-1))).num, vint ((refusal 110 (-1))).err, nilV]) ?_)
  refine .add (slR_nil 75 2) (.add (slR_nil 60 8) (.add (p := bigR aclR []) (fun h => big_nil h) (.then_n (.ret (.blk_r (.then_r ?_))))))
  exact .d1 rfl (.cellA rfl ag_60 (by repeat' constructor) (by simp [spl, setAll]) rfl) ⟨refusal 110 (-1), [], rfl, by rw [hT]; rfl, by rw [hT]; rfl, ⟨rfl, none, 0, rfl⟩, (fun _ h => by cases h), rfl⟩
 have hc : changesK r.kind = true := by simpa using h30
 refine .sm rfl (.u (.not rfl) (.an rfl (.condN rfl (fun h36 => ?_) (fun h36 => ?_))))
 ·have hT : txnP τ u r subs = (refusal 67 (-1), []) := by unfold txnP; rw [if_neg (fun g => g hc), if_pos h36]
  refine .sr (.cv Tryz.func48 [_, _] (prefusal_spec 67 (-1)) ?_)
  refine .sa rfl rfl sz_60 (by simp [ptC, refusal, isCell]) ?_
  refine .nil (.pc b8 ([vint ((refusal 67 (-1))).kind, vstr ((refusal 67 (-1))).path, vstr ((refusal 67 (-1))).data, nilV, vint ((refusal 67 (-1))).own, vint ((refusal 67 (-1))).num, vint ((refusal 67 (-1))).err, nilV]) ?_)
  refine .add (slR_nil 75 2) (.add (slR_nil 60 8) (.add (p := bigR aclR []) (fun h => big_nil h) (.then_n (.ret (.blk_r (.then_r ?_))))))
  exact .d1 rfl (.cellA rfl ag_60 (by repeat' constructor) (by simp [spl, setAll]) rfl) ⟨refusal 67 (-1), [], rfl, by rw [hT]; rfl, by rw [hT]; rfl, ⟨rfl, none, 0, rfl⟩, (fun _ h => by cases h), rfl⟩
 refine .sr (.u (.fieldAddr rfl fo_33_0) (.u (.ld rfl ag_3) (.ui rfl rfl rfl (.an rfl (.condD rfl (fun h40 => ?_) (fun h40 => ?_))))))
 ·have hT : txnP τ u r subs = multiP τ u subs := by unfold txnP; rw [if_neg (fun g => g hc), if_neg (fun g => g h36), if_pos h40]
  refine .sr (.q (.la (wiC t u iv r) rfl ag_134) rfl (.oq (.c Tryz.func49 [_] (pmulti_spec t τ u iv r p hA N ho hN hw hN2 subs hr hS hSa)) ?_))
  rintro v L' ⟨w, ys, rfl, hys, ⟨aw, cw, rfl⟩, hyk, rfl⟩
  refine .sa rfl rfl sz_60 (by exact ptC_ws (by rw [(multi_acl τ u subs).1]; rfl)) ?_
  refine .nil (.pc b8 ([vint ((multiP τ u subs).1).kind, vstr ((multiP τ u subs).1).path, vstr ((multiP τ u subs).1).data, (multiP τ u subs).1.aclV, vint ((multiP τ u subs).1).own, vint ((multiP τ u subs).1).num, vint ((multiP τ u subs).1).err, .slice aw ys.length cw]) ?_)
  refine .add (slR_nil 75 2) (.as (q := aclR ((multiP τ u subs).1.ws (.slice aw ys.length cw))) (p := slR 75 2 nilV 0 []) (by repeat' constructor) (by show _ = slR _ _ (multiP τ u subs).1.aclV (multiP τ u subs).1.acl.length ((multiP τ u subs).1.acl.flatMap acC); rw [(multi_acl τ u subs).1, (multi_acl τ u subs).2]; rfl) (.then_n (.ret (.blk_r (.then_r ?_)))))
  exact .d1 rfl (.cellA rfl ag_60 (by repeat' constructor) (by simp [spl, setAll]) rfl) ⟨(multiP τ u subs).1.ws (.slice aw ys.length cw), ys, rfl, by rw [hT]; exact multi_pl τ u subs _, by rw [hT]; exact hys, ⟨by show isCell (multiP τ u subs).1.aclV = true; rw [(multi_acl τ u subs).1]; rfl, aw, cw, rfl⟩, hyk, rfl⟩
 refine .sr (.u (.fieldAddr rfl fo_33_0) (.u (.ld rfl ag_3) (.ui rfl rfl rfl (.an rfl (.condD rfl (fun h46 => ?_) (fun h46 => ?_))))))
 ·have hT : txnP τ u r subs = (noopX, []) := by unfold txnP; rw [if_neg (fun g => g hc), if_neg (fun g => g h36), if_neg h40, if_pos h46]
  refine .sr (.q (.build (us := [(0, _)]) fl_60 ze_60 rfl rfl (by simp [isCell])) rfl (.sa rfl rfl sz_60 (by (first | (simp [isCell]; done) | (simp [isCell, setAll, Value.cells]; done))) ?_))
  refine .nil (.pc b8 ([vint (noopX).kind, vstr (noopX).path, vstr (noopX).data, nilV, vint (noopX).own, vint (noopX).num, vint (noopX).err, nilV]) ?_)
  refine .add (slR_nil 75 2) (.add (slR_nil 60 8) (.add (p := bigR aclR []) (fun h => big_nil h) (.then_n (.ret (.blk_r (.then_r ?_))))))
  exact .d1 rfl (.cellA rfl ag_60 (by repeat' constructor) (by simp [spl, setAll]) rfl) ⟨noopX, [], rfl, by rw [hT]; rfl, by rw [hT]; rfl, ⟨rfl, none, 0, rfl⟩, (fun _ h => by cases h), rfl⟩
 refine .sr (.u (.fieldAddr rfl fo_33_0) (.u (.ld rfl ag_3) (.ui rfl rfl rfl (.an rfl (.condD rfl (fun h51 => ?_) (fun h51 => ?_))))))
 ·have hT : txnP τ u r subs = closeP τ u.ses := by unfold txnP; rw [if_neg (fun g => g hc), if_neg (fun g => g h36), if_neg h40, if_neg h46, if_pos h51]
  refine .sr (.q (.la (wiC t u iv r) rfl ag_134) rfl (.oq (.c Tryz.func50 [_] (pcloses_spec t τ u iv r p hA N ho hN hN3)) ?_))
  rintro v L' ⟨w, ys, rfl, hys, ⟨aw, cw, rfl⟩, hyk, rfl⟩
  refine .sa rfl rfl sz_60 (by exact ptC_ws (by rfl)) ?_
  refine .nil (.pc b8 ([vint ((closeP τ u.ses).1).kind, vstr ((closeP τ u.ses).1).path, vstr ((closeP τ u.ses).1).data, (closeP τ u.ses).1.aclV, vint ((closeP τ u.ses).1).own, vint ((closeP τ u.ses).1).num, vint ((closeP τ u.ses).1).err, .slice aw ys.length cw]) ?_)
  refine .add (slR_nil 75 2) (.as (q := aclR ((closeP τ u.ses).1.ws (.slice aw ys.length cw))) (p := slR 75 2 nilV 0 []) (by repeat' constructor) rfl (.then_n (.ret (.blk_r (.then_r ?_)))))
  exact .d1 rfl (.cellA rfl ag_60 (by repeat' constructor) (by simp [spl, setAll]) rfl) ⟨(closeP τ u.ses).1.ws (.slice aw ys.length cw), ys, rfl, by rw [hT]; rfl, by rw [hT]; exact hys, ⟨rfl, aw, cw, rfl⟩, hyk, rfl⟩
 have hk8 : r.kind ≠ 8 := h51
 refine .skip (.blk_n (.then_n (.sr (.q (.la (wiC t u iv r) rfl ag_134) rfl (.oq (.c Tryz.func51 [_] (ppart_spec t τ u iv r p hA N ho hN (cver_i64 hw _))) ?_)))))
 rintro v L' ⟨w, rfl, ⟨aw, cw, rfl⟩, rfl⟩
 refine .m rfl (.u (.extract rfl rfl) (.u (.extract rfl rfl) (.oq (.allocA ze_60) ?_)))
 rintro v L' ⟨b13, rfl, rfl⟩
 refine .sa rfl rfl sz_60 (by exact fun v hv => List.all_eq_true.1 (ptC_cells ⟨none, 0, 0, part_sub τ u r⟩) v hv) ?_
 refine .a rfl (.nil (.pc b13 ([vint ((partP τ u r).1).kind, vstr ((partP τ u r).1).path, vstr ((partP τ u r).1).data, .slice aw (partP τ u r).1.acl.length cw, vint ((partP τ u r).1).own, vint ((partP τ u r).1).num, vint ((partP τ u r).1).err, (partP τ u r).1.subsV]) ?_))
 refine .then_n (.seq (.sm rfl (.ui rfl rfl rfl (.nt (.condN rfl (fun h63 => ?_) (fun h63 => ?_))))))
 ·have hT : txnP τ u r subs = (refusal (partP τ u r).2 (-1), []) := by unfold txnP; rw [if_neg (fun g => g hc), if_neg (fun g => g h36), if_neg h40, if_neg h46, if_neg hk8, if_pos h63]
  refine .sm rfl (.cv Tryz.func48 [_, _] (prefusal_spec (partP τ u r).2 (-1)) ?_)
  refine .sa rfl rfl sz_60 (by simp [ptC, refusal, isCell]) ?_
  refine .nil (.pc b8 ([vint ((refusal (partP τ u r).2 (-1))).kind, vstr ((refusal (partP τ u r).2 (-1))).path, vstr ((refusal (partP τ u r).2 (-1))).data, nilV, vint ((refusal (partP τ u r).2 (-1))).own, vint ((refusal (partP τ u r).2 (-1))).num, vint ((refusal (partP τ u r).2 (-1))).err, nilV]) ?_)
  refine .add (slR_nil 75 2) (.add (slR_nil 60 8) (.add (p := bigR aclR []) (fun h => big_nil h) (.then_n (.rt ?_))))
  exact .d1 rfl (.cellA rfl ag_60 (by repeat' constructor) (by simp [spl, setAll]) rfl) ⟨refusal (partP τ u r).2 (-1), [], rfl, by rw [hT]; rfl, by rw [hT]; rfl, ⟨rfl, none, 0, rfl⟩, (fun _ h => by cases h), rfl⟩
 have hT : txnP τ u r subs = ((partP τ u r).1, []) := by unfold txnP; rw [if_neg (fun g => g hc), if_neg (fun g => g h36), if_neg h40, if_neg h46, if_neg hk8, if_neg (fun g => g h63)]
 refine .sk (.sr (.q (.to (v' := .agg ([vint ((partP τ u r).1).kind, vstr ((partP τ u r).1).path, vstr ((partP τ u r).1).data, .slice aw (partP τ u r).1.acl.length cw, vint ((partP τ u r).1).own, vint ((partP τ u r).1).num, vint ((partP τ u r).1).err, nilV]).toArray) (.loadA rfl ag_60 (by repeat' constructor) (by simp)) (by rw [← part_sub τ u r]; rfl)) rfl (.sa rfl rfl sz_60 (by simp [isCell]) ?_)))
 refine .nil (.pc b8 ([vint ((partP τ u r).1).kind, vstr ((partP τ u r).1).path, vstr ((partP τ u r).1).data, .slice aw (partP τ u r).1.acl.length cw, vint ((partP τ u r).1).own, vint ((partP τ u r).1).num, vint ((partP τ u r).1).err, nilV]) ?_)
 refine .add (slR_nil 60 8) (.add (p := bigR aclR []) (fun h => big_nil h) (.then_n (.ret ?_)))
 exact .d1 rfl (.cellA rfl ag_60 (by repeat' constructor) (by simp [spl, setAll]) rfl) ⟨(withA (partP τ u r).1 (.slice aw (partP τ u r).1.acl.length cw)).ws nilV, [], rfl, by rw [hT]; exact part_pl τ u r (.slice aw (partP τ u r).1.acl.length cw), by rw [hT]; rfl, ⟨rfl, none, 0, rfl⟩, (fun _ h => by cases h), rfl⟩
/-! ### What Txn answers -/
structure Good (y : Pt) : Prop where
 r : PtR y
 n : PtN y
theorem Good.of {y z : Pt} (e : y.pl = z.pl) (h : Good z) : Good y := by
 refine ⟨PtR.of e h.r, ?_⟩
 have hk : PtN z.pl := ⟨h.n.own, h.n.num, h.n.data, h.n.acl⟩
 rw [← e] at hk
 exact ⟨hk.own, hk.num, hk.data, hk.acl⟩
theorem refusal_G {e n : Int} (he : I64 e) (hn : I64 n) : Good (refusal e n) := ⟨refusal_R he hn, I64.zero, hn, by show 0 ≤ _; decide, acl_nil_w⟩
theorem part_G {τ : Tr} {u : Who} {r : Rq} {p : HP} {iv : Value} (h : WiA p u iv r) (ha : AclW r.acl) : Good (partP τ u r).1 := ⟨part_R h ha, part_n τ u h.ses (by have := h.rq.data; omega) ha⟩
theorem multiL_N {p : HP} {u : Who} {iv : Value} : ∀ {l : List Rq} {τ : Tr}, (∀ r ∈ l, WiA p u iv r ∧ AclW r.acl) → ∀ y ∈ (multiL u l τ).2.1, PtN y
 | [], _, _, _, h => by cases h
 | r :: l, τ, h, y, hy => by
  rw [multi_cons] at hy
  split at hy
  ·cases hy
  ·rcases List.mem_cons.1 hy with rfl | hy
   ·exact (part_G (h r List.mem_cons_self).1 (h r List.mem_cons_self).2).n
   ·exact multiL_N (fun x hx => h x (List.mem_cons_of_mem _ hx)) y hy
theorem multi_N {p : HP} {u : Who} {iv : Value} {l : List Rq} {τ : Tr} (h : ∀ r ∈ l, WiA p u iv r ∧ AclW r.acl) : PtN (multiP τ u l).1 ∧ ∀ y ∈ (multiP τ u l).2, PtN y := by
 have hm : I64 (-1) := ⟨by decide, by decide⟩
 unfold multiP
 split
 ·exact ⟨(refusal_G ⟨by decide, by decide⟩ hm).n, fun _ g => by cases g⟩
 ·rename_i hl
  split
  ·rename_i i e he
   have hie : i < 8 ∧ 0 ≤ e ∧ e ≤ 110 := by
    have := multi_stop_i he
    omega
   exact ⟨(refusal_G ⟨by omega, by omega⟩ ⟨by omega, by omega⟩).n, fun _ g => by cases g⟩
  ·exact ⟨⟨I64.zero, I64.zero, Nat.zero_le _, acl_nil_w⟩, multiL_N h⟩
theorem del_N {τ : Tr} {p : Bs} : PtN (delX τ p) := ⟨I64.zero, wrap_i64 _, Nat.zero_le _, acl_nil_w⟩
theorem closeL_N : ∀ {l : List Bs} {τ : Tr}, ∀ y ∈ closeL l τ, PtN y ∧ y.kind = 2
 | [], _, _, h => by cases h
 | p :: l, τ, y, hy => by
  rcases List.mem_cons.1 (show y ∈ delX τ p :: closeL l _ from hy) with rfl | hy
  ·exact ⟨del_N, rfl⟩
  ·exact closeL_N y hy
structure TxnG (N : Nat) (y : Pt) (l : List Pt) : Prop where
 x : Good y
 each : ∀ z ∈ l, Good z
 len : l.length ≤ 8 ∨ (y.kind = 6 ∧ l.length ≤ N ∧ ∀ z ∈ l, z.kind = 2)
theorem txn_G {τ : Tr} {N : Nat} (ho : τ.Ok N) {u : Who} {r : Rq} {p : HP} {iv : Value} {subs : List Rq} (hd : WiD p u iv r subs) : TxnG N (txnP τ u r subs).1 (txnP τ u r subs).2 := by
 have hm : I64 (-1) := ⟨by decide, by decide⟩
 have few : ∀ {x : Pt}, Good x → TxnG N x [] := fun h => ⟨h, (fun _ g => by cases g), .inl (Nat.zero_le _)⟩
 unfold txnP
 split
 ·exact few (refusal_G ⟨by decide, by decide⟩ hm)
 split
 ·exact few (refusal_G ⟨by decide, by decide⟩ hm)
 split
 ·have h1 := multi_R (τ := τ) (u := u) (l := subs) (fun x hx => ⟨hd.each x hx, hd.acls x hx⟩)
  have h2 := multi_N (τ := τ) (u := u) (l := subs) (fun x hx => ⟨hd.each x hx, hd.acls x hx⟩)
  exact ⟨⟨h1.1, h2.1⟩, fun z hz => ⟨h1.2.1 z hz, h2.2 z hz⟩, .inl h1.2.2⟩
 split
 ·exact few ⟨⟨⟨I64.zero, I64.zero, I64.zero, I64.zero, by show 0 < U64; decide, by show 0 < U64; decide, by show 0 < U64; decide, fun a ha => by cases ha⟩, acl_nil_w.long, Nat.zero_le _, Nat.zero_le _, Nat.zero_le _⟩, I64.zero, I64.zero, Nat.zero_le _, acl_nil_w⟩
 split
 ·have hcl : (closeL (ownedZ τ u.ses).reverse τ).length = (ownedZ τ u.ses).length := by rw [closeL_len, List.length_reverse]
  have hfew := owned_len τ u.ses
  have hon := ho.few
  have hL := closeL_R (l := (ownedZ τ u.ses).reverse) (τ := τ) (fun q hq => owned_short ho (List.mem_reverse.1 hq))
  refine ⟨⟨⟨⟨⟨by show (-9223372036854775808 : Int) ≤ 6; decide, by show (6 : Int) ≤ 9223372036854775807; decide⟩, hd.w.ses, I64.zero, I64.zero, by show 0 < U64; decide, by show 0 < U64; decide, by show 0 < U64; decide, fun a ha => by cases ha⟩, acl_nil_w.long, Nat.zero_le _, Nat.zero_le _, Nat.zero_le _⟩, hd.w.ses, I64.zero, Nat.zero_le _, acl_nil_w⟩, fun z hz => ⟨(hL z hz).1, (closeL_N z hz).1⟩, .inr ⟨rfl, ?_, fun z hz => (closeL_N z hz).2⟩⟩
  show (closeL (ownedZ τ u.ses).reverse τ).length ≤ N
  omega
 split
 ·have := part_code τ u r
  exact few (refusal_G ⟨by omega, by omega⟩ hm)
 ·exact few (part_G hd.w hd.a)
theorem TxnG.of {N : Nat} {x y : Pt} {l ys : List Pt} (h : TxnG N x l) (hy : y.pl = x) (hys : ys.map Pt.pl = l) : TxnG N y ys := by
 subst hy; subst hys
 refine ⟨Good.of (z := y.pl) rfl h.x, fun z hz => Good.of (z := z.pl) rfl (h.each _ (List.mem_map_of_mem hz)), ?_⟩
 rcases h.len with h1 | ⟨h1, h2, h3⟩
 ·exact .inl (by rwa [List.length_map] at h1)
 ·exact .inr ⟨h1, by rwa [List.length_map] at h2, fun z hz => h3 z.pl (List.mem_map_of_mem (f := Pt.pl) hz)⟩
theorem TxnG.few {N : Nat} {x : Pt} {l : List Pt} (h : TxnG N x l) (hN : N ≤ 1048576) : l.length ≤ 1048576 := by
 rcases h.len with h1 | ⟨-, h2, -⟩ <;> omega
theorem TxnG.tx {N : Nat} {y : Pt} {ys : List Pt} (h : TxnG N y ys) (hN : N ≤ 1048576) (z s i : Int) (hc : isCell y.aclV = true ∧ ∃ a c, y.subsV = .slice a ys.length c) (hcs : ∀ z ∈ ys, isCell z.aclV = true ∧ z.subsV = nilV) : TxA (entR ⟨z, s, i, y, ys⟩) y ys := by
 refine ⟨⟨fun _ hp => ent_acl hp, h.x.r.many, h.x.r.path, ?_, hc.1⟩, fun _ hp => ent_subs hp, h.few hN, fun w hw => ⟨fun _ hp => ent_each hp hw, (h.each w hw).r.many, (h.each w hw).r.path, by rw [(hcs w hw).2]; rfl, (hcs w hw).1⟩⟩
 obtain ⟨a, c, e⟩ := hc.2
 rw [e]; rfl
theorem TxnG.n {N : Nat} {y : Pt} {ys : List Pt} (h : TxnG N y ys) {z s i : Int} (hz : I64 z) : EnN ⟨z, s, i, y, ys⟩ := ⟨hz, h.x.n, fun w hw => (h.each w hw).n⟩
theorem TxnG.w {N : Nat} {y : Pt} {ys : List Pt} (h : TxnG N y ys) {τ : Tr} (hw : TrW τ) {z : Int} (hz : I64 z) : TrW (applyZ τ z y ys).1 := hw.app (h.n (s := 0) (i := 0) hz)
theorem erase_ok {τ : Tr} {N : Nat} (h : τ.Ok N) {x : Pt} (hk : x.kind = 2) (zx : Int) : (partZ τ x zx).1.Ok N := by
 unfold partZ
 rw [if_neg (by omega), if_pos hk]
 unfold eraseZ
 split
 ·exact (h.cut _).kid _ _ _
 ·exact h
theorem erases_ok {τ : Tr} {N : Nat} (h : τ.Ok N) (zx : Int) (l : List Pt) (hl : ∀ x ∈ l, x.kind = 2) : (partsZ τ zx l).1.Ok N := by
 unfold partsZ
 have H : ∀ (l : List Pt) (r : Tr × List Ev), r.1.Ok N → (∀ x ∈ l, x.kind = 2) → (l.foldl (fun r x => ((partZ r.1 x zx).1, r.2 ++ (partZ r.1 x zx).2)) r).1.Ok N := by
  intro l
  induction l with
  | nil => intro r h _; exact h
  | cons x l ih =>
   intro r h hl
   rw [List.foldl_cons]
   exact ih _ (erase_ok h (hl x List.mem_cons_self) zx) fun y hy => hl y (List.mem_cons_of_mem _ hy)
 exact H l _ h hl
theorem TxnG.ok {N : Nat} {y : Pt} {ys : List Pt} (h : TxnG N y ys) {τ : Tr} {M : Nat} (ho : τ.Ok M) (z : Int) : (applyZ τ z y ys).1.Ok (M + 9) := by
 rcases h.len with h1 | ⟨h1, -, h3⟩
 ·exact (ho.apply z y ys h.x.r.many fun w hw => (h.each w hw).r.many).more (by omega)
 ·unfold applyZ
  dsimp only
  rw [if_neg (by omega), if_pos h1]
  exact ((erases_ok (ho.zx z) z _ fun w hw => h3 w (List.mem_filter.1 hw).1).dropS _).more (by omega)
/-! ### Wishes of a list -/
/-! ### A part alone -/
open Go Go.Sort
abbrev compI (l : List Int) : List Int := Lib.compact l
theorem compact_fn {P : Program} {ρ : Go.Shelf.Ren} (LM : Lays2.n20 P ρ) (e : TypeId) (v : Value) (n : Nat) (xs : List Int) (hn : n < 4611686018427387904) :
  Fn P (ρ.f 20) #[v] [slR e 1 v n (xs.map vint)] fun u L => (∃ a c, u = .slice a (compI xs).length c) ∧ L = [slR e 1 u (compI xs).length ((compI xs).map vint)] := by
 intro F w hs
 have hs' : St ((fun h => ∃ y : List Value × (Nat × Nat) × (Option (Nat × Nat)), (y.2.2 = none ∧ v = .slice none 0 0 ∧ n = 0 ∧ xs = []) ∨ (∃ b cap, y.2.2 = some (b, cap) ∧ v = .slice (some ⟨b, 0, none⟩) n cap ∧ h b = some (.cells (List.toArray (xs.map vint ++ y.1)) e y.2.1) ∧ xs.length = n ∧ cap ≤ xs.length + y.1.length ∧ n ≤ cap ∧ nfz y.2.1 0 cap)) :: F) w := by
  refine sep_imp (fun h hp => ?_) hs
  rcases hp with ⟨h1, h2, h3⟩ | ⟨b, cap, rest, fr, h1, h2, h3, h4, h5, h6⟩
  ·exact ⟨([], (0, 0), none), .inl ⟨rfl, h1, h2, by simpa using h3⟩⟩
  ·exact ⟨(rest, fr, some (b, cap)), .inr ⟨b, cap, rfl, h1, h2, by simpa using h3, by simpa using h4, h5, by simpa using h6⟩⟩
 obtain ⟨⟨rest, fr, o⟩, h1, h2, hd, a1, a2, hp, hF⟩ := sep_ex hs'
 rcases hp with ⟨-, rfl, rfl, rfl⟩ | ⟨b, cap, -, rfl, p1, p2, p3, p4, p5⟩
 ·refine (Any.slices_Compact_int_empty LM none 0 w).mono ?_
  rintro en w' ⟨rfl, rfl⟩
  have e0 : compI [] = [] := rfl
  exact ⟨_, _, ⟨⟨none, 0, by rw [e0]; rfl⟩, by rw [e0]; rfl⟩, rfl, hs, .refl _⟩
 ·subst p2
  have hb := a1 _ _ p1
  have hH : Holds (Value.int .i64) w b 0 xs.toArray := by
   intro j hj
   have hj' : j < xs.length := by simpa using hj
   have hb' : w.heap[b]? = some (.cells (xs.map vint ++ rest).toArray e fr) := hb
   refine ⟨?_, ?_⟩
   ·simp only [World.cell?, hb', Nat.zero_add, Option.isSome_none, Bool.false_eq_true, if_false]
    rw [List.getElem?_toArray, List.getElem?_append_left (by simpa using hj')]
    simp [hj']
   ·have := p5 j (by omega) (by dsimp only at p3 p4 ⊢; omega)
    simp only [World.frozen?, hb', Nat.zero_add]
    simpa using this
  refine (Any.slices_Compact_int LM b 0 cap xs w hH (by omega) p4).mono ?_
  rintro en w' ⟨rfl, k, rfl⟩
  have hle := Lib.compact_length_le xs
  generalize hcs : Lib.compact xs = cs at hle
  have hcl : (cs ++ List.replicate (xs.length - cs.length) 0).length = xs.length := by rw [List.length_append, List.length_replicate]; omega
  refine ⟨_, _, ⟨⟨_, _, by unfold compI; rw [hcs]⟩, rfl⟩, rfl, ?_, ?_⟩
  ·have h2b : h2 b = none := (hd b).resolve_left (by rw [p1]; simp)
   have hnew : (putRow (Value.int .i64) (Sort.ahead w k) b 0 (cs ++ List.replicate (xs.length - cs.length) 0).toArray).heap[b]? = some (.cells (putCells (Value.int .i64) 0 (cs ++ List.replicate (xs.length - cs.length) 0).toArray (xs.map vint ++ rest).toArray) e fr) := by
    have hb2 : w.heap[b]? = some (.cells (xs.map vint ++ rest).toArray e fr) := hb
    simp [putRow, mapBlock, Sort.ahead, Array.getElem?_modify, hb2, onCells]
   have hrow : (putCells (Value.int .i64) 0 (cs ++ List.replicate (xs.length - cs.length) 0).toArray (xs.map vint ++ rest).toArray) = (cs.map vint ++ ((List.replicate (xs.length - cs.length) (0 : Int)).map vint ++ rest)).toArray := by
    rw [← List.append_assoc, ← List.map_append]
    generalize cs ++ List.replicate (xs.length - cs.length) 0 = ts at hcl
    apply Array.ext_getElem?
    intro j
    simp only [putCells, Array.getElem?_mapIdx, List.getElem?_toArray, Nat.zero_le, true_and, Nat.zero_add, Nat.sub_zero, List.size_toArray]
    by_cases hj : j < xs.length
    ·rw [List.getElem?_append_left (by simpa using hj), List.getElem?_append_left (by simpa [hcl] using hj)]
     simp [hj, hcl]
    ·rw [List.getElem?_append_right (by simp; omega), List.getElem?_append_right (by simp [hcl]; omega)]
     simp [hj, hcl]
   refine ⟨fun c => if c = b then some (.cells (cs.map vint ++ ((List.replicate (xs.length - cs.length) (0 : Int)).map vint ++ rest)).toArray e fr) else none, h2, fun c => ?_, fun c o e => ?_, fun c o hc => ?_, ?_, hF⟩
   ·by_cases e : c = b
    ·exact .inr (e ▸ h2b)
    ·exact .inl (if_neg e)
   ·by_cases hc : c = b
    ·subst hc
     dsimp only at e
     rw [if_pos rfl] at e
     obtain rfl := Option.some.inj e
     rw [← hrow]; exact hnew
    ·simp [hc] at e
   ·have hcb : c ≠ b := by rintro rfl; rw [h2b] at hc; cases hc
    have hold := a2 _ _ hc
    show (putRow (Value.int .i64) (Sort.ahead w k) b 0 _).heap[c]? = _
    have hold2 : w.heap[c]? = some o := hold
    simp [putRow, mapBlock, Sort.ahead, Array.getElem?_modify, Ne.symm hcb, hold2]
   ·unfold compI; rw [hcs]
    refine .inr ⟨b, cap, _, fr, rfl, if_pos rfl, by simp, ?_, by omega, by simpa using p5⟩
    simp at p3 ⊢; omega
  ·refine ⟨rfl, rfl, rfl, ?_⟩
   show w.heap.size ≤ (putRow (Value.int .i64) (Sort.ahead w k) b 0 _).heap.size
   simp [putRow, mapBlock, Sort.ahead]
abbrev Spot := Int × Bs
abbrev Wt := Int × Spot
def spotV (s : Spot) : Value := .agg #[vint s.1, vstr s.2]
def cntW (ω : List Wt) (s : Int) : Nat := (ω.filter fun w => decide (w.1 = s)).length
def rmW (ω : List Wt) (w : Wt) : List Wt := ω.filter fun x => decide (x ≠ w)
def isWt (k : Int) (p : Bs) : Prop := 1 ≤ k ∧ k ≤ 3 ∧ checkZ p = 0
instance (k : Int) (p : Bs) : Decidable (isWt k p) := inferInstanceAs (Decidable (_ ∧ _))
def addW (ω : List Wt) (s k : Int) (p : Bs) : List Wt × Int :=
 if s < 1 ∨ ¬ isWt k p then (ω, 1) else if (s, (k, p)) ∈ ω then (ω, 0) else if cntW ω s = 64 then (ω, 91) else (ω ++ [(s, (k, p))], 0)
def kindsZ (e : Int) : List Int := if e = 1 then [2] else if e = 2 then [1, 2, 3] else if e = 3 then [1, 2] else if e = 4 then [3] else []
def meetW (k : Int) (p : Bs) (w : Wt) : Bool := decide (w.2.2 = p) && decide (w.2.1 ∈ kindsZ k)
def tellW (ω : List Wt) (k : Int) (p : Bs) : List Int := compI (sortI ((ω.filter (meetW k p)).map (·.1)))
def leftW (ω : List Wt) (k : Int) (p : Bs) : List Wt := ω.filter fun w => !meetW k p w
def dropW (ω : List Wt) (s : Int) : List Wt := ω.filter fun w => decide (w.1 ≠ s)
theorem comp_mem (l : List Int) (x : Int) : x ∈ compI l ↔ x ∈ l := by
 have key : ∀ j (hj : j < l.length), l[j] ∈ compI l := by
  intro j
  induction j with
  | zero =>
   intro hj
   refine List.mem_map.2 ⟨0, List.mem_filter.2 ⟨List.mem_range.2 hj, by simp [Lib.keeps]⟩, by simp [hj]⟩
  | succ j ih =>
   intro hj
   by_cases hk : Lib.keeps l.toArray (j + 1) = true
   ·exact List.mem_map.2 ⟨j + 1, List.mem_filter.2 ⟨List.mem_range.2 hj, hk⟩, by simp [hj]⟩
   ·have := ih (by omega)
    simp [Lib.keeps, hj, show j < l.length by omega] at hk
    rw [hk]; exact this
 constructor
 ·intro h
  obtain ⟨j, hj, rfl⟩ := List.mem_map.1 h
  have hj2 := List.mem_range.1 (List.mem_filter.1 hj).1
  simp [hj2]
 ·intro h
  obtain ⟨j, hj, rfl⟩ := List.mem_iff_getElem.1 h
  exact key j hj
theorem comp_sorted {l : List Int} (hs : l.Pairwise (· ≤ ·)) : (compI l).Pairwise (· < ·) := by
 show (((List.range l.length).filter (Lib.keeps l.toArray)).map (l.toArray[·]!)).Pairwise (· < ·)
 rw [List.pairwise_map, List.pairwise_filter]
 refine List.Pairwise.imp_of_mem (R := fun a b : Nat => a < b) ?_ List.pairwise_lt_range
 intro i j hi hj hij _ hk
 have hi2 := List.mem_range.1 hi
 have hj2 := List.mem_range.1 hj
 have hle := List.pairwise_iff_getElem.1 hs
 have h1 : l[i] ≤ l[j - 1]'(by omega) := by
  rcases Nat.lt_or_ge i (j - 1) with h | h
  ·exact hle i (j - 1) hi2 (by omega) h
  ·have : i = j - 1 := by omega
   subst this; exact Int.le_refl _
 have h2 : l[j - 1]'(by omega) ≤ l[j] := hle (j - 1) j (by omega) hj2 (by omega)
 have h3 : l[j] ≠ l[j - 1]'(by omega) := by
  simp [Lib.keeps, hj2, show j - 1 < l.length by omega] at hk
  rcases hk with hk | hk
  ·omega
  ·exact hk
 simp [hi2, hj2]; omega
theorem sortI_sorted (l : List Int) : (sortI l).Pairwise (· ≤ ·) := by
 have := List.pairwise_mergeSort (le := fun x y : Int => decide (x ≤ y)) (fun a b c h1 h2 => by simp only [decide_eq_true_eq] at *; omega) (fun a b => by simp only [Bool.or_eq_true, decide_eq_true_eq]; omega) l
 exact this.imp (fun h => by simpa using h)
theorem tell_sorted (ω : List Wt) (k : Int) (p : Bs) : (tellW ω k p).Pairwise (· < ·) := comp_sorted (sortI_sorted _)
theorem tell_mem {ω : List Wt} {k : Int} {p : Bs} {s : Int} : s ∈ tellW ω k p ↔ ∃ w ∈ ω, meetW k p w = true ∧ w.1 = s := by
 unfold tellW
 rw [comp_mem, sortI_mem, List.mem_map]
 constructor
 ·rintro ⟨w, hw, rfl⟩; exact ⟨w, (List.mem_filter.1 hw).1, (List.mem_filter.1 hw).2, rfl⟩
 ·rintro ⟨w, hw, hm, rfl⟩; exact ⟨w, List.mem_filter.2 ⟨hw, hm⟩, rfl⟩
/-! ### What stands for it -/
abbrev By := List (Spot × (Nat × List (Int × Int)))
abbrev idV (y : Int) : Value := vint y
def byV (x : Nat × List (Int × Int)) : Value := .map (some x.1)
def byM (by' : By) : List (Value × Value) := by'.map fun x => (spotV x.1, byV x.2)
def intM (l : List (Int × Int)) : List (Value × Value) := l.map fun x => (vint x.1, idV x.2)
def inW (x : Spot × (Nat × List (Int × Int))) : HP := mapR x.2.1 (intM x.2.2)
structure TbI (ω : List Wt) (m : By) (n : List (Int × Int)) : Prop where
 nod : ω.Nodup
 fit : ∀ w ∈ ω, 1 ≤ w.1 ∧ w.1 ≤ 9223372036854775807 ∧ 1 ≤ w.2.1 ∧ w.2.1 ≤ 3
 few : ∀ s, cntW ω s ≤ 64
 keys : (m.map (·.1)).Nodup
 inn : ∀ sp y, alook m sp = some y → (y.2.map (·.1)).Nodup ∧ y.2 ≠ [] ∧ ∀ z ∈ y.2, z.2 = z.1
 mem : ∀ id sp, (id, sp) ∈ ω ↔ ∃ y, alook m sp = some y ∧ id ∈ y.2.map (·.1)
 nkeys : (n.map (·.1)).Nodup
 many : ∀ s, alook n s = if cntW ω s = 0 then none else some (cntW ω s : Int)
def tbR (t : Nat) (ω : List Wt) : HP := fun h => ∃ x : (Nat × Nat) × (By × List (Int × Int)), TbI ω x.2.1 x.2.2 ∧ sep [ptc t [.map (some x.1.1), .map (some x.1.2)] 117, mapR x.1.1 (byM x.2.1), mapR x.1.2 (intM x.2.2), bigR inW x.2.1] h
section
variable {W : World} {n : Nat} {ds : List Deferred} {E : Env} {L R : List HP} {X : Act → World → Prop}
theorem G.tbOpen {t : Nat} {ω : List Wt} (hL : Pick (tbR t ω) L R) (h : ∀ rb rm m q, TbI ω m q → G W n ds E (ptc t [.map (some rb), .map (some rm)] 117 :: mapR rb (byM m) :: mapR rm (intM q) :: bigR inW m :: R) X) : G W n ds E L X :=
 G.focus hL (G.open (q := fun x : (Nat × Nat) × (By × List (Int × Int)) => [ptc t [.map (some x.1.1), .map (some x.1.2)] 117, mapR x.1.1 (byM x.2.1), mapR x.1.2 (intM x.2.2), bigR inW x.2.1]) (φ := fun x : (Nat × Nat) × (By × List (Int × Int)) => TbI ω x.2.1 x.2.2) (fun _ hp => hp) fun x hx => h x.1.1 x.1.2 x.2.1 x.2.2 hx)
theorem G.tbFold {t rb rm : Nat} {ω : List Wt} {m : By} {q : List (Int × Int)} {l : List Value} {e1 e2 : List (Value × Value)} (hI : TbI ω m q) (hL : Picks [ptc t l 117, mapR rb e1, mapR rm e2, bigR inW m] L R) (hl : l = [.map (some rb), .map (some rm)]) (h1 : e1 = byM m) (h2 : e2 = intM q)
  (h : G W n ds E (tbR t ω :: R) X) : G W n ds E L X := by
 subst hl; subst h1; subst h2
 exact G.fold hL (fun _ hp => ⟨((rb, rm), (m, q)), hI, hp⟩) h
end
theorem byM_set {m : By} {d : Spot} {y y' : Nat × List (Int × Int)} (h : alook m d = some y) (hp : y'.1 = y.1) : byM (aset m d y') = byM m := aset_map h (by simp [byV, hp])
theorem tb_some {ω : List Wt} {m : By} {n : List (Int × Int)} (h : TbI ω m n) (s : Int) : ∀ b, alook n s = some b → idV b = vint (cntW ω s : Nat) := by
 intro b hb
 rw [h.many s] at hb
 split at hb
 ·cases hb
 ·cases hb; rfl
theorem tb_none {ω : List Wt} {m : By} {n : List (Int × Int)} (h : TbI ω m n) (s : Int) : alook n s = none → Value.int .i64 0 = vint (cntW ω s : Nat) := by
 intro hb
 rw [h.many s] at hb
 split at hb
 ·rename_i h0; rw [h0]; rfl
 ·cases hb
/-! ### Who keeps it -/
theorem cnt_pos {ω : List Wt} {s : Int} {sp : Spot} (h : (s, sp) ∈ ω) : 0 < cntW ω s := by
 unfold cntW
 exact List.length_pos_of_mem (List.mem_filter.2 ⟨h, by simp⟩)
theorem cnt_append (ω : List Wt) (w : Wt) (s : Int) : cntW (ω ++ [w]) s = cntW ω s + if w.1 = s then 1 else 0 := by
 unfold cntW
 rw [List.filter_append, List.length_append]
 congr 1
 by_cases h : w.1 = s <;> simp [h]
theorem rm_mem {ω : List Wt} {w x : Wt} : x ∈ rmW ω w ↔ x ∈ ω ∧ x ≠ w := by
 unfold rmW; rw [List.mem_filter]; simp
theorem rm_erase {ω : List Wt} (h : ω.Nodup) (w : Wt) : rmW ω w = ω.erase w := by
 rw [h.erase_eq_filter]
 unfold rmW
 refine List.filter_congr fun x _ => ?_
 by_cases hx : x = w
 ·subst hx; rw [decide_eq_false (fun g => g rfl)]; exact (bne_self_eq_false x).symm
 ·rw [decide_eq_true hx]; exact (bne_iff_ne.2 hx).symm
theorem cnt_rm {ω : List Wt} (h : ω.Nodup) {w : Wt} (hm : w ∈ ω) (s : Int) : cntW ω s = cntW (rmW ω w) s + if w.1 = s then 1 else 0 := by
 have hp := List.perm_cons_erase hm
 rw [rm_erase h]
 unfold cntW
 rw [(hp.filter _).length_eq]
 by_cases hs : w.1 = s
 ·simp [hs]
 ·simp [hs]
theorem adel_keys {K β : Type} [DecidableEq K] {m : List (K × β)} (hn : (m.map (·.1)).Nodup) (k x : K) : x ∈ (adel m k).map (·.1) ↔ x ≠ k ∧ x ∈ m.map (·.1) := by
 rw [← al_isSome, ← al_isSome, al_adel hn]
 by_cases h : x = k
 ·simp [h]
 ·simp [h]
theorem TbI.gone {ω : List Wt} {m m' : By} {n n' : List (Int × Int)} (h : TbI ω m n) {id : Int} {sp : Spot} (hm : (id, sp) ∈ ω) {p : Nat} {l : List (Int × Int)} (hb : alook m sp = some (p, l))
  (hm' : m' = if adel l id = [] then adel m sp else aset m sp (p, adel l id)) (hn' : n' = if (cntW ω id : Int) - 1 = 0 then adel (aset n id ((cntW ω id : Int) - 1)) id else aset n id ((cntW ω id : Int) - 1)) : TbI (rmW ω (id, sp)) m' n' := by
 obtain ⟨b1, b2, b3⟩ := h.inn sp _ hb
 dsimp only at b1 b2 b3
 have hpos := cnt_pos hm
 have hlook : ∀ x, alook m' x = if x = sp then (if adel l id = [] then none else some (p, adel l id)) else alook m x := by
  intro x
  rw [hm']
  split
  ·rw [al_adel h.keys]
  ·rw [al_aset]
 have hc := fun s => cnt_rm h.nod hm s
 have hlk : ∀ x, alook n' x = if x = id then (if (cntW ω id : Int) - 1 = 0 then none else some ((cntW ω id : Int) - 1)) else alook n x := by
  intro x
  rw [hn']
  split
  ·rw [al_adel (nodup_aset h.nkeys _ _), al_aset]
   by_cases hx : x = id <;> simp [hx]
  ·rw [al_aset]
 refine ⟨h.nod.filter _, fun w hw => h.fit w (rm_mem.1 hw).1, fun s => by have := hc s; have := h.few s; omega, ?_, fun s y hy => ?_, fun i s => ?_, ?_, fun s => ?_⟩
 ·rw [hm']; split
  ·exact nodup_adel h.keys _
  ·exact nodup_aset h.keys _ _
 ·rw [hlook] at hy
  by_cases hs : s = sp
  ·rw [if_pos hs] at hy
   split at hy
   ·cases hy
   ·rename_i hne
    cases hy
    exact ⟨nodup_adel b1 id, hne, fun z hz => b3 z ((adel_sub l id).subset hz)⟩
  ·rw [if_neg hs] at hy; exact h.inn s y hy
 ·rw [rm_mem, h.mem i s, hlook]
  by_cases hs : s = sp
  ·subst hs
   rw [if_pos rfl]
   constructor
   ·rintro ⟨⟨y, hy, hi⟩, hne⟩
    rw [hb] at hy; cases hy
    have hii : i ≠ id := fun e => hne (by rw [e])
    have hin := (adel_keys b1 id i).2 ⟨hii, hi⟩
    refine ⟨(p, adel l id), ?_, hin⟩
    rw [if_neg (fun e => by rw [e] at hin; simp at hin)]
   ·rintro ⟨y, hy, hi⟩
    split at hy
    ·cases hy
    ·cases hy
     have := (adel_keys b1 id i).1 hi
     exact ⟨⟨(p, l), hb, this.2⟩, fun e => this.1 (by simpa using e)⟩
  ·rw [if_neg hs]
   constructor
   ·exact fun g => g.1
   ·exact fun g => ⟨g, fun e => hs (by simpa using congrArg Prod.snd e)⟩
 ·rw [hn']; split
  ·exact nodup_adel (nodup_aset h.nkeys _ _) _
  ·exact nodup_aset h.nkeys _ _
 ·rw [hlk]
  have hcs := hc s
  by_cases hs : s = id
  ·subst hs
   simp only [if_true] at hcs ⊢
   by_cases h0 : cntW (rmW ω (s, sp)) s = 0
   ·rw [if_pos (by omega), if_pos h0]
   ·rw [if_neg (by omega), if_neg h0]; congr 1; omega
  ·rw [if_neg hs, h.many s]
   rw [if_neg (fun e : id = s => hs e.symm)] at hcs
   rw [hcs, Nat.add_zero]
theorem TbI.ins {ω : List Wt} {m m' : By} {n n' : List (Int × Int)} (h : TbI ω m n) {id : Int} {sp : Spot} (hm : (id, sp) ∉ ω) (hid : 1 ≤ id ∧ id ≤ 9223372036854775807) (hk : 1 ≤ sp.1 ∧ sp.1 ≤ 3) (hc : cntW ω id ≠ 64) {y : Nat × List (Int × Int)} (hy : (alook m sp = none ∧ y.2 = []) ∨ alook m sp = some y)
  (hm' : m' = aset m sp (y.1, aset y.2 id id)) (hn' : n' = aset n id ((cntW ω id : Int) + 1)) : TbI (ω ++ [(id, sp)]) m' n' := by
 subst hm'; subst hn'
 have hyl : (y.2.map (·.1)).Nodup ∧ (∀ z ∈ y.2, z.2 = z.1) ∧ ∀ i, (i, sp) ∈ ω ↔ i ∈ y.2.map (·.1) := by
  rcases hy with ⟨h1, h2⟩ | h1
  ·rw [h2]
   refine ⟨by simp, by simp, fun i => ?_⟩
   rw [h.mem, h1]; simp
  ·obtain ⟨c1, -, c3⟩ := h.inn sp y h1
   refine ⟨c1, c3, fun i => ?_⟩
   rw [h.mem, h1]; simp
 have hnew : alook y.2 id = none := al_none.2 fun g => hm ((hyl.2.2 id).2 g)
 have hset : aset y.2 id id = y.2 ++ [(id, id)] := aset_none hnew
 refine ⟨?_, fun w hw => ?_, fun s => ?_, nodup_aset h.keys _ _, fun s z hz => ?_, fun i s => ?_, nodup_aset h.nkeys _ _, fun s => ?_⟩
 ·exact List.nodup_append.2 ⟨h.nod, by simp, fun a ha b hb => by simp at hb; subst hb; exact fun e => hm (e ▸ ha)⟩
 ·rcases List.mem_append.1 hw with hw | hw
  ·exact h.fit w hw
  ·simp at hw; subst hw; exact ⟨hid.1, hid.2, hk.1, hk.2⟩
 ·rw [cnt_append]
  have := h.few s
  by_cases hs : id = s
  ·subst hs; simp; omega
  ·simp [hs]; exact this
 ·rw [al_aset] at hz
  by_cases hs : s = sp
  ·rw [if_pos hs] at hz; cases hz
   dsimp only
   refine ⟨nodup_aset hyl.1 _ _, ?_, fun q hq => ?_⟩
   ·rw [hset]; simp
   ·rw [hset] at hq
    rcases List.mem_append.1 hq with hq | hq
    ·exact hyl.2.1 q hq
    ·simp at hq; rw [hq]
  ·rw [if_neg hs] at hz; exact h.inn s z hz
 ·rw [List.mem_append, al_aset]
  by_cases hs : s = sp
  ·subst hs
   rw [if_pos rfl, hyl.2.2 i]
   constructor
   ·rintro (g | g)
    ·exact ⟨_, rfl, by dsimp only; rw [hset]; simp at g ⊢; exact .inl g⟩
    ·simp at g; exact ⟨_, rfl, by dsimp only; rw [hset]; simp [g]⟩
   ·rintro ⟨z, hz, hi⟩
    cases hz
    dsimp only at hi
    rw [hset] at hi
    simp at hi ⊢
    exact hi
  ·rw [if_neg hs, h.mem i s]
   constructor
   ·rintro (g | g)
    ·exact g
    ·simp at g; exact absurd g.2 hs
   ·exact fun g => .inl g
 ·rw [al_aset, cnt_append]
  by_cases hs : s = id
  ·subst hs; simp
  ·rw [if_neg hs, h.many s, if_neg (fun e : id = s => hs e.symm), Nat.add_zero]
abbrev Tld := Int × Ev
def tldC (x : Tld) : List Value := [vint x.1, vint x.2.1, vstr x.2.2.1, vint x.2.2.2]
def spotC (s : Spot) : List Value := [vint s.1, vstr s.2]
def fireTo (ω : List Wt) (es : List Ev) : Nat → List Wt × List Tld
 | 0 => (ω, [])
 | i + 1 => (leftW (fireTo ω es i).1 (es.getD i (0, ([], 0))).1 (es.getD i (0, ([], 0))).2.1, (fireTo ω es i).2 ++ (tellW (fireTo ω es i).1 (es.getD i (0, ([], 0))).1 (es.getD i (0, ([], 0))).2.1).map fun j => (j, es.getD i (0, ([], 0))))
def fireL (ω : List Wt) (es : List Ev) : List Wt × List Tld := fireTo ω es es.length
def idsK (ω : List Wt) (p : Bs) (ks : List Int) : List Int := (ω.filter fun w => decide (w.2.2 = p) && decide (w.2.1 ∈ ks)).map (·.1)
def outK (ω : List Wt) (p : Bs) (ks : List Int) : List Wt := ω.filter fun w => !(decide (w.2.2 = p) && decide (w.2.1 ∈ ks))
def goneL (ω : List Wt) (sp : Spot) (ids : List Int) : List Wt := ω.filter fun w => !(decide (w.2 = sp) && decide (w.1 ∈ ids))
theorem goneL_nil (ω : List Wt) (sp : Spot) : goneL ω sp [] = ω := by unfold goneL; simp
theorem outK_nil (ω : List Wt) (p : Bs) : outK ω p [] = ω := by unfold outK; simp
theorem goneL_step (ω : List Wt) (sp : Spot) (ids : List Int) (i : Int) : rmW (goneL ω sp ids) (i, sp) = goneL ω sp (ids ++ [i]) := by
 unfold rmW goneL
 rw [List.filter_filter]
 refine List.filter_congr fun w _ => ?_
 obtain ⟨a, s⟩ := w
 by_cases h1 : s = sp
 ·by_cases h2 : a = i
  ·simp [h1, h2]
  ·simp [h1, h2]
 ·simp [h1]
theorem goneL_mem {ω : List Wt} {sp : Spot} {ids : List Int} {i : Int} (h : (i, sp) ∈ ω) (hi : i ∉ ids) : (i, sp) ∈ goneL ω sp ids := by
 unfold goneL; exact List.mem_filter.2 ⟨h, by simp [hi]⟩
theorem goneL_all {ω : List Wt} {p : Bs} {ks : List Int} {k : Int} {ids : List Int} (h : ∀ i, (i, (k, p)) ∈ outK ω p ks → i ∈ ids) : goneL (outK ω p ks) (k, p) ids = outK ω p (ks ++ [k]) := by
 have e : outK ω p (ks ++ [k]) = (outK ω p ks).filter fun w => !decide (w.2 = (k, p)) := by
  unfold outK
  rw [List.filter_filter]
  refine List.filter_congr fun w _ => ?_
  obtain ⟨a, b, c⟩ := w
  by_cases h1 : c = p
  ·by_cases h2 : b = k
   ·simp [h1, h2]
   ·simp [h1, h2]
  ·simp [h1]
 rw [e]
 unfold goneL
 refine List.filter_congr fun w hw => ?_
 by_cases hs : w.2 = (k, p)
 ·have := h w.1 (by rw [← hs]; exact hw)
  simp [hs, this]
 ·simp [hs]
theorem filter_or_perm {α : Type} (f g : α → Bool) (h : ∀ x, f x = true → g x = false) (l : List α) : (l.filter fun x => f x || g x).Perm (l.filter f ++ l.filter g) := by
 induction l with
 | nil => simp
 | cons a l ih =>
  cases hf : f a with
  | true => simp [hf, h a hf]; exact ih
  | false =>
   cases hg : g a with
   | true =>
    simp [hf, hg]
    exact (List.Perm.cons a ih).trans List.perm_middle.symm
   | false => simp [hf, hg]; exact ih
theorem idsK_step (ω : List Wt) (p : Bs) {ks : List Int} {k : Int} (hk : k ∉ ks) : (idsK ω p (ks ++ [k])).Perm (idsK ω p ks ++ ((outK ω p ks).filter fun w => decide (w.2 = (k, p))).map (·.1)) := by
 have e : ((outK ω p ks).filter fun w => decide (w.2 = (k, p))) = ω.filter fun w => decide (w.2 = (k, p)) := by
  unfold outK
  rw [List.filter_filter]
  refine List.filter_congr fun w _ => ?_
  obtain ⟨a, b, c⟩ := w
  by_cases h2 : b = k
  ·simp [h2, hk]
  ·simp [h2]
 rw [e]
 unfold idsK
 rw [← List.map_append]
 refine List.Perm.map _ (List.Perm.trans (List.Perm.of_eq ?_) (filter_or_perm (fun w : Wt => decide (w.2.2 = p) && decide (w.2.1 ∈ ks)) (fun w => decide (w.2 = (k, p))) ?_ ω))
 ·refine List.filter_congr fun w _ => ?_
  obtain ⟨a, b, c⟩ := w
  by_cases h1 : c = p
  ·by_cases h2 : b = k
   ·simp [h1, h2]
   ·simp [h1, h2]
  ·simp [h1]
 ·rintro ⟨a, b, c⟩ h
  simp at h ⊢
  intro hb hc
  exact hk (hb ▸ h.2)
theorem out_all (ω : List Wt) (k : Int) (p : Bs) : outK ω p (kindsZ k) = leftW ω k p := by
 unfold outK leftW meetW; rfl
theorem ids_all (ω : List Wt) (k : Int) (p : Bs) : idsK ω p (kindsZ k) = (ω.filter (meetW k p)).map (·.1) := by
 unfold idsK meetW; rfl
theorem kinds_nodup (k : Int) : (kindsZ k).Nodup := by
 unfold kindsZ
 split
 ·simp
 ·split
  ·decide
  ·split
   ·decide
   ·split <;> simp
theorem kinds_len (k : Int) : (kindsZ k).length ≤ 3 := by
 unfold kindsZ
 split
 ·simp
 ·split
  ·simp
  ·split
   ·simp
   ·split <;> simp
theorem spot_ids {ω : List Wt} {m : By} {n : List (Int × Int)} (h : TbI ω m n) {sp : Spot} {y : Nat × List (Int × Int)} (hy : alook m sp = some y) : (y.2.map (·.1)).Perm ((ω.filter fun w => decide (w.2 = sp)).map (·.1)) := by
 refine (List.perm_ext_iff_of_nodup (h.inn sp y hy).1 ?_).2 fun i => ?_
 ·refine List.pairwise_map.2 (List.Pairwise.imp_of_mem ?_ (h.nod.filter _))
  intro a b ha hb hne e
  apply hne
  have h1 := (List.mem_filter.1 ha).2
  have h2 := (List.mem_filter.1 hb).2
  simp at h1 h2
  obtain ⟨a1, a2⟩ := a; obtain ⟨b1, b2⟩ := b
  dsimp only at *
  rw [e, h1, h2]
 ·constructor
  ·intro hi
   exact List.mem_map.2 ⟨(i, sp), List.mem_filter.2 ⟨(h.mem i sp).2 ⟨y, hy, hi⟩, by simp⟩, rfl⟩
  ·intro hi
   obtain ⟨w, hw, rfl⟩ := List.mem_map.1 hi
   obtain ⟨h1, h2⟩ := List.mem_filter.1 hw
   have h2 : w.2 = sp := by simpa using h2
   obtain ⟨z, hz, hzi⟩ := (h.mem w.1 sp).1 (by rw [← h2]; exact h1)
   rw [hy] at hz; cases hz
   exact hzi
theorem spot_none {ω : List Wt} {m : By} {n : List (Int × Int)} (h : TbI ω m n) {sp : Spot} (hy : alook m sp = none) : (ω.filter fun w => decide (w.2 = sp)) = [] := by
 rw [List.filter_eq_nil_iff]
 intro w hw
 simp only [decide_eq_true_eq]
 intro e
 obtain ⟨z, hz, -⟩ := (h.mem w.1 sp).1 (by rw [← e]; exact hw)
 rw [hy] at hz; cases hz
def hasW (s : Int) (x : Spot × (Nat × List (Int × Int))) : Bool := decide (s ∈ x.2.2.map (·.1))
def dropL (ω : List Wt) (s : Int) (sps : List Spot) : List Wt := ω.filter fun w => !(decide (w.1 = s) && decide (w.2 ∈ sps))
theorem dropL_nil (ω : List Wt) (s : Int) : dropL ω s [] = ω := by unfold dropL; simp
theorem dropL_step (ω : List Wt) (s : Int) (sps : List Spot) (sp : Spot) : rmW (dropL ω s sps) (s, sp) = dropL ω s (sps ++ [sp]) := by
 unfold rmW dropL
 rw [List.filter_filter]
 refine List.filter_congr fun w _ => ?_
 obtain ⟨a, b⟩ := w
 by_cases h1 : a = s
 ·by_cases h2 : b = sp
  ·simp [h1, h2]
  ·simp [h1, h2]
 ·simp [h1]
theorem dropL_mem {ω : List Wt} {s : Int} {sps : List Spot} {sp : Spot} (h : (s, sp) ∈ ω) (hi : sp ∉ sps) : (s, sp) ∈ dropL ω s sps := by
 unfold dropL; exact List.mem_filter.2 ⟨h, by simp [hi]⟩
theorem dropL_all {ω : List Wt} {s : Int} {sps : List Spot} (h : ∀ sp, (s, sp) ∈ ω → sp ∈ sps) : dropL ω s sps = dropW ω s := by
 unfold dropL dropW
 refine List.filter_congr fun w hw => ?_
 obtain ⟨a, b⟩ := w
 by_cases h1 : a = s
 ·subst h1; simp [h b hw]
 ·simp [h1]
theorem has_mem {ω : List Wt} {m : By} {n : List (Int × Int)} (h : TbI ω m n) {s : Int} {sp : Spot} : (s, sp) ∈ ω ↔ sp ∈ (m.filter (hasW s)).map (·.1) := by
 rw [h.mem]
 constructor
 ·rintro ⟨y, hy, hs⟩
  exact List.mem_map.2 ⟨(sp, y), List.mem_filter.2 ⟨al_mem hy, by simpa [hasW] using hs⟩, rfl⟩
 ·intro hm
  obtain ⟨x, hx, rfl⟩ := List.mem_map.1 hm
  obtain ⟨h1, h2⟩ := List.mem_filter.1 hx
  exact ⟨x.2, al_of_mem h.keys h1, by simpa [hasW] using h2⟩
theorem take_not {α : Type} {l : List α} (h : l.Nodup) {i : Nat} (hi : i < l.length) : l[i] ∉ l.take i := by
 have e : l.take i ++ l[i] :: l.drop (i + 1) = l := by rw [← List.drop_eq_getElem_cons hi]; exact List.take_append_drop i l
 have h2 : (l.take i ++ l[i] :: l.drop (i + 1)).Nodup := by rw [e]; exact h
 intro hm
 exact (List.nodup_append.1 h2).2.2 _ hm _ List.mem_cons_self rfl
theorem acc_few {ω : List Wt} {m ss rest : By} {n : List (Int × Int)} (h : TbI ω m n) (hp : m.Perm (ss ++ rest)) (s : Int) : ((ss.filter (hasW s)).map (·.1)).length ≤ 64 ∧ ((ss.filter (hasW s)).map (·.1)).Nodup := by
 have hk : ((ss ++ rest).map (·.1)).Nodup := ((hp.map _).nodup_iff).1 h.keys
 have hn : ((ss.filter (hasW s)).map (·.1)).Nodup := (((List.filter_sublist).trans (List.sublist_append_left ss rest)).map _).nodup hk
 refine ⟨?_, hn⟩
 have h1 : (((ss.filter (hasW s)).map (·.1)).map fun sp => ((s, sp) : Wt)).length ≤ (ω.filter fun w => decide (w.1 = s)).length := by
  refine nodup_len ?_ fun w hw => ?_
  ·exact List.pairwise_map.2 (hn.imp fun hne e => hne (by simpa using e))
  ·obtain ⟨sp, hsp, rfl⟩ := List.mem_map.1 hw
   refine List.mem_filter.2 ⟨(has_mem h).2 ?_, by simp⟩
   obtain ⟨x, hx, rfl⟩ := List.mem_map.1 hsp
   obtain ⟨x1, x2⟩ := List.mem_filter.1 hx
   exact List.mem_map.2 ⟨x, List.mem_filter.2 ⟨hp.mem_iff.2 (List.mem_append_left _ x1), x2⟩, rfl⟩
 rw [List.length_map] at h1
 exact Nat.le_trans h1 (h.few s)
theorem ids_len (ω : List Wt) (p : Bs) (ks : List Int) : (idsK ω p ks).length ≤ ω.length := by unfold idsK; rw [List.length_map]; exact List.length_filter_le _ _
theorem comp_len (l : List Int) : (compI l).length ≤ l.length := Lib.compact_length_le l
theorem tell_len (ω : List Wt) (k : Int) (p : Bs) : (tellW ω k p).length ≤ ω.length := by
 unfold tellW
 refine Nat.le_trans (comp_len _) ?_
 rw [sortI_length, List.length_map]; exact List.length_filter_le _ _
theorem sortI_perm_eq {l m : List Int} (h : l.Perm m) : sortI l = sortI m :=
 List.Perm.eq_of_pairwise (le := fun a b : Int => a ≤ b) (fun a b _ _ h1 h2 => by omega) (sortI_sorted l) (sortI_sorted m) ((sortI_perm l).trans (h.trans (sortI_perm m).symm))
theorem fire_succ {ω : List Wt} {es : List Ev} {i : Nat} {e : Ev} (h : es.getD i (0, ([], 0)) = e) : fireTo ω es (i + 1) = (leftW (fireTo ω es i).1 e.1 e.2.1, (fireTo ω es i).2 ++ (tellW (fireTo ω es i).1 e.1 e.2.1).map fun j => (j, e)) := by
 rw [fireTo, h]
theorem fire_len (ω : List Wt) (es : List Ev) : ∀ i, (fireTo ω es i).1.length ≤ ω.length ∧ (fireTo ω es i).2.length ≤ i * ω.length := by
 intro i
 induction i with
 | zero => exact ⟨Nat.le_refl _, by simp [fireTo]⟩
 | succ i ih =>
  rw [fire_succ rfl]
  refine ⟨Nat.le_trans (List.length_filter_le _ _) ih.1, ?_⟩
  have := tell_len (fireTo ω es i).1 (es.getD i (0, ([], 0))).1 (es.getD i (0, ([], 0))).2.1
  dsimp only
  rw [List.length_append, List.length_map, Nat.add_mul, Nat.one_mul]
  omega
theorem add_cases (ω : List Wt) (s k : Int) (p : Bs) : addW ω s k p = (ω, 1) ∨ addW ω s k p = (ω, 0) ∨ addW ω s k p = (ω, 91) ∨ (¬ s < 1 ∧ isWt k p ∧ (s, (k, p)) ∉ ω ∧ addW ω s k p = (ω ++ [(s, (k, p))], 0)) := by
 unfold addW
 split
 ·exact .inl rfl
 ·rename_i h
  split
  ·exact .inr (.inl rfl)
  ·rename_i h2
   split
   ·exact .inr (.inr (.inl rfl))
   ·have h1 : ¬ s < 1 := fun e => h (.inl e)
    have h3 : isWt k p := Decidable.byContradiction fun e => h (.inr e)
    exact .inr (.inr (.inr ⟨h1, h3, h2, rfl⟩))
/-! ### Told of one session alone -/
theorem filt_sum {α : Type} (f : α → Bool) (l : List α) : (l.filter f).length + (l.filter fun x => !f x).length = l.length := by
 induction l with
 | nil => rfl
 | cons a l ih => cases h : f a <;> simp [h] <;> omega
/-! ### With others -/
theorem spot_eq (a b : Spot) : EqAt Tryz.prog 10000 155 (spotV a) (spotV b) (decide (a = b)) := by
 have h := EqAt.struct (d := 9999) (xs := [vint a.1, vstr a.2]) (ys := [vint b.1, vstr b.2]) Tryz.underlying155 (by kernel_rfl)
  (.cons (FEq.cell (by decide) ag_3 rfl rfl (EqAt.int Tryz.underlying3 a.1 b.1)) (.cons (FEq.cell (by decide) ag_9 rfl rfl (EqAt.str Tryz.underlying9 a.2 b.2)) .nil))
 have e : ([decide (a.1 = b.1), decide (a.2 = b.2)].all id) = decide (a = b) := by
  obtain ⟨a1, a2⟩ := a; obtain ⟨b1, b2⟩ := b
  simp [Bool.decide_and]
 rw [← e]; exact h
theorem spotK : KeyLaw Tryz.prog 155 spotV := by
 refine KeyLaw.struct Tryz.underlying155 spot_eq (fun a e w => ?_) (fun a => ?_)
 ·refine check_struct (d := 9999) Tryz.underlying155 (xs := [vint a.1, vstr a.2].toArray) (fun f hf => ?_) w
  simp only [List.mem_cons, List.not_mem_nil, or_false] at hf
  rcases hf with rfl | rfl
  ·exact FCk.cell (d := 9998) (by decide) ag_3 rfl Tryz.underlying3 (.inr (.inl ⟨_, rfl⟩))
  ·exact FCk.cell (d := 9998) (by decide) ag_9 rfl Tryz.underlying9 (.inl rfl)
 ·rw [show (10000 : Nat) = 9999 + 1 from rfl]
  simp [spotV, Instr.sameBits, bs_beq]
theorem sortI_spec (v : Value) (n : Nat) (xs : List Int) (hn : n < 4611686018427387904) : Fn Tryz.prog 70 #[v] [slR 3 1 v n (ints xs)] fun u L => u = .tuple #[] ∧ L = [slR 3 1 v n (ints (sortI xs))] :=
 sort_fn Tryz.sortA 3 v n xs hn
theorem compI_spec (v : Value) (n : Nat) (xs : List Int) (hn : n < 4611686018427387904) : Fn Tryz.prog 75 #[v] [slR 3 1 v n (ints xs)] fun u L => (∃ a c, u = .slice a (compI xs).length c) ∧ L = [slR 3 1 u (compI xs).length (ints (compI xs))] :=
 compact_fn Tryz.compactA 3 v n xs hn
theorem wnew_spec : Fn Tryz.prog 21 #[] [] fun v L => ∃ t, v = vptr t ∧ L = [tbR t []] := by
 refine Fn.intro Tryz.func21 rfl rfl fun F W => ?_
 refine .sr (.an rfl (.sr (.oq (.makeMap Tryz.underlying114) ?_)))
 rintro v L' ⟨rb, rfl, rfl⟩
 refine .oq (.makeMap Tryz.underlying115) ?_
 rintro v L' ⟨rm, rfl, rfl⟩
 refine .q (.build (us := [(0, _), (1, _)]) fl_117 ze_117 rfl rfl (by simp [isCell])) rfl (.oq (.box rfl) ?_)
 rintro v L' ⟨t, rfl, rfl⟩
 refine .an rfl (.ret (.fold (p := mapR rb []) (.cons (p := pt rb (.map #[] 0)) (by repeat' constructor) .nil) (fun h hp => mapR_new (sep_pt hp)) (.fold (p := mapR rm []) (.cons (p := pt rm (.map #[] 0)) (by repeat' constructor) .nil) (fun h hp => mapR_new (sep_pt hp)) (.add (p := bigR inW []) big_nil ?_))))
 have hI : TbI [] [] [] := ⟨by simp, by simp, fun s => Nat.zero_le _, by simp, fun sp y h => (by cases h), fun id sp => ⟨fun h => (by cases h), fun ⟨y, h, _⟩ => (by cases h)⟩, by simp, fun s => rfl⟩
 refine .tbFold hI (by repeat' constructor) rfl rfl rfl ?_
 exact .dn rfl rfl ⟨_, rfl, rfl⟩
theorem wis_spec (k : Int) (p : Bs) (hs : p.length ≤ 1048576) : Fn Tryz.prog 98 #[vint k, vstr p] [] fun v L => v = .bool (decide (isWt k p)) ∧ L = [] := by
 refine Fn.intro Tryz.func98 rfl rfl fun F W => ?_
 refine .sr (.an rfl (.sm rfl (.ui rfl rfl rfl (.m rfl (.dec (t := 7) rfl (fun h1_7 => ?_) (fun h1_7 => ?_))))))
 ·refine .kDT (t := 6) rfl h1_7 (.grun (t := 7) rfl rfl rfl (.m rfl (.grun (t := 7) rfl rfl rfl (.ui rfl rfl rfl (.u (.pickT rfl rfl) (.m rfl (.dec (t := 11) rfl (fun h1_11 => ?_) (fun h1_11 => ?_))))))))
  ·refine .kDT (t := 9) rfl h1_11 (.kDT (t := 10) rfl h1_11 (.grun (t := 11) rfl rfl rfl (.m rfl (.grun (t := 11) rfl rfl rfl (.cv Tryz.func87 [_] (check_spec p hs) ?_)))))
   refine .grun (t := 11) rfl rfl rfl (.ui rfl rfl rfl (.u (.pickT rfl rfl) (.an rfl (.ret ?_))))
   exact .dn rfl rfl ⟨congrArg Value.bool (decide_eq_decide.2 (by unfold isWt; omega)), rfl⟩
  refine .kDF (t := 9) rfl h1_11 (.kDF (t := 10) rfl h1_11 (.gk (.gk (.gk (.u (.pickF rfl rfl) (.an rfl (.ret ?_)))))))
  exact .dn rfl rfl ⟨by rw [decide_eq_false (by unfold isWt; omega)], rfl⟩
 refine .kDF (t := 6) rfl h1_7 (.gk (.gk (.u (.pickF rfl rfl) (.m rfl (.gk (.gk (.gk (.u (.pickF rfl rfl) (.an rfl (.ret ?_))))))))))
 exact .dn rfl rfl ⟨by rw [decide_eq_false (by unfold isWt; omega)], rfl⟩
theorem wkinds_spec (k : Int) : Fn Tryz.prog 73 #[vint k] [] fun v L => (∃ a c, v = .slice a (kindsZ k).length c) ∧ L = [slR 3 1 v (kindsZ k).length (ints (kindsZ k))] := by
 refine Fn.intro Tryz.func73 rfl rfl fun F W => ?_
 refine .sr (.an rfl (.seq (.sm rfl (.nt (.block (.sr (.ui rfl rfl rfl (.an rfl (.condD rfl (fun h4 => ?_) (fun h4 => ?_))))))))))
 ·refine .sr (.oq (.buildSlice1 (vs := [_]) el_86 ze_3 rfl rfl rfl rfl rfl (by decide)) ?_)
  rintro v L' ⟨bk, rfl, rfl⟩
  refine .a rfl (.nil (.slMake (b := bk) (n := 1) (c := 1) (xs := ints [2]) (by repeat' constructor) (Nat.le_refl _) (by decide) rfl (.then_n (.ret (.blk_r (.then_r ?_))))))
  have e : kindsZ k = [2] := by unfold kindsZ; rw [if_pos h4]
  rw [e]
  exact .dn rfl rfl ⟨⟨_, _, rfl⟩, rfl⟩
 refine .sr (.ui rfl rfl rfl (.an rfl (.condD rfl (fun h7 => ?_) (fun h7 => ?_))))
 ·refine .sr (.oq (.buildSlice1 (vs := [_, _, _]) el_86 ze_3 rfl rfl rfl rfl rfl (by decide)) ?_)
  rintro v L' ⟨bk, rfl, rfl⟩
  refine .a rfl (.nil (.slMake (b := bk) (n := 3) (c := 3) (xs := ints [1, 2, 3]) (by repeat' constructor) (Nat.le_refl _) (by decide) rfl (.then_n (.ret (.blk_r (.then_r ?_))))))
  have e : kindsZ k = [1, 2, 3] := by unfold kindsZ; rw [if_neg h4, if_pos h7]
  rw [e]
  exact .dn rfl rfl ⟨⟨_, _, rfl⟩, rfl⟩
 refine .sr (.ui rfl rfl rfl (.an rfl (.condD rfl (fun h10 => ?_) (fun h10 => ?_))))
 ·refine .sr (.oq (.buildSlice1 (vs := [_, _]) el_86 ze_3 rfl rfl rfl rfl rfl (by decide)) ?_)
  rintro v L' ⟨bk, rfl, rfl⟩
  refine .a rfl (.nil (.slMake (b := bk) (n := 2) (c := 2) (xs := ints [1, 2]) (by repeat' constructor) (Nat.le_refl _) (by decide) rfl (.then_n (.ret (.blk_r (.then_r ?_))))))
  have e : kindsZ k = [1, 2] := by unfold kindsZ; rw [if_neg h4, if_neg h7, if_pos h10]
  rw [e]
  exact .dn rfl rfl ⟨⟨_, _, rfl⟩, rfl⟩
 refine .sr (.ui rfl rfl rfl (.an rfl (.condD rfl (fun h13 => ?_) (fun h13 => ?_))))
 ·refine .sr (.oq (.buildSlice1 (vs := [_]) el_86 ze_3 rfl rfl rfl rfl rfl (by decide)) ?_)
  rintro v L' ⟨bk, rfl, rfl⟩
  refine .a rfl (.nil (.slMake (b := bk) (n := 1) (c := 1) (xs := ints [3]) (by repeat' constructor) (Nat.le_refl _) (by decide) rfl (.then_n (.ret (.blk_r (.then_r ?_))))))
  have e : kindsZ k = [3] := by unfold kindsZ; rw [if_neg h4, if_neg h7, if_neg h10, if_pos h13]
  rw [e]
  exact .dn rfl rfl ⟨⟨_, _, rfl⟩, rfl⟩
 refine .skip (.blk_n (.then_n (.seq (.add (slR_nil 3 1) (.region (.an rfl (.ret ?_)))))))
 have e : kindsZ k = [] := by unfold kindsZ; rw [if_neg h4, if_neg h7, if_neg h10, if_neg h13]
 rw [e]
 exact .dn rfl rfl ⟨⟨_, _, rfl⟩, rfl⟩
/- not in this seat -/
theorem wadd_spec (t : Nat) (ω : List Wt) (s k : Int) (p : Bs) (hsm : s ≤ 9223372036854775807) (hs : p.length ≤ 1048576) : Fn Tryz.prog 57 #[vptr t, vint s, vint k, vstr p] [tbR t ω] fun v L => v = vint (addW ω s k p).2 ∧ L = [tbR t (addW ω s k p).1] := by
 refine Fn.intro Tryz.func57 rfl rfl fun F W => ?_
 refine .tbOpen (ω := ω) (by repeat' constructor) fun rb rm m q hI => (.sr (.an rfl (.seq (.sm rfl (.ui rfl rfl rfl (.m rfl (.dec (t := 12) rfl (fun h1_12 => ?_) (fun h1_12 => ?_))))))))
 ·refine .kDT (t := 11) rfl h1_12 (.gk (.gk (.gk (.gk (.u (.pickT rfl rfl) (.nt (.condT rfl (.sr (.an rfl (.rt ?_))))))))))
  have e : addW ω s k p = (ω, 1) := by unfold addW; rw [if_pos (by first | exact .inl h1_12 | exact .inr (by simpa using h17))]
  rw [e]
  refine .tbFold hI (by repeat' constructor) rfl rfl rfl ?_
  exact .vv
 refine .kDF (t := 11) rfl h1_12 (.grun (t := 12) rfl rfl rfl (.m rfl (.grun (t := 12) rfl rfl rfl (.m rfl (.grun (t := 12) rfl rfl rfl (.cv Tryz.func98 [_, _] (wis_spec k p hs) ?_))))))
 refine .grun (t := 12) rfl rfl rfl (.u (.not rfl) (.u (.pickF rfl rfl) (.nt (.condN rfl (fun h17 => ?_) (fun h17 => ?_)))))
 ·refine .sr (.an rfl (.rt ?_))
  have e : addW ω s k p = (ω, 1) := by unfold addW; rw [if_pos (by first | exact .inl h1_12 | exact .inr (by simpa using h17))]
  rw [e]
  refine .tbFold hI (by repeat' constructor) rfl rfl rfl ?_
  exact .vv
 refine .sk (.sr ?_)
 rcases hal : alook m (k, p) with _ | ⟨pb, l⟩; rotate_left; rcases hin : alook l s with _ | z; rotate_right
 ·have hnot : ¬ (s < 1 ∨ ¬ isWt k p) := by rintro (h | h); omega; exact h (by simpa using h17)
  have hmem : (s, (k, p)) ∉ ω := fun g => by obtain ⟨y, hy, -⟩ := (hI.mem _ _).1 g; rw [hal] at hy; cases hy
  refine .m rfl (.m rfl (.q (.build (us := [(0, _), (1, _)]) fl_155 ze_155 rfl rfl (by simp [isCell])) rfl (.oq (.allocA ze_155) ?_)))
  rintro v L' ⟨bsp, rfl, rfl⟩
  refine .sa rfl rfl sz_155 (by (first | (simp [isCell]; done) | (simp [isCell, setAll, Value.cells]; done))) ?_
  refine .nil (.ptCast (b := bsp) (l' := [vint k, vstr p]) (by repeat' constructor) rfl ?_)
  refine .then_n (.seq (.seq (.draw [] [[0, 1, 2, 3, 4, 5, 6, 7, 8]] mixed (by kernel_rfl) (.g0 (.mv rfl rfl (.nf rfl rfl rfl fo_117_0 (.kv rfl (.ld rfl ag_114) (.kv rfl (.loadAs (vs := [vint k, vstr p]) rfl ag_155 (by repeat' constructor) (by simp) rfl) (.kv rfl (.lookupN (m := m) (enc := byV) spotK (hal) rfl rfl Tryz.underlying114 ze_115 (by repeat' constructor) rfl) (.mv rfl rfl (.kv rfl (.lookupNil (KeyLaw.int Tryz.underlying3) rfl rfl Tryz.underlying115 ze_3) (.kv rfl (.as (v' := .bool false) (by rfl) (.int rfl rfl rfl)) (.pf (.condF rfl (.sk (.seq (.seq ?_)))))))))))))))))
  have hkw : isWt k p := Decidable.byContradiction fun e => hnot (.inr e)
  refine .region (.m rfl (.nf rfl fo_117_1 (.u (.ld rfl ag_115) (.m rfl (.q (.lookupV (m := q) (enc := idV) (KeyLaw.int Tryz.underlying3) (v := vint (cntW ω s : Nat)) (tb_some hI s) (tb_none hI s) rfl rfl Tryz.underlying115 ze_3 (by repeat' constructor) rfl) rfl (.ui rfl rfl rfl (.nt (.condD rfl (fun h36 => ?_) (fun h36 => ?_)))))))))
  ·refine .sr (.an rfl (.rt ?_))
   have e : addW ω s k p = (ω, 91) := by unfold addW; rw [if_neg hnot, if_neg hmem, if_pos (by omega)]
   rw [e]
   refine .tbFold hI (by repeat' constructor) rfl rfl rfl ?_
   exact .vv
  refine .sk (.seq (.seq (.draw [] [[0, 1, 2, 3, 4, 5, 6]] mixed (by kernel_rfl) (.g0 (.mv rfl rfl (.nf rfl rfl rfl fo_117_0 (.kv rfl (.ld rfl ag_114) (.kv rfl (.loadAs (vs := [vint k, vstr p]) rfl ag_155 (by repeat' constructor) (by simp) rfl) (.kv rfl (.lookupN (m := m) (enc := byV) spotK (hal) rfl rfl Tryz.underlying114 ze_115 (by repeat' constructor) rfl) (.kv rfl (.mapeq rfl rfl Tryz.underlying115) (.pf (.condT rfl (.draw [5, 6] [[0, 1, 2, 3, 4, 5], [6]] mixed (by kernel_rfl) (.go [ptc bsp _ _, ptc t _ _] (by repeat' constructor) (.k rfl (.move rfl) (.k rfl (.nilp rfl) (.k rfl (.fieldAddr rfl fo_117_0) (.k rfl (.ld rfl ag_114) (.k rfl (.loadAs (vs := [vint k, vstr p]) rfl ag_155 (by repeat' constructor) (by simp) rfl) (.hh rfl (.makeMap Tryz.underlying115) ?_))))))))))))))))))))
  rintro v L' ⟨pb, rfl, rfl⟩
  refine D.ph (.g0 (.hh rfl (.mapSet (m := m) (enc := byV) (v := (pb, [])) (k := (k, p)) spotK rfl rfl rfl Tryz.underlying114 ?he53) ?_))
  case he53 => rfl
  rintro v L' rfl
  refine D.ph (.fin (.fold (p := mapR pb []) (.cons (p := pt pb (.map #[] 0)) (by repeat' constructor) .nil) (fun h hp => mapR_new (sep_pt hp)) (.then_n (.seq (.draw [8] [[0, 1, 2, 3, 4, 5, 6, 7, 8]] mixed (by kernel_rfl) (.g0 (.mv rfl rfl (.nf rfl rfl rfl fo_117_0 (.kv rfl (.ld rfl ag_114) (.kv rfl (.loadAs (vs := [vint k, vstr p]) rfl ag_155 (by repeat' constructor) (by simp) rfl) (.kv rfl (.lookupY (m := aset m (k, p) (pb, [])) (enc := byV) spotK (by rw [al_aset, if_pos rfl]) rfl rfl Tryz.underlying114 ze_115 (by repeat' constructor) rfl) (.mv rfl rfl (.mv rfl rfl (.hh rfl (.mapSet (m := []) (enc := idV) (v := s) (k := s) (KeyLaw.int Tryz.underlying3) rfl rfl rfl Tryz.underlying115 ?he63) ?_))))))))))))))
  case he63 => rfl
  rintro v L' rfl
  refine D.pf (.seq ?_)
  have hfew := hI.few s
  refine .region (.m rfl (.nf rfl fo_117_1 (.u (.ld rfl ag_115) (.m rfl (.q (.lookupV (m := q) (enc := idV) (KeyLaw.int Tryz.underlying3) (v := vint (cntW ω s : Nat)) (tb_some hI s) (tb_none hI s) rfl rfl Tryz.underlying115 ze_3 (by repeat' constructor) rfl) rfl (.q (.add rfl rfl (by omega)) rfl (.oq (.mapSet (m := q) (enc := idV) (v := ((cntW ω s : Nat) : Int) + 1) (k := s) (KeyLaw.int Tryz.underlying3) rfl rfl rfl Tryz.underlying115 ?he72) ?_)))))))
  case he72 => rfl
  rintro v L' rfl
  refine .nt (.sr (.an rfl (.ret ?_)))
  have e : addW ω s k p = (ω ++ [(s, (k, p))], 0) := by unfold addW; rw [if_neg hnot, if_neg hmem, if_neg (by omega)]
  rw [e]
  have hI2 := hI.ins (y := (pb, [])) hmem ⟨by omega, hsm⟩ ⟨hkw.1, hkw.2.1⟩ (by omega) (.inl ⟨hal, rfl⟩) rfl rfl
  refine .bigPut (f := inW) (m := m) (k, p) (pb, aset [] s s) rfl (by rw [adel_none hal]; (repeat' constructor)) (.tbFold hI2 (by repeat' constructor) rfl (by show byM (aset m (k, p) (pb, [])) = byM (aset m (k, p) (pb, aset [] s s)); rw [← aset_aset (v := (pb, [])) (w := (pb, aset [] s s))]; exact (byM_set (y := (pb, [])) (y' := (pb, aset [] s s)) (by rw [al_aset, if_pos rfl]) rfl).symm) rfl ?_)
  exact .vv
 ·have hnot : ¬ (s < 1 ∨ ¬ isWt k p) := by rintro (h | h); omega; exact h (by simpa using h17)
  have hmem : (s, (k, p)) ∉ ω := fun g => by obtain ⟨y, hy, hm⟩ := (hI.mem _ _).1 g; rw [hal] at hy; cases hy; exact al_none.1 hin hm
  refine .bigTake hal (by repeat' constructor) (.m rfl (.m rfl (.q (.build (us := [(0, _), (1, _)]) fl_155 ze_155 rfl rfl (by simp [isCell])) rfl (.oq (.allocA ze_155) ?_))))
  rintro v L' ⟨bsp, rfl, rfl⟩
  refine .sa rfl rfl sz_155 (by (first | (simp [isCell]; done) | (simp [isCell, setAll, Value.cells]; done))) ?_
  refine .nil (.ptCast (b := bsp) (l' := [vint k, vstr p]) (by repeat' constructor) rfl ?_)
  refine .then_n (.seq (.seq (.draw [] [[0, 1, 2, 3, 4, 5, 6, 7, 8]] mixed (by kernel_rfl) (.g0 (.mv rfl rfl (.nf rfl rfl rfl fo_117_0 (.kv rfl (.ld rfl ag_114) (.kv rfl (.loadAs (vs := [vint k, vstr p]) rfl ag_155 (by repeat' constructor) (by simp) rfl) (.kv rfl (.lookupY (m := m) (enc := byV) spotK (hal) rfl rfl Tryz.underlying114 ze_115 (by repeat' constructor) rfl) (.mv rfl rfl (.kv rfl (.lookupN (m := l) (enc := idV) (KeyLaw.int Tryz.underlying3) (hin) rfl rfl Tryz.underlying115 ze_3 (by repeat' constructor) rfl) (.kv rfl (.as (v' := .bool false) (by rfl) (.int rfl rfl rfl)) (.pf (.condF rfl (.sk (.seq (.seq ?_)))))))))))))))))
  have hkw : isWt k p := Decidable.byContradiction fun e => hnot (.inr e)
  refine .region (.m rfl (.nf rfl fo_117_1 (.u (.ld rfl ag_115) (.m rfl (.q (.lookupV (m := q) (enc := idV) (KeyLaw.int Tryz.underlying3) (v := vint (cntW ω s : Nat)) (tb_some hI s) (tb_none hI s) rfl rfl Tryz.underlying115 ze_3 (by repeat' constructor) rfl) rfl (.ui rfl rfl rfl (.nt (.condD rfl (fun h36 => ?_) (fun h36 => ?_)))))))))
  ·refine .sr (.an rfl (.rt ?_))
   have e : addW ω s k p = (ω, 91) := by unfold addW; rw [if_neg hnot, if_neg hmem, if_pos (by omega)]
   rw [e]
   refine .bigPut (f := inW) (m := m) (k, p) (pb, l) rfl (by repeat' constructor) ?_
   rw [aset_self hal]
   refine .tbFold hI (by repeat' constructor) rfl rfl rfl ?_
   exact .vv
  refine .sk (.seq (.seq (.draw [] [[0, 1, 2, 3, 4, 5, 6]] mixed (by kernel_rfl) (.g0 (.mv rfl rfl (.nf rfl rfl rfl fo_117_0 (.kv rfl (.ld rfl ag_114) (.kv rfl (.loadAs (vs := [vint k, vstr p]) rfl ag_155 (by repeat' constructor) (by simp) rfl) (.kv rfl (.lookupY (m := m) (enc := byV) spotK (hal) rfl rfl Tryz.underlying114 ze_115 (by repeat' constructor) rfl) (.kv rfl (.mapeq rfl rfl Tryz.underlying115) (.pf (.condF rfl (.sk (.seq (.draw [8] [[0, 1, 2, 3, 4, 5, 6, 7, 8]] mixed (by kernel_rfl) (.g0 (.mv rfl rfl (.nf rfl rfl rfl fo_117_0 (.kv rfl (.ld rfl ag_114) (.kv rfl (.loadAs (vs := [vint k, vstr p]) rfl ag_155 (by repeat' constructor) (by simp) rfl) (.kv rfl (.lookupY (m := m) (enc := byV) spotK (hal) rfl rfl Tryz.underlying114 ze_115 (by repeat' constructor) rfl) ?_)))))))))))))))))))))
  refine D.mv rfl rfl (.mv rfl rfl (.hh rfl (.mapSet (m := l) (enc := idV) (v := s) (k := s) (KeyLaw.int Tryz.underlying3) rfl rfl rfl Tryz.underlying115 ?he117) ?_))
  case he117 => rfl
  rintro v L' rfl
  refine D.pf (.seq ?_)
  have hfew := hI.few s
  refine .region (.m rfl (.nf rfl fo_117_1 (.u (.ld rfl ag_115) (.m rfl (.q (.lookupV (m := q) (enc := idV) (KeyLaw.int Tryz.underlying3) (v := vint (cntW ω s : Nat)) (tb_some hI s) (tb_none hI s) rfl rfl Tryz.underlying115 ze_3 (by repeat' constructor) rfl) rfl (.q (.add rfl rfl (by omega)) rfl (.oq (.mapSet (m := q) (enc := idV) (v := ((cntW ω s : Nat) : Int) + 1) (k := s) (KeyLaw.int Tryz.underlying3) rfl rfl rfl Tryz.underlying115 ?he126) ?_)))))))
  case he126 => rfl
  rintro v L' rfl
  refine .nt (.sr (.an rfl (.ret ?_)))
  have e : addW ω s k p = (ω ++ [(s, (k, p))], 0) := by unfold addW; rw [if_neg hnot, if_neg hmem, if_neg (by omega)]
  rw [e]
  have hI2 := hI.ins (y := (pb, l)) hmem ⟨by omega, hsm⟩ ⟨hkw.1, hkw.2.1⟩ (by omega) (.inr hal) rfl rfl
  refine .bigPut (f := inW) (m := m) (k, p) (pb, aset l s s) rfl (by repeat' constructor) (.tbFold hI2 (by repeat' constructor) rfl (byM_set (y' := (pb, aset l s s)) hal rfl).symm rfl ?_)
  exact .vv
 have hnot : ¬ (s < 1 ∨ ¬ isWt k p) := by rintro (h | h); omega; exact h (by simpa using h17)
 have hmem : (s, (k, p)) ∈ ω := (hI.mem _ _).2 ⟨_, hal, al_isSome.1 (by rw [hin]; rfl)⟩
 have hzs : s = z := ((hI.inn _ _ hal).2.2 _ (al_mem hin)).symm
 subst hzs
 refine .bigTake hal (by repeat' constructor) (.m rfl (.m rfl (.q (.build (us := [(0, _), (1, _)]) fl_155 ze_155 rfl rfl (by simp [isCell])) rfl (.oq (.allocA ze_155) ?_))))
 rintro v L' ⟨bsp, rfl, rfl⟩
 refine .sa rfl rfl sz_155 (by (first | (simp [isCell]; done) | (simp [isCell, setAll, Value.cells]; done))) ?_
 refine .nil (.ptCast (b := bsp) (l' := [vint k, vstr p]) (by repeat' constructor) rfl ?_)
 refine .then_n (.seq (.seq (.draw [] [[0, 1, 2, 3, 4, 5, 6, 7, 8]] mixed (by kernel_rfl) (.g0 (.mv rfl rfl (.nf rfl rfl rfl fo_117_0 (.kv rfl (.ld rfl ag_114) (.kv rfl (.loadAs (vs := [vint k, vstr p]) rfl ag_155 (by repeat' constructor) (by simp) rfl) (.kv rfl (.lookupY (m := m) (enc := byV) spotK (hal) rfl rfl Tryz.underlying114 ze_115 (by repeat' constructor) rfl) (.mv rfl rfl (.kv rfl (.lookupY (m := l) (enc := idV) (KeyLaw.int Tryz.underlying3) (hin) rfl rfl Tryz.underlying115 ze_3 (by repeat' constructor) rfl) (.kv rfl (.as (v' := .bool true) (by simp; omega) (.int rfl rfl rfl)) (.pf (.condT rfl (.sr (.an rfl (.rt ?_)))))))))))))))))
 have e : addW ω s k p = (ω, 0) := by unfold addW; rw [if_neg hnot, if_pos hmem]
 rw [e]
 refine .bigPut (f := inW) (m := m) (k, p) (pb, l) rfl (by repeat' constructor) ?_
 rw [aset_self hal]
 refine .tbFold hI (by repeat' constructor) rfl rfl rfl ?_
 exact .vv
theorem wgone_spec (t : Nat) (ω : List Wt) (sp : Spot) (id : Int) (hm : (id, sp) ∈ ω) : Fn Tryz.prog 74 #[vptr t, .agg #[vint sp.1, vstr sp.2], vint id] [tbR t ω] fun v L => v = .tuple #[] ∧ L = [tbR t (rmW ω (id, sp))] := by
 refine Fn.intro Tryz.func74 rfl rfl fun F W => ?_
 refine .tbOpen (ω := ω) (by repeat' constructor) fun rb rm m q hI => ?_
 obtain ⟨⟨pb, l⟩, hb, hin⟩ := (hI.mem id sp).1 hm
 dsimp only at hin
 have hfew := hI.few id
 refine .bigTake hb (by repeat' constructor) (.sr (.oq (.box rfl) ?_))
 rintro v L' ⟨bsp, rfl, rfl⟩
 refine .nil (.ptCast (b := bsp) (l' := [vint sp.1, vstr sp.2]) (by repeat' constructor) rfl ?_)
 refine .then_n (.seq (.draw [7] [[0, 1, 2, 3, 4, 5, 6, 7]] mixed (by kernel_rfl) (.g0 (.mv rfl rfl (.nf rfl rfl rfl fo_117_0 (.kv rfl (.ld rfl ag_114) (.kv rfl (.loadAs (vs := [vint sp.1, vstr sp.2]) rfl ag_155 (by repeat' constructor) (by simp) rfl) (.kv rfl (.lookupY (m := m) (enc := byV) spotK (hb) rfl rfl Tryz.underlying114 ze_115 (by repeat' constructor) rfl) (.mv rfl rfl (.hh rfl (.mapDel (m := l) (enc := idV) (k := id) (KeyLaw.int Tryz.underlying3) rfl rfl rfl Tryz.underlying115 ?he10) ?_))))))))))
 case he10 => rfl
 rintro v L' rfl
 refine D.pf (.seq (.seq (.draw [] [[0, 1, 2, 3, 4, 5, 6, 7]] mixed (by kernel_rfl) (.g0 (.mv rfl rfl (.nf rfl rfl rfl fo_117_0 (.kv rfl (.ld rfl ag_114) (.kv rfl (.loadAs (vs := [vint sp.1, vstr sp.2]) rfl ag_155 (by repeat' constructor) (by simp) rfl) (.kv rfl (.lookupY (m := m) (enc := byV) spotK (hb) rfl rfl Tryz.underlying114 ze_115 (by repeat' constructor) rfl) (.kv rfl (.maplen rfl Tryz.underlying115 rfl (by repeat' constructor)) (.kv rfl (.int rfl rfl rfl) (.pf (.condD rfl (fun h20 => ?_) (fun h20 => ?_))))))))))))))
 ·refine .draw [5] [[0, 1, 2, 3, 4, 5]] mixed (by kernel_rfl) (.g0 (.mv rfl rfl (.nf rfl rfl rfl fo_117_0 (.kv rfl (.ld rfl ag_114) (.kv rfl (.loadAs (vs := [vint sp.1, vstr sp.2]) rfl ag_155 (by repeat' constructor) (by simp) rfl) (.hh rfl (.mapDel (m := m) (enc := byV) (k := sp) spotK rfl rfl rfl Tryz.underlying114 ?he25) ?_))))))
  case he25 => rfl
  rintro v L' rfl
  refine D.pf (.sm rfl (.nf rfl fo_117_1 (.u (.ld rfl ag_115) (.m rfl (.q (.lookupV (m := q) (enc := idV) (KeyLaw.int Tryz.underlying3) (v := vint (cntW ω id : Nat)) (tb_some hI id) (tb_none hI id) rfl rfl Tryz.underlying115 ze_3 (by repeat' constructor) rfl) rfl (.q (.sub rfl rfl (by omega)) rfl (.oq (.mapSet (m := q) (enc := idV) (v := ((cntW ω id : Nat) : Int) - 1) (k := id) (KeyLaw.int Tryz.underlying3) rfl rfl rfl Tryz.underlying115 ?he34) ?_)))))))
  case he34 => rfl
  rintro v L' rfl
  refine .nt (.sm rfl (.nf rfl fo_117_1 (.u (.ld rfl ag_115) (.m rfl (.q (.lookupY (m := aset q id (((cntW ω id : Nat) : Int) - 1)) (enc := idV) (KeyLaw.int Tryz.underlying3) (by rw [al_aset, if_pos rfl]) rfl rfl Tryz.underlying115 ze_3 (by repeat' constructor) rfl) rfl (.ui rfl rfl rfl (.nt (.condD rfl (fun h39 => ?_) (fun h39 => ?_)))))))))
  ·refine .region (.m rfl (.nf rfl fo_117_1 (.u (.ld rfl ag_115) (.m rfl (.oq (.mapDel (m := aset q id (((cntW ω id : Nat) : Int) - 1)) (enc := idV) (k := id) (KeyLaw.int Tryz.underlying3) rfl rfl rfl Tryz.underlying115 ?he48) ?_)))))
   case he48 => rfl
   rintro v L' rfl
   refine .nil (.done_n ?_)
   have hnil : adel l id = [] := by exact List.length_eq_zero_iff.1 (by simpa using h20)
   have hI2 := hI.gone hm hb (m' := adel m sp) (n' := adel (aset q id (((cntW ω id : Nat) : Int) - 1)) id) (by rw [if_pos hnil]) (by rw [if_pos (by omega)])
   refine .tbFold hI2 (by repeat' constructor) rfl rfl rfl ?_
   exact .vv
  refine .skip (.done_n ?_)
  have hnil : adel l id = [] := by exact List.length_eq_zero_iff.1 (by simpa using h20)
  have hI2 := hI.gone hm hb (m' := adel m sp) (n' := aset q id (((cntW ω id : Nat) : Int) - 1)) (by rw [if_pos hnil]) (by rw [if_neg (by omega)])
  refine .tbFold hI2 (by repeat' constructor) rfl rfl rfl ?_
  exact .vv
 refine .sk (.sm rfl (.nf rfl fo_117_1 (.u (.ld rfl ag_115) (.m rfl (.q (.lookupV (m := q) (enc := idV) (KeyLaw.int Tryz.underlying3) (v := vint (cntW ω id : Nat)) (tb_some hI id) (tb_none hI id) rfl rfl Tryz.underlying115 ze_3 (by repeat' constructor) rfl) rfl (.q (.sub rfl rfl (by omega)) rfl (.oq (.mapSet (m := q) (enc := idV) (v := ((cntW ω id : Nat) : Int) - 1) (k := id) (KeyLaw.int Tryz.underlying3) rfl rfl rfl Tryz.underlying115 ?he57) ?_)))))))
 case he57 => rfl
 rintro v L' rfl
 refine .nt (.sm rfl (.nf rfl fo_117_1 (.u (.ld rfl ag_115) (.m rfl (.q (.lookupY (m := aset q id (((cntW ω id : Nat) : Int) - 1)) (enc := idV) (KeyLaw.int Tryz.underlying3) (by rw [al_aset, if_pos rfl]) rfl rfl Tryz.underlying115 ze_3 (by repeat' constructor) rfl) rfl (.ui rfl rfl rfl (.nt (.condD rfl (fun h39 => ?_) (fun h39 => ?_)))))))))
 ·refine .region (.m rfl (.nf rfl fo_117_1 (.u (.ld rfl ag_115) (.m rfl (.oq (.mapDel (m := aset q id (((cntW ω id : Nat) : Int) - 1)) (enc := idV) (k := id) (KeyLaw.int Tryz.underlying3) rfl rfl rfl Tryz.underlying115 ?he71) ?_)))))
  case he71 => rfl
  rintro v L' rfl
  refine .nil (.done_n ?_)
  have hnil : ¬ adel l id = [] := by intro e; apply h20; rw [e]; rfl
  have hI2 := hI.gone hm hb (m' := aset m sp (pb, adel l id)) (n' := adel (aset q id (((cntW ω id : Nat) : Int) - 1)) id) (by rw [if_neg hnil]) (by rw [if_pos (by omega)])
  refine .bigPut (f := inW) (m := m) sp (pb, adel l id) rfl (by repeat' constructor) (.tbFold hI2 (by repeat' constructor) rfl (byM_set (y' := (pb, adel l id)) hb rfl).symm rfl ?_)
  exact .vv
 refine .skip (.done_n ?_)
 have hnil : ¬ adel l id = [] := by intro e; apply h20; rw [e]; rfl
 have hI2 := hI.gone hm hb (m' := aset m sp (pb, adel l id)) (n' := aset q id (((cntW ω id : Nat) : Int) - 1)) (by rw [if_neg hnil]) (by rw [if_neg (by omega)])
 refine .bigPut (f := inW) (m := m) sp (pb, adel l id) rfl (by repeat' constructor) (.tbFold hI2 (by repeat' constructor) rfl (byM_set (y' := (pb, adel l id)) hb rfl).symm rfl ?_)
 exact .vv
theorem G.tbCast {W : World} {n : Nat} {ds : List Deferred} {E : Env} {L R : List HP} {X : Act → World → Prop} {t : Nat} {ω ω' : List Wt} (hL : Pick (tbR t ω) L R) (hw : ω' = ω) (h : G W n ds E (tbR t ω' :: R) X) : G W n ds E L X := by
 subst hw; exact G.focus hL h
theorem wdrop_spec (t : Nat) (ω : List Wt) (s : Int) (hlen : ω.length ≤ 1048576) : Fn Tryz.prog 44 #[vptr t, vint s] [tbR t ω] fun v L => v = .tuple #[] ∧ L = [tbR t (dropW ω s)] := by
 refine Fn.intro Tryz.func44 rfl rfl fun F W => ?_
 refine .tbOpen (ω := ω) (by repeat' constructor) fun rb rm m q hI => ?_
 have hnd := hI.keys
 refine .sr (.an rfl (.seq (.seq (.add (slR_nil 155 2) (.region (.m rfl (.nf rfl fo_117_0 (.u (.ld rfl ag_114) (.oq (.range (f := fun x : Spot × (Nat × List (Int × Int)) => (spotV x.1, byV x.2)) (m := m) rfl Tryz.underlying114 ?he6) ?_)))))))))
 case he6 => rfl
 rintro v L' ⟨it, rfl, rfl⟩
 refine .nt (.block (.loopK (ι := By × Value × (List Spot)) (fun q E => (4, q.2.1) :: E) (fun q => [rangeR (fun x : Spot × (Nat × List (Int × Int)) => (spotV x.1, byV x.2)) it rb m q.1, bigR inW m, slR 155 2 q.2.1 q.2.2.length (q.2.2.flatMap spotC)]) (fun q => q.2.2 = (q.1.filter (hasW s)).map (·.1) ∧ (∃ rest, m.Perm (q.1 ++ rest)) ∧ ∃ a c, q.2.1 = .slice a q.2.2.length c) (fun q => m.length - q.1.length) (([], .slice none 0 0, [])) (ts := [0, 1, 13]) (.cons rfl (.cons rfl (.cons rfl (.nil)))) (⟨rfl, ⟨m, .refl _⟩, none, 0, rfl⟩) ⟨rfl, rfl, rfl, rfl, trivial⟩ (by repeat' constructor) ?_))
 rintro ⟨ss, u, acc⟩ ⟨hacc, ⟨rest, hm⟩, au, cu, hu⟩
 dsimp only
 dsimp only at hacc hm hu
 subst hu
 have hml := hm.length_eq
 rw [List.length_append] at hml
 obtain ⟨hafew, hanod⟩ := acc_few hI hm s
 rw [← hacc] at hafew hanod
 refine .sr (.oq (.next rfl) ?_)
 rintro v L' (⟨rfl, hp2, rfl⟩ | ⟨x, rest2, rfl, hp2, rfl⟩)
 ·refine .rangeDone (by repeat' constructor) (.tbFold hI (by repeat' constructor) rfl rfl rfl ?_)
  have hacc2 : ∀ sp, (s, sp) ∈ ω ↔ sp ∈ acc := fun sp => by rw [has_mem hI, hacc]; exact ((hp2.filter _).map _).mem_iff
  refine .u (.extract rfl rfl) (.nt (.seq (.condF rfl (.exit (.then_e (.then_e (.blk_e (.then_n (.sm rfl (.q (.slen rfl Tryz.underlying158 rfl) rfl (.m rfl (.nt (.block (.tbCast (ω' := dropL ω s (acc.take 0)) (by repeat' constructor) (by rw [List.take_zero, dropL_nil]) (.loopK (ι := Nat) (fun q E => (29, vint q) :: E) (fun q => [tbR t (dropL ω s (acc.take q))]) (fun q => q ≤ acc.length) (fun q => acc.length - q) (0) (ts := [0, 1, 27, 28]) (.cons rfl (.cons rfl (.cons rfl (.cons rfl (.nil))))) (Nat.zero_le _) ⟨rfl, rfl, rfl, rfl, rfl, trivial⟩ (by repeat' constructor) ?_)))))))))))))))
  rintro i hi
  refine .sr (.ui rfl rfl rfl (.nt (.seq (.condD rfl (fun h30 => ?_) (fun h30 => ?_)))))
  ·have hi2 : i < acc.length := by omega
   refine .slShape (v := .slice au _ cu) (by repeat' constructor) (by omega) fun b4 c4' e m4 _ => ?_
   simp only [Value.slice.injEq, true_and] at e
   obtain ⟨rfl, rfl⟩ := e
   have hnot : acc[i] ∉ acc.take i := take_not hanod hi2
   refine .sk (.seq (.block (.sr (.q (.indexAddr rfl rfl el_158 (by omega)) rfl (.q (.loadRdA (sz := 2) (j := i * 2) (k := 2) (p := slR 155 2 _ acc.length (acc.flatMap spotC)) (vs := [vint acc[i].1, vstr acc[i].2]) rfl ag_155 (by repeat' constructor) (fun h hp => slR_rd hp) (by simp) (by omega) (by omega) (flatMap_at (f := spotC) (sz := 2) (fun _ _ => rfl) hi2)) rfl (.oq (.allocA ze_155) ?_))))))
   rintro v L' ⟨b8, rfl, rfl⟩
   refine .sa rfl rfl sz_155 (by (first | (simp [isCell]; done) | (simp [isCell, setAll, Value.cells]; done))) ?_
   refine .nil (.ptCast (b := b8) (l' := [vint acc[i].1, vstr acc[i].2]) (by repeat' constructor) rfl ?_)
   refine .then_n (.region (.m rfl (.q (.loadAs (vs := [vint acc[i].1, vstr acc[i].2]) rfl ag_155 (by repeat' constructor) (by simp) rfl) rfl (.m rfl (.cv Tryz.func74 [_, _, _] (wgone_spec t (dropL ω s (acc.take i)) acc[i] s (dropL_mem ((hacc2 _).2 (List.getElem_mem hi2)) hnot)) ?_)))))
   refine .nil (.blk_n (.then_n (.region (.q (.add rfl rfl (by omega)) rfl (.m rfl (.nt ?_))))))
   rw [dropL_step, ← List.take_succ_eq_append_getElem hi2]
   exact .rk (i + 1) (by omega) (by omega) ⟨rfl, rfl, rfl, rfl, rfl, trivial⟩
  have hii : i = acc.length := by omega
  rw [hii, List.take_length, dropL_all (fun sp h => (hacc2 sp).1 h)]
  refine .exit (.then_e (.then_e (.blk_e (.done_n ?_))))
  exact .vv
 refine .u (.extract rfl rfl) (.nt (.seq (.condT rfl (.sk (.block (.sr (.q (.entryE (v := .tuple #[spotV x.1, byV x.2]) rfl (by repeat' constructor) rfl) rfl (.u (.extract rfl rfl) (.u (.extract rfl rfl) (.oq (.allocA ze_155) ?_))))))))))
 rintro v L' ⟨bs5, rfl, rfl⟩
 refine .sa rfl rfl sz_155 (by (first | (simp [isCell]; done) | (simp [isCell, setAll, Value.cells]; done))) ?_
 refine .a rfl (.nil (.ptCast (b := bs5) (l' := [vint x.1.1, vstr x.1.2]) (by repeat' constructor) rfl ?_))
 have hxm : x ∈ m := hp2.mem_iff.2 (by simp)
 have hxb : alook m x.1 = some x.2 := al_of_mem hnd hxm
 refine .bigTake hxb (by repeat' constructor) (.then_n (.sm rfl (.m rfl (.q (.lookupV (m := x.2.2) (enc := idV) (v := vint (if s ∈ x.2.2.map (·.1) then s else 0)) (KeyLaw.int Tryz.underlying3) (fun b hb => by rw [if_pos (al_isSome.1 (by rw [hb]; rfl))]; exact congrArg vint ((hI.inn _ _ hxb).2.2 _ (al_mem hb))) (fun h0 => by rw [if_neg (al_none.1 h0)]) rfl rfl Tryz.underlying115 ze_3 (by repeat' constructor) rfl) rfl (.ui rfl rfl rfl (.nt (.condN rfl (fun h22 => ?_) (fun h22 => ?_))))))))
 ·have hin : s ∈ x.2.2.map (·.1) := Decidable.byContradiction fun e => by rw [if_neg e] at h22; exact h22 rfl
  refine .region (.m rfl (.q (.loadAs (vs := [vint x.1.1, vstr x.1.2]) rfl ag_155 (by repeat' constructor) (by simp) rfl) rfl (.oq (.buildSlice (vs := [_]) el_158 ze_155 rfl rfl rfl rfl (by first | (simp [Value.cells]; done) | (intro v hv; simp only [List.mem_cons, List.not_mem_nil, or_false] at hv; (repeat (first | (subst hv; rfl) | (rcases hv with hv | hv; (subst hv; rfl)))))) (by decide)) ?_)))
  rintro v L' ⟨b5_2, rfl, rfl⟩
  refine .oq (.append1 rfl rfl rfl el_158 ze_155 rfl rfl ?c50 ?c51 (Nat.le_refl _) ?c52 (by decide)) ?_
  case c50 => (first | (simp [isCell]; done) | (simp [isCell, setAll, Value.cells]; done))
  case c51 => rfl
  case c52 => omega
  rintro v L' ⟨⟨a5_3, c5_3, rfl⟩, rfl⟩
  refine .a rfl (.nil (.blk_n (.then_n ?_)))
  have hl := hp2.length_eq
  simp at hl
  refine .bigPut (f := inW) (m := m) x.1 x.2 (p := mapR x.2.1 (intM x.2.2)) rfl (by repeat' constructor) ?_
  rw [aset_self hxb]
  rw [show acc.flatMap spotC ++ (List.map (fun v => v.cells.toList) [Value.agg #[vint x.1.1, vstr x.1.2]]).flatten = (acc ++ [x.1]).flatMap spotC by simp [spotC, Value.cells], show acc.length + 1 = (acc ++ [x.1]).length by simp]
  exact .rk ((ss ++ [x], .slice a5_3 (acc ++ [x.1]).length c5_3, acc ++ [x.1])) (⟨by dsimp only; rw [hacc, List.filter_append]; simp [hasW, hin], ⟨_, by simpa using hp2⟩, _, _, rfl⟩) (by dsimp only; simp; omega) ⟨rfl, rfl, rfl, rfl, trivial⟩
 have hin : ¬ s ∈ x.2.2.map (·.1) := fun e => by rw [if_pos e] at h22; have := (hI.fit (s, x.1) ((hI.mem _ _).2 ⟨_, hxb, e⟩)).1; dsimp only at this; omega
 refine .skip (.blk_n (.then_n ?_))
 have hl := hp2.length_eq
 simp at hl
 refine .bigPut (f := inW) (m := m) x.1 x.2 (p := mapR x.2.1 (intM x.2.2)) rfl (by repeat' constructor) ?_
 rw [aset_self hxb]
 exact .rk ((ss ++ [x], _, acc)) (⟨by dsimp only; rw [hacc, List.filter_append]; simp [hasW, hin], ⟨_, by simpa using hp2⟩, _, _, rfl⟩) (by dsimp only; simp; omega) ⟨rfl, rfl, rfl, rfl, trivial⟩
theorem spot_mem (ω : List Wt) (sp : Spot) (x : Int) : (x, sp) ∈ ω ↔ x ∈ (ω.filter fun w => decide (w.2 = sp)).map (·.1) := by
 constructor
 ·intro h; exact List.mem_map.2 ⟨(x, sp), List.mem_filter.2 ⟨h, by simp⟩, rfl⟩
 ·intro h
  obtain ⟨w, hw, rfl⟩ := List.mem_map.1 h
  obtain ⟨h1, h2⟩ := List.mem_filter.1 hw
  have h2 : w.2 = sp := by simpa using h2
  rw [← h2]; exact h1
theorem spot_nodup {ω : List Wt} {m : By} {n : List (Int × Int)} (h : TbI ω m n) {sp : Spot} : ((ω.filter fun w => decide (w.2 = sp)).map (·.1)).Nodup := by
 refine List.pairwise_map.2 (List.Pairwise.imp_of_mem ?_ (h.nod.filter _))
 intro a b ha hb hne e
 apply hne
 have h1 := (List.mem_filter.1 ha).2
 have h2 := (List.mem_filter.1 hb).2
 simp at h1 h2
 obtain ⟨a1, a2⟩ := a; obtain ⟨b1, b2⟩ := b
 dsimp only at *
 rw [e, h1, h2]
theorem wfire_spec (t : Nat) (ω : List Wt) (va : Value) (es : List Ev) (p : HP) (hp : ∀ h : Hp, p h → rdS 3 h va es.length (es.flatMap evC)) (hl : ω.length ≤ 1048576) (hel : es.length ≤ 3145728) : Fn Tryz.prog 43 #[vptr t, va] [tbR t ω, p] fun v L => ∃ a c, v = .slice a (fireL ω es).2.length c ∧ L = [tbR t (fireL ω es).1, p, slR 127 4 v (fireL ω es).2.length ((fireL ω es).2.flatMap tldC)] := by
 refine Fn.intro Tryz.func43 rfl rfl fun F W => ?_
 refine .rdAny (p := p) hp (by repeat' constructor) fun aa ca e0 _ => ?_
 subst e0
 refine .sr (.an rfl (.seq (.add (slR_nil 127 4) (.region (.an rfl (.seq (.sm rfl (.q (.slen rfl Tryz.underlying47 rfl) rfl (.m rfl (.nt (.block (.tbCast (ω' := (fireTo ω es 0).1) (by repeat' constructor) rfl (.loopK (ι := Nat × Value) (fun q E => (20, vint q.1) :: (5, q.2) :: E) (fun q => [tbR t (fireTo ω es q.1).1, slR 127 4 q.2 (fireTo ω es q.1).2.length ((fireTo ω es q.1).2.flatMap tldC)]) (fun q => q.1 ≤ es.length ∧ ∃ a c, q.2 = .slice a (fireTo ω es q.1).2.length c) (fun q => es.length - q.1) (0, .slice none 0 0) (ts := [0, 4, 18, 19]) (.cons rfl (.cons rfl (.cons rfl (.cons rfl (.nil))))) (⟨Nat.zero_le _, none, 0, rfl⟩) ⟨rfl, rfl, rfl, rfl, rfl, rfl, trivial⟩ (by repeat' constructor) ?_)))))))))))))
 rintro ⟨i, u⟩ ⟨hi, au, cu, hu⟩
 dsimp only
 dsimp only at hi hu
 subst hu
 obtain ⟨hwl, hol⟩ := fire_len ω es i
 have hol2 : i * ω.length ≤ 3145728 * 1048576 := Nat.mul_le_mul (by omega) hl
 refine .sr (.ui rfl rfl rfl (.nt (.seq (.condD rfl (fun h21 => ?_) (fun h21 => ?_)))))
 ·have hi2 : i < es.length := by omega
  refine .rdShape (p := p) hp (by repeat' constructor) (by omega) fun ba oa e0 => ?_
  subst e0
  have hes : es.getD i (0, ([], 0)) = es[i] := by simp [hi2]
  have hat : ((es.flatMap evC).drop (i * 3)).take 3 = evC es[i] := flatMap_at (f := evC) (sz := 3) (fun _ _ => rfl) hi2
  generalize es[i] = e at hes hat
  have hat : ((es.flatMap evC).drop (i * 3)).take 3 = [vint e.1, vstr e.2.1, vint e.2.2] := hat
  have hkn := kinds_nodup e.1
  have hkl := kinds_len e.1
  refine .sk (.seq (.block (.sr (.q (.indexAddr rfl rfl el_47 (by omega)) rfl (.q (.loadRdA (sz := 3) (j := i * 3) (k := 3) (p := p) (vs := [vint e.1, vstr e.2.1, vint e.2.2]) rfl ag_50 (by repeat' constructor) hp (by simp) (by omega) (by omega) hat) rfl (.oq (.allocA ze_50) ?_))))))
  rintro v L' ⟨be, rfl, rfl⟩
  refine .sa rfl rfl sz_50 (by (first | (simp [isCell]; done) | (simp [isCell, setAll, Value.cells]; done))) ?_
  refine .nil (.ptCast (b := be) (l' := [vint e.1, vstr e.2.1, vint e.2.2]) (by repeat' constructor) rfl ?_)
  refine .then_n (.seq (.add (slR_nil 3 1) (.region (.an rfl (.seq (.sr (.u (.fieldAddr rfl fo_50_0) (.u (.ld rfl ag_3) (.oq (.c Tryz.func73 [_] (wkinds_spec e.1)) ?_)))))))))
  rintro v L' ⟨⟨ak, ck, rfl⟩, rfl⟩
  refine .q (.slen rfl Tryz.underlying86 rfl) rfl (.m rfl (.nt (.block (.tbCast (ω' := outK (fireTo ω es i).1 e.2.1 ((kindsZ e.1).take 0)) (by repeat' constructor) (by rw [List.take_zero, outK_nil]) (.loopK (ι := Nat × Value × (List Int)) (fun q E => (28, vint q.1) :: (8, q.2.1) :: E) (fun q => [tbR t (outK (fireTo ω es i).1 e.2.1 ((kindsZ e.1).take q.1)), slR 3 1 q.2.1 q.2.2.length (ints q.2.2)]) (fun q => q.1 ≤ (kindsZ e.1).length ∧ q.2.2.Perm (idsK (fireTo ω es i).1 e.2.1 ((kindsZ e.1).take q.1)) ∧ ∃ a c, q.2.1 = .slice a q.2.2.length c) (fun q => (kindsZ e.1).length - q.1) (0, .slice none 0 0, []) (ts := [0, 4, 5, 7, 18, 19, 20, 21, 22, 23, 24, 25, 26, 27]) (.cons rfl (.cons rfl (.cons rfl (.cons rfl (.cons rfl (.cons rfl (.cons rfl (.cons rfl (.cons rfl (.cons rfl (.cons rfl (.cons rfl (.cons rfl (.cons rfl (.nil))))))))))))))) (⟨Nat.zero_le _, by dsimp only; rw [List.take_zero]; simp [idsK], none, 0, rfl⟩) ⟨rfl, rfl, rfl, rfl, rfl, rfl, rfl, rfl, rfl, rfl, rfl, rfl, rfl, rfl, rfl, rfl, trivial⟩ (by repeat' constructor) ?_)))))
  rintro ⟨j, w, who⟩ ⟨hj, hwho, aw, cw, hw⟩
  dsimp only
  dsimp only at hj hwho hw
  subst hw
  have hwhl := hwho.length_eq
  have hwhl2 := ids_len (fireTo ω es i).1 e.2.1 ((kindsZ e.1).take j)
  refine .sr (.ui rfl rfl rfl (.nt (.seq (.condD rfl (fun h29 => ?_) (fun h29 => ?_)))))
  ·have hj2 : j < (kindsZ e.1).length := by omega
   refine .slShape (v := .slice ak _ ck) (by repeat' constructor) (by omega) fun bk ck' e0 mk _ => ?_
   simp only [Value.slice.injEq, true_and] at e0
   obtain ⟨rfl, rfl⟩ := e0
   refine .sk (.seq (.block (.sr (.q (.indexAddr rfl rfl el_86 (by omega)) rfl (.q (.loadSl (v := vint (kindsZ e.1)[j]) (i := j * 1) rfl ag_3 (by repeat' constructor) (by simp [hj2])) rfl (.an rfl (.sm rfl (.u (.fieldAddr rfl fo_50_1) (.u (.ld rfl ag_9) (.q (.build (us := [(0, _), (1, _)]) fl_155 ze_155 rfl rfl (by simp [isCell])) rfl (.oq (.allocA ze_155) ?_)))))))))))
   rintro v L' ⟨bs, rfl, rfl⟩
   refine .sa rfl rfl sz_155 (by (first | (simp [isCell]; done) | (simp [isCell, setAll, Value.cells]; done))) ?_
   refine .nil (.ptCast (b := bs) (l' := [vint (kindsZ e.1)[j], vstr e.2.1]) (by repeat' constructor) rfl ?_)
   refine .then_n (.seq (.add (slR_nil 3 1) (.tbOpen (ω := (outK (fireTo ω es i).1 e.2.1 ((kindsZ e.1).take j))) (by repeat' constructor) fun rb rm m q hI => (.region ?_))))
   rcases hal : alook m ((kindsZ e.1)[j], e.2.1) with _ | ⟨pb, l⟩
   ·refine .an rfl (.seq (.seq (.draw [6] [[0, 1, 2, 3, 4, 5, 6]] mixed (by kernel_rfl) (.g0 (.mv rfl rfl (.nf rfl rfl rfl fo_117_0 (.kv rfl (.ld rfl ag_114) (.kv rfl (.loadAs (vs := [vint (kindsZ e.1)[j], vstr e.2.1]) rfl ag_155 (by repeat' constructor) (by simp) rfl) (.kv rfl (.lookupN (m := m) (enc := byV) spotK (hal) rfl rfl Tryz.underlying114 ze_115 (by repeat' constructor) rfl) (.hh rfl (.rangeNil rfl Tryz.underlying115) ?_))))))))))
    rintro v L' ⟨it, rfl, rfl⟩
    refine D.pf (.block (.loopK (ι := Unit) (fun q E => (12, .slice none 0 0) :: E) (fun q => [nilR it]) (fun q => True) (fun q => 0) (()) (ts := [0, 4, 5, 7, 8, 10, 11, 18, 19, 20, 21, 22, 23, 24, 25, 26, 27, 28, 29, 30, 31, 32, 33, 34, 35, 36, 37, 38, 39, 40, 41, 42]) (.cons rfl (.cons rfl (.cons rfl (.cons rfl (.cons rfl (.cons rfl (.cons rfl (.cons rfl (.cons rfl (.cons rfl (.cons rfl (.cons rfl (.cons rfl (.cons rfl (.cons rfl (.cons rfl (.cons rfl (.cons rfl (.cons rfl (.cons rfl (.cons rfl (.cons rfl (.cons rfl (.cons rfl (.cons rfl (.cons rfl (.cons rfl (.cons rfl (.cons rfl (.cons rfl (.cons rfl (.cons rfl (.nil))))))))))))))))))))))))))))))))) (trivial) ⟨rfl, rfl, rfl, rfl, rfl, rfl, rfl, rfl, rfl, rfl, rfl, rfl, rfl, rfl, rfl, rfl, rfl, rfl, rfl, rfl, rfl, rfl, rfl, rfl, rfl, rfl, rfl, rfl, rfl, rfl, rfl, rfl, rfl, trivial⟩ (by repeat' constructor) ?_))
    rintro u0 -
    refine .sr (.oq (.nextNil rfl) ?_)
    rintro v L' ⟨rfl, rfl⟩
    refine .u (.extract rfl rfl) (.nt (.seq (.condF rfl (.exit (.then_e (.then_e (.blk_e (.then_n (.seq (.seq (.tbFold hI (by repeat' constructor) rfl rfl rfl ?_)))))))))))
    have hids : ([] : List Int).Perm (((outK (fireTo ω es i).1 e.2.1 ((kindsZ e.1).take j)).filter fun w => decide (w.2 = ((kindsZ e.1)[j], e.2.1))).map (·.1)) := by rw [spot_none hI hal]; exact .refl _
    have hand : ([] : List Int).Nodup := hids.nodup_iff.2 (spot_nodup hI)
    have hamem : ∀ x, (x, ((kindsZ e.1)[j], e.2.1)) ∈ (outK (fireTo ω es i).1 e.2.1 ((kindsZ e.1).take j)) ↔ x ∈ ([] : List Int) := fun x => (spot_mem _ _ _).trans hids.mem_iff.symm
    have halen : ([] : List Int).length ≤ 1048576 := by have h1 := hids.length_eq; have h2 := List.length_filter_le (fun w : Wt => decide (w.2 = ((kindsZ e.1)[j], e.2.1))) (outK (fireTo ω es i).1 e.2.1 ((kindsZ e.1).take j)); rw [List.length_map] at h1; have h3 : (outK (fireTo ω es i).1 e.2.1 ((kindsZ e.1).take j)).length ≤ (fireTo ω es i).1.length := List.length_filter_le _ _; omega
    refine .tbCast (ω' := goneL (outK (fireTo ω es i).1 e.2.1 ((kindsZ e.1).take j)) ((kindsZ e.1)[j], e.2.1) (([] : List Int).take 0)) (by repeat' constructor) (by rw [List.take_zero, goneL_nil]) (.region (.m rfl (.q (.slen rfl Tryz.underlying86 rfl) rfl (.m rfl (.nt (.block (.loopK (ι := Nat) (fun q E => (53, vint q) :: E) (fun q => [tbR t (goneL (outK (fireTo ω es i).1 e.2.1 ((kindsZ e.1).take j)) ((kindsZ e.1)[j], e.2.1) (([] : List Int).take q))]) (fun q => q ≤ ([] : List Int).length) (fun q => ([] : List Int).length - q) (0) (ts := [0, 4, 5, 7, 8, 10, 11, 12, 18, 19, 20, 21, 22, 23, 24, 25, 26, 27, 28, 29, 30, 31, 32, 33, 34, 35, 36, 37, 38, 39, 40, 41, 42, 43, 44, 51, 52]) (.cons rfl (.cons rfl (.cons rfl (.cons rfl (.cons rfl (.cons rfl (.cons rfl (.cons rfl (.cons rfl (.cons rfl (.cons rfl (.cons rfl (.cons rfl (.cons rfl (.cons rfl (.cons rfl (.cons rfl (.cons rfl (.cons rfl (.cons rfl (.cons rfl (.cons rfl (.cons rfl (.cons rfl (.cons rfl (.cons rfl (.cons rfl (.cons rfl (.cons rfl (.cons rfl (.cons rfl (.cons rfl (.cons rfl (.cons rfl (.cons rfl (.cons rfl (.cons rfl (.nil)))))))))))))))))))))))))))))))))))))) (Nat.zero_le _) ⟨rfl, rfl, rfl, rfl, rfl, rfl, rfl, rfl, rfl, rfl, rfl, rfl, rfl, rfl, rfl, rfl, rfl, rfl, rfl, rfl, rfl, rfl, rfl, rfl, rfl, rfl, rfl, rfl, rfl, rfl, rfl, rfl, rfl, rfl, rfl, rfl, rfl, rfl, trivial⟩ (by repeat' constructor) ?_)))))))
    rintro i2 hi2b
    refine .sr (.ui rfl rfl rfl (.nt (.seq (.condD rfl (fun h54 => ?_) (fun h54 => ?_)))))
    ·exfalso; simp at h54; omega
    have hii : i2 = ([] : List Int).length := by simp at hi2b ⊢; omega
    rw [hii, List.take_length, goneL_all (fun x hx => (hamem x).1 hx), ← List.take_succ_eq_append_getElem hj2]
    refine .exit (.then_e (.then_e (.blk_e (.then_n (.region (.m rfl (.m rfl (.oq (.append (n := who.length) (m := ([] : List Int).length) (ys := ints ([] : List Int)) (p := slR 3 1 (.slice none 0 0) ([] : List Int).length (ints ([] : List Int))) rfl rfl rfl el_86 (.inl ⟨_, Tryz.underlying86⟩) ze_3 rfl rfl ?hc54 ?hr55 ?hb56 (by decide)) ?_))))))))
    case hc54 => intro y hy; obtain ⟨c, -, rfl⟩ := List.mem_map.1 hy; rfl
    case hr55 => exact fun h hp => slR_rd hp
    case hb56 => omega
    rintro v L' ⟨⟨a20, c20, rfl⟩, rfl⟩
    refine .a rfl (.nil (.blk_n (.then_n (.region (.q (.add rfl rfl (by omega)) rfl (.m rfl (.nt ?_)))))))
    rw [show ints who ++ ints ([] : List Int) = ints (who ++ ([] : List Int)) by simp [ints], show who.length + ([] : List Int).length = (who ++ ([] : List Int)).length by simp]
    exact .rk ((j + 1, .slice a20 (who ++ ([] : List Int)).length c20, who ++ ([] : List Int))) (⟨by dsimp only; omega, by dsimp only; rw [List.take_succ_eq_append_getElem hj2]; exact (hwho.append hids).trans (idsK_step _ _ (take_not hkn hj2)).symm, _, _, rfl⟩) (by dsimp only; omega) ⟨rfl, rfl, rfl, rfl, rfl, rfl, rfl, rfl, rfl, rfl, rfl, rfl, rfl, rfl, rfl, rfl, trivial⟩
   refine .bigTake hal (by repeat' constructor) (.an rfl (.seq (.seq (.draw [6] [[0, 1, 2, 3, 4, 5, 6]] mixed (by kernel_rfl) (.g0 (.mv rfl rfl (.nf rfl rfl rfl fo_117_0 (.kv rfl (.ld rfl ag_114) (.kv rfl (.loadAs (vs := [vint (kindsZ e.1)[j], vstr e.2.1]) rfl ag_155 (by repeat' constructor) (by simp) rfl) (.kv rfl (.lookupY (m := m) (enc := byV) spotK (hal) rfl rfl Tryz.underlying114 ze_115 (by repeat' constructor) rfl) (.hh rfl (.range (f := fun x : Int × Int => (vint x.1, idV x.2)) (m := l) rfl Tryz.underlying115 ?he67) ?_)))))))))))
   case he67 => rfl
   rintro v L' ⟨it, rfl, rfl⟩
   refine D.pf (.block (.loopK (ι := (List (Int × Int)) × Value × (List Int)) (fun q E => (12, q.2.1) :: E) (fun q => [rangeR (fun x : Int × Int => (vint x.1, idV x.2)) it pb l q.1, slR 3 1 q.2.1 q.2.2.length (ints q.2.2)]) (fun q => q.2.2 = q.1.map (·.1) ∧ (∃ rest, l.Perm (q.1 ++ rest)) ∧ ∃ a c, q.2.1 = .slice a q.2.2.length c) (fun q => l.length - q.1.length) ([], .slice none 0 0, []) (ts := [0, 4, 5, 7, 8, 10, 11, 18, 19, 20, 21, 22, 23, 24, 25, 26, 27, 28, 29, 30, 31, 32, 33, 34, 35, 36, 37, 38, 39, 40, 41, 42]) (.cons rfl (.cons rfl (.cons rfl (.cons rfl (.cons rfl (.cons rfl (.cons rfl (.cons rfl (.cons rfl (.cons rfl (.cons rfl (.cons rfl (.cons rfl (.cons rfl (.cons rfl (.cons rfl (.cons rfl (.cons rfl (.cons rfl (.cons rfl (.cons rfl (.cons rfl (.cons rfl (.cons rfl (.cons rfl (.cons rfl (.cons rfl (.cons rfl (.cons rfl (.cons rfl (.cons rfl (.cons rfl (.nil))))))))))))))))))))))))))))))))) (⟨rfl, ⟨l, .refl _⟩, none, 0, rfl⟩) ⟨rfl, rfl, rfl, rfl, rfl, rfl, rfl, rfl, rfl, rfl, rfl, rfl, rfl, rfl, rfl, rfl, rfl, rfl, rfl, rfl, rfl, rfl, rfl, rfl, rfl, rfl, rfl, rfl, rfl, rfl, rfl, rfl, rfl, trivial⟩ (by repeat' constructor) ?_))
   rintro ⟨s, w2, acc⟩ ⟨hacc, ⟨rest, hl⟩, av, cv, hw2⟩
   dsimp only
   dsimp only at hacc hl hw2
   subst hw2
   have hll := hl.length_eq
   rw [List.length_append] at hll
   have hal2 : acc.length = s.length := by rw [hacc, List.length_map]
   refine .sr (.oq (.next rfl) ?_)
   rintro v L' (⟨rfl, hp12, rfl⟩ | ⟨z, rest12, rfl, hp12, rfl⟩)
   ·refine .rangeDone (by repeat' constructor) (.bigPut (f := inW) (m := m) ((kindsZ e.1)[j], e.2.1) (pb, l) (p := mapR pb (intM l)) rfl (by repeat' constructor) ?_)
    rw [aset_self hal]
    refine .tbFold hI (by repeat' constructor) rfl rfl rfl ?_
    have hids : acc.Perm (((outK (fireTo ω es i).1 e.2.1 ((kindsZ e.1).take j)).filter fun w => decide (w.2 = ((kindsZ e.1)[j], e.2.1))).map (·.1)) := by rw [hacc]; exact (hp12.symm.map _).trans (spot_ids hI hal)
    refine .u (.extract rfl rfl) (.nt (.seq (.condF rfl (.exit (.then_e (.then_e (.blk_e (.then_n (.seq (.seq ?_))))))))))
    have hand : acc.Nodup := hids.nodup_iff.2 (spot_nodup hI)
    have hamem : ∀ x, (x, ((kindsZ e.1)[j], e.2.1)) ∈ (outK (fireTo ω es i).1 e.2.1 ((kindsZ e.1).take j)) ↔ x ∈ acc := fun x => (spot_mem _ _ _).trans hids.mem_iff.symm
    have halen : acc.length ≤ 1048576 := by have h1 := hids.length_eq; have h2 := List.length_filter_le (fun w : Wt => decide (w.2 = ((kindsZ e.1)[j], e.2.1))) (outK (fireTo ω es i).1 e.2.1 ((kindsZ e.1).take j)); rw [List.length_map] at h1; have h3 : (outK (fireTo ω es i).1 e.2.1 ((kindsZ e.1).take j)).length ≤ (fireTo ω es i).1.length := List.length_filter_le _ _; omega
    refine .tbCast (ω' := goneL (outK (fireTo ω es i).1 e.2.1 ((kindsZ e.1).take j)) ((kindsZ e.1)[j], e.2.1) (acc.take 0)) (by repeat' constructor) (by rw [List.take_zero, goneL_nil]) (.region (.m rfl (.q (.slen rfl Tryz.underlying86 rfl) rfl (.m rfl (.nt (.block (.loopK (ι := Nat) (fun q E => (53, vint q) :: E) (fun q => [tbR t (goneL (outK (fireTo ω es i).1 e.2.1 ((kindsZ e.1).take j)) ((kindsZ e.1)[j], e.2.1) (acc.take q))]) (fun q => q ≤ acc.length) (fun q => acc.length - q) (0) (ts := [0, 4, 5, 7, 8, 10, 11, 12, 18, 19, 20, 21, 22, 23, 24, 25, 26, 27, 28, 29, 30, 31, 32, 33, 34, 35, 36, 37, 38, 39, 40, 41, 42, 43, 44, 51, 52]) (.cons rfl (.cons rfl (.cons rfl (.cons rfl (.cons rfl (.cons rfl (.cons rfl (.cons rfl (.cons rfl (.cons rfl (.cons rfl (.cons rfl (.cons rfl (.cons rfl (.cons rfl (.cons rfl (.cons rfl (.cons rfl (.cons rfl (.cons rfl (.cons rfl (.cons rfl (.cons rfl (.cons rfl (.cons rfl (.cons rfl (.cons rfl (.cons rfl (.cons rfl (.cons rfl (.cons rfl (.cons rfl (.cons rfl (.cons rfl (.cons rfl (.cons rfl (.cons rfl (.nil)))))))))))))))))))))))))))))))))))))) (Nat.zero_le _) ⟨rfl, rfl, rfl, rfl, rfl, rfl, rfl, rfl, rfl, rfl, rfl, rfl, rfl, rfl, rfl, rfl, rfl, rfl, rfl, rfl, rfl, rfl, rfl, rfl, rfl, rfl, rfl, rfl, rfl, rfl, rfl, rfl, rfl, rfl, rfl, rfl, rfl, rfl, trivial⟩ (by repeat' constructor) ?_)))))))
    rintro i2 hi2b
    refine .sr (.ui rfl rfl rfl (.nt (.seq (.condD rfl (fun h54 => ?_) (fun h54 => ?_)))))
    ·have hi3 : i2 < acc.length := by omega
     refine .slShape (v := .slice av _ cv) (by repeat' constructor) (by omega) fun bl cl' e0 ml _ => ?_
     simp only [Value.slice.injEq, true_and] at e0
     obtain ⟨rfl, rfl⟩ := e0
     refine .sk (.seq (.block (.sr (.q (.indexAddr rfl rfl el_86 (by omega)) rfl (.q (.loadSl (v := vint acc[i2]) (i := i2 * 1) rfl ag_3 (by repeat' constructor) (by simp [hi3])) rfl (.an rfl (.region (.m rfl (.q (.loadAs (vs := [vint (kindsZ e.1)[j], vstr e.2.1]) rfl ag_155 (by repeat' constructor) (by simp) rfl) rfl (.m rfl (.cv Tryz.func74 [_, _, _] (wgone_spec t (goneL (outK (fireTo ω es i).1 e.2.1 ((kindsZ e.1).take j)) ((kindsZ e.1)[j], e.2.1) (acc.take i2)) ((kindsZ e.1)[j], e.2.1) acc[i2] (goneL_mem ((hamem _).2 (List.getElem_mem hi3)) (take_not hand hi3))) ?_)))))))))))
     refine .nil (.blk_n (.then_n (.region (.q (.add rfl rfl (by omega)) rfl (.m rfl (.nt ?_))))))
     rw [goneL_step, ← List.take_succ_eq_append_getElem hi3]
     exact .rk (i2 + 1) (by omega) (by omega) ⟨rfl, rfl, rfl, rfl, rfl, rfl, rfl, rfl, rfl, rfl, rfl, rfl, rfl, rfl, rfl, rfl, rfl, rfl, rfl, rfl, rfl, rfl, rfl, rfl, rfl, rfl, rfl, rfl, rfl, rfl, rfl, rfl, rfl, rfl, rfl, rfl, rfl, rfl, trivial⟩
    have hii : i2 = acc.length := by omega
    rw [hii, List.take_length, goneL_all (fun x hx => (hamem x).1 hx), ← List.take_succ_eq_append_getElem hj2]
    refine .exit (.then_e (.then_e (.blk_e (.then_n (.region (.m rfl (.m rfl (.oq (.append (n := who.length) (m := acc.length) (ys := ints acc) (p := slR 3 1 (.slice av acc.length cv) acc.length (ints acc)) rfl rfl rfl el_86 (.inl ⟨_, Tryz.underlying86⟩) ze_3 rfl rfl ?hc86 ?hr87 ?hb88 (by decide)) ?_))))))))
    case hc86 => intro y hy; obtain ⟨c, -, rfl⟩ := List.mem_map.1 hy; rfl
    case hr87 => exact fun h hp => slR_rd hp
    case hb88 => omega
    rintro v L' ⟨⟨a20, c20, rfl⟩, rfl⟩
    refine .a rfl (.nil (.blk_n (.then_n (.region (.q (.add rfl rfl (by omega)) rfl (.m rfl (.nt ?_)))))))
    rw [show ints who ++ ints acc = ints (who ++ acc) by simp [ints], show who.length + acc.length = (who ++ acc).length by simp]
    exact .rk ((j + 1, .slice a20 (who ++ acc).length c20, who ++ acc)) (⟨by dsimp only; omega, by dsimp only; rw [List.take_succ_eq_append_getElem hj2]; exact (hwho.append hids).trans (idsK_step _ _ (take_not hkn hj2)).symm, _, _, rfl⟩) (by dsimp only; omega) ⟨rfl, rfl, rfl, rfl, rfl, rfl, rfl, rfl, rfl, rfl, rfl, rfl, rfl, rfl, rfl, rfl, trivial⟩
   have hzl : l.length ≤ 1048576 := by have h1 := (spot_ids hI hal).length_eq; dsimp only at h1; rw [List.length_map, List.length_map] at h1; have h2 := List.length_filter_le (fun w : Wt => decide (w.2 = ((kindsZ e.1)[j], e.2.1))) (outK (fireTo ω es i).1 e.2.1 ((kindsZ e.1).take j)); have h3 : (outK (fireTo ω es i).1 e.2.1 ((kindsZ e.1).take j)).length ≤ (fireTo ω es i).1.length := List.length_filter_le _ _; omega
   refine .u (.extract rfl rfl) (.nt (.seq (.condT rfl (.sk (.block (.sr (.q (.entryE (v := .tuple #[vint z.1, idV z.2]) rfl (by repeat' constructor) rfl) rfl (.u (.extract rfl rfl) (.an rfl (.region (.m rfl (.m rfl (.oq (.buildSlice1 (vs := [_]) el_86 ze_3 rfl rfl rfl rfl rfl (by decide)) ?_)))))))))))))
   rintro v L' ⟨b14_2, rfl, rfl⟩
   refine .oq (.append1 rfl rfl rfl el_86 ze_3 rfl rfl ?c99 ?c100 (Nat.le_refl _) ?c101 (by decide)) ?_
   case c99 => (first | (simp [isCell]; done) | (simp [isCell, setAll, Value.cells]; done))
   case c100 => rfl
   case c101 => omega
   rintro v L' ⟨⟨a14_3, c14_3, rfl⟩, rfl⟩
   refine .a rfl (.nil (.blk_n (.then_n ?_)))
   have hl2 := hp12.length_eq
   simp at hl2
   rw [show ints acc ++ [vint z.1] = ints (acc ++ [z.1]) by simp [ints], show acc.length + 1 = (acc ++ [z.1]).length by simp]
   exact .rk ((s ++ [z], .slice a14_3 (acc ++ [z.1]).length c14_3, acc ++ [z.1])) (⟨by dsimp only; simp [hacc], ⟨_, by simpa using hp12⟩, _, _, rfl⟩) (by dsimp only; simp; omega) ⟨rfl, rfl, rfl, rfl, rfl, rfl, rfl, rfl, rfl, rfl, rfl, rfl, rfl, rfl, rfl, rfl, rfl, rfl, rfl, rfl, rfl, rfl, rfl, rfl, rfl, rfl, rfl, rfl, rfl, rfl, rfl, rfl, rfl, trivial⟩
  have hjj : j = (kindsZ e.1).length := by omega
  rw [hjj, List.take_length, out_all]
  rw [hjj, List.take_length, ids_all] at hwho
  have htw : compI (sortI who) = (tellW (fireTo ω es i).1 e.1 e.2.1) := by unfold tellW; rw [sortI_perm_eq hwho]
  have htl := tell_len (fireTo ω es i).1 e.1 e.2.1
  refine .exit (.then_e (.then_e (.blk_e (.then_n (.sm rfl (.oq (.call Tryz.func70 rfl rfl (vs := [_]) rfl (sortI_spec _ who.length who (by omega))) ?_))))))
  rintro v L' ⟨rfl, rfl⟩
  refine .nt (.sm rfl (.oq (.call Tryz.func75 rfl rfl (vs := [_]) rfl (compI_spec _ who.length (sortI who) (by omega))) ?_))
  rintro v L' ⟨⟨ac, cc, rfl⟩, rfl⟩; rw [htw]
  refine .q (.slen rfl Tryz.underlying86 rfl) rfl (.m rfl (.nt (.block (.slCast (T := 127) (sz := 4) (m' := ((fireTo ω es i).2 ++ ((tellW (fireTo ω es i).1 e.1 e.2.1).take 0).map fun x => (x, e)).length) (xs' := ((fireTo ω es i).2 ++ ((tellW (fireTo ω es i).1 e.1 e.2.1).take 0).map fun x => (x, e)).flatMap tldC) (by repeat' constructor) (by simp) (by simp) (.loopK (ι := Nat × Value) (fun q E => (71, vint q.1) :: (5, q.2) :: E) (fun q => [slR 127 4 q.2 ((fireTo ω es i).2 ++ ((tellW (fireTo ω es i).1 e.1 e.2.1).take q.1).map fun x => (x, e)).length (((fireTo ω es i).2 ++ ((tellW (fireTo ω es i).1 e.1 e.2.1).take q.1).map fun x => (x, e)).flatMap tldC)]) (fun q => q.1 ≤ (tellW (fireTo ω es i).1 e.1 e.2.1).length ∧ ∃ a c, q.2 = .slice a ((fireTo ω es i).2 ++ ((tellW (fireTo ω es i).1 e.1 e.2.1).take q.1).map fun x => (x, e)).length c) (fun q => (tellW (fireTo ω es i).1 e.1 e.2.1).length - q.1) (0, .slice au (fireTo ω es i).2.length cu) (ts := [0, 4, 7, 8, 18, 19, 20, 21, 22, 23, 24, 25, 26, 27, 28, 29, 66, 68, 69, 70]) (.cons rfl (.cons rfl (.cons rfl (.cons rfl (.cons rfl (.cons rfl (.cons rfl (.cons rfl (.cons rfl (.cons rfl (.cons rfl (.cons rfl (.cons rfl (.cons rfl (.cons rfl (.cons rfl (.cons rfl (.cons rfl (.cons rfl (.cons rfl (.nil))))))))))))))))))))) (⟨Nat.zero_le _, au, cu, by simp⟩) ⟨rfl, rfl, rfl, rfl, rfl, rfl, rfl, rfl, rfl, rfl, rfl, rfl, rfl, rfl, rfl, rfl, rfl, rfl, rfl, rfl, rfl, rfl, trivial⟩ (by repeat' constructor) ?_)))))
  rintro ⟨k, u2⟩ ⟨hk, au2, cu2, hu2⟩
  dsimp only
  dsimp only at hk hu2
  subst hu2
  have hoal : ((fireTo ω es i).2 ++ ((tellW (fireTo ω es i).1 e.1 e.2.1).take k).map fun x => (x, e)).length = (fireTo ω es i).2.length + k := by rw [List.length_append, List.length_map, List.length_take]; omega
  refine .sr (.ui rfl rfl rfl (.nt (.seq (.condD rfl (fun h72 => ?_) (fun h72 => ?_)))))
  ·have hk2 : k < (tellW (fireTo ω es i).1 e.1 e.2.1).length := by omega
   refine .slShape (v := .slice ac _ cc) (by repeat' constructor) (by omega) fun bc cc' e0 mc _ => ?_
   simp only [Value.slice.injEq, true_and] at e0
   obtain ⟨rfl, rfl⟩ := e0
   refine .sk (.seq (.block (.sr (.q (.indexAddr rfl rfl el_86 (by omega)) rfl (.q (.loadSl (v := vint (tellW (fireTo ω es i).1 e.1 e.2.1)[k]) (i := k * 1) rfl ag_3 (by repeat' constructor) (by simp [hk2])) rfl (.an rfl (.region (.m rfl (.m rfl (.q (.loadAs (vs := [vint e.1, vstr e.2.1, vint e.2.2]) rfl ag_50 (by repeat' constructor) (by simp) rfl) rfl (.q (.buildN (pl := [(0, 1), (1, 3)]) (us := [(0, vint (tellW (fireTo ω es i).1 e.1 e.2.1)[k]), (1, .agg ([vint e.1, vstr e.2.1, vint e.2.2] : List Value).toArray)]) (cells := [vint (tellW (fireTo ω es i).1 e.1 e.2.1)[k], vint e.1, vstr e.2.1, vint e.2.2]) Tryz.underlying127 (by kernel_rfl) ze_127 rfl rfl) rfl (.oq (.buildSlice (vs := [_]) el_124 ze_127 rfl rfl rfl rfl (by first | (simp [Value.cells]; done) | (intro v hv; simp only [List.mem_cons, List.not_mem_nil, or_false] at hv; (repeat (first | (subst hv; rfl) | (rcases hv with hv | hv; (subst hv; rfl)))))) (by decide)) ?_))))))))))))
   rintro v L' ⟨b26_4, rfl, rfl⟩
   refine .oq (.append1 rfl rfl rfl el_124 ze_127 rfl rfl ?c120 ?c121 (Nat.le_refl _) ?c122 (by decide)) ?_
   case c120 => (first | (simp [isCell]; done) | (simp [isCell, setAll, Value.cells]; done))
   case c121 => rfl
   case c122 => omega
   rintro v L' ⟨⟨a26_5, c26_5, rfl⟩, rfl⟩
   refine .a rfl (.nil (.blk_n (.then_n (.region (.q (.add rfl rfl (by omega)) rfl (.m rfl (.nt ?_)))))))
   have hstep : ((fireTo ω es i).2 ++ ((tellW (fireTo ω es i).1 e.1 e.2.1).take (k + 1)).map fun x => (x, e)) = ((fireTo ω es i).2 ++ ((tellW (fireTo ω es i).1 e.1 e.2.1).take k).map fun x => (x, e)) ++ [((tellW (fireTo ω es i).1 e.1 e.2.1)[k], e)] := by rw [List.take_succ_eq_append_getElem hk2, List.map_append, ← List.append_assoc]; rfl
   rw [show ((fireTo ω es i).2 ++ ((tellW (fireTo ω es i).1 e.1 e.2.1).take k).map fun x => (x, e)).flatMap tldC ++ (List.map (fun v => v.cells.toList) [Value.agg [vint (tellW (fireTo ω es i).1 e.1 e.2.1)[k], vint e.1, vstr e.2.1, vint e.2.2].toArray]).flatten = ((fireTo ω es i).2 ++ ((tellW (fireTo ω es i).1 e.1 e.2.1).take (k + 1)).map fun x => (x, e)).flatMap tldC by rw [hstep]; simp [tldC, Value.cells], show ((fireTo ω es i).2 ++ ((tellW (fireTo ω es i).1 e.1 e.2.1).take k).map fun x => (x, e)).length + 1 = ((fireTo ω es i).2 ++ ((tellW (fireTo ω es i).1 e.1 e.2.1).take (k + 1)).map fun x => (x, e)).length by rw [hstep, List.length_append (bs := [_])]; rfl]
   exact .rk ((k + 1, .slice a26_5 ((fireTo ω es i).2 ++ ((tellW (fireTo ω es i).1 e.1 e.2.1).take (k + 1)).map fun x => (x, e)).length c26_5)) (⟨by dsimp only; omega, _, _, rfl⟩) (by dsimp only; omega) ⟨rfl, rfl, rfl, rfl, rfl, rfl, rfl, rfl, rfl, rfl, rfl, rfl, rfl, rfl, rfl, rfl, rfl, rfl, rfl, rfl, rfl, rfl, trivial⟩
  have hkk : k = (tellW (fireTo ω es i).1 e.1 e.2.1).length := by omega
  rw [hkk, List.take_length]
  refine .tbCast (ω' := (fireTo ω es (i + 1)).1) (by repeat' constructor) (by rw [fire_succ hes]) (.slCast (T := 127) (sz := 4) (m' := (fireTo ω es (i + 1)).2.length) (xs' := (fireTo ω es (i + 1)).2.flatMap tldC) (by repeat' constructor) (by rw [fire_succ hes]) (by rw [fire_succ hes]) (.exit (.then_e (.then_e (.blk_e (.blk_n (.then_n (.region (.q (.add rfl rfl (by omega)) rfl (.m rfl (.nt ?_)))))))))))
  exact .rk ((i + 1, _)) (⟨by dsimp only; omega, _, _, by rw [fire_succ hes]⟩) (by dsimp only; omega) ⟨rfl, rfl, rfl, rfl, rfl, rfl, trivial⟩
 have hii : i = es.length := by omega
 subst hii
 refine .exit (.then_e (.then_e (.blk_e (.then_n (.sm rfl (.an rfl (.ret ?_)))))))
 exact .dn rfl rfl ⟨_, _, rfl, rfl⟩
abbrev Arm := Int × (Bs × (Int × (Int × Int)))
def armC (a : Arm) : List Value := [vint a.1, vstr a.2.1, vint a.2.2.1, vint a.2.2.2.1, vint a.2.2.2.2]
structure ArmsA (p : HP) (v : Value) (xs : List Arm) : Prop where
 cells : ∀ h : Hp, p h → rdS 5 h v xs.length (xs.flatMap armC)
 len : xs.length ≤ 1048576
 paths : ∀ a ∈ xs, a.2.1.length ≤ 1048576
/-! ### Structs compared -/
/-! ### The first example -/
/-! ### Gone -/
/-! ### Once -/
/-! ### Apart -/
def sinceZ (τ : Tr) (a : Arm) : Ev × Bool :=
 if a.1 = 2 then ((1, (a.2.1, (statD τ a.2.1).cz)), decide (thereT τ a.2.1))
 else if ¬ thereT τ a.2.1 ∨ (statD τ a.2.1).cz ≠ a.2.2.1 then ((2, (a.2.1, τ.zx)), true)
 else if a.1 = 3 then ((4, (a.2.1, (statD τ a.2.1).pz)), decide ((statD τ a.2.1).pz ≠ a.2.2.2.2))
 else ((3, (a.2.1, (statD τ a.2.1).mz)), decide ((statD τ a.2.1).mz ≠ a.2.2.2.1))
def armS (τ : Tr) (s : Int) (r : List Wt × List Ev) (a : Arm) : List Wt × List Ev :=
 if ¬ isWt a.1 a.2.1 then r else if (sinceZ τ a).2 = false then ((addW r.1 s a.1 a.2.1).1, r.2) else if (sinceZ τ a).1 ∈ r.2 then r else (r.1, r.2 ++ [(sinceZ τ a).1])
def armL (τ : Tr) (s : Int) (ω : List Wt) (l : List Arm) : List Wt × List Ev := l.foldl (armS τ s) (ω, [])
theorem armL_step (τ : Tr) (s : Int) (ω : List Wt) {l : List Arm} {i : Nat} (hi : i < l.length) : armL τ s ω (l.take (i + 1)) = armS τ s (armL τ s ω (l.take i)) l[i] := by
 unfold armL; rw [List.take_succ_eq_append_getElem hi, List.foldl_append]; rfl
theorem armS_len (τ : Tr) (s : Int) (r : List Wt × List Ev) (a : Arm) : (armS τ s r a).2.length ≤ r.2.length + 1 := by
 unfold armS
 split
 ·omega
 ·split
  ·show r.2.length ≤ _; omega
  ·split
   ·omega
   ·simp
theorem armL_len (τ : Tr) (s : Int) (ω : List Wt) (l : List Arm) : ∀ i, i ≤ l.length → (armL τ s ω (l.take i)).2.length ≤ i
 | 0, _ => by rw [List.take_zero]; exact Nat.le_refl _
 | i + 1, hi => by
  rw [armL_step τ s ω (by omega)]
  have h1 := armS_len τ s (armL τ s ω (l.take i)) l[i]
  have h2 := armL_len τ s ω l i (by omega)
  omega
theorem evidx_spec (xs : List Ev) (e : Ev) (v : Value) (h1 : xs.length ≤ 4611686018427387904) : Fn Tryz.prog 180 #[v, .agg (evC e).toArray] [slR 50 3 v xs.length (xs.flatMap evC)] fun r L => ∃ k : Int, r = vint k ∧ (0 ≤ k ↔ e ∈ xs) ∧ L = [slR 50 3 v xs.length (xs.flatMap evC)] := by
 refine Fn.intro Tryz.func180 rfl rfl fun F W => ?_
 refine .slAny (v := v) (by repeat' constructor) fun aa ca e0 _ => ?_
 subst e0
 refine .sr (.oq (.box rfl) ?_)
 rintro v L' ⟨b3, rfl, rfl⟩
 refine .a rfl (.nil (.ptCast (b := b3) (l' := evC e) (by repeat' constructor) rfl ?_))
 refine .then_n (.seq (.sm rfl (.q (.slen rfl Tryz.underlying47 rfl) rfl (.m rfl (.nt (.block (.loopK (ι := Nat) (fun q E => (8, vint q) :: E) (fun q => []) (fun q => q ≤ xs.length ∧ e ∉ xs.take q) (fun q => xs.length - q) (0) (ts := [0, 3, 7]) (.cons rfl (.cons rfl (.cons rfl (.nil)))) (⟨Nat.zero_le _, by simp⟩) ⟨rfl, rfl, rfl, rfl, trivial⟩ (by repeat' constructor) ?_)))))))
 rintro i ⟨hi, hno⟩
 refine .sr (.ui rfl rfl rfl (.nt (.seq (.condD rfl (fun h9 => ?_) (fun h9 => ?_)))))
 ·have hi2 : i < xs.length := by omega
  refine .slShape (v := .slice aa _ ca) (by repeat' constructor) (by omega) fun ba ba' e0 mba _ => ?_
  simp only [Value.slice.injEq, true_and] at e0
  obtain ⟨rfl, rfl⟩ := e0
  refine .sk (.seq (.block (.sm rfl (.an rfl (.seq (.draw [] [[0, 1, 2, 3, 4, 5]] mixed (by kernel_rfl) (.g0 (.kv rfl (.loadAs (vs := evC e) rfl ag_50 (by repeat' constructor) (by simp [evC]) rfl) (.mv rfl rfl (.mv rfl rfl (.kv rfl (.indexAddr rfl rfl el_47 (by omega)) (.kv rfl (.loadRdA (sz := 3) (j := i * 3) (k := 3) (p := slR 50 3 _ xs.length (xs.flatMap evC)) (vs := evC xs[i]) rfl ag_50 (by repeat' constructor) (fun h hp => slR_rd hp) (by simp) (by omega) (by omega) (flatMap_at (f := evC) (sz := 3) (fun _ _ => rfl) (by omega))) (.kv rfl (.structEq (r := decide (e = xs[i])) rfl rfl (by kernel_rfl) (ev_eq 9998 _ _)) (.pf (.condD rfl (fun h16 => ?_) (fun h16 => ?_))))))))))))))))
  ·refine .sm rfl (.an rfl (.ret (.blk_r (.then_r (.then_r (.blk_r (.then_r ?_)))))))
   exact .dn rfl rfl ⟨i, rfl, ⟨fun _ => by rw [h16]; exact List.getElem_mem hi2, fun _ => by omega⟩, rfl⟩
  refine .skip (.blk_n (.then_n (.region (.q (.add rfl rfl (by omega)) rfl (.m rfl (.nt ?_))))))
  exact .rk (i + 1) (⟨by omega, by rw [List.take_succ_eq_append_getElem hi2, List.mem_append, List.mem_singleton]; rintro (g | g); exact hno g; exact h16 g⟩) (by omega) ⟨rfl, rfl, rfl, rfl, trivial⟩
 refine .exit (.then_e (.then_e (.blk_e (.then_n (.sr (.an rfl (.ret ?_)))))))
 exact .dn rfl rfl ⟨-1, rfl, ⟨fun g => absurd g (by decide), fun g => absurd g (by have hii : i = xs.length := (by omega); rw [hii, List.take_length] at hno; exact hno)⟩, rfl⟩
theorem evhas_spec (xs : List Ev) (e : Ev) (v : Value) (h1 : xs.length ≤ 4611686018427387904) : Fn Tryz.prog 100 #[v, .agg (evC e).toArray] [slR 50 3 v xs.length (xs.flatMap evC)] fun r L => r = .bool (decide (e ∈ xs)) ∧ L = [slR 50 3 v xs.length (xs.flatMap evC)] := by
 refine Fn.intro Tryz.func100 rfl rfl fun F W => ?_
 refine .sr (.oq (.box rfl) ?_)
 rintro v L' ⟨b3, rfl, rfl⟩
 refine .a rfl (.nil (.ptCast (b := b3) (l' := evC e) (by repeat' constructor) rfl ?_))
 refine .then_n (.sm rfl (.q (.loadAs (vs := evC e) rfl ag_50 (by repeat' constructor) (by simp [evC]) rfl) rfl (.oq (.c Tryz.func180 [_, _] (evidx_spec xs e v h1)) ?_)))
 rintro r L' ⟨k, rfl, hk, rfl⟩
 refine .ui rfl rfl rfl (.an rfl (.ret ?_))
 exact .dn rfl rfl ⟨congrArg Value.bool (decide_eq_decide.2 hk), rfl⟩
theorem wsince_spec (t : Nat) (τ : Tr) (a : Arm) (N : Nat) (ho : τ.Ok N) (hN : N ≤ 1099511627776) : Fn Tryz.prog 99 #[vptr t, .agg (armC a).toArray] [treeR t τ] fun v L => v = .tuple #[.agg (evC (sinceZ τ a).1).toArray, .bool (sinceZ τ a).2] ∧ L = [treeR t τ] := by
 refine Fn.intro Tryz.func99 rfl rfl fun F W => ?_
 refine .sr (.oq (.box rfl) ?_)
 rintro v L' ⟨b3, rfl, rfl⟩
 refine .oq (.allocA ze_50) ?_
 rintro v L' ⟨b4, rfl, rfl⟩
 refine .a rfl (.nil (.ptCast (b := b3) (l' := armC a) (by repeat' constructor) rfl ?_))
 refine .then_n (.sr ?_)
 rcases Decidable.em (thereT τ a.2.1) with hth | hth
 ·refine .m rfl (.u (.fieldAddr rfl fo_186_1) (.u (.ld rfl ag_9) (.oq (.c Tryz.func76 [_, _] (trstat_spec t τ a.2.1 N ho (by omega))) ?_)))
  rintro v L' ⟨rfl, rfl⟩; rw [decide_eq_true hth]
  refine .m rfl (.u (.extract rfl rfl) (.u (.extract rfl rfl) (.oq (.allocA ze_37) ?_)))
  rintro v L' ⟨b6, rfl, rfl⟩
  refine .sa rfl rfl sz_37 (by simp [stC, isCell]) ?_
  refine .a rfl (.nil (.ptCast (b := b6) (l' := stC (statD τ a.2.1)) (by repeat' constructor) rfl ?_))
  refine .then_n (.sr (.u (.fieldAddr rfl fo_186_1) (.u (.ld rfl ag_9) (.q (.to (v' := .agg (evC ((0, (a.2.1, 0)) : Ev)).toArray) (.build (us := [(1, _)]) fl_50 ze_50 rfl rfl (by simp [isCell])) rfl) rfl (.oq (.allocA ze_50) ?_)))))
  rintro v L' ⟨b8, rfl, rfl⟩
  refine .sa rfl rfl sz_50 (by simp [evC, isCell]) ?_
  refine .nil (.ptCast (b := b8) (l' := [vint 0, vstr a.2.1, vint 0]) (by repeat' constructor) rfl ?_)
  refine .then_n (.sr (.an rfl (.seq (.block (.sr (.u (.fieldAddr rfl fo_186_0) (.u (.ld rfl ag_3) (.ui rfl rfl rfl (.an rfl (.condD rfl (fun h29 => ?_) (fun h29 => ?_)))))))))))
  ·refine .draw [4, 6] [[0, 1, 2, 3, 4, 5, 6], [7]] mixed (by kernel_rfl) (.go [ptc b6 _ _] (by repeat' constructor) (.k rfl (.fieldAddr rfl fo_37_0) (.k rfl (.ld rfl ag_3) (.k rfl (.move rfl) (.kv rfl (.fieldAddr rfl fo_50_0) (.hh rfl (.store rfl rfl rfl sz_3 ?c37 (nfz0 _ _)) ?_))))))
   case c37 => first | decide | (simp; omega) | simp
   rintro v L' rfl
   refine D.kv rfl (.fieldAddr rfl fo_50_2) (.hh rfl (.store rfl rfl rfl sz_3 ?c41 (nfz0 _ _)) ?_)
   case c41 => first | decide | (simp; omega) | simp
   rintro v L' rfl
   refine D.ph (.g0 (.kv rfl (.assign rfl) (.ph (.fin (.blk_n (.then_n (.sr (.q (.loadA rfl ag_50 (by repeat' constructor) (by simp)) rfl (.m rfl (.sa rfl rfl sz_50 (by simp [evC, isCell]) ?_))))))))))
   refine .an rfl (.ret ?_)
   have hz : sinceZ τ a = ((1, (a.2.1, (statD τ a.2.1).cz)), true) := by unfold sinceZ; rw [if_pos h29, decide_eq_true hth]
   rw [hz]
   refine .pc b4 (evC ((1, (a.2.1, (statD τ a.2.1).cz)), true).1) ?_
   exact .d2 rfl (.cellA rfl ag_50 (by repeat' constructor) (by simp [evC]) rfl) (.tmp rfl) ⟨rfl, rfl⟩
  refine .sm rfl (.u (.not rfl) (.m rfl (.grun (t := 41) rfl rfl rfl (.u (.fieldAddr rfl fo_37_0) (.grun (t := 41) rfl rfl rfl (.u (.ld rfl ag_3) (.grun (t := 41) rfl rfl rfl (.u (.fieldAddr rfl fo_186_2) (.grun (t := 41) rfl rfl rfl (.u (.ld rfl ag_3) (.grun (t := 41) rfl rfl rfl (.ui rfl rfl rfl (.u (.pickF rfl rfl) (.an rfl (.condN rfl (fun h38 => ?_) (fun h38 => ?_))))))))))))))))
  ·refine .region (.m rfl (.cv Tryz.func29 [_] (trzxid_spec t τ) ?_))
   refine .u (.fieldAddr rfl fo_50_0) (.st rfl rfl rfl sz_3 ?_)
   refine .u (.fieldAddr rfl fo_50_2) (.st rfl rfl rfl sz_3 ?_)
   refine .a rfl (.nil (.blk_n (.then_n (.sr (.q (.loadA rfl ag_50 (by repeat' constructor) (by simp)) rfl (.m rfl (.sa rfl rfl sz_50 (by simp [evC, isCell]) ?_)))))))
   refine .an rfl (.ret ?_)
   have hz : sinceZ τ a = ((2, (a.2.1, τ.zx)), true) := by unfold sinceZ; rw [if_neg h29, if_pos (by first | exact .inl hth | exact .inr h38 | exact .inr (by simpa using h38))]
   rw [hz]
   refine .pc b4 (evC ((2, (a.2.1, τ.zx)), true).1) ?_
   exact .d2 rfl (.cellA rfl ag_50 (by repeat' constructor) (by simp [evC]) rfl) (.tmp rfl) ⟨rfl, rfl⟩
  refine .sr (.u (.fieldAddr rfl fo_186_0) (.u (.ld rfl ag_3) (.ui rfl rfl rfl (.an rfl (.condD rfl (fun h52 => ?_) (fun h52 => ?_))))))
  ·refine .draw [8, 10] [[0, 1, 2, 3, 4, 5, 6, 7, 8, 9, 10], [11]] mixed (by kernel_rfl) (.go [ptc b6 _ _, ptc b3 _ _] (by repeat' constructor) (.k rfl (.fieldAddr rfl fo_37_2) (.k rfl (.ld rfl ag_3) (.k rfl (.fieldAddr rfl fo_37_2) (.k rfl (.ld rfl ag_3) (.k rfl (.fieldAddr rfl fo_186_4) (.k rfl (.ld rfl ag_3) (.k rfl (.int rfl rfl rfl) (.kv rfl (.fieldAddr rfl fo_50_0) (.hh rfl (.store rfl rfl rfl sz_3 ?c85 (nfz0 _ _)) ?_))))))))))
   case c85 => first | decide | (simp; omega) | simp
   rintro v L' rfl
   refine D.kv rfl (.fieldAddr rfl fo_50_2) (.hh rfl (.store rfl rfl rfl sz_3 ?c89 (nfz0 _ _)) ?_)
   case c89 => first | decide | (simp; omega) | simp
   rintro v L' rfl
   refine D.ph (.g0 (.kv rfl (.assign rfl) (.ph (.fin (.blk_n (.then_n (.sr (.q (.loadA rfl ag_50 (by repeat' constructor) (by simp)) rfl (.m rfl (.sa rfl rfl sz_50 (by simp [evC, isCell]) ?_))))))))))
   refine .an rfl (.ret ?_)
   have hz : sinceZ τ a = ((4, (a.2.1, (statD τ a.2.1).pz)), !decide ((statD τ a.2.1).pz = a.2.2.2.2)) := by unfold sinceZ; rw [if_neg h29, if_neg (by rintro (g | g); exact g hth; exact g h38), if_pos h52, decide_not]
   rw [hz]
   refine .pc b4 (evC ((4, (a.2.1, (statD τ a.2.1).pz)), !decide ((statD τ a.2.1).pz = a.2.2.2.2)).1) ?_
   exact .d2 rfl (.cellA rfl ag_50 (by repeat' constructor) (by simp [evC]) rfl) (.tmp rfl) ⟨rfl, rfl⟩
  refine .draw [8, 10] [[0, 1, 2, 3, 4, 5, 6, 7, 8, 9, 10], [11]] mixed (by kernel_rfl) (.go [ptc b6 _ _, ptc b3 _ _] (by repeat' constructor) (.k rfl (.fieldAddr rfl fo_37_1) (.k rfl (.ld rfl ag_3) (.k rfl (.fieldAddr rfl fo_37_1) (.k rfl (.ld rfl ag_3) (.k rfl (.fieldAddr rfl fo_186_3) (.k rfl (.ld rfl ag_3) (.k rfl (.int rfl rfl rfl) (.kv rfl (.fieldAddr rfl fo_50_0) (.hh rfl (.store rfl rfl rfl sz_3 ?c106 (nfz0 _ _)) ?_))))))))))
  case c106 => first | decide | (simp; omega) | simp
  rintro v L' rfl
  refine D.kv rfl (.fieldAddr rfl fo_50_2) (.hh rfl (.store rfl rfl rfl sz_3 ?c110 (nfz0 _ _)) ?_)
  case c110 => first | decide | (simp; omega) | simp
  rintro v L' rfl
  refine D.ph (.g0 (.kv rfl (.assign rfl) (.ph (.fin (.blk_n (.then_n (.sr (.q (.loadA rfl ag_50 (by repeat' constructor) (by simp)) rfl (.m rfl (.sa rfl rfl sz_50 (by simp [evC, isCell]) ?_))))))))))
  refine .an rfl (.ret ?_)
  have hz : sinceZ τ a = ((3, (a.2.1, (statD τ a.2.1).mz)), !decide ((statD τ a.2.1).mz = a.2.2.2.1)) := by unfold sinceZ; rw [if_neg h29, if_neg (by rintro (g | g); exact g hth; exact g h38), if_neg h52, decide_not]
  rw [hz]
  refine .pc b4 (evC ((3, (a.2.1, (statD τ a.2.1).mz)), !decide ((statD τ a.2.1).mz = a.2.2.2.1)).1) ?_
  exact .d2 rfl (.cellA rfl ag_50 (by repeat' constructor) (by simp [evC]) rfl) (.tmp rfl) ⟨rfl, rfl⟩
 refine .m rfl (.u (.fieldAddr rfl fo_186_1) (.u (.ld rfl ag_9) (.oq (.c Tryz.func76 [_, _] (trstat_spec t τ a.2.1 N ho (by omega))) ?_)))
 rintro v L' ⟨rfl, rfl⟩; rw [decide_eq_false hth]
 refine .m rfl (.u (.extract rfl rfl) (.u (.extract rfl rfl) (.oq (.allocA ze_37) ?_)))
 rintro v L' ⟨b6, rfl, rfl⟩
 refine .sa rfl rfl sz_37 (by simp [stC, isCell]) ?_
 refine .a rfl (.nil (.ptCast (b := b6) (l' := stC (statD τ a.2.1)) (by repeat' constructor) rfl ?_))
 refine .then_n (.sr (.u (.fieldAddr rfl fo_186_1) (.u (.ld rfl ag_9) (.q (.to (v' := .agg (evC ((0, (a.2.1, 0)) : Ev)).toArray) (.build (us := [(1, _)]) fl_50 ze_50 rfl rfl (by simp [isCell])) rfl) rfl (.oq (.allocA ze_50) ?_)))))
 rintro v L' ⟨b8, rfl, rfl⟩
 refine .sa rfl rfl sz_50 (by simp [evC, isCell]) ?_
 refine .nil (.ptCast (b := b8) (l' := [vint 0, vstr a.2.1, vint 0]) (by repeat' constructor) rfl ?_)
 refine .then_n (.sr (.an rfl (.seq (.block (.sr (.u (.fieldAddr rfl fo_186_0) (.u (.ld rfl ag_3) (.ui rfl rfl rfl (.an rfl (.condD rfl (fun h29 => ?_) (fun h29 => ?_)))))))))))
 ·refine .draw [4, 6] [[0, 1, 2, 3, 4, 5, 6], [7]] mixed (by kernel_rfl) (.go [ptc b6 _ _] (by repeat' constructor) (.k rfl (.fieldAddr rfl fo_37_0) (.k rfl (.ld rfl ag_3) (.k rfl (.move rfl) (.kv rfl (.fieldAddr rfl fo_50_0) (.hh rfl (.store rfl rfl rfl sz_3 ?c150 (nfz0 _ _)) ?_))))))
  case c150 => first | decide | (simp; omega) | simp
  rintro v L' rfl
  refine D.kv rfl (.fieldAddr rfl fo_50_2) (.hh rfl (.store rfl rfl rfl sz_3 ?c154 (nfz0 _ _)) ?_)
  case c154 => first | decide | (simp; omega) | simp
  rintro v L' rfl
  refine D.ph (.g0 (.kv rfl (.assign rfl) (.ph (.fin (.blk_n (.then_n (.sr (.q (.loadA rfl ag_50 (by repeat' constructor) (by simp)) rfl (.m rfl (.sa rfl rfl sz_50 (by simp [evC, isCell]) ?_))))))))))
  refine .an rfl (.ret ?_)
  have hz : sinceZ τ a = ((1, (a.2.1, (statD τ a.2.1).cz)), false) := by unfold sinceZ; rw [if_pos h29, decide_eq_false hth]
  rw [hz]
  refine .pc b4 (evC ((1, (a.2.1, (statD τ a.2.1).cz)), false).1) ?_
  exact .d2 rfl (.cellA rfl ag_50 (by repeat' constructor) (by simp [evC]) rfl) (.tmp rfl) ⟨rfl, rfl⟩
 refine .sm rfl (.u (.not rfl) (.m rfl (.gk (.gk (.gk (.gk (.gk (.u (.pickT rfl rfl) (.an rfl (.condT rfl (.region (.m rfl (.cv Tryz.func29 [_] (trzxid_spec t τ) ?_)))))))))))))
 refine .u (.fieldAddr rfl fo_50_0) (.st rfl rfl rfl sz_3 ?_)
 refine .u (.fieldAddr rfl fo_50_2) (.st rfl rfl rfl sz_3 ?_)
 refine .a rfl (.nil (.blk_n (.then_n (.sr (.q (.loadA rfl ag_50 (by repeat' constructor) (by simp)) rfl (.m rfl (.sa rfl rfl sz_50 (by simp [evC, isCell]) ?_)))))))
 refine .an rfl (.ret ?_)
 have hz : sinceZ τ a = ((2, (a.2.1, τ.zx)), true) := by unfold sinceZ; rw [if_neg h29, if_pos (by first | exact .inl hth | exact .inr h38 | exact .inr (by simpa using h38))]
 rw [hz]
 refine .pc b4 (evC ((2, (a.2.1, τ.zx)), true).1) ?_
 exact .d2 rfl (.cellA rfl ag_50 (by repeat' constructor) (by simp [evC]) rfl) (.tmp rfl) ⟨rfl, rfl⟩
theorem warm_spec (t u : Nat) (ω : List Wt) (τ : Tr) (s : Int) (va : Value) (l : List Arm) (p : HP) (hl : ArmsA p va l) (N : Nat) (ho : τ.Ok N) (hN : N ≤ 1099511627776) (h1 : 1 ≤ s) (hs : s ≤ 9223372036854775807) : Fn Tryz.prog 54 #[vptr t, vint s, vptr u, va] [tbR t ω, treeR u τ, p] fun v L => ∃ a c, v = .slice a (armL τ s ω l).2.length c ∧ L = [tbR t (armL τ s ω l).1, treeR u τ, p, slR 50 3 v (armL τ s ω l).2.length ((armL τ s ω l).2.flatMap evC)] := by
 refine Fn.intro Tryz.func54 rfl rfl fun F W => ?_
 refine .rdAny (p := p) hl.cells (by repeat' constructor) fun aa ca e0 _ => ?_
 subst e0
 have hll := hl.len
 refine .sr (.an rfl (.seq (.sm rfl (.q (.as (v' := .bool false) (by simp; omega) (.int rfl rfl rfl)) rfl (.m rfl (.grun (t := 16) rfl rfl rfl (.m rfl (.grun (t := 16) rfl rfl rfl (.q (.as (v' := .bool false) (by rfl) (.ptreq rfl rfl Tryz.underlying76)) rfl (.u (.pickF rfl rfl) (.nt (.condF rfl (.sk (.seq (.add (slR_nil 50 3) (.region (.an rfl (.seq (.sm rfl (.q (.slen rfl Tryz.underlying31 rfl) rfl (.m rfl (.nt (.block (.tbCast (t := t) (ω' := (armL τ s ω (l.take 0)).1) (by repeat' constructor) (by rw [List.take_zero]; rfl) (.loopK (ι := Nat × Value) (fun q E => (22, vint q.1) :: (9, q.2) :: E) (fun q => [tbR t (armL τ s ω (l.take q.1)).1, slR 50 3 q.2 (armL τ s ω (l.take q.1)).2.length ((armL τ s ω (l.take q.1)).2.flatMap evC)]) (fun q => q.1 ≤ l.length ∧ ∃ a c, q.2 = .slice a (armL τ s ω (l.take q.1)).2.length c) (fun q => l.length - q.1) (0, .slice none 0 0) (ts := [0, 1, 2, 8, 20, 21]) (.cons rfl (.cons rfl (.cons rfl (.cons rfl (.cons rfl (.cons rfl (.nil))))))) (⟨Nat.zero_le _, none, 0, rfl⟩) ⟨rfl, rfl, rfl, rfl, rfl, rfl, rfl, rfl, trivial⟩ (by repeat' constructor) ?_)))))))))))))))))))))))))
 rintro ⟨i, w⟩ ⟨hi, au, cu, hw⟩
 dsimp only
 dsimp only at hi hw
 subst hw
 have hal := armL_len τ s ω l i hi
 refine .sr (.ui rfl rfl rfl (.nt (.seq (.condD rfl (fun h23 => ?_) (fun h23 => ?_)))))
 ·have hi2 : i < l.length := by omega
  have hp1 := hl.paths _ (List.getElem_mem hi2)
  refine .rdShape (p := p) hl.cells (by repeat' constructor) (by omega) fun bl ol e1 => ?_
  subst e1
  refine .sk (.seq (.block (.sr (.q (.indexAddr rfl rfl el_31 (by omega)) rfl (.q (.loadRdA (sz := 5) (j := i * 5) (k := 5) (p := p) (vs := armC l[i]) rfl ag_186 (by repeat' constructor) hl.cells (by simp) (by omega) (by omega) (flatMap_at (f := armC) (sz := 5) (fun _ _ => rfl) (by omega))) rfl (.oq (.allocA ze_186) ?_))))))
  rintro v L' ⟨b11, rfl, rfl⟩
  refine .sa rfl rfl sz_186 (by simp [armC, isCell]) ?_
  refine .nil (.pc b11 (armC l[i]) ?_)
  refine .then_n (.seq (.sr (.u (.fieldAddr rfl fo_186_0) (.u (.ld rfl ag_3) (.u (.fieldAddr rfl fo_186_1) (.u (.ld rfl ag_9) (.cv Tryz.func98 [_, _] (wis_spec l[i].1 l[i].2.1 hp1) ?_)))))))
  refine .u (.not rfl) (.nt (.condB rfl (fun h31 => ?_) (fun h31 => ?_)))
  ·have h31 : ¬ isWt l[i].1 l[i].2.1 := by simpa using h31
   refine .exit (.then_e (.blk_e (.then_n (.region (.q (.add rfl rfl (by omega)) rfl (.m rfl (.nt ?_)))))))
   have hA : (armL τ s ω (l.take (i + 1))) = (armL τ s ω (l.take i)) := by rw [armL_step τ s ω hi2]; unfold armS; rw [if_pos h31]
   refine .tbCast (t := t) (ω' := (armL τ s ω (l.take (i + 1))).1) (by repeat' constructor) (by rw [hA]) ?_
   rw [show (armL τ s ω (l.take i)).2.length = (armL τ s ω (l.take (i + 1))).2.length by rw [hA]]
   refine .slCast (T := 50) (sz := 3) (m' := (armL τ s ω (l.take (i + 1))).2.length) (xs' := (armL τ s ω (l.take (i + 1))).2.flatMap evC) (by repeat' constructor) (by exact rfl) (by rw [hA]) ?_
   exact .rk ((i + 1, .slice au (armL τ s ω (l.take (i + 1))).2.length cu)) (⟨by dsimp only; omega, _, _, rfl⟩) (by dsimp only; omega) ⟨rfl, rfl, rfl, rfl, rfl, rfl, rfl, rfl, trivial⟩
  have h31 : isWt l[i].1 l[i].2.1 := by simpa using h31
  refine .sk (.sm rfl (.q (.loadAs (vs := armC l[i]) rfl ag_186 (by repeat' constructor) (by simp [armC]) rfl) rfl (.cv Tryz.func99 [_, _] (wsince_spec u τ l[i] N ho hN) ?_)))
  refine .m rfl (.u (.extract rfl rfl) (.u (.extract rfl rfl) (.oq (.allocA ze_50) ?_)))
  rintro v L' ⟨b12, rfl, rfl⟩
  refine .sa rfl rfl sz_50 (by simp [evC, isCell]) ?_
  refine .a rfl (.nil (.pc b12 (evC (sinceZ τ l[i]).1) ?_))
  refine .then_n (.block (.sm rfl (.u (.not rfl) (.an rfl (.condB rfl (fun h38 => ?_) (fun h38 => ?_))))))
  ·have h38 : (sinceZ τ l[i]).2 = false := by simpa using h38
   refine .region (.m rfl (.m rfl (.u (.fieldAddr rfl fo_186_0) (.u (.ld rfl ag_3) (.u (.fieldAddr rfl fo_186_1) (.u (.ld rfl ag_9) (.cv Tryz.func57 [_, _, _, _] (wadd_spec t (armL τ s ω (l.take i)).1 s l[i].1 l[i].2.1 hs hp1) ?_)))))))
   refine .nil (.blk_n (.blk_n (.then_n (.region (.q (.add rfl rfl (by omega)) rfl (.m rfl (.nt ?_)))))))
   have hA : (armL τ s ω (l.take (i + 1))) = ((addW (armL τ s ω (l.take i)).1 s l[i].1 l[i].2.1).1, (armL τ s ω (l.take i)).2) := by rw [armL_step τ s ω hi2]; unfold armS; rw [if_neg (fun g => g h31), if_pos h38]
   refine .tbCast (t := t) (ω' := (armL τ s ω (l.take (i + 1))).1) (by repeat' constructor) (by rw [hA]) ?_
   rw [show (armL τ s ω (l.take i)).2.length = (armL τ s ω (l.take (i + 1))).2.length by rw [hA]]
   refine .slCast (T := 50) (sz := 3) (m' := (armL τ s ω (l.take (i + 1))).2.length) (xs' := (armL τ s ω (l.take (i + 1))).2.flatMap evC) (by repeat' constructor) (by exact rfl) (by rw [hA]) ?_
   exact .rk ((i + 1, .slice au (armL τ s ω (l.take (i + 1))).2.length cu)) (⟨by dsimp only; omega, _, _, rfl⟩) (by dsimp only; omega) ⟨rfl, rfl, rfl, rfl, rfl, rfl, rfl, rfl, trivial⟩
  have h38 : (sinceZ τ l[i]).2 = true := by simpa using h38
  refine .sm rfl (.q (.loadAs (vs := evC (sinceZ τ l[i]).1) rfl ag_50 (by repeat' constructor) (by simp [evC]) rfl) rfl (.oq (.call Tryz.func100 rfl rfl (vs := [_, _]) rfl (evhas_spec (armL τ s ω (l.take i)).2 (sinceZ τ l[i]).1 _ (by omega))) ?_))
  rintro v L' ⟨rfl, rfl⟩
  refine .u (.not rfl) (.an rfl (.condB rfl (fun h48 => ?_) (fun h48 => ?_)))
  ·have h48 : ¬ (sinceZ τ l[i]).1 ∈ (armL τ s ω (l.take i)).2 := by simpa using h48
   refine .region (.m rfl (.q (.loadAs (vs := evC (sinceZ τ l[i]).1) rfl ag_50 (by repeat' constructor) (by simp [evC]) rfl) rfl (.oq (.buildSlice (vs := [_]) el_47 ze_50 rfl rfl rfl rfl (by first | (simp [Value.cells]; done) | (intro v hv; simp only [List.mem_cons, List.not_mem_nil, or_false] at hv; (repeat (first | (subst hv; rfl) | (rcases hv with hv | hv; (subst hv; rfl)))))) (by decide)) ?_)))
   rintro v L' ⟨b13, rfl, rfl⟩
   refine .oq (.append1 rfl rfl rfl el_47 ze_50 rfl rfl ?c60 ?c61 (Nat.le_refl _) ?c62 (by decide)) ?_
   case c60 => simp only [List.map_cons, List.map_nil, List.flatten_cons, List.flatten_nil, List.append_nil]; simp [Value.cells, evC, isCell]
   case c61 => rfl
   case c62 => omega
   rintro v L' ⟨⟨a12_3, c12_3, rfl⟩, rfl⟩
   refine .a rfl (.nil (.blk_n (.blk_n (.then_n (.region (.q (.add rfl rfl (by omega)) rfl (.m rfl (.nt ?_))))))))
   have hA : (armL τ s ω (l.take (i + 1))) = ((armL τ s ω (l.take i)).1, (armL τ s ω (l.take i)).2 ++ [(sinceZ τ l[i]).1]) := by rw [armL_step τ s ω hi2]; unfold armS; rw [if_neg (fun g => g h31), if_neg (by rw [h38]; decide), if_neg h48]
   refine .tbCast (t := t) (ω' := (armL τ s ω (l.take (i + 1))).1) (by repeat' constructor) (by rw [hA]) ?_
   rw [show (armL τ s ω (l.take i)).2.length + 1 = (armL τ s ω (l.take (i + 1))).2.length by rw [hA]; simp]
   refine .slCast (T := 50) (sz := 3) (m' := (armL τ s ω (l.take (i + 1))).2.length) (xs' := (armL τ s ω (l.take (i + 1))).2.flatMap evC) (by repeat' constructor) (by exact rfl) (by rw [hA]; rw [List.flatMap_append]; simp [Value.cells, evC]) ?_
   exact .rk ((i + 1, .slice a12_3 (armL τ s ω (l.take (i + 1))).2.length c12_3)) (⟨by dsimp only; omega, _, _, rfl⟩) (by dsimp only; omega) ⟨rfl, rfl, rfl, rfl, rfl, rfl, rfl, rfl, trivial⟩
  have h48 : (sinceZ τ l[i]).1 ∈ (armL τ s ω (l.take i)).2 := by simpa using h48
  refine .skip (.blk_n (.blk_n (.then_n (.region (.q (.add rfl rfl (by omega)) rfl (.m rfl (.nt ?_)))))))
  have hA : (armL τ s ω (l.take (i + 1))) = (armL τ s ω (l.take i)) := by rw [armL_step τ s ω hi2]; unfold armS; rw [if_neg (fun g => g h31), if_neg (by rw [h38]; decide), if_pos h48]
  refine .tbCast (t := t) (ω' := (armL τ s ω (l.take (i + 1))).1) (by repeat' constructor) (by rw [hA]) ?_
  rw [show (armL τ s ω (l.take i)).2.length = (armL τ s ω (l.take (i + 1))).2.length by rw [hA]]
  refine .slCast (T := 50) (sz := 3) (m' := (armL τ s ω (l.take (i + 1))).2.length) (xs' := (armL τ s ω (l.take (i + 1))).2.flatMap evC) (by repeat' constructor) (by exact rfl) (by rw [hA]) ?_
  exact .rk ((i + 1, .slice au (armL τ s ω (l.take (i + 1))).2.length cu)) (⟨by dsimp only; omega, _, _, rfl⟩) (by dsimp only; omega) ⟨rfl, rfl, rfl, rfl, rfl, rfl, rfl, rfl, trivial⟩
 have hii : i = l.length := by omega
 rw [hii, List.take_length]
 refine .exit (.then_e (.then_e (.blk_e (.then_n (.sm rfl (.an rfl (.ret ?_)))))))
 exact .dn rfl rfl ⟨_, _, rfl, rfl⟩
/-! ### Maps of slices -/
abbrev Sm (α : Type) := List (Int × (Value × List α))
def smAt {α : Type} (m : Sm α) (s : Int) : Value × List α := (alook m s).getD (nilV, [])
def smE {α : Type} (x : Value × List α) : Value := x.1
def smM {α : Type} (m : Sm α) : List (Value × Value) := m.map fun x => (vint x.1, smE x.2)
theorem smAt_some {α : Type} {m : Sm α} {s : Int} (b : Value × List α) (h : alook m s = some b) : smE b = (smAt m s).1 := by unfold smAt smE; rw [h]; rfl
theorem smAt_none {α : Type} {m : Sm α} {s : Int} (h : alook m s = none) : Value.slice none 0 0 = (smAt m s).1 := by unfold smAt; rw [h]; rfl
theorem smAt_set {α : Type} (m : Sm α) (s : Int) (w : Value × List α) (x : Int) : smAt (aset m s w) x = if x = s then w else smAt m x := by
 unfold smAt; rw [al_aset]; split <;> rfl
theorem smAt_del {α : Type} {m : Sm α} (hn : (m.map (·.1)).Nodup) (s x : Int) : smAt (adel m s) x = if x = s then (nilV, []) else smAt m x := by
 unfold smAt; rw [al_adel hn]; split <;> rfl
def setF {β : Type} (f : Int → β) (s : Int) (v : β) : Int → β := fun x => if x = s then v else f x
theorem smAt_setF {α : Type} {m : Sm α} {f : Int → List α} (h : ∀ x, f x = (smAt m x).2) (s : Int) (w : Value × List α) (x : Int) : setF f s w.2 x = (smAt (aset m s w) x).2 := by
 unfold setF; rw [smAt_set]; split
 ·rfl
 ·exact h x
theorem smAt_delF {α : Type} {m : Sm α} (hn : (m.map (·.1)).Nodup) {f : Int → List α} (h : ∀ x, f x = (smAt m x).2) (s : Int) (x : Int) : setF f s [] x = (smAt (adel m s) x).2 := by
 unfold setF; rw [smAt_del hn]; split
 ·rfl
 ·exact h x
def idR (x : Int × (Value × List Bs)) : HP := slR 9 1 x.2.1 x.2.2.length (strs x.2.2)
def evR (x : Int × (Value × List Ev)) : HP := slR 50 3 x.2.1 x.2.2.length (x.2.2.flatMap evC)
theorem idR_nil (s : Int) (h : Hp) : idR (s, (nilV, [])) h := slR_nil _ _ h
theorem evR_nil (s : Int) (h : Hp) : evR (s, (nilV, [])) h := slR_nil _ _ h
section
variable {P : Program} {W : World} {n : Nat} {ds : List Deferred} {E : Env} {L R : List HP} {X : Act → World → Prop} {α : Type} {f : Int × (Value × List α) → HP} {m : Sm α}
theorem G.smTake (s : Int) (h0 : ∀ h, f (s, (nilV, [])) h) (hL : Pick (bigR f m) L R) (h : G W n ds E (f (s, smAt m s) :: bigR f (adel m s) :: R) X) : G W n ds E L X := by
 rcases hb : alook m s with _ | b
 ·have e : smAt m s = (nilV, []) := by unfold smAt; rw [hb]; rfl
  rw [e, adel_none hb] at h
  exact G.focus hL (G.add h0 h)
 ·have e : smAt m s = b := by unfold smAt; rw [hb]; rfl
  rw [e] at h
  exact G.bigTake hb hL h
theorem G.smBack (s : Int) {p : HP} (hp : p = f (s, smAt m s)) (hL : Picks [p, bigR f (adel m s)] L R) (h : G W n ds E (bigR f m :: R) X) : G W n ds E L X := by
 subst hp
 refine G.fold hL (fun w hw => ?_) h
 rcases hb : alook m s with _ | b
 ·rw [adel_none hb] at hw
  obtain ⟨h1, h2, hd, a1, a2, hq, g1, g2, gd, b1, b2, hr, -⟩ := hw
  exact sep_mono (sep_mono hr b1) a2
 ·have e : smAt m s = b := by unfold smAt; rw [hb]; rfl
  rw [e] at hw
  have := big_put hw
  rwa [aset_self hb] at this
end
section
variable {P : Program} {W : World} {n : Nat} {ds : List Deferred} {E : Env} {L R : List HP} {X : Act → World → Prop}
theorem G.evTake {m : Sm Ev} (s : Int) (hL : Pick (bigR evR m) L R) (h : G W n ds E (slR 50 3 (smAt m s).1 (smAt m s).2.length ((smAt m s).2.flatMap evC) :: bigR evR (adel m s) :: R) X) : G W n ds E L X := G.smTake s (evR_nil s) hL h
theorem G.idTake {m : Sm Bs} (s : Int) (hL : Pick (bigR idR m) L R) (h : G W n ds E (slR 9 1 (smAt m s).1 (smAt m s).2.length (strs (smAt m s).2) :: bigR idR (adel m s) :: R) X) : G W n ds E L X := G.smTake s (idR_nil s) hL h
theorem G.idBack {m : Sm Bs} (s : Int) (hL : Picks [slR 9 1 (smAt m s).1 (smAt m s).2.length (strs (smAt m s).2), bigR idR (adel m s)] L R) (h : G W n ds E (bigR idR m :: R) X) : G W n ds E L X := G.smBack s rfl hL h
theorem G.evPut {m : Sm Ev} (s : Int) {v : Value} {k : Nat} {xs : List Value} (ys : List Ev) (hL : Picks [slR 50 3 v k xs, bigR evR (adel m s)] L R) (hk : k = ys.length) (hx : xs = ys.flatMap evC) (h : G W n ds E (bigR evR (aset m s (v, ys)) :: R) X) : G W n ds E L X := by
 subst hk; subst hx
 exact G.bigPut (f := evR) (m := m) s (v, ys) rfl hL h
theorem G.idPut {m : Sm Bs} (s : Int) {v : Value} {k : Nat} {xs : List Value} (ys : List Bs) (hL : Picks [slR 9 1 v k xs, bigR idR (adel m s)] L R) (hk : k = ys.length) (hx : xs = strs ys) (h : G W n ds E (bigR idR (aset m s (v, ys)) :: R) X) : G W n ds E L X := by
 subst hk; subst hx
 exact G.bigPut (f := idR) (m := m) s (v, ys) rfl hL h
end
/-! ### The service -/
theorem G.evTakeS {W : World} {n : Nat} {ds : List Deferred} {E : Env} {L R : List HP} {X : Act → World → Prop} {m : Sm Ev} (s : Int) (hL : Pick (bigR evR m) L R)
  (h : ∀ a c, (smAt m s).1 = .slice a (smAt m s).2.length c → G W n ds E (slR 50 3 (.slice a (smAt m s).2.length c) (smAt m s).2.length ((smAt m s).2.flatMap evC) :: bigR evR (adel m s) :: R) X) : G W n ds E L X := by
 refine G.evTake s hL (G.slAny .here fun a c e _ => ?_)
 have := h a c e
 rw [← e] at this
 exact this
theorem G.idTakeS {W : World} {n : Nat} {ds : List Deferred} {E : Env} {L R : List HP} {X : Act → World → Prop} {m : Sm Bs} (s : Int) (hL : Pick (bigR idR m) L R)
  (h : ∀ a c, (smAt m s).1 = .slice a (smAt m s).2.length c → G W n ds E (slR 9 1 (.slice a (smAt m s).2.length c) (smAt m s).2.length (strs (smAt m s).2) :: bigR idR (adel m s) :: R) X) : G W n ds E L X := by
 refine G.idTake s hL (G.slAny .here fun a c e _ => ?_)
 have := h a c e
 rw [← e] at this
 exact this
theorem G.forget {W : World} {n : Nat} {ds : List Deferred} {E : Env} {L : List HP} {X : Act → World → Prop} {p : HP} (h : G W n ds E L X) : G W n ds E (p :: L) X := fun a w he hk hs => h a w he hk hs.tail
theorem G.idPost {W : World} {n : Nat} {ds : List Deferred} {E : Env} {L R : List HP} {X : Act → World → Prop} {m m' : Sm Bs} {c : Prop} [Decidable c] {o : Int} (hm : m' = if c then adel m o else m) (hL : Pick (bigR idR m) L R) (h : G W n ds E (bigR idR m' :: R) X) : G W n ds E L X := by
 subst hm
 by_cases g : c
 ·rw [if_pos g] at h
  exact G.idTake o hL (G.forget h)
 ·rw [if_neg g] at h
  exact G.focus hL h
structure Pl where
 τ : Tr
 ω : List Wt
 ord : List En
 opened : Int
 ids : Int → List Bs
 ev : Int → List Ev
def newPl : Pl := ⟨newT, [], [], 0, fun _ => [], fun _ => []⟩
structure PlI (π : Pl) (mi : Sm Bs) (me : Sm Ev) : Prop where
 i1 : (mi.map (·.1)).Nodup
 e1 : (me.map (·.1)).Nodup
 i2 : ∀ s, π.ids s = (smAt mi s).2
 e2 : ∀ s, π.ev s = (smAt me s).2
structure PlK where
 t : Nat
 u : Nat
 rid : Nat
 rev : Nat
def plC (k : PlK) (ov : Value) (o : Int) : List Value := [vptr k.t, vptr k.u, ov, vint o, .map (some k.rid), .map (some k.rev)]
abbrev ordR (v : Value) (l : List En) : HP := slR 62 11 v l.length (l.flatMap enC)
structure PlX where
 ov : Value
 mi : Sm Bs
 me : Sm Ev
def plL (b : Nat) (k : PlK) (π : Pl) (x : PlX) : List HP := [ptc b (plC k x.ov π.opened) 85, treeR k.t π.τ, tbR k.u π.ω, ordR x.ov π.ord, bigR entR π.ord, mapR k.rid (smM x.mi), bigR idR x.mi, mapR k.rev (smM x.me), bigR evR x.me]
def plR (b : Nat) (k : PlK) (π : Pl) : HP := fun h => ∃ x : PlX, PlI π x.mi x.me ∧ sep (plL b k π x) h
section
variable {P : Program} {W : World} {n : Nat} {ds : List Deferred} {E : Env} {L R : List HP} {X : Act → World → Prop}
theorem G.plOpen {b : Nat} {k : PlK} {π : Pl} (hL : Pick (plR b k π) L R) (h : ∀ ov mi me, PlI π mi me → G W n ds E (ptc b (plC k ov π.opened) 85 :: treeR k.t π.τ :: tbR k.u π.ω :: ordR ov π.ord :: bigR entR π.ord :: mapR k.rid (smM mi) :: bigR idR mi :: mapR k.rev (smM me) :: bigR evR me :: R) X) : G W n ds E L X :=
 G.focus hL (G.open (q := fun x : PlX => plL b k π x) (φ := fun x : PlX => PlI π x.mi x.me) (fun _ hp => hp) fun x hI => h x.ov x.mi x.me hI)
theorem G.plFold {b : Nat} {k : PlK} (π : Pl) {ov : Value} {mi : Sm Bs} {me : Sm Ev} {τ : Tr} {ω : List Wt} {ord : List En} {l : List Value} {e1 e2 : List (Value × Value)} (hI : PlI π mi me)
  (hL : Picks [ptc b l 85, treeR k.t τ, tbR k.u ω, ordR ov ord, bigR entR ord, mapR k.rid e1, bigR idR mi, mapR k.rev e2, bigR evR me] L R) (hl : l = plC k ov π.opened) (h1 : τ = π.τ) (h2 : ω = π.ω) (h3 : ord = π.ord) (h4 : e1 = smM mi) (h5 : e2 = smM me)
  (h : G W n ds E (plR b k π :: R) X) : G W n ds E L X := by
 subst hl; subst h1; subst h2; subst h3; subst h4; subst h5
 exact G.fold hL (fun w hw => ⟨⟨ov, mi, me⟩, hI, hw⟩) h
end
def tellF (ev : Int → List Ev) (l : List Tld) : Int → List Ev := l.foldl (fun f x => setF f x.1 (f x.1 ++ [x.2])) ev
theorem tell_step (ev : Int → List Ev) {l : List Tld} {i : Nat} (h : i < l.length) : tellF ev (l.take (i + 1)) = setF (tellF ev (l.take i)) l[i].1 (tellF ev (l.take i) l[i].1 ++ [l[i].2]) := by
 unfold tellF
 rw [List.take_succ_eq_append_getElem h, List.foldl_append]; rfl
theorem tellF_len (ev : Int → List Ev) (l : List Tld) (s : Int) : (tellF ev l s).length ≤ (ev s).length + l.length := by
 have H : ∀ (l : List Tld) (f : Int → List Ev), ((l.foldl (fun f x => setF f x.1 (f x.1 ++ [x.2])) f) s).length ≤ (f s).length + l.length := by
  intro l
  induction l with
  | nil => intro f; exact Nat.le_refl _
  | cons x l ih =>
   intro f
   rw [List.foldl_cons]
   refine Nat.le_trans (ih _) ?_
   unfold setF
   split
   ·rename_i h; rw [h, List.length_append, List.length_cons, List.length_nil, List.length_cons]; omega
   ·rw [List.length_cons]; omega
 exact H l ev
def zxN (π : Pl) : Int := 4294967296 + (π.ord.length : Int) + 1
def entP (π : Pl) (s x : Int) (y : Pt) (ys : List Pt) : En := ⟨zxN π, s, x, y, ys⟩
def putP (π : Pl) (s x : Int) (y : Pt) (ys : List Pt) : Pl where
 τ := (applyZ π.τ (zxN π) y ys).1
 ω := if y.kind = 6 then dropW (fireL π.ω (applyZ π.τ (zxN π) y ys).2.1).1 y.own else (fireL π.ω (applyZ π.τ (zxN π) y ys).2.1).1
 ord := π.ord ++ [entP π s x y ys]
 opened := π.opened
 ids := if y.kind = 6 then setF π.ids y.own [] else π.ids
 ev := if y.kind = 6 then setF (tellF π.ev (fireL π.ω (applyZ π.τ (zxN π) y ys).2.1).2) y.own [] else tellF π.ev (fireL π.ω (applyZ π.τ (zxN π) y ys).2.1).2
theorem PlI.put {π : Pl} {mi : Sm Bs} {me0 me : Sm Ev} (h : PlI π mi me0) (s x : Int) (y : Pt) (ys : List Pt) (hn : (me.map (·.1)).Nodup) (hk : ¬ y.kind = 6) (he : ∀ i, tellF π.ev (fireL π.ω (applyZ π.τ (zxN π) y ys).2.1).2 i = (smAt me i).2) : PlI (putP π s x y ys) mi me := by
 refine ⟨h.i1, hn, fun i => ?_, fun i => ?_⟩
 ·show (if y.kind = 6 then setF π.ids y.own [] else π.ids) i = _
  rw [if_neg hk]; exact h.i2 i
 ·show (if y.kind = 6 then _ else tellF π.ev _) i = _
  rw [if_neg hk]; exact he i
theorem PlI.put6 {π : Pl} {mi : Sm Bs} {me0 me : Sm Ev} (h : PlI π mi me0) (s x : Int) (y : Pt) (ys : List Pt) (hn : (me.map (·.1)).Nodup) (hk : y.kind = 6) (he : ∀ i, tellF π.ev (fireL π.ω (applyZ π.τ (zxN π) y ys).2.1).2 i = (smAt me i).2) : PlI (putP π s x y ys) (adel mi y.own) (adel me y.own) := by
 refine ⟨nodup_adel h.i1 _, nodup_adel hn _, fun i => ?_, fun i => ?_⟩
 ·show (if y.kind = 6 then setF π.ids y.own [] else π.ids) i = _
  rw [if_pos hk]; exact smAt_delF h.i1 h.i2 _ i
 ·show (if y.kind = 6 then setF (tellF π.ev _) y.own [] else _) i = _
  rw [if_pos hk]; exact smAt_delF hn he _ i
theorem PlI.tell0 {π : Pl} {mi : Sm Bs} {me : Sm Ev} (h : PlI π mi me) (l : List Tld) : (me.map (·.1)).Nodup ∧ ∀ i, tellF π.ev (l.take 0) i = (smAt me i).2 := ⟨h.e1, fun i => by rw [List.take_zero]; exact h.e2 i⟩
theorem tell_at {f : Int → List Ev} {me : Sm Ev} {l : List Tld} {i : Nat} (hi : i < l.length) (hn : (me.map (·.1)).Nodup) (h : ∀ s, tellF f (l.take i) s = (smAt me s).2) (v : Value) :
  ((aset me l[i].1 (v, (smAt me l[i].1).2 ++ [l[i].2])).map (·.1)).Nodup ∧ ∀ s, tellF f (l.take (i + 1)) s = (smAt (aset me l[i].1 (v, (smAt me l[i].1).2 ++ [l[i].2])) s).2 := by
 refine ⟨nodup_aset hn _ _, fun s => ?_⟩
 rw [tell_step f hi, h]
 exact smAt_setF h _ (v, (smAt me l[i].1).2 ++ [l[i].2]) s
theorem app_ev (τ : Tr) (z : Int) (y : Pt) (ys : List Pt) : (applyZ τ z y ys).2.1.length ≤ 2 * (1 + ys.length) := by
 unfold applyZ
 dsimp only
 split
 ·exact Nat.zero_le _
 split
 ·have h1 := parts_ev (zxT τ z) z (ys.filter isDel)
  have h2 := List.length_filter_le isDel ys
  show (partsZ (zxT τ z) z (ys.filter isDel)).2.length ≤ _
  omega
 split
 ·have h1 := parts_ev (zxT τ z) z ys
  show (partsZ (zxT τ z) z ys).2.length ≤ _
  omega
 split
 ·exact Nat.zero_le _
 ·have h1 := part_ev (zxT τ z) y z
  show (partZ (zxT τ z) y z).2.length ≤ _
  omega
def laidZ (r : Rq) (e : Int) : Int :=
 if r.watch = false then 0 else if r.kind = 10 ∧ e = 60 then 2 else if e ≠ 0 then 0 else if r.kind = 9 ∨ r.kind = 10 then 1 else if r.kind = 11 then 3 else 0
theorem fill_p0123 (a b c : Int) (s0 s1 s2 s3 s4 s5 s6 s7 : Value) : Instr.fill (fun i => [(0, 1), (1, 1), (2, 1), (3, 8)].toArray[i]?) (([.int .i64 0, .int .i64 0, .int .i64 0, .int .i64 0, .string (bs []), .string (bs []), .slice none 0 0, .int .i64 0, .int .i64 0, .int .i64 0, .slice none 0 0] : List Value).toArray) [(0, vint a), (1, vint b), (2, vint c), (3, .agg ([s0, s1, s2, s3, s4, s5, s6, s7] : List Value).toArray)] = some (([vint a, vint b, vint c] ++ [s0, s1, s2, s3, s4, s5, s6, s7] : List Value).toArray) := by kernel_rfl
theorem en_cellsP {a b c : Int} {y : Pt} {l : List Pt} (h1 : isCell y.aclV = true) (h2 : isCell y.subsV = true) : ∀ v ∈ enC ⟨a, b, c, y, l⟩, isCell v = true := by
 intro v hv
 simp only [enC, ptC, List.cons_append, List.nil_append, List.mem_cons, List.not_mem_nil, or_false] at hv
 rcases hv with rfl | rfl | rfl | rfl | rfl | rfl | rfl | rfl | rfl | rfl | rfl <;> first | rfl | assumption
theorem plnew_spec : Fn Tryz.prog 8 #[] [] fun v L => ∃ b k, v = vptr b ∧ L = [plR b k newPl] := by
 refine Fn.intro Tryz.func8 rfl rfl fun F W => ?_
 refine .sr (.an rfl (.sr (.oq (.c Tryz.func20 [] (trnew_spec)) ?_)))
 rintro v L' ⟨t, rfl, rfl⟩
 refine .oq (.c Tryz.func21 [] (wnew_spec)) ?_
 rintro v L' ⟨u, rfl, rfl⟩
 refine .q (.build (us := [(0, _), (1, _)]) fl_81 ze_81 rfl rfl (by simp [isCell])) rfl (.oq (.makeMap Tryz.underlying82) ?_)
 rintro v L' ⟨rid, rfl, rfl⟩
 refine .oq (.makeMap Tryz.underlying83) ?_
 rintro v L' ⟨rev, rfl, rfl⟩
 refine .q (.to (v' := .agg (plC ⟨t, u, rid, rev⟩ nilV 0).toArray) (.buildN (pl := [(0, 2), (2, 1), (3, 1), (4, 1), (5, 1)]) (us := [(0, .agg #[vptr t, vptr u]), (3, .map (some rid)), (4, .map (some rev))]) (cells := plC ⟨t, u, rid, rev⟩ nilV 0) Tryz.underlying85 (by kernel_rfl) ze_85 rfl rfl) rfl) rfl (.oq (.box rfl) ?_)
 rintro v L' ⟨b, rfl, rfl⟩
 refine .a rfl (.nil (.pc b (plC ⟨t, u, rid, rev⟩ nilV 0) ?_))
 refine .fold (p := mapR rid []) (.cons (p := pt rid (.map #[] 0)) (by repeat' constructor) .nil) (fun h hp => mapR_new (sep_pt hp)) (.fold (p := mapR rev []) (.cons (p := pt rev (.map #[] 0)) (by repeat' constructor) .nil) (fun h hp => mapR_new (sep_pt hp)) (.add (p := ordR nilV []) (slR_nil 62 11) (.add (p := bigR entR []) (fun h => big_nil h) (.add (p := bigR idR []) (fun h => big_nil h) (.add (p := bigR evR []) (fun h => big_nil h) (.plFold (k := ⟨t, u, rid, rev⟩) (ov := nilV) newPl (mi := []) (me := []) ⟨List.nodup_nil, List.nodup_nil, fun _ => rfl, fun _ => rfl⟩ (by repeat' constructor) (by rfl) (by rfl) (by rfl) (by rfl) (by rfl) (by rfl) (.then_n (.ret ?_))))))))
 exact .dn rfl rfl ⟨b, ⟨t, u, rid, rev⟩, rfl, rfl⟩
theorem plthere_spec (b : Nat) (k : PlK) (π : Pl) (id : Int) : Fn Tryz.prog 24 #[vptr b, vint id] [plR b k π] fun v L => v = .bool (decide (sesT π.τ id)) ∧ L = [plR b k π] := by
 refine Fn.intro Tryz.func24 rfl rfl fun F W => ?_
 refine .plOpen (π := π) (by repeat' constructor) fun ov mi me hI => (.sr (.an rfl (.sm rfl (.nf rfl fo_85_0 (.u (.fieldAddr rfl fo_81_0) (.u (.ld rfl ag_76) (.m rfl (.cv Tryz.func45 [_, _] (trsession_spec k.t π.τ id) ?_))))))))
 refine .m rfl (.u (.extract rfl rfl) (.u (.extract rfl rfl) (.u (.extract rfl rfl) (.a rfl (.a rfl (.a rfl (.nil (.plFold (π) hI (by repeat' constructor) (by rfl) (by rfl) (by rfl) (by rfl) (by rfl) (by rfl) (.then_n (.sm rfl (.an rfl (.ret ?_))))))))))))
 exact .vv
theorem plput_spec (b : Nat) (k : PlK) (π : Pl) (ov : Value) (mi : Sm Bs) (me : Sm Ev) (hI : PlI π mi me) (s x : Int) (y : Pt) (ys : List Pt) {N0 : Nat} (hG : TxnG N0 y ys) (hN0 : N0 ≤ 65536) (hc : isCell y.aclV = true ∧ ∃ a c, y.subsV = .slice a ys.length c) (hcs : ∀ z ∈ ys, isCell z.aclV = true ∧ z.subsV = nilV) (hs : I64 s) (hx : I64 x) (N : Nat) (ho : π.τ.Ok N) (hN : N ≤ 1048576) (hord : π.ord.length ≤ 1048576) (hω : π.ω.length ≤ 4096) (hev : ∀ i, (π.ev i).length ≤ 1099511627776) : Fn Tryz.prog 23 #[vptr b, vint s, vint x, .agg (ptC y).toArray] ([aclR y, slR 60 8 y.subsV ys.length (ys.flatMap ptC), bigR aclR ys] ++ [ptc b (plC k ov π.opened) 85, treeR k.t π.τ, tbR k.u π.ω, ordR ov π.ord, bigR entR π.ord, mapR k.rid (smM mi), mapR k.rev (smM me), bigR evR me]) fun v L => ∃ z : PlX, v = .agg (enC (entP π s x y ys)).toArray ∧ PlI (putP π s x y ys) z.mi z.me ∧ z.mi = (if y.kind = 6 then adel mi y.own else mi) ∧ L = [entR (entP π s x y ys), ptc b (plC k z.ov (putP π s x y ys).opened) 85, treeR k.t (putP π s x y ys).τ, tbR k.u (putP π s x y ys).ω, ordR z.ov (putP π s x y ys).ord, bigR entR π.ord, mapR k.rid (smM z.mi), mapR k.rev (smM z.me), bigR evR z.me] := by
 refine Fn.intro Tryz.func23 rfl rfl fun F W => ?_
 have hcv : isCell y.subsV = true := by obtain ⟨-, a, c, e⟩ := hc; rw [e]; rfl
 refine .slAny (v := ov) (by repeat' constructor) fun ao co eo _ => ?_
 subst eo
 have hys := hG.few (by omega)
 have hys2 : ys.length ≤ 65544 := by rcases hG.len with h | ⟨-, h, -⟩ <;> omega
 refine .sr (.oq (.box rfl) ?_)
 rintro v L' ⟨b7, rfl, rfl⟩
 refine .oq (.allocA ze_62) ?_
 rintro v L' ⟨b8, rfl, rfl⟩
 refine .nil (.pc b7 (ptC y) ?_)
 refine .then_n (.seq (.draw [11, 12] [[0, 1, 2, 3, 4, 5, 6, 7, 8, 9, 10, 11], [12]] mixed (by kernel_rfl) (.go [ptc b _ _, ptc b7 _ _] (by repeat' constructor) (.k rfl (.move rfl) (.k rfl (.nilp rfl) (.k rfl (.fieldAddr rfl fo_85_1) (.k rfl (.ld rfl ag_54) (.k rfl (.slen rfl Tryz.underlying54 rfl) (.k rfl (.add rfl rfl (by omega)) (.k rfl (.add rfl rfl (by omega)) (.k rfl (.move rfl) (.k rfl (.move rfl) (.k rfl (.la (ptC y) rfl ag_60) (.k rfl (.to (v' := .agg (enC (entP π s x y ys)).toArray) (.buildN (pl := [(0, 1), (1, 1), (2, 1), (3, 8)]) (us := [(0, vint (entP π s x y ys).zx), (1, vint (entP π s x y ys).ses), (2, vint (entP π s x y ys).xid), (3, .agg (ptC (entP π s x y ys).x).toArray)]) (cells := enC (entP π s x y ys)) Tryz.underlying62 (by kernel_rfl) ze_62 rfl (fill_p0123 _ _ _ _ _ _ _ _ _ _ _)) rfl) ?_))))))))))))))
 refine D.hh rfl (.allocA ze_62) ?_
 rintro v L' ⟨b9, rfl, rfl⟩
 refine D.ph (.g0 (.sa rfl rfl rfl sz_62 (by exact en_cellsP hc.1 hcv) ?_))
 refine D.ph (.fin (.pc b9 (enC (entP π s x y ys)) ?_))
 refine .fold (p := entR (entP π s x y ys)) (q := [aclR y, slR 60 8 y.subsV ys.length (ys.flatMap ptC), bigR aclR ys]) (by repeat' constructor) (fun _ h => h) (.then_n (.seq (.draw [6, 7, 10] [[0, 1, 2, 3, 4, 5, 6, 7], [8, 9, 10]] mixed (by kernel_rfl) (.go [ptc b _ _, ptc b9 _ _] (by repeat' constructor) (.k rfl (.move rfl) (.k rfl (.move rfl) (.k rfl (.nilp rfl) (.k rfl (.fieldAddr rfl fo_85_1) (.k rfl (.ld rfl ag_54) (.kv rfl (.la (enC (entP π s x y ys)) rfl ag_62) (.hh rfl (.buildSlice (vs := [_]) el_54 ze_62 rfl rfl rfl rfl (by first | (simp [Value.cells]; done) | (intro v hv; simp only [List.mem_cons, List.not_mem_nil, or_false] at hv; (repeat (first | (subst hv; rfl) | (rcases hv with hv | hv; (subst hv; rfl)))))) (by decide)) ?_)))))))))))
 rintro v L' ⟨bs, rfl, rfl⟩
 refine D.hh rfl (.append1 rfl rfl rfl el_54 ze_62 rfl rfl ?c31 ?c32 (Nat.le_refl _) ?c33 (by decide)) ?_
 case c31 => simp only [List.map_cons, List.map_nil, List.flatten_cons, List.flatten_nil, List.append_nil]; simp only [Value.cells]; exact en_cellsP hc.1 hcv
 case c32 => rfl
 case c33 => omega
 rintro v L' ⟨⟨an, cn, rfl⟩, rfl⟩
 refine D.ph (.g0 (.nf rfl rfl rfl fo_85_1 (.hh rfl (.store rfl rfl rfl sz_54 ?c38 (nfz0 _ _)) ?_)))
 case c38 => simp [plC]
 rintro v L' rfl
 refine D.ph (.fin (.pc b (plC k (.slice an (π.ord.length + 1) cn) π.opened) ?_))
 refine .slCast (T := 62) (sz := 11) (m' := (π.ord ++ [(entP π s x y ys)]).length) (xs' := (π.ord ++ [(entP π s x y ys)]).flatMap enC) (by repeat' constructor) (by rw [List.length_append]; rfl) (by rw [List.flatMap_append]; simp [Value.cells]) ?_
 rw [show π.ord.length + 1 = (π.ord ++ [(entP π s x y ys)]).length from by rw [List.length_append]; rfl]
 refine .then_n (.seq (.draw [6] [[0, 1, 2, 3, 4, 5, 6], [7, 8, 9, 10, 11]] mixed (by kernel_rfl) (.g0 (.mv rfl rfl (.nf rfl rfl rfl fo_85_0 (.kv rfl (.fieldAddr rfl fo_81_0) (.kv rfl (.ld rfl ag_76) (.kv rfl (.la (enC (entP π s x y ys)) rfl ag_62) (.hh rfl (.call Tryz.func42 rfl rfl (vs := [_, _]) rfl (trapply_spec k.t π.τ (zxN π) s x y ys (entR (entP π s x y ys)) (hG.tx (by omega) _ _ _ hc hcs) N ho (by omega))) ?_)))))))))
 rintro v L' ⟨ue, ee, rfl, he, ⟨aq, cq, hue⟩, rfl⟩
 refine D.ph (.g0 (.mv rfl rfl (.kv rfl (.extract rfl rfl) (.kv rfl (.extract rfl rfl) (.kv rfl (.assign rfl) (.kv rfl (.assign rfl) (.pf (.seq (.seq ?_)))))))))
 subst hue
 have hel := app_ev π.τ (zxN π) y ys
 have hfl := fire_len π.ω (applyZ π.τ (zxN π) y ys).2.1 (applyZ π.τ (zxN π) y ys).2.1.length
 have hfl2 : (applyZ π.τ (zxN π) y ys).2.1.length * π.ω.length ≤ 131090 * 4096 := Nat.mul_le_mul (by omega) hω
 have hfl3 : (fireL π.ω (applyZ π.τ (zxN π) y ys).2.1).1.length ≤ π.ω.length ∧ (fireL π.ω (applyZ π.τ (zxN π) y ys).2.1).2.length ≤ (applyZ π.τ (zxN π) y ys).2.1.length * π.ω.length := hfl
 refine .region (.m rfl (.nf rfl fo_85_0 (.u (.fieldAddr rfl fo_81_1) (.u (.ld rfl ag_78) (.m rfl (.oq (.call Tryz.func43 rfl rfl (vs := [_, _]) rfl (wfire_spec k.u π.ω _ (applyZ π.τ (zxN π) y ys).2.1 _ (fun h hp => slR_rd hp) (by omega) (by omega))) ?_))))))
 rintro v L' ⟨af, cf, rfl, rfl⟩
 refine .q (.slen rfl Tryz.underlying124 rfl) rfl (.m rfl (.nt (.block ?_)))
 have h0 := hI.tell0 (fireL π.ω (applyZ π.τ (zxN π) y ys).2.1).2
 refine .loopK (ι := Nat × (Sm Ev)) (fun q E => (53, vint q.1) :: E) (fun q => [mapR k.rev (smM q.2), bigR evR q.2]) (fun q => q.1 ≤ (fireL π.ω (applyZ π.τ (zxN π) y ys).2.1).2.length ∧ (q.2.map (·.1)).Nodup ∧ ∀ j, tellF π.ev ((fireL π.ω (applyZ π.τ (zxN π) y ys).2.1).2.take q.1) j = (smAt q.2 j).2) (fun q => (fireL π.ω (applyZ π.τ (zxN π) y ys).2.1).2.length - q.1) (0, me) (ts := [0, 7, 8, 9, 51, 52]) (.cons rfl (.cons rfl (.cons rfl (.cons rfl (.cons rfl (.cons rfl (.nil))))))) (⟨Nat.zero_le _, h0.1, h0.2⟩) ⟨rfl, rfl, rfl, rfl, rfl, rfl, rfl, trivial⟩ (by repeat' constructor) ?_
 rintro ⟨i, me2⟩ ⟨hi, hnd, htl⟩
 dsimp only
 dsimp only at hi hnd htl
 refine .sr (.ui rfl rfl rfl (.nt (.seq (.condD rfl (fun h54 => ?_) (fun h54 => ?_)))))
 ·have hi2 : i < (fireL π.ω (applyZ π.τ (zxN π) y ys).2.1).2.length := by omega
  have hle := tellF_len π.ev ((fireL π.ω (applyZ π.τ (zxN π) y ys).2.1).2.take i) (fireL π.ω (applyZ π.τ (zxN π) y ys).2.1).2[i].1
  have hle2 := hev (fireL π.ω (applyZ π.τ (zxN π) y ys).2.1).2[i].1
  rw [htl, List.length_take] at hle
  refine .slShape (v := .slice af _ cf) (by repeat' constructor) (by omega) fun bf bf' e0 mbf _ => ?_
  simp only [Value.slice.injEq, true_and] at e0
  obtain ⟨rfl, rfl⟩ := e0
  refine .sk (.seq (.block (.sr (.q (.indexAddr rfl rfl el_124 (by omega)) rfl (.q (.loadRdA (sz := 4) (j := i * 4) (k := 4) (p := slR 127 4 _ (fireL π.ω (applyZ π.τ (zxN π) y ys).2.1).2.length ((fireL π.ω (applyZ π.τ (zxN π) y ys).2.1).2.flatMap tldC)) (vs := tldC (fireL π.ω (applyZ π.τ (zxN π) y ys).2.1).2[i]) rfl ag_127 (by repeat' constructor) (fun h hp => slR_rd hp) (by simp) (by omega) (by omega) (flatMap_at (f := tldC) (sz := 4) (fun _ _ => rfl) (by omega))) rfl (.oq (.allocA ze_127) ?_))))))
  rintro v L' ⟨b13, rfl, rfl⟩
  refine .sa rfl rfl sz_127 (by simp [tldC, isCell]) ?_
  refine .nil (.pc b13 (tldC (fireL π.ω (applyZ π.τ (zxN π) y ys).2.1).2[i]) ?_)
  refine .evTakeS (m := me2) (fireL π.ω (applyZ π.τ (zxN π) y ys).2.1).2[i].1 (by repeat' constructor) fun ae ce hse => (.then_n (.draw [15, 16, 17] [[0, 1, 2, 3, 4, 5, 6, 7, 8, 9, 10, 11, 12, 13, 14, 15, 16], [17]] mixed (by kernel_rfl) (.go [ptc b _ _, ptc b13 _ _, mapR k.rev _] (by repeat' constructor) (.k rfl (.move rfl) (.k rfl (.nilp rfl) (.k rfl (.fieldAddr rfl fo_85_4) (.k rfl (.ld rfl ag_83) (.k rfl (.fieldAddr rfl fo_127_0) (.k rfl (.ld rfl ag_3) (.k rfl (.move rfl) (.k rfl (.nilp rfl) (.k rfl (.fieldAddr rfl fo_85_4) (.k rfl (.ld rfl ag_83) (.k rfl (.fieldAddr rfl fo_127_0) (.k rfl (.ld rfl ag_3) (.k rfl (.to (v' := .slice ae (smAt me2 (fireL π.ω (applyZ π.τ (zxN π) y ys).2.1).2[i].1).2.length ce) (.lookupV (m := me2) (enc := smE) (KeyLaw.int Tryz.underlying3) (v := (smAt me2 (fireL π.ω (applyZ π.τ (zxN π) y ys).2.1).2[i].1).1) (fun b hb => smAt_some b hb) (fun hb => smAt_none hb) rfl rfl Tryz.underlying83 ze_47 (by repeat' constructor) rfl) hse) (.kv rfl (.fieldAddr rfl fo_127_1) (.kv rfl (.la (evC (fireL π.ω (applyZ π.τ (zxN π) y ys).2.1).2[i].2) rfl ag_50) ?_))))))))))))))))))
  refine D.hh rfl (.buildSlice (vs := [_]) el_47 ze_50 rfl rfl rfl rfl (by first | (simp [Value.cells]; done) | (intro v hv; simp only [List.mem_cons, List.not_mem_nil, or_false] at hv; (repeat (first | (subst hv; rfl) | (rcases hv with hv | hv; (subst hv; rfl)))))) (by decide)) ?_
  rintro v L' ⟨bv, rfl, rfl⟩
  refine D.hh rfl (.append1 rfl rfl rfl el_47 ze_50 rfl rfl ?c87 ?c88 (Nat.le_refl _) ?c89 (by decide)) ?_
  case c87 => simp only [List.map_cons, List.map_nil, List.flatten_cons, List.flatten_nil, List.append_nil]; simp [Value.cells, evC, isCell]
  case c88 => rfl
  case c89 => omega
  rintro v L' ⟨⟨a7, c7, rfl⟩, rfl⟩
  refine D.ph (.g0 (.hh rfl (.mapSet (m := me2) (enc := smE) (v := (.slice a7 ((smAt me2 (fireL π.ω (applyZ π.τ (zxN π) y ys).2.1).2[i].1).2.length + 1) c7, (smAt me2 (fireL π.ω (applyZ π.τ (zxN π) y ys).2.1).2[i].1).2 ++ [(fireL π.ω (applyZ π.τ (zxN π) y ys).2.1).2[i].2])) (k := (fireL π.ω (applyZ π.τ (zxN π) y ys).2.1).2[i].1) (KeyLaw.int Tryz.underlying3) rfl rfl rfl Tryz.underlying83 ?he92) ?_))
  case he92 => rfl
  rintro v L' rfl
  refine D.ph (.fin (.evPut (m := me2) (fireL π.ω (applyZ π.τ (zxN π) y ys).2.1).2[i].1 (v := .slice a7 ((smAt me2 (fireL π.ω (applyZ π.τ (zxN π) y ys).2.1).2[i].1).2.length + 1) c7) ((smAt me2 (fireL π.ω (applyZ π.τ (zxN π) y ys).2.1).2[i].1).2 ++ [(fireL π.ω (applyZ π.τ (zxN π) y ys).2.1).2[i].2]) (by repeat' constructor) (by rw [List.length_append]; rfl) (by rw [List.flatMap_append]; simp [Value.cells]) (.blk_n (.then_n (.region (.q (.add rfl rfl (by omega)) rfl (.m rfl (.nt ?_))))))))
  have ht2 := tell_at hi2 hnd htl (.slice a7 ((smAt me2 (fireL π.ω (applyZ π.τ (zxN π) y ys).2.1).2[i].1).2.length + 1) c7)
  exact .rk ((i + 1, aset me2 (fireL π.ω (applyZ π.τ (zxN π) y ys).2.1).2[i].1 (.slice a7 ((smAt me2 (fireL π.ω (applyZ π.τ (zxN π) y ys).2.1).2[i].1).2.length + 1) c7, (smAt me2 (fireL π.ω (applyZ π.τ (zxN π) y ys).2.1).2[i].1).2 ++ [(fireL π.ω (applyZ π.τ (zxN π) y ys).2.1).2[i].2]))) (⟨by dsimp only; omega, ht2.1, ht2.2⟩) (by dsimp only; omega) ⟨rfl, rfl, rfl, rfl, rfl, rfl, rfl, trivial⟩
 have hie : i = (fireL π.ω (applyZ π.τ (zxN π) y ys).2.1).2.length := by omega
 subst hie
 rw [List.take_length] at htl
 refine .exit (.then_e (.then_e (.blk_e (.then_n (.seq (.sr (.u (.fieldAddr rfl fo_60_0) (.u (.ld rfl ag_3) (.ui rfl rfl rfl (.nt (.condD rfl (fun h77 => ?_) (fun h77 => ?_))))))))))))
 ·refine .seq (.tbCast (t := k.u) (ω' := (fireL π.ω (applyZ π.τ (zxN π) y ys).2.1).1) (by repeat' constructor) rfl (.draw [7] [[0, 1, 2, 3, 4, 5, 6, 7]] mixed (by kernel_rfl) (.g0 (.mv rfl rfl (.nf rfl rfl rfl fo_85_0 (.kv rfl (.fieldAddr rfl fo_81_1) (.kv rfl (.ld rfl ag_78) (.kv rfl (.fieldAddr rfl fo_60_4) (.kv rfl (.ld rfl ag_3) (.hh rfl (.c Tryz.func44 [_, _] (wdrop_spec k.u (fireL π.ω (applyZ π.τ (zxN π) y ys).2.1).1 y.own (by omega))) ?_))))))))))
  rintro v L' ⟨rfl, rfl⟩
  refine D.pf (.seq (.draw [6] [[0, 1, 2, 3, 4, 5, 6]] mixed (by kernel_rfl) (.g0 (.mv rfl rfl (.nf rfl rfl rfl fo_85_3 (.kv rfl (.ld rfl ag_82) (.kv rfl (.fieldAddr rfl fo_60_4) (.kv rfl (.ld rfl ag_3) (.hh rfl (.mapDel (m := mi) (enc := smE) (k := y.own) (KeyLaw.int Tryz.underlying3) rfl rfl rfl Tryz.underlying82 ?he113) ?_)))))))))
  case he113 => rfl
  rintro v L' rfl
  refine D.pf (.draw [6] [[0, 1, 2, 3, 4, 5, 6]] mixed (by kernel_rfl) (.g0 (.mv rfl rfl (.nf rfl rfl rfl fo_85_4 (.kv rfl (.ld rfl ag_83) (.kv rfl (.fieldAddr rfl fo_60_4) (.kv rfl (.ld rfl ag_3) (.hh rfl (.mapDel (m := me2) (enc := smE) (k := y.own) (KeyLaw.int Tryz.underlying3) rfl rfl rfl Tryz.underlying83 ?he121) ?_))))))))
  case he121 => rfl
  rintro v L' rfl
  refine D.ph (.fin (.evTake (m := me2) y.own (by repeat' constructor) (.then_n (.seq (.tbCast (t := k.u) (ω' := (putP π s x y ys).ω) (by repeat' constructor) (by show (if y.kind = 6 then _ else _) = _; rw [if_pos h77]) (.region (.q (.la (enC (entP π s x y ys)) rfl ag_62) rfl (.sa rfl rfl sz_62 (by exact en_cellsP hc.1 hcv) ?_))))))))
  refine .nil (.pc b8 (enC (entP π s x y ys)) ?_)
  refine .then_n (.ret ?_)
  exact .d1 rfl (.cellA rfl ag_62 (by repeat' constructor) (by simp [spl, setAll, enC, ptC]) rfl) ⟨⟨_, adel mi y.own, adel me2 y.own⟩, rfl, hI.put6 s x y ys hnd h77 htl, (if_pos h77).symm, rfl⟩
 refine .sk (.seq (.tbCast (t := k.u) (ω' := (putP π s x y ys).ω) (by repeat' constructor) (by show (if y.kind = 6 then _ else _) = _; rw [if_neg h77]) (.region (.q (.la (enC (entP π s x y ys)) rfl ag_62) rfl (.sa rfl rfl sz_62 (by exact en_cellsP hc.1 hcv) ?_)))))
 refine .nil (.pc b8 (enC (entP π s x y ys)) ?_)
 refine .then_n (.ret ?_)
 exact .d1 rfl (.cellA rfl ag_62 (by repeat' constructor) (by simp [spl, setAll, enC, ptC]) rfl) ⟨⟨_, mi, me2⟩, rfl, hI.put s x y ys hnd h77 htl, (if_neg h77).symm, rfl⟩
end Go.Proofs.YtmbnebafdhpgpaaGreatDoor
/-
 DERIVED: THE SHELF's CONTRACTS AT THIS DUMP, IN PLAIN WORDS (tools/lay-plain.mjs out of 'YtmbnebafdhpgpaaGreatDoorLayQ.lean', which tools/lay-shelf.mjs wrote): THE SAME DECLARATIONS UNDER THE SAME NAMES: 'import', 'namespace', 'open', 'def', 'theorem' AND NOTHING ELSE: no command of the shelf's: FOR A HAND-IN. Each laying: the table of numbers ('.._ren') and one theorem, a field a fact of the dump's own or the kernel's comparison; each contract: ONE APPLICATION.
-/
namespace Go.Proofs
open Go.Shelf
def Tryz.tzA_ren : Go.Shelf.Ren := ⟨fun | 27 => 259 | 28 => 282 | 29 => 283 | n => n, fun | 25 => 160 | 3 => 3 | 27 => 219 | 22 => 180 | 4 => 4 | 53 => 326 | 0 => 0 | 5 => 5 | 54 => 327 | n => n, fun | 0 => 2 | 1 => 3 | n => n⟩
theorem Tryz.tzA : Go.Proofs.Lays7.n27 Tryz.prog Tryz.tzA_ren := {
 mixed := by kernel_rfl
 f27 := Tryz.func259.trans (congrArg some (by kernel_rfl))
 f28 := Tryz.func282.trans (congrArg some (by kernel_rfl))
 f29 := Tryz.func283.trans (congrArg some (by kernel_rfl))
 t0 := Tryz.underlying0
 a0 := Tryz.isAgg0
 z0 := Tryz.sizeOf0
 v0 := Tryz.zeroValue0
 i0 := by kernel_rfl
 t3 := Tryz.underlying3
 a3 := Tryz.isAgg3
 z3 := Tryz.sizeOf3
 v3 := Tryz.zeroValue3
 i3 := by kernel_rfl
 t4 := Tryz.underlying4
 a4 := Tryz.isAgg4
 z4 := Tryz.sizeOf4
 v4 := Tryz.zeroValue4
 i4 := by kernel_rfl
 t5 := Tryz.underlying5
 a5 := Tryz.isAgg5
 z5 := Tryz.sizeOf5
 v5 := Tryz.zeroValue5
 i5 := by kernel_rfl
 t22 := Tryz.underlying180
 a22 := Tryz.isAgg180
 z22 := Tryz.sizeOf180
 v22 := Tryz.zeroValue180
 i22 := by kernel_rfl
 t25 := Tryz.underlying160
 a25 := Tryz.isAgg160
 z25 := Tryz.sizeOf160
 v25 := Tryz.zeroValue160
 i25 := by kernel_rfl
 t27 := Tryz.underlying219
 a27 := Tryz.isAgg219
 z27 := Tryz.sizeOf219
 v27 := Tryz.zeroValue219
 i27 := by kernel_rfl
 t53 := Tryz.underlying326
 a53 := Tryz.isAgg326
 z53 := Tryz.sizeOf326
 v53 := Tryz.zeroValue326
 i53 := by kernel_rfl
 t54 := Tryz.underlying327
 a54 := Tryz.isAgg327
 z54 := Tryz.sizeOf327
 g0 := by kernel_rfl
 g1 := by kernel_rfl }
end Go.Proofs
namespace Go.Proofs.YtmbnebafdhpgpaaGreatDoor
open Go Go.RowKit Go.Sort Go.Shelf
def hexD (d : Nat) : UInt8 := if d < 10 then (48 + d).toUInt8 else (87 + d).toUInt8
def hexZ (u : Nat) : Bs := if u < 16 then [hexD u] else hexZ (u / 16) ++ [hexD (u % 16)]
termination_by u
def fnvS (h : Int) (c : UInt8) : Int := IntKind.u64.wrap (IntKind.u64.wrap (BitVec.ofInt IntKind.u64.bits h ^^^ BitVec.ofInt IntKind.u64.bits (IntKind.u64.wrap (c.toNat : Int))).toNat * 1099511628211)
def fnvZ (l : Bs) : Int := l.foldl fnvS 14695981039346656037
def fnvN (l : Bs) : Nat := (fnvZ l).toNat
def digZ (name secret : Bs) : Bs := name ++ [58] ++ List.replicate (16 - (hexZ (fnvN (name ++ [58] ++ secret))).length) 48 ++ hexZ (fnvN (name ++ [58] ++ secret))
def digestZ (name secret : Bs) : Bs × Int := if userZ name = true then (digZ name secret, 0) else ([], 50)
theorem hexZ_lt {u : Nat} (h : u < 16) : hexZ u = [hexD u] := by rw [hexZ, if_pos h]
theorem hexZ_ge {u : Nat} (h : ¬ u < 16) : hexZ u = hexZ (u / 16) ++ [hexD (u % 16)] := by rw [hexZ, if_neg h]
theorem hexZ_len {u : Nat} (h : u < 18446744073709551616) : 1 ≤ (hexZ u).length ∧ (hexZ u).length ≤ 16 := by
 have key : ∀ (k u : Nat), u < 16 ^ (k + 1) → 1 ≤ (hexZ u).length ∧ (hexZ u).length ≤ k + 1 := by
  intro k
  induction k with
  | zero => intro u h; rw [hexZ_lt (by omega)]; simp
  | succ k ih =>
   intro u h
   rcases Nat.lt_or_ge u 16 with g | g
   ·rw [hexZ_lt g]; simp
   ·rw [hexZ_ge (by omega), List.length_append, List.length_singleton]
    have := ih (u / 16) (by rw [Nat.div_lt_iff_lt_mul (by decide)]; rw [Nat.pow_succ] at h; exact h)
    omega
 exact key 15 u h
theorem wrap_u64_rng (n : Int) : 0 ≤ IntKind.u64.wrap n ∧ IntKind.u64.wrap n < 18446744073709551616 := by
 rw [IntKind.wrap_u64]; omega
theorem fnv_rng (l : Bs) : 0 ≤ fnvZ l ∧ fnvZ l < 18446744073709551616 := by
 unfold fnvZ
 rcases List.eq_nil_or_concat l with rfl | ⟨l, c, rfl⟩
 ·exact ⟨by decide, by decide⟩
 ·rw [List.concat_eq_append, List.foldl_append]; exact wrap_u64_rng _
theorem fnv_cast (l : Bs) : ((fnvN l : Nat) : Int) = fnvZ l := by
 have := fnv_rng l
 unfold fnvN; omega
theorem fnvN_lt (l : Bs) : fnvN l < 18446744073709551616 := by
 have := fnv_rng l
 unfold fnvN; omega
theorem fnv_step {l : Bs} {i : Nat} (h : i < l.length) : fnvZ (l.take (i + 1)) = fnvS (fnvZ (l.take i)) l[i] := by
 unfold fnvZ
 rw [List.take_succ_eq_append_getElem h, List.foldl_append]; rfl
def digitS : Bs := [48, 49, 50, 51, 52, 53, 54, 55, 56, 57, 97, 98, 99, 100, 101, 102, 103, 104, 105, 106, 107, 108, 109, 110, 111, 112, 113, 114, 115, 116, 117, 118, 119, 120, 121, 122]
theorem digit_at : ∀ d : Nat, d < 16 → digitS[d]? = some (hexD d) := by decide
theorem and15 {u : Nat} (h : u < 18446744073709551616) : IntKind.u64.wrap ((BitVec.ofInt IntKind.u64.bits (u : Int) &&& BitVec.ofInt IntKind.u64.bits 15).toNat : Int) = ((u % 16 : Nat) : Int) := by
 have e1 : (BitVec.ofInt IntKind.u64.bits (u : Int)).toNat = u := by
  show (BitVec.ofInt 64 (u : Int)).toNat = u
  rw [BitVec.ofInt_natCast, BitVec.toNat_ofNat]; exact Nat.mod_eq_of_lt h
 have e2 : (BitVec.ofInt IntKind.u64.bits 15).toNat = 15 := by decide
 rw [BitVec.toNat_and, e1, e2, show (15 : Nat) = 2 ^ 4 - 1 from rfl, Nat.and_two_pow_sub_one_eq_mod, IntKind.wrap_u64]
 omega
theorem shr4 (u : Nat) : (u : Int).fdiv (2 ^ min (4 : Int).toNat IntKind.u64.bits) = ((u / 16 : Nat) : Int) := by
 rw [show (2 : Int) ^ min (4 : Int).toNat IntKind.u64.bits = 16 from rfl, Int.fdiv_eq_ediv_of_nonneg _ (by decide)]
 omega
theorem set_last {xs ys : List Value} {v : Value} (h : 0 < xs.length) : (xs ++ ys).set (xs.length - 1) v = xs.dropLast ++ v :: ys := by
 rw [List.set_append_left _ _ (by omega)]
 have : xs.set (xs.length - 1) v = xs.dropLast ++ [v] := by
  rcases List.eq_nil_or_concat xs with rfl | ⟨l, c, rfl⟩
  ·simp at h
  ·rw [List.concat_eq_append]
   simp
 rw [this, List.append_assoc]; rfl
theorem hex_step {u : Nat} {ys zs : Bs} (h : hexZ u ++ ys = zs) (hu : ¬ u < 16) : hexZ (u / 16) ++ hexD (u % 16) :: ys = zs := by
 rw [hexZ_ge hu, List.append_assoc] at h; exact h
section
variable {P : Program} {E : Env} {L R : List HP} {ty : TypeId} {w : World}
theorem Quiet.indexArr {t : TypeId} {x y : Operand} {b off n e sz : Nat} {k : IntKind} {i : Int} (hx : ev E x = some (.pointer (some ⟨b, off, none⟩))) (hy : ev E y = some (.int k i)) (ht : arrOf P t = some (n, e, sz))
  (h0 : 0 ≤ i ∧ i < n) : Quiet P ⟨none, .indexAddr t x y, ty, "", #[], none⟩ E L (.pointer (some ⟨b, off + i.toNat * sz, none⟩)) := by
 intro ρ w ha _
 unfold arrOf at ht
 split at ht <;> (try cases ht)
 rename_i n' e' hu
 split at ht <;> (try cases ht)
 rename_i inf hin
 simp [execOp, ha x _ hx, ha y _ hy, Instr.indexAt, asIntOf, underlying, program, hu, h0, sizeOf, typeInfo, hin, Addr.add_eq, Instr.sureAddr, Bind.bind, Sem.bind, Pure.pure, Sem.run]
end
def TzP (p : HP) : Prop := ∀ (h : Hp) (w : World), p h → (∀ b o, h b = some o → w.heap[b]? = some o) → Lib.TabIs Tryz.prog w "math/bits.deBruijn64tab" .u8 (Lib.deBruijn64tab.map fun n : Nat => (n : Int))
theorem tz_spec (p : HP) (hT : TzP p) : Fn Tryz.prog 259 #[.int .u64 16] [p] fun v L => v = vint 4 ∧ L = [p] := by
 intro F w hs
 obtain ⟨h1, hle, hp⟩ := sep_head (show sep (p :: F) _ from hs)
 have hT := hT h1 w hp hle
 refine (Any7.bits_TrailingZeros Tryz.tzA 16 (by decide) w fun _ j hj => ?_).mono ?_
 ·have := hT.cell (g := Tryz.tzA_ren.g 1) (by kernel_rfl) j (by rw [List.length_map]; exact hj)
  rw [show ((Lib.deBruijn64tab.map fun n : Nat => (n : Int)).getD j 0) = ((Lib.deBruijn64tab.getD j 0 : Nat) : Int) from by simp [List.getD, hj]] at this
  exact this
 ·rintro e w' ⟨rfl, rfl⟩
  exact ⟨_, _, ⟨by kernel_rfl, rfl⟩, rfl, hs, Keeps.refl _⟩
theorem repeatN_spec (k : Nat) (hk : k ≤ 16) : Fn Tryz.prog 96 #[vstr [48], vint k] [] fun v L => v = vstr (List.replicate k 48) ∧ L = [] := by
 intro F w hs
 refine (Any.strings_Repeat Tryz.repeatA repeatX (bs [48]) k w (by omega) (by simp [bs_size]; omega)).mono ?_
 rintro e w' ⟨rfl, hb⟩
 have q : ∀ k : Nat, k < 17 → Lib.repeatL ([48] : Bs) k = List.replicate k 48 := by decide +kernel
 have e : (Value.string ⟨(Lib.repeatL (bs [48]).data.toList k).toArray⟩ : Value) = vstr (List.replicate k 48) := by
  rw [show (bs [48]).data.toList = ([48] : Bs) from rfl, q k (by omega)]
 exact ⟨_, _, ⟨e, rfl⟩, rfl, hs.below hb, Keeps.below hb⟩
/-! ### Tables of watches, shrunk -/
theorem fireTo_sub (ω : List Wt) (es : List Ev) : ∀ i, (fireTo ω es i).1.Sublist ω
 | 0 => List.Sublist.refl _
 | i + 1 => by
  rw [fire_succ rfl]
  exact List.filter_sublist.trans (fireTo_sub ω es i)
theorem fire_sub (ω : List Wt) (es : List Ev) : (fireL ω es).1.Sublist ω := fireTo_sub ω es es.length
theorem drop_sub (ω : List Wt) (s : Int) : (dropW ω s).Sublist ω := List.filter_sublist
theorem cnt_sub {ω υ : List Wt} (h : υ.Sublist ω) (s : Int) : cntW υ s ≤ cntW ω s := (h.filter _).length_le
theorem wt_few : ∀ {ω : List Wt}, (∀ w ∈ ω, 1 ≤ w.1 ∧ w.1 ≤ 5) → ω.length ≤ cntW ω 1 + cntW ω 2 + cntW ω 3 + cntW ω 4 + cntW ω 5
 | [], _ => Nat.zero_le _
 | w :: ω, h => by
  have ih := wt_few (ω := ω) fun x hx => h x (List.mem_cons_of_mem _ hx)
  have hw := h w List.mem_cons_self
  have key : ∀ s : Int, cntW (w :: ω) s = (if w.1 = s then 1 else 0) + cntW ω s := fun s => by
   unfold cntW
   rw [List.filter_cons]
   by_cases g : w.1 = s
   ·rw [if_pos (decide_eq_true g), if_pos g, List.length_cons]; omega
   ·rw [if_neg (by simpa using g), if_neg g]; omega
  rw [key, key, key, key, key, List.length_cons]
  have : w.1 = 1 ∨ w.1 = 2 ∨ w.1 = 3 ∨ w.1 = 4 ∨ w.1 = 5 := by omega
  rcases this with e | e | e | e | e <;> (simp [e]; omega)
/-! ### Transactions of a service -/
def opnPt (o t : Int) : Pt := ⟨5, [], [], nilV, [], o, min (max t 4) 60, 0, nilV⟩
theorem opnPt_T {o t : Int} (ho : I64 o) (N : Nat) : TxnG N (opnPt o t) [] := by
 have hn : I64 (min (max t 4) 60) := ⟨by omega, by omega⟩
 exact ⟨⟨⟨⟨⟨by show (-9223372036854775808 : Int) ≤ 5; decide, by show (5 : Int) ≤ 9223372036854775807; decide⟩, ho, hn, I64.zero, by show 0 < U64; decide, by show 0 < U64; decide, by show 0 < U64; decide, fun a ha => by cases ha⟩, acl_nil_w.long, Nat.zero_le _, Nat.zero_le _, Nat.zero_le _⟩, ho, hn, Nat.zero_le _, acl_nil_w⟩, (fun _ h => by cases h), .inl (Nat.zero_le _)⟩
def moreP (π : Pl) : Pl := ⟨π.τ, π.ω, π.ord, π.opened + 1, π.ids, π.ev⟩
def opnP (π : Pl) (t : Int) : Pl × (Int × Int) := if 16 ≤ π.τ.sess.length then (π, (0, 91)) else (putP (moreP π) (π.opened + 1) 0 (opnPt (π.opened + 1) t) [], (π.opened + 1, 0))
/-! ### Reads of a service -/
def authP (π : Pl) (s : Int) (r : Rq) : Pl × Int :=
 if (digestZ r.path r.data).2 ≠ 0 then (π, (digestZ r.path r.data).2) else if (digestZ r.path r.data).1 ∈ π.ids s then (π, 0) else if 16 ≤ (π.ids s).length then (π, 1)
 else (⟨π.τ, π.ω, π.ord, π.opened, setF π.ids s (π.ids s ++ [(digestZ r.path r.data).1]), π.ev⟩, 0)
def armP (π : Pl) (s : Int) (l : List Arm) : Pl := ⟨π.τ, (armL π.τ s π.ω l).1, π.ord, π.opened, π.ids, setF π.ev s (π.ev s ++ (armL π.τ s π.ω l).2)⟩
def seeP (π : Pl) (s : Int) (r : Rq) : Pl × Int :=
 if laidZ r (readX π.τ (π.ids s) r) = 0 then (π, readX π.τ (π.ids s) r)
 else (⟨π.τ, (addW π.ω s (laidZ r (readX π.τ (π.ids s) r)) r.path).1, π.ord, π.opened, π.ids, π.ev⟩, if (addW π.ω s (laidZ r (readX π.τ (π.ids s) r)) r.path).2 ≠ 0 then (addW π.ω s (laidZ r (readX π.τ (π.ids s) r)) r.path).2 else readX π.τ (π.ids s) r)
def readP (π : Pl) (s : Int) (r : Rq) (l : List Arm) : Pl × Int := if r.kind = 13 then authP π s r else if r.kind = 14 then (armP π s l, 0) else if r.kind = 15 then (π, 0) else seeP π s r
def evsP (π : Pl) (s : Int) : Pl := ⟨π.τ, π.ω, π.ord, π.opened, π.ids, setF π.ev s []⟩
structure ReadZ (π : Pl) (s : Int) (r : Rq) (l : List Arm) (x : Rp) (kids : List Bs) : Prop where
 err : x.err = (readP π s r l).2
 cells : ∀ v ∈ rpC x, isCell v = true
 shape : ∃ a c, x.kidsV = .slice a kids.length c
 told : r.watch = false → readK r.kind → ∃ av kv, x = readR π.τ (π.ids s) r av kv ∧ kids = readKl π.τ (π.ids s) r
structure CallZ (π : Pl) (s : Int) (r : Rq) (subs : List Rq) (l : List Arm) (π' : Pl) (x : Rp) (kids : List Bs) (e : Int) : Prop where
 gone : ¬ sesT π.τ s → e = 67 ∧ π' = π ∧ x = rp0 ∧ kids = []
 chg : sesT π.τ s → changesK r.kind = true → e = 0 ∧ kids = [] ∧ ∃ y ys, y.pl = (txnP π.τ ⟨s, π.ids s⟩ r subs).1 ∧ ys.map Pt.pl = (txnP π.τ ⟨s, π.ids s⟩ r subs).2 ∧ isCell y.aclV = true ∧ (∃ a c, y.subsV = .slice a ys.length c) ∧ (∀ z ∈ ys, isCell z.aclV = true ∧ z.subsV = nilV) ∧ π' = putP π s r.xid y ys ∧ x.err = if y.kind = 8 then y.err else 0
 rd : sesT π.τ s → ¬ changesK r.kind = true → e = 0 ∧ π' = (readP π s r l).1 ∧ ∃ x0, ReadZ π s r l x0 kids ∧ x = ⟨r.xid, π'.τ.zx, x0.err, x0.path, x0.data, x0.st, x0.aclV, x0.kidsV, x0.subsV⟩
 stamp : sesT π.τ s → x.xid = r.xid ∧ x.zx = π'.τ.zx
 cells : ∀ v ∈ rpC x, isCell v = true
 shape : ∃ a c, x.kidsV = .slice a kids.length c
structure CallA (q : HP) (s : Int) (r : Rq) (subs : List Rq) (l : List Arm) : Prop where
 d : WiD q ⟨s, []⟩ nilV r subs
 tz : TzP q
 arm : ArmsA q r.armV l
/-! ### Bounds -/
structure PlB (π : Pl) (n : Nat) : Prop where
 ok : π.τ.Ok (1 + 9 * n)
 w : TrW π.τ
 ord : π.ord.length ≤ n
 ws : ∀ w ∈ π.ω, 1 ≤ w.1 ∧ w.1 ≤ 5
 wn : ∀ s, cntW π.ω s ≤ 64
 ev : ∀ i, (π.ev i).length ≤ n * 67108864
 ids : ∀ s, (π.ids s).length ≤ 16
 op : 0 ≤ π.opened ∧ π.opened ≤ n
 ses : ∀ x ∈ π.τ.sess, 1 ≤ x.1 ∧ x.1 ≤ π.opened
theorem PlB.few {π : Pl} {n : Nat} (h : PlB π n) : π.ω.length ≤ 320 := by
 have h1 := wt_few h.ws
 have := h.wn 1
 have := h.wn 2
 have := h.wn 3
 have := h.wn 4
 have := h.wn 5
 omega
theorem newPl_B : PlB newPl 0 := by
 refine ⟨newT_ok, TrW.new, Nat.le_refl _, (fun w hw => by cases hw), fun s => Nat.zero_le _, fun i => Nat.zero_le _, fun s => Nat.zero_le _, ⟨Int.le_refl _, Int.le_refl _⟩, fun x hx => by cases hx⟩
theorem PlB.more {π : Pl} {n m : Nat} (h : PlB π n) (hm : n ≤ m) : PlB π m := by
 have := h.op
 exact ⟨h.ok.more (by omega), h.w, by have := h.ord; omega, h.ws, h.wn, fun i => Nat.le_trans (h.ev i) (Nat.mul_le_mul_right _ hm), h.ids, ⟨by omega, by omega⟩, h.ses⟩
theorem app_ses13 {τ : Tr} {z : Int} {y : Pt} {ys : List Pt} : ∀ x ∈ (applyZ τ z y ys).1.sess, x ∈ τ.sess ∨ (y.kind = 5 ∧ x.1 = y.own ∧ 0 < y.own) := by
 have hp : ∀ l : List Pt, (partsZ (zxT τ z) z l).1.sess = τ.sess := fun l => by
  unfold partsZ
  have H : ∀ (l : List Pt) (r : Tr × List Ev), (l.foldl (fun r x => ((partZ r.1 x z).1, r.2 ++ (partZ r.1 x z).2)) r).1.sess = r.1.sess := by
   intro l
   induction l with
   | nil => intro r; rfl
   | cons x l ih => intro r; rw [List.foldl_cons, ih]; exact part_sess _ _ _
  exact H l (zxT τ z, [])
 intro x hx
 unfold applyZ at hx
 dsimp only at hx
 split at hx
 ·rename_i h5
  split at hx
  ·rename_i h0
   rcases sset_mem (show x ∈ sset τ.sess y.own (y.num, y.data) from hx) with e | e
   ·exact .inr ⟨h5, by rw [e], h0⟩
   ·exact .inl e
  ·exact .inl hx
 split at hx
 ·have := (List.mem_filter.1 (show x ∈ (partsZ (zxT τ z) z (ys.filter isDel)).1.sess.filter _ from hx)).1
  rw [hp] at this
  exact .inl this
 split at hx
 ·have hx : x ∈ (partsZ (zxT τ z) z ys).1.sess := hx
  rw [hp] at hx
  exact .inl hx
 split at hx
 ·exact .inl hx
 ·have hx : x ∈ (partZ (zxT τ z) y z).1.sess := hx
  rw [part_sess] at hx
  exact .inl hx
theorem PlB.put {π : Pl} {n : Nat} (h : PlB π n) (hn : n ≤ 65536) (s x : Int) {y : Pt} {ys : List Pt} {N0 : Nat} (hG : TxnG N0 y ys) (hN0 : N0 ≤ 65536) (h5 : y.kind = 5 → 1 ≤ y.own ∧ y.own ≤ π.opened) : PlB (putP π s x y ys) (n + 1) := by
 have hsub : (putP π s x y ys).ω.Sublist π.ω := by
  show (if y.kind = 6 then _ else _ : List Wt).Sublist _
  split
  ·exact (drop_sub _ _).trans (fire_sub _ _)
  ·exact fire_sub _ _
 have hz : I64 (zxN π) := by
  have := h.ord
  unfold zxN
  exact ⟨by omega, by omega⟩
 have hys : ys.length ≤ 65544 := by rcases hG.len with g | ⟨-, g, -⟩ <;> omega
 have hel := app_ev π.τ (zxN π) y ys
 have hfl : (fireL π.ω (applyZ π.τ (zxN π) y ys).2.1).2.length ≤ (applyZ π.τ (zxN π) y ys).2.1.length * π.ω.length := (fire_len π.ω (applyZ π.τ (zxN π) y ys).2.1 (applyZ π.τ (zxN π) y ys).2.1.length).2
 have hfl2 : (applyZ π.τ (zxN π) y ys).2.1.length * π.ω.length ≤ 131090 * 320 := Nat.mul_le_mul (by omega) h.few
 have hop := h.op
 refine ⟨(hG.ok h.ok _).more (by omega), hG.w h.w hz, ?_, fun w hw => h.ws w (hsub.subset hw), fun i => Nat.le_trans (cnt_sub hsub i) (h.wn i), fun i => ?_, fun i => ?_, ⟨hop.1, by show π.opened ≤ _; omega⟩, fun z hz => ?_⟩
 ·show (π.ord ++ [_]).length ≤ n + 1
  have := h.ord
  rw [List.length_append, List.length_singleton]; omega
 ·have h1 := tellF_len π.ev (fireL π.ω (applyZ π.τ (zxN π) y ys).2.1).2 i
  have h2 := h.ev i
  have e : (n + 1) * 67108864 = n * 67108864 + 67108864 := by omega
  show ((if y.kind = 6 then setF (tellF π.ev _) y.own [] else tellF π.ev _) i).length ≤ _
  rw [e]
  split
  ·unfold setF
   split
   ·exact Nat.zero_le _
   ·omega
  ·omega
 ·show ((if y.kind = 6 then setF π.ids y.own [] else π.ids) i).length ≤ 16
  have := h.ids i
  split
  ·unfold setF
   split
   ·exact Nat.zero_le _
   ·omega
  ·exact this
 ·rcases app_ses13 z hz with g | ⟨g1, g2, -⟩
  ·exact h.ses z g
  ·have := h5 g1
   show 1 ≤ z.1 ∧ z.1 ≤ π.opened
   omega
theorem PlB.opn {π : Pl} {n : Nat} (h : PlB π n) (hn : n ≤ 4096) (t : Int) : PlB (opnP π t).1 (n + 1) := by
 unfold opnP
 split
 ·exact h.more (by omega)
 ·have hop := h.op
  have hM : PlB (moreP π) (n + 1) := ⟨h.ok.more (by omega), h.w, by have := h.ord; show π.ord.length ≤ _; omega, h.ws, h.wn, fun i => Nat.le_trans (h.ev i) (Nat.mul_le_mul_right _ (by omega)), h.ids, ⟨by show 0 ≤ π.opened + 1; omega, by show π.opened + 1 ≤ ((n + 1 : Nat) : Int); omega⟩, fun x hx => by have := h.ses x hx; show 1 ≤ x.1 ∧ x.1 ≤ π.opened + 1; omega⟩
  have hP := hM.put (by omega) (π.opened + 1) 0 (opnPt_T (o := π.opened + 1) (t := t) ⟨by omega, by omega⟩ 0) (by decide) (fun _ => ⟨by show 1 ≤ π.opened + 1; omega, Int.le_refl _⟩)
  have hz : I64 (zxN π) := by
   have := h.ord
   unfold zxN
   exact ⟨by omega, by omega⟩
  refine ⟨?_, hP.w, ?_, hP.ws, hP.wn, ?_, hP.ids, ⟨hP.op.1, by show π.opened + 1 ≤ _; omega⟩, hP.ses⟩
  ·exact ((opnPt_T (o := π.opened + 1) (t := t) ⟨by omega, by omega⟩ 0).ok (τ := π.τ) h.ok _).more (by omega)
  ·show (π.ord ++ [_]).length ≤ n + 1
   have := h.ord
   rw [List.length_append, List.length_singleton]; omega
  ·intro i
   have e2 : (putP (moreP π) (π.opened + 1) 0 (opnPt (π.opened + 1) t) []).ev = π.ev := by
    unfold putP
    dsimp only
    rw [if_neg (by show ¬ (5 : Int) = 6; decide)]; rfl
   dsimp only
   rw [e2]
   exact Nat.le_trans (h.ev i) (Nat.mul_le_mul_right _ (by omega))
theorem add_B {ω : List Wt} {s k : Int} {p : Bs} (hs : 1 ≤ s ∧ s ≤ 5) (h : ∀ w ∈ ω, 1 ≤ w.1 ∧ w.1 ≤ 5) (hn : ∀ i, cntW ω i ≤ 64) : (∀ w ∈ (addW ω s k p).1, 1 ≤ w.1 ∧ w.1 ≤ 5) ∧ ∀ i, cntW (addW ω s k p).1 i ≤ 64 := by
 unfold addW
 split
 ·exact ⟨h, hn⟩
 split
 ·exact ⟨h, hn⟩
 split
 ·exact ⟨h, hn⟩
 ·rename_i g
  refine ⟨fun w hw => ?_, fun i => ?_⟩
  ·rcases List.mem_append.1 hw with hw | hw
   ·exact h w hw
   ·rw [List.mem_singleton] at hw
    rw [hw]; exact hs
  ·show cntW (ω ++ [(s, (k, p))]) i ≤ 64
   rw [cnt_append]
   split
   ·rename_i e
    have e : s = i := e
    subst e
    have := hn s
    omega
   ·have := hn i
    omega
theorem arm_B {τ : Tr} {s : Int} (hs : 1 ≤ s ∧ s ≤ 5) : ∀ (l : List Arm) (r : List Wt × List Ev), (∀ w ∈ r.1, 1 ≤ w.1 ∧ w.1 ≤ 5) → (∀ i, cntW r.1 i ≤ 64) → (∀ w ∈ (l.foldl (armS τ s) r).1, 1 ≤ w.1 ∧ w.1 ≤ 5) ∧ ∀ i, cntW (l.foldl (armS τ s) r).1 i ≤ 64
 | [], _, h, hn => ⟨h, hn⟩
 | a :: l, r, h, hn => by
  rw [List.foldl_cons]
  have hA : (∀ w ∈ (armS τ s r a).1, 1 ≤ w.1 ∧ w.1 ≤ 5) ∧ ∀ i, cntW (armS τ s r a).1 i ≤ 64 := by
   unfold armS
   split
   ·exact ⟨h, hn⟩
   split
   ·exact add_B hs h hn
   split <;> exact ⟨h, hn⟩
  exact arm_B hs l _ hA.1 hA.2
theorem PlB.read {π : Pl} {n : Nat} (h : PlB π n) {s : Int} (hs : 1 ≤ s ∧ s ≤ 5) (r : Rq) {l : List Arm} (hl : l.length ≤ 1048576) : PlB (readP π s r l).1 (n + 1) := by
 have hM := h.more (Nat.le_succ n)
 unfold readP
 split
 ·unfold authP
  split
  ·exact hM
  split
  ·exact hM
  split
  ·exact hM
  ·rename_i g
   refine ⟨hM.ok, hM.w, hM.ord, hM.ws, hM.wn, hM.ev, fun i => ?_, hM.op, hM.ses⟩
   show (setF π.ids s (π.ids s ++ [_]) i).length ≤ 16
   unfold setF
   split
   ·rw [List.length_append, List.length_singleton]; omega
   ·exact h.ids i
 split
 ·have hA := arm_B (τ := π.τ) hs l (π.ω, []) h.ws h.wn
  refine ⟨hM.ok, hM.w, hM.ord, hA.1, hA.2, fun i => ?_, hM.ids, hM.op, hM.ses⟩
  show (setF π.ev s (π.ev s ++ (armL π.τ s π.ω l).2) i).length ≤ _
  have h1 := armL_len π.τ s π.ω l l.length (Nat.le_refl _)
  rw [List.take_length] at h1
  have h2 := h.ev s
  have h3 := hM.ev i
  have e : (n + 1) * 67108864 = n * 67108864 + 67108864 := by omega
  unfold setF
  split
  ·rw [List.length_append, e]; omega
  ·exact h3
 split
 ·exact hM
 ·unfold seeP
  split
  ·exact hM
  ·have hA := add_B (k := laidZ r (readX π.τ (π.ids s) r)) (p := r.path) hs h.ws h.wn
   exact ⟨hM.ok, hM.w, hM.ord, hA.1, hA.2, hM.ev, hM.ids, hM.op, hM.ses⟩
theorem PlB.evs {π : Pl} {n : Nat} (h : PlB π n) (s : Int) : PlB (evsP π s) n := by
 refine ⟨h.ok, h.w, h.ord, h.ws, h.wn, fun i => ?_, h.ids, h.op, h.ses⟩
 show (setF π.ev s [] i).length ≤ _
 unfold setF
 split
 ·exact Nat.zero_le _
 ·exact h.ev i
theorem txn_not5 (τ : Tr) (u : Who) (r : Rq) (subs : List Rq) : (txnP τ u r subs).1.kind ≠ 5 := by
 unfold txnP
 split
 ·show (8 : Int) ≠ 5; decide
 split
 ·show (8 : Int) ≠ 5; decide
 split
 ·unfold multiP
  split
  ·show (8 : Int) ≠ 5; decide
  ·split
   ·show (8 : Int) ≠ 5; decide
   ·show (7 : Int) ≠ 5; decide
 split
 ·show (0 : Int) ≠ 5; decide
 split
 ·show (6 : Int) ≠ 5; decide
 split
 ·show (8 : Int) ≠ 5; decide
 ·exact (part_plain τ u r).1
theorem PlB.call {π : Pl} {n : Nat} (h : PlB π n) (hn : n ≤ 4096) {q : HP} {s : Int} (hs : sesT π.τ s → 1 ≤ s ∧ s ≤ 5) {r : Rq} {subs : List Rq} {l : List Arm} (hA : CallA q s r subs l) {π' : Pl} {x : Rp} {kids : List Bs} {e : Int} (hC : CallZ π s r subs l π' x kids e) : PlB π' (n + 1) := by
 by_cases hse : sesT π.τ s
 ·by_cases hk : changesK r.kind = true
  ·obtain ⟨-, -, y, ys, hy, hys, -, -, -, rfl, -⟩ := hC.chg hse hk
   have hG0 : TxnG (1 + 9 * n) (txnP π.τ ⟨s, π.ids s⟩ r subs).1 (txnP π.τ ⟨s, π.ids s⟩ r subs).2 := txn_G h.ok (hA.d.more (a := slR 9 1 (.slice (some ⟨0, 0, none⟩) (π.ids s).length (π.ids s).length) (π.ids s).length (strs (π.ids s))) (fun _ hp => slR_rd hp) (by have := h.ids s; omega) ⟨_, _, _, rfl⟩)
   have hG := hG0.of hy hys
   refine h.put (by omega) _ _ hG (by omega) fun h5 => ?_
   have hk5 := congrArg Pt.kind hy
   exact absurd (hk5.symm.trans (show y.pl.kind = 5 from h5)) (txn_not5 _ _ _ _)
  ·obtain ⟨-, rfl, -⟩ := hC.rd hse hk
   exact h.read (hs hse) r hA.arm.len
 ·obtain ⟨-, rfl, -⟩ := hC.gone hse
  exact h.more (by omega)
theorem pow2_spec : Fn Tryz.prog 258 #[vint 16] [] fun v L => v = .bool true ∧ L = [] := by
 refine Fn.intro Tryz.func258 rfl rfl fun F W => ?_
 refine .sr (.an rfl (.sm rfl (.m rfl (.q (.sub rfl rfl (by omega)) rfl (.q (.as (v' := vint 0) (by rfl) (.and rfl rfl)) rfl (.ui rfl rfl rfl (.an rfl (.ret ?_))))))))
 exact .vv
theorem fbits_spec (p : HP) (hT : TzP p) (u0 : Nat) (hu : u0 < 18446744073709551616) : Fn Tryz.prog 227 #[nilV, .int .u64 (u0 : Int), vint 16, .bool false, .bool false] [p] fun v L => v = .tuple #[nilV, vstr (hexZ u0)] ∧ L = [p] := by
 refine Fn.intro Tryz.func227 rfl rfl fun F W => ?_
 have hl0 := hexZ_len hu
 refine .sr (.a rfl (.an rfl (.seq (.sm rfl (.q (.as (v' := .bool false) (by rfl) (.int rfl rfl rfl)) rfl (.m rfl (.grun (t := 21) rfl rfl rfl (.m rfl (.grun (t := 21) rfl rfl rfl (.q (.as (v' := .bool false) (by rfl) (.int rfl rfl rfl)) rfl (.u (.pickF rfl rfl) (.m rfl (.grun (t := 25) rfl rfl rfl (.m rfl (.grun (t := 25) rfl rfl rfl (.q (.as (v' := .bool false) (by rfl) (.int rfl rfl rfl)) rfl (.u (.pickF rfl rfl) (.nt (.condF rfl (.sk (.sr (.oq (.allocA ze_307) ?_))))))))))))))))))))))
 rintro v L' ⟨ba, rfl, rfl⟩
 refine .nt (.seq (.pc ba ((List.replicate 65 (0 : UInt8)).map vbyte) ?_))
 refine .region (.an rfl (.seq (.sm rfl (.nt (.condF rfl (.sk (.seq (.sm rfl (.cv Tryz.func258 [_] (pow2_spec) ?_)))))))))
 refine .nt (.condT rfl (.sm rfl (.q (.as (v' := .int .u64 16) (by rfl) (.conv rfl Tryz.underlying3 Tryz.underlying160)) rfl (.cv Tryz.func259 [_] (tz_spec p hT) ?_))))
 refine .q (.as (v' := .int .u64 4) (by rfl) (.conv rfl Tryz.underlying3 Tryz.underlying160)) rfl (.an rfl (.sm rfl (.q (.as (v' := .int .u64 16) (by rfl) (.conv rfl Tryz.underlying3 Tryz.underlying180)) rfl (.an rfl (.sm rfl (.q (.as (v' := .int .u64 16) (by rfl) (.conv rfl Tryz.underlying3 Tryz.underlying160)) rfl (.q (.as (v' := .int .u64 15) (by rfl) (.int rfl rfl rfl)) rfl (.an rfl (.seq (.block (.loopK (ι := Nat × (List Value) × Bs) (fun q E => (1, .int .u64 (q.1 : Int)) :: (13, vint q.2.1.length) :: E) (fun q => [ptc ba (q.2.1 ++ q.2.2.map vbyte) 307]) (fun q => q.1 < 18446744073709551616 ∧ hexZ q.1 ++ q.2.2 = hexZ u0 ∧ q.2.1.length + q.2.2.length = 65) (fun q => q.1) (u0, (List.replicate 65 (0 : UInt8)).map vbyte, []) (ts := [0, 3, 4, 10, 11, 12, 14, 15, 16]) (.cons rfl (.cons rfl (.cons rfl (.cons rfl (.cons rfl (.cons rfl (.cons rfl (.cons rfl (.cons rfl (.nil)))))))))) (⟨hu, List.append_nil _, rfl⟩) ⟨rfl, rfl, rfl, rfl, rfl, rfl, rfl, rfl, rfl, rfl, rfl, trivial⟩ (by repeat' constructor) ?_)))))))))))
 rintro ⟨u, xs, ys⟩ ⟨hu1, hex, hxl⟩
 dsimp only
 dsimp only at hu1 hex hxl
 have hel := congrArg List.length hex
 rw [List.length_append] at hel
 have hl1 := hexZ_len hu1
 refine .seq (.sm rfl (.m rfl (.ui rfl rfl rfl (.nt (.condD rfl (fun h46 => ?_) (fun h46 => ?_))))))
 ·refine .sk (.block (.sm rfl (.q (.as (v' := vint (xs.dropLast.length : Nat)) (by exact congrArg (fun z : Int => vint z) (by rw [List.length_dropLast]; omega)) (.sub rfl rfl (by omega))) rfl (.an rfl (.sm rfl (.m rfl (.m rfl (.q (.as (v' := .int .u64 ((u % 16 : Nat) : Int)) (by exact congrArg (Value.int .u64) (and15 hu1)) (.and rfl rfl)) rfl (.q (.strIndex (c := hexD (u % 16)) rfl rfl Tryz.underlying9 (by omega) (by rw [Int.toNat_natCast]; exact digit_at _ (by omega))) rfl (.q (.indexArr rfl rfl ar_307 (by rw [List.length_dropLast]; omega)) rfl (.oq (.store rfl rfl rfl sz_5 ?c36 (nfz0 _ _)) ?_)))))))))))
  case c36 => simp; omega
  rintro v L' rfl
  refine .nil (.ptCast (b := ba) (l' := xs.dropLast ++ (hexD (u % 16) :: ys).map vbyte) (by repeat' constructor) (by rw [show ((0 : Nat) + ((xs.dropLast.length : Nat) : Int).toNat * 1) = xs.length - 1 from by rw [Int.toNat_natCast, List.length_dropLast]; omega]; exact set_last (by omega)) ?_)
  refine .then_n (.region (.m rfl (.m rfl (.q (.as (v' := .int .u64 ((u / 16 : Nat) : Int)) (by exact congrArg (Value.int .u64) (shr4 u)) (.shr rfl rfl (by first | decide | omega))) rfl (.a rfl (.nil (.blk_n (.then_n ?_))))))))
  exact .rk ((u / 16, xs.dropLast, hexD (u % 16) :: ys)) (⟨by dsimp only; omega, hex_step hex (by omega), by rw [List.length_dropLast, List.length_cons]; omega⟩) (by dsimp only; omega) ⟨rfl, rfl, rfl, rfl, rfl, rfl, rfl, rfl, rfl, rfl, rfl, trivial⟩
 refine .exit (.then_e (.then_e (.blk_e (.then_n (.sm rfl (.q (.as (v' := vint (xs.dropLast.length : Nat)) (by exact congrArg (fun z : Int => vint z) (by rw [List.length_dropLast]; omega)) (.sub rfl rfl (by omega))) rfl (.an rfl (.region (.m rfl (.m rfl (.q (.strIndex (c := hexD u) rfl rfl Tryz.underlying9 (by omega) (by rw [Int.toNat_natCast]; exact digit_at _ (by omega))) rfl (.q (.indexArr rfl rfl ar_307 (by rw [List.length_dropLast]; omega)) rfl (.oq (.store rfl rfl rfl sz_5 ?c47 (nfz0 _ _)) ?_)))))))))))))
 case c47 => simp; omega
 rintro v L' rfl
 refine .nil (.ptCast (b := ba) (l' := xs.dropLast ++ (hexD u :: ys).map vbyte) (by repeat' constructor) (by rw [show ((0 : Nat) + ((xs.dropLast.length : Nat) : Int).toNat * 1) = xs.length - 1 from by rw [Int.toNat_natCast, List.length_dropLast]; omega]; exact set_last (by omega)) ?_)
 have hul : (hexZ u).length = 1 := by rw [hexZ_lt (by omega)]; rfl
 have hfin : hexD u :: ys = hexZ u0 := by rw [← hex, hexZ_lt (by omega)]; rfl
 rw [hfin]
 have hdl : xs.dropLast.length = xs.length - 1 := List.length_dropLast
 refine .then_n (.seq (.sm rfl (.nt (.condF rfl (.sk (.seq (.sm rfl (.nt (.condF rfl (.sk (.sm rfl (.q (.to (v' := .slice (some ⟨ba, xs.length - 1, none⟩) (hexZ u0).length (hexZ u0).length) (.arrSlice (i := ((xs.dropLast.length : Nat) : Int)) (j := 65) rfl ar_307 rfl rfl (by omega)) (by rw [if_neg (by omega)]; congr 3 <;> omega)) rfl (.q (.bytesPt (cs := hexZ u0) rfl Tryz.underlying181 Tryz.underlying5 Tryz.underlying9 (by repeat' constructor) (by rw [show xs.length - 1 = xs.dropLast.length from hdl.symm, List.drop_left, List.take_of_length_le (by rw [List.length_map]; exact Nat.le_refl _)]) (by rw [List.length_append, List.length_map, hdl]; omega) (Nat.le_refl _)) rfl (.an rfl (.ret ?_)))))))))))))))
 exact .vv
theorem fuint0_spec (p : HP) (hT : TzP p) (u0 : Nat) (hu : u0 < 18446744073709551616) : Fn Tryz.prog 174 #[.int .u64 (u0 : Int), vint 16] [p] fun v L => v = vstr (hexZ u0) ∧ L = [p] := by
 refine Fn.intro Tryz.func174 rfl rfl fun F W => ?_
 refine .sr (.an rfl (.seq (.sm rfl (.q (.as (v' := .bool false) (by rfl) (.int rfl rfl rfl)) rfl (.nt (.condF rfl (.sk (.sm rfl (.m rfl (.cv Tryz.func227 [_, _, _, _, _] (fbits_spec p hT u0 hu) ?_))))))))))
 refine .m rfl (.u (.extract rfl rfl) (.u (.extract rfl rfl) (.a rfl (.an rfl (.sm rfl (.an rfl (.ret ?_)))))))
 exact .vv
theorem fuint_spec (p : HP) (hT : TzP p) (u0 : Nat) (hu : u0 < 18446744073709551616) : Fn Tryz.prog 95 #[.int .u64 (u0 : Int), vint 16] [p] fun v L => v = vstr (hexZ u0) ∧ L = [p] := by
 refine Fn.intro Tryz.func95 rfl rfl fun F W => ?_
 refine .sr (.an rfl (.sm rfl (.m rfl (.cv Tryz.func174 [_, _] (fuint0_spec p hT u0 hu) ?_))))
 refine .an rfl (.ret ?_)
 exact .vv
theorem digest_spec (p : HP) (hT : TzP p) (name secret : Bs) (hn : name.length ≤ 1048576) (hs : secret.length ≤ 1048576) : Fn Tryz.prog 52 #[vstr name, vstr secret] [p] fun v L => v = .tuple #[vstr (digestZ name secret).1, vint (digestZ name secret).2] ∧ L = [p] := by
 refine Fn.intro Tryz.func52 rfl rfl fun F W => ?_
 refine .sr (.a rfl (.an rfl (.seq (.sm rfl (.cv Tryz.func94 [_] (auser_spec name) ?_)))))
 refine .u (.not rfl) (.nt (.condB rfl (fun h12 => ?_) (fun h12 => ?_)))
 ·refine .sr (.a rfl (.an rfl (.rt ?_)))
  exact .dn rfl rfl ⟨by have hu : ¬ userZ name = true := (by simpa using h12); unfold digestZ; rw [if_neg hu], rfl⟩
 refine .sk (.sr (.an rfl (.seq (.seq ?_))))
 have hnl : (name ++ [58] ++ secret).length = name.length + 1 + secret.length := by rw [List.length_append, List.length_append, List.length_singleton]
 have hf := fnvN_lt (name ++ [58] ++ secret)
 have hxl := hexZ_len hf
 have hfc := fnv_cast (name ++ [58] ++ secret)
 have h58 : ([58] : Bs).length = 1 := rfl
 have hn58 : (name ++ [58]).length = name.length + 1 := by rw [List.length_append, h58]
 refine .region (.m rfl (.q (.concat rfl rfl (by omega)) rfl (.m rfl (.q (.concat rfl rfl (by omega)) rfl (.oq (.strBytes rfl Tryz.underlying9 Tryz.underlying181 Tryz.underlying5) ?_)))))
 rintro v L' ⟨rfl, b17, c17, rfl⟩
 refine .q (.slen rfl Tryz.underlying181 rfl) rfl (.m rfl (.nil ?_))
 obtain ⟨m, hm⟩ : ∃ m, m = name ++ [58] ++ secret := ⟨_, rfl⟩
 rw [← hm] at hnl hf hxl hfc ⊢
 refine .then_n (.block (.loopK (ι := Nat) (fun q E => (19, vint q) :: (6, .int .u64 (fnvZ (m.take q))) :: E) (fun q => []) (fun q => q ≤ m.length) (fun q => m.length - q) (0) (ts := [0, 4, 5, 17, 18]) (.cons rfl (.cons rfl (.cons rfl (.cons rfl (.cons rfl (.nil)))))) (Nat.zero_le _) ⟨rfl, rfl, rfl, rfl, rfl, rfl, rfl, trivial⟩ (by repeat' constructor) ?_))
 rintro i hi
 refine .sr (.ui rfl rfl rfl (.nt (.seq (.condD rfl (fun h20 => ?_) (fun h20 => ?_)))))
 ·have hi2 : i < m.length := by omega
  refine .sk (.seq (.block (.sr (.q (.indexAddr rfl rfl el_181 (by omega)) rfl (.q (.loadEl (p := slR 5 1 _ m.length (m.map vbyte)) (i := i * 1) (v := vbyte m[i]) rfl ag_5 (by repeat' constructor) (fun h hp => slR_rd hp) (by simp [hi2])) rfl (.an rfl (.region (.m rfl (.m rfl (.q (.conv rfl Tryz.underlying5 Tryz.underlying180) rfl (.u (.xor rfl rfl) (.ui rfl rfl rfl (.a rfl (.nil (.blk_n (.then_n (.region (.q (.add rfl rfl (by omega)) rfl (.m rfl (.nt ?_))))))))))))))))))))
  rw [show IntKind.u64.wrap (IntKind.u64.wrap (BitVec.ofInt IntKind.u64.bits (fnvZ (m.take i)) ^^^ BitVec.ofInt IntKind.u64.bits (IntKind.u64.wrap (m[i].toNat : Int))).toNat * 1099511628211) = fnvZ (m.take (i + 1)) from (fnv_step hi2).symm]
  exact .rk (i + 1) (by omega) (by omega) ⟨rfl, rfl, rfl, rfl, rfl, rfl, rfl, trivial⟩
 have hie : i = m.length := by omega
 subst hie
 rw [List.take_length, ← hfc]
 have hrl : (List.replicate (16 - (hexZ (fnvN m)).length) (48 : UInt8)).length = 16 - (hexZ (fnvN m)).length := List.length_replicate
 have hcl : (name ++ [58] ++ List.replicate (16 - (hexZ (fnvN m)).length) (48 : UInt8)).length = name.length + 1 + (16 - (hexZ (fnvN m)).length) := by rw [List.length_append, hn58, hrl]
 refine .exit (.then_e (.then_e (.blk_e (.then_n (.sm rfl (.cv Tryz.func95 [_, _] (fuint_spec p hT (fnvN m) hf) ?_))))))
 refine .an rfl (.sm rfl (.q (.concat rfl rfl (by omega)) rfl (.m rfl (.q (.strlen rfl Tryz.underlying9 rfl) rfl (.q (.to (v' := vint ((16 - (hexZ (fnvN m)).length : Nat) : Int)) (.sub rfl rfl (by omega)) (by congr 1; omega)) rfl (.cv Tryz.func96 [_, _] (repeatN_spec (16 - (hexZ (fnvN m)).length) (by omega)) ?_))))))
 refine .q (.concat rfl rfl (by omega)) rfl (.m rfl (.q (.concat rfl rfl (by omega)) rfl (.a rfl (.an rfl (.ret ?_)))))
 exact .dn rfl rfl ⟨by have hu : userZ name = true := (by simpa using h12); unfold digestZ digZ; rw [if_pos hu, ← hm], rfl⟩
end Go.Proofs.YtmbnebafdhpgpaaGreatDoor
