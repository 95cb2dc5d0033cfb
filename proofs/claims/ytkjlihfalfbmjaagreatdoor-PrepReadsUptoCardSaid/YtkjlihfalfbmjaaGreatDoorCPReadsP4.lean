/- Own work, some of it printed by program, texts that were built one by one: a part of the proof of prepReads.proved. -/
import Derived.Test.YtkjlihfalfbmjaaGreatDoorCPReadsP3
import Derived.Test.YtkjlihfalfbmjaaGreatDoorCPReadsP0
import Derived.Test.YtkjlihfalfbmjaaGreatDoorCPReadsP2
import Derived.Test.YtkjlihfalfbmjaaGreatDoorRows
import Derived.WalkKit
import Derived.ProofKit
import Derived.OpenShut
import Derived.JoinedCond
import Derived.Carry
import Derived.Deep.Grids
import Derived.Handed
import Derived.Deep.Strs
set_option maxRecDepth 100000
namespace Go.Proofs.YtkjlihfalfbmjaaGreatDoor
open Go
theorem r6given_spec (va iv : Value) (l : List Ac) (ids : List Bs) (p q : HP) (hp : ∀ h : Hp, p h → rdS 2 h va l.length (l.flatMap acC)) (hq : ∀ h : Hp, q h → rdS 1 h iv ids.length (strs ids)) (hl : l.length ≤ 1048576) (hn : ids.length ≤ 1048576) (bit : Int) : Fn Tryz.prog 194 #[va, vint bit, iv] [p, q] fun v L => v = .bool (givenB l bit ids) ∧ L = [p, q] := by
 refine Fn.intro Tryz.func194 rfl rfl fun F W => ?_
 refine .rdAny (p := p) hp (by repeat' constructor) fun aa ca e0 _ => ?_
 subst e0
 refine .rdAny (p := q) hq (by repeat' constructor) fun ai ci e0 _ => ?_
 subst e0
 refine .sr (.an rfl (.seq (.sr (.an rfl (.block (.loopK (ι := Nat) (fun q E => (7, vint q) :: E) (fun q => []) (fun q => q ≤ l.length ∧ ∀ j (hj : j < q) (hj2 : j < l.length), ¬ (¬ andI l[j].1 bit = 0 ∧ hitsA ids l[j] = true)) (fun q => l.length - q) (0) (ts := [0, 1, 2]) (.cons rfl (.cons rfl (.cons rfl (.nil)))) (⟨Nat.zero_le _, fun j hj => by omega⟩) ⟨rfl, rfl, rfl, rfl, trivial⟩ (by repeat' constructor) ?_))))))
 rintro i ⟨hi, hno⟩
 refine .seq (.sm rfl (.m rfl (.q (.slen rfl Tryz.underlying24 rfl) rfl (.ui rfl rfl rfl (.nt (.condD rfl (fun h12 => ?_) (fun h12 => ?_)))))))
 ·have hi2 : i < l.length := by omega
  refine .rdShape (p := p) hp (by repeat' constructor) (by omega) fun ba oa e0 => ?_
  subst e0
  refine .sk (.seq (.block (.seq (.sm rfl (.m rfl (.q (.indexAddr rfl rfl el_24 (by omega)) rfl (.u (.fieldAddr rfl fo_85_0) (.q (.loadRd (sz := 2) (j := i * 2 + 0) (p := p) (v := vint l[i].1) rfl ag_3 (by repeat' constructor) hp (by first | omega | (simp; done) | (simp; omega)) ((ac_cell (k := 0) hi2 (by decide)).trans rfl)) rfl (.m rfl (.u (.andI rfl rfl) (.ui rfl rfl rfl (.nt (.condD rfl (fun h22 => ?_) (fun h22 => ?_))))))))))))))
  ·refine .exit (.then_e (.blk_e (.then_n (.region (.m rfl (.q (.add rfl rfl (by omega)) rfl (.an rfl ?_)))))))
   exact .rk (i + 1) (⟨by omega, fun j hj hj2 => by by_cases e : j = i; (subst e; exact fun g => g.1 h22); exact hno j (by omega) hj2⟩) (by omega) ⟨rfl, rfl, rfl, rfl, trivial⟩
  refine .sk (.seq (.sm rfl (.m rfl (.q (.indexAddr rfl rfl el_24 (by omega)) rfl (.u (.fieldAddr rfl fo_85_1) (.q (.loadRd (sz := 2) (j := i * 2 + 1) (p := p) (v := vstr l[i].2) rfl ag_9 (by repeat' constructor) hp (by first | omega | (simp; done) | (simp; omega)) ((ac_cell (k := 1) hi2 (by decide)).trans rfl)) rfl (.u (.streq rfl rfl) (.nt (.condD rfl (fun h28 => ?_) (fun h28 => ?_))))))))))
  ·refine .sr (.an rfl (.rt (.blk_r (.then_r (.then_r (.blk_r (.then_r ?_)))))))
   exact .dn rfl rfl ⟨by rw [given_at hi2 h22 (hits_world h28)], rfl⟩
  refine .sk (.sr (.an rfl (.block (.loopK (ι := Nat) (fun q E => (8, vint q) :: E) (fun q => []) (fun q => q ≤ ids.length ∧ ∀ m (hm : m < q) (hm2 : m < ids.length), ids[m] ≠ l[i].2) (fun q => ids.length - q) (0) (ts := [0, 1, 2, 7, 9, 10, 11, 12, 15, 16, 17, 18, 19, 20, 21, 22, 23, 24, 25, 26, 27, 28]) (.cons rfl (.cons rfl (.cons rfl (.cons rfl (.cons rfl (.cons rfl (.cons rfl (.cons rfl (.cons rfl (.cons rfl (.cons rfl (.cons rfl (.cons rfl (.cons rfl (.cons rfl (.cons rfl (.cons rfl (.cons rfl (.cons rfl (.cons rfl (.cons rfl (.cons rfl (.nil))))))))))))))))))))))) (⟨Nat.zero_le _, fun m hm => by omega⟩) ⟨rfl, rfl, rfl, rfl, rfl, rfl, rfl, rfl, rfl, rfl, rfl, rfl, rfl, rfl, rfl, rfl, rfl, rfl, rfl, rfl, rfl, rfl, rfl, trivial⟩ (by repeat' constructor) ?_))))
  rintro k ⟨hk, hk2⟩
  refine .seq (.sm rfl (.m rfl (.q (.slen rfl Tryz.underlying23 rfl) rfl (.ui rfl rfl rfl (.nt (.condD rfl (fun h32 => ?_) (fun h32 => ?_)))))))
  ·have hk3 : k < ids.length := by omega
   refine .rdShape (p := q) hq (by repeat' constructor) (by omega) fun bb ob e0 => ?_
   subst e0
   refine .sk (.seq (.block (.seq (.draw [] [[0, 1, 2, 3, 4, 5, 6, 7, 8, 9]] mixed (by kernel_rfl) (.g0 (.mv rfl rfl (.mv rfl rfl (.kv rfl (.indexAddr rfl rfl el_23 (by omega)) (.kv rfl (.loadEl (p := q) (i := k * 1) (v := vstr ids[k]) rfl ag_9 (by repeat' constructor) hq (by rw [Nat.mul_one]; simp [hk3])) (.mv rfl rfl (.mv rfl rfl (.kv rfl (.indexAddr rfl rfl el_24 (by omega)) (.kv rfl (.fieldAddr rfl fo_85_1) (.kv rfl (.loadRd (sz := 2) (j := i * 2 + 1) (p := p) (v := vstr l[i].2) rfl ag_9 (by repeat' constructor) hp (by first | omega | (simp; done) | (simp; omega)) ((ac_cell (k := 1) hi2 (by decide)).trans rfl)) (.kv rfl (.streq rfl rfl) (.pf (.condD rfl (fun h44 => ?_) (fun h44 => ?_))))))))))))))))))
   ·refine .sr (.an rfl (.ret (.blk_r (.then_r (.then_r (.blk_r (.blk_r (.then_r (.then_r (.blk_r (.then_r ?_)))))))))))
    exact .dn rfl rfl ⟨by rw [given_at hi2 h22 (hits_mem hk3 h44)], rfl⟩
   refine .skip (.blk_n (.then_n (.region (.m rfl (.q (.add rfl rfl (by omega)) rfl (.an rfl ?_))))))
   exact .rk (k + 1) (⟨by omega, fun m hm hm2 => by by_cases e : m = k; (subst e; exact h44); exact hk2 m (by omega) hm2⟩) (by omega) ⟨rfl, rfl, rfl, rfl, rfl, rfl, rfl, rfl, rfl, rfl, rfl, rfl, rfl, rfl, rfl, rfl, rfl, rfl, rfl, rfl, rfl, rfl, rfl, trivial⟩
  refine .exit (.then_e (.then_e (.blk_e (.blk_n (.then_n (.region (.m rfl (.q (.add rfl rfl (by omega)) rfl (.an rfl ?_)))))))))
  exact .rk (i + 1) (⟨by omega, fun j hj hj2 => by by_cases e : j = i; (subst e; exact fun g => hits_no h28 (fun m hm => hk2 m (by omega) hm) g.2); exact hno j (by omega) hj2⟩) (by omega) ⟨rfl, rfl, rfl, rfl, trivial⟩
 refine .exit (.then_e (.then_e (.blk_e (.then_n (.sr (.an rfl (.ret ?_)))))))
 exact .dn rfl rfl ⟨by rw [given_no (fun j hj => hno j (by omega) hj)], rfl⟩
theorem r6may_spec (va iv : Value) (l : List Ac) (ids : List Bs) (p q : HP) (hp : ∀ h : Hp, p h → rdS 2 h va l.length (l.flatMap acC)) (hq : ∀ h : Hp, q h → rdS 1 h iv ids.length (strs ids)) (hl : l.length ≤ 1048576) (hn : ids.length ≤ 1048576) (perms : Int) : Fn Tryz.prog 140 #[va, vint perms, iv] [p, q] fun v L => v = .bool (mayZ l perms ids) ∧ L = [p, q] := by
 refine Fn.intro Tryz.func140 rfl rfl fun F W => ?_
 refine .sr (.an rfl (.seq (.sm rfl (.ui rfl rfl rfl (.m rfl (.dec (t := 11) rfl (fun h1_11 => ?_) (fun h1_11 => ?_)))))))
 ·refine .kDT (t := 10) rfl h1_11 (.gk (.gk (.u (.pickT rfl rfl) (.nt (.condT rfl (.sr (.an rfl (.rt ?_))))))))
  exact .dn rfl rfl ⟨by rw [show mayZ l perms ids = false from Bool.eq_false_iff.2 (fun g => by have h := (may_iff _ _ _).1 g; have h1 := h.1; have h2 := h.2.1; first | omega | exact absurd (h.2.2 i hi2 h7_27) (by simpa using h30))], rfl⟩
 refine .kDF (t := 10) rfl h1_11 (.grun (t := 11) rfl rfl rfl (.m rfl (.grun (t := 11) rfl rfl rfl (.ui rfl rfl rfl (.u (.pickF rfl rfl) (.nt (.condD rfl (fun h14 => ?_) (fun h14 => ?_))))))))
 ·refine .sr (.an rfl (.rt ?_))
  exact .dn rfl rfl ⟨by rw [show mayZ l perms ids = false from Bool.eq_false_iff.2 (fun g => by have h := (may_iff _ _ _).1 g; have h1 := h.1; have h2 := h.2.1; first | omega | exact absurd (h.2.2 i hi2 h7_27) (by simpa using h30))], rfl⟩
 refine .sk (.seq (.sr (.an rfl (.block (.loopK (ι := Nat) (fun q E => (7, vint (bitI q)) :: E) (fun q => []) (fun q => q ≤ 5 ∧ ∀ j, j < q → andI perms (bitI j) ≠ 0 → givenB l (bitI j) ids = true) (fun q => 5 - q) (0) (ts := [0, 1, 2]) (.cons rfl (.cons rfl (.cons rfl (.nil)))) (⟨Nat.zero_le _, fun j hj => by omega⟩) ⟨rfl, rfl, rfl, rfl, trivial⟩ (by repeat' constructor) ?_)))))
 rintro i ⟨hi, hall⟩
 refine .seq (.sm rfl (.ui rfl rfl rfl (.nt (.condD rfl (fun h16 => ?_) (fun h16 => ?_)))))
 ·have hi2 : i < 5 := (bit_32 hi).1 h16
  have hbn := bit_next hi2
  refine .sk (.seq (.block (.sm rfl (.m rfl (.m rfl (.cv Tryz.func194 [_, _, _] (r6given_spec va iv l ids p q hp hq hl hn (bitI i)) ?_))))))
  refine .an rfl (.sm rfl (.m rfl (.u (.andI rfl rfl) (.ui rfl rfl rfl (.m rfl (.ndec (t := 27) rfl (fun h7_27 => ?_) (fun h7_27 => ?_)))))))
  ·refine .kNT (t := 26) rfl h7_27 (.grun (t := 27) rfl rfl rfl (.m rfl (.grun (t := 27) rfl rfl rfl (.u (.not rfl) (.u (.pickT rfl rfl) (.nt (.condB rfl (fun h30 => ?_) (fun h30 => ?_))))))))
   ·refine .sr (.an rfl (.ret (.blk_r (.then_r (.then_r (.blk_r (.then_r ?_)))))))
    exact .dn rfl rfl ⟨by rw [show mayZ l perms ids = false from Bool.eq_false_iff.2 (fun g => by have h := (may_iff _ _ _).1 g; have h1 := h.1; have h2 := h.2.1; first | omega | exact absurd (h.2.2 i hi2 h7_27) (by simpa using h30))], rfl⟩
   have hgv : givenB l (bitI i) ids = true := by simpa using h30
   refine .skip (.blk_n (.then_n (.region (.m rfl (.q (.to (v' := vint (bitI (i + 1))) (.mul rfl rfl (by omega)) (by rw [hbn.1])) rfl (.an rfl ?_))))))
   exact .rk (i + 1) (⟨by omega, fun j hj hb => by by_cases e : j = i; (subst e; exact hgv); exact hall j (by omega) hb⟩) (by omega) ⟨rfl, rfl, rfl, rfl, trivial⟩
  refine .kNF (t := 26) rfl h7_27 (.gk (.gk (.u (.pickF rfl rfl) (.nt (.condF rfl (.skip (.blk_n (.then_n (.region (.m rfl (.q (.to (v' := vint (bitI (i + 1))) (.mul rfl rfl (by omega)) (by rw [hbn.1])) rfl (.an rfl ?_))))))))))))
  exact .rk (i + 1) (⟨by omega, fun j hj hb => by by_cases e : j = i; (subst e; exact absurd hb (by simpa using h7_27)); exact hall j (by omega) hb⟩) (by omega) ⟨rfl, rfl, rfl, rfl, trivial⟩
 refine .exit (.then_e (.then_e (.blk_e (.then_n (.sr (.an rfl (.ret ?_)))))))
 exact .dn rfl rfl ⟨by rw [(may_iff _ _ _).2 ⟨by omega, by omega, fun j hj hb => hall j (by have := (bit_32 hi).2; omega) hb⟩], rfl⟩
theorem read_code (τ : Tr) (ids : List Bs) (r : Rq) : 0 ≤ readX τ ids r ∧ readX τ ids r ≤ 110 := by
 refine first_code fun e he => ?_
 simp only [readE, List.mem_cons, List.not_mem_nil, or_false] at he
 rcases he with rfl | rfl | rfl | rfl
 ·exact when_code (by omega)
 ·exact check_code _
 ·exact when_code (by omega)
 ·exact when_code (by omega)
theorem base_le (s : Bs) : (baseZ s).length ≤ s.length := by
 unfold baseZ
 rw [List.length_drop]; omega
theorem kids_short {τ : Tr} {N : Nat} (ho : τ.Ok N) {p s : Bs} (h : s ∈ kidsZ τ p) : s.length ≤ 60 := by
 unfold kidsZ at h
 obtain ⟨y, hy, rfl⟩ := List.mem_map.1 h
 have := able_len (ho.able y (List.mem_filter.1 hy).1)
 have := base_le y.1
 omega
theorem acl_w {τ : Tr} (hw : TrW τ) (p : Bs) : AclW (aclD τ p) := by
 unfold aclD
 rcases hn : alook τ.nodes p with _ | n
 case none => exact acl_nil_w
 case some => exact (hw.nd _ (al_mem hn)).acl
theorem data_w {τ : Tr} (hw : TrW τ) (p : Bs) : (dataD τ p).length ≤ 1048576 := by
 unfold dataD
 rcases hn : alook τ.nodes p with _ | n
 case none => exact Nat.zero_le _
 case some => exact (hw.nd _ (al_mem hn)).d
theorem read_i {τ : Tr} (hw : TrW τ) {N : Nat} (ho : τ.Ok N) (hN : N ≤ 1048576) {ids : List Bs} {r : Rq} (hx : I64 r.xid) (av kv : Value) : RpI (readR τ ids r av kv) := by
 have hc := read_code τ ids r
 refine ⟨hx, hw.zx, ⟨by show -9223372036854775808 ≤ readX τ ids r; omega, by show readX τ ids r ≤ _; omega⟩, Nat.zero_le _, ?_, ?_⟩
 ·show (if readX τ ids r = 0 ∧ r.kind = 9 then dataD τ r.path else []).length ≤ _
  split
  ·exact data_w hw _
  ·exact Nat.zero_le _
 ·show ∀ n ∈ nums9 (if readX τ ids r = 0 then statD τ r.path else st0), I64 n
  split
  ·exact st9_i64 hw ho (by omega) _
  ·decide
theorem readAl_w {τ : Tr} (hw : TrW τ) (ids : List Bs) (r : Rq) : AclW (readAl τ ids r) := by
 unfold readAl
 split
 ·exact acl_w hw _
 ·exact acl_nil_w
theorem readKl_w {τ : Tr} {N : Nat} (ho : τ.Ok N) (hN : N ≤ 1048576) (ids : List Bs) (r : Rq) : (readKl τ ids r).length ≤ 1048576 ∧ ∀ s ∈ readKl τ ids r, s.length ≤ 1048576 := by
 unfold readKl
 split
 ·have h1 := kidsZ_len τ r.path
  have h2 := ho.few
  exact ⟨by omega, fun s hs => by have := kids_short ho hs; omega⟩
 ·exact ⟨Nat.zero_le _, fun s hs => by cases hs⟩
theorem read_L {τ : Tr} (hw : TrW τ) {N : Nat} (ho : τ.Ok N) (hN : N ≤ 1048576) {ids : List Bs} {r : Rq} (hx : I64 r.xid) {av kv : Value} {p : HP} (ha : ∀ h : Hp, p h → rdS 2 h av (readAl τ ids r).length ((readAl τ ids r).flatMap acC)) (hk : ∀ h : Hp, p h → rdS 1 h kv (readKl τ ids r).length (strs (readKl τ ids r)))
  (hav : ∃ a c, av = .slice a (readAl τ ids r).length c) (hkv : ∃ a c, kv = .slice a (readKl τ ids r).length c) : RpL p (readR τ ids r av kv) (readAl τ ids r) (readKl τ ids r) [] := by
 have h1 := readKl_w ho hN ids r
 obtain ⟨a1, c1, e1⟩ := hav
 obtain ⟨a2, c2, e2⟩ := hkv
 exact ⟨⟨read_i hw ho hN hx av kv, ha, readAl_w hw ids r, hk, h1.1, h1.2⟩, fun _ _ => .inl ⟨rfl, rfl, none, 0, rfl⟩, Nat.zero_le _, (fun _ h => by cases h), (fun _ h => by cases h), ⟨_, _, _, e1⟩, ⟨_, _, _, e2⟩⟩
theorem rd_two {A B : HP} {sz n : Nat} {v : Value} {xs : List Value} (hb : ∀ h : Hp, B h → rdS sz h v n xs) : ∀ h : Hp, sep [A, B] h → rdS sz h v n xs := rd_tail hb
theorem read_same {τ : Tr} {r : Rq} {ids all : List Bs} (hs : readX τ all r = readX τ ids r) (a k a2 k2 : Value) : repB (readR τ ids r a k) (readAl τ ids r) (readKl τ ids r) [] = repB (readR τ all r a2 k2) (readAl τ all r) (readKl τ all r) [] := by
 unfold readAl readKl
 refine rep_same ⟨rfl, rfl, hs.symm⟩ ⟨rfl, ?_⟩ ?_ ?_ ?_ rfl
 ·show (if readX τ ids r = 0 ∧ r.kind = 9 then dataD τ r.path else []) = (if readX τ all r = 0 ∧ r.kind = 9 then dataD τ r.path else [])
  rw [hs]
 ·show (if readX τ ids r = 0 then statD τ r.path else st0) = (if readX τ all r = 0 then statD τ r.path else st0)
  rw [hs]
 ·rw [hs]
 ·rw [hs]
theorem r12may_spec (z : Rno) (perms : Int) (iv : Value) (ids : List Bs) (p q : HP) (hp : ∀ h : Hp, p h → rdS 2 h z.2.1 z.2.2.acl.length (z.2.2.acl.flatMap acC)) (hq : ∀ h : Hp, q h → rdS 1 h iv ids.length (strs ids)) (hl : z.2.2.acl.length ≤ 1048576) (hn : ids.length ≤ 1048576) : Fn Tryz.prog 96 #[.agg (rnC z).toArray, vint perms, iv] [p, q] fun v L => v = .bool (mayZ z.2.2.acl perms ids) ∧ L = [p, q] := by
 refine Fn.intro Tryz.func96 rfl rfl fun F W => ?_
 refine .sr (.oq (.box rfl) ?_)
 rintro v L' ⟨b3, rfl, rfl⟩
 refine .a rfl (.nil (.ptCast (b := b3) (l' := rnC z) (by repeat' constructor) (by exact rfl) (.then_n (.sr (.u (.fieldAddr rfl fo_112_2) (.u (.ld rfl ag_24) (.m rfl (.m rfl (.cv Tryz.func140 [_, _, _] (r6may_spec z.2.1 iv z.2.2.acl ids p q hp hq hl hn perms) ?_)))))))))
 refine .an rfl (.ret ?_)
 exact .vv
theorem r12rows_spec (v : Value) (xs : List Ac) (p : HP) (hp : ∀ h : Hp, p h → rdS 2 h v xs.length (xs.flatMap acC)) (hn : xs.length ≤ 1048576) : Fn Tryz.prog 97 #[v] [p] fun u L => (∃ a c, u = .slice a xs.length c) ∧ L = [p, slR 85 2 u xs.length (xs.flatMap acC)] := by
 refine Fn.intro Tryz.func97 rfl rfl fun F W => ?_
 refine .rdAny (p := p) hp (by repeat' constructor) fun a c e0 hl => ?_
 subst e0
 refine .add (slR_nil 85 2) (.sr (.an rfl (.sr (.an rfl (.sm rfl (.m rfl (.oq (.append (n := 0) (m := xs.length) (ys := xs.flatMap acC) (p := p) rfl rfl rfl el_24 (.inl ⟨_, Tryz.underlying24⟩) ze_85 rfl rfl ?hc4 hp ?hb5 (by decide)) ?_)))))))
 case hc4 => exact acC_cells _
 case hb5 => omega
 rintro v L' ⟨⟨a3, c3, rfl⟩, rfl⟩; rw [Nat.zero_add, List.nil_append]
 refine .an rfl (.ret ?_)
 exact .dn rfl rfl ⟨⟨_, _, rfl⟩, rfl⟩
theorem r12read_spec (x : Nat) (τ : Tr) (ids : List Bs) (iv : Value) (r : Rq) (p : HP) (hA : WiA p ⟨0, ids⟩ iv r) (N : Nat) (ho : τ.Ok N) (hN : N ≤ 1073741824) : Fn Tryz.prog 41 #[vptr x, iv, .agg (rqC r).toArray] [refR x τ, p] fun v L =>
    ∃ av kv : Value, v = .agg (rpC (readR τ ids r av kv)).toArray ∧ (∃ a c, av = .slice a (readAl τ ids r).length c) ∧ (∃ a c, kv = .slice a (readKl τ ids r).length c) ∧ L = [refR x τ, p, slR 85 2 av (readAl τ ids r).length ((readAl τ ids r).flatMap acC), slR 9 1 kv (readKl τ ids r).length (strs (readKl τ ids r))] := by
 refine Fn.intro Tryz.func41 rfl rfl fun F W => ?_
 have hof := ho.few
 have hfewi := hA.few
 refine .sr (.oq (.box rfl) ?_)
 rintro v L' ⟨b5, rfl, rfl⟩
 refine .oq (.allocA ze_57) ?_
 rintro v L' ⟨b6, rfl, rfl⟩
 refine .nil (.ptCast (b := b5) (l' := rqC r) (by repeat' constructor) (by exact rfl) (.then_n (.seq (.rtOpen (x := x) (τ := τ) (by repeat' constructor) fun an cn as1 cs l hl => (.draw [7, 8] [[0, 1, 2, 3, 4, 5, 6, 7], [8]] mixed (by kernel_rfl) (.go [ptc b5 _ _, ptc x _ _] (by repeat' constructor) (.k rfl (.fieldAddr rfl fo_28_1) (.k rfl (.ld rfl ag_3) (.k rfl (.move rfl) (.k rfl (.nilp rfl) (.k rfl (.fieldAddr rfl fo_110_2) (.k rfl (.ld rfl ag_3) (.k rfl (.to (v' := .agg (rpC ⟨r.xid, τ.zx, 0, [], [], st0, nilV, nilV, nilV⟩).toArray) (.buildN (pl := [(0, 1), (1, 1), (2, 1), (3, 1), (4, 1), (5, 9), (14, 1), (15, 1), (16, 1)]) (us := [(0, vint r.xid), (1, vint τ.zx)]) (cells := rpC ⟨r.xid, τ.zx, 0, [], [], st0, nilV, nilV, nilV⟩) Tryz.underlying57 (by kernel_rfl) ze_57 rfl rfl) rfl) (.hh rfl (.allocA ze_57) ?_))))))))))))))
 rintro v L' ⟨b7, rfl, rfl⟩
 refine D.ph (.g0 (.hh rfl (.storeA rfl rfl ?c14 sz_57 ?c17 ?c15 (nfz0 _ _)) ?_))
 case c14 => exact rp_cells rfl rfl rfl
 case c17 => rfl
 case c15 => simp
 rintro v L' rfl
 refine D.ph (.fin (.ptCast (b := b7) (l' := rpC ⟨r.xid, τ.zx, 0, [], [], st0, nilV, nilV, nilV⟩) (by repeat' constructor) (by exact rfl) (.rtFold (x := x) (τ := τ) (l := l) hl (by repeat' constructor) rfl rfl rfl rfl rfl (.then_n (.seq (.sr (.u (.fieldAddr rfl fo_28_0) (.u (.ld rfl ag_3) (.nt (.block (.seq (.joinK (ι := Unit) (fun q E => (21, .bool (decide (readK r.kind))) :: E) (fun q => []) (fun q => True) (pre := []) (ts := [0, 1, 5, 6, 7]) (.cons rfl (.cons rfl (.cons rfl (.cons rfl (.cons rfl (.nil)))))) (by repeat' constructor) ?_ ?_))))))))))))
 ·refine .sr (.ui rfl rfl rfl (.an rfl (.condD rfl (fun h21 => ?_) (fun h21 => ?_))))
  ·try have hrk : readK r.kind := h21
   refine .sk (.kB (t := 21) (b := decide (r.kind = 9)) (c := decide (readK r.kind)) rfl (by rw [decide_eq_true h21, decide_eq_true (show readK r.kind by unfold readK; omega)]) ?_)
   exact .mk (()) (trivial) ⟨rfl, rfl, rfl, rfl, rfl, rfl, trivial⟩
  try have h21a : ¬ r.kind = 9 := h21
  try have h21b : ¬ r.kind = 11 := h21
  try have hxv : readX τ ids r = 110 := by unfold readX readE; rw [show whenZ (¬ readK r.kind) 110 = 110 from if_pos h21]; rfl
  try have hxe : readX τ ids r ≠ 0 := by rw [hxv]; decide
  refine .sr (.ui rfl rfl rfl (.an rfl (.condD rfl (fun h21 => ?_) (fun h21 => ?_))))
  ·try have hrk : readK r.kind := h21
   refine .sk (.kB (t := 21) (b := decide (r.kind = 11)) (c := decide (readK r.kind)) rfl (by rw [decide_eq_true h21, decide_eq_true (show readK r.kind by unfold readK; omega)]) ?_)
   exact .mk (()) (trivial) ⟨rfl, rfl, rfl, rfl, rfl, rfl, trivial⟩
  try have h21a : ¬ r.kind = 9 := h21
  try have h21b : ¬ r.kind = 11 := h21
  try have hxv : readX τ ids r = 110 := by unfold readX readE; rw [show whenZ (¬ readK r.kind) 110 = 110 from if_pos h21]; rfl
  try have hxe : readX τ ids r ≠ 0 := by rw [hxv]; decide
  refine .sr (.ui rfl rfl rfl (.an rfl (.condD rfl (fun h21 => ?_) (fun h21 => ?_))))
  ·try have hrk : readK r.kind := h21
   refine .sk (.kB (t := 21) (b := decide (r.kind = 12)) (c := decide (readK r.kind)) rfl (by rw [decide_eq_true h21, decide_eq_true (show readK r.kind by unfold readK; omega)]) ?_)
   exact .mk (()) (trivial) ⟨rfl, rfl, rfl, rfl, rfl, rfl, trivial⟩
  try have h21a : ¬ r.kind = 9 := h21
  try have h21b : ¬ r.kind = 11 := h21
  try have hxv : readX τ ids r = 110 := by unfold readX readE; rw [show whenZ (¬ readK r.kind) 110 = 110 from if_pos h21]; rfl
  try have hxe : readX τ ids r ≠ 0 := by rw [hxv]; decide
  refine .region (.ui rfl rfl rfl (.an rfl (.kB (t := 21) (b := decide (r.kind = 10)) (c := decide (readK r.kind)) rfl (by exact decide_eq_decide.2 (by unfold readK; omega)) ?_)))
  exact .mk (()) (trivial) ⟨rfl, rfl, rfl, rfl, rfl, rfl, trivial⟩
 rintro _u _
 refine .condD rfl (fun h21 => ?_) (fun h21 => ?_)
 ·try have hrk : readK r.kind := h21
  refine .skip (.blk_n (.then_n (.sr (.u (.fieldAddr rfl fo_28_2) (.u (.ld rfl ag_9) (.cv Tryz.func39 [_] (rcheck_spec r.path (by have := hA.rq.path; omega)) ?_))))))
  refine .u (.fieldAddr rfl fo_57_2) (.oq (.store rfl rfl rfl sz_40 ?c30 (nfz0 _ _)) ?_)
  case c30 => simp
  rintro v L' rfl
  refine .nil (.ptCast (b := b7) (l' := rpC ⟨r.xid, τ.zx, checkZ r.path, [], [], st0, nilV, nilV, nilV⟩) (by repeat' constructor) (by exact rfl) (.then_n (.seq (.sr (.u (.fieldAddr rfl fo_57_2) (.u (.ld rfl ag_40) (.ui rfl rfl rfl (.nt (.condN rfl (fun h32 => ?_) (fun h32 => ?_))))))))))
  ·have hxv : readX τ ids r = checkZ r.path := by unfold readX readE; rw [show whenZ (¬ readK r.kind) 110 = 0 from if_neg (fun g => g hrk)]; exact (if_neg (by decide)).trans (if_pos h32)
   have hxe : readX τ ids r ≠ 0 := by rw [hxv]; exact h32
   refine .sr (.q (.to (v' := .agg (rpC (⟨r.xid, τ.zx, checkZ r.path, [], [], st0, nilV, nilV, nilV⟩ : Rp)).toArray) (.loadA rfl ag_57 (by repeat' constructor) (by simp)) (by rfl)) rfl (.oq (.storeA rfl rfl ?c37 sz_57 ?c40 ?c38 (nfz0 _ _)) ?_))
   case c37 => exact rp_cells rfl rfl rfl
   case c40 => rfl
   case c38 => simp
   rintro v L' rfl
   refine .nil ?_
   have hAl : readAl τ ids r = [] := readAl_no (fun g => hxe g.1)
   have hKl : readKl τ ids r = [] := readKl_no (fun g => hxe g.1)
   refine .add (slR_nil 85 2) (.as (q := slR 85 2 nilV (readAl τ ids r).length ((readAl τ ids r).flatMap acC)) (p := slR 85 2 nilV 0 []) (by repeat' constructor) (by rw [hAl]; rfl) (.add (slR_nil 9 1) (.as (q := slR 9 1 nilV (readKl τ ids r).length (strs (readKl τ ids r))) (p := slR 9 1 nilV 0 []) (by repeat' constructor) (by rw [hKl]; rfl) (.ptCast (b := b6) (l' := rpC (readR τ ids r nilV nilV)) (by repeat' constructor) (by rw [readR_bad hxe, hxv]; rfl) (.then_n (.rt ?_))))))
   exact .d1 rfl (.cellA rfl ag_57 (by repeat' constructor) (by simp) rfl) ⟨nilV, nilV, rfl, ⟨_, _, congrArg (fun l : List Ac => Value.slice _ l.length _) hAl.symm⟩, ⟨_, _, congrArg (fun l : List Bs => Value.slice _ l.length _) hKl.symm⟩, rfl⟩
  have hck : checkZ r.path = 0 := by omega
  rw [hck]
  refine .sk (.sm rfl (.u (.fieldAddr rfl fo_28_2) (.u (.ld rfl ag_9) (.cv Tryz.func95 [_, _] (rplace_spec x τ r.path (by omega)) ?_))))
  refine .an rfl (.seq (.sm rfl (.ui rfl rfl rfl (.nt (.condD rfl (fun h39 => ?_) (fun h39 => ?_))))))
  ·have hth : ¬ thereT τ r.path := fun g => absurd (place_iff.2 g) (by have h0 : placeTo τ.nodes r.path < 0 := h39; omega)
   have hxv : readX τ ids r = 60 := by unfold readX readE; rw [show whenZ (¬ readK r.kind) 110 = 0 from if_neg (fun g => g hrk), hck, show whenZ (¬ thereT τ r.path) 60 = 60 from if_pos hth]; rfl
   have hxe : readX τ ids r ≠ 0 := by rw [hxv]; decide
   refine .sr (.u (.fieldAddr rfl fo_57_2) (.oq (.store rfl rfl rfl sz_40 ?c49 (nfz0 _ _)) ?_))
   case c49 => simp
   rintro v L' rfl
   refine .nil (.ptCast (b := b7) (l' := rpC ⟨r.xid, τ.zx, 60, [], [], st0, nilV, nilV, nilV⟩) (by repeat' constructor) (by exact rfl) (.then_n (.sr (.q (.to (v' := .agg (rpC (⟨r.xid, τ.zx, 60, [], [], st0, nilV, nilV, nilV⟩ : Rp)).toArray) (.loadA rfl ag_57 (by repeat' constructor) (by simp)) (by rfl)) rfl (.oq (.storeA rfl rfl ?c53 sz_57 ?c56 ?c54 (nfz0 _ _)) ?_)))))
   case c53 => exact rp_cells rfl rfl rfl
   case c56 => rfl
   case c54 => simp
   rintro v L' rfl
   refine .nil ?_
   have hAl : readAl τ ids r = [] := readAl_no (fun g => hxe g.1)
   have hKl : readKl τ ids r = [] := readKl_no (fun g => hxe g.1)
   refine .add (slR_nil 85 2) (.as (q := slR 85 2 nilV (readAl τ ids r).length ((readAl τ ids r).flatMap acC)) (p := slR 85 2 nilV 0 []) (by repeat' constructor) (by rw [hAl]; rfl) (.add (slR_nil 9 1) (.as (q := slR 9 1 nilV (readKl τ ids r).length (strs (readKl τ ids r))) (p := slR 9 1 nilV 0 []) (by repeat' constructor) (by rw [hKl]; rfl) (.ptCast (b := b6) (l' := rpC (readR τ ids r nilV nilV)) (by repeat' constructor) (by rw [readR_bad hxe, hxv]; rfl) (.then_n (.rt ?_))))))
   exact .d1 rfl (.cellA rfl ag_57 (by repeat' constructor) (by simp) rfl) ⟨nilV, nilV, rfl, ⟨_, _, congrArg (fun l : List Ac => Value.slice _ l.length _) hAl.symm⟩, ⟨_, _, congrArg (fun l : List Bs => Value.slice _ l.length _) hKl.symm⟩, rfl⟩
  have hth : thereT τ r.path := place_iff.1 (by have h0 : ¬ placeTo τ.nodes r.path < 0 := h39; omega)
  obtain ⟨k, hk, hpk, hkp⟩ := place_get (l := τ.nodes) (place_iff.2 hth)
  have hpz : placeZ τ r.path = k := hpk
  rw [hpz]
  refine .sk (.seq (.rtOpen (x := x) (τ := τ) (by repeat' constructor) fun an cn as1 cs l hl => ?_))
  have hll := nds_len hl
  have hkl : k < l.length := by omega
  refine .slShape (T := 112) (sz := 12) (v := .slice an l.length cn) (xs := l.flatMap rnC) (by repeat' constructor) (by omega) fun bn bn' e0 mbn _ => ?_
  simp only [Value.slice.injEq, true_and] at e0
  obtain ⟨rfl, rfl⟩ := e0
  have hlk : alook τ.nodes r.path = some l[k].2.2 := by have g := nds_get hl (i := k) hkl; have g2 : alook τ.nodes (τ.nodes[k]).1 = some (τ.nodes[k]).2 := al_get' (ho.sorted.nodup linB) (i := k) hk; rw [hkp, show τ.nodes[k] = (l[k].1, l[k].2.2) from g] at g2; exact g2
  have hac : aclD τ r.path = l[k].2.2.acl := by unfold aclD; rw [hlk]; rfl
  have hacl := ho.acls _ (List.getElem_mem hk)
  have hlac : l[k].2.2.acl.length ≤ 1048576 := by have g := nds_get hl (i := k) hkl; rw [show τ.nodes[k] = (l[k].1, l[k].2.2) from g] at hacl; exact hacl
  refine .region (.m rfl (.nf rfl fo_110_0 (.u (.ld rfl ag_107) (.m rfl (.q (.indexAddr rfl rfl el_107 (by omega)) rfl (.q (.loadRdA (sz := 12) (j := k * 12) (k := 12) (p := rnR _ l) (vs := rnC l[k]) rfl ag_112 (by repeat' constructor) (fun h hp => slR_rd hp) (by omega) (by omega) (by omega) (flatMap_at (f := rnC) (sz := 12) (fun _ _ => rfl) (by omega))) rfl (.m rfl (.oq (.c Tryz.func96 [_, _, _] (r12may_spec l[k] 1 iv ids (bigR inA l) p (big_rd hkl) hA.ids hlac hA.few)) ?_))))))))
  rintro v L' ⟨rfl, rfl⟩; rw [← hac]
  refine .a rfl (.nil (.rtFold (x := x) (τ := τ) (l := l) hl (by repeat' constructor) rfl rfl rfl rfl rfl (.then_n (.seq (.sr (.u (.fieldAddr rfl fo_28_0) (.u (.ld rfl ag_3) (.ui rfl rfl rfl (.m rfl (.ndec (t := 54) rfl (fun h17_54 => ?_) (fun h17_54 => ?_)))))))))))
  ·refine .kNT (t := 53) rfl h17_54 (.grun (t := 54) rfl rfl rfl (.m rfl (.grun (t := 54) rfl rfl rfl (.u (.not rfl) (.q (.as (v' := .bool (decide (r.kind ≠ 10 ∧ ¬ mayT τ ids r.path 1))) (by simp [h17_54, mayT, hth]) (.pickT rfl rfl)) rfl (.nt (.condD rfl (fun h57 => ?_) (fun h57 => ?_))))))))
   ·have hxv : readX τ ids r = 65 := by unfold readX readE; rw [show whenZ (¬ readK r.kind) 110 = 0 from if_neg (fun g => g hrk), hck, show whenZ (¬ thereT τ r.path) 60 = 0 from if_neg (fun g => g hth), show whenZ (r.kind ≠ 10 ∧ ¬ mayT τ ids r.path 1) 65 = 65 from if_pos h57]; rfl
    have hxe : readX τ ids r ≠ 0 := by rw [hxv]; decide
    refine .sr (.u (.fieldAddr rfl fo_57_2) (.oq (.store rfl rfl rfl sz_40 ?c72 (nfz0 _ _)) ?_))
    case c72 => simp
    rintro v L' rfl
    refine .nil (.ptCast (b := b7) (l' := rpC ⟨r.xid, τ.zx, 65, [], [], st0, nilV, nilV, nilV⟩) (by repeat' constructor) (by exact rfl) (.then_n (.sr (.q (.to (v' := .agg (rpC (⟨r.xid, τ.zx, 65, [], [], st0, nilV, nilV, nilV⟩ : Rp)).toArray) (.loadA rfl ag_57 (by repeat' constructor) (by simp)) (by rfl)) rfl (.oq (.storeA rfl rfl ?c76 sz_57 ?c79 ?c77 (nfz0 _ _)) ?_)))))
    case c76 => exact rp_cells rfl rfl rfl
    case c79 => rfl
    case c77 => simp
    rintro v L' rfl
    refine .nil ?_
    have hAl : readAl τ ids r = [] := readAl_no (fun g => hxe g.1)
    have hKl : readKl τ ids r = [] := readKl_no (fun g => hxe g.1)
    refine .add (slR_nil 85 2) (.as (q := slR 85 2 nilV (readAl τ ids r).length ((readAl τ ids r).flatMap acC)) (p := slR 85 2 nilV 0 []) (by repeat' constructor) (by rw [hAl]; rfl) (.add (slR_nil 9 1) (.as (q := slR 9 1 nilV (readKl τ ids r).length (strs (readKl τ ids r))) (p := slR 9 1 nilV 0 []) (by repeat' constructor) (by rw [hKl]; rfl) (.ptCast (b := b6) (l' := rpC (readR τ ids r nilV nilV)) (by repeat' constructor) (by rw [readR_bad hxe, hxv]; rfl) (.then_n (.rt ?_))))))
    exact .d1 rfl (.cellA rfl ag_57 (by repeat' constructor) (by simp) rfl) ⟨nilV, nilV, rfl, ⟨_, _, congrArg (fun l : List Ac => Value.slice _ l.length _) hAl.symm⟩, ⟨_, _, congrArg (fun l : List Bs => Value.slice _ l.length _) hKl.symm⟩, rfl⟩
   have hx : readX τ ids r = 0 := by unfold readX readE; rw [show whenZ (¬ readK r.kind) 110 = 0 from if_neg (fun g => g hrk), hck, show whenZ (¬ thereT τ r.path) 60 = 0 from if_neg (fun g => g hth), show whenZ (r.kind ≠ 10 ∧ ¬ mayT τ ids r.path 1) 65 = 0 from if_neg h57]; rfl
   refine .sk (.sm rfl (.u (.fieldAddr rfl fo_28_2) (.u (.ld rfl ag_9) (.cv Tryz.func55 [_, _] (rstat_spec x τ r.path N ho hN) ?_))))
   refine .m rfl (.u (.extract rfl rfl) (.u (.extract rfl rfl) (.u (.fieldAddr rfl fo_57_5) (.oq (.storeA rfl rfl ?c89 sz_37 ?c92 ?c90 (nfz0 _ _)) ?_))))
   case c89 => intro v hv; simp only [stC, List.mem_cons, List.not_mem_nil, or_false] at hv; rcases hv with rfl | rfl | rfl | rfl | rfl | rfl | rfl | rfl | rfl <;> rfl
   case c92 => rfl
   case c90 => simp [stC]
   rintro v L' rfl
   refine .nil (.ptCast (b := b7) (l' := rpC ⟨r.xid, τ.zx, 0, [], [], statD τ r.path, nilV, nilV, nilV⟩) (by repeat' constructor) (by exact rfl) (.then_n (.seq (.sr (.u (.fieldAddr rfl fo_28_0) (.u (.ld rfl ag_3) (.nt (.block (.sr (.ui rfl rfl rfl (.an rfl (.condD rfl (fun h70 => ?_) (fun h70 => ?_)))))))))))))
   ·refine .rtOpen (x := x) (τ := τ) (by repeat' constructor) fun an cn as1 cs l hl => ?_
    have hll := nds_len hl
    have hkl : k < l.length := by omega
    refine .slShape (T := 112) (sz := 12) (v := .slice an l.length cn) (xs := l.flatMap rnC) (by repeat' constructor) (by omega) fun bn bn' e0 mbn _ => ?_
    simp only [Value.slice.injEq, true_and] at e0
    obtain ⟨rfl, rfl⟩ := e0
    have hlk : alook τ.nodes r.path = some l[k].2.2 := by have g := nds_get hl (i := k) hkl; have g2 : alook τ.nodes (τ.nodes[k]).1 = some (τ.nodes[k]).2 := al_get' (ho.sorted.nodup linB) (i := k) hk; rw [hkp, show τ.nodes[k] = (l[k].1, l[k].2.2) from g] at g2; exact g2
    have hda : dataD τ r.path = l[k].2.2.data := by unfold dataD; rw [hlk]; rfl
    refine .region (.m rfl (.nf rfl fo_110_0 (.u (.ld rfl ag_107) (.m rfl (.q (.indexAddr rfl rfl el_107 (by omega)) rfl (.u (.fieldAddr rfl fo_112_1) (.q (.to (v' := vstr (dataD τ r.path)) (.loadRd (sz := 12) (j := k * 12 + 1) (p := rnR _ l) rfl ag_9 (by repeat' constructor) (fun h hp => slR_rd hp) (by omega) ((rn_cell (l := l) (i := k) (k := 1) (by omega) (by decide)).trans rfl)) (by rw [hda])) rfl (.u (.fieldAddr rfl fo_57_4) (.oq (.store rfl rfl rfl sz_9 ?c105 (nfz0 _ _)) ?_)))))))))
    case c105 => simp
    rintro v L' rfl
    refine .nil (.ptCast (b := b7) (l' := rpC ⟨r.xid, τ.zx, 0, [], dataD τ r.path, statD τ r.path, nilV, nilV, nilV⟩) (by repeat' constructor) (by exact rfl) (.rtFold (x := x) (τ := τ) (l := l) hl (by repeat' constructor) rfl rfl rfl rfl rfl (.blk_n (.then_n (.sr (.q (.to (v' := .agg (rpC (⟨r.xid, τ.zx, 0, [], dataD τ r.path, statD τ r.path, nilV, nilV, nilV⟩ : Rp)).toArray) (.loadA rfl ag_57 (by repeat' constructor) (by simp)) (by rfl)) rfl (.oq (.storeA rfl rfl ?c109 sz_57 ?c112 ?c110 (nfz0 _ _)) ?_)))))))
    case c109 => exact rp_cells rfl rfl rfl
    case c112 => rfl
    case c110 => simp
    rintro v L' rfl
    refine .nil ?_
    have hAl : readAl τ ids r = [] := readAl_no (fun g => by have := g.2; omega)
    have hKl : readKl τ ids r = [] := readKl_no (fun g => by have := g.2; omega)
    refine .add (slR_nil 85 2) (.as (q := slR 85 2 nilV (readAl τ ids r).length ((readAl τ ids r).flatMap acC)) (p := slR 85 2 nilV 0 []) (by repeat' constructor) (by rw [hAl]; rfl) (.add (slR_nil 9 1) (.as (q := slR 9 1 nilV (readKl τ ids r).length (strs (readKl τ ids r))) (p := slR 9 1 nilV 0 []) (by repeat' constructor) (by rw [hKl]; rfl) (.ptCast (b := b6) (l' := rpC (readR τ ids r nilV nilV)) (by repeat' constructor) (by rw [readR_get hx h70]; rfl) (.then_n (.ret ?_))))))
    exact .d1 rfl (.cellA rfl ag_57 (by repeat' constructor) (by simp) rfl) ⟨nilV, nilV, rfl, ⟨_, _, congrArg (fun l : List Ac => Value.slice _ l.length _) hAl.symm⟩, ⟨_, _, congrArg (fun l : List Bs => Value.slice _ l.length _) hKl.symm⟩, rfl⟩
   refine .sr (.ui rfl rfl rfl (.an rfl (.condD rfl (fun h81 => ?_) (fun h81 => ?_))))
   ·refine .region (.m rfl (.u (.fieldAddr rfl fo_28_2) (.u (.ld rfl ag_9) (.oq (.c Tryz.func60 [_, _] (rkids_spec x τ r.path N ho hN)) ?_))))
    rintro v L' ⟨⟨ak, ck, rfl⟩, rfl⟩
    refine .u (.fieldAddr rfl fo_57_7) (.oq (.store rfl rfl rfl sz_23 ?c121 (nfz0 _ _)) ?_)
    case c121 => simp
    rintro v L' rfl
    refine .nil (.ptCast (b := b7) (l' := rpC ⟨r.xid, τ.zx, 0, [], [], statD τ r.path, nilV, (.slice ak (kidsZ τ r.path).length ck), nilV⟩) (by repeat' constructor) (by exact rfl) (.blk_n (.then_n (.sr (.q (.to (v' := .agg (rpC (⟨r.xid, τ.zx, 0, [], [], statD τ r.path, (nilV), (.slice ak (kidsZ τ r.path).length ck), nilV⟩ : Rp)).toArray) (.loadA rfl ag_57 (by repeat' constructor) (by simp)) (by rfl)) rfl (.oq (.storeA rfl rfl ?c125 sz_57 ?c128 ?c126 (nfz0 _ _)) ?_))))))
    case c125 => exact rp_cells rfl rfl rfl
    case c128 => rfl
    case c126 => simp
    rintro v L' rfl
    refine .nil ?_
    have hAl : readAl τ ids r = [] := readAl_no (fun g => by have := g.2; omega)
    have hKl : readKl τ ids r = kidsZ τ r.path := readKl_yes hx h81
    refine .add (slR_nil 85 2) (.as (q := slR 85 2 nilV (readAl τ ids r).length ((readAl τ ids r).flatMap acC)) (p := slR 85 2 nilV 0 []) (by repeat' constructor) (by rw [hAl]; rfl) (.as (q := slR 9 1 (.slice ak (kidsZ τ r.path).length ck) (readKl τ ids r).length (strs (readKl τ ids r))) (p := slR 9 1 (.slice ak (kidsZ τ r.path).length ck) (kidsZ τ r.path).length (strs (kidsZ τ r.path))) (by repeat' constructor) (by rw [hKl]) (.ptCast (b := b6) (l' := rpC (readR τ ids r nilV (.slice ak (kidsZ τ r.path).length ck))) (by repeat' constructor) (by rw [readR_other hx h70]; rfl) (.then_n (.ret ?_)))))
    exact .d1 rfl (.cellA rfl ag_57 (by repeat' constructor) (by simp) rfl) ⟨nilV, .slice ak (kidsZ τ r.path).length ck, rfl, ⟨_, _, congrArg (fun l : List Ac => Value.slice _ l.length _) hAl.symm⟩, ⟨_, _, congrArg (fun l : List Bs => Value.slice _ l.length _) hKl.symm⟩, rfl⟩
   refine .sr (.ui rfl rfl rfl (.an rfl (.condD rfl (fun h88 => ?_) (fun h88 => ?_))))
   ·refine .rtOpen (x := x) (τ := τ) (by repeat' constructor) fun an cn as1 cs l hl => ?_
    have hll := nds_len hl
    have hkl : k < l.length := by omega
    refine .slShape (T := 112) (sz := 12) (v := .slice an l.length cn) (xs := l.flatMap rnC) (by repeat' constructor) (by omega) fun bn bn' e0 mbn _ => ?_
    simp only [Value.slice.injEq, true_and] at e0
    obtain ⟨rfl, rfl⟩ := e0
    have hlk : alook τ.nodes r.path = some l[k].2.2 := by have g := nds_get hl (i := k) hkl; have g2 : alook τ.nodes (τ.nodes[k]).1 = some (τ.nodes[k]).2 := al_get' (ho.sorted.nodup linB) (i := k) hk; rw [hkp, show τ.nodes[k] = (l[k].1, l[k].2.2) from g] at g2; exact g2
    have hac : aclD τ r.path = l[k].2.2.acl := by unfold aclD; rw [hlk]; rfl
    have hacl := ho.acls _ (List.getElem_mem hk)
    have hlac : l[k].2.2.acl.length ≤ 1048576 := by have g := nds_get hl (i := k) hkl; rw [show τ.nodes[k] = (l[k].1, l[k].2.2) from g] at hacl; exact hacl
    refine .region (.m rfl (.nf rfl fo_110_0 (.u (.ld rfl ag_107) (.m rfl (.q (.indexAddr rfl rfl el_107 (by omega)) rfl (.u (.fieldAddr rfl fo_112_2) (.q (.loadRd (sz := 12) (j := k * 12 + 2) (p := rnR _ l) rfl ag_24 (by repeat' constructor) (fun h hp => slR_rd hp) (by omega) ((rn_cell (l := l) (i := k) (k := 2) (by omega) (by decide)).trans rfl)) rfl (.oq (.c Tryz.func97 [_] (r12rows_spec l[k].2.1 l[k].2.2.acl (bigR inA l) (big_rd hkl) hlac)) ?_))))))))
    rintro v L' ⟨⟨aa, ca, rfl⟩, rfl⟩; rw [← hac]
    refine .u (.fieldAddr rfl fo_57_6) (.oq (.store rfl rfl rfl sz_24 ?c141 (nfz0 _ _)) ?_)
    case c141 => simp
    rintro v L' rfl
    refine .nil (.ptCast (b := b7) (l' := rpC ⟨r.xid, τ.zx, 0, [], [], statD τ r.path, (.slice aa (aclD τ r.path).length ca), nilV, nilV⟩) (by repeat' constructor) (by exact rfl) (.rtFold (x := x) (τ := τ) (l := l) hl (by repeat' constructor) rfl rfl rfl rfl rfl (.blk_n (.then_n (.sr (.q (.to (v' := .agg (rpC (⟨r.xid, τ.zx, 0, [], [], statD τ r.path, (.slice aa (aclD τ r.path).length ca), (nilV), nilV⟩ : Rp)).toArray) (.loadA rfl ag_57 (by repeat' constructor) (by simp)) (by rfl)) rfl (.oq (.storeA rfl rfl ?c145 sz_57 ?c148 ?c146 (nfz0 _ _)) ?_)))))))
    case c145 => exact rp_cells rfl rfl rfl
    case c148 => rfl
    case c146 => simp
    rintro v L' rfl
    refine .nil ?_
    have hAl : readAl τ ids r = aclD τ r.path := readAl_yes hx h88
    have hKl : readKl τ ids r = [] := readKl_no (fun g => by have := g.2; omega)
    refine .add (slR_nil 9 1) (.as (q := slR 9 1 nilV (readKl τ ids r).length (strs (readKl τ ids r))) (p := slR 9 1 nilV 0 []) (by repeat' constructor) (by rw [hKl]; rfl) (.as (q := slR 85 2 (.slice aa (aclD τ r.path).length ca) (readAl τ ids r).length ((readAl τ ids r).flatMap acC)) (p := slR 85 2 (.slice aa (aclD τ r.path).length ca) (aclD τ r.path).length ((aclD τ r.path).flatMap acC)) (by repeat' constructor) (by rw [hAl]) (.ptCast (b := b6) (l' := rpC (readR τ ids r (.slice aa (aclD τ r.path).length ca) nilV)) (by repeat' constructor) (by rw [readR_other hx h70]; rfl) (.then_n (.ret ?_)))))
    exact .d1 rfl (.cellA rfl ag_57 (by repeat' constructor) (by simp) rfl) ⟨.slice aa (aclD τ r.path).length ca, nilV, rfl, ⟨_, _, congrArg (fun l : List Ac => Value.slice _ l.length _) hAl.symm⟩, ⟨_, _, congrArg (fun l : List Bs => Value.slice _ l.length _) hKl.symm⟩, rfl⟩
   refine .skip (.blk_n (.then_n (.sr (.q (.to (v' := .agg (rpC (⟨r.xid, τ.zx, 0, [], [], statD τ r.path, (nilV), (nilV), nilV⟩ : Rp)).toArray) (.loadA rfl ag_57 (by repeat' constructor) (by simp)) (by rfl)) rfl (.oq (.storeA rfl rfl ?c151 sz_57 ?c154 ?c152 (nfz0 _ _)) ?_)))))
   case c151 => exact rp_cells rfl rfl rfl
   case c154 => rfl
   case c152 => simp
   rintro v L' rfl
   refine .nil ?_
   have hAl : readAl τ ids r = [] := readAl_no (fun g => h88 g.2)
   have hKl : readKl τ ids r = [] := readKl_no (fun g => h81 g.2)
   refine .add (slR_nil 85 2) (.as (q := slR 85 2 nilV (readAl τ ids r).length ((readAl τ ids r).flatMap acC)) (p := slR 85 2 nilV 0 []) (by repeat' constructor) (by rw [hAl]; rfl) (.add (slR_nil 9 1) (.as (q := slR 9 1 nilV (readKl τ ids r).length (strs (readKl τ ids r))) (p := slR 9 1 nilV 0 []) (by repeat' constructor) (by rw [hKl]; rfl) (.ptCast (b := b6) (l' := rpC (readR τ ids r nilV nilV)) (by repeat' constructor) (by rw [readR_other hx h70]; rfl) (.then_n (.ret ?_))))))
   exact .d1 rfl (.cellA rfl ag_57 (by repeat' constructor) (by simp) rfl) ⟨nilV, nilV, rfl, ⟨_, _, congrArg (fun l : List Ac => Value.slice _ l.length _) hAl.symm⟩, ⟨_, _, congrArg (fun l : List Bs => Value.slice _ l.length _) hKl.symm⟩, rfl⟩
  refine .kNF (t := 53) rfl h17_54 (.gk (.gk (.q (.as (v' := .bool (decide (r.kind ≠ 10 ∧ ¬ mayT τ ids r.path 1))) (by simp [h17_54, mayT, hth]) (.pickF rfl rfl)) rfl (.nt (.condD rfl (fun h57 => ?_) (fun h57 => ?_))))))
  ·have hxv : readX τ ids r = 65 := by unfold readX readE; rw [show whenZ (¬ readK r.kind) 110 = 0 from if_neg (fun g => g hrk), hck, show whenZ (¬ thereT τ r.path) 60 = 0 from if_neg (fun g => g hth), show whenZ (r.kind ≠ 10 ∧ ¬ mayT τ ids r.path 1) 65 = 65 from if_pos h57]; rfl
   have hxe : readX τ ids r ≠ 0 := by rw [hxv]; decide
   refine .sr (.u (.fieldAddr rfl fo_57_2) (.oq (.store rfl rfl rfl sz_40 ?c158 (nfz0 _ _)) ?_))
   case c158 => simp
   rintro v L' rfl
   refine .nil (.ptCast (b := b7) (l' := rpC ⟨r.xid, τ.zx, 65, [], [], st0, nilV, nilV, nilV⟩) (by repeat' constructor) (by exact rfl) (.then_n (.sr (.q (.to (v' := .agg (rpC (⟨r.xid, τ.zx, 65, [], [], st0, nilV, nilV, nilV⟩ : Rp)).toArray) (.loadA rfl ag_57 (by repeat' constructor) (by simp)) (by rfl)) rfl (.oq (.storeA rfl rfl ?c162 sz_57 ?c165 ?c163 (nfz0 _ _)) ?_)))))
   case c162 => exact rp_cells rfl rfl rfl
   case c165 => rfl
   case c163 => simp
   rintro v L' rfl
   refine .nil ?_
   have hAl : readAl τ ids r = [] := readAl_no (fun g => hxe g.1)
   have hKl : readKl τ ids r = [] := readKl_no (fun g => hxe g.1)
   refine .add (slR_nil 85 2) (.as (q := slR 85 2 nilV (readAl τ ids r).length ((readAl τ ids r).flatMap acC)) (p := slR 85 2 nilV 0 []) (by repeat' constructor) (by rw [hAl]; rfl) (.add (slR_nil 9 1) (.as (q := slR 9 1 nilV (readKl τ ids r).length (strs (readKl τ ids r))) (p := slR 9 1 nilV 0 []) (by repeat' constructor) (by rw [hKl]; rfl) (.ptCast (b := b6) (l' := rpC (readR τ ids r nilV nilV)) (by repeat' constructor) (by rw [readR_bad hxe, hxv]; rfl) (.then_n (.rt ?_))))))
   exact .d1 rfl (.cellA rfl ag_57 (by repeat' constructor) (by simp) rfl) ⟨nilV, nilV, rfl, ⟨_, _, congrArg (fun l : List Ac => Value.slice _ l.length _) hAl.symm⟩, ⟨_, _, congrArg (fun l : List Bs => Value.slice _ l.length _) hKl.symm⟩, rfl⟩
  have hx : readX τ ids r = 0 := by unfold readX readE; rw [show whenZ (¬ readK r.kind) 110 = 0 from if_neg (fun g => g hrk), hck, show whenZ (¬ thereT τ r.path) 60 = 0 from if_neg (fun g => g hth), show whenZ (r.kind ≠ 10 ∧ ¬ mayT τ ids r.path 1) 65 = 0 from if_neg h57]; rfl
  refine .sk (.sm rfl (.u (.fieldAddr rfl fo_28_2) (.u (.ld rfl ag_9) (.cv Tryz.func55 [_, _] (rstat_spec x τ r.path N ho hN) ?_))))
  refine .m rfl (.u (.extract rfl rfl) (.u (.extract rfl rfl) (.u (.fieldAddr rfl fo_57_5) (.oq (.storeA rfl rfl ?c175 sz_37 ?c178 ?c176 (nfz0 _ _)) ?_))))
  case c175 => intro v hv; simp only [stC, List.mem_cons, List.not_mem_nil, or_false] at hv; rcases hv with rfl | rfl | rfl | rfl | rfl | rfl | rfl | rfl | rfl <;> rfl
  case c178 => rfl
  case c176 => simp [stC]
  rintro v L' rfl
  refine .nil (.ptCast (b := b7) (l' := rpC ⟨r.xid, τ.zx, 0, [], [], statD τ r.path, nilV, nilV, nilV⟩) (by repeat' constructor) (by exact rfl) (.then_n (.seq (.sr (.u (.fieldAddr rfl fo_28_0) (.u (.ld rfl ag_3) (.nt (.block (.sr (.ui rfl rfl rfl (.an rfl (.condD rfl (fun h70 => ?_) (fun h70 => ?_)))))))))))))
  ·refine .rtOpen (x := x) (τ := τ) (by repeat' constructor) fun an cn as1 cs l hl => ?_
   have hll := nds_len hl
   have hkl : k < l.length := by omega
   refine .slShape (T := 112) (sz := 12) (v := .slice an l.length cn) (xs := l.flatMap rnC) (by repeat' constructor) (by omega) fun bn bn' e0 mbn _ => ?_
   simp only [Value.slice.injEq, true_and] at e0
   obtain ⟨rfl, rfl⟩ := e0
   have hlk : alook τ.nodes r.path = some l[k].2.2 := by have g := nds_get hl (i := k) hkl; have g2 : alook τ.nodes (τ.nodes[k]).1 = some (τ.nodes[k]).2 := al_get' (ho.sorted.nodup linB) (i := k) hk; rw [hkp, show τ.nodes[k] = (l[k].1, l[k].2.2) from g] at g2; exact g2
   have hda : dataD τ r.path = l[k].2.2.data := by unfold dataD; rw [hlk]; rfl
   refine .region (.m rfl (.nf rfl fo_110_0 (.u (.ld rfl ag_107) (.m rfl (.q (.indexAddr rfl rfl el_107 (by omega)) rfl (.u (.fieldAddr rfl fo_112_1) (.q (.to (v' := vstr (dataD τ r.path)) (.loadRd (sz := 12) (j := k * 12 + 1) (p := rnR _ l) rfl ag_9 (by repeat' constructor) (fun h hp => slR_rd hp) (by omega) ((rn_cell (l := l) (i := k) (k := 1) (by omega) (by decide)).trans rfl)) (by rw [hda])) rfl (.u (.fieldAddr rfl fo_57_4) (.oq (.store rfl rfl rfl sz_9 ?c191 (nfz0 _ _)) ?_)))))))))
   case c191 => simp
   rintro v L' rfl
   refine .nil (.ptCast (b := b7) (l' := rpC ⟨r.xid, τ.zx, 0, [], dataD τ r.path, statD τ r.path, nilV, nilV, nilV⟩) (by repeat' constructor) (by exact rfl) (.rtFold (x := x) (τ := τ) (l := l) hl (by repeat' constructor) rfl rfl rfl rfl rfl (.blk_n (.then_n (.sr (.q (.to (v' := .agg (rpC (⟨r.xid, τ.zx, 0, [], dataD τ r.path, statD τ r.path, nilV, nilV, nilV⟩ : Rp)).toArray) (.loadA rfl ag_57 (by repeat' constructor) (by simp)) (by rfl)) rfl (.oq (.storeA rfl rfl ?c195 sz_57 ?c198 ?c196 (nfz0 _ _)) ?_)))))))
   case c195 => exact rp_cells rfl rfl rfl
   case c198 => rfl
   case c196 => simp
   rintro v L' rfl
   refine .nil ?_
   have hAl : readAl τ ids r = [] := readAl_no (fun g => by have := g.2; omega)
   have hKl : readKl τ ids r = [] := readKl_no (fun g => by have := g.2; omega)
   refine .add (slR_nil 85 2) (.as (q := slR 85 2 nilV (readAl τ ids r).length ((readAl τ ids r).flatMap acC)) (p := slR 85 2 nilV 0 []) (by repeat' constructor) (by rw [hAl]; rfl) (.add (slR_nil 9 1) (.as (q := slR 9 1 nilV (readKl τ ids r).length (strs (readKl τ ids r))) (p := slR 9 1 nilV 0 []) (by repeat' constructor) (by rw [hKl]; rfl) (.ptCast (b := b6) (l' := rpC (readR τ ids r nilV nilV)) (by repeat' constructor) (by rw [readR_get hx h70]; rfl) (.then_n (.ret ?_))))))
   exact .d1 rfl (.cellA rfl ag_57 (by repeat' constructor) (by simp) rfl) ⟨nilV, nilV, rfl, ⟨_, _, congrArg (fun l : List Ac => Value.slice _ l.length _) hAl.symm⟩, ⟨_, _, congrArg (fun l : List Bs => Value.slice _ l.length _) hKl.symm⟩, rfl⟩
  refine .sr (.ui rfl rfl rfl (.an rfl (.condD rfl (fun h81 => ?_) (fun h81 => ?_))))
  ·refine .region (.m rfl (.u (.fieldAddr rfl fo_28_2) (.u (.ld rfl ag_9) (.oq (.c Tryz.func60 [_, _] (rkids_spec x τ r.path N ho hN)) ?_))))
   rintro v L' ⟨⟨ak, ck, rfl⟩, rfl⟩
   refine .u (.fieldAddr rfl fo_57_7) (.oq (.store rfl rfl rfl sz_23 ?c207 (nfz0 _ _)) ?_)
   case c207 => simp
   rintro v L' rfl
   refine .nil (.ptCast (b := b7) (l' := rpC ⟨r.xid, τ.zx, 0, [], [], statD τ r.path, nilV, (.slice ak (kidsZ τ r.path).length ck), nilV⟩) (by repeat' constructor) (by exact rfl) (.blk_n (.then_n (.sr (.q (.to (v' := .agg (rpC (⟨r.xid, τ.zx, 0, [], [], statD τ r.path, (nilV), (.slice ak (kidsZ τ r.path).length ck), nilV⟩ : Rp)).toArray) (.loadA rfl ag_57 (by repeat' constructor) (by simp)) (by rfl)) rfl (.oq (.storeA rfl rfl ?c211 sz_57 ?c214 ?c212 (nfz0 _ _)) ?_))))))
   case c211 => exact rp_cells rfl rfl rfl
   case c214 => rfl
   case c212 => simp
   rintro v L' rfl
   refine .nil ?_
   have hAl : readAl τ ids r = [] := readAl_no (fun g => by have := g.2; omega)
   have hKl : readKl τ ids r = kidsZ τ r.path := readKl_yes hx h81
   refine .add (slR_nil 85 2) (.as (q := slR 85 2 nilV (readAl τ ids r).length ((readAl τ ids r).flatMap acC)) (p := slR 85 2 nilV 0 []) (by repeat' constructor) (by rw [hAl]; rfl) (.as (q := slR 9 1 (.slice ak (kidsZ τ r.path).length ck) (readKl τ ids r).length (strs (readKl τ ids r))) (p := slR 9 1 (.slice ak (kidsZ τ r.path).length ck) (kidsZ τ r.path).length (strs (kidsZ τ r.path))) (by repeat' constructor) (by rw [hKl]) (.ptCast (b := b6) (l' := rpC (readR τ ids r nilV (.slice ak (kidsZ τ r.path).length ck))) (by repeat' constructor) (by rw [readR_other hx h70]; rfl) (.then_n (.ret ?_)))))
   exact .d1 rfl (.cellA rfl ag_57 (by repeat' constructor) (by simp) rfl) ⟨nilV, .slice ak (kidsZ τ r.path).length ck, rfl, ⟨_, _, congrArg (fun l : List Ac => Value.slice _ l.length _) hAl.symm⟩, ⟨_, _, congrArg (fun l : List Bs => Value.slice _ l.length _) hKl.symm⟩, rfl⟩
  refine .sr (.ui rfl rfl rfl (.an rfl (.condD rfl (fun h88 => ?_) (fun h88 => ?_))))
  ·refine .rtOpen (x := x) (τ := τ) (by repeat' constructor) fun an cn as1 cs l hl => ?_
   have hll := nds_len hl
   have hkl : k < l.length := by omega
   refine .slShape (T := 112) (sz := 12) (v := .slice an l.length cn) (xs := l.flatMap rnC) (by repeat' constructor) (by omega) fun bn bn' e0 mbn _ => ?_
   simp only [Value.slice.injEq, true_and] at e0
   obtain ⟨rfl, rfl⟩ := e0
   have hlk : alook τ.nodes r.path = some l[k].2.2 := by have g := nds_get hl (i := k) hkl; have g2 : alook τ.nodes (τ.nodes[k]).1 = some (τ.nodes[k]).2 := al_get' (ho.sorted.nodup linB) (i := k) hk; rw [hkp, show τ.nodes[k] = (l[k].1, l[k].2.2) from g] at g2; exact g2
   have hac : aclD τ r.path = l[k].2.2.acl := by unfold aclD; rw [hlk]; rfl
   have hacl := ho.acls _ (List.getElem_mem hk)
   have hlac : l[k].2.2.acl.length ≤ 1048576 := by have g := nds_get hl (i := k) hkl; rw [show τ.nodes[k] = (l[k].1, l[k].2.2) from g] at hacl; exact hacl
   refine .region (.m rfl (.nf rfl fo_110_0 (.u (.ld rfl ag_107) (.m rfl (.q (.indexAddr rfl rfl el_107 (by omega)) rfl (.u (.fieldAddr rfl fo_112_2) (.q (.loadRd (sz := 12) (j := k * 12 + 2) (p := rnR _ l) rfl ag_24 (by repeat' constructor) (fun h hp => slR_rd hp) (by omega) ((rn_cell (l := l) (i := k) (k := 2) (by omega) (by decide)).trans rfl)) rfl (.oq (.c Tryz.func97 [_] (r12rows_spec l[k].2.1 l[k].2.2.acl (bigR inA l) (big_rd hkl) hlac)) ?_))))))))
   rintro v L' ⟨⟨aa, ca, rfl⟩, rfl⟩; rw [← hac]
   refine .u (.fieldAddr rfl fo_57_6) (.oq (.store rfl rfl rfl sz_24 ?c227 (nfz0 _ _)) ?_)
   case c227 => simp
   rintro v L' rfl
   refine .nil (.ptCast (b := b7) (l' := rpC ⟨r.xid, τ.zx, 0, [], [], statD τ r.path, (.slice aa (aclD τ r.path).length ca), nilV, nilV⟩) (by repeat' constructor) (by exact rfl) (.rtFold (x := x) (τ := τ) (l := l) hl (by repeat' constructor) rfl rfl rfl rfl rfl (.blk_n (.then_n (.sr (.q (.to (v' := .agg (rpC (⟨r.xid, τ.zx, 0, [], [], statD τ r.path, (.slice aa (aclD τ r.path).length ca), (nilV), nilV⟩ : Rp)).toArray) (.loadA rfl ag_57 (by repeat' constructor) (by simp)) (by rfl)) rfl (.oq (.storeA rfl rfl ?c231 sz_57 ?c234 ?c232 (nfz0 _ _)) ?_)))))))
   case c231 => exact rp_cells rfl rfl rfl
   case c234 => rfl
   case c232 => simp
   rintro v L' rfl
   refine .nil ?_
   have hAl : readAl τ ids r = aclD τ r.path := readAl_yes hx h88
   have hKl : readKl τ ids r = [] := readKl_no (fun g => by have := g.2; omega)
   refine .add (slR_nil 9 1) (.as (q := slR 9 1 nilV (readKl τ ids r).length (strs (readKl τ ids r))) (p := slR 9 1 nilV 0 []) (by repeat' constructor) (by rw [hKl]; rfl) (.as (q := slR 85 2 (.slice aa (aclD τ r.path).length ca) (readAl τ ids r).length ((readAl τ ids r).flatMap acC)) (p := slR 85 2 (.slice aa (aclD τ r.path).length ca) (aclD τ r.path).length ((aclD τ r.path).flatMap acC)) (by repeat' constructor) (by rw [hAl]) (.ptCast (b := b6) (l' := rpC (readR τ ids r (.slice aa (aclD τ r.path).length ca) nilV)) (by repeat' constructor) (by rw [readR_other hx h70]; rfl) (.then_n (.ret ?_)))))
   exact .d1 rfl (.cellA rfl ag_57 (by repeat' constructor) (by simp) rfl) ⟨.slice aa (aclD τ r.path).length ca, nilV, rfl, ⟨_, _, congrArg (fun l : List Ac => Value.slice _ l.length _) hAl.symm⟩, ⟨_, _, congrArg (fun l : List Bs => Value.slice _ l.length _) hKl.symm⟩, rfl⟩
  refine .skip (.blk_n (.then_n (.sr (.q (.to (v' := .agg (rpC (⟨r.xid, τ.zx, 0, [], [], statD τ r.path, (nilV), (nilV), nilV⟩ : Rp)).toArray) (.loadA rfl ag_57 (by repeat' constructor) (by simp)) (by rfl)) rfl (.oq (.storeA rfl rfl ?c237 sz_57 ?c240 ?c238 (nfz0 _ _)) ?_)))))
  case c237 => exact rp_cells rfl rfl rfl
  case c240 => rfl
  case c238 => simp
  rintro v L' rfl
  refine .nil ?_
  have hAl : readAl τ ids r = [] := readAl_no (fun g => h88 g.2)
  have hKl : readKl τ ids r = [] := readKl_no (fun g => h81 g.2)
  refine .add (slR_nil 85 2) (.as (q := slR 85 2 nilV (readAl τ ids r).length ((readAl τ ids r).flatMap acC)) (p := slR 85 2 nilV 0 []) (by repeat' constructor) (by rw [hAl]; rfl) (.add (slR_nil 9 1) (.as (q := slR 9 1 nilV (readKl τ ids r).length (strs (readKl τ ids r))) (p := slR 9 1 nilV 0 []) (by repeat' constructor) (by rw [hKl]; rfl) (.ptCast (b := b6) (l' := rpC (readR τ ids r nilV nilV)) (by repeat' constructor) (by rw [readR_other hx h70]; rfl) (.then_n (.ret ?_))))))
  exact .d1 rfl (.cellA rfl ag_57 (by repeat' constructor) (by simp) rfl) ⟨nilV, nilV, rfl, ⟨_, _, congrArg (fun l : List Ac => Value.slice _ l.length _) hAl.symm⟩, ⟨_, _, congrArg (fun l : List Bs => Value.slice _ l.length _) hKl.symm⟩, rfl⟩
 try have h21a : ¬ r.kind = 9 := h21
 try have h21b : ¬ r.kind = 11 := h21
 try have hxv : readX τ ids r = 110 := by unfold readX readE; rw [show whenZ (¬ readK r.kind) 110 = 110 from if_pos h21]; rfl
 try have hxe : readX τ ids r ≠ 0 := by rw [hxv]; decide
 refine .sr (.u (.fieldAddr rfl fo_57_2) (.oq (.store rfl rfl rfl sz_40 ?c243 (nfz0 _ _)) ?_))
 case c243 => simp
 rintro v L' rfl
 refine .nil (.ptCast (b := b7) (l' := rpC ⟨r.xid, τ.zx, 110, [], [], st0, nilV, nilV, nilV⟩) (by repeat' constructor) (by exact rfl) (.then_n (.sr (.q (.to (v' := .agg (rpC (⟨r.xid, τ.zx, 110, [], [], st0, nilV, nilV, nilV⟩ : Rp)).toArray) (.loadA rfl ag_57 (by repeat' constructor) (by simp)) (by rfl)) rfl (.oq (.storeA rfl rfl ?c247 sz_57 ?c250 ?c248 (nfz0 _ _)) ?_)))))
 case c247 => exact rp_cells rfl rfl rfl
 case c250 => rfl
 case c248 => simp
 rintro v L' rfl
 refine .nil ?_
 have hAl : readAl τ ids r = [] := readAl_no (fun g => hxe g.1)
 have hKl : readKl τ ids r = [] := readKl_no (fun g => hxe g.1)
 refine .add (slR_nil 85 2) (.as (q := slR 85 2 nilV (readAl τ ids r).length ((readAl τ ids r).flatMap acC)) (p := slR 85 2 nilV 0 []) (by repeat' constructor) (by rw [hAl]; rfl) (.add (slR_nil 9 1) (.as (q := slR 9 1 nilV (readKl τ ids r).length (strs (readKl τ ids r))) (p := slR 9 1 nilV 0 []) (by repeat' constructor) (by rw [hKl]; rfl) (.ptCast (b := b6) (l' := rpC (readR τ ids r nilV nilV)) (by repeat' constructor) (by rw [readR_bad hxe, hxv]; rfl) (.then_n (.ret (.blk_r (.then_r ?_))))))))
 exact .d1 rfl (.cellA rfl ag_57 (by repeat' constructor) (by simp) rfl) ⟨nilV, nilV, rfl, ⟨_, _, congrArg (fun l : List Ac => Value.slice _ l.length _) hAl.symm⟩, ⟨_, _, congrArg (fun l : List Bs => Value.slice _ l.length _) hKl.symm⟩, rfl⟩
theorem pr1_spec (b : Nat) (c : Prop) [Decidable c] : Fn Tryz.prog 87 #[vptr b] [ptc b [.bool (decide c)] 4] fun v L => v = vint (whenZ (¬ c) 110) ∧ L = [ptc b [.bool (decide c)] 4] := by
 refine Fn.intro Tryz.func87 rfl rfl fun F W => ?_
 refine .sr (.an rfl (.sr (.u (.ld rfl ag_4) (.u (.not rfl) (.cv Tryz.func88 [_, _] (pwhen_spec _ _) ?_)))))
 refine .an rfl (.ret ?_)
 exact .dn rfl rfl ⟨by congr 1; unfold whenZ; first | (simp_all; done) | (simp_all; omega) | (split <;> simp_all; done) | (split <;> simp_all <;> omega), rfl⟩
theorem pr2_spec (t : Nat) (τ : Tr) (ids : List Bs) (iv : Value) (r : Rq) (p : HP) (hA : WiA p ⟨0, ids⟩ iv r) (N : Nat) (ho : τ.Ok N) (hN : N ≤ 1099511627776) (b5 : Nat) : Fn Tryz.prog 89 #[vptr b5] [ptc b5 (rqC r) 28] fun v L => v = vint (checkZ r.path) ∧ L = [ptc b5 (rqC r) 28] := by
 refine Fn.intro Tryz.func89 rfl rfl fun F W => ?_
 have hpl := hA.rq.path
 have hpl2 : r.path.length ≤ 1048576 := by omega
 refine .sr (.an rfl (.sr (.u (.fieldAddr rfl fo_28_2) (.u (.ld rfl ag_9) (.cv Tryz.func90 [_] (check_spec r.path hpl2) ?_)))))
 refine .an rfl (.ret ?_)
 exact .vv
theorem pr3_spec (t : Nat) (τ : Tr) (ids : List Bs) (iv : Value) (r : Rq) (p : HP) (hA : WiA p ⟨0, ids⟩ iv r) (N : Nat) (ho : τ.Ok N) (hN : N ≤ 1099511627776) (b8 b5 : Nat) : Fn Tryz.prog 91 #[vptr b8, vptr b5] [ptc b8 (wiC t (⟨0, ids⟩ : Who) iv r) 99, ptc b5 (rqC r) 28, treeR t τ, p] fun v L => v = vint (whenZ (¬ thereT τ r.path) 60) ∧ L = [ptc b8 (wiC t (⟨0, ids⟩ : Who) iv r) 99, ptc b5 (rqC r) 28, treeR t τ, p] := by
 refine Fn.intro Tryz.func91 rfl rfl fun F W => ?_
 refine .sr (.an rfl (.sr (.q (.to (v' := .agg (wiC t (⟨0, ids⟩ : Who) iv r).toArray) (.loadA rfl ag_99 (by repeat' constructor) (by simp [wiC, rqC])) (by rfl)) rfl (.u (.fieldAddr rfl fo_28_2) (.u (.ld rfl ag_9) (.cv Tryz.func92 [_, _] (pthere_spec t τ ⟨0, ids⟩ iv r p hA N ho hN r.path) ?_))))))
 refine .u (.not rfl) (.cv Tryz.func88 [_, _] (pwhen_spec _ _) ?_)
 refine .an rfl (.ret ?_)
 exact .dn rfl rfl ⟨by congr 1; unfold whenZ; first | (simp_all; done) | (simp_all; omega) | (split <;> simp_all; done) | (split <;> simp_all <;> omega), rfl⟩
theorem pr4_spec (t : Nat) (τ : Tr) (ids : List Bs) (iv : Value) (r : Rq) (p : HP) (hA : WiA p ⟨0, ids⟩ iv r) (N : Nat) (ho : τ.Ok N) (hN : N ≤ 1099511627776) (b5 b8 : Nat) : Fn Tryz.prog 93 #[vptr b5, vptr b8] [ptc b5 (rqC r) 28, ptc b8 (wiC t (⟨0, ids⟩ : Who) iv r) 99, treeR t τ, p] fun v L => v = vint (whenZ (r.kind ≠ 10 ∧ ¬ mayT τ ids r.path 1) 65) ∧ L = [ptc b5 (rqC r) 28, ptc b8 (wiC t (⟨0, ids⟩ : Who) iv r) 99, treeR t τ, p] := by
 refine Fn.intro Tryz.func93 rfl rfl fun F W => ?_
 refine .sr (.an rfl (.sr (.u (.fieldAddr rfl fo_28_0) (.u (.ld rfl ag_3) (.ui rfl rfl rfl (.m rfl (.ndec (t := 6) rfl (fun h1_6 => ?_) (fun h1_6 => ?_))))))))
 ·refine .kNT (t := 5) rfl h1_6 (.grun (t := 6) rfl rfl rfl (.q (.to (v' := .agg (wiC t (⟨0, ids⟩ : Who) iv r).toArray) (.loadA rfl ag_99 (by repeat' constructor) (by simp [wiC, rqC])) (by rfl)) rfl (.grun (t := 6) rfl rfl rfl (.u (.fieldAddr rfl fo_28_2) (.grun (t := 6) rfl rfl rfl (.u (.ld rfl ag_9) (.grun (t := 6) rfl rfl rfl (.cv Tryz.func94 [_, _, _] (pmay_spec t τ ⟨0, ids⟩ iv r p hA N ho hN r.path 1) ?_))))))))
  refine .grun (t := 6) rfl rfl rfl (.u (.not rfl) (.u (.pickT rfl rfl) (.cv Tryz.func88 [_, _] (pwhen_spec _ _) ?_)))
  refine .an rfl (.ret ?_)
  exact .dn rfl rfl ⟨by congr 1; unfold whenZ; first | (simp_all; done) | (simp_all; omega) | (split <;> simp_all; done) | (split <;> simp_all <;> omega), rfl⟩
 refine .kNF (t := 5) rfl h1_6 (.gk (.gk (.gk (.gk (.gk (.u (.pickF rfl rfl) (.cv Tryz.func88 [_, _] (pwhen_spec _ _) ?_)))))))
 refine .an rfl (.ret ?_)
 exact .dn rfl rfl ⟨by congr 1; unfold whenZ; first | (simp_all; done) | (simp_all; omega) | (split <;> simp_all; done) | (split <;> simp_all <;> omega), rfl⟩
theorem prfirst (t : Nat) (τ : Tr) (ids : List Bs) (iv : Value) (r : Rq) (p : HP) (hA : WiA p ⟨0, ids⟩ iv r) (N : Nat) (ho : τ.Ok N) (hN : N ≤ 1099511627776) (b5 b8 b9 : Nat) (va : Value) (p0 : HP) (hr : ∀ h : Hp, p0 h → rdS 1 h va 4 [.func (.func 87) #[] #[vptr b9], .func (.func 89) #[] #[vptr b5], .func (.func 91) #[] #[vptr b8, vptr b5], .func (.func 93) #[] #[vptr b5, vptr b8]]) : Fn Tryz.prog 86 #[va] [p0, ptc b9 [.bool (decide (readK r.kind))] 4, ptc b5 (rqC r) 28, ptc b8 (wiC t (⟨0, ids⟩ : Who) iv r) 99, treeR t τ, p] fun v L => v = vint (readX τ ids r) ∧ L = [p0, ptc b9 [.bool (decide (readK r.kind))] 4, ptc b5 (rqC r) 28, ptc b8 (wiC t (⟨0, ids⟩ : Who) iv r) 99, treeR t τ, p] := by
 refine Fn.unpack (pfirst_spec [.func (.func 87) #[] #[vptr b9], .func (.func 89) #[] #[vptr b5], .func (.func 91) #[] #[vptr b8, vptr b5], .func (.func 93) #[] #[vptr b5, vptr b8]] (readE τ ids r) va p0 _ rfl (by show 4 ≤ _; decide) hr ?_)
 intro i hi hz
 have hi2 : i < 4 := hi
 have hc : i = 0 ∨ i = 1 ∨ i = 2 ∨ i = 3 := by omega
 rcases hc with rfl | rfl | rfl | rfl
 ·exact FunV.share (us := []) (vs := []) (ws := [vptr b9]) Tryz.func87 rfl rfl (by repeat' constructor) (pr1_spec b9 _)
 ·exact FunV.share (us := []) (vs := []) (ws := [vptr b5]) Tryz.func89 rfl rfl (by repeat' constructor) (pr2_spec t τ ids iv r p hA N ho hN b5)
 ·exact FunV.share (us := []) (vs := []) (ws := [vptr b8, vptr b5]) Tryz.func91 rfl rfl (by repeat' constructor) (pr3_spec t τ ids iv r p hA N ho hN b8 b5)
 ·exact FunV.share (us := []) (vs := []) (ws := [vptr b5, vptr b8]) Tryz.func93 rfl rfl (by repeat' constructor) (pr4_spec t τ ids iv r p hA N ho hN b5 b8)
theorem pread_spec (t : Nat) (τ : Tr) (ids : List Bs) (iv : Value) (r : Rq) (p : HP) (hA : WiA p ⟨0, ids⟩ iv r) (N : Nat) (ho : τ.Ok N) (hN : N ≤ 1099511627776) : Fn Tryz.prog 40 #[vptr t, iv, .agg (rqC r).toArray] [treeR t τ, p] fun v L =>
    ∃ av kv : Value, v = .agg (rpC (readR τ ids r av kv)).toArray ∧ (∃ a c, av = .slice a (readAl τ ids r).length c) ∧ (∃ a c, kv = .slice a (readKl τ ids r).length c) ∧ L = [treeR t τ, p, slR 85 2 av (readAl τ ids r).length ((readAl τ ids r).flatMap acC), slR 9 1 kv (readKl τ ids r).length (strs (readKl τ ids r))] := by
 refine Fn.intro Tryz.func40 rfl rfl fun F W => ?_
 have hrq := hA.rqcells
 have hcl := hA.cells t
 refine .sr (.oq (.box rfl) ?_)
 rintro v L' ⟨b5, rfl, rfl⟩
 refine .oq (.allocA ze_57) ?_
 rintro v L' ⟨b6, rfl, rfl⟩
 refine .nil (.ptCast (b := b5) (l' := rqC r) (by repeat' constructor) (by exact rfl) (.then_n (.seq (.sm rfl (.q (.ptreq rfl rfl Tryz.underlying30) rfl (.nt (.condF rfl (.sk (.seq (.draw [3, 5, 6] [[0, 1, 2, 3, 4, 5], [6]] mixed (by kernel_rfl) (.go [ptc b5 _ _] (by repeat' constructor) (.k rfl (.fieldAddr rfl fo_28_1) (.k rfl (.ld rfl ag_3) (.k rfl (.move rfl) (.h2 (k := 5) rfl rfl (by kernel_rfl) rfl (.c Tryz.func64 [_] (trzxid_spec t τ)) (by repeat' constructor) (.allocA ze_57) (by repeat' constructor) ?_ ?_)))))))))))))))
 ·rintro v L' ⟨rfl, rfl⟩
  refine D.k rfl (.to (v' := .agg (rpC ⟨r.xid, τ.zx, 0, [], [], st0, nilV, nilV, nilV⟩).toArray) (.buildN (pl := [(0, 1), (1, 1), (2, 1), (3, 1), (4, 1), (5, 9), (14, 1), (15, 1), (16, 1)]) (us := [(0, vint r.xid), (1, vint τ.zx)]) (cells := rpC ⟨r.xid, τ.zx, 0, [], [], st0, nilV, nilV, nilV⟩) Tryz.underlying57 (by kernel_rfl) ze_57 rfl rfl) rfl) (.hh rfl (.allocA ze_57) ?_)
  rintro v L' ⟨b7, rfl, rfl⟩
  refine D.ph (.g0 (.hh rfl (.storeA rfl rfl ?c16 sz_57 ?c19 ?c17 (nfz0 _ _)) ?_))
  case c16 => exact rp_cells rfl rfl rfl
  case c19 => rfl
  case c17 => simp
  rintro v L' rfl
  refine D.ph (.fin (.ptCast (b := b7) (l' := rpC ⟨r.xid, τ.zx, 0, [], [], st0, nilV, nilV, nilV⟩) (by repeat' constructor) (by exact rfl) (.then_n (.sm rfl (.m rfl (.q (.to (v' := .agg (rqC r).toArray) (.loadA rfl ag_28 (by repeat' constructor) (by simp [rqC])) (by rfl)) rfl (.q (.to (v' := .agg (wiC t (⟨0, ids⟩ : Who) iv r).toArray) (.buildN (pl := [(0, 1), (1, 1), (2, 1), (3, 10)]) (us := [(0, vptr t), (1, vint (⟨0, ids⟩ : Who).ses), (2, iv), (3, .agg (rqC r).toArray)]) (cells := wiC t (⟨0, ids⟩ : Who) iv r) Tryz.underlying99 (by kernel_rfl) ze_99 rfl (fill_wish t (⟨0, ids⟩ : Who) iv hA.shape r)) rfl) rfl (.oq (.allocA ze_99) ?_))))))))
  rintro v L' ⟨b8, rfl, rfl⟩
  refine .oq (.storeA rfl rfl ?c27 sz_99 ?c30 ?c28 (nfz0 _ _)) ?_
  case c27 => exact fun v hv => List.all_eq_true.1 hcl v hv
  case c30 => rfl
  case c28 => simp [wiC, rqC]
  rintro v L' rfl
  refine .nil (.ptCast (b := b8) (l' := wiC t (⟨0, ids⟩ : Who) iv r) (by repeat' constructor) (by exact rfl) (.then_n (.seq (.joinK (ι := Nat) (fun q E => (9, vptr q) :: E) (fun q => [ptc q [.bool (decide (readK r.kind))] 4]) (fun q => True) (pre := []) (ts := [0, 5, 6, 7, 8]) (.cons rfl (.cons rfl (.cons rfl (.cons rfl (.cons rfl (.nil)))))) (by repeat' constructor) ?_ ?_))))
  ·refine .region (.u (.fieldAddr rfl fo_28_0) (.u (.ld rfl ag_3) (.ui rfl rfl rfl (.m rfl (.dec (t := 25) rfl (fun h5_25 => ?_) (fun h5_25 => ?_))))))
   ·refine .kDT (t := 24) rfl h5_25 (.gk (.gk (.gk (.u (.pickT rfl rfl) (.m rfl (.gk (.gk (.gk (.u (.pickT rfl rfl) (.m rfl (.gk (.gk (.gk (.q (.as (v' := .bool (decide (readK r.kind))) (by simp [readK, h5_25]) (.pickT rfl rfl)) rfl (.oq (.alloc ze_4) ?_)))))))))))))))
    rintro v L' ⟨b9, rfl, rfl⟩
    refine .st rfl rfl rfl sz_4 ?_
    refine .nt ?_
    exact .mk (b9) (trivial) ⟨rfl, rfl, rfl, rfl, rfl, rfl, trivial⟩
   refine .kDF (t := 24) rfl h5_25 (.grun (t := 25) rfl rfl rfl (.u (.fieldAddr rfl fo_28_0) (.grun (t := 25) rfl rfl rfl (.u (.ld rfl ag_3) (.grun (t := 25) rfl rfl rfl (.ui rfl rfl rfl (.u (.pickF rfl rfl) (.m rfl (.dec (t := 30) rfl (fun h5_30 => ?_) (fun h5_30 => ?_))))))))))
   ·refine .kDT (t := 28) rfl h5_30 (.kDT (t := 29) rfl h5_30 (.gk (.gk (.gk (.u (.pickT rfl rfl) (.m rfl (.gk (.gk (.gk (.q (.as (v' := .bool (decide (readK r.kind))) (by simp [readK, h5_25, h5_30]) (.pickT rfl rfl)) rfl (.oq (.alloc ze_4) ?_)))))))))))
    rintro v L' ⟨b9, rfl, rfl⟩
    refine .st rfl rfl rfl sz_4 ?_
    refine .nt ?_
    exact .mk (b9) (trivial) ⟨rfl, rfl, rfl, rfl, rfl, rfl, trivial⟩
   refine .kDF (t := 28) rfl h5_30 (.kDF (t := 29) rfl h5_30 (.grun (t := 30) rfl rfl rfl (.u (.fieldAddr rfl fo_28_0) (.grun (t := 30) rfl rfl rfl (.u (.ld rfl ag_3) (.grun (t := 30) rfl rfl rfl (.ui rfl rfl rfl (.u (.pickF rfl rfl) (.m rfl (.dec (t := 35) rfl (fun h5_35 => ?_) (fun h5_35 => ?_)))))))))))
   ·refine .kDT (t := 33) rfl h5_35 (.kDT (t := 34) rfl h5_35 (.gk (.gk (.gk (.q (.as (v' := .bool (decide (readK r.kind))) (by simp [readK, h5_25, h5_30, h5_35]) (.pickT rfl rfl)) rfl (.oq (.alloc ze_4) ?_))))))
    rintro v L' ⟨b9, rfl, rfl⟩
    refine .st rfl rfl rfl sz_4 ?_
    refine .nt ?_
    exact .mk (b9) (trivial) ⟨rfl, rfl, rfl, rfl, rfl, rfl, trivial⟩
   refine .kDF (t := 33) rfl h5_35 (.kDF (t := 34) rfl h5_35 (.grun (t := 35) rfl rfl rfl (.u (.fieldAddr rfl fo_28_0) (.grun (t := 35) rfl rfl rfl (.u (.ld rfl ag_3) (.grun (t := 35) rfl rfl rfl (.ui rfl rfl rfl (.q (.as (v' := .bool (decide (readK r.kind))) (by simp [readK, h5_25, h5_30, h5_35]) (.pickF rfl rfl)) rfl (.oq (.alloc ze_4) ?_)))))))))
   rintro v L' ⟨b9, rfl, rfl⟩
   refine .st rfl rfl rfl sz_4 ?_
   refine .nt ?_
   exact .mk (b9) (trivial) ⟨rfl, rfl, rfl, rfl, rfl, rfl, trivial⟩
  rintro b9 _
  refine .sr (.q (.func (us := []) (vs := [_]) rfl rfl) rfl (.q (.func (us := []) (vs := [_]) rfl rfl) rfl (.q (.func (us := []) (vs := [_, _]) rfl rfl) rfl (.q (.func (us := []) (vs := [_, _]) rfl rfl) rfl (.oq (.buildSlice1 (vs := [_, _, _, _]) el_187 ze_150 rfl rfl rfl rfl rfl (by decide)) ?_)))))
  rintro v L' ⟨bf, rfl, rfl⟩
  refine .slMake (b := bf) (n := 4) (c := 4) (xs := [.func (.func 87) #[] #[vptr b9], .func (.func 89) #[] #[vptr b5], .func (.func 91) #[] #[vptr b8, vptr b5], .func (.func 93) #[] #[vptr b5, vptr b8]]) (by repeat' constructor) (by decide) (by exact Nat.le_refl 4) rfl (.cv Tryz.func86 [_] (prfirst t τ ids iv r p hA N ho hN b5 b8 b9 _ _ (fun _ => slR_rd)) ?_)
  refine .u (.fieldAddr rfl fo_57_2) (.oq (.store rfl rfl rfl sz_40 ?c79 (nfz0 _ _)) ?_)
  case c79 => simp
  rintro v L' rfl
  refine .nil (.ptCast (b := b7) (l' := rpC ⟨r.xid, τ.zx, readX τ ids r, [], [], st0, nilV, nilV, nilV⟩) (by repeat' constructor) (by exact rfl) (.then_n (.seq (.sr (.u (.fieldAddr rfl fo_57_2) (.u (.ld rfl ag_40) (.ui rfl rfl rfl (.nt (.condN rfl (fun h49 => ?_) (fun h49 => ?_))))))))))
  ·refine .sr (.q (.to (v' := .agg (rpC (⟨r.xid, τ.zx, readX τ ids r, [], [], st0, nilV, nilV, nilV⟩ : Rp)).toArray) (.loadA rfl ag_57 (by repeat' constructor) (by simp)) (by rfl)) rfl (.oq (.storeA rfl rfl ?c86 sz_57 ?c89 ?c87 (nfz0 _ _)) ?_))
   case c86 => exact rp_cells rfl rfl rfl
   case c89 => rfl
   case c87 => simp
   rintro v L' rfl
   refine .nil ?_
   have hAl : readAl τ ids r = [] := readAl_no (fun g => h49 g.1)
   have hKl : readKl τ ids r = [] := readKl_no (fun g => h49 g.1)
   refine .add (slR_nil 85 2) (.as (q := slR 85 2 nilV (readAl τ ids r).length ((readAl τ ids r).flatMap acC)) (p := slR 85 2 nilV 0 []) (by repeat' constructor) (by rw [hAl]; rfl) (.add (slR_nil 9 1) (.as (q := slR 9 1 nilV (readKl τ ids r).length (strs (readKl τ ids r))) (p := slR 9 1 nilV 0 []) (by repeat' constructor) (by rw [hKl]; rfl) (.ptCast (b := b6) (l' := rpC (readR τ ids r nilV nilV)) (by repeat' constructor) (by rw [readR_bad h49]; rfl) (.then_n (.rt ?_))))))
   exact .d1 rfl (.cellA rfl ag_57 (by repeat' constructor) (by simp) rfl) ⟨nilV, nilV, rfl, ⟨_, _, congrArg (fun l : List Ac => Value.slice _ l.length _) hAl.symm⟩, ⟨_, _, congrArg (fun l : List Bs => Value.slice _ l.length _) hKl.symm⟩, rfl⟩
  have hx : readX τ ids r = 0 := by omega
  obtain ⟨hrk, hth⟩ := read_there hx
  rw [hx]
  refine .sk (.sm rfl (.u (.fieldAddr rfl fo_28_2) (.u (.ld rfl ag_9) (.cv Tryz.func13 [_, _] (trstat_spec t τ r.path N ho hN) ?_))))
  refine .m rfl (.u (.extract rfl rfl) (.u (.extract rfl rfl) (.u (.fieldAddr rfl fo_57_5) (.oq (.storeA rfl rfl ?c99 sz_37 ?c102 ?c100 (nfz0 _ _)) ?_))))
  case c99 => intro v hv; simp only [stC, List.mem_cons, List.not_mem_nil, or_false] at hv; rcases hv with rfl | rfl | rfl | rfl | rfl | rfl | rfl | rfl | rfl <;> rfl
  case c102 => rfl
  case c100 => simp [stC]
  rintro v L' rfl
  refine .nil (.ptCast (b := b7) (l' := rpC ⟨r.xid, τ.zx, 0, [], [], statD τ r.path, nilV, nilV, nilV⟩) (by repeat' constructor) (by exact rfl) (.then_n (.seq (.sr (.u (.fieldAddr rfl fo_28_0) (.u (.ld rfl ag_3) (.nt (.block (.sr (.ui rfl rfl rfl (.an rfl (.condD rfl (fun h61 => ?_) (fun h61 => ?_)))))))))))))
  ·refine .region (.m rfl (.u (.fieldAddr rfl fo_28_2) (.u (.ld rfl ag_9) (.cv Tryz.func54 [_, _] (trget_spec t τ r.path N ho hN) ?_))))
   refine .m rfl (.u (.extract rfl rfl) (.u (.extract rfl rfl) (.u (.extract rfl rfl) (.u (.fieldAddr rfl fo_57_4) (.oq (.store rfl rfl rfl sz_9 ?c116 (nfz0 _ _)) ?_)))))
   case c116 => simp
   rintro v L' rfl
   refine .nil (.ptCast (b := b7) (l' := rpC ⟨r.xid, τ.zx, 0, [], dataD τ r.path, statD τ r.path, nilV, nilV, nilV⟩) (by repeat' constructor) (by exact rfl) (.blk_n (.then_n (.sr (.q (.to (v' := .agg (rpC (⟨r.xid, τ.zx, 0, [], dataD τ r.path, statD τ r.path, nilV, nilV, nilV⟩ : Rp)).toArray) (.loadA rfl ag_57 (by repeat' constructor) (by simp)) (by rfl)) rfl (.oq (.storeA rfl rfl ?c120 sz_57 ?c123 ?c121 (nfz0 _ _)) ?_))))))
   case c120 => exact rp_cells rfl rfl rfl
   case c123 => rfl
   case c121 => simp
   rintro v L' rfl
   refine .nil ?_
   have hAl : readAl τ ids r = [] := readAl_no (fun g => by have := g.2; omega)
   have hKl : readKl τ ids r = [] := readKl_no (fun g => by have := g.2; omega)
   refine .add (slR_nil 85 2) (.as (q := slR 85 2 nilV (readAl τ ids r).length ((readAl τ ids r).flatMap acC)) (p := slR 85 2 nilV 0 []) (by repeat' constructor) (by rw [hAl]; rfl) (.add (slR_nil 9 1) (.as (q := slR 9 1 nilV (readKl τ ids r).length (strs (readKl τ ids r))) (p := slR 9 1 nilV 0 []) (by repeat' constructor) (by rw [hKl]; rfl) (.ptCast (b := b6) (l' := rpC (readR τ ids r nilV nilV)) (by repeat' constructor) (by rw [readR_get hx h61]; rfl) (.then_n (.ret ?_))))))
   exact .d1 rfl (.cellA rfl ag_57 (by repeat' constructor) (by simp) rfl) ⟨nilV, nilV, rfl, ⟨_, _, congrArg (fun l : List Ac => Value.slice _ l.length _) hAl.symm⟩, ⟨_, _, congrArg (fun l : List Bs => Value.slice _ l.length _) hKl.symm⟩, rfl⟩
  refine .sr (.ui rfl rfl rfl (.an rfl (.condD rfl (fun h72 => ?_) (fun h72 => ?_))))
  ·refine .region (.m rfl (.u (.fieldAddr rfl fo_28_2) (.u (.ld rfl ag_9) (.oq (.c Tryz.func57 [_, _] (trkids_spec t τ r.path N ho hN)) ?_))))
   rintro v L' ⟨uk, lk, rfl, -, hlk, ⟨ak, ck, rfl⟩, rfl⟩; rw [if_pos hth] at hlk; subst hlk
   refine .m rfl (.u (.extract rfl rfl) (.u (.extract rfl rfl) (.u (.fieldAddr rfl fo_57_7) (.oq (.store rfl rfl rfl sz_23 ?c134 (nfz0 _ _)) ?_))))
   case c134 => simp
   rintro v L' rfl
   refine .nil (.ptCast (b := b7) (l' := rpC ⟨r.xid, τ.zx, 0, [], [], statD τ r.path, nilV, (.slice ak (kidsZ τ r.path).length ck), nilV⟩) (by repeat' constructor) (by exact rfl) (.blk_n (.then_n (.sr (.q (.to (v' := .agg (rpC (⟨r.xid, τ.zx, 0, [], [], statD τ r.path, (nilV), (.slice ak (kidsZ τ r.path).length ck), nilV⟩ : Rp)).toArray) (.loadA rfl ag_57 (by repeat' constructor) (by simp)) (by rfl)) rfl (.oq (.storeA rfl rfl ?c138 sz_57 ?c141 ?c139 (nfz0 _ _)) ?_))))))
   case c138 => exact rp_cells rfl rfl rfl
   case c141 => rfl
   case c139 => simp
   rintro v L' rfl
   refine .nil ?_
   have hAl : readAl τ ids r = [] := readAl_no (fun g => by have := g.2; omega)
   have hKl : readKl τ ids r = kidsZ τ r.path := readKl_yes hx h72
   refine .add (slR_nil 85 2) (.as (q := slR 85 2 nilV (readAl τ ids r).length ((readAl τ ids r).flatMap acC)) (p := slR 85 2 nilV 0 []) (by repeat' constructor) (by rw [hAl]; rfl) (.as (q := slR 9 1 (.slice ak (kidsZ τ r.path).length ck) (readKl τ ids r).length (strs (readKl τ ids r))) (p := slR 9 1 (.slice ak (kidsZ τ r.path).length ck) (kidsZ τ r.path).length (strs (kidsZ τ r.path))) (by repeat' constructor) (by rw [hKl]) (.ptCast (b := b6) (l' := rpC (readR τ ids r nilV (.slice ak (kidsZ τ r.path).length ck))) (by repeat' constructor) (by rw [readR_other hx h61]; rfl) (.then_n (.ret ?_)))))
   exact .d1 rfl (.cellA rfl ag_57 (by repeat' constructor) (by simp) rfl) ⟨nilV, .slice ak (kidsZ τ r.path).length ck, rfl, ⟨_, _, congrArg (fun l : List Ac => Value.slice _ l.length _) hAl.symm⟩, ⟨_, _, congrArg (fun l : List Bs => Value.slice _ l.length _) hKl.symm⟩, rfl⟩
  refine .sr (.ui rfl rfl rfl (.an rfl (.condD rfl (fun h82 => ?_) (fun h82 => ?_))))
  ·refine .region (.m rfl (.u (.fieldAddr rfl fo_28_2) (.u (.ld rfl ag_9) (.oq (.c Tryz.func56 [_, _] (tracl_spec t τ r.path N ho)) ?_))))
   rintro v L' ⟨ua, rfl, ⟨aa, ca, rfl⟩, rfl⟩
   refine .m rfl (.u (.extract rfl rfl) (.u (.extract rfl rfl) (.u (.fieldAddr rfl fo_57_6) (.oq (.store rfl rfl rfl sz_24 ?c152 (nfz0 _ _)) ?_))))
   case c152 => simp
   rintro v L' rfl
   refine .nil (.ptCast (b := b7) (l' := rpC ⟨r.xid, τ.zx, 0, [], [], statD τ r.path, (.slice aa (aclD τ r.path).length ca), nilV, nilV⟩) (by repeat' constructor) (by exact rfl) (.blk_n (.then_n (.sr (.q (.to (v' := .agg (rpC (⟨r.xid, τ.zx, 0, [], [], statD τ r.path, (.slice aa (aclD τ r.path).length ca), (nilV), nilV⟩ : Rp)).toArray) (.loadA rfl ag_57 (by repeat' constructor) (by simp)) (by rfl)) rfl (.oq (.storeA rfl rfl ?c156 sz_57 ?c159 ?c157 (nfz0 _ _)) ?_))))))
   case c156 => exact rp_cells rfl rfl rfl
   case c159 => rfl
   case c157 => simp
   rintro v L' rfl
   refine .nil ?_
   have hAl : readAl τ ids r = aclD τ r.path := readAl_yes hx h82
   have hKl : readKl τ ids r = [] := readKl_no (fun g => by have := g.2; omega)
   refine .add (slR_nil 9 1) (.as (q := slR 9 1 nilV (readKl τ ids r).length (strs (readKl τ ids r))) (p := slR 9 1 nilV 0 []) (by repeat' constructor) (by rw [hKl]; rfl) (.as (q := slR 85 2 (.slice aa (aclD τ r.path).length ca) (readAl τ ids r).length ((readAl τ ids r).flatMap acC)) (p := slR 85 2 (.slice aa (aclD τ r.path).length ca) (aclD τ r.path).length ((aclD τ r.path).flatMap acC)) (by repeat' constructor) (by rw [hAl]) (.ptCast (b := b6) (l' := rpC (readR τ ids r (.slice aa (aclD τ r.path).length ca) nilV)) (by repeat' constructor) (by rw [readR_other hx h61]; rfl) (.then_n (.ret ?_)))))
   exact .d1 rfl (.cellA rfl ag_57 (by repeat' constructor) (by simp) rfl) ⟨.slice aa (aclD τ r.path).length ca, nilV, rfl, ⟨_, _, congrArg (fun l : List Ac => Value.slice _ l.length _) hAl.symm⟩, ⟨_, _, congrArg (fun l : List Bs => Value.slice _ l.length _) hKl.symm⟩, rfl⟩
  refine .skip (.blk_n (.then_n (.sr (.q (.to (v' := .agg (rpC (⟨r.xid, τ.zx, 0, [], [], statD τ r.path, (nilV), (nilV), nilV⟩ : Rp)).toArray) (.loadA rfl ag_57 (by repeat' constructor) (by simp)) (by rfl)) rfl (.oq (.storeA rfl rfl ?c162 sz_57 ?c165 ?c163 (nfz0 _ _)) ?_)))))
  case c162 => exact rp_cells rfl rfl rfl
  case c165 => rfl
  case c163 => simp
  rintro v L' rfl
  refine .nil ?_
  have hAl : readAl τ ids r = [] := readAl_no (fun g => h82 g.2)
  have hKl : readKl τ ids r = [] := readKl_no (fun g => h72 g.2)
  refine .add (slR_nil 85 2) (.as (q := slR 85 2 nilV (readAl τ ids r).length ((readAl τ ids r).flatMap acC)) (p := slR 85 2 nilV 0 []) (by repeat' constructor) (by rw [hAl]; rfl) (.add (slR_nil 9 1) (.as (q := slR 9 1 nilV (readKl τ ids r).length (strs (readKl τ ids r))) (p := slR 9 1 nilV 0 []) (by repeat' constructor) (by rw [hKl]; rfl) (.ptCast (b := b6) (l' := rpC (readR τ ids r nilV nilV)) (by repeat' constructor) (by rw [readR_other hx h61]; rfl) (.then_n (.ret ?_))))))
  exact .d1 rfl (.cellA rfl ag_57 (by repeat' constructor) (by simp) rfl) ⟨nilV, nilV, rfl, ⟨_, _, congrArg (fun l : List Ac => Value.slice _ l.length _) hAl.symm⟩, ⟨_, _, congrArg (fun l : List Bs => Value.slice _ l.length _) hKl.symm⟩, rfl⟩
 rintro v L' ⟨b7, rfl, rfl⟩
 refine D.hh rfl (.c Tryz.func64 [_] (trzxid_spec t τ)) ?_
 rintro v L' ⟨rfl, rfl⟩
 refine D.kv rfl (.to (v' := .agg (rpC ⟨r.xid, τ.zx, 0, [], [], st0, nilV, nilV, nilV⟩).toArray) (.buildN (pl := [(0, 1), (1, 1), (2, 1), (3, 1), (4, 1), (5, 9), (14, 1), (15, 1), (16, 1)]) (us := [(0, vint r.xid), (1, vint τ.zx)]) (cells := rpC ⟨r.xid, τ.zx, 0, [], [], st0, nilV, nilV, nilV⟩) Tryz.underlying57 (by kernel_rfl) ze_57 rfl rfl) rfl) (.ph (.g0 (.hh rfl (.storeA rfl rfl ?c171 sz_57 ?c174 ?c172 (nfz0 _ _)) ?_)))
 case c171 => exact rp_cells rfl rfl rfl
 case c174 => rfl
 case c172 => simp
 rintro v L' rfl
 refine D.ph (.fin (.ptCast (b := b7) (l' := rpC ⟨r.xid, τ.zx, 0, [], [], st0, nilV, nilV, nilV⟩) (by repeat' constructor) (by exact rfl) (.then_n (.sm rfl (.m rfl (.q (.to (v' := .agg (rqC r).toArray) (.loadA rfl ag_28 (by repeat' constructor) (by simp [rqC])) (by rfl)) rfl (.q (.to (v' := .agg (wiC t (⟨0, ids⟩ : Who) iv r).toArray) (.buildN (pl := [(0, 1), (1, 1), (2, 1), (3, 10)]) (us := [(0, vptr t), (1, vint (⟨0, ids⟩ : Who).ses), (2, iv), (3, .agg (rqC r).toArray)]) (cells := wiC t (⟨0, ids⟩ : Who) iv r) Tryz.underlying99 (by kernel_rfl) ze_99 rfl (fill_wish t (⟨0, ids⟩ : Who) iv hA.shape r)) rfl) rfl (.oq (.allocA ze_99) ?_))))))))
 rintro v L' ⟨b8, rfl, rfl⟩
 refine .oq (.storeA rfl rfl ?c182 sz_99 ?c185 ?c183 (nfz0 _ _)) ?_
 case c182 => exact fun v hv => List.all_eq_true.1 hcl v hv
 case c185 => rfl
 case c183 => simp [wiC, rqC]
 rintro v L' rfl
 refine .nil (.ptCast (b := b8) (l' := wiC t (⟨0, ids⟩ : Who) iv r) (by repeat' constructor) (by exact rfl) (.then_n (.seq (.joinK (ι := Nat) (fun q E => (9, vptr q) :: E) (fun q => [ptc q [.bool (decide (readK r.kind))] 4]) (fun q => True) (pre := []) (ts := [0, 5, 6, 7, 8]) (.cons rfl (.cons rfl (.cons rfl (.cons rfl (.cons rfl (.nil)))))) (by repeat' constructor) ?_ ?_))))
 ·refine .region (.u (.fieldAddr rfl fo_28_0) (.u (.ld rfl ag_3) (.ui rfl rfl rfl (.m rfl (.dec (t := 25) rfl (fun h5_25 => ?_) (fun h5_25 => ?_))))))
  ·refine .kDT (t := 24) rfl h5_25 (.gk (.gk (.gk (.u (.pickT rfl rfl) (.m rfl (.gk (.gk (.gk (.u (.pickT rfl rfl) (.m rfl (.gk (.gk (.gk (.q (.as (v' := .bool (decide (readK r.kind))) (by simp [readK, h5_25]) (.pickT rfl rfl)) rfl (.oq (.alloc ze_4) ?_)))))))))))))))
   rintro v L' ⟨b9, rfl, rfl⟩
   refine .st rfl rfl rfl sz_4 ?_
   refine .nt ?_
   exact .mk (b9) (trivial) ⟨rfl, rfl, rfl, rfl, rfl, rfl, trivial⟩
  refine .kDF (t := 24) rfl h5_25 (.grun (t := 25) rfl rfl rfl (.u (.fieldAddr rfl fo_28_0) (.grun (t := 25) rfl rfl rfl (.u (.ld rfl ag_3) (.grun (t := 25) rfl rfl rfl (.ui rfl rfl rfl (.u (.pickF rfl rfl) (.m rfl (.dec (t := 30) rfl (fun h5_30 => ?_) (fun h5_30 => ?_))))))))))
  ·refine .kDT (t := 28) rfl h5_30 (.kDT (t := 29) rfl h5_30 (.gk (.gk (.gk (.u (.pickT rfl rfl) (.m rfl (.gk (.gk (.gk (.q (.as (v' := .bool (decide (readK r.kind))) (by simp [readK, h5_25, h5_30]) (.pickT rfl rfl)) rfl (.oq (.alloc ze_4) ?_)))))))))))
   rintro v L' ⟨b9, rfl, rfl⟩
   refine .st rfl rfl rfl sz_4 ?_
   refine .nt ?_
   exact .mk (b9) (trivial) ⟨rfl, rfl, rfl, rfl, rfl, rfl, trivial⟩
  refine .kDF (t := 28) rfl h5_30 (.kDF (t := 29) rfl h5_30 (.grun (t := 30) rfl rfl rfl (.u (.fieldAddr rfl fo_28_0) (.grun (t := 30) rfl rfl rfl (.u (.ld rfl ag_3) (.grun (t := 30) rfl rfl rfl (.ui rfl rfl rfl (.u (.pickF rfl rfl) (.m rfl (.dec (t := 35) rfl (fun h5_35 => ?_) (fun h5_35 => ?_)))))))))))
  ·refine .kDT (t := 33) rfl h5_35 (.kDT (t := 34) rfl h5_35 (.gk (.gk (.gk (.q (.as (v' := .bool (decide (readK r.kind))) (by simp [readK, h5_25, h5_30, h5_35]) (.pickT rfl rfl)) rfl (.oq (.alloc ze_4) ?_))))))
   rintro v L' ⟨b9, rfl, rfl⟩
   refine .st rfl rfl rfl sz_4 ?_
   refine .nt ?_
   exact .mk (b9) (trivial) ⟨rfl, rfl, rfl, rfl, rfl, rfl, trivial⟩
  refine .kDF (t := 33) rfl h5_35 (.kDF (t := 34) rfl h5_35 (.grun (t := 35) rfl rfl rfl (.u (.fieldAddr rfl fo_28_0) (.grun (t := 35) rfl rfl rfl (.u (.ld rfl ag_3) (.grun (t := 35) rfl rfl rfl (.ui rfl rfl rfl (.q (.as (v' := .bool (decide (readK r.kind))) (by simp [readK, h5_25, h5_30, h5_35]) (.pickF rfl rfl)) rfl (.oq (.alloc ze_4) ?_)))))))))
  rintro v L' ⟨b9, rfl, rfl⟩
  refine .st rfl rfl rfl sz_4 ?_
  refine .nt ?_
  exact .mk (b9) (trivial) ⟨rfl, rfl, rfl, rfl, rfl, rfl, trivial⟩
 rintro b9 _
 refine .sr (.q (.func (us := []) (vs := [_]) rfl rfl) rfl (.q (.func (us := []) (vs := [_]) rfl rfl) rfl (.q (.func (us := []) (vs := [_, _]) rfl rfl) rfl (.q (.func (us := []) (vs := [_, _]) rfl rfl) rfl (.oq (.buildSlice1 (vs := [_, _, _, _]) el_187 ze_150 rfl rfl rfl rfl rfl (by decide)) ?_)))))
 rintro v L' ⟨bf, rfl, rfl⟩
 refine .slMake (b := bf) (n := 4) (c := 4) (xs := [.func (.func 87) #[] #[vptr b9], .func (.func 89) #[] #[vptr b5], .func (.func 91) #[] #[vptr b8, vptr b5], .func (.func 93) #[] #[vptr b5, vptr b8]]) (by repeat' constructor) (by decide) (by exact Nat.le_refl 4) rfl (.cv Tryz.func86 [_] (prfirst t τ ids iv r p hA N ho hN b5 b8 b9 _ _ (fun _ => slR_rd)) ?_)
 refine .u (.fieldAddr rfl fo_57_2) (.oq (.store rfl rfl rfl sz_40 ?c234 (nfz0 _ _)) ?_)
 case c234 => simp
 rintro v L' rfl
 refine .nil (.ptCast (b := b7) (l' := rpC ⟨r.xid, τ.zx, readX τ ids r, [], [], st0, nilV, nilV, nilV⟩) (by repeat' constructor) (by exact rfl) (.then_n (.seq (.sr (.u (.fieldAddr rfl fo_57_2) (.u (.ld rfl ag_40) (.ui rfl rfl rfl (.nt (.condN rfl (fun h49 => ?_) (fun h49 => ?_))))))))))
 ·refine .sr (.q (.to (v' := .agg (rpC (⟨r.xid, τ.zx, readX τ ids r, [], [], st0, nilV, nilV, nilV⟩ : Rp)).toArray) (.loadA rfl ag_57 (by repeat' constructor) (by simp)) (by rfl)) rfl (.oq (.storeA rfl rfl ?c241 sz_57 ?c244 ?c242 (nfz0 _ _)) ?_))
  case c241 => exact rp_cells rfl rfl rfl
  case c244 => rfl
  case c242 => simp
  rintro v L' rfl
  refine .nil ?_
  have hAl : readAl τ ids r = [] := readAl_no (fun g => h49 g.1)
  have hKl : readKl τ ids r = [] := readKl_no (fun g => h49 g.1)
  refine .add (slR_nil 85 2) (.as (q := slR 85 2 nilV (readAl τ ids r).length ((readAl τ ids r).flatMap acC)) (p := slR 85 2 nilV 0 []) (by repeat' constructor) (by rw [hAl]; rfl) (.add (slR_nil 9 1) (.as (q := slR 9 1 nilV (readKl τ ids r).length (strs (readKl τ ids r))) (p := slR 9 1 nilV 0 []) (by repeat' constructor) (by rw [hKl]; rfl) (.ptCast (b := b6) (l' := rpC (readR τ ids r nilV nilV)) (by repeat' constructor) (by rw [readR_bad h49]; rfl) (.then_n (.rt ?_))))))
  exact .d1 rfl (.cellA rfl ag_57 (by repeat' constructor) (by simp) rfl) ⟨nilV, nilV, rfl, ⟨_, _, congrArg (fun l : List Ac => Value.slice _ l.length _) hAl.symm⟩, ⟨_, _, congrArg (fun l : List Bs => Value.slice _ l.length _) hKl.symm⟩, rfl⟩
 have hx : readX τ ids r = 0 := by omega
 obtain ⟨hrk, hth⟩ := read_there hx
 rw [hx]
 refine .sk (.sm rfl (.u (.fieldAddr rfl fo_28_2) (.u (.ld rfl ag_9) (.cv Tryz.func13 [_, _] (trstat_spec t τ r.path N ho hN) ?_))))
 refine .m rfl (.u (.extract rfl rfl) (.u (.extract rfl rfl) (.u (.fieldAddr rfl fo_57_5) (.oq (.storeA rfl rfl ?c254 sz_37 ?c257 ?c255 (nfz0 _ _)) ?_))))
 case c254 => intro v hv; simp only [stC, List.mem_cons, List.not_mem_nil, or_false] at hv; rcases hv with rfl | rfl | rfl | rfl | rfl | rfl | rfl | rfl | rfl <;> rfl
 case c257 => rfl
 case c255 => simp [stC]
 rintro v L' rfl
 refine .nil (.ptCast (b := b7) (l' := rpC ⟨r.xid, τ.zx, 0, [], [], statD τ r.path, nilV, nilV, nilV⟩) (by repeat' constructor) (by exact rfl) (.then_n (.seq (.sr (.u (.fieldAddr rfl fo_28_0) (.u (.ld rfl ag_3) (.nt (.block (.sr (.ui rfl rfl rfl (.an rfl (.condD rfl (fun h61 => ?_) (fun h61 => ?_)))))))))))))
 ·refine .region (.m rfl (.u (.fieldAddr rfl fo_28_2) (.u (.ld rfl ag_9) (.cv Tryz.func54 [_, _] (trget_spec t τ r.path N ho hN) ?_))))
  refine .m rfl (.u (.extract rfl rfl) (.u (.extract rfl rfl) (.u (.extract rfl rfl) (.u (.fieldAddr rfl fo_57_4) (.oq (.store rfl rfl rfl sz_9 ?c271 (nfz0 _ _)) ?_)))))
  case c271 => simp
  rintro v L' rfl
  refine .nil (.ptCast (b := b7) (l' := rpC ⟨r.xid, τ.zx, 0, [], dataD τ r.path, statD τ r.path, nilV, nilV, nilV⟩) (by repeat' constructor) (by exact rfl) (.blk_n (.then_n (.sr (.q (.to (v' := .agg (rpC (⟨r.xid, τ.zx, 0, [], dataD τ r.path, statD τ r.path, nilV, nilV, nilV⟩ : Rp)).toArray) (.loadA rfl ag_57 (by repeat' constructor) (by simp)) (by rfl)) rfl (.oq (.storeA rfl rfl ?c275 sz_57 ?c278 ?c276 (nfz0 _ _)) ?_))))))
  case c275 => exact rp_cells rfl rfl rfl
  case c278 => rfl
  case c276 => simp
  rintro v L' rfl
  refine .nil ?_
  have hAl : readAl τ ids r = [] := readAl_no (fun g => by have := g.2; omega)
  have hKl : readKl τ ids r = [] := readKl_no (fun g => by have := g.2; omega)
  refine .add (slR_nil 85 2) (.as (q := slR 85 2 nilV (readAl τ ids r).length ((readAl τ ids r).flatMap acC)) (p := slR 85 2 nilV 0 []) (by repeat' constructor) (by rw [hAl]; rfl) (.add (slR_nil 9 1) (.as (q := slR 9 1 nilV (readKl τ ids r).length (strs (readKl τ ids r))) (p := slR 9 1 nilV 0 []) (by repeat' constructor) (by rw [hKl]; rfl) (.ptCast (b := b6) (l' := rpC (readR τ ids r nilV nilV)) (by repeat' constructor) (by rw [readR_get hx h61]; rfl) (.then_n (.ret ?_))))))
  exact .d1 rfl (.cellA rfl ag_57 (by repeat' constructor) (by simp) rfl) ⟨nilV, nilV, rfl, ⟨_, _, congrArg (fun l : List Ac => Value.slice _ l.length _) hAl.symm⟩, ⟨_, _, congrArg (fun l : List Bs => Value.slice _ l.length _) hKl.symm⟩, rfl⟩
 refine .sr (.ui rfl rfl rfl (.an rfl (.condD rfl (fun h72 => ?_) (fun h72 => ?_))))
 ·refine .region (.m rfl (.u (.fieldAddr rfl fo_28_2) (.u (.ld rfl ag_9) (.oq (.c Tryz.func57 [_, _] (trkids_spec t τ r.path N ho hN)) ?_))))
  rintro v L' ⟨uk, lk, rfl, -, hlk, ⟨ak, ck, rfl⟩, rfl⟩; rw [if_pos hth] at hlk; subst hlk
  refine .m rfl (.u (.extract rfl rfl) (.u (.extract rfl rfl) (.u (.fieldAddr rfl fo_57_7) (.oq (.store rfl rfl rfl sz_23 ?c289 (nfz0 _ _)) ?_))))
  case c289 => simp
  rintro v L' rfl
  refine .nil (.ptCast (b := b7) (l' := rpC ⟨r.xid, τ.zx, 0, [], [], statD τ r.path, nilV, (.slice ak (kidsZ τ r.path).length ck), nilV⟩) (by repeat' constructor) (by exact rfl) (.blk_n (.then_n (.sr (.q (.to (v' := .agg (rpC (⟨r.xid, τ.zx, 0, [], [], statD τ r.path, (nilV), (.slice ak (kidsZ τ r.path).length ck), nilV⟩ : Rp)).toArray) (.loadA rfl ag_57 (by repeat' constructor) (by simp)) (by rfl)) rfl (.oq (.storeA rfl rfl ?c293 sz_57 ?c296 ?c294 (nfz0 _ _)) ?_))))))
  case c293 => exact rp_cells rfl rfl rfl
  case c296 => rfl
  case c294 => simp
  rintro v L' rfl
  refine .nil ?_
  have hAl : readAl τ ids r = [] := readAl_no (fun g => by have := g.2; omega)
  have hKl : readKl τ ids r = kidsZ τ r.path := readKl_yes hx h72
  refine .add (slR_nil 85 2) (.as (q := slR 85 2 nilV (readAl τ ids r).length ((readAl τ ids r).flatMap acC)) (p := slR 85 2 nilV 0 []) (by repeat' constructor) (by rw [hAl]; rfl) (.as (q := slR 9 1 (.slice ak (kidsZ τ r.path).length ck) (readKl τ ids r).length (strs (readKl τ ids r))) (p := slR 9 1 (.slice ak (kidsZ τ r.path).length ck) (kidsZ τ r.path).length (strs (kidsZ τ r.path))) (by repeat' constructor) (by rw [hKl]) (.ptCast (b := b6) (l' := rpC (readR τ ids r nilV (.slice ak (kidsZ τ r.path).length ck))) (by repeat' constructor) (by rw [readR_other hx h61]; rfl) (.then_n (.ret ?_)))))
  exact .d1 rfl (.cellA rfl ag_57 (by repeat' constructor) (by simp) rfl) ⟨nilV, .slice ak (kidsZ τ r.path).length ck, rfl, ⟨_, _, congrArg (fun l : List Ac => Value.slice _ l.length _) hAl.symm⟩, ⟨_, _, congrArg (fun l : List Bs => Value.slice _ l.length _) hKl.symm⟩, rfl⟩
 refine .sr (.ui rfl rfl rfl (.an rfl (.condD rfl (fun h82 => ?_) (fun h82 => ?_))))
 ·refine .region (.m rfl (.u (.fieldAddr rfl fo_28_2) (.u (.ld rfl ag_9) (.oq (.c Tryz.func56 [_, _] (tracl_spec t τ r.path N ho)) ?_))))
  rintro v L' ⟨ua, rfl, ⟨aa, ca, rfl⟩, rfl⟩
  refine .m rfl (.u (.extract rfl rfl) (.u (.extract rfl rfl) (.u (.fieldAddr rfl fo_57_6) (.oq (.store rfl rfl rfl sz_24 ?c307 (nfz0 _ _)) ?_))))
  case c307 => simp
  rintro v L' rfl
  refine .nil (.ptCast (b := b7) (l' := rpC ⟨r.xid, τ.zx, 0, [], [], statD τ r.path, (.slice aa (aclD τ r.path).length ca), nilV, nilV⟩) (by repeat' constructor) (by exact rfl) (.blk_n (.then_n (.sr (.q (.to (v' := .agg (rpC (⟨r.xid, τ.zx, 0, [], [], statD τ r.path, (.slice aa (aclD τ r.path).length ca), (nilV), nilV⟩ : Rp)).toArray) (.loadA rfl ag_57 (by repeat' constructor) (by simp)) (by rfl)) rfl (.oq (.storeA rfl rfl ?c311 sz_57 ?c314 ?c312 (nfz0 _ _)) ?_))))))
  case c311 => exact rp_cells rfl rfl rfl
  case c314 => rfl
  case c312 => simp
  rintro v L' rfl
  refine .nil ?_
  have hAl : readAl τ ids r = aclD τ r.path := readAl_yes hx h82
  have hKl : readKl τ ids r = [] := readKl_no (fun g => by have := g.2; omega)
  refine .add (slR_nil 9 1) (.as (q := slR 9 1 nilV (readKl τ ids r).length (strs (readKl τ ids r))) (p := slR 9 1 nilV 0 []) (by repeat' constructor) (by rw [hKl]; rfl) (.as (q := slR 85 2 (.slice aa (aclD τ r.path).length ca) (readAl τ ids r).length ((readAl τ ids r).flatMap acC)) (p := slR 85 2 (.slice aa (aclD τ r.path).length ca) (aclD τ r.path).length ((aclD τ r.path).flatMap acC)) (by repeat' constructor) (by rw [hAl]) (.ptCast (b := b6) (l' := rpC (readR τ ids r (.slice aa (aclD τ r.path).length ca) nilV)) (by repeat' constructor) (by rw [readR_other hx h61]; rfl) (.then_n (.ret ?_)))))
  exact .d1 rfl (.cellA rfl ag_57 (by repeat' constructor) (by simp) rfl) ⟨.slice aa (aclD τ r.path).length ca, nilV, rfl, ⟨_, _, congrArg (fun l : List Ac => Value.slice _ l.length _) hAl.symm⟩, ⟨_, _, congrArg (fun l : List Bs => Value.slice _ l.length _) hKl.symm⟩, rfl⟩
 refine .skip (.blk_n (.then_n (.sr (.q (.to (v' := .agg (rpC (⟨r.xid, τ.zx, 0, [], [], statD τ r.path, (nilV), (nilV), nilV⟩ : Rp)).toArray) (.loadA rfl ag_57 (by repeat' constructor) (by simp)) (by rfl)) rfl (.oq (.storeA rfl rfl ?c317 sz_57 ?c320 ?c318 (nfz0 _ _)) ?_)))))
 case c317 => exact rp_cells rfl rfl rfl
 case c320 => rfl
 case c318 => simp
 rintro v L' rfl
 refine .nil ?_
 have hAl : readAl τ ids r = [] := readAl_no (fun g => h82 g.2)
 have hKl : readKl τ ids r = [] := readKl_no (fun g => h72 g.2)
 refine .add (slR_nil 85 2) (.as (q := slR 85 2 nilV (readAl τ ids r).length ((readAl τ ids r).flatMap acC)) (p := slR 85 2 nilV 0 []) (by repeat' constructor) (by rw [hAl]; rfl) (.add (slR_nil 9 1) (.as (q := slR 9 1 nilV (readKl τ ids r).length (strs (readKl τ ids r))) (p := slR 9 1 nilV 0 []) (by repeat' constructor) (by rw [hKl]; rfl) (.ptCast (b := b6) (l' := rpC (readR τ ids r nilV nilV)) (by repeat' constructor) (by rw [readR_other hx h61]; rfl) (.then_n (.ret ?_))))))
 exact .d1 rfl (.cellA rfl ag_57 (by repeat' constructor) (by simp) rfl) ⟨nilV, nilV, rfl, ⟨_, _, congrArg (fun l : List Ac => Value.slice _ l.length _) hAl.symm⟩, ⟨_, _, congrArg (fun l : List Bs => Value.slice _ l.length _) hKl.symm⟩, rfl⟩
theorem pread0_spec (iv : Value) (r : Rq) : Fn Tryz.prog 40 #[.pointer none, iv, .agg (rqC r).toArray] [] fun v L => v = .agg (rpC rp0).toArray ∧ L = [] := by
 refine Fn.intro Tryz.func40 rfl rfl fun F W => ?_
 refine .sr (.oq (.box rfl) ?_)
 rintro v L' ⟨b5, rfl, rfl⟩
 refine .oq (.allocA ze_57) ?_
 rintro v L' ⟨b6, rfl, rfl⟩
 refine .nt (.seq (.sm rfl (.q (.ptreq rfl rfl Tryz.underlying30) rfl (.nt (.condT rfl (.sr (.q (.to (v' := .agg (rpC rp0).toArray) (.buildN (pl := [(0, 1), (1, 1), (2, 1), (3, 1), (4, 1), (5, 9), (14, 1), (15, 1), (16, 1)]) (us := []) (cells := rpC rp0) Tryz.underlying57 (by kernel_rfl) ze_57 rfl rfl) rfl) rfl (.oq (.storeA rfl rfl ?c8 sz_57 ?c11 ?c9 (nfz0 _ _)) ?_))))))))
 case c8 => exact rp_cells rfl rfl rfl
 case c11 => rfl
 case c9 => simp
 rintro v L' rfl
 refine .nil (.ptCast (b := b6) (l' := rpC rp0) (by repeat' constructor) (by exact rfl) (.then_n (.rt ?_)))
 exact .d1 rfl (.cellA rfl ag_57 (by repeat' constructor) (by simp) rfl) ⟨rfl, rfl⟩
theorem prepReads12_spec (va iv : Value) (es : List En) (ids : List Bs) (r : Rq) (q : HP) (hA : EntsA q va es) (hN : ∀ e ∈ es, EnN e) (hF : wtL es ≤ 500000) (hW : WiA q ⟨0, ids⟩ iv r) : Fn Tryz.prog 9 #[va, iv, .agg (rqC r).toArray] [q] fun v L => v = .bool true ∧ L = [q] := by
 refine Fn.intro Tryz.func9 rfl rfl fun F W => ?_
 have hok0 := ents_ok (p := q) newT_ok hA.tx
 have hok : (appL newT es).Ok 524288 := hok0.more (by omega)
 have hw : TrW (appL newT es) := ents_w TrW.new hN
 have hsb : SesB (appL newT es) := ents_sesB (by intro y hy; cases hy) hA.own
 refine .add (p := nilP) nilP_ok (.add (p := nilP) nilP_ok (.sr (.oq (.box rfl) ?_)))
 rintro v L' ⟨b5, rfl, rfl⟩
 refine .a rfl (.nil (.ptCast (b := b5) (l' := rqC r) (by repeat' constructor) (by exact rfl) (.then_n (.sr (.cv Tryz.func10 [] (awake12_spec q hW.tab) ?_)))))
 refine .an rfl (.sm rfl (.oq (.c Tryz.func11 [_] (trees12_spec va es q hA)) ?_))
 rintro v L' ⟨t, x, rfl, rfl⟩
 refine .m rfl (.u (.extract rfl rfl) (.u (.extract rfl rfl) (.a rfl (.an rfl (.seq (.sm rfl (.u (.not rfl) (.m rfl (.grun (t := 25) rfl rfl rfl (.m rfl (.grun (t := 25) rfl rfl rfl (.q (.ptreq rfl rfl Tryz.underlying30) rfl (.u (.pickF rfl rfl) (.nt (.condF rfl (.sk (.sm rfl (.m rfl (.q (.to (v' := .agg (rqC r).toArray) (.loadA rfl ag_28 (by repeat' constructor) (by simp [rqC])) (by rfl)) rfl (.oq (.c Tryz.func41 [_, _, _] (r12read_spec x (appL newT es) ids iv r q hW 524288 hok (by decide))) ?_))))))))))))))))))))
 rintro v L' ⟨av1, kv1, rfl, hav1, hkv1, rfl⟩
 refine .oq (.allocA ze_57) ?_
 rintro v L' ⟨b10, rfl, rfl⟩
 refine .oq (.storeA rfl rfl ?c19 sz_57 ?c22 ?c20 (nfz0 _ _)) ?_
 case c19 => exact rp_cells (by obtain ⟨_, _, e⟩ := hav1; show isCell av1 = true; rw [e]; rfl) (by obtain ⟨_, _, e⟩ := hkv1; show isCell kv1 = true; rw [e]; rfl) rfl
 case c22 => rfl
 case c20 => simp
 rintro v L' rfl
 refine .nil (.ptCast (b := b10) (l' := rpC (readR (appL newT es) ids r av1 kv1)) (by repeat' constructor) (by exact rfl) (.fold (p := sep [slR 85 2 av1 (readAl (appL newT es) ids r).length ((readAl (appL newT es) ids r).flatMap acC), slR 9 1 kv1 (readKl (appL newT es) ids r).length (strs (readKl (appL newT es) ids r))]) (q := [slR 85 2 av1 (readAl (appL newT es) ids r).length ((readAl (appL newT es) ids r).flatMap acC), slR 9 1 kv1 (readKl (appL newT es) ids r).length (strs (readKl (appL newT es) ids r))]) (by repeat' constructor) (fun _ h => h) ?_))
 have hR1 := read_L hw hok (by decide) (ids := ids) (r := r) hW.rq.xid (av := av1) (kv := kv1) (p := sep [slR 85 2 av1 (readAl (appL newT es) ids r).length ((readAl (appL newT es) ids r).flatMap acC), slR 9 1 kv1 (readKl (appL newT es) ids r).length (strs (readKl (appL newT es) ids r))]) (rd_head (fun _ => slR_rd)) (rd_two (fun _ => slR_rd)) hav1 hkv1
 refine .then_n (.seq (.sr (.an rfl (.block (.loopK (ι := Nat) (fun q E => (11, vint q) :: E) (fun q => []) (fun q => q ≤ 2) (fun q => 2 - q) (0) (ts := [1, 5, 8, 9, 10]) (.cons rfl (.cons rfl (.cons rfl (.cons rfl (.cons rfl (.nil)))))) (Nat.zero_le _) ⟨rfl, rfl, rfl, rfl, rfl, rfl, trivial⟩ (by repeat' constructor) ?_)))))
 rintro i hi
 refine .seq (.sm rfl (.ui rfl rfl rfl (.nt (.condD rfl (fun h34 => ?_) (fun h34 => ?_)))))
 ·refine .sk (.seq (.block (.sm rfl (.m rfl (.q (.to (v' := .agg (rqC r).toArray) (.loadA rfl ag_28 (by repeat' constructor) (by simp [rqC])) (by rfl)) rfl (.oq (.c Tryz.func40 [_, _, _] (pread_spec t (appL newT es) ids iv r q hW 524288 hok (by decide))) ?_))))))
  rintro v L' ⟨av3, kv3, rfl, hav3, hkv3, rfl⟩
  refine .oq (.allocA ze_57) ?_
  rintro v L' ⟨b12, rfl, rfl⟩
  refine .oq (.storeA rfl rfl ?c34 sz_57 ?c37 ?c35 (nfz0 _ _)) ?_
  case c34 => exact rp_cells (by obtain ⟨_, _, e⟩ := hav3; show isCell av3 = true; rw [e]; rfl) (by obtain ⟨_, _, e⟩ := hkv3; show isCell kv3 = true; rw [e]; rfl) rfl
  case c37 => rfl
  case c35 => simp
  rintro v L' rfl
  refine .nil (.ptCast (b := b12) (l' := rpC (readR (appL newT es) ids r av3 kv3)) (by repeat' constructor) (by exact rfl) (.fold (p := sep [slR 85 2 av3 (readAl (appL newT es) ids r).length ((readAl (appL newT es) ids r).flatMap acC), slR 9 1 kv3 (readKl (appL newT es) ids r).length (strs (readKl (appL newT es) ids r))]) (q := [slR 85 2 av3 (readAl (appL newT es) ids r).length ((readAl (appL newT es) ids r).flatMap acC), slR 9 1 kv3 (readKl (appL newT es) ids r).length (strs (readKl (appL newT es) ids r))]) (by repeat' constructor) (fun _ h => h) ?_))
  have hR3 := read_L hw hok (by decide) (ids := ids) (r := r) hW.rq.xid (av := av3) (kv := kv3) (p := sep [slR 85 2 av3 (readAl (appL newT es) ids r).length ((readAl (appL newT es) ids r).flatMap acC), slR 9 1 kv3 (readKl (appL newT es) ids r).length (strs (readKl (appL newT es) ids r))]) (rd_head (fun _ => slR_rd)) (rd_two (fun _ => slR_rd)) hav3 hkv3
  refine .then_n (.sr (.q (.to (v' := .agg (rpC (readR (appL newT es) ids r av3 kv3)).toArray) (.loadA rfl ag_57 (by repeat' constructor) (by simp)) (by rfl)) rfl (.q (.to (v' := .agg (rpC (readR (appL newT es) ids r av1 kv1)).toArray) (.loadA rfl ag_57 (by repeat' constructor) (by simp)) (by rfl)) rfl (.oq (.c Tryz.func24 [_, _] (preplies12_spec _ _ _ _ _ _ [] [] _ _ hR3 hR1)) ?_))))
  rintro v L' ⟨rfl, rfl⟩; rw [decide_eq_true (read_same rfl av3 kv3 av1 kv1)]
  refine .a rfl (.nil (.focus (p := sep [slR 85 2 av3 (readAl (appL newT es) ids r).length ((readAl (appL newT es) ids r).flatMap acC), slR 9 1 kv3 (readKl (appL newT es) ids r).length (strs (readKl (appL newT es) ids r))]) (by repeat' constructor) (.unfold (q := [slR 85 2 av3 (readAl (appL newT es) ids r).length ((readAl (appL newT es) ids r).flatMap acC), slR 9 1 kv3 (readKl (appL newT es) ids r).length (strs (readKl (appL newT es) ids r))]) (fun _ h => h) ?_)))
  obtain ⟨a3, c3, rfl⟩ := hav3
  obtain ⟨k3, d3, rfl⟩ := hkv3
  have hkl : (readKl (appL newT es) ids r).length ≤ 1048576 := (readKl_w hok (by decide) ids r).1
  have hal : (readAl (appL newT es) ids r).length ≤ 1048576 := (readAl_w hw ids r).few
  refine .then_n (.seq (.sm rfl (.u (.not rfl) (.nt (.condF rfl (.sk (.seq (.sr (.an rfl (.block (.loopK (ι := Nat × (List Value)) (fun q E => (14, vint q.1) :: E) (fun q => [slR 9 1 (.slice k3 (readKl (appL newT es) ids r).length d3) (readKl (appL newT es) ids r).length q.2]) (fun q => q.1 ≤ (readKl (appL newT es) ids r).length) (fun q => (readKl (appL newT es) ids r).length - q.1) (0, strs (readKl (appL newT es) ids r)) (ts := [1, 5, 8, 9, 10, 11, 12, 13, 33, 34, 37, 38, 39, 40, 41, 42, 43, 44, 45]) (.cons rfl (.cons rfl (.cons rfl (.cons rfl (.cons rfl (.cons rfl (.cons rfl (.cons rfl (.cons rfl (.cons rfl (.cons rfl (.cons rfl (.cons rfl (.cons rfl (.cons rfl (.cons rfl (.cons rfl (.cons rfl (.cons rfl (.nil)))))))))))))))))))) (Nat.zero_le _) ⟨rfl, rfl, rfl, rfl, rfl, rfl, rfl, rfl, rfl, rfl, rfl, rfl, rfl, rfl, rfl, rfl, rfl, rfl, rfl, rfl, trivial⟩ (by repeat' constructor) ?_)))))))))))
  rintro ⟨j, zs⟩ hj
  dsimp only
  dsimp only at hj
  refine .seq (.sm rfl (.u (.fieldAddr rfl fo_57_7) (.u (.ld rfl ag_23) (.q (.slen rfl Tryz.underlying23 rfl) rfl (.ui rfl rfl rfl (.nt (.condD rfl (fun h50 => ?_) (fun h50 => ?_))))))))
  ·have hj2 : j < (readKl (appL newT es) ids r).length := by omega
   refine .slShape (T := 9) (sz := 1) (v := .slice k3 (readKl (appL newT es) ids r).length d3) (xs := zs) (by repeat' constructor) (by omega) fun bo bo' e0 mbo _ => ?_
   simp only [Value.slice.injEq, true_and] at e0
   obtain ⟨rfl, rfl⟩ := e0
   refine .sk (.seq (.block (.region (.u (.fieldAddr rfl fo_57_7) (.u (.ld rfl ag_23) (.m rfl (.q (.indexAddr rfl rfl el_23 (by omega)) rfl (.oq (.storeRd (sz := 1) (j := j * 1) rfl rfl rfl sz_9 ?ho54 ?hi55) ?_))))))))
   case ho54 => omega
   case hi55 => omega
   rintro v L' rfl
   refine .nil (.blk_n (.then_n (.region (.m rfl (.q (.add rfl rfl (by omega)) rfl (.an rfl ?_))))))
   exact .rk ((j + 1, zs.set (j * 1) (vstr [111, 118, 101, 114]))) (by dsimp only; omega) (by dsimp only; omega) ⟨rfl, rfl, rfl, rfl, rfl, rfl, rfl, rfl, rfl, rfl, rfl, rfl, rfl, rfl, rfl, rfl, rfl, rfl, rfl, rfl, trivial⟩
  refine .exit (.then_e (.then_e (.blk_e (.then_n (.sr (.an rfl (.block (.loopK (ι := Nat × (List Value)) (fun q E => (15, vint q.1) :: E) (fun q => [slR 85 2 (.slice a3 (readAl (appL newT es) ids r).length c3) (readAl (appL newT es) ids r).length q.2]) (fun q => q.1 ≤ (readAl (appL newT es) ids r).length) (fun q => (readAl (appL newT es) ids r).length - q.1) (0, (readAl (appL newT es) ids r).flatMap acC) (ts := [1, 5, 8, 9, 10, 11, 12, 13, 14, 33, 34, 37, 38, 39, 40, 41, 42, 43, 44, 45, 46, 47, 48, 49, 50]) (.cons rfl (.cons rfl (.cons rfl (.cons rfl (.cons rfl (.cons rfl (.cons rfl (.cons rfl (.cons rfl (.cons rfl (.cons rfl (.cons rfl (.cons rfl (.cons rfl (.cons rfl (.cons rfl (.cons rfl (.cons rfl (.cons rfl (.cons rfl (.cons rfl (.cons rfl (.cons rfl (.cons rfl (.cons rfl (.nil)))))))))))))))))))))))))) (Nat.zero_le _) ⟨rfl, rfl, rfl, rfl, rfl, rfl, rfl, rfl, rfl, rfl, rfl, rfl, rfl, rfl, rfl, rfl, rfl, rfl, rfl, rfl, rfl, rfl, rfl, rfl, rfl, rfl, trivial⟩ (by repeat' constructor) ?_))))))))
  rintro ⟨j, ys⟩ hj
  dsimp only
  dsimp only at hj
  refine .seq (.sm rfl (.u (.fieldAddr rfl fo_57_6) (.u (.ld rfl ag_24) (.q (.slen rfl Tryz.underlying24 rfl) rfl (.ui rfl rfl rfl (.nt (.condD rfl (fun h61 => ?_) (fun h61 => ?_))))))))
  ·have hj2 : j < (readAl (appL newT es) ids r).length := by omega
   refine .slShape (T := 85) (sz := 2) (v := .slice a3 (readAl (appL newT es) ids r).length c3) (xs := ys) (by repeat' constructor) (by omega) fun bo bo' e0 mbo _ => ?_
   simp only [Value.slice.injEq, true_and] at e0
   obtain ⟨rfl, rfl⟩ := e0
   refine .sk (.seq (.block (.region (.u (.fieldAddr rfl fo_57_6) (.u (.ld rfl ag_24) (.m rfl (.q (.to (v' := .agg (acC (-1, [])).toArray) (.build (us := [(0, _)]) fl_85 ze_85 rfl rfl (by simp [isCell])) rfl) rfl (.q (.indexAddr rfl rfl el_24 (by omega)) rfl (.oq (.storeRdA (sz := 2) (j := j * 2) (k := 2) (vs := acC (-1, [])) rfl rfl (by simp [acC, isCell]) sz_85 rfl ?ho70 ?hi71) ?_)))))))))
   case ho70 => omega
   case hi71 => omega
   rintro v L' rfl
   refine .nil (.blk_n (.then_n (.region (.m rfl (.q (.add rfl rfl (by omega)) rfl (.an rfl ?_))))))
   exact .rk ((j + 1, spl ys (j * 2) (acC (-1, [])))) (by dsimp only; omega) (by dsimp only; omega) ⟨rfl, rfl, rfl, rfl, rfl, rfl, rfl, rfl, rfl, rfl, rfl, rfl, rfl, rfl, rfl, rfl, rfl, rfl, rfl, rfl, rfl, rfl, rfl, rfl, rfl, rfl, trivial⟩
  refine .exit (.then_e (.then_e (.blk_e (.blk_n (.then_n (.region (.m rfl (.q (.add rfl rfl (by omega)) rfl (.an rfl ?_)))))))))
  exact .rk (i + 1) (by omega) (by omega) ⟨rfl, rfl, rfl, rfl, rfl, rfl, trivial⟩
 refine .exit (.then_e (.then_e (.blk_e (.then_n (.sm rfl (.m rfl (.cv Tryz.func20 [_, _] (alike7_spec t x (appL newT es) 524288 hok (by decide) hsb) ?_)))))))
 refine .an rfl (.sm rfl (.m rfl (.grun (t := 73) rfl rfl rfl (.m rfl (.grun (t := 73) rfl rfl rfl (.q (.to (v' := .agg (rqC r).toArray) (.loadA rfl ag_28 (by repeat' constructor) (by simp [rqC])) (by rfl)) rfl (.grun (t := 73) rfl rfl rfl (.cv Tryz.func40 [_, _, _] (pread0_spec iv r) ?_))))))))
 refine .grun (t := 73) rfl rfl rfl (.q (.to (v' := .agg (rpC rp0).toArray) (.buildN (pl := [(0, 1), (1, 1), (2, 1), (3, 1), (4, 1), (5, 9), (14, 1), (15, 1), (16, 1)]) (us := []) (cells := rpC rp0) Tryz.underlying57 (by kernel_rfl) ze_57 rfl rfl) rfl) rfl (.grun (t := 73) rfl rfl rfl (.oq (.c Tryz.func24 [_, _] (preplies12_spec rp0 rp0 [] [] [] [] [] [] nilP nilP (rp0_L _) (rp0_L _))) ?_)))
 rintro v L' ⟨rfl, rfl⟩; rw [decide_eq_true rfl]
 refine .u (.pickT rfl rfl) (.an rfl (.ret ?_))
 exact .vv
open Go Go.ChangeShapes Go.WideShapes Go.ChangeAt Go.RowKit
section
variable {H : Type} {enc : TypeId × Value → H} {P : Program} {W W' : World}
theorem trodAll_old (hl : laidOutB P = true) (hb : Below W.heap.size W W') (sp : Nat → Bool) : ∀ (ts : List TypeId) (vs : List Value) (ds : List (DataW H)) (p : List MemPlace), (∀ t ∈ ts, P.readableRec t = true ∧ t < P.types.size) →
  DataW.TrodAll enc P W 0 (fun _ => true) true ts vs ds p → (∀ x ∈ p, x.block < W.heap.size) → (∀ x ∈ p, sp x.block = true) → DataW.TrodAll enc P W' 0 sp true ts vs ds p
 | [], vs, ds, p, _, h, _, _ => by
  obtain ⟨rfl, rfl, rfl⟩ := trodAll_nil h
  exact h
 | t :: ts, vs, ds, p, hr, h, hlt, hsp => by
  obtain ⟨v, vs1, d, ds1, a, b, rfl, rfl, rfl, h1, h2⟩ := trodAll_cons h
  have r := hr t (by simp)
  refine ⟨a, b, WideElems.Trod_stays hl r.1 r.2 h1 (fun x hx => hb.same (hlt x (by simp [hx]))) (fun x hx => hsp x (by simp [hx])), ?_, rfl⟩
  exact trodAll_old hl hb sp ts vs1 ds1 b (fun t ht => hr t (by simp [ht])) h2 (fun x hx => hlt x (by simp [hx])) (fun x hx => hsp x (by simp [hx]))
theorem settled {fn : Func} {s : ChangeSpec} {apart fresh handsOn again : Bool} {args : Array Value} {ds gs : List (DataW H)} {before : List MemPlace} {tb : TypeId}
  (hW : DataW.Whole enc P fn.params.toList s.vars apart W args.toList ds gs before) (hvars : s.vars = []) (hspec : ∀ gs', gs' = [] → s.fn H (ds ++ gs') = { results := [.lit (.bool true)], args := ds })
  (hres : fn.resultTypes = #[tb]) (htb : P.underlying tb = some .bool) (hl : laidOutB P = true) (hr : ∀ t ∈ fn.params.toList, P.readableRec t = true ∧ t < P.types.size) (hb : Below W.heap.size W W') :
  s.post enc P fn apart fresh handsOn again W args (.bool true) W' := by
 have hW' := hW
 have hlt := hW.lt
 obtain ⟨p, q, hA, hV, rfl, hfz, hnd⟩ := hW
 rw [hvars] at hV
 obtain ⟨rfl, rfl⟩ := trodVars_none hV
 have hs := hspec [] rfl
 have hargs : ∀ sp : Nat → Bool, (∀ x ∈ p, sp x.block = true) → DataW.TrodAll enc P W' 0 sp true fn.params.toList args.toList ds p := fun sp hsp =>
  trodAll_old hl hb sp _ _ _ _ hr hA (fun x hx => hlt x (by simp [hx])) hsp
 have hbool : ∀ (b : Nat) (sp : Nat → Bool) (hd : Bool), DataW.TrodAll enc P W' b sp hd fn.resultTypes.toList ((Value.bool true).resultList fn.resultTypes.size) [.lit (.bool true)] [] := by
  intro b sp hd
  rw [hres]
  exact trodAll_cons_mk (shut_bool htb _) trodAll_mk0
 refine ⟨ds, [], p ++ [], [], p, [], hW', ?_, ?_, ?_, hb.frame _, fun _ => ⟨ok_one hres rfl (okWide_bool_mk htb _), [.lit (.bool true)] ++ ds, [], p, ⟨p, [], ?_, ?_, by simp, ?_, ?_⟩, ?_⟩⟩
 ·rw [hs]; exact hbool _ _ _
 ·rw [hs]; exact hargs _ (fun x hx => by simpa using hlt x (by simp [hx]))
 ·rw [hs, hvars]; exact hV
 ·exact trodAll_append (hargs _ (fun _ _ => rfl)) (hbool _ _ _)
 ·rw [hvars]; exact hV
 ·intro b off hp
  rw [hb.frozen (p := ⟨b, off, none⟩) (hlt (.cell b off) (by simp [hp]))]
  exact hfz b off (by simp [hp])
 ·intro ha
  have := hnd ha
  simpa using this
 ·intro x hx _
  simp [hx]
theorem old_calls {f : FuncId} {args : Array Value} (h : Fn P f args [Old W] fun v L => v = .bool true ∧ L = [Old W]) :
  Calls P f args W fun e W' => e = .returned (.bool true) ∧ Below W.heap.size W W' := by
 have h0 : St [Old W] W := ⟨fun b => W.heap[b]?, fun _ => none, fun _ => .inr rfl, fun b o h => h, fun b o h => (by cases h), fun b hb => rfl, trivial⟩
 refine (h [] W h0).mono ?_
 rintro e W' ⟨v, L, ⟨rfl, rfl⟩, rfl, hs, hk⟩
 refine ⟨rfl, hk.os, hk.tape, hk.output, hk.size, fun k hk' => ?_⟩
 obtain ⟨h1, a1, hp⟩ := sep_head hs
 have e1 := hp k hk'
 have : ∃ o, W.heap[k]? = some o := ⟨_, Array.getElem?_eq_getElem hk'⟩
 obtain ⟨o, ho⟩ := this
 rw [ho] at e1 ⊢
 exact a1 _ _ e1
theorem old_rd {a : Addr} {len cap : Nat} {V : Nat → Value} (hc : ∀ i, i < len → W.cell? (a.add i) = some (V i)) (hle : len ≤ cap) : ∀ h : Hp, Old W h → rdS 1 h (.slice (some a) len cap) len ((List.range len).map V) := by
 intro h hold
 rcases Nat.eq_zero_or_pos len with rfl | hpos
 ·exact .inl ⟨rfl, rfl, some a, cap, rfl⟩
 ·obtain ⟨b, off, spot⟩ := a
  have h0 := hc 0 hpos
  have e0 : (⟨b, off, spot⟩ : Addr).add 0 = ⟨b, off, spot⟩ := by simp [Addr.add]
  rw [e0] at h0
  simp only [World.cell?] at h0
  rcases hw : W.heap[b]? with _ | o
  ·rw [hw] at h0; cases h0
  ·cases o with
   | cells c T fr =>
    rw [hw] at h0
    dsimp only at h0
    split at h0
    ·cases h0
    ·rename_i hsp
     have hspot : spot = none := by simpa using hsp
     subst hspot
     have hc' : ∀ i, i < len → c[off + i]? = some (V i) := by
      intro i hi
      have := hc i hi
      have e1 : (⟨b, off, none⟩ : Addr).add i = ⟨b, off + i, none⟩ := by
       simp only [Addr.add]; split
       ·rename_i h0; simp [h0]
       ·rfl
      rw [e1] at this
      simp only [World.cell?, hw] at this
      simpa using this
     have hlt : b < W.heap.size := by
      rcases Nat.lt_or_ge b W.heap.size with h' | h'
      ·exact h'
      ·rw [Array.getElem?_eq_none h'] at hw; cases hw
     have hlen : off + len ≤ c.size := by
      have := hc' (len - 1) (by omega)
      rcases Nat.lt_or_ge (off + (len - 1)) c.size with h' | h'
      ·omega
      ·rw [Array.getElem?_eq_none h'] at this; cases this
     refine .inr ⟨b, off, cap, c.toList, T, fr, rfl, by rw [hold b hlt, hw], ?_, by simpa using hlen, hle⟩
     apply List.ext_getElem?
     intro i
     rw [Nat.mul_one, List.getElem?_take, List.getElem?_map, List.getElem?_drop]
     split
     ·rename_i hi
      rw [List.getElem?_range hi]
      simpa using hc' i hi
     ·rename_i hi
      rw [List.getElem?_eq_none (by simpa using hi)]; rfl
   | _ => rw [hw] at h0; cases h0
end
open Go Go.ChangeShapes Go.WideShapes Go.ChangeAt Go.RowKit
section
variable {H : Type} {enc : TypeId × Value → H} {P : Program} {W : World}
theorem string_vstr (s : ByteArray) : Value.string s = vstr s.data.toList := by cases s; rfl
end
open Go Go.ChangeShapes Go.WideShapes Go.ChangeAt Go.RowKit
section
variable {H : Type} {enc : TypeId × Value → H} {P : Program} {W : World}
theorem flat_at {α : Type} {sz : Nat} (f : Nat → List α) : ∀ n, (∀ i, i < n → (f i).length = sz) → ∀ j, j < n * sz → ((List.range n).flatMap f)[j]? = (f (j / sz))[j % sz]? ∧ ((List.range n).flatMap f).length = n * sz := by
 intro n
 induction n with
 | zero => intro _ j hj; omega
 | succ n ih =>
  intro hf j hj
  have hn := hf n (by omega)
  have hlen : ((List.range n).flatMap f).length = n * sz := by
   rcases Nat.eq_zero_or_pos (n * sz) with h0 | h0
   ·rcases Nat.eq_zero_or_pos n with h1 | h1
    ·subst h1; simp
    ·have : sz = 0 := by
      rcases Nat.eq_zero_or_pos sz with h2 | h2
      ·exact h2
      ·have := Nat.mul_pos h1 h2; omega
     subst this; omega
   ·exact (ih (fun i hi => hf i (by omega)) 0 h0).2
  have e : (List.range (n + 1)).flatMap f = (List.range n).flatMap f ++ f n := by simp [List.range_succ]
  have hm : (n + 1) * sz = n * sz + sz := by rw [Nat.add_mul, Nat.one_mul]
  rw [e]
  refine ⟨?_, by rw [List.length_append, hlen, hn, hm]⟩
  rcases Nat.lt_or_ge j (n * sz) with h | h
  ·rw [List.getElem?_append_left (by omega)]
   exact (ih (fun i hi => hf i (by omega)) j h).1
  ·rw [List.getElem?_append_right (by omega), hlen]
   have hs : 0 < sz := by omega
   have h1 : j / sz = n := by
    have : j < (n + 1) * sz := hj
    have a := Nat.div_lt_of_lt_mul (show j < sz * (n + 1) by rw [Nat.mul_comm]; exact this)
    have b := (Nat.le_div_iff_mul_le hs).2 h
    omega
   have h2 : j % sz = j - n * sz := by
    have := Nat.div_add_mod j sz
    rw [h1, Nat.mul_comm] at this; omega
   rw [h1, h2]
theorem rdS_regroup {sz n c c1 : Nat} {a : Option Addr} {ys : List Value} {h : Hp} (hr : rdS 1 h (.slice a (n * sz) c1) (n * sz) ys) (hc : n ≤ c) (hs : 0 < sz) : rdS sz h (.slice a n c) n ys := by
 rcases hr with ⟨h1, h2, -⟩ | ⟨b, off, cap, l, T, fr, hv, hb, h1, h2, h3⟩
 ·have : n = 0 := by
   rcases Nat.eq_zero_or_pos n with h0 | h0
   ·exact h0
   ·have := Nat.mul_pos h0 hs; omega
  subst this
  exact .inl ⟨rfl, h2, a, c, rfl⟩
 ·simp only [Value.slice.injEq] at hv
  obtain ⟨rfl, -, -⟩ := hv
  exact .inr ⟨b, off, c, l, T, fr, rfl, hb, by rw [← h1, Nat.mul_one], by rw [Nat.mul_one] at h2; exact h2, hc⟩
abbrev Reads (enc : TypeId × Value → H) (P : Program) (W : World) (fuel : Nat) (t : TypeId) (cs : List Value) (x : DataW H × List MemPlace) : Prop := DataW.trod enc P W 0 (fun _ => true) true fuel t cs = some x
theorem dec_int {t : TypeId} {fuel : Nat} {cs : List Value} {x : DataW H × List MemPlace} (ht : P.underlying t = some (.int .i64)) (h : Reads enc P W fuel t cs x) : ∃ n : Int, cs = [vint n] ∧ -9223372036854775808 ≤ n ∧ n ≤ 9223372036854775807 := by
 obtain ⟨n, rfl, -, hwf⟩ := DataW.trod_int ht h
 exact ⟨n, rfl, bounds_i64 hwf⟩
theorem dec_bool {t : TypeId} {fuel : Nat} {cs : List Value} {x : DataW H × List MemPlace} (ht : P.underlying t = some .bool) (h : Reads enc P W fuel t cs x) : ∃ b : Bool, cs = [.bool b] := by
 obtain ⟨b, rfl, -⟩ := DataW.trod_bool ht h
 exact ⟨b, rfl⟩
end
open Go Go.ChangeShapes Go.WideShapes Go.ChangeAt Go.RowKit
theorem bulk_pos {H : Type} (d : DataW H) : 1 ≤ Rows.uptoBulk d := by
 cases d with
 | lit l => cases l <;> simp [Rows.uptoBulk]
 | _ => simp [Rows.uptoBulk]
theorem bulk_part {H : Type} {d : DataW H} : ∀ {l : List (DataW H)}, d ∈ l → Rows.uptoBulk d ≤ Rows.uptoBulkAll l
 | x :: l, h => by
  unfold Rows.uptoBulkAll
  rcases List.mem_cons.1 h with rfl | h
  ·omega
  ·have := bulk_part h; omega
theorem bulk_count {H : Type} : ∀ l : List (DataW H), l.length ≤ Rows.uptoBulkAll l
 | [] => by simp
 | x :: l => by
  have h1 := bulk_pos x
  have h2 := bulk_count l
  unfold Rows.uptoBulkAll
  rw [List.length_cons]; omega
theorem bulk_sum {H : Type} : ∀ l : List (DataW H), (l.map Rows.uptoBulk).sum ≤ Rows.uptoBulkAll l
 | [] => by simp
 | x :: l => by
  have h2 := bulk_sum l
  unfold Rows.uptoBulkAll
  rw [List.map_cons, List.sum_cons]; omega
theorem bulk_small {H : Type} {l : List (DataW H)} (h : Rows.uptoSmall H l = true) {d : DataW H} (hd : d ∈ l) : Rows.uptoBulk d ≤ 1048576 :=
 Nat.le_trans (bulk_part hd) (of_decide_eq_true h)
instance : Inhabited Value := ⟨.bool false⟩
section
variable {H : Type} {enc : TypeId × Value → H} {P : Program} {W : World} {N : Nat}
theorem dec_int' {t : TypeId} {fuel : Nat} {cs : List Value} {x : DataW H × List MemPlace} (ht : P.underlying t = some (.int .i64)) (h : Reads enc P W fuel t cs x) : ∃ n : Int, cs = [vint n] ∧ (-9223372036854775808 ≤ n ∧ n ≤ 9223372036854775807) := by
 obtain ⟨n, h1, h2⟩ := dec_int ht h; exact ⟨n, h1, h2⟩
theorem slice_cell {t e : TypeId} {fuel : Nat} {v : Value} {x : DataW H × List MemPlace} (ht : P.underlying t = some (.slice e)) (h : Reads enc P W fuel t [v] x) : isCell v = true := by
 rcases Go.Deep.open_slice ht h with ⟨hv, -⟩ | ⟨a, len, cap, m, n, Dd, Pl, hv, -⟩
 ·rw [List.cons.injEq] at hv; rw [hv.1]; rfl
 ·rw [List.cons.injEq] at hv; rw [hv.1]; rfl
theorem dec_sliceV {Z : Type} [Inhabited Z] (toC : Z → List Value) (Q : Z → Prop) {t e : TypeId} {sz : Nat} {fuel : Nat} {cs : List Value} {x : DataW H × List MemPlace} (ht : P.underlying t = some (.slice e)) (hc : P.cellsOf e = sz) (hs : 0 < sz)
  (hdec : ∀ (n : Nat) (cs : List Value) (y : DataW H × List MemPlace), Reads enc P W n e cs y → Rows.uptoBulk y.1 ≤ N → ∃ z, cs = toC z ∧ Q z) (h : Reads enc P W fuel t cs x) (hb : Rows.uptoBulk x.1 ≤ N + 1) :
  ∃ z : Value × List Z, cs = [z.1] ∧ (∀ h : Hp, Old W h → rdS sz h z.1 z.2.length (z.2.flatMap toC)) ∧ z.2.length ≤ N ∧ ∀ y ∈ z.2, Q y := by
 subst hc
 rcases Go.Deep.open_slice ht h with ⟨rfl, rfl⟩ | ⟨a, len, cap, m, n, Dd, Pl, rfl, -, hl, hm, hmm, rfl, hx⟩
 ·exact ⟨(_, []), rfl, fun h _ => .inl ⟨rfl, rfl, none, 0, rfl⟩, by simp, by simp⟩
 ·simp only [if_true] at hmm
  subst hmm
  have hbl : len ≤ N := by
   have := bulk_count ((List.range len).map Dd)
   simp only [Rows.uptoBulk] at hb
   rw [List.length_map, List.length_range] at this
   omega
  have hbe : ∀ i, i < len → Rows.uptoBulk (Dd i) ≤ N := fun i hi => by
   have := bulk_part (d := Dd i) (l := (List.range len).map Dd) (List.mem_map_of_mem (by simpa using hi))
   simp only [Rows.uptoBulk] at hb
   omega
  obtain ⟨Zf, hZ⟩ := Go.Deep.choose_lt (α := Z) (p := fun i z => W.cells? 0 (a.add (i * P.cellsOf e)) (P.cellsOf e) = some (toC z) ∧ Q z) (n := len) (fun i hi => by
   obtain ⟨cs', h1, h2⟩ := hx i (by omega)
   obtain ⟨z, rfl, h3⟩ := hdec _ _ _ h2 (hbe i hi)
   exact ⟨z, h1, h3⟩)
  have hlenf : ∀ i, i < len → (toC (Zf i)).length = P.cellsOf e := fun i hi => (World.cells?_some (hZ i hi).1).2.1
  have hflat := flat_at (fun i => toC (Zf i)) len hlenf
  refine ⟨(_, (List.range len).map Zf), rfl, ?_, ?_, ?_⟩
  ·intro h hold
   dsimp only
   rw [List.length_map, List.length_range]
   refine rdS_regroup (c1 := len * P.cellsOf e) ?_ hl hs
   have e1 : ((List.range len).map Zf).flatMap toC = (List.range (len * P.cellsOf e)).map (fun j => ((List.range len).flatMap fun i => toC (Zf i)).getD j (.bool false)) := by
    rw [List.flatMap_map]
    apply List.ext_getElem?
    intro j
    rcases Nat.lt_or_ge j (len * P.cellsOf e) with hj | hj
    ·rw [List.getElem?_map, List.getElem?_range hj]
     have := (hflat j hj).2
     have hjl : j < ((List.range len).flatMap fun i => toC (Zf i)).length := by omega
     simp only [Option.map_some, List.getD_eq_getElem?_getD, List.getElem?_eq_getElem hjl, Option.getD_some]
    ·have : ((List.range len).flatMap fun i => toC (Zf i)).length = len * P.cellsOf e := by
      rcases Nat.eq_zero_or_pos (len * P.cellsOf e) with h0 | h0
      ·have : len = 0 := by
        rcases Nat.eq_zero_or_pos len with h1 | h1
        ·exact h1
        ·have := Nat.mul_pos h1 hs; omega
       subst this; simp
      ·exact (hflat 0 h0).2
     rw [List.getElem?_eq_none (by omega), List.getElem?_eq_none (by simpa using hj)]
   rw [e1]
   refine old_rd (W := W) (fun j hj => ?_) (Nat.le_refl _) h hold
   have hi : j / P.cellsOf e < len := Nat.div_lt_of_lt_mul (by rw [Nat.mul_comm]; exact hj)
   have hcell := (World.cells?_some (hZ (j / P.cellsOf e) hi).1).2.2 (j % P.cellsOf e) (Nat.mod_lt _ hs)
   rw [Addr.add_add, Nat.mul_comm, Nat.div_add_mod] at hcell
   rw [hcell]
   obtain ⟨f1, f2⟩ := hflat j hj
   rw [List.getD_eq_getElem?_getD, f1]
   have : j % P.cellsOf e < (toC (Zf (j / P.cellsOf e))).length := by rw [hlenf _ hi]; exact Nat.mod_lt _ hs
   simp [this]
  ·dsimp only; rw [List.length_map, List.length_range]; exact hbl
  ·intro z hz
   obtain ⟨i, hi, rfl⟩ := List.mem_map.1 hz
   exact (hZ i (by simpa using hi)).2
theorem dec_sliceQV {Z : Type} [Inhabited Z] (toC : Z → List Value) (Q : Nat → Z → Prop) {t e : TypeId} {sz : Nat} {fuel : Nat} {cs : List Value} {x : DataW H × List MemPlace} (ht : P.underlying t = some (.slice e)) (hc : P.cellsOf e = sz) (hs : 0 < sz)
  (hdec : ∀ (n : Nat) (cs : List Value) (y : DataW H × List MemPlace), Reads enc P W n e cs y → ∃ z, cs = toC z ∧ Q (Rows.uptoBulk y.1) z) (h : Reads enc P W fuel t cs x) (hb : Rows.uptoBulk x.1 ≤ N + 1) :
  ∃ (z : Value × List Z) (ws : List Nat), cs = [z.1] ∧ (∀ h : Hp, Old W h → rdS sz h z.1 z.2.length (z.2.flatMap toC)) ∧ z.2.length ≤ N ∧ ws.length = z.2.length ∧ ws.sum ≤ N ∧ (∀ w ∈ ws, 1 ≤ w) ∧ ∀ i (h1 : i < z.2.length) (h2 : i < ws.length), Q ws[i] z.2[i] := by
 subst hc
 rcases Go.Deep.open_slice ht h with ⟨rfl, rfl⟩ | ⟨a, len, cap, m, n, Dd, Pl, rfl, -, hl, hm, hmm, rfl, hx⟩
 ·exact ⟨(_, []), [], rfl, fun h _ => .inl ⟨rfl, rfl, none, 0, rfl⟩, by simp, rfl, by simp, (fun _ h => by cases h), (fun i h1 _ => by simp at h1)⟩
 ·simp only [if_true] at hmm
  subst hmm
  have hbl : len ≤ N := by
   have := bulk_count ((List.range len).map Dd)
   simp only [Rows.uptoBulk] at hb
   rw [List.length_map, List.length_range] at this
   omega
  have hall : ((List.range len).map fun i => Rows.uptoBulk (Dd i)).sum ≤ N := by
   have := bulk_sum ((List.range len).map Dd)
   rw [List.map_map] at this
   simp only [Rows.uptoBulk] at hb
   have e : ((List.range len).map fun i => Rows.uptoBulk (Dd i)) = (List.range len).map (Rows.uptoBulk ∘ Dd) := rfl
   rw [e]; omega
  obtain ⟨Zf, hZ⟩ := Go.Deep.choose_lt (α := Z) (p := fun i z => W.cells? 0 (a.add (i * P.cellsOf e)) (P.cellsOf e) = some (toC z) ∧ Q (Rows.uptoBulk (Dd i)) z) (n := len) (fun i hi => by
   obtain ⟨cs', h1, h2⟩ := hx i (by omega)
   obtain ⟨z, rfl, h3⟩ := hdec _ _ _ h2
   exact ⟨z, h1, h3⟩)
  have hlenf : ∀ i, i < len → (toC (Zf i)).length = P.cellsOf e := fun i hi => (World.cells?_some (hZ i hi).1).2.1
  have hflat := flat_at (fun i => toC (Zf i)) len hlenf
  refine ⟨(_, (List.range len).map Zf), (List.range len).map fun i => Rows.uptoBulk (Dd i), rfl, ?_, ?_, by simp, hall, ?_, ?_⟩
  ·intro h hold
   dsimp only
   rw [List.length_map, List.length_range]
   refine rdS_regroup (c1 := len * P.cellsOf e) ?_ hl hs
   have e1 : ((List.range len).map Zf).flatMap toC = (List.range (len * P.cellsOf e)).map (fun j => ((List.range len).flatMap fun i => toC (Zf i)).getD j (.bool false)) := by
    rw [List.flatMap_map]
    apply List.ext_getElem?
    intro j
    rcases Nat.lt_or_ge j (len * P.cellsOf e) with hj | hj
    ·rw [List.getElem?_map, List.getElem?_range hj]
     have := (hflat j hj).2
     have hjl : j < ((List.range len).flatMap fun i => toC (Zf i)).length := by omega
     simp only [Option.map_some, List.getD_eq_getElem?_getD, List.getElem?_eq_getElem hjl, Option.getD_some]
    ·have : ((List.range len).flatMap fun i => toC (Zf i)).length = len * P.cellsOf e := by
      rcases Nat.eq_zero_or_pos (len * P.cellsOf e) with h0 | h0
      ·have : len = 0 := by
        rcases Nat.eq_zero_or_pos len with h1 | h1
        ·exact h1
        ·have := Nat.mul_pos h1 hs; omega
       subst this; simp
      ·exact (hflat 0 h0).2
     rw [List.getElem?_eq_none (by omega), List.getElem?_eq_none (by simpa using hj)]
   rw [e1]
   refine old_rd (W := W) (fun j hj => ?_) (Nat.le_refl _) h hold
   have hi : j / P.cellsOf e < len := Nat.div_lt_of_lt_mul (by rw [Nat.mul_comm]; exact hj)
   have hcell := (World.cells?_some (hZ (j / P.cellsOf e) hi).1).2.2 (j % P.cellsOf e) (Nat.mod_lt _ hs)
   rw [Addr.add_add, Nat.mul_comm, Nat.div_add_mod] at hcell
   rw [hcell]
   obtain ⟨f1, f2⟩ := hflat j hj
   rw [List.getD_eq_getElem?_getD, f1]
   have : j % P.cellsOf e < (toC (Zf (j / P.cellsOf e))).length := by rw [hlenf _ hi]; exact Nat.mod_lt _ hs
   simp [this]
  ·dsimp only; rw [List.length_map, List.length_range]; exact hbl
  ·intro w hw
   obtain ⟨i, -, rfl⟩ := List.mem_map.1 hw
   exact bulk_pos _
  ·intro i h1 h2
   simp only [List.getElem_map, List.getElem_range]
   exact (hZ i (by simpa using h1)).2
/-! ### With weights: what is read weighs no more than its bulk -/
theorem dec_strW {t : TypeId} {fuel : Nat} {cs : List Value} {x : DataW H × List MemPlace} (ht : P.underlying t = some .string) (h : Reads enc P W fuel t cs x) : ∃ s : List UInt8, cs = [vstr s] ∧ s.length + 1 ≤ Rows.uptoBulk x.1 := by
 obtain ⟨s, rfl, rfl, -⟩ := DataW.trod_string ht h
 exact ⟨s.data.toList, by rw [string_vstr], by simp [Rows.uptoBulk]⟩
theorem dec_intW {t : TypeId} {fuel : Nat} {cs : List Value} {x : DataW H × List MemPlace} (ht : P.underlying t = some (.int .i64)) (h : Reads enc P W fuel t cs x) : ∃ n : Int, cs = [vint n] ∧ (-9223372036854775808 ≤ n ∧ n ≤ 9223372036854775807) ∧ 1 ≤ Rows.uptoBulk x.1 := by
 obtain ⟨n, h1, h2⟩ := dec_int' ht h; exact ⟨n, h1, h2, bulk_pos _⟩
theorem slice_shape {t e : TypeId} {fuel : Nat} {v : Value} {x : DataW H × List MemPlace} (ht : P.underlying t = some (.slice e)) (h : Reads enc P W fuel t [v] x) : ∃ a n c, v = .slice a n c := by
 rcases Go.Deep.open_slice ht h with ⟨hv, -⟩ | ⟨a, len, cap, m, n, Dd, Pl, hv, -⟩
 ·rw [List.cons.injEq] at hv; rw [hv.1]; exact ⟨_, _, _, rfl⟩
 ·rw [List.cons.injEq] at hv; rw [hv.1]; exact ⟨_, _, _, rfl⟩
theorem sum_le {Z : Type} {m : Z → Nat} : ∀ {l : List Z} {ws : List Nat}, ws.length = l.length → (∀ i (h1 : i < l.length) (h2 : i < ws.length), m l[i] ≤ ws[i]) → (l.map m).sum ≤ ws.sum
 | [], _, _, _ => by simp
 | z :: l, [], h, _ => by simp at h
 | z :: l, w :: ws, h, hq => by
  have h0 := hq 0 (by simp) (by simp)
  have h1 := sum_le (l := l) (ws := ws) (m := m) (by simpa using h) (fun i h1 h2 => hq (i + 1) (by simpa using h1) (by simpa using h2))
  rw [List.map_cons, List.sum_cons, List.sum_cons]
  have h0' : m z ≤ w := h0
  omega
theorem dec_sliceW {Z : Type} [Inhabited Z] (toC : Z → List Value) (Q : Z → Prop) (m : Z → Nat) {t e : TypeId} {sz : Nat} {fuel : Nat} {cs : List Value} {x : DataW H × List MemPlace} (ht : P.underlying t = some (.slice e)) (hc : P.cellsOf e = sz) (hs : 0 < sz)
  (hdec : ∀ (n : Nat) (cs : List Value) (y : DataW H × List MemPlace), Reads enc P W n e cs y → ∃ z, cs = toC z ∧ Q z ∧ m z ≤ Rows.uptoBulk y.1) (h : Reads enc P W fuel t cs x) :
  ∃ z : Value × List Z, cs = [z.1] ∧ (∀ h : Hp, Old W h → rdS sz h z.1 z.2.length (z.2.flatMap toC)) ∧ (∀ y ∈ z.2, Q y) ∧ z.2.length + 1 ≤ Rows.uptoBulk x.1 ∧ 1 + (z.2.map m).sum ≤ Rows.uptoBulk x.1 := by
 have hp := bulk_pos x.1
 obtain ⟨z, ws, h1, h2, h3, h4, h5, -, h7⟩ := dec_sliceQV (N := Rows.uptoBulk x.1 - 1) toC (fun B z => Q z ∧ m z ≤ B) ht hc hs hdec h (by omega)
 refine ⟨z, h1, h2, fun y hy => ?_, by omega, ?_⟩
 ·obtain ⟨i, hi, rfl⟩ := List.mem_iff_getElem.1 hy
  exact (h7 i hi (by omega)).1
 ·have := sum_le (m := m) h4 (fun i g1 g2 => (h7 i g1 g2).2)
  omega
theorem rd_shape {sz n : Nat} {v : Value} {ys : List Value} (hr : ∀ h : Hp, Old W h → rdS sz h v n ys) : ∃ a c, v = .slice a n c := by
 have h := hr (fun b => if b < W.heap.size then W.heap[b]? else none) (fun b hb => if_pos hb)
 rcases h with ⟨rfl, -, a, c, rfl⟩ | ⟨b, off, cap, l, T, fr, rfl, -⟩
 ·exact ⟨_, _, rfl⟩
 ·exact ⟨_, _, rfl⟩
end
open Go Go.ChangeShapes Go.WideShapes Go.ChangeAt Go.RowKit
def mAc (a : Ac) : Nat := 3 + a.2.length
theorem sum_mem {α : Type} {m : α → Nat} : ∀ {l : List α} {x : α}, x ∈ l → m x ≤ (l.map m).sum
 | y :: l, x, h => by
  rw [List.map_cons, List.sum_cons]
  rcases List.mem_cons.1 h with rfl | h
  ·omega
  ·have := sum_mem (m := m) h; omega
theorem sum_three {α : Type} {m : α → Nat} (hm : ∀ x, 3 ≤ m x) : ∀ l : List α, 3 * l.length ≤ (l.map m).sum
 | [] => by simp
 | y :: l => by have := sum_three hm l; have := hm y; rw [List.map_cons, List.sum_cons, List.length_cons]; omega
theorem fm_weigh {α : Type} {f : α → Bs} {m : α → Nat} : ∀ {l : List α}, (∀ x ∈ l, (f x).length ≤ 20 * m x) → (l.flatMap f).length ≤ 20 * (l.map m).sum
 | [], _ => by simp
 | y :: l, h => by
  have h1 := h y (List.mem_cons_self ..)
  have h2 := fm_weigh (l := l) (m := m) (f := f) (fun x hx => h x (List.mem_cons_of_mem _ hx))
  rw [List.flatMap_cons, List.length_append, List.map_cons, List.sum_cons]; omega
theorem aclW_of {l : List Ac} (h : ∀ a ∈ l, I64 a.1) (hm : (l.map mAc).sum ≤ 1048576) : AclW l := by
 have hl := sum_three (m := mAc) (fun a => by unfold mAc; omega) l
 have hu : U64 = 18446744073709551616 := rfl
 have hi : ∀ a ∈ l, a.2.length ≤ 1048576 := fun a ha => by
  have h1 := sum_mem (m := mAc) ha
  have h2 : mAc a = 3 + a.2.length := rfl
  omega
 refine ⟨by omega, ?_, fun a ha => ⟨⟨h a ha, by have := hi a ha; omega⟩, hi a ha⟩⟩
 have h3 := fm_weigh (f := acB) (m := mAc) (l := l) (fun a ha => by
  have h1 := numB_len8 (h a ha)
  have h2 := sev_len10 (u := a.2.length) (by have := hi a ha; omega)
  unfold acB txtB cntB mAc
  rw [List.length_append, List.length_append]; omega)
 have h4 := sev_len10 (u := l.length) (by omega)
 unfold aclB cntB
 rw [List.length_append]; omega
def mPt (y : Pt) : Nat := 9 + y.path.length + y.data.length + (y.acl.map mAc).sum
def mEn (e : En) : Nat := mPt e.x + (e.subs.map mPt).sum
structure PtG (p : HP) (y : Pt) : Prop where
 own : I64 y.own
 num : I64 y.num
 err : I64 y.err
 acl : ∀ h : Hp, p h → rdS 2 h y.aclV y.acl.length (y.acl.flatMap acC)
 ac : isCell y.aclV = true
 sc : isCell y.subsV = true
 each : ∀ a ∈ y.acl, I64 a.1
structure EnG (p : HP) (e : En) : Prop where
 zx : I64 e.zx
 xid : I64 e.xid
 x : PtG p e.x
 subs : ∀ h : Hp, p h → rdS 8 h e.x.subsV e.subs.length (e.subs.flatMap ptC)
 each : ∀ y ∈ e.subs, PtG p y
theorem PtG.A {p : HP} {y : Pt} (h : PtG p y) (hm : mPt y ≤ 1048576) : PtA p y := by
 unfold mPt at hm
 exact ⟨h.acl, (aclW_of h.each (by omega)).few, by omega, h.sc, h.ac⟩
theorem PtG.N {p : HP} {y : Pt} (h : PtG p y) (hm : mPt y ≤ 1048576) : PtN y := by
 unfold mPt at hm
 exact ⟨h.own, h.num, by omega, aclW_of h.each (by omega)⟩
theorem subs_few (l : List Pt) : 3 * l.length ≤ (l.map mPt).sum := sum_three (fun y => by unfold mPt; omega) l
theorem EnG.T {p : HP} {e : En} (h : EnG p e) (hm : mEn e ≤ 1048576) : TxA p e.x e.subs := by
 unfold mEn at hm
 have := subs_few e.subs
 exact ⟨h.x.A (by omega), h.subs, by omega, fun y hy => (h.each y hy).A (by have := sum_mem (m := mPt) hy; omega)⟩
theorem EnG.N {p : HP} {e : En} (h : EnG p e) (hm : mEn e ≤ 1048576) : EnN e := by
 unfold mEn at hm
 exact ⟨h.zx, h.x.N (by omega), fun y hy => (h.each y hy).N (by have := sum_mem (m := mPt) hy; omega)⟩
instance : Inhabited Pt := ⟨ptS 0 [] [] 0⟩
instance : Inhabited En := ⟨⟨0, 0, 0, ptS 0 [] [] 0, []⟩⟩
instance : Inhabited Rq := ⟨⟨0, 0, [], [], nilV, [], 0, 0, false, nilV, nilV⟩⟩
theorem wtL_le : ∀ l : List En, 3 * wtL l ≤ (l.map mEn).sum
 | [] => by simp [wtL]
 | e :: l => by
  have h1 := wtL_le l
  have h2 := subs_few e.subs
  have h3 : mEn e = mPt e.x + (e.subs.map mPt).sum := rfl
  have h4 : 9 ≤ mPt e.x := by unfold mPt; omega
  unfold wtL at h1 ⊢
  rw [List.map_cons, List.sum_cons, List.map_cons, List.sum_cons]
  omega
def mRq (r : Rq) : Nat := 10 + r.path.length + r.data.length + (r.acl.map mAc).sum
structure RqG (p : HP) (r : Rq) : Prop where
 kind : I64 r.kind
 xid : I64 r.xid
 flags : I64 r.flags
 ver : I64 r.ver
 acl : ∀ h : Hp, p h → rdS 2 h r.aclV r.acl.length (r.acl.flatMap acC)
 ash : ∃ a n c, r.aclV = .slice a n c
 each : ∀ a ∈ r.acl, I64 a.1
 sub : ∃ a n c, r.subsV = .slice a n c
 arm : ∃ a n c, r.armV = .slice a n c
structure RqD (p : HP) (r : Rq) (l : List Rq) : Prop where
 own : RqG p r ∧ mRq r ≤ 1048576
 rd : ∀ h : Hp, p h → rdS 10 h r.subsV l.length (l.flatMap rqC)
 each : ∀ x ∈ l, RqG p x ∧ mRq x ≤ 1048576
theorem RqG.w {p : HP} {r : Rq} (h : RqG p r) (hm : mRq r ≤ 1048576) {s : Int} {iv : Value} {ids : List Bs} (hs : I64 s) (hi : Ids p iv ids) (hT : TabP p) : WiA p ⟨s, ids⟩ iv r := by
 unfold mRq at hm
 have h3 := sum_three (m := mAc) (fun a => by unfold mAc; omega) r.acl
 refine ⟨⟨h.kind, h.xid, h.flags, h.ver, by omega, by omega, h.acl, by omega, fun a ha => ⟨h.each a ha, ?_⟩, h.sub, h.arm⟩, hs, hi.1, hi.2.1, hi.2.2, h.ash, hT⟩
 have h1 := sum_mem (m := mAc) ha
 have h2 : mAc a = 3 + a.2.length := rfl
 omega
theorem RqD.wi {p : HP} {r : Rq} {l : List Rq} (h : RqD p r l) {s : Int} {iv : Value} {ids : List Bs} (hs : I64 s) (hi : Ids p iv ids) (hT : TabP p) : WiD p ⟨s, ids⟩ iv r l := by
 have ha : ∀ x : Rq, RqG p x → mRq x ≤ 1048576 → AclW x.acl := fun x hx hm => aclW_of hx.each (by unfold mRq at hm; omega)
 exact ⟨h.own.1.w h.own.2 hs hi hT, ha _ h.own.1 h.own.2, h.rd, fun x hx => (h.each x hx).1.w (h.each x hx).2 hs hi hT, fun x hx => ha _ (h.each x hx).1 (h.each x hx).2⟩
theorem fm_strs (l : List Bs) : (l.flatMap fun s => [vstr s]) = strs l := by
 induction l with
 | nil => rfl
 | cons z l ih => rw [List.flatMap_cons, ih]; rfl
theorem tab_of {W : World} (h : Lib.TabIs Tryz.prog W "internal/strconv.uint64pow10" .u64 Lib.pow10Tab) {g : Nat} (hg : Tryz.prog.globalNamed "internal/strconv.uint64pow10" = some g) : TabP (Old W) := by
 intro hp w hold hle
 unfold Lib.TabIs World.var? at h ⊢
 rw [hg] at h ⊢
 simp only [Option.bind_some] at h ⊢
 cases e : W.heap[g]? with
 | none => rw [e] at h; cases h
 | some o =>
  have hlt : g < W.heap.size := (Array.getElem?_eq_some_iff.1 e).1
  have h2 : w.heap[g]? = some o := hle g o (by rw [hold g hlt, e])
  rw [h2]
  rw [e] at h
  exact h
theorem decAc {H : Type} {enc : TypeId × Value → H} {W : World} (n : Nat) (cs : List Value) (y : DataW H × List MemPlace) (h : Reads enc Tryz.prog W n 85 cs y) : ∃ a : Ac, cs = acC a ∧ I64 a.1 ∧ mAc a ≤ Rows.uptoBulk y.1 := by
 obtain ⟨xs, m, -, rfl, hlen, hxs, hf⟩ := DataW.trod_struct Tryz.underlying85 h
 rw [show Tryz.prog.cellsOf 85 = 2 by kernel_rfl] at hlen
 obtain ⟨a0, a1, rfl⟩ : ∃ a0 a1, cs = [a0, a1] := by
  match cs, hlen with
  | [a0, a1], _ => exact ⟨a0, a1, rfl⟩
 obtain ⟨y0, y1, rfl⟩ : ∃ y0 y1, xs = [y0, y1] := by
  match xs, hxs with
  | [y0, y1], _ => exact ⟨y0, y1, rfl⟩
 try simp only [Rows.uptoBulk, Rows.uptoBulkAll, List.map_cons, List.map_nil]
 have g0 : Reads enc Tryz.prog W m 3 (([a0, a1] : List Value).drop 0 |>.take (Tryz.prog.cellsOf 3)) y0 := hf 0 _ rfl
 rw [show Tryz.prog.cellsOf 3 = 1 by kernel_rfl] at g0
 have p0 := bulk_pos y0.1
 obtain ⟨z0, e0, q0, r0⟩ := dec_intW Tryz.underlying3 g0
 try simp at e0
 have g1 : Reads enc Tryz.prog W m 9 (([a0, a1] : List Value).drop 1 |>.take (Tryz.prog.cellsOf 9)) y1 := hf 1 _ rfl
 rw [show Tryz.prog.cellsOf 9 = 1 by kernel_rfl] at g1
 have p1 := bulk_pos y1.1
 obtain ⟨z1, e1, r1⟩ := dec_strW Tryz.underlying9 g1
 try simp at e1
 subst e0
 subst e1
 exact ⟨(z0, z1), rfl, q0, by unfold mAc; dsimp only; omega⟩
theorem decPt {H : Type} {enc : TypeId × Value → H} {W : World} (n : Nat) (cs : List Value) (y : DataW H × List MemPlace) (h : Reads enc Tryz.prog W n 43 cs y) : ∃ y0 : Pt, cs = ptC y0 ∧ PtG (Old W) y0 ∧ mPt y0 ≤ Rows.uptoBulk y.1 := by
 obtain ⟨xs, m, -, rfl, hlen, hxs, hf⟩ := DataW.trod_struct Tryz.underlying43 h
 rw [show Tryz.prog.cellsOf 43 = 8 by kernel_rfl] at hlen
 obtain ⟨a0, a1, a2, a3, a4, a5, a6, a7, rfl⟩ : ∃ a0 a1 a2 a3 a4 a5 a6 a7, cs = [a0, a1, a2, a3, a4, a5, a6, a7] := by
  match cs, hlen with
  | [a0, a1, a2, a3, a4, a5, a6, a7], _ => exact ⟨a0, a1, a2, a3, a4, a5, a6, a7, rfl⟩
 obtain ⟨y0, y1, y2, y3, y4, y5, y6, y7, rfl⟩ : ∃ y0 y1 y2 y3 y4 y5 y6 y7, xs = [y0, y1, y2, y3, y4, y5, y6, y7] := by
  match xs, hxs with
  | [y0, y1, y2, y3, y4, y5, y6, y7], _ => exact ⟨y0, y1, y2, y3, y4, y5, y6, y7, rfl⟩
 try simp only [Rows.uptoBulk, Rows.uptoBulkAll, List.map_cons, List.map_nil]
 have g0 : Reads enc Tryz.prog W m 3 (([a0, a1, a2, a3, a4, a5, a6, a7] : List Value).drop 0 |>.take (Tryz.prog.cellsOf 3)) y0 := hf 0 _ rfl
 rw [show Tryz.prog.cellsOf 3 = 1 by kernel_rfl] at g0
 have p0 := bulk_pos y0.1
 obtain ⟨z0, e0, q0, r0⟩ := dec_intW Tryz.underlying3 g0
 try simp at e0
 have g1 : Reads enc Tryz.prog W m 9 (([a0, a1, a2, a3, a4, a5, a6, a7] : List Value).drop 1 |>.take (Tryz.prog.cellsOf 9)) y1 := hf 1 _ rfl
 rw [show Tryz.prog.cellsOf 9 = 1 by kernel_rfl] at g1
 have p1 := bulk_pos y1.1
 obtain ⟨z1, e1, r1⟩ := dec_strW Tryz.underlying9 g1
 try simp at e1
 have g2 : Reads enc Tryz.prog W m 9 (([a0, a1, a2, a3, a4, a5, a6, a7] : List Value).drop 2 |>.take (Tryz.prog.cellsOf 9)) y2 := hf 2 _ rfl
 rw [show Tryz.prog.cellsOf 9 = 1 by kernel_rfl] at g2
 have p2 := bulk_pos y2.1
 obtain ⟨z2, e2, r2⟩ := dec_strW Tryz.underlying9 g2
 try simp at e2
 have g3 : Reads enc Tryz.prog W m 24 (([a0, a1, a2, a3, a4, a5, a6, a7] : List Value).drop 3 |>.take (Tryz.prog.cellsOf 24)) y3 := hf 3 _ rfl
 rw [show Tryz.prog.cellsOf 24 = 1 by kernel_rfl] at g3
 have p3 := bulk_pos y3.1
 obtain ⟨⟨v3, l3⟩, e3, k3, q3, c3, r3⟩ := dec_sliceW acC (fun a => I64 a.1) mAc Tryz.underlying24 (show Tryz.prog.cellsOf 85 = 2 by kernel_rfl) (by decide) (fun n cs y h => decAc n cs y h) g3
 dsimp only at e3 k3 q3 c3 r3
 have ck3 : isCell v3 = true := by obtain ⟨sa, sc, hs⟩ := rd_shape k3; rw [hs]; rfl
 try simp at e3
 have g4 : Reads enc Tryz.prog W m 3 (([a0, a1, a2, a3, a4, a5, a6, a7] : List Value).drop 4 |>.take (Tryz.prog.cellsOf 3)) y4 := hf 4 _ rfl
 rw [show Tryz.prog.cellsOf 3 = 1 by kernel_rfl] at g4
 have p4 := bulk_pos y4.1
 obtain ⟨z4, e4, q4, r4⟩ := dec_intW Tryz.underlying3 g4
 try simp at e4
 have g5 : Reads enc Tryz.prog W m 3 (([a0, a1, a2, a3, a4, a5, a6, a7] : List Value).drop 5 |>.take (Tryz.prog.cellsOf 3)) y5 := hf 5 _ rfl
 rw [show Tryz.prog.cellsOf 3 = 1 by kernel_rfl] at g5
 have p5 := bulk_pos y5.1
 obtain ⟨z5, e5, q5, r5⟩ := dec_intW Tryz.underlying3 g5
 try simp at e5
 have g6 : Reads enc Tryz.prog W m 40 (([a0, a1, a2, a3, a4, a5, a6, a7] : List Value).drop 6 |>.take (Tryz.prog.cellsOf 40)) y6 := hf 6 _ rfl
 rw [show Tryz.prog.cellsOf 40 = 1 by kernel_rfl] at g6
 have p6 := bulk_pos y6.1
 obtain ⟨z6, e6, q6, r6⟩ := dec_intW Tryz.underlying40 g6
 try simp at e6
 have g7 : Reads enc Tryz.prog W m 41 (([a0, a1, a2, a3, a4, a5, a6, a7] : List Value).drop 7 |>.take (Tryz.prog.cellsOf 41)) y7 := hf 7 _ rfl
 rw [show Tryz.prog.cellsOf 41 = 1 by kernel_rfl] at g7
 have p7 := bulk_pos y7.1
 obtain ⟨z7, e7, s7⟩ : ∃ z : Value, a7 = z ∧ isCell z = true := ⟨_, rfl, slice_cell Tryz.underlying41 g7⟩
 try simp at e7
 subst e0
 subst e1
 subst e2
 subst e3
 subst e4
 subst e5
 subst e6
 subst e7
 exact ⟨⟨z0, z1, z2, a3, l3, z4, z5, z6, a7⟩, rfl, ⟨q4, q5, q6, k3, ck3, s7, q3⟩, by unfold mPt; dsimp only; omega⟩
theorem decPtD {H : Type} {enc : TypeId × Value → H} {W : World} (n : Nat) (cs : List Value) (y : DataW H × List MemPlace) (h : Reads enc Tryz.prog W n 43 cs y) : ∃ (y0 : Pt) (l : List Pt), cs = ptC y0 ∧ PtG (Old W) y0 ∧ (∀ h : Hp, Old W h → rdS 8 h y0.subsV l.length (l.flatMap ptC)) ∧ (∀ q ∈ l, PtG (Old W) q) ∧ mPt y0 + (l.map mPt).sum ≤ Rows.uptoBulk y.1 := by
 obtain ⟨xs, m, -, rfl, hlen, hxs, hf⟩ := DataW.trod_struct Tryz.underlying43 h
 rw [show Tryz.prog.cellsOf 43 = 8 by kernel_rfl] at hlen
 obtain ⟨a0, a1, a2, a3, a4, a5, a6, a7, rfl⟩ : ∃ a0 a1 a2 a3 a4 a5 a6 a7, cs = [a0, a1, a2, a3, a4, a5, a6, a7] := by
  match cs, hlen with
  | [a0, a1, a2, a3, a4, a5, a6, a7], _ => exact ⟨a0, a1, a2, a3, a4, a5, a6, a7, rfl⟩
 obtain ⟨y0, y1, y2, y3, y4, y5, y6, y7, rfl⟩ : ∃ y0 y1 y2 y3 y4 y5 y6 y7, xs = [y0, y1, y2, y3, y4, y5, y6, y7] := by
  match xs, hxs with
  | [y0, y1, y2, y3, y4, y5, y6, y7], _ => exact ⟨y0, y1, y2, y3, y4, y5, y6, y7, rfl⟩
 try simp only [Rows.uptoBulk, Rows.uptoBulkAll, List.map_cons, List.map_nil]
 have g0 : Reads enc Tryz.prog W m 3 (([a0, a1, a2, a3, a4, a5, a6, a7] : List Value).drop 0 |>.take (Tryz.prog.cellsOf 3)) y0 := hf 0 _ rfl
 rw [show Tryz.prog.cellsOf 3 = 1 by kernel_rfl] at g0
 have p0 := bulk_pos y0.1
 obtain ⟨z0, e0, q0, r0⟩ := dec_intW Tryz.underlying3 g0
 try simp at e0
 have g1 : Reads enc Tryz.prog W m 9 (([a0, a1, a2, a3, a4, a5, a6, a7] : List Value).drop 1 |>.take (Tryz.prog.cellsOf 9)) y1 := hf 1 _ rfl
 rw [show Tryz.prog.cellsOf 9 = 1 by kernel_rfl] at g1
 have p1 := bulk_pos y1.1
 obtain ⟨z1, e1, r1⟩ := dec_strW Tryz.underlying9 g1
 try simp at e1
 have g2 : Reads enc Tryz.prog W m 9 (([a0, a1, a2, a3, a4, a5, a6, a7] : List Value).drop 2 |>.take (Tryz.prog.cellsOf 9)) y2 := hf 2 _ rfl
 rw [show Tryz.prog.cellsOf 9 = 1 by kernel_rfl] at g2
 have p2 := bulk_pos y2.1
 obtain ⟨z2, e2, r2⟩ := dec_strW Tryz.underlying9 g2
 try simp at e2
 have g3 : Reads enc Tryz.prog W m 24 (([a0, a1, a2, a3, a4, a5, a6, a7] : List Value).drop 3 |>.take (Tryz.prog.cellsOf 24)) y3 := hf 3 _ rfl
 rw [show Tryz.prog.cellsOf 24 = 1 by kernel_rfl] at g3
 have p3 := bulk_pos y3.1
 obtain ⟨⟨v3, l3⟩, e3, k3, q3, c3, r3⟩ := dec_sliceW acC (fun a => I64 a.1) mAc Tryz.underlying24 (show Tryz.prog.cellsOf 85 = 2 by kernel_rfl) (by decide) (fun n cs y h => decAc n cs y h) g3
 dsimp only at e3 k3 q3 c3 r3
 have ck3 : isCell v3 = true := by obtain ⟨sa, sc, hs⟩ := rd_shape k3; rw [hs]; rfl
 try simp at e3
 have g4 : Reads enc Tryz.prog W m 3 (([a0, a1, a2, a3, a4, a5, a6, a7] : List Value).drop 4 |>.take (Tryz.prog.cellsOf 3)) y4 := hf 4 _ rfl
 rw [show Tryz.prog.cellsOf 3 = 1 by kernel_rfl] at g4
 have p4 := bulk_pos y4.1
 obtain ⟨z4, e4, q4, r4⟩ := dec_intW Tryz.underlying3 g4
 try simp at e4
 have g5 : Reads enc Tryz.prog W m 3 (([a0, a1, a2, a3, a4, a5, a6, a7] : List Value).drop 5 |>.take (Tryz.prog.cellsOf 3)) y5 := hf 5 _ rfl
 rw [show Tryz.prog.cellsOf 3 = 1 by kernel_rfl] at g5
 have p5 := bulk_pos y5.1
 obtain ⟨z5, e5, q5, r5⟩ := dec_intW Tryz.underlying3 g5
 try simp at e5
 have g6 : Reads enc Tryz.prog W m 40 (([a0, a1, a2, a3, a4, a5, a6, a7] : List Value).drop 6 |>.take (Tryz.prog.cellsOf 40)) y6 := hf 6 _ rfl
 rw [show Tryz.prog.cellsOf 40 = 1 by kernel_rfl] at g6
 have p6 := bulk_pos y6.1
 obtain ⟨z6, e6, q6, r6⟩ := dec_intW Tryz.underlying40 g6
 try simp at e6
 have g7 : Reads enc Tryz.prog W m 41 (([a0, a1, a2, a3, a4, a5, a6, a7] : List Value).drop 7 |>.take (Tryz.prog.cellsOf 41)) y7 := hf 7 _ rfl
 rw [show Tryz.prog.cellsOf 41 = 1 by kernel_rfl] at g7
 have p7 := bulk_pos y7.1
 obtain ⟨⟨v7, l7⟩, e7, k7, q7, c7, r7⟩ := dec_sliceW ptC (fun q => PtG (Old W) q) mPt Tryz.underlying41 (show Tryz.prog.cellsOf 43 = 8 by kernel_rfl) (by decide) (fun n cs y h => decPt n cs y h) g7
 dsimp only at e7 k7 q7 c7 r7
 have ck7 : isCell v7 = true := by obtain ⟨sa, sc, hs⟩ := rd_shape k7; rw [hs]; rfl
 try simp at e7
 subst e0
 subst e1
 subst e2
 subst e3
 subst e4
 subst e5
 subst e6
 subst e7
 exact ⟨⟨z0, z1, z2, a3, l3, z4, z5, z6, a7⟩, l7, rfl, ⟨q4, q5, q6, k3, ck3, ck7, q3⟩, k7, q7, by unfold mPt; dsimp only; unfold mPt at r7; omega⟩
theorem decEn {H : Type} {enc : TypeId × Value → H} {W : World} (n : Nat) (cs : List Value) (y : DataW H × List MemPlace) (h : Reads enc Tryz.prog W n 54 cs y) : ∃ e : En, cs = enC e ∧ EnG (Old W) e ∧ mEn e ≤ Rows.uptoBulk y.1 := by
 obtain ⟨xs, m, -, rfl, hlen, hxs, hf⟩ := DataW.trod_struct Tryz.underlying54 h
 rw [show Tryz.prog.cellsOf 54 = 11 by kernel_rfl] at hlen
 obtain ⟨a0, a1, a2, a3, a4, a5, a6, a7, a8, a9, a10, rfl⟩ : ∃ a0 a1 a2 a3 a4 a5 a6 a7 a8 a9 a10, cs = [a0, a1, a2, a3, a4, a5, a6, a7, a8, a9, a10] := by
  match cs, hlen with
  | [a0, a1, a2, a3, a4, a5, a6, a7, a8, a9, a10], _ => exact ⟨a0, a1, a2, a3, a4, a5, a6, a7, a8, a9, a10, rfl⟩
 obtain ⟨y0, y1, y2, y3, rfl⟩ : ∃ y0 y1 y2 y3, xs = [y0, y1, y2, y3] := by
  match xs, hxs with
  | [y0, y1, y2, y3], _ => exact ⟨y0, y1, y2, y3, rfl⟩
 try simp only [Rows.uptoBulk, Rows.uptoBulkAll, List.map_cons, List.map_nil]
 have g0 : Reads enc Tryz.prog W m 3 (([a0, a1, a2, a3, a4, a5, a6, a7, a8, a9, a10] : List Value).drop 0 |>.take (Tryz.prog.cellsOf 3)) y0 := hf 0 _ rfl
 rw [show Tryz.prog.cellsOf 3 = 1 by kernel_rfl] at g0
 have p0 := bulk_pos y0.1
 obtain ⟨z0, e0, q0, r0⟩ := dec_intW Tryz.underlying3 g0
 try simp at e0
 have g1 : Reads enc Tryz.prog W m 3 (([a0, a1, a2, a3, a4, a5, a6, a7, a8, a9, a10] : List Value).drop 1 |>.take (Tryz.prog.cellsOf 3)) y1 := hf 1 _ rfl
 rw [show Tryz.prog.cellsOf 3 = 1 by kernel_rfl] at g1
 have p1 := bulk_pos y1.1
 obtain ⟨z1, e1, q1, r1⟩ := dec_intW Tryz.underlying3 g1
 try simp at e1
 have g2 : Reads enc Tryz.prog W m 3 (([a0, a1, a2, a3, a4, a5, a6, a7, a8, a9, a10] : List Value).drop 2 |>.take (Tryz.prog.cellsOf 3)) y2 := hf 2 _ rfl
 rw [show Tryz.prog.cellsOf 3 = 1 by kernel_rfl] at g2
 have p2 := bulk_pos y2.1
 obtain ⟨z2, e2, q2, r2⟩ := dec_intW Tryz.underlying3 g2
 try simp at e2
 have g3 : Reads enc Tryz.prog W m 43 (([a0, a1, a2, a3, a4, a5, a6, a7, a8, a9, a10] : List Value).drop 3 |>.take (Tryz.prog.cellsOf 43)) y3 := hf 3 _ rfl
 rw [show Tryz.prog.cellsOf 43 = 8 by kernel_rfl] at g3
 have p3 := bulk_pos y3.1
 obtain ⟨z3, l3, e3, q3, k3, s3, r3⟩ := decPtD _ _ _ g3
 try simp [ptC, enC] at e3
 subst e0
 subst e1
 subst e2
 obtain ⟨rfl, rfl, rfl, rfl, rfl, rfl, rfl, rfl⟩ := e3
 exact ⟨⟨z0, z1, z2, z3, l3⟩, rfl, ⟨q0, q2, q3, k3, s3⟩, by unfold mEn; dsimp only; omega⟩
theorem decRq {H : Type} {enc : TypeId × Value → H} {W : World} (n : Nat) (cs : List Value) (y : DataW H × List MemPlace) (h : Reads enc Tryz.prog W n 28 cs y) : ∃ r0 : Rq, cs = rqC r0 ∧ RqG (Old W) r0 ∧ mRq r0 ≤ Rows.uptoBulk y.1 := by
 obtain ⟨xs, m, -, rfl, hlen, hxs, hf⟩ := DataW.trod_struct Tryz.underlying28 h
 rw [show Tryz.prog.cellsOf 28 = 10 by kernel_rfl] at hlen
 obtain ⟨a0, a1, a2, a3, a4, a5, a6, a7, a8, a9, rfl⟩ : ∃ a0 a1 a2 a3 a4 a5 a6 a7 a8 a9, cs = [a0, a1, a2, a3, a4, a5, a6, a7, a8, a9] := by
  match cs, hlen with
  | [a0, a1, a2, a3, a4, a5, a6, a7, a8, a9], _ => exact ⟨a0, a1, a2, a3, a4, a5, a6, a7, a8, a9, rfl⟩
 obtain ⟨y0, y1, y2, y3, y4, y5, y6, y7, y8, y9, rfl⟩ : ∃ y0 y1 y2 y3 y4 y5 y6 y7 y8 y9, xs = [y0, y1, y2, y3, y4, y5, y6, y7, y8, y9] := by
  match xs, hxs with
  | [y0, y1, y2, y3, y4, y5, y6, y7, y8, y9], _ => exact ⟨y0, y1, y2, y3, y4, y5, y6, y7, y8, y9, rfl⟩
 try simp only [Rows.uptoBulk, Rows.uptoBulkAll, List.map_cons, List.map_nil]
 have g0 : Reads enc Tryz.prog W m 3 (([a0, a1, a2, a3, a4, a5, a6, a7, a8, a9] : List Value).drop 0 |>.take (Tryz.prog.cellsOf 3)) y0 := hf 0 _ rfl
 rw [show Tryz.prog.cellsOf 3 = 1 by kernel_rfl] at g0
 have p0 := bulk_pos y0.1
 obtain ⟨z0, e0, q0, r0⟩ := dec_intW Tryz.underlying3 g0
 try simp at e0
 have g1 : Reads enc Tryz.prog W m 3 (([a0, a1, a2, a3, a4, a5, a6, a7, a8, a9] : List Value).drop 1 |>.take (Tryz.prog.cellsOf 3)) y1 := hf 1 _ rfl
 rw [show Tryz.prog.cellsOf 3 = 1 by kernel_rfl] at g1
 have p1 := bulk_pos y1.1
 obtain ⟨z1, e1, q1, r1⟩ := dec_intW Tryz.underlying3 g1
 try simp at e1
 have g2 : Reads enc Tryz.prog W m 9 (([a0, a1, a2, a3, a4, a5, a6, a7, a8, a9] : List Value).drop 2 |>.take (Tryz.prog.cellsOf 9)) y2 := hf 2 _ rfl
 rw [show Tryz.prog.cellsOf 9 = 1 by kernel_rfl] at g2
 have p2 := bulk_pos y2.1
 obtain ⟨z2, e2, r2⟩ := dec_strW Tryz.underlying9 g2
 try simp at e2
 have g3 : Reads enc Tryz.prog W m 9 (([a0, a1, a2, a3, a4, a5, a6, a7, a8, a9] : List Value).drop 3 |>.take (Tryz.prog.cellsOf 9)) y3 := hf 3 _ rfl
 rw [show Tryz.prog.cellsOf 9 = 1 by kernel_rfl] at g3
 have p3 := bulk_pos y3.1
 obtain ⟨z3, e3, r3⟩ := dec_strW Tryz.underlying9 g3
 try simp at e3
 have g4 : Reads enc Tryz.prog W m 24 (([a0, a1, a2, a3, a4, a5, a6, a7, a8, a9] : List Value).drop 4 |>.take (Tryz.prog.cellsOf 24)) y4 := hf 4 _ rfl
 rw [show Tryz.prog.cellsOf 24 = 1 by kernel_rfl] at g4
 have p4 := bulk_pos y4.1
 obtain ⟨⟨v4, l4⟩, e4, k4, q4, c4, r4⟩ := dec_sliceW acC (fun a => I64 a.1) mAc Tryz.underlying24 (show Tryz.prog.cellsOf 85 = 2 by kernel_rfl) (by decide) (fun n cs y h => decAc n cs y h) g4
 dsimp only at e4 k4 q4 c4 r4
 have ck4 : isCell v4 = true := by obtain ⟨sa, sc, hs⟩ := rd_shape k4; rw [hs]; rfl
 have sh4 : ∃ a n c, v4 = .slice a n c := by obtain ⟨sa, sc, hs⟩ := rd_shape k4; exact ⟨_, _, _, hs⟩
 try simp at e4
 have g5 : Reads enc Tryz.prog W m 3 (([a0, a1, a2, a3, a4, a5, a6, a7, a8, a9] : List Value).drop 5 |>.take (Tryz.prog.cellsOf 3)) y5 := hf 5 _ rfl
 rw [show Tryz.prog.cellsOf 3 = 1 by kernel_rfl] at g5
 have p5 := bulk_pos y5.1
 obtain ⟨z5, e5, q5, r5⟩ := dec_intW Tryz.underlying3 g5
 try simp at e5
 have g6 : Reads enc Tryz.prog W m 3 (([a0, a1, a2, a3, a4, a5, a6, a7, a8, a9] : List Value).drop 6 |>.take (Tryz.prog.cellsOf 3)) y6 := hf 6 _ rfl
 rw [show Tryz.prog.cellsOf 3 = 1 by kernel_rfl] at g6
 have p6 := bulk_pos y6.1
 obtain ⟨z6, e6, q6, r6⟩ := dec_intW Tryz.underlying3 g6
 try simp at e6
 have g7 : Reads enc Tryz.prog W m 4 (([a0, a1, a2, a3, a4, a5, a6, a7, a8, a9] : List Value).drop 7 |>.take (Tryz.prog.cellsOf 4)) y7 := hf 7 _ rfl
 rw [show Tryz.prog.cellsOf 4 = 1 by kernel_rfl] at g7
 have p7 := bulk_pos y7.1
 obtain ⟨z7, e7⟩ := dec_bool Tryz.underlying4 g7
 try simp at e7
 have g8 : Reads enc Tryz.prog W m 25 (([a0, a1, a2, a3, a4, a5, a6, a7, a8, a9] : List Value).drop 8 |>.take (Tryz.prog.cellsOf 25)) y8 := hf 8 _ rfl
 rw [show Tryz.prog.cellsOf 25 = 1 by kernel_rfl] at g8
 have p8 := bulk_pos y8.1
 obtain ⟨z8, e8, s8⟩ : ∃ z : Value, a8 = z ∧ ∃ a n c, z = .slice a n c := ⟨_, rfl, slice_shape Tryz.underlying25 g8⟩
 have ck8 : isCell z8 = true := by obtain ⟨sa, sn, sc, hs⟩ := s8; rw [hs]; rfl
 try simp at e8
 have g9 : Reads enc Tryz.prog W m 26 (([a0, a1, a2, a3, a4, a5, a6, a7, a8, a9] : List Value).drop 9 |>.take (Tryz.prog.cellsOf 26)) y9 := hf 9 _ rfl
 rw [show Tryz.prog.cellsOf 26 = 1 by kernel_rfl] at g9
 have p9 := bulk_pos y9.1
 obtain ⟨z9, e9, s9⟩ : ∃ z : Value, a9 = z ∧ ∃ a n c, z = .slice a n c := ⟨_, rfl, slice_shape Tryz.underlying26 g9⟩
 have ck9 : isCell z9 = true := by obtain ⟨sa, sn, sc, hs⟩ := s9; rw [hs]; rfl
 try simp at e9
 subst e0
 subst e1
 subst e2
 subst e3
 subst e4
 subst e5
 subst e6
 subst e7
 subst e8
 subst e9
 exact ⟨⟨z0, z1, z2, z3, a4, l4, z5, z6, z7, a8, a9⟩, rfl, ⟨q0, q1, q5, q6, k4, sh4, q4, s8, s9⟩, by unfold mRq; dsimp only; omega⟩
theorem decRqD {H : Type} {enc : TypeId × Value → H} {W : World} (n : Nat) (cs : List Value) (y : DataW H × List MemPlace) (h : Reads enc Tryz.prog W n 28 cs y) : ∃ (r0 : Rq) (l : List Rq), cs = rqC r0 ∧ (Rows.uptoBulk y.1 ≤ 1048576 → RqD (Old W) r0 l) := by
 obtain ⟨xs, m, -, rfl, hlen, hxs, hf⟩ := DataW.trod_struct Tryz.underlying28 h
 rw [show Tryz.prog.cellsOf 28 = 10 by kernel_rfl] at hlen
 obtain ⟨a0, a1, a2, a3, a4, a5, a6, a7, a8, a9, rfl⟩ : ∃ a0 a1 a2 a3 a4 a5 a6 a7 a8 a9, cs = [a0, a1, a2, a3, a4, a5, a6, a7, a8, a9] := by
  match cs, hlen with
  | [a0, a1, a2, a3, a4, a5, a6, a7, a8, a9], _ => exact ⟨a0, a1, a2, a3, a4, a5, a6, a7, a8, a9, rfl⟩
 obtain ⟨y0, y1, y2, y3, y4, y5, y6, y7, y8, y9, rfl⟩ : ∃ y0 y1 y2 y3 y4 y5 y6 y7 y8 y9, xs = [y0, y1, y2, y3, y4, y5, y6, y7, y8, y9] := by
  match xs, hxs with
  | [y0, y1, y2, y3, y4, y5, y6, y7, y8, y9], _ => exact ⟨y0, y1, y2, y3, y4, y5, y6, y7, y8, y9, rfl⟩
 try simp only [Rows.uptoBulk, Rows.uptoBulkAll, List.map_cons, List.map_nil]
 have g0 : Reads enc Tryz.prog W m 3 (([a0, a1, a2, a3, a4, a5, a6, a7, a8, a9] : List Value).drop 0 |>.take (Tryz.prog.cellsOf 3)) y0 := hf 0 _ rfl
 rw [show Tryz.prog.cellsOf 3 = 1 by kernel_rfl] at g0
 have p0 := bulk_pos y0.1
 obtain ⟨z0, e0, q0, r0⟩ := dec_intW Tryz.underlying3 g0
 try simp at e0
 have g1 : Reads enc Tryz.prog W m 3 (([a0, a1, a2, a3, a4, a5, a6, a7, a8, a9] : List Value).drop 1 |>.take (Tryz.prog.cellsOf 3)) y1 := hf 1 _ rfl
 rw [show Tryz.prog.cellsOf 3 = 1 by kernel_rfl] at g1
 have p1 := bulk_pos y1.1
 obtain ⟨z1, e1, q1, r1⟩ := dec_intW Tryz.underlying3 g1
 try simp at e1
 have g2 : Reads enc Tryz.prog W m 9 (([a0, a1, a2, a3, a4, a5, a6, a7, a8, a9] : List Value).drop 2 |>.take (Tryz.prog.cellsOf 9)) y2 := hf 2 _ rfl
 rw [show Tryz.prog.cellsOf 9 = 1 by kernel_rfl] at g2
 have p2 := bulk_pos y2.1
 obtain ⟨z2, e2, r2⟩ := dec_strW Tryz.underlying9 g2
 try simp at e2
 have g3 : Reads enc Tryz.prog W m 9 (([a0, a1, a2, a3, a4, a5, a6, a7, a8, a9] : List Value).drop 3 |>.take (Tryz.prog.cellsOf 9)) y3 := hf 3 _ rfl
 rw [show Tryz.prog.cellsOf 9 = 1 by kernel_rfl] at g3
 have p3 := bulk_pos y3.1
 obtain ⟨z3, e3, r3⟩ := dec_strW Tryz.underlying9 g3
 try simp at e3
 have g4 : Reads enc Tryz.prog W m 24 (([a0, a1, a2, a3, a4, a5, a6, a7, a8, a9] : List Value).drop 4 |>.take (Tryz.prog.cellsOf 24)) y4 := hf 4 _ rfl
 rw [show Tryz.prog.cellsOf 24 = 1 by kernel_rfl] at g4
 have p4 := bulk_pos y4.1
 obtain ⟨⟨v4, l4⟩, e4, k4, q4, c4, r4⟩ := dec_sliceW acC (fun a => I64 a.1) mAc Tryz.underlying24 (show Tryz.prog.cellsOf 85 = 2 by kernel_rfl) (by decide) (fun n cs y h => decAc n cs y h) g4
 dsimp only at e4 k4 q4 c4 r4
 have ck4 : isCell v4 = true := by obtain ⟨sa, sc, hs⟩ := rd_shape k4; rw [hs]; rfl
 have sh4 : ∃ a n c, v4 = .slice a n c := by obtain ⟨sa, sc, hs⟩ := rd_shape k4; exact ⟨_, _, _, hs⟩
 try simp at e4
 have g5 : Reads enc Tryz.prog W m 3 (([a0, a1, a2, a3, a4, a5, a6, a7, a8, a9] : List Value).drop 5 |>.take (Tryz.prog.cellsOf 3)) y5 := hf 5 _ rfl
 rw [show Tryz.prog.cellsOf 3 = 1 by kernel_rfl] at g5
 have p5 := bulk_pos y5.1
 obtain ⟨z5, e5, q5, r5⟩ := dec_intW Tryz.underlying3 g5
 try simp at e5
 have g6 : Reads enc Tryz.prog W m 3 (([a0, a1, a2, a3, a4, a5, a6, a7, a8, a9] : List Value).drop 6 |>.take (Tryz.prog.cellsOf 3)) y6 := hf 6 _ rfl
 rw [show Tryz.prog.cellsOf 3 = 1 by kernel_rfl] at g6
 have p6 := bulk_pos y6.1
 obtain ⟨z6, e6, q6, r6⟩ := dec_intW Tryz.underlying3 g6
 try simp at e6
 have g7 : Reads enc Tryz.prog W m 4 (([a0, a1, a2, a3, a4, a5, a6, a7, a8, a9] : List Value).drop 7 |>.take (Tryz.prog.cellsOf 4)) y7 := hf 7 _ rfl
 rw [show Tryz.prog.cellsOf 4 = 1 by kernel_rfl] at g7
 have p7 := bulk_pos y7.1
 obtain ⟨z7, e7⟩ := dec_bool Tryz.underlying4 g7
 try simp at e7
 have g8 : Reads enc Tryz.prog W m 25 (([a0, a1, a2, a3, a4, a5, a6, a7, a8, a9] : List Value).drop 8 |>.take (Tryz.prog.cellsOf 25)) y8 := hf 8 _ rfl
 rw [show Tryz.prog.cellsOf 25 = 1 by kernel_rfl] at g8
 have p8 := bulk_pos y8.1
 obtain ⟨⟨v8, l8⟩, e8, k8, q8, c8, r8⟩ := dec_sliceW rqC (fun r => RqG (Old W) r) mRq Tryz.underlying25 (show Tryz.prog.cellsOf 28 = 10 by kernel_rfl) (by decide) (fun n cs y h => decRq n cs y h) g8
 dsimp only at e8 k8 q8 c8 r8
 have ck8 : isCell v8 = true := by obtain ⟨sa, sc, hs⟩ := rd_shape k8; rw [hs]; rfl
 have sh8 : ∃ a n c, v8 = .slice a n c := by obtain ⟨sa, sc, hs⟩ := rd_shape k8; exact ⟨_, _, _, hs⟩
 try simp at e8
 have g9 : Reads enc Tryz.prog W m 26 (([a0, a1, a2, a3, a4, a5, a6, a7, a8, a9] : List Value).drop 9 |>.take (Tryz.prog.cellsOf 26)) y9 := hf 9 _ rfl
 rw [show Tryz.prog.cellsOf 26 = 1 by kernel_rfl] at g9
 have p9 := bulk_pos y9.1
 obtain ⟨z9, e9, s9⟩ : ∃ z : Value, a9 = z ∧ ∃ a n c, z = .slice a n c := ⟨_, rfl, slice_shape Tryz.underlying26 g9⟩
 have ck9 : isCell z9 = true := by obtain ⟨sa, sn, sc, hs⟩ := s9; rw [hs]; rfl
 try simp at e9
 subst e0
 subst e1
 subst e2
 subst e3
 subst e4
 subst e5
 subst e6
 subst e7
 subst e8
 subst e9
 refine ⟨⟨z0, z1, z2, z3, a4, l4, z5, z6, z7, a8, a9⟩, l8, rfl, fun hb => ⟨⟨⟨q0, q1, q5, q6, k4, sh4, q4, sh8, s9⟩, by unfold mRq; dsimp only; omega⟩, k8, fun x hx => ⟨q8 x hx, ?_⟩⟩⟩
 have h6 := sum_mem (m := mRq) hx
 omega
theorem dec_ents12 {H : Type} {enc : TypeId × Value → H} {W : World} {fuel : Nat} {cs : List Value} {x : DataW H × List MemPlace} (h : Reads enc Tryz.prog W fuel 22 cs x) (hb : Rows.uptoBulk x.1 ≤ 1048576) : ∃ (v : Value) (l : List En), cs = [v] ∧ EntsA (Old W) v l ∧ (∀ e ∈ l, EnN e) ∧ wtL l ≤ 500000 := by
 obtain ⟨⟨v, l⟩, h1, h2, h3, h4, h5⟩ := dec_sliceW enC (fun e => EnG (Old W) e) mEn Tryz.underlying22 (show Tryz.prog.cellsOf 54 = 11 by kernel_rfl) (by decide) (fun n cs y h => decEn n cs y h) h
 dsimp only at h1 h2 h3 h4 h5
 have hw := wtL_le l
 have hm : ∀ e ∈ l, mEn e ≤ 1048576 := fun e he => by
  have h6 := sum_mem (m := mEn) he
  omega
 exact ⟨v, l, h1, ⟨h2, by omega, fun e he => (h3 e he).T (hm e he), fun e he => (h3 e he).x.own.2, by omega⟩, fun e he => (h3 e he).N (hm e he), by omega⟩
theorem dec_ids12 {H : Type} {enc : TypeId × Value → H} {W : World} {fuel : Nat} {cs : List Value} {x : DataW H × List MemPlace} (h : Reads enc Tryz.prog W fuel 23 cs x) (hb : Rows.uptoBulk x.1 ≤ 1048576) : ∃ (v : Value) (l : List Bs), cs = [v] ∧ Ids (Old W) v l ∧ l.length ≤ Rows.uptoBulk x.1 := by
 obtain ⟨⟨v, l⟩, h1, h2, h3, h4, h5⟩ := dec_sliceW (fun s : Bs => [vstr s]) (fun _ => True) (fun s => s.length + 1) Tryz.underlying23 (show Tryz.prog.cellsOf 9 = 1 by kernel_rfl) (by decide) (fun n cs y h => by obtain ⟨s, e, hs⟩ := dec_strW Tryz.underlying9 h; exact ⟨s, e, trivial, hs⟩) h
 dsimp only at h1 h2 h3 h4 h5
 refine ⟨v, l, h1, ⟨fun h hp => by rw [← fm_strs]; exact h2 h hp, by omega, ?_⟩, by omega⟩
 rw [h1] at h
 exact slice_shape Tryz.underlying23 h
end Go.Proofs.YtkjlihfalfbmjaaGreatDoor
