/- Own work, in part by program, for plainRefused.proved. -/
import Derived.Test.YtmbnebafdhpgpaaGreatDoorCVRefusedP4
import Derived.Test.YtmbnebafdhpgpaaGreatDoorCVRefusedP2
import Derived.Test.YtmbnebafdhpgpaaGreatDoorCVRefusedP1
import Derived.Test.YtmbnebafdhpgpaaGreatDoorCVRefusedP0
import Derived.Test.YtmbnebafdhpgpaaGreatDoorRows
import Derived.WalkKit
import Derived.ProofKit
import Derived.OpenShut
import Derived.JoinedCond
import Derived.Carry
import Derived.Deep.Grids
import Derived.Handed
import Derived.Deep.Strs
import Derived.Test.YtmbnebafdhpgpaaGreatDoorCVRefusedP3
set_option maxRecDepth 100000
namespace Go.Proofs.YtmbnebafdhpgpaaGreatDoor
open Go List Go.Proofs.Tryz 
theorem JV (x : Nat) (τ : Tr) (p : Bs) (num zx : Int) (N : Nat) (ho : τ.Ok N) (hN : N ≤ 1073741824) : Fn prog 126 #[AI x, AD p, AA num, AA zx] [Ds x τ] fun v L => v = .tuple #[] ∧ L = [Ds x (D1 τ p num zx)] := by
 refine Fn.intro func126 Y Y fun F W => ?_
 have hfew := ho.few
 have hnd := ho.sorted.nodup Ea
 refine .sm Y (.m Y (.cv func38 [_, _] (Da x τ p om) ?_))
 refine .an Y (.sm Y (.ui Y Y Y (.nt (.condD Y (fun h13 => ?_) (fun h13 => ?_)))))
 ·obtain ⟨k, hk, hpk, hkp⟩ := Gp (l := τ.nodes) h13
  have hpz : Ha τ p = k := hpk
  rw [hpz]
  refine .rtOpen (x := x) (τ := τ) O fun an cn as1 cs l hl => ?_
  have hll := D7 hl
  have hkl : k < l.length := by omega
  have hlk : l[k].1 = p := by have := HL hl hkl; rw [← hkp]; simp only [this]
  refine .slShape (T := 68) (sz := 12) (v := .slice an l.length cn) (xs := l.flatMap E1) O om fun bn bn' e0 mbn _ => ?_
  simp only [Value.slice.injEq, true_and] at e0
  obtain ⟨rfl, rfl⟩ := e0
  refine .sm Y (.nf Y BJ (.u (.ld Y Ci) (.m Y (.m Y (.q (.indexAddr Y Y B5 om) Y (.fa Y Id (.fa Y Fg (.oq (.storeRd (sz := 12) (j := k * 12 + 7) Y Y ?hv14 CC ?ho15 ?hi16) ?_))))))))
  case hv14 => first | rfl | assumption
  case ho15 => omega
  case hi16 => omega
  rintro v L' rfl
  refine .nil (.slCast (T := 68) (sz := 12) (m' := l.length) (xs' := (l.set k (l[k].1, (l[k].2.1, { l[k].2.2 with st := { l[k].2.2.st with cver := num } }))).flatMap E1) O Y (DE (f := E1) (sz := 12) (fun _ => Y) (by simpa using hkl) dQ (by rfl)) (.then_n (.region (.m Y (.nf Y BJ (.u (.ld Y Ci) (.m Y (.m Y (.q (.indexAddr Y Y B5 om) Y (.fa Y Id (.fa Y L4 (.oq (.storeRd (sz := 12) (j := k * 12 + 5) Y Y ?hv26 CC ?ho27 ?hi28) ?_))))))))))))
  case hv26 => first | rfl | assumption
  case ho27 => omega
  case hi28 => omega
  rintro v L' rfl
  refine .nil (.slCast (T := 68) (sz := 12) (m' := l.length) (xs' := ((l.set k (l[k].1, (l[k].2.1, { l[k].2.2 with st := { l[k].2.2.st with cver := num } }))).set k (l[k].1, (l[k].2.1, kidN num zx l[k].2.2))).flatMap E1) O Y (DE (f := E1) (sz := 12) (fun _ => Y) (by simpa using hkl) dQ (by rw [getElem_set_self]; rfl)) ?_)
  rw [set_set]
  refine .done_n (.bigSet (y := (l[k].1, (l[k].2.1, kidN num zx l[k].2.2))) hkl (by rfl) O (.rtFold (x := x) (τ := (D1 τ p num zx)) (l := (l.set k (l[k].1, (l[k].2.1, kidN num zx l[k].2.2)))) (PG hl hnd hkl hlk (kidN num zx) Y) O Y (by simp) Y Y Y ?_))
  exact .vv
 refine .skip (.done_n (.rfCast (x := x) (τ' := D1 τ p num zx) O (by unfold D1; rw [Oa (by have h0 : ¬ 0 ≤ Cb τ.nodes p := h13; rw [CB] at h0; simpa using h0)]) ?_))
 exact .vv
theorem MP (x : Nat) (τ : Tr) (z : Fx) (hzc : AB z.2.1 = true) (N : Nat) (ho : τ.Ok N) (hN : N ≤ 1073741824) {T : TypeId} : Fn prog 125 #[AI x, .agg (E1 z).toArray] [Ds x τ, Ad T 2 z.2.1 z.2.2.acl.length (z.2.2.acl.flatMap CP)] fun v L => v = .tuple #[] ∧ L = [Ds x { τ with nodes := sset τ.nodes z.1 z.2.2 }] :=
 Fn.pre2 (VZ x τ z hzc N ho hN) fun F w hs => by
  have h1 := Bt (q := Hu z) (fun h hp => AZ hp) (Ek hs)
  exact Ek h1
theorem PV (x : Nat) (τ : Tr) (y : Pt) (zx : Int) (p : HP) (hy : X9 p y) (N : Nat) (ho : τ.Ok N) (hN : N + 1 ≤ 1073741824) : Fn prog 64 #[AI x, .agg (A1 y).toArray, AA zx] [Ds x τ, p] fun v L => ∃ a c, v = .slice a (Ab τ y zx).2.length c ∧ L = [Ds x (Ab τ y zx).1, p, Ad 50 3 v (Ab τ y zx).2.length ((Ab τ y zx).2.flatMap BU)] := by
 refine Fn.intro func64 Y Y fun F W => ?_
 have hfew := hy.few
 have hpl := hy.plen
 have hpar := HC y.path
 have hof := ho.few
 refine .sr (.oq (.box Y) ?_)
 rintro v L' ⟨bx, rfl, rfl⟩
 refine .a Y (.nil (.ptCast (b := bx) (l' := A1 y) O Y ?_))
 refine .then_n (.sr (.fa Y A7 (.u (.ld Y Ag) (.cv func67 [_] (HF y.path om) ?_))))
 refine .an Y (.sr (.fa Y A7 (.u (.ld Y Ag) (.cv func124 [_] (MN y.path om) ?_))))
 refine .an Y (.seq (.sm Y (.u (.not Y) (.m Y (.ndec (t := 18) Y (fun h3_18 => ?_) (fun h3_18 => ?_))))))
 ·refine .kNT (t := 17) Y h3_18 (.gk (.gk (.gk (.gk (.pT Y Y (.nt (.condT Y (.sr (.an Y (.rt (.add (AN 50 3) ?_)))))))))))
  have hc : Ab τ y zx = (τ, []) := by unfold Ab; rw [if_neg (fun g => h3_18 g.1)]
  refine .rfCast (x := x) (τ' := (Ab τ y zx).1) O (by rw [hc]) (.slCast (T := 50) (sz := 3) (m' := (Ab τ y zx).2.length) (xs' := (Ab τ y zx).2.flatMap BU) O (by (rw [hc]; try rfl)) (by (rw [hc]; try rfl)) ?_)
  exact .dn Y Y ⟨_, _, by (rw [hc]; try rfl), rfl⟩
 refine .kNF (t := 17) Y h3_18 (.gr (.m Y (.gr (.m Y (.gr (.cv func38 [_, _] (Da x τ (AL y.path) om) ?_))))))
 refine .gr (.ui Y Y Y (.pF Y Y (.nt (.condD Y (fun h23 => ?_) (fun h23 => ?_)))))
 ·refine .sr (.an Y (.rt (.add (AN 50 3) ?_)))
  have hc : Ab τ y zx = (τ, []) := by unfold Ab; rw [if_neg (fun g => absurd (CB.2 g.2) (by have h0 : Cb τ.nodes (AL y.path) < 0 := h23; omega))]
  refine .rfCast (x := x) (τ' := (Ab τ y zx).1) O (by rw [hc]) (.slCast (T := 50) (sz := 3) (m' := (Ab τ y zx).2.length) (xs' := (Ab τ y zx).2.flatMap BU) O (by (rw [hc]; try rfl)) (by (rw [hc]; try rfl)) ?_)
  exact .dn Y Y ⟨_, _, by (rw [hc]; try rfl), rfl⟩
 have hup : AQ τ (AL y.path) := CB.1 (by have h0 : ¬ Cb τ.nodes (AL y.path) < 0 := h23; omega)
 have hab : Co y.path := h3_18
 refine .sk (.sr (.an Y (.seq (.sm Y (.fa Y A7 (.u (.ld Y Ag) (.cv func38 [_, _] (Da x τ y.path om) ?_)))))))
 refine .ui Y Y Y (.nt (.condD Y (fun h28 => ?_) (fun h28 => ?_)))
 ·refine .region (.an Y (.seq (.draw [7, 15] [[0, 1, 2, 3, 4, 5, 6, 8, 9, 10, 11, 12, 13, 7, 14], [15]] mixed kQ (.go [Ae bx _ _] O (.k Y (.move Y) (.k Y (.fieldAddr Y A7) (.k Y (.ld Y Ag) (.k Y (.fieldAddr Y FA) (.k Y (.ld Y Ag) (.kv Y (.fieldAddr Y GG) (.kv Y (.ld Y F9) (.k Y (.move Y) (.k Y (.move Y) (.k Y (.move Y) (.k Y (.fieldAddr Y CZ) (.k Y (.ld Y AR) (.k Y (.build (us := [(0, _), (1, _), (2, _), (6, _)]) NB DO Y Y (by simp [AB])) (.hh Y (.c func66 [_] (JE y.aclV y.acl p hy.acl hfew)) ?_))))))))))))))))))
  rintro v L' ⟨⟨a8, c8, rfl⟩, rfl⟩
  refine D.kv Y (.buildN (pl := [(0, 1), (1, 1), (2, 1), (3, 9)]) (us := [(0, AD y.path), (1, AD y.data), (2, .slice a8 y.acl.length c8), (3, .agg ([AA zx, AA zx, AA zx, AA 0, AA 0, AA 0, AA y.own, AA 0, AA 0] : List Value).toArray)]) (cells := [AD y.path, AD y.data, .slice a8 y.acl.length c8] ++ [AA zx, AA zx, AA zx, AA 0, AA 0, AA 0, AA y.own, AA 0, AA 0]) underlying68 kQ Fb Y (MT _ _ _ _ _ _ _ _ _ _ _ _ _ _)) (.ph (.g0 (.hh Y (.c func125 [_, _] (MP x τ ((y.path, (.slice a8 y.acl.length c8, DT y zx)) : Fx) Y N ho om)) ?_)))
  rintro v L' ⟨rfl, rfl⟩
  refine D.ph (.fin (.rfCast (x := x) (τ' := ({ τ with nodes := sset τ.nodes y.path (DT y zx) } : Tr)) O (Y) ?_))
  have hoL := ho.lay (.inr hab) (DT y zx) hfew
  refine .then_n (.sm Y (.m Y (.fa Y Cl (.u (.ld Y AR) (.m Y (.cv func126 [_, _, _, _] (JV x ({ τ with nodes := sset τ.nodes y.path (DT y zx) } : Tr) (AL y.path) y.num zx (N + 1) hoL om) ?_))))))
  refine .nt (.sm Y (.fa Y A7 (.u (.ld Y Ag) (.m Y (.q (.build (us := [(0, _), (1, _), (2, _)]) Fc Bu Y Y (by simp [AB])) Y (.m Y (.m Y (.q (.build (us := [(0, _), (1, _), (2, _)]) Fc Bu Y Y (by simp [AB])) Y (.oq (.buildSlice (vs := [_, _]) DJ Bu Y Y Y Y cQ dQ) ?_)))))))))
  rintro v L' ⟨bo, rfl, rfl⟩
  refine .a Y (.nil (.slMakeN 3 2 (b := bo) (xs := ([(3, (y.path, zx)), (4, (AL y.path, zx))] : List Ev).flatMap BU) O Y Y (.then_n (.ret ?_))))
  have hc : Ab τ y zx = (D1 ({ τ with nodes := sset τ.nodes y.path (DT y zx) } : Tr) (AL y.path) y.num zx, [(3, (y.path, zx)), (4, (AL y.path, zx))]) := by unfold Ab; rw [if_pos ⟨hab, hup⟩, if_pos (show AQ τ y.path from CB.1 h28)]
  refine .rfCast (x := x) (τ' := (Ab τ y zx).1) O (by rw [hc]) (.slCast (T := 50) (sz := 3) (m' := (Ab τ y zx).2.length) (xs' := (Ab τ y zx).2.flatMap BU) O (by (rw [hc]; try rfl)) (by (rw [hc]; try rfl)) ?_)
  exact .dn Y Y ⟨_, _, by (rw [hc]; try rfl), rfl⟩
 refine .sk (.seq (.draw [7, 15] [[0, 1, 2, 3, 4, 5, 6, 8, 9, 10, 11, 12, 13, 7, 14], [15]] mixed kQ (.go [Ae bx _ _] O (.k Y (.move Y) (.k Y (.fieldAddr Y A7) (.k Y (.ld Y Ag) (.k Y (.fieldAddr Y FA) (.k Y (.ld Y Ag) (.kv Y (.fieldAddr Y GG) (.kv Y (.ld Y F9) (.k Y (.move Y) (.k Y (.move Y) (.k Y (.move Y) (.k Y (.fieldAddr Y CZ) (.k Y (.ld Y AR) (.k Y (.build (us := [(0, _), (1, _), (2, _), (6, _)]) NB DO Y Y (by simp [AB])) (.hh Y (.c func66 [_] (JE y.aclV y.acl p hy.acl hfew)) ?_)))))))))))))))))
 rintro v L' ⟨⟨a8, c8, rfl⟩, rfl⟩
 refine D.kv Y (.buildN (pl := [(0, 1), (1, 1), (2, 1), (3, 9)]) (us := [(0, AD y.path), (1, AD y.data), (2, .slice a8 y.acl.length c8), (3, .agg ([AA zx, AA zx, AA zx, AA 0, AA 0, AA 0, AA y.own, AA 0, AA 0] : List Value).toArray)]) (cells := [AD y.path, AD y.data, .slice a8 y.acl.length c8] ++ [AA zx, AA zx, AA zx, AA 0, AA 0, AA 0, AA y.own, AA 0, AA 0]) underlying68 kQ Fb Y (MT _ _ _ _ _ _ _ _ _ _ _ _ _ _)) (.ph (.g0 (.hh Y (.c func125 [_, _] (MP x τ ((y.path, (.slice a8 y.acl.length c8, DT y zx)) : Fx) Y N ho om)) ?_)))
 rintro v L' ⟨rfl, rfl⟩
 refine D.ph (.fin (.rfCast (x := x) (τ' := ({ τ with nodes := sset τ.nodes y.path (DT y zx) } : Tr)) O (Y) ?_))
 have hoL := ho.lay (.inr hab) (DT y zx) hfew
 refine .then_n (.sm Y (.m Y (.fa Y Cl (.u (.ld Y AR) (.m Y (.cv func126 [_, _, _, _] (JV x ({ τ with nodes := sset τ.nodes y.path (DT y zx) } : Tr) (AL y.path) y.num zx (N + 1) hoL om) ?_))))))
 refine .nt (.sm Y (.fa Y A7 (.u (.ld Y Ag) (.m Y (.q (.build (us := [(0, _), (1, _), (2, _)]) Fc Bu Y Y (by simp [AB])) Y (.m Y (.m Y (.q (.build (us := [(0, _), (1, _), (2, _)]) Fc Bu Y Y (by simp [AB])) Y (.oq (.buildSlice (vs := [_, _]) DJ Bu Y Y Y Y cQ dQ) ?_)))))))))
 rintro v L' ⟨bo, rfl, rfl⟩
 refine .a Y (.nil (.slMakeN 3 2 (b := bo) (xs := ([(1, (y.path, zx)), (4, (AL y.path, zx))] : List Ev).flatMap BU) O Y Y (.then_n (.ret ?_))))
 have hc : Ab τ y zx = (D1 ({ τ with nodes := sset τ.nodes y.path (DT y zx) } : Tr) (AL y.path) y.num zx, [(1, (y.path, zx)), (4, (AL y.path, zx))]) := by unfold Ab; rw [if_pos ⟨hab, hup⟩, if_neg (show ¬ AQ τ y.path from fun g => h28 (CB.2 g))]
 refine .rfCast (x := x) (τ' := (Ab τ y zx).1) O (by rw [hc]) (.slCast (T := 50) (sz := 3) (m' := (Ab τ y zx).2.length) (xs' := (Ab τ y zx).2.flatMap BU) O (by (rw [hc]; try rfl)) (by (rw [hc]; try rfl)) ?_)
 exact .dn Y Y ⟨_, _, by (rw [hc]; try rfl), rfl⟩
theorem Qw (x : Nat) (τ : Tr) (y : Pt) (zx : Int) (p : HP) (hy : X9 p y) (N : Nat) (ho : τ.Ok N) (hN : N + 1 ≤ 1073741824) : Fn prog 65 #[AI x, .agg (A1 y).toArray, AA zx] [Ds x τ] fun v L => ∃ a c, v = .slice a (As τ y zx).2.length c ∧ L = [Ds x (As τ y zx).1, Ad 50 3 v (As τ y zx).2.length ((As τ y zx).2.flatMap BU)] := by
 refine Fn.intro func65 Y Y fun F W => ?_
 have hfew := hy.few
 have hpl := hy.plen
 have hpar := HC y.path
 have hof := ho.few
 refine .sr (.oq (.box Y) ?_)
 rintro v L' ⟨bx, rfl, rfl⟩
 refine .a Y (.nil (.ptCast (b := bx) (l' := A1 y) O Y ?_))
 refine .then_n (.sr (.fa Y A7 (.u (.ld Y Ag) (.cv func124 [_] (MN y.path om) ?_))))
 refine .an Y (.seq (.sm Y (.u (.not Y) (.nt (.condN Y (fun h18 => ?_) (fun h18 => ?_))))))
 ·refine .sr (.an Y (.rt (.add (AN 50 3) ?_)))
  have hc : As τ y zx = (τ, []) := by unfold As; rw [if_neg h18]
  refine .rfCast (x := x) (τ' := (As τ y zx).1) O (by rw [hc]) (.slCast (T := 50) (sz := 3) (m' := (As τ y zx).2.length) (xs' := (As τ y zx).2.flatMap BU) O (by (rw [hc]; try rfl)) (by (rw [hc]; try rfl)) ?_)
  exact .dn Y Y ⟨_, _, by (rw [hc]; try rfl), rfl⟩
 refine .sk (.sr (.fa Y A7 (.u (.ld Y Ag) (.cv func67 [_] (HF y.path om) ?_))))
 refine .an Y (.sm Y (.fa Y A7 (.u (.ld Y Ag) (.cv func38 [_, _] (Da x τ y.path om) ?_))))
 refine .ui Y Y Y (.an Y (.seq (.add (AN 68 12) (.rtOpen (x := x) (τ := τ) O fun an cn as1 cs l hl => ?_))))
 have hll := D7 hl
 refine .region (.an Y (.seq (.sr (.an Y (.block (.loopK (ι := Nat × Value) (fun q E => (11, AA q.1) :: (10, q.2) :: E) (fun q => [M7 q.2 ((l.take q.1).filter fun w => !Bn w.1 y.path)]) (fun q => q.1 ≤ l.length ∧ ∃ a c, q.2 = .slice a ((l.take q.1).filter fun w => !Bn w.1 y.path).length c) (fun q => l.length - q.1) (0, .slice none 0 0) (ts := [0, 2, 4, 6, 8, 9]) O (⟨Nat.zero_le _, none, 0, Y⟩) O O ?_))))))
 rintro ⟨i, u⟩ ⟨hi, au, cu, hu⟩
 dsimp only
 dsimp only at hi hu
 subst hu
 have hfl := length_filter_le (fun w : Fx => !Bn w.1 y.path) (l.take i)
 rw [length_take] at hfl
 refine .seq (.sm Y (.m Y (.nf Y BJ (.u (.ld Y Ci) (.q (.slen Y underlying63 Y) Y (.ui Y Y Y (.nt (.condD Y (fun h33 => ?_) (fun h33 => ?_)))))))))
 ·have hi2 : i < l.length := by omega
  have hpi : l[i].1.length ≤ 60 := by have := HL hl hi2; have h2 := Ec (ho.able _ (getElem_mem (l := τ.nodes) (n := i) om)); rw [this] at h2; exact h2
  refine .slShape (T := 68) (sz := 12) (v := .slice an l.length cn) (xs := l.flatMap E1) O om fun bn bn' e0 mbn _ => ?_
  simp only [Value.slice.injEq, true_and] at e0
  obtain ⟨rfl, rfl⟩ := e0
  refine .sk (.seq (.block (.seq (.draw [10] [[0, 1, 2, 3, 4, 5, 6, 7, 8, 9, 10], [11]] mixed kQ (.g0 (.mv Y Y (.nf Y Y Y BJ (.kv Y (.ld Y Ci) (.mv Y Y (.kv Y (.indexAddr Y Y B5 om) (.kv Y (.fieldAddr Y C3) (.kv Y (.loadRd (sz := 12) (j := i * 12 + 0) (p := M7 _ l) Y Ag O (fun h hp => AZ hp) om ((Dh (l := l) (i := i) (k := 0) om dQ).trans Y)) (.kv Y (.fieldAddr Y A7) (.kv Y (.ld Y Ag) (.hh Y (.c func127 [_, _] (Q4 l[i].1 y.path om)) ?_)))))))))))))))
  rintro v L' ⟨rfl, rfl⟩
  refine D.ph (.g0 (.kv Y (.assign Y) (.pf (.seq (.draw [] [[0, 1, 2, 3, 4, 5, 6, 7, 8, 9, 10, 11, 12, 13, 14]] mixed kQ (.g0 (.mv Y Y (.nf Y Y Y BJ (.kv Y (.ld Y Ci) (.mv Y Y (.kv Y (.indexAddr Y Y B5 om) (.kv Y (.fieldAddr Y C3) (.kv Y (.loadRd (sz := 12) (j := i * 12 + 0) (p := M7 _ l) Y Ag O (fun h hp => AZ hp) om ((Dh (l := l) (i := i) (k := 0) om dQ).trans Y)) (.kv Y (.fieldAddr Y A7) (.kv Y (.ld Y Ag) (.kv Y (.strne Y Y) (.mv Y Y (.ndec (t := 58) Y (fun h11_58 => ?_) (fun h11_58 => ?_)))))))))))))))))))
  ·refine D.kNT (t := 57) Y h11_58 (.gv Y (.move Y) (.gv Y (.not Y) (.kv Y (.pickT Y Y) (.pf (.condN Y (fun h61 => ?_) (fun h61 => ?_))))))
   ·have hhit : Bn l[i].1 y.path = false := by unfold Bn; rw [decide_eq_false h11_58, decide_eq_false h61]; rfl
    refine .aclShape (l := l) (i := i) hi2 O fun hcl => (.region (.m Y (.m Y (.nf Y BJ (.u (.ld Y Ci) (.m Y (.q (.indexAddr Y Y B5 om) Y (.q (.loadRdA (sz := 12) (j := i * 12) (k := 12) (p := M7 _ l) (vs := E1 l[i]) Y Ny O (fun h hp => AZ hp) om om om (A3 (f := E1) (sz := 12) (fun _ _ => Y) om)) Y (.oq (.buildSlice (vs := [_]) B5 Fb Y Y Y Y cQ dQ) ?_)))))))))
    rintro v L' ⟨b12_8, rfl, rfl⟩
    refine .oq (.append1 Y Y Y B5 Fb Y Y ?c63 ?c64 (Nat.le_refl _) ?c65 dQ) ?_
    case c63 => first | exact DL hcl | (simp only [map_cons, map_nil, flatten_cons, flatten_nil, append_nil]; exact DL hcl)
    case c64 => rfl
    case c65 => first | omega | (simp; omega)
    rintro v L' ⟨⟨a12_9, c12_9, rfl⟩, rfl⟩
    refine .a Y (.nil (.blk_n (.then_n (.region (.m Y (.q (.add Y Y om) Y (.an Y ?_)))))))
    have hst : ((l.take (i + 1)).filter fun w => !Bn w.1 y.path) = ((l.take i).filter fun w => !Bn w.1 y.path) ++ [l[i]] := by rw [take_succ_eq_append_getElem hi2, filter_append]; simp [hhit]
    rw [show ((l.take i).filter fun w => !Bn w.1 y.path).length + 1 = ((l.take (i + 1)).filter fun w => !Bn w.1 y.path).length by rw [hst, length_append]; rfl]
    refine .slCast (T := 68) (sz := 12) (m' := ((l.take (i + 1)).filter fun w => !Bn w.1 y.path).length) (xs' := ((l.take (i + 1)).filter fun w => !Bn w.1 y.path).flatMap E1) O Y (by rw [hst, flatMap_append]; simp; rfl) ?_
    exact .rk ((i + 1, .slice a12_9 ((l.take (i + 1)).filter fun w => !Bn w.1 y.path).length c12_9)) (⟨by dsimp only; omega, _, _, rfl⟩) (by dsimp only; omega) O
   refine .skip (.blk_n (.then_n (.region (.m Y (.q (.add Y Y om) Y (.an Y ?_))))))
   have hhit : Bn l[i].1 y.path = true := by unfold Bn; rw [decide_eq_true (p := JJ l[i].1 y.path) (by simpa using h61), Bool.or_true]
   have hst : ((l.take (i + 1)).filter fun w => !Bn w.1 y.path) = ((l.take i).filter fun w => !Bn w.1 y.path) := by rw [take_succ_eq_append_getElem hi2, filter_append]; simp [hhit]
   rw [← hst]
   exact .rk ((i + 1, .slice au ((l.take (i + 1)).filter fun w => !Bn w.1 y.path).length cu)) (⟨by dsimp only; omega, _, _, rfl⟩) (by dsimp only; omega) O
  refine D.kNF (t := 57) Y h11_58 (.gz Y (.gz Y (.kv Y (.pickF Y Y) (.pf (.condF Y (.skip (.blk_n (.then_n (.region (.m Y (.q (.add Y Y om) Y (.an Y ?_))))))))))))
  have hhit : Bn l[i].1 y.path = true := by unfold Bn; rw [decide_eq_true h11_58]; rfl
  have hst : ((l.take (i + 1)).filter fun w => !Bn w.1 y.path) = ((l.take i).filter fun w => !Bn w.1 y.path) := by rw [take_succ_eq_append_getElem hi2, filter_append]; simp [hhit]
  rw [← hst]
  exact .rk ((i + 1, .slice au ((l.take (i + 1)).filter fun w => !Bn w.1 y.path).length cu)) (⟨by dsimp only; omega, _, _, rfl⟩) (by dsimp only; omega) O
 have hii : i = l.length := by omega
 subst hii
 rw [take_length]
 refine .xe (.sm Y (.m Y (.nf Y BJ (.st Y Y Y X6 ?_))))
 refine .nil (.bigSub (l := (l.filter fun w => !Bn w.1 y.path)) filter_sublist O (.rtFold (x := x) (τ := (FD τ y.path)) (l := (l.filter fun w => !Bn w.1 y.path)) (by rw [Sj (fun q => !Bn q y.path), hl]; rfl) O Y Y Y Y Y (.then_n (.sm Y (.m Y (.fa Y Cl (.u (.ld Y AR) (.m Y (.oq (.c func126 [_, _, _, _] (JV x (FD τ y.path) (AL y.path) y.num zx N (ho.cut y.path) om)) ?_)))))))))
 rintro v L' ⟨rfl, rfl⟩; have hoK := (ho.cut y.path).kid (AL y.path) y.num zx; have hofk := hoK.few
 refine .nt (.seq (.sm Y (.u (.not Y) (.nt (.condN Y (fun h83 => ?_) (fun h83 => ?_))))))
 ·have hth : ¬ AQ τ y.path := fun g => h83 (CB.2 g)
  refine .sr (.an Y (.rt (.add (AN 50 3) ?_)))
  have hc : As τ y zx = ((D1 (FD τ y.path) (AL y.path) y.num zx), []) := by unfold As; rw [if_pos h18, if_neg hth]
  refine .rfCast (x := x) (τ' := (As τ y zx).1) O (by rw [hc]) (.slCast (T := 50) (sz := 3) (m' := (As τ y zx).2.length) (xs' := (As τ y zx).2.flatMap BU) O (by (rw [hc]; try rfl)) (by (rw [hc]; try rfl)) ?_)
  exact .dn Y Y ⟨_, _, by (rw [hc]; try rfl), rfl⟩
 have hth : AQ τ y.path := CB.1 h83
 refine .sk (.sr (.fa Y A7 (.u (.ld Y Ag) (.m Y (.q (.build (us := [(0, _), (1, _), (2, _)]) Fc Bu Y Y (by simp [AB])) Y (.oq (.buildSlice (vs := [_]) DJ Bu Y Y Y Y cQ dQ) ?_))))))
 rintro v L' ⟨bo, rfl, rfl⟩
 refine .a Y (.nil (.slMakeN 3 1 (b := bo) (xs := ([(2, (y.path, zx))] : List Ev).flatMap BU) O Y Y (.then_n (.seq (.sm Y (.m Y (.cv func38 [_, _] (Da x (D1 (FD τ y.path) (AL y.path) y.num zx) (AL y.path) om) ?_)))))))
 refine .ui Y Y Y (.nt (.condD Y (fun h92 => ?_) (fun h92 => ?_)))
 ·refine .region (.m Y (.m Y (.m Y (.q (.build (us := [(0, _), (1, _), (2, _)]) Fc Bu Y Y (by simp [AB])) Y (.oq (.buildSlice (vs := [_]) DJ Bu Y Y Y Y cQ dQ) ?_)))))
  rintro v L' ⟨b19_4, rfl, rfl⟩
  refine .oq (.append1 Y Y Y DJ Bu Y Y ?c108 ?c109 (Nat.le_refl _) ?c110 dQ) ?_
  case c108 => (first | (simp [AB]; done) | (simp [AB, AW, Value.cells]; done))
  case c109 => rfl
  case c110 => omega
  rintro v L' ⟨⟨a19_5, c19_5, rfl⟩, rfl⟩
  refine .an Y (.sm Y (.an Y (.ret ?_)))
  have hc : As τ y zx = ((D1 (FD τ y.path) (AL y.path) y.num zx), [(2, (y.path, zx)), (4, (AL y.path, zx))]) := by unfold As; rw [if_pos h18, if_pos hth, if_pos (show AQ (FD τ y.path) (AL y.path) from IX.1 (CB.1 h92))]
  refine .rfCast (x := x) (τ' := (As τ y zx).1) O (by rw [hc]) (.slCast (T := 50) (sz := 3) (m' := (As τ y zx).2.length) (xs' := (As τ y zx).2.flatMap BU) O (by (rw [hc]; try rfl)) (by (rw [hc]; try rfl)) ?_)
  exact .dn Y Y ⟨_, _, by (rw [hc]; try rfl), rfl⟩
 refine .sk (.sm Y (.an Y (.ret ?_)))
 have hc : As τ y zx = ((D1 (FD τ y.path) (AL y.path) y.num zx), [(2, (y.path, zx))]) := by unfold As; rw [if_pos h18, if_pos hth, if_neg (show ¬ AQ (FD τ y.path) (AL y.path) from fun g => h92 (CB.2 (IX.2 g)))]
 refine .rfCast (x := x) (τ' := (As τ y zx).1) O (by rw [hc]) (.slCast (T := 50) (sz := 3) (m' := (As τ y zx).2.length) (xs' := (As τ y zx).2.flatMap BU) O (by (rw [hc]; try rfl)) (by (rw [hc]; try rfl)) ?_)
 exact .dn Y Y ⟨_, _, by (rw [hc]; try rfl), rfl⟩
theorem JO (x : Nat) (τ : Tr) (y : Pt) (zx : Int) (p : HP) (hy : X9 p y) (N : Nat) (ho : τ.Ok N) (hN : N + 1 ≤ 1073741824) : Fn prog 36 #[AI x, .agg (A1 y).toArray, AA zx] [Ds x τ, p] fun v L => ∃ a c, v = .slice a (AJ τ y zx).2.length c ∧ L = [Ds x (AJ τ y zx).1, p, Ad 50 3 v (AJ τ y zx).2.length ((AJ τ y zx).2.flatMap BU)] := by
 refine Fn.intro func36 Y Y fun F W => ?_
 have hfew := hy.few
 have hpl := hy.plen
 have hof := ho.few
 have hnd := ho.sorted.nodup Ea
 refine .sr (.oq (.box Y) ?_)
 rintro v L' ⟨bx, rfl, rfl⟩
 refine .a Y (.nil (.ptCast (b := bx) (l' := A1 y) O Y ?_))
 refine .then_n (.sm Y (.fa Y A7 (.u (.ld Y Ag) (.cv func38 [_, _] (Da x τ y.path om) ?_))))
 refine .an Y (.seq (.sr (.fa Y B1 (.u (.ld Y AR) (.nt (.block (.sr (.ui Y Y Y (.an Y (.condD Y (fun h14 => ?_) (fun h14 => ?_)))))))))))
 ·refine .sm Y (.q (.loadAs (vs := A1 y) Y Az O (by simp [A1]) Y) Y (.m Y (.oq (.c func64 [_, _, _] (PV x τ y zx p hy N ho hN)) ?_)))
  rintro v L' ⟨a4, c4, rfl, rfl⟩
  refine .an Y (.ret (.blk_r (.then_r ?_)))
  have hc : AJ τ y zx = Ab τ y zx := by unfold AJ; rw [if_pos h14]
  refine .rfCast (x := x) (τ' := (AJ τ y zx).1) O (by rw [hc]) (.slCast (T := 50) (sz := 3) (m' := (AJ τ y zx).2.length) (xs' := (AJ τ y zx).2.flatMap BU) O (by (rw [hc]; try rfl)) (by (rw [hc]; try rfl)) ?_)
  exact .dn Y Y ⟨_, _, by (rw [hc]; try rfl), rfl⟩
 refine .sr (.ui Y Y Y (.an Y (.condD Y (fun h20 => ?_) (fun h20 => ?_))))
 ·refine .sm Y (.q (.loadAs (vs := A1 y) Y Az O (by simp [A1]) Y) Y (.m Y (.oq (.c func65 [_, _, _] (Qw x τ y zx p hy N ho hN)) ?_)))
  rintro v L' ⟨a6, c6, rfl, rfl⟩
  refine .an Y (.ret (.blk_r (.then_r ?_)))
  have hc : AJ τ y zx = As τ y zx := by unfold AJ; rw [if_neg h14, if_pos h20]
  refine .rfCast (x := x) (τ' := (AJ τ y zx).1) O (by rw [hc]) (.slCast (T := 50) (sz := 3) (m' := (AJ τ y zx).2.length) (xs' := (AJ τ y zx).2.flatMap BU) O (by (rw [hc]; try rfl)) (by (rw [hc]; try rfl)) ?_)
  exact .dn Y Y ⟨_, _, by (rw [hc]; try rfl), rfl⟩
 refine .sr (.ui Y Y Y (.an Y (.condD Y (fun h26 => ?_) (fun h26 => ?_))))
 ·refine .sm Y (.ui Y Y Y (.nt (.condD Y (fun h29 => ?_) (fun h29 => ?_))))
  ·obtain ⟨k, hk, hpk, hkp⟩ := Gp (l := τ.nodes) h29
   have hpz : Ha τ y.path = k := hpk
   rw [hpz]
   refine .rtOpen (x := x) (τ := τ) O fun an cn as1 cs l hl => ?_
   have hll := D7 hl
   have hkl : k < l.length := by omega
   have hlk : l[k].1 = y.path := by have := HL hl hkl; rw [← hkp]; simp only [this]
   refine .slShape (T := 68) (sz := 12) (v := .slice an l.length cn) (xs := l.flatMap E1) O om fun bn bn' e0 mbn _ => ?_
   simp only [Value.slice.injEq, true_and] at e0
   obtain ⟨rfl, rfl⟩ := e0
   refine .seq (.draw [9] [[0, 1, 2, 3, 4, 5, 6, 7, 8, 9]] mixed kQ (.g0 (.mv Y Y (.nf Y Y Y BJ (.kv Y (.ld Y Ci) (.mv Y Y (.kv Y (.fieldAddr Y FA) (.kv Y (.ld Y Ag) (.kv Y (.indexAddr Y Y B5 om) (.kv Y (.fieldAddr Y T4) (.hh Y (.storeRd (sz := 12) (j := k * 12 + 1) Y Y ?hv33 KM ?ho34 ?hi35) ?_)))))))))))
   case hv33 => first | rfl | assumption
   case ho34 => omega
   case hi35 => omega
   rintro v L' rfl
   refine D.ph (.fin (.slCast (T := 68) (sz := 12) (m' := l.length) (xs' := (l.set k (l[k].1, (l[k].2.1, { l[k].2.2 with data := y.data }))).flatMap E1) O Y (DE (f := E1) (sz := 12) (fun _ => Y) (by simpa using hkl) dQ (by rfl)) (.then_n (.seq (.draw [10] [[0, 1, 2, 3, 4, 5, 6, 7, 8, 9, 10]] mixed kQ (.g0 (.mv Y Y (.nf Y Y Y BJ (.kv Y (.ld Y Ci) (.mv Y Y (.kv Y (.fieldAddr Y Cl) (.kv Y (.ld Y AR) (.kv Y (.indexAddr Y Y B5 om) (.kv Y (.fieldAddr Y Id) (.kv Y (.fieldAddr Y Lg) (.hh Y (.storeRd (sz := 12) (j := k * 12 + 6) Y Y ?hv46 CC ?ho47 ?hi48) ?_))))))))))))))))
   case hv46 => first | rfl | assumption
   case ho47 => omega
   case hi48 => omega
   rintro v L' rfl
   refine D.ph (.fin (.slCast (T := 68) (sz := 12) (m' := l.length) (xs' := ((l.set k (l[k].1, (l[k].2.1, { l[k].2.2 with data := y.data }))).set k (l[k].1, (l[k].2.1, { l[k].2.2 with data := y.data, st := { l[k].2.2.st with ver := y.num } }))).flatMap E1) O Y (DE (f := E1) (sz := 12) (fun _ => Y) (by simpa using hkl) dQ (by rw [getElem_set_self]; rfl)) ?_))
   rw [set_set]
   refine .then_n (.sm Y (.nf Y BJ (.u (.ld Y Ci) (.m Y (.m Y (.q (.indexAddr Y Y B5 om) Y (.fa Y Id (.fa Y L7 (.oq (.storeRd (sz := 12) (j := k * 12 + 4) Y Y ?hv58 CC ?ho59 ?hi60) ?_)))))))))
   case hv58 => first | rfl | assumption
   case ho59 => omega
   case hi60 => omega
   rintro v L' rfl
   refine .nil (.slCast (T := 68) (sz := 12) (m' := l.length) (xs' := ((l.set k (l[k].1, (l[k].2.1, { l[k].2.2 with data := y.data, st := { l[k].2.2.st with ver := y.num } }))).set k (l[k].1, (l[k].2.1, Fw y.data y.num zx l[k].2.2))).flatMap E1) O Y (DE (f := E1) (sz := 12) (fun _ => Y) (by simpa using hkl) dQ (by rw [getElem_set_self]; rfl)) ?_)
   rw [set_set]
   refine .bigSet (y := (l[k].1, (l[k].2.1, Fw y.data y.num zx l[k].2.2))) hkl (by rfl) O (.rtFold (x := x) (τ := ({ τ with nodes := amod τ.nodes y.path (Fw y.data y.num zx) } : Tr)) (l := (l.set k (l[k].1, (l[k].2.1, Fw y.data y.num zx l[k].2.2)))) (PG hl hnd hkl hlk (Fw y.data y.num zx) Y) O Y (by simp) Y Y Y (.then_n (.sr (.fa Y A7 (.u (.ld Y Ag) (.m Y (.q (.build (us := [(0, _), (1, _), (2, _)]) Fc Bu Y Y (by simp [AB])) Y (.oq (.buildSlice (vs := [_]) DJ Bu Y Y Y Y cQ dQ) ?_))))))))
   rintro v L' ⟨bo, rfl, rfl⟩
   refine .a Y (.nil (.slMakeN 3 1 (b := bo) (xs := ([(3, (y.path, zx))] : List Ev).flatMap BU) O Y Y (.then_n (.ret (.blk_r (.then_r ?_))))))
   have hc : AJ τ y zx = (({ τ with nodes := amod τ.nodes y.path (Fw y.data y.num zx) } : Tr), [(3, (y.path, zx))]) := by unfold AJ; rw [if_neg h14, if_neg h20, if_pos ⟨h26, CB.1 h29⟩]
   refine .rfCast (x := x) (τ' := (AJ τ y zx).1) O (by rw [hc]) (.slCast (T := 50) (sz := 3) (m' := (AJ τ y zx).2.length) (xs' := (AJ τ y zx).2.flatMap BU) O (by (rw [hc]; try rfl)) (by (rw [hc]; try rfl)) ?_)
   exact .dn Y Y ⟨_, _, by (rw [hc]; try rfl), rfl⟩
  refine .skip (.blk_n (.then_n (.sr (.an Y (.ret (.add (AN 50 3) ?_))))))
  have hc : AJ τ y zx = (τ, []) := by unfold AJ; rw [if_neg h14, if_neg h20, if_neg (fun g => h29 (CB.2 g.2)), if_neg (fun g => h29 (CB.2 g.2))]
  refine .rfCast (x := x) (τ' := (AJ τ y zx).1) O (by rw [hc]) (.slCast (T := 50) (sz := 3) (m' := (AJ τ y zx).2.length) (xs' := (AJ τ y zx).2.flatMap BU) O (by (rw [hc]; try rfl)) (by (rw [hc]; try rfl)) ?_)
  exact .dn Y Y ⟨_, _, by (rw [hc]; try rfl), rfl⟩
 refine .sr (.ui Y Y Y (.an Y (.condD Y (fun h63 => ?_) (fun h63 => ?_))))
 ·refine .sm Y (.ui Y Y Y (.nt (.condD Y (fun h66 => ?_) (fun h66 => ?_))))
  ·obtain ⟨k, hk, hpk, hkp⟩ := Gp (l := τ.nodes) h66
   have hpz : Ha τ y.path = k := hpk
   rw [hpz]
   refine .rtOpen (x := x) (τ := τ) O fun an cn as1 cs l hl => ?_
   have hll := D7 hl
   have hkl : k < l.length := by omega
   have hlk : l[k].1 = y.path := by have := HL hl hkl; rw [← hkp]; simp only [this]
   refine .slShape (T := 68) (sz := 12) (v := .slice an l.length cn) (xs := l.flatMap E1) O om fun bn bn' e0 mbn _ => ?_
   simp only [Value.slice.injEq, true_and] at e0
   obtain ⟨rfl, rfl⟩ := e0
   refine .seq (.draw [7, 10] [[0, 1, 2, 3, 4, 5, 6, 7], [8, 9, 10]] mixed kQ (.go [Ae bx _ _, Ae x _ _] O (.k Y (.move Y) (.k Y (.nilp Y) (.k Y (.fieldAddr Y BJ) (.k Y (.ld Y Ci) (.k Y (.move Y) (.kv Y (.fieldAddr Y GG) (.kv Y (.ld Y F9) (.hh Y (.c func66 [_] (JE y.aclV y.acl p hy.acl hfew)) ?_))))))))))
   rintro v L' ⟨⟨a15, c15, rfl⟩, rfl⟩
   refine D.ph (.g0 (.kv Y (.indexAddr Y Y B5 om) (.kv Y (.fieldAddr Y Zh) (.hh Y (.storeRd (sz := 12) (j := k * 12 + 2) Y Y ?hv81 P9 ?ho82 ?hi83) ?_))))
   case hv81 => first | rfl | assumption
   case ho82 => omega
   case hi83 => omega
   rintro v L' rfl
   refine D.ph (.fin (.slCast (T := 68) (sz := 12) (m' := l.length) (xs' := (l.set k (l[k].1, (.slice a15 y.acl.length c15, { l[k].2.2 with acl := y.acl }))).flatMap E1) O Y (DE (f := E1) (sz := 12) (fun _ => Y) (by simpa using hkl) dQ (by rfl)) (.then_n (.draw [10] [[0, 1, 2, 3, 4, 5, 6, 7, 8, 9, 10]] mixed kQ (.g0 (.mv Y Y (.nf Y Y Y BJ (.kv Y (.ld Y Ci) (.mv Y Y (.kv Y (.fieldAddr Y Cl) (.kv Y (.ld Y AR) (.kv Y (.indexAddr Y Y B5 om) (.kv Y (.fieldAddr Y Id) (.kv Y (.fieldAddr Y Or) (.hh Y (.storeRd (sz := 12) (j := k * 12 + 8) Y Y ?hv94 CC ?ho95 ?hi96) ?_)))))))))))))))
   case hv94 => first | rfl | assumption
   case ho95 => omega
   case hi96 => omega
   rintro v L' rfl
   refine D.ph (.fin (.slCast (T := 68) (sz := 12) (m' := l.length) (xs' := ((l.set k (l[k].1, (.slice a15 y.acl.length c15, { l[k].2.2 with acl := y.acl }))).set k (l[k].1, (.slice a15 y.acl.length c15, FU y.acl y.num l[k].2.2))).flatMap E1) O Y (DE (f := E1) (sz := 12) (fun _ => Y) (by simpa using hkl) dQ (by rw [getElem_set_self]; rfl)) ?_))
   rw [set_set]
   refine .toRd (v := .slice a15 y.acl.length c15) O (.bigRep (l[k].1, (.slice a15 y.acl.length c15, FU y.acl y.num l[k].2.2)) hkl (p := Zx 2 (.slice a15 y.acl.length c15) y.acl.length (y.acl.flatMap CP)) Y O (.rtFold (x := x) (τ := ({ τ with nodes := amod τ.nodes y.path (FU y.acl y.num) } : Tr)) (l := (l.set k (l[k].1, (.slice a15 y.acl.length c15, FU y.acl y.num l[k].2.2)))) (PG hl hnd hkl hlk (FU y.acl y.num) Y) O Y (by simp) Y Y Y (.blk_n (.then_n (.sr (.an Y (.ret (.add (AN 50 3) ?_))))))))
   have hc : AJ τ y zx = (({ τ with nodes := amod τ.nodes y.path (FU y.acl y.num) } : Tr), []) := by unfold AJ; rw [if_neg h14, if_neg h20, if_neg (fun g => h26 g.1), if_pos ⟨h63, CB.1 h66⟩]
   refine .rfCast (x := x) (τ' := (AJ τ y zx).1) O (by rw [hc]) (.slCast (T := 50) (sz := 3) (m' := (AJ τ y zx).2.length) (xs' := (AJ τ y zx).2.flatMap BU) O (by (rw [hc]; try rfl)) (by (rw [hc]; try rfl)) ?_)
   exact .dn Y Y ⟨_, _, by (rw [hc]; try rfl), rfl⟩
  refine .skip (.blk_n (.then_n (.sr (.an Y (.ret (.add (AN 50 3) ?_))))))
  have hc : AJ τ y zx = (τ, []) := by unfold AJ; rw [if_neg h14, if_neg h20, if_neg (fun g => h26 g.1), if_neg (fun g => h66 (CB.2 g.2))]
  refine .rfCast (x := x) (τ' := (AJ τ y zx).1) O (by rw [hc]) (.slCast (T := 50) (sz := 3) (m' := (AJ τ y zx).2.length) (xs' := (AJ τ y zx).2.flatMap BU) O (by (rw [hc]; try rfl)) (by (rw [hc]; try rfl)) ?_)
  exact .dn Y Y ⟨_, _, by (rw [hc]; try rfl), rfl⟩
 refine .skip (.blk_n (.then_n (.sr (.an Y (.ret (.add (AN 50 3) ?_))))))
 have hc : AJ τ y zx = (τ, []) := by unfold AJ; rw [if_neg h14, if_neg h20, if_neg (fun g => h26 g.1), if_neg (fun g => h63 g.1)]
 refine .rfCast (x := x) (τ' := (AJ τ y zx).1) O (by rw [hc]) (.slCast (T := 50) (sz := 3) (m' := (AJ τ y zx).2.length) (xs' := (AJ τ y zx).2.flatMap BU) O (by (rw [hc]; try rfl)) (by (rw [hc]; try rfl)) ?_)
 exact .dn Y Y ⟨_, _, by (rw [hc]; try rfl), rfl⟩
theorem G4 (z : Int × (Int × Bs)) : ∀ y ∈ (Value.agg (IG z).toArray).cells.toList, AB y = true := by
 intro v hv
 simp only [Value.cells, IG, mem_cons, not_mem_nil, or_false] at hv
 rcases hv with rfl | rfl | rfl <;> rfl
theorem IL (l : Io) : ∀ y ∈ l.flatMap IG, AB y = true := by
 intro y hy
 obtain ⟨a, -, h⟩ := mem_flatMap.1 hy
 simp only [IG, mem_cons, not_mem_nil, or_false] at h
 rcases h with rfl | rfl | rfl <;> rfl
theorem M4 (x : Nat) (τ : Tr) (id : Int) (hN : τ.sess.length ≤ 1073741824) : Fn prog 37 #[AI x, AA id] [Ds x τ] fun v L => v = .tuple #[] ∧ L = [Ds x (dropS τ id)] := by
 refine Fn.intro func37 Y Y fun F W => ?_
 refine .rtOpen (x := x) (τ := τ) O fun an cn as1 cs l hl => (.add (AN 102 3) (.sr (.an Y (.seq (.sr (.an Y (.block (.loopK (ι := Nat × Value) (fun q E => (5, AA q.1) :: (4, q.2) :: E) (fun q => [rsR q.2 ((τ.sess.take q.1).filter fun w => !decide (w.1 = id))]) (fun q => q.1 ≤ τ.sess.length ∧ ∃ a c, q.2 = .slice a ((τ.sess.take q.1).filter fun w => !decide (w.1 = id)).length c) (fun q => τ.sess.length - q.1) (0, .slice none 0 0) (ts := [0, 1]) O (⟨Nat.zero_le _, none, 0, Y⟩) O O ?_))))))))
 rintro ⟨i, u⟩ ⟨hi, au, cu, hu⟩
 dsimp only
 dsimp only at hi hu
 subst hu
 have hfl := length_filter_le (fun w : Int × (Int × Bs) => !decide (w.1 = id)) (τ.sess.take i)
 rw [length_take] at hfl
 refine .seq (.sm Y (.m Y (.nf Y Dq (.u (.ld Y It) (.q (.slen Y underlying64 Y) Y (.ui Y Y Y (.nt (.condD Y (fun h12 => ?_) (fun h12 => ?_)))))))))
 ·have hi2 : i < τ.sess.length := by omega
  refine .slShape (T := 102) (sz := 3) (v := .slice as1 τ.sess.length cs) (xs := τ.sess.flatMap IG) O om fun bs bs' e0 mbs _ => ?_
  simp only [Value.slice.injEq, true_and] at e0
  obtain ⟨rfl, rfl⟩ := e0
  refine .sk (.seq (.block (.sm Y (.nf Y Dq (.u (.ld Y It) (.m Y (.q (.indexAddr Y Y FN om) Y (.fa Y J4 (.q (.loadRd (sz := 3) (j := i * 3 + 0) (p := rsR _ τ.sess) Y AR O (fun h hp => AZ hp) om ((Tf (l := τ.sess) (i := i) (k := 0) om dQ).trans Y)) Y (.m Y (.ui Y Y Y (.nt (.condN Y (fun h24 => ?_) (fun h24 => ?_))))))))))))))
  ·refine .region (.m Y (.m Y (.nf Y Dq (.u (.ld Y It) (.m Y (.q (.indexAddr Y Y FN om) Y (.q (.loadRdA (sz := 3) (j := i * 3) (k := 3) (p := rsR _ τ.sess) (vs := IG τ.sess[i]) Y SU O (fun h hp => AZ hp) om om om (A3 (f := IG) (sz := 3) (fun _ _ => Y) om)) Y (.oq (.buildSlice (vs := [_]) FN F8 Y Y Y Y cQ dQ) ?_))))))))
   rintro v L' ⟨b5_8, rfl, rfl⟩
   refine .oq (.append1 Y Y Y FN F8 Y Y ?c30 ?c31 (Nat.le_refl _) ?c32 dQ) ?_
   case c30 => first | exact G4 _ | (simp only [map_cons, map_nil, flatten_cons, flatten_nil, append_nil]; exact G4 _)
   case c31 => rfl
   case c32 => first | omega | (simp; omega)
   rintro v L' ⟨⟨a5_9, c5_9, rfl⟩, rfl⟩
   refine .a Y (.nil (.blk_n (.then_n (.region (.m Y (.q (.add Y Y om) Y (.an Y ?_)))))))
   have hst : ((τ.sess.take (i + 1)).filter fun w => !decide (w.1 = id)) = ((τ.sess.take i).filter fun w => !decide (w.1 = id)) ++ [τ.sess[i]] := by rw [take_succ_eq_append_getElem hi2, filter_append]; simp [show ¬ τ.sess[i].1 = id from h24]
   rw [show ((τ.sess.take i).filter fun w => !decide (w.1 = id)).length + 1 = ((τ.sess.take (i + 1)).filter fun w => !decide (w.1 = id)).length by rw [hst, length_append]; rfl]
   refine .slCast (T := 102) (sz := 3) (m' := ((τ.sess.take (i + 1)).filter fun w => !decide (w.1 = id)).length) (xs' := ((τ.sess.take (i + 1)).filter fun w => !decide (w.1 = id)).flatMap IG) O Y (by rw [hst, flatMap_append]; simp; rfl) ?_
   exact .rk ((i + 1, .slice a5_9 ((τ.sess.take (i + 1)).filter fun w => !decide (w.1 = id)).length c5_9)) (⟨by dsimp only; omega, _, _, rfl⟩) (by dsimp only; omega) O
  refine .skip (.blk_n (.then_n (.region (.m Y (.q (.add Y Y om) Y (.an Y ?_))))))
  have hst : ((τ.sess.take (i + 1)).filter fun w => !decide (w.1 = id)) = ((τ.sess.take i).filter fun w => !decide (w.1 = id)) := by rw [take_succ_eq_append_getElem hi2, filter_append]; simp [show τ.sess[i].1 = id from h24]
  rw [← hst]
  exact .rk ((i + 1, .slice au ((τ.sess.take (i + 1)).filter fun w => !decide (w.1 = id)).length cu)) (⟨by dsimp only; omega, _, _, rfl⟩) (by dsimp only; omega) O
 have hii : i = τ.sess.length := by omega
 subst hii
 rw [take_length]
 refine .xe (.region (.m Y (.m Y (.nf Y Dq (.st Y Y Y Ws ?_)))))
 refine .nil (.done_n (.rtFold (x := x) (τ := (dropS τ id)) (l := l) hl O Y Y Y Y Y ?_))
 exact .vv
theorem SV (x : Nat) (τ : Tr) (id n : Int) (s : Bs) (N : Nat) (ho : τ.Ok N) (hN : τ.sess.length ≤ 1073741824) : Fn prog 35 #[AI x, .agg (IG (id, (n, s))).toArray] [Ds x τ] fun v L => v = .tuple #[] ∧ L = [Ds x (openS τ id n s)] := by
 refine Fn.intro func35 Y Y fun F W => ?_
 have hsl : (dropS τ id).sess.length ≤ τ.sess.length := length_filter_le _ _
 refine .sr (.oq (.box Y) ?_)
 rintro v L' ⟨bz, rfl, rfl⟩
 refine .nil (.ptCast (b := bz) (l' := IG (id, (n, s))) O Y ?_)
 refine .then_n (.sm Y (.fa Y J4 (.u (.ld Y AR) (.cv func37 [_, _] (M4 x τ id hN) ?_))))
 refine .nt (.seq (.rtOpen (x := x) (τ := (dropS τ id)) O fun an cn as1 cs l hl => (.region (.slForm (T := 102) (sz := 3) (a := as1) (m := (dropS τ id).sess.length) (c := cs) O (fun e0 e1 e2 => ?_) (fun bs e0 e1 => ?_)))))
 ·subst e0
  refine .an Y (.seq (.joinK (ι := Nat) (fun q E => (4, AA q) :: E) (fun q => []) (fun q => q ≤ (dropS τ id).sess.length ∧ (∀ w ∈ ((dropS τ id).sess.take q), w.1 < id) ∧ ∀ h : q < (dropS τ id).sess.length, ¬ (dropS τ id).sess[q].1 < id) (pre := []) (ts := [0, 3]) O O ?_ ?_))
  ·refine .block (.loopK (ι := Nat) (fun q E => (4, AA q) :: E) (fun q => []) (fun q => q ≤ (dropS τ id).sess.length ∧ ∀ w ∈ ((dropS τ id).sess.take q), w.1 < id) (fun q => (dropS τ id).sess.length - q) (0) (ts := [0, 3]) O (⟨Nat.zero_le _, by simp⟩) O O ?_)
   rintro i ⟨hi, hlow⟩
   refine .seq (.seq (.draw [] [[0, 1, 2, 3, 4, 5, 6, 7, 8, 9, 10, 11, 12, 13, 14, 15, 16, 17, 18, 19]] mixed kQ (.g0 (.mv Y Y (.mv Y Y (.nf Y Y Y Dq (.kv Y (.ld Y It) (.kv Y (.slen Y underlying64 Y) (.kv Y (.int Y Y Y) (.mv Y Y (.dec (t := 17) Y (fun h3_17 => ?_) (fun h3_17 => ?_))))))))))))
   ·exfalso; omega
   refine D.kDF (t := 16) Y h3_17 (.gz Y (.gz Y (.gz Y (.gz Y (.gz Y (.gz Y (.gz Y (.gz Y (.gz Y (.gz Y (.gz Y (.kv Y (.pickF Y Y) (.pf (.condF Y (.xe ?_)))))))))))))))
   exact .mk (i) (⟨hi, hlow, fun h => absurd h om⟩) O
  rintro i ⟨hi, hlow, hhigh⟩
  refine .seq (.add (AN 102 3) (.region (.an Y (.seq ?_))))
  have hadr : (none : Option Addr) = none ∨ ∃ b off, (none : Option Addr) = some (⟨b, off, none⟩ : Addr) := .inl rfl
  refine .region (.m Y (.m Y (.nf Y Dq (.u (.ld Y It) (.m Y (.q (.to (v' := .slice (none : Option Addr) i cs) (.slTo (j := (i : Int)) Y FN Y om hadr) (by rw [Int.toNat_natCast])) Y (.oq (.append (n := 0) (m := i) (ys := ((dropS τ id).sess.take i).flatMap IG) (p := Ad 102 3 (.slice (none : Option Addr) (dropS τ id).sess.length cs) (dropS τ id).sess.length ((dropS τ id).sess.flatMap IG)) Y Y Y FN (.inl ⟨_, underlying64⟩) F8 Y Y ?hc24 ?hr25 ?hb26 dQ) ?_)))))))
  case hc24 => exact IL _
  case hr25 => exact fun h hp => by have := OT hi hp; rw [(Gu (f := IG) (sz := 3) (fun _ => rfl) _ i).1] at this; exact this
  case hb26 => omega
  rintro v L' ⟨⟨a6, c6, rfl⟩, rfl⟩; rw [Nat.zero_add, nil_append]
  refine .an Y (.sm Y (.q (.loadAs (vs := IG (id, (n, s))) Y SU O (by simp [IG]) Y) Y (.oq (.buildSlice (vs := [_]) FN F8 Y Y Y Y cQ dQ) ?_)))
  rintro v L' ⟨b7_2, rfl, rfl⟩
  refine .oq (.append1 Y Y Y FN F8 Y Y ?c32 ?c33 (Nat.le_refl _) ?c34 dQ) ?_
  case c32 => first | exact G4 _ | (simp only [map_cons, map_nil, flatten_cons, flatten_nil, append_nil]; exact G4 _)
  case c33 => rfl
  case c34 => first | omega | (simp; omega)
  rintro v L' ⟨⟨a7_3, c7_3, rfl⟩, rfl⟩
  refine .a Y (.nil (.slCast (T := 102) (sz := 3) (m' := i + 1) (xs' := (((dropS τ id).sess.take i) ++ [(id, (n, s))]).flatMap IG) O Y (by rw [flatMap_append]; simp; rfl) (.then_n (.region (.m Y (.m Y (.m Y (.nf Y Dq (.u (.ld Y It) (.m Y (.q (.slFromO (i := (i : Int)) Y FN Y om) Y (.oq (.append (n := i + 1) (m := (dropS τ id).sess.length - (i : Int).toNat) (ys := ((dropS τ id).sess.drop i).flatMap IG) (p := Ad 102 3 (.slice (none : Option Addr) (dropS τ id).sess.length cs) (dropS τ id).sess.length ((dropS τ id).sess.flatMap IG)) Y Y Y FN (.inl ⟨_, underlying64⟩) F8 Y Y ?hc44 ?hr45 ?hb46 dQ) ?_))))))))))))
  case hc44 => exact IL _
  case hr45 => exact fun h hp => by rw [Int.toNat_natCast]; have := LG hi hp; rw [(Gu (f := IG) (sz := 3) (fun _ => rfl) _ i).2] at this; exact this
  case hb46 => omega
  rintro v L' ⟨⟨a8, c8, rfl⟩, rfl⟩
  refine .nf Y Dq (.st Y Y Y Ws ?_)
  refine .nil (.done_n ?_)
  have hfin : ((dropS τ id).sess.take i) ++ [(id, (n, s))] ++ ((dropS τ id).sess.drop i) = (openS τ id n s).sess := by rw [Tq hi hlow hhigh (fun w hw => by have := (mem_filter.1 hw).2; simpa using this), ← Ob ho id n s]; rfl
  have hlen : i + 1 + ((dropS τ id).sess.length - (i : Int).toNat) = (openS τ id n s).sess.length := by rw [← hfin]; simp; omega
  refine .rtFold (x := x) (τ := (openS τ id n s)) (l := l) hl O Y Y Y hlen (by rw [← flatMap_append, hfin]) ?_
  exact .vv
 subst e0
 refine .an Y (.seq (.joinK (ι := Nat) (fun q E => (4, AA q) :: E) (fun q => []) (fun q => q ≤ (dropS τ id).sess.length ∧ (∀ w ∈ ((dropS τ id).sess.take q), w.1 < id) ∧ ∀ h : q < (dropS τ id).sess.length, ¬ (dropS τ id).sess[q].1 < id) (pre := []) (ts := [0, 3]) O O ?_ ?_))
 ·refine .block (.loopK (ι := Nat) (fun q E => (4, AA q) :: E) (fun q => []) (fun q => q ≤ (dropS τ id).sess.length ∧ ∀ w ∈ ((dropS τ id).sess.take q), w.1 < id) (fun q => (dropS τ id).sess.length - q) (0) (ts := [0, 3]) O (⟨Nat.zero_le _, by simp⟩) O O ?_)
  rintro i ⟨hi, hlow⟩
  refine .seq (.seq (.draw [] [[0, 1, 2, 3, 4, 5, 6, 7, 8, 9, 10, 11, 12, 13, 14, 15, 16, 17, 18, 19]] mixed kQ (.g0 (.mv Y Y (.mv Y Y (.nf Y Y Y Dq (.kv Y (.ld Y It) (.kv Y (.slen Y underlying64 Y) (.kv Y (.int Y Y Y) (.mv Y Y (.dec (t := 17) Y (fun h3_17 => ?_) (fun h3_17 => ?_))))))))))))
  ·have hi2 : i < (dropS τ id).sess.length := by omega
   refine D.kDT (t := 16) Y h3_17 (.gv Y (.move Y) (.gv Y (.nilp Y) (.gv Y (.fieldAddr Y Dq) (.gv Y (.ld Y It) (.gv Y (.move Y) (.gv Y (.indexAddr Y Y FN om) (.gv Y (.fieldAddr Y J4) (.gv Y (.loadRd (sz := 3) (j := i * 3 + 0) (p := rsR _ (dropS τ id).sess) Y AR O (fun h hp => AZ hp) om ((Tf (l := (dropS τ id).sess) (i := i) (k := 0) om dQ).trans Y)) (.gv Y (.fieldAddr Y J4) (.gv Y (.load Y AR O Y) (.gv Y (.int Y Y Y) (.kv Y (.pickT Y Y) (.pf (.condD Y (fun h29 => ?_) (fun h29 => ?_)))))))))))))))
   ·refine .sk (.block (.region (.m Y (.q (.add Y Y om) Y (.a Y (.nil (.blk_n (.then_n ?_))))))))
    exact .rk (i + 1) (⟨by omega, fun w hw => by rw [take_succ_eq_append_getElem hi2] at hw; rcases mem_append.1 hw with hw | hw; (exact hlow w hw); (rw [mem_singleton] at hw; rw [hw]; exact h29)⟩) om O
   refine .xe ?_
   exact .mk (i) (⟨hi, hlow, fun h => h29⟩) O
  refine D.kDF (t := 16) Y h3_17 (.gz Y (.gz Y (.gz Y (.gz Y (.gz Y (.gz Y (.gz Y (.gz Y (.gz Y (.gz Y (.gz Y (.kv Y (.pickF Y Y) (.pf (.condF Y (.xe ?_)))))))))))))))
  exact .mk (i) (⟨hi, hlow, fun h => absurd h om⟩) O
 rintro i ⟨hi, hlow, hhigh⟩
 refine .seq (.add (AN 102 3) (.region (.an Y (.seq ?_))))
 have hadr : (some (⟨bs, 0, none⟩ : Addr)) = none ∨ ∃ b off, (some (⟨bs, 0, none⟩ : Addr)) = some (⟨b, off, none⟩ : Addr) := .inr ⟨_, _, rfl⟩
 refine .region (.m Y (.m Y (.nf Y Dq (.u (.ld Y It) (.m Y (.q (.to (v' := .slice (some (⟨bs, 0, none⟩ : Addr)) i cs) (.slTo (j := (i : Int)) Y FN Y om hadr) (by rw [Int.toNat_natCast])) Y (.oq (.append (n := 0) (m := i) (ys := ((dropS τ id).sess.take i).flatMap IG) (p := Ad 102 3 (.slice (some (⟨bs, 0, none⟩ : Addr)) (dropS τ id).sess.length cs) (dropS τ id).sess.length ((dropS τ id).sess.flatMap IG)) Y Y Y FN (.inl ⟨_, underlying64⟩) F8 Y Y ?hc83 ?hr84 ?hb85 dQ) ?_)))))))
 case hc83 => exact IL _
 case hr84 => exact fun h hp => by have := OT hi hp; rw [(Gu (f := IG) (sz := 3) (fun _ => rfl) _ i).1] at this; exact this
 case hb85 => omega
 rintro v L' ⟨⟨a6, c6, rfl⟩, rfl⟩; rw [Nat.zero_add, nil_append]
 refine .an Y (.sm Y (.q (.loadAs (vs := IG (id, (n, s))) Y SU O (by simp [IG]) Y) Y (.oq (.buildSlice (vs := [_]) FN F8 Y Y Y Y cQ dQ) ?_)))
 rintro v L' ⟨b7_2, rfl, rfl⟩
 refine .oq (.append1 Y Y Y FN F8 Y Y ?c91 ?c92 (Nat.le_refl _) ?c93 dQ) ?_
 case c91 => first | exact G4 _ | (simp only [map_cons, map_nil, flatten_cons, flatten_nil, append_nil]; exact G4 _)
 case c92 => rfl
 case c93 => first | omega | (simp; omega)
 rintro v L' ⟨⟨a7_3, c7_3, rfl⟩, rfl⟩
 refine .a Y (.nil (.slCast (T := 102) (sz := 3) (m' := i + 1) (xs' := (((dropS τ id).sess.take i) ++ [(id, (n, s))]).flatMap IG) O Y (by rw [flatMap_append]; simp; rfl) (.then_n (.region (.m Y (.m Y (.m Y (.nf Y Dq (.u (.ld Y It) (.m Y (.q (.slFromO (i := (i : Int)) Y FN Y om) Y (.oq (.append (n := i + 1) (m := (dropS τ id).sess.length - (i : Int).toNat) (ys := ((dropS τ id).sess.drop i).flatMap IG) (p := Ad 102 3 (.slice (some (⟨bs, 0, none⟩ : Addr)) (dropS τ id).sess.length cs) (dropS τ id).sess.length ((dropS τ id).sess.flatMap IG)) Y Y Y FN (.inl ⟨_, underlying64⟩) F8 Y Y ?hc103 ?hr104 ?hb105 dQ) ?_))))))))))))
 case hc103 => exact IL _
 case hr104 => exact fun h hp => by rw [Int.toNat_natCast]; have := LG hi hp; rw [(Gu (f := IG) (sz := 3) (fun _ => rfl) _ i).2] at this; exact this
 case hb105 => omega
 rintro v L' ⟨⟨a8, c8, rfl⟩, rfl⟩
 refine .nf Y Dq (.st Y Y Y Ws ?_)
 refine .nil (.done_n ?_)
 have hfin : ((dropS τ id).sess.take i) ++ [(id, (n, s))] ++ ((dropS τ id).sess.drop i) = (openS τ id n s).sess := by rw [Tq hi hlow hhigh (fun w hw => by have := (mem_filter.1 hw).2; simpa using this), ← Ob ho id n s]; rfl
 have hlen : i + 1 + ((dropS τ id).sess.length - (i : Int).toNat) = (openS τ id n s).sess.length := by rw [← hfin]; simp; omega
 refine .rtFold (x := x) (τ := (openS τ id n s)) (l := l) hl O Y Y Y hlen (by rw [← flatMap_append, hfin]) ?_
 exact .vv
theorem Sx (x : Nat) (τ : Tr) (p : Bs) (N : Nat) (ho : τ.Ok N) (hN : N ≤ 1073741824) : Fn prog 39 #[AI x, AD p] [Ds x τ] fun v L => (∃ a c, v = .slice a (Bh τ p).length c) ∧ L = [Ds x τ, Ad 9 1 v (Bh τ p).length (Ao (Bh τ p))] := by
 refine Fn.intro func39 Y Y fun F W => ?_
 refine .rtOpen (x := x) (τ := τ) O fun an cn as1 cs l hl => ?_
 have hll := D7 hl
 have hofew := ho.few
 refine .add (AN 9 1) (.sr (.an Y (.sr (.an Y (.seq (.sr (.an Y (.block (.loopK (ι := Nat × Value) (fun q E => (6, AA q.1) :: (5, q.2) :: E) (fun q => [Ad 9 1 q.2 (Dg (l.take q.1) p).length (Ao (Dg (l.take q.1) p))]) (fun q => q.1 ≤ l.length ∧ ∃ a c, q.2 = .slice a (Dg (l.take q.1) p).length c) (fun q => l.length - q.1) (0, .slice none 0 0) (ts := [0, 1, 4]) O (⟨Nat.zero_le _, none, 0, Y⟩) O O ?_)))))))))
 rintro ⟨i, u⟩ ⟨hi, au, cu, hu⟩
 dsimp only
 dsimp only at hi hu
 subst hu
 have hkl := VV (l.take i) p
 rw [length_take] at hkl
 refine .seq (.sm Y (.m Y (.nf Y BJ (.u (.ld Y Ci) (.q (.slen Y underlying63 Y) Y (.ui Y Y Y (.nt (.condD Y (fun h13 => ?_) (fun h13 => ?_)))))))))
 ·have hi2 : i < l.length := by omega
  have hpi : l[i].1.length ≤ 60 := by have := HL hl hi2; have h2 := Ec (ho.able _ (getElem_mem (l := τ.nodes) (n := i) om)); rw [this] at h2; exact h2
  refine .slShape (T := 68) (sz := 12) (v := .slice an l.length cn) (xs := l.flatMap E1) O om fun bn bn' e0 mbn _ => ?_
  simp only [Value.slice.injEq, true_and] at e0
  obtain ⟨rfl, rfl⟩ := e0
  refine .sk (.seq (.block (.sm Y (.nf Y BJ (.u (.ld Y Ci) (.m Y (.q (.indexAddr Y Y B5 om) Y (.fa Y C3 (.q (.loadRd (sz := 12) (j := i * 12 + 0) (p := M7 _ l) Y Ag O (fun h hp => AZ hp) om ((Dh (l := l) (i := i) (k := 0) om dQ).trans Y)) Y (.u (.strne Y Y) (.m Y (.ndec (t := 25) Y (fun h5_25 => ?_) (fun h5_25 => ?_)))))))))))))
  ·refine .kNT (t := 24) Y h5_25 (.gr (.m Y (.gr (.u (.nilp Y) (.gr (.fa Y BJ (.gr (.u (.ld Y Ci) (.gr (.m Y (.gr (.q (.indexAddr Y Y B5 om) Y (.gr (.fa Y C3 (.gr (.q (.loadRd (sz := 12) (j := i * 12 + 0) (p := M7 _ l) Y Ag O (fun h hp => AZ hp) om ((Dh (l := l) (i := i) (k := 0) om dQ).trans Y)) Y (.gr (.cv func67 [_] (HF l[i].1 om) ?_))))))))))))))))))
   refine .gr (.m Y (.gr (.u (.streq Y Y) (.pT Y Y (.nt (.condD Y (fun h37 => ?_) (fun h37 => ?_)))))))
   ·refine .region (.m Y (.m Y (.nf Y BJ (.u (.ld Y Ci) (.m Y (.q (.indexAddr Y Y B5 om) Y (.fa Y C3 (.q (.loadRd (sz := 12) (j := i * 12 + 0) (p := M7 _ l) Y Ag O (fun h hp => AZ hp) om ((Dh (l := l) (i := i) (k := 0) om dQ).trans Y)) Y (.cv func68 [_] (Sp l[i].1 om) ?_)))))))))
    refine .oq (.buildSlice1 (vs := [_]) CO Hk Y Y Y Y Y dQ) ?_
    rintro v L' ⟨b6_10, rfl, rfl⟩
    refine .oq (.append1 Y Y Y CO Hk Y Y ?c45 ?c46 (Nat.le_refl _) ?c47 dQ) ?_
    case c45 => (first | (simp [AB]; done) | (simp [AB, AW, Value.cells]; done))
    case c46 => rfl
    case c47 => first | omega | (simp; omega)
    rintro v L' ⟨⟨a6_11, c6_11, rfl⟩, rfl⟩
    refine .a Y (.nil (.blk_n (.then_n (.region (.m Y (.q (.add Y Y om) Y (.an Y ?_)))))))
    have hst : (Dg (l.take (i + 1)) p) = (Dg (l.take i) p) ++ [C7 l[i].1] := by unfold Dg; rw [take_succ_eq_append_getElem hi2, filter_append, map_append]; simp [show ¬ l[i].1 = [47] from h5_25, show AL l[i].1 = p from h37]
    rw [show Ao (Dg (l.take i) p) ++ [AD (C7 l[i].1)] = Ao (Dg (l.take (i + 1)) p) by rw [hst]; simp [Ao], show (Dg (l.take i) p).length + 1 = (Dg (l.take (i + 1)) p).length by rw [hst, length_append]; rfl]
    exact .rk ((i + 1, .slice a6_11 (Dg (l.take (i + 1)) p).length c6_11)) (⟨by dsimp only; omega, _, _, rfl⟩) (by dsimp only; omega) O
   refine .skip (.blk_n (.then_n (.region (.m Y (.q (.add Y Y om) Y (.an Y ?_))))))
   have hst : (Dg (l.take (i + 1)) p) = (Dg (l.take i) p) := by unfold Dg; rw [take_succ_eq_append_getElem hi2, filter_append, map_append]; simp; exact fun g1 g2 => h37 g2
   rw [← hst]
   exact .rk ((i + 1, .slice au (Dg (l.take (i + 1)) p).length cu)) (⟨by dsimp only; omega, _, _, rfl⟩) (by dsimp only; omega) O
  refine .kNF (t := 24) Y h5_25 (.gk (.gk (.gk (.gk (.gk (.gk (.gk (.gk (.gk (.gk (.gk (.pF Y Y (.nt (.condF Y (.skip (.blk_n (.then_n (.region (.m Y (.q (.add Y Y om) Y (.an Y ?_)))))))))))))))))))))
  have hst : (Dg (l.take (i + 1)) p) = (Dg (l.take i) p) := by unfold Dg; rw [take_succ_eq_append_getElem hi2, filter_append, map_append]; simp; exact fun g1 _ => g1 h5_25
  rw [← hst]
  exact .rk ((i + 1, .slice au (Dg (l.take (i + 1)) p).length cu)) (⟨by dsimp only; omega, _, _, rfl⟩) (by dsimp only; omega) O
 have hii : i = l.length := by omega
 rw [hii, take_length, Xw hl]
 refine .xe (.sm Y (.an Y (.ret (.rtFold (x := x) (τ := τ) (l := l) hl O Y Y Y Y Y ?_))))
 exact .dn Y Y ⟨⟨_, _, Y⟩, Y⟩
/- not in this seat -/
/- not in this seat -/
def Fd (τ : Tr) (zx : Int) (x : Pt) (subs : List Pt) : Tr × (List Ev × Int) :=
 if x.kind = 5 then (if 0 < x.own then openS τ x.own x.num x.data else τ, ([], 0))
 else if x.kind = 6 then (dropS (AH τ zx (subs.filter Aj)).1 x.own, ((AH τ zx (subs.filter Aj)).2, 0))
 else if x.kind = 7 then ((AH τ zx subs).1, ((AH τ zx subs).2, 0))
 else if x.kind = 8 then (τ, ([], x.err))
 else ((AJ τ x zx).1, ((AJ τ x zx).2, 0))
theorem Tg (τ : Tr) (x : Pt) (zx z : Int) : AJ (zxT τ z) x zx = (zxT (AJ τ x zx).1 z, (AJ τ x zx).2) := by
 unfold AJ Ab As
 have h : ∀ p, AQ (zxT τ z) p ↔ AQ τ p := fun p => Iff.rfl
 simp only [h]
 repeat' split
 all_goals first | rfl | contradiction
theorem QZ (τ : Tr) (zx z : Int) (l : List Pt) : AH (zxT τ z) zx l = (zxT (AH τ zx l).1 z, (AH τ zx l).2) := by
 have key : ∀ (l : List Pt) (r : Tr × List Ev), l.foldl (fun r x => ((AJ r.1 x zx).1, r.2 ++ (AJ r.1 x zx).2)) (zxT r.1 z, r.2) = (zxT (l.foldl (fun r x => ((AJ r.1 x zx).1, r.2 ++ (AJ r.1 x zx).2)) r).1 z, (l.foldl (fun r x => ((AJ r.1 x zx).1, r.2 ++ (AJ r.1 x zx).2)) r).2) := by
  intro l
  induction l with
  | nil => intro r; rfl
  | cons x l ih =>
   intro r
   rw [foldl_cons, foldl_cons]
   dsimp only
   rw [Tg]
   exact ih ((AJ r.1 x zx).1, r.2 ++ (AJ r.1 x zx).2)
 exact key l (τ, [])
theorem Gk (τ : Tr) (zx : Int) (x : Pt) (subs : List Pt) : AC τ zx x subs = (zxT (Fd τ zx x subs).1 zx, (Fd τ zx x subs).2) := by
 unfold AC Fd
 dsimp only
 rw [Tg, QZ, QZ]
 repeat' split
 all_goals rfl
theorem K6 (x : Nat) (τ : Tr) (zx ses xid : Int) (y : Pt) (subs : List Pt) (p : HP) (hx : TxA p y subs) (N : Nat) (ho : τ.Ok N) (hN : N + subs.length + 1 ≤ 1073741824) : Fn prog 16 #[AI x, .agg ([AA zx, AA ses, AA xid] ++ A1 y).toArray] [Ds x τ, p] fun v L => ∃ u e, v = .tuple #[u, AA e] ∧ e = (AC τ zx y subs).2.2 ∧ (∃ a c, u = .slice a (AC τ zx y subs).2.1.length c) ∧ L = [Ds x (AC τ zx y subs).1, p, Ad 50 3 u (AC τ zx y subs).2.1.length ((AC τ zx y subs).2.1.flatMap BU)] := by
 refine Fn.intro func16 Y Y fun F W => ?_
 refine .rdAny (p := p) hx.rd O fun asb csb esub _ => ?_
 have hrd := hx.rd
 rw [esub] at hrd
 have hfs := hx.few
 have hosf := ho.sfew
 refine .sr (.oq (.box Y) ?_)
 rintro v L' ⟨be, rfl, rfl⟩
 refine .a Y (.a Y (.nil (.ptCast (b := be) (l' := ([AA zx, AA ses, AA xid] ++ A1 y)) O Y ?_)))
 refine .then_n (.sr (.fa Y HW (.q (.loadAs (vs := A1 y) Y Az O (by simp [A1]) Y) Y (.oq (.allocA BK) ?_))))
 rintro v L' ⟨bx, rfl, rfl⟩
 refine .sa Y Y BP (by exact hx.own.all) ?_
 refine .nil (.ptCast (b := bx) (l' := A1 y) O Y ?_)
 refine .then_n (.sr (.an Y (.sr (.an Y (.seq (.sr (.fa Y B1 (.u (.ld Y AR) (.nt (.block (.sr (.ui Y Y Y (.an Y (.condD Y (fun h20 => ?_) (fun h20 => ?_)))))))))))))))
 ·refine .sr (.fa Y CZ (.u (.ld Y AR) (.ui Y Y Y (.nt (.condD Y (fun h24 => ?_) (fun h24 => ?_))))))
  ·refine .region (.m Y (.fa Y CZ (.u (.ld Y AR) (.fa Y Cl (.u (.ld Y AR) (.fa Y FA (.u (.ld Y Ag) (.q (.to (v' := .agg (IG (y.own, (y.num, y.data))).toArray) (.build (us := [(0, _), (1, _), (2, _)]) AA9 F8 Y Y (by simp [AB])) Y) Y (.cv func35 [_, _] (SV x τ y.own y.num y.data N ho om) ?_)))))))))
   refine .nil (.blk_n (.then_n (.seq (.add (AN 50 3) ?_))))
   have hz : (AC τ zx y subs) = (zxT (openS τ y.own y.num y.data) zx, ([], 0)) := by rw [Gk]; unfold Fd; rw [if_pos h20, if_pos (show 0 < y.own by omega)]
   refine .rtOpen (x := x) (τ := (openS τ y.own y.num y.data)) O fun an cn as1 cs l hl => (.region (.m Y (.fa Y C4 (.u (.ld Y AR) (.nf Y IF (.st Y Y Y CC ?_))))))
   refine .nil (.rtFold (x := x) (τ := (zxT (openS τ y.own y.num y.data) zx)) (l := l) hl O Y Y Y Y Y (.then_n (.sm Y (.m Y (.a Y (.an Y (.ret (.rfCast (x := x) (τ' := (AC τ zx y subs).1) O (by rw [hz]) (.slCast (T := 50) (sz := 3) (m' := (AC τ zx y subs).2.1.length) (xs' := (AC τ zx y subs).2.1.flatMap BU) O (by (rw [hz]; try rfl)) (by (rw [hz]; try rfl)) ?_)))))))))
   exact .dn Y Y ⟨_, _, Y, by rw [hz], ⟨_, _, by (rw [hz]; try rfl)⟩, rfl⟩
  refine .skip (.blk_n (.then_n (.seq (.add (AN 50 3) ?_))))
  have hz : (AC τ zx y subs) = (zxT (τ) zx, ([], 0)) := by rw [Gk]; unfold Fd; rw [if_pos h20, if_neg (show ¬ 0 < y.own by omega)]
  refine .rtOpen (x := x) (τ := (τ)) O fun an cn as1 cs l hl => (.region (.m Y (.fa Y C4 (.u (.ld Y AR) (.nf Y IF (.st Y Y Y CC ?_))))))
  refine .nil (.rtFold (x := x) (τ := (zxT (τ) zx)) (l := l) hl O Y Y Y Y Y (.then_n (.sm Y (.m Y (.a Y (.an Y (.ret (.rfCast (x := x) (τ' := (AC τ zx y subs).1) O (by rw [hz]) (.slCast (T := 50) (sz := 3) (m' := (AC τ zx y subs).2.1.length) (xs' := (AC τ zx y subs).2.1.flatMap BU) O (by (rw [hz]; try rfl)) (by (rw [hz]; try rfl)) ?_)))))))))
  exact .dn Y Y ⟨_, _, Y, by rw [hz], ⟨_, _, by (rw [hz]; try rfl)⟩, rfl⟩
 refine .seq (.sr ?_)
 rcases Decidable.em (y.kind = 6) with hk6 | hk6
 ·refine .q (.as (v' := .bool true) (by exact congrArg Value.bool (decide_eq_true hk6)) (.int Y Y Y)) Y (.an Y (.condT Y (.sk (.condT Y (.seq (.sr (.an Y (.block (.add (AN 50 3) (.rfCast (x := x) (τ' := (AH τ zx ((subs.take 0).filter Aj)).1) O (by rw [take_zero]; rfl) (.slCast (T := 50) (sz := 3) (m' := (AH τ zx ((subs.take 0).filter Aj)).2.length) (xs' := (AH τ zx ((subs.take 0).filter Aj)).2.flatMap BU) O (by rw [take_zero]; rfl) (by rw [take_zero]; rfl) (.loopK (ι := Nat × Value) (fun q E => (9, AA q.1) :: (7, q.2) :: E) (fun q => [Ds x (AH τ zx ((subs.take q.1).filter Aj)).1, Ad 50 3 q.2 (AH τ zx ((subs.take q.1).filter Aj)).2.length ((AH τ zx ((subs.take q.1).filter Aj)).2.flatMap BU)]) (fun q => q.1 ≤ subs.length ∧ ∃ a c, q.2 = .slice a (AH τ zx ((subs.take q.1).filter Aj)).2.length c) (fun q => subs.length - q.1) (0, .slice none 0 0) (ts := [0, 3, 4, 5, 6, 8]) O (⟨Nat.zero_le _, none, 0, by rw [take_zero]; rfl⟩) O O ?_))))))))))))
  rintro ⟨i, u⟩ ⟨hi, au, cu, hu⟩
  dsimp only
  dsimp only at hi hu
  subst hu
  have hev := G1 τ zx ((subs.take i).filter Aj)
  have hfl := length_filter_le Aj (subs.take i)
  rw [length_take] at hfl
  have hok : (AH τ zx ((subs.take i).filter Aj)).1.Ok (N + subs.length) := (ho.parts zx _ (fun w hw => (hx.each w (mem_of_mem_take (mem_filter.1 hw).1)).few)).more om
  refine .seq (.sm Y (.fa Y Cm (.q (.as (v' := .slice asb subs.length csb) (by exact esub) (.ld Y Gl)) Y (.q (.slen Y underlying58 Y) Y (.ui Y Y Y (.nt (.condD Y (fun h41 => ?_) (fun h41 => ?_))))))))
  ·have hi2 : i < subs.length := by omega
   refine .rdShape (p := p) hrd O om fun bs os e1 => ?_
   subst e1
   have hys := hx.each _ (getElem_mem hi2)
   refine .sk (.seq (.block (.sr (.fa Y B1 (.u (.ld Y AR) (.q (.as (v' := .bool false) (by exact congrArg Value.bool (decide_eq_false om)) (.int Y Y Y)) Y (.m Y (.gr (.fa Y Cm (.gr (.q (.as (v' := .slice (some ⟨bs, os, none⟩) subs.length csb) (by exact esub) (.ld Y Gl)) Y (.gr (.m Y (.gr (.q (.indexAddr Y Y ES om) Y (.gr (.fa Y B1 (.gr (.q (.loadRd (sz := 8) (j := i * 8 + 0) (p := p) Y AR O hrd om ((HO (f := A1) (sz := 8) (l := subs) (i := i) (k := 0) (fun _ _ => Y) om dQ).trans Y)) Y ?_)))))))))))))))))))
   refine .gr (.ui Y Y Y (.pF Y Y (.nt (.condD Y (fun h55 => ?_) (fun h55 => ?_)))))
   ·refine .seq (.draw [8] [[0, 1, 2, 3, 4, 5, 6, 7, 8], [9]] mixed kQ (.g0 (.mv Y Y (.kv Y (.fieldAddr Y Cm) (.kv Y (.as (v' := .slice (some ⟨bs, os, none⟩) subs.length csb) (by exact esub) (.ld Y Gl)) (.mv Y Y (.kv Y (.indexAddr Y Y ES om) (.kv Y (.loadRdA (sz := 8) (j := i * 8) (k := 8) (p := p) (vs := A1 subs[i]) Y Az O hrd (by simp) om om (A3 (f := A1) (sz := 8) (fun _ _ => Y) om)) (.kv Y (.fieldAddr Y C4) (.kv Y (.ld Y AR) (.hh Y (.c func36 [_, _, _] (JO x (AH τ zx ((subs.take i).filter Aj)).1 subs[i] zx p hys (N + subs.length) hok om)) ?_)))))))))))
    rintro v L' ⟨a15, c15, rfl, rfl⟩
    refine D.ph (.g0 (.kv Y (.assign Y) (.pf (.region (.m Y (.m Y (.oq (.append (n := (AH τ zx ((subs.take i).filter Aj)).2.length) (m := (AJ (AH τ zx ((subs.take i).filter Aj)).1 subs[i] zx).2.length) (ys := (AJ (AH τ zx ((subs.take i).filter Aj)).1 subs[i] zx).2.flatMap BU) (p := Ad 50 3 (.slice a15 (AJ (AH τ zx ((subs.take i).filter Aj)).1 subs[i] zx).2.length c15) (AJ (AH τ zx ((subs.take i).filter Aj)).1 subs[i] zx).2.length ((AJ (AH τ zx ((subs.take i).filter Aj)).1 subs[i] zx).2.flatMap BU)) Y Y Y DJ (.inl ⟨_, underlying47⟩) Bu Y Y ?hc76 ?hr77 ?hb78 dQ) ?_)))))))
    case hc76 => exact IT _
    case hr77 => exact fun h hp => AZ hp
    case hb78 => have := IV (AH τ zx ((subs.take i).filter Aj)).1 subs[i] zx; omega
    rintro v L' ⟨⟨a16_2, c16_2, rfl⟩, rfl⟩
    refine .a Y (.nil (.blk_n (.then_n (.region (.m Y (.q (.add Y Y om) Y (.an Y ?_)))))))
    have hst := Hg (f := Aj) hi2 (by unfold Aj; rw [decide_eq_true h55])
    refine .rfCast (x := x) (τ' := (AH τ zx ((subs.take (i + 1)).filter Aj)).1) O (by rw [hst, BO]) (.slCast (T := 50) (sz := 3) (m' := (AH τ zx ((subs.take (i + 1)).filter Aj)).2.length) (xs' := (AH τ zx ((subs.take (i + 1)).filter Aj)).2.flatMap BU) O (by rw [hst, BO]; simp) (by rw [hst, BO]; simp) ?_)
    exact .rk ((i + 1, .slice a16_2 ((AH τ zx ((subs.take i).filter Aj)).2.length + (AJ (AH τ zx ((subs.take i).filter Aj)).1 subs[i] zx).2.length) c16_2)) (⟨by dsimp only; omega, _, _, by rw [hst, BO, length_append]⟩) (by dsimp only; omega) O
   refine .skip (.blk_n (.then_n (.region (.m Y (.q (.add Y Y om) Y (.an Y ?_))))))
   have hst := IA (f := Aj) hi2 (by unfold Aj; rw [decide_eq_false h55])
   refine .rfCast (x := x) (τ' := (AH τ zx ((subs.take (i + 1)).filter Aj)).1) O (by rw [hst]) (.slCast (T := 50) (sz := 3) (m' := (AH τ zx ((subs.take (i + 1)).filter Aj)).2.length) (xs' := (AH τ zx ((subs.take (i + 1)).filter Aj)).2.flatMap BU) O (by rw [hst]) (by rw [hst]) ?_)
   exact .rk ((i + 1, .slice au (AH τ zx ((subs.take i).filter Aj)).2.length cu)) (⟨by dsimp only; omega, _, _, by rw [hst]⟩) (by dsimp only; omega) O
  have hii : i = subs.length := by omega
  rw [hii, take_length]
  refine .xe (.sr (.fa Y B1 (.u (.ld Y AR) (.q (.as (v' := .bool true) (by exact congrArg Value.bool (decide_eq_true hk6)) (.int Y Y Y)) Y (.nt (.condT Y (.region (.m Y (.fa Y CZ (.u (.ld Y AR) (.cv func37 [_, _] (M4 x (AH τ zx (subs.filter Aj)).1 y.own (by have := (ho.parts zx (subs.filter Aj) (fun w hw => (hx.each w (mem_filter.1 hw).1).few)).sfew; have := length_filter_le Aj subs; omega)) ?_)))))))))))
  refine .nil (.blk_n (.then_n (.seq ?_)))
  have hz : (AC τ zx y subs) = (zxT (dropS (AH τ zx (subs.filter Aj)).1 y.own) zx, ((AH τ zx (subs.filter Aj)).2, 0)) := by rw [Gk]; unfold Fd; rw [if_neg h20, if_pos hk6]
  refine .rtOpen (x := x) (τ := (dropS (AH τ zx (subs.filter Aj)).1 y.own)) O fun an cn as1 cs l hl => (.region (.m Y (.fa Y C4 (.u (.ld Y AR) (.nf Y IF (.st Y Y Y CC ?_))))))
  refine .nil (.rtFold (x := x) (τ := (zxT (dropS (AH τ zx (subs.filter Aj)).1 y.own) zx)) (l := l) hl O Y Y Y Y Y (.then_n (.sm Y (.m Y (.a Y (.an Y (.ret (.rfCast (x := x) (τ' := (AC τ zx y subs).1) O (by rw [hz]) (.slCast (T := 50) (sz := 3) (m' := (AC τ zx y subs).2.1.length) (xs' := (AC τ zx y subs).2.1.flatMap BU) O (by (rw [hz]; try rfl)) (by (rw [hz]; try rfl)) ?_)))))))))
  exact .dn Y Y ⟨_, _, Y, by rw [hz], ⟨_, _, by (rw [hz]; try rfl)⟩, rfl⟩
 refine .q (.as (v' := .bool false) (by exact congrArg Value.bool (decide_eq_false hk6)) (.int Y Y Y)) Y (.an Y (.condF Y (.region ?_)))
 rcases Decidable.em (y.kind = 7) with hk7 | hk7
 ·refine .q (.as (v' := .bool true) (by exact congrArg Value.bool (decide_eq_true hk7)) (.int Y Y Y)) Y (.an Y (.condT Y (.seq (.sr (.an Y (.block (.add (AN 50 3) (.rfCast (x := x) (τ' := (AH τ zx (subs.take 0)).1) O (by rw [take_zero]; rfl) (.slCast (T := 50) (sz := 3) (m' := (AH τ zx (subs.take 0)).2.length) (xs' := (AH τ zx (subs.take 0)).2.flatMap BU) O (by rw [take_zero]; rfl) (by rw [take_zero]; rfl) (.loopK (ι := Nat × Value) (fun q E => (9, AA q.1) :: (7, q.2) :: E) (fun q => [Ds x (AH τ zx (subs.take q.1)).1, Ad 50 3 q.2 (AH τ zx (subs.take q.1)).2.length ((AH τ zx (subs.take q.1)).2.flatMap BU)]) (fun q => q.1 ≤ subs.length ∧ ∃ a c, q.2 = .slice a (AH τ zx (subs.take q.1)).2.length c) (fun q => subs.length - q.1) (0, .slice none 0 0) (ts := [0, 3, 4, 5, 6, 8]) O (⟨Nat.zero_le _, none, 0, by rw [take_zero]; rfl⟩) O O ?_))))))))))
  rintro ⟨i, u⟩ ⟨hi, au, cu, hu⟩
  dsimp only
  dsimp only at hi hu
  subst hu
  have hev := G1 τ zx (subs.take i)
  have hfl := length_take_le i subs
  have hok : (AH τ zx (subs.take i)).1.Ok (N + subs.length) := (ho.parts zx _ (fun w hw => (hx.each w (mem_of_mem_take hw)).few)).more (by rw [length_take]; omega)
  refine .seq (.sm Y (.fa Y Cm (.q (.as (v' := .slice asb subs.length csb) (by exact esub) (.ld Y Gl)) Y (.q (.slen Y underlying58 Y) Y (.ui Y Y Y (.nt (.condD Y (fun h41 => ?_) (fun h41 => ?_))))))))
  ·have hi2 : i < subs.length := by omega
   refine .rdShape (p := p) hrd O om fun bs os e1 => ?_
   subst e1
   have hys := hx.each _ (getElem_mem hi2)
   refine .sk (.seq (.block (.sr (.fa Y B1 (.u (.ld Y AR) (.q (.as (v' := .bool true) (by exact congrArg Value.bool (decide_eq_true hk7)) (.int Y Y Y)) Y (.m Y (.gk (.gk (.gk (.gk (.gk (.gk (.gk (.pT Y Y (.nt (.condT Y (.seq (.draw [8] [[0, 1, 2, 3, 4, 5, 6, 7, 8], [9]] mixed kQ (.g0 (.mv Y Y (.kv Y (.fieldAddr Y Cm) (.kv Y (.as (v' := .slice (some ⟨bs, os, none⟩) subs.length csb) (by exact esub) (.ld Y Gl)) (.mv Y Y (.kv Y (.indexAddr Y Y ES om) (.kv Y (.loadRdA (sz := 8) (j := i * 8) (k := 8) (p := p) (vs := A1 subs[i]) Y Az O hrd (by simp) om om (A3 (f := A1) (sz := 8) (fun _ _ => Y) om)) ?_))))))))))))))))))))))))))
   refine D.kv Y (.fieldAddr Y C4) (.kv Y (.ld Y AR) (.hh Y (.c func36 [_, _, _] (JO x (AH τ zx (subs.take i)).1 subs[i] zx p hys (N + subs.length) hok om)) ?_))
   rintro v L' ⟨a15, c15, rfl, rfl⟩
   refine D.ph (.g0 (.kv Y (.assign Y) (.pf (.region (.m Y (.m Y (.oq (.append (n := (AH τ zx (subs.take i)).2.length) (m := (AJ (AH τ zx (subs.take i)).1 subs[i] zx).2.length) (ys := (AJ (AH τ zx (subs.take i)).1 subs[i] zx).2.flatMap BU) (p := Ad 50 3 (.slice a15 (AJ (AH τ zx (subs.take i)).1 subs[i] zx).2.length c15) (AJ (AH τ zx (subs.take i)).1 subs[i] zx).2.length ((AJ (AH τ zx (subs.take i)).1 subs[i] zx).2.flatMap BU)) Y Y Y DJ (.inl ⟨_, underlying47⟩) Bu Y Y ?hc126 ?hr127 ?hb128 dQ) ?_)))))))
   case hc126 => exact IT _
   case hr127 => exact fun h hp => AZ hp
   case hb128 => have := IV (AH τ zx (subs.take i)).1 subs[i] zx; omega
   rintro v L' ⟨⟨a16_2, c16_2, rfl⟩, rfl⟩
   refine .a Y (.nil (.blk_n (.then_n (.region (.m Y (.q (.add Y Y om) Y (.an Y ?_)))))))
   have hst := take_succ_eq_append_getElem hi2
   refine .rfCast (x := x) (τ' := (AH τ zx (subs.take (i + 1))).1) O (by rw [hst, BO]) (.slCast (T := 50) (sz := 3) (m' := (AH τ zx (subs.take (i + 1))).2.length) (xs' := (AH τ zx (subs.take (i + 1))).2.flatMap BU) O (by rw [hst, BO]; simp) (by rw [hst, BO]; simp) ?_)
   exact .rk ((i + 1, .slice a16_2 ((AH τ zx (subs.take i)).2.length + (AJ (AH τ zx (subs.take i)).1 subs[i] zx).2.length) c16_2)) (⟨by dsimp only; omega, _, _, by rw [hst, BO, length_append]⟩) (by dsimp only; omega) O
  have hii : i = subs.length := by omega
  rw [hii, take_length]
  refine .xe (.sr (.fa Y B1 (.u (.ld Y AR) (.q (.as (v' := .bool false) (by exact congrArg Value.bool (decide_eq_false om)) (.int Y Y Y)) Y (.nt (.condF Y (.skip (.blk_n (.then_n (.seq ?_))))))))))
  have hz : (AC τ zx y subs) = (zxT ((AH τ zx subs).1) zx, ((AH τ zx subs).2, 0)) := by rw [Gk]; unfold Fd; rw [if_neg h20, if_neg hk6, if_pos hk7]
  refine .rtOpen (x := x) (τ := ((AH τ zx subs).1)) O fun an cn as1 cs l hl => (.region (.m Y (.fa Y C4 (.u (.ld Y AR) (.nf Y IF (.st Y Y Y CC ?_))))))
  refine .nil (.rtFold (x := x) (τ := (zxT ((AH τ zx subs).1) zx)) (l := l) hl O Y Y Y Y Y (.then_n (.sm Y (.m Y (.a Y (.an Y (.ret (.rfCast (x := x) (τ' := (AC τ zx y subs).1) O (by rw [hz]) (.slCast (T := 50) (sz := 3) (m' := (AC τ zx y subs).2.1.length) (xs' := (AC τ zx y subs).2.1.flatMap BU) O (by (rw [hz]; try rfl)) (by (rw [hz]; try rfl)) ?_)))))))))
  exact .dn Y Y ⟨_, _, Y, by rw [hz], ⟨_, _, by (rw [hz]; try rfl)⟩, rfl⟩
 refine .q (.as (v' := .bool false) (by exact congrArg Value.bool (decide_eq_false hk7)) (.int Y Y Y)) Y (.an Y (.condF Y (.sr (.ui Y Y Y (.an Y (.condD Y (fun h75 => ?_) (fun h75 => ?_)))))))
 ·refine .region (.fa Y If (.u (.ld Y Ey) (.a Y (.nil (.blk_n (.then_n (.seq (.add (AN 50 3) ?_))))))))
  have hz : (AC τ zx y subs) = (zxT (τ) zx, ([], y.err)) := by rw [Gk]; unfold Fd; rw [if_neg h20, if_neg hk6, if_neg hk7, if_pos h75]
  refine .rtOpen (x := x) (τ := (τ)) O fun an cn as1 cs l hl => (.region (.m Y (.fa Y C4 (.u (.ld Y AR) (.nf Y IF (.st Y Y Y CC ?_))))))
  refine .nil (.rtFold (x := x) (τ := (zxT (τ) zx)) (l := l) hl O Y Y Y Y Y (.then_n (.sm Y (.m Y (.a Y (.an Y (.ret (.rfCast (x := x) (τ' := (AC τ zx y subs).1) O (by rw [hz]) (.slCast (T := 50) (sz := 3) (m' := (AC τ zx y subs).2.1.length) (xs' := (AC τ zx y subs).2.1.flatMap BU) O (by (rw [hz]; try rfl)) (by (rw [hz]; try rfl)) ?_)))))))))
  exact .dn Y Y ⟨_, _, Y, by rw [hz], ⟨_, _, by (rw [hz]; try rfl)⟩, rfl⟩
 refine .region (.m Y (.q (.loadAs (vs := A1 y) Y Az O (by simp [A1]) Y) Y (.fa Y C4 (.u (.ld Y AR) (.oq (.c func36 [_, _, _] (JO x τ y zx p hx.own N ho om)) ?_)))))
 rintro v L' ⟨a5, c5, rfl, rfl⟩
 refine .a Y (.nil (.blk_n (.then_n (.seq ?_))))
 have hz : (AC τ zx y subs) = (zxT ((AJ τ y zx).1) zx, ((AJ τ y zx).2, 0)) := by rw [Gk]; unfold Fd; rw [if_neg h20, if_neg hk6, if_neg hk7, if_neg h75]
 refine .rtOpen (x := x) (τ := ((AJ τ y zx).1)) O fun an cn as1 cs l hl => (.region (.m Y (.fa Y C4 (.u (.ld Y AR) (.nf Y IF (.st Y Y Y CC ?_))))))
 refine .nil (.rtFold (x := x) (τ := (zxT ((AJ τ y zx).1) zx)) (l := l) hl O Y Y Y Y Y (.then_n (.sm Y (.m Y (.a Y (.an Y (.ret (.rfCast (x := x) (τ' := (AC τ zx y subs).1) O (by rw [hz]) (.slCast (T := 50) (sz := 3) (m' := (AC τ zx y subs).2.1.length) (xs' := (AC τ zx y subs).2.1.flatMap BU) O (by (rw [hz]; try rfl)) (by (rw [hz]; try rfl)) ?_)))))))))
 exact .dn Y Y ⟨_, _, Y, by rw [hz], ⟨_, _, by (rw [hz]; try rfl)⟩, rfl⟩
theorem Z1 {l : List Fx} {k : Nat} (hk : k < l.length) : ((l.flatMap E1).drop (k * 12 + 3)).take 9 = B7 l[k].2.2.st := by
 have h := A3 (f := E1) (sz := 12) (l := l) (i := k) (fun _ _ => rfl) hk
 have h2 := congrArg (List.drop 3) h
 rw [drop_take, drop_drop] at h2
 exact h2
theorem Tt {β : Type} {l : List (Bs × β)} (hn : (l.map (·.1)).Nodup) {i : Nat} (hi : i < l.length) : AE l l[i].1 = some l[i].2 := CR hn (getElem_mem hi)
theorem VF {τ : Tr} {p : Bs} (h : ¬ AQ τ p) : AU τ p = st0 := by
 unfold AU Im
 unfold AQ at h
 cases e : AE τ.nodes p with
 | none => rfl
 | some y => rw [e] at h; exact absurd rfl h
theorem VK {τ : Tr} {p : Bs} {n : Nd} (h : AE τ.nodes p = some n) : AU τ p = { n.st with len := n.data.length, kids := (Bh τ p).length } := by
 unfold AU Im; rw [h]; rfl
theorem QH {τ : Tr} {p : Bs} : AQ τ p ↔ ∃ n, AE τ.nodes p = some n := Option.isSome_iff_exists
theorem MO (x : Nat) (τ : Tr) (p : Bs) (N : Nat) (ho : τ.Ok N) (hN : N ≤ 1073741824) : Fn prog 17 #[AI x, AD p] [Ds x τ] fun v L => v = .tuple #[.agg (B7 (AU τ p)).toArray, .bool (decide (AQ τ p))] ∧ L = [Ds x τ] := by
 refine Fn.intro func17 Y Y fun F W => ?_
 have hof := ho.few
 refine .sr (.oq (.allocA DO) ?_)
 rintro v L' ⟨b4, rfl, rfl⟩
 refine .an Y (.sm Y (.m Y (.cv func38 [_, _] (Da x τ p om) ?_)))
 refine .an Y (.seq (.sm Y (.ui Y Y Y (.nt (.condD Y (fun h12 => ?_) (fun h12 => ?_))))))
 ·refine .sr (.q (.to (v' := .agg (B7 st0).toArray) (.build (us := []) NB DO Y Y (by simp [AB])) Y) Y (.sa Y Y DD (by intro v hv; simp only [B7, mem_cons, not_mem_nil, or_false] at hv; rcases hv with rfl | rfl | rfl | rfl | rfl | rfl | rfl | rfl | rfl <;> rfl) ?_))
  refine .an Y (.rt ?_)
  have hth : ¬ AQ τ p := fun g => absurd (CB.2 g) (by have h0 : Cb τ.nodes p < 0 := h12; omega)
  refine .ptCast (b := b4) (l' := B7 (AU τ p)) O (by rw [VF hth]; rfl) ?_
  exact .d2 Y (.cellA Y Ef O (by simp [B7]) Y) (.tmp Y) ⟨by rw [decide_eq_false hth]; rfl, rfl⟩
 have h12b : 0 ≤ Cb τ.nodes p := by have h0 : ¬ Cb τ.nodes p < 0 := h12; omega
 obtain ⟨k, hk, hpk, hkp⟩ := Gp (l := τ.nodes) h12b
 have hpz : Ha τ p = k := hpk
 rw [hpz]
 obtain ⟨nd, hnd⟩ : ∃ nd, AE τ.nodes p = some nd := by have g2 : AE τ.nodes (τ.nodes[k]).1 = some (τ.nodes[k]).2 := Tt (ho.sorted.nodup Ea) (i := k) hk; rw [hkp] at g2; exact ⟨_, g2⟩
 have hsd := VK hnd
 refine .sk (.seq (.rtOpen (x := x) (τ := τ) O fun am cm as2 cs2 m hm => ?_))
 have hml := D7 hm
 have hkm : k < m.length := by omega
 refine .slShape (T := 68) (sz := 12) (v := .slice am m.length cm) (xs := m.flatMap E1) O om fun bm bm' e0 mbm _ => ?_
 simp only [Value.slice.injEq, true_and] at e0
 obtain ⟨rfl, rfl⟩ := e0
 have hlk : AE τ.nodes p = some m[k].2.2 := by have g := HL hm (i := k) hkm; have g2 : AE τ.nodes (τ.nodes[k]).1 = some (τ.nodes[k]).2 := Tt (ho.sorted.nodup Ea) (i := k) hk; rw [hkp, show τ.nodes[k] = (m[k].1, m[k].2.2) from g] at g2; exact g2
 have hmn : m[k].2.2 = nd := by rw [hnd] at hlk; exact (Option.some.inj hlk).symm
 refine .region (.m Y (.nf Y BJ (.u (.ld Y Ci) (.m Y (.q (.indexAddr Y Y B5 om) Y (.fa Y Id (.q (.loadRdA (sz := 12) (j := k * 12 + 3) (k := 9) (p := M7 _ m) (vs := B7 m[k].2.2.st) Y Ef O (fun h hp => AZ hp) (by simp) om om (Z1 hkm)) Y (.oq (.allocA DO) ?_))))))))
 rintro v L' ⟨b7, rfl, rfl⟩
 refine .sa Y Y DD (by intro v hv; simp only [B7, mem_cons, not_mem_nil, or_false] at hv; rcases hv with rfl | rfl | rfl | rfl | rfl | rfl | rfl | rfl | rfl <;> rfl) ?_
 refine .nil (.ptCast (b := b7) (l' := B7 nd.st) O (by rw [hmn]; rfl) ?_)
 refine .then_n (.sm Y (.nf Y BJ (.u (.ld Y Ci) (.m Y (.q (.indexAddr Y Y B5 om) Y (.fa Y T4 (.q (.loadRd (sz := 12) (j := k * 12 + 1) (p := M7 _ m) Y Ag O (fun h hp => AZ hp) om ((Dh (l := m) (i := k) (k := 1) om dQ).trans Y)) Y (.q (.strlen Y underlying9 Y) Y (.fa Y UQ (.sw Y Y Y CC ?_))))))))))
 refine .nil (.ptCast (b := b7) (l' := B7 { nd.st with len := nd.data.length }) O (by rw [hmn]; rfl) ?_)
 refine .rtFold (x := x) (τ := τ) (l := m) hm O Y Y Y Y Y (.then_n (.sm Y (.m Y (.oq (.c func39 [_, _] (Sx x τ p N ho om)) ?_))))
 rintro v L' ⟨⟨a7, c7, rfl⟩, rfl⟩
 refine .q (.slen Y underlying38 Y) Y (.fa Y PS (.sw Y Y Y CC ?_))
 refine .nil (.ptCast (b := b7) (l' := B7 (AU τ p)) O (by rw [hsd]; rfl) ?_)
 refine .then_n (.sr (.q (.loadAs (vs := B7 (AU τ p)) Y Ef O (by simp [B7]) Y) Y (.sa Y Y DD (by intro v hv; simp only [B7, mem_cons, not_mem_nil, or_false] at hv; rcases hv with rfl | rfl | rfl | rfl | rfl | rfl | rfl | rfl | rfl <;> rfl) ?_)))
 refine .an Y (.ret ?_)
 have hth : AQ τ p := QH.2 ⟨nd, hnd⟩
 refine .ptCast (b := b4) (l' := B7 (AU τ p)) O Y ?_
 exact .d2 Y (.cellA Y Ef O (by simp [B7]) Y) (.tmp Y) ⟨by rw [decide_eq_true hth]; rfl, rfl⟩
/- not in this seat -/
theorem YC {x : NZ} (h : ∀ v ∈ D6 x.r, AB v = true) : ∀ v ∈ Y8 x, AB v = true := by
 intro v hv
 unfold Y8 at hv
 rcases mem_append.1 hv with hv | hv
 ·rcases mem_append.1 hv with hv | hv
  ·simp only [mem_cons, not_mem_nil, or_false] at hv
   rcases hv with rfl | rfl | rfl <;> rfl
  ·exact h v hv
 ·rw [mem_singleton] at hv; rw [hv]; rfl
theorem EJ.txA {N : Nat} {e : En} {l : List En} (h : EJ N e.x e.subs) (hk : ZD e) (he : e ∈ l) (hN : N ≤ 1048576 := by decide) : TxA (Ah entR l) e.x e.subs := by
 have hr : ∀ {h : Hp}, Ah entR l h → ∃ h1, (∀ b o, h1 b = some o → h b = some o) ∧ entR e h1 := fun hp => by
  obtain ⟨h1, a1, q1⟩ := IQ he hp
  exact ⟨h1, a1, q1⟩
 refine ⟨⟨fun _ hp => ?_, h.x.r.many, h.x.r.path, hk.x.2, hk.x.1⟩, fun _ hp => ?_, h.few hN, fun w hw => ⟨fun _ hp => ?_, (h.each w hw).r.many, (h.each w hw).r.path, by rw [(hk.subs w hw).2]; rfl, (hk.subs w hw).1⟩⟩
 ·obtain ⟨h1, a1, q1⟩ := hr hp; exact Ck (MA q1) a1
 ·obtain ⟨h1, a1, q1⟩ := hr hp; exact Ck (Hn q1) a1
 ·obtain ⟨h1, a1, q1⟩ := hr hp; exact Ck (Jv q1 hw) a1
def Ov (k : Int) (p : Bs) : Rq := ⟨k, 0, p, [], AG, [], 0, 0, true, AG, AG⟩
theorem Hr {q : HP} (hT : Gr q) (hZ : PK q) {s k : Int} (hs : A4 s) (hk : A4 k) {p : Bs} (hp : p.length ≤ 1048566) : Gi q s (Ov k p) [] [] :=
 ⟨⟨⟨⟨hk, A4.zero, A4.zero, A4.zero, hp, Nat.zero_le _, fun _ _ => .inl ⟨rfl, rfl, none, 0, rfl⟩, Nat.zero_le _, (fun _ h => by cases h), ⟨none, 0, 0, rfl⟩, ⟨none, 0, 0, rfl⟩⟩, hs, fun _ _ => .inl ⟨rfl, rfl, none, 0, rfl⟩, by show 0 ≤ _; decide, ⟨none, 0, 0, rfl⟩, ⟨none, 0, 0, rfl⟩, hT⟩, CQ, fun _ _ => .inl ⟨rfl, rfl, none, 0, rfl⟩, (fun _ h => by cases h), fun _ h => by cases h⟩, hZ, Mm⟩
theorem RY {τ : Tr} {j : Nat} (hj : j < (AS τ).length) (hj2 : j < τ.nodes.length) : (AS τ)[j] = τ.nodes[j].1 := getElem_map (f := fun x : PN => x.1) (l := τ.nodes) (i := j) (h := hj)
theorem RH {τ : Tr} {m : List Fx} (h : D3 m = τ.nodes) {j : Nat} (hj : j < m.length) : (AS τ).take (j + 1) = (AS τ).take j ++ [m[j].1] := by
 have hl := D7 h
 have hj2 : j < (AS τ).length := by unfold AS; rw [length_map]; omega
 rw [take_succ_eq_append_getElem hj2]
 have e : (AS τ)[j] = m[j].1 := (RY hj2 om).trans (congrArg Prod.fst (HL h hj))
 rw [e]
theorem EP {τ : Tr} {N : Nat} (ho : τ.Ok N) {j : Nat} (hj : j < (AS τ).length) : AQ τ (AS τ)[j] ∧ (AS τ)[j].length ≤ 60 := by
 have hj2 : j < τ.nodes.length := by unfold AS at hj; rwa [length_map] at hj
 rw [RY hj hj2]
 exact ⟨(AAF ho hj2).2, Ec (ho.able _ (getElem_mem hj2))⟩
theorem Ih (ax : Option Addr) (cx : Nat) (xs : List NZ) (r : Rq) (subs : List Rq) (arm : List G8) (q : HP) (hT : Gr q) (hZ : PK q) (hS : StA q (.slice ax xs.length cx) xs) (hR : Gi q 1 r subs arm) : Fn prog 5 #[.slice ax xs.length cx, .agg (D6 r).toArray] [q] fun v L => v = .bool true ∧ L = [q] := by
 refine Fn.intro func5 Y Y fun F W => ?_
 have hBw := AAA 60
 have hsw := ZL 60
 have hQw := Z4 60
 refine .sr (.oq (.box Y) ?_)
 rintro v L' ⟨b3, rfl, rfl⟩
 refine .a Y (.nil (.pc b3 (D6 r) ?_))
 refine .then_n (.sr (.cv func7 [] (PW q hT hZ) ?_))
 refine .an Y (.sr (.oq (.c func8 [] (ME)) ?_))
 rintro v L' ⟨b, k, rfl, rfl⟩
 refine .an Y (.seq (.sm Y (.u (.not Y) (.m Y (.gr (.m Y (.gr (.q (.ptreq Y Y underlying25) Y (.pF Y Y (.nt (.condF Y (.sk (.sm Y (.cv func9 [_, _] (Hz b k KC 60 0 HJ dQ) ?_))))))))))))))
 refine .m Y (.q (.as (v' := AA 1) (by rfl) (.extract Y Y)) Y (.q (.as (v' := AA 0) (by rfl) (.extract Y Y)) Y (.a Y (.an Y (.sm Y (.cv func9 [_, _] (Hz b k (KT KC 60).1 60 1 (HJ.opn dQ 60) dQ) ?_))))))
 refine .m Y (.q (.as (v' := AA 2) (by rfl) (.extract Y Y)) Y (.q (.as (v' := AA 0) (by rfl) (.extract Y Y)) Y (.a Y (.an Y (.seq (.sr (.an Y (.block (.loopK (ι := Nat × Pl) (fun q E => (11, AA q.1) :: E) (fun q => [Pr b k q.2]) (fun q => q.1 ≤ 100 ∧ q.1 ≤ xs.length ∧ Iy q.2 (q.1 + 2) ∧ Pb q.2 ∧ CF q.2.τ 1 ∧ CF q.2.τ 2 ∧ XD q.2) (fun q => 100 - q.1) (0, Mu 60) (ts := [0, 3, 4, 6, 7, 9]) O (⟨by decide, Nat.zero_le _, hBw, hQw, hsw.1, hsw.2, ZK 60⟩) O O ?_)))))))))
 rintro ⟨i, π⟩ ⟨hi, hix, hB, hQ, hs1, hs2, hO⟩
 dsimp only
 dsimp only at hi hix hB hQ hs1 hs2 hO
 refine .seq (.sm Y (.m Y (.q (.slen Y underlying22 Y) Y (.ui Y Y Y (.m Y (.dec (t := 48) Y (fun h8_48 => ?_) (fun h8_48 => ?_)))))))
 ·refine .kDT (t := 47) Y h8_48 (.gr (.m Y (.gr (.ui Y Y Y (.pT Y Y (.nt (.condD Y (fun h51 => ?_) (fun h51 => ?_))))))))
  ·have hi2 : i < xs.length := by omega
   have hi20 : i < 100 := by omega
   refine .rdShape (p := q) hS.cells O om fun bx ox e => ?_
   subst e
   have hA := hS.each _ (getElem_mem hi2) 1 ⟨by decide, by decide⟩
   have hnx := hS.nums _ (getElem_mem hi2)
   refine .sk (.seq (.block (.sm Y (.m Y (.q (.indexAddr Y Y ACG om) Y (.q (.loadRdA (sz := 14) (j := i * 14) (k := 14) (p := q) (vs := Y8 xs[i]) Y AB4 O hS.cells (by simp [Y8, D6]) om om (A3 (f := Y8) (sz := 14) (fun _ _ => Y) om)) Y (.oq (.allocA ACZ) ?_)))))))
   rintro v L' ⟨b12, rfl, rfl⟩
   refine .sa Y Y AB0 (by exact YC hA.rqc) ?_
   refine .nil (.pc b12 (Y8 xs[i]) ?_)
   refine .then_n (.sr (.fa Y AAU (.u (.ld Y AR) (.cv func11 [_, _] (Pz xs[i].what 9 hnx.1 dQ) ?_))))
   refine .ui Y Y Y (.m Y (.dec (t := 62) Y (fun h11_62 => ?_) (fun h11_62 => ?_)))
   ·refine .kDT (t := 61) Y h11_62 (.gr (.fa Y UN (.gr (.fa Y Bl (.gr (.u (.ld Y AR) (.gr (.ui Y Y Y (.pT Y Y (.nt (.condN Y (fun h67 => ?_) (fun h67 => ?_))))))))))))
    ·have h8 : xs[i].r.kind ≠ 8 := by first | assumption | omega
     refine .region (.m Y (.m Y (.fa Y UN (.q (.la (D6 xs[i].r) Y Hf) Y (.oq (.call func10 Y Y (vs := [_, _, _]) Y (CI b k π 1 xs[i].r xs[i].subs xs[i].arm q hA (fun _ => ⟨by decide, by decide⟩) (i + 2) hB om)) ?_)))))
     rintro v L' ⟨π2, x, kids, e, hC, rfl, rfl⟩
     refine .nil (.blk_n (.then_n (.region (.m Y (.q (.add Y Y om) Y (.an Y ?_))))))
     exact .rk ((i + 1, π2)) (⟨by dsimp only; omega, by dsimp only; omega, (hB.call om (fun _ => ⟨by decide, by decide⟩) hA hC).more om, hQ.call hB om (fun _ => ⟨by decide, by decide⟩) hA hC, hC.ses h8 hs1, hC.ses h8 hs2, hO.call hC hs1⟩) (by dsimp only; omega) O
    refine .skip (.blk_n (.then_n (.region (.m Y (.q (.add Y Y om) Y (.an Y ?_))))))
    exact .rk ((i + 1, π)) (⟨by dsimp only; omega, by dsimp only; omega, hB.more om, hQ, hs1, hs2, hO⟩) (by dsimp only; omega) O
   refine .kDF (t := 61) Y h11_62 (.gk (.gk (.gk (.gk (.pF Y Y (.nt (.condF Y (.skip (.blk_n (.then_n (.region (.m Y (.q (.add Y Y om) Y (.an Y ?_))))))))))))))
   exact .rk ((i + 1, π)) (⟨by dsimp only; omega, by dsimp only; omega, hB.more om, hQ, hs1, hs2, hO⟩) (by dsimp only; omega) O
  refine .xe (.seq ?_)
  have hB := hB.more (m := 102) om
  clear hix
  refine .region (.oq (.c func14 [] (NP)) ?_)
  rintro v L' ⟨t, rfl, rfl⟩
  refine .an Y (.sm Y (.oq (.c func15 [_] (MR b k π 102 hB dQ (fun e he => ⟨(hQ.each e he).1, (hQ.each e he).2.1⟩))) ?_))
  rintro v L' ⟨l, al, cl, hl, hlk, rfl, rfl⟩
  refine .an Y (.seq (.seq ?_))
  have hll := So hl
  have hol := hB.ord
  have hlt := UJ hl fun e he => (hQ.each e he).2.2
  refine .region (.an Y (.block (.loopK (ι := Nat) (fun q E => (15, AA q) :: E) (fun q => [Ds t (HR Dv (l.take q))]) (fun q => q ≤ l.length) (fun q => l.length - q) (0) (ts := [3, 4, 6, 7, 9, 13, 14]) O (Nat.zero_le _) O O ?_)))
  rintro j hj
  refine .seq (.sm Y (.m Y (.q (.slen Y underlying54 Y) Y (.ui Y Y Y (.nt (.condD Y (fun h79 => ?_) (fun h79 => ?_)))))))
  ·have hj2 : j < l.length := by omega
   refine .slShape (T := 62) (sz := 11) (v := .slice al l.length cl) (xs := l.flatMap DQ) O om fun bl bl' e0 _ _ => ?_
   simp only [Value.slice.injEq, true_and] at e0
   obtain ⟨rfl, rfl⟩ := e0
   refine .sk (.seq (.block (.region (.m Y (.m Y (.m Y (.q (.indexAddr Y Y Jz om) Y (.q (.loadRdA (sz := 11) (j := j * 11) (k := 11) (p := Ad 62 11 _ l.length (l.flatMap DQ)) (vs := DQ l[j]) Y ER O (fun h hp => AZ hp) (by simp) om om (A3 (f := DQ) (sz := 11) (fun _ _ => Y) om)) Y (.oq (.call func16 Y Y (vs := [_, _]) Y (K6 t (HR Dv (l.take j)) l[j].zx l[j].ses l[j].xid l[j].x l[j].subs (Ah entR l) ((hlt _ (getElem_mem hj2)).txA (hlk _ (getElem_mem hj2)) (getElem_mem hj2)) (1 + 9 * j) (Wi hlt Lj j) (by have := (hlt _ (getElem_mem hj2)).few dQ; omega))) ?_)))))))))
   rintro v L' ⟨ue, ee, rfl, he, hue, rfl⟩
   refine .nil (.blk_n (.then_n (.region (.m Y (.q (.add Y Y om) Y (.an Y (.rfCast (x := t) (τ' := HR Dv (l.take (j + 1))) O (by rw [take_succ_eq_append_getElem hj2, KN]; rfl) ?_)))))))
   exact .rk (j + 1) om om O
  have hje : j = l.length := by omega
  subst hje
  rw [take_length, (Ma hl).trans hQ.rep]
  have hok := hB.ok
  obtain ⟨P, hP⟩ : ∃ P, P = AS π.τ := ⟨_, rfl⟩
  have hPn : P.length = π.τ.nodes.length := by rw [hP]; exact length_map _
  have hPf : π.τ.nodes.length ≤ 64 := hQ.wi.ok.few
  refine .xe (.sr (.an Y (.seq (.seq (.add (AN 9 1) (.rtOpen (x := t) (τ := π.τ) O fun an cn as1 cs m hm => ?_))))))
  have hml := D7 hm
  refine .region (.an Y (.block (.loopK (ι := Nat × Value) (fun q E => (17, AA q.1) :: (16, q.2) :: E) (fun q => [Ad 9 1 q.2 q.1 (Ao (P.take q.1))]) (fun q => q.1 ≤ m.length ∧ ∃ a c, q.2 = .slice a q.1 c) (fun q => m.length - q.1) (0, .slice none 0 0) (ts := [3, 4, 6, 7, 9, 13]) O (⟨Nat.zero_le _, none, 0, Y⟩) O O ?_)))
  rintro ⟨j, pv⟩ ⟨hj, ap, cp, hpv⟩
  dsimp only
  dsimp only at hj hpv
  subst hpv
  refine .seq (.sm Y (.m Y (.nf Y BJ (.u (.ld Y Ci) (.q (.slen Y underlying63 Y) Y (.ui Y Y Y (.nt (.condD Y (fun h94 => ?_) (fun h94 => ?_)))))))))
  ·have hj2 : j < m.length := by omega
   refine .slShape (T := 68) (sz := 12) (v := .slice an m.length cn) (xs := m.flatMap E1) O om fun bn bn' e0 _ _ => ?_
   simp only [Value.slice.injEq, true_and] at e0
   obtain ⟨rfl, rfl⟩ := e0
   refine .sk (.seq (.block (.region (.m Y (.m Y (.nf Y BJ (.u (.ld Y Ci) (.m Y (.q (.indexAddr Y Y B5 om) Y (.fa Y C3 (.q (.loadRd (sz := 12) (j := j * 12 + 0) (p := M7 _ m) Y Ag O (fun h hp => AZ hp) om ((Dh (l := m) (i := j) (k := 0) om dQ).trans Y)) Y (.oq (.buildSlice1 (vs := [_]) CO Hk Y Y Y Y Y dQ) ?_))))))))))))
   rintro v L' ⟨bp, rfl, rfl⟩
   refine .oq (.append1 Y Y Y CO Hk Y Y ?c97 ?c98 (Nat.le_refl _) ?c99 dQ) ?_
   case c97 => simp [Value.cells, AB]
   case c98 => rfl
   case c99 => omega
   rintro v L' ⟨⟨a23, c23, rfl⟩, rfl⟩
   refine .a Y (.nil (.blk_n (.then_n (.region (.m Y (.q (.add Y Y om) Y (.an Y (.slCast (T := 9) (sz := 1) (m' := j + 1) (xs' := Ao (P.take (j + 1))) O (by exact rfl) (by rw [hP, RH hm hj2]; simp [Ao, Value.cells]) ?_))))))))
   exact .rk ((j + 1, .slice a23 (j + 1) c23)) (⟨by dsimp only; omega, a23, c23, rfl⟩) (by dsimp only; omega) O
  have hje : j = P.length := by omega
  subst hje
  rw [take_length]
  refine .rtFold (x := t) (τ := π.τ) (l := m) hm O Y Y Y Y Y ?_
  have hsz : P.length ≤ 64 := by omega
  refine .xe (.seq (.sr (.an Y (.block (.loopK (ι := Nat × Pl) (fun q E => (18, AA q.1) :: E) (fun q => [Pr b k q.2]) (fun q => q.1 ≤ P.length ∧ Iy q.2 (102 + 2 * q.1) ∧ q.2.τ = π.τ ∧ q.2.ev 2 = []) (fun q => P.length - q.1) (0, π) (ts := [3, 4, 6, 7, 9, 13, 16]) O (⟨Nat.zero_le _, hB, Y, hO.ev⟩) O O ?_)))))
  rintro ⟨j, ρ⟩ ⟨hj, hB4, hτ4, hev4⟩
  dsimp only
  dsimp only at hj hB4 hτ4 hev4
  refine .seq (.sm Y (.m Y (.q (.slen Y underlying38 Y) Y (.ui Y Y Y (.nt (.condD Y (fun h111 => ?_) (fun h111 => ?_)))))))
  ·have hj2 : j < P.length := by omega
   have hs24 : CF ρ.τ 2 := by rw [hτ4]; exact hs2
   have hpj : P[j].length ≤ 60 := by subst hP; exact (EP hok hj2).2
   refine .slShape (T := 9) (sz := 1) (v := .slice ap P.length cp) (xs := Ao P) O om fun bq bq' e0 _ _ => ?_
   simp only [Value.slice.injEq, true_and] at e0
   obtain ⟨rfl, rfl⟩ := e0
   refine .sk (.seq (.block (.sm Y (.m Y (.m Y (.m Y (.q (.indexAddr Y Y CO om) Y (.q (.loadEl (p := Ad 9 1 _ P.length (Ao P)) (i := j * 1) (v := AD P[j]) Y Ag O (fun h hp => AZ hp) (by simp [Ao, hj2])) Y (.q (.to (v' := .agg (D6 (Ov 9 P[j])).toArray) (.build (us := [(0, _), (2, _), (7, _)]) K4 Jp Y Y (by simp [AB])) Y) Y (.oq (.call func10 Y Y (vs := [_, _, _]) Y (CI b k ρ 2 (Ov 9 P[j]) [] [] q (Hr hT hZ ⟨by decide, by decide⟩ ⟨by decide, by decide⟩ om) (fun _ => ⟨by decide, by decide⟩) (102 + 2 * j) hB4 om)) ?_))))))))))
   rintro v L' ⟨ρ2, x2, kids2, e2, hC2, rfl, rfl⟩
   refine .nt ?_
   have hB5 := hB4.call om (fun _ => ⟨by decide, by decide⟩) (Hr hT hZ ⟨by decide, by decide⟩ ⟨by decide, by decide⟩ om) hC2
   have hse5 := J7 hC2 hs24 (by show Bm 9; decide)
   have hs25 : CF ρ2.τ 2 := by rw [hse5.1]; exact hs24
   refine .region (.m Y (.m Y (.m Y (.m Y (.q (.indexAddr Y Y CO om) Y (.q (.loadEl (p := Ad 9 1 _ P.length (Ao P)) (i := j * 1) (v := AD P[j]) Y Ag O (fun h hp => AZ hp) (by simp [Ao, hj2])) Y (.q (.to (v' := .agg (D6 (Ov 11 P[j])).toArray) (.build (us := [(0, _), (2, _), (7, _)]) K4 Jp Y Y (by simp [AB])) Y) Y (.oq (.call func10 Y Y (vs := [_, _, _]) Y (CI b k ρ2 2 (Ov 11 P[j]) [] [] q (Hr hT hZ ⟨by decide, by decide⟩ ⟨by decide, by decide⟩ om) (fun _ => ⟨by decide, by decide⟩) (102 + 2 * j + 1) hB5 om)) ?_))))))))
   rintro v L' ⟨ρ3, x3, kids3, e3, hC3, rfl, rfl⟩
   refine .nil ?_
   have hB6 := hB5.call om (fun _ => ⟨by decide, by decide⟩) (Hr hT hZ ⟨by decide, by decide⟩ ⟨by decide, by decide⟩ om) hC3
   have hse6 := J7 hC3 hs25 (by show Bm 11; decide)
   refine .blk_n (.then_n (.region (.m Y (.q (.add Y Y om) Y (.an Y ?_)))))
   exact .rk ((j + 1, ρ3)) (⟨by dsimp only; omega, hB6.more om, hse6.1.trans (hse5.1.trans hτ4), by dsimp only; rw [hse6.2, hse5.2]; exact hev4⟩) (by dsimp only; omega) O
  have hje : j = P.length := by omega
  subst hje
  have hs14 : CF ρ.τ 1 := by rw [hτ4]; exact hs1
  have hs24 : CF ρ.τ 2 := by rw [hτ4]; exact hs2
  refine .xe (.sm Y (.m Y (.q (.la (D6 r) Y Hf) Y (.oq (.call func10 Y Y (vs := [_, _, _]) Y (CI b k ρ 1 r subs arm q hR (fun _ => ⟨by decide, by decide⟩) (102 + 2 * P.length) hB4 om)) ?_))))
  rintro v L' ⟨σ, x, kids, e, hC, rfl, rfl⟩
  refine .m Y (.ex Y Y (.ex Y Y (.oq (.allocA CS) ?_)))
  rintro v L' ⟨b19, rfl, rfl⟩
  refine .sa Y Y Bg (by exact hC.cells) ?_
  refine .a Y (.nil (.pc b19 (BF x) ?_))
  have he := hC.ok hs14
  have hB7 := hB4.call om (fun _ => ⟨by decide, by decide⟩) hR hC
  refine .then_n (.seq (.sm Y (.q (.as (v' := .bool false) (by simp [he]) (.int Y Y Y)) Y (.m Y (.gr (.fa Y Do (.gr (.u (.ld Y Ey) (.gr (.ui Y Y Y (.pF Y Y (.nt (.condD Y (fun h143 => ?_) (fun h143 => ?_))))))))))))))
  ·refine .sm Y (.q (.as (v' := .bool true) (by simp [he]) (.int Y Y Y)) Y (.an Y (.rt ?_)))
   exact .vv
  have hxe : x.err ≠ 0 := by simpa using h143
  obtain ⟨hn7, hs7, hev7⟩ := OJ hC hs14 hxe
  rw [hτ4] at hn7 hs7
  have hs27 : CF σ.τ 2 := by unfold CF; rw [hs7]; exact hs2
  refine .sk (.seq (.sr (.an Y (.block (.loopK (ι := Nat) (fun q E => (21, AA q) :: E) (fun q => []) (fun q => q ≤ P.length) (fun q => P.length - q) (0) (ts := [6, 9, 13, 16]) O (Nat.zero_le _) O O ?_)))))
  rintro j hj
  refine .seq (.sm Y (.m Y (.q (.slen Y underlying38 Y) Y (.ui Y Y Y (.nt (.condD Y (fun h149 => ?_) (fun h149 => ?_)))))))
  ·have hj2 : j < P.length := by omega
   have hpj : P[j].length ≤ 60 := by subst hP; exact (EP hok hj2).2
   have hpt : AQ π.τ P[j] := by subst hP; exact (EP hok hj2).1
   have hpt7 := (HU hn7 P[j]).2.2 hpt
   have hst7 := (HU hn7 P[j]).1
   refine .slShape (T := 9) (sz := 1) (v := .slice ap P.length cp) (xs := Ao P) O om fun bq bq' e0 _ _ => ?_
   simp only [Value.slice.injEq, true_and] at e0
   obtain ⟨rfl, rfl⟩ := e0
   refine .sk (.seq (.block (.sm Y (.m Y (.m Y (.q (.indexAddr Y Y CO om) Y (.q (.loadEl (p := Ad 9 1 _ P.length (Ao P)) (i := j * 1) (v := AD P[j]) Y Ag O (fun h hp => AZ hp) (by simp [Ao, hj2])) Y (.oq (.call func17 Y Y (vs := [_, _]) Y (MO t π.τ P[j] _ hok dQ)) ?_))))))))
   rintro v L' ⟨rfl, rfl⟩; rw [decide_eq_true hpt]
   refine .m Y (.ex Y Y (.ex Y Y (.oq (.allocA DO) ?_)))
   rintro v L' ⟨b22, rfl, rfl⟩
   refine .sa Y Y DD (by intro v hv; simp only [B7, mem_cons, not_mem_nil, or_false] at hv; rcases hv with rfl | rfl | rfl | rfl | rfl | rfl | rfl | rfl | rfl <;> rfl) ?_
   refine .a Y (.nil (.pc b22 (B7 (AU π.τ P[j])) ?_))
   refine .then_n (.sm Y (.m Y (.m Y (.m Y (.q (.indexAddr Y Y CO om) Y (.q (.loadEl (p := Ad 9 1 _ P.length (Ao P)) (i := j * 1) (v := AD P[j]) Y Ag O (fun h hp => AZ hp) (by simp [Ao, hj2])) Y (.q (.to (v' := .agg (D6 (H8 10 P[j])).toArray) (.build (us := [(0, _), (2, _)]) K4 Jp Y Y (by simp [AB])) Y) Y (.oq (.call func10 Y Y (vs := [_, _, _]) Y (CI b k σ 2 (H8 10 P[j]) [] [] q (PY hT hZ ⟨by decide, by decide⟩ ⟨by decide, by decide⟩ om) (fun _ => ⟨by decide, by decide⟩) (102 + 2 * P.length + 1) hB7 om)) ?_))))))))
   rintro v L' ⟨σ2, y, kids7, e7, hC7, rfl, rfl⟩; obtain ⟨he7, rfl, -, -, hye, -, hyst, -⟩ := N6 hC7 hs27 rfl (by show Bm 10; decide)
   refine .m Y (.ex Y Y (.ex Y Y (.oq (.allocA CS) ?_)))
   rintro v L' ⟨b24, rfl, rfl⟩
   refine .sa Y Y Bg (by exact hC7.cells) ?_
   refine .a Y (.nil (.pc b24 (BF y) ?_))
   have hr0 : BM σ.τ (σ.ids 2) (H8 10 P[j]) = 0 := J9 hB7.ok hpt7
   rw [hr0] at hye
   rw [hr0, if_pos rfl] at hyst
   have hyst2 : y.st = AU π.τ P[j] := hyst.trans hst7
   refine .then_n (.sm Y (.q (.as (v' := .bool false) (by simp [he7]) (.int Y Y Y)) Y (.m Y (.gr (.fa Y Do (.gr (.u (.ld Y Ey) (.gr (.q (.as (v' := .bool false) (by simp [hye]) (.int Y Y Y)) Y (.pF Y Y (.m Y (.gr (.fa Y Hc (.gr (.q (.to (v' := .agg (B7 (AU π.τ P[j])).toArray) (.loadA Y Ef O (by simp)) (by rw [← hyst2]; rfl)) Y (.gr (.q (.la (B7 (AU π.τ P[j])) Y Ef) Y (.gr (.q (.as (v' := .bool false) (by simp) (.structNe (r := decide (AU π.τ P[j] = AU π.τ P[j])) Y Y kQ (AAf 9998 _ _))) Y ?_)))))))))))))))))))
   refine .pF Y Y (.nt (.condF Y (.skip (.blk_n (.then_n (.region (.m Y (.q (.add Y Y om) Y (.an Y ?_)))))))))
   exact .rk (j + 1) om om O
  refine .xe (.sm Y (.m Y (.oq (.c func13 [_, _] (ON b k σ 2)) ?_)))
  rintro v L' ⟨av, cv, rfl, rfl⟩; rw [hev7, hev4]
  refine .q (.slen Y underlying47 Y) Y (.q (.as (v' := .bool true) (by rfl) (.int Y Y Y)) Y (.an Y (.ret ?_)))
  exact .vv
 refine .kDF (t := 47) Y h8_48 (.gk (.gk (.pF Y Y (.nt (.condF Y (.xe (.seq ?_)))))))
 have hB := hB.more (m := 102) om
 clear hix
 refine .region (.oq (.c func14 [] (NP)) ?_)
 rintro v L' ⟨t, rfl, rfl⟩
 refine .an Y (.sm Y (.oq (.c func15 [_] (MR b k π 102 hB dQ (fun e he => ⟨(hQ.each e he).1, (hQ.each e he).2.1⟩))) ?_))
 rintro v L' ⟨l, al, cl, hl, hlk, rfl, rfl⟩
 refine .an Y (.seq (.seq ?_))
 have hll := So hl
 have hol := hB.ord
 have hlt := UJ hl fun e he => (hQ.each e he).2.2
 refine .region (.an Y (.block (.loopK (ι := Nat) (fun q E => (15, AA q) :: E) (fun q => [Ds t (HR Dv (l.take q))]) (fun q => q ≤ l.length) (fun q => l.length - q) (0) (ts := [3, 4, 6, 7, 9, 13, 14]) O (Nat.zero_le _) O O ?_)))
 rintro j hj
 refine .seq (.sm Y (.m Y (.q (.slen Y underlying54 Y) Y (.ui Y Y Y (.nt (.condD Y (fun h79 => ?_) (fun h79 => ?_)))))))
 ·have hj2 : j < l.length := by omega
  refine .slShape (T := 62) (sz := 11) (v := .slice al l.length cl) (xs := l.flatMap DQ) O om fun bl bl' e0 _ _ => ?_
  simp only [Value.slice.injEq, true_and] at e0
  obtain ⟨rfl, rfl⟩ := e0
  refine .sk (.seq (.block (.region (.m Y (.m Y (.m Y (.q (.indexAddr Y Y Jz om) Y (.q (.loadRdA (sz := 11) (j := j * 11) (k := 11) (p := Ad 62 11 _ l.length (l.flatMap DQ)) (vs := DQ l[j]) Y ER O (fun h hp => AZ hp) (by simp) om om (A3 (f := DQ) (sz := 11) (fun _ _ => Y) om)) Y (.oq (.call func16 Y Y (vs := [_, _]) Y (K6 t (HR Dv (l.take j)) l[j].zx l[j].ses l[j].xid l[j].x l[j].subs (Ah entR l) ((hlt _ (getElem_mem hj2)).txA (hlk _ (getElem_mem hj2)) (getElem_mem hj2)) (1 + 9 * j) (Wi hlt Lj j) (by have := (hlt _ (getElem_mem hj2)).few dQ; omega))) ?_)))))))))
  rintro v L' ⟨ue, ee, rfl, he, hue, rfl⟩
  refine .nil (.blk_n (.then_n (.region (.m Y (.q (.add Y Y om) Y (.an Y (.rfCast (x := t) (τ' := HR Dv (l.take (j + 1))) O (by rw [take_succ_eq_append_getElem hj2, KN]; rfl) ?_)))))))
  exact .rk (j + 1) om om O
 have hje : j = l.length := by omega
 subst hje
 rw [take_length, (Ma hl).trans hQ.rep]
 have hok := hB.ok
 obtain ⟨P, hP⟩ : ∃ P, P = AS π.τ := ⟨_, rfl⟩
 have hPn : P.length = π.τ.nodes.length := by rw [hP]; exact length_map _
 have hPf : π.τ.nodes.length ≤ 64 := hQ.wi.ok.few
 refine .xe (.sr (.an Y (.seq (.seq (.add (AN 9 1) (.rtOpen (x := t) (τ := π.τ) O fun an cn as1 cs m hm => ?_))))))
 have hml := D7 hm
 refine .region (.an Y (.block (.loopK (ι := Nat × Value) (fun q E => (17, AA q.1) :: (16, q.2) :: E) (fun q => [Ad 9 1 q.2 q.1 (Ao (P.take q.1))]) (fun q => q.1 ≤ m.length ∧ ∃ a c, q.2 = .slice a q.1 c) (fun q => m.length - q.1) (0, .slice none 0 0) (ts := [3, 4, 6, 7, 9, 13]) O (⟨Nat.zero_le _, none, 0, Y⟩) O O ?_)))
 rintro ⟨j, pv⟩ ⟨hj, ap, cp, hpv⟩
 dsimp only
 dsimp only at hj hpv
 subst hpv
 refine .seq (.sm Y (.m Y (.nf Y BJ (.u (.ld Y Ci) (.q (.slen Y underlying63 Y) Y (.ui Y Y Y (.nt (.condD Y (fun h94 => ?_) (fun h94 => ?_)))))))))
 ·have hj2 : j < m.length := by omega
  refine .slShape (T := 68) (sz := 12) (v := .slice an m.length cn) (xs := m.flatMap E1) O om fun bn bn' e0 _ _ => ?_
  simp only [Value.slice.injEq, true_and] at e0
  obtain ⟨rfl, rfl⟩ := e0
  refine .sk (.seq (.block (.region (.m Y (.m Y (.nf Y BJ (.u (.ld Y Ci) (.m Y (.q (.indexAddr Y Y B5 om) Y (.fa Y C3 (.q (.loadRd (sz := 12) (j := j * 12 + 0) (p := M7 _ m) Y Ag O (fun h hp => AZ hp) om ((Dh (l := m) (i := j) (k := 0) om dQ).trans Y)) Y (.oq (.buildSlice1 (vs := [_]) CO Hk Y Y Y Y Y dQ) ?_))))))))))))
  rintro v L' ⟨bp, rfl, rfl⟩
  refine .oq (.append1 Y Y Y CO Hk Y Y ?c243 ?c244 (Nat.le_refl _) ?c245 dQ) ?_
  case c243 => simp [Value.cells, AB]
  case c244 => rfl
  case c245 => omega
  rintro v L' ⟨⟨a23, c23, rfl⟩, rfl⟩
  refine .a Y (.nil (.blk_n (.then_n (.region (.m Y (.q (.add Y Y om) Y (.an Y (.slCast (T := 9) (sz := 1) (m' := j + 1) (xs' := Ao (P.take (j + 1))) O (by exact rfl) (by rw [hP, RH hm hj2]; simp [Ao, Value.cells]) ?_))))))))
  exact .rk ((j + 1, .slice a23 (j + 1) c23)) (⟨by dsimp only; omega, a23, c23, rfl⟩) (by dsimp only; omega) O
 have hje : j = P.length := by omega
 subst hje
 rw [take_length]
 refine .rtFold (x := t) (τ := π.τ) (l := m) hm O Y Y Y Y Y ?_
 have hsz : P.length ≤ 64 := by omega
 refine .xe (.seq (.sr (.an Y (.block (.loopK (ι := Nat × Pl) (fun q E => (18, AA q.1) :: E) (fun q => [Pr b k q.2]) (fun q => q.1 ≤ P.length ∧ Iy q.2 (102 + 2 * q.1) ∧ q.2.τ = π.τ ∧ q.2.ev 2 = []) (fun q => P.length - q.1) (0, π) (ts := [3, 4, 6, 7, 9, 13, 16]) O (⟨Nat.zero_le _, hB, Y, hO.ev⟩) O O ?_)))))
 rintro ⟨j, ρ⟩ ⟨hj, hB4, hτ4, hev4⟩
 dsimp only
 dsimp only at hj hB4 hτ4 hev4
 refine .seq (.sm Y (.m Y (.q (.slen Y underlying38 Y) Y (.ui Y Y Y (.nt (.condD Y (fun h111 => ?_) (fun h111 => ?_)))))))
 ·have hj2 : j < P.length := by omega
  have hs24 : CF ρ.τ 2 := by rw [hτ4]; exact hs2
  have hpj : P[j].length ≤ 60 := by subst hP; exact (EP hok hj2).2
  refine .slShape (T := 9) (sz := 1) (v := .slice ap P.length cp) (xs := Ao P) O om fun bq bq' e0 _ _ => ?_
  simp only [Value.slice.injEq, true_and] at e0
  obtain ⟨rfl, rfl⟩ := e0
  refine .sk (.seq (.block (.sm Y (.m Y (.m Y (.m Y (.q (.indexAddr Y Y CO om) Y (.q (.loadEl (p := Ad 9 1 _ P.length (Ao P)) (i := j * 1) (v := AD P[j]) Y Ag O (fun h hp => AZ hp) (by simp [Ao, hj2])) Y (.q (.to (v' := .agg (D6 (Ov 9 P[j])).toArray) (.build (us := [(0, _), (2, _), (7, _)]) K4 Jp Y Y (by simp [AB])) Y) Y (.oq (.call func10 Y Y (vs := [_, _, _]) Y (CI b k ρ 2 (Ov 9 P[j]) [] [] q (Hr hT hZ ⟨by decide, by decide⟩ ⟨by decide, by decide⟩ om) (fun _ => ⟨by decide, by decide⟩) (102 + 2 * j) hB4 om)) ?_))))))))))
  rintro v L' ⟨ρ2, x2, kids2, e2, hC2, rfl, rfl⟩
  refine .nt ?_
  have hB5 := hB4.call om (fun _ => ⟨by decide, by decide⟩) (Hr hT hZ ⟨by decide, by decide⟩ ⟨by decide, by decide⟩ om) hC2
  have hse5 := J7 hC2 hs24 (by show Bm 9; decide)
  have hs25 : CF ρ2.τ 2 := by rw [hse5.1]; exact hs24
  refine .region (.m Y (.m Y (.m Y (.m Y (.q (.indexAddr Y Y CO om) Y (.q (.loadEl (p := Ad 9 1 _ P.length (Ao P)) (i := j * 1) (v := AD P[j]) Y Ag O (fun h hp => AZ hp) (by simp [Ao, hj2])) Y (.q (.to (v' := .agg (D6 (Ov 11 P[j])).toArray) (.build (us := [(0, _), (2, _), (7, _)]) K4 Jp Y Y (by simp [AB])) Y) Y (.oq (.call func10 Y Y (vs := [_, _, _]) Y (CI b k ρ2 2 (Ov 11 P[j]) [] [] q (Hr hT hZ ⟨by decide, by decide⟩ ⟨by decide, by decide⟩ om) (fun _ => ⟨by decide, by decide⟩) (102 + 2 * j + 1) hB5 om)) ?_))))))))
  rintro v L' ⟨ρ3, x3, kids3, e3, hC3, rfl, rfl⟩
  refine .nil ?_
  have hB6 := hB5.call om (fun _ => ⟨by decide, by decide⟩) (Hr hT hZ ⟨by decide, by decide⟩ ⟨by decide, by decide⟩ om) hC3
  have hse6 := J7 hC3 hs25 (by show Bm 11; decide)
  refine .blk_n (.then_n (.region (.m Y (.q (.add Y Y om) Y (.an Y ?_)))))
  exact .rk ((j + 1, ρ3)) (⟨by dsimp only; omega, hB6.more om, hse6.1.trans (hse5.1.trans hτ4), by dsimp only; rw [hse6.2, hse5.2]; exact hev4⟩) (by dsimp only; omega) O
 have hje : j = P.length := by omega
 subst hje
 have hs14 : CF ρ.τ 1 := by rw [hτ4]; exact hs1
 have hs24 : CF ρ.τ 2 := by rw [hτ4]; exact hs2
 refine .xe (.sm Y (.m Y (.q (.la (D6 r) Y Hf) Y (.oq (.call func10 Y Y (vs := [_, _, _]) Y (CI b k ρ 1 r subs arm q hR (fun _ => ⟨by decide, by decide⟩) (102 + 2 * P.length) hB4 om)) ?_))))
 rintro v L' ⟨σ, x, kids, e, hC, rfl, rfl⟩
 refine .m Y (.ex Y Y (.ex Y Y (.oq (.allocA CS) ?_)))
 rintro v L' ⟨b19, rfl, rfl⟩
 refine .sa Y Y Bg (by exact hC.cells) ?_
 refine .a Y (.nil (.pc b19 (BF x) ?_))
 have he := hC.ok hs14
 have hB7 := hB4.call om (fun _ => ⟨by decide, by decide⟩) hR hC
 refine .then_n (.seq (.sm Y (.q (.as (v' := .bool false) (by simp [he]) (.int Y Y Y)) Y (.m Y (.gr (.fa Y Do (.gr (.u (.ld Y Ey) (.gr (.ui Y Y Y (.pF Y Y (.nt (.condD Y (fun h143 => ?_) (fun h143 => ?_))))))))))))))
 ·refine .sm Y (.q (.as (v' := .bool true) (by simp [he]) (.int Y Y Y)) Y (.an Y (.rt ?_)))
  exact .vv
 have hxe : x.err ≠ 0 := by simpa using h143
 obtain ⟨hn7, hs7, hev7⟩ := OJ hC hs14 hxe
 rw [hτ4] at hn7 hs7
 have hs27 : CF σ.τ 2 := by unfold CF; rw [hs7]; exact hs2
 refine .sk (.seq (.sr (.an Y (.block (.loopK (ι := Nat) (fun q E => (21, AA q) :: E) (fun q => []) (fun q => q ≤ P.length) (fun q => P.length - q) (0) (ts := [6, 9, 13, 16]) O (Nat.zero_le _) O O ?_)))))
 rintro j hj
 refine .seq (.sm Y (.m Y (.q (.slen Y underlying38 Y) Y (.ui Y Y Y (.nt (.condD Y (fun h149 => ?_) (fun h149 => ?_)))))))
 ·have hj2 : j < P.length := by omega
  have hpj : P[j].length ≤ 60 := by subst hP; exact (EP hok hj2).2
  have hpt : AQ π.τ P[j] := by subst hP; exact (EP hok hj2).1
  have hpt7 := (HU hn7 P[j]).2.2 hpt
  have hst7 := (HU hn7 P[j]).1
  refine .slShape (T := 9) (sz := 1) (v := .slice ap P.length cp) (xs := Ao P) O om fun bq bq' e0 _ _ => ?_
  simp only [Value.slice.injEq, true_and] at e0
  obtain ⟨rfl, rfl⟩ := e0
  refine .sk (.seq (.block (.sm Y (.m Y (.m Y (.q (.indexAddr Y Y CO om) Y (.q (.loadEl (p := Ad 9 1 _ P.length (Ao P)) (i := j * 1) (v := AD P[j]) Y Ag O (fun h hp => AZ hp) (by simp [Ao, hj2])) Y (.oq (.call func17 Y Y (vs := [_, _]) Y (MO t π.τ P[j] _ hok dQ)) ?_))))))))
  rintro v L' ⟨rfl, rfl⟩; rw [decide_eq_true hpt]
  refine .m Y (.ex Y Y (.ex Y Y (.oq (.allocA DO) ?_)))
  rintro v L' ⟨b22, rfl, rfl⟩
  refine .sa Y Y DD (by intro v hv; simp only [B7, mem_cons, not_mem_nil, or_false] at hv; rcases hv with rfl | rfl | rfl | rfl | rfl | rfl | rfl | rfl | rfl <;> rfl) ?_
  refine .a Y (.nil (.pc b22 (B7 (AU π.τ P[j])) ?_))
  refine .then_n (.sm Y (.m Y (.m Y (.m Y (.q (.indexAddr Y Y CO om) Y (.q (.loadEl (p := Ad 9 1 _ P.length (Ao P)) (i := j * 1) (v := AD P[j]) Y Ag O (fun h hp => AZ hp) (by simp [Ao, hj2])) Y (.q (.to (v' := .agg (D6 (H8 10 P[j])).toArray) (.build (us := [(0, _), (2, _)]) K4 Jp Y Y (by simp [AB])) Y) Y (.oq (.call func10 Y Y (vs := [_, _, _]) Y (CI b k σ 2 (H8 10 P[j]) [] [] q (PY hT hZ ⟨by decide, by decide⟩ ⟨by decide, by decide⟩ om) (fun _ => ⟨by decide, by decide⟩) (102 + 2 * P.length + 1) hB7 om)) ?_))))))))
  rintro v L' ⟨σ2, y, kids7, e7, hC7, rfl, rfl⟩; obtain ⟨he7, rfl, -, -, hye, -, hyst, -⟩ := N6 hC7 hs27 rfl (by show Bm 10; decide)
  refine .m Y (.ex Y Y (.ex Y Y (.oq (.allocA CS) ?_)))
  rintro v L' ⟨b24, rfl, rfl⟩
  refine .sa Y Y Bg (by exact hC7.cells) ?_
  refine .a Y (.nil (.pc b24 (BF y) ?_))
  have hr0 : BM σ.τ (σ.ids 2) (H8 10 P[j]) = 0 := J9 hB7.ok hpt7
  rw [hr0] at hye
  rw [hr0, if_pos rfl] at hyst
  have hyst2 : y.st = AU π.τ P[j] := hyst.trans hst7
  refine .then_n (.sm Y (.q (.as (v' := .bool false) (by simp [he7]) (.int Y Y Y)) Y (.m Y (.gr (.fa Y Do (.gr (.u (.ld Y Ey) (.gr (.q (.as (v' := .bool false) (by simp [hye]) (.int Y Y Y)) Y (.pF Y Y (.m Y (.gr (.fa Y Hc (.gr (.q (.to (v' := .agg (B7 (AU π.τ P[j])).toArray) (.loadA Y Ef O (by simp)) (by rw [← hyst2]; rfl)) Y (.gr (.q (.la (B7 (AU π.τ P[j])) Y Ef) Y (.gr (.q (.as (v' := .bool false) (by simp) (.structNe (r := decide (AU π.τ P[j] = AU π.τ P[j])) Y Y kQ (AAf 9998 _ _))) Y ?_)))))))))))))))))))
  refine .pF Y Y (.nt (.condF Y (.skip (.blk_n (.then_n (.region (.m Y (.q (.add Y Y om) Y (.an Y ?_)))))))))
  exact .rk (j + 1) om om O
 refine .xe (.sm Y (.m Y (.oq (.c func13 [_, _] (ON b k σ 2)) ?_)))
 rintro v L' ⟨av, cv, rfl, rfl⟩; rw [hev7, hev4]
 refine .q (.slen Y underlying47 Y) Y (.q (.as (v' := .bool true) (by rfl) (.int Y Y Y)) Y (.an Y (.ret ?_)))
 exact .vv
open Go Go.ChangeShapes Go.WideShapes Go.ChangeAt Go.RowKit
section
variable {H : Type} {enc : TypeId × Value → H} {P : Program} {W W' : World}
theorem LI (hl : laidOutB P = true) (hb : Below W.heap.size W W') (sp : Nat → Bool) : ∀ (ts : List TypeId) (vs : List Value) (ds : List (DataW H)) (p : List MemPlace), (∀ t ∈ ts, P.readableRec t = true ∧ t < P.types.size) →
  DataW.TrodAll enc P W 0 (fun _ => true) true ts vs ds p → (∀ x ∈ p, x.block < W.heap.size) → (∀ x ∈ p, sp x.block = true) → DataW.TrodAll enc P W' 0 sp true ts vs ds p
 | [], vs, ds, p, _, h, _, _ => by
  obtain ⟨rfl, rfl, rfl⟩ := trodAll_nil h
  exact h
 | t :: ts, vs, ds, p, hr, h, hlt, hsp => by
  obtain ⟨v, vs1, d, ds1, a, b, rfl, rfl, rfl, h1, h2⟩ := trodAll_cons h
  have r := hr t (by simp)
  refine ⟨a, b, WideElems.Trod_stays hl r.1 r.2 h1 (fun x hx => hb.same (hlt x (by simp [hx]))) (fun x hx => hsp x (by simp [hx])), ?_, rfl⟩
  exact LI hl hb sp ts vs1 ds1 b (fun t ht => hr t (by simp [ht])) h2 (fun x hx => hlt x (by simp [hx])) (fun x hx => hsp x (by simp [hx]))
theorem Zj {fn : Func} {s : ChangeSpec} {apart fresh handsOn again : Bool} {args : Array Value} {ds gs : List (DataW H)} {before : List MemPlace} {tb : TypeId}
  (hW : DataW.Whole enc P fn.params.toList s.vars apart W args.toList ds gs before) (hvars : s.vars = []) (hspec : ∀ gs', gs' = [] → s.fn H (ds ++ gs') = { results := [.lit (.bool true)], args := ds })
  (hres : fn.resultTypes = #[tb]) (htb : P.underlying tb = some .bool) (hl : laidOutB P = true) (hr : ∀ t ∈ fn.params.toList, P.readableRec t = true ∧ t < P.types.size) (hb : Below W.heap.size W W') :
  s.post enc P fn apart fresh handsOn again W args (.bool true) W' := by
 have hW' := hW
 have hlt := hW.lt
 obtain ⟨p, q, hA, hV, rfl, hfz, hnd⟩ := hW
 rw [hvars] at hV
 obtain ⟨rfl, rfl⟩ := trodVars_none hV
 have hs := hspec [] rfl
 have hargs : ∀ sp : Nat → Bool, (∀ x ∈ p, sp x.block = true) → DataW.TrodAll enc P W' 0 sp true fn.params.toList args.toList ds p := fun sp hsp =>
  LI hl hb sp _ _ _ _ hr hA (fun x hx => hlt x (by simp [hx])) hsp
 have hbool : ∀ (b : Nat) (sp : Nat → Bool) (hd : Bool), DataW.TrodAll enc P W' b sp hd fn.resultTypes.toList ((Value.bool true).resultList fn.resultTypes.size) [.lit (.bool true)] [] := by
  intro b sp hd
  rw [hres]
  exact trodAll_cons_mk (shut_bool htb _) trodAll_mk0
 refine ⟨ds, [], p ++ [], [], p, [], hW', ?_, ?_, ?_, hb.frame _, fun _ => ⟨ok_one hres rfl (okWide_bool_mk htb _), [.lit (.bool true)] ++ ds, [], p, ⟨p, [], ?_, ?_, by simp, ?_, ?_⟩, ?_⟩⟩
 ·rw [hs]; exact hbool _ _ _
 ·rw [hs]; exact hargs _ (fun x hx => by simpa using hlt x (by simp [hx]))
 ·rw [hs, hvars]; exact hV
 ·exact trodAll_append (hargs _ (fun _ _ => rfl)) (hbool _ _ _)
 ·rw [hvars]; exact hV
 ·intro b off hp
  rw [hb.frozen (p := ⟨b, off, none⟩) (hlt (.cell b off) (by simp [hp]))]
  exact hfz b off (by simp [hp])
 ·intro ha
  have := hnd ha
  simpa using this
 ·intro x hx _
  simp [hx]
theorem Uu {f : FuncId} {args : Array Value} (h : Fn P f args [Pc W] fun v L => v = .bool true ∧ L = [Pc W]) :
  Calls P f args W fun e W' => e = .returned (.bool true) ∧ Below W.heap.size W W' := by
 have h0 : St [Pc W] W := ⟨fun b => W.heap[b]?, fun _ => none, fun _ => .inr rfl, fun b o h => h, fun b o h => (by cases h), fun b hb => rfl, trivial⟩
 refine (h [] W h0).mono ?_
 rintro e W' ⟨v, L, ⟨rfl, rfl⟩, rfl, hs, hk⟩
 refine ⟨rfl, hk.os, hk.tape, hk.output, hk.size, fun k hk' => ?_⟩
 obtain ⟨h1, a1, hp⟩ := Ap hs
 have e1 := hp k hk'
 have : ∃ o, W.heap[k]? = some o := ⟨_, Array.getElem?_eq_getElem hk'⟩
 obtain ⟨o, ho⟩ := this
 rw [ho] at e1 ⊢
 exact a1 _ _ e1
theorem Xk {a : Addr} {len cap : Nat} {V : Nat → Value} (hc : ∀ i, i < len → W.cell? (a.add i) = some (V i)) (hle : len ≤ cap) : ∀ h : Hp, Pc W h → Cx 1 h (.slice (some a) len cap) len ((List.range len).map V) := by
 intro h hold
 rcases Nat.eq_zero_or_pos len with rfl | hpos
 ·exact .inl ⟨rfl, rfl, some a, cap, rfl⟩
 ·obtain ⟨b, off, spot⟩ := a
  have h0 := hc 0 hpos
  have e0 : (⟨b, off, spot⟩ : Addr).add 0 = ⟨b, off, spot⟩ := by simp [Addr.add]
  rw [e0] at h0
  simp only [World.cell?] at h0
  rcases hw : W.heap[b]? with _ | o
  ·rw [hw] at h0; cases h0
  ·cases o with
   | cells c T fr =>
    rw [hw] at h0
    dsimp only at h0
    split at h0
    ·cases h0
    ·rename_i hsp
     have hspot : spot = none := by simpa using hsp
     subst hspot
     have hc' : ∀ i, i < len → c[off + i]? = some (V i) := by
      intro i hi
      have := hc i hi
      have e1 : (⟨b, off, none⟩ : Addr).add i = ⟨b, off + i, none⟩ := by
       simp only [Addr.add]; split
       ·rename_i h0; simp [h0]
       ·rfl
      rw [e1] at this
      simp only [World.cell?, hw] at this
      simpa using this
     have hlt : b < W.heap.size := by
      rcases Nat.lt_or_ge b W.heap.size with h' | h'
      ·exact h'
      ·rw [Array.getElem?_eq_none h'] at hw; cases hw
     have hlen : off + len ≤ c.size := by
      have := hc' (len - 1) om
      rcases Nat.lt_or_ge (off + (len - 1)) c.size with h' | h'
      ·omega
      ·rw [Array.getElem?_eq_none h'] at this; cases this
     refine .inr ⟨b, off, cap, c.toList, T, fr, rfl, by rw [hold b hlt, hw], ?_, by simpa using hlen, hle⟩
     apply ext_getElem?
     intro i
     rw [Nat.mul_one, List.getElem?_take, List.getElem?_map, List.getElem?_drop]
     split
     ·rename_i hi
      rw [List.getElem?_range hi]
      simpa using hc' i hi
     ·rename_i hi
      rw [List.getElem?_eq_none (by simpa using hi)]; rfl
   | _ => rw [hw] at h0; cases h0
end
open Go Go.ChangeShapes Go.WideShapes Go.ChangeAt Go.RowKit
section
variable {H : Type} {enc : TypeId × Value → H} {P : Program} {W : World}
theorem P6 (s : ByteArray) : Value.string s = AD s.data.toList := by cases s; rfl
end
open Go Go.ChangeShapes Go.WideShapes Go.ChangeAt Go.RowKit
section
variable {H : Type} {enc : TypeId × Value → H} {P : Program} {W : World}
theorem UZ {α : Type} {sz : Nat} (f : Nat → List α) : ∀ n, (∀ i, i < n → (f i).length = sz) → ∀ j, j < n * sz → ((List.range n).flatMap f)[j]? = (f (j / sz))[j % sz]? ∧ ((List.range n).flatMap f).length = n * sz := by
 intro n
 induction n with
 | zero => intro _ j hj; omega
 | succ n ih =>
  intro hf j hj
  have hn := hf n om
  have hlen : ((List.range n).flatMap f).length = n * sz := by
   rcases Nat.eq_zero_or_pos (n * sz) with h0 | h0
   ·rcases Nat.eq_zero_or_pos n with h1 | h1
    ·subst h1; simp
    ·have : sz = 0 := by
      rcases Nat.eq_zero_or_pos sz with h2 | h2
      ·exact h2
      ·have := Nat.mul_pos h1 h2; omega
     subst this; omega
   ·exact (ih (fun i hi => hf i om) 0 h0).2
  have e : (List.range (n + 1)).flatMap f = (List.range n).flatMap f ++ f n := by simp [range_succ]
  have hm : (n + 1) * sz = n * sz + sz := by rw [Nat.add_mul, Nat.one_mul]
  rw [e]
  refine ⟨?_, by rw [length_append, hlen, hn, hm]⟩
  rcases Nat.lt_or_ge j (n * sz) with h | h
  ·rw [List.getElem?_append_left om]
   exact (ih (fun i hi => hf i om) j h).1
  ·rw [List.getElem?_append_right om, hlen]
   have hs : 0 < sz := by omega
   have h1 : j / sz = n := by
    have : j < (n + 1) * sz := hj
    have a := Nat.div_lt_of_lt_mul (show j < sz * (n + 1) by rw [Nat.mul_comm]; exact this)
    have b := (Nat.le_div_iff_mul_le hs).2 h
    omega
   have h2 : j % sz = j - n * sz := by
    have := Nat.div_add_mod j sz
    rw [h1, Nat.mul_comm] at this; omega
   rw [h1, h2]
theorem LL {sz n c c1 : Nat} {a : Option Addr} {ys : List Value} {h : Hp} (hr : Cx 1 h (.slice a (n * sz) c1) (n * sz) ys) (hc : n ≤ c) (hs : 0 < sz) : Cx sz h (.slice a n c) n ys := by
 rcases hr with ⟨h1, h2, -⟩ | ⟨b, off, cap, l, T, fr, hv, hb, h1, h2, h3⟩
 ·have : n = 0 := by
   rcases Nat.eq_zero_or_pos n with h0 | h0
   ·exact h0
   ·have := Nat.mul_pos h0 hs; omega
  subst this
  exact .inl ⟨rfl, h2, a, c, rfl⟩
 ·simp only [Value.slice.injEq] at hv
  obtain ⟨rfl, -, -⟩ := hv
  exact .inr ⟨b, off, c, l, T, fr, rfl, hb, by rw [← h1, Nat.mul_one], by rw [Nat.mul_one] at h2; exact h2, hc⟩
abbrev BY (enc : TypeId × Value → H) (P : Program) (W : World) (fuel : Nat) (t : TypeId) (cs : List Value) (x : DataW H × List MemPlace) : Prop := DataW.trod enc P W 0 (fun _ => true) true fuel t cs = some x
theorem ZA {t : TypeId} {fuel : Nat} {cs : List Value} {x : DataW H × List MemPlace} (ht : P.underlying t = some (.int .i64)) (h : BY enc P W fuel t cs x) : ∃ n : Int, cs = [AA n] ∧ -9223372036854775808 ≤ n ∧ n ≤ 9223372036854775807 := by
 obtain ⟨n, rfl, -, hwf⟩ := DataW.trod_int ht h
 exact ⟨n, rfl, bounds_i64 hwf⟩
theorem M1 {t : TypeId} {fuel : Nat} {cs : List Value} {x : DataW H × List MemPlace} (ht : P.underlying t = some .bool) (h : BY enc P W fuel t cs x) : ∃ b : Bool, cs = [.bool b] := by
 obtain ⟨b, rfl, -⟩ := DataW.trod_bool ht h
 exact ⟨b, rfl⟩
end
open Go Go.ChangeShapes Go.WideShapes Go.ChangeAt Go.RowKit
theorem A2 {H : Type} (d : DataW H) : 1 ≤ Rows.uptoBulk d := by
 cases d with
 | lit l => cases l <;> simp [Rows.uptoBulk]
 | _ => simp [Rows.uptoBulk]
theorem KR {H : Type} {d : DataW H} : ∀ {l : List (DataW H)}, d ∈ l → Rows.uptoBulk d ≤ Rows.uptoBulkAll l
 | x :: l, h => by
  unfold Rows.uptoBulkAll
  rcases mem_cons.1 h with rfl | h
  ·omega
  ·have := KR h; omega
theorem JK {H : Type} : ∀ l : List (DataW H), l.length ≤ Rows.uptoBulkAll l
 | [] => by simp
 | x :: l => by
  have h1 := A2 x
  have h2 := JK l
  unfold Rows.uptoBulkAll
  rw [length_cons]; omega
theorem Rk {H : Type} : ∀ l : List (DataW H), (l.map Rows.uptoBulk).sum ≤ Rows.uptoBulkAll l
 | [] => by simp
 | x :: l => by
  have h2 := Rk l
  unfold Rows.uptoBulkAll
  rw [map_cons, sum_cons]; omega
theorem Mr {H : Type} {l : List (DataW H)} (h : Rows.uptoSmall H l = true) {d : DataW H} (hd : d ∈ l) : Rows.uptoBulk d ≤ 1048576 :=
 Nat.le_trans (KR hd) (of_decide_eq_true h)
instance : Inhabited Value := ⟨.bool false⟩
section
variable {H : Type} {enc : TypeId × Value → H} {P : Program} {W : World} {N : Nat}
theorem Ye {t : TypeId} {fuel : Nat} {cs : List Value} {x : DataW H × List MemPlace} (ht : P.underlying t = some (.int .i64)) (h : BY enc P W fuel t cs x) : ∃ n : Int, cs = [AA n] ∧ (-9223372036854775808 ≤ n ∧ n ≤ 9223372036854775807) := by
 obtain ⟨n, h1, h2⟩ := ZA ht h; exact ⟨n, h1, h2⟩
theorem ABF {Z : Type} [Inhabited Z] (toC : Z → List Value) (Q : Z → Prop) {t e : TypeId} {sz : Nat} {fuel : Nat} {cs : List Value} {x : DataW H × List MemPlace} (ht : P.underlying t = some (.slice e)) (hc : P.cellsOf e = sz) (hs : 0 < sz)
  (hdec : ∀ (n : Nat) (cs : List Value) (y : DataW H × List MemPlace), BY enc P W n e cs y → Rows.uptoBulk y.1 ≤ N → ∃ z, cs = toC z ∧ Q z) (h : BY enc P W fuel t cs x) (hb : Rows.uptoBulk x.1 ≤ N + 1) :
  ∃ z : Value × List Z, cs = [z.1] ∧ (∀ h : Hp, Pc W h → Cx sz h z.1 z.2.length (z.2.flatMap toC)) ∧ z.2.length ≤ N ∧ ∀ y ∈ z.2, Q y := by
 subst hc
 rcases Go.Deep.open_slice ht h with ⟨rfl, rfl⟩ | ⟨a, len, cap, m, n, Dd, Pl, rfl, -, hl, hm, hmm, rfl, hx⟩
 ·exact ⟨(_, []), rfl, fun h _ => .inl ⟨rfl, rfl, none, 0, rfl⟩, by simp, by simp⟩
 ·simp only [if_true] at hmm
  subst hmm
  have hbl : len ≤ N := by
   have := JK ((List.range len).map Dd)
   simp only [Rows.uptoBulk] at hb
   rw [length_map, length_range] at this
   omega
  have hbe : ∀ i, i < len → Rows.uptoBulk (Dd i) ≤ N := fun i hi => by
   have := KR (d := Dd i) (l := (List.range len).map Dd) (mem_map_of_mem (by simpa using hi))
   simp only [Rows.uptoBulk] at hb
   omega
  obtain ⟨Zf, hZ⟩ := Go.Deep.choose_lt (α := Z) (p := fun i z => W.cells? 0 (a.add (i * P.cellsOf e)) (P.cellsOf e) = some (toC z) ∧ Q z) (n := len) (fun i hi => by
   obtain ⟨cs', h1, h2⟩ := hx i om
   obtain ⟨z, rfl, h3⟩ := hdec _ _ _ h2 (hbe i hi)
   exact ⟨z, h1, h3⟩)
  have hlenf : ∀ i, i < len → (toC (Zf i)).length = P.cellsOf e := fun i hi => (World.cells?_some (hZ i hi).1).2.1
  have hflat := UZ (fun i => toC (Zf i)) len hlenf
  refine ⟨(_, (List.range len).map Zf), rfl, ?_, ?_, ?_⟩
  ·intro h hold
   dsimp only
   rw [length_map, length_range]
   refine LL (c1 := len * P.cellsOf e) ?_ hl hs
   have e1 : ((List.range len).map Zf).flatMap toC = (List.range (len * P.cellsOf e)).map (fun j => ((List.range len).flatMap fun i => toC (Zf i)).getD j (.bool false)) := by
    rw [flatMap_map]
    apply ext_getElem?
    intro j
    rcases Nat.lt_or_ge j (len * P.cellsOf e) with hj | hj
    ·rw [List.getElem?_map, List.getElem?_range hj]
     have := (hflat j hj).2
     have hjl : j < ((List.range len).flatMap fun i => toC (Zf i)).length := by omega
     simp only [Option.map_some, getD_eq_getElem?_getD, List.getElem?_eq_getElem hjl, Option.getD_some]
    ·have : ((List.range len).flatMap fun i => toC (Zf i)).length = len * P.cellsOf e := by
      rcases Nat.eq_zero_or_pos (len * P.cellsOf e) with h0 | h0
      ·have : len = 0 := by
        rcases Nat.eq_zero_or_pos len with h1 | h1
        ·exact h1
        ·have := Nat.mul_pos h1 hs; omega
       subst this; simp
      ·exact (hflat 0 h0).2
     rw [List.getElem?_eq_none om, List.getElem?_eq_none (by simpa using hj)]
   rw [e1]
   refine Xk (W := W) (fun j hj => ?_) (Nat.le_refl _) h hold
   have hi : j / P.cellsOf e < len := Nat.div_lt_of_lt_mul (by rw [Nat.mul_comm]; exact hj)
   have hcell := (World.cells?_some (hZ (j / P.cellsOf e) hi).1).2.2 (j % P.cellsOf e) (Nat.mod_lt _ hs)
   rw [Addr.add_add, Nat.mul_comm, Nat.div_add_mod] at hcell
   rw [hcell]
   obtain ⟨f1, f2⟩ := hflat j hj
   rw [getD_eq_getElem?_getD, f1]
   have : j % P.cellsOf e < (toC (Zf (j / P.cellsOf e))).length := by rw [hlenf _ hi]; exact Nat.mod_lt _ hs
   simp [this]
  ·dsimp only; rw [length_map, length_range]; exact hbl
  ·intro z hz
   obtain ⟨i, hi, rfl⟩ := mem_map.1 hz
   exact (hZ i (by simpa using hi)).2
theorem K1 {Z : Type} [Inhabited Z] (toC : Z → List Value) (Q : Nat → Z → Prop) {t e : TypeId} {sz : Nat} {fuel : Nat} {cs : List Value} {x : DataW H × List MemPlace} (ht : P.underlying t = some (.slice e)) (hc : P.cellsOf e = sz) (hs : 0 < sz)
  (hdec : ∀ (n : Nat) (cs : List Value) (y : DataW H × List MemPlace), BY enc P W n e cs y → ∃ z, cs = toC z ∧ Q (Rows.uptoBulk y.1) z) (h : BY enc P W fuel t cs x) (hb : Rows.uptoBulk x.1 ≤ N + 1) :
  ∃ (z : Value × List Z) (ws : List Nat), cs = [z.1] ∧ (∀ h : Hp, Pc W h → Cx sz h z.1 z.2.length (z.2.flatMap toC)) ∧ z.2.length ≤ N ∧ ws.length = z.2.length ∧ ws.sum ≤ N ∧ (∀ w ∈ ws, 1 ≤ w) ∧ ∀ i (h1 : i < z.2.length) (h2 : i < ws.length), Q ws[i] z.2[i] := by
 subst hc
 rcases Go.Deep.open_slice ht h with ⟨rfl, rfl⟩ | ⟨a, len, cap, m, n, Dd, Pl, rfl, -, hl, hm, hmm, rfl, hx⟩
 ·exact ⟨(_, []), [], rfl, fun h _ => .inl ⟨rfl, rfl, none, 0, rfl⟩, by simp, rfl, by simp, (fun _ h => by cases h), (fun i h1 _ => by simp at h1)⟩
 ·simp only [if_true] at hmm
  subst hmm
  have hbl : len ≤ N := by
   have := JK ((List.range len).map Dd)
   simp only [Rows.uptoBulk] at hb
   rw [length_map, length_range] at this
   omega
  have hall : ((List.range len).map fun i => Rows.uptoBulk (Dd i)).sum ≤ N := by
   have := Rk ((List.range len).map Dd)
   rw [map_map] at this
   simp only [Rows.uptoBulk] at hb
   have e : ((List.range len).map fun i => Rows.uptoBulk (Dd i)) = (List.range len).map (Rows.uptoBulk ∘ Dd) := rfl
   rw [e]; omega
  obtain ⟨Zf, hZ⟩ := Go.Deep.choose_lt (α := Z) (p := fun i z => W.cells? 0 (a.add (i * P.cellsOf e)) (P.cellsOf e) = some (toC z) ∧ Q (Rows.uptoBulk (Dd i)) z) (n := len) (fun i hi => by
   obtain ⟨cs', h1, h2⟩ := hx i om
   obtain ⟨z, rfl, h3⟩ := hdec _ _ _ h2
   exact ⟨z, h1, h3⟩)
  have hlenf : ∀ i, i < len → (toC (Zf i)).length = P.cellsOf e := fun i hi => (World.cells?_some (hZ i hi).1).2.1
  have hflat := UZ (fun i => toC (Zf i)) len hlenf
  refine ⟨(_, (List.range len).map Zf), (List.range len).map fun i => Rows.uptoBulk (Dd i), rfl, ?_, ?_, by simp, hall, ?_, ?_⟩
  ·intro h hold
   dsimp only
   rw [length_map, length_range]
   refine LL (c1 := len * P.cellsOf e) ?_ hl hs
   have e1 : ((List.range len).map Zf).flatMap toC = (List.range (len * P.cellsOf e)).map (fun j => ((List.range len).flatMap fun i => toC (Zf i)).getD j (.bool false)) := by
    rw [flatMap_map]
    apply ext_getElem?
    intro j
    rcases Nat.lt_or_ge j (len * P.cellsOf e) with hj | hj
    ·rw [List.getElem?_map, List.getElem?_range hj]
     have := (hflat j hj).2
     have hjl : j < ((List.range len).flatMap fun i => toC (Zf i)).length := by omega
     simp only [Option.map_some, getD_eq_getElem?_getD, List.getElem?_eq_getElem hjl, Option.getD_some]
    ·have : ((List.range len).flatMap fun i => toC (Zf i)).length = len * P.cellsOf e := by
      rcases Nat.eq_zero_or_pos (len * P.cellsOf e) with h0 | h0
      ·have : len = 0 := by
        rcases Nat.eq_zero_or_pos len with h1 | h1
        ·exact h1
        ·have := Nat.mul_pos h1 hs; omega
       subst this; simp
      ·exact (hflat 0 h0).2
     rw [List.getElem?_eq_none om, List.getElem?_eq_none (by simpa using hj)]
   rw [e1]
   refine Xk (W := W) (fun j hj => ?_) (Nat.le_refl _) h hold
   have hi : j / P.cellsOf e < len := Nat.div_lt_of_lt_mul (by rw [Nat.mul_comm]; exact hj)
   have hcell := (World.cells?_some (hZ (j / P.cellsOf e) hi).1).2.2 (j % P.cellsOf e) (Nat.mod_lt _ hs)
   rw [Addr.add_add, Nat.mul_comm, Nat.div_add_mod] at hcell
   rw [hcell]
   obtain ⟨f1, f2⟩ := hflat j hj
   rw [getD_eq_getElem?_getD, f1]
   have : j % P.cellsOf e < (toC (Zf (j / P.cellsOf e))).length := by rw [hlenf _ hi]; exact Nat.mod_lt _ hs
   simp [this]
  ·dsimp only; rw [length_map, length_range]; exact hbl
  ·intro w hw
   obtain ⟨i, -, rfl⟩ := mem_map.1 hw
   exact A2 _
  ·intro i h1 h2
   simp only [getElem_map, getElem_range]
   exact (hZ i (by simpa using h1)).2
/-! ### With weights: what is read weighs no more than its bulk -/
theorem Gw {t : TypeId} {fuel : Nat} {cs : List Value} {x : DataW H × List MemPlace} (ht : P.underlying t = some .string) (h : BY enc P W fuel t cs x) : ∃ s : List UInt8, cs = [AD s] ∧ s.length + 1 ≤ Rows.uptoBulk x.1 := by
 obtain ⟨s, rfl, rfl, -⟩ := DataW.trod_string ht h
 exact ⟨s.data.toList, by rw [P6], by simp [Rows.uptoBulk]⟩
theorem CU {t : TypeId} {fuel : Nat} {cs : List Value} {x : DataW H × List MemPlace} (ht : P.underlying t = some (.int .i64)) (h : BY enc P W fuel t cs x) : ∃ n : Int, cs = [AA n] ∧ (-9223372036854775808 ≤ n ∧ n ≤ 9223372036854775807) ∧ 1 ≤ Rows.uptoBulk x.1 := by
 obtain ⟨n, h1, h2⟩ := Ye ht h; exact ⟨n, h1, h2, A2 _⟩
theorem LA {t e : TypeId} {fuel : Nat} {v : Value} {x : DataW H × List MemPlace} (ht : P.underlying t = some (.slice e)) (h : BY enc P W fuel t [v] x) : ∃ a n c, v = .slice a n c := by
 rcases Go.Deep.open_slice ht h with ⟨hv, -⟩ | ⟨a, len, cap, m, n, Dd, Pl, hv, -⟩
 ·rw [List.cons.injEq] at hv; rw [hv.1]; exact ⟨_, _, _, rfl⟩
 ·rw [List.cons.injEq] at hv; rw [hv.1]; exact ⟨_, _, _, rfl⟩
theorem WT {Z : Type} {m : Z → Nat} : ∀ {l : List Z} {ws : List Nat}, ws.length = l.length → (∀ i (h1 : i < l.length) (h2 : i < ws.length), m l[i] ≤ ws[i]) → (l.map m).sum ≤ ws.sum
 | [], _, _, _ => by simp
 | z :: l, [], h, _ => by simp at h
 | z :: l, w :: ws, h, hq => by
  have h0 := hq 0 (by simp) (by simp)
  have h1 := WT (l := l) (ws := ws) (m := m) (by simpa using h) (fun i h1 h2 => hq (i + 1) (by simpa using h1) (by simpa using h2))
  rw [map_cons, sum_cons, sum_cons]
  have h0' : m z ≤ w := h0
  omega
theorem HG {Z : Type} [Inhabited Z] (toC : Z → List Value) (Q : Z → Prop) (m : Z → Nat) {t e : TypeId} {sz : Nat} {fuel : Nat} {cs : List Value} {x : DataW H × List MemPlace} (ht : P.underlying t = some (.slice e)) (hc : P.cellsOf e = sz) (hs : 0 < sz)
  (hdec : ∀ (n : Nat) (cs : List Value) (y : DataW H × List MemPlace), BY enc P W n e cs y → ∃ z, cs = toC z ∧ Q z ∧ m z ≤ Rows.uptoBulk y.1) (h : BY enc P W fuel t cs x) :
  ∃ z : Value × List Z, cs = [z.1] ∧ (∀ h : Hp, Pc W h → Cx sz h z.1 z.2.length (z.2.flatMap toC)) ∧ (∀ y ∈ z.2, Q y) ∧ z.2.length + 1 ≤ Rows.uptoBulk x.1 ∧ 1 + (z.2.map m).sum ≤ Rows.uptoBulk x.1 := by
 have hp := A2 x.1
 obtain ⟨z, ws, h1, h2, h3, h4, h5, -, h7⟩ := K1 (N := Rows.uptoBulk x.1 - 1) toC (fun B z => Q z ∧ m z ≤ B) ht hc hs hdec h om
 refine ⟨z, h1, h2, fun y hy => ?_, by omega, ?_⟩
 ·obtain ⟨i, hi, rfl⟩ := mem_iff_getElem.1 hy
  exact (h7 i hi om).1
 ·have := WT (m := m) h4 (fun i g1 g2 => (h7 i g1 g2).2)
  omega
theorem Er {sz n : Nat} {v : Value} {ys : List Value} (hr : ∀ h : Hp, Pc W h → Cx sz h v n ys) : ∃ a c, v = .slice a n c := by
 have h := hr (fun b => if b < W.heap.size then W.heap[b]? else none) (fun b hb => if_pos hb)
 rcases h with ⟨rfl, -, a, c, rfl⟩ | ⟨b, off, cap, l, T, fr, rfl, -⟩
 ·exact ⟨_, _, rfl⟩
 ·exact ⟨_, _, rfl⟩
end
open Go Go.ChangeShapes Go.WideShapes Go.ChangeAt Go.RowKit
def Rz (a : Ac) : Nat := 3 + a.2.length
theorem IP {α : Type} {m : α → Nat} : ∀ {l : List α} {x : α}, x ∈ l → m x ≤ (l.map m).sum
 | y :: l, x, h => by
  rw [map_cons, sum_cons]
  rcases mem_cons.1 h with rfl | h
  ·omega
  ·have := IP (m := m) h; omega
theorem Ka {α : Type} {m : α → Nat} (hm : ∀ x, 3 ≤ m x) : ∀ l : List α, 3 * l.length ≤ (l.map m).sum
 | [] => by simp
 | y :: l => by have := Ka hm l; have := hm y; rw [map_cons, sum_cons, length_cons]; omega
theorem Q5 {α : Type} {f : α → Bs} {m : α → Nat} : ∀ {l : List α}, (∀ x ∈ l, (f x).length ≤ 20 * m x) → (l.flatMap f).length ≤ 20 * (l.map m).sum
 | [], _ => by simp
 | y :: l, h => by
  have h1 := h y (mem_cons_self ..)
  have h2 := Q5 (l := l) (m := m) (f := f) (fun x hx => h x (mem_cons_of_mem _ hx))
  rw [flatMap_cons, length_append, map_cons, sum_cons]; omega
theorem Z5 {l : List Ac} (h : ∀ a ∈ l, A4 a.1) (hm : (l.map Rz).sum ≤ 1048576) : Gc l := by
 have hl := Ka (m := Rz) (fun a => by unfold Rz; omega) l
 have hu : FS = 18446744073709551616 := rfl
 have hi : ∀ a ∈ l, a.2.length ≤ 1048576 := fun a ha => by
  have h1 := IP (m := Rz) ha
  have h2 : Rz a = 3 + a.2.length := rfl
  omega
 refine ⟨by omega, ?_, fun a ha => ⟨⟨h a ha, by have := hi a ha; omega⟩, hi a ha⟩⟩
 have h3 := Q5 (f := L8) (m := Rz) (l := l) (fun a ha => by
  have h1 := Kk (h a ha)
  have h2 := EU (u := a.2.length) (by have := hi a ha; omega)
  unfold L8 FM Cu Rz
  rw [length_append, length_append]; omega)
 have h4 := EU (u := l.length) om
 unfold Fi Cu
 rw [length_append]; omega
instance : Inhabited Pt := ⟨ptS 0 [] [] 0⟩
instance : Inhabited En := ⟨⟨0, 0, 0, ptS 0 [] [] 0, []⟩⟩
instance : Inhabited Rq := ⟨⟨0, 0, [], [], AG, [], 0, 0, false, AG, AG⟩⟩
def YZ (r : Rq) : Nat := 10 + r.path.length + r.data.length + (r.acl.map Rz).sum
structure RqG (p : HP) (r : Rq) : Prop where
 kind : A4 r.kind
 xid : A4 r.xid
 flags : A4 r.flags
 ver : A4 r.ver
 acl : ∀ h : Hp, p h → Cx 2 h r.aclV r.acl.length (r.acl.flatMap CP)
 ash : ∃ a n c, r.aclV = .slice a n c
 each : ∀ a ∈ r.acl, A4 a.1
 sub : ∃ a n c, r.subsV = .slice a n c
 arm : ∃ a n c, r.armV = .slice a n c
structure RqD (p : HP) (r : Rq) (l : List Rq) : Prop where
 own : RqG p r ∧ YZ r ≤ 1048576
 rd : ∀ h : Hp, p h → Cx 10 h r.subsV l.length (l.flatMap D6)
 each : ∀ x ∈ l, RqG p x ∧ YZ x ≤ 1048576
theorem RqG.w {p : HP} {r : Rq} (h : RqG p r) (hm : YZ r ≤ 1048576) {s : Int} {iv : Value} {ids : List Bs} (hs : A4 s) (hi : Ids p iv ids) (hT : Gr p) : Dr p ⟨s, ids⟩ iv r := by
 unfold YZ at hm
 have h3 := Ka (m := Rz) (fun a => by unfold Rz; omega) r.acl
 refine ⟨⟨h.kind, h.xid, h.flags, h.ver, by omega, by omega, h.acl, by omega, fun a ha => ⟨h.each a ha, ?_⟩, h.sub, h.arm⟩, hs, hi.1, hi.2.1, hi.2.2, h.ash, hT⟩
 have h1 := IP (m := Rz) ha
 have h2 : Rz a = 3 + a.2.length := rfl
 omega
theorem RqD.wi {p : HP} {r : Rq} {l : List Rq} (h : RqD p r l) {s : Int} {iv : Value} {ids : List Bs} (hs : A4 s) (hi : Ids p iv ids) (hT : Gr p) : WiD p ⟨s, ids⟩ iv r l := by
 have ha : ∀ x : Rq, RqG p x → YZ x ≤ 1048576 → Gc x.acl := fun x hx hm => Z5 hx.each (by unfold YZ at hm; omega)
 exact ⟨h.own.1.w h.own.2 hs hi hT, ha _ h.own.1 h.own.2, h.rd, fun x hx => (h.each x hx).1.w (h.each x hx).2 hs hi hT, fun x hx => ha _ (h.each x hx).1 (h.each x hx).2⟩
theorem ABj {W : World} (h : Lib.TabIs prog W "internal/strconv.uint64pow10" .u64 Lib.pow10Tab) {g : Nat} (hg : prog.globalNamed "internal/strconv.uint64pow10" = some g) : Gr (Pc W) := by
 intro hp w hold hle
 unfold Lib.TabIs World.var? at h ⊢
 rw [hg] at h ⊢
 simp only [Option.bind_some] at h ⊢
 cases e : W.heap[g]? with
 | none => rw [e] at h; cases h
 | some o =>
  have hlt : g < W.heap.size := (Array.getElem?_eq_some_iff.1 e).1
  have h2 : w.heap[g]? = some o := hle g o (by rw [hold g hlt, e])
  rw [h2]
  rw [e] at h
  exact h
theorem AAm {H : Type} {enc : TypeId × Value → H} {W : World} (n : Nat) (cs : List Value) (y : DataW H × List MemPlace) (h : BY enc prog W n 75 cs y) : ∃ a : Ac, cs = CP a ∧ A4 a.1 ∧ Rz a ≤ Rows.uptoBulk y.1 := by
 obtain ⟨xs, m, -, rfl, hlen, hxs, hf⟩ := DataW.trod_struct underlying75 h
 rw [show prog.cellsOf 75 = 2 by kernel_rfl] at hlen
 obtain ⟨a0, a1, rfl⟩ : ∃ a0 a1, cs = [a0, a1] := by
  match cs, hlen with
  | [a0, a1], _ => exact ⟨a0, a1, rfl⟩
 obtain ⟨y0, y1, rfl⟩ : ∃ y0 y1, xs = [y0, y1] := by
  match xs, hxs with
  | [y0, y1], _ => exact ⟨y0, y1, rfl⟩
 try simp only [Rows.uptoBulk, Rows.uptoBulkAll, map_cons, map_nil]
 have g0 : BY enc prog W m 3 (([a0, a1] : List Value).drop 0 |>.take (prog.cellsOf 3)) y0 := hf 0 _ rfl
 rw [show prog.cellsOf 3 = 1 by kernel_rfl] at g0
 have p0 := A2 y0.1
 obtain ⟨z0, e0, q0, r0⟩ := CU underlying3 g0
 try simp at e0
 have g1 : BY enc prog W m 9 (([a0, a1] : List Value).drop 1 |>.take (prog.cellsOf 9)) y1 := hf 1 _ rfl
 rw [show prog.cellsOf 9 = 1 by kernel_rfl] at g1
 have p1 := A2 y1.1
 obtain ⟨z1, e1, r1⟩ := Gw underlying9 g1
 try simp at e1
 subst e0
 subst e1
 exact ⟨(z0, z1), rfl, q0, by unfold Rz; dsimp only; omega⟩
theorem ACA {H : Type} {enc : TypeId × Value → H} {W : World} (n : Nat) (cs : List Value) (y : DataW H × List MemPlace) (h : BY enc prog W n 33 cs y) : ∃ r0 : Rq, cs = D6 r0 ∧ RqG (Pc W) r0 ∧ YZ r0 ≤ Rows.uptoBulk y.1 := by
 obtain ⟨xs, m, -, rfl, hlen, hxs, hf⟩ := DataW.trod_struct underlying33 h
 rw [show prog.cellsOf 33 = 10 by kernel_rfl] at hlen
 obtain ⟨a0, a1, a2, a3, a4, a5, a6, a7, a8, a9, rfl⟩ : ∃ a0 a1 a2 a3 a4 a5 a6 a7 a8 a9, cs = [a0, a1, a2, a3, a4, a5, a6, a7, a8, a9] := by
  match cs, hlen with
  | [a0, a1, a2, a3, a4, a5, a6, a7, a8, a9], _ => exact ⟨a0, a1, a2, a3, a4, a5, a6, a7, a8, a9, rfl⟩
 obtain ⟨y0, y1, y2, y3, y4, y5, y6, y7, y8, y9, rfl⟩ : ∃ y0 y1 y2 y3 y4 y5 y6 y7 y8 y9, xs = [y0, y1, y2, y3, y4, y5, y6, y7, y8, y9] := by
  match xs, hxs with
  | [y0, y1, y2, y3, y4, y5, y6, y7, y8, y9], _ => exact ⟨y0, y1, y2, y3, y4, y5, y6, y7, y8, y9, rfl⟩
 try simp only [Rows.uptoBulk, Rows.uptoBulkAll, map_cons, map_nil]
 have g0 : BY enc prog W m 3 (([a0, a1, a2, a3, a4, a5, a6, a7, a8, a9] : List Value).drop 0 |>.take (prog.cellsOf 3)) y0 := hf 0 _ rfl
 rw [show prog.cellsOf 3 = 1 by kernel_rfl] at g0
 have p0 := A2 y0.1
 obtain ⟨z0, e0, q0, r0⟩ := CU underlying3 g0
 try simp at e0
 have g1 : BY enc prog W m 3 (([a0, a1, a2, a3, a4, a5, a6, a7, a8, a9] : List Value).drop 1 |>.take (prog.cellsOf 3)) y1 := hf 1 _ rfl
 rw [show prog.cellsOf 3 = 1 by kernel_rfl] at g1
 have p1 := A2 y1.1
 obtain ⟨z1, e1, q1, r1⟩ := CU underlying3 g1
 try simp at e1
 have g2 : BY enc prog W m 9 (([a0, a1, a2, a3, a4, a5, a6, a7, a8, a9] : List Value).drop 2 |>.take (prog.cellsOf 9)) y2 := hf 2 _ rfl
 rw [show prog.cellsOf 9 = 1 by kernel_rfl] at g2
 have p2 := A2 y2.1
 obtain ⟨z2, e2, r2⟩ := Gw underlying9 g2
 try simp at e2
 have g3 : BY enc prog W m 9 (([a0, a1, a2, a3, a4, a5, a6, a7, a8, a9] : List Value).drop 3 |>.take (prog.cellsOf 9)) y3 := hf 3 _ rfl
 rw [show prog.cellsOf 9 = 1 by kernel_rfl] at g3
 have p3 := A2 y3.1
 obtain ⟨z3, e3, r3⟩ := Gw underlying9 g3
 try simp at e3
 have g4 : BY enc prog W m 30 (([a0, a1, a2, a3, a4, a5, a6, a7, a8, a9] : List Value).drop 4 |>.take (prog.cellsOf 30)) y4 := hf 4 _ rfl
 rw [show prog.cellsOf 30 = 1 by kernel_rfl] at g4
 have p4 := A2 y4.1
 obtain ⟨⟨v4, l4⟩, e4, k4, q4, c4, r4⟩ := HG CP (fun a => A4 a.1) Rz underlying30 (show prog.cellsOf 75 = 2 by kernel_rfl) dQ (fun n cs y h => AAm n cs y h) g4
 dsimp only at e4 k4 q4 c4 r4
 have ck4 : AB v4 = true := by obtain ⟨sa, sc, hs⟩ := Er k4; rw [hs]; rfl
 have sh4 : ∃ a n c, v4 = .slice a n c := by obtain ⟨sa, sc, hs⟩ := Er k4; exact ⟨_, _, _, hs⟩
 try simp at e4
 have g5 : BY enc prog W m 3 (([a0, a1, a2, a3, a4, a5, a6, a7, a8, a9] : List Value).drop 5 |>.take (prog.cellsOf 3)) y5 := hf 5 _ rfl
 rw [show prog.cellsOf 3 = 1 by kernel_rfl] at g5
 have p5 := A2 y5.1
 obtain ⟨z5, e5, q5, r5⟩ := CU underlying3 g5
 try simp at e5
 have g6 : BY enc prog W m 3 (([a0, a1, a2, a3, a4, a5, a6, a7, a8, a9] : List Value).drop 6 |>.take (prog.cellsOf 3)) y6 := hf 6 _ rfl
 rw [show prog.cellsOf 3 = 1 by kernel_rfl] at g6
 have p6 := A2 y6.1
 obtain ⟨z6, e6, q6, r6⟩ := CU underlying3 g6
 try simp at e6
 have g7 : BY enc prog W m 4 (([a0, a1, a2, a3, a4, a5, a6, a7, a8, a9] : List Value).drop 7 |>.take (prog.cellsOf 4)) y7 := hf 7 _ rfl
 rw [show prog.cellsOf 4 = 1 by kernel_rfl] at g7
 have p7 := A2 y7.1
 obtain ⟨z7, e7⟩ := M1 underlying4 g7
 try simp at e7
 have g8 : BY enc prog W m 23 (([a0, a1, a2, a3, a4, a5, a6, a7, a8, a9] : List Value).drop 8 |>.take (prog.cellsOf 23)) y8 := hf 8 _ rfl
 rw [show prog.cellsOf 23 = 1 by kernel_rfl] at g8
 have p8 := A2 y8.1
 obtain ⟨z8, e8, s8⟩ : ∃ z : Value, a8 = z ∧ ∃ a n c, z = .slice a n c := ⟨_, rfl, LA underlying23 g8⟩
 have ck8 : AB z8 = true := by obtain ⟨sa, sn, sc, hs⟩ := s8; rw [hs]; rfl
 try simp at e8
 have g9 : BY enc prog W m 31 (([a0, a1, a2, a3, a4, a5, a6, a7, a8, a9] : List Value).drop 9 |>.take (prog.cellsOf 31)) y9 := hf 9 _ rfl
 rw [show prog.cellsOf 31 = 1 by kernel_rfl] at g9
 have p9 := A2 y9.1
 obtain ⟨z9, e9, s9⟩ : ∃ z : Value, a9 = z ∧ ∃ a n c, z = .slice a n c := ⟨_, rfl, LA underlying31 g9⟩
 have ck9 : AB z9 = true := by obtain ⟨sa, sn, sc, hs⟩ := s9; rw [hs]; rfl
 try simp at e9
 subst e0
 subst e1
 subst e2
 subst e3
 subst e4
 subst e5
 subst e6
 subst e7
 subst e8
 subst e9
 exact ⟨⟨z0, z1, z2, z3, a4, l4, z5, z6, z7, a8, a9⟩, rfl, ⟨q0, q1, q5, q6, k4, sh4, q4, s8, s9⟩, by unfold YZ; dsimp only; omega⟩
open Go Go.ChangeShapes Go.WideShapes Go.ChangeAt Go.RowKit
instance : Inhabited NZ := ⟨⟨0, 0, 0, ⟨0, 0, [], [], AG, [], 0, 0, false, AG, AG⟩, [], [], false⟩⟩
theorem Yn {l : List Nat} {i : Nat} (h : i < l.length) : l[i] ≤ l.sum := by
 have := IP (m := id) (l := l) (getElem_mem h)
 simpa using this
def Xn (a : G8) : Nat := 5 + a.2.1.length
structure RqV (p : HP) (r : Rq) (l : List Rq) (m : List G8) : Prop where
 d : RqD p r l
 a : UU p r.armV m
theorem RqV.A {p : HP} {r : Rq} {l : List Rq} {m : List G8} (h : RqV p r l m) (hT : Gr p) (hZ : PK p) {s : Int} (hs : A4 s) : Gi p s r l m :=
 ⟨h.d.wi hs ⟨fun _ _ => .inl ⟨rfl, rfl, none, 0, rfl⟩, Nat.zero_le _, none, 0, 0, rfl⟩ hT, hZ, h.a⟩
structure SpQ (p : HP) (x : NZ) : Prop where
 nums : A4 x.what ∧ A4 x.ses ∧ A4 x.tmo
 r : RqV p x.r x.subs x.arm
structure StQ (p : HP) (v : Value) (l : List NZ) : Prop where
 cells : ∀ h : Hp, p h → Cx 14 h v l.length (l.flatMap Y8)
 len : l.length ≤ 1048576
 each : ∀ x ∈ l, SpQ p x
theorem StQ.A {p : HP} {v : Value} {l : List NZ} (h : StQ p v l) (hT : Gr p) (hZ : PK p) : StA p v l := ⟨h.cells, h.len, fun x hx => (h.each x hx).nums, fun x hx _ hs => (h.each x hx).r.A hT hZ hs⟩
theorem ACL {W : World} (h : Lib.TabIs prog W "math/bits.deBruijn64tab" .u8 (Lib.deBruijn64tab.map fun n : Nat => (n : Int))) {g : Nat} (hg : prog.globalNamed "math/bits.deBruijn64tab" = some g) : PK (Pc W) := by
 intro hp w hold hle
 unfold Lib.TabIs World.var? at h ⊢
 rw [hg] at h ⊢
 simp only [Option.bind_some] at h ⊢
 cases e : W.heap[g]? with
 | none => rw [e] at h; cases h
 | some o =>
  have hlt : g < W.heap.size := (Array.getElem?_eq_some_iff.1 e).1
  have h2 : w.heap[g]? = some o := hle g o (by rw [hold g hlt, e])
  rw [h2]
  rw [e] at h
  exact h
theorem ABJ {H : Type} {enc : TypeId × Value → H} {W : World} (n : Nat) (cs : List Value) (y : DataW H × List MemPlace) (h : BY enc prog W n 186 cs y) : ∃ a : G8, cs = Mo a ∧ True ∧ Xn a ≤ Rows.uptoBulk y.1 := by
 obtain ⟨xs, m, -, rfl, hlen, hxs, hf⟩ := DataW.trod_struct underlying186 h
 rw [show prog.cellsOf 186 = 5 by kernel_rfl] at hlen
 obtain ⟨a0, a1, a2, a3, a4, rfl⟩ : ∃ a0 a1 a2 a3 a4, cs = [a0, a1, a2, a3, a4] := by
  match cs, hlen with
  | [a0, a1, a2, a3, a4], _ => exact ⟨a0, a1, a2, a3, a4, rfl⟩
 obtain ⟨y0, y1, y2, y3, y4, rfl⟩ : ∃ y0 y1 y2 y3 y4, xs = [y0, y1, y2, y3, y4] := by
  match xs, hxs with
  | [y0, y1, y2, y3, y4], _ => exact ⟨y0, y1, y2, y3, y4, rfl⟩
 try simp only [Rows.uptoBulk, Rows.uptoBulkAll, map_cons, map_nil]
 have g0 : BY enc prog W m 3 (([a0, a1, a2, a3, a4] : List Value).drop 0 |>.take (prog.cellsOf 3)) y0 := hf 0 _ rfl
 rw [show prog.cellsOf 3 = 1 by kernel_rfl] at g0
 have p0 := A2 y0.1
 obtain ⟨z0, e0, q0, r0⟩ := CU underlying3 g0
 try simp at e0
 have g1 : BY enc prog W m 9 (([a0, a1, a2, a3, a4] : List Value).drop 1 |>.take (prog.cellsOf 9)) y1 := hf 1 _ rfl
 rw [show prog.cellsOf 9 = 1 by kernel_rfl] at g1
 have p1 := A2 y1.1
 obtain ⟨z1, e1, r1⟩ := Gw underlying9 g1
 try simp at e1
 have g2 : BY enc prog W m 3 (([a0, a1, a2, a3, a4] : List Value).drop 2 |>.take (prog.cellsOf 3)) y2 := hf 2 _ rfl
 rw [show prog.cellsOf 3 = 1 by kernel_rfl] at g2
 have p2 := A2 y2.1
 obtain ⟨z2, e2, q2, r2⟩ := CU underlying3 g2
 try simp at e2
 have g3 : BY enc prog W m 3 (([a0, a1, a2, a3, a4] : List Value).drop 3 |>.take (prog.cellsOf 3)) y3 := hf 3 _ rfl
 rw [show prog.cellsOf 3 = 1 by kernel_rfl] at g3
 have p3 := A2 y3.1
 obtain ⟨z3, e3, q3, r3⟩ := CU underlying3 g3
 try simp at e3
 have g4 : BY enc prog W m 3 (([a0, a1, a2, a3, a4] : List Value).drop 4 |>.take (prog.cellsOf 3)) y4 := hf 4 _ rfl
 rw [show prog.cellsOf 3 = 1 by kernel_rfl] at g4
 have p4 := A2 y4.1
 obtain ⟨z4, e4, q4, r4⟩ := CU underlying3 g4
 try simp at e4
 subst e0
 subst e1
 subst e2
 subst e3
 subst e4
 exact ⟨(z0, (z1, (z2, (z3, z4)))), rfl, trivial, by unfold Xn; dsimp only; omega⟩
theorem WO {H : Type} {enc : TypeId × Value → H} {W : World} (n : Nat) (cs : List Value) (y : DataW H × List MemPlace) (h : BY enc prog W n 33 cs y) : ∃ (r0 : Rq) (l : List Rq) (m : List G8), cs = D6 r0 ∧ (Rows.uptoBulk y.1 ≤ 1048576 → RqV (Pc W) r0 l m) := by
 obtain ⟨xs, m, -, rfl, hlen, hxs, hf⟩ := DataW.trod_struct underlying33 h
 rw [show prog.cellsOf 33 = 10 by kernel_rfl] at hlen
 obtain ⟨a0, a1, a2, a3, a4, a5, a6, a7, a8, a9, rfl⟩ : ∃ a0 a1 a2 a3 a4 a5 a6 a7 a8 a9, cs = [a0, a1, a2, a3, a4, a5, a6, a7, a8, a9] := by
  match cs, hlen with
  | [a0, a1, a2, a3, a4, a5, a6, a7, a8, a9], _ => exact ⟨a0, a1, a2, a3, a4, a5, a6, a7, a8, a9, rfl⟩
 obtain ⟨y0, y1, y2, y3, y4, y5, y6, y7, y8, y9, rfl⟩ : ∃ y0 y1 y2 y3 y4 y5 y6 y7 y8 y9, xs = [y0, y1, y2, y3, y4, y5, y6, y7, y8, y9] := by
  match xs, hxs with
  | [y0, y1, y2, y3, y4, y5, y6, y7, y8, y9], _ => exact ⟨y0, y1, y2, y3, y4, y5, y6, y7, y8, y9, rfl⟩
 try simp only [Rows.uptoBulk, Rows.uptoBulkAll, map_cons, map_nil]
 have g0 : BY enc prog W m 3 (([a0, a1, a2, a3, a4, a5, a6, a7, a8, a9] : List Value).drop 0 |>.take (prog.cellsOf 3)) y0 := hf 0 _ rfl
 rw [show prog.cellsOf 3 = 1 by kernel_rfl] at g0
 have p0 := A2 y0.1
 obtain ⟨z0, e0, q0, r0⟩ := CU underlying3 g0
 try simp at e0
 have g1 : BY enc prog W m 3 (([a0, a1, a2, a3, a4, a5, a6, a7, a8, a9] : List Value).drop 1 |>.take (prog.cellsOf 3)) y1 := hf 1 _ rfl
 rw [show prog.cellsOf 3 = 1 by kernel_rfl] at g1
 have p1 := A2 y1.1
 obtain ⟨z1, e1, q1, r1⟩ := CU underlying3 g1
 try simp at e1
 have g2 : BY enc prog W m 9 (([a0, a1, a2, a3, a4, a5, a6, a7, a8, a9] : List Value).drop 2 |>.take (prog.cellsOf 9)) y2 := hf 2 _ rfl
 rw [show prog.cellsOf 9 = 1 by kernel_rfl] at g2
 have p2 := A2 y2.1
 obtain ⟨z2, e2, r2⟩ := Gw underlying9 g2
 try simp at e2
 have g3 : BY enc prog W m 9 (([a0, a1, a2, a3, a4, a5, a6, a7, a8, a9] : List Value).drop 3 |>.take (prog.cellsOf 9)) y3 := hf 3 _ rfl
 rw [show prog.cellsOf 9 = 1 by kernel_rfl] at g3
 have p3 := A2 y3.1
 obtain ⟨z3, e3, r3⟩ := Gw underlying9 g3
 try simp at e3
 have g4 : BY enc prog W m 30 (([a0, a1, a2, a3, a4, a5, a6, a7, a8, a9] : List Value).drop 4 |>.take (prog.cellsOf 30)) y4 := hf 4 _ rfl
 rw [show prog.cellsOf 30 = 1 by kernel_rfl] at g4
 have p4 := A2 y4.1
 obtain ⟨⟨v4, l4⟩, e4, k4, q4, c4, r4⟩ := HG CP (fun a => A4 a.1) Rz underlying30 (show prog.cellsOf 75 = 2 by kernel_rfl) dQ (fun n cs y h => AAm n cs y h) g4
 dsimp only at e4 k4 q4 c4 r4
 have ck4 : AB v4 = true := by obtain ⟨sa, sc, hs⟩ := Er k4; rw [hs]; rfl
 have sh4 : ∃ a n c, v4 = .slice a n c := by obtain ⟨sa, sc, hs⟩ := Er k4; exact ⟨_, _, _, hs⟩
 try simp at e4
 have g5 : BY enc prog W m 3 (([a0, a1, a2, a3, a4, a5, a6, a7, a8, a9] : List Value).drop 5 |>.take (prog.cellsOf 3)) y5 := hf 5 _ rfl
 rw [show prog.cellsOf 3 = 1 by kernel_rfl] at g5
 have p5 := A2 y5.1
 obtain ⟨z5, e5, q5, r5⟩ := CU underlying3 g5
 try simp at e5
 have g6 : BY enc prog W m 3 (([a0, a1, a2, a3, a4, a5, a6, a7, a8, a9] : List Value).drop 6 |>.take (prog.cellsOf 3)) y6 := hf 6 _ rfl
 rw [show prog.cellsOf 3 = 1 by kernel_rfl] at g6
 have p6 := A2 y6.1
 obtain ⟨z6, e6, q6, r6⟩ := CU underlying3 g6
 try simp at e6
 have g7 : BY enc prog W m 4 (([a0, a1, a2, a3, a4, a5, a6, a7, a8, a9] : List Value).drop 7 |>.take (prog.cellsOf 4)) y7 := hf 7 _ rfl
 rw [show prog.cellsOf 4 = 1 by kernel_rfl] at g7
 have p7 := A2 y7.1
 obtain ⟨z7, e7⟩ := M1 underlying4 g7
 try simp at e7
 have g8 : BY enc prog W m 23 (([a0, a1, a2, a3, a4, a5, a6, a7, a8, a9] : List Value).drop 8 |>.take (prog.cellsOf 23)) y8 := hf 8 _ rfl
 rw [show prog.cellsOf 23 = 1 by kernel_rfl] at g8
 have p8 := A2 y8.1
 obtain ⟨⟨v8, l8⟩, e8, k8, q8, c8, r8⟩ := HG D6 (fun r => RqG (Pc W) r) YZ underlying23 (show prog.cellsOf 33 = 10 by kernel_rfl) dQ (fun n cs y h => ACA n cs y h) g8
 dsimp only at e8 k8 q8 c8 r8
 have ck8 : AB v8 = true := by obtain ⟨sa, sc, hs⟩ := Er k8; rw [hs]; rfl
 have sh8 : ∃ a n c, v8 = .slice a n c := by obtain ⟨sa, sc, hs⟩ := Er k8; exact ⟨_, _, _, hs⟩
 try simp at e8
 have g9 : BY enc prog W m 31 (([a0, a1, a2, a3, a4, a5, a6, a7, a8, a9] : List Value).drop 9 |>.take (prog.cellsOf 31)) y9 := hf 9 _ rfl
 rw [show prog.cellsOf 31 = 1 by kernel_rfl] at g9
 have p9 := A2 y9.1
 obtain ⟨⟨v9, l9⟩, e9, k9, q9, c9, r9⟩ := HG Mo (fun _ => True) Xn underlying31 (show prog.cellsOf 186 = 5 by kernel_rfl) dQ (fun n cs y h => ABJ n cs y h) g9
 dsimp only at e9 k9 q9 c9 r9
 have ck9 : AB v9 = true := by obtain ⟨sa, sc, hs⟩ := Er k9; rw [hs]; rfl
 have sh9 : ∃ a n c, v9 = .slice a n c := by obtain ⟨sa, sc, hs⟩ := Er k9; exact ⟨_, _, _, hs⟩
 try simp at e9
 subst e0
 subst e1
 subst e2
 subst e3
 subst e4
 subst e5
 subst e6
 subst e7
 subst e8
 subst e9
 refine ⟨⟨z0, z1, z2, z3, a4, l4, z5, z6, z7, a8, a9⟩, l8, l9, rfl, fun hb => ⟨⟨⟨⟨q0, q1, q5, q6, k4, sh4, q4, sh8, sh9⟩, by unfold YZ; dsimp only; omega⟩, k8, fun x hx => ⟨q8 x hx, ?_⟩⟩, k9, by omega, fun a ha => ?_⟩⟩
 ·have h6 := IP (m := YZ) hx
  omega
 ·have h6 := IP (m := Xn) ha
  have h8 : Xn a = 5 + a.2.1.length := rfl
  omega
theorem ABu {H : Type} {enc : TypeId × Value → H} {W : World} (n : Nat) (cs : List Value) (y : DataW H × List MemPlace) (h : BY enc prog W n 35 cs y) : ∃ x : NZ, cs = Y8 x ∧ (Rows.uptoBulk y.1 ≤ 1048576 → SpQ (Pc W) x) := by
 obtain ⟨xs, m, -, rfl, hlen, hxs, hf⟩ := DataW.trod_struct underlying35 h
 rw [show prog.cellsOf 35 = 14 by kernel_rfl] at hlen
 obtain ⟨a0, a1, a2, a3, a4, a5, a6, a7, a8, a9, a10, a11, a12, a13, rfl⟩ : ∃ a0 a1 a2 a3 a4 a5 a6 a7 a8 a9 a10 a11 a12 a13, cs = [a0, a1, a2, a3, a4, a5, a6, a7, a8, a9, a10, a11, a12, a13] := by
  match cs, hlen with
  | [a0, a1, a2, a3, a4, a5, a6, a7, a8, a9, a10, a11, a12, a13], _ => exact ⟨a0, a1, a2, a3, a4, a5, a6, a7, a8, a9, a10, a11, a12, a13, rfl⟩
 obtain ⟨y0, y1, y2, y3, y4, rfl⟩ : ∃ y0 y1 y2 y3 y4, xs = [y0, y1, y2, y3, y4] := by
  match xs, hxs with
  | [y0, y1, y2, y3, y4], _ => exact ⟨y0, y1, y2, y3, y4, rfl⟩
 try simp only [Rows.uptoBulk, Rows.uptoBulkAll, map_cons, map_nil]
 have g0 : BY enc prog W m 3 (([a0, a1, a2, a3, a4, a5, a6, a7, a8, a9, a10, a11, a12, a13] : List Value).drop 0 |>.take (prog.cellsOf 3)) y0 := hf 0 _ rfl
 rw [show prog.cellsOf 3 = 1 by kernel_rfl] at g0
 have p0 := A2 y0.1
 obtain ⟨z0, e0, q0, r0⟩ := CU underlying3 g0
 try simp at e0
 have g1 : BY enc prog W m 3 (([a0, a1, a2, a3, a4, a5, a6, a7, a8, a9, a10, a11, a12, a13] : List Value).drop 1 |>.take (prog.cellsOf 3)) y1 := hf 1 _ rfl
 rw [show prog.cellsOf 3 = 1 by kernel_rfl] at g1
 have p1 := A2 y1.1
 obtain ⟨z1, e1, q1, r1⟩ := CU underlying3 g1
 try simp at e1
 have g2 : BY enc prog W m 3 (([a0, a1, a2, a3, a4, a5, a6, a7, a8, a9, a10, a11, a12, a13] : List Value).drop 2 |>.take (prog.cellsOf 3)) y2 := hf 2 _ rfl
 rw [show prog.cellsOf 3 = 1 by kernel_rfl] at g2
 have p2 := A2 y2.1
 obtain ⟨z2, e2, q2, r2⟩ := CU underlying3 g2
 try simp at e2
 have g3 : BY enc prog W m 33 (([a0, a1, a2, a3, a4, a5, a6, a7, a8, a9, a10, a11, a12, a13] : List Value).drop 3 |>.take (prog.cellsOf 33)) y3 := hf 3 _ rfl
 rw [show prog.cellsOf 33 = 10 by kernel_rfl] at g3
 have p3 := A2 y3.1
 obtain ⟨r3, l3, m3, e3, q3⟩ := WO _ _ _ g3
 try simp [A1, DQ, D6] at e3
 have g4 : BY enc prog W m 4 (([a0, a1, a2, a3, a4, a5, a6, a7, a8, a9, a10, a11, a12, a13] : List Value).drop 13 |>.take (prog.cellsOf 4)) y4 := hf 4 _ rfl
 rw [show prog.cellsOf 4 = 1 by kernel_rfl] at g4
 have p4 := A2 y4.1
 obtain ⟨z4, e4⟩ := M1 underlying4 g4
 try simp at e4
 subst e0
 subst e1
 subst e2
 obtain ⟨rfl, rfl, rfl, rfl, rfl, rfl, rfl, rfl, rfl, rfl⟩ := e3
 subst e4
 exact ⟨⟨z0, z1, z2, r3, l3, m3, z4⟩, rfl, fun hb => ⟨⟨q0, q1, q2⟩, q3 om⟩⟩
theorem Vv {H : Type} {enc : TypeId × Value → H} {W : World} {fuel : Nat} {cs : List Value} {x : DataW H × List MemPlace} (h : BY enc prog W fuel 22 cs x) (hb : Rows.uptoBulk x.1 ≤ 1048576) : ∃ (v : Value) (xs : List NZ), cs = [v] ∧ StQ (Pc W) v xs := by
 obtain ⟨⟨v, xs⟩, ws, h1, h2, h3, h4, h5, -, h7⟩ := K1 (N := 1048576) Y8 (fun B o => B ≤ 1048576 → SpQ (Pc W) o) underlying22 (show prog.cellsOf 35 = 14 by kernel_rfl) dQ (fun n cs y h => ABu n cs y h) h om
 dsimp only at h1 h2 h3 h4 h7
 refine ⟨v, xs, h1, h2, h3, fun o ho => ?_⟩
 obtain ⟨i, hi, rfl⟩ := mem_iff_getElem.1 ho
 have hw : i < ws.length := by omega
 exact h7 i hi hw (Nat.le_trans (Yn hw) h5)
end Go.Proofs.YtmbnebafdhpgpaaGreatDoor
