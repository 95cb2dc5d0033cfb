/- Own work, in part by program, for plainReplays.proved. -/
import Derived.Test.YtmbnebafdhpgpaaGreatDoorCVReplaysP3
import Derived.Test.YtmbnebafdhpgpaaGreatDoorCVReplaysP4
import Derived.Test.YtmbnebafdhpgpaaGreatDoorCVReplaysP1
import Derived.Test.YtmbnebafdhpgpaaGreatDoorCVReplaysP2
import Derived.Test.YtmbnebafdhpgpaaGreatDoorCVReplaysP0
import Derived.Test.YtmbnebafdhpgpaaGreatDoorRows
import Derived.WalkKit
import Derived.ProofKit
import Derived.OpenShut
import Derived.JoinedCond
import Derived.Carry
import Derived.Deep.Grids
import Derived.Handed
import Derived.Deep.Strs
set_option maxRecDepth 100000
namespace Go.Proofs.YtmbnebafdhpgpaaGreatDoor
open Go List Go.Proofs.Tryz 
theorem Dk (x : Nat) (τ : Tr) (p : Bs) (hn : τ.nodes.length ≤ 1099511627776) : Fn prog 38 #[AI x, AE p] [DV x τ] fun v L => v = AA (HT τ p) ∧ L = [DV x τ] := by
 refine Fn.intro func38 Y Y fun F W => ?_
 refine .rtOpen (x := x) (τ := τ) O fun an cn as1 cs l hl => ?_
 have hll := DD hl
 refine .sr (.an Y (.seq (.sr (.an Y (.block (.loopK (ι := Nat) (fun q E => (5, AA q) :: E) (fun q => []) (fun q => q ≤ l.length ∧ ∀ j (hj : j < q), ∀ (hj2 : j < l.length), l[j].1 ≠ p) (fun q => l.length - q) (0) (ts := [0, 1]) O (⟨Nat.zero_le _, fun j hj => by omega⟩) O O ?_))))))
 rintro i ⟨hi, hno⟩
 refine .seq (.sm Y (.m Y (.nf Y BF (.u (.ld Y CS) (.q (.slen Y underlying63 Y) Y (.ui Y Y Y (.nt (.condD Y (fun h12 => ?_) (fun h12 => ?_)))))))))
 ·have hi2 : i < l.length := by omega
  refine .slShape (T := 68) (sz := 12) (v := .slice an l.length cn) (xs := l.flatMap Es) O om fun bn bn' e0 mbn _ => ?_
  simp only [Value.slice.injEq, true_and] at e0
  obtain ⟨rfl, rfl⟩ := e0
  refine .sk (.seq (.block (.sm Y (.nf Y BF (.u (.ld Y CS) (.m Y (.q (.indexAddr Y Y B0 om) Y (.fa Y Cj (.q (.loadRd (sz := 12) (j := i * 12 + 0) (p := Lf _ l) Y Ak O (fun h hp => Aa hp) om ((DJ (l := l) (i := i) (k := 0) om dQ).trans Y)) Y (.m Y (.u (.streq Y Y) (.nt (.condD Y (fun h24 => ?_) (fun h24 => ?_))))))))))))))
  ·refine .sm Y (.an Y (.ret (.blk_r (.then_r (.then_r (.blk_r (.then_r ?_)))))))
   have hz : HT τ p = (i : Int) := by unfold HT; rw [← hl, Oa]; exact XY hi2 h24 (fun j hj => hno j hj om)
   refine .rtFold (x := x) (τ := τ) (l := l) hl O Y Y Y Y Y ?_
   exact .dn Y Y ⟨by rw [hz], rfl⟩
  refine .skip (.blk_n (.then_n (.region (.m Y (.q (.add Y Y om) Y (.an Y ?_))))))
  exact .rk (i + 1) (⟨by omega, fun j hj hj2 => by by_cases e : j = i; (subst e; exact h24); exact hno j om hj2⟩) om O
 refine .xe (.sr (.an Y (.ret ?_)))
 have hz : HT τ p = -1 := by unfold HT; rw [← hl, Oa]; exact Sc (fun j hj => hno j om hj)
 refine .rtFold (x := x) (τ := τ) (l := l) hl O Y Y Y Y Y ?_
 exact .dn Y Y ⟨by rw [hz], rfl⟩
theorem NQ (p : Bs) (hs : p.length ≤ 1099511627776) : Fn prog 124 #[AE p] [] fun v L => v = .bool (decide (Cn p)) ∧ L = [] := by
 refine Fn.intro func124 Y Y fun F W => ?_
 refine .sr (.an Y (.sm Y (.u (.strne Y Y) (.m Y (.ndec (t := 5) Y (fun h1_5 => ?_) (fun h1_5 => ?_))))))
 ·refine .kNT (t := 4) Y h1_5 (.gr (.m Y (.gr (.cv func195 [_] (QP p hs) ?_))))
  refine .gr (.ui Y Y Y (.pT Y Y (.an Y (.ret ?_))))
  exact .dn Y Y ⟨congrArg Value.bool (decide_eq_decide.2 ⟨fun e => ⟨h1_5, e⟩, fun e => e.2⟩), Y⟩
 refine .kNF (t := 4) Y h1_5 (.gk (.gk (.gk (.pF Y Y (.an Y (.ret ?_))))))
 exact .dn Y Y ⟨by rw [decide_eq_false (fun e => e.1 h1_5)], rfl⟩
theorem I3 (v : Value) (xs : List Ac) (p : HP) (hp : ∀ h : Hp, p h → Cx 2 h v xs.length (xs.flatMap CO)) (hn : xs.length ≤ 1048576) : Fn prog 66 #[v] [p] fun u L => (∃ a c, u = .slice a xs.length c) ∧ L = [p, Af 75 2 u xs.length (xs.flatMap CO)] := by
 refine Fn.intro func66 Y Y fun F W => ?_
 refine .rdAny (p := p) hp O fun a c e0 hl => ?_
 subst e0
 refine .add (AO 75 2) (.sr (.an Y (.sr (.an Y (.sm Y (.m Y (.oq (.append (n := 0) (m := xs.length) (ys := xs.flatMap CO) (p := p) Y Y Y Gw (.inl ⟨_, underlying30⟩) Fv Y Y ?hc4 hp ?hb5 dQ) ?_)))))))
 case hc4 => exact ON _
 case hb5 => omega
 rintro v L' ⟨⟨a3, c3, rfl⟩, rfl⟩; rw [Nat.zero_add, nil_append]
 refine .an Y (.ret ?_)
 exact .dn Y Y ⟨⟨_, _, Y⟩, Y⟩
theorem Rb (p : Bs) (ad : Option Addr) (n c : Nat) : Instr.fill (fun i => [(0, 1), (1, 1), (2, 1), (3, 9)].toArray[i]?) ([.string (bs []), .string (bs []), .slice none 0 0, .int .i64 0, .int .i64 0, .int .i64 0, .int .i64 0, .int .i64 0, .int .i64 0, .int .i64 0, .int .i64 0, .int .i64 0] : List Value).toArray [(0, AE p), (2, .slice ad n c)] = some (([AE p, .string (bs []), .slice ad n c, AA 0, AA 0, AA 0, AA 0, AA 0, AA 0, AA 0, AA 0, AA 0] : List Value).toArray) := by kernel_rfl
theorem MV (p d : Bs) (ad : Option Addr) (n c : Nat) (s0 s1 s2 s3 s4 s5 s6 s7 s8 : Value) : Instr.fill (fun i => [(0, 1), (1, 1), (2, 1), (3, 9)].toArray[i]?) ([.string (bs []), .string (bs []), .slice none 0 0, .int .i64 0, .int .i64 0, .int .i64 0, .int .i64 0, .int .i64 0, .int .i64 0, .int .i64 0, .int .i64 0, .int .i64 0] : List Value).toArray [(0, AE p), (1, AE d), (2, .slice ad n c), (3, .agg ([s0, s1, s2, s3, s4, s5, s6, s7, s8] : List Value).toArray)] = some (([AE p, AE d, .slice ad n c] ++ [s0, s1, s2, s3, s4, s5, s6, s7, s8] : List Value).toArray) := by kernel_rfl
theorem Mq : Fn prog 14 #[] [] fun v L => ∃ x, v = AI x ∧ L = [DV x Du] := by
 refine Fn.intro func14 Y Y fun F W => ?_
 refine .sr (.an Y (.sr (.q (.build (us := [(0, _), (1, _)]) UA Fv Y Y (by simp [AB])) Y (.oq (.buildSlice (vs := [_]) Gw Fv Y Y Y Y cQ dQ) ?_))))
 rintro v L' ⟨ba, rfl, rfl⟩
 refine .q (.buildN (pl := [(0, 1), (1, 1), (2, 1), (3, 9)]) (us := [(0, AE [47]), (2, .slice (some ⟨ba, 0, none⟩) 1 1)]) (cells := Es (([47], (.slice (some ⟨ba, 0, none⟩) 1 1, ⟨[], [(31, [119, 111, 114, 108, 100])], st0⟩)) : GE)) underlying68 kQ Fc Y (Rb _ _ _ _)) Y (.oq (.buildSlice (vs := [_]) B0 Fc Y Y Y Y cQ dQ) ?_)
 rintro v L' ⟨bn, rfl, rfl⟩
 refine .q (.build (us := [(0, _)]) ABs ACF Y Y (by simp [AB])) Y (.oq (.box Y) ?_)
 rintro v L' ⟨x, rfl, rfl⟩
 refine .an Y (.ret (.slMakeN 2 1 (b := ba) (xs := ([(31, [119, 111, 114, 108, 100])] : List Ac).flatMap CO) O Y Y (.toRd (m := 1) O (.slMakeN 12 1 (b := bn) (xs := [(([47], (.slice (some ⟨ba, 0, none⟩) 1 1, ⟨[], [(31, [119, 111, 114, 108, 100])], st0⟩)) : GE)].flatMap Es) O Y Y (.add (AO 102 3) (.fold (p := Ag IA [(([47], (.slice (some ⟨ba, 0, none⟩) 1 1, ⟨[], [(31, [119, 111, 114, 108, 100])], st0⟩)) : GE)]) (.cons (p := rdO 2 (.slice (some ⟨ba, 0, none⟩) 1 1) 1 (([(31, [119, 111, 114, 108, 100])] : List Ac).flatMap CO)) O .nil) (fun h hp => hp) (.rtFold (x := x) (τ := Du) (l := [(([47], (.slice (some ⟨ba, 0, none⟩) 1 1, ⟨[], [(31, [119, 111, 114, 108, 100])], st0⟩)) : GE)]) Y O Y Y Y Y Y ?_)))))))
 exact .dn Y Y ⟨_, Y, Y⟩
theorem DO {z : GE} (hz : AB z.2.1 = true) : ∀ y ∈ (Value.agg (Es z).toArray).cells.toList, AB y = true := by
 intro v hv
 simp only [Value.cells, Es, mem_cons, not_mem_nil, or_false] at hv
 rcases hv with rfl | rfl | rfl | rfl | rfl | rfl | rfl | rfl | rfl | rfl | rfl | rfl
 case inr.inr.inl => exact hz
 all_goals rfl
theorem XR {sz n : Nat} {v : Value} {ys : List Value} {h : Hp} (hr : rdO sz v n ys h) : AB v = true := by
 rcases hr with ⟨-, -, a, c, rfl⟩ | ⟨b, off, cap, l, T, fr, rfl, -⟩ <;> rfl
theorem Zo {α : Type} {f : α → HP} {l : List α} {i : Nat} (hi : i < l.length) {h : Hp} (hs : Ag f l h) : ∃ h1, f l[i] h1 := by
 induction l generalizing i h with
 | nil => simp at hi
 | cons x l ih =>
  obtain ⟨h1, h2, -, -, -, p1, p2⟩ := hs
  cases i with
  | zero => exact ⟨h1, p1⟩
  | succ i => exact ih (by simpa using hi) p2
theorem G.aclShape {W : World} {n : Nat} {ds : List Deferred} {E : Bx} {L R : List HP} {X : Act → World → Prop} {l : List GE} {i : Nat} (hi : i < l.length) (hL : BJ (Ag IA l) L R) (h : AB l[i].2.1 = true → G W n ds E L X) : G W n ds E L X := by
 intro a w he hk hs
 obtain ⟨h1, -, hp⟩ := Ao (hs.pick hL)
 obtain ⟨h2, hq⟩ := Zo hi hp
 exact h (XR hq) a w he hk hs
theorem VI (x : Nat) (τ : Tr) (z : GE) (hzc : AB z.2.1 = true) (N : Nat) (ho : τ.Ok N) (hN : N ≤ 1073741824) : Fn prog 125 #[AI x, .agg (Es z).toArray] [DV x τ, IA z] fun v L => v = .tuple #[] ∧ L = [DV x { τ with nodes := sset τ.nodes z.1 z.2.2 }] := by
 refine Fn.intro func125 Y Y fun F W => ?_
 refine .rtOpen (x := x) (τ := τ) O fun an cn as1 cs l hl => ?_
 have hsrt := Se (hl ▸ ho.sorted)
 have hll := DD hl
 have hofew := ho.few
 refine .sr (.oq (.box Y) ?_)
 rintro v L' ⟨bz, rfl, rfl⟩
 refine .nil (.ptCast (b := bz) (l' := Es z) O Y ?_)
 refine .then_n (.seq (.add (AO 68 12) (.region (.an Y (.sr (.an Y (.seq (.sr (.an Y (.block (.loopK (ι := Nat × Bool × Value × (List GE)) (fun q E => (6, AA q.1) :: (5, .bool q.2.1) :: (4, q.2.2.1) :: E) (fun q => [Lf q.2.2.1 q.2.2.2]) (fun q => q.1 ≤ l.length ∧ Gp l z.1 z.2 q.1 q.2.1 q.2.2.2 ∧ (∃ a c, q.2.2.1 = .slice a q.2.2.2.length c) ∧ q.2.2.2.length ≤ q.1 + q.2.1.toNat) (fun q => l.length - q.1) (0, false, .slice none 0 0, []) (ts := [0, 3]) O (⟨Nat.zero_le _, Gp.start _ _ _, ⟨none, 0, Y⟩, by simp⟩) O O ?_)))))))))))
 rintro ⟨i, b, u, acc⟩ ⟨hi, hLay, ⟨au, cu, hu⟩, hal⟩
 dsimp only
 dsimp only at hi hLay hu hal
 subst hu
 refine .seq (.sm Y (.m Y (.nf Y BF (.u (.ld Y CS) (.q (.slen Y underlying63 Y) Y (.ui Y Y Y (.nt (.condD Y (fun h13 => ?_) (fun h13 => ?_)))))))))
 ·have hi2 : i < l.length := by omega
  refine .slShape (T := 68) (sz := 12) (v := .slice an l.length cn) (xs := l.flatMap Es) O om fun bn bn' e0 mbn _ => ?_
  simp only [Value.slice.injEq, true_and] at e0
  obtain ⟨rfl, rfl⟩ := e0
  refine .sk (.seq (.block (.seq (.seq (.draw [] [[0, 1, 2, 3, 4, 5, 6, 7, 8, 9, 10, 11, 12, 13, 14]] mixed kQ (.g0 (.mv Y Y (.kv Y (.not Y) (.mv Y Y (.bool (t := 18) Y (fun h6_18 => ?_) (fun h6_18 => ?_)))))))))))
  ·have hbf : b = false := by simpa using h6_18
   subst hbf
   have hal : acc.length ≤ i + 0 := hal
   refine D.kB (t := 17) Y h6_18 (.gv Y (.move Y) (.gv Y (.nilp Y) (.gv Y (.fieldAddr Y BF) (.gv Y (.ld Y CS) (.gv Y (.move Y) (.gv Y (.indexAddr Y Y B0 om) (.gv Y (.fieldAddr Y Cj) (.gv Y (.loadRd (sz := 12) (j := i * 12 + 0) (p := Lf _ l) Y Ak O (fun h hp => Aa hp) om ((DJ (l := l) (i := i) (k := 0) om dQ).trans Y)) (.gv Y (.fieldAddr Y Cj) (.gv Y (.load Y Ak O Y) (.gv Y (.strge Y Y) (.kv Y (.pickT Y Y) (.pf (.condD Y (fun h30 => ?_) (fun h30 => ?_)))))))))))))))
   ·refine .sm Y (.q (.loadAs (vs := Es z) Y OS O (by simp [Es]) Y) Y (.oq (.buildSlice (vs := [_]) B0 Fc Y Y Y Y cQ dQ) ?_))
    rintro v L' ⟨b7_2, rfl, rfl⟩
    refine .oq (.append1 Y Y Y B0 Fc Y Y ?c30 ?c31 (Nat.le_refl _) ?c32 dQ) ?_
    case c30 => first | exact DO hzc | (simp only [map_cons, map_nil, flatten_cons, flatten_nil, append_nil]; exact DO hzc)
    case c31 => rfl
    case c32 => first | omega | (simp; omega)
    rintro v L' ⟨⟨a7_3, c7_3, rfl⟩, rfl⟩
    refine .a Y (.nil ?_)
    rw [show acc.length + 1 = (acc ++ [z]).length by rw [length_append]; rfl]
    refine .slCast (T := 68) (sz := 12) (m' := (acc ++ [z]).length) (xs' := (acc ++ [z]).flatMap Es) O Y (by simp; rfl) (.then_n (.region (.an Y (.seq (.draw [] [[0, 1, 2, 3, 4, 5, 6, 7, 8, 9, 10]] mixed kQ (.g0 (.mv Y Y (.nf Y Y Y BF (.kv Y (.ld Y CS) (.mv Y Y (.kv Y (.indexAddr Y Y B0 om) (.kv Y (.fieldAddr Y Cj) (.kv Y (.loadRd (sz := 12) (j := i * 12 + 0) (p := Lf _ l) Y Ak O (fun h hp => Aa hp) om ((DJ (l := l) (i := i) (k := 0) om dQ).trans Y)) (.kv Y (.fieldAddr Y Cj) (.kv Y (.ld Y Ak) (.kv Y (.strne Y Y) (.pf (.condN Y (fun h45 => ?_) (fun h45 => ?_)))))))))))))))))))
    ·refine .aclShape (l := l) (i := i) hi2 O fun hcl => (.region (.m Y (.m Y (.nf Y BF (.u (.ld Y CS) (.m Y (.q (.indexAddr Y Y B0 om) Y (.q (.loadRdA (sz := 12) (j := i * 12) (k := 12) (p := Lf _ l) (vs := Es l[i]) Y OS O (fun h hp => Aa hp) om om om (A5 (f := Es) (sz := 12) (fun _ _ => Y) om)) Y (.oq (.buildSlice (vs := [_]) B0 Fc Y Y Y Y cQ dQ) ?_)))))))))
     rintro v L' ⟨b10_8, rfl, rfl⟩
     refine .oq (.append1 Y Y Y B0 Fc Y Y ?c56 ?c57 (Nat.le_refl _) ?c58 dQ) ?_
     case c56 => first | exact DO hcl | (simp only [map_cons, map_nil, flatten_cons, flatten_nil, append_nil]; exact DO hcl)
     case c57 => rfl
     case c58 => first | omega | (simp; omega)
     rintro v L' ⟨⟨a10_9, c10_9, rfl⟩, rfl⟩
     refine .a Y (.nil ?_)
     rw [show (acc ++ [z]).length + 1 = ((acc ++ [z]) ++ [l[i]]).length by simp]
     refine .slCast (T := 68) (sz := 12) (m' := ((acc ++ [z]) ++ [l[i]]).length) (xs' := ((acc ++ [z]) ++ [l[i]]).flatMap Es) O Y (by simp; rfl) (.blk_n (.then_n (.region (.m Y (.q (.add Y Y om) Y (.an Y ?_))))))
     exact .rk ((i + 1, true, .slice a10_9 ((acc ++ [z]) ++ [l[i]]).length c10_9, ((acc ++ [z]) ++ [l[i]]))) (⟨by dsimp only; omega, by dsimp only; exact hLay.put hi2 h30 h45, ⟨_, _, rfl⟩, by dsimp only; simp; omega⟩) (by dsimp only; omega) O
    refine .skip (.blk_n (.then_n (.region (.m Y (.q (.add Y Y om) Y (.an Y ?_))))))
    exact .rk ((i + 1, true, .slice a7_3 (acc ++ [z]).length c7_3, (acc ++ [z]))) (⟨by dsimp only; omega, by dsimp only; exact hLay.sub hi2 h45, ⟨_, _, rfl⟩, by dsimp only; simp; omega⟩) (by dsimp only; omega) O
   refine .sk (.seq (.draw [] [[0, 1, 2, 3, 4, 5, 6, 7, 8, 9, 10]] mixed kQ (.g0 (.mv Y Y (.nf Y Y Y BF (.kv Y (.ld Y CS) (.mv Y Y (.kv Y (.indexAddr Y Y B0 om) (.kv Y (.fieldAddr Y Cj) (.kv Y (.loadRd (sz := 12) (j := i * 12 + 0) (p := Lf _ l) Y Ak O (fun h hp => Aa hp) om ((DJ (l := l) (i := i) (k := 0) om dQ).trans Y)) (.kv Y (.fieldAddr Y Cj) (.kv Y (.ld Y Ak) (.kv Y (.strne Y Y) (.pf (.condN Y (fun h45 => ?_) (fun h45 => ?_))))))))))))))))
   ·refine .aclShape (l := l) (i := i) hi2 O fun hcl => (.region (.m Y (.m Y (.nf Y BF (.u (.ld Y CS) (.m Y (.q (.indexAddr Y Y B0 om) Y (.q (.loadRdA (sz := 12) (j := i * 12) (k := 12) (p := Lf _ l) (vs := Es l[i]) Y OS O (fun h hp => Aa hp) om om om (A5 (f := Es) (sz := 12) (fun _ _ => Y) om)) Y (.oq (.buildSlice (vs := [_]) B0 Fc Y Y Y Y cQ dQ) ?_)))))))))
    rintro v L' ⟨b10_8, rfl, rfl⟩
    refine .oq (.append1 Y Y Y B0 Fc Y Y ?c86 ?c87 (Nat.le_refl _) ?c88 dQ) ?_
    case c86 => first | exact DO hcl | (simp only [map_cons, map_nil, flatten_cons, flatten_nil, append_nil]; exact DO hcl)
    case c87 => rfl
    case c88 => first | omega | (simp; omega)
    rintro v L' ⟨⟨a10_9, c10_9, rfl⟩, rfl⟩
    refine .a Y (.nil ?_)
    rw [show acc.length + 1 = (acc ++ [l[i]]).length by simp]
    refine .slCast (T := 68) (sz := 12) (m' := (acc ++ [l[i]]).length) (xs' := (acc ++ [l[i]]).flatMap Es) O Y (by simp; rfl) (.blk_n (.then_n (.region (.m Y (.q (.add Y Y om) Y (.an Y ?_))))))
    exact .rk ((i + 1, false, .slice a10_9 (acc ++ [l[i]]).length c10_9, (acc ++ [l[i]]))) (⟨by dsimp only; omega, by dsimp only; exact hLay.low hi2 (Decidable.byContradiction h30), ⟨_, _, rfl⟩, by dsimp only; simp; omega⟩) (by dsimp only; omega) O
   refine .skip (.blk_n (.then_n (.region (.m Y (.q (.add Y Y om) Y (.an Y ?_))))))
   exact .rk ((i + 1, false, .slice au acc.length cu, acc)) (⟨by dsimp only; omega, by dsimp only; exact absurd (by rw [h45]; exact EC.irr z.1) h30, ⟨_, _, rfl⟩, by dsimp only; simp; omega⟩) (by dsimp only; omega) O
  have hbt : b = true := by simpa using h6_18
  subst hbt
  have hal : acc.length ≤ i + 1 := hal
  refine D.kB (t := 17) Y h6_18 (.gz Y (.gz Y (.gz Y (.gz Y (.gz Y (.gz Y (.gz Y (.gz Y (.gz Y (.gz Y (.gz Y (.kv Y (.pickF Y Y) (.pf (.condF Y (.sk (.seq (.draw [] [[0, 1, 2, 3, 4, 5, 6, 7, 8, 9, 10]] mixed kQ (.g0 (.mv Y Y (.nf Y Y Y BF (.kv Y (.ld Y CS) (.mv Y Y (.kv Y (.indexAddr Y Y B0 om) (.kv Y (.fieldAddr Y Cj) (.kv Y (.loadRd (sz := 12) (j := i * 12 + 0) (p := Lf _ l) Y Ak O (fun h hp => Aa hp) om ((DJ (l := l) (i := i) (k := 0) om dQ).trans Y)) (.kv Y (.fieldAddr Y Cj) (.kv Y (.ld Y Ak) (.kv Y (.strne Y Y) ?_))))))))))))))))))))))))))))
  refine D.pf (.condN Y (fun h45 => ?_) (fun h45 => ?_))
  ·refine .aclShape (l := l) (i := i) hi2 O fun hcl => (.region (.m Y (.m Y (.nf Y BF (.u (.ld Y CS) (.m Y (.q (.indexAddr Y Y B0 om) Y (.q (.loadRdA (sz := 12) (j := i * 12) (k := 12) (p := Lf _ l) (vs := Es l[i]) Y OS O (fun h hp => Aa hp) om om om (A5 (f := Es) (sz := 12) (fun _ _ => Y) om)) Y (.oq (.buildSlice (vs := [_]) B0 Fc Y Y Y Y cQ dQ) ?_)))))))))
   rintro v L' ⟨b10_8, rfl, rfl⟩
   refine .oq (.append1 Y Y Y B0 Fc Y Y ?c117 ?c118 (Nat.le_refl _) ?c119 dQ) ?_
   case c117 => first | exact DO hcl | (simp only [map_cons, map_nil, flatten_cons, flatten_nil, append_nil]; exact DO hcl)
   case c118 => rfl
   case c119 => first | omega | (simp; omega)
   rintro v L' ⟨⟨a10_9, c10_9, rfl⟩, rfl⟩
   refine .a Y (.nil ?_)
   rw [show acc.length + 1 = (acc ++ [l[i]]).length by simp]
   refine .slCast (T := 68) (sz := 12) (m' := (acc ++ [l[i]]).length) (xs' := (acc ++ [l[i]]).flatMap Es) O Y (by simp; rfl) (.blk_n (.then_n (.region (.m Y (.q (.add Y Y om) Y (.an Y ?_))))))
   exact .rk ((i + 1, true, .slice a10_9 (acc ++ [l[i]]).length c10_9, (acc ++ [l[i]]))) (⟨by dsimp only; omega, by dsimp only; exact hLay.more hi2, ⟨_, _, rfl⟩, by dsimp only; simp; omega⟩) (by dsimp only; omega) O
  refine .skip (.blk_n (.then_n (.region (.m Y (.q (.add Y Y om) Y (.an Y ?_))))))
  exact .rk ((i + 1, true, .slice au acc.length cu, acc)) (⟨by dsimp only; omega, by dsimp only; exact absurd h45 (hLay.not hsrt hi2), ⟨_, _, rfl⟩, by dsimp only; simp; omega⟩) (by dsimp only; omega) O
 have hii : i = l.length := by omega
 rw [hii] at hLay
 have hlast := hLay.last
 refine .xe (.seq (.sm Y (.u (.not Y) (.nt (.condB Y (fun h57 => ?_) (fun h57 => ?_))))))
 ·refine .region (.m Y (.q (.loadAs (vs := Es z) Y OS O (by simp [Es]) Y) Y (.oq (.buildSlice (vs := [_]) B0 Fc Y Y Y Y cQ dQ) ?_)))
  rintro v L' ⟨b12_2, rfl, rfl⟩
  refine .oq (.append1 Y Y Y B0 Fc Y Y ?c132 ?c133 (Nat.le_refl _) ?c134 dQ) ?_
  case c132 => first | exact DO hzc | (simp only [map_cons, map_nil, flatten_cons, flatten_nil, append_nil]; exact DO hzc)
  case c133 => rfl
  case c134 => have := Bool.toNat_le b; omega
  rintro v L' ⟨⟨a12_3, c12_3, rfl⟩, rfl⟩
  refine .a Y (.nil ?_)
  rw [show acc.length + 1 = (acc ++ [z]).length by rw [length_append]; rfl]
  refine .slCast (T := 68) (sz := 12) (m' := (acc ++ [z]).length) (xs' := (acc ++ [z]).flatMap Es) O Y (by simp; rfl) (.then_n (.region (.m Y (.m Y (.nf Y BF (.st Y Y Y X5 ?_))))))
  refine .nil (.done_n (.bigSset hsrt z.1 z.2 (p := IA z) Y O ?_))
  have hb : b = false := by simpa using h57
  subst hb
  have hfin : (acc ++ [z]) = sset l z.1 z.2 := hlast
  refine .rtFold (x := x) (τ := ({ τ with nodes := sset τ.nodes z.1 z.2.2 } : Tr)) (l := (sset l z.1 z.2)) (by rw [Qn, hl]) O Y (by rw [hfin]) (by rw [hfin]) Y Y ?_
  exact .vv
 refine .sk (.region (.m Y (.m Y (.nf Y BF (.st Y Y Y X5 ?_)))))
 refine .nil (.done_n (.bigSset hsrt z.1 z.2 (p := IA z) Y O ?_))
 have hb : b = true := by simpa using h57
 subst hb
 have hfin : acc = sset l z.1 z.2 := hlast
 refine .rtFold (x := x) (τ := ({ τ with nodes := sset τ.nodes z.1 z.2.2 } : Tr)) (l := (sset l z.1 z.2)) (by rw [Qn, hl]) O Y (by rw [hfin]) (by rw [hfin]) Y Y ?_
 exact .vv
theorem I2 (x : Nat) (τ : Tr) (p : Bs) (num zx : Int) (N : Nat) (ho : τ.Ok N) (hN : N ≤ 1073741824) : Fn prog 126 #[AI x, AE p, AA num, AA zx] [DV x τ] fun v L => v = .tuple #[] ∧ L = [DV x (D1 τ p num zx)] := by
 refine Fn.intro func126 Y Y fun F W => ?_
 have hfew := ho.few
 have hnd := ho.sorted.nodup EC
 refine .sm Y (.m Y (.cv func38 [_, _] (Dk x τ p om) ?_))
 refine .an Y (.sm Y (.ui Y Y Y (.nt (.condD Y (fun h13 => ?_) (fun h13 => ?_)))))
 ·obtain ⟨k, hk, hpk, hkp⟩ := Gh (l := τ.nodes) h13
  have hpz : HT τ p = k := hpk
  rw [hpz]
  refine .rtOpen (x := x) (τ := τ) O fun an cn as1 cs l hl => ?_
  have hll := DD hl
  have hkl : k < l.length := by omega
  have hlk : l[k].1 = p := by have := E8 hl hkl; rw [← hkp]; simp only [this]
  refine .slShape (T := 68) (sz := 12) (v := .slice an l.length cn) (xs := l.flatMap Es) O om fun bn bn' e0 mbn _ => ?_
  simp only [Value.slice.injEq, true_and] at e0
  obtain ⟨rfl, rfl⟩ := e0
  refine .sm Y (.nf Y BF (.u (.ld Y CS) (.m Y (.m Y (.q (.indexAddr Y Y B0 om) Y (.fa Y IM (.fa Y Fi (.oq (.storeRd (sz := 12) (j := k * 12 + 7) Y Y ?hv14 CC ?ho15 ?hi16) ?_))))))))
  case hv14 => first | rfl | assumption
  case ho15 => omega
  case hi16 => omega
  rintro v L' rfl
  refine .nil (.slCast (T := 68) (sz := 12) (m' := l.length) (xs' := (l.set k (l[k].1, (l[k].2.1, { l[k].2.2 with st := { l[k].2.2.st with cver := num } }))).flatMap Es) O Y (DC (f := Es) (sz := 12) (fun _ => Y) (by simpa using hkl) dQ (by rfl)) (.then_n (.region (.m Y (.nf Y BF (.u (.ld Y CS) (.m Y (.m Y (.q (.indexAddr Y Y B0 om) Y (.fa Y IM (.fa Y L5 (.oq (.storeRd (sz := 12) (j := k * 12 + 5) Y Y ?hv26 CC ?ho27 ?hi28) ?_))))))))))))
  case hv26 => first | rfl | assumption
  case ho27 => omega
  case hi28 => omega
  rintro v L' rfl
  refine .nil (.slCast (T := 68) (sz := 12) (m' := l.length) (xs' := ((l.set k (l[k].1, (l[k].2.1, { l[k].2.2 with st := { l[k].2.2.st with cver := num } }))).set k (l[k].1, (l[k].2.1, kidN num zx l[k].2.2))).flatMap Es) O Y (DC (f := Es) (sz := 12) (fun _ => Y) (by simpa using hkl) dQ (by rw [getElem_set_self]; rfl)) ?_)
  rw [set_set]
  refine .done_n (.bigSet (y := (l[k].1, (l[k].2.1, kidN num zx l[k].2.2))) hkl (by rfl) O (.rtFold (x := x) (τ := (D1 τ p num zx)) (l := (l.set k (l[k].1, (l[k].2.1, kidN num zx l[k].2.2)))) (Pc hl hnd hkl hlk (kidN num zx) Y) O Y (by simp) Y Y Y ?_))
  exact .vv
 refine .skip (.done_n (.rfCast (x := x) (τ' := D1 τ p num zx) O (by unfold D1; rw [N8 (by have h0 : ¬ 0 ≤ CZ τ.nodes p := h13; rw [CB] at h0; simpa using h0)]) ?_))
 exact .vv
theorem ND (x : Nat) (τ : Tr) (z : GE) (hzc : AB z.2.1 = true) (N : Nat) (ho : τ.Ok N) (hN : N ≤ 1073741824) {T : TypeId} : Fn prog 125 #[AI x, .agg (Es z).toArray] [DV x τ, Af T 2 z.2.1 z.2.2.acl.length (z.2.2.acl.flatMap CO)] fun v L => v = .tuple #[] ∧ L = [DV x { τ with nodes := sset τ.nodes z.1 z.2.2 }] :=
 Fn.pre2 (VI x τ z hzc N ho hN) fun F w hs => by
  have h1 := Br (q := IA z) (fun h hp => Aa hp) (Eq hs)
  exact Eq h1
theorem Pm (x : Nat) (τ : Tr) (y : Pt) (zx : Int) (p : HP) (hy : W8 p y) (N : Nat) (ho : τ.Ok N) (hN : N + 1 ≤ 1073741824) : Fn prog 64 #[AI x, .agg (A1 y).toArray, AA zx] [DV x τ, p] fun v L => ∃ a c, v = .slice a (Ab τ y zx).2.length c ∧ L = [DV x (Ab τ y zx).1, p, Af 50 3 v (Ab τ y zx).2.length ((Ab τ y zx).2.flatMap BV)] := by
 refine Fn.intro func64 Y Y fun F W => ?_
 have hfew := hy.few
 have hpl := hy.plen
 have hpar := HN y.path
 have hof := ho.few
 refine .sr (.oq (.box Y) ?_)
 rintro v L' ⟨bx, rfl, rfl⟩
 refine .a Y (.nil (.ptCast (b := bx) (l' := A1 y) O Y ?_))
 refine .then_n (.sr (.fa Y A7 (.u (.ld Y Ak) (.cv func67 [_] (HQ y.path om) ?_))))
 refine .an Y (.sr (.fa Y A7 (.u (.ld Y Ak) (.cv func124 [_] (NQ y.path om) ?_))))
 refine .an Y (.seq (.sm Y (.u (.not Y) (.m Y (.ndec (t := 18) Y (fun h3_18 => ?_) (fun h3_18 => ?_))))))
 ·refine .kNT (t := 17) Y h3_18 (.gk (.gk (.gk (.gk (.pT Y Y (.nt (.condT Y (.sr (.an Y (.rt (.add (AO 50 3) ?_)))))))))))
  have hc : Ab τ y zx = (τ, []) := by unfold Ab; rw [if_neg (fun g => h3_18 g.1)]
  refine .rfCast (x := x) (τ' := (Ab τ y zx).1) O (by rw [hc]) (.slCast (T := 50) (sz := 3) (m' := (Ab τ y zx).2.length) (xs' := (Ab τ y zx).2.flatMap BV) O (by (rw [hc]; try rfl)) (by (rw [hc]; try rfl)) ?_)
  exact .dn Y Y ⟨_, _, by (rw [hc]; try rfl), rfl⟩
 refine .kNF (t := 17) Y h3_18 (.gr (.m Y (.gr (.m Y (.gr (.cv func38 [_, _] (Dk x τ (AL y.path) om) ?_))))))
 refine .gr (.ui Y Y Y (.pF Y Y (.nt (.condD Y (fun h23 => ?_) (fun h23 => ?_)))))
 ·refine .sr (.an Y (.rt (.add (AO 50 3) ?_)))
  have hc : Ab τ y zx = (τ, []) := by unfold Ab; rw [if_neg (fun g => absurd (CB.2 g.2) (by have h0 : CZ τ.nodes (AL y.path) < 0 := h23; omega))]
  refine .rfCast (x := x) (τ' := (Ab τ y zx).1) O (by rw [hc]) (.slCast (T := 50) (sz := 3) (m' := (Ab τ y zx).2.length) (xs' := (Ab τ y zx).2.flatMap BV) O (by (rw [hc]; try rfl)) (by (rw [hc]; try rfl)) ?_)
  exact .dn Y Y ⟨_, _, by (rw [hc]; try rfl), rfl⟩
 have hup : AQ τ (AL y.path) := CB.1 (by have h0 : ¬ CZ τ.nodes (AL y.path) < 0 := h23; omega)
 have hab : Cn y.path := h3_18
 refine .sk (.sr (.an Y (.seq (.sm Y (.fa Y A7 (.u (.ld Y Ak) (.cv func38 [_, _] (Dk x τ y.path om) ?_)))))))
 refine .ui Y Y Y (.nt (.condD Y (fun h28 => ?_) (fun h28 => ?_)))
 ·refine .region (.an Y (.seq (.draw [7, 15] [[0, 1, 2, 3, 4, 5, 6, 8, 9, 10, 11, 12, 13, 7, 14], [15]] mixed kQ (.go [Ad bx _ _] O (.k Y (.move Y) (.k Y (.fieldAddr Y A7) (.k Y (.ld Y Ak) (.k Y (.fieldAddr Y E9) (.k Y (.ld Y Ak) (.kv Y (.fieldAddr Y GN) (.kv Y (.ld Y Ft) (.k Y (.move Y) (.k Y (.move Y) (.k Y (.move Y) (.k Y (.fieldAddr Y CV) (.k Y (.ld Y AR) (.k Y (.build (us := [(0, _), (1, _), (2, _), (6, _)]) MM DQ Y Y (by simp [AB])) (.hh Y (.c func66 [_] (I3 y.aclV y.acl p hy.acl hfew)) ?_))))))))))))))))))
  rintro v L' ⟨⟨a8, c8, rfl⟩, rfl⟩
  refine D.kv Y (.buildN (pl := [(0, 1), (1, 1), (2, 1), (3, 9)]) (us := [(0, AE y.path), (1, AE y.data), (2, .slice a8 y.acl.length c8), (3, .agg ([AA zx, AA zx, AA zx, AA 0, AA 0, AA 0, AA y.own, AA 0, AA 0] : List Value).toArray)]) (cells := [AE y.path, AE y.data, .slice a8 y.acl.length c8] ++ [AA zx, AA zx, AA zx, AA 0, AA 0, AA 0, AA y.own, AA 0, AA 0]) underlying68 kQ Fc Y (MV _ _ _ _ _ _ _ _ _ _ _ _ _ _)) (.ph (.g0 (.hh Y (.c func125 [_, _] (ND x τ ((y.path, (.slice a8 y.acl.length c8, DU y zx)) : GE) Y N ho om)) ?_)))
  rintro v L' ⟨rfl, rfl⟩
  refine D.ph (.fin (.rfCast (x := x) (τ' := ({ τ with nodes := sset τ.nodes y.path (DU y zx) } : Tr)) O (Y) ?_))
  have hoL := ho.lay (.inr hab) (DU y zx) hfew
  refine .then_n (.sm Y (.m Y (.fa Y Cl (.u (.ld Y AR) (.m Y (.cv func126 [_, _, _, _] (I2 x ({ τ with nodes := sset τ.nodes y.path (DU y zx) } : Tr) (AL y.path) y.num zx (N + 1) hoL om) ?_))))))
  refine .nt (.sm Y (.fa Y A7 (.u (.ld Y Ak) (.m Y (.q (.build (us := [(0, _), (1, _), (2, _)]) Fa Bt Y Y (by simp [AB])) Y (.m Y (.m Y (.q (.build (us := [(0, _), (1, _), (2, _)]) Fa Bt Y Y (by simp [AB])) Y (.oq (.buildSlice (vs := [_, _]) DP Bt Y Y Y Y cQ dQ) ?_)))))))))
  rintro v L' ⟨bo, rfl, rfl⟩
  refine .a Y (.nil (.slMakeN 3 2 (b := bo) (xs := ([(3, (y.path, zx)), (4, (AL y.path, zx))] : List Ev).flatMap BV) O Y Y (.then_n (.ret ?_))))
  have hc : Ab τ y zx = (D1 ({ τ with nodes := sset τ.nodes y.path (DU y zx) } : Tr) (AL y.path) y.num zx, [(3, (y.path, zx)), (4, (AL y.path, zx))]) := by unfold Ab; rw [if_pos ⟨hab, hup⟩, if_pos (show AQ τ y.path from CB.1 h28)]
  refine .rfCast (x := x) (τ' := (Ab τ y zx).1) O (by rw [hc]) (.slCast (T := 50) (sz := 3) (m' := (Ab τ y zx).2.length) (xs' := (Ab τ y zx).2.flatMap BV) O (by (rw [hc]; try rfl)) (by (rw [hc]; try rfl)) ?_)
  exact .dn Y Y ⟨_, _, by (rw [hc]; try rfl), rfl⟩
 refine .sk (.seq (.draw [7, 15] [[0, 1, 2, 3, 4, 5, 6, 8, 9, 10, 11, 12, 13, 7, 14], [15]] mixed kQ (.go [Ad bx _ _] O (.k Y (.move Y) (.k Y (.fieldAddr Y A7) (.k Y (.ld Y Ak) (.k Y (.fieldAddr Y E9) (.k Y (.ld Y Ak) (.kv Y (.fieldAddr Y GN) (.kv Y (.ld Y Ft) (.k Y (.move Y) (.k Y (.move Y) (.k Y (.move Y) (.k Y (.fieldAddr Y CV) (.k Y (.ld Y AR) (.k Y (.build (us := [(0, _), (1, _), (2, _), (6, _)]) MM DQ Y Y (by simp [AB])) (.hh Y (.c func66 [_] (I3 y.aclV y.acl p hy.acl hfew)) ?_)))))))))))))))))
 rintro v L' ⟨⟨a8, c8, rfl⟩, rfl⟩
 refine D.kv Y (.buildN (pl := [(0, 1), (1, 1), (2, 1), (3, 9)]) (us := [(0, AE y.path), (1, AE y.data), (2, .slice a8 y.acl.length c8), (3, .agg ([AA zx, AA zx, AA zx, AA 0, AA 0, AA 0, AA y.own, AA 0, AA 0] : List Value).toArray)]) (cells := [AE y.path, AE y.data, .slice a8 y.acl.length c8] ++ [AA zx, AA zx, AA zx, AA 0, AA 0, AA 0, AA y.own, AA 0, AA 0]) underlying68 kQ Fc Y (MV _ _ _ _ _ _ _ _ _ _ _ _ _ _)) (.ph (.g0 (.hh Y (.c func125 [_, _] (ND x τ ((y.path, (.slice a8 y.acl.length c8, DU y zx)) : GE) Y N ho om)) ?_)))
 rintro v L' ⟨rfl, rfl⟩
 refine D.ph (.fin (.rfCast (x := x) (τ' := ({ τ with nodes := sset τ.nodes y.path (DU y zx) } : Tr)) O (Y) ?_))
 have hoL := ho.lay (.inr hab) (DU y zx) hfew
 refine .then_n (.sm Y (.m Y (.fa Y Cl (.u (.ld Y AR) (.m Y (.cv func126 [_, _, _, _] (I2 x ({ τ with nodes := sset τ.nodes y.path (DU y zx) } : Tr) (AL y.path) y.num zx (N + 1) hoL om) ?_))))))
 refine .nt (.sm Y (.fa Y A7 (.u (.ld Y Ak) (.m Y (.q (.build (us := [(0, _), (1, _), (2, _)]) Fa Bt Y Y (by simp [AB])) Y (.m Y (.m Y (.q (.build (us := [(0, _), (1, _), (2, _)]) Fa Bt Y Y (by simp [AB])) Y (.oq (.buildSlice (vs := [_, _]) DP Bt Y Y Y Y cQ dQ) ?_)))))))))
 rintro v L' ⟨bo, rfl, rfl⟩
 refine .a Y (.nil (.slMakeN 3 2 (b := bo) (xs := ([(1, (y.path, zx)), (4, (AL y.path, zx))] : List Ev).flatMap BV) O Y Y (.then_n (.ret ?_))))
 have hc : Ab τ y zx = (D1 ({ τ with nodes := sset τ.nodes y.path (DU y zx) } : Tr) (AL y.path) y.num zx, [(1, (y.path, zx)), (4, (AL y.path, zx))]) := by unfold Ab; rw [if_pos ⟨hab, hup⟩, if_neg (show ¬ AQ τ y.path from fun g => h28 (CB.2 g))]
 refine .rfCast (x := x) (τ' := (Ab τ y zx).1) O (by rw [hc]) (.slCast (T := 50) (sz := 3) (m' := (Ab τ y zx).2.length) (xs' := (Ab τ y zx).2.flatMap BV) O (by (rw [hc]; try rfl)) (by (rw [hc]; try rfl)) ?_)
 exact .dn Y Y ⟨_, _, by (rw [hc]; try rfl), rfl⟩
theorem Q3 (x : Nat) (τ : Tr) (y : Pt) (zx : Int) (p : HP) (hy : W8 p y) (N : Nat) (ho : τ.Ok N) (hN : N + 1 ≤ 1073741824) : Fn prog 65 #[AI x, .agg (A1 y).toArray, AA zx] [DV x τ] fun v L => ∃ a c, v = .slice a (As τ y zx).2.length c ∧ L = [DV x (As τ y zx).1, Af 50 3 v (As τ y zx).2.length ((As τ y zx).2.flatMap BV)] := by
 refine Fn.intro func65 Y Y fun F W => ?_
 have hfew := hy.few
 have hpl := hy.plen
 have hpar := HN y.path
 have hof := ho.few
 refine .sr (.oq (.box Y) ?_)
 rintro v L' ⟨bx, rfl, rfl⟩
 refine .a Y (.nil (.ptCast (b := bx) (l' := A1 y) O Y ?_))
 refine .then_n (.sr (.fa Y A7 (.u (.ld Y Ak) (.cv func124 [_] (NQ y.path om) ?_))))
 refine .an Y (.seq (.sm Y (.u (.not Y) (.nt (.condN Y (fun h18 => ?_) (fun h18 => ?_))))))
 ·refine .sr (.an Y (.rt (.add (AO 50 3) ?_)))
  have hc : As τ y zx = (τ, []) := by unfold As; rw [if_neg h18]
  refine .rfCast (x := x) (τ' := (As τ y zx).1) O (by rw [hc]) (.slCast (T := 50) (sz := 3) (m' := (As τ y zx).2.length) (xs' := (As τ y zx).2.flatMap BV) O (by (rw [hc]; try rfl)) (by (rw [hc]; try rfl)) ?_)
  exact .dn Y Y ⟨_, _, by (rw [hc]; try rfl), rfl⟩
 refine .sk (.sr (.fa Y A7 (.u (.ld Y Ak) (.cv func67 [_] (HQ y.path om) ?_))))
 refine .an Y (.sm Y (.fa Y A7 (.u (.ld Y Ak) (.cv func38 [_, _] (Dk x τ y.path om) ?_))))
 refine .ui Y Y Y (.an Y (.seq (.add (AO 68 12) (.rtOpen (x := x) (τ := τ) O fun an cn as1 cs l hl => ?_))))
 have hll := DD hl
 refine .region (.an Y (.seq (.sr (.an Y (.block (.loopK (ι := Nat × Value) (fun q E => (11, AA q.1) :: (10, q.2) :: E) (fun q => [Lf q.2 ((l.take q.1).filter fun w => !Bj w.1 y.path)]) (fun q => q.1 ≤ l.length ∧ ∃ a c, q.2 = .slice a ((l.take q.1).filter fun w => !Bj w.1 y.path).length c) (fun q => l.length - q.1) (0, .slice none 0 0) (ts := [0, 2, 4, 6, 8, 9]) O (⟨Nat.zero_le _, none, 0, Y⟩) O O ?_))))))
 rintro ⟨i, u⟩ ⟨hi, au, cu, hu⟩
 dsimp only
 dsimp only at hi hu
 subst hu
 have hfl := length_filter_le (fun w : GE => !Bj w.1 y.path) (l.take i)
 rw [length_take] at hfl
 refine .seq (.sm Y (.m Y (.nf Y BF (.u (.ld Y CS) (.q (.slen Y underlying63 Y) Y (.ui Y Y Y (.nt (.condD Y (fun h33 => ?_) (fun h33 => ?_)))))))))
 ·have hi2 : i < l.length := by omega
  have hpi : l[i].1.length ≤ 60 := by have := E8 hl hi2; have h2 := Ee (ho.able _ (getElem_mem (l := τ.nodes) (n := i) om)); rw [this] at h2; exact h2
  refine .slShape (T := 68) (sz := 12) (v := .slice an l.length cn) (xs := l.flatMap Es) O om fun bn bn' e0 mbn _ => ?_
  simp only [Value.slice.injEq, true_and] at e0
  obtain ⟨rfl, rfl⟩ := e0
  refine .sk (.seq (.block (.seq (.draw [10] [[0, 1, 2, 3, 4, 5, 6, 7, 8, 9, 10], [11]] mixed kQ (.g0 (.mv Y Y (.nf Y Y Y BF (.kv Y (.ld Y CS) (.mv Y Y (.kv Y (.indexAddr Y Y B0 om) (.kv Y (.fieldAddr Y Cj) (.kv Y (.loadRd (sz := 12) (j := i * 12 + 0) (p := Lf _ l) Y Ak O (fun h hp => Aa hp) om ((DJ (l := l) (i := i) (k := 0) om dQ).trans Y)) (.kv Y (.fieldAddr Y A7) (.kv Y (.ld Y Ak) (.hh Y (.c func127 [_, _] (Rh l[i].1 y.path om)) ?_)))))))))))))))
  rintro v L' ⟨rfl, rfl⟩
  refine D.ph (.g0 (.kv Y (.assign Y) (.pf (.seq (.draw [] [[0, 1, 2, 3, 4, 5, 6, 7, 8, 9, 10, 11, 12, 13, 14]] mixed kQ (.g0 (.mv Y Y (.nf Y Y Y BF (.kv Y (.ld Y CS) (.mv Y Y (.kv Y (.indexAddr Y Y B0 om) (.kv Y (.fieldAddr Y Cj) (.kv Y (.loadRd (sz := 12) (j := i * 12 + 0) (p := Lf _ l) Y Ak O (fun h hp => Aa hp) om ((DJ (l := l) (i := i) (k := 0) om dQ).trans Y)) (.kv Y (.fieldAddr Y A7) (.kv Y (.ld Y Ak) (.kv Y (.strne Y Y) (.mv Y Y (.ndec (t := 58) Y (fun h11_58 => ?_) (fun h11_58 => ?_)))))))))))))))))))
  ·refine D.kNT (t := 57) Y h11_58 (.gv Y (.move Y) (.gv Y (.not Y) (.kv Y (.pickT Y Y) (.pf (.condN Y (fun h61 => ?_) (fun h61 => ?_))))))
   ·have hhit : Bj l[i].1 y.path = false := by unfold Bj; rw [decide_eq_false h11_58, decide_eq_false h61]; rfl
    refine .aclShape (l := l) (i := i) hi2 O fun hcl => (.region (.m Y (.m Y (.nf Y BF (.u (.ld Y CS) (.m Y (.q (.indexAddr Y Y B0 om) Y (.q (.loadRdA (sz := 12) (j := i * 12) (k := 12) (p := Lf _ l) (vs := Es l[i]) Y OS O (fun h hp => Aa hp) om om om (A5 (f := Es) (sz := 12) (fun _ _ => Y) om)) Y (.oq (.buildSlice (vs := [_]) B0 Fc Y Y Y Y cQ dQ) ?_)))))))))
    rintro v L' ⟨b12_8, rfl, rfl⟩
    refine .oq (.append1 Y Y Y B0 Fc Y Y ?c63 ?c64 (Nat.le_refl _) ?c65 dQ) ?_
    case c63 => first | exact DO hcl | (simp only [map_cons, map_nil, flatten_cons, flatten_nil, append_nil]; exact DO hcl)
    case c64 => rfl
    case c65 => first | omega | (simp; omega)
    rintro v L' ⟨⟨a12_9, c12_9, rfl⟩, rfl⟩
    refine .a Y (.nil (.blk_n (.then_n (.region (.m Y (.q (.add Y Y om) Y (.an Y ?_)))))))
    have hst : ((l.take (i + 1)).filter fun w => !Bj w.1 y.path) = ((l.take i).filter fun w => !Bj w.1 y.path) ++ [l[i]] := by rw [take_succ_eq_append_getElem hi2, filter_append]; simp [hhit]
    rw [show ((l.take i).filter fun w => !Bj w.1 y.path).length + 1 = ((l.take (i + 1)).filter fun w => !Bj w.1 y.path).length by rw [hst, length_append]; rfl]
    refine .slCast (T := 68) (sz := 12) (m' := ((l.take (i + 1)).filter fun w => !Bj w.1 y.path).length) (xs' := ((l.take (i + 1)).filter fun w => !Bj w.1 y.path).flatMap Es) O Y (by rw [hst, flatMap_append]; simp; rfl) ?_
    exact .rk ((i + 1, .slice a12_9 ((l.take (i + 1)).filter fun w => !Bj w.1 y.path).length c12_9)) (⟨by dsimp only; omega, _, _, rfl⟩) (by dsimp only; omega) O
   refine .skip (.blk_n (.then_n (.region (.m Y (.q (.add Y Y om) Y (.an Y ?_))))))
   have hhit : Bj l[i].1 y.path = true := by unfold Bj; rw [decide_eq_true (p := JC l[i].1 y.path) (by simpa using h61), Bool.or_true]
   have hst : ((l.take (i + 1)).filter fun w => !Bj w.1 y.path) = ((l.take i).filter fun w => !Bj w.1 y.path) := by rw [take_succ_eq_append_getElem hi2, filter_append]; simp [hhit]
   rw [← hst]
   exact .rk ((i + 1, .slice au ((l.take (i + 1)).filter fun w => !Bj w.1 y.path).length cu)) (⟨by dsimp only; omega, _, _, rfl⟩) (by dsimp only; omega) O
  refine D.kNF (t := 57) Y h11_58 (.gz Y (.gz Y (.kv Y (.pickF Y Y) (.pf (.condF Y (.skip (.blk_n (.then_n (.region (.m Y (.q (.add Y Y om) Y (.an Y ?_))))))))))))
  have hhit : Bj l[i].1 y.path = true := by unfold Bj; rw [decide_eq_true h11_58]; rfl
  have hst : ((l.take (i + 1)).filter fun w => !Bj w.1 y.path) = ((l.take i).filter fun w => !Bj w.1 y.path) := by rw [take_succ_eq_append_getElem hi2, filter_append]; simp [hhit]
  rw [← hst]
  exact .rk ((i + 1, .slice au ((l.take (i + 1)).filter fun w => !Bj w.1 y.path).length cu)) (⟨by dsimp only; omega, _, _, rfl⟩) (by dsimp only; omega) O
 have hii : i = l.length := by omega
 subst hii
 rw [take_length]
 refine .xe (.sm Y (.m Y (.nf Y BF (.st Y Y Y X5 ?_))))
 refine .nil (.bigSub (l := (l.filter fun w => !Bj w.1 y.path)) filter_sublist O (.rtFold (x := x) (τ := (FH τ y.path)) (l := (l.filter fun w => !Bj w.1 y.path)) (by rw [Sy (fun q => !Bj q y.path), hl]; rfl) O Y Y Y Y Y (.then_n (.sm Y (.m Y (.fa Y Cl (.u (.ld Y AR) (.m Y (.oq (.c func126 [_, _, _, _] (I2 x (FH τ y.path) (AL y.path) y.num zx N (ho.cut y.path) om)) ?_)))))))))
 rintro v L' ⟨rfl, rfl⟩; have hoK := (ho.cut y.path).kid (AL y.path) y.num zx; have hofk := hoK.few
 refine .nt (.seq (.sm Y (.u (.not Y) (.nt (.condN Y (fun h83 => ?_) (fun h83 => ?_))))))
 ·have hth : ¬ AQ τ y.path := fun g => h83 (CB.2 g)
  refine .sr (.an Y (.rt (.add (AO 50 3) ?_)))
  have hc : As τ y zx = ((D1 (FH τ y.path) (AL y.path) y.num zx), []) := by unfold As; rw [if_pos h18, if_neg hth]
  refine .rfCast (x := x) (τ' := (As τ y zx).1) O (by rw [hc]) (.slCast (T := 50) (sz := 3) (m' := (As τ y zx).2.length) (xs' := (As τ y zx).2.flatMap BV) O (by (rw [hc]; try rfl)) (by (rw [hc]; try rfl)) ?_)
  exact .dn Y Y ⟨_, _, by (rw [hc]; try rfl), rfl⟩
 have hth : AQ τ y.path := CB.1 h83
 refine .sk (.sr (.fa Y A7 (.u (.ld Y Ak) (.m Y (.q (.build (us := [(0, _), (1, _), (2, _)]) Fa Bt Y Y (by simp [AB])) Y (.oq (.buildSlice (vs := [_]) DP Bt Y Y Y Y cQ dQ) ?_))))))
 rintro v L' ⟨bo, rfl, rfl⟩
 refine .a Y (.nil (.slMakeN 3 1 (b := bo) (xs := ([(2, (y.path, zx))] : List Ev).flatMap BV) O Y Y (.then_n (.seq (.sm Y (.m Y (.cv func38 [_, _] (Dk x (D1 (FH τ y.path) (AL y.path) y.num zx) (AL y.path) om) ?_)))))))
 refine .ui Y Y Y (.nt (.condD Y (fun h92 => ?_) (fun h92 => ?_)))
 ·refine .region (.m Y (.m Y (.m Y (.q (.build (us := [(0, _), (1, _), (2, _)]) Fa Bt Y Y (by simp [AB])) Y (.oq (.buildSlice (vs := [_]) DP Bt Y Y Y Y cQ dQ) ?_)))))
  rintro v L' ⟨b19_4, rfl, rfl⟩
  refine .oq (.append1 Y Y Y DP Bt Y Y ?c108 ?c109 (Nat.le_refl _) ?c110 dQ) ?_
  case c108 => (first | (simp [AB]; done) | (simp [AB, AW, Value.cells]; done))
  case c109 => rfl
  case c110 => omega
  rintro v L' ⟨⟨a19_5, c19_5, rfl⟩, rfl⟩
  refine .an Y (.sm Y (.an Y (.ret ?_)))
  have hc : As τ y zx = ((D1 (FH τ y.path) (AL y.path) y.num zx), [(2, (y.path, zx)), (4, (AL y.path, zx))]) := by unfold As; rw [if_pos h18, if_pos hth, if_pos (show AQ (FH τ y.path) (AL y.path) from IW.1 (CB.1 h92))]
  refine .rfCast (x := x) (τ' := (As τ y zx).1) O (by rw [hc]) (.slCast (T := 50) (sz := 3) (m' := (As τ y zx).2.length) (xs' := (As τ y zx).2.flatMap BV) O (by (rw [hc]; try rfl)) (by (rw [hc]; try rfl)) ?_)
  exact .dn Y Y ⟨_, _, by (rw [hc]; try rfl), rfl⟩
 refine .sk (.sm Y (.an Y (.ret ?_)))
 have hc : As τ y zx = ((D1 (FH τ y.path) (AL y.path) y.num zx), [(2, (y.path, zx))]) := by unfold As; rw [if_pos h18, if_pos hth, if_neg (show ¬ AQ (FH τ y.path) (AL y.path) from fun g => h92 (CB.2 (IW.2 g)))]
 refine .rfCast (x := x) (τ' := (As τ y zx).1) O (by rw [hc]) (.slCast (T := 50) (sz := 3) (m' := (As τ y zx).2.length) (xs' := (As τ y zx).2.flatMap BV) O (by (rw [hc]; try rfl)) (by (rw [hc]; try rfl)) ?_)
 exact .dn Y Y ⟨_, _, by (rw [hc]; try rfl), rfl⟩
theorem JH (x : Nat) (τ : Tr) (y : Pt) (zx : Int) (p : HP) (hy : W8 p y) (N : Nat) (ho : τ.Ok N) (hN : N + 1 ≤ 1073741824) : Fn prog 36 #[AI x, .agg (A1 y).toArray, AA zx] [DV x τ, p] fun v L => ∃ a c, v = .slice a (AJ τ y zx).2.length c ∧ L = [DV x (AJ τ y zx).1, p, Af 50 3 v (AJ τ y zx).2.length ((AJ τ y zx).2.flatMap BV)] := by
 refine Fn.intro func36 Y Y fun F W => ?_
 have hfew := hy.few
 have hpl := hy.plen
 have hof := ho.few
 have hnd := ho.sorted.nodup EC
 refine .sr (.oq (.box Y) ?_)
 rintro v L' ⟨bx, rfl, rfl⟩
 refine .a Y (.nil (.ptCast (b := bx) (l' := A1 y) O Y ?_))
 refine .then_n (.sm Y (.fa Y A7 (.u (.ld Y Ak) (.cv func38 [_, _] (Dk x τ y.path om) ?_))))
 refine .an Y (.seq (.sr (.fa Y Bz (.u (.ld Y AR) (.nt (.block (.sr (.ui Y Y Y (.an Y (.condD Y (fun h14 => ?_) (fun h14 => ?_)))))))))))
 ·refine .sm Y (.q (.loadAs (vs := A1 y) Y Ay O (by simp [A1]) Y) Y (.m Y (.oq (.c func64 [_, _, _] (Pm x τ y zx p hy N ho hN)) ?_)))
  rintro v L' ⟨a4, c4, rfl, rfl⟩
  refine .an Y (.ret (.blk_r (.then_r ?_)))
  have hc : AJ τ y zx = Ab τ y zx := by unfold AJ; rw [if_pos h14]
  refine .rfCast (x := x) (τ' := (AJ τ y zx).1) O (by rw [hc]) (.slCast (T := 50) (sz := 3) (m' := (AJ τ y zx).2.length) (xs' := (AJ τ y zx).2.flatMap BV) O (by (rw [hc]; try rfl)) (by (rw [hc]; try rfl)) ?_)
  exact .dn Y Y ⟨_, _, by (rw [hc]; try rfl), rfl⟩
 refine .sr (.ui Y Y Y (.an Y (.condD Y (fun h20 => ?_) (fun h20 => ?_))))
 ·refine .sm Y (.q (.loadAs (vs := A1 y) Y Ay O (by simp [A1]) Y) Y (.m Y (.oq (.c func65 [_, _, _] (Q3 x τ y zx p hy N ho hN)) ?_)))
  rintro v L' ⟨a6, c6, rfl, rfl⟩
  refine .an Y (.ret (.blk_r (.then_r ?_)))
  have hc : AJ τ y zx = As τ y zx := by unfold AJ; rw [if_neg h14, if_pos h20]
  refine .rfCast (x := x) (τ' := (AJ τ y zx).1) O (by rw [hc]) (.slCast (T := 50) (sz := 3) (m' := (AJ τ y zx).2.length) (xs' := (AJ τ y zx).2.flatMap BV) O (by (rw [hc]; try rfl)) (by (rw [hc]; try rfl)) ?_)
  exact .dn Y Y ⟨_, _, by (rw [hc]; try rfl), rfl⟩
 refine .sr (.ui Y Y Y (.an Y (.condD Y (fun h26 => ?_) (fun h26 => ?_))))
 ·refine .sm Y (.ui Y Y Y (.nt (.condD Y (fun h29 => ?_) (fun h29 => ?_))))
  ·obtain ⟨k, hk, hpk, hkp⟩ := Gh (l := τ.nodes) h29
   have hpz : HT τ y.path = k := hpk
   rw [hpz]
   refine .rtOpen (x := x) (τ := τ) O fun an cn as1 cs l hl => ?_
   have hll := DD hl
   have hkl : k < l.length := by omega
   have hlk : l[k].1 = y.path := by have := E8 hl hkl; rw [← hkp]; simp only [this]
   refine .slShape (T := 68) (sz := 12) (v := .slice an l.length cn) (xs := l.flatMap Es) O om fun bn bn' e0 mbn _ => ?_
   simp only [Value.slice.injEq, true_and] at e0
   obtain ⟨rfl, rfl⟩ := e0
   refine .seq (.draw [9] [[0, 1, 2, 3, 4, 5, 6, 7, 8, 9]] mixed kQ (.g0 (.mv Y Y (.nf Y Y Y BF (.kv Y (.ld Y CS) (.mv Y Y (.kv Y (.fieldAddr Y E9) (.kv Y (.ld Y Ak) (.kv Y (.indexAddr Y Y B0 om) (.kv Y (.fieldAddr Y UJ) (.hh Y (.storeRd (sz := 12) (j := k * 12 + 1) Y Y ?hv33 KP ?ho34 ?hi35) ?_)))))))))))
   case hv33 => first | rfl | assumption
   case ho34 => omega
   case hi35 => omega
   rintro v L' rfl
   refine D.ph (.fin (.slCast (T := 68) (sz := 12) (m' := l.length) (xs' := (l.set k (l[k].1, (l[k].2.1, { l[k].2.2 with data := y.data }))).flatMap Es) O Y (DC (f := Es) (sz := 12) (fun _ => Y) (by simpa using hkl) dQ (by rfl)) (.then_n (.seq (.draw [10] [[0, 1, 2, 3, 4, 5, 6, 7, 8, 9, 10]] mixed kQ (.g0 (.mv Y Y (.nf Y Y Y BF (.kv Y (.ld Y CS) (.mv Y Y (.kv Y (.fieldAddr Y Cl) (.kv Y (.ld Y AR) (.kv Y (.indexAddr Y Y B0 om) (.kv Y (.fieldAddr Y IM) (.kv Y (.fieldAddr Y Lq) (.hh Y (.storeRd (sz := 12) (j := k * 12 + 6) Y Y ?hv46 CC ?ho47 ?hi48) ?_))))))))))))))))
   case hv46 => first | rfl | assumption
   case ho47 => omega
   case hi48 => omega
   rintro v L' rfl
   refine D.ph (.fin (.slCast (T := 68) (sz := 12) (m' := l.length) (xs' := ((l.set k (l[k].1, (l[k].2.1, { l[k].2.2 with data := y.data }))).set k (l[k].1, (l[k].2.1, { l[k].2.2 with data := y.data, st := { l[k].2.2.st with ver := y.num } }))).flatMap Es) O Y (DC (f := Es) (sz := 12) (fun _ => Y) (by simpa using hkl) dQ (by rw [getElem_set_self]; rfl)) ?_))
   rw [set_set]
   refine .then_n (.sm Y (.nf Y BF (.u (.ld Y CS) (.m Y (.m Y (.q (.indexAddr Y Y B0 om) Y (.fa Y IM (.fa Y MA (.oq (.storeRd (sz := 12) (j := k * 12 + 4) Y Y ?hv58 CC ?ho59 ?hi60) ?_)))))))))
   case hv58 => first | rfl | assumption
   case ho59 => omega
   case hi60 => omega
   rintro v L' rfl
   refine .nil (.slCast (T := 68) (sz := 12) (m' := l.length) (xs' := ((l.set k (l[k].1, (l[k].2.1, { l[k].2.2 with data := y.data, st := { l[k].2.2.st with ver := y.num } }))).set k (l[k].1, (l[k].2.1, F0 y.data y.num zx l[k].2.2))).flatMap Es) O Y (DC (f := Es) (sz := 12) (fun _ => Y) (by simpa using hkl) dQ (by rw [getElem_set_self]; rfl)) ?_)
   rw [set_set]
   refine .bigSet (y := (l[k].1, (l[k].2.1, F0 y.data y.num zx l[k].2.2))) hkl (by rfl) O (.rtFold (x := x) (τ := ({ τ with nodes := amod τ.nodes y.path (F0 y.data y.num zx) } : Tr)) (l := (l.set k (l[k].1, (l[k].2.1, F0 y.data y.num zx l[k].2.2)))) (Pc hl hnd hkl hlk (F0 y.data y.num zx) Y) O Y (by simp) Y Y Y (.then_n (.sr (.fa Y A7 (.u (.ld Y Ak) (.m Y (.q (.build (us := [(0, _), (1, _), (2, _)]) Fa Bt Y Y (by simp [AB])) Y (.oq (.buildSlice (vs := [_]) DP Bt Y Y Y Y cQ dQ) ?_))))))))
   rintro v L' ⟨bo, rfl, rfl⟩
   refine .a Y (.nil (.slMakeN 3 1 (b := bo) (xs := ([(3, (y.path, zx))] : List Ev).flatMap BV) O Y Y (.then_n (.ret (.blk_r (.then_r ?_))))))
   have hc : AJ τ y zx = (({ τ with nodes := amod τ.nodes y.path (F0 y.data y.num zx) } : Tr), [(3, (y.path, zx))]) := by unfold AJ; rw [if_neg h14, if_neg h20, if_pos ⟨h26, CB.1 h29⟩]
   refine .rfCast (x := x) (τ' := (AJ τ y zx).1) O (by rw [hc]) (.slCast (T := 50) (sz := 3) (m' := (AJ τ y zx).2.length) (xs' := (AJ τ y zx).2.flatMap BV) O (by (rw [hc]; try rfl)) (by (rw [hc]; try rfl)) ?_)
   exact .dn Y Y ⟨_, _, by (rw [hc]; try rfl), rfl⟩
  refine .skip (.blk_n (.then_n (.sr (.an Y (.ret (.add (AO 50 3) ?_))))))
  have hc : AJ τ y zx = (τ, []) := by unfold AJ; rw [if_neg h14, if_neg h20, if_neg (fun g => h29 (CB.2 g.2)), if_neg (fun g => h29 (CB.2 g.2))]
  refine .rfCast (x := x) (τ' := (AJ τ y zx).1) O (by rw [hc]) (.slCast (T := 50) (sz := 3) (m' := (AJ τ y zx).2.length) (xs' := (AJ τ y zx).2.flatMap BV) O (by (rw [hc]; try rfl)) (by (rw [hc]; try rfl)) ?_)
  exact .dn Y Y ⟨_, _, by (rw [hc]; try rfl), rfl⟩
 refine .sr (.ui Y Y Y (.an Y (.condD Y (fun h63 => ?_) (fun h63 => ?_))))
 ·refine .sm Y (.ui Y Y Y (.nt (.condD Y (fun h66 => ?_) (fun h66 => ?_))))
  ·obtain ⟨k, hk, hpk, hkp⟩ := Gh (l := τ.nodes) h66
   have hpz : HT τ y.path = k := hpk
   rw [hpz]
   refine .rtOpen (x := x) (τ := τ) O fun an cn as1 cs l hl => ?_
   have hll := DD hl
   have hkl : k < l.length := by omega
   have hlk : l[k].1 = y.path := by have := E8 hl hkl; rw [← hkp]; simp only [this]
   refine .slShape (T := 68) (sz := 12) (v := .slice an l.length cn) (xs := l.flatMap Es) O om fun bn bn' e0 mbn _ => ?_
   simp only [Value.slice.injEq, true_and] at e0
   obtain ⟨rfl, rfl⟩ := e0
   refine .seq (.draw [7, 10] [[0, 1, 2, 3, 4, 5, 6, 7], [8, 9, 10]] mixed kQ (.go [Ad bx _ _, Ad x _ _] O (.k Y (.move Y) (.k Y (.nilp Y) (.k Y (.fieldAddr Y BF) (.k Y (.ld Y CS) (.k Y (.move Y) (.kv Y (.fieldAddr Y GN) (.kv Y (.ld Y Ft) (.hh Y (.c func66 [_] (I3 y.aclV y.acl p hy.acl hfew)) ?_))))))))))
   rintro v L' ⟨⟨a15, c15, rfl⟩, rfl⟩
   refine D.ph (.g0 (.kv Y (.indexAddr Y Y B0 om) (.kv Y (.fieldAddr Y Y6) (.hh Y (.storeRd (sz := 12) (j := k * 12 + 2) Y Y ?hv81 P6 ?ho82 ?hi83) ?_))))
   case hv81 => first | rfl | assumption
   case ho82 => omega
   case hi83 => omega
   rintro v L' rfl
   refine D.ph (.fin (.slCast (T := 68) (sz := 12) (m' := l.length) (xs' := (l.set k (l[k].1, (.slice a15 y.acl.length c15, { l[k].2.2 with acl := y.acl }))).flatMap Es) O Y (DC (f := Es) (sz := 12) (fun _ => Y) (by simpa using hkl) dQ (by rfl)) (.then_n (.draw [10] [[0, 1, 2, 3, 4, 5, 6, 7, 8, 9, 10]] mixed kQ (.g0 (.mv Y Y (.nf Y Y Y BF (.kv Y (.ld Y CS) (.mv Y Y (.kv Y (.fieldAddr Y Cl) (.kv Y (.ld Y AR) (.kv Y (.indexAddr Y Y B0 om) (.kv Y (.fieldAddr Y IM) (.kv Y (.fieldAddr Y PK) (.hh Y (.storeRd (sz := 12) (j := k * 12 + 8) Y Y ?hv94 CC ?ho95 ?hi96) ?_)))))))))))))))
   case hv94 => first | rfl | assumption
   case ho95 => omega
   case hi96 => omega
   rintro v L' rfl
   refine D.ph (.fin (.slCast (T := 68) (sz := 12) (m' := l.length) (xs' := ((l.set k (l[k].1, (.slice a15 y.acl.length c15, { l[k].2.2 with acl := y.acl }))).set k (l[k].1, (.slice a15 y.acl.length c15, FT y.acl y.num l[k].2.2))).flatMap Es) O Y (DC (f := Es) (sz := 12) (fun _ => Y) (by simpa using hkl) dQ (by rw [getElem_set_self]; rfl)) ?_))
   rw [set_set]
   refine .toRd (v := .slice a15 y.acl.length c15) O (.bigRep (l[k].1, (.slice a15 y.acl.length c15, FT y.acl y.num l[k].2.2)) hkl (p := rdO 2 (.slice a15 y.acl.length c15) y.acl.length (y.acl.flatMap CO)) Y O (.rtFold (x := x) (τ := ({ τ with nodes := amod τ.nodes y.path (FT y.acl y.num) } : Tr)) (l := (l.set k (l[k].1, (.slice a15 y.acl.length c15, FT y.acl y.num l[k].2.2)))) (Pc hl hnd hkl hlk (FT y.acl y.num) Y) O Y (by simp) Y Y Y (.blk_n (.then_n (.sr (.an Y (.ret (.add (AO 50 3) ?_))))))))
   have hc : AJ τ y zx = (({ τ with nodes := amod τ.nodes y.path (FT y.acl y.num) } : Tr), []) := by unfold AJ; rw [if_neg h14, if_neg h20, if_neg (fun g => h26 g.1), if_pos ⟨h63, CB.1 h66⟩]
   refine .rfCast (x := x) (τ' := (AJ τ y zx).1) O (by rw [hc]) (.slCast (T := 50) (sz := 3) (m' := (AJ τ y zx).2.length) (xs' := (AJ τ y zx).2.flatMap BV) O (by (rw [hc]; try rfl)) (by (rw [hc]; try rfl)) ?_)
   exact .dn Y Y ⟨_, _, by (rw [hc]; try rfl), rfl⟩
  refine .skip (.blk_n (.then_n (.sr (.an Y (.ret (.add (AO 50 3) ?_))))))
  have hc : AJ τ y zx = (τ, []) := by unfold AJ; rw [if_neg h14, if_neg h20, if_neg (fun g => h26 g.1), if_neg (fun g => h66 (CB.2 g.2))]
  refine .rfCast (x := x) (τ' := (AJ τ y zx).1) O (by rw [hc]) (.slCast (T := 50) (sz := 3) (m' := (AJ τ y zx).2.length) (xs' := (AJ τ y zx).2.flatMap BV) O (by (rw [hc]; try rfl)) (by (rw [hc]; try rfl)) ?_)
  exact .dn Y Y ⟨_, _, by (rw [hc]; try rfl), rfl⟩
 refine .skip (.blk_n (.then_n (.sr (.an Y (.ret (.add (AO 50 3) ?_))))))
 have hc : AJ τ y zx = (τ, []) := by unfold AJ; rw [if_neg h14, if_neg h20, if_neg (fun g => h26 g.1), if_neg (fun g => h63 g.1)]
 refine .rfCast (x := x) (τ' := (AJ τ y zx).1) O (by rw [hc]) (.slCast (T := 50) (sz := 3) (m' := (AJ τ y zx).2.length) (xs' := (AJ τ y zx).2.flatMap BV) O (by (rw [hc]; try rfl)) (by (rw [hc]; try rfl)) ?_)
 exact .dn Y Y ⟨_, _, by (rw [hc]; try rfl), rfl⟩
theorem Gg (z : Int × (Int × Bs)) : ∀ y ∈ (Value.agg (IC z).toArray).cells.toList, AB y = true := by
 intro v hv
 simp only [Value.cells, IC, mem_cons, not_mem_nil, or_false] at hv
 rcases hv with rfl | rfl | rfl <;> rfl
theorem IJ (l : Im) : ∀ y ∈ l.flatMap IC, AB y = true := by
 intro y hy
 obtain ⟨a, -, h⟩ := mem_flatMap.1 hy
 simp only [IC, mem_cons, not_mem_nil, or_false] at h
 rcases h with rfl | rfl | rfl <;> rfl
theorem MT (x : Nat) (τ : Tr) (id : Int) (hN : τ.sess.length ≤ 1073741824) : Fn prog 37 #[AI x, AA id] [DV x τ] fun v L => v = .tuple #[] ∧ L = [DV x (dropS τ id)] := by
 refine Fn.intro func37 Y Y fun F W => ?_
 refine .rtOpen (x := x) (τ := τ) O fun an cn as1 cs l hl => (.add (AO 102 3) (.sr (.an Y (.seq (.sr (.an Y (.block (.loopK (ι := Nat × Value) (fun q E => (5, AA q.1) :: (4, q.2) :: E) (fun q => [rsR q.2 ((τ.sess.take q.1).filter fun w => !decide (w.1 = id))]) (fun q => q.1 ≤ τ.sess.length ∧ ∃ a c, q.2 = .slice a ((τ.sess.take q.1).filter fun w => !decide (w.1 = id)).length c) (fun q => τ.sess.length - q.1) (0, .slice none 0 0) (ts := [0, 1]) O (⟨Nat.zero_le _, none, 0, Y⟩) O O ?_))))))))
 rintro ⟨i, u⟩ ⟨hi, au, cu, hu⟩
 dsimp only
 dsimp only at hi hu
 subst hu
 have hfl := length_filter_le (fun w : Int × (Int × Bs) => !decide (w.1 = id)) (τ.sess.take i)
 rw [length_take] at hfl
 refine .seq (.sm Y (.m Y (.nf Y DH (.u (.ld Y Hb) (.q (.slen Y underlying64 Y) Y (.ui Y Y Y (.nt (.condD Y (fun h12 => ?_) (fun h12 => ?_)))))))))
 ·have hi2 : i < τ.sess.length := by omega
  refine .slShape (T := 102) (sz := 3) (v := .slice as1 τ.sess.length cs) (xs := τ.sess.flatMap IC) O om fun bs bs' e0 mbs _ => ?_
  simp only [Value.slice.injEq, true_and] at e0
  obtain ⟨rfl, rfl⟩ := e0
  refine .sk (.seq (.block (.sm Y (.nf Y DH (.u (.ld Y Hb) (.m Y (.q (.indexAddr Y Y Ez om) Y (.fa Y Hk (.q (.loadRd (sz := 3) (j := i * 3 + 0) (p := rsR _ τ.sess) Y AR O (fun h hp => Aa hp) om ((PB (l := τ.sess) (i := i) (k := 0) om dQ).trans Y)) Y (.m Y (.ui Y Y Y (.nt (.condN Y (fun h24 => ?_) (fun h24 => ?_))))))))))))))
  ·refine .region (.m Y (.m Y (.nf Y DH (.u (.ld Y Hb) (.m Y (.q (.indexAddr Y Y Ez om) Y (.q (.loadRdA (sz := 3) (j := i * 3) (k := 3) (p := rsR _ τ.sess) (vs := IC τ.sess[i]) Y TL O (fun h hp => Aa hp) om om om (A5 (f := IC) (sz := 3) (fun _ _ => Y) om)) Y (.oq (.buildSlice (vs := [_]) Ez GB Y Y Y Y cQ dQ) ?_))))))))
   rintro v L' ⟨b5_8, rfl, rfl⟩
   refine .oq (.append1 Y Y Y Ez GB Y Y ?c30 ?c31 (Nat.le_refl _) ?c32 dQ) ?_
   case c30 => first | exact Gg _ | (simp only [map_cons, map_nil, flatten_cons, flatten_nil, append_nil]; exact Gg _)
   case c31 => rfl
   case c32 => first | omega | (simp; omega)
   rintro v L' ⟨⟨a5_9, c5_9, rfl⟩, rfl⟩
   refine .a Y (.nil (.blk_n (.then_n (.region (.m Y (.q (.add Y Y om) Y (.an Y ?_)))))))
   have hst : ((τ.sess.take (i + 1)).filter fun w => !decide (w.1 = id)) = ((τ.sess.take i).filter fun w => !decide (w.1 = id)) ++ [τ.sess[i]] := by rw [take_succ_eq_append_getElem hi2, filter_append]; simp [show ¬ τ.sess[i].1 = id from h24]
   rw [show ((τ.sess.take i).filter fun w => !decide (w.1 = id)).length + 1 = ((τ.sess.take (i + 1)).filter fun w => !decide (w.1 = id)).length by rw [hst, length_append]; rfl]
   refine .slCast (T := 102) (sz := 3) (m' := ((τ.sess.take (i + 1)).filter fun w => !decide (w.1 = id)).length) (xs' := ((τ.sess.take (i + 1)).filter fun w => !decide (w.1 = id)).flatMap IC) O Y (by rw [hst, flatMap_append]; simp; rfl) ?_
   exact .rk ((i + 1, .slice a5_9 ((τ.sess.take (i + 1)).filter fun w => !decide (w.1 = id)).length c5_9)) (⟨by dsimp only; omega, _, _, rfl⟩) (by dsimp only; omega) O
  refine .skip (.blk_n (.then_n (.region (.m Y (.q (.add Y Y om) Y (.an Y ?_))))))
  have hst : ((τ.sess.take (i + 1)).filter fun w => !decide (w.1 = id)) = ((τ.sess.take i).filter fun w => !decide (w.1 = id)) := by rw [take_succ_eq_append_getElem hi2, filter_append]; simp [show τ.sess[i].1 = id from h24]
  rw [← hst]
  exact .rk ((i + 1, .slice au ((τ.sess.take (i + 1)).filter fun w => !decide (w.1 = id)).length cu)) (⟨by dsimp only; omega, _, _, rfl⟩) (by dsimp only; omega) O
 have hii : i = τ.sess.length := by omega
 subst hii
 rw [take_length]
 refine .xe (.region (.m Y (.m Y (.nf Y DH (.st Y Y Y XV ?_)))))
 refine .nil (.done_n (.rtFold (x := x) (τ := (dropS τ id)) (l := l) hl O Y Y Y Y Y ?_))
 exact .vv
theorem TH (x : Nat) (τ : Tr) (id n : Int) (s : Bs) (N : Nat) (ho : τ.Ok N) (hN : τ.sess.length ≤ 1073741824) : Fn prog 35 #[AI x, .agg (IC (id, (n, s))).toArray] [DV x τ] fun v L => v = .tuple #[] ∧ L = [DV x (openS τ id n s)] := by
 refine Fn.intro func35 Y Y fun F W => ?_
 have hsl : (dropS τ id).sess.length ≤ τ.sess.length := length_filter_le _ _
 refine .sr (.oq (.box Y) ?_)
 rintro v L' ⟨bz, rfl, rfl⟩
 refine .nil (.ptCast (b := bz) (l' := IC (id, (n, s))) O Y ?_)
 refine .then_n (.sm Y (.fa Y Hk (.u (.ld Y AR) (.cv func37 [_, _] (MT x τ id hN) ?_))))
 refine .nt (.seq (.rtOpen (x := x) (τ := (dropS τ id)) O fun an cn as1 cs l hl => (.region (.slForm (T := 102) (sz := 3) (a := as1) (m := (dropS τ id).sess.length) (c := cs) O (fun e0 e1 e2 => ?_) (fun bs e0 e1 => ?_)))))
 ·subst e0
  refine .an Y (.seq (.joinK (ι := Nat) (fun q E => (4, AA q) :: E) (fun q => []) (fun q => q ≤ (dropS τ id).sess.length ∧ (∀ w ∈ ((dropS τ id).sess.take q), w.1 < id) ∧ ∀ h : q < (dropS τ id).sess.length, ¬ (dropS τ id).sess[q].1 < id) (pre := []) (ts := [0, 3]) O O ?_ ?_))
  ·refine .block (.loopK (ι := Nat) (fun q E => (4, AA q) :: E) (fun q => []) (fun q => q ≤ (dropS τ id).sess.length ∧ ∀ w ∈ ((dropS τ id).sess.take q), w.1 < id) (fun q => (dropS τ id).sess.length - q) (0) (ts := [0, 3]) O (⟨Nat.zero_le _, by simp⟩) O O ?_)
   rintro i ⟨hi, hlow⟩
   refine .seq (.seq (.draw [] [[0, 1, 2, 3, 4, 5, 6, 7, 8, 9, 10, 11, 12, 13, 14, 15, 16, 17, 18, 19]] mixed kQ (.g0 (.mv Y Y (.mv Y Y (.nf Y Y Y DH (.kv Y (.ld Y Hb) (.kv Y (.slen Y underlying64 Y) (.kv Y (.int Y Y Y) (.mv Y Y (.dec (t := 17) Y (fun h3_17 => ?_) (fun h3_17 => ?_))))))))))))
   ·exfalso; omega
   refine D.kDF (t := 16) Y h3_17 (.gz Y (.gz Y (.gz Y (.gz Y (.gz Y (.gz Y (.gz Y (.gz Y (.gz Y (.gz Y (.gz Y (.kv Y (.pickF Y Y) (.pf (.condF Y (.xe ?_)))))))))))))))
   exact .mk (i) (⟨hi, hlow, fun h => absurd h om⟩) O
  rintro i ⟨hi, hlow, hhigh⟩
  refine .seq (.add (AO 102 3) (.region (.an Y (.seq ?_))))
  have hadr : (none : Option Addr) = none ∨ ∃ b off, (none : Option Addr) = some (⟨b, off, none⟩ : Addr) := .inl rfl
  refine .region (.m Y (.m Y (.nf Y DH (.u (.ld Y Hb) (.m Y (.q (.to (v' := .slice (none : Option Addr) i cs) (.slTo (j := (i : Int)) Y Ez Y om hadr) (by rw [Int.toNat_natCast])) Y (.oq (.append (n := 0) (m := i) (ys := ((dropS τ id).sess.take i).flatMap IC) (p := Af 102 3 (.slice (none : Option Addr) (dropS τ id).sess.length cs) (dropS τ id).sess.length ((dropS τ id).sess.flatMap IC)) Y Y Y Ez (.inl ⟨_, underlying64⟩) GB Y Y ?hc24 ?hr25 ?hb26 dQ) ?_)))))))
  case hc24 => exact IJ _
  case hr25 => exact fun h hp => by have := N1 hi hp; rw [(Gd (f := IC) (sz := 3) (fun _ => rfl) _ i).1] at this; exact this
  case hb26 => omega
  rintro v L' ⟨⟨a6, c6, rfl⟩, rfl⟩; rw [Nat.zero_add, nil_append]
  refine .an Y (.sm Y (.q (.loadAs (vs := IC (id, (n, s))) Y TL O (by simp [IC]) Y) Y (.oq (.buildSlice (vs := [_]) Ez GB Y Y Y Y cQ dQ) ?_)))
  rintro v L' ⟨b7_2, rfl, rfl⟩
  refine .oq (.append1 Y Y Y Ez GB Y Y ?c32 ?c33 (Nat.le_refl _) ?c34 dQ) ?_
  case c32 => first | exact Gg _ | (simp only [map_cons, map_nil, flatten_cons, flatten_nil, append_nil]; exact Gg _)
  case c33 => rfl
  case c34 => first | omega | (simp; omega)
  rintro v L' ⟨⟨a7_3, c7_3, rfl⟩, rfl⟩
  refine .a Y (.nil (.slCast (T := 102) (sz := 3) (m' := i + 1) (xs' := (((dropS τ id).sess.take i) ++ [(id, (n, s))]).flatMap IC) O Y (by rw [flatMap_append]; simp; rfl) (.then_n (.region (.m Y (.m Y (.m Y (.nf Y DH (.u (.ld Y Hb) (.m Y (.q (.slFromO (i := (i : Int)) Y Ez Y om) Y (.oq (.append (n := i + 1) (m := (dropS τ id).sess.length - (i : Int).toNat) (ys := ((dropS τ id).sess.drop i).flatMap IC) (p := Af 102 3 (.slice (none : Option Addr) (dropS τ id).sess.length cs) (dropS τ id).sess.length ((dropS τ id).sess.flatMap IC)) Y Y Y Ez (.inl ⟨_, underlying64⟩) GB Y Y ?hc44 ?hr45 ?hb46 dQ) ?_))))))))))))
  case hc44 => exact IJ _
  case hr45 => exact fun h hp => by rw [Int.toNat_natCast]; have := K6 hi hp; rw [(Gd (f := IC) (sz := 3) (fun _ => rfl) _ i).2] at this; exact this
  case hb46 => omega
  rintro v L' ⟨⟨a8, c8, rfl⟩, rfl⟩
  refine .nf Y DH (.st Y Y Y XV ?_)
  refine .nil (.done_n ?_)
  have hfin : ((dropS τ id).sess.take i) ++ [(id, (n, s))] ++ ((dropS τ id).sess.drop i) = (openS τ id n s).sess := by rw [Tt hi hlow hhigh (fun w hw => by have := (mem_filter.1 hw).2; simpa using this), ← Of ho id n s]; rfl
  have hlen : i + 1 + ((dropS τ id).sess.length - (i : Int).toNat) = (openS τ id n s).sess.length := by rw [← hfin]; simp; omega
  refine .rtFold (x := x) (τ := (openS τ id n s)) (l := l) hl O Y Y Y hlen (by rw [← flatMap_append, hfin]) ?_
  exact .vv
 subst e0
 refine .an Y (.seq (.joinK (ι := Nat) (fun q E => (4, AA q) :: E) (fun q => []) (fun q => q ≤ (dropS τ id).sess.length ∧ (∀ w ∈ ((dropS τ id).sess.take q), w.1 < id) ∧ ∀ h : q < (dropS τ id).sess.length, ¬ (dropS τ id).sess[q].1 < id) (pre := []) (ts := [0, 3]) O O ?_ ?_))
 ·refine .block (.loopK (ι := Nat) (fun q E => (4, AA q) :: E) (fun q => []) (fun q => q ≤ (dropS τ id).sess.length ∧ ∀ w ∈ ((dropS τ id).sess.take q), w.1 < id) (fun q => (dropS τ id).sess.length - q) (0) (ts := [0, 3]) O (⟨Nat.zero_le _, by simp⟩) O O ?_)
  rintro i ⟨hi, hlow⟩
  refine .seq (.seq (.draw [] [[0, 1, 2, 3, 4, 5, 6, 7, 8, 9, 10, 11, 12, 13, 14, 15, 16, 17, 18, 19]] mixed kQ (.g0 (.mv Y Y (.mv Y Y (.nf Y Y Y DH (.kv Y (.ld Y Hb) (.kv Y (.slen Y underlying64 Y) (.kv Y (.int Y Y Y) (.mv Y Y (.dec (t := 17) Y (fun h3_17 => ?_) (fun h3_17 => ?_))))))))))))
  ·have hi2 : i < (dropS τ id).sess.length := by omega
   refine D.kDT (t := 16) Y h3_17 (.gv Y (.move Y) (.gv Y (.nilp Y) (.gv Y (.fieldAddr Y DH) (.gv Y (.ld Y Hb) (.gv Y (.move Y) (.gv Y (.indexAddr Y Y Ez om) (.gv Y (.fieldAddr Y Hk) (.gv Y (.loadRd (sz := 3) (j := i * 3 + 0) (p := rsR _ (dropS τ id).sess) Y AR O (fun h hp => Aa hp) om ((PB (l := (dropS τ id).sess) (i := i) (k := 0) om dQ).trans Y)) (.gv Y (.fieldAddr Y Hk) (.gv Y (.load Y AR O Y) (.gv Y (.int Y Y Y) (.kv Y (.pickT Y Y) (.pf (.condD Y (fun h29 => ?_) (fun h29 => ?_)))))))))))))))
   ·refine .sk (.block (.region (.m Y (.q (.add Y Y om) Y (.a Y (.nil (.blk_n (.then_n ?_))))))))
    exact .rk (i + 1) (⟨by omega, fun w hw => by rw [take_succ_eq_append_getElem hi2] at hw; rcases mem_append.1 hw with hw | hw; (exact hlow w hw); (rw [mem_singleton] at hw; rw [hw]; exact h29)⟩) om O
   refine .xe ?_
   exact .mk (i) (⟨hi, hlow, fun h => h29⟩) O
  refine D.kDF (t := 16) Y h3_17 (.gz Y (.gz Y (.gz Y (.gz Y (.gz Y (.gz Y (.gz Y (.gz Y (.gz Y (.gz Y (.gz Y (.kv Y (.pickF Y Y) (.pf (.condF Y (.xe ?_)))))))))))))))
  exact .mk (i) (⟨hi, hlow, fun h => absurd h om⟩) O
 rintro i ⟨hi, hlow, hhigh⟩
 refine .seq (.add (AO 102 3) (.region (.an Y (.seq ?_))))
 have hadr : (some (⟨bs, 0, none⟩ : Addr)) = none ∨ ∃ b off, (some (⟨bs, 0, none⟩ : Addr)) = some (⟨b, off, none⟩ : Addr) := .inr ⟨_, _, rfl⟩
 refine .region (.m Y (.m Y (.nf Y DH (.u (.ld Y Hb) (.m Y (.q (.to (v' := .slice (some (⟨bs, 0, none⟩ : Addr)) i cs) (.slTo (j := (i : Int)) Y Ez Y om hadr) (by rw [Int.toNat_natCast])) Y (.oq (.append (n := 0) (m := i) (ys := ((dropS τ id).sess.take i).flatMap IC) (p := Af 102 3 (.slice (some (⟨bs, 0, none⟩ : Addr)) (dropS τ id).sess.length cs) (dropS τ id).sess.length ((dropS τ id).sess.flatMap IC)) Y Y Y Ez (.inl ⟨_, underlying64⟩) GB Y Y ?hc83 ?hr84 ?hb85 dQ) ?_)))))))
 case hc83 => exact IJ _
 case hr84 => exact fun h hp => by have := N1 hi hp; rw [(Gd (f := IC) (sz := 3) (fun _ => rfl) _ i).1] at this; exact this
 case hb85 => omega
 rintro v L' ⟨⟨a6, c6, rfl⟩, rfl⟩; rw [Nat.zero_add, nil_append]
 refine .an Y (.sm Y (.q (.loadAs (vs := IC (id, (n, s))) Y TL O (by simp [IC]) Y) Y (.oq (.buildSlice (vs := [_]) Ez GB Y Y Y Y cQ dQ) ?_)))
 rintro v L' ⟨b7_2, rfl, rfl⟩
 refine .oq (.append1 Y Y Y Ez GB Y Y ?c91 ?c92 (Nat.le_refl _) ?c93 dQ) ?_
 case c91 => first | exact Gg _ | (simp only [map_cons, map_nil, flatten_cons, flatten_nil, append_nil]; exact Gg _)
 case c92 => rfl
 case c93 => first | omega | (simp; omega)
 rintro v L' ⟨⟨a7_3, c7_3, rfl⟩, rfl⟩
 refine .a Y (.nil (.slCast (T := 102) (sz := 3) (m' := i + 1) (xs' := (((dropS τ id).sess.take i) ++ [(id, (n, s))]).flatMap IC) O Y (by rw [flatMap_append]; simp; rfl) (.then_n (.region (.m Y (.m Y (.m Y (.nf Y DH (.u (.ld Y Hb) (.m Y (.q (.slFromO (i := (i : Int)) Y Ez Y om) Y (.oq (.append (n := i + 1) (m := (dropS τ id).sess.length - (i : Int).toNat) (ys := ((dropS τ id).sess.drop i).flatMap IC) (p := Af 102 3 (.slice (some (⟨bs, 0, none⟩ : Addr)) (dropS τ id).sess.length cs) (dropS τ id).sess.length ((dropS τ id).sess.flatMap IC)) Y Y Y Ez (.inl ⟨_, underlying64⟩) GB Y Y ?hc103 ?hr104 ?hb105 dQ) ?_))))))))))))
 case hc103 => exact IJ _
 case hr104 => exact fun h hp => by rw [Int.toNat_natCast]; have := K6 hi hp; rw [(Gd (f := IC) (sz := 3) (fun _ => rfl) _ i).2] at this; exact this
 case hb105 => omega
 rintro v L' ⟨⟨a8, c8, rfl⟩, rfl⟩
 refine .nf Y DH (.st Y Y Y XV ?_)
 refine .nil (.done_n ?_)
 have hfin : ((dropS τ id).sess.take i) ++ [(id, (n, s))] ++ ((dropS τ id).sess.drop i) = (openS τ id n s).sess := by rw [Tt hi hlow hhigh (fun w hw => by have := (mem_filter.1 hw).2; simpa using this), ← Of ho id n s]; rfl
 have hlen : i + 1 + ((dropS τ id).sess.length - (i : Int).toNat) = (openS τ id n s).sess.length := by rw [← hfin]; simp; omega
 refine .rtFold (x := x) (τ := (openS τ id n s)) (l := l) hl O Y Y Y hlen (by rw [← flatMap_append, hfin]) ?_
 exact .vv
theorem SY (x : Nat) (τ : Tr) (p : Bs) (N : Nat) (ho : τ.Ok N) (hN : N ≤ 1073741824) : Fn prog 39 #[AI x, AE p] [DV x τ] fun v L => (∃ a c, v = .slice a (Bf τ p).length c) ∧ L = [DV x τ, Af 9 1 v (Bf τ p).length (A6 (Bf τ p))] := by
 refine Fn.intro func39 Y Y fun F W => ?_
 refine .rtOpen (x := x) (τ := τ) O fun an cn as1 cs l hl => ?_
 have hll := DD hl
 have hofew := ho.few
 refine .add (AO 9 1) (.sr (.an Y (.sr (.an Y (.seq (.sr (.an Y (.block (.loopK (ι := Nat × Value) (fun q E => (6, AA q.1) :: (5, q.2) :: E) (fun q => [Af 9 1 q.2 (Dg (l.take q.1) p).length (A6 (Dg (l.take q.1) p))]) (fun q => q.1 ≤ l.length ∧ ∃ a c, q.2 = .slice a (Dg (l.take q.1) p).length c) (fun q => l.length - q.1) (0, .slice none 0 0) (ts := [0, 1, 4]) O (⟨Nat.zero_le _, none, 0, Y⟩) O O ?_)))))))))
 rintro ⟨i, u⟩ ⟨hi, au, cu, hu⟩
 dsimp only
 dsimp only at hi hu
 subst hu
 have hkl := VR (l.take i) p
 rw [length_take] at hkl
 refine .seq (.sm Y (.m Y (.nf Y BF (.u (.ld Y CS) (.q (.slen Y underlying63 Y) Y (.ui Y Y Y (.nt (.condD Y (fun h13 => ?_) (fun h13 => ?_)))))))))
 ·have hi2 : i < l.length := by omega
  have hpi : l[i].1.length ≤ 60 := by have := E8 hl hi2; have h2 := Ee (ho.able _ (getElem_mem (l := τ.nodes) (n := i) om)); rw [this] at h2; exact h2
  refine .slShape (T := 68) (sz := 12) (v := .slice an l.length cn) (xs := l.flatMap Es) O om fun bn bn' e0 mbn _ => ?_
  simp only [Value.slice.injEq, true_and] at e0
  obtain ⟨rfl, rfl⟩ := e0
  refine .sk (.seq (.block (.sm Y (.nf Y BF (.u (.ld Y CS) (.m Y (.q (.indexAddr Y Y B0 om) Y (.fa Y Cj (.q (.loadRd (sz := 12) (j := i * 12 + 0) (p := Lf _ l) Y Ak O (fun h hp => Aa hp) om ((DJ (l := l) (i := i) (k := 0) om dQ).trans Y)) Y (.u (.strne Y Y) (.m Y (.ndec (t := 25) Y (fun h5_25 => ?_) (fun h5_25 => ?_)))))))))))))
  ·refine .kNT (t := 24) Y h5_25 (.gr (.m Y (.gr (.u (.nilp Y) (.gr (.fa Y BF (.gr (.u (.ld Y CS) (.gr (.m Y (.gr (.q (.indexAddr Y Y B0 om) Y (.gr (.fa Y Cj (.gr (.q (.loadRd (sz := 12) (j := i * 12 + 0) (p := Lf _ l) Y Ak O (fun h hp => Aa hp) om ((DJ (l := l) (i := i) (k := 0) om dQ).trans Y)) Y (.gr (.cv func67 [_] (HQ l[i].1 om) ?_))))))))))))))))))
   refine .gr (.m Y (.gr (.u (.streq Y Y) (.pT Y Y (.nt (.condD Y (fun h37 => ?_) (fun h37 => ?_)))))))
   ·refine .region (.m Y (.m Y (.nf Y BF (.u (.ld Y CS) (.m Y (.q (.indexAddr Y Y B0 om) Y (.fa Y Cj (.q (.loadRd (sz := 12) (j := i * 12 + 0) (p := Lf _ l) Y Ak O (fun h hp => Aa hp) om ((DJ (l := l) (i := i) (k := 0) om dQ).trans Y)) Y (.cv func68 [_] (SZ l[i].1 om) ?_)))))))))
    refine .oq (.buildSlice1 (vs := [_]) Dr J6 Y Y Y Y Y dQ) ?_
    rintro v L' ⟨b6_10, rfl, rfl⟩
    refine .oq (.append1 Y Y Y Dr J6 Y Y ?c45 ?c46 (Nat.le_refl _) ?c47 dQ) ?_
    case c45 => (first | (simp [AB]; done) | (simp [AB, AW, Value.cells]; done))
    case c46 => rfl
    case c47 => first | omega | (simp; omega)
    rintro v L' ⟨⟨a6_11, c6_11, rfl⟩, rfl⟩
    refine .a Y (.nil (.blk_n (.then_n (.region (.m Y (.q (.add Y Y om) Y (.an Y ?_)))))))
    have hst : (Dg (l.take (i + 1)) p) = (Dg (l.take i) p) ++ [C8 l[i].1] := by unfold Dg; rw [take_succ_eq_append_getElem hi2, filter_append, map_append]; simp [show ¬ l[i].1 = [47] from h5_25, show AL l[i].1 = p from h37]
    rw [show A6 (Dg (l.take i) p) ++ [AE (C8 l[i].1)] = A6 (Dg (l.take (i + 1)) p) by rw [hst]; simp [A6], show (Dg (l.take i) p).length + 1 = (Dg (l.take (i + 1)) p).length by rw [hst, length_append]; rfl]
    exact .rk ((i + 1, .slice a6_11 (Dg (l.take (i + 1)) p).length c6_11)) (⟨by dsimp only; omega, _, _, rfl⟩) (by dsimp only; omega) O
   refine .skip (.blk_n (.then_n (.region (.m Y (.q (.add Y Y om) Y (.an Y ?_))))))
   have hst : (Dg (l.take (i + 1)) p) = (Dg (l.take i) p) := by unfold Dg; rw [take_succ_eq_append_getElem hi2, filter_append, map_append]; simp; exact fun g1 g2 => h37 g2
   rw [← hst]
   exact .rk ((i + 1, .slice au (Dg (l.take (i + 1)) p).length cu)) (⟨by dsimp only; omega, _, _, rfl⟩) (by dsimp only; omega) O
  refine .kNF (t := 24) Y h5_25 (.gk (.gk (.gk (.gk (.gk (.gk (.gk (.gk (.gk (.gk (.gk (.pF Y Y (.nt (.condF Y (.skip (.blk_n (.then_n (.region (.m Y (.q (.add Y Y om) Y (.an Y ?_)))))))))))))))))))))
  have hst : (Dg (l.take (i + 1)) p) = (Dg (l.take i) p) := by unfold Dg; rw [take_succ_eq_append_getElem hi2, filter_append, map_append]; simp; exact fun g1 _ => g1 h5_25
  rw [← hst]
  exact .rk ((i + 1, .slice au (Dg (l.take (i + 1)) p).length cu)) (⟨by dsimp only; omega, _, _, rfl⟩) (by dsimp only; omega) O
 have hii : i = l.length := by omega
 rw [hii, take_length, XA hl]
 refine .xe (.sm Y (.an Y (.ret (.rtFold (x := x) (τ := τ) (l := l) hl O Y Y Y Y Y ?_))))
 exact .dn Y Y ⟨⟨_, _, Y⟩, Y⟩
/- not in this seat -/
theorem Ip (x : Nat) (τ : Tr) (id : Int) (hn : τ.sess.length ≤ 1073741824) : Fn prog 19 #[AI x, AA id] [DV x τ] fun v L => v = AA (PM τ id) ∧ L = [DV x τ] := by
 refine Fn.intro func19 Y Y fun F W => ?_
 refine .rtOpen (x := x) (τ := τ) O fun an cn as1 cs l hl => (.sr (.an Y (.seq (.sr (.an Y (.block (.loopK (ι := Nat) (fun q E => (5, AA q) :: E) (fun q => []) (fun q => q ≤ τ.sess.length ∧ ∀ j (hj : j < q), ∀ (hj2 : j < τ.sess.length), τ.sess[j].1 ≠ id) (fun q => τ.sess.length - q) (0) (ts := [0, 1]) O (⟨Nat.zero_le _, fun j hj => by omega⟩) O O ?_)))))))
 rintro i ⟨hi, hno⟩
 refine .seq (.sm Y (.m Y (.nf Y DH (.u (.ld Y Hb) (.q (.slen Y underlying64 Y) Y (.ui Y Y Y (.nt (.condD Y (fun h12 => ?_) (fun h12 => ?_)))))))))
 ·have hi2 : i < τ.sess.length := by omega
  refine .slShape (T := 102) (sz := 3) (v := .slice as1 τ.sess.length cs) (xs := τ.sess.flatMap IC) O om fun bs bs' e0 mbs _ => ?_
  simp only [Value.slice.injEq, true_and] at e0
  obtain ⟨rfl, rfl⟩ := e0
  refine .sk (.seq (.block (.sm Y (.nf Y DH (.u (.ld Y Hb) (.m Y (.q (.indexAddr Y Y Ez om) Y (.fa Y Hk (.q (.loadRd (sz := 3) (j := i * 3 + 0) (p := rsR _ τ.sess) Y AR O (fun h hp => Aa hp) om ((PB (l := τ.sess) (i := i) (k := 0) om dQ).trans Y)) Y (.m Y (.ui Y Y Y (.nt (.condD Y (fun h24 => ?_) (fun h24 => ?_))))))))))))))
  ·refine .sm Y (.an Y (.ret (.blk_r (.then_r (.then_r (.blk_r (.then_r ?_)))))))
   have hz : PM τ id = (i : Int) := by exact AAh hi2 h24 (fun j hj => hno j hj om)
   refine .rtFold (x := x) (τ := τ) (l := l) hl O Y Y Y Y Y ?_
   exact .dn Y Y ⟨by rw [hz], rfl⟩
  refine .skip (.blk_n (.then_n (.region (.m Y (.q (.add Y Y om) Y (.an Y ?_))))))
  exact .rk (i + 1) (⟨by omega, fun j hj hj2 => by by_cases e : j = i; (subst e; exact h24); exact hno j om hj2⟩) om O
 refine .xe (.sr (.an Y (.ret ?_)))
 have hz : PM τ id = -1 := by exact WH (fun j hj => hno j om hj)
 refine .rtFold (x := x) (τ := τ) (l := l) hl O Y Y Y Y Y ?_
 exact .dn Y Y ⟨by rw [hz], rfl⟩
/- not in this seat -/
def Fg (τ : Tr) (zx : Int) (x : Pt) (subs : List Pt) : Tr × (List Ev × Int) :=
 if x.kind = 5 then (if 0 < x.own then openS τ x.own x.num x.data else τ, ([], 0))
 else if x.kind = 6 then (dropS (AH τ zx (subs.filter Ai)).1 x.own, ((AH τ zx (subs.filter Ai)).2, 0))
 else if x.kind = 7 then ((AH τ zx subs).1, ((AH τ zx subs).2, 0))
 else if x.kind = 8 then (τ, ([], x.err))
 else ((AJ τ x zx).1, ((AJ τ x zx).2, 0))
theorem To (τ : Tr) (x : Pt) (zx z : Int) : AJ (zxT τ z) x zx = (zxT (AJ τ x zx).1 z, (AJ τ x zx).2) := by
 unfold AJ Ab As
 have h : ∀ p, AQ (zxT τ z) p ↔ AQ τ p := fun p => Iff.rfl
 simp only [h]
 repeat' split
 all_goals first | rfl | contradiction
theorem Q7 (τ : Tr) (zx z : Int) (l : List Pt) : AH (zxT τ z) zx l = (zxT (AH τ zx l).1 z, (AH τ zx l).2) := by
 have key : ∀ (l : List Pt) (r : Tr × List Ev), l.foldl (fun r x => ((AJ r.1 x zx).1, r.2 ++ (AJ r.1 x zx).2)) (zxT r.1 z, r.2) = (zxT (l.foldl (fun r x => ((AJ r.1 x zx).1, r.2 ++ (AJ r.1 x zx).2)) r).1 z, (l.foldl (fun r x => ((AJ r.1 x zx).1, r.2 ++ (AJ r.1 x zx).2)) r).2) := by
  intro l
  induction l with
  | nil => intro r; rfl
  | cons x l ih =>
   intro r
   rw [foldl_cons, foldl_cons]
   dsimp only
   rw [To]
   exact ih ((AJ r.1 x zx).1, r.2 ++ (AJ r.1 x zx).2)
 exact key l (τ, [])
theorem G6 (τ : Tr) (zx : Int) (x : Pt) (subs : List Pt) : AC τ zx x subs = (zxT (Fg τ zx x subs).1 zx, (Fg τ zx x subs).2) := by
 unfold AC Fg
 dsimp only
 rw [To, Q7, Q7]
 repeat' split
 all_goals rfl
theorem K5 (x : Nat) (τ : Tr) (zx ses xid : Int) (y : Pt) (subs : List Pt) (p : HP) (hx : TxA p y subs) (N : Nat) (ho : τ.Ok N) (hN : N + subs.length + 1 ≤ 1073741824) : Fn prog 16 #[AI x, .agg ([AA zx, AA ses, AA xid] ++ A1 y).toArray] [DV x τ, p] fun v L => ∃ u e, v = .tuple #[u, AA e] ∧ e = (AC τ zx y subs).2.2 ∧ (∃ a c, u = .slice a (AC τ zx y subs).2.1.length c) ∧ L = [DV x (AC τ zx y subs).1, p, Af 50 3 u (AC τ zx y subs).2.1.length ((AC τ zx y subs).2.1.flatMap BV)] := by
 refine Fn.intro func16 Y Y fun F W => ?_
 refine .rdAny (p := p) hx.rd O fun asb csb esub _ => ?_
 have hrd := hx.rd
 rw [esub] at hrd
 have hfs := hx.few
 have hosf := ho.sfew
 refine .sr (.oq (.box Y) ?_)
 rintro v L' ⟨be, rfl, rfl⟩
 refine .a Y (.a Y (.nil (.ptCast (b := be) (l' := ([AA zx, AA ses, AA xid] ++ A1 y)) O Y ?_)))
 refine .then_n (.sr (.fa Y G7 (.q (.loadAs (vs := A1 y) Y Ay O (by simp [A1]) Y) Y (.oq (.allocA BL) ?_))))
 rintro v L' ⟨bx, rfl, rfl⟩
 refine .sa Y Y BO (by exact hx.own.all) ?_
 refine .nil (.ptCast (b := bx) (l' := A1 y) O Y ?_)
 refine .then_n (.sr (.an Y (.sr (.an Y (.seq (.sr (.fa Y Bz (.u (.ld Y AR) (.nt (.block (.sr (.ui Y Y Y (.an Y (.condD Y (fun h20 => ?_) (fun h20 => ?_)))))))))))))))
 ·refine .sr (.fa Y CV (.u (.ld Y AR) (.ui Y Y Y (.nt (.condD Y (fun h24 => ?_) (fun h24 => ?_))))))
  ·refine .region (.m Y (.fa Y CV (.u (.ld Y AR) (.fa Y Cl (.u (.ld Y AR) (.fa Y E9 (.u (.ld Y Ak) (.q (.to (v' := .agg (IC (y.own, (y.num, y.data))).toArray) (.build (us := [(0, _), (1, _), (2, _)]) ABU GB Y Y (by simp [AB])) Y) Y (.cv func35 [_, _] (TH x τ y.own y.num y.data N ho om) ?_)))))))))
   refine .nil (.blk_n (.then_n (.seq (.add (AO 50 3) ?_))))
   have hz : (AC τ zx y subs) = (zxT (openS τ y.own y.num y.data) zx, ([], 0)) := by rw [G6]; unfold Fg; rw [if_pos h20, if_pos (show 0 < y.own by omega)]
   refine .rtOpen (x := x) (τ := (openS τ y.own y.num y.data)) O fun an cn as1 cs l hl => (.region (.m Y (.fa Y Cm (.u (.ld Y AR) (.nf Y GP (.st Y Y Y CC ?_))))))
   refine .nil (.rtFold (x := x) (τ := (zxT (openS τ y.own y.num y.data) zx)) (l := l) hl O Y Y Y Y Y (.then_n (.sm Y (.m Y (.a Y (.an Y (.ret (.rfCast (x := x) (τ' := (AC τ zx y subs).1) O (by rw [hz]) (.slCast (T := 50) (sz := 3) (m' := (AC τ zx y subs).2.1.length) (xs' := (AC τ zx y subs).2.1.flatMap BV) O (by (rw [hz]; try rfl)) (by (rw [hz]; try rfl)) ?_)))))))))
   exact .dn Y Y ⟨_, _, Y, by rw [hz], ⟨_, _, by (rw [hz]; try rfl)⟩, rfl⟩
  refine .skip (.blk_n (.then_n (.seq (.add (AO 50 3) ?_))))
  have hz : (AC τ zx y subs) = (zxT (τ) zx, ([], 0)) := by rw [G6]; unfold Fg; rw [if_pos h20, if_neg (show ¬ 0 < y.own by omega)]
  refine .rtOpen (x := x) (τ := (τ)) O fun an cn as1 cs l hl => (.region (.m Y (.fa Y Cm (.u (.ld Y AR) (.nf Y GP (.st Y Y Y CC ?_))))))
  refine .nil (.rtFold (x := x) (τ := (zxT (τ) zx)) (l := l) hl O Y Y Y Y Y (.then_n (.sm Y (.m Y (.a Y (.an Y (.ret (.rfCast (x := x) (τ' := (AC τ zx y subs).1) O (by rw [hz]) (.slCast (T := 50) (sz := 3) (m' := (AC τ zx y subs).2.1.length) (xs' := (AC τ zx y subs).2.1.flatMap BV) O (by (rw [hz]; try rfl)) (by (rw [hz]; try rfl)) ?_)))))))))
  exact .dn Y Y ⟨_, _, Y, by rw [hz], ⟨_, _, by (rw [hz]; try rfl)⟩, rfl⟩
 refine .seq (.sr ?_)
 rcases Decidable.em (y.kind = 6) with hk6 | hk6
 ·refine .q (.as (v' := .bool true) (by exact congrArg Value.bool (decide_eq_true hk6)) (.int Y Y Y)) Y (.an Y (.condT Y (.sk (.condT Y (.seq (.sr (.an Y (.block (.add (AO 50 3) (.rfCast (x := x) (τ' := (AH τ zx ((subs.take 0).filter Ai)).1) O (by rw [take_zero]; rfl) (.slCast (T := 50) (sz := 3) (m' := (AH τ zx ((subs.take 0).filter Ai)).2.length) (xs' := (AH τ zx ((subs.take 0).filter Ai)).2.flatMap BV) O (by rw [take_zero]; rfl) (by rw [take_zero]; rfl) (.loopK (ι := Nat × Value) (fun q E => (9, AA q.1) :: (7, q.2) :: E) (fun q => [DV x (AH τ zx ((subs.take q.1).filter Ai)).1, Af 50 3 q.2 (AH τ zx ((subs.take q.1).filter Ai)).2.length ((AH τ zx ((subs.take q.1).filter Ai)).2.flatMap BV)]) (fun q => q.1 ≤ subs.length ∧ ∃ a c, q.2 = .slice a (AH τ zx ((subs.take q.1).filter Ai)).2.length c) (fun q => subs.length - q.1) (0, .slice none 0 0) (ts := [0, 3, 4, 5, 6, 8]) O (⟨Nat.zero_le _, none, 0, by rw [take_zero]; rfl⟩) O O ?_))))))))))))
  rintro ⟨i, u⟩ ⟨hi, au, cu, hu⟩
  dsimp only
  dsimp only at hi hu
  subst hu
  have hev := Gq τ zx ((subs.take i).filter Ai)
  have hfl := length_filter_le Ai (subs.take i)
  rw [length_take] at hfl
  have hok : (AH τ zx ((subs.take i).filter Ai)).1.Ok (N + subs.length) := (ho.parts zx _ (fun w hw => (hx.each w (mem_of_mem_take (mem_filter.1 hw).1)).few)).more om
  refine .seq (.sm Y (.fa Y Ck (.q (.as (v' := .slice asb subs.length csb) (by exact esub) (.ld Y G0)) Y (.q (.slen Y underlying58 Y) Y (.ui Y Y Y (.nt (.condD Y (fun h41 => ?_) (fun h41 => ?_))))))))
  ·have hi2 : i < subs.length := by omega
   refine .rdShape (p := p) hrd O om fun bs os e1 => ?_
   subst e1
   have hys := hx.each _ (getElem_mem hi2)
   refine .sk (.seq (.block (.sr (.fa Y Bz (.u (.ld Y AR) (.q (.as (v' := .bool false) (by exact congrArg Value.bool (decide_eq_false om)) (.int Y Y Y)) Y (.m Y (.gr (.fa Y Ck (.gr (.q (.as (v' := .slice (some ⟨bs, os, none⟩) subs.length csb) (by exact esub) (.ld Y G0)) Y (.gr (.m Y (.gr (.q (.indexAddr Y Y EO om) Y (.gr (.fa Y Bz (.gr (.q (.loadRd (sz := 8) (j := i * 8 + 0) (p := p) Y AR O hrd om ((Ec (f := A1) (sz := 8) (l := subs) (i := i) (k := 0) (fun _ _ => Y) om dQ).trans Y)) Y ?_)))))))))))))))))))
   refine .gr (.ui Y Y Y (.pF Y Y (.nt (.condD Y (fun h55 => ?_) (fun h55 => ?_)))))
   ·refine .seq (.draw [8] [[0, 1, 2, 3, 4, 5, 6, 7, 8], [9]] mixed kQ (.g0 (.mv Y Y (.kv Y (.fieldAddr Y Ck) (.kv Y (.as (v' := .slice (some ⟨bs, os, none⟩) subs.length csb) (by exact esub) (.ld Y G0)) (.mv Y Y (.kv Y (.indexAddr Y Y EO om) (.kv Y (.loadRdA (sz := 8) (j := i * 8) (k := 8) (p := p) (vs := A1 subs[i]) Y Ay O hrd (by simp) om om (A5 (f := A1) (sz := 8) (fun _ _ => Y) om)) (.kv Y (.fieldAddr Y Cm) (.kv Y (.ld Y AR) (.hh Y (.c func36 [_, _, _] (JH x (AH τ zx ((subs.take i).filter Ai)).1 subs[i] zx p hys (N + subs.length) hok om)) ?_)))))))))))
    rintro v L' ⟨a15, c15, rfl, rfl⟩
    refine D.ph (.g0 (.kv Y (.assign Y) (.pf (.region (.m Y (.m Y (.oq (.append (n := (AH τ zx ((subs.take i).filter Ai)).2.length) (m := (AJ (AH τ zx ((subs.take i).filter Ai)).1 subs[i] zx).2.length) (ys := (AJ (AH τ zx ((subs.take i).filter Ai)).1 subs[i] zx).2.flatMap BV) (p := Af 50 3 (.slice a15 (AJ (AH τ zx ((subs.take i).filter Ai)).1 subs[i] zx).2.length c15) (AJ (AH τ zx ((subs.take i).filter Ai)).1 subs[i] zx).2.length ((AJ (AH τ zx ((subs.take i).filter Ai)).1 subs[i] zx).2.flatMap BV)) Y Y Y DP (.inl ⟨_, underlying47⟩) Bt Y Y ?hc76 ?hr77 ?hb78 dQ) ?_)))))))
    case hc76 => exact IL _
    case hr77 => exact fun h hp => Aa hp
    case hb78 => have := IS (AH τ zx ((subs.take i).filter Ai)).1 subs[i] zx; omega
    rintro v L' ⟨⟨a16_2, c16_2, rfl⟩, rfl⟩
    refine .a Y (.nil (.blk_n (.then_n (.region (.m Y (.q (.add Y Y om) Y (.an Y ?_)))))))
    have hst := HY (f := Ai) hi2 (by unfold Ai; rw [decide_eq_true h55])
    refine .rfCast (x := x) (τ' := (AH τ zx ((subs.take (i + 1)).filter Ai)).1) O (by rw [hst, BP]) (.slCast (T := 50) (sz := 3) (m' := (AH τ zx ((subs.take (i + 1)).filter Ai)).2.length) (xs' := (AH τ zx ((subs.take (i + 1)).filter Ai)).2.flatMap BV) O (by rw [hst, BP]; simp) (by rw [hst, BP]; simp) ?_)
    exact .rk ((i + 1, .slice a16_2 ((AH τ zx ((subs.take i).filter Ai)).2.length + (AJ (AH τ zx ((subs.take i).filter Ai)).1 subs[i] zx).2.length) c16_2)) (⟨by dsimp only; omega, _, _, by rw [hst, BP, length_append]⟩) (by dsimp only; omega) O
   refine .skip (.blk_n (.then_n (.region (.m Y (.q (.add Y Y om) Y (.an Y ?_))))))
   have hst := Hy (f := Ai) hi2 (by unfold Ai; rw [decide_eq_false h55])
   refine .rfCast (x := x) (τ' := (AH τ zx ((subs.take (i + 1)).filter Ai)).1) O (by rw [hst]) (.slCast (T := 50) (sz := 3) (m' := (AH τ zx ((subs.take (i + 1)).filter Ai)).2.length) (xs' := (AH τ zx ((subs.take (i + 1)).filter Ai)).2.flatMap BV) O (by rw [hst]) (by rw [hst]) ?_)
   exact .rk ((i + 1, .slice au (AH τ zx ((subs.take i).filter Ai)).2.length cu)) (⟨by dsimp only; omega, _, _, by rw [hst]⟩) (by dsimp only; omega) O
  have hii : i = subs.length := by omega
  rw [hii, take_length]
  refine .xe (.sr (.fa Y Bz (.u (.ld Y AR) (.q (.as (v' := .bool true) (by exact congrArg Value.bool (decide_eq_true hk6)) (.int Y Y Y)) Y (.nt (.condT Y (.region (.m Y (.fa Y CV (.u (.ld Y AR) (.cv func37 [_, _] (MT x (AH τ zx (subs.filter Ai)).1 y.own (by have := (ho.parts zx (subs.filter Ai) (fun w hw => (hx.each w (mem_filter.1 hw).1).few)).sfew; have := length_filter_le Ai subs; omega)) ?_)))))))))))
  refine .nil (.blk_n (.then_n (.seq ?_)))
  have hz : (AC τ zx y subs) = (zxT (dropS (AH τ zx (subs.filter Ai)).1 y.own) zx, ((AH τ zx (subs.filter Ai)).2, 0)) := by rw [G6]; unfold Fg; rw [if_neg h20, if_pos hk6]
  refine .rtOpen (x := x) (τ := (dropS (AH τ zx (subs.filter Ai)).1 y.own)) O fun an cn as1 cs l hl => (.region (.m Y (.fa Y Cm (.u (.ld Y AR) (.nf Y GP (.st Y Y Y CC ?_))))))
  refine .nil (.rtFold (x := x) (τ := (zxT (dropS (AH τ zx (subs.filter Ai)).1 y.own) zx)) (l := l) hl O Y Y Y Y Y (.then_n (.sm Y (.m Y (.a Y (.an Y (.ret (.rfCast (x := x) (τ' := (AC τ zx y subs).1) O (by rw [hz]) (.slCast (T := 50) (sz := 3) (m' := (AC τ zx y subs).2.1.length) (xs' := (AC τ zx y subs).2.1.flatMap BV) O (by (rw [hz]; try rfl)) (by (rw [hz]; try rfl)) ?_)))))))))
  exact .dn Y Y ⟨_, _, Y, by rw [hz], ⟨_, _, by (rw [hz]; try rfl)⟩, rfl⟩
 refine .q (.as (v' := .bool false) (by exact congrArg Value.bool (decide_eq_false hk6)) (.int Y Y Y)) Y (.an Y (.condF Y (.region ?_)))
 rcases Decidable.em (y.kind = 7) with hk7 | hk7
 ·refine .q (.as (v' := .bool true) (by exact congrArg Value.bool (decide_eq_true hk7)) (.int Y Y Y)) Y (.an Y (.condT Y (.seq (.sr (.an Y (.block (.add (AO 50 3) (.rfCast (x := x) (τ' := (AH τ zx (subs.take 0)).1) O (by rw [take_zero]; rfl) (.slCast (T := 50) (sz := 3) (m' := (AH τ zx (subs.take 0)).2.length) (xs' := (AH τ zx (subs.take 0)).2.flatMap BV) O (by rw [take_zero]; rfl) (by rw [take_zero]; rfl) (.loopK (ι := Nat × Value) (fun q E => (9, AA q.1) :: (7, q.2) :: E) (fun q => [DV x (AH τ zx (subs.take q.1)).1, Af 50 3 q.2 (AH τ zx (subs.take q.1)).2.length ((AH τ zx (subs.take q.1)).2.flatMap BV)]) (fun q => q.1 ≤ subs.length ∧ ∃ a c, q.2 = .slice a (AH τ zx (subs.take q.1)).2.length c) (fun q => subs.length - q.1) (0, .slice none 0 0) (ts := [0, 3, 4, 5, 6, 8]) O (⟨Nat.zero_le _, none, 0, by rw [take_zero]; rfl⟩) O O ?_))))))))))
  rintro ⟨i, u⟩ ⟨hi, au, cu, hu⟩
  dsimp only
  dsimp only at hi hu
  subst hu
  have hev := Gq τ zx (subs.take i)
  have hfl := length_take_le i subs
  have hok : (AH τ zx (subs.take i)).1.Ok (N + subs.length) := (ho.parts zx _ (fun w hw => (hx.each w (mem_of_mem_take hw)).few)).more (by rw [length_take]; omega)
  refine .seq (.sm Y (.fa Y Ck (.q (.as (v' := .slice asb subs.length csb) (by exact esub) (.ld Y G0)) Y (.q (.slen Y underlying58 Y) Y (.ui Y Y Y (.nt (.condD Y (fun h41 => ?_) (fun h41 => ?_))))))))
  ·have hi2 : i < subs.length := by omega
   refine .rdShape (p := p) hrd O om fun bs os e1 => ?_
   subst e1
   have hys := hx.each _ (getElem_mem hi2)
   refine .sk (.seq (.block (.sr (.fa Y Bz (.u (.ld Y AR) (.q (.as (v' := .bool true) (by exact congrArg Value.bool (decide_eq_true hk7)) (.int Y Y Y)) Y (.m Y (.gk (.gk (.gk (.gk (.gk (.gk (.gk (.pT Y Y (.nt (.condT Y (.seq (.draw [8] [[0, 1, 2, 3, 4, 5, 6, 7, 8], [9]] mixed kQ (.g0 (.mv Y Y (.kv Y (.fieldAddr Y Ck) (.kv Y (.as (v' := .slice (some ⟨bs, os, none⟩) subs.length csb) (by exact esub) (.ld Y G0)) (.mv Y Y (.kv Y (.indexAddr Y Y EO om) (.kv Y (.loadRdA (sz := 8) (j := i * 8) (k := 8) (p := p) (vs := A1 subs[i]) Y Ay O hrd (by simp) om om (A5 (f := A1) (sz := 8) (fun _ _ => Y) om)) ?_))))))))))))))))))))))))))
   refine D.kv Y (.fieldAddr Y Cm) (.kv Y (.ld Y AR) (.hh Y (.c func36 [_, _, _] (JH x (AH τ zx (subs.take i)).1 subs[i] zx p hys (N + subs.length) hok om)) ?_))
   rintro v L' ⟨a15, c15, rfl, rfl⟩
   refine D.ph (.g0 (.kv Y (.assign Y) (.pf (.region (.m Y (.m Y (.oq (.append (n := (AH τ zx (subs.take i)).2.length) (m := (AJ (AH τ zx (subs.take i)).1 subs[i] zx).2.length) (ys := (AJ (AH τ zx (subs.take i)).1 subs[i] zx).2.flatMap BV) (p := Af 50 3 (.slice a15 (AJ (AH τ zx (subs.take i)).1 subs[i] zx).2.length c15) (AJ (AH τ zx (subs.take i)).1 subs[i] zx).2.length ((AJ (AH τ zx (subs.take i)).1 subs[i] zx).2.flatMap BV)) Y Y Y DP (.inl ⟨_, underlying47⟩) Bt Y Y ?hc126 ?hr127 ?hb128 dQ) ?_)))))))
   case hc126 => exact IL _
   case hr127 => exact fun h hp => Aa hp
   case hb128 => have := IS (AH τ zx (subs.take i)).1 subs[i] zx; omega
   rintro v L' ⟨⟨a16_2, c16_2, rfl⟩, rfl⟩
   refine .a Y (.nil (.blk_n (.then_n (.region (.m Y (.q (.add Y Y om) Y (.an Y ?_)))))))
   have hst := take_succ_eq_append_getElem hi2
   refine .rfCast (x := x) (τ' := (AH τ zx (subs.take (i + 1))).1) O (by rw [hst, BP]) (.slCast (T := 50) (sz := 3) (m' := (AH τ zx (subs.take (i + 1))).2.length) (xs' := (AH τ zx (subs.take (i + 1))).2.flatMap BV) O (by rw [hst, BP]; simp) (by rw [hst, BP]; simp) ?_)
   exact .rk ((i + 1, .slice a16_2 ((AH τ zx (subs.take i)).2.length + (AJ (AH τ zx (subs.take i)).1 subs[i] zx).2.length) c16_2)) (⟨by dsimp only; omega, _, _, by rw [hst, BP, length_append]⟩) (by dsimp only; omega) O
  have hii : i = subs.length := by omega
  rw [hii, take_length]
  refine .xe (.sr (.fa Y Bz (.u (.ld Y AR) (.q (.as (v' := .bool false) (by exact congrArg Value.bool (decide_eq_false om)) (.int Y Y Y)) Y (.nt (.condF Y (.skip (.blk_n (.then_n (.seq ?_))))))))))
  have hz : (AC τ zx y subs) = (zxT ((AH τ zx subs).1) zx, ((AH τ zx subs).2, 0)) := by rw [G6]; unfold Fg; rw [if_neg h20, if_neg hk6, if_pos hk7]
  refine .rtOpen (x := x) (τ := ((AH τ zx subs).1)) O fun an cn as1 cs l hl => (.region (.m Y (.fa Y Cm (.u (.ld Y AR) (.nf Y GP (.st Y Y Y CC ?_))))))
  refine .nil (.rtFold (x := x) (τ := (zxT ((AH τ zx subs).1) zx)) (l := l) hl O Y Y Y Y Y (.then_n (.sm Y (.m Y (.a Y (.an Y (.ret (.rfCast (x := x) (τ' := (AC τ zx y subs).1) O (by rw [hz]) (.slCast (T := 50) (sz := 3) (m' := (AC τ zx y subs).2.1.length) (xs' := (AC τ zx y subs).2.1.flatMap BV) O (by (rw [hz]; try rfl)) (by (rw [hz]; try rfl)) ?_)))))))))
  exact .dn Y Y ⟨_, _, Y, by rw [hz], ⟨_, _, by (rw [hz]; try rfl)⟩, rfl⟩
 refine .q (.as (v' := .bool false) (by exact congrArg Value.bool (decide_eq_false hk7)) (.int Y Y Y)) Y (.an Y (.condF Y (.sr (.ui Y Y Y (.an Y (.condD Y (fun h75 => ?_) (fun h75 => ?_)))))))
 ·refine .region (.fa Y IZ (.u (.ld Y Fd) (.a Y (.nil (.blk_n (.then_n (.seq (.add (AO 50 3) ?_))))))))
  have hz : (AC τ zx y subs) = (zxT (τ) zx, ([], y.err)) := by rw [G6]; unfold Fg; rw [if_neg h20, if_neg hk6, if_neg hk7, if_pos h75]
  refine .rtOpen (x := x) (τ := (τ)) O fun an cn as1 cs l hl => (.region (.m Y (.fa Y Cm (.u (.ld Y AR) (.nf Y GP (.st Y Y Y CC ?_))))))
  refine .nil (.rtFold (x := x) (τ := (zxT (τ) zx)) (l := l) hl O Y Y Y Y Y (.then_n (.sm Y (.m Y (.a Y (.an Y (.ret (.rfCast (x := x) (τ' := (AC τ zx y subs).1) O (by rw [hz]) (.slCast (T := 50) (sz := 3) (m' := (AC τ zx y subs).2.1.length) (xs' := (AC τ zx y subs).2.1.flatMap BV) O (by (rw [hz]; try rfl)) (by (rw [hz]; try rfl)) ?_)))))))))
  exact .dn Y Y ⟨_, _, Y, by rw [hz], ⟨_, _, by (rw [hz]; try rfl)⟩, rfl⟩
 refine .region (.m Y (.q (.loadAs (vs := A1 y) Y Ay O (by simp [A1]) Y) Y (.fa Y Cm (.u (.ld Y AR) (.oq (.c func36 [_, _, _] (JH x τ y zx p hx.own N ho om)) ?_)))))
 rintro v L' ⟨a5, c5, rfl, rfl⟩
 refine .a Y (.nil (.blk_n (.then_n (.seq ?_))))
 have hz : (AC τ zx y subs) = (zxT ((AJ τ y zx).1) zx, ((AJ τ y zx).2, 0)) := by rw [G6]; unfold Fg; rw [if_neg h20, if_neg hk6, if_neg hk7, if_neg h75]
 refine .rtOpen (x := x) (τ := ((AJ τ y zx).1)) O fun an cn as1 cs l hl => (.region (.m Y (.fa Y Cm (.u (.ld Y AR) (.nf Y GP (.st Y Y Y CC ?_))))))
 refine .nil (.rtFold (x := x) (τ := (zxT ((AJ τ y zx).1) zx)) (l := l) hl O Y Y Y Y Y (.then_n (.sm Y (.m Y (.a Y (.an Y (.ret (.rfCast (x := x) (τ' := (AC τ zx y subs).1) O (by rw [hz]) (.slCast (T := 50) (sz := 3) (m' := (AC τ zx y subs).2.1.length) (xs' := (AC τ zx y subs).2.1.flatMap BV) O (by (rw [hz]; try rfl)) (by (rw [hz]; try rfl)) ?_)))))))))
 exact .dn Y Y ⟨_, _, Y, by rw [hz], ⟨_, _, by (rw [hz]; try rfl)⟩, rfl⟩
theorem Z8 {l : List GE} {k : Nat} (hk : k < l.length) : ((l.flatMap Es).drop (k * 12 + 3)).take 9 = B6 l[k].2.2.st := by
 have h := A5 (f := Es) (sz := 12) (l := l) (i := k) (fun _ _ => rfl) hk
 have h2 := congrArg (List.drop 3) h
 rw [drop_take, drop_drop] at h2
 exact h2
theorem Th {β : Type} {l : List (Bs × β)} (hn : (l.map (·.1)).Nodup) {i : Nat} (hi : i < l.length) : AD l l[i].1 = some l[i].2 := CE hn (getElem_mem hi)
theorem VU {τ : Tr} {p : Bs} (h : ¬ AQ τ p) : AS τ p = st0 := by
 unfold AS Ht
 unfold AQ at h
 cases e : AD τ.nodes p with
 | none => rfl
 | some y => rw [e] at h; exact absurd rfl h
theorem VK {τ : Tr} {p : Bs} {n : Nd} (h : AD τ.nodes p = some n) : AS τ p = { n.st with len := n.data.length, kids := (Bf τ p).length } := by
 unfold AS Ht; rw [h]; rfl
theorem Qk {τ : Tr} {p : Bs} : AQ τ p ↔ ∃ n, AD τ.nodes p = some n := Option.isSome_iff_exists
theorem Ml (x : Nat) (τ : Tr) (p : Bs) (N : Nat) (ho : τ.Ok N) (hN : N ≤ 1073741824) : Fn prog 17 #[AI x, AE p] [DV x τ] fun v L => v = .tuple #[.agg (B6 (AS τ p)).toArray, .bool (decide (AQ τ p))] ∧ L = [DV x τ] := by
 refine Fn.intro func17 Y Y fun F W => ?_
 have hof := ho.few
 refine .sr (.oq (.allocA DQ) ?_)
 rintro v L' ⟨b4, rfl, rfl⟩
 refine .an Y (.sm Y (.m Y (.cv func38 [_, _] (Dk x τ p om) ?_)))
 refine .an Y (.seq (.sm Y (.ui Y Y Y (.nt (.condD Y (fun h12 => ?_) (fun h12 => ?_))))))
 ·refine .sr (.q (.to (v' := .agg (B6 st0).toArray) (.build (us := []) MM DQ Y Y (by simp [AB])) Y) Y (.sa Y Y DB (by intro v hv; simp only [B6, mem_cons, not_mem_nil, or_false] at hv; rcases hv with rfl | rfl | rfl | rfl | rfl | rfl | rfl | rfl | rfl <;> rfl) ?_))
  refine .an Y (.rt ?_)
  have hth : ¬ AQ τ p := fun g => absurd (CB.2 g) (by have h0 : CZ τ.nodes p < 0 := h12; omega)
  refine .ptCast (b := b4) (l' := B6 (AS τ p)) O (by rw [VU hth]; rfl) ?_
  exact .d2 Y (.cellA Y Eh O (by simp [B6]) Y) (.tmp Y) ⟨by rw [decide_eq_false hth]; rfl, rfl⟩
 have h12b : 0 ≤ CZ τ.nodes p := by have h0 : ¬ CZ τ.nodes p < 0 := h12; omega
 obtain ⟨k, hk, hpk, hkp⟩ := Gh (l := τ.nodes) h12b
 have hpz : HT τ p = k := hpk
 rw [hpz]
 obtain ⟨nd, hnd⟩ : ∃ nd, AD τ.nodes p = some nd := by have g2 : AD τ.nodes (τ.nodes[k]).1 = some (τ.nodes[k]).2 := Th (ho.sorted.nodup EC) (i := k) hk; rw [hkp] at g2; exact ⟨_, g2⟩
 have hsd := VK hnd
 refine .sk (.seq (.rtOpen (x := x) (τ := τ) O fun am cm as2 cs2 m hm => ?_))
 have hml := DD hm
 have hkm : k < m.length := by omega
 refine .slShape (T := 68) (sz := 12) (v := .slice am m.length cm) (xs := m.flatMap Es) O om fun bm bm' e0 mbm _ => ?_
 simp only [Value.slice.injEq, true_and] at e0
 obtain ⟨rfl, rfl⟩ := e0
 have hlk : AD τ.nodes p = some m[k].2.2 := by have g := E8 hm (i := k) hkm; have g2 : AD τ.nodes (τ.nodes[k]).1 = some (τ.nodes[k]).2 := Th (ho.sorted.nodup EC) (i := k) hk; rw [hkp, show τ.nodes[k] = (m[k].1, m[k].2.2) from g] at g2; exact g2
 have hmn : m[k].2.2 = nd := by rw [hnd] at hlk; exact (Option.some.inj hlk).symm
 refine .region (.m Y (.nf Y BF (.u (.ld Y CS) (.m Y (.q (.indexAddr Y Y B0 om) Y (.fa Y IM (.q (.loadRdA (sz := 12) (j := k * 12 + 3) (k := 9) (p := Lf _ m) (vs := B6 m[k].2.2.st) Y Eh O (fun h hp => Aa hp) (by simp) om om (Z8 hkm)) Y (.oq (.allocA DQ) ?_))))))))
 rintro v L' ⟨b7, rfl, rfl⟩
 refine .sa Y Y DB (by intro v hv; simp only [B6, mem_cons, not_mem_nil, or_false] at hv; rcases hv with rfl | rfl | rfl | rfl | rfl | rfl | rfl | rfl | rfl <;> rfl) ?_
 refine .nil (.ptCast (b := b7) (l' := B6 nd.st) O (by rw [hmn]; rfl) ?_)
 refine .then_n (.sm Y (.nf Y BF (.u (.ld Y CS) (.m Y (.q (.indexAddr Y Y B0 om) Y (.fa Y UJ (.q (.loadRd (sz := 12) (j := k * 12 + 1) (p := Lf _ m) Y Ak O (fun h hp => Aa hp) om ((DJ (l := m) (i := k) (k := 1) om dQ).trans Y)) Y (.q (.strlen Y underlying9 Y) Y (.fa Y TZ (.sw Y Y Y CC ?_))))))))))
 refine .nil (.ptCast (b := b7) (l' := B6 { nd.st with len := nd.data.length }) O (by rw [hmn]; rfl) ?_)
 refine .rtFold (x := x) (τ := τ) (l := m) hm O Y Y Y Y Y (.then_n (.sm Y (.m Y (.oq (.c func39 [_, _] (SY x τ p N ho om)) ?_))))
 rintro v L' ⟨⟨a7, c7, rfl⟩, rfl⟩
 refine .q (.slen Y underlying38 Y) Y (.fa Y On (.sw Y Y Y CC ?_))
 refine .nil (.ptCast (b := b7) (l' := B6 (AS τ p)) O (by rw [hsd]; rfl) ?_)
 refine .then_n (.sr (.q (.loadAs (vs := B6 (AS τ p)) Y Eh O (by simp [B6]) Y) Y (.sa Y Y DB (by intro v hv; simp only [B6, mem_cons, not_mem_nil, or_false] at hv; rcases hv with rfl | rfl | rfl | rfl | rfl | rfl | rfl | rfl | rfl <;> rfl) ?_)))
 refine .an Y (.ret ?_)
 have hth : AQ τ p := Qk.2 ⟨nd, hnd⟩
 refine .ptCast (b := b4) (l' := B6 (AS τ p)) O Y ?_
 exact .d2 Y (.cellA Y Eh O (by simp [B6]) Y) (.tmp Y) ⟨by rw [decide_eq_true hth]; rfl, rfl⟩
/- not in this seat -/
theorem Yl {x : Nj} (h : ∀ v ∈ Eu x.r, AB v = true) : ∀ v ∈ Yu x, AB v = true := by
 intro v hv
 unfold Yu at hv
 rcases mem_append.1 hv with hv | hv
 ·rcases mem_append.1 hv with hv | hv
  ·simp only [mem_cons, not_mem_nil, or_false] at hv
   rcases hv with rfl | rfl | rfl <;> rfl
  ·exact h v hv
 ·rw [mem_singleton] at hv; rw [hv]; rfl
theorem D8.txA {N : Nat} {e : En} {l : List En} (h : D8 N e.x e.subs) (hk : Yx e) (he : e ∈ l) (hN : N ≤ 1048576 := by decide) : TxA (Ag entR l) e.x e.subs := by
 have hr : ∀ {h : Hp}, Ag entR l h → ∃ h1, (∀ b o, h1 b = some o → h b = some o) ∧ entR e h1 := fun hp => by
  obtain ⟨h1, a1, q1⟩ := IP he hp
  exact ⟨h1, a1, q1⟩
 refine ⟨⟨fun _ hp => ?_, h.x.r.many, h.x.r.path, hk.x.2, hk.x.1⟩, fun _ hp => ?_, h.few hN, fun w hw => ⟨fun _ hp => ?_, (h.each w hw).r.many, (h.each w hw).r.path, by rw [(hk.subs w hw).2]; rfl, (hk.subs w hw).1⟩⟩
 ·obtain ⟨h1, a1, q1⟩ := hr hp; exact Ci (L8 q1) a1
 ·obtain ⟨h1, a1, q1⟩ := hr hp; exact Ci (H2 q1) a1
 ·obtain ⟨h1, a1, q1⟩ := hr hp; exact Ci (Jh q1 hw) a1
theorem No {τ : Tr} {id : Int} (h : Cg τ id) : ¬ PM τ id < 0 := by
 unfold Cg at h
 rw [Cq] at h
 unfold PM
 cases e : Dh id (τ.sess.map (·.1)) with
 | none =>
  have key : ∀ l : List Int, id ∈ l → Dh id l ≠ none := by
   intro l
   induction l with
   | nil => intro h; cases h
   | cons y l ih =>
    intro h
    unfold Dh
    split
    ·simp
    ·rcases mem_cons.1 h with rfl | h
     ·rename_i g; exact absurd rfl g
     ·simpa using ih h
  exact absurd e (key _ h)
 | some i => show ¬ (i : Int) < 0; omega
theorem OO {π : Pl} {u : B4} {r : Rq} {subs : List Rq} {x : Int} {y : Pt} {ys : List Pt} (hy : y.pl = (CP π.τ u r subs).1) {i : Int} (hi : i ≠ u.ses) (hs : Cg π.τ i) : Cg (Bl π u.ses x y ys).τ i := by
 have hk := congrArg Pt.kind hy
 have hk : y.kind = (CP π.τ u r subs).1.kind := hk
 have ho := congrArg Pt.own hy
 have ho : y.own = (CP π.τ u r subs).1.own := ho
 by_cases h6 : y.kind = 6
 ·have := LC (hk.symm.trans h6)
  exact OK h6 (by rw [ho, this]; exact hi) hs
 ·have h5 := Jn π.τ u r subs
  show (AD (AC π.τ (Cp π) y ys).1.sess i).isSome = true
  rw [KN (by rw [hk]; exact h5) h6]; exact hs
theorem MI.other {π : Pl} {s : Int} {r : Rq} {subs : List Rq} {l : List If} {π' : Pl} {x : Rp} {kids : List Bs} {e : Int} (h : MI π s r subs l π' x kids e) {i : Int} (hi : i ≠ s) (hs : Cg π.τ i) : Cg π'.τ i := by
 by_cases hse : Cg π.τ s
 ·by_cases hk : Bw r.kind = true
  ·obtain ⟨-, -, y, ys, hy, -, -, -, -, rfl, -⟩ := h.chg hse hk
   exact OO (u := ⟨s, π.ids s⟩) hy hi hs
  ·obtain ⟨-, rfl, -⟩ := h.rd hse hk
   rw [(Kr π s r l).1]; exact hs
 ·obtain ⟨-, rfl, -⟩ := h.gone hse
  exact hs
theorem Uz {π : Pl} {n : Nat} (hB : Hf π n) {t i : Int} (hs : Cg π.τ i) : Cg (JN π t).1.τ i := by
 unfold JN
 split
 ·exact hs
 ·have hop := hB.op
  show (AD (AC π.τ (Cp π) (Dz (π.opened + 1) t) []).1.sess i).isSome = true
  have e5 : (AC π.τ (Cp π) (Dz (π.opened + 1) t) []).1 = ⟨π.τ.nodes, sset π.τ.sess (π.opened + 1) (min (max t 4) 60, []), Cp π⟩ := by
   unfold AC
   dsimp only
   rw [if_pos (by rfl), if_pos (by show 0 < π.opened + 1; omega)]
   rfl
  rw [e5]
  dsimp only
  rw [GF]
  split
  ·rfl
  ·exact hs
def ABD (π : Pl) (s : Int) (π' : Pl) (e : Int) : Prop := (¬ Cg π.τ s ∧ e = 67 ∧ π' = π) ∨ (Cg π.τ s ∧ e = 0 ∧ ∃ y ys, y.pl = (CP π.τ ⟨s, []⟩ M4 []).1 ∧ ys.map Pt.pl = (CP π.τ ⟨s, []⟩ M4 []).2 ∧ (AB y.aclV = true ∧ ∃ a c, y.subsV = .slice a ys.length c) ∧ (∀ z ∈ ys, AB z.aclV = true ∧ z.subsV = AF) ∧ π' = Bl π s 0 y ys)
theorem ABD.keeps {π π' : Pl} {s e : Int} (h : ABD π s π' e) {q : HP} (hT : GD q) {n : Nat} (hB : Hf π n) (hn : n ≤ 4096) (hs : 1 ≤ s ∧ s ≤ 5) (hQ : Lx π) : Hf π' (n + 1) ∧ Lx π' ∧ ∀ i, i ≠ s → Cg π.τ i → Cg π'.τ i := by
 rcases h with ⟨-, -, rfl⟩ | ⟨hse, -, y, ys, hy, hys, hc, hcs, rfl⟩
 ·exact ⟨hB.more om, hQ, fun i _ g => g⟩
 ·have hs64 : Az s := ⟨by omega, by omega⟩
  have hz : Az (Cp π) := by
   have := hB.ord
   unfold Cp; exact ⟨by omega, by omega⟩
  have hG := (Ro hB.ok (AAQ hT hs64)).of hy hys
  refine ⟨hB.put om _ _ hG om fun h5 => ?_, hQ.txn (u := ⟨s, []⟩) hs hse hz Az.zero hy hys (hG.up om) hc hcs, fun i hi g => OO (u := ⟨s, []⟩) hy hi g⟩
  have hk5 := congrArg Pt.kind hy
  exact absurd (hk5.symm.trans (show y.pl.kind = 5 from h5)) (Jn _ _ _ _)
theorem Lx.evs {π : Pl} (h : Lx π) (s : Int) : Lx (VO π s) := h.same rfl rfl
theorem W7 {π : Pl} (hQ : Lx π) {N : Nat} (ho : π.τ.Ok N) {j : Nat} (hj : j < π.τ.nodes.length) : (AS π.τ π.τ.nodes[j].1).own = 0 ∨ Cg π.τ (AS π.τ π.τ.nodes[j].1).own := by
 have hm : AD π.τ.nodes π.τ.nodes[j].1 = some π.τ.nodes[j].2 := CE (ho.sorted.nodup EC) (getElem_mem hj)
 have e : (AS π.τ π.τ.nodes[j].1).own = π.τ.nodes[j].2.st.own := by
  unfold AS Ht
  rw [hm]; rfl
 rw [e]
 exact hQ.own _ (getElem_mem hj)
theorem QG {τ : Tr} {N : Nat} (ho : τ.Ok N) {j : Nat} (hj : j < τ.nodes.length) : AQ τ τ.nodes[j].1 ∧ τ.nodes[j].1.length ≤ 60 :=
 ⟨(Y1 ho hj).2, Ee (ho.able _ (getElem_mem hj))⟩
theorem AAN {l m : List En} (h : l.map En.pl = m.map En.pl) {j : Nat} (hj : j < l.length) (hj2 : j < m.length) : l[j].zx = m[j].zx := by
 have h1 := getElem_of_eq h (i := j) (by rw [length_map]; exact hj)
 rw [getElem_map, getElem_map] at h1
 have h2 := congrArg En.zx h1
 exact h2
theorem Ie (ax : Option Addr) (cx : Nat) (xs : List Nj) (q : HP) (hT : GD q) (hZ : Pp q) (hS : StA q (.slice ax xs.length cx) xs) : Fn prog 6 #[.slice ax xs.length cx] [q] fun v L => v = .bool true ∧ L = [q] := by
 refine Fn.intro func6 Y Y fun F W => ?_
 have hB0 := Jv.opn dQ 60
 have hQ0 := ZA.opn Jv dQ 60
 have hs0 : Cg (JN Jx 60).1.τ 1 := by decide +kernel
 refine .sr (.an Y (.sr (.cv func7 [] (Pj q hT hZ) ?_)))
 refine .an Y (.sr (.oq (.c func8 [] (NN)) ?_))
 rintro v L' ⟨b, k, rfl, rfl⟩
 refine .an Y (.seq (.sm Y (.u (.not Y) (.m Y (.gr (.m Y (.gr (.q (.ptreq Y Y underlying25) Y (.pF Y Y (.nt (.condF Y (.sk (.sm Y (.cv func9 [_, _] (Hr b k Jx 60 0 Jv dQ) ?_))))))))))))))
 refine .m Y (.q (.as (v' := AA 1) (by rfl) (.extract Y Y)) Y (.q (.as (v' := AA 0) (by rfl) (.extract Y Y)) Y (.a Y (.an Y (.seq (.sm Y (.q (.as (v' := .bool false) (by rfl) (.int Y Y Y)) Y (.nt (.condF Y (.sk (.seq (.sr (.an Y (.block (.loopK (ι := Nat × Pl) (fun q E => (7, AA q.1) :: E) (fun q => [Pq b k q.2]) (fun q => q.1 ≤ 200 ∧ q.1 ≤ xs.length ∧ Hf q.2 (q.1 + 1) ∧ Lx q.2 ∧ Cg q.2.τ 1) (fun q => 200 - q.1) (0, (JN Jx 60).1) (ts := [0, 2, 4, 5]) O (⟨by decide, Nat.zero_le _, hB0, hQ0, hs0⟩) O O ?_)))))))))))))))
 rintro ⟨i, π⟩ ⟨hi, hix, hB, hQ, hs1⟩
 dsimp only
 dsimp only at hi hix hB hQ hs1
 refine .seq (.sm Y (.m Y (.q (.slen Y underlying22 Y) Y (.ui Y Y Y (.m Y (.dec (t := 37) Y (fun h9_37 => ?_) (fun h9_37 => ?_)))))))
 ·refine .kDT (t := 36) Y h9_37 (.gr (.m Y (.gr (.ui Y Y Y (.pT Y Y (.nt (.condD Y (fun h40 => ?_) (fun h40 => ?_))))))))
  ·have hi2 : i < xs.length := by omega
   have hi20 : i < 200 := by omega
   refine .rdShape (p := q) hS.cells O om fun bx ox e => ?_
   subst e
   have hA := hS.each _ (getElem_mem hi2) 1 ⟨by decide, by decide⟩
   have hnx := hS.nums _ (getElem_mem hi2)
   have hp4 := RI xs[i].ses (n := 4) dQ
   refine .sk (.seq (.block (.sm Y (.m Y (.q (.indexAddr Y Y AB3 om) Y (.q (.loadRdA (sz := 14) (j := i * 14) (k := 14) (p := q) (vs := Yu xs[i]) Y ABz O hS.cells (by simp [Yu, Eu]) om om (A5 (f := Yu) (sz := 14) (fun _ _ => Y) om)) Y (.oq (.allocA ABo) ?_)))))))
   rintro v L' ⟨b8, rfl, rfl⟩
   refine .sa Y Y ABp (by exact Yl hA.rqc) ?_
   refine .nil (.pc b8 (Yu xs[i]) ?_)
   refine .then_n (.sr (.fa Y Zu (.u (.ld Y AR) (.cv func11 [_, _] (K9 xs[i].ses 4 hnx.2.1 dQ) ?_))))
   refine .q (.add Y Y om) Y (.a Y (.nil ?_))
   obtain ⟨s, hse⟩ : ∃ s, s = 2 + LK xs[i].ses 4 := ⟨_, rfl⟩
   rw [← hse]
   have hA2 := hS.each _ (getElem_mem hi2) s ⟨by omega, by omega⟩
   refine .then_n (.sr (.fa Y ZG (.u (.ld Y AR) (.cv func11 [_, _] (K9 xs[i].what 9 hnx.1 dQ) ?_))))
   refine .nt (.block (.sr (.ui Y Y Y (.an Y (.condD Y (fun h59 => ?_) (fun h59 => ?_))))))
   ·refine .region (.m Y (.fa Y ZE (.u (.ld Y AR) (.cv func9 [_, _] (Hr b k π xs[i].tmo (i + 1) hB om) ?_))))
    refine .nil (.blk_n (.blk_n (.then_n (.region (.m Y (.q (.add Y Y om) Y (.an Y ?_)))))))
    exact .rk ((i + 1, (JN π xs[i].tmo).1)) (⟨by dsimp only; omega, by dsimp only; omega, hB.opn om _, hQ.opn hB om _, Uz hB hs1⟩) (by dsimp only; omega) O
   refine .sr (.ui Y Y Y (.an Y (.condD Y (fun h65 => ?_) (fun h65 => ?_))))
   ·refine .region (.m Y (.m Y (.oq (.c func18 [_, _] (Sx b k π s ⟨by omega, by omega⟩ q hT (i + 1) hB om)) ?_)))
    rintro v L' ⟨π2, e, rfl, hX, rfl⟩; have hX : ABD π s π2 e := hX
    refine .nil (.blk_n (.blk_n (.then_n (.region (.m Y (.q (.add Y Y om) Y (.an Y ?_)))))))
    have hK := hX.keeps hT hB om ⟨by omega, by omega⟩ hQ
    exact .rk ((i + 1, π2)) (⟨by dsimp only; omega, by dsimp only; omega, hK.1, hK.2.1, hK.2.2 1 om hs1⟩) (by dsimp only; omega) O
   refine .sr (.ui Y Y Y (.an Y (.condD Y (fun h70 => ?_) (fun h70 => ?_))))
   ·refine .region (.m Y (.m Y (.oq (.c func13 [_, _] (VE b k π s)) ?_)))
    rintro v L' ⟨av, cv, rfl, rfl⟩
    refine .nil (.blk_n (.blk_n (.then_n (.region (.m Y (.q (.add Y Y om) Y (.an Y ?_)))))))
    exact .rk ((i + 1, VO π s)) (⟨by dsimp only; omega, by dsimp only; omega, (hB.evs s).more om, hQ.evs s, hs1⟩) (by dsimp only; omega) O
   refine .region (.m Y (.m Y (.fa Y AAG (.q (.la (Eu xs[i].r) Y Ij) Y (.oq (.call func10 Y Y (vs := [_, _, _]) Y (FI b k π s xs[i].r xs[i].subs xs[i].arm q hA2 (fun _ => ⟨by omega, by omega⟩) (i + 1) hB om)) ?_)))))
   rintro v L' ⟨π2, x, kids, e, hC, rfl, rfl⟩
   refine .nil (.blk_n (.blk_n (.then_n (.region (.m Y (.q (.add Y Y om) Y (.an Y ?_)))))))
   exact .rk ((i + 1, π2)) (⟨by dsimp only; omega, by dsimp only; omega, hB.call om (fun _ => ⟨by omega, by omega⟩) hA2 hC, hQ.call hB om (fun _ => ⟨by omega, by omega⟩) hA2 hC, hC.other om hs1⟩) (by dsimp only; omega) O
  refine .xe (.seq ?_)
  have hB := hB.more (m := 201) om
  clear hix
  have hok := hB.ok
  have hPf : π.τ.nodes.length ≤ 64 := hQ.wi.ok.few
  refine .region (.oq (.c func14 [] (Mq)) ?_)
  rintro v L' ⟨t, rfl, rfl⟩
  refine .an Y (.sm Y (.oq (.c func15 [_] (HJ b k π 201 hB dQ (fun e he => ⟨(hQ.each e he).1, (hQ.each e he).2.1⟩))) ?_))
  rintro v L' ⟨l, al, cl, hl, hlk, rfl, rfl⟩
  refine .an Y (.seq (.seq ?_))
  have hll := MP hl
  have hol := hB.ord
  have hlt := Tq hl fun e he => (hQ.each e he).2.2
  refine .region (.an Y (.block (.loopK (ι := Nat) (fun q E => (12, AA q) :: E) (fun q => [DV t (HS Du (l.take q))]) (fun q => q ≤ l.length) (fun q => l.length - q) (0) (ts := [4, 5, 10, 11]) O (Nat.zero_le _) O O ?_)))
  rintro j hj
  refine .seq (.sm Y (.m Y (.q (.slen Y underlying54 Y) Y (.ui Y Y Y (.nt (.condD Y (fun h81 => ?_) (fun h81 => ?_)))))))
  ·have hj2 : j < l.length := by omega
   have hjz : l[j].zx = 4294967296 + (j : Int) + 1 := (AAN hl hj2 om).trans (hQ.zx j om)
   refine .slShape (T := 62) (sz := 11) (v := .slice al l.length cl) (xs := l.flatMap DE) O om fun bl bl' e0 _ _ => ?_
   simp only [Value.slice.injEq, true_and] at e0
   obtain ⟨rfl, rfl⟩ := e0
   refine .sk (.seq (.block (.seq (.sm Y (.m Y (.q (.indexAddr Y Y H5 om) Y (.fa Y Cm (.q (.loadRd (sz := 11) (j := j * 11) (p := Af 62 11 _ l.length (l.flatMap DE)) (v := AA l[j].zx) Y AR O (fun h hp => Aa hp) om ((Ec (f := DE) (sz := 11) (l := l) (i := j) (k := 0) (fun _ _ => Y) om dQ).trans Y)) Y (.m Y (.q (.add Y Y om) Y (.q (.add Y Y om) Y (.q (.as (v' := .bool false) (by exact congrArg Value.bool (by rw [hjz]; simp)) (.int Y Y Y)) Y (.nt (.condF Y (.sk (.region (.m Y (.m Y (.m Y (.q (.indexAddr Y Y H5 om) Y (.q (.loadRdA (sz := 11) (j := j * 11) (k := 11) (p := Af 62 11 _ l.length (l.flatMap DE)) (vs := DE l[j]) Y EL O (fun h hp => Aa hp) (by simp) om om (A5 (f := DE) (sz := 11) (fun _ _ => Y) om)) Y ?_)))))))))))))))))))))
   refine .oq (.call func16 Y Y (vs := [_, _]) Y (K5 t (HS Du (l.take j)) l[j].zx l[j].ses l[j].xid l[j].x l[j].subs (Ag entR l) ((hlt _ (getElem_mem hj2)).txA (hlk _ (getElem_mem hj2)) (getElem_mem hj2)) (1 + 9 * j) (X1 hlt Lg j) (by have := (hlt _ (getElem_mem hj2)).few dQ; omega))) ?_
   rintro v L' ⟨ue, ee, rfl, he, hue, rfl⟩
   refine .nil (.blk_n (.then_n (.region (.m Y (.q (.add Y Y om) Y (.an Y (.rfCast (x := t) (τ' := HS Du (l.take (j + 1))) O (by rw [take_succ_eq_append_getElem hj2, KI]; rfl) ?_)))))))
   exact .rk (j + 1) om om O
  have hje : j = l.length := by omega
  subst hje
  rw [take_length, (M1 hl).trans hQ.rep]
  refine .xe (.seq (.sr (.an Y (.block (.loopK (ι := Nat) (fun q E => (13, AA q) :: E) (fun q => [DV t π.τ]) (fun q => q ≤ π.τ.nodes.length) (fun q => π.τ.nodes.length - q) (0) (ts := [4, 5, 10, 11]) O (Nat.zero_le _) O O ?_)))))
  rintro j hj
  refine .seq (.seq (.rtOpen (x := t) (τ := π.τ) O fun an cn as1 cs m hm => ?_))
  have hml := DD hm
  refine .region (.m Y (.m Y (.nf Y BF (.u (.ld Y CS) (.q (.slen Y underlying63 Y) Y (.ui Y Y Y (.nt (.condD Y (fun h105 => ?_) (fun h105 => ?_)))))))))
  ·have hj2 : j < m.length := by omega
   refine .slShape (T := 68) (sz := 12) (v := .slice an m.length cn) (xs := m.flatMap Es) O om fun bn bn' e0 _ _ => ?_
   simp only [Value.slice.injEq, true_and] at e0
   obtain ⟨rfl, rfl⟩ := e0
   obtain ⟨P, hPe⟩ : ∃ P, P = (π.τ.nodes[j]'om).1 := ⟨_, rfl⟩
   have hmj : m[j].1 = P := (congrArg Prod.fst (E8 hm hj2)).symm.trans hPe.symm
   have hpt : AQ π.τ P ∧ P.length ≤ 60 := by rw [hPe]; exact QG hok om
   have hown : (AS π.τ P).own = 0 ∨ Cg π.τ (AS π.τ P).own := by rw [hPe]; exact W7 hQ hok om
   refine .sk (.seq (.block (.sm Y (.m Y (.nf Y BF (.u (.ld Y CS) (.m Y (.q (.indexAddr Y Y B0 om) Y (.fa Y Cj (.q (.to (v' := AE P) (.loadRd (sz := 12) (j := j * 12 + 0) (p := Lf _ m) Y Ak O (fun h hp => Aa hp) om ((DJ (l := m) (i := j) (k := 0) om dQ).trans Y)) (by rw [hmj])) Y (.rtFold (x := t) (τ := π.τ) (l := m) hm O Y Y Y Y Y (.oq (.call func17 Y Y (vs := [_, _]) Y (Ml t π.τ P _ hok dQ)) ?_))))))))))))
   rintro v L' ⟨rfl, rfl⟩; rw [decide_eq_true hpt.1]
   refine .m Y (.ex Y Y (.ex Y Y (.oq (.allocA DQ) ?_)))
   rintro v L' ⟨b14, rfl, rfl⟩
   refine .sa Y Y DB (by intro v hv; simp only [B6, mem_cons, not_mem_nil, or_false] at hv; rcases hv with rfl | rfl | rfl | rfl | rfl | rfl | rfl | rfl | rfl <;> rfl) ?_
   refine .a Y (.nil (.pc b14 (B6 (AS π.τ P)) ?_))
   refine .then_n (.seq (.rtOpen (x := t) (τ := π.τ) O fun an cn as1 cs m2 hm2 => ?_))
   have hm2l := DD hm2
   have hj3 : j < m2.length := by omega
   refine .slShape (T := 68) (sz := 12) (v := .slice an m2.length cn) (xs := m2.flatMap Es) O om fun bn2 bn2' e0 _ _ => ?_
   simp only [Value.slice.injEq, true_and] at e0
   obtain ⟨rfl, rfl⟩ := e0
   have hmj2 : m2[j].1 = P := (congrArg Prod.fst (E8 hm2 hj3)).symm.trans hPe.symm
   refine .region (.m Y (.m Y (.m Y (.nf Y BF (.u (.ld Y CS) (.m Y (.q (.indexAddr Y Y B0 om) Y (.fa Y Cj (.q (.to (v' := AE P) (.loadRd (sz := 12) (j := j * 12 + 0) (p := Lf _ m2) Y Ak O (fun h hp => Aa hp) om ((DJ (l := m2) (i := j) (k := 0) om dQ).trans Y)) (by rw [hmj2])) Y (.q (.to (v' := .agg (Eu (Hh 10 P)).toArray) (.build (us := [(0, _), (2, _)]) QK OM Y Y (by simp [AB])) Y) Y (.rtFold (x := t) (τ := π.τ) (l := m2) hm2 O Y Y Y Y Y (.oq (.call func10 Y Y (vs := [_, _, _]) Y (FI b k π 1 (Hh 10 P) [] [] q (Pe hT hZ ⟨by decide, by decide⟩ ⟨by decide, by decide⟩ om) (fun _ => ⟨by decide, by decide⟩) 201 hB dQ)) ?_))))))))))))
   rintro v L' ⟨σ, y, kids7, e7, hC7, rfl, rfl⟩; obtain ⟨he7, rfl, -, hyz, hye, -, hyst, -⟩ := N7 hC7 hs1 rfl (by show B3 10; decide)
   refine .m Y (.ex Y Y (.ex Y Y (.oq (.allocA Ca) ?_)))
   rintro v L' ⟨b16, rfl, rfl⟩
   refine .sa Y Y Bn (by exact hC7.cells) ?_
   refine .a Y (.nil (.pc b16 (BH y) ?_))
   have hr0 : BK π.τ (π.ids 1) (Hh 10 P) = 0 := Jr hok hpt.1
   rw [hr0] at hye
   rw [hr0, if_pos rfl] at hyst
   have hyst2 : y.st = AS π.τ P := hyst
   refine .then_n (.seq (.seq (.rtOpen (x := t) (τ := π.τ) O fun an cn as1 cs m3 hm3 => ?_)))
   have hm3l := DD hm3
   refine .draw [] [[0, 1, 2, 3, 4, 5, 6, 7, 8, 9, 10, 11, 12, 13, 14, 15, 16, 17, 18, 19, 20, 21]] mixed kQ (.g0 (.mv Y Y (.kv Y (.as (v' := .bool false) (by simp [he7]) (.int Y Y Y)) (.mv Y Y (.gv Y (.fieldAddr Y Ek) (.gv Y (.ld Y Fd) (.gv Y (.as (v' := .bool false) (by simp [hye]) (.int Y Y Y)) (.kv Y (.pickF Y Y) (.mv Y Y (.gv Y (.fieldAddr Y HO) (.gv Y (.to (v' := .agg (B6 (AS π.τ P)).toArray) (.loadA Y Eh O (by simp)) (by rw [← hyst2]; rfl)) (.gv Y (.la (B6 (AS π.τ P)) Y Eh) (.gv Y (.as (v' := .bool false) (by simp) (.structNe (r := decide (AS π.τ P = AS π.τ P)) Y Y kQ (AAV 9998 _ _))) (.kv Y (.pickF Y Y) (.mv Y Y (.gv Y (.fieldAddr Y Id) ?_))))))))))))))))
   refine D.gv Y (.ld Y AR) (.gv Y (.move Y) (.gv Y (.nilp Y) (.gv Y (.fieldAddr Y GP) (.gv Y (.ld Y AR) (.gv Y (.as (v' := .bool false) (by simp [hyz]) (.int Y Y Y)) (.kv Y (.pickF Y Y) (.pf (.condF Y (.sk (.seq (.rtFold (x := t) (τ := π.τ) (l := m3) hm3 O Y Y Y Y Y (.region (.fa Y IU (.u (.ld Y AR) (.ui Y Y Y (.m Y (.ndec (t := 161) Y (fun h36_161 => ?_) (fun h36_161 => ?_))))))))))))))))))
   ·refine .kNT (t := 160) Y h36_161 (.gr (.m Y (.gr (.fa Y IU (.gr (.u (.ld Y AR) (.gr (.cv func19 [_, _] (Ip t π.τ (AS π.τ P).own (by have := hok.sfew; omega)) ?_))))))))
    refine .gr (.q (.as (v' := .bool false) (by exact congrArg Value.bool (decide_eq_false (No (hown.resolve_left h36_161)))) (.int Y Y Y)) Y (.pT Y Y (.nt (.condF Y (.skip (.blk_n (.then_n (.region (.m Y (.q (.add Y Y om) Y (.an Y ?_)))))))))))
    exact .rk (j + 1) om om O
   refine .kNF (t := 160) Y h36_161 (.gk (.gk (.gk (.gk (.gk (.pF Y Y (.nt (.condF Y (.skip (.blk_n (.then_n (.region (.m Y (.q (.add Y Y om) Y (.an Y ?_)))))))))))))))
   exact .rk (j + 1) om om O
  refine .rtFold (x := t) (τ := π.τ) (l := m) hm O Y Y Y Y Y (.xe (.sm Y (.oq (.c func15 [_] (HJ b k π 201 hB dQ (fun e he => ⟨(hQ.each e he).1, (hQ.each e he).2.1⟩))) ?_)))
  rintro v L' ⟨l2, al2, cl2, hl2, hl2k, rfl, rfl⟩
  refine .q (.slen Y underlying54 Y) Y (.m Y (.q (.slen Y underlying54 Y) Y (.q (.as (v' := .bool true) (by exact congrArg Value.bool (decide_eq_true (by rw [MP hl2, hll]))) (.int Y Y Y)) Y (.an Y (.ret ?_)))))
  exact .vv
 refine .kDF (t := 36) Y h9_37 (.gk (.gk (.pF Y Y (.nt (.condF Y (.xe (.seq ?_)))))))
 have hB := hB.more (m := 201) om
 clear hix
 have hok := hB.ok
 have hPf : π.τ.nodes.length ≤ 64 := hQ.wi.ok.few
 refine .region (.oq (.c func14 [] (Mq)) ?_)
 rintro v L' ⟨t, rfl, rfl⟩
 refine .an Y (.sm Y (.oq (.c func15 [_] (HJ b k π 201 hB dQ (fun e he => ⟨(hQ.each e he).1, (hQ.each e he).2.1⟩))) ?_))
 rintro v L' ⟨l, al, cl, hl, hlk, rfl, rfl⟩
 refine .an Y (.seq (.seq ?_))
 have hll := MP hl
 have hol := hB.ord
 have hlt := Tq hl fun e he => (hQ.each e he).2.2
 refine .region (.an Y (.block (.loopK (ι := Nat) (fun q E => (12, AA q) :: E) (fun q => [DV t (HS Du (l.take q))]) (fun q => q ≤ l.length) (fun q => l.length - q) (0) (ts := [4, 5, 10, 11]) O (Nat.zero_le _) O O ?_)))
 rintro j hj
 refine .seq (.sm Y (.m Y (.q (.slen Y underlying54 Y) Y (.ui Y Y Y (.nt (.condD Y (fun h81 => ?_) (fun h81 => ?_)))))))
 ·have hj2 : j < l.length := by omega
  have hjz : l[j].zx = 4294967296 + (j : Int) + 1 := (AAN hl hj2 om).trans (hQ.zx j om)
  refine .slShape (T := 62) (sz := 11) (v := .slice al l.length cl) (xs := l.flatMap DE) O om fun bl bl' e0 _ _ => ?_
  simp only [Value.slice.injEq, true_and] at e0
  obtain ⟨rfl, rfl⟩ := e0
  refine .sk (.seq (.block (.seq (.sm Y (.m Y (.q (.indexAddr Y Y H5 om) Y (.fa Y Cm (.q (.loadRd (sz := 11) (j := j * 11) (p := Af 62 11 _ l.length (l.flatMap DE)) (v := AA l[j].zx) Y AR O (fun h hp => Aa hp) om ((Ec (f := DE) (sz := 11) (l := l) (i := j) (k := 0) (fun _ _ => Y) om dQ).trans Y)) Y (.m Y (.q (.add Y Y om) Y (.q (.add Y Y om) Y (.q (.as (v' := .bool false) (by exact congrArg Value.bool (by rw [hjz]; simp)) (.int Y Y Y)) Y (.nt (.condF Y (.sk (.region (.m Y (.m Y (.m Y (.q (.indexAddr Y Y H5 om) Y (.q (.loadRdA (sz := 11) (j := j * 11) (k := 11) (p := Af 62 11 _ l.length (l.flatMap DE)) (vs := DE l[j]) Y EL O (fun h hp => Aa hp) (by simp) om om (A5 (f := DE) (sz := 11) (fun _ _ => Y) om)) Y ?_)))))))))))))))))))))
  refine .oq (.call func16 Y Y (vs := [_, _]) Y (K5 t (HS Du (l.take j)) l[j].zx l[j].ses l[j].xid l[j].x l[j].subs (Ag entR l) ((hlt _ (getElem_mem hj2)).txA (hlk _ (getElem_mem hj2)) (getElem_mem hj2)) (1 + 9 * j) (X1 hlt Lg j) (by have := (hlt _ (getElem_mem hj2)).few dQ; omega))) ?_
  rintro v L' ⟨ue, ee, rfl, he, hue, rfl⟩
  refine .nil (.blk_n (.then_n (.region (.m Y (.q (.add Y Y om) Y (.an Y (.rfCast (x := t) (τ' := HS Du (l.take (j + 1))) O (by rw [take_succ_eq_append_getElem hj2, KI]; rfl) ?_)))))))
  exact .rk (j + 1) om om O
 have hje : j = l.length := by omega
 subst hje
 rw [take_length, (M1 hl).trans hQ.rep]
 refine .xe (.seq (.sr (.an Y (.block (.loopK (ι := Nat) (fun q E => (13, AA q) :: E) (fun q => [DV t π.τ]) (fun q => q ≤ π.τ.nodes.length) (fun q => π.τ.nodes.length - q) (0) (ts := [4, 5, 10, 11]) O (Nat.zero_le _) O O ?_)))))
 rintro j hj
 refine .seq (.seq (.rtOpen (x := t) (τ := π.τ) O fun an cn as1 cs m hm => ?_))
 have hml := DD hm
 refine .region (.m Y (.m Y (.nf Y BF (.u (.ld Y CS) (.q (.slen Y underlying63 Y) Y (.ui Y Y Y (.nt (.condD Y (fun h105 => ?_) (fun h105 => ?_)))))))))
 ·have hj2 : j < m.length := by omega
  refine .slShape (T := 68) (sz := 12) (v := .slice an m.length cn) (xs := m.flatMap Es) O om fun bn bn' e0 _ _ => ?_
  simp only [Value.slice.injEq, true_and] at e0
  obtain ⟨rfl, rfl⟩ := e0
  obtain ⟨P, hPe⟩ : ∃ P, P = (π.τ.nodes[j]'om).1 := ⟨_, rfl⟩
  have hmj : m[j].1 = P := (congrArg Prod.fst (E8 hm hj2)).symm.trans hPe.symm
  have hpt : AQ π.τ P ∧ P.length ≤ 60 := by rw [hPe]; exact QG hok om
  have hown : (AS π.τ P).own = 0 ∨ Cg π.τ (AS π.τ P).own := by rw [hPe]; exact W7 hQ hok om
  refine .sk (.seq (.block (.sm Y (.m Y (.nf Y BF (.u (.ld Y CS) (.m Y (.q (.indexAddr Y Y B0 om) Y (.fa Y Cj (.q (.to (v' := AE P) (.loadRd (sz := 12) (j := j * 12 + 0) (p := Lf _ m) Y Ak O (fun h hp => Aa hp) om ((DJ (l := m) (i := j) (k := 0) om dQ).trans Y)) (by rw [hmj])) Y (.rtFold (x := t) (τ := π.τ) (l := m) hm O Y Y Y Y Y (.oq (.call func17 Y Y (vs := [_, _]) Y (Ml t π.τ P _ hok dQ)) ?_))))))))))))
  rintro v L' ⟨rfl, rfl⟩; rw [decide_eq_true hpt.1]
  refine .m Y (.ex Y Y (.ex Y Y (.oq (.allocA DQ) ?_)))
  rintro v L' ⟨b14, rfl, rfl⟩
  refine .sa Y Y DB (by intro v hv; simp only [B6, mem_cons, not_mem_nil, or_false] at hv; rcases hv with rfl | rfl | rfl | rfl | rfl | rfl | rfl | rfl | rfl <;> rfl) ?_
  refine .a Y (.nil (.pc b14 (B6 (AS π.τ P)) ?_))
  refine .then_n (.seq (.rtOpen (x := t) (τ := π.τ) O fun an cn as1 cs m2 hm2 => ?_))
  have hm2l := DD hm2
  have hj3 : j < m2.length := by omega
  refine .slShape (T := 68) (sz := 12) (v := .slice an m2.length cn) (xs := m2.flatMap Es) O om fun bn2 bn2' e0 _ _ => ?_
  simp only [Value.slice.injEq, true_and] at e0
  obtain ⟨rfl, rfl⟩ := e0
  have hmj2 : m2[j].1 = P := (congrArg Prod.fst (E8 hm2 hj3)).symm.trans hPe.symm
  refine .region (.m Y (.m Y (.m Y (.nf Y BF (.u (.ld Y CS) (.m Y (.q (.indexAddr Y Y B0 om) Y (.fa Y Cj (.q (.to (v' := AE P) (.loadRd (sz := 12) (j := j * 12 + 0) (p := Lf _ m2) Y Ak O (fun h hp => Aa hp) om ((DJ (l := m2) (i := j) (k := 0) om dQ).trans Y)) (by rw [hmj2])) Y (.q (.to (v' := .agg (Eu (Hh 10 P)).toArray) (.build (us := [(0, _), (2, _)]) QK OM Y Y (by simp [AB])) Y) Y (.rtFold (x := t) (τ := π.τ) (l := m2) hm2 O Y Y Y Y Y (.oq (.call func10 Y Y (vs := [_, _, _]) Y (FI b k π 1 (Hh 10 P) [] [] q (Pe hT hZ ⟨by decide, by decide⟩ ⟨by decide, by decide⟩ om) (fun _ => ⟨by decide, by decide⟩) 201 hB dQ)) ?_))))))))))))
  rintro v L' ⟨σ, y, kids7, e7, hC7, rfl, rfl⟩; obtain ⟨he7, rfl, -, hyz, hye, -, hyst, -⟩ := N7 hC7 hs1 rfl (by show B3 10; decide)
  refine .m Y (.ex Y Y (.ex Y Y (.oq (.allocA Ca) ?_)))
  rintro v L' ⟨b16, rfl, rfl⟩
  refine .sa Y Y Bn (by exact hC7.cells) ?_
  refine .a Y (.nil (.pc b16 (BH y) ?_))
  have hr0 : BK π.τ (π.ids 1) (Hh 10 P) = 0 := Jr hok hpt.1
  rw [hr0] at hye
  rw [hr0, if_pos rfl] at hyst
  have hyst2 : y.st = AS π.τ P := hyst
  refine .then_n (.seq (.seq (.rtOpen (x := t) (τ := π.τ) O fun an cn as1 cs m3 hm3 => ?_)))
  have hm3l := DD hm3
  refine .draw [] [[0, 1, 2, 3, 4, 5, 6, 7, 8, 9, 10, 11, 12, 13, 14, 15, 16, 17, 18, 19, 20, 21]] mixed kQ (.g0 (.mv Y Y (.kv Y (.as (v' := .bool false) (by simp [he7]) (.int Y Y Y)) (.mv Y Y (.gv Y (.fieldAddr Y Ek) (.gv Y (.ld Y Fd) (.gv Y (.as (v' := .bool false) (by simp [hye]) (.int Y Y Y)) (.kv Y (.pickF Y Y) (.mv Y Y (.gv Y (.fieldAddr Y HO) (.gv Y (.to (v' := .agg (B6 (AS π.τ P)).toArray) (.loadA Y Eh O (by simp)) (by rw [← hyst2]; rfl)) (.gv Y (.la (B6 (AS π.τ P)) Y Eh) (.gv Y (.as (v' := .bool false) (by simp) (.structNe (r := decide (AS π.τ P = AS π.τ P)) Y Y kQ (AAV 9998 _ _))) (.kv Y (.pickF Y Y) (.mv Y Y (.gv Y (.fieldAddr Y Id) ?_))))))))))))))))
  refine D.gv Y (.ld Y AR) (.gv Y (.move Y) (.gv Y (.nilp Y) (.gv Y (.fieldAddr Y GP) (.gv Y (.ld Y AR) (.gv Y (.as (v' := .bool false) (by simp [hyz]) (.int Y Y Y)) (.kv Y (.pickF Y Y) (.pf (.condF Y (.sk (.seq (.rtFold (x := t) (τ := π.τ) (l := m3) hm3 O Y Y Y Y Y (.region (.fa Y IU (.u (.ld Y AR) (.ui Y Y Y (.m Y (.ndec (t := 161) Y (fun h36_161 => ?_) (fun h36_161 => ?_))))))))))))))))))
  ·refine .kNT (t := 160) Y h36_161 (.gr (.m Y (.gr (.fa Y IU (.gr (.u (.ld Y AR) (.gr (.cv func19 [_, _] (Ip t π.τ (AS π.τ P).own (by have := hok.sfew; omega)) ?_))))))))
   refine .gr (.q (.as (v' := .bool false) (by exact congrArg Value.bool (decide_eq_false (No (hown.resolve_left h36_161)))) (.int Y Y Y)) Y (.pT Y Y (.nt (.condF Y (.skip (.blk_n (.then_n (.region (.m Y (.q (.add Y Y om) Y (.an Y ?_)))))))))))
   exact .rk (j + 1) om om O
  refine .kNF (t := 160) Y h36_161 (.gk (.gk (.gk (.gk (.gk (.pF Y Y (.nt (.condF Y (.skip (.blk_n (.then_n (.region (.m Y (.q (.add Y Y om) Y (.an Y ?_)))))))))))))))
  exact .rk (j + 1) om om O
 refine .rtFold (x := t) (τ := π.τ) (l := m) hm O Y Y Y Y Y (.xe (.sm Y (.oq (.c func15 [_] (HJ b k π 201 hB dQ (fun e he => ⟨(hQ.each e he).1, (hQ.each e he).2.1⟩))) ?_)))
 rintro v L' ⟨l2, al2, cl2, hl2, hl2k, rfl, rfl⟩
 refine .q (.slen Y underlying54 Y) Y (.m Y (.q (.slen Y underlying54 Y) Y (.q (.as (v' := .bool true) (by exact congrArg Value.bool (decide_eq_true (by rw [MP hl2, hll]))) (.int Y Y Y)) Y (.an Y (.ret ?_)))))
 exact .vv
open Go Go.ChangeShapes Go.WideShapes Go.ChangeAt Go.RowKit
section
variable {H : Type} {enc : TypeId × Value → H} {P : Program} {W W' : World}
theorem LO (hl : laidOutB P = true) (hb : Below W.heap.size W W') (sp : Nat → Bool) : ∀ (ts : List TypeId) (vs : List Value) (ds : List (DataW H)) (p : List MemPlace), (∀ t ∈ ts, P.readableRec t = true ∧ t < P.types.size) →
  DataW.TrodAll enc P W 0 (fun _ => true) true ts vs ds p → (∀ x ∈ p, x.block < W.heap.size) → (∀ x ∈ p, sp x.block = true) → DataW.TrodAll enc P W' 0 sp true ts vs ds p
 | [], vs, ds, p, _, h, _, _ => by
  obtain ⟨rfl, rfl, rfl⟩ := trodAll_nil h
  exact h
 | t :: ts, vs, ds, p, hr, h, hlt, hsp => by
  obtain ⟨v, vs1, d, ds1, a, b, rfl, rfl, rfl, h1, h2⟩ := trodAll_cons h
  have r := hr t (by simp)
  refine ⟨a, b, WideElems.Trod_stays hl r.1 r.2 h1 (fun x hx => hb.same (hlt x (by simp [hx]))) (fun x hx => hsp x (by simp [hx])), ?_, rfl⟩
  exact LO hl hb sp ts vs1 ds1 b (fun t ht => hr t (by simp [ht])) h2 (fun x hx => hlt x (by simp [hx])) (fun x hx => hsp x (by simp [hx]))
theorem ZV {fn : Func} {s : ChangeSpec} {apart fresh handsOn again : Bool} {args : Array Value} {ds gs : List (DataW H)} {before : List MemPlace} {tb : TypeId}
  (hW : DataW.Whole enc P fn.params.toList s.vars apart W args.toList ds gs before) (hvars : s.vars = []) (hspec : ∀ gs', gs' = [] → s.fn H (ds ++ gs') = { results := [.lit (.bool true)], args := ds })
  (hres : fn.resultTypes = #[tb]) (htb : P.underlying tb = some .bool) (hl : laidOutB P = true) (hr : ∀ t ∈ fn.params.toList, P.readableRec t = true ∧ t < P.types.size) (hb : Below W.heap.size W W') :
  s.post enc P fn apart fresh handsOn again W args (.bool true) W' := by
 have hW' := hW
 have hlt := hW.lt
 obtain ⟨p, q, hA, hV, rfl, hfz, hnd⟩ := hW
 rw [hvars] at hV
 obtain ⟨rfl, rfl⟩ := trodVars_none hV
 have hs := hspec [] rfl
 have hargs : ∀ sp : Nat → Bool, (∀ x ∈ p, sp x.block = true) → DataW.TrodAll enc P W' 0 sp true fn.params.toList args.toList ds p := fun sp hsp =>
  LO hl hb sp _ _ _ _ hr hA (fun x hx => hlt x (by simp [hx])) hsp
 have hbool : ∀ (b : Nat) (sp : Nat → Bool) (hd : Bool), DataW.TrodAll enc P W' b sp hd fn.resultTypes.toList ((Value.bool true).resultList fn.resultTypes.size) [.lit (.bool true)] [] := by
  intro b sp hd
  rw [hres]
  exact trodAll_cons_mk (shut_bool htb _) trodAll_mk0
 refine ⟨ds, [], p ++ [], [], p, [], hW', ?_, ?_, ?_, hb.frame _, fun _ => ⟨ok_one hres rfl (okWide_bool_mk htb _), [.lit (.bool true)] ++ ds, [], p, ⟨p, [], ?_, ?_, by simp, ?_, ?_⟩, ?_⟩⟩
 ·rw [hs]; exact hbool _ _ _
 ·rw [hs]; exact hargs _ (fun x hx => by simpa using hlt x (by simp [hx]))
 ·rw [hs, hvars]; exact hV
 ·exact trodAll_append (hargs _ (fun _ _ => rfl)) (hbool _ _ _)
 ·rw [hvars]; exact hV
 ·intro b off hp
  rw [hb.frozen (p := ⟨b, off, none⟩) (hlt (.cell b off) (by simp [hp]))]
  exact hfz b off (by simp [hp])
 ·intro ha
  have := hnd ha
  simpa using this
 ·intro x hx _
  simp [hx]
theorem Vn {f : FuncId} {args : Array Value} (h : Fn P f args [Pd W] fun v L => v = .bool true ∧ L = [Pd W]) :
  Calls P f args W fun e W' => e = .returned (.bool true) ∧ Below W.heap.size W W' := by
 have h0 : St [Pd W] W := ⟨fun b => W.heap[b]?, fun _ => none, fun _ => .inr rfl, fun b o h => h, fun b o h => (by cases h), fun b hb => rfl, trivial⟩
 refine (h [] W h0).mono ?_
 rintro e W' ⟨v, L, ⟨rfl, rfl⟩, rfl, hs, hk⟩
 refine ⟨rfl, hk.os, hk.tape, hk.output, hk.size, fun k hk' => ?_⟩
 obtain ⟨h1, a1, hp⟩ := Ao hs
 have e1 := hp k hk'
 have : ∃ o, W.heap[k]? = some o := ⟨_, Array.getElem?_eq_getElem hk'⟩
 obtain ⟨o, ho⟩ := this
 rw [ho] at e1 ⊢
 exact a1 _ _ e1
theorem Wf {a : Addr} {len cap : Nat} {V : Nat → Value} (hc : ∀ i, i < len → W.cell? (a.add i) = some (V i)) (hle : len ≤ cap) : ∀ h : Hp, Pd W h → Cx 1 h (.slice (some a) len cap) len ((List.range len).map V) := by
 intro h hold
 rcases Nat.eq_zero_or_pos len with rfl | hpos
 ·exact .inl ⟨rfl, rfl, some a, cap, rfl⟩
 ·obtain ⟨b, off, spot⟩ := a
  have h0 := hc 0 hpos
  have e0 : (⟨b, off, spot⟩ : Addr).add 0 = ⟨b, off, spot⟩ := by simp [Addr.add]
  rw [e0] at h0
  simp only [World.cell?] at h0
  rcases hw : W.heap[b]? with _ | o
  ·rw [hw] at h0; cases h0
  ·cases o with
   | cells c T fr =>
    rw [hw] at h0
    dsimp only at h0
    split at h0
    ·cases h0
    ·rename_i hsp
     have hspot : spot = none := by simpa using hsp
     subst hspot
     have hc' : ∀ i, i < len → c[off + i]? = some (V i) := by
      intro i hi
      have := hc i hi
      have e1 : (⟨b, off, none⟩ : Addr).add i = ⟨b, off + i, none⟩ := by
       simp only [Addr.add]; split
       ·rename_i h0; simp [h0]
       ·rfl
      rw [e1] at this
      simp only [World.cell?, hw] at this
      simpa using this
     have hlt : b < W.heap.size := by
      rcases Nat.lt_or_ge b W.heap.size with h' | h'
      ·exact h'
      ·rw [Array.getElem?_eq_none h'] at hw; cases hw
     have hlen : off + len ≤ c.size := by
      have := hc' (len - 1) om
      rcases Nat.lt_or_ge (off + (len - 1)) c.size with h' | h'
      ·omega
      ·rw [Array.getElem?_eq_none h'] at this; cases this
     refine .inr ⟨b, off, cap, c.toList, T, fr, rfl, by rw [hold b hlt, hw], ?_, by simpa using hlen, hle⟩
     apply ext_getElem?
     intro i
     rw [Nat.mul_one, List.getElem?_take, List.getElem?_map, List.getElem?_drop]
     split
     ·rename_i hi
      rw [List.getElem?_range hi]
      simpa using hc' i hi
     ·rename_i hi
      rw [List.getElem?_eq_none (by simpa using hi)]; rfl
   | _ => rw [hw] at h0; cases h0
end
open Go Go.ChangeShapes Go.WideShapes Go.ChangeAt Go.RowKit
section
variable {H : Type} {enc : TypeId × Value → H} {P : Program} {W : World}
theorem QH (s : ByteArray) : Value.string s = AE s.data.toList := by cases s; rfl
end
open Go Go.ChangeShapes Go.WideShapes Go.ChangeAt Go.RowKit
section
variable {H : Type} {enc : TypeId × Value → H} {P : Program} {W : World}
theorem UH {α : Type} {sz : Nat} (f : Nat → List α) : ∀ n, (∀ i, i < n → (f i).length = sz) → ∀ j, j < n * sz → ((List.range n).flatMap f)[j]? = (f (j / sz))[j % sz]? ∧ ((List.range n).flatMap f).length = n * sz := by
 intro n
 induction n with
 | zero => intro _ j hj; omega
 | succ n ih =>
  intro hf j hj
  have hn := hf n om
  have hlen : ((List.range n).flatMap f).length = n * sz := by
   rcases Nat.eq_zero_or_pos (n * sz) with h0 | h0
   ·rcases Nat.eq_zero_or_pos n with h1 | h1
    ·subst h1; simp
    ·have : sz = 0 := by
      rcases Nat.eq_zero_or_pos sz with h2 | h2
      ·exact h2
      ·have := Nat.mul_pos h1 h2; omega
     subst this; omega
   ·exact (ih (fun i hi => hf i om) 0 h0).2
  have e : (List.range (n + 1)).flatMap f = (List.range n).flatMap f ++ f n := by simp [range_succ]
  have hm : (n + 1) * sz = n * sz + sz := by rw [Nat.add_mul, Nat.one_mul]
  rw [e]
  refine ⟨?_, by rw [length_append, hlen, hn, hm]⟩
  rcases Nat.lt_or_ge j (n * sz) with h | h
  ·rw [List.getElem?_append_left om]
   exact (ih (fun i hi => hf i om) j h).1
  ·rw [List.getElem?_append_right om, hlen]
   have hs : 0 < sz := by omega
   have h1 : j / sz = n := by
    have : j < (n + 1) * sz := hj
    have a := Nat.div_lt_of_lt_mul (show j < sz * (n + 1) by rw [Nat.mul_comm]; exact this)
    have b := (Nat.le_div_iff_mul_le hs).2 h
    omega
   have h2 : j % sz = j - n * sz := by
    have := Nat.div_add_mod j sz
    rw [h1, Nat.mul_comm] at this; omega
   rw [h1, h2]
theorem K3 {sz n c c1 : Nat} {a : Option Addr} {ys : List Value} {h : Hp} (hr : Cx 1 h (.slice a (n * sz) c1) (n * sz) ys) (hc : n ≤ c) (hs : 0 < sz) : Cx sz h (.slice a n c) n ys := by
 rcases hr with ⟨h1, h2, -⟩ | ⟨b, off, cap, l, T, fr, hv, hb, h1, h2, h3⟩
 ·have : n = 0 := by
   rcases Nat.eq_zero_or_pos n with h0 | h0
   ·exact h0
   ·have := Nat.mul_pos h0 hs; omega
  subst this
  exact .inl ⟨rfl, h2, a, c, rfl⟩
 ·simp only [Value.slice.injEq] at hv
  obtain ⟨rfl, -, -⟩ := hv
  exact .inr ⟨b, off, c, l, T, fr, rfl, hb, by rw [← h1, Nat.mul_one], by rw [Nat.mul_one] at h2; exact h2, hc⟩
abbrev BW (enc : TypeId × Value → H) (P : Program) (W : World) (fuel : Nat) (t : TypeId) (cs : List Value) (x : DataW H × List MemPlace) : Prop := DataW.trod enc P W 0 (fun _ => true) true fuel t cs = some x
theorem AAF {t : TypeId} {fuel : Nat} {cs : List Value} {x : DataW H × List MemPlace} (ht : P.underlying t = some (.int .i64)) (h : BW enc P W fuel t cs x) : ∃ n : Int, cs = [AA n] ∧ -9223372036854775808 ≤ n ∧ n ≤ 9223372036854775807 := by
 obtain ⟨n, rfl, -, hwf⟩ := DataW.trod_int ht h
 exact ⟨n, rfl, bounds_i64 hwf⟩
theorem Mw {t : TypeId} {fuel : Nat} {cs : List Value} {x : DataW H × List MemPlace} (ht : P.underlying t = some .bool) (h : BW enc P W fuel t cs x) : ∃ b : Bool, cs = [.bool b] := by
 obtain ⟨b, rfl, -⟩ := DataW.trod_bool ht h
 exact ⟨b, rfl⟩
end
open Go Go.ChangeShapes Go.WideShapes Go.ChangeAt Go.RowKit
theorem A2 {H : Type} (d : DataW H) : 1 ≤ Rows.uptoBulk d := by
 cases d with
 | lit l => cases l <;> simp [Rows.uptoBulk]
 | _ => simp [Rows.uptoBulk]
theorem Kv {H : Type} {d : DataW H} : ∀ {l : List (DataW H)}, d ∈ l → Rows.uptoBulk d ≤ Rows.uptoBulkAll l
 | x :: l, h => by
  unfold Rows.uptoBulkAll
  rcases mem_cons.1 h with rfl | h
  ·omega
  ·have := Kv h; omega
theorem Iz {H : Type} : ∀ l : List (DataW H), l.length ≤ Rows.uptoBulkAll l
 | [] => by simp
 | x :: l => by
  have h1 := A2 x
  have h2 := Iz l
  unfold Rows.uptoBulkAll
  rw [length_cons]; omega
theorem RX {H : Type} : ∀ l : List (DataW H), (l.map Rows.uptoBulk).sum ≤ Rows.uptoBulkAll l
 | [] => by simp
 | x :: l => by
  have h2 := RX l
  unfold Rows.uptoBulkAll
  rw [map_cons, sum_cons]; omega
theorem Sn {H : Type} {l : List (DataW H)} (h : Rows.uptoSmall H l = true) {d : DataW H} (hd : d ∈ l) : Rows.uptoBulk d ≤ 1048576 :=
 Nat.le_trans (Kv hd) (of_decide_eq_true h)
instance : Inhabited Value := ⟨.bool false⟩
section
variable {H : Type} {enc : TypeId × Value → H} {P : Program} {W : World} {N : Nat}
theorem Wz {t : TypeId} {fuel : Nat} {cs : List Value} {x : DataW H × List MemPlace} (ht : P.underlying t = some (.int .i64)) (h : BW enc P W fuel t cs x) : ∃ n : Int, cs = [AA n] ∧ (-9223372036854775808 ≤ n ∧ n ≤ 9223372036854775807) := by
 obtain ⟨n, h1, h2⟩ := AAF ht h; exact ⟨n, h1, h2⟩
theorem ABI {Z : Type} [Inhabited Z] (toC : Z → List Value) (Q : Z → Prop) {t e : TypeId} {sz : Nat} {fuel : Nat} {cs : List Value} {x : DataW H × List MemPlace} (ht : P.underlying t = some (.slice e)) (hc : P.cellsOf e = sz) (hs : 0 < sz)
  (hdec : ∀ (n : Nat) (cs : List Value) (y : DataW H × List MemPlace), BW enc P W n e cs y → Rows.uptoBulk y.1 ≤ N → ∃ z, cs = toC z ∧ Q z) (h : BW enc P W fuel t cs x) (hb : Rows.uptoBulk x.1 ≤ N + 1) :
  ∃ z : Value × List Z, cs = [z.1] ∧ (∀ h : Hp, Pd W h → Cx sz h z.1 z.2.length (z.2.flatMap toC)) ∧ z.2.length ≤ N ∧ ∀ y ∈ z.2, Q y := by
 subst hc
 rcases Go.Deep.open_slice ht h with ⟨rfl, rfl⟩ | ⟨a, len, cap, m, n, Dd, Pl, rfl, -, hl, hm, hmm, rfl, hx⟩
 ·exact ⟨(_, []), rfl, fun h _ => .inl ⟨rfl, rfl, none, 0, rfl⟩, by simp, by simp⟩
 ·simp only [if_true] at hmm
  subst hmm
  have hbl : len ≤ N := by
   have := Iz ((List.range len).map Dd)
   simp only [Rows.uptoBulk] at hb
   rw [length_map, length_range] at this
   omega
  have hbe : ∀ i, i < len → Rows.uptoBulk (Dd i) ≤ N := fun i hi => by
   have := Kv (d := Dd i) (l := (List.range len).map Dd) (mem_map_of_mem (by simpa using hi))
   simp only [Rows.uptoBulk] at hb
   omega
  obtain ⟨Zf, hZ⟩ := Go.Deep.choose_lt (α := Z) (p := fun i z => W.cells? 0 (a.add (i * P.cellsOf e)) (P.cellsOf e) = some (toC z) ∧ Q z) (n := len) (fun i hi => by
   obtain ⟨cs', h1, h2⟩ := hx i om
   obtain ⟨z, rfl, h3⟩ := hdec _ _ _ h2 (hbe i hi)
   exact ⟨z, h1, h3⟩)
  have hlenf : ∀ i, i < len → (toC (Zf i)).length = P.cellsOf e := fun i hi => (World.cells?_some (hZ i hi).1).2.1
  have hflat := UH (fun i => toC (Zf i)) len hlenf
  refine ⟨(_, (List.range len).map Zf), rfl, ?_, ?_, ?_⟩
  ·intro h hold
   dsimp only
   rw [length_map, length_range]
   refine K3 (c1 := len * P.cellsOf e) ?_ hl hs
   have e1 : ((List.range len).map Zf).flatMap toC = (List.range (len * P.cellsOf e)).map (fun j => ((List.range len).flatMap fun i => toC (Zf i)).getD j (.bool false)) := by
    rw [flatMap_map]
    apply ext_getElem?
    intro j
    rcases Nat.lt_or_ge j (len * P.cellsOf e) with hj | hj
    ·rw [List.getElem?_map, List.getElem?_range hj]
     have := (hflat j hj).2
     have hjl : j < ((List.range len).flatMap fun i => toC (Zf i)).length := by omega
     simp only [Option.map_some, getD_eq_getElem?_getD, List.getElem?_eq_getElem hjl, Option.getD_some]
    ·have : ((List.range len).flatMap fun i => toC (Zf i)).length = len * P.cellsOf e := by
      rcases Nat.eq_zero_or_pos (len * P.cellsOf e) with h0 | h0
      ·have : len = 0 := by
        rcases Nat.eq_zero_or_pos len with h1 | h1
        ·exact h1
        ·have := Nat.mul_pos h1 hs; omega
       subst this; simp
      ·exact (hflat 0 h0).2
     rw [List.getElem?_eq_none om, List.getElem?_eq_none (by simpa using hj)]
   rw [e1]
   refine Wf (W := W) (fun j hj => ?_) (Nat.le_refl _) h hold
   have hi : j / P.cellsOf e < len := Nat.div_lt_of_lt_mul (by rw [Nat.mul_comm]; exact hj)
   have hcell := (World.cells?_some (hZ (j / P.cellsOf e) hi).1).2.2 (j % P.cellsOf e) (Nat.mod_lt _ hs)
   rw [Addr.add_add, Nat.mul_comm, Nat.div_add_mod] at hcell
   rw [hcell]
   obtain ⟨f1, f2⟩ := hflat j hj
   rw [getD_eq_getElem?_getD, f1]
   have : j % P.cellsOf e < (toC (Zf (j / P.cellsOf e))).length := by rw [hlenf _ hi]; exact Nat.mod_lt _ hs
   simp [this]
  ·dsimp only; rw [length_map, length_range]; exact hbl
  ·intro z hz
   obtain ⟨i, hi, rfl⟩ := mem_map.1 hz
   exact (hZ i (by simpa using hi)).2
theorem LH {Z : Type} [Inhabited Z] (toC : Z → List Value) (Q : Nat → Z → Prop) {t e : TypeId} {sz : Nat} {fuel : Nat} {cs : List Value} {x : DataW H × List MemPlace} (ht : P.underlying t = some (.slice e)) (hc : P.cellsOf e = sz) (hs : 0 < sz)
  (hdec : ∀ (n : Nat) (cs : List Value) (y : DataW H × List MemPlace), BW enc P W n e cs y → ∃ z, cs = toC z ∧ Q (Rows.uptoBulk y.1) z) (h : BW enc P W fuel t cs x) (hb : Rows.uptoBulk x.1 ≤ N + 1) :
  ∃ (z : Value × List Z) (ws : List Nat), cs = [z.1] ∧ (∀ h : Hp, Pd W h → Cx sz h z.1 z.2.length (z.2.flatMap toC)) ∧ z.2.length ≤ N ∧ ws.length = z.2.length ∧ ws.sum ≤ N ∧ (∀ w ∈ ws, 1 ≤ w) ∧ ∀ i (h1 : i < z.2.length) (h2 : i < ws.length), Q ws[i] z.2[i] := by
 subst hc
 rcases Go.Deep.open_slice ht h with ⟨rfl, rfl⟩ | ⟨a, len, cap, m, n, Dd, Pl, rfl, -, hl, hm, hmm, rfl, hx⟩
 ·exact ⟨(_, []), [], rfl, fun h _ => .inl ⟨rfl, rfl, none, 0, rfl⟩, by simp, rfl, by simp, (fun _ h => by cases h), (fun i h1 _ => by simp at h1)⟩
 ·simp only [if_true] at hmm
  subst hmm
  have hbl : len ≤ N := by
   have := Iz ((List.range len).map Dd)
   simp only [Rows.uptoBulk] at hb
   rw [length_map, length_range] at this
   omega
  have hall : ((List.range len).map fun i => Rows.uptoBulk (Dd i)).sum ≤ N := by
   have := RX ((List.range len).map Dd)
   rw [map_map] at this
   simp only [Rows.uptoBulk] at hb
   have e : ((List.range len).map fun i => Rows.uptoBulk (Dd i)) = (List.range len).map (Rows.uptoBulk ∘ Dd) := rfl
   rw [e]; omega
  obtain ⟨Zf, hZ⟩ := Go.Deep.choose_lt (α := Z) (p := fun i z => W.cells? 0 (a.add (i * P.cellsOf e)) (P.cellsOf e) = some (toC z) ∧ Q (Rows.uptoBulk (Dd i)) z) (n := len) (fun i hi => by
   obtain ⟨cs', h1, h2⟩ := hx i om
   obtain ⟨z, rfl, h3⟩ := hdec _ _ _ h2
   exact ⟨z, h1, h3⟩)
  have hlenf : ∀ i, i < len → (toC (Zf i)).length = P.cellsOf e := fun i hi => (World.cells?_some (hZ i hi).1).2.1
  have hflat := UH (fun i => toC (Zf i)) len hlenf
  refine ⟨(_, (List.range len).map Zf), (List.range len).map fun i => Rows.uptoBulk (Dd i), rfl, ?_, ?_, by simp, hall, ?_, ?_⟩
  ·intro h hold
   dsimp only
   rw [length_map, length_range]
   refine K3 (c1 := len * P.cellsOf e) ?_ hl hs
   have e1 : ((List.range len).map Zf).flatMap toC = (List.range (len * P.cellsOf e)).map (fun j => ((List.range len).flatMap fun i => toC (Zf i)).getD j (.bool false)) := by
    rw [flatMap_map]
    apply ext_getElem?
    intro j
    rcases Nat.lt_or_ge j (len * P.cellsOf e) with hj | hj
    ·rw [List.getElem?_map, List.getElem?_range hj]
     have := (hflat j hj).2
     have hjl : j < ((List.range len).flatMap fun i => toC (Zf i)).length := by omega
     simp only [Option.map_some, getD_eq_getElem?_getD, List.getElem?_eq_getElem hjl, Option.getD_some]
    ·have : ((List.range len).flatMap fun i => toC (Zf i)).length = len * P.cellsOf e := by
      rcases Nat.eq_zero_or_pos (len * P.cellsOf e) with h0 | h0
      ·have : len = 0 := by
        rcases Nat.eq_zero_or_pos len with h1 | h1
        ·exact h1
        ·have := Nat.mul_pos h1 hs; omega
       subst this; simp
      ·exact (hflat 0 h0).2
     rw [List.getElem?_eq_none om, List.getElem?_eq_none (by simpa using hj)]
   rw [e1]
   refine Wf (W := W) (fun j hj => ?_) (Nat.le_refl _) h hold
   have hi : j / P.cellsOf e < len := Nat.div_lt_of_lt_mul (by rw [Nat.mul_comm]; exact hj)
   have hcell := (World.cells?_some (hZ (j / P.cellsOf e) hi).1).2.2 (j % P.cellsOf e) (Nat.mod_lt _ hs)
   rw [Addr.add_add, Nat.mul_comm, Nat.div_add_mod] at hcell
   rw [hcell]
   obtain ⟨f1, f2⟩ := hflat j hj
   rw [getD_eq_getElem?_getD, f1]
   have : j % P.cellsOf e < (toC (Zf (j / P.cellsOf e))).length := by rw [hlenf _ hi]; exact Nat.mod_lt _ hs
   simp [this]
  ·dsimp only; rw [length_map, length_range]; exact hbl
  ·intro w hw
   obtain ⟨i, -, rfl⟩ := mem_map.1 hw
   exact A2 _
  ·intro i h1 h2
   simp only [getElem_map, getElem_range]
   exact (hZ i (by simpa using h1)).2
/-! ### With weights: what is read weighs no more than its bulk -/
theorem Gk {t : TypeId} {fuel : Nat} {cs : List Value} {x : DataW H × List MemPlace} (ht : P.underlying t = some .string) (h : BW enc P W fuel t cs x) : ∃ s : List UInt8, cs = [AE s] ∧ s.length + 1 ≤ Rows.uptoBulk x.1 := by
 obtain ⟨s, rfl, rfl, -⟩ := DataW.trod_string ht h
 exact ⟨s.data.toList, by rw [QH], by simp [Rows.uptoBulk]⟩
theorem CR {t : TypeId} {fuel : Nat} {cs : List Value} {x : DataW H × List MemPlace} (ht : P.underlying t = some (.int .i64)) (h : BW enc P W fuel t cs x) : ∃ n : Int, cs = [AA n] ∧ (-9223372036854775808 ≤ n ∧ n ≤ 9223372036854775807) ∧ 1 ≤ Rows.uptoBulk x.1 := by
 obtain ⟨n, h1, h2⟩ := Wz ht h; exact ⟨n, h1, h2, A2 _⟩
theorem LE {t e : TypeId} {fuel : Nat} {v : Value} {x : DataW H × List MemPlace} (ht : P.underlying t = some (.slice e)) (h : BW enc P W fuel t [v] x) : ∃ a n c, v = .slice a n c := by
 rcases Go.Deep.open_slice ht h with ⟨hv, -⟩ | ⟨a, len, cap, m, n, Dd, Pl, hv, -⟩
 ·rw [List.cons.injEq] at hv; rw [hv.1]; exact ⟨_, _, _, rfl⟩
 ·rw [List.cons.injEq] at hv; rw [hv.1]; exact ⟨_, _, _, rfl⟩
theorem Yd {Z : Type} {m : Z → Nat} : ∀ {l : List Z} {ws : List Nat}, ws.length = l.length → (∀ i (h1 : i < l.length) (h2 : i < ws.length), m l[i] ≤ ws[i]) → (l.map m).sum ≤ ws.sum
 | [], _, _, _ => by simp
 | z :: l, [], h, _ => by simp at h
 | z :: l, w :: ws, h, hq => by
  have h0 := hq 0 (by simp) (by simp)
  have h1 := Yd (l := l) (ws := ws) (m := m) (by simpa using h) (fun i h1 h2 => hq (i + 1) (by simpa using h1) (by simpa using h2))
  rw [map_cons, sum_cons, sum_cons]
  have h0' : m z ≤ w := h0
  omega
theorem HU {Z : Type} [Inhabited Z] (toC : Z → List Value) (Q : Z → Prop) (m : Z → Nat) {t e : TypeId} {sz : Nat} {fuel : Nat} {cs : List Value} {x : DataW H × List MemPlace} (ht : P.underlying t = some (.slice e)) (hc : P.cellsOf e = sz) (hs : 0 < sz)
  (hdec : ∀ (n : Nat) (cs : List Value) (y : DataW H × List MemPlace), BW enc P W n e cs y → ∃ z, cs = toC z ∧ Q z ∧ m z ≤ Rows.uptoBulk y.1) (h : BW enc P W fuel t cs x) :
  ∃ z : Value × List Z, cs = [z.1] ∧ (∀ h : Hp, Pd W h → Cx sz h z.1 z.2.length (z.2.flatMap toC)) ∧ (∀ y ∈ z.2, Q y) ∧ z.2.length + 1 ≤ Rows.uptoBulk x.1 ∧ 1 + (z.2.map m).sum ≤ Rows.uptoBulk x.1 := by
 have hp := A2 x.1
 obtain ⟨z, ws, h1, h2, h3, h4, h5, -, h7⟩ := LH (N := Rows.uptoBulk x.1 - 1) toC (fun B z => Q z ∧ m z ≤ B) ht hc hs hdec h om
 refine ⟨z, h1, h2, fun y hy => ?_, by omega, ?_⟩
 ·obtain ⟨i, hi, rfl⟩ := mem_iff_getElem.1 hy
  exact (h7 i hi om).1
 ·have := Yd (m := m) h4 (fun i g1 g2 => (h7 i g1 g2).2)
  omega
theorem Ea {sz n : Nat} {v : Value} {ys : List Value} (hr : ∀ h : Hp, Pd W h → Cx sz h v n ys) : ∃ a c, v = .slice a n c := by
 have h := hr (fun b => if b < W.heap.size then W.heap[b]? else none) (fun b hb => if_pos hb)
 rcases h with ⟨rfl, -, a, c, rfl⟩ | ⟨b, off, cap, l, T, fr, rfl, -⟩
 ·exact ⟨_, _, rfl⟩
 ·exact ⟨_, _, rfl⟩
end
open Go Go.ChangeShapes Go.WideShapes Go.ChangeAt Go.RowKit
def Rw (a : Ac) : Nat := 3 + a.2.length
theorem IX {α : Type} {m : α → Nat} : ∀ {l : List α} {x : α}, x ∈ l → m x ≤ (l.map m).sum
 | y :: l, x, h => by
  rw [map_cons, sum_cons]
  rcases mem_cons.1 h with rfl | h
  ·omega
  ·have := IX (m := m) h; omega
theorem Ku {α : Type} {m : α → Nat} (hm : ∀ x, 3 ≤ m x) : ∀ l : List α, 3 * l.length ≤ (l.map m).sum
 | [] => by simp
 | y :: l => by have := Ku hm l; have := hm y; rw [map_cons, sum_cons, length_cons]; omega
theorem QY {α : Type} {f : α → Bs} {m : α → Nat} : ∀ {l : List α}, (∀ x ∈ l, (f x).length ≤ 20 * m x) → (l.flatMap f).length ≤ 20 * (l.map m).sum
 | [], _ => by simp
 | y :: l, h => by
  have h1 := h y (mem_cons_self ..)
  have h2 := QY (l := l) (m := m) (f := f) (fun x hx => h x (mem_cons_of_mem _ hx))
  rw [flatMap_cons, length_append, map_cons, sum_cons]; omega
theorem ZU {l : List Ac} (h : ∀ a ∈ l, Az a.1) (hm : (l.map Rw).sum ≤ 1048576) : Ge l := by
 have hl := Ku (m := Rw) (fun a => by unfold Rw; omega) l
 have hu : FS = 18446744073709551616 := rfl
 have hi : ∀ a ∈ l, a.2.length ≤ 1048576 := fun a ha => by
  have h1 := IX (m := Rw) ha
  have h2 : Rw a = 3 + a.2.length := rfl
  omega
 refine ⟨by omega, ?_, fun a ha => ⟨⟨h a ha, by have := hi a ha; omega⟩, hi a ha⟩⟩
 have h3 := QY (f := Ln) (m := Rw) (l := l) (fun a ha => by
  have h1 := Kn (h a ha)
  have h2 := EQ (u := a.2.length) (by have := hi a ha; omega)
  unfold Ln FK Ct Rw
  rw [length_append, length_append]; omega)
 have h4 := EQ (u := l.length) om
 unfold Fh Ct
 rw [length_append]; omega
instance : Inhabited Pt := ⟨ptS 0 [] [] 0⟩
instance : Inhabited En := ⟨⟨0, 0, 0, ptS 0 [] [] 0, []⟩⟩
instance : Inhabited Rq := ⟨⟨0, 0, [], [], AF, [], 0, 0, false, AF, AF⟩⟩
def WU (r : Rq) : Nat := 10 + r.path.length + r.data.length + (r.acl.map Rw).sum
structure RqG (p : HP) (r : Rq) : Prop where
 kind : Az r.kind
 xid : Az r.xid
 flags : Az r.flags
 ver : Az r.ver
 acl : ∀ h : Hp, p h → Cx 2 h r.aclV r.acl.length (r.acl.flatMap CO)
 ash : ∃ a n c, r.aclV = .slice a n c
 each : ∀ a ∈ r.acl, Az a.1
 sub : ∃ a n c, r.subsV = .slice a n c
 arm : ∃ a n c, r.armV = .slice a n c
structure RqD (p : HP) (r : Rq) (l : List Rq) : Prop where
 own : RqG p r ∧ WU r ≤ 1048576
 rd : ∀ h : Hp, p h → Cx 10 h r.subsV l.length (l.flatMap Eu)
 each : ∀ x ∈ l, RqG p x ∧ WU x ≤ 1048576
theorem RqG.w {p : HP} {r : Rq} (h : RqG p r) (hm : WU r ≤ 1048576) {s : Int} {iv : Value} {ids : List Bs} (hs : Az s) (hi : Ids p iv ids) (hT : GD p) : Di p ⟨s, ids⟩ iv r := by
 unfold WU at hm
 have h3 := Ku (m := Rw) (fun a => by unfold Rw; omega) r.acl
 refine ⟨⟨h.kind, h.xid, h.flags, h.ver, by omega, by omega, h.acl, by omega, fun a ha => ⟨h.each a ha, ?_⟩, h.sub, h.arm⟩, hs, hi.1, hi.2.1, hi.2.2, h.ash, hT⟩
 have h1 := IX (m := Rw) ha
 have h2 : Rw a = 3 + a.2.length := rfl
 omega
theorem RqD.wi {p : HP} {r : Rq} {l : List Rq} (h : RqD p r l) {s : Int} {iv : Value} {ids : List Bs} (hs : Az s) (hi : Ids p iv ids) (hT : GD p) : WiD p ⟨s, ids⟩ iv r l := by
 have ha : ∀ x : Rq, RqG p x → WU x ≤ 1048576 → Ge x.acl := fun x hx hm => ZU hx.each (by unfold WU at hm; omega)
 exact ⟨h.own.1.w h.own.2 hs hi hT, ha _ h.own.1 h.own.2, h.rd, fun x hx => (h.each x hx).1.w (h.each x hx).2 hs hi hT, fun x hx => ha _ (h.each x hx).1 (h.each x hx).2⟩
theorem AAg {W : World} (h : Lib.TabIs prog W "internal/strconv.uint64pow10" .u64 Lib.pow10Tab) {g : Nat} (hg : prog.globalNamed "internal/strconv.uint64pow10" = some g) : GD (Pd W) := by
 intro hp w hold hle
 unfold Lib.TabIs World.var? at h ⊢
 rw [hg] at h ⊢
 simp only [Option.bind_some] at h ⊢
 cases e : W.heap[g]? with
 | none => rw [e] at h; cases h
 | some o =>
  have hlt : g < W.heap.size := (Array.getElem?_eq_some_iff.1 e).1
  have h2 : w.heap[g]? = some o := hle g o (by rw [hold g hlt, e])
  rw [h2]
  rw [e] at h
  exact h
theorem AAL {H : Type} {enc : TypeId × Value → H} {W : World} (n : Nat) (cs : List Value) (y : DataW H × List MemPlace) (h : BW enc prog W n 75 cs y) : ∃ a : Ac, cs = CO a ∧ Az a.1 ∧ Rw a ≤ Rows.uptoBulk y.1 := by
 obtain ⟨xs, m, -, rfl, hlen, hxs, hf⟩ := DataW.trod_struct underlying75 h
 rw [show prog.cellsOf 75 = 2 by kernel_rfl] at hlen
 obtain ⟨a0, a1, rfl⟩ : ∃ a0 a1, cs = [a0, a1] := by
  match cs, hlen with
  | [a0, a1], _ => exact ⟨a0, a1, rfl⟩
 obtain ⟨y0, y1, rfl⟩ : ∃ y0 y1, xs = [y0, y1] := by
  match xs, hxs with
  | [y0, y1], _ => exact ⟨y0, y1, rfl⟩
 try simp only [Rows.uptoBulk, Rows.uptoBulkAll, map_cons, map_nil]
 have g0 : BW enc prog W m 3 (([a0, a1] : List Value).drop 0 |>.take (prog.cellsOf 3)) y0 := hf 0 _ rfl
 rw [show prog.cellsOf 3 = 1 by kernel_rfl] at g0
 have p0 := A2 y0.1
 obtain ⟨z0, e0, q0, r0⟩ := CR underlying3 g0
 try simp at e0
 have g1 : BW enc prog W m 9 (([a0, a1] : List Value).drop 1 |>.take (prog.cellsOf 9)) y1 := hf 1 _ rfl
 rw [show prog.cellsOf 9 = 1 by kernel_rfl] at g1
 have p1 := A2 y1.1
 obtain ⟨z1, e1, r1⟩ := Gk underlying9 g1
 try simp at e1
 subst e0
 subst e1
 exact ⟨(z0, z1), rfl, q0, by unfold Rw; dsimp only; omega⟩
theorem AB6 {H : Type} {enc : TypeId × Value → H} {W : World} (n : Nat) (cs : List Value) (y : DataW H × List MemPlace) (h : BW enc prog W n 33 cs y) : ∃ r0 : Rq, cs = Eu r0 ∧ RqG (Pd W) r0 ∧ WU r0 ≤ Rows.uptoBulk y.1 := by
 obtain ⟨xs, m, -, rfl, hlen, hxs, hf⟩ := DataW.trod_struct underlying33 h
 rw [show prog.cellsOf 33 = 10 by kernel_rfl] at hlen
 obtain ⟨a0, a1, a2, a3, a4, a5, a6, a7, a8, a9, rfl⟩ : ∃ a0 a1 a2 a3 a4 a5 a6 a7 a8 a9, cs = [a0, a1, a2, a3, a4, a5, a6, a7, a8, a9] := by
  match cs, hlen with
  | [a0, a1, a2, a3, a4, a5, a6, a7, a8, a9], _ => exact ⟨a0, a1, a2, a3, a4, a5, a6, a7, a8, a9, rfl⟩
 obtain ⟨y0, y1, y2, y3, y4, y5, y6, y7, y8, y9, rfl⟩ : ∃ y0 y1 y2 y3 y4 y5 y6 y7 y8 y9, xs = [y0, y1, y2, y3, y4, y5, y6, y7, y8, y9] := by
  match xs, hxs with
  | [y0, y1, y2, y3, y4, y5, y6, y7, y8, y9], _ => exact ⟨y0, y1, y2, y3, y4, y5, y6, y7, y8, y9, rfl⟩
 try simp only [Rows.uptoBulk, Rows.uptoBulkAll, map_cons, map_nil]
 have g0 : BW enc prog W m 3 (([a0, a1, a2, a3, a4, a5, a6, a7, a8, a9] : List Value).drop 0 |>.take (prog.cellsOf 3)) y0 := hf 0 _ rfl
 rw [show prog.cellsOf 3 = 1 by kernel_rfl] at g0
 have p0 := A2 y0.1
 obtain ⟨z0, e0, q0, r0⟩ := CR underlying3 g0
 try simp at e0
 have g1 : BW enc prog W m 3 (([a0, a1, a2, a3, a4, a5, a6, a7, a8, a9] : List Value).drop 1 |>.take (prog.cellsOf 3)) y1 := hf 1 _ rfl
 rw [show prog.cellsOf 3 = 1 by kernel_rfl] at g1
 have p1 := A2 y1.1
 obtain ⟨z1, e1, q1, r1⟩ := CR underlying3 g1
 try simp at e1
 have g2 : BW enc prog W m 9 (([a0, a1, a2, a3, a4, a5, a6, a7, a8, a9] : List Value).drop 2 |>.take (prog.cellsOf 9)) y2 := hf 2 _ rfl
 rw [show prog.cellsOf 9 = 1 by kernel_rfl] at g2
 have p2 := A2 y2.1
 obtain ⟨z2, e2, r2⟩ := Gk underlying9 g2
 try simp at e2
 have g3 : BW enc prog W m 9 (([a0, a1, a2, a3, a4, a5, a6, a7, a8, a9] : List Value).drop 3 |>.take (prog.cellsOf 9)) y3 := hf 3 _ rfl
 rw [show prog.cellsOf 9 = 1 by kernel_rfl] at g3
 have p3 := A2 y3.1
 obtain ⟨z3, e3, r3⟩ := Gk underlying9 g3
 try simp at e3
 have g4 : BW enc prog W m 30 (([a0, a1, a2, a3, a4, a5, a6, a7, a8, a9] : List Value).drop 4 |>.take (prog.cellsOf 30)) y4 := hf 4 _ rfl
 rw [show prog.cellsOf 30 = 1 by kernel_rfl] at g4
 have p4 := A2 y4.1
 obtain ⟨⟨v4, l4⟩, e4, k4, q4, c4, r4⟩ := HU CO (fun a => Az a.1) Rw underlying30 (show prog.cellsOf 75 = 2 by kernel_rfl) dQ (fun n cs y h => AAL n cs y h) g4
 dsimp only at e4 k4 q4 c4 r4
 have ck4 : AB v4 = true := by obtain ⟨sa, sc, hs⟩ := Ea k4; rw [hs]; rfl
 have sh4 : ∃ a n c, v4 = .slice a n c := by obtain ⟨sa, sc, hs⟩ := Ea k4; exact ⟨_, _, _, hs⟩
 try simp at e4
 have g5 : BW enc prog W m 3 (([a0, a1, a2, a3, a4, a5, a6, a7, a8, a9] : List Value).drop 5 |>.take (prog.cellsOf 3)) y5 := hf 5 _ rfl
 rw [show prog.cellsOf 3 = 1 by kernel_rfl] at g5
 have p5 := A2 y5.1
 obtain ⟨z5, e5, q5, r5⟩ := CR underlying3 g5
 try simp at e5
 have g6 : BW enc prog W m 3 (([a0, a1, a2, a3, a4, a5, a6, a7, a8, a9] : List Value).drop 6 |>.take (prog.cellsOf 3)) y6 := hf 6 _ rfl
 rw [show prog.cellsOf 3 = 1 by kernel_rfl] at g6
 have p6 := A2 y6.1
 obtain ⟨z6, e6, q6, r6⟩ := CR underlying3 g6
 try simp at e6
 have g7 : BW enc prog W m 4 (([a0, a1, a2, a3, a4, a5, a6, a7, a8, a9] : List Value).drop 7 |>.take (prog.cellsOf 4)) y7 := hf 7 _ rfl
 rw [show prog.cellsOf 4 = 1 by kernel_rfl] at g7
 have p7 := A2 y7.1
 obtain ⟨z7, e7⟩ := Mw underlying4 g7
 try simp at e7
 have g8 : BW enc prog W m 23 (([a0, a1, a2, a3, a4, a5, a6, a7, a8, a9] : List Value).drop 8 |>.take (prog.cellsOf 23)) y8 := hf 8 _ rfl
 rw [show prog.cellsOf 23 = 1 by kernel_rfl] at g8
 have p8 := A2 y8.1
 obtain ⟨z8, e8, s8⟩ : ∃ z : Value, a8 = z ∧ ∃ a n c, z = .slice a n c := ⟨_, rfl, LE underlying23 g8⟩
 have ck8 : AB z8 = true := by obtain ⟨sa, sn, sc, hs⟩ := s8; rw [hs]; rfl
 try simp at e8
 have g9 : BW enc prog W m 31 (([a0, a1, a2, a3, a4, a5, a6, a7, a8, a9] : List Value).drop 9 |>.take (prog.cellsOf 31)) y9 := hf 9 _ rfl
 rw [show prog.cellsOf 31 = 1 by kernel_rfl] at g9
 have p9 := A2 y9.1
 obtain ⟨z9, e9, s9⟩ : ∃ z : Value, a9 = z ∧ ∃ a n c, z = .slice a n c := ⟨_, rfl, LE underlying31 g9⟩
 have ck9 : AB z9 = true := by obtain ⟨sa, sn, sc, hs⟩ := s9; rw [hs]; rfl
 try simp at e9
 subst e0
 subst e1
 subst e2
 subst e3
 subst e4
 subst e5
 subst e6
 subst e7
 subst e8
 subst e9
 exact ⟨⟨z0, z1, z2, z3, a4, l4, z5, z6, z7, a8, a9⟩, rfl, ⟨q0, q1, q5, q6, k4, sh4, q4, s8, s9⟩, by unfold WU; dsimp only; omega⟩
open Go Go.ChangeShapes Go.WideShapes Go.ChangeAt Go.RowKit
instance : Inhabited Nj := ⟨⟨0, 0, 0, ⟨0, 0, [], [], AF, [], 0, 0, false, AF, AF⟩, [], [], false⟩⟩
theorem XD {l : List Nat} {i : Nat} (h : i < l.length) : l[i] ≤ l.sum := by
 have := IX (m := id) (l := l) (getElem_mem h)
 simpa using this
def YU (a : If) : Nat := 5 + a.2.1.length
structure RqV (p : HP) (r : Rq) (l : List Rq) (m : List If) : Prop where
 d : RqD p r l
 a : Tz p r.armV m
theorem RqV.A {p : HP} {r : Rq} {l : List Rq} {m : List If} (h : RqV p r l m) (hT : GD p) (hZ : Pp p) {s : Int} (hs : Az s) : H3 p s r l m :=
 ⟨h.d.wi hs ⟨fun _ _ => .inl ⟨rfl, rfl, none, 0, rfl⟩, Nat.zero_le _, none, 0, 0, rfl⟩ hT, hZ, h.a⟩
structure SpQ (p : HP) (x : Nj) : Prop where
 nums : Az x.what ∧ Az x.ses ∧ Az x.tmo
 r : RqV p x.r x.subs x.arm
structure StQ (p : HP) (v : Value) (l : List Nj) : Prop where
 cells : ∀ h : Hp, p h → Cx 14 h v l.length (l.flatMap Yu)
 len : l.length ≤ 1048576
 each : ∀ x ∈ l, SpQ p x
theorem StQ.A {p : HP} {v : Value} {l : List Nj} (h : StQ p v l) (hT : GD p) (hZ : Pp p) : StA p v l := ⟨h.cells, h.len, fun x hx => (h.each x hx).nums, fun x hx _ hs => (h.each x hx).r.A hT hZ hs⟩
theorem ABi {W : World} (h : Lib.TabIs prog W "math/bits.deBruijn64tab" .u8 (Lib.deBruijn64tab.map fun n : Nat => (n : Int))) {g : Nat} (hg : prog.globalNamed "math/bits.deBruijn64tab" = some g) : Pp (Pd W) := by
 intro hp w hold hle
 unfold Lib.TabIs World.var? at h ⊢
 rw [hg] at h ⊢
 simp only [Option.bind_some] at h ⊢
 cases e : W.heap[g]? with
 | none => rw [e] at h; cases h
 | some o =>
  have hlt : g < W.heap.size := (Array.getElem?_eq_some_iff.1 e).1
  have h2 : w.heap[g]? = some o := hle g o (by rw [hold g hlt, e])
  rw [h2]
  rw [e] at h
  exact h
theorem AA1 {H : Type} {enc : TypeId × Value → H} {W : World} (n : Nat) (cs : List Value) (y : DataW H × List MemPlace) (h : BW enc prog W n 186 cs y) : ∃ a : If, cs = Mr a ∧ True ∧ YU a ≤ Rows.uptoBulk y.1 := by
 obtain ⟨xs, m, -, rfl, hlen, hxs, hf⟩ := DataW.trod_struct underlying186 h
 rw [show prog.cellsOf 186 = 5 by kernel_rfl] at hlen
 obtain ⟨a0, a1, a2, a3, a4, rfl⟩ : ∃ a0 a1 a2 a3 a4, cs = [a0, a1, a2, a3, a4] := by
  match cs, hlen with
  | [a0, a1, a2, a3, a4], _ => exact ⟨a0, a1, a2, a3, a4, rfl⟩
 obtain ⟨y0, y1, y2, y3, y4, rfl⟩ : ∃ y0 y1 y2 y3 y4, xs = [y0, y1, y2, y3, y4] := by
  match xs, hxs with
  | [y0, y1, y2, y3, y4], _ => exact ⟨y0, y1, y2, y3, y4, rfl⟩
 try simp only [Rows.uptoBulk, Rows.uptoBulkAll, map_cons, map_nil]
 have g0 : BW enc prog W m 3 (([a0, a1, a2, a3, a4] : List Value).drop 0 |>.take (prog.cellsOf 3)) y0 := hf 0 _ rfl
 rw [show prog.cellsOf 3 = 1 by kernel_rfl] at g0
 have p0 := A2 y0.1
 obtain ⟨z0, e0, q0, r0⟩ := CR underlying3 g0
 try simp at e0
 have g1 : BW enc prog W m 9 (([a0, a1, a2, a3, a4] : List Value).drop 1 |>.take (prog.cellsOf 9)) y1 := hf 1 _ rfl
 rw [show prog.cellsOf 9 = 1 by kernel_rfl] at g1
 have p1 := A2 y1.1
 obtain ⟨z1, e1, r1⟩ := Gk underlying9 g1
 try simp at e1
 have g2 : BW enc prog W m 3 (([a0, a1, a2, a3, a4] : List Value).drop 2 |>.take (prog.cellsOf 3)) y2 := hf 2 _ rfl
 rw [show prog.cellsOf 3 = 1 by kernel_rfl] at g2
 have p2 := A2 y2.1
 obtain ⟨z2, e2, q2, r2⟩ := CR underlying3 g2
 try simp at e2
 have g3 : BW enc prog W m 3 (([a0, a1, a2, a3, a4] : List Value).drop 3 |>.take (prog.cellsOf 3)) y3 := hf 3 _ rfl
 rw [show prog.cellsOf 3 = 1 by kernel_rfl] at g3
 have p3 := A2 y3.1
 obtain ⟨z3, e3, q3, r3⟩ := CR underlying3 g3
 try simp at e3
 have g4 : BW enc prog W m 3 (([a0, a1, a2, a3, a4] : List Value).drop 4 |>.take (prog.cellsOf 3)) y4 := hf 4 _ rfl
 rw [show prog.cellsOf 3 = 1 by kernel_rfl] at g4
 have p4 := A2 y4.1
 obtain ⟨z4, e4, q4, r4⟩ := CR underlying3 g4
 try simp at e4
 subst e0
 subst e1
 subst e2
 subst e3
 subst e4
 exact ⟨(z0, (z1, (z2, (z3, z4)))), rfl, trivial, by unfold YU; dsimp only; omega⟩
theorem AAk {H : Type} {enc : TypeId × Value → H} {W : World} (n : Nat) (cs : List Value) (y : DataW H × List MemPlace) (h : BW enc prog W n 33 cs y) : ∃ (r0 : Rq) (l : List Rq) (m : List If), cs = Eu r0 ∧ (Rows.uptoBulk y.1 ≤ 1048576 → RqV (Pd W) r0 l m) := by
 obtain ⟨xs, m, -, rfl, hlen, hxs, hf⟩ := DataW.trod_struct underlying33 h
 rw [show prog.cellsOf 33 = 10 by kernel_rfl] at hlen
 obtain ⟨a0, a1, a2, a3, a4, a5, a6, a7, a8, a9, rfl⟩ : ∃ a0 a1 a2 a3 a4 a5 a6 a7 a8 a9, cs = [a0, a1, a2, a3, a4, a5, a6, a7, a8, a9] := by
  match cs, hlen with
  | [a0, a1, a2, a3, a4, a5, a6, a7, a8, a9], _ => exact ⟨a0, a1, a2, a3, a4, a5, a6, a7, a8, a9, rfl⟩
 obtain ⟨y0, y1, y2, y3, y4, y5, y6, y7, y8, y9, rfl⟩ : ∃ y0 y1 y2 y3 y4 y5 y6 y7 y8 y9, xs = [y0, y1, y2, y3, y4, y5, y6, y7, y8, y9] := by
  match xs, hxs with
  | [y0, y1, y2, y3, y4, y5, y6, y7, y8, y9], _ => exact ⟨y0, y1, y2, y3, y4, y5, y6, y7, y8, y9, rfl⟩
 try simp only [Rows.uptoBulk, Rows.uptoBulkAll, map_cons, map_nil]
 have g0 : BW enc prog W m 3 (([a0, a1, a2, a3, a4, a5, a6, a7, a8, a9] : List Value).drop 0 |>.take (prog.cellsOf 3)) y0 := hf 0 _ rfl
 rw [show prog.cellsOf 3 = 1 by kernel_rfl] at g0
 have p0 := A2 y0.1
 obtain ⟨z0, e0, q0, r0⟩ := CR underlying3 g0
 try simp at e0
 have g1 : BW enc prog W m 3 (([a0, a1, a2, a3, a4, a5, a6, a7, a8, a9] : List Value).drop 1 |>.take (prog.cellsOf 3)) y1 := hf 1 _ rfl
 rw [show prog.cellsOf 3 = 1 by kernel_rfl] at g1
 have p1 := A2 y1.1
 obtain ⟨z1, e1, q1, r1⟩ := CR underlying3 g1
 try simp at e1
 have g2 : BW enc prog W m 9 (([a0, a1, a2, a3, a4, a5, a6, a7, a8, a9] : List Value).drop 2 |>.take (prog.cellsOf 9)) y2 := hf 2 _ rfl
 rw [show prog.cellsOf 9 = 1 by kernel_rfl] at g2
 have p2 := A2 y2.1
 obtain ⟨z2, e2, r2⟩ := Gk underlying9 g2
 try simp at e2
 have g3 : BW enc prog W m 9 (([a0, a1, a2, a3, a4, a5, a6, a7, a8, a9] : List Value).drop 3 |>.take (prog.cellsOf 9)) y3 := hf 3 _ rfl
 rw [show prog.cellsOf 9 = 1 by kernel_rfl] at g3
 have p3 := A2 y3.1
 obtain ⟨z3, e3, r3⟩ := Gk underlying9 g3
 try simp at e3
 have g4 : BW enc prog W m 30 (([a0, a1, a2, a3, a4, a5, a6, a7, a8, a9] : List Value).drop 4 |>.take (prog.cellsOf 30)) y4 := hf 4 _ rfl
 rw [show prog.cellsOf 30 = 1 by kernel_rfl] at g4
 have p4 := A2 y4.1
 obtain ⟨⟨v4, l4⟩, e4, k4, q4, c4, r4⟩ := HU CO (fun a => Az a.1) Rw underlying30 (show prog.cellsOf 75 = 2 by kernel_rfl) dQ (fun n cs y h => AAL n cs y h) g4
 dsimp only at e4 k4 q4 c4 r4
 have ck4 : AB v4 = true := by obtain ⟨sa, sc, hs⟩ := Ea k4; rw [hs]; rfl
 have sh4 : ∃ a n c, v4 = .slice a n c := by obtain ⟨sa, sc, hs⟩ := Ea k4; exact ⟨_, _, _, hs⟩
 try simp at e4
 have g5 : BW enc prog W m 3 (([a0, a1, a2, a3, a4, a5, a6, a7, a8, a9] : List Value).drop 5 |>.take (prog.cellsOf 3)) y5 := hf 5 _ rfl
 rw [show prog.cellsOf 3 = 1 by kernel_rfl] at g5
 have p5 := A2 y5.1
 obtain ⟨z5, e5, q5, r5⟩ := CR underlying3 g5
 try simp at e5
 have g6 : BW enc prog W m 3 (([a0, a1, a2, a3, a4, a5, a6, a7, a8, a9] : List Value).drop 6 |>.take (prog.cellsOf 3)) y6 := hf 6 _ rfl
 rw [show prog.cellsOf 3 = 1 by kernel_rfl] at g6
 have p6 := A2 y6.1
 obtain ⟨z6, e6, q6, r6⟩ := CR underlying3 g6
 try simp at e6
 have g7 : BW enc prog W m 4 (([a0, a1, a2, a3, a4, a5, a6, a7, a8, a9] : List Value).drop 7 |>.take (prog.cellsOf 4)) y7 := hf 7 _ rfl
 rw [show prog.cellsOf 4 = 1 by kernel_rfl] at g7
 have p7 := A2 y7.1
 obtain ⟨z7, e7⟩ := Mw underlying4 g7
 try simp at e7
 have g8 : BW enc prog W m 23 (([a0, a1, a2, a3, a4, a5, a6, a7, a8, a9] : List Value).drop 8 |>.take (prog.cellsOf 23)) y8 := hf 8 _ rfl
 rw [show prog.cellsOf 23 = 1 by kernel_rfl] at g8
 have p8 := A2 y8.1
 obtain ⟨⟨v8, l8⟩, e8, k8, q8, c8, r8⟩ := HU Eu (fun r => RqG (Pd W) r) WU underlying23 (show prog.cellsOf 33 = 10 by kernel_rfl) dQ (fun n cs y h => AB6 n cs y h) g8
 dsimp only at e8 k8 q8 c8 r8
 have ck8 : AB v8 = true := by obtain ⟨sa, sc, hs⟩ := Ea k8; rw [hs]; rfl
 have sh8 : ∃ a n c, v8 = .slice a n c := by obtain ⟨sa, sc, hs⟩ := Ea k8; exact ⟨_, _, _, hs⟩
 try simp at e8
 have g9 : BW enc prog W m 31 (([a0, a1, a2, a3, a4, a5, a6, a7, a8, a9] : List Value).drop 9 |>.take (prog.cellsOf 31)) y9 := hf 9 _ rfl
 rw [show prog.cellsOf 31 = 1 by kernel_rfl] at g9
 have p9 := A2 y9.1
 obtain ⟨⟨v9, l9⟩, e9, k9, q9, c9, r9⟩ := HU Mr (fun _ => True) YU underlying31 (show prog.cellsOf 186 = 5 by kernel_rfl) dQ (fun n cs y h => AA1 n cs y h) g9
 dsimp only at e9 k9 q9 c9 r9
 have ck9 : AB v9 = true := by obtain ⟨sa, sc, hs⟩ := Ea k9; rw [hs]; rfl
 have sh9 : ∃ a n c, v9 = .slice a n c := by obtain ⟨sa, sc, hs⟩ := Ea k9; exact ⟨_, _, _, hs⟩
 try simp at e9
 subst e0
 subst e1
 subst e2
 subst e3
 subst e4
 subst e5
 subst e6
 subst e7
 subst e8
 subst e9
 refine ⟨⟨z0, z1, z2, z3, a4, l4, z5, z6, z7, a8, a9⟩, l8, l9, rfl, fun hb => ⟨⟨⟨⟨q0, q1, q5, q6, k4, sh4, q4, sh8, sh9⟩, by unfold WU; dsimp only; omega⟩, k8, fun x hx => ⟨q8 x hx, ?_⟩⟩, k9, by omega, fun a ha => ?_⟩⟩
 ·have h6 := IX (m := WU) hx
  omega
 ·have h6 := IX (m := YU) ha
  have h8 : YU a = 5 + a.2.1.length := rfl
  omega
theorem ACK {H : Type} {enc : TypeId × Value → H} {W : World} (n : Nat) (cs : List Value) (y : DataW H × List MemPlace) (h : BW enc prog W n 35 cs y) : ∃ x : Nj, cs = Yu x ∧ (Rows.uptoBulk y.1 ≤ 1048576 → SpQ (Pd W) x) := by
 obtain ⟨xs, m, -, rfl, hlen, hxs, hf⟩ := DataW.trod_struct underlying35 h
 rw [show prog.cellsOf 35 = 14 by kernel_rfl] at hlen
 obtain ⟨a0, a1, a2, a3, a4, a5, a6, a7, a8, a9, a10, a11, a12, a13, rfl⟩ : ∃ a0 a1 a2 a3 a4 a5 a6 a7 a8 a9 a10 a11 a12 a13, cs = [a0, a1, a2, a3, a4, a5, a6, a7, a8, a9, a10, a11, a12, a13] := by
  match cs, hlen with
  | [a0, a1, a2, a3, a4, a5, a6, a7, a8, a9, a10, a11, a12, a13], _ => exact ⟨a0, a1, a2, a3, a4, a5, a6, a7, a8, a9, a10, a11, a12, a13, rfl⟩
 obtain ⟨y0, y1, y2, y3, y4, rfl⟩ : ∃ y0 y1 y2 y3 y4, xs = [y0, y1, y2, y3, y4] := by
  match xs, hxs with
  | [y0, y1, y2, y3, y4], _ => exact ⟨y0, y1, y2, y3, y4, rfl⟩
 try simp only [Rows.uptoBulk, Rows.uptoBulkAll, map_cons, map_nil]
 have g0 : BW enc prog W m 3 (([a0, a1, a2, a3, a4, a5, a6, a7, a8, a9, a10, a11, a12, a13] : List Value).drop 0 |>.take (prog.cellsOf 3)) y0 := hf 0 _ rfl
 rw [show prog.cellsOf 3 = 1 by kernel_rfl] at g0
 have p0 := A2 y0.1
 obtain ⟨z0, e0, q0, r0⟩ := CR underlying3 g0
 try simp at e0
 have g1 : BW enc prog W m 3 (([a0, a1, a2, a3, a4, a5, a6, a7, a8, a9, a10, a11, a12, a13] : List Value).drop 1 |>.take (prog.cellsOf 3)) y1 := hf 1 _ rfl
 rw [show prog.cellsOf 3 = 1 by kernel_rfl] at g1
 have p1 := A2 y1.1
 obtain ⟨z1, e1, q1, r1⟩ := CR underlying3 g1
 try simp at e1
 have g2 : BW enc prog W m 3 (([a0, a1, a2, a3, a4, a5, a6, a7, a8, a9, a10, a11, a12, a13] : List Value).drop 2 |>.take (prog.cellsOf 3)) y2 := hf 2 _ rfl
 rw [show prog.cellsOf 3 = 1 by kernel_rfl] at g2
 have p2 := A2 y2.1
 obtain ⟨z2, e2, q2, r2⟩ := CR underlying3 g2
 try simp at e2
 have g3 : BW enc prog W m 33 (([a0, a1, a2, a3, a4, a5, a6, a7, a8, a9, a10, a11, a12, a13] : List Value).drop 3 |>.take (prog.cellsOf 33)) y3 := hf 3 _ rfl
 rw [show prog.cellsOf 33 = 10 by kernel_rfl] at g3
 have p3 := A2 y3.1
 obtain ⟨r3, l3, m3, e3, q3⟩ := AAk _ _ _ g3
 try simp [A1, DE, Eu] at e3
 have g4 : BW enc prog W m 4 (([a0, a1, a2, a3, a4, a5, a6, a7, a8, a9, a10, a11, a12, a13] : List Value).drop 13 |>.take (prog.cellsOf 4)) y4 := hf 4 _ rfl
 rw [show prog.cellsOf 4 = 1 by kernel_rfl] at g4
 have p4 := A2 y4.1
 obtain ⟨z4, e4⟩ := Mw underlying4 g4
 try simp at e4
 subst e0
 subst e1
 subst e2
 obtain ⟨rfl, rfl, rfl, rfl, rfl, rfl, rfl, rfl, rfl, rfl⟩ := e3
 subst e4
 exact ⟨⟨z0, z1, z2, r3, l3, m3, z4⟩, rfl, fun hb => ⟨⟨q0, q1, q2⟩, q3 om⟩⟩
theorem Va {H : Type} {enc : TypeId × Value → H} {W : World} {fuel : Nat} {cs : List Value} {x : DataW H × List MemPlace} (h : BW enc prog W fuel 22 cs x) (hb : Rows.uptoBulk x.1 ≤ 1048576) : ∃ (v : Value) (xs : List Nj), cs = [v] ∧ StQ (Pd W) v xs := by
 obtain ⟨⟨v, xs⟩, ws, h1, h2, h3, h4, h5, -, h7⟩ := LH (N := 1048576) Yu (fun B o => B ≤ 1048576 → SpQ (Pd W) o) underlying22 (show prog.cellsOf 35 = 14 by kernel_rfl) dQ (fun n cs y h => ACK n cs y h) h om
 dsimp only at h1 h2 h3 h4 h7
 refine ⟨v, xs, h1, h2, h3, fun o ho => ?_⟩
 obtain ⟨i, hi, rfl⟩ := mem_iff_getElem.1 ho
 have hw : i < ws.length := by omega
 exact h7 i hi hw (Nat.le_trans (XD hw) h5)
end Go.Proofs.YtmbnebafdhpgpaaGreatDoor
