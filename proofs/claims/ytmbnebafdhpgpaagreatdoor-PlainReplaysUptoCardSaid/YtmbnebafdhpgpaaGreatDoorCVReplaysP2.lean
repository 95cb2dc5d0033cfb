/- Own work, in part by program, for plainReplays.proved. -/
import Derived.Test.YtmbnebafdhpgpaaGreatDoorCVReplaysP1
import Derived.Test.YtmbnebafdhpgpaaGreatDoorCVReplaysP0
import Derived.Lib.ItoaNum
import Derived.Shelf.Strconv.Itoa3
import Derived.Shelf.Strings.Repeat
import Derived.Shelf.Strings.BuilderX
import Derived.Shelf.LaysM
import Derived.Ground.NamesProg
import Derived.Test.YtmbnebafdhpgpaaGreatDoorProg
import Derived.Lib.LaidTab
import Derived.Shelf.Bits.Mul64
set_option maxRecDepth 100000
namespace Go.Proofs.YtmbnebafdhpgpaaGreatDoor
open Go List Go.Proofs.Tryz 
theorem LQ (s : Bs) : Fn prog 291 #[AE s, .int .u8 58] [] fun v L => v = AA (Gt s) ∧ L = [] := by
 refine Fn.intro func291 Y Y fun F W => ?_
 refine .sr (.an Y (.sm Y (.m Y (.q (.extern (e := Extern.BytealgIndexByte.indexByte) (vs := [_, .int .u8 58]) func297 kQ kQ kQ kQ Y (fun w => Rc s w)) Y (.an Y (.ret ?_))))))
 exact .vv
theorem QB (s : Bs) : Fn prog 281 #[AE s, AE [58]] [] fun v L => v = AA (Gt s) ∧ L = [] := by
 refine Fn.intro func281 Y Y fun F W => ?_
 refine .sr (.an Y (.sm Y (.q (.strlen Y underlying9 Y) Y (.an Y (.seq (.block (.sm Y (.q (.as (v' := .bool false) (by rfl) (.int Y Y Y)) Y (.m Y (.gr (.m Y (.gr (.m Y (.gr (.u (.streq Y Y) (.pF Y Y (.an Y (.condD Y (fun h16 => ?_) (fun h16 => ?_)))))))))))))))))))
 ·refine .sr (.an Y (.ret (.blk_r (.then_r ?_))))
  exact .dn Y Y ⟨by have e : s = [58] := (by first | exact h16.symm | exact (by simpa using h16.symm)); subst e; rfl, rfl⟩
 refine .sm Y (.q (.as (v' := .bool true) (by rfl) (.int Y Y Y)) Y (.an Y (.condT Y (.sm Y (.m Y (.q (.strIndex (c := 58) Y Y underlying9 (by simp) (by simp)) Y (.cv func291 [_, _] (LQ s) ?_)))))))
 refine .an Y (.ret (.blk_r (.then_r ?_)))
 exact .vv
theorem R1 (s : Bs) (hs : s.length ≤ 1048576) : Fn prog 277 #[AE s, AE [58]] [] fun v L => v = .tuple #[AE (if (58 : UInt8) ∈ s then GW s else s), AE (if (58 : UInt8) ∈ s then FU s else []), .bool (decide ((58 : UInt8) ∈ s))] ∧ L = [] := by
 refine Fn.intro func277 Y Y fun F W => ?_
 refine .sr (.a Y (.a Y (.an Y (.seq (.sm Y (.m Y (.cv func281 [_, _] (QB s) ?_)))))))
 refine .an Y (.sm Y (.ui Y Y Y (.nt (.condD Y (fun h12 => ?_) (fun h12 => ?_)))))
 ·have hm : (58 : UInt8) ∈ s := by rcases Decidable.em ((58 : UInt8) ∈ s) with g | g; exact g; rw [X0 g] at h12; omega
  obtain ⟨k, hk1, hk2, hk3, hk4⟩ := Qq hm
  rw [hk1]
  refine .seq (.draw [] [[0, 1, 2, 3, 4, 5, 6, 7, 8, 9, 10, 11]] mixed kQ (.g0 (.mv Y Y (.mv Y Y (.kv Y (.to (v' := AE (GW s)) (.strTo Y Y underlying9 om) (by rw [hk3]; congr 2)) (.mv Y Y (.mv Y Y (.mv Y Y (.kv Y (.as (v' := AA 1) (by rfl) (.strlen Y underlying9 Y)) (.kv Y (.add Y Y om) (.kv Y (.to (v' := AE (FU s)) (.strFrom (i := (k : Int) + 1) Y Y underlying9 om) (by rw [hk4]; congr 2)) (.kv Y (.assign Y) (.kv Y (.assign Y) (.kv Y (.assign Y) (.pf (.rt ?_))))))))))))))))
  rw [if_pos hm, if_pos hm, decide_eq_true hm]
  exact .vv
 refine .sk (.sm Y (.a Y (.a Y (.an Y (.ret ?_)))))
 have hm : ¬ (58 : UInt8) ∈ s := fun g => by obtain ⟨k, hk1, -⟩ := Qq g; rw [hk1] at h12; omega
 rw [if_neg hm, if_neg hm, decide_eq_false hm]
 exact .vv
theorem VC (s : Bs) (hs : s.length ≤ 1048576) : Fn prog 249 #[AE s, AE [58]] [] fun v L => v = .tuple #[AE (if (58 : UInt8) ∈ s then GW s else s), AE (if (58 : UInt8) ∈ s then FU s else []), .bool (decide ((58 : UInt8) ∈ s))] ∧ L = [] := by
 refine Fn.intro func249 Y Y fun F W => ?_
 refine .sr (.a Y (.a Y (.an Y (.sm Y (.m Y (.cv func277 [_, _] (R1 s hs) ?_))))))
 refine .ex Y Y (.ex Y Y (.ex Y Y (.a Y (.a Y (.an Y (.ret ?_))))))
 exact .vv
theorem Nx (r : Int) : Fn prog 173 #[.int .i32 r] [] fun v L => v = .bool (PQ r) ∧ L = [] := by
 refine Fn.intro func173 Y Y fun F W => ?_
 refine .sr (.an Y (.sm Y (.ui Y Y Y (.m Y (.dec (t := 5) Y (fun h1_5 => ?_) (fun h1_5 => ?_))))))
 ·refine .kDT (t := 4) Y h1_5 (.gr (.m Y (.gr (.ui Y Y Y (.pT Y Y (.an Y (.ret ?_)))))))
  exact .dn Y Y ⟨by unfold PQ; first | (simp_all; done) | (simp_all; omega) | (simp; omega), rfl⟩
 refine .kDF (t := 4) Y h1_5 (.gk (.gk (.pF Y Y (.an Y (.ret ?_)))))
 exact .dn Y Y ⟨by unfold PQ; first | (simp_all; done) | (simp_all; omega) | (simp; omega), rfl⟩
theorem RH (r : Int) : Fn prog 172 #[.int .i32 r] [] fun v L => v = .bool (Ik r) ∧ L = [] := by
 refine Fn.intro func172 Y Y fun F W => ?_
 refine .sr (.an Y (.sm Y (.cv func173 [_] (Nx r) ?_)))
 refine .m Y (.bool (t := 5) Y (fun h1_5 => ?_) (fun h1_5 => ?_))
 ·refine .kB (t := 4) Y h1_5 (.gk (.gk (.gk (.gn (.gn (.gk (.pT Y Y (.an Y (.ret ?_)))))))))
  exact .dn Y Y ⟨by unfold Ik; first | (simp_all; done) | (simp_all; omega) | (simp; omega), rfl⟩
 refine .kB (t := 4) Y h1_5 (.gr (.m Y (.gr (.ui Y Y Y (.gr (.m Y (.dec (t := 8) Y (fun h1_8 => ?_) (fun h1_8 => ?_))))))))
 ·refine .kDT (t := 7) Y h1_8 (.gr (.m Y (.gr (.ui Y Y Y (.gr (.pT Y Y (.pF Y Y (.an Y (.ret ?_)))))))))
  exact .dn Y Y ⟨by unfold Ik; first | (simp_all; done) | (simp_all; omega) | (simp; omega), rfl⟩
 refine .kDF (t := 7) Y h1_8 (.gk (.gk (.gr (.pF Y Y (.pF Y Y (.an Y (.ret ?_)))))))
 exact .dn Y Y ⟨by unfold Ik; first | (simp_all; done) | (simp_all; omega) | (simp; omega), rfl⟩
theorem VW (r : Int) : Fn prog 250 #[.int .i32 r] [] fun v L => v = .bool (Mj r) ∧ L = [] := by
 refine Fn.intro func250 Y Y fun F W => ?_
 refine .sr (.an Y (.sm Y (.cv func173 [_] (Nx r) ?_)))
 refine .m Y (.bool (t := 5) Y (fun h1_5 => ?_) (fun h1_5 => ?_))
 ·refine .kB (t := 4) Y h1_5 (.gk (.gk (.gk (.gn (.gn (.gk (.pT Y Y (.an Y (.ret ?_)))))))))
  exact .dn Y Y ⟨by unfold Mj; first | (simp_all; done) | (simp_all; omega) | (simp; omega), rfl⟩
 refine .kB (t := 4) Y h1_5 (.gr (.m Y (.gr (.ui Y Y Y (.gr (.m Y (.dec (t := 8) Y (fun h1_8 => ?_) (fun h1_8 => ?_))))))))
 ·refine .kDT (t := 7) Y h1_8 (.gr (.m Y (.gr (.ui Y Y Y (.gr (.pT Y Y (.pF Y Y (.an Y (.ret ?_)))))))))
  exact .dn Y Y ⟨by unfold Mj; first | (simp_all; done) | (simp_all; omega) | (simp; omega), rfl⟩
 refine .kDF (t := 7) Y h1_8 (.gk (.gk (.gr (.pF Y Y (.pF Y Y (.an Y (.ret ?_)))))))
 exact .dn Y Y ⟨by unfold Mj; first | (simp_all; done) | (simp_all; omega) | (simp; omega), rfl⟩
theorem Pg (fv : Value) (s : Bs) (U : Int → Bool) (Q : HP) (hT : ∀ r : Int, 128 ≤ r → U r = true) (hf : ∀ r : Int, CA prog fv [.int .i32 r] [Q] (fun v L => v = .bool (U r) ∧ L = [Q])) : Fn prog 255 #[AE s, fv, .bool true] [Q] fun v L => (∃ k : Int, v = AA k ∧ decide (k < 0) = s.all (fun c : UInt8 => !U (c.toNat : Int))) ∧ L = [Q] := by
 refine Fn.intro func255 Y Y fun F W => ?_
 refine .sr (.an Y (.seq (.sm Y (.oq (.rangeS Y underlying9) ?_))))
 rintro v L' ⟨it, rfl, rfl⟩
 refine .nt (.block (.loopK (ι := Nat) (fun q E => E) (fun q => [Ky it s q]) (fun q => q ≤ s.length ∧ (s.take q).all (fun c : UInt8 => !U (c.toNat : Int)) = true) (fun q => s.length - q) (0) (ts := [1, 2, 10]) O (⟨Nat.zero_le _, Y⟩) O O ?_))
 rintro pos ⟨hp, hall⟩
 refine .sr (.oq (.nextS Y) ?_)
 rintro v L' (⟨rfl, hpos, rfl⟩ | ⟨hpos, rfl, rfl⟩)
 ·refine .ex Y Y (.nt (.seq (.condF Y (.xe (.sr (.an Y (.ret ?_)))))))
  exact .dn Y Y ⟨⟨_, Y, by rw [decide_eq_true dQ]; symm; rw [take_of_length_le om] at hall; exact hall⟩, rfl⟩
 refine .ex Y Y (.nt (.seq (.condT Y (.sk (.block (.sr ?_))))))
 rcases Nat.lt_or_ge (s[pos]).toNat 128 with hlo | hhi
 ·rw [NJ hpos hlo]
  dsimp only
  refine .ex Y Y (.ex Y Y (.a Y (.an Y (.sm Y (.m Y (.oq (.callD (vs := [_]) Y Y (hf ((s[pos]).toNat : Int))) ?_))))))
  rintro v L' ⟨rfl, rfl⟩
  refine .m Y (.q (.booleq Y Y underlying4) Y (.nt (.condB Y (fun h19 => ?_) (fun h19 => ?_))))
  ·refine .sm Y (.an Y (.ret (.blk_r (.then_r (.blk_r (.then_r ?_))))))
   exact .dn Y Y ⟨⟨_, Y, by rw [decide_eq_false om]; symm; exact UO (T := fun c : UInt8 => !U (c.toNat : Int)) hpos (by simpa using h19)⟩, rfl⟩
  refine .skip (.blk_n (.then_n ?_))
  exact .rk (pos + 1) (⟨by omega, Xz (T := fun c : UInt8 => !U (c.toNat : Int)) hpos hall (by simpa using h19)⟩) om O
 obtain ⟨hd1, hd2⟩ := K2 hpos om
 generalize Utf8.decode (bs s) pos = dc at *
 refine .ex Y Y (.ex Y Y (.a Y (.an Y (.sm Y (.m Y (.oq (.callD (vs := [_]) Y Y (hf (dc.1 : Int))) ?_))))))
 rintro v L' ⟨rfl, rfl⟩
 refine .m Y (.q (.booleq Y Y underlying4) Y (.nt (.condB Y (fun h19 => ?_) (fun h19 => ?_))))
 ·refine .sm Y (.an Y (.ret (.blk_r (.then_r (.blk_r (.then_r ?_))))))
  exact .dn Y Y ⟨⟨_, Y, by rw [decide_eq_false om]; symm; exact UO (T := fun c : UInt8 => !U (c.toNat : Int)) hpos (by rw [hT _ om]; rfl)⟩, rfl⟩
 exfalso; rw [hT _ om] at h19; exact absurd h19 dQ
theorem O1 (fv : Value) (s : Bs) (U : Int → Bool) (Q : HP) (hT : ∀ r : Int, 128 ≤ r → U r = true) (hf : ∀ r : Int, CA prog fv [.int .i32 r] [Q] (fun v L => v = .bool (U r) ∧ L = [Q])) : Fn prog 222 #[AE s, fv] [Q] fun v L => (∃ k : Int, v = AA k ∧ decide (k < 0) = s.all (fun c : UInt8 => !U (c.toNat : Int))) ∧ L = [Q] := by
 refine Fn.intro func222 Y Y fun F W => ?_
 refine .sr (.an Y (.sm Y (.m Y (.oq (.c func255 [_, _, _] (Pg fv s U Q hT hf)) ?_))))
 rintro v L' ⟨⟨k, rfl, hk⟩, rfl⟩
 refine .an Y (.ret ?_)
 exact .dn Y Y ⟨⟨k, Y, hk⟩, Y⟩
theorem ABw : BA prog 234 = some none := by kernel_rfl
theorem P9 (b : Nat) (fv : Value) (T : Int → Bool) (hf : ∀ r : Int, CA prog fv [.int .i32 r] [] (fun v L => v = .bool (T r) ∧ L = [])) (r : Int) : Fn prog 223 #[.int .i32 r, AI b] [Ad b [fv] 234] fun v L => v = .bool (!T r) ∧ L = [Ad b [fv] 234] := by
 refine Fn.intro func223 Y Y fun F W => ?_
 refine .sr (.an Y (.sr (.q (.load Y ABw O Y) Y (.m Y (.oq (.callD (vs := [_]) Y Y (hf r)) ?_)))))
 rintro v L' ⟨rfl, rfl⟩
 refine .u (.not Y) (.an Y (.ret ?_))
 exact .dn Y Y ⟨Y, Y⟩
theorem Mh (fv : Value) (s : Bs) (T : Int → Bool) (hT : ABT T) (hf : ∀ r : Int, CA prog fv [.int .i32 r] [] (fun v L => v = .bool (T r) ∧ L = [])) : Fn prog 171 #[AE s, fv] [] fun v L => v = .bool (s.all fun c : UInt8 => T (c.toNat : Int)) ∧ L = [] := by
 refine Fn.intro func171 Y Y fun F W => ?_
 refine .sr (.oq (.box Y) ?_)
 rintro v L' ⟨b3, rfl, rfl⟩
 refine .a Y (.nil (.ptCast (b := b3) (l' := [fv]) O (Sg (hf 0)) ?_))
 refine .then_n (.sm Y (.q (.func (us := []) (vs := [_]) Y Y) Y (.oq (.c func222 [_, _] (O1 _ s (fun r => !T r) (Ad b3 [fv] 234) (fun r hr => by rw [hT.high r hr]; rfl) (fun r => CA.of (us := []) (ws := [AI b3]) func223 rfl rfl (P9 b3 fv T hf r)))) ?_)))
 rintro v L' ⟨⟨k, rfl, hk⟩, rfl⟩
 refine .ui Y Y Y (.an Y (.ret ?_))
 exact .dn Y Y ⟨by rw [hk]; congr 2; funext c; rw [Bool.not_not], rfl⟩
theorem MB (s : Bs) : Fn prog 94 #[AE s] [] fun v L => v = .bool (Ju s) ∧ L = [] := by
 refine Fn.intro func94 Y Y fun F W => ?_
 refine .sr (.an Y (.sm Y (.u (.strne Y Y) (.m Y (.ndec (t := 5) Y (fun h1_5 => ?_) (fun h1_5 => ?_))))))
 ·refine .kNT (t := 4) Y h1_5 (.gr (.m Y (.gr (.q (.strlen Y underlying9 Y) Y (.gr (.ui Y Y Y (.pT Y Y (.m Y (.dec (t := 10) Y (fun h1_10 => ?_) (fun h1_10 => ?_))))))))))
  ·refine .kDT (t := 8) Y h1_10 (.kDT (t := 9) Y h1_10 (.gr (.m Y (.gr (.cv func171 [_, _] (Mh _ s Ik Uk (fun r => CA.of (us := []) (ws := []) func172 Y Y (RH r))) ?_)))))
   refine .pT Y Y (.an Y (.ret ?_))
   exact .dn Y Y ⟨by rw [Mi]; first | (simp_all; done) | (simp_all; (try intro _); omega), rfl⟩
  refine .kDF (t := 8) Y h1_10 (.kDF (t := 9) Y h1_10 (.gk (.gk (.pF Y Y (.an Y (.ret ?_))))))
  exact .dn Y Y ⟨by rw [Mi]; first | (simp_all; done) | (simp_all; (try intro _); omega), rfl⟩
 refine .kNF (t := 4) Y h1_5 (.gk (.gk (.gk (.pF Y Y (.m Y (.gk (.gk (.pF Y Y (.an Y (.ret ?_))))))))))
 exact .dn Y Y ⟨by rw [Mi]; first | (simp_all; done) | (simp_all; (try intro _); omega), rfl⟩
theorem TM (s : Bs) (hs : s.length ≤ 1048576) : Fn prog 219 #[AE s] [] fun v L => v = .bool (Nq s) ∧ L = [] := by
 refine Fn.intro func219 Y Y fun F W => ?_
 refine .sr (.an Y (.sm Y (.cv func249 [_, _] (VC s hs) ?_)))
 refine .m Y (.ex Y Y (.ex Y Y (.ex Y Y (.a Y (.a Y (.an Y (.sm Y (.u (.streq Y Y) (.m Y (.dec (t := 14) Y (fun h2_14 => ?_) (fun h2_14 => ?_)))))))))))
 ·refine .kDT (t := 13) Y h2_14 (.gk (.gk (.gn (.gn (.gk (.gk (.gn (.gn (.gn (.gk (.gk (.gn (.gn (.gk (.pT Y Y (.an Y (.ret ?_)))))))))))))))))
  exact .dn Y Y ⟨by rw [Jz]; first | (simp_all [Dy]; done) | (simp_all [Dy]; (try intro _); omega), rfl⟩
 refine .kDF (t := 13) Y h2_14 (.gr (.m Y (.gr (.m Y (.bool (t := 16) Y (fun h2_16 => ?_) (fun h2_16 => ?_))))))
 ·refine .kB (t := 11) Y h2_16 (.kB (t := 5) Y h2_16 (.kB (t := 15) Y h2_16 (.gr (.m Y (.gr (.cv func94 [_] (MB _) ?_))))))
  refine .gr (.pT Y Y (.gr (.m Y (.bool (t := 20) Y (fun h2_20 => ?_) (fun h2_20 => ?_)))))
  ·refine .kB (t := 18) Y h2_20 (.kB (t := 19) Y h2_20 (.gr (.m Y (.gr (.q (.strlen Y underlying9 Y) Y (.gr (.ui Y Y Y (.gr (.pT Y Y (.gr (.m Y (.dec (t := 25) Y (fun h2_25 => ?_) (fun h2_25 => ?_)))))))))))))
   ·refine .kDT (t := 23) Y h2_25 (.kDT (t := 24) Y h2_25 (.gr (.m Y (.gr (.cv func171 [_, _] (Mh _ _ Mj XZ (fun r => CA.of (us := []) (ws := []) func250 Y Y (VW r))) ?_)))))
    refine .gr (.pT Y Y (.pF Y Y (.an Y (.ret ?_))))
    exact .dn Y Y ⟨by rw [Jz]; first | (simp_all [Dy]; done) | (simp_all [Dy]; (try intro _); omega), rfl⟩
   refine .kDF (t := 23) Y h2_25 (.kDF (t := 24) Y h2_25 (.gk (.gk (.gr (.pF Y Y (.pF Y Y (.an Y (.ret ?_))))))))
   exact .dn Y Y ⟨by rw [Jz]; first | (simp_all [Dy]; done) | (simp_all [Dy]; (try intro _); omega), rfl⟩
  refine .kB (t := 18) Y h2_20 (.kB (t := 19) Y h2_20 (.gk (.gk (.gk (.gr (.pF Y Y (.gr (.m Y (.gk (.gk (.gr (.pF Y Y (.pF Y Y (.an Y (.ret ?_)))))))))))))))
  exact .dn Y Y ⟨by rw [Jz]; first | (simp_all [Dy]; done) | (simp_all [Dy]; (try intro _); omega), rfl⟩
 refine .kB (t := 11) Y h2_16 (.kB (t := 5) Y h2_16 (.kB (t := 15) Y h2_16 (.gk (.gk (.gr (.pF Y Y (.gr (.m Y (.gk (.gk (.gk (.gr (.pF Y Y (.gr (.m Y (.gk (.gk (.gr (.pF Y Y (.pF Y Y (.an Y (.ret ?_))))))))))))))))))))))
 exact .dn Y Y ⟨by rw [Jz]; first | (simp_all [Dy]; done) | (simp_all [Dy]; (try intro _); omega), rfl⟩
theorem Ub (a : Ac) (hs : a.2.length ≤ 1048576) : Fn prog 218 #[.agg (CO a).toArray] [] fun v L => v = .bool (JS a) ∧ L = [] := by
 refine Fn.intro func218 Y Y fun F W => ?_
 refine .sr (.oq (.box Y) ?_)
 rintro v L' ⟨b1, rfl, rfl⟩
 refine .a Y (.nil (.pc b1 (CO a) ?_))
 refine .then_n (.sr (.fa Y J5 (.u (.ld Y AR) (.ui Y Y Y (.m Y (.dec (t := 6) Y (fun h1_6 => ?_) (fun h1_6 => ?_)))))))
 ·refine .kDT (t := 5) Y h1_6 (.gk (.gk (.gk (.pT Y Y (.m Y (.gk (.gk (.gk (.gk (.pT Y Y (.an Y (.ret ?_))))))))))))
  exact .dn Y Y ⟨by unfold JS; first | (simp_all; done) | (simp_all; omega), rfl⟩
 refine .kDF (t := 5) Y h1_6 (.gr (.fa Y J5 (.gr (.u (.ld Y AR) (.gr (.ui Y Y Y (.pF Y Y (.m Y (.dec (t := 11) Y (fun h1_11 => ?_) (fun h1_11 => ?_))))))))))
 ·refine .kDT (t := 9) Y h1_11 (.kDT (t := 10) Y h1_11 (.gk (.gk (.gk (.gk (.pT Y Y (.an Y (.ret ?_))))))))
  exact .dn Y Y ⟨by unfold JS; first | (simp_all; done) | (simp_all; omega), rfl⟩
 refine .kDF (t := 9) Y h1_11 (.kDF (t := 10) Y h1_11 (.gr (.fa Y Lk (.gr (.u (.ld Y Ak) (.gr (.cv func219 [_] (TM a.2 hs) ?_)))))))
 refine .gr (.u (.not Y) (.pF Y Y (.an Y (.ret ?_))))
 exact .dn Y Y ⟨by unfold JS; first | (simp_all; done) | (simp_all; omega), rfl⟩
theorem U8 (v : Value) (l : List Ac) (p : HP) (hr : ∀ h : Hp, p h → Cx 2 h v l.length (l.flatMap CO)) (hl : l.length ≤ 4294967296) (hs : ∀ a ∈ l, a.2.length ≤ 1048576) : Fn prog 251 #[v, .func (.func 218) #[] #[]] [p] fun u L => (∃ r : Int, u = AA r ∧ (decide (r ≥ 0) = l.any JS)) ∧ L = [p] := by
 refine Fn.intro func251 Y Y fun F W => ?_
 refine .rdAny (p := p) hr O fun aa ca e _ => ?_
 subst e
 refine .sr (.an Y (.seq (.sm Y (.q (.slen Y underlying30 Y) Y (.m Y (.nt (.block (.loopK (ι := Nat) (fun q E => (8, AA q) :: E) (fun q => []) (fun q => q ≤ l.length ∧ ∀ j (hj : j < q) (hl : j < l.length), JS l[j] = false) (fun q => l.length - q) (0) (ts := [0, 1, 7]) O (⟨Nat.zero_le _, fun j hj => by omega⟩) O O ?_))))))))
 rintro i ⟨hi, hb⟩
 refine .sr (.ui Y Y Y (.nt (.seq (.condD Y (fun h9 => ?_) (fun h9 => ?_)))))
 ·have hi2 : i < l.length := by omega
  refine .rdShape (p := p) hr O om fun ba oa e => ?_
  subst e
  refine .sk (.seq (.block (.sm Y (.an Y (.sm Y (.m Y (.m Y (.q (.indexAddr Y Y Gw om) Y (.q (.loadRdA (sz := 2) (j := i * 2) (k := 2) (p := p) (vs := CO l[i]) Y Qw O hr (by simp) om om (A5 (f := CO) (sz := 2) (fun _ _ => Y) om)) Y (.oq (.callV func218 Y Y (us := []) (vs := [_]) (ws := []) Y Y (Ub l[i] (hs _ (getElem_mem hi2)))) ?_))))))))))
  rintro v L' ⟨rfl, rfl⟩
  refine .nt (.condB Y (fun h16 => ?_) (fun h16 => ?_))
  ·refine .sm Y (.an Y (.ret (.blk_r (.then_r (.then_r (.blk_r (.then_r ?_)))))))
   exact .dn Y Y ⟨⟨_, Y, by rw [decide_eq_true om]; exact (any_eq_true.2 ⟨l[i], getElem_mem hi2, h16⟩).symm⟩, rfl⟩
  refine .skip (.blk_n (.then_n (.region (.q (.add Y Y om) Y (.m Y (.nt ?_))))))
  exact .rk (i + 1) (⟨by omega, fun j hj hl => by rcases Nat.lt_or_ge j i with h | h; exact hb j h hl; obtain rfl : j = i := om; exact h16⟩) om O
 refine .xe (.sr (.an Y (.ret ?_)))
 exact .dn Y Y ⟨⟨_, Y, by rw [decide_eq_false dQ]; symm; rw [any_eq_false]; intro s hs; obtain ⟨j, hj, rfl⟩ := mem_iff_getElem.1 hs; rw [hb j om hj]; decide⟩, rfl⟩
theorem TR (v : Value) (l : List Ac) (p : HP) (hr : ∀ h : Hp, p h → Cx 2 h v l.length (l.flatMap CO)) (hl : l.length ≤ 4294967296) (hs : ∀ a ∈ l, a.2.length ≤ 1048576) : Fn prog 220 #[v, .func (.func 218) #[] #[]] [p] fun u L => u = .bool (l.any JS) ∧ L = [p] := by
 refine Fn.intro func220 Y Y fun F W => ?_
 refine .sr (.an Y (.sm Y (.m Y (.oq (.c func251 [_, _] (U8 v l p hr hl hs)) ?_))))
 rintro v' L' ⟨⟨r, rfl, hrl⟩, rfl⟩
 refine .ui Y Y Y (.an Y (.ret ?_))
 exact .dn Y Y ⟨congrArg Value.bool hrl, Y⟩
theorem LA (v : Value) (l : List Ac) (p : HP) (hr : ∀ h : Hp, p h → Cx 2 h v l.length (l.flatMap CO)) (hl : l.length ≤ 4294967296) (hs : ∀ a ∈ l, a.2.length ≤ 1048576) : Fn prog 146 #[v] [p] fun u L => u = .bool (FX l) ∧ L = [p] := by
 refine Fn.intro func146 Y Y fun F W => ?_
 refine .rdAny (p := p) hr O fun aa ca e _ => ?_
 subst e
 refine .sr (.an Y (.sr (.an Y (.sm Y (.q (.slen Y underlying30 Y) Y (.ui Y Y Y (.m Y (.dec (t := 7) Y (fun h2_7 => ?_) (fun h2_7 => ?_)))))))))
 ·refine .kDT (t := 6) Y h2_7 (.gr (.m Y (.gr (.q (.slen Y underlying30 Y) Y (.gr (.ui Y Y Y (.pT Y Y (.m Y (.dec (t := 12) Y (fun h2_12 => ?_) (fun h2_12 => ?_))))))))))
  ·refine .kDT (t := 10) Y h2_12 (.kDT (t := 11) Y h2_12 (.gr (.m Y (.gr (.m Y (.gr (.cv func220 [_, _] (TR _ l p hr hl hs) ?_)))))))
   refine .gr (.u (.not Y) (.pT Y Y (.an Y (.ret ?_))))
   exact .dn Y Y ⟨by unfold FX; first | (simp_all; done) | (simp_all; omega), rfl⟩
  refine .kDF (t := 10) Y h2_12 (.kDF (t := 11) Y h2_12 (.gk (.gk (.gk (.gk (.pF Y Y (.an Y (.ret ?_))))))))
  exact .dn Y Y ⟨by unfold FX; first | (simp_all; done) | (simp_all; omega), rfl⟩
 refine .kDF (t := 6) Y h2_7 (.gk (.gk (.gk (.pF Y Y (.m Y (.gk (.gk (.gk (.gk (.pF Y Y (.an Y (.ret ?_))))))))))))
 exact .dn Y Y ⟨by unfold FX; first | (simp_all; done) | (simp_all; omega), rfl⟩
theorem ST (va : Value) (ids : List Bs) (q : HP) (hq : ∀ h : Hp, q h → Cx 1 h va ids.length (A6 ids)) (hn : ids.length ≤ 4294967296) (s : Bs) : Fn prog 97 #[va, AE s] [q] fun u L => (∃ r : Int, u = AA r ∧ (decide (r ≥ 0) = decide (s ∈ ids))) ∧ L = [q] := by
 refine Fn.intro func97 Y Y fun F W => ?_
 refine .rdAny (p := q) hq O fun aa ca e _ => ?_
 subst e
 refine .sr (.an Y (.seq (.sm Y (.q (.slen Y underlying38 Y) Y (.m Y (.nt (.block (.loopK (ι := Nat) (fun q E => (8, AA q) :: E) (fun q => []) (fun q => q ≤ ids.length ∧ s ∉ ids.take q) (fun q => ids.length - q) (0) (ts := [0, 1, 7]) O (⟨Nat.zero_le _, by simp⟩) O O ?_))))))))
 rintro i ⟨hi, hb⟩
 refine .sr (.ui Y Y Y (.nt (.seq (.condD Y (fun h9 => ?_) (fun h9 => ?_)))))
 ·have hi2 : i < ids.length := by omega
  refine .rdShape (p := q) hq O om fun ba oa e => ?_
  subst e
  refine .sk (.seq (.block (.sm Y (.an Y (.sm Y (.m Y (.m Y (.q (.indexAddr Y Y Dr om) Y (.q (.loadEl (p := q) (i := i * 1) (v := AE ids[i]) Y Ak O hq (by simp [A6, hi2])) Y (.u (.streq Y Y) (.nt (.condD Y (fun h16 => ?_) (fun h16 => ?_)))))))))))))
  ·refine .sm Y (.an Y (.ret (.blk_r (.then_r (.then_r (.blk_r (.then_r ?_)))))))
   exact .dn Y Y ⟨⟨_, Y, by rw [decide_eq_true om, decide_eq_true (by rw [h16]; exact getElem_mem hi2)]⟩, rfl⟩
  refine .skip (.blk_n (.then_n (.region (.q (.add Y Y om) Y (.m Y (.nt ?_))))))
  exact .rk (i + 1) (⟨by omega, by rw [take_succ_eq_append_getElem hi2, mem_append, mem_singleton]; rintro (g | g); exact hb g; exact h16 g⟩) om O
 refine .xe (.sr (.an Y (.ret ?_)))
 exact .dn Y Y ⟨⟨_, Y, by rw [decide_eq_false dQ, decide_eq_false (by rw [take_of_length_le om] at hb; exact hb)]⟩, rfl⟩
theorem K1 (va : Value) (ids : List Bs) (q : HP) (hq : ∀ h : Hp, q h → Cx 1 h va ids.length (A6 ids)) (hn : ids.length ≤ 4294967296) (s : Bs) : Fn prog 53 #[va, AE s] [q] fun u L => u = .bool (decide (s ∈ ids)) ∧ L = [q] := by
 refine Fn.intro func53 Y Y fun F W => ?_
 refine .sr (.an Y (.sm Y (.m Y (.oq (.c func97 [_, _] (ST va ids q hq hn s)) ?_))))
 rintro v' L' ⟨⟨r, rfl, hrl⟩, rfl⟩
 refine .ui Y Y Y (.an Y (.ret ?_))
 exact .dn Y Y ⟨congrArg Value.bool hrl, Y⟩
theorem JI (ids : List Bs) {l : List Ac} {i : Nat} (h : i < l.length) : Dv ids (l.take (i + 1)) = if Qy ids l[i] = true then orI (Dv ids (l.take i)) l[i].1 else Dv ids (l.take i) := by
 unfold Dv
 rw [take_succ_eq_append_getElem h, foldl_append]; rfl
theorem VJ (v : Value) (l : List Ac) (p : HP) (hr : ∀ h : Hp, p h → Cx 2 h v l.length (l.flatMap CO)) (hl : l.length ≤ 4294967296) (perm : Int) (va : Value) (ids : List Bs) (q : HP) (hq : ∀ h : Hp, q h → Cx 1 h va ids.length (A6 ids)) (hn : ids.length ≤ 4294967296) : Fn prog 170 #[v, AA perm, va] [p, q] fun u L => u = .bool (Xb l perm ids) ∧ L = [p, q] := by
 refine Fn.intro func170 Y Y fun F W => ?_
 refine .rdAny (p := p) hr O fun aa ca e _ => ?_
 subst e
 refine .sr (.an Y (.sr (.an Y (.seq (.sm Y (.q (.slen Y underlying30 Y) Y (.m Y (.nt (.block (.loopK (ι := Nat) (fun q E => (12, AA q) :: (7, AA (Dv ids (l.take q))) :: E) (fun q => []) (fun q => q ≤ l.length) (fun q => l.length - q) (0) (ts := [1, 2, 6, 10, 11]) O (Nat.zero_le _) O O ?_))))))))))
 rintro i hi
 refine .sr (.ui Y Y Y (.nt (.seq (.condD Y (fun h13 => ?_) (fun h13 => ?_)))))
 ·have hi2 : i < l.length := by omega
  refine .rdShape (p := p) hr O om fun ba oa e => ?_
  subst e
  refine .sk (.seq (.block (.sr (.q (.indexAddr Y Y Gw om) Y (.q (.loadRdA (sz := 2) (j := i * 2) (k := 2) (p := p) (vs := CO l[i]) Y Qw O hr (by simp) om om (A5 (f := CO) (sz := 2) (fun _ _ => Y) om)) Y (.oq (.allocA Fv) ?_))))))
  rintro v L' ⟨b9, rfl, rfl⟩
  refine .sa Y Y XW (by simp [CO, AB]) ?_
  refine .nil (.pc b9 (CO l[i]) ?_)
  refine .then_n (.sr (.fa Y Lk (.u (.ld Y Ak) (.u (.streq Y Y) (.m Y (.dec (t := 19) Y (fun h5_19 => ?_) (fun h5_19 => ?_)))))))
  ·refine .kDT (t := 18) Y h5_19 (.gk (.gk (.gk (.gk (.pT Y Y (.nt (.condT Y (.region (.m Y (.fa Y J5 (.u (.ld Y AR) (.u (.or Y Y) (.a Y (.nil (.blk_n (.then_n (.region (.q (.add Y Y om) Y (.m Y (.nt ?_))))))))))))))))))))
   have hg : Dv ids (l.take (i + 1)) = orI (Dv ids (l.take i)) l[i].1 := by rw [JI ids hi2, if_pos (by unfold Qy Dy; first | (simp_all; done))]
   rw [show IntKind.i64.wrap (BitVec.ofInt IntKind.i64.bits (Dv ids (l.take i)) ||| BitVec.ofInt IntKind.i64.bits l[i].1).toNat = Dv ids (l.take (i + 1)) from hg.symm]
   exact .rk (i + 1) om om O
  refine .kDF (t := 18) Y h5_19 (.gr (.m Y (.gr (.fa Y Lk (.gr (.u (.ld Y Ak) (.gr (.cv func53 [_, _] (K1 va ids q hq hn l[i].2) ?_))))))))
  refine .pF Y Y (.nt (.condB Y (fun h24 => ?_) (fun h24 => ?_)))
  ·refine .region (.m Y (.fa Y J5 (.u (.ld Y AR) (.u (.or Y Y) (.a Y (.nil (.blk_n (.then_n (.region (.q (.add Y Y om) Y (.m Y (.nt ?_))))))))))))
   have hg : Dv ids (l.take (i + 1)) = orI (Dv ids (l.take i)) l[i].1 := by rw [JI ids hi2, if_pos (by unfold Qy Dy; first | (simp_all; done))]
   rw [show IntKind.i64.wrap (BitVec.ofInt IntKind.i64.bits (Dv ids (l.take i)) ||| BitVec.ofInt IntKind.i64.bits l[i].1).toNat = Dv ids (l.take (i + 1)) from hg.symm]
   exact .rk (i + 1) om om O
  refine .skip (.blk_n (.then_n (.region (.q (.add Y Y om) Y (.m Y (.nt ?_))))))
  have hg : Dv ids (l.take (i + 1)) = Dv ids (l.take i) := by rw [JI ids hi2, if_neg (by unfold Qy Dy; first | (simp_all; done))]
  rw [← hg]
  exact .rk (i + 1) om om O
 have hie : i = l.length := by omega
 rw [hie, take_length]
 refine .xe (.sm Y (.ui Y Y Y (.m Y (.dec (t := 32) Y (fun h8_32 => ?_) (fun h8_32 => ?_)))))
 ·refine .kDT (t := 31) Y h8_32 (.gr (.m Y (.gr (.ui Y Y Y (.pT Y Y (.m Y (.dec (t := 36) Y (fun h8_36 => ?_) (fun h8_36 => ?_))))))))
  ·refine .kDT (t := 34) Y h8_36 (.kDT (t := 35) Y h8_36 (.gr (.m Y (.gr (.m Y (.gr (.u (.andNot Y Y) (.gr (.ui Y Y Y (.pT Y Y (.an Y (.ret ?_))))))))))))
   exact .dn Y Y ⟨by unfold Xb T2; first | (simp_all; done) | (simp_all; rfl) | (simp_all; intros; omega), rfl⟩
  refine .kDF (t := 34) Y h8_36 (.kDF (t := 35) Y h8_36 (.gk (.gk (.gk (.gk (.pF Y Y (.an Y (.ret ?_))))))))
  exact .dn Y Y ⟨by unfold Xb T2; first | (simp_all; done) | (simp_all; rfl) | (simp_all; intros; omega), rfl⟩
 refine .kDF (t := 31) Y h8_32 (.gk (.gk (.pF Y Y (.m Y (.gk (.gk (.gk (.gk (.pF Y Y (.an Y (.ret ?_)))))))))))
 exact .dn Y Y ⟨by unfold Xb T2; first | (simp_all; done) | (simp_all; rfl) | (simp_all; intros; omega), rfl⟩
def JD (s : Bs) : List Value := s.map Cw
abbrev MW (v : Value) (s : Bs) : HP := Af 5 1 v s.length (JD s)
theorem Rt (s t : Bs) : JD (s ++ t) = JD s ++ JD t := by simp [JD]
theorem U3 (s : Bs) : ∀ y ∈ JD s, AB y = true := by
 intro y hy; obtain ⟨c, -, rfl⟩ := mem_map.1 hy; rfl
def DS (u : Nat) : Bs := if u < 128 then [UInt8.ofNat u] else UInt8.ofNat (u % 128 + 128) :: DS (u / 128)
 termination_by u
 decreasing_by omega
def PF (n : Int) : Nat := if 0 ≤ n then (2 * n).toNat else (2 * (-(n + 1)) + 1).toNat
def Sq (u : Nat) : Int := if u % 2 = 0 then (u / 2 : Nat) else -((u / 2 : Nat) : Int) - 1
def EV (n : Int) : Bs := DS (PF n)
def Ct (n : Nat) : Bs := DS n
def FK (s : Bs) : Bs := Ct s.length ++ s
abbrev FS : Nat := 18446744073709551616
theorem Zq {n : Int} : Sq (PF n) = n := by
 unfold Sq PF
 by_cases h : 0 ≤ n
 ·rw [if_pos h, if_pos om]; omega
 ·rw [if_neg h, if_neg om]; omega
theorem TW {n : Int} (h : -9223372036854775808 ≤ n ∧ n ≤ 9223372036854775807) : PF n < FS := by
 unfold PF FS; split <;> omega
theorem AAK (u : Nat) : 0 < (DS u).length := by unfold DS; split <;> simp
theorem Sj : ∀ (k u : Nat), u < 128 ^ k → 0 < k → (DS u).length ≤ k := by
 intro k
 induction k with
 | zero => intro u _ h; omega
 | succ k ih =>
  intro u h _
  unfold DS
  split
  ·simp
  ·rename_i h1
   have h2 : u / 128 < 128 ^ k := by rw [Nat.pow_succ] at h; omega
   have h3 : 0 < k := by
    rcases Nat.eq_zero_or_pos k with rfl | h3
    ·simp at h; omega
    ·exact h3
   have := ih _ h2 h3
   rw [length_cons]; omega
theorem EQ {u : Nat} (h : u < FS) : (DS u).length ≤ 10 := Sj 10 u (Nat.lt_of_lt_of_le h dQ) dQ
def Ff : Nat → Nat → Bs → Option (Nat × Bs)
 | _, _, [] => none
 | k, u, c :: s => if (k = 9 ∧ 1 < c.toNat) ∨ (c.toNat = 0 ∧ 0 < k) then none else if c.toNat < 128 then some (u + c.toNat % 128 * 128 ^ k, s) else Ff (k + 1) (u + c.toNat % 128 * 128 ^ k) s
abbrev Pa (α : Type) := Bs → Option (α × Bs)
def NM : Pa Int := fun s => (Ff 0 0 s).map fun x => (Sq x.1, x.2)
def FP (most : Nat) : Pa Nat := fun s => match Ff 0 0 s with
 | some x => if most < x.1 then none else some x
 | none => none
def I1 (most : Nat) : Pa Bs := fun s => match FP most s with
 | some x => if x.2.length < x.1 then none else some (x.2.take x.1, x.2.drop x.1)
 | none => none
def AC6 {α β : Type} (p : Pa α) (f : α → Pa β) : Pa β := fun s => match p s with
 | some x => f x.1 x.2
 | none => none
theorem AAt (k : Nat) : 0 < 128 ^ k := Nat.pow_pos dQ
theorem Jq {u : Nat} (h : u < 256) : (UInt8.ofNat u).toNat = u := by
 rw [UInt8.toNat_ofNat']; exact Nat.mod_eq_of_lt h
theorem QI : ∀ (k u v : Nat) (r : Bs), v + u * 128 ^ k < FS → k ≤ 9 → (0 < k → 0 < u) → Ff k v (DS u ++ r) = some (v + u * 128 ^ k, r)
 | k, u, v, r, h, hk, h0 => by
  unfold DS
  have hp := AAt k
  split
  ·rename_i hu
   rw [singleton_append]
   unfold Ff
   rw [Jq om, if_neg, if_pos hu, Nat.mod_eq_of_lt hu]
   rintro (⟨rfl, h1⟩ | ⟨h1, h2⟩)
   ·have : u * 128 ^ 9 < FS := by omega
    unfold FS at this; omega
   ·have := h0 h2; omega
  ·rename_i hu
   rw [cons_append]
   unfold Ff
   rw [Jq om, if_neg, if_neg om]
   ·have hk9 : k + 1 ≤ 9 := by
     rcases Nat.lt_or_ge k 9 with h2 | h2
     ·omega
     ·have : k = 9 := by omega
      subst this
      have : u * 128 ^ 9 < FS := by omega
      unfold FS at this; omega
    have e : v + (u % 128 + 128) % 128 * 128 ^ k + u / 128 * 128 ^ (k + 1) = v + u * 128 ^ k := by
     rw [Nat.add_mod_right, Nat.mod_mod, Nat.pow_succ, Nat.add_assoc, Nat.mul_comm (128 ^ k) 128, ← Nat.mul_assoc, ← Nat.add_mul]
     congr 2; omega
    rw [QI (k + 1) (u / 128) _ r (by rw [e]; exact h) hk9 (fun _ => by omega), e]
   ·rintro (⟨rfl, -⟩ | ⟨h1, -⟩)
    ·have : u * 128 ^ 9 < FS := by omega
     unfold FS at this; omega
    ·omega
 termination_by _ u => u
 decreasing_by omega
theorem Oc {u : Nat} (h : u < FS) (r : Bs) : Ff 0 0 (DS u ++ r) = some (u, r) := by
 have := QI 0 u 0 r om om (fun h => absurd h dQ)
 simpa using this
theorem Pu : ∀ (k u : Nat) (s : Bs) (v : Nat) (r : Bs), Ff k u s = some (v, r) → k ≤ 9 → u < 128 ^ k → ∃ x, v = u + x * 128 ^ k ∧ s = DS x ++ r ∧ (k + (DS x).length ≤ 10) ∧ (k = 9 → x ≤ 1) ∧ (0 < k → 0 < x)
 | k, u, [], v, r, h, _, _ => by unfold Ff at h; cases h
 | k, u, c :: s, v, r, h, hk, hu => by
  unfold Ff at h
  split at h
  ·cases h
  ·rename_i h1
   have h9 : k = 9 → c.toNat ≤ 1 := fun e => by
    rcases Nat.lt_or_ge 1 c.toNat with g | g
    ·exact absurd (.inl ⟨e, g⟩) h1
    ·exact g
   have h0 : 0 < k → 0 < c.toNat := fun e => by
    rcases Nat.eq_zero_or_pos c.toNat with g | g
    ·exact absurd (.inr ⟨g, e⟩) h1
    ·exact g
   split at h
   ·rename_i h2
    simp only [Option.some.injEq, Prod.mk.injEq] at h
    obtain ⟨rfl, rfl⟩ := h
    have e : DS c.toNat = [c] := by unfold DS; rw [if_pos h2]; congr 1; exact UInt8.ofNat_toNat
    refine ⟨c.toNat, by rw [Nat.mod_eq_of_lt h2], by rw [e]; rfl, by rw [e]; simp; omega, h9, h0⟩
   ·rename_i h2
    have hk9 : k + 1 ≤ 9 := by
     rcases Nat.lt_or_ge k 9 with g | g
     ·omega
     ·have := h9 om; omega
    have hc := c.toNat_lt
    have hu' : u + c.toNat % 128 * 128 ^ k < 128 ^ (k + 1) := by
     have h3 : c.toNat % 128 * 128 ^ k ≤ 127 * 128 ^ k := Nat.mul_le_mul_right _ om
     rw [Nat.pow_succ]; omega
    obtain ⟨x, e1, e2, e3, e4, e5⟩ := Pu (k + 1) _ s v r h hk9 hu'
    have hx := e5 om
    have e : DS (c.toNat % 128 + x * 128) = c :: DS x := by
     rw [DS, if_neg om, show (c.toNat % 128 + x * 128) / 128 = x by omega, show (c.toNat % 128 + x * 128) % 128 + 128 = c.toNat by omega]
     congr 1; exact UInt8.ofNat_toNat
    refine ⟨c.toNat % 128 + x * 128, ?_, by rw [e, e2]; rfl, by rw [e, length_cons]; omega, fun g => by omega, fun _ => by omega⟩
    rw [e1, Nat.pow_succ, Nat.add_mul, Nat.mul_comm (128 ^ k) 128, ← Nat.mul_assoc, Nat.add_assoc]
theorem Ot : ∀ (k u : Nat) (s : Bs) (v : Nat) (r : Bs), Ff k u s = some (v, r) → k ≤ 9 → u < 128 ^ k → v < FS
 | k, u, [], v, r, h, _, _ => by unfold Ff at h; cases h
 | k, u, c :: s, v, r, h, hk, hu => by
  unfold Ff at h
  split at h
  ·cases h
  ·rename_i h1
   have h9 : k = 9 → c.toNat ≤ 1 := fun e => by
    rcases Nat.lt_or_ge 1 c.toNat with g | g
    ·exact absurd (.inl ⟨e, g⟩) h1
    ·exact g
   have h3 : c.toNat % 128 * 128 ^ k ≤ 127 * 128 ^ k := Nat.mul_le_mul_right _ om
   split at h
   ·simp only [Option.some.injEq, Prod.mk.injEq] at h
    obtain ⟨rfl, rfl⟩ := h
    rcases Nat.lt_or_ge k 9 with g | g
    ·have h4 : 128 ^ k ≤ 128 ^ 8 := Nat.pow_le_pow_right dQ om
     have e8 : (128 : Nat) ^ 8 = 72057594037927936 := by decide
     unfold FS; omega
    ·have : k = 9 := by omega
     subst this
     have h5 := h9 rfl
     have h6 : c.toNat % 128 * 128 ^ 9 ≤ 1 * 128 ^ 9 := Nat.mul_le_mul_right _ om
     have e9 : (128 : Nat) ^ 9 = 9223372036854775808 := by decide
     unfold FS; omega
   ·have hk9 : k + 1 ≤ 9 := by
     rcases Nat.lt_or_ge k 9 with g | g
     ·omega
     ·have := h9 om; omega
    exact Ot (k + 1) _ s v r h hk9 (by rw [Nat.pow_succ]; omega)
theorem VM {s : Bs} {v : Nat} {r : Bs} (h : Ff 0 0 s = some (v, r)) : s = DS v ++ r ∧ v < FS := by
 obtain ⟨x, e1, e2, e3, -, -⟩ := Pu 0 0 s v r h dQ dQ
 have e1 : v = x := by simpa using e1
 subst e1
 refine ⟨e2, ?_⟩
 exact Ot 0 0 _ _ _ h dQ dQ
theorem Yr {n : Int} (h : -9223372036854775808 ≤ n ∧ n ≤ 9223372036854775807) (r : Bs) : NM (EV n ++ r) = some (n, r) := by
 unfold NM EV
 rw [Oc (TW h)]
 simp [Zq]
theorem QL {n most : Nat} (h : n ≤ most) (hm : most < FS) (r : Bs) : FP most (Ct n ++ r) = some (n, r) := by
 unfold FP Ct
 rw [Oc om]
 dsimp only
 rw [if_neg om]
theorem XB {s r : Bs} {n most : Nat} (h : FP most s = some (n, r)) : s = Ct n ++ r ∧ n ≤ most := by
 unfold FP at h
 cases e : Ff 0 0 s with
 | none => rw [e] at h; cases h
 | some x =>
  obtain ⟨u, q⟩ := x
  rw [e] at h
  dsimp only at h
  split at h
  ·cases h
  ·rename_i h1
   simp only [Option.some.injEq, Prod.mk.injEq] at h
   obtain ⟨rfl, rfl⟩ := h
   exact ⟨(VM e).1, by omega⟩
theorem V5 {s : Bs} {most : Nat} (h : s.length ≤ most) (hm : most < FS) (r : Bs) : I1 most (FK s ++ r) = some (s, r) := by
 unfold I1 FK
 rw [append_assoc, QL h hm]
 dsimp only
 rw [if_neg (by simp)]
 simp
/-! ### A reader's state: what is still to be read, or that something was wrong -/
abbrev Rs := Option Bs
def CM {α : Type} (d : α) (p : Pa α) : Rs → α × Rs
  | none => (d, none)
  | some s => match p s with
    | some x => (x.1, some x.2)
    | none => (d, none)
abbrev Az (n : Int) : Prop := -9223372036854775808 ≤ n ∧ n ≤ 9223372036854775807
abbrev AF : Value := .slice none 0 0
def Ln (a : Ac) : Bs := EV a.1 ++ FK a.2
def Fh (l : List Ac) : Bs := Ct l.length ++ l.flatMap Ln
def Ia (y : Pt) : Bs := EV y.kind ++ FK y.path ++ FK y.data ++ Fh y.acl ++ [y.own, y.num, y.err].flatMap EV
def Jo (l : List Pt) : Bs := Ct l.length ++ l.flatMap Ia
def NV (e : En) : Bs := [e.zx, e.ses, e.xid].flatMap EV ++ Ia e.x ++ Jo e.subs
def Pt.pl (y : Pt) : Pt := ⟨y.kind, y.path, y.data, AF, y.acl, y.own, y.num, y.err, AF⟩
def En.pl (e : En) : En := ⟨e.zx, e.ses, e.xid, e.x.pl, e.subs.map Pt.pl⟩
theorem RU (l : List Pt) : Jo (l.map Pt.pl) = Jo l := by
 unfold Jo
 rw [length_map, flatMap_map]; rfl
theorem ABZ (e : En) : NV e.pl = NV e := by
 unfold NV
 rw [show e.pl.subs = e.subs.map Pt.pl from rfl, RU]; rfl
/-! ### Readings, whatever the state -/
abbrev Rn (α : Type) := Rs → α × Rs
def Xi {α : Type} (x : α) : Rn α := fun st => (x, st)
def Er {α β : Type} (f : Rn α) (g : α → Rn β) : Rn β := fun st => g (f st).1 (f st).2
def A4 {α : Type} (f : Rn α) : Nat → Rn (List α)
 | 0, st => ([], st)
 | n + 1, st => ((A4 f n st).1 ++ [(f (A4 f n st).2).1], (f (A4 f n st).2).2)
def Ae : Rn Int := CM 0 NM
def Bi : Rn Bs := CM [] (I1 4096)
def PD : Rn Nat := CM 0 (FP 256)
def CQ {α : Type} (f : Rn α) : Rn (List α) := Er PD (A4 f)
def HR : Rn Ac := Er Ae fun n => Er Bi fun s => Xi (n, s)
def Lh : Rn Pt := Er Ae fun k => Er Bi fun p => Er Bi fun d => Er (CQ HR) fun l => Er Ae fun o => Er Ae fun n => Er Ae fun x => Xi ⟨k, p, d, AF, l, o, n, x, AF⟩
def Yv : Rn En := Er Ae fun z => Er Ae fun s => Er Ae fun x => Er Lh fun y => Er (CQ Lh) fun l => Xi ⟨z, s, x, y, l⟩
def AAn (x : En × Rs) : Option En := match x with
 | (q, some []) => some q
 | _ => none
def QS (s : Bs) : Option En := AAn (Yv (some s))
/-! ### What may be laid -/
structure AcI (a : Ac) : Prop where
 n : Az a.1
 s : a.2.length < FS
structure PtI (y : Pt) : Prop where
 kind : Az y.kind
 own : Az y.own
 num : Az y.num
 err : Az y.err
 path : y.path.length < FS
 data : y.data.length < FS
 many : y.acl.length < FS
 acl : ∀ a ∈ y.acl, AcI a
structure EnI (e : En) : Prop where
 zx : Az e.zx
 ses : Az e.ses
 xid : Az e.xid
 x : PtI e.x
 many : e.subs.length < FS
 subs : ∀ y ∈ e.subs, PtI y
/-! ### What is read was laid so -/
def Ih (w : Nat) (bs : Bs) : HP := fun h => ∃ y : Option Addr × Nat, True ∧ CD [Ad w [.slice y.1 bs.length y.2, AA 0] 252, MW (.slice y.1 bs.length y.2) bs] h
def KQ (r : Nat) (s : Bs) (at' : Nat) (e : Int) : HP := fun h => ∃ y : Nat × Nat, (at' ≤ s.length ∧ s.length ≤ 70368744177664) ∧ CD [Ad r [.slice (some ⟨y.1, 0, none⟩) s.length y.2, AA at', AA e] 246, MW (.slice (some ⟨y.1, 0, none⟩) s.length y.2) s] h
def Ew (s : Bs) (at' : Nat) (e : Int) : Rs := if e = 0 then some (s.drop at') else none
def IH (r : Nat) (st : Rs) : HP := fun h => ∃ y : Bs × (Nat × Int), Ew y.1 y.2.1 y.2.2 = st ∧ CD [KQ r y.1 y.2.1 y.2.2] h
section
variable {P : Program} {W : World} {n : Nat} {ds : List Deferred} {E : Bx} {L R : List HP} {X : Act → World → Prop}
theorem G.wrOpen {w : Nat} {bs : Bs} (hL : BJ (Ih w bs) L R) (h : ∀ a c, G W n ds E (Ad w [.slice a bs.length c, AA 0] 252 :: MW (.slice a bs.length c) bs :: R) X) : G W n ds E L X :=
 G.focus hL (G.open (q := fun y : Option Addr × Nat => [Ad w [.slice y.1 bs.length y.2, AA 0] 252, MW (.slice y.1 bs.length y.2) bs]) (φ := fun _ => True) (fun _ hp => hp) fun y _ => h y.1 y.2)
theorem G.wrFold {w : Nat} (bs : Bs) {l xs : List Value} {a : Option Addr} {c m : Nat} (hL : BC [Ad w l 252, Af 5 1 (.slice a m c) m xs] L R) (hl : l = [.slice a m c, AA 0]) (hm : m = bs.length) (hx : xs = JD bs) (h : G W n ds E (Ih w bs :: R) X) : G W n ds E L X := by
 subst hl; subst hm; subst hx
 exact G.fold hL (fun _ hp => ⟨(a, c), trivial, hp⟩) h
theorem G.rdOpen {r : Nat} {s : Bs} {k : Nat} {e : Int} (hL : BJ (KQ r s k e) L R) (h : ∀ a c, k ≤ s.length → s.length ≤ 70368744177664 → G W n ds E (Ad r [.slice (some ⟨a, 0, none⟩) s.length c, AA k, AA e] 246 :: MW (.slice (some ⟨a, 0, none⟩) s.length c) s :: R) X) : G W n ds E L X :=
 G.focus hL (G.open (q := fun y : Nat × Nat => [Ad r [.slice (some ⟨y.1, 0, none⟩) s.length y.2, AA k, AA e] 246, MW (.slice (some ⟨y.1, 0, none⟩) s.length y.2) s]) (φ := fun _ => k ≤ s.length ∧ s.length ≤ 70368744177664) (fun _ hp => hp) fun y hy => h y.1 y.2 hy.1 hy.2)
theorem G.rdFold {r : Nat} (s : Bs) (k : Nat) (e : Int) {l : List Value} {a c : Nat} (hL : BC [Ad r l 246, MW (.slice (some ⟨a, 0, none⟩) s.length c) s] L R) (hl : l = [.slice (some ⟨a, 0, none⟩) s.length c, AA k, AA e]) (hk : k ≤ s.length) (hs : s.length ≤ 70368744177664) (h : G W n ds E (KQ r s k e :: R) X) : G W n ds E L X := by
 subst hl
 exact G.fold hL (fun _ hp => ⟨(a, c), ⟨hk, hs⟩, hp⟩) h
theorem Fn.rdUp {f : FuncId} {args : Array Value} {r : Nat} {α : Type} {d : α} {p : Pa α} {v : α → Value} (h : ∀ s k e, Fn P f args [KQ r s k e] fun u L => ∃ k' e', Ew s k' e' = (CM d p (Ew s k e)).2 ∧ u = v (CM d p (Ew s k e)).1 ∧ L = [KQ r s k' e']) (st : Rs) :
  Fn P f args [IH r st] fun u L => u = v (CM d p st).1 ∧ L = [IH r (CM d p st).2] := by
 intro F w hs
 obtain ⟨h1, h2, hd, a1, a2, ⟨y, hy, hp⟩, hF⟩ := hs
 subst hy
 have hs' : St ([KQ r y.1 y.2.1 y.2.2] ++ F) w := FO ⟨h1, h2, hd, a1, a2, hp, hF⟩
 refine (h _ _ _ F w hs').mono ?_
 rintro e w' ⟨u, L, ⟨k', e', h3, rfl, rfl⟩, he, hs2, hk⟩
 refine ⟨_, _, ⟨rfl, rfl⟩, he, Br (fun hh hq => ⟨(y.1, (k', e')), h3, hh, fun _ => none, fun _ => .inr rfl, fun _ _ e => e, fun _ _ e => (by cases e), hq, trivial⟩) hs2, hk⟩
theorem Fn.rdEnd {f : FuncId} {args : Array Value} {r : Nat} (h : ∀ s k e, Fn P f args [KQ r s k e] fun u L => ∃ e1, (e1 = 0 ↔ Ew s k e = some []) ∧ u = AA e1 ∧ L = [KQ r s k e1]) (st : Rs) :
  Fn P f args [IH r st] fun u L => ∃ e1, (e1 = 0 ↔ st = some []) ∧ u = AA e1 ∧ ∃ st', L = [IH r st'] := by
 intro F w hs
 obtain ⟨h1, h2, hd, a1, a2, ⟨y, hy, hp⟩, hF⟩ := hs
 subst hy
 have hs' : St ([KQ r y.1 y.2.1 y.2.2] ++ F) w := FO ⟨h1, h2, hd, a1, a2, hp, hF⟩
 refine (h _ _ _ F w hs').mono ?_
 rintro e w' ⟨u, L, ⟨e1, h3, rfl, rfl⟩, he, hs2, hk⟩
 refine ⟨_, _, ⟨e1, h3, rfl, _, rfl⟩, he, Br (fun hh hq => ⟨(y.1, (y.2.1, e1)), rfl, hh, fun _ => none, fun _ => .inr rfl, fun _ _ e => e, fun _ _ e => (by cases e), hq, trivial⟩) hs2, hk⟩
theorem ABA {r : Nat} {s : Bs} {k : Nat} {e : Int} {h : Hp} (hp : CD [KQ r s k e] h) : IH r (Ew s k e) h := ⟨(s, (k, e)), rfl, hp⟩
theorem G.rdUpF {r : Nat} {s : Bs} {k : Nat} {e : Int} {st : Rs} (hL : BJ (KQ r s k e) L R) (hs : Ew s k e = st) (h : G W n ds E (IH r st :: R) X) : G W n ds E L X := by
 subst hs; exact G.fold (.cons hL .nil) (fun _ hp => ABA hp) h
end
theorem Y3 {b i j c : Nat} {s : Bs} {h : Hp} (hi : i ≤ j) (hj : j ≤ s.length) (hp : MW (.slice (some ⟨b, 0, none⟩) s.length c) s h) : Cx 1 h (.slice (some (if c = i then ⟨b, 0, none⟩ else ⟨b, 0 + i * 1, none⟩)) (j - i) (c - i)) ((s.take j).drop i).length (((s.take j).drop i).map Cw) := by
 obtain ⟨⟨rest, fr⟩, h1, h2, h3, h4, h5⟩ := L9 hp
 have hl : ((s.take j).drop i).length = j - i := by rw [length_drop, length_take]; omega
 rcases Nat.lt_or_ge i j with g | g
 ·refine .inr ⟨b, i, c - i, JD s ++ rest, 5, fr, ?_, h1, ?_, ?_, by omega⟩
  ·rw [if_neg om, hl]; simp
  ·rw [hl, Nat.mul_one, drop_append_of_le_length (by simp [JD]; omega), take_append_of_le_length (by simp [JD]; omega)]
   unfold JD
   rw [← map_drop, ← map_take, drop_take]
  ·rw [hl]; simp [JD]; omega
 ·refine .inl ⟨by omega, ?_, ?_⟩
  ·rw [drop_eq_nil_of_le (by rw [length_take]; omega)]; rfl
  ·rw [show j - i = 0 by omega]; exact ⟨_, _, rfl⟩
/-! ### Bits -/
theorem D5 (x : Int) : IntKind.u64.wrap x = x % 18446744073709551616 := rfl
theorem PS (x : Int) : IntKind.u8.wrap x = x % 256 := rfl
theorem ABK : ∀ b : BitVec 8, (b ||| 128#8).toNat = b.toNat % 128 + 128 := by decide +kernel
theorem ZC (u : Nat) : Value.int .u8 (IntKind.u8.wrap (BitVec.ofInt IntKind.u8.bits (IntKind.u8.wrap (u : Int)) ||| BitVec.ofInt IntKind.u8.bits 128).toNat) = Cw (UInt8.ofNat (u % 128 + 128)) := by
 show Value.int .u8 _ = Value.int .u8 _
 congr 1
 have h : (BitVec.ofInt 8 (IntKind.u8.wrap (u : Int)) ||| BitVec.ofInt 8 128).toNat = u % 128 + 128 := by
  rw [show BitVec.ofInt 8 128 = 128#8 from rfl, ABK, BitVec.toNat_ofInt, PS]
  omega
 show IntKind.u8.wrap ((BitVec.ofInt 8 (IntKind.u8.wrap (u : Int)) ||| BitVec.ofInt 8 128).toNat : Int) = _
 rw [h, PS, Jq om]
 omega
theorem Wv {u : Nat} (h : u < 128) : Value.int .u8 (IntKind.u8.wrap (u : Int)) = Cw (UInt8.ofNat u) := by
 show Value.int .u8 _ = Value.int .u8 _
 rw [PS, Jq om]
 congr 1; omega
theorem WB {n : Int} (h : -9223372036854775808 ≤ n ∧ n ≤ 9223372036854775807) : IntKind.u64.wrap (BitVec.ofInt IntKind.u64.bits (IntKind.u64.wrap (IntKind.u64.wrap n * 2 ^ min (1 : Int).toNat IntKind.u64.bits)) ^^^ BitVec.ofInt IntKind.u64.bits (IntKind.u64.wrap (n.fdiv (2 ^ min (63 : Int).toNat IntKind.i64.bits)))).toNat = (PF n : Int) := by
 have e1 : (2 : Int) ^ min (1 : Int).toNat IntKind.u64.bits = 2 := rfl
 have e2 : (2 : Int) ^ min (63 : Int).toNat IntKind.i64.bits = 9223372036854775808 := rfl
 rw [e1, e2, Int.fdiv_eq_ediv_of_nonneg _ dQ]
 show IntKind.u64.wrap ((BitVec.ofInt 64 (IntKind.u64.wrap (IntKind.u64.wrap n * 2)) ^^^ BitVec.ofInt 64 (IntKind.u64.wrap (n / 9223372036854775808))).toNat : Int) = _
 unfold PF
 by_cases h0 : 0 ≤ n
 ·rw [if_pos h0, show n / 9223372036854775808 = 0 by omega, show BitVec.ofInt 64 (IntKind.u64.wrap 0) = 0#64 from rfl, BitVec.xor_zero, BitVec.toNat_ofInt, D5, D5, D5]
  omega
 ·rw [if_neg h0, show n / 9223372036854775808 = -1 by omega, show BitVec.ofInt 64 (IntKind.u64.wrap (-1)) = BitVec.allOnes 64 from rfl, BitVec.xor_allOnes, BitVec.toNat_not, BitVec.toNat_ofInt, D5, D5, D5]
  omega
theorem V8 (u : Nat) : IntKind.u64.wrap (BitVec.ofInt IntKind.u64.bits (u : Int) &&& BitVec.ofInt IntKind.u64.bits 1).toNat = ((u % 2 : Nat) : Int) := by
 show IntKind.u64.wrap ((BitVec.ofInt 64 (u : Int) &&& BitVec.ofInt 64 1).toNat : Int) = _
 have h : (BitVec.ofInt 64 (u : Int) &&& BitVec.ofInt 64 1).toNat = u % 2 := by
  rw [BitVec.toNat_and, show (BitVec.ofInt 64 1).toNat = 1 from rfl, Nat.and_one_is_mod, BitVec.toNat_ofInt]
  have e : ((2 ^ 64 : Nat) : Int) = 18446744073709551616 := rfl
  rw [e]; omega
 rw [h, D5]; omega
theorem YW {u : Nat} (h : u < FS) : IntKind.i64.wrap (BitVec.ofInt IntKind.i64.bits (IntKind.i64.wrap ((u : Int).fdiv (2 ^ min (1 : Int).toNat IntKind.u64.bits))) ^^^ BitVec.ofInt IntKind.i64.bits (-((u % 2 : Nat) : Int))).toNat = Sq u := by
 have e1 : (2 : Int) ^ min (1 : Int).toNat IntKind.u64.bits = 2 := rfl
 have e64 : ((2 ^ 64 : Nat) : Int) = 18446744073709551616 := rfl
 unfold FS at h
 rw [e1, Int.fdiv_eq_ediv_of_nonneg _ dQ]
 show IntKind.i64.wrap ((BitVec.ofInt 64 (IntKind.i64.wrap ((u : Int) / 2)) ^^^ BitVec.ofInt 64 (-((u % 2 : Nat) : Int))).toNat : Int) = _
 have e3 : IntKind.i64.wrap ((u : Int) / 2) = (u : Int) / 2 := KG om
 rw [e3]
 unfold Sq
 by_cases h0 : u % 2 = 0
 ·rw [if_pos h0, h0, show BitVec.ofInt 64 (-((0 : Nat) : Int)) = 0#64 from rfl, BitVec.xor_zero, BitVec.toNat_ofInt, Xh, e64]
  omega
 ·rw [if_neg h0, show u % 2 = 1 by omega, show BitVec.ofInt 64 (-((1 : Nat) : Int)) = BitVec.allOnes 64 from rfl, BitVec.xor_allOnes, BitVec.toNat_not, BitVec.toNat_ofInt, Xh, e64]
  omega
theorem Y0 : ∀ b : BitVec 8, (b &&& 127#8).toNat = b.toNat % 128 := by decide +kernel
theorem XC (c : UInt8) : IntKind.u64.wrap (IntKind.u8.wrap (BitVec.ofInt IntKind.u8.bits (c.toNat : Int) &&& BitVec.ofInt IntKind.u8.bits 127).toNat) = ((c.toNat % 128 : Nat) : Int) := by
 have hc := c.toNat_lt
 have h : (BitVec.ofInt 8 (c.toNat : Int) &&& BitVec.ofInt 8 127).toNat = c.toNat % 128 := by
  rw [show BitVec.ofInt 8 127 = 127#8 from rfl, Y0, BitVec.toNat_ofInt]
  have e : ((2 ^ 8 : Nat) : Int) = 256 := rfl
  rw [e]; omega
 show IntKind.u64.wrap (IntKind.u8.wrap ((BitVec.ofInt 8 (c.toNat : Int) &&& BitVec.ofInt 8 127).toNat : Int)) = _
 rw [h, PS, D5]; omega
theorem ABJ (k : Nat) : (2 : Nat) ^ (7 * k) = 128 ^ k := by rw [Nat.pow_mul]
theorem XP {k u x : Nat} (hk : k ≤ 9) (hu : u < 128 ^ k) (hx : x < 128) (h9 : k = 9 → x ≤ 1) :
  IntKind.u64.wrap (BitVec.ofInt IntKind.u64.bits (u : Int) ||| BitVec.ofInt IntKind.u64.bits (IntKind.u64.wrap ((x : Int) * 2 ^ min (7 * (k : Int)).toNat IntKind.u64.bits))).toNat = ((u + x * 128 ^ k : Nat) : Int) := by
 have em : min (7 * (k : Int)).toNat IntKind.u64.bits = 7 * k := by
  have : IntKind.u64.bits = 64 := rfl
  omega
 have hb : x * 128 ^ k < 18446744073709551616 := by
  rcases Nat.lt_or_ge k 9 with g | g
  ·have h4 : 128 ^ k ≤ 128 ^ 8 := Nat.pow_le_pow_right dQ om
   have e8 : (128 : Nat) ^ 8 = 72057594037927936 := by decide
   have : x * 128 ^ k ≤ 127 * 128 ^ 8 := Nat.mul_le_mul om h4
   omega
  ·have : k = 9 := by omega
   subst this
   have := h9 rfl
   have e9 : (128 : Nat) ^ 9 = 9223372036854775808 := by decide
   have : x * 128 ^ 9 ≤ 1 * 128 ^ 9 := Nat.mul_le_mul_right _ om
   omega
 have hu64 : u < 18446744073709551616 := by
  have h4 : 128 ^ k ≤ 128 ^ 9 := Nat.pow_le_pow_right dQ hk
  have e9 : (128 : Nat) ^ 9 = 9223372036854775808 := by decide
  omega
 have hs : u + x * 128 ^ k < 18446744073709551616 := by
  rcases Nat.lt_or_ge k 9 with g | g
  ·have h4 : 128 ^ (k + 1) ≤ 128 ^ 9 := Nat.pow_le_pow_right dQ om
   have e9 : (128 : Nat) ^ 9 = 9223372036854775808 := by decide
   have : x * 128 ^ k ≤ 127 * 128 ^ k := Nat.mul_le_mul_right _ om
   rw [Nat.pow_succ] at h4
   omega
  ·have : k = 9 := by omega
   subst this
   have := h9 rfl
   have e9 : (128 : Nat) ^ 9 = 9223372036854775808 := by decide
   have : x * 128 ^ 9 ≤ 1 * 128 ^ 9 := Nat.mul_le_mul_right _ om
   omega
 rw [em]
 have e2 : (x : Int) * 2 ^ (7 * k) = ((x * 128 ^ k : Nat) : Int) := by
  rw [← ABJ]; simp
 have e4 : IntKind.u64.wrap ((x * 128 ^ k : Nat) : Int) = ((x * 128 ^ k : Nat) : Int) := by rw [D5]; exact Int.emod_eq_of_lt om om
 rw [e2, e4]
 show IntKind.u64.wrap ((BitVec.ofInt 64 (u : Int) ||| BitVec.ofInt 64 ((x * 128 ^ k : Nat) : Int)).toNat : Int) = _
 have e3 : (BitVec.ofInt 64 (u : Int) ||| BitVec.ofInt 64 ((x * 128 ^ k : Nat) : Int)).toNat = u + x * 128 ^ k := by
  have e64 : ((2 ^ 64 : Nat) : Int) = 18446744073709551616 := rfl
  have f1 : (BitVec.ofInt 64 (u : Int)).toNat = u := by rw [BitVec.toNat_ofInt, e64]; omega
  have f2 : (BitVec.ofInt 64 ((x * 128 ^ k : Nat) : Int)).toNat = x * 128 ^ k := by rw [BitVec.toNat_ofInt, e64]; omega
  rw [BitVec.toNat_or, f1, f2, Nat.or_comm, ← ABJ, ← Nat.shiftLeft_eq, ← Nat.shiftLeft_add_eq_or_of_lt (by rw [ABJ]; exact hu), Nat.add_comm]
 rw [e3, D5]
 omega
theorem VV : Fn prog 119 #[] [] fun v L => ∃ w, v = AI w ∧ L = [Ih w []] := by
 refine Fn.intro func119 Y Y fun F W => ?_
 refine .sr (.an Y (.sr (.q (.to (v' := .agg [.slice none 0 0, AA 0].toArray) (.buildN (pl := [(0, 2)]) (us := []) (cells := [.slice none 0 0, AA 0]) underlying252 kQ ABX Y Y) Y) Y (.oq (.box Y) ?_))))
 rintro v L' ⟨w, rfl, rfl⟩
 refine .an Y (.ret (.add (AO 5 1) (.wrFold (w := w) [] (a := none) (c := 0) (m := 0) O Y Y Y ?_)))
 exact .dn Y Y ⟨w, Y, Y⟩
theorem Kk (w : Nat) (bs cs : Bs) (va : Value) (p : HP) (hp : ∀ h : Hp, p h → Cx 1 h va cs.length (JD cs)) (hl : bs.length + cs.length ≤ 70368744177664) : Fn prog 236 #[AI w, va] [Ih w bs, p] fun v L => v = .tuple #[] ∧ L = [Ih w (bs ++ cs), p] := by
 refine Fn.intro func236 Y Y fun F W => ?_
 refine .wrOpen O fun wa wc => (.region (.m Y (.m Y (.nf Y Gx (.u (.ld Y MZ) (.m Y (.oq (.append (n := bs.length) (m := cs.length) (ys := JD cs) (p := p) Y Y Y Kl (.inl ⟨_, underlying181⟩) ABS Y Y ?hc7 hp ?hb8 dQ) ?_)))))))
 case hc7 => exact U3 _
 case hb8 => omega
 rintro v L' ⟨⟨a6, c6, rfl⟩, rfl⟩
 refine .nf Y Gx (.st Y Y Y AA7 ?_)
 refine .nil (.done_n (.wrFold (w := w) (bs ++ cs) (a := a6) (c := c6) O (by rfl) (by simp) (by rw [Rt]) ?_))
 exact .vv
theorem XU {u : Nat} (h : 127 < u) (bs : Bs) : bs ++ [UInt8.ofNat (u % 128 + 128)] ++ DS (u / 128) = bs ++ DS u := by
 rw [DS.eq_1 u, if_neg om, append_assoc]; rfl
theorem Wn {u : Nat} (h : ¬ 127 < u) (bs : Bs) : bs ++ [UInt8.ofNat u] = bs ++ DS u := by
 rw [DS.eq_1 u, if_pos om]
theorem ACh (u : Nat) : Value.int .u64 ((u : Int).fdiv (2 ^ min (7 : Int).toNat IntKind.u64.bits)) = .int .u64 ((u / 128 : Nat) : Int) := by
 have e1 : (2 : Int) ^ min (7 : Int).toNat IntKind.u64.bits = 128 := rfl
 rw [e1, Int.fdiv_eq_ediv_of_nonneg _ dQ]; rfl
theorem Jf (w : Nat) (bs0 : Bs) (u0 : Nat) (hu : u0 < FS) (hl : bs0.length ≤ 70368744177568) : Fn prog 235 #[AI w, .int .u64 u0] [Ih w bs0] fun v L => v = .tuple #[] ∧ L = [Ih w (bs0 ++ DS u0)] := by
 refine Fn.intro func235 Y Y fun F W => ?_
 have hs10 := EQ hu
 refine .seq (.block (.loopK (ι := Nat × Bs) (fun q E => (1, .int .u64 q.1) :: E) (fun q => [Ih w q.2]) (fun q => q.1 ≤ u0 ∧ q.2 ++ DS q.1 = bs0 ++ DS u0) (fun q => q.1) (u0, bs0) (ts := [0]) O (⟨Nat.le_refl _, Y⟩) O O ?_))
 rintro ⟨u, bs⟩ ⟨hu0, heq⟩
 dsimp only
 dsimp only at hu0 heq
 have hbl := congrArg List.length heq
 simp only [length_append] at hbl
 have hsl := AAK u
 refine .seq (.sm Y (.ui Y Y Y (.nt (.condD Y (fun h5 => ?_) (fun h5 => ?_)))))
 ·have h127 : 127 < u := by omega
  refine .sk (.seq (.block (.region (.m Y (.nf Y Jj (.m Y (.q (.conv Y underlying180 underlying5) Y (.q (.as (v' := Cw (UInt8.ofNat (u % 128 + 128))) (by exact ZC u) (.or Y Y)) Y (.oq (.buildSlice1 (vs := [_]) Kl ABS Y Y Y Y Y dQ) ?_)))))))))
  rintro v L' ⟨b2, rfl, rfl⟩
  refine .slMake (b := b2) (n := 1) (c := 1) (xs := [Cw (UInt8.ofNat (u % 128 + 128))]) O dQ (by simp) Y (.oq (.call func236 Y Y (vs := [_, _]) Y (Kk w bs [(UInt8.ofNat (u % 128 + 128))] _ (Af 5 1 (.slice (some ⟨b2, 0, none⟩) 1 1) 1 [Cw (UInt8.ofNat (u % 128 + 128))]) (fun h hp => Aa hp) (by simp; omega))) ?_)
  rintro v L' ⟨rfl, rfl⟩
  refine .nil (.blk_n (.then_n (.region (.m Y (.q (.as (v' := .int .u64 ((u / 128 : Nat) : Int)) (by exact ACh u) (.shr Y Y (by first | decide | omega))) Y (.an Y ?_))))))
  exact .rk ((u / 128, bs ++ [(UInt8.ofNat (u % 128 + 128))])) (⟨by dsimp only; omega, by dsimp only; rw [XU om]; exact heq⟩) (by dsimp only; omega) O
 have h127 : ¬ 127 < u := by omega
 refine .xe (.region (.m Y (.nf Y Jj (.m Y (.q (.as (v' := Cw (UInt8.ofNat u)) (by exact Wv om) (.conv Y underlying180 underlying5)) Y (.oq (.buildSlice1 (vs := [_]) Kl ABS Y Y Y Y Y dQ) ?_))))))
 rintro v L' ⟨b3, rfl, rfl⟩
 refine .slMake (b := b3) (n := 1) (c := 1) (xs := [Cw (UInt8.ofNat u)]) O dQ (by simp) Y (.oq (.call func236 Y Y (vs := [_, _]) Y (Kk w bs [(UInt8.ofNat u)] _ (Af 5 1 (.slice (some ⟨b3, 0, none⟩) 1 1) 1 [Cw (UInt8.ofNat u)]) (fun h hp => Aa hp) (by simp; omega))) ?_)
 rintro v L' ⟨rfl, rfl⟩
 refine .nil (.done_n ?_)
 rw [Wn h127, heq]
 exact .vv
theorem KM (w : Nat) (bs : Bs) (n : Int) (hn : -9223372036854775808 ≤ n ∧ n ≤ 9223372036854775807) (hl : bs.length ≤ 70368744177568) : Fn prog 190 #[AI w, AA n] [Ih w bs] fun v L => v = .tuple #[] ∧ L = [Ih w (bs ++ EV n)] := by
 refine Fn.intro func190 Y Y fun F W => ?_
 have hz := TW hn
 refine .region (.m Y (.m Y (.q (.conv Y underlying3 underlying180) Y (.q (.shl Y Y (by first | decide | omega)) Y (.m Y (.q (.shr Y Y (by first | decide | omega)) Y (.q (.conv Y underlying3 underlying180) Y (.q (.as (v' := .int .u64 (PF n : Nat)) (by exact congrArg (Value.int .u64) (WB hn)) (.xor Y Y)) Y (.oq (.c func235 [_, _] (Jf _ _ _ ?hu9 ?hl10)) ?_)))))))))
 case hu9 => assumption
 case hl10 => omega
 rintro v L' ⟨rfl, rfl⟩
 refine .nil (.done_n ?_)
 exact .vv
theorem Hg (w : Nat) (bs : Bs) (n : Nat) (hn : n ≤ 70368744177664) (hl : bs.length ≤ 70368744177568) : Fn prog 194 #[AI w, AA n] [Ih w bs] fun v L => v = .tuple #[] ∧ L = [Ih w (bs ++ Ct n)] := by
 refine Fn.intro func194 Y Y fun F W => ?_
 have hz : n < FS := by unfold FS; omega
 refine .region (.m Y (.m Y (.u (.max2 Y Y) (.q (.as (v' := .int .u64 (n : Nat)) (by exact congrArg (Value.int .u64) (by rw [D5]; omega)) (.conv Y underlying3 underlying180)) Y (.oq (.c func235 [_, _] (Jf _ _ _ ?hu5 ?hl6)) ?_)))))
 case hu5 => assumption
 case hl6 => omega
 rintro v L' ⟨rfl, rfl⟩
 refine .nil (.done_n ?_)
 exact .vv
theorem I4 (w : Nat) (bs s : Bs) (hl : bs.length + s.length ≤ 70368744177368) : Fn prog 191 #[AI w, AE s] [Ih w bs] fun v L => v = .tuple #[] ∧ L = [Ih w (bs ++ FK s)] := by
 refine Fn.intro func191 Y Y fun F W => ?_
 have hc : (Ct s.length).length ≤ 10 := EQ (by unfold FS; omega)
 refine .sm Y (.m Y (.q (.strlen Y underlying9 Y) Y (.oq (.c func194 [_, _] (Hg _ _ _ ?hn4 ?hb5)) ?_)))
 case hn4 => first | assumption | omega
 case hb5 => omega
 rintro v L' ⟨rfl, rfl⟩
 refine .nt (.region (.m Y (.nf Y Jj (.m Y (.oq (.strBytes Y underlying9 underlying181 underlying5) ?_)))))
 rintro v L' ⟨rfl, b8, c8, rfl⟩
 refine .oq (.call func236 Y Y (vs := [_, _]) Y (Kk w (bs ++ Ct s.length) s _ (Af 5 1 (.slice (some ⟨b8, 0, none⟩) s.length c8) s.length (s.map Cw)) (fun h hp => Aa hp) (by simp; omega))) ?_
 rintro v L' ⟨rfl, rfl⟩
 refine .nil (.done_n ?_)
 rw [append_assoc]
 exact .vv
theorem Qd (w : Nat) (bs : Bs) : Fn prog 120 #[AI w] [Ih w bs] fun v L => v = AE bs ∧ L = [Ih w bs] := by
 refine Fn.intro func120 Y Y fun F W => ?_
 refine .wrOpen O fun wa wc => (.sr (.an Y (.sm Y (.nf Y Jj (.fa Y Gx (.u (.ld Y MZ) (.q (.bytesBy (cs := bs) (n := bs.length) (p := MW (.slice wa bs.length wc) bs) Y underlying181 underlying5 underlying9 (fun h hp => Aa hp) O) Y (.an Y (.ret (.wrFold (w := w) bs O Y Y Y ?_))))))))))
 exact .vv
theorem JO (r : Nat) (s : Bs) (k : Nat) (e : Int) : Fn prog 183 #[AI r] [KQ r s k e] fun v L => v = AA ((s.length : Int) - k) ∧ L = [KQ r s k e] := by
 refine Fn.intro func183 Y Y fun F W => ?_
 refine .rdOpen O fun ra rc hkl hsz => (.sr (.an Y (.seq (.draw [] [[0, 1, 2, 3, 4, 5, 6, 7, 8, 9, 10]] mixed kQ (.g0 (.mv Y Y (.nf Y Y Y Gx (.kv Y (.ld Y MZ) (.kv Y (.slen Y underlying181 Y) (.mv Y Y (.nf Y Y Y DM (.kv Y (.ld Y AR) (.kv Y (.sub Y Y om) (.kv Y (.assign Y) (.pf (.ret (.rdFold (r := r) s (k) (e) O (by first | rfl | (simp only [List.set]; congr; omega)) om hsz ?_)))))))))))))))))
 exact .vv
theorem FA (r : Nat) (s : Bs) (k : Nat) (e e' : Int) : Fn prog 232 #[AI r, AA e'] [KQ r s k e] fun v L => v = .tuple #[] ∧ L = [KQ r s k (if e = 0 then e' else e)] := by
 refine Fn.intro func232 Y Y fun F W => ?_
 refine .rdOpen O fun ra rc hkl hsz => (.sm Y (.nf Y G4 (.u (.ld Y Fd) (.ui Y Y Y (.nt (.condD Y (fun h8 => ?_) (fun h8 => ?_)))))))
 ·refine .region (.m Y (.m Y (.nf Y G4 (.st Y Y Y ME ?_))))
  refine .nil (.done_n (.rdFold (r := r) s (k) (if e = 0 then e' else e) O (by rw [if_pos h8]; rfl) om hsz ?_))
  exact .vv
 refine .skip (.done_n (.rdFold (r := r) s (k) (if e = 0 then e' else e) O (by rw [if_neg h8]) om hsz ?_))
 exact .vv
theorem SD (r : Nat) (s : Bs) (k : Nat) (e : Int) : Fn prog 184 #[AI r] [KQ r s k e] fun v L => v = .tuple #[] ∧ L = [KQ r s k (if e = 0 then 11 else e)] := by
 refine Fn.intro func184 Y Y fun F W => ?_
 refine .region (.m Y (.cv func232 [_, _] (FA _ _ _ _ _) ?_))
 refine .nil (.done_n ?_)
 exact .vv
def Me (s : Bs) (k : Nat) (e : Int) (u m : Nat) (e' : Int) : Prop :=
 ((e ≠ 0 ∨ Ff 0 0 (s.drop k) = none) ∧ u = 0 ∧ m = 0 ∧ e' ≠ 0) ∨ (e = 0 ∧ e' = 0 ∧ k + m ≤ s.length ∧ Ff 0 0 (s.drop k) = some (u, s.drop (k + m)))
def ABH (k : Nat) (c : UInt8) : Prop := (k = 9 ∧ 1 < c.toNat) ∨ (c.toNat = 0 ∧ 0 < k)
instance (k : Nat) (c : UInt8) : Decidable (ABH k c) := inferInstanceAs (Decidable (_ ∨ _))
theorem PT {s : Bs} {k j u : Nat} (h : k + j < s.length) : Ff j u (s.drop (k + j)) = if ABH j s[k + j] then none else if s[k + j].toNat < 128 then some (u + s[k + j].toNat % 128 * 128 ^ j, s.drop (k + j + 1)) else Ff (j + 1) (u + s[k + j].toNat % 128 * 128 ^ j) (s.drop (k + j + 1)) := by
 rw [drop_eq_getElem_cons h]
 conv => lhs; unfold Ff
 rfl
theorem Xf {s : Bs} {k j u : Nat} (h : s.length ≤ k + j) : Ff j u (s.drop (k + j)) = none := by
 rw [drop_eq_nil_of_le h]; unfold Ff; rfl
theorem KC (r : Nat) (s : Bs) (k : Nat) (e : Int) : Fn prog 233 #[AI r] [KQ r s k e] fun v L => ∃ u m e', Me s k e u m e' ∧ v = .tuple #[.int .u64 (u : Nat), AA (m : Nat)] ∧ L = [KQ r s k e'] := by
 refine Fn.intro func233 Y Y fun F W => ?_
 refine .rdOpen O fun ra rc hkl hsz => (.sr (.a Y (.an Y (.seq (.sr ?_)))))
 rcases Decidable.em (e = 0) with he0 | he0
 ·subst he0
  refine .m Y (.nf Y G4 (.u (.ld Y Fd) (.q (.as (v' := .bool false) (by rfl) (.int Y Y Y)) Y (.nt (.condF Y (.sk (.sr (.an Y (.seq (.sm Y (.nf Y CT (.rdFold (r := r) s (k) (0) O (by first | rfl | (simp only [List.set]; congr; omega)) om hsz (.cv func183 [_] (JO r s k 0) ?_)))))))))))))
  refine .m Y (.nil (.rdOpen O fun ra1 rc1 _ _ => (.then_n (.block (.loopK (ι := Nat × Nat) (fun q E => (16, AA q.1) :: (4, .int .u64 q.2) :: E) (fun q => []) (fun q => k + q.1 ≤ s.length ∧ q.1 ≤ 9 ∧ q.2 < 128 ^ q.1 ∧ Ff q.1 q.2 (s.drop (k + q.1)) = Ff 0 0 (s.drop k)) (fun q => s.length - q.1) (0, 0) (ts := [0, 15]) O (⟨by dsimp only; omega, by dsimp only; omega, by dsimp only; decide, rfl⟩) O O ?_)))))
  rintro ⟨j, u⟩ ⟨hj, hj9, huj, hsv⟩
  dsimp only
  dsimp only at hj hj9 huj hsv
  refine .sr (.ui Y Y Y (.nt (.seq (.condD Y (fun h17 => ?_) (fun h17 => ?_)))))
  ·have hlt : k + j < s.length := by omega
   have hxl := s[k + j].toNat_lt
   refine .sk (.seq (.block (.sm Y (.an Y (.seq (.draw [] [[0, 1, 2, 3, 4, 5, 6, 7, 8, 9, 10, 11, 12, 13, 14]] mixed kQ (.g0 (.mv Y Y (.nf Y Y Y CT (.kv Y (.fieldAddr Y Gx) (.kv Y (.ld Y MZ) (.mv Y Y (.nf Y Y Y CT (.kv Y (.fieldAddr Y DM) (.kv Y (.ld Y AR) (.mv Y Y (.kv Y (.add Y Y om) (.kv Y (.indexAddr Y Y Kl om) (.kv Y (.loadRd (sz := 1) (j := k + j) (p := MW (.slice _ s.length _) s) (v := Cw s[k + j]) Y ABy O (fun h hp => Aa hp) om (by simp [JD, List.getElem?_eq_getElem hlt])) ?_)))))))))))))))))))
   refine D.kv Y (.assign Y) (.pf (.seq (.seq (.joinK (ι := Bool) (fun q E => (46, .bool q) :: E) (fun q => []) (fun q => q = decide (ABH j s[k + j])) (pre := []) (ts := [0, 4, 5, 6, 15, 16, 17, 18, 19, 20, 21, 22, 23, 24, 25, 26, 27, 28, 29, 30, 31, 32]) O O ?_ ?_))))
   ·refine .region (.m Y (.ui Y Y Y (.m Y (.dec (t := 35) Y (fun h8_35 => ?_) (fun h8_35 => ?_)))))
    ·refine .kDT (t := 34) Y h8_35 (.gr (.m Y (.gr (.ui Y Y Y (.pT Y Y (.m Y (.dec (t := 39) Y (fun h8_39 => ?_) (fun h8_39 => ?_))))))))
     ·refine .kDT (t := 37) Y h8_39 (.kDT (t := 38) Y h8_39 (.gk (.gk (.gk (.gn (.gn (.gk (.pT Y Y (.nt ?_)))))))))
      exact .mk (true) ((by rw [decide_eq_true]; exact .inl ⟨by omega, by omega⟩)) O
     refine .kDF (t := 37) Y h8_39 (.kDF (t := 38) Y h8_39 (.gr (.m Y (.gr (.ui Y Y Y (.gr (.m Y (.dec (t := 42) Y (fun h8_42 => ?_) (fun h8_42 => ?_)))))))))
     ·refine .kDT (t := 41) Y h8_42 (.gr (.m Y (.gr (.ui Y Y Y (.gr (.pT Y Y (.pF Y Y (.nt ?_))))))))
      exact .mk ((decide ((j : Int) > 0))) ((by exact decide_eq_decide.2 ⟨fun g => .inr ⟨by omega, by omega⟩, fun g => by rcases g with ⟨g1, g2⟩ | ⟨g1, g2⟩ <;> omega⟩)) O
     refine .kDF (t := 41) Y h8_42 (.gk (.gk (.gr (.pF Y Y (.pF Y Y (.nt ?_))))))
     exact .mk (false) ((by exact (decide_eq_false (by rintro (⟨g1, g2⟩ | ⟨g1, g2⟩) <;> omega)).symm)) O
    refine .kDF (t := 34) Y h8_35 (.gk (.gk (.pF Y Y (.m Y (.gr (.m Y (.gr (.ui Y Y Y (.gr (.m Y (.dec (t := 42) Y (fun h8_42 => ?_) (fun h8_42 => ?_))))))))))))
    ·refine .kDT (t := 41) Y h8_42 (.gr (.m Y (.gr (.ui Y Y Y (.gr (.pT Y Y (.pF Y Y (.nt ?_))))))))
     exact .mk ((decide ((j : Int) > 0))) ((by exact decide_eq_decide.2 ⟨fun g => .inr ⟨by omega, by omega⟩, fun g => by rcases g with ⟨g1, g2⟩ | ⟨g1, g2⟩ <;> omega⟩)) O
    refine .kDF (t := 41) Y h8_42 (.gk (.gk (.gr (.pF Y Y (.pF Y Y (.nt ?_))))))
    exact .mk (false) ((by exact (decide_eq_false (by rintro (⟨g1, g2⟩ | ⟨g1, g2⟩) <;> omega)).symm)) O
   rintro b hb
   subst hb
   refine .condD Y (fun h46 => ?_) (fun h46 => ?_)
   ·refine .seq (.rdFold (r := r) s (k) (0) O (by first | rfl | (simp only [List.set]; congr; omega)) om hsz (.region (.m Y (.oq (.c func232 [_, _] (FA r s k 0 11)) ?_))))
    rintro v L' ⟨rfl, rfl⟩; rw [if_pos rfl]
    refine .nt (.sr (.a Y (.an Y (.rt (.blk_r (.then_r (.then_r (.blk_r (.then_r ?_)))))))))
    exact .dn Y Y ⟨0, 0, 11, .inl ⟨.inr (by rw [← hsv, PT hlt, if_pos h46]), Y, Y, by decide⟩, rfl, rfl⟩
   have h9 : j = 9 → s[k + j].toNat ≤ 1 := fun g => by rcases Nat.lt_or_ge 1 s[k + j].toNat with g2 | g2; exact absurd (.inl ⟨g, g2⟩) h46; exact g2
   refine .sk (.sm Y (.m Y (.u (.and Y Y) (.q (.as (v' := .int .u64 ((s[k + j].toNat % 128 : Nat) : Int)) (by exact congrArg (Value.int .u64) (XC _)) (.conv Y underlying5 underlying180)) Y (.m Y (.q (.mul Y Y om) Y (.q (.shl Y Y (by first | decide | omega)) Y (.q (.as (v' := .int .u64 ((u + s[k + j].toNat % 128 * 128 ^ j : Nat) : Int)) (by exact congrArg (Value.int .u64) (XP hj9 huj om (fun g => by have := h9 g; omega))) (.or Y Y)) Y (.an Y (.sm Y (.ui Y Y Y (.nt (.condD Y (fun h58 => ?_) (fun h58 => ?_))))))))))))))
   ·refine .sm Y (.m Y (.q (.add Y Y om) Y (.a Y (.an Y (.ret (.blk_r (.then_r (.then_r (.blk_r (.then_r (.rdFold (r := r) s (k) (0) O (by first | rfl | (simp only [List.set]; congr; omega)) om hsz ?_)))))))))))
    exact .dn Y Y ⟨_, j + 1, 0, .inr ⟨Y, Y, by omega, by rw [← hsv, PT hlt, if_neg h46, if_pos om]; rfl⟩, rfl, rfl⟩
   refine .skip (.blk_n (.then_n (.region (.q (.add Y Y om) Y (.m Y (.nt ?_))))))
   exact .rk ((j + 1, u + s[k + j].toNat % 128 * 128 ^ j)) (⟨by dsimp only; omega, by dsimp only; rcases Nat.lt_or_ge j 9 with g | g; (omega); exact absurd (h9 om) om, by dsimp only; rw [Nat.pow_succ]; have := Nat.mul_le_mul_right (128 ^ j) (show s[k + j].toNat % 128 ≤ 127 by omega); omega, by dsimp only; rw [← hsv, PT hlt, if_neg h46, if_neg om]; rfl⟩) (by dsimp only; omega) O
  refine .xe (.seq (.rdFold (r := r) s (k) (0) O (by first | rfl | (simp only [List.set]; congr; omega)) om hsz (.region (.m Y (.oq (.c func232 [_, _] (FA r s k 0 10)) ?_)))))
  rintro v L' ⟨rfl, rfl⟩; rw [if_pos rfl]
  refine .nt (.sr (.a Y (.an Y (.ret ?_))))
  exact .dn Y Y ⟨0, 0, 10, .inl ⟨.inr (by rw [← hsv]; exact Xf om), Y, Y, by decide⟩, rfl, rfl⟩
 refine .m Y (.nf Y G4 (.u (.ld Y Fd) (.q (.as (v' := .bool true) (by simp [he0]) (.int Y Y Y)) Y (.nt (.condT Y (.sr (.a Y (.an Y (.rt (.rdFold (r := r) s (k) (e) O (by first | rfl | (simp only [List.set]; congr; omega)) om hsz ?_))))))))))
 exact .dn Y Y ⟨0, 0, e, .inl ⟨.inl he0, Y, Y, he0⟩, Y, Y⟩
theorem Me.lt {s : Bs} {k : Nat} {e : Int} {u m : Nat} {e' : Int} (h : Me s k e u m e') : u < FS := by
 rcases h with ⟨-, rfl, -⟩ | ⟨-, -, -, h⟩
 ·decide
 ·exact Ot 0 0 _ _ _ h dQ dQ
theorem Me.le {s : Bs} {k : Nat} {e : Int} {u m : Nat} {e' : Int} (h : Me s k e u m e') (hk : k ≤ s.length) : k + m ≤ s.length := by
 rcases h with ⟨-, -, rfl, -⟩ | ⟨-, -, h, -⟩
 ·exact hk
 ·exact h
theorem Me.num {s : Bs} {k : Nat} {e : Int} {u m : Nat} {e' : Int} (h : Me s k e u m e') : Ew s (k + m) e' = (CM 0 NM (Ew s k e)).2 ∧ Sq u = (CM 0 NM (Ew s k e)).1 := by
 rcases h with ⟨h1, rfl, rfl, h2⟩ | ⟨rfl, rfl, -, h⟩
 ·have e2 : Ew s (k + 0) e' = none := if_neg h2
  rw [e2]
  rcases h1 with h1 | h1
  ·have e1 : Ew s k e = none := if_neg h1
   rw [e1]; exact ⟨rfl, rfl⟩
  ·unfold Ew
   split
   ·unfold CM NM; dsimp only; rw [h1]; exact ⟨rfl, rfl⟩
   ·exact ⟨rfl, rfl⟩
 ·have e1 : Ew s k 0 = some (s.drop k) := if_pos rfl
  have e2 : Ew s (k + m) 0 = some (s.drop (k + m)) := if_pos rfl
  rw [e1, e2]
  unfold CM NM; dsimp only; rw [h]; exact ⟨rfl, rfl⟩
theorem Me.cntT {s : Bs} {k : Nat} {e : Int} {u m : Nat} {e' : Int} {most : Nat} (h : Me s k e u m e') (hm : most < u) : CM 0 (FP most) (Ew s k e) = (0, none) := by
 rcases h with ⟨h1, rfl, rfl, h2⟩ | ⟨rfl, rfl, -, h⟩
 ·omega
 ·have e1 : Ew s k 0 = some (s.drop k) := if_pos rfl
  rw [e1]
  unfold CM FP; dsimp only; rw [h]; dsimp only; rw [if_pos hm]
theorem Me.cntF {s : Bs} {k : Nat} {e : Int} {u m : Nat} {e' : Int} {most : Nat} (h : Me s k e u m e') (hm : ¬ most < u) : Ew s (k + m) e' = (CM 0 (FP most) (Ew s k e)).2 ∧ u = (CM 0 (FP most) (Ew s k e)).1 := by
 rcases h with ⟨h1, rfl, rfl, h2⟩ | ⟨rfl, rfl, -, h⟩
 ·have e2 : Ew s (k + 0) e' = none := if_neg h2
  rw [e2]
  rcases h1 with h1 | h1
  ·have e1 : Ew s k e = none := if_neg h1
   rw [e1]; exact ⟨rfl, rfl⟩
  ·unfold Ew
   split
   ·unfold CM FP; dsimp only; rw [h1]; exact ⟨rfl, rfl⟩
   ·exact ⟨rfl, rfl⟩
 ·have e1 : Ew s k 0 = some (s.drop k) := if_pos rfl
  have e2 : Ew s (k + m) 0 = some (s.drop (k + m)) := if_pos rfl
  rw [e1, e2]
  unfold CM FP; dsimp only; rw [h]; dsimp only; rw [if_neg hm]; exact ⟨rfl, rfl⟩
theorem Ts {s : Bs} {k : Nat} {e x : Int} (hx : x ≠ 0) : Ew s k (if e = 0 then x else e) = none := by
 refine if_neg ?_
 split
 ·exact hx
 ·assumption
theorem AAC {s : Bs} {k : Nat} {e : Int} {most n k1 : Nat} {e1 : Int} (h1 : Ew s k1 e1 = (CM 0 (FP most) (Ew s k e)).2) (hn : n = (CM 0 (FP most) (Ew s k e)).1) (hk : k1 ≤ s.length) :
  ((s.length : Int) - k1 < n → CM [] (I1 most) (Ew s k e) = ([], none)) ∧ (¬ (s.length : Int) - k1 < n → Ew s (k1 + n) e1 = (CM [] (I1 most) (Ew s k e)).2 ∧ (s.take (k1 + n)).drop k1 = (CM [] (I1 most) (Ew s k e)).1) := by
 cases hst : Ew s k e with
 | none =>
  rw [hst] at h1 hn
  have h1 : Ew s k1 e1 = none := h1
  have hn : n = 0 := hn
  subst hn
  refine ⟨fun h => by omega, fun _ => ⟨?_, ?_⟩⟩
  ·unfold Ew at h1 ⊢
   split at h1
   ·cases h1
   ·rename_i g; rw [if_neg g]; rfl
  ·rw [Nat.add_zero, drop_eq_nil_of_le (by rw [length_take]; omega)]; rfl
 | some q =>
  rw [hst] at h1 hn
  cases hc : FP most q with
  | none =>
   have f : CM 0 (FP most) (some q) = (0, none) := by unfold CM; dsimp only; rw [hc]
   have f2 : CM [] (I1 most) (some q) = ([], none) := by unfold CM I1; dsimp only; rw [hc]
   rw [f] at h1 hn
   rw [f2]
   have h1 : Ew s k1 e1 = none := h1
   have hn : n = 0 := hn
   subst hn
   refine ⟨fun h => by omega, fun _ => ⟨?_, ?_⟩⟩
   ·unfold Ew at h1 ⊢
    split at h1
    ·cases h1
    ·rename_i g; rw [if_neg g]
   ·rw [Nat.add_zero, drop_eq_nil_of_le (by rw [length_take]; omega)]
  | some x =>
   obtain ⟨m, z⟩ := x
   have f : CM 0 (FP most) (some q) = (m, some z) := by unfold CM; dsimp only; rw [hc]
   rw [f] at h1 hn
   have h1 : Ew s k1 e1 = some z := h1
   have hn : n = m := hn
   subst hn
   unfold Ew at h1
   split at h1
   ·rename_i g
    subst g
    have h1 : s.drop k1 = z := Option.some.inj h1
    subst h1
    have hl : (s.drop k1).length = s.length - k1 := length_drop
    refine ⟨fun h => ?_, fun h => ?_⟩
    ·unfold CM I1; dsimp only; rw [hc]; dsimp only; rw [if_pos om]
    ·have e2 : Ew s (k1 + n) 0 = some (s.drop (k1 + n)) := if_pos rfl
     have f2 : CM [] (I1 most) (some q) = ((s.drop k1).take n, some ((s.drop k1).drop n)) := by unfold CM I1; dsimp only; rw [hc]; dsimp only; rw [if_neg om]
     rw [e2, f2, drop_drop, drop_take]
     exact ⟨rfl, by rw [show k1 + n - k1 = n by omega]⟩
   ·cases h1
theorem R5 (r : Nat) (s : Bs) (k : Nat) (e : Int) : Fn prog 185 #[AI r] [KQ r s k e] fun v L => ∃ k' e', Ew s k' e' = (CM 0 NM (Ew s k e)).2 ∧ v = AA (CM 0 NM (Ew s k e)).1 ∧ L = [KQ r s k' e'] := by
 refine Fn.intro func185 Y Y fun F W => ?_
 refine .sr (.an Y (.sm Y (.oq (.c func233 [_] (KC r s k e)) ?_)))
 rintro v L' ⟨u, m, e', hA, rfl, rfl⟩; have hu := hA.lt
 refine .m Y (.ex Y Y (.ex Y Y (.a Y (.an Y (.seq (.rdOpen O fun ra rc hkl hsz => ?_))))))
 have hkm := hA.le hkl
 refine .region (.m Y (.nf Y CT (.fa Y DM (.u (.ld Y AR) (.m Y (.q (.add Y Y om) Y (.nf Y CT (.fa Y DM (.st Y Y Y CC ?_)))))))))
 refine .nt (.sm Y (.q (.shr Y Y (by first | decide | omega)) Y (.q (.conv Y underlying180 underlying3) Y (.m Y (.q (.as (v' := .int .u64 ((u % 2 : Nat) : Int)) (by exact congrArg (Value.int .u64) (V8 u)) (.and Y Y)) Y (.q (.as (v' := AA ((u % 2 : Nat) : Int)) (by rw [KG om]) (.conv Y underlying180 underlying3)) Y (.q (.neg Y om) Y (.q (.as (v' := AA (Sq u)) (by exact congrArg (Value.int .i64) (YW hu)) (.xor Y Y)) Y (.an Y (.ret (.rdFold (r := r) s (k + m) (e') O (by first | rfl | (simp only [List.set]; congr; omega)) om hsz ?_)))))))))))
 rw [hA.num.2]
 exact .dn Y Y ⟨k + m, e', hA.num.1, Y, Y⟩
theorem Jy (r most : Nat) (hm : most ≤ 70368744177664) (s : Bs) (k : Nat) (e : Int) : Fn prog 189 #[AI r, AA most] [KQ r s k e] fun v L => ∃ k' e', Ew s k' e' = (CM 0 (FP most) (Ew s k e)).2 ∧ v = AA ((CM 0 (FP most) (Ew s k e)).1 : Nat) ∧ L = [KQ r s k' e'] := by
 refine Fn.intro func189 Y Y fun F W => ?_
 refine .sr (.an Y (.sm Y (.oq (.c func233 [_] (KC r s k e)) ?_)))
 rintro v L' ⟨u, m, e', hA, rfl, rfl⟩; have hu := hA.lt
 refine .m Y (.ex Y Y (.ex Y Y (.a Y (.an Y (.seq (.sm Y (.m Y (.u (.max2 Y Y) (.q (.as (v' := .int .u64 (most : Nat)) (by exact congrArg (Value.int .u64) (by rw [D5]; omega)) (.conv Y underlying3 underlying180)) Y (.ui Y Y Y (.nt (.condD Y (fun h16 => ?_) (fun h16 => ?_)))))))))))))
 ·refine .sm Y (.cv func232 [_, _] (FA r s k e' 12) ?_)
  refine .nt (.sr (.an Y (.rt ?_)))
  rw [hA.cntT (most := most) om]
  exact .dn Y Y ⟨k, _, Ts (x := 12) dQ, Y, Y⟩
 refine .sk (.seq (.rdOpen O fun ra rc hkl hsz => ?_))
 have hkm := hA.le hkl
 refine .region (.m Y (.nf Y CT (.fa Y DM (.u (.ld Y AR) (.m Y (.q (.add Y Y om) Y (.nf Y CT (.fa Y DM (.st Y Y Y CC ?_)))))))))
 refine .nt (.sm Y (.q (.as (v' := AA (u : Nat)) (by rw [KG om]) (.conv Y underlying180 underlying3)) Y (.an Y (.ret (.rdFold (r := r) s (k + m) (e') O (by first | rfl | (simp only [List.set]; congr; omega)) om hsz ?_)))))
 obtain ⟨hc1, hc2⟩ := hA.cntF (most := most) om
 rw [hc2]
 exact .dn Y Y ⟨k + m, e', hc1, Y, Y⟩
theorem Q0 (r most : Nat) (hm : most ≤ 70368744177664) (s : Bs) (k : Nat) (e : Int) : Fn prog 234 #[AI r, AA most] [KQ r s k e] fun v L => ∃ k' e', Ew s k' e' = (CM [] (I1 most) (Ew s k e)).2 ∧ v = AE (CM [] (I1 most) (Ew s k e)).1 ∧ L = [KQ r s k' e'] := by
 refine Fn.intro func234 Y Y fun F W => ?_
 refine .rdOpen O fun ra rc hkl hsz => (.sr (.an Y (.sm Y (.nf Y CT (.fa Y DM (.u (.ld Y AR) (.a Y (.nil (.rdFold (r := r) s (k) (e) O (by first | rfl | (simp only [List.set]; congr; omega)) om hsz (.then_n (.sm Y (.m Y (.oq (.c func189 [_, _] (Jy r most hm s k e)) ?_)))))))))))))
 rintro v L' ⟨k1, e1, hs1, rfl, rfl⟩
 obtain ⟨n, hn⟩ : ∃ n, n = (CM 0 (FP most) (Ew s k e)).1 := ⟨_, rfl⟩
 rw [← hn]
 refine .a Y (.nil (.rdOpen O fun ra2 rc2 hk1 _ => ?_))
 have hrun := AAC hs1 hn hk1
 refine .rdFold (r := r) s k1 e1 O Y hk1 hsz (.then_n (.seq (.sm Y (.nf Y CT (.cv func183 [_] (JO r s k1 e1) ?_)))))
 refine .m Y (.ui Y Y Y (.nt (.condD Y (fun h20 => ?_) (fun h20 => ?_))))
 ·refine .seq (.rdOpen O fun ra3 rc3 _ _ => (.region (.m Y (.m Y (.nf Y CT (.fa Y DM (.st Y Y Y CC ?_)))))))
  refine .nil (.rdFold (r := r) s (k) (e1) O (by first | rfl | (simp only [List.set]; congr; omega)) om hsz (.then_n (.sm Y (.cv func232 [_, _] (FA r s k e1 10) ?_))))
  refine .nt (.sr (.an Y (.rt ?_)))
  rw [hrun.1 h20]
  exact .dn Y Y ⟨k, _, Ts (x := 10) dQ, Y, Y⟩
 refine .sk (.seq (.rdOpen O fun ra3 rc3 _ _ => ?_))
 obtain ⟨hr1, hr2⟩ := hrun.2 h20
 refine .region (.m Y (.nf Y CT (.fa Y DM (.u (.ld Y AR) (.m Y (.q (.add Y Y om) Y (.nf Y CT (.fa Y DM (.st Y Y Y CC ?_)))))))))
 refine .nil (.ptCast (b := r) (l' := [.slice (some ⟨ra3, 0, none⟩) s.length rc3, AA ((k1 + n : Nat) : Int), AA e1]) O Y ?_)
 refine .slAddr O fun hcap _ => (.then_n (.seq (.draw [] [[0, 1, 2, 3, 4, 5, 6, 7, 8, 9, 10, 11, 12, 13, 14, 15, 16, 17, 18, 19]] mixed kQ (.g0 (.mv Y Y (.nf Y Y Y CT (.kv Y (.fieldAddr Y Gx) (.kv Y (.ld Y MZ) (.mv Y Y (.nf Y Y Y CT (.kv Y (.fieldAddr Y DM) (.kv Y (.ld Y AR) (.mv Y Y (.kv Y (.as (v' := AA (k1 : Nat)) (by congr 1; omega) (.sub Y Y om)) (.mv Y Y (.nf Y Y Y CT (.kv Y (.fieldAddr Y DM) (.kv Y (.ld Y AR) (.kv Y (.to (v' := .slice (some (if rc3 = k1 then ⟨ra3, 0, none⟩ else ⟨ra3, 0 + k1 * 1, none⟩)) (k1 + n - k1) (rc3 - k1)) (.slSlice (i := (k1 : Int)) (j := ((k1 + n : Nat) : Int)) Y Kl (by exact rfl) (by exact rfl) om) (by simp only [Int.toNat_natCast])) ?_)))))))))))))))))))
 refine D.kv Y (.bytesBy (cs := (s.take (k1 + n)).drop k1) (n := ((s.take (k1 + n)).drop k1).length) (p := MW (.slice (some ⟨ra3, 0, none⟩) s.length rc3) s) Y underlying181 underlying5 underlying9 (fun h hp => Y3 om om hp) O) (.kv Y (.assign Y) (.pf (.ret (.rdFold (r := r) s (k1 + n) (e1) O (by first | rfl | (simp only [List.set]; congr; omega)) om hsz ?_))))
 rw [hr2]
 exact .dn Y Y ⟨k1 + n, e1, hr1, Y, Y⟩
theorem ABu {s : Bs} {k : Nat} {e : Int} (h : k < s.length) : (if e = 0 then (11 : Int) else e) = 0 ↔ Ew s k e = some [] := by
 have hl : (s.drop k).length = s.length - k := length_drop
 unfold Ew
 split
 ·refine ⟨fun g => absurd g dQ, fun g => ?_⟩
  rw [Option.some.inj g] at hl; simp at hl; omega
 ·rename_i g; exact ⟨fun q => absurd q g, fun q => by cases q⟩
theorem AB8 {s : Bs} {k : Nat} {e : Int} (h : s.length ≤ k) : e = 0 ↔ Ew s k e = some [] := by
 unfold Ew
 split
 ·rename_i g; exact ⟨fun _ => by rw [drop_eq_nil_of_le h], fun _ => g⟩
 ·rename_i g; exact ⟨fun q => absurd q g, fun q => by cases q⟩
theorem TV (r : Nat) (s : Bs) (k : Nat) (e : Int) : Fn prog 115 #[AI r] [KQ r s k e] fun v L => ∃ e1, (e1 = 0 ↔ Ew s k e = some []) ∧ v = AA e1 ∧ L = [KQ r s k e1] := by
 refine Fn.intro func115 Y Y fun F W => ?_
 refine .rdOpen O fun ra rc hkl hsz => (.rdFold (r := r) s (k) (e) O (by first | rfl | (simp only [List.set]; congr; omega)) om hsz (.sr (.an Y (.seq (.sm Y (.nf Y CT (.cv func183 [_] (JO r s k e) ?_)))))))
 refine .ui Y Y Y (.nt (.condD Y (fun h7 => ?_) (fun h7 => ?_)))
 ·refine .region (.m Y (.cv func184 [_] (SD r s k e) ?_))
  refine .nt (.seq (.rdOpen O fun ra3 rc3 _ _ => (.region (.m Y (.nf Y G4 (.u (.ld Y Fd) (.an Y (.ret (.rdFold (r := r) s (k) (if e = 0 then 11 else e) O (by first | rfl | (simp only [List.set]; congr; omega)) om hsz ?_)))))))))
  exact .dn Y Y ⟨_, ABu om, Y, Y⟩
 refine .sk (.seq (.rdOpen O fun ra3 rc3 _ _ => (.region (.m Y (.nf Y G4 (.u (.ld Y Fd) (.an Y (.ret (.rdFold (r := r) s (k) (e) O (by first | rfl | (simp only [List.set]; congr; omega)) om hsz ?_)))))))))
 exact .dn Y Y ⟨_, AB8 om, Y, Y⟩
theorem Sf (s : Bs) (hs : s.length ≤ 70368744177664) : Fn prog 114 #[AE s] [] fun v L => ∃ r, v = AI r ∧ L = [IH r (some s)] := by
 refine Fn.intro func114 Y Y fun F W => ?_
 refine .sr (.an Y (.sm Y (.oq (.strBytes Y underlying9 underlying181 underlying5) ?_)))
 rintro v L' ⟨rfl, b8, c8, rfl⟩
 refine .q (.to (v' := .agg [.slice (some ⟨b8, 0, none⟩) s.length c8, AA 0].toArray) (.build (us := [(0, _)]) AAw AAz Y Y (by simp [AB])) Y) Y (.q (.to (v' := .agg [.slice (some ⟨b8, 0, none⟩) s.length c8, AA 0, AA 0].toArray) (.buildN (pl := [(0, 2), (2, 1)]) (us := [(0, _)]) (cells := [.slice (some ⟨b8, 0, none⟩) s.length c8, AA 0, AA 0]) underlying246 kQ AAi Y Y) Y) Y (.oq (.box Y) ?_))
 rintro v L' ⟨r, rfl, rfl⟩
 refine .an Y (.ret (.rdFold (r := r) s 0 0 O Y (Nat.zero_le _) hs (.rdUpF (r := r) (st := some s) O Y ?_)))
 exact .dn Y Y ⟨r, Y, Y⟩
theorem UU (r : Nat) (st : Rs) : Fn prog 185 #[AI r] [IH r st] fun v L => v = AA (CM 0 NM st).1 ∧ L = [IH r (CM 0 NM st).2] := Fn.rdUp (v := AA) (fun s k e => R5 r s k e) st
theorem LL (r most : Nat) (hm : most ≤ 70368744177664) (st : Rs) : Fn prog 189 #[AI r, AA most] [IH r st] fun v L => v = AA ((CM 0 (FP most) st).1 : Nat) ∧ L = [IH r (CM 0 (FP most) st).2] := Fn.rdUp (v := fun n : Nat => AA n) (fun s k e => Jy r most hm s k e) st
theorem R9 (r most : Nat) (hm : most ≤ 70368744177664) (st : Rs) : Fn prog 234 #[AI r, AA most] [IH r st] fun v L => v = AE (CM [] (I1 most) st).1 ∧ L = [IH r (CM [] (I1 most) st).2] := Fn.rdUp (v := AE) (fun s k e => Q0 r most hm s k e) st
theorem Vj (r : Nat) (st : Rs) : Fn prog 115 #[AI r] [IH r st] fun v L => ∃ e1, (e1 = 0 ↔ st = some []) ∧ v = AA e1 ∧ ∃ st', L = [IH r st'] := Fn.rdEnd (fun s k e => TV r s k e) st
def Pt.wa (y : Pt) (v : Value) : Pt := ⟨y.kind, y.path, y.data, v, y.acl, y.own, y.num, y.err, y.subsV⟩
def Pt.ws (y : Pt) (v : Value) : Pt := ⟨y.kind, y.path, y.data, y.aclV, y.acl, y.own, y.num, y.err, v⟩
def aclR (y : Pt) : HP := Af 75 2 y.aclV y.acl.length (y.acl.flatMap CO)
def AAP (e : En) : HP := Af 60 8 e.x.subsV e.subs.length (e.subs.flatMap A1)
def entR (e : En) : HP := CD [aclR e.x, AAP e, Ag aclR e.subs]
structure PtW (p : HP) (y : Pt) : Prop where
 i : PtI y
 acl : ∀ h : Hp, p h → Cx 2 h y.aclV y.acl.length (y.acl.flatMap CO)
structure EnW (p : HP) (e : En) : Prop where
 i : EnI e
 acl : ∀ h : Hp, p h → Cx 2 h e.x.aclV e.x.acl.length (e.x.acl.flatMap CO)
 subs : ∀ h : Hp, p h → Cx 8 h e.x.subsV e.subs.length (e.subs.flatMap A1)
 each : ∀ y ∈ e.subs, ∀ h : Hp, p h → Cx 2 h y.aclV y.acl.length (y.acl.flatMap CO)
theorem EnW.x {p : HP} {e : En} (h : EnW p e) : PtW p e.x := ⟨h.i.x, h.acl⟩
theorem EnW.sub {p : HP} {e : En} (h : EnW p e) {y : Pt} (hy : y ∈ e.subs) : PtW p y := ⟨h.i.subs y hy, h.each y hy⟩
theorem Tv {α : Type} (f : α → Bs) (l : List α) (j : Nat) : ((l.take j).flatMap f).length ≤ (l.flatMap f).length := by
 conv => rhs; rw [← take_append_drop j l]
 rw [flatMap_append, length_append]; omega
theorem L3 {α : Type} (f : α → Bs) {l : List α} {j : Nat} (hj : j < l.length) : (l.take (j + 1)).flatMap f = (l.take j).flatMap f ++ f l[j] := by
 rw [take_succ_eq_append_getElem hj, flatMap_append]; simp
theorem Qv {α : Type} (f : α → Bs) {l : List α} {j : Nat} (hj : j < l.length) : ((l.take j).flatMap f).length + (f l[j]).length ≤ (l.flatMap f).length := by
 have := Tv f l (j + 1)
 rw [L3 f hj, length_append] at this
 exact this
theorem NI {α : Type} (f : Rn α) (st : Rs) : ∀ n, (A4 f n st).1.length = n
 | 0 => rfl
 | n + 1 => by show ((A4 f n st).1 ++ [_]).length = n + 1; rw [length_append, NI f st n]; rfl
theorem Tn (st : Rs) : (PD st).1 ≤ 256 := by
 unfold PD CM
 split
 ·exact Nat.zero_le _
 ·split
  ·rename_i x hx; exact (XB hx).2
  ·exact Nat.zero_le _
theorem Zz {p : HP} {h : Hp} (hp : p h) : CD [p] h := ⟨h, fun _ => none, fun _ => .inr rfl, fun _ _ e => e, fun _ _ e => (by cases e), hp, trivial⟩
theorem Zh {b : Nat} {l : List Value} {T : TypeId} {h : Hp} (hp : CD [Ad b l T] h) : Ad b l T h := F6 hp
theorem Zb {α : Type} {f : α → HP} {l : List α} {y : α} {h : Hp} (hs : CD [f y, Ag f l] h) : Ag f (l ++ [y]) h :=
 H6 (perm_append_comm (l₁ := [y])) (FE hs)
section
variable {P : Program} {W : World} {n : Nat} {ds : List Deferred} {E : Bx} {L R : List HP} {X : Act → World → Prop} {ty : TypeId}
theorem G.bigAdd {α : Type} {f : α → HP} {l : List α} (y : α) {p : HP} (hp : p = f y) (hL : BC [p, Ag f l] L R) (h : G W n ds E (Ag f (l ++ [y]) :: R) X) : G W n ds E L X := by
 subst hp
 exact G.fold hL (fun w hw => Zb hw) h
theorem G.wrCast {w : Nat} {bs bs' : Bs} (hL : BJ (Ih w bs) L R) (hb : bs = bs') (h : G W n ds E (Ih w bs' :: R) X) : G W n ds E L X := by
 subst hb; exact G.perm hL.perm h
theorem AP.inL {o : Oper} {p p' q : HP} (h : AP P o E [p] fun _ L' => L' = [p']) : AP P o E [CD [p, q]] fun _ L' => L' = [CD [p', q]] := by
 intro ρ w F ha hs
 have hs' : St ([p] ++ ([q] ++ F)) w := FO (L1 := [p, q]) hs
 refine (h ρ w _ ha hs').mono ?_
 rintro v w' ⟨L', rfl, hs2, hk⟩
 exact ⟨_, rfl, Fu (L1 := [p', q]) hs2, hk⟩
theorem AP.inR {o : Oper} {p q q' : HP} (h : AP P o E [q] fun _ L' => L' = [q']) : AP P o E [CD [p, q]] fun _ L' => L' = [CD [p, q']] := by
 intro ρ w F ha hs
 have hs1 : St (p :: q :: F) w := FO (L1 := [p, q]) hs
 have hs' : St ([q] ++ ([p] ++ F)) w := Eq hs1
 refine (h ρ w _ ha hs').mono ?_
 rintro v w' ⟨L', rfl, hs2, hk⟩
 exact ⟨_, rfl, Fu (L1 := [p, q']) (Eq hs2), hk⟩
end
def KB (a : Nat × Nat) : Value := .pointer (some ⟨a.1, a.2, none⟩)
/-! ### Wishes -/
structure Rq where
 kind : Int
 xid : Int
 path : Bs
 data : Bs
 aclV : Value
 acl : List Ac
 flags : Int
 ver : Int
 watch : Bool
 subsV : Value
 armV : Value
def Eu (r : Rq) : List Value := [AA r.kind, AA r.xid, AE r.path, AE r.data, r.aclV, AA r.flags, AA r.ver, .bool r.watch, r.subsV, r.armV]
structure RqA (p : HP) (r : Rq) : Prop where
 kind : Az r.kind
 xid : Az r.xid
 flags : Az r.flags
 ver : Az r.ver
 path : r.path.length ≤ 1048566
 data : r.data.length ≤ 1048576
 acl : ∀ h : Hp, p h → Cx 2 h r.aclV r.acl.length (r.acl.flatMap CO)
 many : r.acl.length ≤ 1048576
 ids : ∀ a ∈ r.acl, Az a.1 ∧ a.2.length ≤ 1048576
 sub : ∃ a n c, r.subsV = .slice a n c
 arm : ∃ a n c, r.armV = .slice a n c
def FN : Pt := ⟨0, [], [], AF, [], 0, 0, 0, AF⟩
structure B4 where
 ses : Int
 ids : List Bs
def F7 (p : Bs) (n : Int) : Bs := p ++ ((List.replicate 10 (48 : UInt8) ++ Lib.itoa (max n 0)).drop (Lib.itoa (max n 0)).length)
abbrev Ah (b : Prop) [Decidable b] (e : Int) : Int := if b then e else 0
def He (τ : Tr) (ids : List Bs) (p : Bs) (perm : Int) : Prop := AQ τ p ∧ Xb (Do τ p) perm ids = true
instance (τ : Tr) (ids : List Bs) (p : Bs) (perm : Int) : Decidable (He τ ids p perm) := inferInstanceAs (Decidable (_ ∧ _))
def JE (τ : Tr) (r : Rq) : LF := AS τ (AL r.path)
def B2 (τ : Tr) (r : Rq) : Bs := if andI r.flags 2 ≠ 0 then F7 r.path (JE τ r).cver else r.path
def Aq (τ : Tr) (u : B4) (r : Rq) : Pt := ⟨1, B2 τ r, r.data, AF, r.acl, if andI r.flags 1 ≠ 0 then u.ses else 0, C3 ((JE τ r).cver + 1), 0, AF⟩
def Dl (τ : Tr) (u : B4) (r : Rq) : List Int :=
  [BG r.path, Ah (r.data.length > 100 ∨ r.flags < 0 ∨ r.flags > 3) 1, Ah (¬ FX r.acl = true) 50, Ah (¬ AQ τ (AL r.path)) 60, Ah ((JE τ r).own ≠ 0) 63,
   Ah (¬ He τ u.ids (AL r.path) 4) 65, Ah (BG (B2 τ r) ≠ 0) 41, Ah (AQ τ (B2 τ r)) 61, Ah ((AX τ).length ≥ 64) 64, Ah (andI r.flags 1 ≠ 0 ∧ (AG τ u.ses).length ≥ 32) 64]
def EH (τ : Tr) (r : Rq) : Pt := ⟨2, r.path, [], AF, [], 0, C3 ((JE τ r).cver + 1), 0, AF⟩
def Gb (τ : Tr) (u : B4) (r : Rq) : List Int :=
 [BG r.path, Ah (r.path = [47]) 1, Ah (¬ AQ τ r.path) 60, Ah (¬ He τ u.ids (AL r.path) 8) 65, Ah (r.ver ≠ -1 ∧ r.ver ≠ (AS τ r.path).ver) 66, Ah ((AS τ r.path).kids > 0) 62]
def Ed (r : Rq) : Int := if r.kind = 3 then Ah (r.data.length > 100) 1 else if r.kind = 4 then Ah (¬ FX r.acl = true) 50 else 0
def OV (k : Int) : Int := if k = 3 then 2 else if k = 4 then 16 else 1
def DA (k : Int) (s : LF) : Int := if k = 4 then s.av else s.ver
def Je (τ : Tr) (u : B4) (r : Rq) : List Int :=
 [BG r.path, Ed r, Ah (¬ AQ τ r.path) 60, Ah (¬ He τ u.ids r.path (OV r.kind)) 65, Ah (r.ver ≠ -1 ∧ r.ver ≠ DA r.kind (AS τ r.path)) 66]
def FJ (τ : Tr) (r : Rq) : Pt :=
 if r.kind = 3 then ⟨3, r.path, r.data, AF, [], 0, C3 (DA 3 (AS τ r.path) + 1), 0, AF⟩
 else if r.kind = 4 then ⟨4, r.path, [], AF, r.acl, 0, C3 (DA 4 (AS τ r.path) + 1), 0, AF⟩ else FN
def AU (τ : Tr) (u : B4) (r : Rq) : Pt × Int :=
 if r.kind = 1 then (Aq τ u r, B1 (Dl τ u r)) else if r.kind = 2 then (EH τ r, B1 (Gb τ u r))
 else if r.kind = 3 ∨ r.kind = 4 ∨ r.kind = 5 then (FJ τ r, B1 (Je τ u r)) else (FN, 110)
def Aw (e n : Int) : Pt := ⟨8, [], [], AF, [], 0, n, e, AF⟩
def Bd (u : B4) : List Rq → Tr → Tr × List Pt × Option (Nat × Int)
  | [], τ => (τ, [], none)
  | r :: l, τ => if (AU τ u r).2 ≠ 0 then (τ, [], some (0, (AU τ u r).2))
    else ((Bd u l (AC τ τ.zx (AU τ u r).1 []).1).1, (AU τ u r).1 :: (Bd u l (AC τ τ.zx (AU τ u r).1 []).1).2.1, (Bd u l (AC τ τ.zx (AU τ u r).1 []).1).2.2.map fun x => (x.1 + 1, x.2))
def A3 (τ : Tr) (u : B4) (l : List Rq) : Pt × List Pt :=
 if l.length = 0 ∨ l.length > 8 then (Aw 1 (-1), []) else match (Bd u l τ).2.2 with
  | some (i, e) => (Aw e i, [])
  | none => (⟨7, [], [], AF, [], 0, 0, 0, AF⟩, (Bd u l τ).2.1)
def CJ (τ : Tr) (p : Bs) : Pt := ⟨2, p, [], AF, [], 0, C3 ((AS τ (AL p)).cver + 1), 0, AF⟩
def A0 : List Bs → Tr → List Pt
 | [], _ => []
 | p :: l, τ => CJ τ p :: A0 l (AC τ τ.zx (CJ τ p) []).1
def Cy (τ : Tr) (s : Int) : Pt × List Pt := (⟨6, [], [], AF, [], s, 0, 0, AF⟩, A0 (AG τ s).reverse τ)
def Bw (k : Int) : Bool := decide (1 ≤ k) && decide (k ≤ 8) && !decide (k = 5)
def CP (τ : Tr) (u : B4) (r : Rq) (subs : List Rq) : Pt × List Pt :=
 if ¬ Bw r.kind = true then (Aw 110 (-1), []) else if ¬ Cg τ u.ses then (Aw 67 (-1), [])
 else if r.kind = 6 then A3 τ u subs else if r.kind = 7 then (FN, []) else if r.kind = 8 then Cy τ u.ses
 else if (AU τ u r).2 ≠ 0 then (Aw (AU τ u r).2 (-1), []) else ((AU τ u r).1, [])
end Go.Proofs.YtmbnebafdhpgpaaGreatDoor
/-
 DERIVED: THE SHELF's CONTRACTS AT THIS DUMP, IN PLAIN WORDS (tools/lay-plain.mjs out of 'YtmbnebafdhpgpaaGreatDoorLayP.lean', which tools/lay-shelf.mjs wrote): THE SAME DECLARATIONS UNDER THE SAME NAMES: 'import', 'namespace', 'open', 'def', 'theorem' AND NOTHING ELSE: no command of the shelf's: FOR A HAND-IN. Each laying: the table of numbers ('.._ren') and one theorem, a field a fact of the dump's own or the kernel's comparison; each Fy: ONE APPLICATION.
-/
namespace Go.Proofs
open Go List Go.Proofs.Tryz Go.Shelf
def Tryz.itoaA_ren : Go.Shelf.Ren := ⟨fun | 171 => 217 | 243 => 248 | 246 => 276 | 283 => 224 | 284 => 225 | 285 => 226 | 286 => 227 | 129 => 207 | 317 => 256 | 318 => 257 | 319 => 258 | 320 => 259 | 337 => 282 | 338 => 283 | n => n, fun | 3 => 3 | 9 => 9 | 2 => 2 | 4 => 4 | 171 => 279 | 0 => 0 | 53 => 180 | 37 => 181 | 5 => 5 | 173 => 281 | 212 => 306 | 51 => 219 | 20 => 20 | 213 => 307 | 46 => 160 | 232 => 326 | 233 => 327 | n => n, fun | 17 => 1 | 18 => 2 | 19 => 3 | n => n⟩
theorem Tryz.itoaA : Go.Proofs.LaysM.n171 prog Tryz.itoaA_ren := {
 mixed := by kernel_rfl
 f129 := func207.trans (congrArg some (by kernel_rfl))
 f171 := func217.trans (congrArg some (by kernel_rfl))
 f243 := func248.trans (congrArg some (by kernel_rfl))
 f246 := func276.trans (congrArg some (by kernel_rfl))
 f283 := func224.trans (congrArg some (by kernel_rfl))
 f284 := func225.trans (congrArg some (by kernel_rfl))
 f285 := func226.trans (congrArg some (by kernel_rfl))
 f286 := func227.trans (congrArg some (by kernel_rfl))
 f317 := func256.trans (congrArg some (by kernel_rfl))
 f318 := func257.trans (congrArg some (by kernel_rfl))
 f319 := func258.trans (congrArg some (by kernel_rfl))
 f320 := func259.trans (congrArg some (by kernel_rfl))
 f337 := func282.trans (congrArg some (by kernel_rfl))
 f338 := func283.trans (congrArg some (by kernel_rfl))
 t0 := underlying0
 a0 := Tryz.isAgg0
 z0 := Tryz.sizeOf0
 v0 := Tryz.zeroValue0
 t2 := underlying2
 a2 := Tryz.isAgg2
 z2 := Tryz.sizeOf2
 v2 := Tryz.zeroValue2
 t3 := underlying3
 a3 := Tryz.isAgg3
 z3 := Tryz.sizeOf3
 v3 := Tryz.zeroValue3
 t4 := underlying4
 a4 := Tryz.isAgg4
 z4 := Tryz.sizeOf4
 v4 := Tryz.zeroValue4
 t5 := underlying5
 a5 := Tryz.isAgg5
 z5 := Tryz.sizeOf5
 v5 := Tryz.zeroValue5
 t9 := underlying9
 a9 := Tryz.isAgg9
 z9 := Tryz.sizeOf9
 v9 := Tryz.zeroValue9
 t20 := underlying20
 a20 := Tryz.isAgg20
 z20 := Tryz.sizeOf20
 v20 := Tryz.zeroValue20
 t37 := underlying181
 a37 := Tryz.isAgg181
 z37 := Tryz.sizeOf181
 v37 := Tryz.zeroValue181
 t46 := underlying160
 a46 := Tryz.isAgg160
 z46 := Tryz.sizeOf160
 v46 := Tryz.zeroValue160
 t51 := underlying219
 a51 := Tryz.isAgg219
 z51 := Tryz.sizeOf219
 v51 := Tryz.zeroValue219
 t53 := underlying180
 a53 := Tryz.isAgg180
 z53 := Tryz.sizeOf180
 v53 := Tryz.zeroValue180
 t171 := underlying279
 a171 := Tryz.isAgg279
 z171 := Tryz.sizeOf279
 v171 := Tryz.zeroValue279
 t173 := underlying281
 a173 := Tryz.isAgg281
 z173 := Tryz.sizeOf281
 v173 := Tryz.zeroValue281
 t212 := underlying306
 a212 := Tryz.isAgg306
 z212 := Tryz.sizeOf306
 v212 := Tryz.zeroValue306
 t213 := underlying307
 a213 := Tryz.isAgg307
 z213 := Tryz.sizeOf307
 t232 := underlying326
 a232 := Tryz.isAgg326
 z232 := Tryz.sizeOf326
 v232 := Tryz.zeroValue326
 t233 := underlying327
 a233 := Tryz.isAgg327
 z233 := Tryz.sizeOf327
 v233 := Tryz.zeroValue327
 g17 := by kernel_rfl
 g18 := by kernel_rfl
 g19 := by kernel_rfl
 i0 := by kernel_rfl
 i2 := by kernel_rfl
 i3 := by kernel_rfl
 i4 := by kernel_rfl
 i5 := by kernel_rfl
 i9 := by kernel_rfl
 i20 := by kernel_rfl
 i37 := by kernel_rfl
 i46 := by kernel_rfl
 i51 := by kernel_rfl
 i53 := by kernel_rfl
 i171 := by kernel_rfl
 i173 := by kernel_rfl
 i212 := by kernel_rfl
 i232 := by kernel_rfl
 i233 := by kernel_rfl
 m17 := by kernel_rfl
 m18 := by kernel_rfl
 m19 := by kernel_rfl }
def Tryz.repeatA_ren : Go.Shelf.Ren := ⟨fun | 105 => 96 | 212 => 77 | 99 => 175 | 165 => 176 | 166 => 177 | 170 => 178 | 169 => 179 | 263 => 136 | 264 => 137 | 206 => 228 | 240 => 229 | 241 => 230 | 276 => 260 | 277 => 261 | n => n, fun | 9 => 9 | 3 => 3 | 4 => 4 | 20 => 20 | 0 => 0 | 46 => 160 | 109 => 161 | 5 => 5 | 72 => 237 | 76 => 240 | 51 => 219 | 146 => 220 | 53 => 180 | 148 => 222 | 70 => 235 | 37 => 181 | 75 => 239 | 127 => 283 | 164 => 308 | 80 => 209 | n => n, fun | n => n⟩
theorem Tryz.repeatA : Go.Proofs.Lays.n105 prog Tryz.repeatA_ren := {
 mixed := by kernel_rfl
 f99 := func175.trans (congrArg some (by kernel_rfl))
 f105 := func96.trans (congrArg some (by kernel_rfl))
 f165 := func176.trans (congrArg some (by kernel_rfl))
 f166 := func177.trans (congrArg some (by kernel_rfl))
 f169 := func179.trans (congrArg some (by kernel_rfl))
 f170 := func178.trans (congrArg some (by kernel_rfl))
 f206 := func228.trans (congrArg some (by kernel_rfl))
 f212 := func77.trans (congrArg some (by kernel_rfl))
 f240 := func229.trans (congrArg some (by kernel_rfl))
 f241 := func230.trans (congrArg some (by kernel_rfl))
 f263 := func136.trans (congrArg some (by kernel_rfl))
 f264 := func137.trans (congrArg some (by kernel_rfl))
 f276 := func260.trans (congrArg some (by kernel_rfl))
 f277 := func261.trans (congrArg some (by kernel_rfl))
 t0 := underlying0
 a0 := Tryz.isAgg0
 z0 := Tryz.sizeOf0
 v0 := Tryz.zeroValue0
 t3 := underlying3
 a3 := Tryz.isAgg3
 z3 := Tryz.sizeOf3
 v3 := Tryz.zeroValue3
 t4 := underlying4
 a4 := Tryz.isAgg4
 z4 := Tryz.sizeOf4
 v4 := Tryz.zeroValue4
 t5 := underlying5
 a5 := Tryz.isAgg5
 z5 := Tryz.sizeOf5
 v5 := Tryz.zeroValue5
 t9 := underlying9
 a9 := Tryz.isAgg9
 z9 := Tryz.sizeOf9
 v9 := Tryz.zeroValue9
 t20 := underlying20
 a20 := Tryz.isAgg20
 z20 := Tryz.sizeOf20
 v20 := Tryz.zeroValue20
 t37 := underlying181
 a37 := Tryz.isAgg181
 z37 := Tryz.sizeOf181
 v37 := Tryz.zeroValue181
 t46 := underlying160
 a46 := Tryz.isAgg160
 z46 := Tryz.sizeOf160
 v46 := Tryz.zeroValue160
 t51 := underlying219
 a51 := Tryz.isAgg219
 z51 := Tryz.sizeOf219
 v51 := Tryz.zeroValue219
 t53 := underlying180
 a53 := Tryz.isAgg180
 z53 := Tryz.sizeOf180
 v53 := Tryz.zeroValue180
 t70 := underlying235
 a70 := Tryz.isAgg235
 z70 := Tryz.sizeOf235
 v70 := Tryz.zeroValue235
 t72 := underlying237
 a72 := Tryz.isAgg237
 z72 := Tryz.sizeOf237
 v72 := Tryz.zeroValue237
 t75 := underlying239
 a75 := Tryz.isAgg239
 z75 := Tryz.sizeOf239
 v75 := Tryz.zeroValue239
 t76 := underlying240
 a76 := Tryz.isAgg240
 z76 := Tryz.sizeOf240
 v76 := Tryz.zeroValue240
 t109 := underlying161
 a109 := Tryz.isAgg161
 z109 := Tryz.sizeOf161
 v109 := Tryz.zeroValue161
 t127 := underlying283
 a127 := Tryz.isAgg283
 z127 := Tryz.sizeOf283
 v127 := Tryz.zeroValue283
 t146 := underlying220
 a146 := Tryz.isAgg220
 z146 := Tryz.sizeOf220
 v146 := Tryz.zeroValue220
 t148 := underlying222
 a148 := Tryz.isAgg222
 z148 := Tryz.sizeOf222
 v148 := Tryz.zeroValue222
 t164 := underlying308
 a164 := Tryz.isAgg308
 z164 := Tryz.sizeOf308
 v164 := Tryz.zeroValue308 }
end Go.Proofs
namespace Go.Proofs.YtmbnebafdhpgpaaGreatDoor
open Go List Go.Proofs.Tryz Go.RowKit Go.Sort Go.Shelf
def GD (p : HP) : Prop := ∀ (h : Hp) (w : World), p h → (∀ b o, h b = some o → w.heap[b]? = some o) → Lib.TabIs prog w "internal/strconv.uint64pow10" .u64 Lib.pow10Tab
theorem Vc (p : HP) (hT : GD p) (n : Int) (hn : Az n) : Fn prog 217 #[AA n] [p] fun v L => v = AE (Lib.itoa n) ∧ L = [p] := by
 intro F w hs
 obtain ⟨h1, hle, hp⟩ := Ao (show CD (p :: F) _ from hs)
 refine (Any.strconv_Itoa Tryz.itoaA n hn.1 hn.2 w (hT h1 w hp hle)).mono ?_
 rintro e w' ⟨rfl, k, os, rfl⟩
 have hb : Below w.heap.size w (Sort.grow (w.drewN k) os) := ⟨rfl, rfl, rfl, by simp [Sort.grow, World.drewN], fun b hb => by
  show (w.heap ++ os)[b]? = _
  rw [Array.getElem?_append_left hb]⟩
 exact ⟨_, _, ⟨rfl, rfl⟩, rfl, hs.below hb, At.below hb⟩
theorem XG (n : Int) (hn : 0 ≤ n ∧ n ≤ 9223372036854775807) : (Lib.itoa n).length ≤ 20 := by
 unfold Lib.itoa
 rw [if_neg om]
 have key : ∀ (k u : Nat), u < 10 ^ (k + 1) → (Lib.decDigits u).length ≤ k + 1 := by
  intro k
  induction k with
  | zero => intro u h; rw [Lib.decDigits, dif_pos om]; simp
  | succ k ih =>
   intro u h
   rw [Lib.decDigits]
   split
   ·simp
   ·rw [length_append, length_singleton]
    have := ih (u / 10) (by rw [Nat.div_lt_iff_lt_mul dQ]; rw [Nat.pow_succ] at h; exact h)
    omega
 exact key 19 _ om
theorem Tx : Builder.Extra prog Tryz.repeatA_ren where
 sizeBuilder := by kernel_rfl
 liesBuilder := by kernel_rfl
 t5 := underlying5
 a5 := Tryz.isAgg5
 z5 := Tryz.sizeOf5
 v5 := Tryz.zeroValue5
 infoByte := by kernel_rfl
 cellsByte := by kernel_rfl
 sizeByte := by kernel_rfl
 neB5 := by decide
theorem RM : Fn prog 96 #[AE [48], AA 10] [] fun v L => v = AE (List.replicate 10 48) ∧ L = [] := by
 intro F w hs
 refine (Any.strings_Repeat Tryz.repeatA Tx (bs [48]) 10 w dQ dQ).mono ?_
 rintro e w' ⟨rfl, hb⟩
 exact ⟨_, _, ⟨by kernel_rfl, rfl⟩, rfl, hs.below hb, At.below hb⟩
theorem CA.share {P : Program} {f : FuncId} {fn : Func} {c : Code} {us vs ws : List Value} {pre Q R : List HP} {φ : Value → Prop} (hf : P.funcs[f]? = some fn) (hb : fn.body = some c) (hn : (fn.name == "runtime.NumGoroutine") = false)
  (hp : BC pre Q R) (h : Fn P f (us ++ vs ++ ws).toArray pre fun v L => φ v ∧ L = pre) : CA P (.func (.func f) us.toArray ws.toArray) vs [CD Q] (fun v L => φ v ∧ L = [CD Q]) := by
 refine CA.of hf hb hn ?_
 intro F w hs
 obtain ⟨h1, h2, hd, a1, a2, hq, hF⟩ := hs
 have hs' : St (Q ++ F) w := MH hd a1 a2 hq hF
 have hs2 : St (pre ++ (R ++ F)) w := by have := C7 (hp.perm.append_right F) hs'; rwa [append_assoc] at this
 refine (h (R ++ F) w hs2).mono ?_
 rintro e w' ⟨v, L, ⟨hv, hL⟩, he, hs3, hk⟩
 rw [hL] at hs3
 have hs4 : St ((pre ++ R) ++ F) w' := by rw [append_assoc]; exact hs3
 exact ⟨v, _, ⟨hv, rfl⟩, he, Fu (C7 (hp.perm.append_right F).symm hs4), hk⟩
theorem Fn.unpack {P : Program} {f : FuncId} {args : Array Value} {p : HP} {q : List HP} {φ : Value → Prop} (h : Fn P f args [p, CD q] fun v L => φ v ∧ L = [p, CD q]) : Fn P f args (p :: q) fun v L => φ v ∧ L = p :: q := by
 intro F w hs
 obtain ⟨h1, h2, hd, a1, a2, hp, hF⟩ := hs
 have hs' : St ([p, CD q] ++ F) w := ⟨h1, h2, hd, a1, a2, hp, Fu hF⟩
 refine (h F w hs').mono ?_
 rintro e w' ⟨v, L, ⟨hv, rfl⟩, he, hs2, hk⟩
 obtain ⟨g1, g2, gd, c1, c2, gp, gF⟩ := hs2
 exact ⟨v, _, ⟨hv, rfl⟩, he, ⟨g1, g2, gd, c1, c2, gp, FO gF⟩, hk⟩
theorem AK.andI {P : Program} {E : Bx} {L : List HP} {ty : TypeId} {t t' : TypeId} {x y : Operand} {a b : Int} (hx : ev E x = some (.int .i64 a)) (hy : ev E y = some (.int .i64 b)) :
  AK P ⟨none, .binOp .and t x y t', ty, "", #[], none⟩ E L (AA (andI a b)) := AK.and hx hy
theorem AK.addW {P : Program} {E : Bx} {L : List HP} {ty : TypeId} {t t' : TypeId} {x y : Operand} {a b : Int} (hx : ev E x = some (.int .i64 a)) (hy : ev E y = some (.int .i64 b)) :
  AK P ⟨none, .binOp .add t x y t', ty, "", #[], none⟩ E L (AA (C3 (a + b))) := AK.int hx hy rfl
theorem PY (p : Bs) (n : Int) : (F7 p n).length ≤ p.length + 10 := by
 unfold F7
 rw [length_append, length_drop, length_append, length_replicate]; omega
def CF (x : Pt) (w : Value) : Pt := ⟨x.kind, x.path, x.data, w, x.acl, x.own, x.num, x.err, x.subsV⟩
def CL (t : Nat) (u : B4) (iv : Value) (r : Rq) : List Value := AI t :: AA u.ses :: iv :: Eu r
structure Di (p : HP) (u : B4) (iv : Value) (r : Rq) : Prop where
 rq : RqA p r
 ses : Az u.ses
 ids : ∀ h : Hp, p h → Cx 1 h iv u.ids.length (A6 u.ids)
 few : u.ids.length ≤ 1048576
 shape : ∃ a n c, iv = .slice a n c
 ashape : ∃ a n c, r.aclV = .slice a n c
 tab : GD p
theorem Di.cells {p : HP} {u : B4} {iv : Value} {r : Rq} (h : Di p u iv r) (t : Nat) : (CL t u iv r).all AB = true := by
 obtain ⟨a, n, c, e1⟩ := h.shape
 obtain ⟨a2, n2, c2, e2⟩ := h.ashape
 obtain ⟨a3, n3, c3, e3⟩ := h.rq.sub
 obtain ⟨a4, n4, c4, e4⟩ := h.rq.arm
 simp [CL, Eu, e1, e2, e3, e4, AB]
theorem Ns {p : HP} {u : B4} {iv : Value} {r : Rq} (h : Di p u iv r) (τ : Tr) : (B2 τ r).length ≤ 1048576 := by
 have := h.rq.path
 unfold B2
 split
 ·have := PY r.path (JE τ r).cver; omega
 ·omega
theorem V3 {τ : Tr} {N : Nat} (ho : τ.Ok N) (q : Bs) : (Do τ q).length ≤ 1048576 := by
 unfold Do
 rcases hl : AD τ.nodes q with _ | x
 ·simp
 ·exact ho.acls _ (EB hl)
theorem Q6 {τ : Tr} {q : Bs} (h : (if AQ τ q then (0 : Int) else 60) = 0) : AQ τ q := by
 rcases Decidable.em (AQ τ q) with g | g
 ·exact g
 ·rw [if_neg g] at h; omega
theorem N5 {τ : Tr} {q : Bs} (h : ¬ (if AQ τ q then (0 : Int) else 60) = 0) : ¬ AQ τ q := fun g => h (if_pos g)
theorem NW (p : HP) (hT : GD p) (s : Bs) (n : Int) (hs : s.length ≤ 1099511627776) (hn : Az n) : Fn prog 142 #[AE s, AA n] [p] fun v L => v = AE (F7 s n) ∧ L = [p] := by
 refine Fn.intro func142 Y Y fun F W => ?_
 have hcd : ((List.replicate 10 (48 : UInt8) ++ Lib.itoa (max n 0)).drop (Lib.itoa (max n 0)).length).length ≤ 10 := by rw [length_drop, length_append, length_replicate]; omega
 have hlen := XG (max n 0) (by unfold Az at hn; omega)
 have hcl : (List.replicate 10 (48 : UInt8) ++ Lib.itoa (max n 0)).length = (Lib.itoa (max n 0)).length + 10 := by rw [length_append, length_replicate]; omega
 have hcr : (List.replicate 10 (48 : UInt8)).length = 10 := length_replicate
 refine .sr (.an Y (.sr (.cv func96 [_, _] (RM) ?_)))
 refine .m Y (.u (.max2 Y Y) (.cv func217 [_] (Vc p hT (max n 0) (by unfold Az at *; omega)) ?_))
 refine .q (.concat Y Y om) Y (.an Y (.sm Y (.m Y (.m Y (.q (.to (v' := AA ((Lib.itoa (max n 0)).length + 10)) (.strlen (a := List.replicate 10 (48 : UInt8) ++ Lib.itoa (max n 0)) Y underlying9 Y) (by rw [hcl]; rfl)) Y (.q (.to (v' := AA ((Lib.itoa (max n 0)).length)) (.sub Y Y om) (by congr 1; omega)) Y (.q (.to (v' := AE ((List.replicate 10 (48 : UInt8) ++ Lib.itoa (max n 0)).drop (Lib.itoa (max n 0)).length)) (.strFrom (i := ((Lib.itoa (max n 0)).length : Int)) Y Y underlying9 (by rw [hcl]; omega)) (by rw [Int.toNat_natCast])) Y (.q (.concat Y Y om) Y (.an Y (.ret ?_))))))))))
 exact .vv
theorem Ej (t : Nat) (τ : Tr) (zx ses xid : Int) (x : Pt) (subs : List Pt) (p : HP) (hx : TxA p x subs) (N : Nat) (ho : τ.Ok N) (hN : N + subs.length ≤ 1099511627776) : Fn prog 42 #[AI t, .agg ([AA zx, AA ses, AA xid] ++ A1 x).toArray] [AZ t τ, p] fun v L => ∃ u e, v = .tuple #[u, AA e] ∧ e = (AC τ zx x subs).2.2 ∧ (∃ a c, u = .slice a (AC τ zx x subs).2.1.length c) ∧ L = [AZ t (AC τ zx x subs).1, p, Af 50 3 u (AC τ zx x subs).2.1.length ((AC τ zx x subs).2.1.flatMap BV)] := by
 refine Fn.intro func42 Y Y fun F W => ?_
 refine .rdAny (p := p) hx.rd O fun asb csb esub _ => ?_
 have hrd := hx.rd
 rw [esub] at hrd
 have hfs := hx.few
 refine .sr (.oq (.box Y) ?_)
 rintro v L' ⟨be, rfl, rfl⟩
 refine .a Y (.a Y (.nil (.ptCast (b := be) (l' := ([AA zx, AA ses, AA xid] ++ A1 x)) O Y ?_)))
 refine .then_n (.sr (.an Y (.sr (.fa Y G7 (.q (.loadAs (vs := A1 x) Y Ay O (by simp [A1]) Y) Y (.oq (.allocA BL) ?_))))))
 rintro v L' ⟨bx, rfl, rfl⟩
 refine .sa Y Y BO (by exact hx.own.all) ?_
 refine .nil (.ptCast (b := bx) (l' := A1 x) O Y ?_)
 refine .then_n (.seq (.trOpen (τ := τ) O fun rn rs m s hI => (.region (.m Y (.fa Y Cm (.u (.ld Y AR) (.nf Y Mx (.st Y Y Y CC ?_))))))))
 refine .nil (.trFold (τ := (zxT τ zx)) (hI.zx zx) O Y Y Y (.then_n (.seq (.sr (.fa Y Bz (.u (.ld Y AR) (.nt (.block (.sr (.ui Y Y Y (.an Y (.condD Y (fun h26 => ?_) (fun h26 => ?_)))))))))))))
 ·refine .sr (.fa Y CV (.u (.ld Y AR) (.ui Y Y Y (.nt (.condD Y (fun h30 => ?_) (fun h30 => ?_))))))
  ·refine .trOpen (τ := (zxT τ zx)) O fun rn rs m s hI => (.draw [11] [[0, 1, 2, 3, 4, 5, 6, 7, 8, 9, 10, 11]] mixed kQ (.g0 (.mv Y Y (.nf Y Y Y Gl (.kv Y (.ld Y KV) (.kv Y (.fieldAddr Y CV) (.kv Y (.ld Y AR) (.kv Y (.fieldAddr Y Cl) (.kv Y (.ld Y AR) (.kv Y (.fieldAddr Y E9) (.kv Y (.ld Y Ak) (.kv Y (.build (us := [(0, _), (1, _)]) AA9 Mf Y Y (by simp [AB])) (.hh Y (.mapSet (m := s) (enc := ssV) (v := (x.num, x.data)) (k := x.own) (AV.int underlying3) Y Y Y underlying111 ?he40) ?_)))))))))))))
   case he40 => rfl
   rintro v L' rfl
   refine D.ph (.fin (.trFold (τ := (openS (zxT τ zx) x.own x.num x.data)) (hI.open x.own x.num x.data) O Y Y Y (.blk_n (.then_n (.sm Y (.a Y (.an Y (.ret (.add (AO 50 3) ?_)))))))))
   have hc : AC τ zx x subs = (openS (zxT τ zx) x.own x.num x.data, ([], 0)) := by unfold AC; dsimp only; rw [if_pos h26, if_pos om]
   refine .trCast (τ' := (AC τ zx x subs).1) O (by rw [hc]) (.slCast (T := 50) (sz := 3) (m' := (AC τ zx x subs).2.1.length) (xs' := (AC τ zx x subs).2.1.flatMap BV) O (by (rw [hc]; try rfl)) (by (rw [hc]; try rfl)) ?_)
   exact .dn Y Y ⟨_, _, Y, by rw [hc], ⟨_, _, by (rw [hc]; try rfl)⟩, rfl⟩
  refine .skip (.blk_n (.then_n (.sm Y (.a Y (.an Y (.ret (.add (AO 50 3) ?_)))))))
  have hc : AC τ zx x subs = ((zxT τ zx), ([], 0)) := by unfold AC; dsimp only; rw [if_pos h26, if_neg om]
  refine .trCast (τ' := (AC τ zx x subs).1) O (by rw [hc]) (.slCast (T := 50) (sz := 3) (m' := (AC τ zx x subs).2.1.length) (xs' := (AC τ zx x subs).2.1.flatMap BV) O (by (rw [hc]; try rfl)) (by (rw [hc]; try rfl)) ?_)
  exact .dn Y Y ⟨_, _, Y, by rw [hc], ⟨_, _, by (rw [hc]; try rfl)⟩, rfl⟩
 refine .sr (.ui Y Y Y (.an Y (.condD Y (fun h42 => ?_) (fun h42 => ?_))))
 ·refine .seq (.sr (.fa Y Ck (.q (.as (v' := .slice asb subs.length csb) (by exact esub) (.ld Y G0)) Y (.q (.slen Y underlying58 Y) Y (.m Y (.nt (.block (.add (AO 50 3) (.trCast (τ' := (AH (zxT τ zx) zx ((subs.take 0).filter Ai)).1) O (by rw [take_zero]; rfl) (.slCast (T := 50) (sz := 3) (m' := (AH (zxT τ zx) zx ((subs.take 0).filter Ai)).2.length) (xs' := (AH (zxT τ zx) zx ((subs.take 0).filter Ai)).2.flatMap BV) O (by rw [take_zero]; rfl) (by rw [take_zero]; rfl) (.loopK (ι := Nat × Value) (fun q E => (47, AA q.1) :: (6, q.2) :: E) (fun q => [AZ t (AH (zxT τ zx) zx ((subs.take q.1).filter Ai)).1, Af 50 3 q.2 (AH (zxT τ zx) zx ((subs.take q.1).filter Ai)).2.length ((AH (zxT τ zx) zx ((subs.take q.1).filter Ai)).2.flatMap BV)]) (fun q => q.1 ≤ subs.length ∧ ∃ a c, q.2 = .slice a (AH (zxT τ zx) zx ((subs.take q.1).filter Ai)).2.length c) (fun q => subs.length - q.1) (0, .slice none 0 0) (ts := [0, 3, 4, 5, 7, 45, 46]) O (⟨Nat.zero_le _, none, 0, by rw [take_zero]; rfl⟩) O O ?_)))))))))))
  rintro ⟨i, u⟩ ⟨hi, au, cu, hu⟩
  dsimp only
  dsimp only at hi hu
  subst hu
  have hev := Gq (zxT τ zx) zx ((subs.take i).filter Ai)
  have hfl := length_filter_le Ai (subs.take i)
  rw [length_take] at hfl
  have hok : (AH (zxT τ zx) zx ((subs.take i).filter Ai)).1.Ok (N + subs.length) := ((ho.zx zx).parts zx _ (fun y hy => (hx.each y (mem_of_mem_take (mem_filter.1 hy).1)).few)).more om
  refine .sr (.ui Y Y Y (.nt (.seq (.condD Y (fun h48 => ?_) (fun h48 => ?_)))))
  ·have hi2 : i < subs.length := by omega
   refine .rdShape (p := p) hrd O om fun bs os e1 => ?_
   subst e1
   have hys := hx.each _ (getElem_mem hi2)
   refine .sk (.seq (.block (.sr (.q (.indexAddr Y Y EO om) Y (.q (.loadRdA (sz := 8) (j := i * 8) (k := 8) (p := p) (vs := A1 subs[i]) Y Ay O hrd (by simp) om om (A5 (f := A1) (sz := 8) (fun _ _ => Y) om)) Y (.oq (.allocA BL) ?_))))))
   rintro v L' ⟨by1, rfl, rfl⟩
   refine .sa Y Y BO (by exact hys.all) ?_
   refine .nil (.ptCast (b := by1) (l' := A1 subs[i]) O Y ?_)
   refine .then_n (.sr (.fa Y Bz (.u (.ld Y AR) (.ui Y Y Y (.nt (.condD Y (fun h53 => ?_) (fun h53 => ?_)))))))
   ·refine .region (.m Y (.m Y (.q (.loadAs (vs := A1 subs[i]) Y Ay O (by simp [A1]) Y) Y (.fa Y Cm (.u (.ld Y AR) (.oq (.c func72 [_, _, _] (H1 t (AH (zxT τ zx) zx ((subs.take i).filter Ai)).1 subs[i] zx p hys (N + subs.length) hok om)) ?_))))))
    rintro v L' ⟨a14, c14, rfl, rfl⟩
    refine .oq (.append (n := (AH (zxT τ zx) zx ((subs.take i).filter Ai)).2.length) (m := (AJ (AH (zxT τ zx) zx ((subs.take i).filter Ai)).1 subs[i] zx).2.length) (ys := (AJ (AH (zxT τ zx) zx ((subs.take i).filter Ai)).1 subs[i] zx).2.flatMap BV) (p := Af 50 3 (.slice a14 (AJ (AH (zxT τ zx) zx ((subs.take i).filter Ai)).1 subs[i] zx).2.length c14) (AJ (AH (zxT τ zx) zx ((subs.take i).filter Ai)).1 subs[i] zx).2.length ((AJ (AH (zxT τ zx) zx ((subs.take i).filter Ai)).1 subs[i] zx).2.flatMap BV)) Y Y Y DP (.inl ⟨_, underlying47⟩) Bt Y Y ?hc69 ?hr70 ?hb71 dQ) ?_
    case hc69 => exact IL _
    case hr70 => exact fun h hp => Aa hp
    case hb71 => have := IS (AH (zxT τ zx) zx ((subs.take i).filter Ai)).1 subs[i] zx; omega
    rintro v L' ⟨⟨a14_6, c14_6, rfl⟩, rfl⟩
    refine .a Y (.nil (.blk_n (.then_n (.region (.q (.add Y Y om) Y (.m Y (.nt ?_)))))))
    have hst := HY (f := Ai) hi2 (by unfold Ai; rw [decide_eq_true h53])
    refine .trCast (τ' := (AH (zxT τ zx) zx ((subs.take (i + 1)).filter Ai)).1) O (by rw [hst, BP]) (.slCast (T := 50) (sz := 3) (m' := (AH (zxT τ zx) zx ((subs.take (i + 1)).filter Ai)).2.length) (xs' := (AH (zxT τ zx) zx ((subs.take (i + 1)).filter Ai)).2.flatMap BV) O (by rw [hst, BP]; simp) (by rw [hst, BP]; simp) ?_)
    exact .rk ((i + 1, .slice a14_6 ((AH (zxT τ zx) zx ((subs.take i).filter Ai)).2.length + (AJ (AH (zxT τ zx) zx ((subs.take i).filter Ai)).1 subs[i] zx).2.length) c14_6)) (⟨by dsimp only; omega, _, _, by rw [hst, BP, length_append]⟩) (by dsimp only; omega) O
   refine .skip (.blk_n (.then_n (.region (.q (.add Y Y om) Y (.m Y (.nt ?_))))))
   have hst := Hy (f := Ai) hi2 (by unfold Ai; rw [decide_eq_false h53])
   refine .trCast (τ' := (AH (zxT τ zx) zx ((subs.take (i + 1)).filter Ai)).1) O (by rw [hst]) (.slCast (T := 50) (sz := 3) (m' := (AH (zxT τ zx) zx ((subs.take (i + 1)).filter Ai)).2.length) (xs' := (AH (zxT τ zx) zx ((subs.take (i + 1)).filter Ai)).2.flatMap BV) O (by rw [hst]) (by rw [hst]) ?_)
   exact .rk ((i + 1, .slice au (AH (zxT τ zx) zx ((subs.take i).filter Ai)).2.length cu)) (⟨by dsimp only; omega, _, _, by rw [hst]⟩) (by dsimp only; omega) O
  have hii : i = subs.length := by omega
  rw [hii, take_length]
  refine .xe (.trOpen (τ := (AH (zxT τ zx) zx (subs.filter Ai)).1) O fun rn rs m s hI => (.draw [6] [[0, 1, 2, 3, 4, 5, 6]] mixed kQ (.g0 (.mv Y Y (.nf Y Y Y Gl (.kv Y (.ld Y KV) (.kv Y (.fieldAddr Y CV) (.kv Y (.ld Y AR) (.hh Y (.mapDel (m := s) (enc := ssV) (k := x.own) (AV.int underlying3) Y Y Y underlying111 ?he82) ?_)))))))))
  case he82 => rfl
  rintro v L' rfl
  refine D.ph (.fin (.trFold (τ := (dropS (AH (zxT τ zx) zx (subs.filter Ai)).1 x.own)) (hI.drop x.own) O Y Y Y (.blk_n (.then_n (.sm Y (.a Y (.an Y (.ret ?_))))))))
  have hc : AC τ zx x subs = (dropS (AH (zxT τ zx) zx (subs.filter Ai)).1 x.own, ((AH (zxT τ zx) zx (subs.filter Ai)).2, 0)) := by unfold AC; dsimp only; rw [if_neg h26, if_pos h42]
  refine .trCast (τ' := (AC τ zx x subs).1) O (by rw [hc]) (.slCast (T := 50) (sz := 3) (m' := (AC τ zx x subs).2.1.length) (xs' := (AC τ zx x subs).2.1.flatMap BV) O (by (rw [hc]; try rfl)) (by (rw [hc]; try rfl)) ?_)
  exact .dn Y Y ⟨_, _, Y, by rw [hc], ⟨_, _, by (rw [hc]; try rfl)⟩, rfl⟩
 refine .sr (.ui Y Y Y (.an Y (.condD Y (fun h68 => ?_) (fun h68 => ?_))))
 ·refine .sr (.fa Y Ck (.q (.as (v' := .slice asb subs.length csb) (by exact esub) (.ld Y G0)) Y (.q (.slen Y underlying58 Y) Y (.m Y (.nt (.block (.add (AO 50 3) (.trCast (τ' := (AH (zxT τ zx) zx (subs.take 0)).1) O (by rw [take_zero]; rfl) (.slCast (T := 50) (sz := 3) (m' := (AH (zxT τ zx) zx (subs.take 0)).2.length) (xs' := (AH (zxT τ zx) zx (subs.take 0)).2.flatMap BV) O (by rw [take_zero]; rfl) (by rw [take_zero]; rfl) (.loopK (ι := Nat × Value) (fun q E => (73, AA q.1) :: (6, q.2) :: E) (fun q => [AZ t (AH (zxT τ zx) zx (subs.take q.1)).1, Af 50 3 q.2 (AH (zxT τ zx) zx (subs.take q.1)).2.length ((AH (zxT τ zx) zx (subs.take q.1)).2.flatMap BV)]) (fun q => q.1 ≤ subs.length ∧ ∃ a c, q.2 = .slice a (AH (zxT τ zx) zx (subs.take q.1)).2.length c) (fun q => subs.length - q.1) (0, .slice none 0 0) (ts := [0, 3, 4, 5, 71, 72]) O (⟨Nat.zero_le _, none, 0, by rw [take_zero]; rfl⟩) O O ?_))))))))))
  rintro ⟨i, u⟩ ⟨hi, au, cu, hu⟩
  dsimp only
  dsimp only at hi hu
  subst hu
  have hev := Gq (zxT τ zx) zx (subs.take i)
  have hfl := length_take_le i subs
  have hok : (AH (zxT τ zx) zx (subs.take i)).1.Ok (N + subs.length) := ((ho.zx zx).parts zx _ (fun y hy => (hx.each y (mem_of_mem_take hy)).few)).more (by rw [length_take]; omega)
  refine .sr (.ui Y Y Y (.nt (.seq (.condD Y (fun h74 => ?_) (fun h74 => ?_)))))
  ·have hi2 : i < subs.length := by omega
   refine .rdShape (p := p) hrd O om fun bs os e1 => ?_
   subst e1
   have hys := hx.each _ (getElem_mem hi2)
   refine .sk (.seq (.block (.sr (.q (.indexAddr Y Y EO om) Y (.q (.loadRdA (sz := 8) (j := i * 8) (k := 8) (p := p) (vs := A1 subs[i]) Y Ay O hrd (by simp) om om (A5 (f := A1) (sz := 8) (fun _ _ => Y) om)) Y (.oq (.allocA BL) ?_))))))
   rintro v L' ⟨by1, rfl, rfl⟩
   refine .sa Y Y BO (by exact hys.all) ?_
   refine .nil (.ptCast (b := by1) (l' := A1 subs[i]) O Y ?_)
   refine .then_n (.region (.m Y (.m Y (.q (.loadAs (vs := A1 subs[i]) Y Ay O (by simp [A1]) Y) Y (.fa Y Cm (.u (.ld Y AR) (.oq (.c func72 [_, _, _] (H1 t (AH (zxT τ zx) zx (subs.take i)).1 subs[i] zx p hys (N + subs.length) hok om)) ?_)))))))
   rintro v L' ⟨a21, c21, rfl, rfl⟩
   refine .oq (.append (n := (AH (zxT τ zx) zx (subs.take i)).2.length) (m := (AJ (AH (zxT τ zx) zx (subs.take i)).1 subs[i] zx).2.length) (ys := (AJ (AH (zxT τ zx) zx (subs.take i)).1 subs[i] zx).2.flatMap BV) (p := Af 50 3 (.slice a21 (AJ (AH (zxT τ zx) zx (subs.take i)).1 subs[i] zx).2.length c21) (AJ (AH (zxT τ zx) zx (subs.take i)).1 subs[i] zx).2.length ((AJ (AH (zxT τ zx) zx (subs.take i)).1 subs[i] zx).2.flatMap BV)) Y Y Y DP (.inl ⟨_, underlying47⟩) Bt Y Y ?hc108 ?hr109 ?hb110 dQ) ?_
   case hc108 => exact IL _
   case hr109 => exact fun h hp => Aa hp
   case hb110 => have := IS (AH (zxT τ zx) zx (subs.take i)).1 subs[i] zx; omega
   rintro v L' ⟨⟨a21_6, c21_6, rfl⟩, rfl⟩
   refine .a Y (.nil (.blk_n (.then_n (.region (.q (.add Y Y om) Y (.m Y (.nt ?_)))))))
   have hst := take_succ_eq_append_getElem hi2
   refine .trCast (τ' := (AH (zxT τ zx) zx (subs.take (i + 1))).1) O (by rw [hst, BP]) (.slCast (T := 50) (sz := 3) (m' := (AH (zxT τ zx) zx (subs.take (i + 1))).2.length) (xs' := (AH (zxT τ zx) zx (subs.take (i + 1))).2.flatMap BV) O (by rw [hst, BP]; simp) (by rw [hst, BP]; simp) ?_)
   exact .rk ((i + 1, .slice a21_6 ((AH (zxT τ zx) zx (subs.take i)).2.length + (AJ (AH (zxT τ zx) zx (subs.take i)).1 subs[i] zx).2.length) c21_6)) (⟨by dsimp only; omega, _, _, by rw [hst, BP, length_append]⟩) (by dsimp only; omega) O
  have hii : i = subs.length := by omega
  rw [hii, take_length]
  refine .exit (.then_e (.then_e (.blk_e (.blk_n (.then_n (.sm Y (.a Y (.an Y (.ret ?_)))))))))
  have hc : AC τ zx x subs = ((AH (zxT τ zx) zx subs).1, ((AH (zxT τ zx) zx subs).2, 0)) := by unfold AC; dsimp only; rw [if_neg h26, if_neg h42, if_pos h68]
  refine .trCast (τ' := (AC τ zx x subs).1) O (by rw [hc]) (.slCast (T := 50) (sz := 3) (m' := (AC τ zx x subs).2.1.length) (xs' := (AC τ zx x subs).2.1.flatMap BV) O (by (rw [hc]; try rfl)) (by (rw [hc]; try rfl)) ?_)
  exact .dn Y Y ⟨_, _, Y, by rw [hc], ⟨_, _, by (rw [hc]; try rfl)⟩, rfl⟩
 refine .sr (.ui Y Y Y (.an Y (.condD Y (fun h85 => ?_) (fun h85 => ?_))))
 ·refine .seq (.draw [] [[0, 1, 2, 3]] mixed kQ (.g0 (.kv Y (.fieldAddr Y IZ) (.kv Y (.ld Y Fd) (.kv Y (.assign Y) (.kv Y (.assign Y) (.pf (.ret (.blk_r (.then_r (.add (AO 50 3) ?_)))))))))))
  have hc : AC τ zx x subs = ((zxT τ zx), ([], x.err)) := by unfold AC; dsimp only; rw [if_neg h26, if_neg h42, if_neg h68, if_pos h85]
  refine .trCast (τ' := (AC τ zx x subs).1) O (by rw [hc]) (.slCast (T := 50) (sz := 3) (m' := (AC τ zx x subs).2.1.length) (xs' := (AC τ zx x subs).2.1.flatMap BV) O (by (rw [hc]; try rfl)) (by (rw [hc]; try rfl)) ?_)
  exact .dn Y Y ⟨_, _, Y, by rw [hc], ⟨_, _, by (rw [hc]; try rfl)⟩, rfl⟩
 refine .region (.m Y (.q (.loadAs (vs := A1 x) Y Ay O (by simp [A1]) Y) Y (.fa Y Cm (.u (.ld Y AR) (.oq (.c func72 [_, _, _] (H1 t (zxT τ zx) x zx p hx.own N (ho.zx zx) om)) ?_)))))
 rintro v L' ⟨a5, c5, rfl, rfl⟩
 refine .a Y (.nil (.blk_n (.then_n (.sm Y (.a Y (.an Y (.ret ?_)))))))
 have hc : AC τ zx x subs = ((AJ (zxT τ zx) x zx).1, ((AJ (zxT τ zx) x zx).2, 0)) := by unfold AC; dsimp only; rw [if_neg h26, if_neg h42, if_neg h68, if_neg h85]
 refine .trCast (τ' := (AC τ zx x subs).1) O (by rw [hc]) (.slCast (T := 50) (sz := 3) (m' := (AC τ zx x subs).2.1.length) (xs' := (AC τ zx x subs).2.1.flatMap BV) O (by (rw [hc]; try rfl)) (by (rw [hc]; try rfl)) ?_)
 exact .dn Y Y ⟨_, _, Y, by rw [hc], ⟨_, _, by (rw [hc]; try rfl)⟩, rfl⟩
theorem BY (t : Nat) (τ : Tr) (p : Bs) (N : Nat) (ho : τ.Ok N) (hN : N ≤ 1099511627776) : Fn prog 76 #[AI t, AE p] [AZ t τ] fun v L => v = .tuple #[.agg (B6 (AS τ p)).toArray, .bool (decide (AQ τ p))] ∧ L = [AZ t τ] := by
 refine Fn.intro func76 Y Y fun F W => ?_
 refine .trOpen (τ := τ) O fun rn rs m s hI => ?_
 have hlen := hI.len ho
 have hfew := ho.few
 refine .sr (.oq (.allocA DQ) ?_)
 rintro v L' ⟨b4, rfl, rfl⟩
 refine .an Y (.sr ?_)
 rcases hal : AD m p with _ | px
 ·refine .m Y (.nf Y A9 (.u (.ld Y Bp) (.m Y (.q (.lookupN (m := m) (enc := G2) (AV.str underlying9) (hal) Y Y underlying110 C9 O Y) Y (.an Y (.seq (.sm Y (.q (.as (v' := .bool true) (by rfl) (.ptreq Y Y underlying107)) Y (.nt (.condT Y (.sr (.q (.build (us := []) MM DQ Y Y (by simp [AB])) Y (.sa Y Y DB (by (first | (simp [AB]; done) | (simp [AB, AW, Value.cells]; done))) ?_)))))))))))))
  refine .an Y (.rt (.ptCast (b := b4) (l' := B6 (AS τ p)) O (by rw [hI.stat0 hal]; rfl) ?_))
  refine .trFold (τ := τ) hI O Y Y Y ?_
  exact .d2 Y (.cellA Y Eh O (by simp [B6]) Y) (.tmp Y) ⟨by rw [decide_eq_false (hI.none_iff.1 hal)]; rfl, rfl⟩
 refine .m Y (.nf Y A9 (.u (.ld Y Bp) (.m Y (.q (.lookupY (m := m) (enc := G2) (AV.str underlying9) (hal) Y Y underlying110 C9 O Y) Y (.an Y (.seq (.sm Y (.q (.as (v' := .bool false) (by rfl) (.ptreq Y Y underlying107)) Y (.nt (.condF Y (.sk (.seq (.bigTake hal O (.ndOpen (x := (p, px)) O (.region (.m Y (.nf Y Eb (.q (.loadAs (vs := B6 px.2.2.st) Y Eh O (by simp [Q2]) Y) Y (.oq (.allocA DQ) ?_)))))))))))))))))))
 rintro v L' ⟨b7, rfl, rfl⟩
 refine .sa Y Y DB (by intro v hv; simp only [B6, mem_cons, not_mem_nil, or_false] at hv; rcases hv with rfl | rfl | rfl | rfl | rfl | rfl | rfl | rfl | rfl <;> rfl) ?_
 refine .nil (.ptCast (b := b7) (l' := B6 px.2.2.st) O Y ?_)
 refine .then_n (.seq (.draw [7, 10, 12] [[0, 1, 2, 3, 4, 5, 6, 9, 7, 8, 10], [11, 12]] mixed kQ (.go [Ad px.1 _ _] O (.k Y (.move Y) (.k Y (.nilp Y) (.k Y (.fieldAddr Y Hq) (.k Y (.ld Y Ak) (.k Y (.strlen Y underlying9 Y) (.mv Y Y (.mv Y Y (.k Y (.fieldAddr Y TZ) (.hh Y (.c func135 [_, _] (Jd t rn (.map (some rs)) (AA τ.zx) m p (hI.plen ho) om)) ?_))))))))))))
 rintro v L' ⟨⟨a5, c5, rfl⟩, rfl⟩
 refine D.k Y (.slen Y underlying38 Y) (.hh Y (.store Y Y Y CC ?c45 (Bb _ _)) ?_)
 case c45 => simp [B6]
 rintro v L' rfl
 refine D.ph (.g0 (.kv Y (.fieldAddr Y On) (.hh Y (.store Y Y Y CC ?c49 (Bb _ _)) ?_)))
 case c49 => simp [B6]
 rintro v L' rfl
 refine D.ph (.fin (.ptCast (b := b7) (l' := B6 (AS τ p)) O (by rw [hI.stat hal, ← hI.kids ho p, J7]; rfl) ?_))
 refine .then_n (.sr (.q (.loadAs (vs := B6 (AS τ p)) Y Eh O (by simp [B6]) Y) Y (.sa Y Y DB (by intro v hv; simp only [B6, mem_cons, not_mem_nil, or_false] at hv; rcases hv with rfl | rfl | rfl | rfl | rfl | rfl | rfl | rfl | rfl <;> rfl) ?_)))
 refine .an Y (.ret (.ptCast (b := b4) (l' := B6 (AS τ p)) O Y ?_))
 refine .ndFold (x := (p, px)) O Y Y Y Y (.bigPut (f := Is) (m := m) p px Y O ?_)
 rw [Ce hal]
 refine .trFold (τ := τ) hI O Y Y Y ?_
 exact .d2 Y (.cellA Y Eh O (by simp [B6]) Y) (.tmp Y) ⟨by rw [decide_eq_true (hI.some_iff hal)]; rfl, rfl⟩
theorem Mp (t : Nat) (τ : Tr) (p : Bs) (N : Nat) (ho : τ.Ok N) (hN : N ≤ 1099511627776) : Fn prog 106 #[AI t, AE p] [AZ t τ] fun v L => v = .tuple #[AE (Ha τ p), .agg (B6 (AS τ p)).toArray, AA (if AQ τ p then 0 else 60)] ∧ L = [AZ t τ] := by
 refine Fn.intro func106 Y Y fun F W => ?_
 refine .sr (.a Y (.oq (.allocA DQ) ?_))
 rintro v L' ⟨b5, rfl, rfl⟩
 refine .an Y (.sm Y (.m Y (.cv func76 [_, _] (BY t τ p N ho hN) ?_)))
 refine .m Y (.ex Y Y (.ex Y Y (.oq (.allocA DQ) ?_)))
 rintro v L' ⟨b7, rfl, rfl⟩
 refine .sa Y Y DB (by intro v hv; simp only [B6, mem_cons, not_mem_nil, or_false] at hv; rcases hv with rfl | rfl | rfl | rfl | rfl | rfl | rfl | rfl | rfl <;> rfl) ?_
 refine .a Y (.nil (.ptCast (b := b7) (l' := B6 (AS τ p)) O Y ?_))
 refine .then_n (.seq (.sm Y (.u (.not Y) (.nt (.condN Y (fun h16 => ?_) (fun h16 => ?_))))))
 ·refine .sr (.q (.build (us := []) MM DQ Y Y (by simp [AB])) Y (.a Y (.sa Y Y DB (by (first | (simp [AB]; done) | (simp [AB, AW, Value.cells]; done))) ?_)))
  refine .an Y (.rt (.ptCast (b := b5) (l' := B6 (AS τ p)) O (by rw [show AS τ p = st0 by unfold AS Ht; unfold AQ at h16; cases e : AD τ.nodes p with | none => rfl | some y => rw [e] at h16; exact absurd rfl h16]; rfl) ?_))
  exact .done3 Y (.tmp Y) (.cellA Y Eh O (by simp [B6]) Y) (.tmp Y) ⟨by rw [if_neg h16, show Ha τ p = [] by unfold Ha; unfold AQ at h16; cases e : AD τ.nodes p with | none => rfl | some y => rw [e] at h16; exact absurd rfl h16]; rfl, rfl⟩ O O
 refine .sk (.seq (.trOpen (τ := τ) O fun rn rs m s hI => ?_))
 obtain ⟨px, hal⟩ : ∃ px, AD m p = some px := by rcases h : AD m p with _ | y; exact absurd h16 (hI.none_iff.1 h); exact ⟨y, rfl⟩
 refine .bigTake hal O (.ndOpen (x := (p, px)) O (.draw [11] [[0, 1, 2, 3, 4, 5, 6, 7, 8, 9, 10, 11], [12]] mixed kQ (.g0 (.mv Y Y (.nf Y Y Y A9 (.kv Y (.ld Y Bp) (.mv Y Y (.kv Y (.lookupY (m := m) (enc := G2) (AV.str underlying9) (hal) Y Y underlying110 C9 O Y) (.nf Y Y Y Hq (.kv Y (.ld Y Ak) (.kv Y (.loadAs (vs := B6 (AS τ p)) Y Eh O (by simp [B6]) Y) (.kv Y (.assign Y) (.sa Y Y Y DB (by intro v hv; simp only [B6, mem_cons, not_mem_nil, or_false] at hv; rcases hv with rfl | rfl | rfl | rfl | rfl | rfl | rfl | rfl | rfl <;> rfl) ?_)))))))))))))
 refine D.ph (.g0 (.kv Y (.assign Y) (.pf (.ret (.ptCast (b := b5) (l' := B6 (AS τ p)) O Y ?_)))))
 refine .ndFold (x := (p, px)) O Y Y Y Y (.bigPut (f := Is) (m := m) p px Y O ?_)
 rw [Ce hal]
 refine .trFold (τ := τ) hI O Y Y Y ?_
 exact .done3 Y (.tmp Y) (.cellA Y Eh O (by simp [B6]) Y) (.tmp Y) ⟨by rw [if_pos h16, show Ha τ p = px.2.2.data by unfold Ha; rw [hI.at hal]; rfl]; rfl, rfl⟩ O O
/- not in this seat -/
/- not in this seat -/
/- not in this seat -/
/- not in this seat -/
/- not in this seat -/
theorem Ax (b : Bool) (e : Int) : Fn prog 90 #[.bool b, AA e] [] fun v L => v = AA (if b = true then e else 0) ∧ L = [] := by
 refine Fn.intro func90 Y Y fun F W => ?_
 refine .sr (.an Y (.seq (.sm Y (.nt (.condB Y (fun h5 => ?_) (fun h5 => ?_))))))
 ·refine .sm Y (.an Y (.rt ?_))
  exact .dn Y Y ⟨by first | rw [if_pos (by first | assumption | simpa using h5)] | rw [if_neg (by first | assumption | simpa using h5)], rfl⟩
 refine .sk (.sr (.an Y (.ret ?_)))
 exact .dn Y Y ⟨by first | rw [if_pos (by first | assumption | simpa using h5)] | rw [if_neg (by first | assumption | simpa using h5)], rfl⟩
theorem ABv : BA prog 176 = some none := by kernel_rfl
theorem AAM : BA prog 168 = some none := by kernel_rfl
theorem ABj : BA prog 169 = some none := by kernel_rfl
theorem Km : Au prog 176 = some .nilFunc := by kernel_rfl
theorem GU (fs : List Value) (es : List Int) (va : Value) (p Q : HP) (hl : fs.length = es.length) (hn : fs.length ≤ 4294967296) (hr : ∀ h : Hp, p h → Cx 1 h va fs.length fs)
    (hf : ∀ i (hi : i < es.length), (∀ j (hj : j < i), es[j]'om = 0) → CA prog (fs[i]'om) [] [Q] (fun v L => v = AA es[i] ∧ L = [Q])) : Fn prog 85 #[va] [p, Q] fun v L => v = AA (B1 es) ∧ L = [p, Q] := by
 refine Fn.intro func85 Y Y fun F W => ?_
 refine .rdAny (p := p) hr O fun aa ca e _ => ?_
 subst e
 refine .sr (.an Y (.seq (.sm Y (.q (.slen Y underlying230 Y) Y (.m Y (.nt (.block (.loopK (ι := Nat) (fun q E => (8, AA q) :: E) (fun q => []) (fun q => q ≤ es.length ∧ ∀ j (hj : j < q) (hl : j < es.length), es[j] = 0) (fun q => es.length - q) (0) (ts := [6, 7]) O (⟨Nat.zero_le _, fun j hj => by omega⟩) O O ?_))))))))
 rintro i ⟨hi, hb⟩
 refine .sr (.ui Y Y Y (.nt (.seq (.condD Y (fun h9 => ?_) (fun h9 => ?_)))))
 ·have hi2 : i < es.length := by omega
  have hi3 : i < fs.length := by omega
  refine .rdShape (p := p) hr O om fun ba oa e => ?_
  subst e
  refine .sk (.seq (.block (.sr (.q (.indexAddr Y Y JP om) Y (.q (.loadEl (p := p) (i := i * 1) (v := fs[i]) Y ABv O hr (by simp [hi3])) Y (.an Y (.sm Y (.oq (.callD (vs := []) Y Y (hf i hi2 (fun j hj => hb j hj om))) ?_))))))))
  rintro v L' ⟨rfl, rfl⟩
  refine .an Y (.sm Y (.ui Y Y Y (.nt (.condN Y (fun h15 => ?_) (fun h15 => ?_)))))
  ·refine .sm Y (.an Y (.ret (.blk_r (.then_r (.then_r (.blk_r (.then_r ?_)))))))
   exact .dn Y Y ⟨by rw [Rd hi2 (fun j hj => hb j hj om) om], rfl⟩
  refine .skip (.blk_n (.then_n (.region (.q (.add Y Y om) Y (.m Y (.nt ?_))))))
  exact .rk (i + 1) (⟨by omega, fun j hj hl => by rcases Nat.lt_or_ge j i with h | h; exact hb j h hl; obtain rfl : j = i := om; omega⟩) om O
 refine .xe (.sr (.an Y (.ret ?_)))
 exact .dn Y Y ⟨by rw [M6 (fun j hj => hb j om hj)], rfl⟩
theorem K0 (t : Nat) (τ : Tr) (u : B4) (iv : Value) (r : Rq) (p : HP) (hA : Di p u iv r) (N : Nat) (ho : τ.Ok N) (hN : N ≤ 1099511627776) (q : Bs) : Fn prog 104 #[.agg (CL t u iv r).toArray, AE q] [AZ t τ, p] fun v L => v = .bool (decide (AQ τ q)) ∧ L = [AZ t τ, p] := by
 refine Fn.intro func104 Y Y fun F W => ?_
 refine .sr (.oq (.box Y) ?_)
 rintro v L' ⟨b3, rfl, rfl⟩
 refine .a Y (.nil (.pc b3 (CL t u iv r) ?_))
 refine .then_n (.sr (.fa Y D3 (.u (.ld Y C1) (.m Y (.cv func76 [_, _] (BY t τ q N ho hN) ?_)))))
 refine .m Y (.ex Y Y (.ex Y Y (.oq (.allocA DQ) ?_)))
 rintro v L' ⟨b5, rfl, rfl⟩
 refine .sa Y Y DB (by simp [B6, AB]) ?_
 refine .an Y (.sm Y (.an Y (.ret ?_)))
 exact .vv
theorem IY (t : Nat) (τ : Tr) (u : B4) (iv : Value) (r : Rq) (p : HP) (hA : Di p u iv r) (N : Nat) (ho : τ.Ok N) (hN : N ≤ 1099511627776) (q : Bs) (perm : Int) : Fn prog 92 #[.agg (CL t u iv r).toArray, AE q, AA perm] [AZ t τ, p] fun v L => v = .bool (decide (He τ u.ids q perm)) ∧ L = [AZ t τ, p] := by
 refine Fn.intro func92 Y Y fun F W => ?_
 refine .sr (.oq (.box Y) ?_)
 rintro v L' ⟨b3, rfl, rfl⟩
 refine .a Y (.nil (.pc b3 (CL t u iv r) ?_))
 refine .then_n (.sr (.fa Y D3 (.u (.ld Y C1) (.m Y (.oq (.c func108 [_, _] (I8 t τ q N ho)) ?_)))))
 rintro v L' ⟨va, rfl, ⟨aa, ca, rfl⟩, rfl⟩
 refine .m Y (.ex Y Y (.ex Y Y (.a Y (.an Y (.sm Y (.ui Y Y Y (.m Y (.dec (t := 18) Y (fun h2_18 => ?_) (fun h2_18 => ?_)))))))))
 ·refine .kDT (t := 17) Y h2_18 (.gr (.m Y (.gr (.m Y (.gr (.fa Y Qr (.gr (.u (.ld Y US) (.gr (.oq (.call func170 Y Y (vs := [_, _, _]) Y (VJ _ (Do τ q) _ (fun _ => Aa) (by have := V3 ho q; omega) perm iv u.ids p hA.ids (by have := hA.few; omega))) ?_))))))))))
  rintro v L' ⟨rfl, rfl⟩
  refine .pT Y Y (.an Y (.ret ?_))
  exact .dn Y Y ⟨by first | (have g := Q6 h2_18; congr 1; simp [He, g]; done) | (have g := N5 h2_18; congr 1; simp [He, g]; done), rfl⟩
 refine .kDF (t := 17) Y h2_18 (.gk (.gk (.gk (.gk (.gk (.pF Y Y (.an Y (.ret ?_))))))))
 exact .dn Y Y ⟨by first | (have g := Q6 h2_18; congr 1; simp [He, g]; done) | (have g := N5 h2_18; congr 1; simp [He, g]; done), rfl⟩
theorem YT (t : Nat) (τ : Tr) (u : B4) (iv : Value) (r : Rq) (p : HP) (hA : Di p u iv r) (N : Nat) (ho : τ.Ok N) (hN : N ≤ 1099511627776) (b : Nat) : Fn prog 143 #[AI b] [Ad b (CL t u iv r) 134] fun v L => v = AA (BG r.path) ∧ L = [Ad b (CL t u iv r) 134] := by
 refine Fn.intro func143 Y Y fun F W => ?_
 have hpl := hA.rq.path
 have hpl2 : r.path.length ≤ 1048576 := by omega
 refine .sr (.an Y (.sr (.fa Y Ar (.fa Y Bh (.u (.ld Y Ak) (.cv func87 [_] (EI r.path hpl2) ?_))))))
 refine .an Y (.ret ?_)
 exact .vv
theorem XJ (t : Nat) (τ : Tr) (u : B4) (iv : Value) (r : Rq) (p : HP) (hA : Di p u iv r) (N : Nat) (ho : τ.Ok N) (hN : N ≤ 1099511627776) (b : Nat) : Fn prog 144 #[AI b] [Ad b (CL t u iv r) 134] fun v L => v = AA (Ah (r.data.length > 100 ∨ r.flags < 0 ∨ r.flags > 3) 1) ∧ L = [Ad b (CL t u iv r) 134] := by
 refine Fn.intro func144 Y Y fun F W => ?_
 refine .sr (.an Y (.sr (.fa Y Ar (.fa Y II (.u (.ld Y Ak) (.q (.strlen Y underlying9 Y) Y (.ui Y Y Y (.m Y (.dec (t := 7) Y (fun h1_7 => ?_) (fun h1_7 => ?_))))))))))
 ·refine .kDT (t := 6) Y h1_7 (.gk (.gk (.gk (.gk (.pT Y Y (.m Y (.gk (.gk (.gk (.gk (.pT Y Y (.cv func90 [_, _] (Ax _ _) ?_))))))))))))
  refine .an Y (.ret ?_)
  exact .dn Y Y ⟨by congr 1; unfold Ah; first | (simp_all; done) | (simp_all; omega) | (split <;> simp_all; done) | (split <;> simp_all <;> omega), rfl⟩
 refine .kDF (t := 6) Y h1_7 (.gr (.fa Y Ar (.gr (.fa Y GM (.gr (.u (.ld Y AR) (.gr (.ui Y Y Y (.pF Y Y (.m Y (.dec (t := 13) Y (fun h1_13 => ?_) (fun h1_13 => ?_))))))))))))
 ·refine .kDT (t := 11) Y h1_13 (.kDT (t := 12) Y h1_13 (.gk (.gk (.gk (.gk (.pT Y Y (.cv func90 [_, _] (Ax _ _) ?_)))))))
  refine .an Y (.ret ?_)
  exact .dn Y Y ⟨by congr 1; unfold Ah; first | (simp_all; done) | (simp_all; omega) | (split <;> simp_all; done) | (split <;> simp_all <;> omega), rfl⟩
 refine .kDF (t := 11) Y h1_13 (.kDF (t := 12) Y h1_13 (.gr (.fa Y Ar (.gr (.fa Y GM (.gr (.u (.ld Y AR) (.gr (.ui Y Y Y (.pF Y Y (.cv func90 [_, _] (Ax _ _) ?_)))))))))))
 refine .an Y (.ret ?_)
 exact .dn Y Y ⟨by congr 1; unfold Ah; first | (simp_all; done) | (simp_all; omega) | (split <;> simp_all; done) | (split <;> simp_all <;> omega), rfl⟩
theorem Xa (t : Nat) (τ : Tr) (u : B4) (iv : Value) (r : Rq) (p : HP) (hA : Di p u iv r) (N : Nat) (ho : τ.Ok N) (hN : N ≤ 1099511627776) (b : Nat) : Fn prog 145 #[AI b] [Ad b (CL t u iv r) 134, p] fun v L => v = AA (Ah (¬ FX r.acl = true) 50) ∧ L = [Ad b (CL t u iv r) 134, p] := by
 refine Fn.intro func145 Y Y fun F W => ?_
 refine .sr (.an Y (.sr (.fa Y Ar (.fa Y KE (.u (.ld Y Ft) (.oq (.call func146 Y Y (vs := [_]) Y (LA _ r.acl p hA.rq.acl (by have := hA.rq.many; omega) (fun a ha => (hA.rq.ids a ha).2))) ?_))))))
 rintro v L' ⟨rfl, rfl⟩
 refine .u (.not Y) (.cv func90 [_, _] (Ax _ _) ?_)
 refine .an Y (.ret ?_)
 exact .dn Y Y ⟨by congr 1; unfold Ah; first | (simp_all; done) | (simp_all; omega) | (split <;> simp_all; done) | (split <;> simp_all <;> omega), rfl⟩
theorem V4 (b : Nat) (c : Prop) [Decidable c] : Fn prog 147 #[AI b] [Ad b [.bool (decide c)] 4] fun v L => v = AA (Ah (¬ c) 60) ∧ L = [Ad b [.bool (decide c)] 4] := by
 refine Fn.intro func147 Y Y fun F W => ?_
 refine .sr (.an Y (.sr (.u (.ld Y X4) (.u (.not Y) (.cv func90 [_, _] (Ax _ _) ?_)))))
 refine .an Y (.ret ?_)
 exact .dn Y Y ⟨by congr 1; unfold Ah; first | (simp_all; done) | (simp_all; omega) | (split <;> simp_all; done) | (split <;> simp_all <;> omega), rfl⟩
theorem Wi (b : Nat) (s : LF) : Fn prog 148 #[AI b] [Ad b (B6 s) 37] fun v L => v = AA (Ah (s.own ≠ 0) 63) ∧ L = [Ad b (B6 s) 37] := by
 refine Fn.intro func148 Y Y fun F W => ?_
 refine .sr (.an Y (.sr (.fa Y IU (.u (.ld Y AR) (.ui Y Y Y (.cv func90 [_, _] (Ax _ _) ?_))))))
 refine .an Y (.ret ?_)
 exact .dn Y Y ⟨by congr 1; unfold Ah; first | (simp_all; done) | (simp_all; omega) | (split <;> simp_all; done) | (split <;> simp_all <;> omega), rfl⟩
theorem Yc (t : Nat) (τ : Tr) (u : B4) (iv : Value) (r : Rq) (p : HP) (hA : Di p u iv r) (N : Nat) (ho : τ.Ok N) (hN : N ≤ 1099511627776) (b : Nat) (c : Nat) (q : Bs) : Fn prog 149 #[AI b, AI c] [Ad b (CL t u iv r) 134, Ad c [AE q] 9, AZ t τ, p] fun v L => v = AA (Ah (¬ He τ u.ids q 4) 65) ∧ L = [Ad b (CL t u iv r) 134, Ad c [AE q] 9, AZ t τ, p] := by
 refine Fn.intro func149 Y Y fun F W => ?_
 refine .sr (.an Y (.sr (.q (.la (CL t u iv r) Y E5) Y (.u (.ld Y Ak) (.cv func92 [_, _, _] (IY t τ u iv r p hA N ho hN q 4) ?_)))))
 refine .u (.not Y) (.cv func90 [_, _] (Ax _ _) ?_)
 refine .an Y (.ret ?_)
 exact .dn Y Y ⟨by congr 1; unfold Ah; first | (simp_all; done) | (simp_all; omega) | (split <;> simp_all; done) | (split <;> simp_all <;> omega), rfl⟩
theorem WF (c : Nat) (q : Bs) (hq : q.length ≤ 1048576) : Fn prog 150 #[AI c] [Ad c [AE q] 9] fun v L => v = AA (Ah (BG q ≠ 0) 41) ∧ L = [Ad c [AE q] 9] := by
 refine Fn.intro func150 Y Y fun F W => ?_
 refine .sr (.an Y (.sr (.u (.ld Y Ak) (.cv func87 [_] (EI q hq) ?_))))
 refine .ui Y Y Y (.cv func90 [_, _] (Ax _ _) ?_)
 refine .an Y (.ret ?_)
 exact .dn Y Y ⟨by congr 1; unfold Ah; first | (simp_all; done) | (simp_all; omega) | (split <;> simp_all; done) | (split <;> simp_all <;> omega), rfl⟩
theorem XT (t : Nat) (τ : Tr) (u : B4) (iv : Value) (r : Rq) (p : HP) (hA : Di p u iv r) (N : Nat) (ho : τ.Ok N) (hN : N ≤ 1099511627776) (b : Nat) (c : Nat) (q : Bs) : Fn prog 151 #[AI b, AI c] [Ad b (CL t u iv r) 134, Ad c [AE q] 9, AZ t τ, p] fun v L => v = AA (Ah (AQ τ q) 61) ∧ L = [Ad b (CL t u iv r) 134, Ad c [AE q] 9, AZ t τ, p] := by
 refine Fn.intro func151 Y Y fun F W => ?_
 refine .sr (.an Y (.sr (.q (.la (CL t u iv r) Y E5) Y (.u (.ld Y Ak) (.cv func104 [_, _] (K0 t τ u iv r p hA N ho hN q) ?_)))))
 refine .cv func90 [_, _] (Ax _ _) ?_
 refine .an Y (.ret ?_)
 exact .dn Y Y ⟨by congr 1; unfold Ah; first | (simp_all; done) | (simp_all; omega) | (split <;> simp_all; done) | (split <;> simp_all <;> omega), rfl⟩
theorem Ww (t : Nat) (τ : Tr) (u : B4) (iv : Value) (r : Rq) (p : HP) (hA : Di p u iv r) (N : Nat) (ho : τ.Ok N) (hN : N ≤ 1099511627776) (b : Nat) : Fn prog 152 #[AI b] [Ad b (CL t u iv r) 134, AZ t τ] fun v L => v = AA (Ah ((AX τ).length ≥ 64) 64) ∧ L = [Ad b (CL t u iv r) 134, AZ t τ] := by
 refine Fn.intro func152 Y Y fun F W => ?_
 refine .sr (.an Y (.sr (.fa Y D3 (.u (.ld Y C1) (.oq (.c func140 [_] (Fj t τ N ho hN)) ?_)))))
 rintro v L' ⟨⟨a0, c0, rfl⟩, rfl⟩
 refine .q (.slen Y underlying38 Y) Y (.ui Y Y Y (.cv func90 [_, _] (Ax _ _) ?_))
 refine .an Y (.ret ?_)
 exact .dn Y Y ⟨by congr 1; unfold Ah; first | (simp_all; done) | (simp_all; omega) | (split <;> simp_all; done) | (split <;> simp_all <;> omega), rfl⟩
theorem VB (t : Nat) (τ : Tr) (u : B4) (iv : Value) (r : Rq) (p : HP) (hA : Di p u iv r) (N : Nat) (ho : τ.Ok N) (hN : N ≤ 1099511627776) (b : Nat) : Fn prog 153 #[AI b] [Ad b (CL t u iv r) 134, AZ t τ] fun v L => v = AA (Ah (andI r.flags 1 ≠ 0 ∧ (AG τ u.ses).length ≥ 32) 64) ∧ L = [Ad b (CL t u iv r) 134, AZ t τ] := by
 refine Fn.intro func153 Y Y fun F W => ?_
 refine .sr (.an Y (.sr (.fa Y Ar (.fa Y GM (.u (.ld Y AR) (.u (.andI Y Y) (.ui Y Y Y (.m Y (.ndec (t := 7) Y (fun h1_7 => ?_) (fun h1_7 => ?_))))))))))
 ·refine .kNT (t := 6) Y h1_7 (.gr (.fa Y D3 (.gr (.u (.ld Y C1) (.gr (.fa Y FC (.gr (.u (.ld Y AR) (.gr (.oq (.c func80 [_, _] (JW t τ u.ses N ho hN)) ?_))))))))))
  rintro v L' ⟨⟨a0, c0, rfl⟩, rfl⟩
  refine .gr (.q (.slen Y underlying38 Y) Y (.gr (.ui Y Y Y (.pT Y Y (.cv func90 [_, _] (Ax _ _) ?_)))))
  refine .an Y (.ret ?_)
  exact .dn Y Y ⟨by congr 1; unfold Ah; first | (simp_all; done) | (simp_all; omega) | (split <;> simp_all; done) | (split <;> simp_all <;> omega), rfl⟩
 refine .kNF (t := 6) Y h1_7 (.gk (.gk (.gk (.gk (.gk (.gk (.gk (.pF Y Y (.cv func90 [_, _] (Ax _ _) ?_)))))))))
 refine .an Y (.ret ?_)
 exact .dn Y Y ⟨by congr 1; unfold Ah; first | (simp_all; done) | (simp_all; omega) | (split <;> simp_all; done) | (split <;> simp_all <;> omega), rfl⟩
theorem T6 (t : Nat) (τ : Tr) (u : B4) (iv : Value) (r : Rq) (p : HP) (hA : Di p u iv r) (N : Nat) (ho : τ.Ok N) (hN : N ≤ 1099511627776) (b1 bu bs bi bw : Nat) (va : Value) (p0 : HP) (hr : ∀ h : Hp, p0 h → Cx 1 h va 10 [.func (.func 143) #[] #[AI b1], .func (.func 144) #[] #[AI b1], .func (.func 145) #[] #[AI b1], .func (.func 147) #[] #[AI bi], .func (.func 148) #[] #[AI bs], .func (.func 149) #[] #[AI b1, AI bu], .func (.func 150) #[] #[AI bw], .func (.func 151) #[] #[AI b1, AI bw], .func (.func 152) #[] #[AI b1], .func (.func 153) #[] #[AI b1]]) : Fn prog 85 #[va] [p0, Ad b1 (CL t u iv r) 134, Ad bu [AE (AL r.path)] 9, Ad bs (B6 (JE τ r)) 37, Ad bi [.bool (decide (AQ τ (AL r.path)))] 4, Ad bw [AE (B2 τ r)] 9, AZ t τ, p] fun v L => v = AA (B1 (Dl τ u r)) ∧ L = [p0, Ad b1 (CL t u iv r) 134, Ad bu [AE (AL r.path)] 9, Ad bs (B6 (JE τ r)) 37, Ad bi [.bool (decide (AQ τ (AL r.path)))] 4, Ad bw [AE (B2 τ r)] 9, AZ t τ, p] := by
 refine Fn.unpack (GU [.func (.func 143) #[] #[AI b1], .func (.func 144) #[] #[AI b1], .func (.func 145) #[] #[AI b1], .func (.func 147) #[] #[AI bi], .func (.func 148) #[] #[AI bs], .func (.func 149) #[] #[AI b1, AI bu], .func (.func 150) #[] #[AI bw], .func (.func 151) #[] #[AI b1, AI bw], .func (.func 152) #[] #[AI b1], .func (.func 153) #[] #[AI b1]] (Dl τ u r) va p0 _ rfl (by show 10 ≤ _; decide) hr ?_)
 intro i hi hz
 have hi2 : i < 10 := hi
 have hc : i = 0 ∨ i = 1 ∨ i = 2 ∨ i = 3 ∨ i = 4 ∨ i = 5 ∨ i = 6 ∨ i = 7 ∨ i = 8 ∨ i = 9 := by omega
 rcases hc with rfl | rfl | rfl | rfl | rfl | rfl | rfl | rfl | rfl | rfl
 ·exact CA.share (us := []) (vs := []) (ws := [AI b1]) func143 rfl rfl O (YT t τ u iv r p hA N ho hN b1)
 ·exact CA.share (us := []) (vs := []) (ws := [AI b1]) func144 rfl rfl O (XJ t τ u iv r p hA N ho hN b1)
 ·exact CA.share (us := []) (vs := []) (ws := [AI b1]) func145 rfl rfl O (Xa t τ u iv r p hA N ho hN b1)
 ·exact CA.share (us := []) (vs := []) (ws := [AI bi]) func147 rfl rfl O (V4 bi _)
 ·exact CA.share (us := []) (vs := []) (ws := [AI bs]) func148 rfl rfl O (Wi bs _)
 ·exact CA.share (us := []) (vs := []) (ws := [AI b1, AI bu]) func149 rfl rfl O (Yc t τ u iv r p hA N ho hN b1 bu _)
 ·exact CA.share (us := []) (vs := []) (ws := [AI bw]) func150 rfl rfl O (WF bw _ (by have := Ns hA τ; omega))
 ·exact CA.share (us := []) (vs := []) (ws := [AI b1, AI bw]) func151 rfl rfl O (XT t τ u iv r p hA N ho hN b1 bw _)
 ·exact CA.share (us := []) (vs := []) (ws := [AI b1]) func152 rfl rfl O (Ww t τ u iv r p hA N ho hN b1)
 ·exact CA.share (us := []) (vs := []) (ws := [AI b1]) func153 rfl rfl O (VB t τ u iv r p hA N ho hN b1)
theorem O6 (t : Nat) (τ : Tr) (u : B4) (iv : Value) (r : Rq) (p : HP) (hA : Di p u iv r) (N : Nat) (ho : τ.Ok N) (hN : N ≤ 1099511627776) (hcv : Az (JE τ r).cver) : Fn prog 82 #[.agg (CL t u iv r).toArray] [AZ t τ, p] fun v L => ∃ w : Value, v = .tuple #[.agg (A1 (CF (Aq τ u r) w)).toArray, AA (B1 (Dl τ u r))] ∧ (∃ a c, w = .slice a r.acl.length c) ∧ L = [AZ t τ, p, Af 75 2 w r.acl.length (r.acl.flatMap CO)] := by
 refine Fn.intro func82 Y Y fun F W => ?_
 have hpl := hA.rq.path
 have hpl2 : r.path.length ≤ 1048576 := by omega
 have hcl := hA.cells t
 refine .sr (.oq (.box Y) ?_)
 rintro v L' ⟨b1, rfl, rfl⟩
 refine .oq (.allocA BL) ?_
 rintro v L' ⟨bx, rfl, rfl⟩
 refine .a Y (.nil (.pc b1 (CL t u iv r) ?_))
 refine .then_n (.sr (.fa Y Ar (.fa Y Bh (.u (.ld Y Ak) (.cv func81 [_] (De r.path om) ?_)))))
 refine .oq (.alloc J6) ?_
 rintro v L' ⟨bu, rfl, rfl⟩
 refine .st Y Y Y KP ?_
 refine .nt (.sr (.fa Y D3 (.u (.ld Y C1) (.u (.ld Y Ak) (.cv func76 [_, _] (BY t τ _ N ho hN) ?_)))))
 refine .m Y (.ex Y Y (.ex Y Y (.oq (.allocA DQ) ?_)))
 rintro v L' ⟨bs, rfl, rfl⟩
 refine .oq (.alloc MG) ?_
 rintro v L' ⟨bi, rfl, rfl⟩
 refine .sa Y Y DB (by simp [B6, AB]) ?_
 refine .st Y Y Y My ?_
 refine .nil (.pc bs (B6 (JE τ r)) ?_)
 refine .then_n (.sr (.fa Y Ar (.fa Y Bh (.u (.ld Y Ak) (.oq (.alloc J6) ?_)))))
 rintro v L' ⟨bw, rfl, rfl⟩
 refine .st Y Y Y KP ?_
 refine .nt (.seq (.sr (.fa Y Ar (.fa Y GM (.u (.ld Y AR) (.u (.andI Y Y) (.ui Y Y Y (.nt (.condN Y (fun h28 => ?_) (fun h28 => ?_))))))))))
 ·have hw : B2 τ r = F7 r.path (JE τ r).cver := if_pos h28
  refine .region (.fa Y Ar (.fa Y Bh (.u (.ld Y Ak) (.fa Y Fi (.u (.ld Y AR) (.cv func142 [_, _] (NW p hA.tab r.path (JE τ r).cver om hcv) ?_))))))
  refine .oq (.store Y Y Y KP ?c55 (Bb _ _)) ?_
  case c55 => exact Nat.zero_lt_one
  rintro v L' rfl
  refine .nt (.sr (.ptCast (b := bw) (l' := [AE (B2 τ r)]) O (by rw [hw]; rfl) ?_))
  refine .q (.func (us := []) (vs := [_]) Y Y) Y (.q (.func (us := []) (vs := [_]) Y Y) Y (.q (.func (us := []) (vs := [_]) Y Y) Y (.q (.func (us := []) (vs := [_]) Y Y) Y (.q (.func (us := []) (vs := [_]) Y Y) Y (.q (.func (us := []) (vs := [_, _]) Y Y) Y (.q (.func (us := []) (vs := [_]) Y Y) Y (.q (.func (us := []) (vs := [_, _]) Y Y) Y (.q (.func (us := []) (vs := [_]) Y Y) Y (.q (.func (us := []) (vs := [_]) Y Y) Y (.oq (.buildSlice1 (vs := [_, _, _, _, _, _, _, _, _, _]) JP Km Y Y Y Y Y dQ) ?_))))))))))
  rintro v L' ⟨bf, rfl, rfl⟩
  refine .slMake (b := bf) (n := 10) (c := 10) (xs := [.func (.func 143) #[] #[AI b1], .func (.func 144) #[] #[AI b1], .func (.func 145) #[] #[AI b1], .func (.func 147) #[] #[AI bi], .func (.func 148) #[] #[AI bs], .func (.func 149) #[] #[AI b1, AI bu], .func (.func 150) #[] #[AI bw], .func (.func 151) #[] #[AI b1, AI bw], .func (.func 152) #[] #[AI b1], .func (.func 153) #[] #[AI b1]]) O dQ (by exact Nat.le_refl 10) Y (.cv func85 [_] (T6 t τ u iv r p hA N ho hN b1 bu bs bi bw _ _ (fun _ => Aa)) ?_)
  refine .an Y (.seq (.draw [7, 12, 13] [[0, 1, 2, 3, 4, 5, 6, 8, 9, 10, 7, 11, 12], [13]] mixed kQ (.go [Ad b1 _ _, Ad bs _ _, Ad bw _ _] O (.k Y (.ld Y Ak) (.k Y (.fieldAddr Y Ar) (.k Y (.fieldAddr Y II) (.k Y (.ld Y Ak) (.k Y (.fieldAddr Y Ar) (.k Y (.fieldAddr Y KE) (.k Y (.ld Y Ft) (.k Y (.fieldAddr Y Fi) (.k Y (.ld Y AR) (.k Y (.addW Y Y) (.h2 (k := 12) Y Y kQ Y (.c func134 [_] (CK r.aclV r.acl p hA.rq.acl hA.rq.many)) O (.allocA BL) O ?_ ?_))))))))))))))
  ·rintro v L' ⟨⟨a7, c7, rfl⟩, rfl⟩
   refine D.k Y (.build (us := [(0, _), (1, _), (2, _), (3, _), (5, _)]) FF BL Y Y (by simp [AB])) (.hh Y (.allocA BL) ?_)
   rintro v L' ⟨bp, rfl, rfl⟩
   refine D.ph (.g0 (.sa Y Y Y BO (by (first | (simp [AB]; done) | (simp [AB, AW, Value.cells]; done))) ?_))
   refine D.ph (.fin (.pc bp (A1 ⟨1, B2 τ r, r.data, .slice a7 r.acl.length c7, r.acl, 0, C3 ((JE τ r).cver + 1), 0, AF⟩) ?_))
   refine .then_n (.seq (.sr (.fa Y Ar (.fa Y GM (.u (.ld Y AR) (.u (.andI Y Y) (.ui Y Y Y (.nt (.condN Y (fun h63 => ?_) (fun h63 => ?_))))))))))
   ·refine .region (.fa Y FC (.u (.ld Y AR) (.fa Y CV (.sw Y Y Y CC ?_))))
    refine .nt (.sr (.ptCast (b := bp) (l' := A1 (CF (Aq τ u r) (.slice a7 r.acl.length c7))) O (by unfold Aq; first | (rw [if_pos h63]; rfl) | (rw [if_neg (fun g => g h63)]; rfl)) ?_))
    refine .q (.la (A1 (CF (Aq τ u r) (.slice a7 r.acl.length c7))) Y Ay) Y (.m Y (.sa Y Y BO (by simp [A1, CF, Aq, AB]) ?_))
    refine .a Y (.nil (.pc bx ([AA 1, AE (B2 τ r), AE r.data, .slice a7 r.acl.length c7, AA (if andI r.flags 1 ≠ 0 then u.ses else 0), AA (C3 ((JE τ r).cver + 1)), AA 0, AF]) ?_))
    refine .then_n (.ret ?_)
    exact .d2 Y (.cellA Y Ay O (by simp [DT, AW]) Y) (.tmp Y) ⟨_, Y, ⟨_, _, Y⟩, Y⟩
   refine .sk (.sr (.ptCast (b := bp) (l' := A1 (CF (Aq τ u r) (.slice a7 r.acl.length c7))) O (by unfold Aq; first | (rw [if_pos h63]; rfl) | (rw [if_neg (fun g => g h63)]; rfl)) ?_))
   refine .q (.la (A1 (CF (Aq τ u r) (.slice a7 r.acl.length c7))) Y Ay) Y (.m Y (.sa Y Y BO (by simp [A1, CF, Aq, AB]) ?_))
   refine .a Y (.nil (.pc bx ([AA 1, AE (B2 τ r), AE r.data, .slice a7 r.acl.length c7, AA (if andI r.flags 1 ≠ 0 then u.ses else 0), AA (C3 ((JE τ r).cver + 1)), AA 0, AF]) ?_))
   refine .then_n (.ret ?_)
   exact .d2 Y (.cellA Y Ay O (by simp [DT, AW]) Y) (.tmp Y) ⟨_, Y, ⟨_, _, Y⟩, Y⟩
  rintro v L' ⟨bp, rfl, rfl⟩
  refine D.hh Y (.c func134 [_] (CK r.aclV r.acl p hA.rq.acl hA.rq.many)) ?_
  rintro v L' ⟨⟨a7, c7, rfl⟩, rfl⟩
  refine D.kv Y (.build (us := [(0, _), (1, _), (2, _), (3, _), (5, _)]) FF BL Y Y (by simp [AB])) (.ph (.g0 (.sa Y Y Y BO (by (first | (simp [AB]; done) | (simp [AB, AW, Value.cells]; done))) ?_)))
  refine D.ph (.fin (.pc bp (A1 ⟨1, B2 τ r, r.data, .slice a7 r.acl.length c7, r.acl, 0, C3 ((JE τ r).cver + 1), 0, AF⟩) ?_))
  refine .then_n (.seq (.sr (.fa Y Ar (.fa Y GM (.u (.ld Y AR) (.u (.andI Y Y) (.ui Y Y Y (.nt (.condN Y (fun h63 => ?_) (fun h63 => ?_))))))))))
  ·refine .region (.fa Y FC (.u (.ld Y AR) (.fa Y CV (.sw Y Y Y CC ?_))))
   refine .nt (.sr (.ptCast (b := bp) (l' := A1 (CF (Aq τ u r) (.slice a7 r.acl.length c7))) O (by unfold Aq; first | (rw [if_pos h63]; rfl) | (rw [if_neg (fun g => g h63)]; rfl)) ?_))
   refine .q (.la (A1 (CF (Aq τ u r) (.slice a7 r.acl.length c7))) Y Ay) Y (.m Y (.sa Y Y BO (by simp [A1, CF, Aq, AB]) ?_))
   refine .a Y (.nil (.pc bx ([AA 1, AE (B2 τ r), AE r.data, .slice a7 r.acl.length c7, AA (if andI r.flags 1 ≠ 0 then u.ses else 0), AA (C3 ((JE τ r).cver + 1)), AA 0, AF]) ?_))
   refine .then_n (.ret ?_)
   exact .d2 Y (.cellA Y Ay O (by simp [DT, AW]) Y) (.tmp Y) ⟨_, Y, ⟨_, _, Y⟩, Y⟩
  refine .sk (.sr (.ptCast (b := bp) (l' := A1 (CF (Aq τ u r) (.slice a7 r.acl.length c7))) O (by unfold Aq; first | (rw [if_pos h63]; rfl) | (rw [if_neg (fun g => g h63)]; rfl)) ?_))
  refine .q (.la (A1 (CF (Aq τ u r) (.slice a7 r.acl.length c7))) Y Ay) Y (.m Y (.sa Y Y BO (by simp [A1, CF, Aq, AB]) ?_))
  refine .a Y (.nil (.pc bx ([AA 1, AE (B2 τ r), AE r.data, .slice a7 r.acl.length c7, AA (if andI r.flags 1 ≠ 0 then u.ses else 0), AA (C3 ((JE τ r).cver + 1)), AA 0, AF]) ?_))
  refine .then_n (.ret ?_)
  exact .d2 Y (.cellA Y Ay O (by simp [DT, AW]) Y) (.tmp Y) ⟨_, Y, ⟨_, _, Y⟩, Y⟩
 have hw : B2 τ r = r.path := if_neg (fun g => g h28)
 refine .sk (.sr (.ptCast (b := bw) (l' := [AE (B2 τ r)]) O (by rw [hw]; rfl) ?_))
 refine .q (.func (us := []) (vs := [_]) Y Y) Y (.q (.func (us := []) (vs := [_]) Y Y) Y (.q (.func (us := []) (vs := [_]) Y Y) Y (.q (.func (us := []) (vs := [_]) Y Y) Y (.q (.func (us := []) (vs := [_]) Y Y) Y (.q (.func (us := []) (vs := [_, _]) Y Y) Y (.q (.func (us := []) (vs := [_]) Y Y) Y (.q (.func (us := []) (vs := [_, _]) Y Y) Y (.q (.func (us := []) (vs := [_]) Y Y) Y (.q (.func (us := []) (vs := [_]) Y Y) Y (.oq (.buildSlice1 (vs := [_, _, _, _, _, _, _, _, _, _]) JP Km Y Y Y Y Y dQ) ?_))))))))))
 rintro v L' ⟨bf, rfl, rfl⟩
 refine .slMake (b := bf) (n := 10) (c := 10) (xs := [.func (.func 143) #[] #[AI b1], .func (.func 144) #[] #[AI b1], .func (.func 145) #[] #[AI b1], .func (.func 147) #[] #[AI bi], .func (.func 148) #[] #[AI bs], .func (.func 149) #[] #[AI b1, AI bu], .func (.func 150) #[] #[AI bw], .func (.func 151) #[] #[AI b1, AI bw], .func (.func 152) #[] #[AI b1], .func (.func 153) #[] #[AI b1]]) O dQ (by exact Nat.le_refl 10) Y (.cv func85 [_] (T6 t τ u iv r p hA N ho hN b1 bu bs bi bw _ _ (fun _ => Aa)) ?_)
 refine .an Y (.seq (.draw [7, 12, 13] [[0, 1, 2, 3, 4, 5, 6, 8, 9, 10, 7, 11, 12], [13]] mixed kQ (.go [Ad b1 _ _, Ad bs _ _, Ad bw _ _] O (.k Y (.ld Y Ak) (.k Y (.fieldAddr Y Ar) (.k Y (.fieldAddr Y II) (.k Y (.ld Y Ak) (.k Y (.fieldAddr Y Ar) (.k Y (.fieldAddr Y KE) (.k Y (.ld Y Ft) (.k Y (.fieldAddr Y Fi) (.k Y (.ld Y AR) (.k Y (.addW Y Y) (.h2 (k := 12) Y Y kQ Y (.c func134 [_] (CK r.aclV r.acl p hA.rq.acl hA.rq.many)) O (.allocA BL) O ?_ ?_))))))))))))))
 ·rintro v L' ⟨⟨a7, c7, rfl⟩, rfl⟩
  refine D.k Y (.build (us := [(0, _), (1, _), (2, _), (3, _), (5, _)]) FF BL Y Y (by simp [AB])) (.hh Y (.allocA BL) ?_)
  rintro v L' ⟨bp, rfl, rfl⟩
  refine D.ph (.g0 (.sa Y Y Y BO (by (first | (simp [AB]; done) | (simp [AB, AW, Value.cells]; done))) ?_))
  refine D.ph (.fin (.pc bp (A1 ⟨1, B2 τ r, r.data, .slice a7 r.acl.length c7, r.acl, 0, C3 ((JE τ r).cver + 1), 0, AF⟩) ?_))
  refine .then_n (.seq (.sr (.fa Y Ar (.fa Y GM (.u (.ld Y AR) (.u (.andI Y Y) (.ui Y Y Y (.nt (.condN Y (fun h63 => ?_) (fun h63 => ?_))))))))))
  ·refine .region (.fa Y FC (.u (.ld Y AR) (.fa Y CV (.sw Y Y Y CC ?_))))
   refine .nt (.sr (.ptCast (b := bp) (l' := A1 (CF (Aq τ u r) (.slice a7 r.acl.length c7))) O (by unfold Aq; first | (rw [if_pos h63]; rfl) | (rw [if_neg (fun g => g h63)]; rfl)) ?_))
   refine .q (.la (A1 (CF (Aq τ u r) (.slice a7 r.acl.length c7))) Y Ay) Y (.m Y (.sa Y Y BO (by simp [A1, CF, Aq, AB]) ?_))
   refine .a Y (.nil (.pc bx ([AA 1, AE (B2 τ r), AE r.data, .slice a7 r.acl.length c7, AA (if andI r.flags 1 ≠ 0 then u.ses else 0), AA (C3 ((JE τ r).cver + 1)), AA 0, AF]) ?_))
   refine .then_n (.ret ?_)
   exact .d2 Y (.cellA Y Ay O (by simp [DT, AW]) Y) (.tmp Y) ⟨_, Y, ⟨_, _, Y⟩, Y⟩
  refine .sk (.sr (.ptCast (b := bp) (l' := A1 (CF (Aq τ u r) (.slice a7 r.acl.length c7))) O (by unfold Aq; first | (rw [if_pos h63]; rfl) | (rw [if_neg (fun g => g h63)]; rfl)) ?_))
  refine .q (.la (A1 (CF (Aq τ u r) (.slice a7 r.acl.length c7))) Y Ay) Y (.m Y (.sa Y Y BO (by simp [A1, CF, Aq, AB]) ?_))
  refine .a Y (.nil (.pc bx ([AA 1, AE (B2 τ r), AE r.data, .slice a7 r.acl.length c7, AA (if andI r.flags 1 ≠ 0 then u.ses else 0), AA (C3 ((JE τ r).cver + 1)), AA 0, AF]) ?_))
  refine .then_n (.ret ?_)
  exact .d2 Y (.cellA Y Ay O (by simp [DT, AW]) Y) (.tmp Y) ⟨_, Y, ⟨_, _, Y⟩, Y⟩
 rintro v L' ⟨bp, rfl, rfl⟩
 refine D.hh Y (.c func134 [_] (CK r.aclV r.acl p hA.rq.acl hA.rq.many)) ?_
 rintro v L' ⟨⟨a7, c7, rfl⟩, rfl⟩
 refine D.kv Y (.build (us := [(0, _), (1, _), (2, _), (3, _), (5, _)]) FF BL Y Y (by simp [AB])) (.ph (.g0 (.sa Y Y Y BO (by (first | (simp [AB]; done) | (simp [AB, AW, Value.cells]; done))) ?_)))
 refine D.ph (.fin (.pc bp (A1 ⟨1, B2 τ r, r.data, .slice a7 r.acl.length c7, r.acl, 0, C3 ((JE τ r).cver + 1), 0, AF⟩) ?_))
 refine .then_n (.seq (.sr (.fa Y Ar (.fa Y GM (.u (.ld Y AR) (.u (.andI Y Y) (.ui Y Y Y (.nt (.condN Y (fun h63 => ?_) (fun h63 => ?_))))))))))
 ·refine .region (.fa Y FC (.u (.ld Y AR) (.fa Y CV (.sw Y Y Y CC ?_))))
  refine .nt (.sr (.ptCast (b := bp) (l' := A1 (CF (Aq τ u r) (.slice a7 r.acl.length c7))) O (by unfold Aq; first | (rw [if_pos h63]; rfl) | (rw [if_neg (fun g => g h63)]; rfl)) ?_))
  refine .q (.la (A1 (CF (Aq τ u r) (.slice a7 r.acl.length c7))) Y Ay) Y (.m Y (.sa Y Y BO (by simp [A1, CF, Aq, AB]) ?_))
  refine .a Y (.nil (.pc bx ([AA 1, AE (B2 τ r), AE r.data, .slice a7 r.acl.length c7, AA (if andI r.flags 1 ≠ 0 then u.ses else 0), AA (C3 ((JE τ r).cver + 1)), AA 0, AF]) ?_))
  refine .then_n (.ret ?_)
  exact .d2 Y (.cellA Y Ay O (by simp [DT, AW]) Y) (.tmp Y) ⟨_, Y, ⟨_, _, Y⟩, Y⟩
 refine .sk (.sr (.ptCast (b := bp) (l' := A1 (CF (Aq τ u r) (.slice a7 r.acl.length c7))) O (by unfold Aq; first | (rw [if_pos h63]; rfl) | (rw [if_neg (fun g => g h63)]; rfl)) ?_))
 refine .q (.la (A1 (CF (Aq τ u r) (.slice a7 r.acl.length c7))) Y Ay) Y (.m Y (.sa Y Y BO (by simp [A1, CF, Aq, AB]) ?_))
 refine .a Y (.nil (.pc bx ([AA 1, AE (B2 τ r), AE r.data, .slice a7 r.acl.length c7, AA (if andI r.flags 1 ≠ 0 then u.ses else 0), AA (C3 ((JE τ r).cver + 1)), AA 0, AF]) ?_))
 refine .then_n (.ret ?_)
 exact .d2 Y (.cellA Y Ay O (by simp [DT, AW]) Y) (.tmp Y) ⟨_, Y, ⟨_, _, Y⟩, Y⟩
theorem WQ (t : Nat) (τ : Tr) (u : B4) (iv : Value) (r : Rq) (p : HP) (hA : Di p u iv r) (N : Nat) (ho : τ.Ok N) (hN : N ≤ 1099511627776) (b : Nat) : Fn prog 154 #[AI b] [Ad b (CL t u iv r) 134] fun v L => v = AA (BG r.path) ∧ L = [Ad b (CL t u iv r) 134] := by
 refine Fn.intro func154 Y Y fun F W => ?_
 have hpl := hA.rq.path
 have hpl2 : r.path.length ≤ 1048576 := by omega
 refine .sr (.an Y (.sr (.fa Y Ar (.fa Y Bh (.u (.ld Y Ak) (.cv func87 [_] (EI r.path hpl2) ?_))))))
 refine .an Y (.ret ?_)
 exact .vv
theorem XX (t : Nat) (τ : Tr) (u : B4) (iv : Value) (r : Rq) (p : HP) (hA : Di p u iv r) (N : Nat) (ho : τ.Ok N) (hN : N ≤ 1099511627776) (b : Nat) : Fn prog 155 #[AI b] [Ad b (CL t u iv r) 134] fun v L => v = AA (Ah (r.path = [47]) 1) ∧ L = [Ad b (CL t u iv r) 134] := by
 refine Fn.intro func155 Y Y fun F W => ?_
 refine .sr (.an Y (.sr (.fa Y Ar (.fa Y Bh (.u (.ld Y Ak) (.u (.streq Y Y) (.cv func90 [_, _] (Ax _ _) ?_)))))))
 refine .an Y (.ret ?_)
 exact .dn Y Y ⟨by congr 1; unfold Ah; first | (simp_all; done) | (simp_all; omega) | (split <;> simp_all; done) | (split <;> simp_all <;> omega), rfl⟩
theorem XM (b : Nat) (c : Prop) [Decidable c] : Fn prog 156 #[AI b] [Ad b [.bool (decide c)] 4] fun v L => v = AA (Ah (¬ c) 60) ∧ L = [Ad b [.bool (decide c)] 4] := by
 refine Fn.intro func156 Y Y fun F W => ?_
 refine .sr (.an Y (.sr (.u (.ld Y X4) (.u (.not Y) (.cv func90 [_, _] (Ax _ _) ?_)))))
 refine .an Y (.ret ?_)
 exact .dn Y Y ⟨by congr 1; unfold Ah; first | (simp_all; done) | (simp_all; omega) | (split <;> simp_all; done) | (split <;> simp_all <;> omega), rfl⟩
theorem WA (t : Nat) (τ : Tr) (u : B4) (iv : Value) (r : Rq) (p : HP) (hA : Di p u iv r) (N : Nat) (ho : τ.Ok N) (hN : N ≤ 1099511627776) (b : Nat) (c : Nat) (q : Bs) : Fn prog 157 #[AI b, AI c] [Ad b (CL t u iv r) 134, Ad c [AE q] 9, AZ t τ, p] fun v L => v = AA (Ah (¬ He τ u.ids q 8) 65) ∧ L = [Ad b (CL t u iv r) 134, Ad c [AE q] 9, AZ t τ, p] := by
 refine Fn.intro func157 Y Y fun F W => ?_
 refine .sr (.an Y (.sr (.q (.la (CL t u iv r) Y E5) Y (.u (.ld Y Ak) (.cv func92 [_, _, _] (IY t τ u iv r p hA N ho hN q 8) ?_)))))
 refine .u (.not Y) (.cv func90 [_, _] (Ax _ _) ?_)
 refine .an Y (.ret ?_)
 exact .dn Y Y ⟨by congr 1; unfold Ah; first | (simp_all; done) | (simp_all; omega) | (split <;> simp_all; done) | (split <;> simp_all <;> omega), rfl⟩
theorem WN (t : Nat) (τ : Tr) (u : B4) (iv : Value) (r : Rq) (p : HP) (hA : Di p u iv r) (N : Nat) (ho : τ.Ok N) (hN : N ≤ 1099511627776) (b : Nat) (c : Nat) (s : LF) : Fn prog 158 #[AI b, AI c] [Ad b (CL t u iv r) 134, Ad c (B6 s) 37] fun v L => v = AA (Ah (r.ver ≠ -1 ∧ r.ver ≠ s.ver) 66) ∧ L = [Ad b (CL t u iv r) 134, Ad c (B6 s) 37] := by
 refine Fn.intro func158 Y Y fun F W => ?_
 refine .sr (.an Y (.sr (.fa Y Ar (.fa Y Ly (.u (.ld Y AR) (.ui Y Y Y (.m Y (.ndec (t := 7) Y (fun h1_7 => ?_) (fun h1_7 => ?_)))))))))
 ·refine .kNT (t := 6) Y h1_7 (.gr (.fa Y Ar (.gr (.fa Y Ly (.gr (.u (.ld Y AR) (.gr (.fa Y Lq (.gr (.u (.ld Y AR) (.gr (.ui Y Y Y (.pT Y Y (.cv func90 [_, _] (Ax _ _) ?_))))))))))))))
  refine .an Y (.ret ?_)
  exact .dn Y Y ⟨by congr 1; unfold Ah; first | (simp_all; done) | (simp_all; omega) | (split <;> simp_all; done) | (split <;> simp_all <;> omega), rfl⟩
 refine .kNF (t := 6) Y h1_7 (.gk (.gk (.gk (.gk (.gk (.gk (.pF Y Y (.cv func90 [_, _] (Ax _ _) ?_))))))))
 refine .an Y (.ret ?_)
 exact .dn Y Y ⟨by congr 1; unfold Ah; first | (simp_all; done) | (simp_all; omega) | (split <;> simp_all; done) | (split <;> simp_all <;> omega), rfl⟩
theorem YL (c : Nat) (s : LF) : Fn prog 159 #[AI c] [Ad c (B6 s) 37] fun v L => v = AA (Ah (s.kids > 0) 62) ∧ L = [Ad c (B6 s) 37] := by
 refine Fn.intro func159 Y Y fun F W => ?_
 refine .sr (.an Y (.sr (.fa Y On (.u (.ld Y AR) (.ui Y Y Y (.cv func90 [_, _] (Ax _ _) ?_))))))
 refine .an Y (.ret ?_)
 exact .dn Y Y ⟨by congr 1; unfold Ah; first | (simp_all; done) | (simp_all; omega) | (split <;> simp_all; done) | (split <;> simp_all <;> omega), rfl⟩
theorem ZH (t : Nat) (τ : Tr) (u : B4) (iv : Value) (r : Rq) (p : HP) (hA : Di p u iv r) (N : Nat) (ho : τ.Ok N) (hN : N ≤ 1099511627776) (b1 bu bs bi : Nat) (va : Value) (p0 : HP) (hr : ∀ h : Hp, p0 h → Cx 1 h va 6 [.func (.func 154) #[] #[AI b1], .func (.func 155) #[] #[AI b1], .func (.func 156) #[] #[AI bi], .func (.func 157) #[] #[AI b1, AI bu], .func (.func 158) #[] #[AI b1, AI bs], .func (.func 159) #[] #[AI bs]]) : Fn prog 85 #[va] [p0, Ad b1 (CL t u iv r) 134, Ad bu [AE (AL r.path)] 9, Ad bs (B6 (AS τ r.path)) 37, Ad bi [.bool (decide (AQ τ r.path))] 4, AZ t τ, p] fun v L => v = AA (B1 (Gb τ u r)) ∧ L = [p0, Ad b1 (CL t u iv r) 134, Ad bu [AE (AL r.path)] 9, Ad bs (B6 (AS τ r.path)) 37, Ad bi [.bool (decide (AQ τ r.path))] 4, AZ t τ, p] := by
 refine Fn.unpack (GU [.func (.func 154) #[] #[AI b1], .func (.func 155) #[] #[AI b1], .func (.func 156) #[] #[AI bi], .func (.func 157) #[] #[AI b1, AI bu], .func (.func 158) #[] #[AI b1, AI bs], .func (.func 159) #[] #[AI bs]] (Gb τ u r) va p0 _ rfl (by show 6 ≤ _; decide) hr ?_)
 intro i hi hz
 have hi2 : i < 6 := hi
 have hc : i = 0 ∨ i = 1 ∨ i = 2 ∨ i = 3 ∨ i = 4 ∨ i = 5 := by omega
 rcases hc with rfl | rfl | rfl | rfl | rfl | rfl
 ·exact CA.share (us := []) (vs := []) (ws := [AI b1]) func154 rfl rfl O (WQ t τ u iv r p hA N ho hN b1)
 ·exact CA.share (us := []) (vs := []) (ws := [AI b1]) func155 rfl rfl O (XX t τ u iv r p hA N ho hN b1)
 ·exact CA.share (us := []) (vs := []) (ws := [AI bi]) func156 rfl rfl O (XM bi _)
 ·exact CA.share (us := []) (vs := []) (ws := [AI b1, AI bu]) func157 rfl rfl O (WA t τ u iv r p hA N ho hN b1 bu _)
 ·exact CA.share (us := []) (vs := []) (ws := [AI b1, AI bs]) func158 rfl rfl O (WN t τ u iv r p hA N ho hN b1 bs _)
 ·exact CA.share (us := []) (vs := []) (ws := [AI bs]) func159 rfl rfl O (YL bs _)
theorem Px (t : Nat) (τ : Tr) (u : B4) (iv : Value) (r : Rq) (p : HP) (hA : Di p u iv r) (N : Nat) (ho : τ.Ok N) (hN : N ≤ 1099511627776) : Fn prog 83 #[.agg (CL t u iv r).toArray] [AZ t τ, p] fun v L => v = .tuple #[.agg (A1 (EH τ r)).toArray, AA (B1 (Gb τ u r))] ∧ L = [AZ t τ, p] := by
 refine Fn.intro func83 Y Y fun F W => ?_
 have hpl := hA.rq.path
 have hpl2 : r.path.length ≤ 1048576 := by omega
 have hcl := hA.cells t
 refine .sr (.oq (.box Y) ?_)
 rintro v L' ⟨b1, rfl, rfl⟩
 refine .oq (.allocA BL) ?_
 rintro v L' ⟨bx, rfl, rfl⟩
 refine .a Y (.nil (.pc b1 (CL t u iv r) ?_))
 refine .then_n (.sr (.fa Y Ar (.fa Y Bh (.u (.ld Y Ak) (.cv func81 [_] (De r.path om) ?_)))))
 refine .oq (.alloc J6) ?_
 rintro v L' ⟨bu, rfl, rfl⟩
 refine .st Y Y Y KP ?_
 refine .nt (.sr (.fa Y D3 (.u (.ld Y C1) (.u (.ld Y Ak) (.cv func76 [_, _] (BY t τ _ N ho hN) ?_)))))
 refine .m Y (.ex Y Y (.ex Y Y (.oq (.allocA DQ) ?_)))
 rintro v L' ⟨bv, rfl, rfl⟩
 refine .sa Y Y DB (by simp [B6, AB]) ?_
 refine .a Y (.nil (.pc bv (B6 (JE τ r)) ?_))
 refine .then_n (.sr (.fa Y D3 (.u (.ld Y C1) (.fa Y Ar (.fa Y Bh (.u (.ld Y Ak) (.cv func76 [_, _] (BY t τ _ N ho hN) ?_)))))))
 refine .m Y (.ex Y Y (.ex Y Y (.oq (.allocA DQ) ?_)))
 rintro v L' ⟨bs, rfl, rfl⟩
 refine .oq (.alloc MG) ?_
 rintro v L' ⟨bi, rfl, rfl⟩
 refine .sa Y Y DB (by simp [B6, AB]) ?_
 refine .st Y Y Y My ?_
 refine .nil (.pc bs (B6 (AS τ r.path)) ?_)
 refine .then_n (.sr (.q (.func (us := []) (vs := [_]) Y Y) Y (.q (.func (us := []) (vs := [_]) Y Y) Y (.q (.func (us := []) (vs := [_]) Y Y) Y (.q (.func (us := []) (vs := [_, _]) Y Y) Y (.q (.func (us := []) (vs := [_, _]) Y Y) Y (.q (.func (us := []) (vs := [_]) Y Y) Y (.oq (.buildSlice1 (vs := [_, _, _, _, _, _]) JP Km Y Y Y Y Y dQ) ?_))))))))
 rintro v L' ⟨bf, rfl, rfl⟩
 refine .slMake (b := bf) (n := 6) (c := 6) (xs := [.func (.func 154) #[] #[AI b1], .func (.func 155) #[] #[AI b1], .func (.func 156) #[] #[AI bi], .func (.func 157) #[] #[AI b1, AI bu], .func (.func 158) #[] #[AI b1, AI bs], .func (.func 159) #[] #[AI bs]]) O dQ (by exact Nat.le_refl 6) Y (.cv func85 [_] (ZH t τ u iv r p hA N ho hN b1 bu bs bi _ _ (fun _ => Aa)) ?_)
 refine .an Y (.sr (.fa Y Ar (.fa Y Bh (.u (.ld Y Ak) (.fa Y Fi (.u (.ld Y AR) (.u (.addW Y Y) (.q (.build (us := [(0, _), (1, _), (5, _)]) FF BL Y Y (by simp [AB])) Y (.m Y (.sa Y Y BO (by (first | (simp [AB]; done) | (simp [AB, AW, Value.cells]; done))) ?_))))))))))
 refine .a Y (.nil (.pc bx ([AA 2, AE r.path, AE [], AF, AA 0, AA (C3 ((JE τ r).cver + 1)), AA 0, AF]) ?_))
 refine .then_n (.ret ?_)
 exact .d2 Y (.cellA Y Ay O (by simp [DT, AW]) Y) (.tmp Y) ⟨Y, Y⟩
def J1 (k : Int) : List Value := if k = 3 then [.func (.func 161) #[] #[], AA 2, .func (.func 160) #[] #[], .func (.func 162) #[] #[]] else if k = 4 then [.func (.func 163) #[] #[], AA 16, .func (.func 164) #[] #[], .func (.func 165) #[] #[]] else if k = 5 then [.func (.func 166) #[] #[], AA 1, .func (.func 160) #[] #[], .func (.func 167) #[] #[]] else [.nilFunc, AA 0, .nilFunc, .nilFunc]
theorem RY (k : Int) : Fn prog 84 #[AA k] [] fun v L => v = .tuple #[.agg (J1 k).toArray, .bool (decide (k = 3 ∨ k = 4 ∨ k = 5))] ∧ L = [] := by
 refine Fn.intro func84 Y Y fun F W => ?_
 refine .sr (.oq (.allocA KU) ?_)
 rintro v L' ⟨bx, rfl, rfl⟩
 refine .an Y (.sr (.an Y (.sm Y (.q (.build (us := [(0, _), (1, _), (2, _), (3, _)]) PW KU Y Y (by simp [AB])) Y (.q (.to (v' := .agg ([AA 3, .func (.func 161) #[] #[], AA 2, .func (.func 160) #[] #[], .func (.func 162) #[] #[]]).toArray) (.buildN (pl := [(0, 1), (1, 4)]) (us := [(0, AA 3), (1, .agg ([.func (.func 161) #[] #[], AA 2, .func (.func 160) #[] #[], .func (.func 162) #[] #[]]).toArray)]) (cells := [AA 3, .func (.func 161) #[] #[], AA 2, .func (.func 160) #[] #[], .func (.func 162) #[] #[]]) underlying228 kQ JR Y Y) Y) Y (.q (.build (us := [(0, _), (1, _), (2, _), (3, _)]) PW KU Y Y (by simp [AB])) Y (.q (.to (v' := .agg ([AA 4, .func (.func 163) #[] #[], AA 16, .func (.func 164) #[] #[], .func (.func 165) #[] #[]]).toArray) (.buildN (pl := [(0, 1), (1, 4)]) (us := [(0, AA 4), (1, .agg ([.func (.func 163) #[] #[], AA 16, .func (.func 164) #[] #[], .func (.func 165) #[] #[]]).toArray)]) (cells := [AA 4, .func (.func 163) #[] #[], AA 16, .func (.func 164) #[] #[], .func (.func 165) #[] #[]]) underlying228 kQ JR Y Y) Y) Y ?_)))))))
 refine .m Y (.q (.build (us := [(0, _), (1, _), (2, _), (3, _)]) PW KU Y Y (by simp [AB])) Y (.q (.to (v' := .agg ([AA 5, .func (.func 166) #[] #[], AA 1, .func (.func 160) #[] #[], .func (.func 167) #[] #[]]).toArray) (.buildN (pl := [(0, 1), (1, 4)]) (us := [(0, AA 5), (1, .agg ([.func (.func 166) #[] #[], AA 1, .func (.func 160) #[] #[], .func (.func 167) #[] #[]]).toArray)]) (cells := [AA 5, .func (.func 166) #[] #[], AA 1, .func (.func 160) #[] #[], .func (.func 167) #[] #[]]) underlying228 kQ JR Y Y) Y) Y (.oq (.buildSlice (vs := [_, _, _]) YH JR Y Y Y Y cQ dQ) ?_)))
 rintro v L' ⟨bk, rfl, rfl⟩
 refine .an Y (.seq (.sr (.slMakeN 5 3 (b := bk) (xs := [AA 3] ++ [.func (.func 161) #[] #[], AA 2, .func (.func 160) #[] #[], .func (.func 162) #[] #[]] ++ [AA 4] ++ [.func (.func 163) #[] #[], AA 16, .func (.func 164) #[] #[], .func (.func 165) #[] #[]] ++ [AA 5] ++ [.func (.func 166) #[] #[], AA 1, .func (.func 160) #[] #[], .func (.func 167) #[] #[]]) O Y Y (.m Y (.q (.slen Y underlying229 Y) Y (.m Y (.nt (.block (.loopK (ι := Nat) (fun q E => (19, AA q) :: E) (fun q => []) (fun q => q ≤ 3 ∧ (0 < q → k ≠ 3) ∧ (1 < q → k ≠ 4) ∧ (2 < q → k ≠ 5)) (fun q => 3 - q) (0) (ts := [0, 2, 17, 18]) O (⟨by omega, by omega, by omega, by omega⟩) O O ?_)))))))))
 rintro i ⟨hi, hk3, hk4, hk5⟩
 refine .sr (.ui Y Y Y (.nt (.seq (.condD Y (fun h20 => ?_) (fun h20 => ?_)))))
 ·refine .sk (.seq (.block (.sr (.q (.indexAddr Y Y YH om) Y ?_))))
  rcases (show i = 0 ∨ i = 1 ∨ i = 2 by omega) with rfl | rfl | rfl
  ·refine .q (.loadRdA (sz := 5) (j := 0 * 5) (k := 5) (p := Af 228 5 (.slice (some ⟨bk, 0, none⟩) 3 3) 3 _) (vs := [AA 3, .func (.func 161) #[] #[], AA 2, .func (.func 160) #[] #[], .func (.func 162) #[] #[]]) Y Si O (fun _ => Aa) dQ om om Y) Y (.oq (.allocA JR) ?_)
   rintro v L' ⟨b5_2, rfl, rfl⟩
   refine .sa Y Y TI (by (first | (simp [AB]; done) | (simp [AB, AW, Value.cells]; done))) ?_
   refine .nil (.pc b5_2 ([AA 3, .func (.func 161) #[] #[], AA 2, .func (.func 160) #[] #[], .func (.func 162) #[] #[]]) ?_)
   refine .then_n (.sr (.fa Y NS (.u (.ld Y AR) (.m Y (.ui Y Y Y (.nt (.condD Y (fun h26 => ?_) (fun h26 => ?_))))))))
   ·refine .sr (.fa Y NA (.q (.loadA Y JQ O (by simp)) Y (.sa Y Y MO (by (first | (simp [AB]; done) | (simp [AB, AW, Value.cells]; done))) ?_)))
    refine .an Y (.ret (.blk_r (.then_r (.then_r (.blk_r (.then_r ?_))))))
    exact .d2 Y (.cellA Y JQ O (by simp [DT, AW]) Y) (.tmp Y) ⟨by subst h26; rfl, rfl⟩
   refine .skip (.blk_n (.then_n (.region (.q (.add Y Y om) Y (.m Y (.nt ?_))))))
   exact .rk (1) (⟨by omega, by omega, by omega, by omega⟩) om O
  ·refine .q (.loadRdA (sz := 5) (j := 1 * 5) (k := 5) (p := Af 228 5 (.slice (some ⟨bk, 0, none⟩) 3 3) 3 _) (vs := [AA 4, .func (.func 163) #[] #[], AA 16, .func (.func 164) #[] #[], .func (.func 165) #[] #[]]) Y Si O (fun _ => Aa) dQ om om Y) Y (.oq (.allocA JR) ?_)
   rintro v L' ⟨b5_2, rfl, rfl⟩
   refine .sa Y Y TI (by (first | (simp [AB]; done) | (simp [AB, AW, Value.cells]; done))) ?_
   refine .nil (.pc b5_2 ([AA 4, .func (.func 163) #[] #[], AA 16, .func (.func 164) #[] #[], .func (.func 165) #[] #[]]) ?_)
   refine .then_n (.sr (.fa Y NS (.u (.ld Y AR) (.m Y (.ui Y Y Y (.nt (.condD Y (fun h26 => ?_) (fun h26 => ?_))))))))
   ·refine .sr (.fa Y NA (.q (.loadA Y JQ O (by simp)) Y (.sa Y Y MO (by (first | (simp [AB]; done) | (simp [AB, AW, Value.cells]; done))) ?_)))
    refine .an Y (.ret (.blk_r (.then_r (.then_r (.blk_r (.then_r ?_))))))
    exact .d2 Y (.cellA Y JQ O (by simp [DT, AW]) Y) (.tmp Y) ⟨by subst h26; rfl, rfl⟩
   refine .skip (.blk_n (.then_n (.region (.q (.add Y Y om) Y (.m Y (.nt ?_))))))
   exact .rk (2) (⟨by omega, by omega, by omega, by omega⟩) om O
  refine .q (.loadRdA (sz := 5) (j := 2 * 5) (k := 5) (p := Af 228 5 (.slice (some ⟨bk, 0, none⟩) 3 3) 3 _) (vs := [AA 5, .func (.func 166) #[] #[], AA 1, .func (.func 160) #[] #[], .func (.func 167) #[] #[]]) Y Si O (fun _ => Aa) dQ om om Y) Y (.oq (.allocA JR) ?_)
  rintro v L' ⟨b5_2, rfl, rfl⟩
  refine .sa Y Y TI (by (first | (simp [AB]; done) | (simp [AB, AW, Value.cells]; done))) ?_
  refine .nil (.pc b5_2 ([AA 5, .func (.func 166) #[] #[], AA 1, .func (.func 160) #[] #[], .func (.func 167) #[] #[]]) ?_)
  refine .then_n (.sr (.fa Y NS (.u (.ld Y AR) (.m Y (.ui Y Y Y (.nt (.condD Y (fun h26 => ?_) (fun h26 => ?_))))))))
  ·refine .sr (.fa Y NA (.q (.loadA Y JQ O (by simp)) Y (.sa Y Y MO (by (first | (simp [AB]; done) | (simp [AB, AW, Value.cells]; done))) ?_)))
   refine .an Y (.ret (.blk_r (.then_r (.then_r (.blk_r (.then_r ?_))))))
   exact .d2 Y (.cellA Y JQ O (by simp [DT, AW]) Y) (.tmp Y) ⟨by subst h26; rfl, rfl⟩
  refine .skip (.blk_n (.then_n (.region (.q (.add Y Y om) Y (.m Y (.nt ?_))))))
  exact .rk (3) (⟨by omega, by omega, by omega, by omega⟩) om O
 refine .xe (.sr (.q (.build (us := []) PW KU Y Y (by simp [AB])) Y (.sa Y Y MO (by (first | (simp [AB]; done) | (simp [AB, AW, Value.cells]; done))) ?_)))
 refine .an Y (.ret ?_)
 exact .d2 Y (.cellA Y JQ O (by simp [DT, AW]) Y) (.tmp Y) ⟨by unfold J1; rw [if_neg (hk3 om), if_neg (hk4 om), if_neg (hk5 om), decide_eq_false (by rintro (g | g | g); exact hk3 om g; exact hk4 om g; exact hk5 om g)]; rfl, rfl⟩
theorem ACO : BA prog 167 = some none := by kernel_rfl
theorem We (t : Nat) (u : B4) (iv : Value) (r : Rq) (p : HP) (hA : Di p u iv r) : Fn prog 161 #[.agg (CL t u iv r).toArray] [p] fun v L => v = AA (Ah (r.data.length > 100) 1) ∧ L = [p] := by
 refine Fn.intro func161 Y Y fun F W => ?_
 have hcl := hA.cells t
 refine .sr (.oq (.box Y) ?_)
 rintro v L' ⟨b1, rfl, rfl⟩
 refine .a Y (.nil (.pc b1 (CL t u iv r) ?_))
 refine .then_n (.sr (.fa Y Ar (.fa Y II (.u (.ld Y Ak) (.q (.strlen Y underlying9 Y) Y (.ui Y Y Y (.cv func90 [_, _] (Ax _ _) ?_)))))))
 refine .an Y (.ret ?_)
 exact .dn Y Y ⟨by congr 1; unfold Ah; first | (simp_all; done) | (simp_all; omega) | (split <;> simp_all; done) | (split <;> simp_all <;> omega), rfl⟩
theorem YF (t : Nat) (u : B4) (iv : Value) (r : Rq) (p : HP) (hA : Di p u iv r) : Fn prog 163 #[.agg (CL t u iv r).toArray] [p] fun v L => v = AA (Ah (¬ FX r.acl = true) 50) ∧ L = [p] := by
 refine Fn.intro func163 Y Y fun F W => ?_
 have hcl := hA.cells t
 refine .sr (.oq (.box Y) ?_)
 rintro v L' ⟨b1, rfl, rfl⟩
 refine .a Y (.nil (.pc b1 (CL t u iv r) ?_))
 refine .then_n (.sr (.fa Y Ar (.fa Y KE (.u (.ld Y Ft) (.oq (.call func146 Y Y (vs := [_]) Y (LA _ r.acl p hA.rq.acl (by have := hA.rq.many; omega) (fun a ha => (hA.rq.ids a ha).2))) ?_)))))
 rintro v L' ⟨rfl, rfl⟩
 refine .u (.not Y) (.cv func90 [_, _] (Ax _ _) ?_)
 refine .an Y (.ret ?_)
 exact .dn Y Y ⟨by congr 1; unfold Ah; first | (simp_all; done) | (simp_all; omega) | (split <;> simp_all; done) | (split <;> simp_all <;> omega), rfl⟩
theorem WY (t : Nat) (u : B4) (iv : Value) (r : Rq) (p : HP) (hA : Di p u iv r) : Fn prog 166 #[.agg (CL t u iv r).toArray] [p] fun v L => v = AA 0 ∧ L = [p] := by
 refine Fn.intro func166 Y Y fun F W => ?_
 have hcl := hA.cells t
 refine .sr (.oq (.box Y) ?_)
 rintro v L' ⟨b1, rfl, rfl⟩
 refine .a Y (.nil (.pc b1 (CL t u iv r) ?_))
 refine .then_n (.sr (.an Y (.ret ?_)))
 exact .vv
theorem Qc (s : LF) : Fn prog 160 #[.agg (B6 s).toArray] [] fun v L => v = AA s.ver ∧ L = [] := by
 refine Fn.intro func160 Y Y fun F W => ?_
 refine .sr (.oq (.box Y) ?_)
 rintro v L' ⟨b1, rfl, rfl⟩
 refine .a Y (.nil (.pc b1 (B6 s) ?_))
 refine .then_n (.sr (.fa Y Lq (.u (.ld Y AR) (.an Y (.ret ?_)))))
 exact .vv
theorem XE (s : LF) : Fn prog 164 #[.agg (B6 s).toArray] [] fun v L => v = AA s.av ∧ L = [] := by
 refine Fn.intro func164 Y Y fun F W => ?_
 refine .sr (.oq (.box Y) ?_)
 rintro v L' ⟨b1, rfl, rfl⟩
 refine .a Y (.nil (.pc b1 (B6 s) ?_))
 refine .then_n (.sr (.fa Y PK (.u (.ld Y AR) (.an Y (.ret ?_)))))
 exact .vv
def Co (r : Rq) (k n : Int) : Pt :=
 if k = 3 then ⟨3, r.path, r.data, AF, [], 0, C3 (n + 1), 0, AF⟩ else if k = 4 then ⟨4, r.path, [], AF, r.acl, 0, C3 (n + 1), 0, AF⟩ else FN
theorem AAm (τ : Tr) (r : Rq) : FJ τ r = Co r r.kind (DA r.kind (AS τ r.path)) := by
 unfold FJ Co
 split
 ·rename_i h; rw [h]
 ·split
  ·rename_i h; rw [h]
  ·rfl
theorem Wh (t : Nat) (u : B4) (iv : Value) (r : Rq) (p : HP) (hA : Di p u iv r) (n : Int) : Fn prog 162 #[.agg (CL t u iv r).toArray, AA n] [p] fun v L => ∃ w : Value, v = .agg (A1 (CF (Co r 3 n) w)).toArray ∧ (∃ a c, w = .slice a (Co r 3 n).acl.length c) ∧ L = [p, Af 75 2 w (Co r 3 n).acl.length ((Co r 3 n).acl.flatMap CO)] := by
 refine Fn.intro func162 Y Y fun F W => ?_
 have hcl := hA.cells t
 refine .sr (.oq (.box Y) ?_)
 rintro v L' ⟨b1, rfl, rfl⟩
 refine .oq (.allocA BL) ?_
 rintro v L' ⟨b4, rfl, rfl⟩
 refine .nil (.pc b1 (CL t u iv r) ?_)
 refine .then_n (.sr (.fa Y Ar (.fa Y Bh (.u (.ld Y Ak) (.fa Y Ar (.fa Y II (.u (.ld Y Ak) (.m Y (.u (.addW Y Y) (.q (.build (us := [(0, _), (1, _), (2, _), (5, _)]) FF BL Y Y (by simp [AB])) Y (.sa Y Y BO (by (first | (simp [AB]; done) | (simp [AB, AW, Value.cells]; done))) ?_)))))))))))
 refine .nil (.pc b4 ([AA 3, AE r.path, AE r.data, AF, AA 0, AA (C3 (n + 1)), AA 0, AF]) ?_)
 refine .add (AO 75 2) (.then_n (.ret ?_))
 exact .d1 Y (.cellA Y Ay O (by simp [DT, AW]) Y) ⟨AF, Y, ⟨none, 0, Y⟩, Y⟩
theorem YQ (t : Nat) (u : B4) (iv : Value) (r : Rq) (p : HP) (hA : Di p u iv r) (n : Int) : Fn prog 165 #[.agg (CL t u iv r).toArray, AA n] [p] fun v L => ∃ w : Value, v = .agg (A1 (CF (Co r 4 n) w)).toArray ∧ (∃ a c, w = .slice a (Co r 4 n).acl.length c) ∧ L = [p, Af 75 2 w (Co r 4 n).acl.length ((Co r 4 n).acl.flatMap CO)] := by
 refine Fn.intro func165 Y Y fun F W => ?_
 have hcl := hA.cells t
 refine .sr (.oq (.box Y) ?_)
 rintro v L' ⟨b1, rfl, rfl⟩
 refine .oq (.allocA BL) ?_
 rintro v L' ⟨b4, rfl, rfl⟩
 refine .nil (.pc b1 (CL t u iv r) ?_)
 refine .then_n (.seq (.draw [6, 10] [[0, 1, 2, 3, 4, 5, 7, 8, 6], [9, 10]] mixed kQ (.go [Ad b1 _ _] O (.k Y (.fieldAddr Y Ar) (.k Y (.fieldAddr Y Bh) (.k Y (.ld Y Ak) (.kv Y (.fieldAddr Y Ar) (.kv Y (.fieldAddr Y KE) (.kv Y (.ld Y Ft) (.k Y (.move Y) (.k Y (.addW Y Y) (.hh Y (.c func134 [_] (CK r.aclV r.acl p hA.rq.acl hA.rq.many)) ?_))))))))))))
 rintro v L' ⟨⟨a7, c7, rfl⟩, rfl⟩
 refine D.ph (.g0 (.kv Y (.build (us := [(0, _), (1, _), (3, _), (5, _)]) FF BL Y Y (by simp [AB])) (.sa Y Y Y BO (by (first | (simp [AB]; done) | (simp [AB, AW, Value.cells]; done))) ?_)))
 refine D.ph (.fin (.pc b4 ([AA 4, AE r.path, AE [], .slice a7 r.acl.length c7, AA 0, AA (C3 (n + 1)), AA 0, AF]) ?_))
 refine .then_n (.ret ?_)
 exact .d1 Y (.cellA Y Ay O (by simp [DT, AW]) Y) ⟨.slice a7 r.acl.length c7, Y, ⟨a7, c7, Y⟩, Y⟩
theorem X7 (t : Nat) (u : B4) (iv : Value) (r : Rq) (p : HP) (hA : Di p u iv r) (n : Int) : Fn prog 167 #[.agg (CL t u iv r).toArray, AA n] [p] fun v L => ∃ w : Value, v = .agg (A1 (CF (Co r 5 n) w)).toArray ∧ (∃ a c, w = .slice a (Co r 5 n).acl.length c) ∧ L = [p, Af 75 2 w (Co r 5 n).acl.length ((Co r 5 n).acl.flatMap CO)] := by
 refine Fn.intro func167 Y Y fun F W => ?_
 have hcl := hA.cells t
 refine .sr (.oq (.box Y) ?_)
 rintro v L' ⟨b1, rfl, rfl⟩
 refine .oq (.allocA BL) ?_
 rintro v L' ⟨b4, rfl, rfl⟩
 refine .nil (.pc b1 (CL t u iv r) ?_)
 refine .then_n (.sr (.q (.build (us := [(0, _)]) FF BL Y Y (by simp [AB])) Y (.sa Y Y BO (by (first | (simp [AB]; done) | (simp [AB, AW, Value.cells]; done))) ?_)))
 refine .nil (.pc b4 ([AA 0, AE [], AE [], AF, AA 0, AA 0, AA 0, AF]) ?_)
 refine .add (AO 75 2) (.then_n (.ret ?_))
 exact .d1 Y (.cellA Y Ay O (by simp [DT, AW]) Y) ⟨AF, Y, ⟨none, 0, Y⟩, Y⟩
theorem Y7 (t : Nat) (u : B4) (iv : Value) (r : Rq) (p : HP) (hA : Di p u iv r) (hk : r.kind = 3 ∨ r.kind = 4 ∨ r.kind = 5) : ∃ f1 f2 f3 : Value, J1 r.kind = [f1, AA (OV r.kind), f2, f3] ∧ AB f1 = true ∧ AB f2 = true ∧ AB f3 = true ∧
  CA prog f1 [.agg (CL t u iv r).toArray] [p] (fun v L => v = AA (Ed r) ∧ L = [p]) ∧ (∀ s : LF, CA prog f2 [.agg (B6 s).toArray] [] (fun v L => v = AA (DA r.kind s) ∧ L = [])) ∧
  ∀ n : Int, CA prog f3 [.agg (CL t u iv r).toArray, AA n] [p] (fun v L => ∃ w : Value, v = .agg (A1 (CF (Co r r.kind n) w)).toArray ∧ (∃ a c, w = .slice a (Co r r.kind n).acl.length c) ∧ L = [p, Af 75 2 w (Co r r.kind n).acl.length ((Co r r.kind n).acl.flatMap CO)]) := by
 rcases hk with hk | hk | hk
 ·have hw : Ed r = Ah (r.data.length > 100) 1 := if_pos hk
  rw [hw, hk]
  exact ⟨_, _, _, rfl, rfl, rfl, rfl, CA.of (us := []) (vs := [.agg (CL t u iv r).toArray]) (ws := []) func161 rfl rfl (We t u iv r p hA), fun s => CA.of (us := []) (vs := [.agg (B6 s).toArray]) (ws := []) func160 rfl rfl (Qc s), fun n => CA.of (us := []) (vs := [.agg (CL t u iv r).toArray, AA n]) (ws := []) func162 rfl rfl (Wh t u iv r p hA n)⟩
 ·have hw : Ed r = Ah (¬ FX r.acl = true) 50 := by unfold Ed; rw [if_neg om, if_pos hk]
  rw [hw, hk]
  exact ⟨_, _, _, rfl, rfl, rfl, rfl, CA.of (us := []) (vs := [.agg (CL t u iv r).toArray]) (ws := []) func163 rfl rfl (YF t u iv r p hA), fun s => CA.of (us := []) (vs := [.agg (B6 s).toArray]) (ws := []) func164 rfl rfl (XE s), fun n => CA.of (us := []) (vs := [.agg (CL t u iv r).toArray, AA n]) (ws := []) func165 rfl rfl (YQ t u iv r p hA n)⟩
 ·have hw : Ed r = 0 := by unfold Ed; rw [if_neg om, if_neg om]
  rw [hw, hk]
  exact ⟨_, _, _, rfl, rfl, rfl, rfl, CA.of (us := []) (vs := [.agg (CL t u iv r).toArray]) (ws := []) func166 rfl rfl (WY t u iv r p hA), fun s => CA.of (us := []) (vs := [.agg (B6 s).toArray]) (ws := []) func160 rfl rfl (Qc s), fun n => CA.of (us := []) (vs := [.agg (CL t u iv r).toArray, AA n]) (ws := []) func167 rfl rfl (X7 t u iv r p hA n)⟩
theorem WE (t : Nat) (τ : Tr) (u : B4) (iv : Value) (r : Rq) (p : HP) (hA : Di p u iv r) (N : Nat) (ho : τ.Ok N) (hN : N ≤ 1099511627776) (b : Nat) : Fn prog 86 #[AI b] [Ad b (CL t u iv r) 134] fun v L => v = AA (BG r.path) ∧ L = [Ad b (CL t u iv r) 134] := by
 refine Fn.intro func86 Y Y fun F W => ?_
 have hpl := hA.rq.path
 have hpl2 : r.path.length ≤ 1048576 := by omega
 refine .sr (.an Y (.sr (.fa Y Ar (.fa Y Bh (.u (.ld Y Ak) (.cv func87 [_] (EI r.path hpl2) ?_))))))
 refine .an Y (.ret ?_)
 exact .vv
theorem Wk (t : Nat) (τ : Tr) (u : B4) (iv : Value) (r : Rq) (p : HP) (hA : Di p u iv r) (N : Nat) (ho : τ.Ok N) (hN : N ≤ 1099511627776) (b : Nat) (bk : Nat) (f1 f2 f3 : Value) (m : Int) (e : Int) (hf : CA prog f1 [.agg (CL t u iv r).toArray] [p] (fun v L => v = AA e ∧ L = [p])) : Fn prog 88 #[AI bk, AI b] [Ad bk [f1, AA m, f2, f3] 171, Ad b (CL t u iv r) 134, p] fun v L => v = AA (e) ∧ L = [Ad bk [f1, AA m, f2, f3] 171, Ad b (CL t u iv r) 134, p] := by
 refine Fn.intro func88 Y Y fun F W => ?_
 refine .sr (.an Y (.sr (.fa Y Yf (.q (.load Y ACO O Y) Y (.q (.la (CL t u iv r) Y E5) Y (.oq (.callD (vs := [_]) Y Y (hf)) ?_))))))
 rintro v L' ⟨rfl, rfl⟩
 refine .an Y (.ret ?_)
 exact .dn Y Y ⟨Y, Y⟩
theorem Xr (b : Nat) (c : Prop) [Decidable c] : Fn prog 89 #[AI b] [Ad b [.bool (decide c)] 4] fun v L => v = AA (Ah (¬ c) 60) ∧ L = [Ad b [.bool (decide c)] 4] := by
 refine Fn.intro func89 Y Y fun F W => ?_
 refine .sr (.an Y (.sr (.u (.ld Y X4) (.u (.not Y) (.cv func90 [_, _] (Ax _ _) ?_)))))
 refine .an Y (.ret ?_)
 exact .dn Y Y ⟨by congr 1; unfold Ah; first | (simp_all; done) | (simp_all; omega) | (split <;> simp_all; done) | (split <;> simp_all <;> omega), rfl⟩
theorem X6 (t : Nat) (τ : Tr) (u : B4) (iv : Value) (r : Rq) (p : HP) (hA : Di p u iv r) (N : Nat) (ho : τ.Ok N) (hN : N ≤ 1099511627776) (b : Nat) (bk : Nat) (f1 f2 f3 : Value) (m : Int) : Fn prog 91 #[AI b, AI bk] [Ad b (CL t u iv r) 134, Ad bk [f1, AA m, f2, f3] 171, AZ t τ, p] fun v L => v = AA (Ah (¬ He τ u.ids r.path m) 65) ∧ L = [Ad b (CL t u iv r) 134, Ad bk [f1, AA m, f2, f3] 171, AZ t τ, p] := by
 refine Fn.intro func91 Y Y fun F W => ?_
 refine .sr (.an Y (.sr (.q (.la (CL t u iv r) Y E5) Y (.fa Y Ar (.fa Y Bh (.u (.ld Y Ak) (.fa Y Wb (.u (.ld Y AR) (.cv func92 [_, _, _] (IY t τ u iv r p hA N ho hN r.path m) ?_)))))))))
 refine .u (.not Y) (.cv func90 [_, _] (Ax _ _) ?_)
 refine .an Y (.ret ?_)
 exact .dn Y Y ⟨by congr 1; unfold Ah; first | (simp_all; done) | (simp_all; omega) | (split <;> simp_all; done) | (split <;> simp_all <;> omega), rfl⟩
theorem WK (t : Nat) (τ : Tr) (u : B4) (iv : Value) (r : Rq) (p : HP) (hA : Di p u iv r) (N : Nat) (ho : τ.Ok N) (hN : N ≤ 1099511627776) (b : Nat) (bk : Nat) (f1 f2 f3 : Value) (m : Int) (c : Nat) (s : LF) (g : LF → Int) (hf : CA prog f2 [.agg (B6 s).toArray] [] (fun v L => v = AA (g s) ∧ L = [])) : Fn prog 93 #[AI b, AI bk, AI c] [Ad b (CL t u iv r) 134, Ad bk [f1, AA m, f2, f3] 171, Ad c (B6 s) 37] fun v L => v = AA (Ah (r.ver ≠ -1 ∧ r.ver ≠ g s) 66) ∧ L = [Ad b (CL t u iv r) 134, Ad bk [f1, AA m, f2, f3] 171, Ad c (B6 s) 37] := by
 refine Fn.intro func93 Y Y fun F W => ?_
 refine .sr (.an Y (.seq (.draw [] [[0, 1, 2, 3, 4, 5, 6, 7, 8, 9, 10, 11, 12, 13, 14, 15]] mixed kQ (.go [Ad b _ _, Ad bk _ _, Ad c _ _] O (.kv Y (.fieldAddr Y Ar) (.kv Y (.fieldAddr Y Ly) (.kv Y (.ld Y AR) (.kv Y (.int Y Y Y) (.mv Y Y (.ndec (t := 8) Y (fun h1_8 => ?_) (fun h1_8 => ?_)))))))))))
 ·refine D.kNT (t := 7) Y h1_8 (.gv Y (.fieldAddr Y Ar) (.gv Y (.fieldAddr Y Ly) (.gv Y (.ld Y AR) (.gv Y (.fieldAddr Y P0) (.gv Y (.load Y AAM O Y) (.gv Y (.la (B6 s) Y Eh) (.gm (t := 8) Y Y Y kQ (.callD (vs := [_]) Y Y (hf)) O ?_)))))))
  refine D.gv Y (.int Y Y Y) (.kv Y (.pickT Y Y) (.m Y kQ (.c func90 [_, _] (Ax _ _)) O ?_))
  refine D.kv Y (.assign Y) (.pf (.ret ?_))
  exact .dn Y Y ⟨by congr 1; unfold Ah; first | (simp_all; done) | (simp_all; omega) | (split <;> simp_all; done) | (split <;> simp_all <;> omega), rfl⟩
 refine D.kNF (t := 7) Y h1_8 (.gz Y (.gz Y (.gz Y (.gz Y (.gz Y (.gz Y (.gz Y (.gz Y (.kv Y (.pickF Y Y) (.m Y kQ (.c func90 [_, _] (Ax _ _)) O ?_))))))))))
 refine D.kv Y (.assign Y) (.pf (.ret ?_))
 exact .dn Y Y ⟨by congr 1; unfold Ah; first | (simp_all; done) | (simp_all; omega) | (split <;> simp_all; done) | (split <;> simp_all <;> omega), rfl⟩
theorem Zm (t : Nat) (τ : Tr) (u : B4) (iv : Value) (r : Rq) (p : HP) (hA : Di p u iv r) (N : Nat) (ho : τ.Ok N) (hN : N ≤ 1099511627776) (f1 f2 f3 : Value) (hf1 : CA prog f1 [.agg (CL t u iv r).toArray] [p] (fun v L => v = AA (Ed r) ∧ L = [p])) (hf2 : ∀ s : LF, CA prog f2 [.agg (B6 s).toArray] [] (fun v L => v = AA (DA r.kind s) ∧ L = [])) (b1 bk bs bi : Nat) (va : Value) (p0 : HP) (hr : ∀ h : Hp, p0 h → Cx 1 h va 5 [.func (.func 86) #[] #[AI b1], .func (.func 88) #[] #[AI bk, AI b1], .func (.func 89) #[] #[AI bi], .func (.func 91) #[] #[AI b1, AI bk], .func (.func 93) #[] #[AI b1, AI bk, AI bs]]) : Fn prog 85 #[va] [p0, Ad b1 (CL t u iv r) 134, Ad bk [f1, AA (OV r.kind), f2, f3] 171, Ad bs (B6 (AS τ r.path)) 37, Ad bi [.bool (decide (AQ τ r.path))] 4, AZ t τ, p] fun v L => v = AA (B1 (Je τ u r)) ∧ L = [p0, Ad b1 (CL t u iv r) 134, Ad bk [f1, AA (OV r.kind), f2, f3] 171, Ad bs (B6 (AS τ r.path)) 37, Ad bi [.bool (decide (AQ τ r.path))] 4, AZ t τ, p] := by
 refine Fn.unpack (GU [.func (.func 86) #[] #[AI b1], .func (.func 88) #[] #[AI bk, AI b1], .func (.func 89) #[] #[AI bi], .func (.func 91) #[] #[AI b1, AI bk], .func (.func 93) #[] #[AI b1, AI bk, AI bs]] (Je τ u r) va p0 _ rfl (by show 5 ≤ _; decide) hr ?_)
 intro i hi hz
 have hi2 : i < 5 := hi
 have hc : i = 0 ∨ i = 1 ∨ i = 2 ∨ i = 3 ∨ i = 4 := by omega
 rcases hc with rfl | rfl | rfl | rfl | rfl
 ·exact CA.share (us := []) (vs := []) (ws := [AI b1]) func86 rfl rfl O (WE t τ u iv r p hA N ho hN b1)
 ·exact CA.share (us := []) (vs := []) (ws := [AI bk, AI b1]) func88 rfl rfl O (Wk t τ u iv r p hA N ho hN b1 bk f1 f2 f3 _ (Ed r) hf1)
 ·exact CA.share (us := []) (vs := []) (ws := [AI bi]) func89 rfl rfl O (Xr bi _)
 ·exact CA.share (us := []) (vs := []) (ws := [AI b1, AI bk]) func91 rfl rfl O (X6 t τ u iv r p hA N ho hN b1 bk f1 f2 f3 _)
 ·exact CA.share (us := []) (vs := []) (ws := [AI b1, AI bk, AI bs]) func93 rfl rfl O (WK t τ u iv r p hA N ho hN b1 bk f1 f2 f3 _ bs _ (DA r.kind) (hf2 _))
theorem QF (k : Int) : (J1 k).all AB = true := by
 unfold J1
 split
 ·rfl
 ·split
  ·rfl
  ·split <;> rfl
theorem OY (k : Int) : (J1 k).length = 4 := by
 unfold J1
 split
 ·rfl
 ·split
  ·rfl
  ·split <;> rfl
theorem Vi (r : Rq) (k n : Int) : ∃ a m c, (Co r k n).subsV = .slice a m c := by
 unfold Co
 split
 ·exact ⟨_, _, _, rfl⟩
 ·split <;> exact ⟨_, _, _, rfl⟩
theorem Gv {τ : Tr} {u : B4} {r : Rq} (h : r.kind = 1) : AU τ u r = (Aq τ u r, B1 (Dl τ u r)) := if_pos h
theorem H9 {τ : Tr} {u : B4} {r : Rq} (h : r.kind = 2) : AU τ u r = (EH τ r, B1 (Gb τ u r)) := by unfold AU; rw [if_neg om, if_pos h]
theorem Np {x : Pt} {a : Option Addr} {n c : Nat} (h : ∃ a n c, x.subsV = .slice a n c) : (A1 (CF x (.slice a n c))).all AB = true := by
 obtain ⟨a, n, c, e⟩ := h
 simp [A1, CF, e, AB]
theorem Mk (t : Nat) (τ : Tr) (u : B4) (iv : Value) (r : Rq) (p : HP) (hA : Di p u iv r) (N : Nat) (ho : τ.Ok N) (hN : N ≤ 1099511627776) (hcv : Az (JE τ r).cver) : Fn prog 51 #[.agg (CL t u iv r).toArray] [AZ t τ, p] fun v L => ∃ w : Value, v = .tuple #[.agg (A1 (CF (AU τ u r).1 w)).toArray, AA (AU τ u r).2] ∧ (∃ a c, w = .slice a (AU τ u r).1.acl.length c) ∧ L = [AZ t τ, p, Af 75 2 w (AU τ u r).1.acl.length ((AU τ u r).1.acl.flatMap CO)] := by
 refine Fn.intro func51 Y Y fun F W => ?_
 have hpl := hA.rq.path
 have hpl2 : r.path.length ≤ 1048576 := by omega
 have hcl := hA.cells t
 refine .sr (.oq (.box Y) ?_)
 rintro v L' ⟨b1, rfl, rfl⟩
 refine .oq (.allocA BL) ?_
 rintro v L' ⟨bx, rfl, rfl⟩
 refine .a Y (.nil (.pc b1 (CL t u iv r) ?_))
 refine .then_n (.seq (.sr (.fa Y Ar (.fa Y Bm (.u (.ld Y AR) (.nt (.block (.sr (.ui Y Y Y (.an Y (.condD Y (fun h12 => ?_) (fun h12 => ?_))))))))))))
 ·refine .sr (.q (.la (CL t u iv r) Y E5) Y (.oq (.c func82 [_] (O6 t τ u iv r p hA N ho hN hcv)) ?_))
  rintro v L' ⟨w, rfl, ⟨aw, cw, rfl⟩, rfl⟩
  refine .ex Y Y (.ex Y Y (.sa Y Y BO (by simp [A1, CF, Aq, AB]) ?_))
  refine .a Y (.nil (.pc bx ([AA (Aq τ u r).kind, AE (Aq τ u r).path, AE (Aq τ u r).data, .slice aw r.acl.length cw, AA (Aq τ u r).own, AA (Aq τ u r).num, AA (Aq τ u r).err, (Aq τ u r).subsV]) ?_))
  refine .then_n (.ret (.blk_r (.then_r ?_)))
  exact .d2 Y (.cellA Y Ay O (by simp [DT, AW]) Y) (.tmp Y) ⟨.slice aw r.acl.length cw, by first | (rw [Gv h12]; done) | (rw [Gv h12]; rfl), by rw [Gv h12]; exact ⟨_, _, rfl⟩, by first | (rw [Gv h12]; done) | (rw [Gv h12]; rfl)⟩
 refine .sr (.ui Y Y Y (.an Y (.condD Y (fun h18 => ?_) (fun h18 => ?_))))
 ·refine .sr (.q (.la (CL t u iv r) Y E5) Y (.cv func83 [_] (Px t τ u iv r p hA N ho hN) ?_))
  refine .ex Y Y (.ex Y Y (.sa Y Y BO (by simp [A1, EH, AB]) ?_))
  refine .a Y (.nil (.pc bx ([AA (EH τ r).kind, AE (EH τ r).path, AE (EH τ r).data, AF, AA (EH τ r).own, AA (EH τ r).num, AA (EH τ r).err, (EH τ r).subsV]) ?_))
  refine .add (AO 75 2) (.then_n (.ret (.blk_r (.then_r ?_))))
  exact .d2 Y (.cellA Y Ay O (by simp [DT, AW]) Y) (.tmp Y) ⟨AF, by first | (rw [H9 h18]; done) | (rw [H9 h18]; rfl), by rw [H9 h18]; exact ⟨_, _, rfl⟩, by first | (rw [H9 h18]; done) | (rw [H9 h18]; rfl)⟩
 refine .skip (.blk_n (.then_n (.sr (.fa Y Ar (.fa Y Bm (.u (.ld Y AR) (.cv func84 [_] (RY r.kind) ?_)))))))
 refine .m Y (.ex Y Y (.ex Y Y (.oq (.allocA KU) ?_)))
 rintro v L' ⟨bk, rfl, rfl⟩
 refine .oq (.storeA Y Y ?c40 MO ?c43 ?c41 (Bb _ _)) ?_
 case c40 => exact fun v hv => all_eq_true.1 (QF r.kind) v hv
 case c43 => exact OY _
 case c41 => simp [OY]
 rintro v L' rfl
 refine .an Y (.seq (.sm Y (.u (.not Y) (.nt (.condN Y (fun h32 => ?_) (fun h32 => ?_))))))
 ·have hP : AU τ u r = (FN, 110) := by unfold AU; rw [if_neg h12, if_neg h18, if_neg h32]
  have hkc : J1 r.kind = [.nilFunc, AA 0, .nilFunc, .nilFunc] := by unfold J1; rw [if_neg (fun g => h32 (.inl g)), if_neg (fun g => h32 (.inr (.inl g))), if_neg (fun g => h32 (.inr (.inr g)))]
  refine .sr (.q (.build (us := []) FF BL Y Y (by simp [AB])) Y (.sa Y Y BO (by (first | (simp [AB]; done) | (simp [AB, AW, Value.cells]; done))) ?_))
  refine .a Y (.nil (.pc bx ([AA 0, AE [], AE [], AF, AA 0, AA 0, AA 0, AF]) ?_))
  refine .add (AO 75 2) (.then_n (.rt ?_))
  exact .d2 Y (.cellA Y Ay O (by simp [DT, AW]) Y) (.tmp Y) ⟨AF, by first | (rw [hP]; done) | (rw [hP]; rfl), by rw [hP]; exact ⟨_, _, rfl⟩, by first | (rw [hP]; done) | (rw [hP]; rfl)⟩
 have hP : AU τ u r = (Co r r.kind (DA r.kind (AS τ r.path)), B1 (Je τ u r)) := by unfold AU; rw [if_neg h12, if_neg h18, if_pos h32, AAm]
 obtain ⟨f1, f2, f3, hkc, hc1, hc2, hc3, hf1, hf2, hf3⟩ := Y7 t u iv r p hA h32
 refine .ptCast (b := bk) (l' := [f1, AA (OV r.kind), f2, f3]) O (by rw [hkc]; rfl) ?_
 refine .sk (.sr (.fa Y D3 (.u (.ld Y C1) (.fa Y Ar (.fa Y Bh (.u (.ld Y Ak) (.cv func76 [_, _] (BY t τ _ N ho hN) ?_)))))))
 refine .m Y (.ex Y Y (.ex Y Y (.oq (.allocA DQ) ?_)))
 rintro v L' ⟨bs, rfl, rfl⟩
 refine .oq (.alloc MG) ?_
 rintro v L' ⟨bi, rfl, rfl⟩
 refine .sa Y Y DB (by simp [B6, AB]) ?_
 refine .st Y Y Y My ?_
 refine .nil (.pc bs (B6 (AS τ r.path)) ?_)
 refine .then_n (.sr (.q (.func (us := []) (vs := [_]) Y Y) Y (.q (.func (us := []) (vs := [_, _]) Y Y) Y (.q (.func (us := []) (vs := [_]) Y Y) Y (.q (.func (us := []) (vs := [_, _]) Y Y) Y (.q (.func (us := []) (vs := [_, _, _]) Y Y) Y (.oq (.buildSlice1 (vs := [_, _, _, _, _]) JP Km Y Y Y Y Y dQ) ?_)))))))
 rintro v L' ⟨bf, rfl, rfl⟩
 refine .slMake (b := bf) (n := 5) (c := 5) (xs := [.func (.func 86) #[] #[AI b1], .func (.func 88) #[] #[AI bk, AI b1], .func (.func 89) #[] #[AI bi], .func (.func 91) #[] #[AI b1, AI bk], .func (.func 93) #[] #[AI b1, AI bk, AI bs]]) O dQ (by exact Nat.le_refl 5) Y (.cv func85 [_] (Zm t τ u iv r p hA N ho hN f1 f2 f3 hf1 hf2 b1 bk bs bi _ _ (fun _ => Aa)) ?_)
 refine .an Y (.seq (.draw [7, 9] [[0, 1, 2, 3, 4, 5, 6, 8, 7, 9], [10]] mixed kQ (.go [Ad b1 _ _, Ad bk _ _, Ad bs _ _] O (.kv Y (.fieldAddr Y YZ) (.kv Y (.load Y ABj O Y) (.kv Y (.la (CL t u iv r) Y E5) (.kv Y (.fieldAddr Y P0) (.kv Y (.load Y AAM O Y) (.kv Y (.la (B6 (AS τ r.path)) Y Eh) (.m Y kQ (.callD (vs := [_]) Y Y (hf2 _)) O ?_))))))))))
 refine D.k Y (.move Y) (.hh Y (.callD (vs := [_, _]) Y Y (hf3 _)) ?_)
 rintro v L' ⟨w, rfl, ⟨aw, cw, rfl⟩, rfl⟩
 refine D.sa Y Y Y BO (by exact fun v hv => all_eq_true.1 (Np (Vi r _ _)) v hv) ?_
 refine D.ph (.g0 (.kv Y (.assign Y) (.ph (.fin (.pc bx ([AA (Co r r.kind (DA r.kind (AS τ r.path))).kind, AE (Co r r.kind (DA r.kind (AS τ r.path))).path, AE (Co r r.kind (DA r.kind (AS τ r.path))).data, .slice aw (Co r r.kind (DA r.kind (AS τ r.path))).acl.length cw, AA (Co r r.kind (DA r.kind (AS τ r.path))).own, AA (Co r r.kind (DA r.kind (AS τ r.path))).num, AA (Co r r.kind (DA r.kind (AS τ r.path))).err, (Co r r.kind (DA r.kind (AS τ r.path))).subsV]) ?_)))))
 refine .then_n (.ret ?_)
 exact .d2 Y (.cellA Y Ay O (by simp [DT, AW]) Y) (.tmp Y) ⟨.slice aw (Co r r.kind (DA r.kind (AS τ r.path))).acl.length cw, by first | (rw [hP]; done) | (rw [hP]; rfl), by rw [hP]; exact ⟨_, _, rfl⟩, by first | (rw [hP]; done) | (rw [hP]; rfl)⟩
abbrev PN := Bs × Nd
abbrev SN := Int × (Int × Bs)
def Yt (s : LF) : List Int := [s.cz, s.mz, s.pz, s.ver, s.cver, s.av, s.own]
/-! ### Read again -/
def ABl (last p : Bs) : Prop := BG p = 0 ∧ last < p ∧ (last = [] ↔ p = [47])
def nextS (last id : Int) : Prop := last < id
instance (a p : Bs) : Decidable (ABl a p) := inferInstanceAs (Decidable (_ ∧ _ ∧ _))
instance (a p : Int) : Decidable (nextS a p) := inferInstanceAs (Decidable (_ < _))
/-! What a text is, step by step: what is read, and what is left to be read. -/
open Classical in
open Classical in
open Classical in
/-! ### What is read was laid so -/
/-! ### What was laid is read again -/
/-! ### A tree that is being laid -/
def Ld (τ : Tr) (e : En) : Tr := (AC τ e.zx e.x e.subs).1
def HS (τ : Tr) (l : List En) : Tr := l.foldl Ld τ
theorem KI (τ : Tr) (l : List En) (e : En) : HS τ (l ++ [e]) = Ld (HS τ l) e := by unfold HS; rw [foldl_append]; rfl
def ptS (kind : Int) (path data : Bs) (num : Int) : Pt := ⟨kind, path, data, .slice none 0 0, [], 0, num, 0, .slice none 0 0⟩
theorem UI (sz : Nat) (h : Hp) : Cx sz h (.slice none 0 0) 0 [] := .inl ⟨rfl, rfl, none, 0, rfl⟩
theorem AAq (p : HP) {kind : Int} {path data : Bs} {num : Int} (hp : path.length ≤ 1048576) : W8 p (ptS kind path data num) := ⟨fun h _ => UI 2 h, Nat.zero_le _, hp, rfl, rfl⟩
theorem SL (p : HP) {kind : Int} {path data : Bs} {num : Int} (hp : path.length ≤ 1048576) : TxA p (ptS kind path data num) [] := ⟨AAq p hp, fun h _ => UI 8 h, Nat.zero_le _, fun y hy => by cases hy⟩
/-! ### Raw acts -/
/-! ### Parts touch what is theirs -/
theorem Fp (τ : Tr) (x : Pt) (zx : Int) : (AJ τ x zx).1.sess = τ.sess := by
 unfold AJ Ab As
 repeat' split
 all_goals rfl
/-! ### The chapter's examples -/
theorem Kn {n : Int} (h : Az n) : (EV n).length ≤ 10 := EQ (TW h)
theorem NO {α : Type} {f : α → Bs} {c : Nat} : ∀ {l : List α}, (∀ x ∈ l, (f x).length ≤ c) → (l.flatMap f).length ≤ l.length * c
 | [], _ => by simp
 | y :: l, h => by
  have h1 := h y (mem_cons_self ..)
  have h2 := NO (l := l) (f := f) (fun x hx => h x (mem_cons_of_mem _ hx))
  rw [flatMap_cons, length_append, length_cons, Nat.add_mul]; omega
structure Ge (l : List Ac) : Prop where
 few : l.length ≤ 1048576
 long : (Fh l).length ≤ 33000000
 each : ∀ a ∈ l, AcI a ∧ a.2.length ≤ 1048576
structure PnW (y : PN) : Prop where
 p : y.1.length ≤ 60
 d : y.2.data.length ≤ 1048576
 acl : Ge y.2.acl
 st : ∀ n ∈ Yt y.2.st, Az n
 bare : y.2.st.len = 0 ∧ y.2.st.kids = 0
structure SnW (x : SN) : Prop where
 i : Az x.1
 t : Az x.2.1
 s : x.2.2.length ≤ 1048576
structure LR (τ : Tr) : Prop where
 nd : ∀ y ∈ τ.nodes, PnW y
 ss : ∀ x ∈ τ.sess, SnW x
 zx : Az τ.zx
theorem Uc {s : Bs} (h : s.length ≤ 1048576) : (FK s).length ≤ 1048586 := by
 have h1 := EQ (u := s.length) (by have : FS = 18446744073709551616 := rfl; omega)
 unfold FK Ct
 rw [length_append]; omega
/-! ### B4 keeps it -/
structure PtN (x : Pt) : Prop where
 own : Az x.own
 num : Az x.num
 data : x.data.length ≤ 1048576
 acl : Ge x.acl
structure EnN (e : En) : Prop where
 zx : Az e.zx
 x : PtN e.x
 each : ∀ y ∈ e.subs, PtN y
theorem BR {s : LF} {n : Int} : n ∈ Yt s ↔ n = s.cz ∨ n = s.mz ∨ n = s.pz ∨ n = s.ver ∨ n = s.cver ∨ n = s.av ∨ n = s.own := by
 simp [Yt]
theorem PnW.kid {p : Bs} {n : Nd} (h : PnW (p, n)) {num zx : Int} (h1 : Az num) (h2 : Az zx) : PnW (p, kidN num zx n) := by
 refine ⟨h.p, h.d, h.acl, fun k hk => ?_, h.bare⟩
 have hs := h.st
 rw [BR] at hk
 rcases hk with rfl | rfl | rfl | rfl | rfl | rfl | rfl
 ·exact hs _ (BR.2 (.inl rfl))
 ·exact hs _ (BR.2 (.inr (.inl rfl)))
 ·exact h2
 ·exact hs _ (BR.2 (.inr (.inr (.inr (.inl rfl)))))
 ·exact h1
 ·exact hs _ (BR.2 (.inr (.inr (.inr (.inr (.inr (.inl rfl)))))))
 ·exact hs _ (BR.2 (.inr (.inr (.inr (.inr (.inr (.inr rfl)))))))
theorem PnW.set {p : Bs} {n : Nd} (h : PnW (p, n)) {d : Bs} {num zx : Int} (hd : d.length ≤ 1048576) (h1 : Az num) (h2 : Az zx) : PnW (p, F0 d num zx n) := by
 refine ⟨h.p, hd, h.acl, fun k hk => ?_, h.bare⟩
 have hs := h.st
 rw [BR] at hk
 rcases hk with rfl | rfl | rfl | rfl | rfl | rfl | rfl
 ·exact hs _ (BR.2 (.inl rfl))
 ·exact h2
 ·exact hs _ (BR.2 (.inr (.inr (.inl rfl))))
 ·exact h1
 ·exact hs _ (BR.2 (.inr (.inr (.inr (.inr (.inl rfl))))))
 ·exact hs _ (BR.2 (.inr (.inr (.inr (.inr (.inr (.inl rfl)))))))
 ·exact hs _ (BR.2 (.inr (.inr (.inr (.inr (.inr (.inr rfl)))))))
theorem PnW.acl' {p : Bs} {n : Nd} (h : PnW (p, n)) {l : List Ac} {num : Int} (hl : Ge l) (h1 : Az num) : PnW (p, FT l num n) := by
 refine ⟨h.p, h.d, hl, fun k hk => ?_, h.bare⟩
 have hs := h.st
 rw [BR] at hk
 rcases hk with rfl | rfl | rfl | rfl | rfl | rfl | rfl
 ·exact hs _ (BR.2 (.inl rfl))
 ·exact hs _ (BR.2 (.inr (.inl rfl)))
 ·exact hs _ (BR.2 (.inr (.inr (.inl rfl))))
 ·exact hs _ (BR.2 (.inr (.inr (.inr (.inl rfl)))))
 ·exact hs _ (BR.2 (.inr (.inr (.inr (.inr (.inl rfl))))))
 ·exact h1
 ·exact hs _ (BR.2 (.inr (.inr (.inr (.inr (.inr (.inr rfl)))))))
theorem Rv : Az 0 := by decide
theorem PnW.new {x : Pt} (h : PtN x) (hp : Cn x.path) {zx : Int} (hz : Az zx) : PnW (x.path, DU x zx) := by
 refine ⟨Ee (.inr hp), h.data, h.acl, fun k hk => ?_, ⟨rfl, rfl⟩⟩
 rw [BR] at hk
 rcases hk with rfl | rfl | rfl | rfl | rfl | rfl | rfl
 ·exact hz
 ·exact hz
 ·exact hz
 ·exact Rv
 ·exact Rv
 ·exact Rv
 ·exact h.own
theorem Pi {l : List PN} {p : Bs} {f : Nd → Nd} (h : ∀ y ∈ l, PnW y) (hf : ∀ n, PnW (p, n) → PnW (p, f n)) : ∀ y ∈ amod l p f, PnW y := by
 intro y hy
 obtain ⟨x, hx, e1, e2 | ⟨e2, e3⟩⟩ := KD hy
 ·have : y = x := Prod.ext e1.symm e2
  rw [this]; exact h x hx
 ·have e : y = (p, f x.2) := Prod.ext (e1.symm.trans e2) e3
  rw [e]
  refine hf _ ?_
  have := h x hx
  rw [← e2]; exact this
theorem LR.part {τ : Tr} (h : LR τ) {x : Pt} (hx : PtN x) {zx : Int} (hz : Az zx) : LR (AJ τ x zx).1 := by
 unfold AJ
 split
 ·unfold Ab
  split
  ·rename_i g
   refine ⟨Pi (fun y hy => ?_) fun n hn => hn.kid hx.num hz, h.ss, h.zx⟩
   rcases FM hy with rfl | hy
   ·exact PnW.new hx g.1 hz
   ·exact h.nd y hy
  ·exact h
 split
 ·unfold As
  split
  ·exact ⟨Pi (fun y hy => h.nd y (mem_filter.1 hy).1) fun n hn => hn.kid hx.num hz, h.ss, h.zx⟩
  ·exact h
 split
 ·exact ⟨Pi h.nd fun n hn => hn.set hx.data hx.num hz, h.ss, h.zx⟩
 split
 ·exact ⟨Pi h.nd fun n hn => hn.acl' hx.acl hx.num, h.ss, h.zx⟩
 ·exact h
theorem LR.parts {τ : Tr} (h : LR τ) {zx : Int} (hz : Az zx) {l : List Pt} (hl : ∀ x ∈ l, PtN x) : LR (AH τ zx l).1 := by
 have key : ∀ (l : List Pt) (r : Tr × List Ev), LR r.1 → (∀ x ∈ l, PtN x) → LR (l.foldl (fun r x => ((AJ r.1 x zx).1, r.2 ++ (AJ r.1 x zx).2)) r).1 := by
  intro l
  induction l with
  | nil => intro r h _; exact h
  | cons x l ih =>
   intro r h hl
   rw [foldl_cons]
   exact ih _ (h.part (hl x (by simp)) hz) (fun y hy => hl y (by simp [hy]))
 exact key l _ h hl
theorem LR.zxT {τ : Tr} (h : LR τ) {z : Int} (hz : Az z) : LR (Go.Proofs.YtmbnebafdhpgpaaGreatDoor.zxT τ z) := ⟨h.nd, h.ss, hz⟩
theorem LR.app {τ : Tr} (h : LR τ) {e : En} (he : EnN e) : LR (Ld τ e) := by
 have h0 := h.zxT he.zx
 unfold Ld AC
 dsimp only
 split
 ·split
  ·refine ⟨h0.nd, fun y hy => ?_, h0.zx⟩
   rcases FM hy with rfl | hy
   ·exact ⟨he.x.own, he.x.num, he.x.data⟩
   ·exact h0.ss y hy
  ·exact h0
 split
 ·have h1 := h0.parts he.zx (l := e.subs.filter Ai) fun y hy => he.each y (mem_filter.1 hy).1
  exact ⟨h1.nd, fun y hy => h1.ss y (mem_filter.1 hy).1, h1.zx⟩
 split
 ·exact h0.parts he.zx he.each
 split
 ·exact h0
 ·exact h0.part he.x he.zx
theorem LR.new : LR Du := by
 refine ⟨fun y hy => ?_, fun x hx => (by cases hx), Rv⟩
 simp only [Du, mem_singleton] at hy
 subst hy
 refine ⟨by decide, by decide, ⟨by decide, ?_, fun a ha => ?_⟩, fun n hn => ?_, ⟨rfl, rfl⟩⟩
 ·have h1 := Kn (n := 31) dQ
  have h2 := Uc (s := [119, 111, 114, 108, 100]) dQ
  have h3 := EQ (u := 0 + 1) dQ
  unfold Fh Ln
  simp only [flatMap_cons, flatMap_nil, length_append, length_nil, length_cons] at *
  unfold Ct
  omega
 ·simp only [mem_singleton] at ha; subst ha
  exact ⟨⟨by decide, by decide⟩, by decide⟩
 ·rw [BR] at hn
  rcases hn with rfl | rfl | rfl | rfl | rfl | rfl | rfl <;> exact Rv
theorem G.as {W : World} {n : Nat} {ds : List Deferred} {E : Bx} {L R : List HP} {X : Act → World → Prop} {p q : HP} (hL : BJ p L R) (e : p = q) (h : G W n ds E (q :: R) X) : G W n ds E L X := by
 subst e; exact G.focus hL h
theorem wrap_i64 (n : Int) : Az (C3 n) := by
 show -9223372036854775808 ≤ IntKind.i64.wrap n ∧ IntKind.i64.wrap n ≤ 9223372036854775807
 simp only [IntKind.wrap, IntKind.signed, IntKind.bits, Bool.true_and]
 split <;> simp_all <;> omega
theorem Az.zero : Az 0 := ⟨by decide, by decide⟩
theorem Ri {τ : Tr} (h : LR τ) (p : Bs) : Az (AS τ p).cver := by
 unfold AS Ht
 rcases hn : AD τ.nodes p with _ | n
 case some =>
  exact (h.nd _ (EB hn)).st _ (BR.2 (.inr (.inr (.inr (.inr (.inl rfl))))))
 case none => exact Az.zero
theorem Om (τ : Tr) (u : B4) {r : Rq} (hu : Az u.ses) (hd : r.data.length ≤ 1048576) (ha : Ge r.acl) : PtN (AU τ u r).1 := by
 have h0 : Ge [] := ⟨by decide, by simp [Fh, Ct, DS], fun a ha => by cases ha⟩
 unfold AU
 split
 ·refine ⟨?_, wrap_i64 _, hd, ha⟩
  show Az (if andI r.flags 1 ≠ 0 then u.ses else 0)
  split
  ·exact hu
  ·exact Az.zero
 split
 ·exact ⟨Az.zero, wrap_i64 _, Nat.zero_le _, h0⟩
 split
 ·unfold FJ
  split
  ·exact ⟨Az.zero, wrap_i64 _, hd, h0⟩
  split
  ·exact ⟨Az.zero, wrap_i64 _, Nat.zero_le _, ha⟩
  ·exact ⟨Az.zero, Az.zero, Nat.zero_le _, h0⟩
 ·exact ⟨Az.zero, Az.zero, Nat.zero_le _, h0⟩
theorem C0 {u : B4} {r : Rq} {l : List Rq} {τ : Tr} : Bd u (r :: l) τ = if (AU τ u r).2 ≠ 0 then (τ, [], some (0, (AU τ u r).2))
  else ((Bd u l (AC τ τ.zx (AU τ u r).1 []).1).1, (AU τ u r).1 :: (Bd u l (AC τ τ.zx (AU τ u r).1 []).1).2.1, (Bd u l (AC τ τ.zx (AU τ u r).1 []).1).2.2.map fun x => (x.1 + 1, x.2)) := rfl
def Dp (u : B4) (l : List Rq) (τ : Tr) (i : Nat) (σ : Tr) (xs : List Pt) : Prop :=
 (Bd u l τ).2.1 = xs ++ (Bd u (l.drop i) σ).2.1 ∧ (Bd u l τ).2.2 = (Bd u (l.drop i) σ).2.2.map (fun x => (x.1 + i, x.2)) ∧ xs.length = i
theorem Dp.zero (u : B4) (l : List Rq) (τ : Tr) : Dp u l τ 0 τ [] := ⟨rfl, by simp, rfl⟩
theorem Dp.step {u : B4} {l : List Rq} {τ σ : Tr} {i : Nat} {xs : List Pt} (h : Dp u l τ i σ xs) (hi : i < l.length) (h0 : (AU σ u l[i]).2 = 0) :
  Dp u l τ (i + 1) (AC σ σ.zx (AU σ u l[i]).1 []).1 (xs ++ [(AU σ u l[i]).1]) := by
 obtain ⟨h1, h2, h3⟩ := h
 rw [drop_eq_getElem_cons hi, C0, if_neg om] at h1 h2
 refine ⟨by rw [h1, append_assoc]; rfl, ?_, by rw [length_append, h3]; rfl⟩
 rw [h2, Option.map_map]
 congr 1
 funext x
 show (x.1 + 1 + i, x.2) = (x.1 + (i + 1), x.2)
 congr 1; omega
theorem Dp.stop {u : B4} {l : List Rq} {τ σ : Tr} {i : Nat} {xs : List Pt} (h : Dp u l τ i σ xs) (hi : i < l.length) (h0 : (AU σ u l[i]).2 ≠ 0) (hl : ¬ (l.length = 0 ∨ l.length > 8)) :
  A3 τ u l = (Aw (AU σ u l[i]).2 i, []) := by
 obtain ⟨h1, h2, h3⟩ := h
 rw [drop_eq_getElem_cons hi, C0, if_pos h0] at h2
 unfold A3
 rw [if_neg hl, h2]
 simp
theorem Dp.done {u : B4} {l : List Rq} {τ σ : Tr} {xs : List Pt} (h : Dp u l τ l.length σ xs) (hl : ¬ (l.length = 0 ∨ l.length > 8)) :
  A3 τ u l = (⟨7, [], [], AF, [], 0, 0, 0, AF⟩, xs) := by
 obtain ⟨h1, h2, h3⟩ := h
 rw [drop_length] at h1 h2
 have h2 : (Bd u l τ).2.2 = none := h2
 have h1 : (Bd u l τ).2.1 = xs ++ [] := h1
 unfold A3
 rw [if_neg hl, h2, h1, append_nil]
theorem Mt (w : Nat) (bs : Bs) (va : Value) (ns : List Int) (p : HP) (hp : ∀ h : Hp, p h → Cx 1 h va ns.length (Dw ns)) (hi : ∀ n ∈ ns, Az n) (hl : bs.length + (ns.flatMap EV).length ≤ 4294900000) (hn : ns.length ≤ 1048576) : Fn prog 121 #[AI w, va] [Ih w bs, p] fun v L => v = .tuple #[] ∧ L = [Ih w (bs ++ ns.flatMap EV), p] := by
 refine Fn.intro func121 Y Y fun F W => ?_
 refine .rdAny (p := p) hp O fun aa ca e0 _ => ?_
 subst e0
 refine .sm Y (.q (.slen Y underlying86 Y) Y (.m Y (.nt (.block (.wrCast (w := w) (bs' := bs ++ (ns.take 0).flatMap EV) O (by simp) (.loopK (ι := Nat) (fun q E => (8, AA q) :: E) (fun q => [Ih w (bs ++ (ns.take q).flatMap EV)]) (fun q => q ≤ ns.length) (fun q => ns.length - q) (0) (ts := [0, 6, 7]) O (Nat.zero_le _) O O ?_))))))
 rintro j hj
 refine .sr (.ui Y Y Y (.nt (.seq (.condD Y (fun h9 => ?_) (fun h9 => ?_)))))
 ·have hj2 : j < ns.length := by omega
  have hft := Tv EV ns j
  refine .rdShape (p := p) hp O om fun ba oa e => ?_
  subst e
  refine .sk (.seq (.block (.sr (.q (.indexAddr Y Y GJ om) Y (.q (.loadEl (p := p) (i := j * 1) (v := AA ns[j]) Y AR O hp (by simp [hj2])) Y (.an Y (.region (.m Y (.m Y (.oq (.c func190 [_, _] (KM w _ ns[j] (hi _ (getElem_mem hj2)) ?hb8)) ?_))))))))))
  case hb8 => rw [length_append]; omega
  rintro v L' ⟨rfl, rfl⟩
  refine .nil (.blk_n (.then_n (.region (.q (.add Y Y om) Y (.m Y (.nt (.wrCast (w := w) (bs' := bs ++ (ns.take (j + 1)).flatMap EV) O (by rw [L3 EV hj2, append_assoc]) ?_)))))))
  exact .rk (j + 1) om om O
 have hjj : j = ns.length := by omega
 rw [hjj, take_length]
 refine .exit (.then_e (.then_e (.blk_e (.done_n ?_))))
 exact .vv
theorem Vd (w : Nat) (bs : Bs) (a : Ac) (hi : AcI a) (hl : bs.length + (Ln a).length ≤ 4294900000) : Fn prog 193 #[AI w, .agg (CO a).toArray] [Ih w bs] fun v L => v = .tuple #[] ∧ L = [Ih w (bs ++ Ln a)] := by
 refine Fn.intro func193 Y Y fun F W => ?_
 have hab : (Ln a).length = (EV a.1).length + ((Ct a.2.length).length + a.2.length) := by unfold Ln FK; simp
 refine .sr (.oq (.box Y) ?_)
 rintro v L' ⟨b3, rfl, rfl⟩
 refine .nil (.ptCast (b := b3) (l' := CO a) O Y ?_)
 refine .then_n (.sm Y (.fa Y J5 (.u (.ld Y AR) (.cv func190 [_, _] (KM w bs a.1 hi.n om) ?_))))
 refine .nt (.region (.m Y (.fa Y Lk (.u (.ld Y Ak) (.oq (.c func191 [_, _] (I4 w _ a.2 ?hb11)) ?_)))))
 case hb11 => rw [length_append]; omega
 rintro v L' ⟨rfl, rfl⟩
 refine .nil (.done_n (.wrCast (w := w) (bs' := bs ++ Ln a) O (by unfold Ln; rw [append_assoc]) ?_))
 exact .vv
theorem S5 (w : Nat) (bs : Bs) (va : Value) (l : List Ac) (p : HP) (hp : ∀ h : Hp, p h → Cx 2 h va l.length (l.flatMap CO)) (hi : ∀ a ∈ l, AcI a) (hl : bs.length + (Ct l.length ++ l.flatMap Ln).length ≤ 4294900000) (hn : l.length ≤ 1048576) : Fn prog 192 #[AI w, va, .func (.func 193) #[] #[]] [Ih w bs, p] fun v L => v = .tuple #[] ∧ L = [Ih w (bs ++ (Ct l.length ++ l.flatMap Ln)), p] := by
 refine Fn.intro func192 Y Y fun F W => ?_
 refine .rdAny (p := p) hp O fun aa ca e0 _ => ?_
 subst e0
 rw [length_append] at hl
 refine .sm Y (.m Y (.q (.slen Y underlying30 Y) Y (.cv func194 [_, _] (Hg w bs l.length om om) ?_)))
 refine .nt (.sm Y (.q (.slen Y underlying30 Y) Y (.m Y (.nt (.block (.wrCast (w := w) (bs' := bs ++ Ct l.length ++ (l.take 0).flatMap Ln) O (by simp) (.loopK (ι := Nat) (fun q E => (14, AA q) :: E) (fun q => [Ih w (bs ++ Ct l.length ++ (l.take q).flatMap Ln)]) (fun q => q ≤ l.length) (fun q => l.length - q) (0) (ts := [0, 2, 12, 13]) O (Nat.zero_le _) O O ?_)))))))
 rintro j hj
 refine .sr (.ui Y Y Y (.nt (.seq (.condD Y (fun h15 => ?_) (fun h15 => ?_)))))
 ·have hj2 : j < l.length := by omega
  have hft := Qv Ln hj2
  refine .rdShape (p := p) hp O om fun ba oa e => ?_
  subst e
  refine .sk (.seq (.block (.sr (.q (.indexAddr Y Y Gw om) Y (.q (.loadRdA (sz := 2) (j := j * 2) (k := 2) (p := p) (vs := CO l[j]) Y Qw O hp (by simp) om om (A5 (f := CO) (sz := 2) (fun _ _ => Y) om)) Y (.oq (.allocA Fv) ?_))))))
  rintro v L' ⟨b7, rfl, rfl⟩
  refine .sa Y Y XW (by simp [CO, AB]) ?_
  refine .nil (.pc b7 (CO l[j]) ?_)
  refine .then_n (.region (.m Y (.m Y (.q (.loadAs (vs := CO l[j]) Y Qw O (by simp [CO]) Y) Y (.oq (.callV func193 Y Y (us := []) (vs := [_, _]) (ws := []) Y Y (Vd w _ l[j] (hi _ (getElem_mem hj2)) ?hb22)) ?_)))))
  case hb22 => rw [length_append, length_append]; omega
  rintro v L' ⟨rfl, rfl⟩
  refine .nil (.blk_n (.then_n (.region (.q (.add Y Y om) Y (.m Y (.nt (.wrCast (w := w) (bs' := bs ++ Ct l.length ++ (l.take (j + 1)).flatMap Ln) O (by rw [L3 Ln hj2, ← append_assoc]) ?_)))))))
  exact .rk (j + 1) om om O
 have hjj : j = l.length := by omega
 rw [hjj, take_length, append_assoc]
 refine .exit (.then_e (.then_e (.blk_e (.done_n ?_))))
 exact .vv
theorem AAD (y : Pt) : (Ia y).length = (EV y.kind).length + ((Ct y.path.length).length + y.path.length) + ((Ct y.data.length).length + y.data.length) + (Fh y.acl).length + ([y.own, y.num, y.err].flatMap EV).length := by unfold Ia FK; simp only [length_append]
theorem MR (w : Nat) (bs : Bs) (y : Pt) (p : HP) (hy : PtW p y) (hl : bs.length + (Ia y).length ≤ 4294900000) (hn : y.acl.length ≤ 1048576) : Fn prog 122 #[AI w, .agg (A1 y).toArray] [Ih w bs, p] fun v L => v = .tuple #[] ∧ L = [Ih w (bs ++ Ia y), p] := by
 refine Fn.intro func122 Y Y fun F W => ?_
 have hpl := AAD y
 have hal : (Ct y.acl.length ++ y.acl.flatMap Ln).length = (Fh y.acl).length := rfl
 have hiy := hy.i
 refine .sr (.oq (.box Y) ?_)
 rintro v L' ⟨b3, rfl, rfl⟩
 refine .nil (.ptCast (b := b3) (l' := A1 y) O Y ?_)
 refine .then_n (.sm Y (.fa Y Bz (.u (.ld Y AR) (.cv func190 [_, _] (KM w bs y.kind hiy.kind om) ?_))))
 refine .nt (.sm Y (.fa Y A7 (.u (.ld Y Ak) (.oq (.c func191 [_, _] (I4 w _ y.path ?hb11)) ?_))))
 case hb11 => rw [length_append]; omega
 rintro v L' ⟨rfl, rfl⟩
 refine .nt (.sm Y (.fa Y E9 (.u (.ld Y Ak) (.oq (.c func191 [_, _] (I4 w _ y.data ?hb17)) ?_))))
 case hb17 => simp only [length_append, FK]; omega
 rintro v L' ⟨rfl, rfl⟩
 refine .nt (.sm Y (.fa Y GN (.u (.ld Y Ft) (.oq (.c func192 [_, _, _] (S5 w _ _ y.acl p hy.acl hiy.acl ?hb23 hn)) ?_))))
 case hb23 => rw [hal]; simp only [length_append, FK]; omega
 rintro v L' ⟨rfl, rfl⟩
 refine .nt (.region (.m Y (.fa Y CV (.u (.ld Y AR) (.fa Y Cl (.u (.ld Y AR) (.fa Y IZ (.u (.ld Y Fd) (.oq (.buildSlice1 (vs := [_, _, _]) GJ F8 Y Y Y Y Y dQ) ?_)))))))))
 rintro v L' ⟨b5, rfl, rfl⟩
 refine .slMake (b := b5) (n := 3) (c := 3) (xs := Dw [y.own, y.num, y.err]) O dQ (by simp) Y (.oq (.call func121 Y Y (vs := [_, _]) Y (Mt w _ _ [y.own, y.num, y.err] (Af 3 1 (.slice (some ⟨b5, 0, none⟩) 3 3) 3 (Dw [y.own, y.num, y.err])) (fun h hp => Aa hp) (fun n hn => by simp only [mem_cons, not_mem_nil, or_false] at hn; rcases hn with rfl | rfl | rfl; exact hiy.own; exact hiy.num; exact hiy.err) ?hb35 (by simp))) ?_)
 case hb35 => have h9 : (Ct y.acl.length ++ y.acl.flatMap Ln).length = (Fh y.acl).length := rfl; simp only [length_append, FK] at h9 ⊢; omega
 rintro v L' ⟨rfl, rfl⟩
 refine .nil (.done_n (.wrCast (w := w) (bs' := bs ++ Ia y) O (by unfold Ia Fh; simp only [append_assoc]) ?_))
 exact .vv
theorem QD (w : Nat) (bs : Bs) (va : Value) (l : List Pt) (p : HP) (hp : ∀ h : Hp, p h → Cx 8 h va l.length (l.flatMap A1)) (hi : ∀ y ∈ l, PtW p y ∧ y.acl.length ≤ 1048576) (hl : bs.length + (Ct l.length ++ l.flatMap Ia).length ≤ 4294900000) (hn : l.length ≤ 1048576) (hcl : ∀ y ∈ l, ∀ v ∈ A1 y, AB v = true) : Fn prog 123 #[AI w, va, .func (.func 122) #[] #[]] [Ih w bs, p] fun v L => v = .tuple #[] ∧ L = [Ih w (bs ++ (Ct l.length ++ l.flatMap Ia)), p] := by
 refine Fn.intro func123 Y Y fun F W => ?_
 refine .rdAny (p := p) hp O fun aa ca e0 _ => ?_
 subst e0
 rw [length_append] at hl
 refine .sm Y (.m Y (.q (.slen Y underlying58 Y) Y (.cv func194 [_, _] (Hg w bs l.length om om) ?_)))
 refine .nt (.sm Y (.q (.slen Y underlying58 Y) Y (.m Y (.nt (.block (.wrCast (w := w) (bs' := bs ++ Ct l.length ++ (l.take 0).flatMap Ia) O (by simp) (.loopK (ι := Nat) (fun q E => (14, AA q) :: E) (fun q => [Ih w (bs ++ Ct l.length ++ (l.take q).flatMap Ia)]) (fun q => q ≤ l.length) (fun q => l.length - q) (0) (ts := [0, 2, 12, 13]) O (Nat.zero_le _) O O ?_)))))))
 rintro j hj
 refine .sr (.ui Y Y Y (.nt (.seq (.condD Y (fun h15 => ?_) (fun h15 => ?_)))))
 ·have hj2 : j < l.length := by omega
  have hft := Qv Ia hj2
  refine .rdShape (p := p) hp O om fun ba oa e => ?_
  subst e
  refine .sk (.seq (.block (.sr (.q (.indexAddr Y Y EO om) Y (.q (.loadRdA (sz := 8) (j := j * 8) (k := 8) (p := p) (vs := A1 l[j]) Y Ay O hp (by simp) om om (A5 (f := A1) (sz := 8) (fun _ _ => Y) om)) Y (.oq (.allocA BL) ?_))))))
  rintro v L' ⟨b7, rfl, rfl⟩
  refine .sa Y Y BO (by exact hcl _ (getElem_mem hj2)) ?_
  refine .nil (.pc b7 (A1 l[j]) ?_)
  refine .then_n (.region (.m Y (.m Y (.q (.loadAs (vs := A1 l[j]) Y Ay O (by simp [A1]) Y) Y (.oq (.callV func122 Y Y (us := []) (vs := [_, _]) (ws := []) Y Y (MR w _ l[j] p (hi _ (getElem_mem hj2)).1 ?hb22 (hi _ (getElem_mem hj2)).2)) ?_)))))
  case hb22 => rw [length_append, length_append]; omega
  rintro v L' ⟨rfl, rfl⟩
  refine .nil (.blk_n (.then_n (.region (.q (.add Y Y om) Y (.m Y (.nt (.wrCast (w := w) (bs' := bs ++ Ct l.length ++ (l.take (j + 1)).flatMap Ia) O (by rw [L3 Ia hj2, ← append_assoc]) ?_)))))))
  exact .rk (j + 1) om om O
 have hjj : j = l.length := by omega
 rw [hjj, take_length, append_assoc]
 refine .exit (.then_e (.then_e (.blk_e (.done_n ?_))))
 exact .vv
theorem UE (e : En) : (NV e).length = ([e.zx, e.ses, e.xid].flatMap EV).length + (Ia e.x).length + (Jo e.subs).length := by unfold NV; simp only [length_append]
theorem CG {y : Pt} (h1 : AB y.aclV = true) (h2 : AB y.subsV = true) : ∀ v ∈ A1 y, AB v = true := by
 intro v hv
 simp only [A1, mem_cons, not_mem_nil, or_false] at hv
 rcases hv with rfl | rfl | rfl | rfl | rfl | rfl | rfl | rfl
 case inr.inr.inr.inl => exact h1
 case inr.inr.inr.inr.inr.inr.inr => exact h2
 all_goals rfl
structure Vw (p : HP) (e : En) : Prop where
 w : EnW p e
 len : (NV e).length ≤ 1073741824
 few : e.subs.length ≤ 1048576 ∧ e.x.acl.length ≤ 1048576 ∧ ∀ y ∈ e.subs, y.acl.length ≤ 1048576
 cx : AB e.x.aclV = true ∧ AB e.x.subsV = true
 cs : ∀ y ∈ e.subs, AB y.aclV = true ∧ AB y.subsV = true
theorem Vw.cells {p : HP} {e : En} (h : Vw p e) : ∀ v ∈ DE e, AB v = true := by
 intro v hv
 unfold DE at hv
 rcases mem_append.1 hv with hv | hv
 ·simp at hv; rcases hv with rfl | rfl | rfl <;> rfl
 ·exact CG h.cx.1 h.cx.2 v hv
theorem QM (w : Nat) (e : En) (p : HP) (he : Vw p e) : Fn prog 63 #[AI w, .agg (DE e).toArray] [Ih w [], p] fun v L => v = .tuple #[] ∧ L = [Ih w (NV e), p] := by
 refine Fn.intro func63 Y Y fun F W => ?_
 have hel := UE e
 have hle := he.len
 have hie := he.w.i
 have hsb : (Ct e.subs.length ++ e.subs.flatMap Ia).length = (Jo e.subs).length := rfl
 refine .sr (.oq (.box Y) ?_)
 rintro v L' ⟨b3, rfl, rfl⟩
 refine .nil (.pc b3 (DE e) ?_)
 refine .then_n (.sm Y (.fa Y Cm (.u (.ld Y AR) (.fa Y Tj (.u (.ld Y AR) (.fa Y Oo (.u (.ld Y AR) (.oq (.buildSlice1 (vs := [_, _, _]) GJ F8 Y Y Y Y Y dQ) ?_))))))))
 rintro v L' ⟨b4, rfl, rfl⟩
 refine .slMake (b := b4) (n := 3) (c := 3) (xs := Dw [e.zx, e.ses, e.xid]) O dQ (by simp) Y (.oq (.call func121 Y Y (vs := [_, _]) Y (Mt w [] _ [e.zx, e.ses, e.xid] (Af 3 1 (.slice (some ⟨b4, 0, none⟩) 3 3) 3 (Dw [e.zx, e.ses, e.xid])) (fun h hp => Aa hp) (fun n hn => by simp only [mem_cons, not_mem_nil, or_false] at hn; rcases hn with rfl | rfl | rfl; exact hie.zx; exact hie.ses; exact hie.xid) (by simp only [length_nil]; omega) (by simp))) ?_)
 rintro v L' ⟨rfl, rfl⟩; rw [nil_append]
 refine .nt (.sm Y (.fa Y G7 (.q (.loadAs (vs := A1 e.x) Y Ay O (by simp [DE, A1]) Y) Y (.oq (.c func122 [_, _] (MR w _ e.x p he.w.x ?hb17 he.few.2.1)) ?_))))
 case hb17 => omega
 rintro v L' ⟨rfl, rfl⟩
 refine .nt (.region (.m Y (.fa Y G7 (.fa Y Ck (.u (.ld Y G0) (.oq (.c func123 [_, _, _] (QD w _ _ e.subs p he.w.subs (fun y hy => ⟨he.w.sub hy, he.few.2.2 y hy⟩) ?hb24 he.few.1 (fun y hy => CG (he.cs y hy).1 (he.cs y hy).2))) ?_))))))
 case hb24 => rw [hsb, length_append]; omega
 rintro v L' ⟨rfl, rfl⟩
 refine .nil (.done_n (.wrCast (w := w) (bs' := NV e) O (by unfold NV Jo; simp only [append_assoc]) ?_))
 exact .vv
theorem OZ : ∀ l : List Int, B1 l = 0 ∨ B1 l ∈ l
 | [] => .inl rfl
 | e :: l => by
  show (if e ≠ 0 then e else B1 l) = 0 ∨ (if e ≠ 0 then e else B1 l) ∈ e :: l
  split
  ·exact .inr (mem_cons_self ..)
  ·rcases OZ l with h | h
   ·exact .inl h
   ·exact .inr (mem_cons_of_mem _ h)
theorem E3 : ∀ l : List Int, B1 l = 0 → ∀ e ∈ l, e = 0
 | [], _, e, he => by cases he
 | x :: l, h, e, he => by
  have h : (if x ≠ 0 then x else B1 l) = 0 := h
  split at h
  ·rename_i g; exact absurd h g
  ·rename_i g
   rcases mem_cons.1 he with rfl | he
   ·omega
   ·exact E3 l h e he
theorem Ud (p : Bs) : BG p = 0 ∨ BG p = 40 ∨ BG p = 41 := by
 unfold BG
 repeat' split
 ·exact .inl rfl
 ·exact .inr (.inl rfl)
 ·exact .inr (.inr rfl)
 ·exact .inl rfl
def ABL (x : Pt × List Pt) : Prop := x.1.kind = 8 ∧ x.1.err = 66
instance (x : Pt × List Pt) : Decidable (ABL x) := inferInstanceAs (Decidable (_ ∧ _))
theorem Il (k : Int) : Fn prog 25 #[AA k] [] fun v L => v = .bool (Bw k) ∧ L = [] := by
 refine Fn.intro func25 Y Y fun F W => ?_
 refine .sr (.an Y (.seq (.sm Y (.nt (.block (.seq (.sr (.ui Y Y Y (.an Y (.dec (t := 4) Y (fun h4 => ?_) (fun h4 => ?_)))))))))))
 ·refine .condT Y (.sk (.condT Y (.sr (.an Y (.ret (.blk_r (.then_r ?_)))))))
  exact .dn Y Y ⟨by congr 1; unfold Bw; symm; first | (simp; omega) | (simp_all; done) | (simp_all; omega), rfl⟩
 refine .condF Y (.sr (.ui Y Y Y (.an Y (.dec (t := 4) Y (fun h4 => ?_) (fun h4 => ?_)))))
 ·refine .condT Y (.sk (.condT Y (.sr (.an Y (.ret (.blk_r (.then_r ?_)))))))
  exact .dn Y Y ⟨by congr 1; unfold Bw; symm; first | (simp; omega) | (simp_all; done) | (simp_all; omega), rfl⟩
 refine .condF Y (.sr (.ui Y Y Y (.an Y (.dec (t := 4) Y (fun h4 => ?_) (fun h4 => ?_)))))
 ·refine .condT Y (.sk (.condT Y (.sr (.an Y (.ret (.blk_r (.then_r ?_)))))))
  exact .dn Y Y ⟨by congr 1; unfold Bw; symm; first | (simp; omega) | (simp_all; done) | (simp_all; omega), rfl⟩
 refine .condF Y (.sr (.ui Y Y Y (.an Y (.dec (t := 4) Y (fun h4 => ?_) (fun h4 => ?_)))))
 ·refine .condT Y (.sk (.condT Y (.sr (.an Y (.ret (.blk_r (.then_r ?_)))))))
  exact .dn Y Y ⟨by congr 1; unfold Bw; symm; first | (simp; omega) | (simp_all; done) | (simp_all; omega), rfl⟩
 refine .condF Y (.sr (.ui Y Y Y (.an Y (.dec (t := 4) Y (fun h4 => ?_) (fun h4 => ?_)))))
 ·refine .condT Y (.sk (.condT Y (.sr (.an Y (.ret (.blk_r (.then_r ?_)))))))
  exact .dn Y Y ⟨by congr 1; unfold Bw; symm; first | (simp; omega) | (simp_all; done) | (simp_all; omega), rfl⟩
 refine .condF Y (.sr (.ui Y Y Y (.an Y (.dec (t := 4) Y (fun h4 => ?_) (fun h4 => ?_)))))
 ·refine .condT Y (.sk (.condT Y (.sr (.an Y (.ret (.blk_r (.then_r ?_)))))))
  exact .dn Y Y ⟨by congr 1; unfold Bw; symm; first | (simp; omega) | (simp_all; done) | (simp_all; omega), rfl⟩
 refine .condF Y (.region (.ui Y Y Y (.an Y (.dec (t := 4) Y (fun h4 => ?_) (fun h4 => ?_)))))
 ·refine .condT Y (.sr (.an Y (.ret (.blk_r (.then_r ?_)))))
  exact .dn Y Y ⟨by congr 1; unfold Bw; symm; first | (simp; omega) | (simp_all; done) | (simp_all; omega), rfl⟩
 refine .condF Y (.skip (.blk_n (.then_n (.sr (.an Y (.ret ?_))))))
 exact .dn Y Y ⟨by congr 1; unfold Bw; symm; first | (simp; omega) | (simp_all; done) | (simp_all; omega), rfl⟩
theorem DR (e n : Int) : Fn prog 48 #[AA e, AA n] [] fun v L => v = .agg (A1 (Aw e n)).toArray ∧ L = [] := by
 refine Fn.intro func48 Y Y fun F W => ?_
 refine .sr (.oq (.allocA BL) ?_)
 rintro v L' ⟨b4, rfl, rfl⟩
 refine .nt (.sm Y (.m Y (.q (.build (us := [(0, _), (6, _), (5, _)]) FF BL Y Y (by simp [AB])) Y (.sa Y Y BO (by (first | (simp [AB]; done) | (simp [AB, AW, Value.cells]; done))) ?_))))
 refine .nil (.pc b4 ([AA 8, AE [], AE [], AF, AA 0, AA n, AA e, AF]) ?_)
 refine .then_n (.ret ?_)
 exact .d1 Y (.cellA Y Ay O (by simp [DT, AW]) Y) ⟨Y, Y⟩
theorem HC (zx : Int) (s0 s1 s2 s3 s4 s5 s6 s7 : Value) : Instr.fill (fun i => [(0, 1), (1, 1), (2, 1), (3, 8)].toArray[i]?) ([.int .i64 0, .int .i64 0, .int .i64 0, .int .i64 0, .string (bs []), .string (bs []), .slice none 0 0, .int .i64 0, .int .i64 0, .int .i64 0, .slice none 0 0] : List Value).toArray [(0, AA zx), (3, .agg ([s0, s1, s2, s3, s4, s5, s6, s7] : List Value).toArray)] = some (([AA zx, AA 0, AA 0] ++ [s0, s1, s2, s3, s4, s5, s6, s7] : List Value).toArray) := by kernel_rfl
theorem TT (c : Nat) (n : Int) (a : Option Addr) (m k : Nat) (s0 s1 s2 s3 s4 s5 s6 s7 s8 s9 : Value) : Instr.fill (fun i => [(0, 1), (1, 1), (2, 1), (3, 10)].toArray[i]?) ([.pointer none, .int .i64 0, .slice none 0 0, .int .i64 0, .int .i64 0, .string (bs []), .string (bs []), .slice none 0 0, .int .i64 0, .int .i64 0, .bool false, .slice none 0 0, .slice none 0 0] : List Value).toArray
  [(0, AI c), (1, AA n), (2, .slice a m k), (3, .agg ([s0, s1, s2, s3, s4, s5, s6, s7, s8, s9] : List Value).toArray)] = some ([AI c, AA n, .slice a m k, s0, s1, s2, s3, s4, s5, s6, s7, s8, s9] : List Value).toArray := by kernel_rfl
theorem IE (c : Nat) (u : B4) (iv : Value) (h : ∃ a n c, iv = .slice a n c) (r : Rq) : Instr.fill (fun i => [(0, 1), (1, 1), (2, 1), (3, 10)].toArray[i]?) ([.pointer none, .int .i64 0, .slice none 0 0, .int .i64 0, .int .i64 0, .string (bs []), .string (bs []), .slice none 0 0, .int .i64 0, .int .i64 0, .bool false, .slice none 0 0, .slice none 0 0] : List Value).toArray
  [(0, AI c), (1, AA u.ses), (2, iv), (3, .agg (Eu r).toArray)] = some (CL c u iv r).toArray := by
 obtain ⟨a, m, k, rfl⟩ := h
 exact TT _ _ _ _ _ _ _ _ _ _ _ _ _ _ _
theorem NP (τ : Tr) (u : B4) (r : Rq) : (AU τ u r).1.subsV = AF := by
 unfold AU
 split
 ·rfl
 split
 ·rfl
 split
 ·unfold FJ; split
  ·rfl
  split <;> rfl
 ·rfl
theorem Tc (τ : Tr) (u : B4) (r : Rq) (w : Value) : (CF (AU τ u r).1 w).pl = (AU τ u r).1 := by
 unfold AU
 split
 ·rfl
 split
 ·rfl
 split
 ·unfold FJ; split
  ·rfl
  split <;> rfl
 ·rfl
theorem Ny {p : HP} {u : B4} {iv : Value} {r : Rq} (h : Di p u iv r) (τ : Tr) : (AU τ u r).1.path.length ≤ 1048576 := by
 have h1 := Ns h τ
 have h2 := h.rq.path
 unfold AU
 split
 ·exact h1
 split
 ·show r.path.length ≤ _; omega
 split
 ·unfold FJ; split
  ·show r.path.length ≤ _; omega
  split
  ·show r.path.length ≤ _; omega
  ·exact Nat.zero_le _
 ·exact Nat.zero_le _
theorem TD {p : HP} {u : B4} {iv : Value} {r : Rq} (h : Di p u iv r) (τ : Tr) (h0 : (AU τ u r).2 = 0) : (AU τ u r).1.path.length ≤ 1048576 := by
 have h2 := h.rq.path
 unfold AU at h0 ⊢
 split at h0
 ·rename_i hk
  rw [if_pos hk]
  have h3 := E3 _ h0 (Ah (BG (B2 τ r) ≠ 0) 41) (by unfold Dl; simp)
  have h4 : BG (B2 τ r) = 0 := by
   unfold Ah at h3
   split at h3
   ·cases h3
   ·rename_i g; exact Decidable.not_not.1 g
  have h5 : (B2 τ r).length ≤ 60 := by
   by_cases e : B2 τ r = [47]
   ·exact Ee (.inl e)
   ·exact Ee (.inr ⟨e, h4⟩)
  show (B2 τ r).length ≤ _
  omega
 rename_i hk
 rw [if_neg hk]
 split
 ·show r.path.length ≤ _; omega
 split
 ·unfold FJ; split
  ·show r.path.length ≤ _; omega
  split
  ·show r.path.length ≤ _; omega
  ·exact Nat.zero_le _
 ·exact Nat.zero_le _
theorem Jb {p : HP} {u : B4} {iv : Value} {r : Rq} (h : Di p u iv r) (τ : Tr) : (AU τ u r).1.acl.length ≤ 1048576 := by
 have h1 := h.rq.many
 unfold AU
 split
 ·exact h1
 split
 ·exact Nat.zero_le _
 split
 ·unfold FJ; split
  ·exact Nat.zero_le _
  split
  ·exact h1
  ·exact Nat.zero_le _
 ·exact Nat.zero_le _
theorem Di.rqcells {p : HP} {u : B4} {iv : Value} {r : Rq} (h : Di p u iv r) : ∀ v ∈ Eu r, AB v = true := fun v hv => all_eq_true.1 (h.cells 0) v (mem_cons_of_mem _ (mem_cons_of_mem _ (mem_cons_of_mem _ hv)))
theorem Ze {y : Pt} (h1 : y.acl.length ≤ 1048576) (h2 : y.path.length ≤ 1048576) (h3 : y.subsV = AF) (h4 : AB y.aclV = true) : TxA (aclR y) y [] :=
 ⟨⟨fun _ hp => Aa hp, h1, h2, by rw [h3]; rfl, h4⟩, fun _ _ => by rw [h3]; exact .inl ⟨rfl, rfl, none, 0, rfl⟩, Nat.zero_le _, fun _ hy => by cases hy⟩
theorem QE (t : Nat) (τ : Tr) (u : B4) (iv : Value) (r : Rq) (p : HP) (hA : Di p u iv r) (N : Nat) (ho : τ.Ok N) (hN : N ≤ 1099511627776) (hw : LR τ) (hN2 : N + 16 ≤ 1099511627776) (subs : List Rq) (hr : ∀ h : Hp, p h → Cx 10 h r.subsV subs.length (subs.flatMap Eu)) (hS : ∀ x ∈ subs, Di p u iv x) (hSa : ∀ x ∈ subs, Ge x.acl) : Fn prog 49 #[.agg (CL t u iv r).toArray] [AZ t τ, p] fun v L =>
    ∃ (w : Value) (ys : List Pt), v = .agg (A1 ((A3 τ u subs).1.ws w)).toArray ∧ ys.map Pt.pl = (A3 τ u subs).2 ∧ (∃ a c, w = .slice a ys.length c) ∧ (∀ y ∈ ys, AB y.aclV = true ∧ y.subsV = AF) ∧ L = [AZ t τ, p, Af 60 8 w ys.length (ys.flatMap A1), Ag aclR ys] := by
 refine Fn.intro func49 Y Y fun F W => ?_
 refine .rdAny (p := p) hr O fun aa ca hsv _ => ?_
 have hr2 : ∀ h : Hp, p h → Cx 10 h (.slice aa subs.length ca) subs.length (subs.flatMap Eu) := fun h hp => hsv ▸ hr h hp
 refine .sr (.oq (.box Y) ?_)
 rintro v L' ⟨b1, rfl, rfl⟩
 refine .oq (.allocA BL) ?_
 rintro v L' ⟨bx, rfl, rfl⟩
 refine .nil (.pc b1 (CL t u iv r) ?_)
 refine .then_n (.seq (.sr (.fa Y Ar (.fa Y O8 (.q (.to (v' := .slice aa subs.length ca) (.load Y WD O Y) (by exact hsv)) Y (.q (.slen Y underlying23 Y) Y (.ui Y Y Y (.m Y (.dec (t := 14) Y (fun h1_14 => ?_) (fun h1_14 => ?_))))))))))
 ·refine .kDT (t := 13) Y h1_14 (.gk (.gk (.gk (.gk (.gk (.pT Y Y (.nt (.condT Y (.sr (.cv func48 [_, _] (DR 1 (-1)) ?_))))))))))
  refine .sa Y Y BO (by simp [A1, Aw, AB]) ?_
  refine .nil (.pc bx ([AA 8, AE [], AE [], AF, AA 0, AA (-1), AA 1, AF]) ?_)
  refine .add (AO 60 8) (.add (p := Ag aclR []) (fun h => CX h) ?_)
  have hm : A3 τ u subs = (Aw 1 (-1), []) := by unfold A3; rw [if_pos om]
  refine .then_n (.rt ?_)
  exact .d1 Y (.cellA Y Ay O (by simp [DT, AW]) Y) ⟨AF, [], by rw [hm]; rfl, by rw [hm]; rfl, ⟨none, 0, rfl⟩, (fun _ h => by cases h), rfl⟩
 refine .kDF (t := 13) Y h1_14 (.gr (.fa Y Ar (.gr (.fa Y O8 (.gr (.q (.to (v' := .slice aa subs.length ca) (.load Y WD O Y) (by exact hsv)) Y (.gr (.q (.slen Y underlying23 Y) Y (.gr (.ui Y Y Y (.pF Y Y (.nt (.condD Y (fun h20 => ?_) (fun h20 => ?_))))))))))))))
 ·refine .sr (.cv func48 [_, _] (DR 1 (-1)) ?_)
  refine .sa Y Y BO (by simp [A1, Aw, AB]) ?_
  refine .nil (.pc bx ([AA 8, AE [], AE [], AF, AA 0, AA (-1), AA 1, AF]) ?_)
  refine .add (AO 60 8) (.add (p := Ag aclR []) (fun h => CX h) ?_)
  have hm : A3 τ u subs = (Aw 1 (-1), []) := by unfold A3; rw [if_pos om]
  refine .then_n (.rt ?_)
  exact .d1 Y (.cellA Y Ay O (by simp [DT, AW]) Y) ⟨AF, [], by rw [hm]; rfl, by rw [hm]; rfl, ⟨none, 0, rfl⟩, (fun _ h => by cases h), rfl⟩
 refine .sk (.sr (.fa Y D3 (.u (.ld Y C1) (.oq (.c func78 [_] (Jt t τ N ho hN)) ?_))))
 rintro v L' ⟨c, rfl, rfl⟩
 refine .an Y (.sr (.q (.build (us := [(0, _)]) FF BL Y Y (by simp [AB])) Y (.oq (.allocA BL) ?_)))
 rintro v L' ⟨b4, rfl, rfl⟩
 refine .sa Y Y BO (by (first | (simp [AB]; done) | (simp [AB, AW, Value.cells]; done))) ?_
 refine .nil (.pc b4 ([AA 7, AE [], AE [], AF, AA 0, AA 0, AA 0, AF]) ?_)
 refine .add (AO 60 8) (.add (p := Ag aclR []) (fun h => CX h) ?_)
 have hlen8 : ¬ (subs.length = 0 ∨ subs.length > 8) := by omega
 refine .then_n (.seq (.sr (.fa Y Ar (.fa Y O8 (.q (.to (v' := .slice aa subs.length ca) (.load Y WD O Y) (by exact hsv)) Y (.q (.slen Y underlying23 Y) Y (.m Y (.nt (.block (.loopK (ι := Nat × Tr × Value × (List Pt)) (fun q E => (30, AA q.1) :: E) (fun q => [AZ c q.2.1, Ad b4 [AA 7, AE [], AE [], AF, AA 0, AA 0, AA 0, q.2.2.1] 60, Af 60 8 q.2.2.1 q.1 (q.2.2.2.flatMap A1), Ag aclR q.2.2.2]) (fun q => q.1 ≤ subs.length ∧ (∃ a c, q.2.2.1 = .slice a q.1 c) ∧ Dp u subs τ q.1 q.2.1 (q.2.2.2.map Pt.pl) ∧ (∀ y ∈ q.2.2.2, AB y.aclV = true ∧ y.subsV = AF) ∧ q.2.1.Ok (N + q.1) ∧ LR q.2.1) (fun q => subs.length - q.1) (0, τ, AF, []) (ts := [1, 2, 3, 4, 28, 29]) O (⟨Nat.zero_le _, ⟨none, 0, Y⟩, Dp.zero u subs τ, (fun y hy => by cases hy), ho, hw⟩) O O ?_))))))))))
 rintro ⟨i, σ, z, ys⟩ ⟨hi, ⟨au, cu, hu⟩, hat, hyc, hok, hwσ⟩
 dsimp only
 dsimp only at hi hu hat hyc hok hwσ
 subst hu
 refine .sr (.ui Y Y Y (.nt (.seq (.condD Y (fun h31 => ?_) (fun h31 => ?_)))))
 ·have hi2 : i < subs.length := by omega
  refine .rdShape (p := p) hr2 O om fun ba oa e => ?_
  subst e
  refine .sk (.seq (.block (.sm Y (.q (.indexAddr Y Y ACL om) Y (.q (.loadRdA (sz := 10) (j := i * 10) (k := 10) (p := p) (vs := Eu subs[i]) Y Ij O hr2 (by simp) om om (A5 (f := Eu) (sz := 10) (fun _ _ => Y) om)) Y (.oq (.allocA OM) ?_))))))
  rintro v L' ⟨b6, rfl, rfl⟩
  refine .a Y (.sa Y Y ABn (by exact (hS _ (getElem_mem hi2)).rqcells) ?_)
  refine .nil (.pc b6 (Eu subs[i]) ?_)
  refine .then_n (.sm Y (.fa Y FC (.u (.ld Y AR) (.fa Y Qr (.u (.ld Y US) (.q (.la (Eu subs[i]) Y Ij) Y (.q (.to (v' := .agg (CL c u iv subs[i]).toArray) (.buildN (pl := [(0, 1), (1, 1), (2, 1), (3, 10)]) (us := [(0, AI c), (1, AA u.ses), (2, iv), (3, .agg (Eu subs[i]).toArray)]) (cells := CL c u iv subs[i]) underlying134 kQ JM Y (IE c u iv hA.shape subs[i])) Y) Y (.oq (.call func51 Y Y (vs := [_]) Y (Mk c σ u iv subs[i] p (hS _ (getElem_mem hi2)) (N + i) hok om (Ri hwσ _))) ?_))))))))
  rintro v L' ⟨w, rfl, ⟨aw, cw, rfl⟩, rfl⟩; obtain ⟨y, hy⟩ : ∃ y : Pt, y = (CF (AU σ u subs[i]).1 (.slice aw (AU σ u subs[i]).1.acl.length cw)) := ⟨_, rfl⟩; rw [← hy]
  refine .as (q := aclR y) (p := Af 75 2 (.slice aw (AU σ u subs[i]).1.acl.length cw) (AU σ u subs[i]).1.acl.length ((AU σ u subs[i]).1.acl.flatMap CO)) O (by rw [hy]; rfl) ?_
  have hyk : AB y.aclV = true ∧ y.subsV = AF := by (rw [hy]; exact ⟨rfl, NP _ _ _⟩)
  have hpl : y.pl = (AU σ u subs[i]).1 := by (rw [hy]; exact Tc _ _ _ _)
  have hap : AC σ σ.zx y [] = AC σ σ.zx (AU σ u subs[i]).1 [] := by (rw [← hpl]; rfl)
  have hac : y.acl.length ≤ 1048576 := by (rw [hy]; exact Jb (hS _ (getElem_mem hi2)) σ)
  have hwa : LR (AC σ σ.zx (AU σ u subs[i]).1 []).1 := hwσ.app (e := ⟨σ.zx, 0, 0, (AU σ u subs[i]).1, []⟩) ⟨hwσ.zx, Om σ u hA.ses (by have := (hS _ (getElem_mem hi2)).rq.data; omega) (hSa _ (getElem_mem hi2)), fun _ h => by cases h⟩
  refine .m Y (.ex Y Y (.ex Y Y (.oq (.allocA BL) ?_)))
  rintro v L' ⟨b7, rfl, rfl⟩
  refine .sa Y Y BO (by exact CG hyk.1 (by rw [hyk.2]; rfl)) ?_
  refine .a Y (.nil (.pc b7 (A1 y) ?_))
  refine .then_n (.seq (.sm Y (.ui Y Y Y (.nt (.condN Y (fun h47 => ?_) (fun h47 => ?_))))))
  ·refine .sm Y (.m Y (.cv func48 [_, _] (DR _ _) ?_))
   refine .sa Y Y BO (by simp [A1, Aw, AB]) ?_
   refine .nil (.pc bx ([AA 8, AE [], AE [], AF, AA 0, AA i, AA (AU σ u subs[i]).2, AF]) ?_)
   refine .add (AO 60 8) (.add (p := Ag aclR []) (fun h => CX h) ?_)
   have hm := hat.stop hi2 h47 hlen8
   refine .then_n (.rt (.blk_r (.then_r (.then_r (.blk_r (.then_r ?_))))))
   exact .d1 Y (.cellA Y Ay O (by simp [DT, AW]) Y) ⟨AF, [], by rw [hm]; rfl, by rw [hm]; rfl, ⟨none, 0, rfl⟩, (fun _ h => by cases h), rfl⟩
  have hpa : y.path.length ≤ 1048576 := by (rw [hy]; exact TD (hS _ (getElem_mem hi2)) σ om)
  refine .sk (.seq (.draw [2, 5] [[0, 1, 3, 2, 4], [5]] mixed kQ (.go [Ad b7 _ _] O (.k Y (.move Y) (.mv Y Y (.k Y (.la (A1 y) Y Ay) (.hh Y (.c func29 [_] (Cb c σ)) ?_)))))))
  rintro v L' ⟨rfl, rfl⟩
  refine D.kv Y (.buildN (pl := [(0, 1), (1, 1), (2, 1), (3, 8)]) (us := [(0, AA σ.zx), (3, .agg (A1 y).toArray)]) (cells := [AA σ.zx, AA 0, AA 0] ++ A1 y) underlying62 kQ Ey Y (HC _ _ _ _ _ _ _ _ _)) (.ph (.g0 (.hh Y (.call func42 Y Y (vs := [_, _]) Y (Ej c σ σ.zx 0 0 y [] (aclR y) (Ze hac hpa hyk.2 hyk.1) (N + i) hok (by show N + i + 0 ≤ _; omega))) ?_)))
  rintro v L' ⟨ue, ee, rfl, -, ⟨ae, ce, rfl⟩, rfl⟩; rw [hap]
  refine D.pf (.region (.fa Y Ck (.u (.ld Y G0) (.q (.la (A1 y) Y Ay) Y (.oq (.buildSlice (vs := [_]) EO BL Y Y Y Y cQ dQ) ?_)))))
  rintro v L' ⟨b12, rfl, rfl⟩
  refine .oq (.append1 Y Y Y EO BL Y Y ?c97 ?c98 (Nat.le_refl _) ?c99 dQ) ?_
  case c97 => simp only [map_cons, map_nil, flatten_cons, flatten_nil, append_nil]; simp only [Value.cells]; intro z hz; exact CG (y := y) hyk.1 (by rw [hyk.2]; rfl) z (by simpa using hz)
  case c98 => rfl
  case c99 => omega
  rintro v L' ⟨⟨a12, c12, rfl⟩, rfl⟩
  refine .fa Y Ck (.st Y Y Y LN ?_)
  refine .nil (.pc b4 ([AA 7, AE [], AE [], AF, AA 0, AA 0, AA 0, .slice a12 (i + 1) c12]) ?_)
  refine .blk_n (.then_n (.region (.q (.add Y Y om) Y (.m Y (.nt (.bigAdd (f := aclR) (l := ys) (p := aclR y) y Y O (.slCast (T := 60) (sz := 8) (m' := i + 1) (xs' := (ys ++ [y]).flatMap A1) O (by exact rfl) (by rw [flatMap_append]; simp [Value.cells]) ?_)))))))
  exact .rk ((i + 1, _, .slice a12 (i + 1) c12, ys ++ [y])) (⟨by dsimp only; omega, ⟨_, _, rfl⟩, by have h5 := hat.step hi2 om; show Dp u subs τ (i + 1) (AC σ σ.zx (AU σ u subs[i]).1 []).1 ((ys ++ [y]).map Pt.pl); rw [map_append, show List.map Pt.pl [y] = [(AU σ u subs[i]).1] from by rw [map_cons, hpl]; rfl]; exact h5, fun z hz => by rcases mem_append.1 hz with hz | hz; exact hyc z hz; rw [mem_singleton] at hz; subst hz; exact hyk, by have := hok.apply σ.zx (AU σ u subs[i]).1 [] (Jb (hS _ (getElem_mem hi2)) σ) (fun _ h => by cases h); exact this, hwa⟩) (by dsimp only; omega) O
 have hie : i = subs.length := by omega
 have hat2 : Dp u subs τ subs.length σ (ys.map Pt.pl) := by rw [← hie]; exact hat
 have hm := hat2.done hlen8
 have hyl : ys.length = i := by have h := hat.2.2; rw [length_map] at h; exact h
 refine .slCast (T := 60) (sz := 8) (m' := ys.length) (xs' := ys.flatMap A1) O (by rw [hyl]) Y (.xe (.sr (.q (.la ([AA 7, AE [], AE [], AF, AA 0, AA 0, AA 0, .slice au i cu]) Y Ay) Y (.sa Y Y BO (by (first | (simp [AB]; done) | (simp [AB, AW, Value.cells]; done))) ?_))))
 refine .nil (.pc bx ([AA 7, AE [], AE [], AF, AA 0, AA 0, AA 0, .slice au i cu]) ?_)
 refine .then_n (.ret ?_)
 exact .d1 Y (.cellA Y Ay O (by simp [DT, AW]) Y) ⟨.slice au i cu, ys, by rw [hm]; rfl, by rw [hm], ⟨au, cu, by rw [hyl]⟩, hyc, rfl⟩
theorem Xm (τ : Tr) (u : B4) (l : List Rq) (w : Value) : ((A3 τ u l).1.ws w).pl = (A3 τ u l).1 := by
 unfold A3
 split
 ·rfl
 ·split <;> rfl
theorem IV (τ : Tr) (u : B4) (l : List Rq) : (A3 τ u l).1.aclV = AF ∧ (A3 τ u l).1.acl = [] := by
 unfold A3
 split
 ·exact ⟨rfl, rfl⟩
 ·split <;> exact ⟨rfl, rfl⟩
theorem X2 {x : Pt} {a : Option Addr} {n c : Nat} (h : AB x.aclV = true) : ∀ v ∈ A1 (x.ws (.slice a n c)), AB v = true := CG (y := x.ws (.slice a n c)) h rfl
def EX (k : Int) : Prop := k = 1 ∨ k = 3 ∨ k = 4
instance (k : Int) : Decidable (EX k) := inferInstanceAs (Decidable (_ ∨ _))
structure Rp where
 xid : Int
 zx : Int
 err : Int
 path : Bs
 data : Bs
 st : LF
 aclV : Value
 kidsV : Value
 subsV : Value
def BH (x : Rp) : List Value := [AA x.xid, AA x.zx, AA x.err, AE x.path, AE x.data] ++ B6 x.st ++ [x.aclV, x.kidsV, x.subsV]
def Ul : Rp := ⟨0, 0, 0, [], [], st0, AF, AF, AF⟩
def BE (τ : Tr) (x : Pt) : Rp := ⟨0, 0, 0, if x.kind = 1 then x.path else [], [], if EX x.kind then AS τ x.path else st0, AF, AF, AF⟩
@[simp] theorem rpC_len (x : Rp) : (BH x).length = 17 := rfl
def Rp.ws (x : Rp) (w : Value) : Rp := ⟨x.xid, x.zx, x.err, x.path, x.data, x.st, x.aclV, x.kidsV, w⟩
def CU (e : Int) : Rp := ⟨0, 0, e, [], [], st0, AF, AF, AF⟩
def BI (τ : Tr) (e : En) : Rp := ⟨e.xid, e.zx, if e.x.kind = 8 then e.x.err else 0, (BE τ e.x).path, [], (BE τ e.x).st, AF, AF, AF⟩
def BD (τ : Tr) (e : En) : List Rp :=
 if e.x.kind = 7 then e.subs.map (BE τ) else if e.x.kind = 8 ∧ 0 ≤ e.x.num ∧ e.x.num < 8 then List.replicate e.x.num.toNat (CU 111) ++ [CU e.x.err] else []
theorem ML (t : Nat) (τ : Tr) (x : Pt) (N : Nat) (ho : τ.Ok N) (hN : N ≤ 1099511627776) (hx1 : AB x.aclV = true) (hx2 : AB x.subsV = true) : Fn prog 46 #[AI t, .agg (A1 x).toArray] [AZ t τ] fun v L => v = .agg (BH (BE τ x)).toArray ∧ L = [AZ t τ] := by
 refine Fn.intro func46 Y Y fun F W => ?_
 refine .sr (.oq (.box Y) ?_)
 rintro v L' ⟨b3, rfl, rfl⟩
 refine .oq (.allocA Ca) ?_
 rintro v L' ⟨b4, rfl, rfl⟩
 refine .nil (.pc b3 (A1 x) ?_)
 refine .then_n (.sr (.oq (.allocA Ca) ?_))
 rintro v L' ⟨b5, rfl, rfl⟩
 refine .nil (.pc b5 (BH Ul) ?_)
 refine .then_n (.seq (.sr (.fa Y Bz (.u (.ld Y AR) (.nt (.block (.sr (.ui Y Y Y (.an Y (.condD Y (fun h8 => ?_) (fun h8 => ?_)))))))))))
 ·refine .sr (.fa Y A7 (.u (.ld Y Ak) (.fa Y Zs (.oq (.store Y Y Y KP ?c13 (Bb _ _)) ?_))))
  case c13 => simp [BH, B6]
  rintro v L' rfl
  refine .nil (.pc b5 (BH ⟨0, 0, 0, x.path, [], st0, AF, AF, AF⟩) ?_)
  refine .then_n (.region (.m Y (.fa Y A7 (.u (.ld Y Ak) (.cv func76 [_, _] (BY t τ x.path N ho hN) ?_)))))
  refine .m Y (.ex Y Y (.ex Y Y (.fa Y HO (.sa Y Y DB (by simp [B6, AB]) ?_))))
  refine .nil (.pc b5 (BH ⟨0, 0, 0, x.path, [], (AS τ x.path), AF, AF, AF⟩) ?_)
  refine .blk_n (.then_n (.sr ?_))
  have e1 : (if x.kind = 1 then x.path else []) = x.path := by first | exact if_pos (by assumption) | exact if_neg (by assumption)
  have e2 : (if EX x.kind then AS τ x.path else st0) = (AS τ x.path) := by first | exact if_pos (by unfold EX; omega) | exact if_neg (by unfold EX; omega)
  refine .ptCast (b := b5) (l' := BH (BE τ x)) O (by unfold BE; rw [e1, e2]; try rfl) ?_
  refine .q (.la (BH (BE τ x)) Y BB) Y (.sa Y Y Bn (by simp [BH, B6, BE, AB]) ?_)
  refine .nil (.pc b4 (BH (BE τ x)) ?_)
  refine .then_n (.ret ?_)
  exact .d1 Y (.cellA Y BB O (by simp [DT, AW]) Y) ⟨Y, Y⟩
 refine .seq (.sr (.ui Y Y Y (.an Y (.dec (t := 21) Y (fun h21 => ?_) (fun h21 => ?_)))))
 ·refine .condT Y (.sk (.condT Y (.region (.m Y (.fa Y A7 (.u (.ld Y Ak) (.cv func76 [_, _] (BY t τ x.path N ho hN) ?_)))))))
  refine .m Y (.ex Y Y (.ex Y Y (.fa Y HO (.sa Y Y DB (by simp [B6, AB]) ?_))))
  refine .nil (.pc b5 (BH ⟨0, 0, 0, [], [], (AS τ x.path), AF, AF, AF⟩) ?_)
  refine .blk_n (.then_n (.sr ?_))
  have e1 : (if x.kind = 1 then x.path else []) = [] := by first | exact if_pos (by assumption) | exact if_neg (by assumption)
  have e2 : (if EX x.kind then AS τ x.path else st0) = (AS τ x.path) := by first | exact if_pos (by unfold EX; omega) | exact if_neg (by unfold EX; omega)
  refine .ptCast (b := b5) (l' := BH (BE τ x)) O (by unfold BE; rw [e1, e2]; try rfl) ?_
  refine .q (.la (BH (BE τ x)) Y BB) Y (.sa Y Y Bn (by simp [BH, B6, BE, AB]) ?_)
  refine .nil (.pc b4 (BH (BE τ x)) ?_)
  refine .then_n (.ret ?_)
  exact .d1 Y (.cellA Y BB O (by simp [DT, AW]) Y) ⟨Y, Y⟩
 refine .condF Y (.region (.ui Y Y Y (.an Y (.dec (t := 21) Y (fun h21 => ?_) (fun h21 => ?_)))))
 ·refine .condT Y (.region (.m Y (.fa Y A7 (.u (.ld Y Ak) (.cv func76 [_, _] (BY t τ x.path N ho hN) ?_)))))
  refine .m Y (.ex Y Y (.ex Y Y (.fa Y HO (.sa Y Y DB (by simp [B6, AB]) ?_))))
  refine .nil (.pc b5 (BH ⟨0, 0, 0, [], [], (AS τ x.path), AF, AF, AF⟩) ?_)
  refine .blk_n (.then_n (.sr ?_))
  have e1 : (if x.kind = 1 then x.path else []) = [] := by first | exact if_pos (by assumption) | exact if_neg (by assumption)
  have e2 : (if EX x.kind then AS τ x.path else st0) = (AS τ x.path) := by first | exact if_pos (by unfold EX; omega) | exact if_neg (by unfold EX; omega)
  refine .ptCast (b := b5) (l' := BH (BE τ x)) O (by unfold BE; rw [e1, e2]; try rfl) ?_
  refine .q (.la (BH (BE τ x)) Y BB) Y (.sa Y Y Bn (by simp [BH, B6, BE, AB]) ?_)
  refine .nil (.pc b4 (BH (BE τ x)) ?_)
  refine .then_n (.ret ?_)
  exact .d1 Y (.cellA Y BB O (by simp [DT, AW]) Y) ⟨Y, Y⟩
 refine .condF Y (.skip (.blk_n (.then_n (.sr ?_))))
 have e1 : (if x.kind = 1 then x.path else []) = [] := by first | exact if_pos (by assumption) | exact if_neg (by assumption)
 have e2 : (if EX x.kind then AS τ x.path else st0) = st0 := by first | exact if_pos (by unfold EX; omega) | exact if_neg (by unfold EX; omega)
 refine .ptCast (b := b5) (l' := BH (BE τ x)) O (by unfold BE; rw [e1, e2]; try rfl) ?_
 refine .q (.la (BH (BE τ x)) Y BB) Y (.sa Y Y Bn (by simp [BH, B6, BE, AB]) ?_)
 refine .nil (.pc b4 (BH (BE τ x)) ?_)
 refine .then_n (.ret ?_)
 exact .d1 Y (.cellA Y BB O (by simp [DT, AW]) Y) ⟨Y, Y⟩
end Go.Proofs.YtmbnebafdhpgpaaGreatDoor
/-
 DERIVED: THE SHELF's CONTRACTS AT THIS DUMP, IN PLAIN WORDS (tools/lay-plain.mjs out of 'YtmbnebafdhpgpaaGreatDoorLayB.lean', which tools/lay-shelf.mjs wrote): THE SAME DECLARATIONS UNDER THE SAME NAMES: 'import', 'namespace', 'open', 'def', 'theorem' AND NOTHING ELSE: no command of the shelf's: FOR A HAND-IN. Each laying: the table of numbers ('.._ren') and one theorem, a field a fact of the dump's own or the kernel's comparison; each Fy: ONE APPLICATION.
-/
namespace Go.Proofs
open Go List Go.Proofs.Tryz Go.Shelf
def Tryz.bmulA_ren : Go.Shelf.Ren := ⟨fun | 212 => 77 | 263 => 136 | 264 => 137 | n => n, fun | 46 => 160 | 51 => 219 | 146 => 220 | 53 => 180 | 148 => 222 | n => n, fun | n => n⟩
theorem Tryz.bmulA : Go.Proofs.Lays.n212 prog Tryz.bmulA_ren := {
 mixed := by kernel_rfl
 f212 := func77.trans (congrArg some (by kernel_rfl))
 f263 := func136.trans (congrArg some (by kernel_rfl))
 f264 := func137.trans (congrArg some (by kernel_rfl))
 t46 := underlying160
 a46 := Tryz.isAgg160
 z46 := Tryz.sizeOf160
 v46 := Tryz.zeroValue160
 t51 := underlying219
 a51 := Tryz.isAgg219
 z51 := Tryz.sizeOf219
 v51 := Tryz.zeroValue219
 t53 := underlying180
 a53 := Tryz.isAgg180
 z53 := Tryz.sizeOf180
 v53 := Tryz.zeroValue180
 t146 := underlying220
 a146 := Tryz.isAgg220
 z146 := Tryz.sizeOf220
 v146 := Tryz.zeroValue220
 t148 := underlying222
 a148 := Tryz.isAgg222
 z148 := Tryz.sizeOf222
 v148 := Tryz.zeroValue222 }
end Go.Proofs
namespace Go.Proofs.YtmbnebafdhpgpaaGreatDoor
open Go List Go.Proofs.Tryz Go.RowKit Go.Sort Go.Shelf
theorem AP.copyMe {P : Program} {E : Bx} {ty : TypeId} {dT sT e : TypeId} {x y : Operand} {b off dLen dCap so m mc sz by' : Nat} {l : List Value} {T : TypeId} {fr : Nat × Nat} {ts : Array TypeId} (hts : ts = #[dT, sT]) (hx : ev E x = some (.slice (some ⟨b, off, none⟩) dLen dCap)) (hy : ev E y = some (.slice (some ⟨b, so, none⟩) m mc)) (ht : Av P dT = some (e, sz, by'))
  (hcell : ∀ y ∈ l, AB y = true) (hso : so + m * sz ≤ l.length) (hmc : m ≤ mc) (hoff : off + dLen * sz ≤ l.length) (hf : S7 fr off (dLen * sz)) :
  AP P ⟨none, .call { callee := .builtin .copy, args := #[x, y], argTypes := ts }, ty, "", #[], none⟩ E [pt b (.cells l.toArray T fr)] fun v' L' => v' = AA (min m dLen : Nat) ∧ L' = [pt b (.cells (DT l off (((l.drop so).take (m * sz)).take (min m dLen * sz))).toArray T fr)] := by
 intro ρ w F ha hs
 subst hts
 have hbw : w.heap[b]? = some (.cells l.toArray T fr) := St.pt (L := F) hs
 have hru : LU sz (fun b => w.heap[b]?) (.slice (some ⟨b, so, none⟩) m mc) m ((l.drop so).take (m * sz)) := .inl (.inr ⟨b, so, mc, l, T, fr, rfl, hbw, rfl, hso, hmc⟩)
 unfold Av at ht
 split at ht <;> (try cases ht)
 rename_i e' hu
 split at ht <;> (try cases ht)
 rename_i inf hin
 have hlen : (Builtin.lenOf (.slice (some ⟨b, so, none⟩) m mc)).run P w = .ok m w := KH hru
 have hyl := GA hru
 have hfc : (Builtin.firstCells inf.size (min m dLen) (.slice (some ⟨b, so, none⟩) m mc)).run P w = .ok (((l.drop so).take (m * inf.size)).take (min m dLen * inf.size)).toArray w := Kt hru (Nat.min_le_left _ _)
 have hle2 : min m dLen * inf.size ≤ dLen * inf.size := Nat.mul_le_mul_right _ (Nat.min_le_right _ _)
 have hcl : (((l.drop so).take (m * inf.size)).take (min m dLen * inf.size)).length ≤ dLen * inf.size := by simp; omega
 have hrun : (execOp ρ ⟨none, .call { callee := .builtin .copy, args := #[x, y], argTypes := #[dT, sT] }, ty, "", #[], none⟩).run P w = .ok (.value (AA (min m dLen : Nat))) (upd w b (.cells (DT l off (((l.drop so).take (m * inf.size)).take (min m dLen * inf.size))).toArray T fr)) := by
  rw [CY]
  refine Bq ?_
  simp only [map_toArray, map_cons, map_nil]
  rw [ha x _ hx, ha y _ hy]
  unfold Builtin.copy_
  simp only [List.getElem?_toArray, List.getElem?_cons_zero, List.getElem?_cons_succ]
  rw [run_bind (AN hu)]
  dsimp only
  rw [run_bind hlen, run_bind (Bk (k := inf.size) (by simp [Aj, hin]))]
  rw [show Nat.min m dLen = min m dLen from rfl, run_bind hfc]
  have hst := Dc (P := P) (((l.drop so).take (m * inf.size)).take (min m dLen * inf.size)) w l off 0 hbw om (fun y hy => hcell y (mem_of_mem_drop (mem_of_mem_take (mem_of_mem_take hy)))) (fun i h1 h2 => hf i om om)
  dsimp only
  rw [run_bind hst]; rfl
 unfold C5; rw [hrun]
 exact ⟨_, ⟨rfl, rfl⟩, St.upd (L := F) hs, At.upd _ _ _⟩
theorem Vu (x y : Nat) (hx : x < 18446744073709551616) (hy : y < 18446744073709551616) : Fn prog 77 #[.int .u64 x, .int .u64 y] [] fun v L => v = .tuple #[.int .u64 ((x * y / 18446744073709551616 : Nat) : Int), .int .u64 ((x * y % 18446744073709551616 : Nat) : Int)] ∧ L = [] := by
 intro F w hs
 refine (Any.bits_Mul Tryz.bmulA x y hx hy w).mono ?_
 rintro e w' ⟨rfl, rfl⟩
 exact ⟨_, _, ⟨rfl, rfl⟩, rfl, hs, At.refl _⟩
open Go Go.RowKit Go.Sort Go.Shelf
def C4 (c : List Value) (n : Nat) : List Value := (List.replicate n c).flatten
theorem Da {c : List Value} {m : Nat} (h : c.length = m) (n : Nat) : (C4 c n).length = n * m := by
 unfold C4
 rw [length_flatten, map_replicate, sum_replicate_nat, h]
theorem Jk (c : List Value) (a b : Nat) : C4 c (a + b) = C4 c a ++ C4 c b := by
 unfold C4
 rw [← replicate_append_replicate, flatten_append]
theorem Uw {c : List Value} {m : Nat} (h : c.length = m) {a n : Nat} (ha : a ≤ n) : (C4 c n).take (a * m) = C4 c a := by
 obtain ⟨b, rfl⟩ : ∃ b, n = a + b := ⟨n - a, by omega⟩
 rw [Jk, ← Da h a, take_left']
 rfl
theorem Vo {c : List Value} {m : Nat} (h : c.length = m) {a n : Nat} (ha : a ≤ n) : (C4 c n).drop (a * m) = C4 c (n - a) := by
 obtain ⟨b, rfl⟩ : ∃ b, n = a + b := ⟨n - a, by omega⟩
 rw [Jk, ← Da h a, drop_left', show a + b - a = b by omega]
 rfl
def NF (c z : List Value) (k n : Nat) : List Value := C4 c n ++ C4 z (k - n)
theorem Q4 {c z : List Value} {m : Nat} (hc : c.length = m) (hz : z.length = m) {k n : Nat} (h : n ≤ k) : (NF c z k n).length = k * m := by
 unfold NF
 rw [length_append, Da hc, Da hz, ← Nat.add_mul]; congr 1; omega
theorem P2 {c z : List Value} {m : Nat} (hc : c.length = m) (hz : z.length = m) {k n j : Nat} (h : n ≤ k) (hj : j ≤ k - n) : DT (NF c z k n) (n * m) (C4 c j) = NF c z k (n + j) := by
 unfold DT NF
 have e1 : (C4 c n ++ C4 z (k - n)).take (n * m) = C4 c n := by rw [← Da hc n, take_left']; rfl
 have e2 : (C4 c n ++ C4 z (k - n)).drop (n * m + (C4 c j).length) = C4 z (k - (n + j)) := by
  rw [← drop_drop, ← Da hc n, drop_left' rfl, Da hc j, Vo hz hj]; congr 1; omega
 rw [e1, e2, Jk]
theorem Xe {c z : List Value} {m : Nat} (hc : c.length = m) {k n j : Nat} (hj : j ≤ n) : (((NF c z k n).drop 0).take (n * m)).take (j * m) = C4 c j := by
 unfold NF
 rw [drop_zero, ← Da hc n, take_left' rfl, Uw hc hj]
theorem Qb (c : List Value) : C4 c 1 = c := by simp [C4]
theorem Mm {c : List Value} (h : ∀ v ∈ c, AB v = true) (n : Nat) : ∀ v ∈ C4 c n, AB v = true := by
 intro v hv
 obtain ⟨l, hl, hv⟩ := mem_flatten.1 hv
 rw [eq_of_mem_replicate hl] at hv
 exact h v hv
theorem Qh {c : List Value} {m : Nat} (h : c.length = m) (hm : 0 < m) : ∀ (n i : Nat), i < n * m → (C4 c n)[i]? = c[i % m]?
 | 0, i, hi => by omega
 | n + 1, i, hi => by
  have e : C4 c (n + 1) = c ++ C4 c n := by rw [Nat.add_comm, Jk, Qb]
  rw [e]
  rcases Nat.lt_or_ge i m with g | g
  ·rw [List.getElem?_append_left om, Nat.mod_eq_of_lt g]
  ·rw [List.getElem?_append_right om, h, Qh h hm n (i - m) (by rw [Nat.add_mul] at hi; omega), Nat.mod_eq_sub_mod g]
theorem Ux {z : Value} {l : List Value} {sz n : Nat} (hz : z.cells = l.toArray) (hl : l.length = sz) (hs : 0 < sz) : (Array.range (n * sz)).map (fun i => z.cells[i % z.cells.size]!) = (C4 l n).toArray := by
 apply Array.ext
 ·simp [Da hl]
 ·intro i h1 h2
  have hi : i < n * sz := by simpa using h1
  have hlt : i % l.length < l.length := Nat.mod_lt _ om
  simp only [Array.getElem_map, Array.getElem_range, hz, size_toArray, getElem_toArray]
  rw [List.getElem!_toArray, getElem!_pos l (i % l.length) hlt]
  have := Qh hl hs n i hi
  rw [List.getElem?_eq_getElem (by simpa using h2), ← hl, List.getElem?_eq_getElem hlt] at this
  exact (Option.some.inj this).symm
theorem AP.makeZ {P : Program} {E : Bx} {ty : TypeId} {t e : TypeId} {x y : Operand} {i j : Int} {sz by' : Nat} {z : Value} {l : List Value} (hx : ev E x = some (AA i)) (hy : ev E y = some (AA j)) (ht : Av P t = some (e, sz, by')) (hz : Au P e = some z) (hzc : z.cells = l.toArray) (hl : 0 < sz ∧ l.length = sz)
  (hb : 0 ≤ i ∧ i ≤ j ∧ (by' : Int) * j ≤ 281474976710656 ∧ j ≤ 9223372036854775807) : AP P ⟨none, .makeSlice t x y, ty, "", #[], none⟩ E [] fun v L' => ∃ b, v = .slice (some ⟨b, 0, none⟩) i.toNat j.toNat ∧ L' = [Ad b (C4 l j.toNat) e] := by
 intro ρ w F ha hs
 unfold Av at ht
 split at ht <;> (try cases ht)
 rename_i e' hu
 split at ht <;> (try cases ht)
 rename_i inf hin
 obtain ⟨h0, h1, h2, h3⟩ := hb
 have hwi : IntKind.i64.wrap i = i := KG om
 have hwj : IntKind.i64.wrap j = j := KG om
 have hrun : (execOp ρ ⟨none, .makeSlice t x y, ty, "", #[], none⟩).run P w = .ok (.value (.slice (some ⟨w.heap.size, 0, none⟩) i.toNat j.toNat)) { w with heap := w.heap.push (.cells (C4 l j.toNat).toArray e) } := by
  refine Bq ?_
  show (Instr.makeSlice t (ρ x) (ρ y)).run P w = _
  rw [ha x _ hx, ha y _ hy]
  unfold Instr.makeSlice
  rw [run_bind (AN hu)]
  dsimp only
  have hti : (typeInfo e).run P w = .ok inf w := by simp [typeInfo, program, Bind.bind, Sem.bind, Pure.pure, Sem.run, hin]
  rw [run_bind (a := i) (w' := w) rfl, run_bind (a := j) (w' := w) rfl, run_bind hti]
  simp only [hwi, hwj]
  have c1 : ((decide (j < 0) || decide ((inf.bytes : Int) * j > 2 ^ 48)) || decide (i < 0) || decide (i > j)) = false := by
   simp only [Bool.or_eq_false_iff, decide_eq_false_iff_not]
   refine ⟨⟨⟨by omega, ?_⟩, by omega⟩, by omega⟩
   have : (2 : Int) ^ 48 = 281474976710656 := by decide
   omega
  rw [c1]
  simp only [Bool.false_eq_true, if_false]
  rw [run_bind (run_askRoom (P := P) (w := w) _), run_bind (Bk (k := inf.size) (by simp [Aj, hin]))]
  by_cases hn : j.toNat * inf.size = 0
  ·rw [if_pos hn, run_bind run_pure]
   rw [hn]
   have hj0 : j.toNat = 0 := by
    rcases Nat.eq_zero_or_pos j.toNat with g | g
    ·exact g
    ·have := Nat.mul_pos g hl.1; omega
   have he : (Array.range 0).map (fun x => (#[] : Array Value)[x % (#[] : Array Value).size]!) = (C4 l j.toNat).toArray := by rw [hj0]; simp [C4]
   rw [he, run_bind (Cz e _)]
   rfl
  ·rw [if_neg hn]
   rw [run_bind (Ef hz), run_bind run_pure, Ux hzc hl.2 hl.1, run_bind (Cz e _)]
   rfl
 unfold C5; rw [hrun]
 exact ⟨_, ⟨_, rfl, rfl⟩, St.new (L := F) hs _, At.new _ _⟩
theorem J9 : (BH Ul).length = 17 := rfl
theorem BM {x : Rp} (h1 : AB x.aclV = true) (h2 : AB x.kidsV = true) (h3 : AB x.subsV = true) : ∀ v ∈ BH x, AB v = true := by
 intro v hv
 have h : (BH x).all AB = true := by simp only [BH, B6, cons_append, nil_append, all_cons, all_nil, h1, h2, h3]; rfl
 exact all_eq_true.1 h v hv
theorem So {c z : List Value} (hc : ∀ v ∈ c, AB v = true) (hz : ∀ v ∈ z, AB v = true) (k n : Nat) : ∀ v ∈ NF c z k n, AB v = true := by
 intro v hv
 rcases mem_append.1 hv with h | h
 ·exact Mm hc _ v h
 ·exact Mm hz _ v h
theorem HA (x : Rp) (b0 k : Nat) (p : HP) (hr : ∀ h : Hp, p h → Cx 17 h (.slice (some ⟨b0, 0, none⟩) 1 1) 1 (BH x)) (hx : ∀ v ∈ BH x, AB v = true) (hk : k ≤ 8) : Fn prog 47 #[.slice (some ⟨b0, 0, none⟩) 1 1, AA (k : Nat)] [p] fun v L => (∃ b, v = .slice (some ⟨b, 0, none⟩) k k) ∧ L = [p, Af 41 17 v k (C4 (BH x) k)] := by
 refine Fn.intro func47 Y Y fun F W => ?_
 have hz0 : ∀ v ∈ BH Ul, AB v = true := BM rfl rfl rfl
 refine .sr (.an Y (.seq (.sm Y (.ui Y Y Y (.nt (.condD Y (fun h10 => ?_) (fun h10 => ?_)))))))
 ·exfalso; omega
 refine .sk (.sm Y (.q (.slen Y underlying39 Y) Y (.q (.as (v' := .int .u64 ((1 : Nat) : Int)) (by rfl) (.conv Y underlying3 underlying160)) Y (.m Y (.q (.as (v' := .int .u64 ((k : Nat) : Int)) (by show Value.int .u64 (IntKind.u64.wrap (k : Int)) = _; rw [show IntKind.u64.wrap (k : Int) = (k : Int) by (simp only [IntKind.wrap, IntKind.signed, IntKind.bits, Bool.false_and]; simp; omega)]) (.conv Y underlying3 underlying160)) Y (.oq (.c func77 [_, _] (Vu 1 k om om)) ?_))))))
 rintro v L' ⟨rfl, rfl⟩; rw [show (1 * k / 18446744073709551616 : Nat) = 0 by omega, show (1 * k % 18446744073709551616 : Nat) = k by omega]
 refine .m Y (.ex Y Y (.ex Y Y (.a Y (.an Y (.seq (.sm Y (.q (.as (v' := .bool false) (by rfl) (.int Y Y Y)) Y (.m Y (.gr (.m Y (.gr (.q (.as (v' := .bool false) (by exact congrArg Value.bool (decide_eq_false om)) (.int Y Y Y)) Y (.pF Y Y (.nt (.condF Y (.sk (.sm Y (.q (.as (v' := AA (k : Nat)) (by show Value.int .i64 (IntKind.i64.wrap (k : Int)) = _; rw [KG om]) (.conv Y underlying160 underlying3)) Y (.oq (.makeZ (l := BH Ul) Y Y Fw Ca Y ⟨by decide, rfl⟩ ⟨by omega, by omega, by omega, by omega⟩) ?_)))))))))))))))))))
 rintro v L' ⟨bm, rfl, rfl⟩; rw [Int.toNat_natCast]
 refine .an Y (.sm Y (.m Y (.oq (.copy (m := 1) (ys := BH x) (p := p) Y Y Y Fw ?h119 ?h220 ?h321 ?h422) ?_)))
 case h119 => exact hr
 case h220 => exact hx
 case h321 => rw [Da J9]; omega
 case h422 => exact Bb _ _
 rintro v L' ⟨rfl, rfl⟩
 refine .a Y (.nil (.ptCast (b := bm) (l' := NF (BH x) (BH Ul) k (min 1 k)) O (by rw [show (BH x).take (min 1 k * 17) = C4 (BH x) (min 1 k) by (rcases Nat.eq_zero_or_pos k with g | g; rw [g]; rfl; rw [Nat.min_eq_left g, Qb]; rfl)]; have := P2 (rpC_len x) J9 (k := k) (n := 0) (j := min 1 k) om om; rw [Nat.zero_mul, Nat.zero_add] at this; exact this) ?_))
 refine .then_n (.seq (.block (.loopK (ι := Nat) (fun q E => (8, AA (q : Nat)) :: E) (fun q => [Ad bm (NF (BH x) (BH Ul) k q) 41]) (fun q => q ≤ k ∧ (0 < k → 0 < q)) (fun q => k - q) (min 1 k) (ts := [4, 7]) O (⟨by omega, by omega⟩) O O ?_)))
 rintro n ⟨hn, hpos⟩
 refine .seq (.sm Y (.m Y (.q (.slen Y underlying39 Y) Y (.ui Y Y Y (.nt (.condD Y (fun h37 => ?_) (fun h37 => ?_)))))))
 ·have hn2 : n < k := by omega
  refine .sk (.block (.draw [7] [[0, 1, 2, 3, 4, 5, 6, 7], [8, 9]] mixed kQ (.g0 (.k Y (.move Y) (.mv Y Y (.mv Y Y (.kv Y (.to (v' := .slice (some ⟨bm, 0 + n * 17, none⟩) (k - n) (k - n)) (.slSlice (i := (n : Int)) (j := (k : Int)) Y Fw Y Y om) (by rw [Int.toNat_natCast, Int.toNat_natCast, if_neg om])) (.mv Y Y (.mv Y Y (.kv Y (.to (v' := .slice (some ⟨bm, 0, none⟩) n k) (.slTo Y Fw Y om (.inr ⟨_, _, Y⟩)) (by rw [Int.toNat_natCast])) (.hh Y (.copyMe (sz := 17) Y Y Y Fw ?h136 ?h237 ?h338 ?h439 ?h540) ?_)))))))))))
  case h136 => exact So hx hz0 k n
  case h237 => rw [Q4 (rpC_len x) J9 hn]; omega
  case h338 => exact hn
  case h439 => rw [Q4 (rpC_len x) J9 hn]; omega
  case h540 => exact Bb _ _
  rintro v L' ⟨rfl, rfl⟩
  refine D.ph (.g0 (.kv Y (.add Y Y om) (.kv Y (.assign Y) (.ph (.fin (.blk_n (.then_n (.ptCast (b := bm) (l' := NF (BH x) (BH Ul) k (n + min n (k - n))) O (by rw [Xe (rpC_len x) (Nat.min_le_left _ _), Nat.zero_add]; exact P2 (rpC_len x) J9 hn (Nat.min_le_right _ _)) ?_))))))))
  exact .rk (n + min n (k - n)) (⟨by omega, by omega⟩) om O
 have hnk : n = k := by omega
 subst hnk
 refine .slMakeN 17 n (b := bm) (xs := C4 (BH x) n) O (by show C4 (BH x) n ++ C4 _ (n - n) = _; rw [Nat.sub_self]; simp [C4]) (by exact Da (rpC_len x) n) (.xe (.sm Y (.an Y (.ret ?_))))
 exact .dn Y Y ⟨⟨_, Y⟩, Y⟩
end Go.Proofs.YtmbnebafdhpgpaaGreatDoor
