/- Own work, in part by program, for plainOnce.proved. -/
import Derived.Test.YtmbnebafdhpgpaaGreatDoorCVOnceP1
import Derived.Test.YtmbnebafdhpgpaaGreatDoorCVOnceP0
import Derived.Lib.ItoaNum
import Derived.Shelf.Strconv.Itoa3
import Derived.Shelf.Strings.Repeat
import Derived.Shelf.Strings.BuilderX
import Derived.Shelf.LaysM
import Derived.Ground.NamesProg
import Derived.Test.YtmbnebafdhpgpaaGreatDoorProg
import Derived.Lib.LaidTab
import Derived.Shelf.Bits.Mul64
import Derived.Sort.Walk0
set_option maxRecDepth 100000
namespace Go.Proofs.YtmbnebafdhpgpaaGreatDoor
open Go
theorem aindexbyte_spec (s : Bs) : Fn Tryz.prog 291 #[vstr s, .int .u8 58] [] fun v L => v = vint (idx58 s) ∧ L = [] := by
 refine Fn.intro Tryz.func291 rfl rfl fun F W => ?_
 refine .sr (.an rfl (.sm rfl (.m rfl (.q (.extern (e := Extern.BytealgIndexByte.indexByte) (vs := [_, .int .u8 58]) Tryz.func297 (by kernel_rfl) (by kernel_rfl) (by kernel_rfl) (by kernel_rfl) rfl (fun w => index58_run s w)) rfl (.an rfl (.ret ?_))))))
 exact .vv
theorem aindex_spec (s : Bs) : Fn Tryz.prog 281 #[vstr s, vstr [58]] [] fun v L => v = vint (idx58 s) ∧ L = [] := by
 refine Fn.intro Tryz.func281 rfl rfl fun F W => ?_
 refine .sr (.an rfl (.sm rfl (.q (.strlen rfl Tryz.underlying9 rfl) rfl (.an rfl (.seq (.block (.sm rfl (.q (.as (v' := .bool false) (by rfl) (.int rfl rfl rfl)) rfl (.m rfl (.grun (t := 19) rfl rfl rfl (.m rfl (.grun (t := 19) rfl rfl rfl (.m rfl (.grun (t := 19) rfl rfl rfl (.u (.streq rfl rfl) (.u (.pickF rfl rfl) (.an rfl (.condD rfl (fun h16 => ?_) (fun h16 => ?_)))))))))))))))))))
 ·refine .sr (.an rfl (.ret (.blk_r (.then_r ?_))))
  exact .dn rfl rfl ⟨by have e : s = [58] := (by first | exact h16.symm | exact (by simpa using h16.symm)); subst e; rfl, rfl⟩
 refine .sm rfl (.q (.as (v' := .bool true) (by rfl) (.int rfl rfl rfl)) rfl (.an rfl (.condT rfl (.sm rfl (.m rfl (.q (.strIndex (c := 58) rfl rfl Tryz.underlying9 (by simp) (by simp)) rfl (.cv Tryz.func291 [_, _] (aindexbyte_spec s) ?_)))))))
 refine .an rfl (.ret (.blk_r (.then_r ?_)))
 exact .vv
theorem acut0_spec (s : Bs) (hs : s.length ≤ 1048576) : Fn Tryz.prog 277 #[vstr s, vstr [58]] [] fun v L => v = .tuple #[vstr (if (58 : UInt8) ∈ s then colon1 s else s), vstr (if (58 : UInt8) ∈ s then colon2 s else []), .bool (decide ((58 : UInt8) ∈ s))] ∧ L = [] := by
 refine Fn.intro Tryz.func277 rfl rfl fun F W => ?_
 refine .sr (.a rfl (.a rfl (.an rfl (.seq (.sm rfl (.m rfl (.cv Tryz.func281 [_, _] (aindex_spec s) ?_)))))))
 refine .an rfl (.sm rfl (.ui rfl rfl rfl (.nt (.condD rfl (fun h12 => ?_) (fun h12 => ?_)))))
 ·have hm : (58 : UInt8) ∈ s := by rcases Decidable.em ((58 : UInt8) ∈ s) with g | g; exact g; rw [idx58_no g] at h12; omega
  obtain ⟨k, hk1, hk2, hk3, hk4⟩ := idx58_at hm
  rw [hk1]
  refine .seq (.draw [] [[0, 1, 2, 3, 4, 5, 6, 7, 8, 9, 10, 11]] mixed (by kernel_rfl) (.g0 (.mv rfl rfl (.mv rfl rfl (.kv rfl (.to (v' := vstr (colon1 s)) (.strTo rfl rfl Tryz.underlying9 (by omega)) (by rw [hk3]; congr 2)) (.mv rfl rfl (.mv rfl rfl (.mv rfl rfl (.kv rfl (.as (v' := vint 1) (by rfl) (.strlen rfl Tryz.underlying9 rfl)) (.kv rfl (.add rfl rfl (by omega)) (.kv rfl (.to (v' := vstr (colon2 s)) (.strFrom (i := (k : Int) + 1) rfl rfl Tryz.underlying9 (by omega)) (by rw [hk4]; congr 2)) (.kv rfl (.assign rfl) (.kv rfl (.assign rfl) (.kv rfl (.assign rfl) (.pf (.rt ?_))))))))))))))))
  rw [if_pos hm, if_pos hm, decide_eq_true hm]
  exact .vv
 refine .sk (.sm rfl (.a rfl (.a rfl (.an rfl (.ret ?_)))))
 have hm : ¬ (58 : UInt8) ∈ s := fun g => by obtain ⟨k, hk1, -⟩ := idx58_at g; rw [hk1] at h12; omega
 rw [if_neg hm, if_neg hm, decide_eq_false hm]
 exact .vv
theorem acut_spec (s : Bs) (hs : s.length ≤ 1048576) : Fn Tryz.prog 249 #[vstr s, vstr [58]] [] fun v L => v = .tuple #[vstr (if (58 : UInt8) ∈ s then colon1 s else s), vstr (if (58 : UInt8) ∈ s then colon2 s else []), .bool (decide ((58 : UInt8) ∈ s))] ∧ L = [] := by
 refine Fn.intro Tryz.func249 rfl rfl fun F W => ?_
 refine .sr (.a rfl (.a rfl (.an rfl (.sm rfl (.m rfl (.cv Tryz.func277 [_, _] (acut0_spec s hs) ?_))))))
 refine .u (.extract rfl rfl) (.u (.extract rfl rfl) (.u (.extract rfl rfl) (.a rfl (.a rfl (.an rfl (.ret ?_))))))
 exact .vv
theorem adig_spec (r : Int) : Fn Tryz.prog 173 #[.int .i32 r] [] fun v L => v = .bool (digT r) ∧ L = [] := by
 refine Fn.intro Tryz.func173 rfl rfl fun F W => ?_
 refine .sr (.an rfl (.sm rfl (.ui rfl rfl rfl (.m rfl (.dec (t := 5) rfl (fun h1_5 => ?_) (fun h1_5 => ?_))))))
 ·refine .kDT (t := 4) rfl h1_5 (.grun (t := 5) rfl rfl rfl (.m rfl (.grun (t := 5) rfl rfl rfl (.ui rfl rfl rfl (.u (.pickT rfl rfl) (.an rfl (.ret ?_)))))))
  exact .dn rfl rfl ⟨by unfold digT; first | (simp_all; done) | (simp_all; omega) | (simp; omega), rfl⟩
 refine .kDF (t := 4) rfl h1_5 (.gk (.gk (.u (.pickF rfl rfl) (.an rfl (.ret ?_)))))
 exact .dn rfl rfl ⟨by unfold digT; first | (simp_all; done) | (simp_all; omega) | (simp; omega), rfl⟩
theorem auser1_spec (r : Int) : Fn Tryz.prog 172 #[.int .i32 r] [] fun v L => v = .bool (userT r) ∧ L = [] := by
 refine Fn.intro Tryz.func172 rfl rfl fun F W => ?_
 refine .sr (.an rfl (.sm rfl (.cv Tryz.func173 [_] (adig_spec r) ?_)))
 refine .m rfl (.bool (t := 5) rfl (fun h1_5 => ?_) (fun h1_5 => ?_))
 ·refine .kB (t := 4) rfl h1_5 (.gk (.gk (.gk (.gskipU (t := 8) rfl rfl rfl (.gskipU (t := 8) rfl rfl rfl (.gk (.u (.pickT rfl rfl) (.an rfl (.ret ?_)))))))))
  exact .dn rfl rfl ⟨by unfold userT; first | (simp_all; done) | (simp_all; omega) | (simp; omega), rfl⟩
 refine .kB (t := 4) rfl h1_5 (.grun (t := 5) rfl rfl rfl (.m rfl (.grun (t := 5) rfl rfl rfl (.ui rfl rfl rfl (.grun (t := 5) rfl rfl rfl (.m rfl (.dec (t := 8) rfl (fun h1_8 => ?_) (fun h1_8 => ?_))))))))
 ·refine .kDT (t := 7) rfl h1_8 (.grun (t := 8) rfl rfl rfl (.m rfl (.grun (t := 8) rfl rfl rfl (.ui rfl rfl rfl (.grun (t := 5) rfl rfl rfl (.u (.pickT rfl rfl) (.u (.pickF rfl rfl) (.an rfl (.ret ?_)))))))))
  exact .dn rfl rfl ⟨by unfold userT; first | (simp_all; done) | (simp_all; omega) | (simp; omega), rfl⟩
 refine .kDF (t := 7) rfl h1_8 (.gk (.gk (.grun (t := 5) rfl rfl rfl (.u (.pickF rfl rfl) (.u (.pickF rfl rfl) (.an rfl (.ret ?_)))))))
 exact .dn rfl rfl ⟨by unfold userT; first | (simp_all; done) | (simp_all; omega) | (simp; omega), rfl⟩
theorem aid1_spec (r : Int) : Fn Tryz.prog 250 #[.int .i32 r] [] fun v L => v = .bool (hexT r) ∧ L = [] := by
 refine Fn.intro Tryz.func250 rfl rfl fun F W => ?_
 refine .sr (.an rfl (.sm rfl (.cv Tryz.func173 [_] (adig_spec r) ?_)))
 refine .m rfl (.bool (t := 5) rfl (fun h1_5 => ?_) (fun h1_5 => ?_))
 ·refine .kB (t := 4) rfl h1_5 (.gk (.gk (.gk (.gskipU (t := 8) rfl rfl rfl (.gskipU (t := 8) rfl rfl rfl (.gk (.u (.pickT rfl rfl) (.an rfl (.ret ?_)))))))))
  exact .dn rfl rfl ⟨by unfold hexT; first | (simp_all; done) | (simp_all; omega) | (simp; omega), rfl⟩
 refine .kB (t := 4) rfl h1_5 (.grun (t := 5) rfl rfl rfl (.m rfl (.grun (t := 5) rfl rfl rfl (.ui rfl rfl rfl (.grun (t := 5) rfl rfl rfl (.m rfl (.dec (t := 8) rfl (fun h1_8 => ?_) (fun h1_8 => ?_))))))))
 ·refine .kDT (t := 7) rfl h1_8 (.grun (t := 8) rfl rfl rfl (.m rfl (.grun (t := 8) rfl rfl rfl (.ui rfl rfl rfl (.grun (t := 5) rfl rfl rfl (.u (.pickT rfl rfl) (.u (.pickF rfl rfl) (.an rfl (.ret ?_)))))))))
  exact .dn rfl rfl ⟨by unfold hexT; first | (simp_all; done) | (simp_all; omega) | (simp; omega), rfl⟩
 refine .kDF (t := 7) rfl h1_8 (.gk (.gk (.grun (t := 5) rfl rfl rfl (.u (.pickF rfl rfl) (.u (.pickF rfl rfl) (.an rfl (.ret ?_)))))))
 exact .dn rfl rfl ⟨by unfold hexT; first | (simp_all; done) | (simp_all; omega) | (simp; omega), rfl⟩
theorem aindexf_spec (fv : Value) (s : Bs) (U : Int → Bool) (Q : HP) (hT : ∀ r : Int, 128 ≤ r → U r = true) (hf : ∀ r : Int, FunV Tryz.prog fv [.int .i32 r] [Q] (fun v L => v = .bool (U r) ∧ L = [Q])) : Fn Tryz.prog 255 #[vstr s, fv, .bool true] [Q] fun v L => (∃ k : Int, v = vint k ∧ decide (k < 0) = s.all (fun c : UInt8 => !U (c.toNat : Int))) ∧ L = [Q] := by
 refine Fn.intro Tryz.func255 rfl rfl fun F W => ?_
 refine .sr (.an rfl (.seq (.sm rfl (.oq (.rangeS rfl Tryz.underlying9) ?_))))
 rintro v L' ⟨it, rfl, rfl⟩
 refine .nt (.block (.loopK (ι := Nat) (fun q E => E) (fun q => [runeR it s q]) (fun q => q ≤ s.length ∧ (s.take q).all (fun c : UInt8 => !U (c.toNat : Int)) = true) (fun q => s.length - q) (0) (ts := [1, 2, 10]) (.cons rfl (.cons rfl (.cons rfl (.nil)))) (⟨Nat.zero_le _, rfl⟩) ⟨rfl, rfl, rfl, trivial⟩ (by repeat' constructor) ?_))
 rintro pos ⟨hp, hall⟩
 refine .sr (.oq (.nextS rfl) ?_)
 rintro v L' (⟨rfl, hpos, rfl⟩ | ⟨hpos, rfl, rfl⟩)
 ·refine .u (.extract rfl rfl) (.nt (.seq (.condF rfl (.exit (.then_e (.then_e (.blk_e (.then_n (.sr (.an rfl (.ret ?_)))))))))))
  exact .dn rfl rfl ⟨⟨_, rfl, by rw [decide_eq_true (by decide)]; symm; rw [List.take_of_length_le (by omega)] at hall; exact hall⟩, rfl⟩
 refine .u (.extract rfl rfl) (.nt (.seq (.condT rfl (.sk (.block (.sr ?_))))))
 rcases Nat.lt_or_ge (s[pos]).toNat 128 with hlo | hhi
 ·rw [decode_low hpos hlo]
  dsimp only
  refine .u (.extract rfl rfl) (.u (.extract rfl rfl) (.a rfl (.an rfl (.sm rfl (.m rfl (.oq (.callD (vs := [_]) rfl rfl (hf ((s[pos]).toNat : Int))) ?_))))))
  rintro v L' ⟨rfl, rfl⟩
  refine .m rfl (.q (.booleq rfl rfl Tryz.underlying4) rfl (.nt (.condB rfl (fun h19 => ?_) (fun h19 => ?_))))
  ·refine .sm rfl (.an rfl (.ret (.blk_r (.then_r (.blk_r (.then_r ?_))))))
   exact .dn rfl rfl ⟨⟨_, rfl, by rw [decide_eq_false (by omega)]; symm; exact all_bad (T := fun c : UInt8 => !U (c.toNat : Int)) hpos (by simpa using h19)⟩, rfl⟩
  refine .skip (.blk_n (.then_n ?_))
  exact .rk (pos + 1) (⟨by omega, all_step (T := fun c : UInt8 => !U (c.toNat : Int)) hpos hall (by simpa using h19)⟩) (by omega) ⟨rfl, rfl, rfl, trivial⟩
 obtain ⟨hd1, hd2⟩ := decode_high hpos (by omega)
 generalize Utf8.decode (bs s) pos = dc at *
 refine .u (.extract rfl rfl) (.u (.extract rfl rfl) (.a rfl (.an rfl (.sm rfl (.m rfl (.oq (.callD (vs := [_]) rfl rfl (hf (dc.1 : Int))) ?_))))))
 rintro v L' ⟨rfl, rfl⟩
 refine .m rfl (.q (.booleq rfl rfl Tryz.underlying4) rfl (.nt (.condB rfl (fun h19 => ?_) (fun h19 => ?_))))
 ·refine .sm rfl (.an rfl (.ret (.blk_r (.then_r (.blk_r (.then_r ?_))))))
  exact .dn rfl rfl ⟨⟨_, rfl, by rw [decide_eq_false (by omega)]; symm; exact all_bad (T := fun c : UInt8 => !U (c.toNat : Int)) hpos (by rw [hT _ (by omega)]; rfl)⟩, rfl⟩
 exfalso; rw [hT _ (by omega)] at h19; exact absurd h19 (by decide)
theorem aindexF_spec (fv : Value) (s : Bs) (U : Int → Bool) (Q : HP) (hT : ∀ r : Int, 128 ≤ r → U r = true) (hf : ∀ r : Int, FunV Tryz.prog fv [.int .i32 r] [Q] (fun v L => v = .bool (U r) ∧ L = [Q])) : Fn Tryz.prog 222 #[vstr s, fv] [Q] fun v L => (∃ k : Int, v = vint k ∧ decide (k < 0) = s.all (fun c : UInt8 => !U (c.toNat : Int))) ∧ L = [Q] := by
 refine Fn.intro Tryz.func222 rfl rfl fun F W => ?_
 refine .sr (.an rfl (.sm rfl (.m rfl (.oq (.c Tryz.func255 [_, _, _] (aindexf_spec fv s U Q hT hf)) ?_))))
 rintro v L' ⟨⟨k, rfl, hk⟩, rfl⟩
 refine .an rfl (.ret ?_)
 exact .dn rfl rfl ⟨⟨k, rfl, hk⟩, rfl⟩
theorem ag_f1 : aggOf Tryz.prog 234 = some none := by kernel_rfl
theorem aonly1_spec (b : Nat) (fv : Value) (T : Int → Bool) (hf : ∀ r : Int, FunV Tryz.prog fv [.int .i32 r] [] (fun v L => v = .bool (T r) ∧ L = [])) (r : Int) : Fn Tryz.prog 223 #[.int .i32 r, vptr b] [ptc b [fv] 234] fun v L => v = .bool (!T r) ∧ L = [ptc b [fv] 234] := by
 refine Fn.intro Tryz.func223 rfl rfl fun F W => ?_
 refine .sr (.an rfl (.sr (.q (.load rfl ag_f1 (by repeat' constructor) rfl) rfl (.m rfl (.oq (.callD (vs := [_]) rfl rfl (hf r)) ?_)))))
 rintro v L' ⟨rfl, rfl⟩
 refine .u (.not rfl) (.an rfl (.ret ?_))
 exact .dn rfl rfl ⟨rfl, rfl⟩
theorem aonly_spec (fv : Value) (s : Bs) (T : Int → Bool) (hT : LowT T) (hf : ∀ r : Int, FunV Tryz.prog fv [.int .i32 r] [] (fun v L => v = .bool (T r) ∧ L = [])) : Fn Tryz.prog 171 #[vstr s, fv] [] fun v L => v = .bool (s.all fun c : UInt8 => T (c.toNat : Int)) ∧ L = [] := by
 refine Fn.intro Tryz.func171 rfl rfl fun F W => ?_
 refine .sr (.oq (.box rfl) ?_)
 rintro v L' ⟨b3, rfl, rfl⟩
 refine .a rfl (.nil (.ptCast (b := b3) (l' := [fv]) (by repeat' constructor) (only_cells (hf 0)) ?_))
 refine .then_n (.sm rfl (.q (.func (us := []) (vs := [_]) rfl rfl) rfl (.oq (.c Tryz.func222 [_, _] (aindexF_spec _ s (fun r => !T r) (ptc b3 [fv] 234) (fun r hr => by rw [hT.high r hr]; rfl) (fun r => FunV.of (us := []) (ws := [vptr b3]) Tryz.func223 rfl rfl (aonly1_spec b3 fv T hf r)))) ?_)))
 rintro v L' ⟨⟨k, rfl, hk⟩, rfl⟩
 refine .ui rfl rfl rfl (.an rfl (.ret ?_))
 exact .dn rfl rfl ⟨by rw [hk]; congr 2; funext c; rw [Bool.not_not], rfl⟩
theorem auser_spec (s : Bs) : Fn Tryz.prog 94 #[vstr s] [] fun v L => v = .bool (userZ s) ∧ L = [] := by
 refine Fn.intro Tryz.func94 rfl rfl fun F W => ?_
 refine .sr (.an rfl (.sm rfl (.u (.strne rfl rfl) (.m rfl (.ndec (t := 5) rfl (fun h1_5 => ?_) (fun h1_5 => ?_))))))
 ·refine .kNT (t := 4) rfl h1_5 (.grun (t := 5) rfl rfl rfl (.m rfl (.grun (t := 5) rfl rfl rfl (.q (.strlen rfl Tryz.underlying9 rfl) rfl (.grun (t := 5) rfl rfl rfl (.ui rfl rfl rfl (.u (.pickT rfl rfl) (.m rfl (.dec (t := 10) rfl (fun h1_10 => ?_) (fun h1_10 => ?_))))))))))
  ·refine .kDT (t := 8) rfl h1_10 (.kDT (t := 9) rfl h1_10 (.grun (t := 10) rfl rfl rfl (.m rfl (.grun (t := 10) rfl rfl rfl (.cv Tryz.func171 [_, _] (aonly_spec _ s userT userT_low (fun r => FunV.of (us := []) (ws := []) Tryz.func172 rfl rfl (auser1_spec r))) ?_)))))
   refine .u (.pickT rfl rfl) (.an rfl (.ret ?_))
   exact .dn rfl rfl ⟨by rw [userZ_eq]; first | (simp_all; done) | (simp_all; (try intro _); omega), rfl⟩
  refine .kDF (t := 8) rfl h1_10 (.kDF (t := 9) rfl h1_10 (.gk (.gk (.u (.pickF rfl rfl) (.an rfl (.ret ?_))))))
  exact .dn rfl rfl ⟨by rw [userZ_eq]; first | (simp_all; done) | (simp_all; (try intro _); omega), rfl⟩
 refine .kNF (t := 4) rfl h1_5 (.gk (.gk (.gk (.u (.pickF rfl rfl) (.m rfl (.gk (.gk (.u (.pickF rfl rfl) (.an rfl (.ret ?_))))))))))
 exact .dn rfl rfl ⟨by rw [userZ_eq]; first | (simp_all; done) | (simp_all; (try intro _); omega), rfl⟩
theorem aisid_spec (s : Bs) (hs : s.length ≤ 1048576) : Fn Tryz.prog 219 #[vstr s] [] fun v L => v = .bool (isIDZ s) ∧ L = [] := by
 refine Fn.intro Tryz.func219 rfl rfl fun F W => ?_
 refine .sr (.an rfl (.sm rfl (.cv Tryz.func249 [_, _] (acut_spec s hs) ?_)))
 refine .m rfl (.u (.extract rfl rfl) (.u (.extract rfl rfl) (.u (.extract rfl rfl) (.a rfl (.a rfl (.an rfl (.sm rfl (.u (.streq rfl rfl) (.m rfl (.dec (t := 14) rfl (fun h2_14 => ?_) (fun h2_14 => ?_)))))))))))
 ·refine .kDT (t := 13) rfl h2_14 (.gk (.gk (.gskipU (t := 16) rfl rfl rfl (.gskipU (t := 16) rfl rfl rfl (.gk (.gk (.gskipU (t := 20) rfl rfl rfl (.gskipU (t := 20) rfl rfl rfl (.gskipU (t := 20) rfl rfl rfl (.gk (.gk (.gskipU (t := 25) rfl rfl rfl (.gskipU (t := 25) rfl rfl rfl (.gk (.u (.pickT rfl rfl) (.an rfl (.ret ?_)))))))))))))))))
  exact .dn rfl rfl ⟨by rw [isID_eq]; first | (simp_all [worldB]; done) | (simp_all [worldB]; (try intro _); omega), rfl⟩
 refine .kDF (t := 13) rfl h2_14 (.grun (t := 14) rfl rfl rfl (.m rfl (.grun (t := 14) rfl rfl rfl (.m rfl (.bool (t := 16) rfl (fun h2_16 => ?_) (fun h2_16 => ?_))))))
 ·refine .kB (t := 11) rfl h2_16 (.kB (t := 5) rfl h2_16 (.kB (t := 15) rfl h2_16 (.grun (t := 16) rfl rfl rfl (.m rfl (.grun (t := 16) rfl rfl rfl (.cv Tryz.func94 [_] (auser_spec _) ?_))))))
  refine .grun (t := 14) rfl rfl rfl (.u (.pickT rfl rfl) (.grun (t := 14) rfl rfl rfl (.m rfl (.bool (t := 20) rfl (fun h2_20 => ?_) (fun h2_20 => ?_)))))
  ·refine .kB (t := 18) rfl h2_20 (.kB (t := 19) rfl h2_20 (.grun (t := 20) rfl rfl rfl (.m rfl (.grun (t := 20) rfl rfl rfl (.q (.strlen rfl Tryz.underlying9 rfl) rfl (.grun (t := 20) rfl rfl rfl (.ui rfl rfl rfl (.grun (t := 14) rfl rfl rfl (.u (.pickT rfl rfl) (.grun (t := 14) rfl rfl rfl (.m rfl (.dec (t := 25) rfl (fun h2_25 => ?_) (fun h2_25 => ?_)))))))))))))
   ·refine .kDT (t := 23) rfl h2_25 (.kDT (t := 24) rfl h2_25 (.grun (t := 25) rfl rfl rfl (.m rfl (.grun (t := 25) rfl rfl rfl (.cv Tryz.func171 [_, _] (aonly_spec _ _ hexT hexT_low (fun r => FunV.of (us := []) (ws := []) Tryz.func250 rfl rfl (aid1_spec r))) ?_)))))
    refine .grun (t := 14) rfl rfl rfl (.u (.pickT rfl rfl) (.u (.pickF rfl rfl) (.an rfl (.ret ?_))))
    exact .dn rfl rfl ⟨by rw [isID_eq]; first | (simp_all [worldB]; done) | (simp_all [worldB]; (try intro _); omega), rfl⟩
   refine .kDF (t := 23) rfl h2_25 (.kDF (t := 24) rfl h2_25 (.gk (.gk (.grun (t := 14) rfl rfl rfl (.u (.pickF rfl rfl) (.u (.pickF rfl rfl) (.an rfl (.ret ?_))))))))
   exact .dn rfl rfl ⟨by rw [isID_eq]; first | (simp_all [worldB]; done) | (simp_all [worldB]; (try intro _); omega), rfl⟩
  refine .kB (t := 18) rfl h2_20 (.kB (t := 19) rfl h2_20 (.gk (.gk (.gk (.grun (t := 14) rfl rfl rfl (.u (.pickF rfl rfl) (.grun (t := 14) rfl rfl rfl (.m rfl (.gk (.gk (.grun (t := 14) rfl rfl rfl (.u (.pickF rfl rfl) (.u (.pickF rfl rfl) (.an rfl (.ret ?_)))))))))))))))
  exact .dn rfl rfl ⟨by rw [isID_eq]; first | (simp_all [worldB]; done) | (simp_all [worldB]; (try intro _); omega), rfl⟩
 refine .kB (t := 11) rfl h2_16 (.kB (t := 5) rfl h2_16 (.kB (t := 15) rfl h2_16 (.gk (.gk (.grun (t := 14) rfl rfl rfl (.u (.pickF rfl rfl) (.grun (t := 14) rfl rfl rfl (.m rfl (.gk (.gk (.gk (.grun (t := 14) rfl rfl rfl (.u (.pickF rfl rfl) (.grun (t := 14) rfl rfl rfl (.m rfl (.gk (.gk (.grun (t := 14) rfl rfl rfl (.u (.pickF rfl rfl) (.u (.pickF rfl rfl) (.an rfl (.ret ?_))))))))))))))))))))))
 exact .dn rfl rfl ⟨by rw [isID_eq]; first | (simp_all [worldB]; done) | (simp_all [worldB]; (try intro _); omega), rfl⟩
theorem abad_spec (a : Ac) (hs : a.2.length ≤ 1048576) : Fn Tryz.prog 218 #[.agg (acC a).toArray] [] fun v L => v = .bool (badAc a) ∧ L = [] := by
 refine Fn.intro Tryz.func218 rfl rfl fun F W => ?_
 refine .sr (.oq (.box rfl) ?_)
 rintro v L' ⟨b1, rfl, rfl⟩
 refine .a rfl (.nil (.pc b1 (acC a) ?_))
 refine .then_n (.sr (.u (.fieldAddr rfl fo_75_0) (.u (.ld rfl ag_3) (.ui rfl rfl rfl (.m rfl (.dec (t := 6) rfl (fun h1_6 => ?_) (fun h1_6 => ?_)))))))
 ·refine .kDT (t := 5) rfl h1_6 (.gk (.gk (.gk (.u (.pickT rfl rfl) (.m rfl (.gk (.gk (.gk (.gk (.u (.pickT rfl rfl) (.an rfl (.ret ?_))))))))))))
  exact .dn rfl rfl ⟨by unfold badAc; first | (simp_all; done) | (simp_all; omega), rfl⟩
 refine .kDF (t := 5) rfl h1_6 (.grun (t := 6) rfl rfl rfl (.u (.fieldAddr rfl fo_75_0) (.grun (t := 6) rfl rfl rfl (.u (.ld rfl ag_3) (.grun (t := 6) rfl rfl rfl (.ui rfl rfl rfl (.u (.pickF rfl rfl) (.m rfl (.dec (t := 11) rfl (fun h1_11 => ?_) (fun h1_11 => ?_))))))))))
 ·refine .kDT (t := 9) rfl h1_11 (.kDT (t := 10) rfl h1_11 (.gk (.gk (.gk (.gk (.u (.pickT rfl rfl) (.an rfl (.ret ?_))))))))
  exact .dn rfl rfl ⟨by unfold badAc; first | (simp_all; done) | (simp_all; omega), rfl⟩
 refine .kDF (t := 9) rfl h1_11 (.kDF (t := 10) rfl h1_11 (.grun (t := 11) rfl rfl rfl (.u (.fieldAddr rfl fo_75_1) (.grun (t := 11) rfl rfl rfl (.u (.ld rfl ag_9) (.grun (t := 11) rfl rfl rfl (.cv Tryz.func219 [_] (aisid_spec a.2 hs) ?_)))))))
 refine .grun (t := 11) rfl rfl rfl (.u (.not rfl) (.u (.pickF rfl rfl) (.an rfl (.ret ?_))))
 exact .dn rfl rfl ⟨by unfold badAc; first | (simp_all; done) | (simp_all; omega), rfl⟩
theorem aidx_spec (v : Value) (l : List Ac) (p : HP) (hr : ∀ h : Hp, p h → rdS 2 h v l.length (l.flatMap acC)) (hl : l.length ≤ 4294967296) (hs : ∀ a ∈ l, a.2.length ≤ 1048576) : Fn Tryz.prog 251 #[v, .func (.func 218) #[] #[]] [p] fun u L => (∃ r : Int, u = vint r ∧ (decide (r ≥ 0) = l.any badAc)) ∧ L = [p] := by
 refine Fn.intro Tryz.func251 rfl rfl fun F W => ?_
 refine .rdAny (p := p) hr (by repeat' constructor) fun aa ca e _ => ?_
 subst e
 refine .sr (.an rfl (.seq (.sm rfl (.q (.slen rfl Tryz.underlying30 rfl) rfl (.m rfl (.nt (.block (.loopK (ι := Nat) (fun q E => (8, vint q) :: E) (fun q => []) (fun q => q ≤ l.length ∧ ∀ j (hj : j < q) (hl : j < l.length), badAc l[j] = false) (fun q => l.length - q) (0) (ts := [0, 1, 7]) (.cons rfl (.cons rfl (.cons rfl (.nil)))) (⟨Nat.zero_le _, fun j hj => by omega⟩) ⟨rfl, rfl, rfl, rfl, trivial⟩ (by repeat' constructor) ?_))))))))
 rintro i ⟨hi, hb⟩
 refine .sr (.ui rfl rfl rfl (.nt (.seq (.condD rfl (fun h9 => ?_) (fun h9 => ?_)))))
 ·have hi2 : i < l.length := by omega
  refine .rdShape (p := p) hr (by repeat' constructor) (by omega) fun ba oa e => ?_
  subst e
  refine .sk (.seq (.block (.sm rfl (.an rfl (.sm rfl (.m rfl (.m rfl (.q (.indexAddr rfl rfl el_30 (by omega)) rfl (.q (.loadRdA (sz := 2) (j := i * 2) (k := 2) (p := p) (vs := acC l[i]) rfl ag_75 (by repeat' constructor) hr (by simp) (by omega) (by omega) (flatMap_at (f := acC) (sz := 2) (fun _ _ => rfl) (by omega))) rfl (.oq (.callV Tryz.func218 rfl rfl (us := []) (vs := [_]) (ws := []) rfl rfl (abad_spec l[i] (hs _ (List.getElem_mem hi2)))) ?_))))))))))
  rintro v L' ⟨rfl, rfl⟩
  refine .nt (.condB rfl (fun h16 => ?_) (fun h16 => ?_))
  ·refine .sm rfl (.an rfl (.ret (.blk_r (.then_r (.then_r (.blk_r (.then_r ?_)))))))
   exact .dn rfl rfl ⟨⟨_, rfl, by rw [decide_eq_true (by omega)]; exact (List.any_eq_true.2 ⟨l[i], List.getElem_mem hi2, h16⟩).symm⟩, rfl⟩
  refine .skip (.blk_n (.then_n (.region (.q (.add rfl rfl (by omega)) rfl (.m rfl (.nt ?_))))))
  exact .rk (i + 1) (⟨by omega, fun j hj hl => by rcases Nat.lt_or_ge j i with h | h; exact hb j h hl; obtain rfl : j = i := (by omega); exact h16⟩) (by omega) ⟨rfl, rfl, rfl, rfl, trivial⟩
 refine .exit (.then_e (.then_e (.blk_e (.then_n (.sr (.an rfl (.ret ?_)))))))
 exact .dn rfl rfl ⟨⟨_, rfl, by rw [decide_eq_false (by decide)]; symm; rw [List.any_eq_false]; intro s hs; obtain ⟨j, hj, rfl⟩ := List.mem_iff_getElem.1 hs; rw [hb j (by omega) hj]; decide⟩, rfl⟩
theorem acont_spec (v : Value) (l : List Ac) (p : HP) (hr : ∀ h : Hp, p h → rdS 2 h v l.length (l.flatMap acC)) (hl : l.length ≤ 4294967296) (hs : ∀ a ∈ l, a.2.length ≤ 1048576) : Fn Tryz.prog 220 #[v, .func (.func 218) #[] #[]] [p] fun u L => u = .bool (l.any badAc) ∧ L = [p] := by
 refine Fn.intro Tryz.func220 rfl rfl fun F W => ?_
 refine .sr (.an rfl (.sm rfl (.m rfl (.oq (.c Tryz.func251 [_, _] (aidx_spec v l p hr hl hs)) ?_))))
 rintro v' L' ⟨⟨r, rfl, hrl⟩, rfl⟩
 refine .ui rfl rfl rfl (.an rfl (.ret ?_))
 exact .dn rfl rfl ⟨congrArg Value.bool hrl, rfl⟩
theorem aright_spec (v : Value) (l : List Ac) (p : HP) (hr : ∀ h : Hp, p h → rdS 2 h v l.length (l.flatMap acC)) (hl : l.length ≤ 4294967296) (hs : ∀ a ∈ l, a.2.length ≤ 1048576) : Fn Tryz.prog 146 #[v] [p] fun u L => u = .bool (rightZ l) ∧ L = [p] := by
 refine Fn.intro Tryz.func146 rfl rfl fun F W => ?_
 refine .rdAny (p := p) hr (by repeat' constructor) fun aa ca e _ => ?_
 subst e
 refine .sr (.an rfl (.sr (.an rfl (.sm rfl (.q (.slen rfl Tryz.underlying30 rfl) rfl (.ui rfl rfl rfl (.m rfl (.dec (t := 7) rfl (fun h2_7 => ?_) (fun h2_7 => ?_)))))))))
 ·refine .kDT (t := 6) rfl h2_7 (.grun (t := 7) rfl rfl rfl (.m rfl (.grun (t := 7) rfl rfl rfl (.q (.slen rfl Tryz.underlying30 rfl) rfl (.grun (t := 7) rfl rfl rfl (.ui rfl rfl rfl (.u (.pickT rfl rfl) (.m rfl (.dec (t := 12) rfl (fun h2_12 => ?_) (fun h2_12 => ?_))))))))))
  ·refine .kDT (t := 10) rfl h2_12 (.kDT (t := 11) rfl h2_12 (.grun (t := 12) rfl rfl rfl (.m rfl (.grun (t := 12) rfl rfl rfl (.m rfl (.grun (t := 12) rfl rfl rfl (.cv Tryz.func220 [_, _] (acont_spec _ l p hr hl hs) ?_)))))))
   refine .grun (t := 12) rfl rfl rfl (.u (.not rfl) (.u (.pickT rfl rfl) (.an rfl (.ret ?_))))
   exact .dn rfl rfl ⟨by unfold rightZ; first | (simp_all; done) | (simp_all; omega), rfl⟩
  refine .kDF (t := 10) rfl h2_12 (.kDF (t := 11) rfl h2_12 (.gk (.gk (.gk (.gk (.u (.pickF rfl rfl) (.an rfl (.ret ?_))))))))
  exact .dn rfl rfl ⟨by unfold rightZ; first | (simp_all; done) | (simp_all; omega), rfl⟩
 refine .kDF (t := 6) rfl h2_7 (.gk (.gk (.gk (.u (.pickF rfl rfl) (.m rfl (.gk (.gk (.gk (.gk (.u (.pickF rfl rfl) (.an rfl (.ret ?_))))))))))))
 exact .dn rfl rfl ⟨by unfold rightZ; first | (simp_all; done) | (simp_all; omega), rfl⟩
theorem asidx_spec (va : Value) (ids : List Bs) (q : HP) (hq : ∀ h : Hp, q h → rdS 1 h va ids.length (strs ids)) (hn : ids.length ≤ 4294967296) (s : Bs) : Fn Tryz.prog 97 #[va, vstr s] [q] fun u L => (∃ r : Int, u = vint r ∧ (decide (r ≥ 0) = decide (s ∈ ids))) ∧ L = [q] := by
 refine Fn.intro Tryz.func97 rfl rfl fun F W => ?_
 refine .rdAny (p := q) hq (by repeat' constructor) fun aa ca e _ => ?_
 subst e
 refine .sr (.an rfl (.seq (.sm rfl (.q (.slen rfl Tryz.underlying38 rfl) rfl (.m rfl (.nt (.block (.loopK (ι := Nat) (fun q E => (8, vint q) :: E) (fun q => []) (fun q => q ≤ ids.length ∧ s ∉ ids.take q) (fun q => ids.length - q) (0) (ts := [0, 1, 7]) (.cons rfl (.cons rfl (.cons rfl (.nil)))) (⟨Nat.zero_le _, by simp⟩) ⟨rfl, rfl, rfl, rfl, trivial⟩ (by repeat' constructor) ?_))))))))
 rintro i ⟨hi, hb⟩
 refine .sr (.ui rfl rfl rfl (.nt (.seq (.condD rfl (fun h9 => ?_) (fun h9 => ?_)))))
 ·have hi2 : i < ids.length := by omega
  refine .rdShape (p := q) hq (by repeat' constructor) (by omega) fun ba oa e => ?_
  subst e
  refine .sk (.seq (.block (.sm rfl (.an rfl (.sm rfl (.m rfl (.m rfl (.q (.indexAddr rfl rfl el_38 (by omega)) rfl (.q (.loadEl (p := q) (i := i * 1) (v := vstr ids[i]) rfl ag_9 (by repeat' constructor) hq (by simp [strs, hi2])) rfl (.u (.streq rfl rfl) (.nt (.condD rfl (fun h16 => ?_) (fun h16 => ?_)))))))))))))
  ·refine .sm rfl (.an rfl (.ret (.blk_r (.then_r (.then_r (.blk_r (.then_r ?_)))))))
   exact .dn rfl rfl ⟨⟨_, rfl, by rw [decide_eq_true (by omega), decide_eq_true (by rw [h16]; exact List.getElem_mem hi2)]⟩, rfl⟩
  refine .skip (.blk_n (.then_n (.region (.q (.add rfl rfl (by omega)) rfl (.m rfl (.nt ?_))))))
  exact .rk (i + 1) (⟨by omega, by rw [List.take_succ_eq_append_getElem hi2, List.mem_append, List.mem_singleton]; rintro (g | g); exact hb g; exact h16 g⟩) (by omega) ⟨rfl, rfl, rfl, rfl, trivial⟩
 refine .exit (.then_e (.then_e (.blk_e (.then_n (.sr (.an rfl (.ret ?_)))))))
 exact .dn rfl rfl ⟨⟨_, rfl, by rw [decide_eq_false (by decide), decide_eq_false (by rw [List.take_of_length_le (by omega)] at hb; exact hb)]⟩, rfl⟩
theorem ascont_spec (va : Value) (ids : List Bs) (q : HP) (hq : ∀ h : Hp, q h → rdS 1 h va ids.length (strs ids)) (hn : ids.length ≤ 4294967296) (s : Bs) : Fn Tryz.prog 53 #[va, vstr s] [q] fun u L => u = .bool (decide (s ∈ ids)) ∧ L = [q] := by
 refine Fn.intro Tryz.func53 rfl rfl fun F W => ?_
 refine .sr (.an rfl (.sm rfl (.m rfl (.oq (.c Tryz.func97 [_, _] (asidx_spec va ids q hq hn s)) ?_))))
 rintro v' L' ⟨⟨r, rfl, hrl⟩, rfl⟩
 refine .ui rfl rfl rfl (.an rfl (.ret ?_))
 exact .dn rfl rfl ⟨congrArg Value.bool hrl, rfl⟩
theorem given_step (ids : List Bs) {l : List Ac} {i : Nat} (h : i < l.length) : givenZ ids (l.take (i + 1)) = if hitsA ids l[i] = true then orI (givenZ ids (l.take i)) l[i].1 else givenZ ids (l.take i) := by
 unfold givenZ
 rw [List.take_succ_eq_append_getElem h, List.foldl_append]; rfl
theorem amay_spec (v : Value) (l : List Ac) (p : HP) (hr : ∀ h : Hp, p h → rdS 2 h v l.length (l.flatMap acC)) (hl : l.length ≤ 4294967296) (perm : Int) (va : Value) (ids : List Bs) (q : HP) (hq : ∀ h : Hp, q h → rdS 1 h va ids.length (strs ids)) (hn : ids.length ≤ 4294967296) : Fn Tryz.prog 170 #[v, vint perm, va] [p, q] fun u L => u = .bool (mayZ l perm ids) ∧ L = [p, q] := by
 refine Fn.intro Tryz.func170 rfl rfl fun F W => ?_
 refine .rdAny (p := p) hr (by repeat' constructor) fun aa ca e _ => ?_
 subst e
 refine .sr (.an rfl (.sr (.an rfl (.seq (.sm rfl (.q (.slen rfl Tryz.underlying30 rfl) rfl (.m rfl (.nt (.block (.loopK (ι := Nat) (fun q E => (12, vint q) :: (7, vint (givenZ ids (l.take q))) :: E) (fun q => []) (fun q => q ≤ l.length) (fun q => l.length - q) (0) (ts := [1, 2, 6, 10, 11]) (.cons rfl (.cons rfl (.cons rfl (.cons rfl (.cons rfl (.nil)))))) (Nat.zero_le _) ⟨rfl, rfl, rfl, rfl, rfl, rfl, rfl, trivial⟩ (by repeat' constructor) ?_))))))))))
 rintro i hi
 refine .sr (.ui rfl rfl rfl (.nt (.seq (.condD rfl (fun h13 => ?_) (fun h13 => ?_)))))
 ·have hi2 : i < l.length := by omega
  refine .rdShape (p := p) hr (by repeat' constructor) (by omega) fun ba oa e => ?_
  subst e
  refine .sk (.seq (.block (.sr (.q (.indexAddr rfl rfl el_30 (by omega)) rfl (.q (.loadRdA (sz := 2) (j := i * 2) (k := 2) (p := p) (vs := acC l[i]) rfl ag_75 (by repeat' constructor) hr (by simp) (by omega) (by omega) (flatMap_at (f := acC) (sz := 2) (fun _ _ => rfl) (by omega))) rfl (.oq (.allocA ze_75) ?_))))))
  rintro v L' ⟨b9, rfl, rfl⟩
  refine .sa rfl rfl sz_75 (by simp [acC, isCell]) ?_
  refine .nil (.pc b9 (acC l[i]) ?_)
  refine .then_n (.sr (.u (.fieldAddr rfl fo_75_1) (.u (.ld rfl ag_9) (.u (.streq rfl rfl) (.m rfl (.dec (t := 19) rfl (fun h5_19 => ?_) (fun h5_19 => ?_)))))))
  ·refine .kDT (t := 18) rfl h5_19 (.gk (.gk (.gk (.gk (.u (.pickT rfl rfl) (.nt (.condT rfl (.region (.m rfl (.u (.fieldAddr rfl fo_75_0) (.u (.ld rfl ag_3) (.u (.or rfl rfl) (.a rfl (.nil (.blk_n (.then_n (.region (.q (.add rfl rfl (by omega)) rfl (.m rfl (.nt ?_))))))))))))))))))))
   have hg : givenZ ids (l.take (i + 1)) = orI (givenZ ids (l.take i)) l[i].1 := by rw [given_step ids hi2, if_pos (by unfold hitsA worldB; first | (simp_all; done))]
   rw [show IntKind.i64.wrap (BitVec.ofInt IntKind.i64.bits (givenZ ids (l.take i)) ||| BitVec.ofInt IntKind.i64.bits l[i].1).toNat = givenZ ids (l.take (i + 1)) from hg.symm]
   exact .rk (i + 1) (by omega) (by omega) ⟨rfl, rfl, rfl, rfl, rfl, rfl, rfl, trivial⟩
  refine .kDF (t := 18) rfl h5_19 (.grun (t := 19) rfl rfl rfl (.m rfl (.grun (t := 19) rfl rfl rfl (.u (.fieldAddr rfl fo_75_1) (.grun (t := 19) rfl rfl rfl (.u (.ld rfl ag_9) (.grun (t := 19) rfl rfl rfl (.cv Tryz.func53 [_, _] (ascont_spec va ids q hq hn l[i].2) ?_))))))))
  refine .u (.pickF rfl rfl) (.nt (.condB rfl (fun h24 => ?_) (fun h24 => ?_)))
  ·refine .region (.m rfl (.u (.fieldAddr rfl fo_75_0) (.u (.ld rfl ag_3) (.u (.or rfl rfl) (.a rfl (.nil (.blk_n (.then_n (.region (.q (.add rfl rfl (by omega)) rfl (.m rfl (.nt ?_))))))))))))
   have hg : givenZ ids (l.take (i + 1)) = orI (givenZ ids (l.take i)) l[i].1 := by rw [given_step ids hi2, if_pos (by unfold hitsA worldB; first | (simp_all; done))]
   rw [show IntKind.i64.wrap (BitVec.ofInt IntKind.i64.bits (givenZ ids (l.take i)) ||| BitVec.ofInt IntKind.i64.bits l[i].1).toNat = givenZ ids (l.take (i + 1)) from hg.symm]
   exact .rk (i + 1) (by omega) (by omega) ⟨rfl, rfl, rfl, rfl, rfl, rfl, rfl, trivial⟩
  refine .skip (.blk_n (.then_n (.region (.q (.add rfl rfl (by omega)) rfl (.m rfl (.nt ?_))))))
  have hg : givenZ ids (l.take (i + 1)) = givenZ ids (l.take i) := by rw [given_step ids hi2, if_neg (by unfold hitsA worldB; first | (simp_all; done))]
  rw [← hg]
  exact .rk (i + 1) (by omega) (by omega) ⟨rfl, rfl, rfl, rfl, rfl, rfl, rfl, trivial⟩
 have hie : i = l.length := by omega
 rw [hie, List.take_length]
 refine .exit (.then_e (.then_e (.blk_e (.then_n (.sm rfl (.ui rfl rfl rfl (.m rfl (.dec (t := 32) rfl (fun h8_32 => ?_) (fun h8_32 => ?_)))))))))
 ·refine .kDT (t := 31) rfl h8_32 (.grun (t := 32) rfl rfl rfl (.m rfl (.grun (t := 32) rfl rfl rfl (.ui rfl rfl rfl (.u (.pickT rfl rfl) (.m rfl (.dec (t := 36) rfl (fun h8_36 => ?_) (fun h8_36 => ?_))))))))
  ·refine .kDT (t := 34) rfl h8_36 (.kDT (t := 35) rfl h8_36 (.grun (t := 36) rfl rfl rfl (.m rfl (.grun (t := 36) rfl rfl rfl (.m rfl (.grun (t := 36) rfl rfl rfl (.u (.andNot rfl rfl) (.grun (t := 36) rfl rfl rfl (.ui rfl rfl rfl (.u (.pickT rfl rfl) (.an rfl (.ret ?_))))))))))))
   exact .dn rfl rfl ⟨by unfold mayZ lessI; first | (simp_all; done) | (simp_all; rfl) | (simp_all; intros; omega), rfl⟩
  refine .kDF (t := 34) rfl h8_36 (.kDF (t := 35) rfl h8_36 (.gk (.gk (.gk (.gk (.u (.pickF rfl rfl) (.an rfl (.ret ?_))))))))
  exact .dn rfl rfl ⟨by unfold mayZ lessI; first | (simp_all; done) | (simp_all; rfl) | (simp_all; intros; omega), rfl⟩
 refine .kDF (t := 31) rfl h8_32 (.gk (.gk (.u (.pickF rfl rfl) (.m rfl (.gk (.gk (.gk (.gk (.u (.pickF rfl rfl) (.an rfl (.ret ?_)))))))))))
 exact .dn rfl rfl ⟨by unfold mayZ lessI; first | (simp_all; done) | (simp_all; rfl) | (simp_all; intros; omega), rfl⟩
def bysL (s : Bs) : List Value := s.map vbyte
abbrev bytR (v : Value) (s : Bs) : HP := slR 5 1 v s.length (bysL s)
theorem bysL_append (s t : Bs) : bysL (s ++ t) = bysL s ++ bysL t := by simp [bysL]
theorem bysL_cell (s : Bs) : ∀ y ∈ bysL s, isCell y = true := by
 intro y hy; obtain ⟨c, -, rfl⟩ := List.mem_map.1 hy; rfl
def sevZ (u : Nat) : Bs := if u < 128 then [UInt8.ofNat u] else UInt8.ofNat (u % 128 + 128) :: sevZ (u / 128)
 termination_by u
 decreasing_by omega
def zigZ (n : Int) : Nat := if 0 ≤ n then (2 * n).toNat else (2 * (-(n + 1)) + 1).toNat
def numB (n : Int) : Bs := sevZ (zigZ n)
def cntB (n : Nat) : Bs := sevZ n
def txtB (s : Bs) : Bs := cntB s.length ++ s
abbrev U64 : Nat := 18446744073709551616
theorem zig_lt {n : Int} (h : -9223372036854775808 ≤ n ∧ n ≤ 9223372036854775807) : zigZ n < U64 := by
 unfold zigZ U64; split <;> omega
theorem sev_len (u : Nat) : 0 < (sevZ u).length := by unfold sevZ; split <;> simp
theorem sev_len_le : ∀ (k u : Nat), u < 128 ^ k → 0 < k → (sevZ u).length ≤ k := by
 intro k
 induction k with
 | zero => intro u _ h; omega
 | succ k ih =>
  intro u h _
  unfold sevZ
  split
  ·simp
  ·rename_i h1
   have h2 : u / 128 < 128 ^ k := by rw [Nat.pow_succ] at h; omega
   have h3 : 0 < k := by
    rcases Nat.eq_zero_or_pos k with rfl | h3
    ·simp at h; omega
    ·exact h3
   have := ih _ h2 h3
   rw [List.length_cons]; omega
theorem sev_len10 {u : Nat} (h : u < U64) : (sevZ u).length ≤ 10 := sev_len_le 10 u (Nat.lt_of_lt_of_le h (by decide)) (by decide)
theorem u8_ofNat {u : Nat} (h : u < 256) : (UInt8.ofNat u).toNat = u := by
 rw [UInt8.toNat_ofNat']; exact Nat.mod_eq_of_lt h
/-! ### A reader's state: what is still to be read, or that something was wrong -/
abbrev I64 (n : Int) : Prop := -9223372036854775808 ≤ n ∧ n ≤ 9223372036854775807
abbrev nilV : Value := .slice none 0 0
def acB (a : Ac) : Bs := numB a.1 ++ txtB a.2
def aclB (l : List Ac) : Bs := cntB l.length ++ l.flatMap acB
def ptB (y : Pt) : Bs := numB y.kind ++ txtB y.path ++ txtB y.data ++ aclB y.acl ++ [y.own, y.num, y.err].flatMap numB
def Pt.pl (y : Pt) : Pt := ⟨y.kind, y.path, y.data, nilV, y.acl, y.own, y.num, y.err, nilV⟩
/-! ### Readings, whatever the state -/
/-! ### What may be laid -/
structure AcI (a : Ac) : Prop where
 n : I64 a.1
 s : a.2.length < U64
structure PtI (y : Pt) : Prop where
 kind : I64 y.kind
 own : I64 y.own
 num : I64 y.num
 err : I64 y.err
 path : y.path.length < U64
 data : y.data.length < U64
 many : y.acl.length < U64
 acl : ∀ a ∈ y.acl, AcI a
/-! ### What is read was laid so -/
def wrR (w : Nat) (bs : Bs) : HP := fun h => ∃ y : Option Addr × Nat, True ∧ sep [ptc w [.slice y.1 bs.length y.2, vint 0] 252, bytR (.slice y.1 bs.length y.2) bs] h
section
variable {P : Program} {W : World} {n : Nat} {ds : List Deferred} {E : Env} {L R : List HP} {X : Act → World → Prop}
theorem G.wrOpen {w : Nat} {bs : Bs} (hL : Pick (wrR w bs) L R) (h : ∀ a c, G W n ds E (ptc w [.slice a bs.length c, vint 0] 252 :: bytR (.slice a bs.length c) bs :: R) X) : G W n ds E L X :=
 G.focus hL (G.open (q := fun y : Option Addr × Nat => [ptc w [.slice y.1 bs.length y.2, vint 0] 252, bytR (.slice y.1 bs.length y.2) bs]) (φ := fun _ => True) (fun _ hp => hp) fun y _ => h y.1 y.2)
theorem G.wrFold {w : Nat} (bs : Bs) {l xs : List Value} {a : Option Addr} {c m : Nat} (hL : Picks [ptc w l 252, slR 5 1 (.slice a m c) m xs] L R) (hl : l = [.slice a m c, vint 0]) (hm : m = bs.length) (hx : xs = bysL bs) (h : G W n ds E (wrR w bs :: R) X) : G W n ds E L X := by
 subst hl; subst hm; subst hx
 exact G.fold hL (fun _ hp => ⟨(a, c), trivial, hp⟩) h
end
/-! ### Bits -/
theorem u64wrap (x : Int) : IntKind.u64.wrap x = x % 18446744073709551616 := rfl
theorem u8wrap (x : Int) : IntKind.u8.wrap x = x % 256 := rfl
theorem bv8_or : ∀ b : BitVec 8, (b ||| 128#8).toNat = b.toNat % 128 + 128 := by decide +kernel
theorem byte_or (u : Nat) : Value.int .u8 (IntKind.u8.wrap (BitVec.ofInt IntKind.u8.bits (IntKind.u8.wrap (u : Int)) ||| BitVec.ofInt IntKind.u8.bits 128).toNat) = vbyte (UInt8.ofNat (u % 128 + 128)) := by
 show Value.int .u8 _ = Value.int .u8 _
 congr 1
 have h : (BitVec.ofInt 8 (IntKind.u8.wrap (u : Int)) ||| BitVec.ofInt 8 128).toNat = u % 128 + 128 := by
  rw [show BitVec.ofInt 8 128 = 128#8 from rfl, bv8_or, BitVec.toNat_ofInt, u8wrap]
  omega
 show IntKind.u8.wrap ((BitVec.ofInt 8 (IntKind.u8.wrap (u : Int)) ||| BitVec.ofInt 8 128).toNat : Int) = _
 rw [h, u8wrap, u8_ofNat (by omega)]
 omega
theorem byte_low {u : Nat} (h : u < 128) : Value.int .u8 (IntKind.u8.wrap (u : Int)) = vbyte (UInt8.ofNat u) := by
 show Value.int .u8 _ = Value.int .u8 _
 rw [u8wrap, u8_ofNat (by omega)]
 congr 1; omega
theorem zig_bits {n : Int} (h : -9223372036854775808 ≤ n ∧ n ≤ 9223372036854775807) : IntKind.u64.wrap (BitVec.ofInt IntKind.u64.bits (IntKind.u64.wrap (IntKind.u64.wrap n * 2 ^ min (1 : Int).toNat IntKind.u64.bits)) ^^^ BitVec.ofInt IntKind.u64.bits (IntKind.u64.wrap (n.fdiv (2 ^ min (63 : Int).toNat IntKind.i64.bits)))).toNat = (zigZ n : Int) := by
 have e1 : (2 : Int) ^ min (1 : Int).toNat IntKind.u64.bits = 2 := rfl
 have e2 : (2 : Int) ^ min (63 : Int).toNat IntKind.i64.bits = 9223372036854775808 := rfl
 rw [e1, e2, Int.fdiv_eq_ediv_of_nonneg _ (by decide)]
 show IntKind.u64.wrap ((BitVec.ofInt 64 (IntKind.u64.wrap (IntKind.u64.wrap n * 2)) ^^^ BitVec.ofInt 64 (IntKind.u64.wrap (n / 9223372036854775808))).toNat : Int) = _
 unfold zigZ
 by_cases h0 : 0 ≤ n
 ·rw [if_pos h0, show n / 9223372036854775808 = 0 by omega, show BitVec.ofInt 64 (IntKind.u64.wrap 0) = 0#64 from rfl, BitVec.xor_zero, BitVec.toNat_ofInt, u64wrap, u64wrap, u64wrap]
  omega
 ·rw [if_neg h0, show n / 9223372036854775808 = -1 by omega, show BitVec.ofInt 64 (IntKind.u64.wrap (-1)) = BitVec.allOnes 64 from rfl, BitVec.xor_allOnes, BitVec.toNat_not, BitVec.toNat_ofInt, u64wrap, u64wrap, u64wrap]
  omega
theorem cput_spec (w : Nat) (bs cs : Bs) (va : Value) (p : HP) (hp : ∀ h : Hp, p h → rdS 1 h va cs.length (bysL cs)) (hl : bs.length + cs.length ≤ 70368744177664) : Fn Tryz.prog 236 #[vptr w, va] [wrR w bs, p] fun v L => v = .tuple #[] ∧ L = [wrR w (bs ++ cs), p] := by
 refine Fn.intro Tryz.func236 rfl rfl fun F W => ?_
 refine .wrOpen (by repeat' constructor) fun wa wc => (.region (.m rfl (.m rfl (.nf rfl fo_244_0 (.u (.ld rfl ag_181) (.m rfl (.oq (.append (n := bs.length) (m := cs.length) (ys := bysL cs) (p := p) rfl rfl rfl el_181 (.inl ⟨_, Tryz.underlying181⟩) ze_5 rfl rfl ?hc7 hp ?hb8 (by decide)) ?_)))))))
 case hc7 => exact bysL_cell _
 case hb8 => omega
 rintro v L' ⟨⟨a6, c6, rfl⟩, rfl⟩
 refine .nf rfl fo_244_0 (.st rfl rfl rfl sz_181 ?_)
 refine .nil (.done_n (.wrFold (w := w) (bs ++ cs) (a := a6) (c := c6) (by repeat' constructor) (by rfl) (by simp) (by rw [bysL_append]) ?_))
 exact .vv
theorem sev_step {u : Nat} (h : 127 < u) (bs : Bs) : bs ++ [UInt8.ofNat (u % 128 + 128)] ++ sevZ (u / 128) = bs ++ sevZ u := by
 rw [sevZ.eq_1 u, if_neg (by omega), List.append_assoc]; rfl
theorem sev_last {u : Nat} (h : ¬ 127 < u) (bs : Bs) : bs ++ [UInt8.ofNat u] = bs ++ sevZ u := by
 rw [sevZ.eq_1 u, if_pos (by omega)]
theorem shr7 (u : Nat) : Value.int .u64 ((u : Int).fdiv (2 ^ min (7 : Int).toNat IntKind.u64.bits)) = .int .u64 ((u / 128 : Nat) : Int) := by
 have e1 : (2 : Int) ^ min (7 : Int).toNat IntKind.u64.bits = 128 := rfl
 rw [e1, Int.fdiv_eq_ediv_of_nonneg _ (by decide)]; rfl
theorem csevens_spec (w : Nat) (bs0 : Bs) (u0 : Nat) (hu : u0 < U64) (hl : bs0.length ≤ 70368744177568) : Fn Tryz.prog 235 #[vptr w, .int .u64 u0] [wrR w bs0] fun v L => v = .tuple #[] ∧ L = [wrR w (bs0 ++ sevZ u0)] := by
 refine Fn.intro Tryz.func235 rfl rfl fun F W => ?_
 have hs10 := sev_len10 hu
 refine .seq (.block (.loopK (ι := Nat × Bs) (fun q E => (1, .int .u64 q.1) :: E) (fun q => [wrR w q.2]) (fun q => q.1 ≤ u0 ∧ q.2 ++ sevZ q.1 = bs0 ++ sevZ u0) (fun q => q.1) (u0, bs0) (ts := [0]) (.cons rfl (.nil)) (⟨Nat.le_refl _, rfl⟩) ⟨rfl, rfl, trivial⟩ (by repeat' constructor) ?_))
 rintro ⟨u, bs⟩ ⟨hu0, heq⟩
 dsimp only
 dsimp only at hu0 heq
 have hbl := congrArg List.length heq
 simp only [List.length_append] at hbl
 have hsl := sev_len u
 refine .seq (.sm rfl (.ui rfl rfl rfl (.nt (.condD rfl (fun h5 => ?_) (fun h5 => ?_)))))
 ·have h127 : 127 < u := by omega
  refine .sk (.seq (.block (.region (.m rfl (.nf rfl fo_252_0 (.m rfl (.q (.conv rfl Tryz.underlying180 Tryz.underlying5) rfl (.q (.as (v' := vbyte (UInt8.ofNat (u % 128 + 128))) (by exact byte_or u) (.or rfl rfl)) rfl (.oq (.buildSlice1 (vs := [_]) el_181 ze_5 rfl rfl rfl rfl rfl (by decide)) ?_)))))))))
  rintro v L' ⟨b2, rfl, rfl⟩
  refine .slMake (b := b2) (n := 1) (c := 1) (xs := [vbyte (UInt8.ofNat (u % 128 + 128))]) (by repeat' constructor) (by decide) (by simp) rfl (.oq (.call Tryz.func236 rfl rfl (vs := [_, _]) rfl (cput_spec w bs [(UInt8.ofNat (u % 128 + 128))] _ (slR 5 1 (.slice (some ⟨b2, 0, none⟩) 1 1) 1 [vbyte (UInt8.ofNat (u % 128 + 128))]) (fun h hp => slR_rd hp) (by simp; omega))) ?_)
  rintro v L' ⟨rfl, rfl⟩
  refine .nil (.blk_n (.then_n (.region (.m rfl (.q (.as (v' := .int .u64 ((u / 128 : Nat) : Int)) (by exact shr7 u) (.shr rfl rfl (by first | decide | omega))) rfl (.an rfl ?_))))))
  exact .rk ((u / 128, bs ++ [(UInt8.ofNat (u % 128 + 128))])) (⟨by dsimp only; omega, by dsimp only; rw [sev_step (by omega)]; exact heq⟩) (by dsimp only; omega) ⟨rfl, rfl, trivial⟩
 have h127 : ¬ 127 < u := by omega
 refine .exit (.then_e (.then_e (.blk_e (.then_n (.region (.m rfl (.nf rfl fo_252_0 (.m rfl (.q (.as (v' := vbyte (UInt8.ofNat u)) (by exact byte_low (by omega)) (.conv rfl Tryz.underlying180 Tryz.underlying5)) rfl (.oq (.buildSlice1 (vs := [_]) el_181 ze_5 rfl rfl rfl rfl rfl (by decide)) ?_))))))))))
 rintro v L' ⟨b3, rfl, rfl⟩
 refine .slMake (b := b3) (n := 1) (c := 1) (xs := [vbyte (UInt8.ofNat u)]) (by repeat' constructor) (by decide) (by simp) rfl (.oq (.call Tryz.func236 rfl rfl (vs := [_, _]) rfl (cput_spec w bs [(UInt8.ofNat u)] _ (slR 5 1 (.slice (some ⟨b3, 0, none⟩) 1 1) 1 [vbyte (UInt8.ofNat u)]) (fun h hp => slR_rd hp) (by simp; omega))) ?_)
 rintro v L' ⟨rfl, rfl⟩
 refine .nil (.done_n ?_)
 rw [sev_last h127, heq]
 exact .vv
theorem cnum_spec (w : Nat) (bs : Bs) (n : Int) (hn : -9223372036854775808 ≤ n ∧ n ≤ 9223372036854775807) (hl : bs.length ≤ 70368744177568) : Fn Tryz.prog 190 #[vptr w, vint n] [wrR w bs] fun v L => v = .tuple #[] ∧ L = [wrR w (bs ++ numB n)] := by
 refine Fn.intro Tryz.func190 rfl rfl fun F W => ?_
 have hz := zig_lt hn
 refine .region (.m rfl (.m rfl (.q (.conv rfl Tryz.underlying3 Tryz.underlying180) rfl (.q (.shl rfl rfl (by first | decide | omega)) rfl (.m rfl (.q (.shr rfl rfl (by first | decide | omega)) rfl (.q (.conv rfl Tryz.underlying3 Tryz.underlying180) rfl (.q (.as (v' := .int .u64 (zigZ n : Nat)) (by exact congrArg (Value.int .u64) (zig_bits hn)) (.xor rfl rfl)) rfl (.oq (.c Tryz.func235 [_, _] (csevens_spec _ _ _ ?hu9 ?hl10)) ?_)))))))))
 case hu9 => assumption
 case hl10 => omega
 rintro v L' ⟨rfl, rfl⟩
 refine .nil (.done_n ?_)
 exact .vv
theorem ccount_spec (w : Nat) (bs : Bs) (n : Nat) (hn : n ≤ 70368744177664) (hl : bs.length ≤ 70368744177568) : Fn Tryz.prog 194 #[vptr w, vint n] [wrR w bs] fun v L => v = .tuple #[] ∧ L = [wrR w (bs ++ cntB n)] := by
 refine Fn.intro Tryz.func194 rfl rfl fun F W => ?_
 have hz : n < U64 := by unfold U64; omega
 refine .region (.m rfl (.m rfl (.u (.max2 rfl rfl) (.q (.as (v' := .int .u64 (n : Nat)) (by exact congrArg (Value.int .u64) (by rw [u64wrap]; omega)) (.conv rfl Tryz.underlying3 Tryz.underlying180)) rfl (.oq (.c Tryz.func235 [_, _] (csevens_spec _ _ _ ?hu5 ?hl6)) ?_)))))
 case hu5 => assumption
 case hl6 => omega
 rintro v L' ⟨rfl, rfl⟩
 refine .nil (.done_n ?_)
 exact .vv
theorem ctext_spec (w : Nat) (bs s : Bs) (hl : bs.length + s.length ≤ 70368744177368) : Fn Tryz.prog 191 #[vptr w, vstr s] [wrR w bs] fun v L => v = .tuple #[] ∧ L = [wrR w (bs ++ txtB s)] := by
 refine Fn.intro Tryz.func191 rfl rfl fun F W => ?_
 have hc : (cntB s.length).length ≤ 10 := sev_len10 (by unfold U64; omega)
 refine .sm rfl (.m rfl (.q (.strlen rfl Tryz.underlying9 rfl) rfl (.oq (.c Tryz.func194 [_, _] (ccount_spec _ _ _ ?hn4 ?hb5)) ?_)))
 case hn4 => first | assumption | omega
 case hb5 => omega
 rintro v L' ⟨rfl, rfl⟩
 refine .nt (.region (.m rfl (.nf rfl fo_252_0 (.m rfl (.oq (.strBytes rfl Tryz.underlying9 Tryz.underlying181 Tryz.underlying5) ?_)))))
 rintro v L' ⟨rfl, b8, c8, rfl⟩
 refine .oq (.call Tryz.func236 rfl rfl (vs := [_, _]) rfl (cput_spec w (bs ++ cntB s.length) s _ (slR 5 1 (.slice (some ⟨b8, 0, none⟩) s.length c8) s.length (s.map vbyte)) (fun h hp => slR_rd hp) (by simp; omega))) ?_
 rintro v L' ⟨rfl, rfl⟩
 refine .nil (.done_n ?_)
 rw [List.append_assoc]
 exact .vv
def badB (k : Nat) (c : UInt8) : Prop := (k = 9 ∧ 1 < c.toNat) ∨ (c.toNat = 0 ∧ 0 < k)
instance (k : Nat) (c : UInt8) : Decidable (badB k c) := inferInstanceAs (Decidable (_ ∨ _))
def Pt.ws (y : Pt) (v : Value) : Pt := ⟨y.kind, y.path, y.data, y.aclV, y.acl, y.own, y.num, y.err, v⟩
def aclR (y : Pt) : HP := slR 75 2 y.aclV y.acl.length (y.acl.flatMap acC)
def subsR (e : En) : HP := slR 60 8 e.x.subsV e.subs.length (e.subs.flatMap ptC)
def entR (e : En) : HP := sep [aclR e.x, subsR e, bigR aclR e.subs]
structure PtW (p : HP) (y : Pt) : Prop where
 i : PtI y
 acl : ∀ h : Hp, p h → rdS 2 h y.aclV y.acl.length (y.acl.flatMap acC)
theorem fm_take {α : Type} (f : α → Bs) (l : List α) (j : Nat) : ((l.take j).flatMap f).length ≤ (l.flatMap f).length := by
 conv => rhs; rw [← List.take_append_drop j l]
 rw [List.flatMap_append, List.length_append]; omega
theorem fm_step {α : Type} (f : α → Bs) {l : List α} {j : Nat} (hj : j < l.length) : (l.take (j + 1)).flatMap f = (l.take j).flatMap f ++ f l[j] := by
 rw [List.take_succ_eq_append_getElem hj, List.flatMap_append]; simp
theorem fm_stepL {α : Type} (f : α → Bs) {l : List α} {j : Nat} (hj : j < l.length) : ((l.take j).flatMap f).length + (f l[j]).length ≤ (l.flatMap f).length := by
 have := fm_take f l (j + 1)
 rw [fm_step f hj, List.length_append] at this
 exact this
theorem big_one {α : Type} {f : α → HP} {l : List α} {y : α} {h : Hp} (hs : sep [f y, bigR f l] h) : bigR f (l ++ [y]) h :=
 big_perm (List.perm_append_comm (l₁ := [y])) (big_of_cons hs)
section
variable {P : Program} {W : World} {n : Nat} {ds : List Deferred} {E : Env} {L R : List HP} {X : Act → World → Prop} {ty : TypeId}
theorem G.bigAdd {α : Type} {f : α → HP} {l : List α} (y : α) {p : HP} (hp : p = f y) (hL : Picks [p, bigR f l] L R) (h : G W n ds E (bigR f (l ++ [y]) :: R) X) : G W n ds E L X := by
 subst hp
 exact G.fold hL (fun w hw => big_one hw) h
theorem G.wrCast {w : Nat} {bs bs' : Bs} (hL : Pick (wrR w bs) L R) (hb : bs = bs') (h : G W n ds E (wrR w bs' :: R) X) : G W n ds E L X := by
 subst hb; exact G.perm hL.perm h
end
/-! ### Wishes -/
structure Rq where
 kind : Int
 xid : Int
 path : Bs
 data : Bs
 aclV : Value
 acl : List Ac
 flags : Int
 ver : Int
 watch : Bool
 subsV : Value
 armV : Value
def rqC (r : Rq) : List Value := [vint r.kind, vint r.xid, vstr r.path, vstr r.data, r.aclV, vint r.flags, vint r.ver, .bool r.watch, r.subsV, r.armV]
structure RqA (p : HP) (r : Rq) : Prop where
 kind : I64 r.kind
 xid : I64 r.xid
 flags : I64 r.flags
 ver : I64 r.ver
 path : r.path.length ≤ 1048566
 data : r.data.length ≤ 1048576
 acl : ∀ h : Hp, p h → rdS 2 h r.aclV r.acl.length (r.acl.flatMap acC)
 many : r.acl.length ≤ 1048576
 ids : ∀ a ∈ r.acl, I64 a.1 ∧ a.2.length ≤ 1048576
 sub : ∃ a n c, r.subsV = .slice a n c
 arm : ∃ a n c, r.armV = .slice a n c
def noopX : Pt := ⟨0, [], [], nilV, [], 0, 0, 0, nilV⟩
structure Who where
 ses : Int
 ids : List Bs
def numbered (p : Bs) (n : Int) : Bs := p ++ ((List.replicate 10 (48 : UInt8) ++ Lib.itoa (max n 0)).drop (Lib.itoa (max n 0)).length)
abbrev whenZ (b : Prop) [Decidable b] (e : Int) : Int := if b then e else 0
def mayT (τ : Tr) (ids : List Bs) (p : Bs) (perm : Int) : Prop := thereT τ p ∧ mayZ (aclD τ p) perm ids = true
instance (τ : Tr) (ids : List Bs) (p : Bs) (perm : Int) : Decidable (mayT τ ids p perm) := inferInstanceAs (Decidable (_ ∧ _))
def upS (τ : Tr) (r : Rq) : Stt := statD τ (parentZ r.path)
def fullZ (τ : Tr) (r : Rq) : Bs := if andI r.flags 2 ≠ 0 then numbered r.path (upS τ r).cver else r.path
def createX (τ : Tr) (u : Who) (r : Rq) : Pt := ⟨1, fullZ τ r, r.data, nilV, r.acl, if andI r.flags 1 ≠ 0 then u.ses else 0, wrapI ((upS τ r).cver + 1), 0, nilV⟩
def createE (τ : Tr) (u : Who) (r : Rq) : List Int :=
  [checkZ r.path, whenZ (r.data.length > 100 ∨ r.flags < 0 ∨ r.flags > 3) 1, whenZ (¬ rightZ r.acl = true) 50, whenZ (¬ thereT τ (parentZ r.path)) 60, whenZ ((upS τ r).own ≠ 0) 63,
   whenZ (¬ mayT τ u.ids (parentZ r.path) 4) 65, whenZ (checkZ (fullZ τ r) ≠ 0) 41, whenZ (thereT τ (fullZ τ r)) 61, whenZ ((pathsZ τ).length ≥ 64) 64, whenZ (andI r.flags 1 ≠ 0 ∧ (ownedZ τ u.ses).length ≥ 32) 64]
def eraseX (τ : Tr) (r : Rq) : Pt := ⟨2, r.path, [], nilV, [], 0, wrapI ((upS τ r).cver + 1), 0, nilV⟩
def eraseE (τ : Tr) (u : Who) (r : Rq) : List Int :=
 [checkZ r.path, whenZ (r.path = [47]) 1, whenZ (¬ thereT τ r.path) 60, whenZ (¬ mayT τ u.ids (parentZ r.path) 8) 65, whenZ (r.ver ≠ -1 ∧ r.ver ≠ (statD τ r.path).ver) 66, whenZ ((statD τ r.path).kids > 0) 62]
def wrongE (r : Rq) : Int := if r.kind = 3 then whenZ (r.data.length > 100) 1 else if r.kind = 4 then whenZ (¬ rightZ r.acl = true) 50 else 0
def permK (k : Int) : Int := if k = 3 then 2 else if k = 4 then 16 else 1
def stampK (k : Int) (s : Stt) : Int := if k = 4 then s.av else s.ver
def nodeE (τ : Tr) (u : Who) (r : Rq) : List Int :=
 [checkZ r.path, wrongE r, whenZ (¬ thereT τ r.path) 60, whenZ (¬ mayT τ u.ids r.path (permK r.kind)) 65, whenZ (r.ver ≠ -1 ∧ r.ver ≠ stampK r.kind (statD τ r.path)) 66]
def nodeX (τ : Tr) (r : Rq) : Pt :=
 if r.kind = 3 then ⟨3, r.path, r.data, nilV, [], 0, wrapI (stampK 3 (statD τ r.path) + 1), 0, nilV⟩
 else if r.kind = 4 then ⟨4, r.path, [], nilV, r.acl, 0, wrapI (stampK 4 (statD τ r.path) + 1), 0, nilV⟩ else noopX
def partP (τ : Tr) (u : Who) (r : Rq) : Pt × Int :=
 if r.kind = 1 then (createX τ u r, firstZ (createE τ u r)) else if r.kind = 2 then (eraseX τ r, firstZ (eraseE τ u r))
 else if r.kind = 3 ∨ r.kind = 4 ∨ r.kind = 5 then (nodeX τ r, firstZ (nodeE τ u r)) else (noopX, 110)
def refusal (e n : Int) : Pt := ⟨8, [], [], nilV, [], 0, n, e, nilV⟩
def multiL (u : Who) : List Rq → Tr → Tr × List Pt × Option (Nat × Int)
  | [], τ => (τ, [], none)
  | r :: l, τ => if (partP τ u r).2 ≠ 0 then (τ, [], some (0, (partP τ u r).2))
    else ((multiL u l (applyZ τ τ.zx (partP τ u r).1 []).1).1, (partP τ u r).1 :: (multiL u l (applyZ τ τ.zx (partP τ u r).1 []).1).2.1, (multiL u l (applyZ τ τ.zx (partP τ u r).1 []).1).2.2.map fun x => (x.1 + 1, x.2))
def multiP (τ : Tr) (u : Who) (l : List Rq) : Pt × List Pt :=
 if l.length = 0 ∨ l.length > 8 then (refusal 1 (-1), []) else match (multiL u l τ).2.2 with
  | some (i, e) => (refusal e i, [])
  | none => (⟨7, [], [], nilV, [], 0, 0, 0, nilV⟩, (multiL u l τ).2.1)
def delX (τ : Tr) (p : Bs) : Pt := ⟨2, p, [], nilV, [], 0, wrapI ((statD τ (parentZ p)).cver + 1), 0, nilV⟩
def closeL : List Bs → Tr → List Pt
 | [], _ => []
 | p :: l, τ => delX τ p :: closeL l (applyZ τ τ.zx (delX τ p) []).1
def closeP (τ : Tr) (s : Int) : Pt × List Pt := (⟨6, [], [], nilV, [], s, 0, 0, nilV⟩, closeL (ownedZ τ s).reverse τ)
def changesK (k : Int) : Bool := decide (1 ≤ k) && decide (k ≤ 8) && !decide (k = 5)
def txnP (τ : Tr) (u : Who) (r : Rq) (subs : List Rq) : Pt × List Pt :=
 if ¬ changesK r.kind = true then (refusal 110 (-1), []) else if ¬ sesT τ u.ses then (refusal 67 (-1), [])
 else if r.kind = 6 then multiP τ u subs else if r.kind = 7 then (noopX, []) else if r.kind = 8 then closeP τ u.ses
 else if (partP τ u r).2 ≠ 0 then (refusal (partP τ u r).2 (-1), []) else ((partP τ u r).1, [])
end Go.Proofs.YtmbnebafdhpgpaaGreatDoor
/-
 DERIVED: THE SHELF's CONTRACTS AT THIS DUMP, IN PLAIN WORDS (tools/lay-plain.mjs out of 'YtmbnebafdhpgpaaGreatDoorLayP.lean', which tools/lay-shelf.mjs wrote): THE SAME DECLARATIONS UNDER THE SAME NAMES: 'import', 'namespace', 'open', 'def', 'theorem' AND NOTHING ELSE: no command of the shelf's: FOR A HAND-IN. Each laying: the table of numbers ('.._ren') and one theorem, a field a fact of the dump's own or the kernel's comparison; each contract: ONE APPLICATION.
-/
namespace Go.Proofs
open Go.Shelf
def Tryz.itoaA_ren : Go.Shelf.Ren := ⟨fun | 171 => 217 | 243 => 248 | 246 => 276 | 283 => 224 | 284 => 225 | 285 => 226 | 286 => 227 | 129 => 207 | 317 => 256 | 318 => 257 | 319 => 258 | 320 => 259 | 337 => 282 | 338 => 283 | n => n, fun | 3 => 3 | 9 => 9 | 2 => 2 | 4 => 4 | 171 => 279 | 0 => 0 | 53 => 180 | 37 => 181 | 5 => 5 | 173 => 281 | 212 => 306 | 51 => 219 | 20 => 20 | 213 => 307 | 46 => 160 | 232 => 326 | 233 => 327 | n => n, fun | 17 => 1 | 18 => 2 | 19 => 3 | n => n⟩
theorem Tryz.itoaA : Go.Proofs.LaysM.n171 Tryz.prog Tryz.itoaA_ren := {
 mixed := by kernel_rfl
 f129 := Tryz.func207.trans (congrArg some (by kernel_rfl))
 f171 := Tryz.func217.trans (congrArg some (by kernel_rfl))
 f243 := Tryz.func248.trans (congrArg some (by kernel_rfl))
 f246 := Tryz.func276.trans (congrArg some (by kernel_rfl))
 f283 := Tryz.func224.trans (congrArg some (by kernel_rfl))
 f284 := Tryz.func225.trans (congrArg some (by kernel_rfl))
 f285 := Tryz.func226.trans (congrArg some (by kernel_rfl))
 f286 := Tryz.func227.trans (congrArg some (by kernel_rfl))
 f317 := Tryz.func256.trans (congrArg some (by kernel_rfl))
 f318 := Tryz.func257.trans (congrArg some (by kernel_rfl))
 f319 := Tryz.func258.trans (congrArg some (by kernel_rfl))
 f320 := Tryz.func259.trans (congrArg some (by kernel_rfl))
 f337 := Tryz.func282.trans (congrArg some (by kernel_rfl))
 f338 := Tryz.func283.trans (congrArg some (by kernel_rfl))
 t0 := Tryz.underlying0
 a0 := Tryz.isAgg0
 z0 := Tryz.sizeOf0
 v0 := Tryz.zeroValue0
 t2 := Tryz.underlying2
 a2 := Tryz.isAgg2
 z2 := Tryz.sizeOf2
 v2 := Tryz.zeroValue2
 t3 := Tryz.underlying3
 a3 := Tryz.isAgg3
 z3 := Tryz.sizeOf3
 v3 := Tryz.zeroValue3
 t4 := Tryz.underlying4
 a4 := Tryz.isAgg4
 z4 := Tryz.sizeOf4
 v4 := Tryz.zeroValue4
 t5 := Tryz.underlying5
 a5 := Tryz.isAgg5
 z5 := Tryz.sizeOf5
 v5 := Tryz.zeroValue5
 t9 := Tryz.underlying9
 a9 := Tryz.isAgg9
 z9 := Tryz.sizeOf9
 v9 := Tryz.zeroValue9
 t20 := Tryz.underlying20
 a20 := Tryz.isAgg20
 z20 := Tryz.sizeOf20
 v20 := Tryz.zeroValue20
 t37 := Tryz.underlying181
 a37 := Tryz.isAgg181
 z37 := Tryz.sizeOf181
 v37 := Tryz.zeroValue181
 t46 := Tryz.underlying160
 a46 := Tryz.isAgg160
 z46 := Tryz.sizeOf160
 v46 := Tryz.zeroValue160
 t51 := Tryz.underlying219
 a51 := Tryz.isAgg219
 z51 := Tryz.sizeOf219
 v51 := Tryz.zeroValue219
 t53 := Tryz.underlying180
 a53 := Tryz.isAgg180
 z53 := Tryz.sizeOf180
 v53 := Tryz.zeroValue180
 t171 := Tryz.underlying279
 a171 := Tryz.isAgg279
 z171 := Tryz.sizeOf279
 v171 := Tryz.zeroValue279
 t173 := Tryz.underlying281
 a173 := Tryz.isAgg281
 z173 := Tryz.sizeOf281
 v173 := Tryz.zeroValue281
 t212 := Tryz.underlying306
 a212 := Tryz.isAgg306
 z212 := Tryz.sizeOf306
 v212 := Tryz.zeroValue306
 t213 := Tryz.underlying307
 a213 := Tryz.isAgg307
 z213 := Tryz.sizeOf307
 t232 := Tryz.underlying326
 a232 := Tryz.isAgg326
 z232 := Tryz.sizeOf326
 v232 := Tryz.zeroValue326
 t233 := Tryz.underlying327
 a233 := Tryz.isAgg327
 z233 := Tryz.sizeOf327
 v233 := Tryz.zeroValue327
 g17 := by kernel_rfl
 g18 := by kernel_rfl
 g19 := by kernel_rfl
 i0 := by kernel_rfl
 i2 := by kernel_rfl
 i3 := by kernel_rfl
 i4 := by kernel_rfl
 i5 := by kernel_rfl
 i9 := by kernel_rfl
 i20 := by kernel_rfl
 i37 := by kernel_rfl
 i46 := by kernel_rfl
 i51 := by kernel_rfl
 i53 := by kernel_rfl
 i171 := by kernel_rfl
 i173 := by kernel_rfl
 i212 := by kernel_rfl
 i232 := by kernel_rfl
 i233 := by kernel_rfl
 m17 := by kernel_rfl
 m18 := by kernel_rfl
 m19 := by kernel_rfl }
def Tryz.repeatA_ren : Go.Shelf.Ren := ⟨fun | 105 => 96 | 212 => 77 | 99 => 175 | 165 => 176 | 166 => 177 | 170 => 178 | 169 => 179 | 263 => 136 | 264 => 137 | 206 => 228 | 240 => 229 | 241 => 230 | 276 => 260 | 277 => 261 | n => n, fun | 9 => 9 | 3 => 3 | 4 => 4 | 20 => 20 | 0 => 0 | 46 => 160 | 109 => 161 | 5 => 5 | 72 => 237 | 76 => 240 | 51 => 219 | 146 => 220 | 53 => 180 | 148 => 222 | 70 => 235 | 37 => 181 | 75 => 239 | 127 => 283 | 164 => 308 | 80 => 209 | n => n, fun | n => n⟩
theorem Tryz.repeatA : Go.Proofs.Lays.n105 Tryz.prog Tryz.repeatA_ren := {
 mixed := by kernel_rfl
 f99 := Tryz.func175.trans (congrArg some (by kernel_rfl))
 f105 := Tryz.func96.trans (congrArg some (by kernel_rfl))
 f165 := Tryz.func176.trans (congrArg some (by kernel_rfl))
 f166 := Tryz.func177.trans (congrArg some (by kernel_rfl))
 f169 := Tryz.func179.trans (congrArg some (by kernel_rfl))
 f170 := Tryz.func178.trans (congrArg some (by kernel_rfl))
 f206 := Tryz.func228.trans (congrArg some (by kernel_rfl))
 f212 := Tryz.func77.trans (congrArg some (by kernel_rfl))
 f240 := Tryz.func229.trans (congrArg some (by kernel_rfl))
 f241 := Tryz.func230.trans (congrArg some (by kernel_rfl))
 f263 := Tryz.func136.trans (congrArg some (by kernel_rfl))
 f264 := Tryz.func137.trans (congrArg some (by kernel_rfl))
 f276 := Tryz.func260.trans (congrArg some (by kernel_rfl))
 f277 := Tryz.func261.trans (congrArg some (by kernel_rfl))
 t0 := Tryz.underlying0
 a0 := Tryz.isAgg0
 z0 := Tryz.sizeOf0
 v0 := Tryz.zeroValue0
 t3 := Tryz.underlying3
 a3 := Tryz.isAgg3
 z3 := Tryz.sizeOf3
 v3 := Tryz.zeroValue3
 t4 := Tryz.underlying4
 a4 := Tryz.isAgg4
 z4 := Tryz.sizeOf4
 v4 := Tryz.zeroValue4
 t5 := Tryz.underlying5
 a5 := Tryz.isAgg5
 z5 := Tryz.sizeOf5
 v5 := Tryz.zeroValue5
 t9 := Tryz.underlying9
 a9 := Tryz.isAgg9
 z9 := Tryz.sizeOf9
 v9 := Tryz.zeroValue9
 t20 := Tryz.underlying20
 a20 := Tryz.isAgg20
 z20 := Tryz.sizeOf20
 v20 := Tryz.zeroValue20
 t37 := Tryz.underlying181
 a37 := Tryz.isAgg181
 z37 := Tryz.sizeOf181
 v37 := Tryz.zeroValue181
 t46 := Tryz.underlying160
 a46 := Tryz.isAgg160
 z46 := Tryz.sizeOf160
 v46 := Tryz.zeroValue160
 t51 := Tryz.underlying219
 a51 := Tryz.isAgg219
 z51 := Tryz.sizeOf219
 v51 := Tryz.zeroValue219
 t53 := Tryz.underlying180
 a53 := Tryz.isAgg180
 z53 := Tryz.sizeOf180
 v53 := Tryz.zeroValue180
 t70 := Tryz.underlying235
 a70 := Tryz.isAgg235
 z70 := Tryz.sizeOf235
 v70 := Tryz.zeroValue235
 t72 := Tryz.underlying237
 a72 := Tryz.isAgg237
 z72 := Tryz.sizeOf237
 v72 := Tryz.zeroValue237
 t75 := Tryz.underlying239
 a75 := Tryz.isAgg239
 z75 := Tryz.sizeOf239
 v75 := Tryz.zeroValue239
 t76 := Tryz.underlying240
 a76 := Tryz.isAgg240
 z76 := Tryz.sizeOf240
 v76 := Tryz.zeroValue240
 t109 := Tryz.underlying161
 a109 := Tryz.isAgg161
 z109 := Tryz.sizeOf161
 v109 := Tryz.zeroValue161
 t127 := Tryz.underlying283
 a127 := Tryz.isAgg283
 z127 := Tryz.sizeOf283
 v127 := Tryz.zeroValue283
 t146 := Tryz.underlying220
 a146 := Tryz.isAgg220
 z146 := Tryz.sizeOf220
 v146 := Tryz.zeroValue220
 t148 := Tryz.underlying222
 a148 := Tryz.isAgg222
 z148 := Tryz.sizeOf222
 v148 := Tryz.zeroValue222
 t164 := Tryz.underlying308
 a164 := Tryz.isAgg308
 z164 := Tryz.sizeOf308
 v164 := Tryz.zeroValue308 }
end Go.Proofs
namespace Go.Proofs.YtmbnebafdhpgpaaGreatDoor
open Go Go.RowKit Go.Sort Go.Shelf
def TabP (p : HP) : Prop := ∀ (h : Hp) (w : World), p h → (∀ b o, h b = some o → w.heap[b]? = some o) → Lib.TabIs Tryz.prog w "internal/strconv.uint64pow10" .u64 Lib.pow10Tab
theorem itoa_spec (p : HP) (hT : TabP p) (n : Int) (hn : I64 n) : Fn Tryz.prog 217 #[vint n] [p] fun v L => v = vstr (Lib.itoa n) ∧ L = [p] := by
 intro F w hs
 obtain ⟨h1, hle, hp⟩ := sep_head (show sep (p :: F) _ from hs)
 refine (Any.strconv_Itoa Tryz.itoaA n hn.1 hn.2 w (hT h1 w hp hle)).mono ?_
 rintro e w' ⟨rfl, k, os, rfl⟩
 have hb : Below w.heap.size w (Sort.grow (w.drewN k) os) := ⟨rfl, rfl, rfl, by simp [Sort.grow, World.drewN], fun b hb => by
  show (w.heap ++ os)[b]? = _
  rw [Array.getElem?_append_left hb]⟩
 exact ⟨_, _, ⟨rfl, rfl⟩, rfl, hs.below hb, Keeps.below hb⟩
theorem itoa_len (n : Int) (hn : 0 ≤ n ∧ n ≤ 9223372036854775807) : (Lib.itoa n).length ≤ 20 := by
 unfold Lib.itoa
 rw [if_neg (by omega)]
 have key : ∀ (k u : Nat), u < 10 ^ (k + 1) → (Lib.decDigits u).length ≤ k + 1 := by
  intro k
  induction k with
  | zero => intro u h; rw [Lib.decDigits, dif_pos (by omega)]; simp
  | succ k ih =>
   intro u h
   rw [Lib.decDigits]
   split
   ·simp
   ·rw [List.length_append, List.length_singleton]
    have := ih (u / 10) (by rw [Nat.div_lt_iff_lt_mul (by decide)]; rw [Nat.pow_succ] at h; exact h)
    omega
 exact key 19 _ (by omega)
theorem repeatX : Builder.Extra Tryz.prog Tryz.repeatA_ren where
 sizeBuilder := by kernel_rfl
 liesBuilder := by kernel_rfl
 t5 := Tryz.underlying5
 a5 := Tryz.isAgg5
 z5 := Tryz.sizeOf5
 v5 := Tryz.zeroValue5
 infoByte := by kernel_rfl
 cellsByte := by kernel_rfl
 sizeByte := by kernel_rfl
 neB5 := by decide
theorem repeat_spec : Fn Tryz.prog 96 #[vstr [48], vint 10] [] fun v L => v = vstr (List.replicate 10 48) ∧ L = [] := by
 intro F w hs
 refine (Any.strings_Repeat Tryz.repeatA repeatX (bs [48]) 10 w (by decide) (by decide)).mono ?_
 rintro e w' ⟨rfl, hb⟩
 exact ⟨_, _, ⟨by kernel_rfl, rfl⟩, rfl, hs.below hb, Keeps.below hb⟩
theorem FunV.share {P : Program} {f : FuncId} {fn : Func} {c : Code} {us vs ws : List Value} {pre Q R : List HP} {φ : Value → Prop} (hf : P.funcs[f]? = some fn) (hb : fn.body = some c) (hn : (fn.name == "runtime.NumGoroutine") = false)
  (hp : Picks pre Q R) (h : Fn P f (us ++ vs ++ ws).toArray pre fun v L => φ v ∧ L = pre) : FunV P (.func (.func f) us.toArray ws.toArray) vs [sep Q] (fun v L => φ v ∧ L = [sep Q]) := by
 refine FunV.of hf hb hn ?_
 intro F w hs
 obtain ⟨h1, h2, hd, a1, a2, hq, hF⟩ := hs
 have hs' : St (Q ++ F) w := sep_join hd a1 a2 hq hF
 have hs2 : St (pre ++ (R ++ F)) w := by have := sep_perm (hp.perm.append_right F) hs'; rwa [List.append_assoc] at this
 refine (h (R ++ F) w hs2).mono ?_
 rintro e w' ⟨v, L, ⟨hv, hL⟩, he, hs3, hk⟩
 rw [hL] at hs3
 have hs4 : St ((pre ++ R) ++ F) w' := by rw [List.append_assoc]; exact hs3
 exact ⟨v, _, ⟨hv, rfl⟩, he, sep_fold (sep_perm (hp.perm.append_right F).symm hs4), hk⟩
theorem Fn.unpack {P : Program} {f : FuncId} {args : Array Value} {p : HP} {q : List HP} {φ : Value → Prop} (h : Fn P f args [p, sep q] fun v L => φ v ∧ L = [p, sep q]) : Fn P f args (p :: q) fun v L => φ v ∧ L = p :: q := by
 intro F w hs
 obtain ⟨h1, h2, hd, a1, a2, hp, hF⟩ := hs
 have hs' : St ([p, sep q] ++ F) w := ⟨h1, h2, hd, a1, a2, hp, sep_fold hF⟩
 refine (h F w hs').mono ?_
 rintro e w' ⟨v, L, ⟨hv, rfl⟩, he, hs2, hk⟩
 obtain ⟨g1, g2, gd, c1, c2, gp, gF⟩ := hs2
 exact ⟨v, _, ⟨hv, rfl⟩, he, ⟨g1, g2, gd, c1, c2, gp, sep_flat gF⟩, hk⟩
theorem Quiet.andI {P : Program} {E : Env} {L : List HP} {ty : TypeId} {t t' : TypeId} {x y : Operand} {a b : Int} (hx : ev E x = some (.int .i64 a)) (hy : ev E y = some (.int .i64 b)) :
  Quiet P ⟨none, .binOp .and t x y t', ty, "", #[], none⟩ E L (vint (andI a b)) := Quiet.and hx hy
theorem Quiet.addW {P : Program} {E : Env} {L : List HP} {ty : TypeId} {t t' : TypeId} {x y : Operand} {a b : Int} (hx : ev E x = some (.int .i64 a)) (hy : ev E y = some (.int .i64 b)) :
  Quiet P ⟨none, .binOp .add t x y t', ty, "", #[], none⟩ E L (vint (wrapI (a + b))) := Quiet.int hx hy rfl
theorem numbered_len (p : Bs) (n : Int) : (numbered p n).length ≤ p.length + 10 := by
 unfold numbered
 rw [List.length_append, List.length_drop, List.length_append, List.length_replicate]; omega
def withA (x : Pt) (w : Value) : Pt := ⟨x.kind, x.path, x.data, w, x.acl, x.own, x.num, x.err, x.subsV⟩
def wiC (t : Nat) (u : Who) (iv : Value) (r : Rq) : List Value := vptr t :: vint u.ses :: iv :: rqC r
structure WiA (p : HP) (u : Who) (iv : Value) (r : Rq) : Prop where
 rq : RqA p r
 ses : I64 u.ses
 ids : ∀ h : Hp, p h → rdS 1 h iv u.ids.length (strs u.ids)
 few : u.ids.length ≤ 1048576
 shape : ∃ a n c, iv = .slice a n c
 ashape : ∃ a n c, r.aclV = .slice a n c
 tab : TabP p
theorem WiA.cells {p : HP} {u : Who} {iv : Value} {r : Rq} (h : WiA p u iv r) (t : Nat) : (wiC t u iv r).all isCell = true := by
 obtain ⟨a, n, c, e1⟩ := h.shape
 obtain ⟨a2, n2, c2, e2⟩ := h.ashape
 obtain ⟨a3, n3, c3, e3⟩ := h.rq.sub
 obtain ⟨a4, n4, c4, e4⟩ := h.rq.arm
 simp [wiC, rqC, e1, e2, e3, e4, isCell]
theorem whole_len {p : HP} {u : Who} {iv : Value} {r : Rq} (h : WiA p u iv r) (τ : Tr) : (fullZ τ r).length ≤ 1048576 := by
 have := h.rq.path
 unfold fullZ
 split
 ·have := numbered_len r.path (upS τ r).cver; omega
 ·omega
theorem aclD_few {τ : Tr} {N : Nat} (ho : τ.Ok N) (q : Bs) : (aclD τ q).length ≤ 1048576 := by
 unfold aclD
 rcases hl : alook τ.nodes q with _ | x
 ·simp
 ·exact ho.acls _ (al_mem hl)
theorem there_of {τ : Tr} {q : Bs} (h : (if thereT τ q then (0 : Int) else 60) = 0) : thereT τ q := by
 rcases Decidable.em (thereT τ q) with g | g
 ·exact g
 ·rw [if_neg g] at h; omega
theorem there_not {τ : Tr} {q : Bs} (h : ¬ (if thereT τ q then (0 : Int) else 60) = 0) : ¬ thereT τ q := fun g => h (if_pos g)
theorem numbered_spec (p : HP) (hT : TabP p) (s : Bs) (n : Int) (hs : s.length ≤ 1099511627776) (hn : I64 n) : Fn Tryz.prog 142 #[vstr s, vint n] [p] fun v L => v = vstr (numbered s n) ∧ L = [p] := by
 refine Fn.intro Tryz.func142 rfl rfl fun F W => ?_
 have hcd : ((List.replicate 10 (48 : UInt8) ++ Lib.itoa (max n 0)).drop (Lib.itoa (max n 0)).length).length ≤ 10 := by rw [List.length_drop, List.length_append, List.length_replicate]; omega
 have hlen := itoa_len (max n 0) (by unfold I64 at hn; omega)
 have hcl : (List.replicate 10 (48 : UInt8) ++ Lib.itoa (max n 0)).length = (Lib.itoa (max n 0)).length + 10 := by rw [List.length_append, List.length_replicate]; omega
 have hcr : (List.replicate 10 (48 : UInt8)).length = 10 := List.length_replicate
 refine .sr (.an rfl (.sr (.cv Tryz.func96 [_, _] (repeat_spec) ?_)))
 refine .m rfl (.u (.max2 rfl rfl) (.cv Tryz.func217 [_] (itoa_spec p hT (max n 0) (by unfold I64 at *; omega)) ?_))
 refine .q (.concat rfl rfl (by omega)) rfl (.an rfl (.sm rfl (.m rfl (.m rfl (.q (.to (v' := vint ((Lib.itoa (max n 0)).length + 10)) (.strlen (a := List.replicate 10 (48 : UInt8) ++ Lib.itoa (max n 0)) rfl Tryz.underlying9 rfl) (by rw [hcl]; rfl)) rfl (.q (.to (v' := vint ((Lib.itoa (max n 0)).length)) (.sub rfl rfl (by omega)) (by congr 1; omega)) rfl (.q (.to (v' := vstr ((List.replicate 10 (48 : UInt8) ++ Lib.itoa (max n 0)).drop (Lib.itoa (max n 0)).length)) (.strFrom (i := ((Lib.itoa (max n 0)).length : Int)) rfl rfl Tryz.underlying9 (by rw [hcl]; omega)) (by rw [Int.toNat_natCast])) rfl (.q (.concat rfl rfl (by omega)) rfl (.an rfl (.ret ?_))))))))))
 exact .vv
theorem trapply_spec (t : Nat) (τ : Tr) (zx ses xid : Int) (x : Pt) (subs : List Pt) (p : HP) (hx : TxA p x subs) (N : Nat) (ho : τ.Ok N) (hN : N + subs.length ≤ 1099511627776) : Fn Tryz.prog 42 #[vptr t, .agg ([vint zx, vint ses, vint xid] ++ ptC x).toArray] [treeR t τ, p] fun v L => ∃ u e, v = .tuple #[u, vint e] ∧ e = (applyZ τ zx x subs).2.2 ∧ (∃ a c, u = .slice a (applyZ τ zx x subs).2.1.length c) ∧ L = [treeR t (applyZ τ zx x subs).1, p, slR 50 3 u (applyZ τ zx x subs).2.1.length ((applyZ τ zx x subs).2.1.flatMap evC)] := by
 refine Fn.intro Tryz.func42 rfl rfl fun F W => ?_
 refine .rdAny (p := p) hx.rd (by repeat' constructor) fun asb csb esub _ => ?_
 have hrd := hx.rd
 rw [esub] at hrd
 have hfs := hx.few
 refine .sr (.oq (.box rfl) ?_)
 rintro v L' ⟨be, rfl, rfl⟩
 refine .a rfl (.a rfl (.nil (.ptCast (b := be) (l' := ([vint zx, vint ses, vint xid] ++ ptC x)) (by repeat' constructor) rfl ?_)))
 refine .then_n (.sr (.an rfl (.sr (.u (.fieldAddr rfl fo_62_3) (.q (.loadAs (vs := ptC x) rfl ag_60 (by repeat' constructor) (by simp [ptC]) rfl) rfl (.oq (.allocA ze_60) ?_))))))
 rintro v L' ⟨bx, rfl, rfl⟩
 refine .sa rfl rfl sz_60 (by exact hx.own.all) ?_
 refine .nil (.ptCast (b := bx) (l' := ptC x) (by repeat' constructor) rfl ?_)
 refine .then_n (.seq (.trOpen (τ := τ) (by repeat' constructor) fun rn rs m s hI => (.region (.m rfl (.u (.fieldAddr rfl fo_62_0) (.u (.ld rfl ag_3) (.nf rfl fo_113_2 (.st rfl rfl rfl sz_3 ?_))))))))
 refine .nil (.trFold (τ := (zxT τ zx)) (hI.zx zx) (by repeat' constructor) rfl rfl rfl (.then_n (.seq (.sr (.u (.fieldAddr rfl fo_60_0) (.u (.ld rfl ag_3) (.nt (.block (.sr (.ui rfl rfl rfl (.an rfl (.condD rfl (fun h26 => ?_) (fun h26 => ?_)))))))))))))
 ·refine .sr (.u (.fieldAddr rfl fo_60_4) (.u (.ld rfl ag_3) (.ui rfl rfl rfl (.nt (.condD rfl (fun h30 => ?_) (fun h30 => ?_))))))
  ·refine .trOpen (τ := (zxT τ zx)) (by repeat' constructor) fun rn rs m s hI => (.draw [11] [[0, 1, 2, 3, 4, 5, 6, 7, 8, 9, 10, 11]] mixed (by kernel_rfl) (.g0 (.mv rfl rfl (.nf rfl rfl rfl fo_113_1 (.kv rfl (.ld rfl ag_111) (.kv rfl (.fieldAddr rfl fo_60_4) (.kv rfl (.ld rfl ag_3) (.kv rfl (.fieldAddr rfl fo_60_5) (.kv rfl (.ld rfl ag_3) (.kv rfl (.fieldAddr rfl fo_60_2) (.kv rfl (.ld rfl ag_9) (.kv rfl (.build (us := [(0, _), (1, _)]) fl_123 ze_123 rfl rfl (by simp [isCell])) (.hh rfl (.mapSet (m := s) (enc := ssV) (v := (x.num, x.data)) (k := x.own) (KeyLaw.int Tryz.underlying3) rfl rfl rfl Tryz.underlying111 ?he40) ?_)))))))))))))
   case he40 => rfl
   rintro v L' rfl
   refine D.ph (.fin (.trFold (τ := (openS (zxT τ zx) x.own x.num x.data)) (hI.open x.own x.num x.data) (by repeat' constructor) rfl rfl rfl (.blk_n (.then_n (.sm rfl (.a rfl (.an rfl (.ret (.add (slR_nil 50 3) ?_)))))))))
   have hc : applyZ τ zx x subs = (openS (zxT τ zx) x.own x.num x.data, ([], 0)) := by unfold applyZ; dsimp only; rw [if_pos h26, if_pos (by omega)]
   refine .trCast (τ' := (applyZ τ zx x subs).1) (by repeat' constructor) (by rw [hc]) (.slCast (T := 50) (sz := 3) (m' := (applyZ τ zx x subs).2.1.length) (xs' := (applyZ τ zx x subs).2.1.flatMap evC) (by repeat' constructor) (by (rw [hc]; try rfl)) (by (rw [hc]; try rfl)) ?_)
   exact .dn rfl rfl ⟨_, _, rfl, by rw [hc], ⟨_, _, by (rw [hc]; try rfl)⟩, rfl⟩
  refine .skip (.blk_n (.then_n (.sm rfl (.a rfl (.an rfl (.ret (.add (slR_nil 50 3) ?_)))))))
  have hc : applyZ τ zx x subs = ((zxT τ zx), ([], 0)) := by unfold applyZ; dsimp only; rw [if_pos h26, if_neg (by omega)]
  refine .trCast (τ' := (applyZ τ zx x subs).1) (by repeat' constructor) (by rw [hc]) (.slCast (T := 50) (sz := 3) (m' := (applyZ τ zx x subs).2.1.length) (xs' := (applyZ τ zx x subs).2.1.flatMap evC) (by repeat' constructor) (by (rw [hc]; try rfl)) (by (rw [hc]; try rfl)) ?_)
  exact .dn rfl rfl ⟨_, _, rfl, by rw [hc], ⟨_, _, by (rw [hc]; try rfl)⟩, rfl⟩
 refine .sr (.ui rfl rfl rfl (.an rfl (.condD rfl (fun h42 => ?_) (fun h42 => ?_))))
 ·refine .seq (.sr (.u (.fieldAddr rfl fo_60_7) (.q (.as (v' := .slice asb subs.length csb) (by exact esub) (.ld rfl ag_58)) rfl (.q (.slen rfl Tryz.underlying58 rfl) rfl (.m rfl (.nt (.block (.add (slR_nil 50 3) (.trCast (τ' := (partsZ (zxT τ zx) zx ((subs.take 0).filter isDel)).1) (by repeat' constructor) (by rw [List.take_zero]; rfl) (.slCast (T := 50) (sz := 3) (m' := (partsZ (zxT τ zx) zx ((subs.take 0).filter isDel)).2.length) (xs' := (partsZ (zxT τ zx) zx ((subs.take 0).filter isDel)).2.flatMap evC) (by repeat' constructor) (by rw [List.take_zero]; rfl) (by rw [List.take_zero]; rfl) (.loopK (ι := Nat × Value) (fun q E => (47, vint q.1) :: (6, q.2) :: E) (fun q => [treeR t (partsZ (zxT τ zx) zx ((subs.take q.1).filter isDel)).1, slR 50 3 q.2 (partsZ (zxT τ zx) zx ((subs.take q.1).filter isDel)).2.length ((partsZ (zxT τ zx) zx ((subs.take q.1).filter isDel)).2.flatMap evC)]) (fun q => q.1 ≤ subs.length ∧ ∃ a c, q.2 = .slice a (partsZ (zxT τ zx) zx ((subs.take q.1).filter isDel)).2.length c) (fun q => subs.length - q.1) (0, .slice none 0 0) (ts := [0, 3, 4, 5, 7, 45, 46]) (.cons rfl (.cons rfl (.cons rfl (.cons rfl (.cons rfl (.cons rfl (.cons rfl (.nil)))))))) (⟨Nat.zero_le _, none, 0, by rw [List.take_zero]; rfl⟩) ⟨rfl, rfl, rfl, rfl, rfl, rfl, rfl, rfl, rfl, trivial⟩ (by repeat' constructor) ?_)))))))))))
  rintro ⟨i, u⟩ ⟨hi, au, cu, hu⟩
  dsimp only
  dsimp only at hi hu
  subst hu
  have hev := parts_ev (zxT τ zx) zx ((subs.take i).filter isDel)
  have hfl := List.length_filter_le isDel (subs.take i)
  rw [List.length_take] at hfl
  have hok : (partsZ (zxT τ zx) zx ((subs.take i).filter isDel)).1.Ok (N + subs.length) := ((ho.zx zx).parts zx _ (fun y hy => (hx.each y (List.mem_of_mem_take (List.mem_filter.1 hy).1)).few)).more (by omega)
  refine .sr (.ui rfl rfl rfl (.nt (.seq (.condD rfl (fun h48 => ?_) (fun h48 => ?_)))))
  ·have hi2 : i < subs.length := by omega
   refine .rdShape (p := p) hrd (by repeat' constructor) (by omega) fun bs os e1 => ?_
   subst e1
   have hys := hx.each _ (List.getElem_mem hi2)
   refine .sk (.seq (.block (.sr (.q (.indexAddr rfl rfl el_58 (by omega)) rfl (.q (.loadRdA (sz := 8) (j := i * 8) (k := 8) (p := p) (vs := ptC subs[i]) rfl ag_60 (by repeat' constructor) hrd (by simp) (by omega) (by omega) (flatMap_at (f := ptC) (sz := 8) (fun _ _ => rfl) (by omega))) rfl (.oq (.allocA ze_60) ?_))))))
   rintro v L' ⟨by1, rfl, rfl⟩
   refine .sa rfl rfl sz_60 (by exact hys.all) ?_
   refine .nil (.ptCast (b := by1) (l' := ptC subs[i]) (by repeat' constructor) rfl ?_)
   refine .then_n (.sr (.u (.fieldAddr rfl fo_60_0) (.u (.ld rfl ag_3) (.ui rfl rfl rfl (.nt (.condD rfl (fun h53 => ?_) (fun h53 => ?_)))))))
   ·refine .region (.m rfl (.m rfl (.q (.loadAs (vs := ptC subs[i]) rfl ag_60 (by repeat' constructor) (by simp [ptC]) rfl) rfl (.u (.fieldAddr rfl fo_62_0) (.u (.ld rfl ag_3) (.oq (.c Tryz.func72 [_, _, _] (trpart_spec t (partsZ (zxT τ zx) zx ((subs.take i).filter isDel)).1 subs[i] zx p hys (N + subs.length) hok (by omega))) ?_))))))
    rintro v L' ⟨a14, c14, rfl, rfl⟩
    refine .oq (.append (n := (partsZ (zxT τ zx) zx ((subs.take i).filter isDel)).2.length) (m := (partZ (partsZ (zxT τ zx) zx ((subs.take i).filter isDel)).1 subs[i] zx).2.length) (ys := (partZ (partsZ (zxT τ zx) zx ((subs.take i).filter isDel)).1 subs[i] zx).2.flatMap evC) (p := slR 50 3 (.slice a14 (partZ (partsZ (zxT τ zx) zx ((subs.take i).filter isDel)).1 subs[i] zx).2.length c14) (partZ (partsZ (zxT τ zx) zx ((subs.take i).filter isDel)).1 subs[i] zx).2.length ((partZ (partsZ (zxT τ zx) zx ((subs.take i).filter isDel)).1 subs[i] zx).2.flatMap evC)) rfl rfl rfl el_47 (.inl ⟨_, Tryz.underlying47⟩) ze_50 rfl rfl ?hc69 ?hr70 ?hb71 (by decide)) ?_
    case hc69 => exact evC_cells _
    case hr70 => exact fun h hp => slR_rd hp
    case hb71 => have := part_ev (partsZ (zxT τ zx) zx ((subs.take i).filter isDel)).1 subs[i] zx; omega
    rintro v L' ⟨⟨a14_6, c14_6, rfl⟩, rfl⟩
    refine .a rfl (.nil (.blk_n (.then_n (.region (.q (.add rfl rfl (by omega)) rfl (.m rfl (.nt ?_)))))))
    have hst := filter_take_yes (f := isDel) hi2 (by unfold isDel; rw [decide_eq_true h53])
    refine .trCast (τ' := (partsZ (zxT τ zx) zx ((subs.take (i + 1)).filter isDel)).1) (by repeat' constructor) (by rw [hst, parts_snoc]) (.slCast (T := 50) (sz := 3) (m' := (partsZ (zxT τ zx) zx ((subs.take (i + 1)).filter isDel)).2.length) (xs' := (partsZ (zxT τ zx) zx ((subs.take (i + 1)).filter isDel)).2.flatMap evC) (by repeat' constructor) (by rw [hst, parts_snoc]; simp) (by rw [hst, parts_snoc]; simp) ?_)
    exact .rk ((i + 1, .slice a14_6 ((partsZ (zxT τ zx) zx ((subs.take i).filter isDel)).2.length + (partZ (partsZ (zxT τ zx) zx ((subs.take i).filter isDel)).1 subs[i] zx).2.length) c14_6)) (⟨by dsimp only; omega, _, _, by rw [hst, parts_snoc, List.length_append]⟩) (by dsimp only; omega) ⟨rfl, rfl, rfl, rfl, rfl, rfl, rfl, rfl, rfl, trivial⟩
   refine .skip (.blk_n (.then_n (.region (.q (.add rfl rfl (by omega)) rfl (.m rfl (.nt ?_))))))
   have hst := filter_take_no (f := isDel) hi2 (by unfold isDel; rw [decide_eq_false h53])
   refine .trCast (τ' := (partsZ (zxT τ zx) zx ((subs.take (i + 1)).filter isDel)).1) (by repeat' constructor) (by rw [hst]) (.slCast (T := 50) (sz := 3) (m' := (partsZ (zxT τ zx) zx ((subs.take (i + 1)).filter isDel)).2.length) (xs' := (partsZ (zxT τ zx) zx ((subs.take (i + 1)).filter isDel)).2.flatMap evC) (by repeat' constructor) (by rw [hst]) (by rw [hst]) ?_)
   exact .rk ((i + 1, .slice au (partsZ (zxT τ zx) zx ((subs.take i).filter isDel)).2.length cu)) (⟨by dsimp only; omega, _, _, by rw [hst]⟩) (by dsimp only; omega) ⟨rfl, rfl, rfl, rfl, rfl, rfl, rfl, rfl, rfl, trivial⟩
  have hii : i = subs.length := by omega
  rw [hii, List.take_length]
  refine .exit (.then_e (.then_e (.blk_e (.then_n (.trOpen (τ := (partsZ (zxT τ zx) zx (subs.filter isDel)).1) (by repeat' constructor) fun rn rs m s hI => (.draw [6] [[0, 1, 2, 3, 4, 5, 6]] mixed (by kernel_rfl) (.g0 (.mv rfl rfl (.nf rfl rfl rfl fo_113_1 (.kv rfl (.ld rfl ag_111) (.kv rfl (.fieldAddr rfl fo_60_4) (.kv rfl (.ld rfl ag_3) (.hh rfl (.mapDel (m := s) (enc := ssV) (k := x.own) (KeyLaw.int Tryz.underlying3) rfl rfl rfl Tryz.underlying111 ?he82) ?_)))))))))))))
  case he82 => rfl
  rintro v L' rfl
  refine D.ph (.fin (.trFold (τ := (dropS (partsZ (zxT τ zx) zx (subs.filter isDel)).1 x.own)) (hI.drop x.own) (by repeat' constructor) rfl rfl rfl (.blk_n (.then_n (.sm rfl (.a rfl (.an rfl (.ret ?_))))))))
  have hc : applyZ τ zx x subs = (dropS (partsZ (zxT τ zx) zx (subs.filter isDel)).1 x.own, ((partsZ (zxT τ zx) zx (subs.filter isDel)).2, 0)) := by unfold applyZ; dsimp only; rw [if_neg h26, if_pos h42]
  refine .trCast (τ' := (applyZ τ zx x subs).1) (by repeat' constructor) (by rw [hc]) (.slCast (T := 50) (sz := 3) (m' := (applyZ τ zx x subs).2.1.length) (xs' := (applyZ τ zx x subs).2.1.flatMap evC) (by repeat' constructor) (by (rw [hc]; try rfl)) (by (rw [hc]; try rfl)) ?_)
  exact .dn rfl rfl ⟨_, _, rfl, by rw [hc], ⟨_, _, by (rw [hc]; try rfl)⟩, rfl⟩
 refine .sr (.ui rfl rfl rfl (.an rfl (.condD rfl (fun h68 => ?_) (fun h68 => ?_))))
 ·refine .sr (.u (.fieldAddr rfl fo_60_7) (.q (.as (v' := .slice asb subs.length csb) (by exact esub) (.ld rfl ag_58)) rfl (.q (.slen rfl Tryz.underlying58 rfl) rfl (.m rfl (.nt (.block (.add (slR_nil 50 3) (.trCast (τ' := (partsZ (zxT τ zx) zx (subs.take 0)).1) (by repeat' constructor) (by rw [List.take_zero]; rfl) (.slCast (T := 50) (sz := 3) (m' := (partsZ (zxT τ zx) zx (subs.take 0)).2.length) (xs' := (partsZ (zxT τ zx) zx (subs.take 0)).2.flatMap evC) (by repeat' constructor) (by rw [List.take_zero]; rfl) (by rw [List.take_zero]; rfl) (.loopK (ι := Nat × Value) (fun q E => (73, vint q.1) :: (6, q.2) :: E) (fun q => [treeR t (partsZ (zxT τ zx) zx (subs.take q.1)).1, slR 50 3 q.2 (partsZ (zxT τ zx) zx (subs.take q.1)).2.length ((partsZ (zxT τ zx) zx (subs.take q.1)).2.flatMap evC)]) (fun q => q.1 ≤ subs.length ∧ ∃ a c, q.2 = .slice a (partsZ (zxT τ zx) zx (subs.take q.1)).2.length c) (fun q => subs.length - q.1) (0, .slice none 0 0) (ts := [0, 3, 4, 5, 71, 72]) (.cons rfl (.cons rfl (.cons rfl (.cons rfl (.cons rfl (.cons rfl (.nil))))))) (⟨Nat.zero_le _, none, 0, by rw [List.take_zero]; rfl⟩) ⟨rfl, rfl, rfl, rfl, rfl, rfl, rfl, rfl, trivial⟩ (by repeat' constructor) ?_))))))))))
  rintro ⟨i, u⟩ ⟨hi, au, cu, hu⟩
  dsimp only
  dsimp only at hi hu
  subst hu
  have hev := parts_ev (zxT τ zx) zx (subs.take i)
  have hfl := List.length_take_le i subs
  have hok : (partsZ (zxT τ zx) zx (subs.take i)).1.Ok (N + subs.length) := ((ho.zx zx).parts zx _ (fun y hy => (hx.each y (List.mem_of_mem_take hy)).few)).more (by rw [List.length_take]; omega)
  refine .sr (.ui rfl rfl rfl (.nt (.seq (.condD rfl (fun h74 => ?_) (fun h74 => ?_)))))
  ·have hi2 : i < subs.length := by omega
   refine .rdShape (p := p) hrd (by repeat' constructor) (by omega) fun bs os e1 => ?_
   subst e1
   have hys := hx.each _ (List.getElem_mem hi2)
   refine .sk (.seq (.block (.sr (.q (.indexAddr rfl rfl el_58 (by omega)) rfl (.q (.loadRdA (sz := 8) (j := i * 8) (k := 8) (p := p) (vs := ptC subs[i]) rfl ag_60 (by repeat' constructor) hrd (by simp) (by omega) (by omega) (flatMap_at (f := ptC) (sz := 8) (fun _ _ => rfl) (by omega))) rfl (.oq (.allocA ze_60) ?_))))))
   rintro v L' ⟨by1, rfl, rfl⟩
   refine .sa rfl rfl sz_60 (by exact hys.all) ?_
   refine .nil (.ptCast (b := by1) (l' := ptC subs[i]) (by repeat' constructor) rfl ?_)
   refine .then_n (.region (.m rfl (.m rfl (.q (.loadAs (vs := ptC subs[i]) rfl ag_60 (by repeat' constructor) (by simp [ptC]) rfl) rfl (.u (.fieldAddr rfl fo_62_0) (.u (.ld rfl ag_3) (.oq (.c Tryz.func72 [_, _, _] (trpart_spec t (partsZ (zxT τ zx) zx (subs.take i)).1 subs[i] zx p hys (N + subs.length) hok (by omega))) ?_)))))))
   rintro v L' ⟨a21, c21, rfl, rfl⟩
   refine .oq (.append (n := (partsZ (zxT τ zx) zx (subs.take i)).2.length) (m := (partZ (partsZ (zxT τ zx) zx (subs.take i)).1 subs[i] zx).2.length) (ys := (partZ (partsZ (zxT τ zx) zx (subs.take i)).1 subs[i] zx).2.flatMap evC) (p := slR 50 3 (.slice a21 (partZ (partsZ (zxT τ zx) zx (subs.take i)).1 subs[i] zx).2.length c21) (partZ (partsZ (zxT τ zx) zx (subs.take i)).1 subs[i] zx).2.length ((partZ (partsZ (zxT τ zx) zx (subs.take i)).1 subs[i] zx).2.flatMap evC)) rfl rfl rfl el_47 (.inl ⟨_, Tryz.underlying47⟩) ze_50 rfl rfl ?hc108 ?hr109 ?hb110 (by decide)) ?_
   case hc108 => exact evC_cells _
   case hr109 => exact fun h hp => slR_rd hp
   case hb110 => have := part_ev (partsZ (zxT τ zx) zx (subs.take i)).1 subs[i] zx; omega
   rintro v L' ⟨⟨a21_6, c21_6, rfl⟩, rfl⟩
   refine .a rfl (.nil (.blk_n (.then_n (.region (.q (.add rfl rfl (by omega)) rfl (.m rfl (.nt ?_)))))))
   have hst := List.take_succ_eq_append_getElem hi2
   refine .trCast (τ' := (partsZ (zxT τ zx) zx (subs.take (i + 1))).1) (by repeat' constructor) (by rw [hst, parts_snoc]) (.slCast (T := 50) (sz := 3) (m' := (partsZ (zxT τ zx) zx (subs.take (i + 1))).2.length) (xs' := (partsZ (zxT τ zx) zx (subs.take (i + 1))).2.flatMap evC) (by repeat' constructor) (by rw [hst, parts_snoc]; simp) (by rw [hst, parts_snoc]; simp) ?_)
   exact .rk ((i + 1, .slice a21_6 ((partsZ (zxT τ zx) zx (subs.take i)).2.length + (partZ (partsZ (zxT τ zx) zx (subs.take i)).1 subs[i] zx).2.length) c21_6)) (⟨by dsimp only; omega, _, _, by rw [hst, parts_snoc, List.length_append]⟩) (by dsimp only; omega) ⟨rfl, rfl, rfl, rfl, rfl, rfl, rfl, rfl, trivial⟩
  have hii : i = subs.length := by omega
  rw [hii, List.take_length]
  refine .exit (.then_e (.then_e (.blk_e (.blk_n (.then_n (.sm rfl (.a rfl (.an rfl (.ret ?_)))))))))
  have hc : applyZ τ zx x subs = ((partsZ (zxT τ zx) zx subs).1, ((partsZ (zxT τ zx) zx subs).2, 0)) := by unfold applyZ; dsimp only; rw [if_neg h26, if_neg h42, if_pos h68]
  refine .trCast (τ' := (applyZ τ zx x subs).1) (by repeat' constructor) (by rw [hc]) (.slCast (T := 50) (sz := 3) (m' := (applyZ τ zx x subs).2.1.length) (xs' := (applyZ τ zx x subs).2.1.flatMap evC) (by repeat' constructor) (by (rw [hc]; try rfl)) (by (rw [hc]; try rfl)) ?_)
  exact .dn rfl rfl ⟨_, _, rfl, by rw [hc], ⟨_, _, by (rw [hc]; try rfl)⟩, rfl⟩
 refine .sr (.ui rfl rfl rfl (.an rfl (.condD rfl (fun h85 => ?_) (fun h85 => ?_))))
 ·refine .seq (.draw [] [[0, 1, 2, 3]] mixed (by kernel_rfl) (.g0 (.kv rfl (.fieldAddr rfl fo_60_6) (.kv rfl (.ld rfl ag_27) (.kv rfl (.assign rfl) (.kv rfl (.assign rfl) (.pf (.ret (.blk_r (.then_r (.add (slR_nil 50 3) ?_)))))))))))
  have hc : applyZ τ zx x subs = ((zxT τ zx), ([], x.err)) := by unfold applyZ; dsimp only; rw [if_neg h26, if_neg h42, if_neg h68, if_pos h85]
  refine .trCast (τ' := (applyZ τ zx x subs).1) (by repeat' constructor) (by rw [hc]) (.slCast (T := 50) (sz := 3) (m' := (applyZ τ zx x subs).2.1.length) (xs' := (applyZ τ zx x subs).2.1.flatMap evC) (by repeat' constructor) (by (rw [hc]; try rfl)) (by (rw [hc]; try rfl)) ?_)
  exact .dn rfl rfl ⟨_, _, rfl, by rw [hc], ⟨_, _, by (rw [hc]; try rfl)⟩, rfl⟩
 refine .region (.m rfl (.q (.loadAs (vs := ptC x) rfl ag_60 (by repeat' constructor) (by simp [ptC]) rfl) rfl (.u (.fieldAddr rfl fo_62_0) (.u (.ld rfl ag_3) (.oq (.c Tryz.func72 [_, _, _] (trpart_spec t (zxT τ zx) x zx p hx.own N (ho.zx zx) (by omega))) ?_)))))
 rintro v L' ⟨a5, c5, rfl, rfl⟩
 refine .a rfl (.nil (.blk_n (.then_n (.sm rfl (.a rfl (.an rfl (.ret ?_)))))))
 have hc : applyZ τ zx x subs = ((partZ (zxT τ zx) x zx).1, ((partZ (zxT τ zx) x zx).2, 0)) := by unfold applyZ; dsimp only; rw [if_neg h26, if_neg h42, if_neg h68, if_neg h85]
 refine .trCast (τ' := (applyZ τ zx x subs).1) (by repeat' constructor) (by rw [hc]) (.slCast (T := 50) (sz := 3) (m' := (applyZ τ zx x subs).2.1.length) (xs' := (applyZ τ zx x subs).2.1.flatMap evC) (by repeat' constructor) (by (rw [hc]; try rfl)) (by (rw [hc]; try rfl)) ?_)
 exact .dn rfl rfl ⟨_, _, rfl, by rw [hc], ⟨_, _, by (rw [hc]; try rfl)⟩, rfl⟩
theorem trstat_spec (t : Nat) (τ : Tr) (p : Bs) (N : Nat) (ho : τ.Ok N) (hN : N ≤ 1099511627776) : Fn Tryz.prog 76 #[vptr t, vstr p] [treeR t τ] fun v L => v = .tuple #[.agg (stC (statD τ p)).toArray, .bool (decide (thereT τ p))] ∧ L = [treeR t τ] := by
 refine Fn.intro Tryz.func76 rfl rfl fun F W => ?_
 refine .trOpen (τ := τ) (by repeat' constructor) fun rn rs m s hI => ?_
 have hlen := hI.len ho
 have hfew := ho.few
 refine .sr (.oq (.allocA ze_37) ?_)
 rintro v L' ⟨b4, rfl, rfl⟩
 refine .an rfl (.sr ?_)
 rcases hal : alook m p with _ | px
 ·refine .m rfl (.nf rfl fo_113_0 (.u (.ld rfl ag_110) (.m rfl (.q (.lookupN (m := m) (enc := ndV) (KeyLaw.str Tryz.underlying9) (hal) rfl rfl Tryz.underlying110 ze_107 (by repeat' constructor) rfl) rfl (.an rfl (.seq (.sm rfl (.q (.as (v' := .bool true) (by rfl) (.ptreq rfl rfl Tryz.underlying107)) rfl (.nt (.condT rfl (.sr (.q (.build (us := []) fl_37 ze_37 rfl rfl (by simp [isCell])) rfl (.sa rfl rfl sz_37 (by (first | (simp [isCell]; done) | (simp [isCell, setAll, Value.cells]; done))) ?_)))))))))))))
  refine .an rfl (.rt (.ptCast (b := b4) (l' := stC (statD τ p)) (by repeat' constructor) (by rw [hI.stat0 hal]; rfl) ?_))
  refine .trFold (τ := τ) hI (by repeat' constructor) rfl rfl rfl ?_
  exact .d2 rfl (.cellA rfl ag_37 (by repeat' constructor) (by simp [stC]) rfl) (.tmp rfl) ⟨by rw [decide_eq_false (hI.none_iff.1 hal)]; rfl, rfl⟩
 refine .m rfl (.nf rfl fo_113_0 (.u (.ld rfl ag_110) (.m rfl (.q (.lookupY (m := m) (enc := ndV) (KeyLaw.str Tryz.underlying9) (hal) rfl rfl Tryz.underlying110 ze_107 (by repeat' constructor) rfl) rfl (.an rfl (.seq (.sm rfl (.q (.as (v' := .bool false) (by rfl) (.ptreq rfl rfl Tryz.underlying107)) rfl (.nt (.condF rfl (.sk (.seq (.bigTake hal (by repeat' constructor) (.ndOpen (x := (p, px)) (by repeat' constructor) (.region (.m rfl (.nf rfl fo_109_2 (.q (.loadAs (vs := stC px.2.2.st) rfl ag_37 (by repeat' constructor) (by simp [ndC]) rfl) rfl (.oq (.allocA ze_37) ?_)))))))))))))))))))
 rintro v L' ⟨b7, rfl, rfl⟩
 refine .sa rfl rfl sz_37 (by intro v hv; simp only [stC, List.mem_cons, List.not_mem_nil, or_false] at hv; rcases hv with rfl | rfl | rfl | rfl | rfl | rfl | rfl | rfl | rfl <;> rfl) ?_
 refine .nil (.ptCast (b := b7) (l' := stC px.2.2.st) (by repeat' constructor) rfl ?_)
 refine .then_n (.seq (.draw [7, 10, 12] [[0, 1, 2, 3, 4, 5, 6, 9, 7, 8, 10], [11, 12]] mixed (by kernel_rfl) (.go [ptc px.1 _ _] (by repeat' constructor) (.k rfl (.move rfl) (.k rfl (.nilp rfl) (.k rfl (.fieldAddr rfl fo_109_0) (.k rfl (.ld rfl ag_9) (.k rfl (.strlen rfl Tryz.underlying9 rfl) (.mv rfl rfl (.mv rfl rfl (.k rfl (.fieldAddr rfl fo_37_7) (.hh rfl (.c Tryz.func135 [_, _] (trkids0_spec t rn (.map (some rs)) (vint τ.zx) m p (hI.plen ho) (by omega))) ?_))))))))))))
 rintro v L' ⟨⟨a5, c5, rfl⟩, rfl⟩
 refine D.k rfl (.slen rfl Tryz.underlying38 rfl) (.hh rfl (.store rfl rfl rfl sz_3 ?c45 (nfz0 _ _)) ?_)
 case c45 => simp [stC]
 rintro v L' rfl
 refine D.ph (.g0 (.kv rfl (.fieldAddr rfl fo_37_8) (.hh rfl (.store rfl rfl rfl sz_3 ?c49 (nfz0 _ _)) ?_)))
 case c49 => simp [stC]
 rintro v L' rfl
 refine D.ph (.fin (.ptCast (b := b7) (l' := stC (statD τ p)) (by repeat' constructor) (by rw [hI.stat hal, ← hI.kids ho p, sortS_length]; rfl) ?_))
 refine .then_n (.sr (.q (.loadAs (vs := stC (statD τ p)) rfl ag_37 (by repeat' constructor) (by simp [stC]) rfl) rfl (.sa rfl rfl sz_37 (by intro v hv; simp only [stC, List.mem_cons, List.not_mem_nil, or_false] at hv; rcases hv with rfl | rfl | rfl | rfl | rfl | rfl | rfl | rfl | rfl <;> rfl) ?_)))
 refine .an rfl (.ret (.ptCast (b := b4) (l' := stC (statD τ p)) (by repeat' constructor) rfl ?_))
 refine .ndFold (x := (p, px)) (by repeat' constructor) rfl rfl rfl rfl (.bigPut (f := inN) (m := m) p px rfl (by repeat' constructor) ?_)
 rw [aset_self hal]
 refine .trFold (τ := τ) hI (by repeat' constructor) rfl rfl rfl ?_
 exact .d2 rfl (.cellA rfl ag_37 (by repeat' constructor) (by simp [stC]) rfl) (.tmp rfl) ⟨by rw [decide_eq_true (hI.some_iff hal)]; rfl, rfl⟩
theorem trget_spec (t : Nat) (τ : Tr) (p : Bs) (N : Nat) (ho : τ.Ok N) (hN : N ≤ 1099511627776) : Fn Tryz.prog 106 #[vptr t, vstr p] [treeR t τ] fun v L => v = .tuple #[vstr (dataD τ p), .agg (stC (statD τ p)).toArray, vint (if thereT τ p then 0 else 60)] ∧ L = [treeR t τ] := by
 refine Fn.intro Tryz.func106 rfl rfl fun F W => ?_
 refine .sr (.a rfl (.oq (.allocA ze_37) ?_))
 rintro v L' ⟨b5, rfl, rfl⟩
 refine .an rfl (.sm rfl (.m rfl (.cv Tryz.func76 [_, _] (trstat_spec t τ p N ho hN) ?_)))
 refine .m rfl (.u (.extract rfl rfl) (.u (.extract rfl rfl) (.oq (.allocA ze_37) ?_)))
 rintro v L' ⟨b7, rfl, rfl⟩
 refine .sa rfl rfl sz_37 (by intro v hv; simp only [stC, List.mem_cons, List.not_mem_nil, or_false] at hv; rcases hv with rfl | rfl | rfl | rfl | rfl | rfl | rfl | rfl | rfl <;> rfl) ?_
 refine .a rfl (.nil (.ptCast (b := b7) (l' := stC (statD τ p)) (by repeat' constructor) rfl ?_))
 refine .then_n (.seq (.sm rfl (.u (.not rfl) (.nt (.condN rfl (fun h16 => ?_) (fun h16 => ?_))))))
 ·refine .sr (.q (.build (us := []) fl_37 ze_37 rfl rfl (by simp [isCell])) rfl (.a rfl (.sa rfl rfl sz_37 (by (first | (simp [isCell]; done) | (simp [isCell, setAll, Value.cells]; done))) ?_)))
  refine .an rfl (.rt (.ptCast (b := b5) (l' := stC (statD τ p)) (by repeat' constructor) (by rw [show statD τ p = st0 by unfold statD statZ; unfold thereT at h16; cases e : alook τ.nodes p with | none => rfl | some y => rw [e] at h16; exact absurd rfl h16]; rfl) ?_))
  exact .done3 rfl (.tmp rfl) (.cellA rfl ag_37 (by repeat' constructor) (by simp [stC]) rfl) (.tmp rfl) ⟨by rw [if_neg h16, show dataD τ p = [] by unfold dataD; unfold thereT at h16; cases e : alook τ.nodes p with | none => rfl | some y => rw [e] at h16; exact absurd rfl h16]; rfl, rfl⟩ (by repeat' constructor) (by repeat' constructor)
 refine .sk (.seq (.trOpen (τ := τ) (by repeat' constructor) fun rn rs m s hI => ?_))
 obtain ⟨px, hal⟩ : ∃ px, alook m p = some px := by rcases h : alook m p with _ | y; exact absurd h16 (hI.none_iff.1 h); exact ⟨y, rfl⟩
 refine .bigTake hal (by repeat' constructor) (.ndOpen (x := (p, px)) (by repeat' constructor) (.draw [11] [[0, 1, 2, 3, 4, 5, 6, 7, 8, 9, 10, 11], [12]] mixed (by kernel_rfl) (.g0 (.mv rfl rfl (.nf rfl rfl rfl fo_113_0 (.kv rfl (.ld rfl ag_110) (.mv rfl rfl (.kv rfl (.lookupY (m := m) (enc := ndV) (KeyLaw.str Tryz.underlying9) (hal) rfl rfl Tryz.underlying110 ze_107 (by repeat' constructor) rfl) (.nf rfl rfl rfl fo_109_0 (.kv rfl (.ld rfl ag_9) (.kv rfl (.loadAs (vs := stC (statD τ p)) rfl ag_37 (by repeat' constructor) (by simp [stC]) rfl) (.kv rfl (.assign rfl) (.sa rfl rfl rfl sz_37 (by intro v hv; simp only [stC, List.mem_cons, List.not_mem_nil, or_false] at hv; rcases hv with rfl | rfl | rfl | rfl | rfl | rfl | rfl | rfl | rfl <;> rfl) ?_)))))))))))))
 refine D.ph (.g0 (.kv rfl (.assign rfl) (.pf (.ret (.ptCast (b := b5) (l' := stC (statD τ p)) (by repeat' constructor) rfl ?_)))))
 refine .ndFold (x := (p, px)) (by repeat' constructor) rfl rfl rfl rfl (.bigPut (f := inN) (m := m) p px rfl (by repeat' constructor) ?_)
 rw [aset_self hal]
 refine .trFold (τ := τ) hI (by repeat' constructor) rfl rfl rfl ?_
 exact .done3 rfl (.tmp rfl) (.cellA rfl ag_37 (by repeat' constructor) (by simp [stC]) rfl) (.tmp rfl) ⟨by rw [if_pos h16, show dataD τ p = px.2.2.data by unfold dataD; rw [hI.at hal]; rfl]; rfl, rfl⟩ (by repeat' constructor) (by repeat' constructor)
/- not in this seat -/
/- not in this seat -/
/- not in this seat -/
/- not in this seat -/
/- not in this seat -/
theorem pwhen_spec (b : Bool) (e : Int) : Fn Tryz.prog 90 #[.bool b, vint e] [] fun v L => v = vint (if b = true then e else 0) ∧ L = [] := by
 refine Fn.intro Tryz.func90 rfl rfl fun F W => ?_
 refine .sr (.an rfl (.seq (.sm rfl (.nt (.condB rfl (fun h5 => ?_) (fun h5 => ?_))))))
 ·refine .sm rfl (.an rfl (.rt ?_))
  exact .dn rfl rfl ⟨by first | rw [if_pos (by first | assumption | simpa using h5)] | rw [if_neg (by first | assumption | simpa using h5)], rfl⟩
 refine .sk (.sr (.an rfl (.ret ?_)))
 exact .dn rfl rfl ⟨by first | rw [if_pos (by first | assumption | simpa using h5)] | rw [if_neg (by first | assumption | simpa using h5)], rfl⟩
theorem ag_pf : aggOf Tryz.prog 176 = some none := by kernel_rfl
theorem ag_ps : aggOf Tryz.prog 168 = some none := by kernel_rfl
theorem ag_px : aggOf Tryz.prog 169 = some none := by kernel_rfl
theorem ze_176 : zeroOf Tryz.prog 176 = some .nilFunc := by kernel_rfl
theorem pfirst_spec (fs : List Value) (es : List Int) (va : Value) (p Q : HP) (hl : fs.length = es.length) (hn : fs.length ≤ 4294967296) (hr : ∀ h : Hp, p h → rdS 1 h va fs.length fs)
    (hf : ∀ i (hi : i < es.length), (∀ j (hj : j < i), es[j]'(by omega) = 0) → FunV Tryz.prog (fs[i]'(by omega)) [] [Q] (fun v L => v = vint es[i] ∧ L = [Q])) : Fn Tryz.prog 85 #[va] [p, Q] fun v L => v = vint (firstZ es) ∧ L = [p, Q] := by
 refine Fn.intro Tryz.func85 rfl rfl fun F W => ?_
 refine .rdAny (p := p) hr (by repeat' constructor) fun aa ca e _ => ?_
 subst e
 refine .sr (.an rfl (.seq (.sm rfl (.q (.slen rfl Tryz.underlying230 rfl) rfl (.m rfl (.nt (.block (.loopK (ι := Nat) (fun q E => (8, vint q) :: E) (fun q => []) (fun q => q ≤ es.length ∧ ∀ j (hj : j < q) (hl : j < es.length), es[j] = 0) (fun q => es.length - q) (0) (ts := [6, 7]) (.cons rfl (.cons rfl (.nil))) (⟨Nat.zero_le _, fun j hj => by omega⟩) ⟨rfl, rfl, rfl, trivial⟩ (by repeat' constructor) ?_))))))))
 rintro i ⟨hi, hb⟩
 refine .sr (.ui rfl rfl rfl (.nt (.seq (.condD rfl (fun h9 => ?_) (fun h9 => ?_)))))
 ·have hi2 : i < es.length := by omega
  have hi3 : i < fs.length := by omega
  refine .rdShape (p := p) hr (by repeat' constructor) (by omega) fun ba oa e => ?_
  subst e
  refine .sk (.seq (.block (.sr (.q (.indexAddr rfl rfl el_230 (by omega)) rfl (.q (.loadEl (p := p) (i := i * 1) (v := fs[i]) rfl ag_pf (by repeat' constructor) hr (by simp [hi3])) rfl (.an rfl (.sm rfl (.oq (.callD (vs := []) rfl rfl (hf i hi2 (fun j hj => hb j hj (by omega)))) ?_))))))))
  rintro v L' ⟨rfl, rfl⟩
  refine .an rfl (.sm rfl (.ui rfl rfl rfl (.nt (.condN rfl (fun h15 => ?_) (fun h15 => ?_)))))
  ·refine .sm rfl (.an rfl (.ret (.blk_r (.then_r (.then_r (.blk_r (.then_r ?_)))))))
   exact .dn rfl rfl ⟨by rw [first_at hi2 (fun j hj => hb j hj (by omega)) (by omega)], rfl⟩
  refine .skip (.blk_n (.then_n (.region (.q (.add rfl rfl (by omega)) rfl (.m rfl (.nt ?_))))))
  exact .rk (i + 1) (⟨by omega, fun j hj hl => by rcases Nat.lt_or_ge j i with h | h; exact hb j h hl; obtain rfl : j = i := (by omega); omega⟩) (by omega) ⟨rfl, rfl, rfl, trivial⟩
 refine .exit (.then_e (.then_e (.blk_e (.then_n (.sr (.an rfl (.ret ?_)))))))
 exact .dn rfl rfl ⟨by rw [first_none (fun j hj => hb j (by omega) hj)], rfl⟩
theorem pthere_spec (t : Nat) (τ : Tr) (u : Who) (iv : Value) (r : Rq) (p : HP) (hA : WiA p u iv r) (N : Nat) (ho : τ.Ok N) (hN : N ≤ 1099511627776) (q : Bs) : Fn Tryz.prog 104 #[.agg (wiC t u iv r).toArray, vstr q] [treeR t τ, p] fun v L => v = .bool (decide (thereT τ q)) ∧ L = [treeR t τ, p] := by
 refine Fn.intro Tryz.func104 rfl rfl fun F W => ?_
 refine .sr (.oq (.box rfl) ?_)
 rintro v L' ⟨b3, rfl, rfl⟩
 refine .a rfl (.nil (.pc b3 (wiC t u iv r) ?_))
 refine .then_n (.sr (.u (.fieldAddr rfl fo_134_0) (.u (.ld rfl ag_76) (.m rfl (.cv Tryz.func76 [_, _] (trstat_spec t τ q N ho hN) ?_)))))
 refine .m rfl (.u (.extract rfl rfl) (.u (.extract rfl rfl) (.oq (.allocA ze_37) ?_)))
 rintro v L' ⟨b5, rfl, rfl⟩
 refine .sa rfl rfl sz_37 (by simp [stC, isCell]) ?_
 refine .an rfl (.sm rfl (.an rfl (.ret ?_)))
 exact .vv
theorem pmay_spec (t : Nat) (τ : Tr) (u : Who) (iv : Value) (r : Rq) (p : HP) (hA : WiA p u iv r) (N : Nat) (ho : τ.Ok N) (hN : N ≤ 1099511627776) (q : Bs) (perm : Int) : Fn Tryz.prog 92 #[.agg (wiC t u iv r).toArray, vstr q, vint perm] [treeR t τ, p] fun v L => v = .bool (decide (mayT τ u.ids q perm)) ∧ L = [treeR t τ, p] := by
 refine Fn.intro Tryz.func92 rfl rfl fun F W => ?_
 refine .sr (.oq (.box rfl) ?_)
 rintro v L' ⟨b3, rfl, rfl⟩
 refine .a rfl (.nil (.pc b3 (wiC t u iv r) ?_))
 refine .then_n (.sr (.u (.fieldAddr rfl fo_134_0) (.u (.ld rfl ag_76) (.m rfl (.oq (.c Tryz.func108 [_, _] (tracl_spec t τ q N ho)) ?_)))))
 rintro v L' ⟨va, rfl, ⟨aa, ca, rfl⟩, rfl⟩
 refine .m rfl (.u (.extract rfl rfl) (.u (.extract rfl rfl) (.a rfl (.an rfl (.sm rfl (.ui rfl rfl rfl (.m rfl (.dec (t := 18) rfl (fun h2_18 => ?_) (fun h2_18 => ?_)))))))))
 ·refine .kDT (t := 17) rfl h2_18 (.grun (t := 18) rfl rfl rfl (.m rfl (.grun (t := 18) rfl rfl rfl (.m rfl (.grun (t := 18) rfl rfl rfl (.u (.fieldAddr rfl fo_134_2) (.grun (t := 18) rfl rfl rfl (.u (.ld rfl ag_38) (.grun (t := 18) rfl rfl rfl (.oq (.call Tryz.func170 rfl rfl (vs := [_, _, _]) rfl (amay_spec _ (aclD τ q) _ (fun _ => slR_rd) (by have := aclD_few ho q; omega) perm iv u.ids p hA.ids (by have := hA.few; omega))) ?_))))))))))
  rintro v L' ⟨rfl, rfl⟩
  refine .u (.pickT rfl rfl) (.an rfl (.ret ?_))
  exact .dn rfl rfl ⟨by first | (have g := there_of h2_18; congr 1; simp [mayT, g]; done) | (have g := there_not h2_18; congr 1; simp [mayT, g]; done), rfl⟩
 refine .kDF (t := 17) rfl h2_18 (.gk (.gk (.gk (.gk (.gk (.u (.pickF rfl rfl) (.an rfl (.ret ?_))))))))
 exact .dn rfl rfl ⟨by first | (have g := there_of h2_18; congr 1; simp [mayT, g]; done) | (have g := there_not h2_18; congr 1; simp [mayT, g]; done), rfl⟩
theorem pc1_spec (t : Nat) (τ : Tr) (u : Who) (iv : Value) (r : Rq) (p : HP) (hA : WiA p u iv r) (N : Nat) (ho : τ.Ok N) (hN : N ≤ 1099511627776) (b : Nat) : Fn Tryz.prog 143 #[vptr b] [ptc b (wiC t u iv r) 134] fun v L => v = vint (checkZ r.path) ∧ L = [ptc b (wiC t u iv r) 134] := by
 refine Fn.intro Tryz.func143 rfl rfl fun F W => ?_
 have hpl := hA.rq.path
 have hpl2 : r.path.length ≤ 1048576 := by omega
 refine .sr (.an rfl (.sr (.u (.fieldAddr rfl fo_134_3) (.u (.fieldAddr rfl fo_33_2) (.u (.ld rfl ag_9) (.cv Tryz.func87 [_] (check_spec r.path hpl2) ?_))))))
 refine .an rfl (.ret ?_)
 exact .vv
theorem pc2_spec (t : Nat) (τ : Tr) (u : Who) (iv : Value) (r : Rq) (p : HP) (hA : WiA p u iv r) (N : Nat) (ho : τ.Ok N) (hN : N ≤ 1099511627776) (b : Nat) : Fn Tryz.prog 144 #[vptr b] [ptc b (wiC t u iv r) 134] fun v L => v = vint (whenZ (r.data.length > 100 ∨ r.flags < 0 ∨ r.flags > 3) 1) ∧ L = [ptc b (wiC t u iv r) 134] := by
 refine Fn.intro Tryz.func144 rfl rfl fun F W => ?_
 refine .sr (.an rfl (.sr (.u (.fieldAddr rfl fo_134_3) (.u (.fieldAddr rfl fo_33_3) (.u (.ld rfl ag_9) (.q (.strlen rfl Tryz.underlying9 rfl) rfl (.ui rfl rfl rfl (.m rfl (.dec (t := 7) rfl (fun h1_7 => ?_) (fun h1_7 => ?_))))))))))
 ·refine .kDT (t := 6) rfl h1_7 (.gk (.gk (.gk (.gk (.u (.pickT rfl rfl) (.m rfl (.gk (.gk (.gk (.gk (.u (.pickT rfl rfl) (.cv Tryz.func90 [_, _] (pwhen_spec _ _) ?_))))))))))))
  refine .an rfl (.ret ?_)
  exact .dn rfl rfl ⟨by congr 1; unfold whenZ; first | (simp_all; done) | (simp_all; omega) | (split <;> simp_all; done) | (split <;> simp_all <;> omega), rfl⟩
 refine .kDF (t := 6) rfl h1_7 (.grun (t := 7) rfl rfl rfl (.u (.fieldAddr rfl fo_134_3) (.grun (t := 7) rfl rfl rfl (.u (.fieldAddr rfl fo_33_5) (.grun (t := 7) rfl rfl rfl (.u (.ld rfl ag_3) (.grun (t := 7) rfl rfl rfl (.ui rfl rfl rfl (.u (.pickF rfl rfl) (.m rfl (.dec (t := 13) rfl (fun h1_13 => ?_) (fun h1_13 => ?_))))))))))))
 ·refine .kDT (t := 11) rfl h1_13 (.kDT (t := 12) rfl h1_13 (.gk (.gk (.gk (.gk (.u (.pickT rfl rfl) (.cv Tryz.func90 [_, _] (pwhen_spec _ _) ?_)))))))
  refine .an rfl (.ret ?_)
  exact .dn rfl rfl ⟨by congr 1; unfold whenZ; first | (simp_all; done) | (simp_all; omega) | (split <;> simp_all; done) | (split <;> simp_all <;> omega), rfl⟩
 refine .kDF (t := 11) rfl h1_13 (.kDF (t := 12) rfl h1_13 (.grun (t := 13) rfl rfl rfl (.u (.fieldAddr rfl fo_134_3) (.grun (t := 13) rfl rfl rfl (.u (.fieldAddr rfl fo_33_5) (.grun (t := 13) rfl rfl rfl (.u (.ld rfl ag_3) (.grun (t := 13) rfl rfl rfl (.ui rfl rfl rfl (.u (.pickF rfl rfl) (.cv Tryz.func90 [_, _] (pwhen_spec _ _) ?_)))))))))))
 refine .an rfl (.ret ?_)
 exact .dn rfl rfl ⟨by congr 1; unfold whenZ; first | (simp_all; done) | (simp_all; omega) | (split <;> simp_all; done) | (split <;> simp_all <;> omega), rfl⟩
theorem pc3_spec (t : Nat) (τ : Tr) (u : Who) (iv : Value) (r : Rq) (p : HP) (hA : WiA p u iv r) (N : Nat) (ho : τ.Ok N) (hN : N ≤ 1099511627776) (b : Nat) : Fn Tryz.prog 145 #[vptr b] [ptc b (wiC t u iv r) 134, p] fun v L => v = vint (whenZ (¬ rightZ r.acl = true) 50) ∧ L = [ptc b (wiC t u iv r) 134, p] := by
 refine Fn.intro Tryz.func145 rfl rfl fun F W => ?_
 refine .sr (.an rfl (.sr (.u (.fieldAddr rfl fo_134_3) (.u (.fieldAddr rfl fo_33_4) (.u (.ld rfl ag_30) (.oq (.call Tryz.func146 rfl rfl (vs := [_]) rfl (aright_spec _ r.acl p hA.rq.acl (by have := hA.rq.many; omega) (fun a ha => (hA.rq.ids a ha).2))) ?_))))))
 rintro v L' ⟨rfl, rfl⟩
 refine .u (.not rfl) (.cv Tryz.func90 [_, _] (pwhen_spec _ _) ?_)
 refine .an rfl (.ret ?_)
 exact .dn rfl rfl ⟨by congr 1; unfold whenZ; first | (simp_all; done) | (simp_all; omega) | (split <;> simp_all; done) | (split <;> simp_all <;> omega), rfl⟩
theorem pc4_spec (b : Nat) (c : Prop) [Decidable c] : Fn Tryz.prog 147 #[vptr b] [ptc b [.bool (decide c)] 4] fun v L => v = vint (whenZ (¬ c) 60) ∧ L = [ptc b [.bool (decide c)] 4] := by
 refine Fn.intro Tryz.func147 rfl rfl fun F W => ?_
 refine .sr (.an rfl (.sr (.u (.ld rfl ag_4) (.u (.not rfl) (.cv Tryz.func90 [_, _] (pwhen_spec _ _) ?_)))))
 refine .an rfl (.ret ?_)
 exact .dn rfl rfl ⟨by congr 1; unfold whenZ; first | (simp_all; done) | (simp_all; omega) | (split <;> simp_all; done) | (split <;> simp_all <;> omega), rfl⟩
theorem pc5_spec (b : Nat) (s : Stt) : Fn Tryz.prog 148 #[vptr b] [ptc b (stC s) 37] fun v L => v = vint (whenZ (s.own ≠ 0) 63) ∧ L = [ptc b (stC s) 37] := by
 refine Fn.intro Tryz.func148 rfl rfl fun F W => ?_
 refine .sr (.an rfl (.sr (.u (.fieldAddr rfl fo_37_6) (.u (.ld rfl ag_3) (.ui rfl rfl rfl (.cv Tryz.func90 [_, _] (pwhen_spec _ _) ?_))))))
 refine .an rfl (.ret ?_)
 exact .dn rfl rfl ⟨by congr 1; unfold whenZ; first | (simp_all; done) | (simp_all; omega) | (split <;> simp_all; done) | (split <;> simp_all <;> omega), rfl⟩
theorem pc6_spec (t : Nat) (τ : Tr) (u : Who) (iv : Value) (r : Rq) (p : HP) (hA : WiA p u iv r) (N : Nat) (ho : τ.Ok N) (hN : N ≤ 1099511627776) (b : Nat) (c : Nat) (q : Bs) : Fn Tryz.prog 149 #[vptr b, vptr c] [ptc b (wiC t u iv r) 134, ptc c [vstr q] 9, treeR t τ, p] fun v L => v = vint (whenZ (¬ mayT τ u.ids q 4) 65) ∧ L = [ptc b (wiC t u iv r) 134, ptc c [vstr q] 9, treeR t τ, p] := by
 refine Fn.intro Tryz.func149 rfl rfl fun F W => ?_
 refine .sr (.an rfl (.sr (.q (.la (wiC t u iv r) rfl ag_134) rfl (.u (.ld rfl ag_9) (.cv Tryz.func92 [_, _, _] (pmay_spec t τ u iv r p hA N ho hN q 4) ?_)))))
 refine .u (.not rfl) (.cv Tryz.func90 [_, _] (pwhen_spec _ _) ?_)
 refine .an rfl (.ret ?_)
 exact .dn rfl rfl ⟨by congr 1; unfold whenZ; first | (simp_all; done) | (simp_all; omega) | (split <;> simp_all; done) | (split <;> simp_all <;> omega), rfl⟩
theorem pc7_spec (c : Nat) (q : Bs) (hq : q.length ≤ 1048576) : Fn Tryz.prog 150 #[vptr c] [ptc c [vstr q] 9] fun v L => v = vint (whenZ (checkZ q ≠ 0) 41) ∧ L = [ptc c [vstr q] 9] := by
 refine Fn.intro Tryz.func150 rfl rfl fun F W => ?_
 refine .sr (.an rfl (.sr (.u (.ld rfl ag_9) (.cv Tryz.func87 [_] (check_spec q hq) ?_))))
 refine .ui rfl rfl rfl (.cv Tryz.func90 [_, _] (pwhen_spec _ _) ?_)
 refine .an rfl (.ret ?_)
 exact .dn rfl rfl ⟨by congr 1; unfold whenZ; first | (simp_all; done) | (simp_all; omega) | (split <;> simp_all; done) | (split <;> simp_all <;> omega), rfl⟩
theorem pc8_spec (t : Nat) (τ : Tr) (u : Who) (iv : Value) (r : Rq) (p : HP) (hA : WiA p u iv r) (N : Nat) (ho : τ.Ok N) (hN : N ≤ 1099511627776) (b : Nat) (c : Nat) (q : Bs) : Fn Tryz.prog 151 #[vptr b, vptr c] [ptc b (wiC t u iv r) 134, ptc c [vstr q] 9, treeR t τ, p] fun v L => v = vint (whenZ (thereT τ q) 61) ∧ L = [ptc b (wiC t u iv r) 134, ptc c [vstr q] 9, treeR t τ, p] := by
 refine Fn.intro Tryz.func151 rfl rfl fun F W => ?_
 refine .sr (.an rfl (.sr (.q (.la (wiC t u iv r) rfl ag_134) rfl (.u (.ld rfl ag_9) (.cv Tryz.func104 [_, _] (pthere_spec t τ u iv r p hA N ho hN q) ?_)))))
 refine .cv Tryz.func90 [_, _] (pwhen_spec _ _) ?_
 refine .an rfl (.ret ?_)
 exact .dn rfl rfl ⟨by congr 1; unfold whenZ; first | (simp_all; done) | (simp_all; omega) | (split <;> simp_all; done) | (split <;> simp_all <;> omega), rfl⟩
theorem pc9_spec (t : Nat) (τ : Tr) (u : Who) (iv : Value) (r : Rq) (p : HP) (hA : WiA p u iv r) (N : Nat) (ho : τ.Ok N) (hN : N ≤ 1099511627776) (b : Nat) : Fn Tryz.prog 152 #[vptr b] [ptc b (wiC t u iv r) 134, treeR t τ] fun v L => v = vint (whenZ ((pathsZ τ).length ≥ 64) 64) ∧ L = [ptc b (wiC t u iv r) 134, treeR t τ] := by
 refine Fn.intro Tryz.func152 rfl rfl fun F W => ?_
 refine .sr (.an rfl (.sr (.u (.fieldAddr rfl fo_134_0) (.u (.ld rfl ag_76) (.oq (.c Tryz.func140 [_] (trpaths_spec t τ N ho hN)) ?_)))))
 rintro v L' ⟨⟨a0, c0, rfl⟩, rfl⟩
 refine .q (.slen rfl Tryz.underlying38 rfl) rfl (.ui rfl rfl rfl (.cv Tryz.func90 [_, _] (pwhen_spec _ _) ?_))
 refine .an rfl (.ret ?_)
 exact .dn rfl rfl ⟨by congr 1; unfold whenZ; first | (simp_all; done) | (simp_all; omega) | (split <;> simp_all; done) | (split <;> simp_all <;> omega), rfl⟩
theorem pc10_spec (t : Nat) (τ : Tr) (u : Who) (iv : Value) (r : Rq) (p : HP) (hA : WiA p u iv r) (N : Nat) (ho : τ.Ok N) (hN : N ≤ 1099511627776) (b : Nat) : Fn Tryz.prog 153 #[vptr b] [ptc b (wiC t u iv r) 134, treeR t τ] fun v L => v = vint (whenZ (andI r.flags 1 ≠ 0 ∧ (ownedZ τ u.ses).length ≥ 32) 64) ∧ L = [ptc b (wiC t u iv r) 134, treeR t τ] := by
 refine Fn.intro Tryz.func153 rfl rfl fun F W => ?_
 refine .sr (.an rfl (.sr (.u (.fieldAddr rfl fo_134_3) (.u (.fieldAddr rfl fo_33_5) (.u (.ld rfl ag_3) (.u (.andI rfl rfl) (.ui rfl rfl rfl (.m rfl (.ndec (t := 7) rfl (fun h1_7 => ?_) (fun h1_7 => ?_))))))))))
 ·refine .kNT (t := 6) rfl h1_7 (.grun (t := 7) rfl rfl rfl (.u (.fieldAddr rfl fo_134_0) (.grun (t := 7) rfl rfl rfl (.u (.ld rfl ag_76) (.grun (t := 7) rfl rfl rfl (.u (.fieldAddr rfl fo_134_1) (.grun (t := 7) rfl rfl rfl (.u (.ld rfl ag_3) (.grun (t := 7) rfl rfl rfl (.oq (.c Tryz.func80 [_, _] (trowned_spec t τ u.ses N ho hN)) ?_))))))))))
  rintro v L' ⟨⟨a0, c0, rfl⟩, rfl⟩
  refine .grun (t := 7) rfl rfl rfl (.q (.slen rfl Tryz.underlying38 rfl) rfl (.grun (t := 7) rfl rfl rfl (.ui rfl rfl rfl (.u (.pickT rfl rfl) (.cv Tryz.func90 [_, _] (pwhen_spec _ _) ?_)))))
  refine .an rfl (.ret ?_)
  exact .dn rfl rfl ⟨by congr 1; unfold whenZ; first | (simp_all; done) | (simp_all; omega) | (split <;> simp_all; done) | (split <;> simp_all <;> omega), rfl⟩
 refine .kNF (t := 6) rfl h1_7 (.gk (.gk (.gk (.gk (.gk (.gk (.gk (.u (.pickF rfl rfl) (.cv Tryz.func90 [_, _] (pwhen_spec _ _) ?_)))))))))
 refine .an rfl (.ret ?_)
 exact .dn rfl rfl ⟨by congr 1; unfold whenZ; first | (simp_all; done) | (simp_all; omega) | (split <;> simp_all; done) | (split <;> simp_all <;> omega), rfl⟩
theorem pcfirst (t : Nat) (τ : Tr) (u : Who) (iv : Value) (r : Rq) (p : HP) (hA : WiA p u iv r) (N : Nat) (ho : τ.Ok N) (hN : N ≤ 1099511627776) (b1 bu bs bi bw : Nat) (va : Value) (p0 : HP) (hr : ∀ h : Hp, p0 h → rdS 1 h va 10 [.func (.func 143) #[] #[vptr b1], .func (.func 144) #[] #[vptr b1], .func (.func 145) #[] #[vptr b1], .func (.func 147) #[] #[vptr bi], .func (.func 148) #[] #[vptr bs], .func (.func 149) #[] #[vptr b1, vptr bu], .func (.func 150) #[] #[vptr bw], .func (.func 151) #[] #[vptr b1, vptr bw], .func (.func 152) #[] #[vptr b1], .func (.func 153) #[] #[vptr b1]]) : Fn Tryz.prog 85 #[va] [p0, ptc b1 (wiC t u iv r) 134, ptc bu [vstr (parentZ r.path)] 9, ptc bs (stC (upS τ r)) 37, ptc bi [.bool (decide (thereT τ (parentZ r.path)))] 4, ptc bw [vstr (fullZ τ r)] 9, treeR t τ, p] fun v L => v = vint (firstZ (createE τ u r)) ∧ L = [p0, ptc b1 (wiC t u iv r) 134, ptc bu [vstr (parentZ r.path)] 9, ptc bs (stC (upS τ r)) 37, ptc bi [.bool (decide (thereT τ (parentZ r.path)))] 4, ptc bw [vstr (fullZ τ r)] 9, treeR t τ, p] := by
 refine Fn.unpack (pfirst_spec [.func (.func 143) #[] #[vptr b1], .func (.func 144) #[] #[vptr b1], .func (.func 145) #[] #[vptr b1], .func (.func 147) #[] #[vptr bi], .func (.func 148) #[] #[vptr bs], .func (.func 149) #[] #[vptr b1, vptr bu], .func (.func 150) #[] #[vptr bw], .func (.func 151) #[] #[vptr b1, vptr bw], .func (.func 152) #[] #[vptr b1], .func (.func 153) #[] #[vptr b1]] (createE τ u r) va p0 _ rfl (by show 10 ≤ _; decide) hr ?_)
 intro i hi hz
 have hi2 : i < 10 := hi
 have hc : i = 0 ∨ i = 1 ∨ i = 2 ∨ i = 3 ∨ i = 4 ∨ i = 5 ∨ i = 6 ∨ i = 7 ∨ i = 8 ∨ i = 9 := by omega
 rcases hc with rfl | rfl | rfl | rfl | rfl | rfl | rfl | rfl | rfl | rfl
 ·exact FunV.share (us := []) (vs := []) (ws := [vptr b1]) Tryz.func143 rfl rfl (by repeat' constructor) (pc1_spec t τ u iv r p hA N ho hN b1)
 ·exact FunV.share (us := []) (vs := []) (ws := [vptr b1]) Tryz.func144 rfl rfl (by repeat' constructor) (pc2_spec t τ u iv r p hA N ho hN b1)
 ·exact FunV.share (us := []) (vs := []) (ws := [vptr b1]) Tryz.func145 rfl rfl (by repeat' constructor) (pc3_spec t τ u iv r p hA N ho hN b1)
 ·exact FunV.share (us := []) (vs := []) (ws := [vptr bi]) Tryz.func147 rfl rfl (by repeat' constructor) (pc4_spec bi _)
 ·exact FunV.share (us := []) (vs := []) (ws := [vptr bs]) Tryz.func148 rfl rfl (by repeat' constructor) (pc5_spec bs _)
 ·exact FunV.share (us := []) (vs := []) (ws := [vptr b1, vptr bu]) Tryz.func149 rfl rfl (by repeat' constructor) (pc6_spec t τ u iv r p hA N ho hN b1 bu _)
 ·exact FunV.share (us := []) (vs := []) (ws := [vptr bw]) Tryz.func150 rfl rfl (by repeat' constructor) (pc7_spec bw _ (by have := whole_len hA τ; omega))
 ·exact FunV.share (us := []) (vs := []) (ws := [vptr b1, vptr bw]) Tryz.func151 rfl rfl (by repeat' constructor) (pc8_spec t τ u iv r p hA N ho hN b1 bw _)
 ·exact FunV.share (us := []) (vs := []) (ws := [vptr b1]) Tryz.func152 rfl rfl (by repeat' constructor) (pc9_spec t τ u iv r p hA N ho hN b1)
 ·exact FunV.share (us := []) (vs := []) (ws := [vptr b1]) Tryz.func153 rfl rfl (by repeat' constructor) (pc10_spec t τ u iv r p hA N ho hN b1)
theorem pcreate_spec (t : Nat) (τ : Tr) (u : Who) (iv : Value) (r : Rq) (p : HP) (hA : WiA p u iv r) (N : Nat) (ho : τ.Ok N) (hN : N ≤ 1099511627776) (hcv : I64 (upS τ r).cver) : Fn Tryz.prog 82 #[.agg (wiC t u iv r).toArray] [treeR t τ, p] fun v L => ∃ w : Value, v = .tuple #[.agg (ptC (withA (createX τ u r) w)).toArray, vint (firstZ (createE τ u r))] ∧ (∃ a c, w = .slice a r.acl.length c) ∧ L = [treeR t τ, p, slR 75 2 w r.acl.length (r.acl.flatMap acC)] := by
 refine Fn.intro Tryz.func82 rfl rfl fun F W => ?_
 have hpl := hA.rq.path
 have hpl2 : r.path.length ≤ 1048576 := by omega
 have hcl := hA.cells t
 refine .sr (.oq (.box rfl) ?_)
 rintro v L' ⟨b1, rfl, rfl⟩
 refine .oq (.allocA ze_60) ?_
 rintro v L' ⟨bx, rfl, rfl⟩
 refine .a rfl (.nil (.pc b1 (wiC t u iv r) ?_))
 refine .then_n (.sr (.u (.fieldAddr rfl fo_134_3) (.u (.fieldAddr rfl fo_33_2) (.u (.ld rfl ag_9) (.cv Tryz.func81 [_] (parent_spec r.path (by omega)) ?_)))))
 refine .oq (.alloc ze_9) ?_
 rintro v L' ⟨bu, rfl, rfl⟩
 refine .st rfl rfl rfl sz_9 ?_
 refine .nt (.sr (.u (.fieldAddr rfl fo_134_0) (.u (.ld rfl ag_76) (.u (.ld rfl ag_9) (.cv Tryz.func76 [_, _] (trstat_spec t τ _ N ho hN) ?_)))))
 refine .m rfl (.u (.extract rfl rfl) (.u (.extract rfl rfl) (.oq (.allocA ze_37) ?_)))
 rintro v L' ⟨bs, rfl, rfl⟩
 refine .oq (.alloc ze_4) ?_
 rintro v L' ⟨bi, rfl, rfl⟩
 refine .sa rfl rfl sz_37 (by simp [stC, isCell]) ?_
 refine .st rfl rfl rfl sz_4 ?_
 refine .nil (.pc bs (stC (upS τ r)) ?_)
 refine .then_n (.sr (.u (.fieldAddr rfl fo_134_3) (.u (.fieldAddr rfl fo_33_2) (.u (.ld rfl ag_9) (.oq (.alloc ze_9) ?_)))))
 rintro v L' ⟨bw, rfl, rfl⟩
 refine .st rfl rfl rfl sz_9 ?_
 refine .nt (.seq (.sr (.u (.fieldAddr rfl fo_134_3) (.u (.fieldAddr rfl fo_33_5) (.u (.ld rfl ag_3) (.u (.andI rfl rfl) (.ui rfl rfl rfl (.nt (.condN rfl (fun h28 => ?_) (fun h28 => ?_))))))))))
 ·have hw : fullZ τ r = numbered r.path (upS τ r).cver := if_pos h28
  refine .region (.u (.fieldAddr rfl fo_134_3) (.u (.fieldAddr rfl fo_33_2) (.u (.ld rfl ag_9) (.u (.fieldAddr rfl fo_37_4) (.u (.ld rfl ag_3) (.cv Tryz.func142 [_, _] (numbered_spec p hA.tab r.path (upS τ r).cver (by omega) hcv) ?_))))))
  refine .oq (.store rfl rfl rfl sz_9 ?c55 (nfz0 _ _)) ?_
  case c55 => exact Nat.zero_lt_one
  rintro v L' rfl
  refine .nt (.sr (.ptCast (b := bw) (l' := [vstr (fullZ τ r)]) (by repeat' constructor) (by rw [hw]; rfl) ?_))
  refine .q (.func (us := []) (vs := [_]) rfl rfl) rfl (.q (.func (us := []) (vs := [_]) rfl rfl) rfl (.q (.func (us := []) (vs := [_]) rfl rfl) rfl (.q (.func (us := []) (vs := [_]) rfl rfl) rfl (.q (.func (us := []) (vs := [_]) rfl rfl) rfl (.q (.func (us := []) (vs := [_, _]) rfl rfl) rfl (.q (.func (us := []) (vs := [_]) rfl rfl) rfl (.q (.func (us := []) (vs := [_, _]) rfl rfl) rfl (.q (.func (us := []) (vs := [_]) rfl rfl) rfl (.q (.func (us := []) (vs := [_]) rfl rfl) rfl (.oq (.buildSlice1 (vs := [_, _, _, _, _, _, _, _, _, _]) el_230 ze_176 rfl rfl rfl rfl rfl (by decide)) ?_))))))))))
  rintro v L' ⟨bf, rfl, rfl⟩
  refine .slMake (b := bf) (n := 10) (c := 10) (xs := [.func (.func 143) #[] #[vptr b1], .func (.func 144) #[] #[vptr b1], .func (.func 145) #[] #[vptr b1], .func (.func 147) #[] #[vptr bi], .func (.func 148) #[] #[vptr bs], .func (.func 149) #[] #[vptr b1, vptr bu], .func (.func 150) #[] #[vptr bw], .func (.func 151) #[] #[vptr b1, vptr bw], .func (.func 152) #[] #[vptr b1], .func (.func 153) #[] #[vptr b1]]) (by repeat' constructor) (by decide) (by exact Nat.le_refl 10) rfl (.cv Tryz.func85 [_] (pcfirst t τ u iv r p hA N ho hN b1 bu bs bi bw _ _ (fun _ => slR_rd)) ?_)
  refine .an rfl (.seq (.draw [7, 12, 13] [[0, 1, 2, 3, 4, 5, 6, 8, 9, 10, 7, 11, 12], [13]] mixed (by kernel_rfl) (.go [ptc b1 _ _, ptc bs _ _, ptc bw _ _] (by repeat' constructor) (.k rfl (.ld rfl ag_9) (.k rfl (.fieldAddr rfl fo_134_3) (.k rfl (.fieldAddr rfl fo_33_3) (.k rfl (.ld rfl ag_9) (.k rfl (.fieldAddr rfl fo_134_3) (.k rfl (.fieldAddr rfl fo_33_4) (.k rfl (.ld rfl ag_30) (.k rfl (.fieldAddr rfl fo_37_4) (.k rfl (.ld rfl ag_3) (.k rfl (.addW rfl rfl) (.h2 (k := 12) rfl rfl (by kernel_rfl) rfl (.c Tryz.func134 [_] (aclone_spec r.aclV r.acl p hA.rq.acl hA.rq.many)) (by repeat' constructor) (.allocA ze_60) (by repeat' constructor) ?_ ?_))))))))))))))
  ·rintro v L' ⟨⟨a7, c7, rfl⟩, rfl⟩
   refine D.k rfl (.build (us := [(0, _), (1, _), (2, _), (3, _), (5, _)]) fl_60 ze_60 rfl rfl (by simp [isCell])) (.hh rfl (.allocA ze_60) ?_)
   rintro v L' ⟨bp, rfl, rfl⟩
   refine D.ph (.g0 (.sa rfl rfl rfl sz_60 (by (first | (simp [isCell]; done) | (simp [isCell, setAll, Value.cells]; done))) ?_))
   refine D.ph (.fin (.pc bp (ptC ⟨1, fullZ τ r, r.data, .slice a7 r.acl.length c7, r.acl, 0, wrapI ((upS τ r).cver + 1), 0, nilV⟩) ?_))
   refine .then_n (.seq (.sr (.u (.fieldAddr rfl fo_134_3) (.u (.fieldAddr rfl fo_33_5) (.u (.ld rfl ag_3) (.u (.andI rfl rfl) (.ui rfl rfl rfl (.nt (.condN rfl (fun h63 => ?_) (fun h63 => ?_))))))))))
   ·refine .region (.u (.fieldAddr rfl fo_134_1) (.u (.ld rfl ag_3) (.u (.fieldAddr rfl fo_60_4) (.sw rfl rfl rfl sz_3 ?_))))
    refine .nt (.sr (.ptCast (b := bp) (l' := ptC (withA (createX τ u r) (.slice a7 r.acl.length c7))) (by repeat' constructor) (by unfold createX; first | (rw [if_pos h63]; rfl) | (rw [if_neg (fun g => g h63)]; rfl)) ?_))
    refine .q (.la (ptC (withA (createX τ u r) (.slice a7 r.acl.length c7))) rfl ag_60) rfl (.m rfl (.sa rfl rfl sz_60 (by simp [ptC, withA, createX, isCell]) ?_))
    refine .a rfl (.nil (.pc bx ([vint 1, vstr (fullZ τ r), vstr r.data, .slice a7 r.acl.length c7, vint (if andI r.flags 1 ≠ 0 then u.ses else 0), vint (wrapI ((upS τ r).cver + 1)), vint 0, nilV]) ?_))
    refine .then_n (.ret ?_)
    exact .d2 rfl (.cellA rfl ag_60 (by repeat' constructor) (by simp [spl, setAll]) rfl) (.tmp rfl) ⟨_, rfl, ⟨_, _, rfl⟩, rfl⟩
   refine .sk (.sr (.ptCast (b := bp) (l' := ptC (withA (createX τ u r) (.slice a7 r.acl.length c7))) (by repeat' constructor) (by unfold createX; first | (rw [if_pos h63]; rfl) | (rw [if_neg (fun g => g h63)]; rfl)) ?_))
   refine .q (.la (ptC (withA (createX τ u r) (.slice a7 r.acl.length c7))) rfl ag_60) rfl (.m rfl (.sa rfl rfl sz_60 (by simp [ptC, withA, createX, isCell]) ?_))
   refine .a rfl (.nil (.pc bx ([vint 1, vstr (fullZ τ r), vstr r.data, .slice a7 r.acl.length c7, vint (if andI r.flags 1 ≠ 0 then u.ses else 0), vint (wrapI ((upS τ r).cver + 1)), vint 0, nilV]) ?_))
   refine .then_n (.ret ?_)
   exact .d2 rfl (.cellA rfl ag_60 (by repeat' constructor) (by simp [spl, setAll]) rfl) (.tmp rfl) ⟨_, rfl, ⟨_, _, rfl⟩, rfl⟩
  rintro v L' ⟨bp, rfl, rfl⟩
  refine D.hh rfl (.c Tryz.func134 [_] (aclone_spec r.aclV r.acl p hA.rq.acl hA.rq.many)) ?_
  rintro v L' ⟨⟨a7, c7, rfl⟩, rfl⟩
  refine D.kv rfl (.build (us := [(0, _), (1, _), (2, _), (3, _), (5, _)]) fl_60 ze_60 rfl rfl (by simp [isCell])) (.ph (.g0 (.sa rfl rfl rfl sz_60 (by (first | (simp [isCell]; done) | (simp [isCell, setAll, Value.cells]; done))) ?_)))
  refine D.ph (.fin (.pc bp (ptC ⟨1, fullZ τ r, r.data, .slice a7 r.acl.length c7, r.acl, 0, wrapI ((upS τ r).cver + 1), 0, nilV⟩) ?_))
  refine .then_n (.seq (.sr (.u (.fieldAddr rfl fo_134_3) (.u (.fieldAddr rfl fo_33_5) (.u (.ld rfl ag_3) (.u (.andI rfl rfl) (.ui rfl rfl rfl (.nt (.condN rfl (fun h63 => ?_) (fun h63 => ?_))))))))))
  ·refine .region (.u (.fieldAddr rfl fo_134_1) (.u (.ld rfl ag_3) (.u (.fieldAddr rfl fo_60_4) (.sw rfl rfl rfl sz_3 ?_))))
   refine .nt (.sr (.ptCast (b := bp) (l' := ptC (withA (createX τ u r) (.slice a7 r.acl.length c7))) (by repeat' constructor) (by unfold createX; first | (rw [if_pos h63]; rfl) | (rw [if_neg (fun g => g h63)]; rfl)) ?_))
   refine .q (.la (ptC (withA (createX τ u r) (.slice a7 r.acl.length c7))) rfl ag_60) rfl (.m rfl (.sa rfl rfl sz_60 (by simp [ptC, withA, createX, isCell]) ?_))
   refine .a rfl (.nil (.pc bx ([vint 1, vstr (fullZ τ r), vstr r.data, .slice a7 r.acl.length c7, vint (if andI r.flags 1 ≠ 0 then u.ses else 0), vint (wrapI ((upS τ r).cver + 1)), vint 0, nilV]) ?_))
   refine .then_n (.ret ?_)
   exact .d2 rfl (.cellA rfl ag_60 (by repeat' constructor) (by simp [spl, setAll]) rfl) (.tmp rfl) ⟨_, rfl, ⟨_, _, rfl⟩, rfl⟩
  refine .sk (.sr (.ptCast (b := bp) (l' := ptC (withA (createX τ u r) (.slice a7 r.acl.length c7))) (by repeat' constructor) (by unfold createX; first | (rw [if_pos h63]; rfl) | (rw [if_neg (fun g => g h63)]; rfl)) ?_))
  refine .q (.la (ptC (withA (createX τ u r) (.slice a7 r.acl.length c7))) rfl ag_60) rfl (.m rfl (.sa rfl rfl sz_60 (by simp [ptC, withA, createX, isCell]) ?_))
  refine .a rfl (.nil (.pc bx ([vint 1, vstr (fullZ τ r), vstr r.data, .slice a7 r.acl.length c7, vint (if andI r.flags 1 ≠ 0 then u.ses else 0), vint (wrapI ((upS τ r).cver + 1)), vint 0, nilV]) ?_))
  refine .then_n (.ret ?_)
  exact .d2 rfl (.cellA rfl ag_60 (by repeat' constructor) (by simp [spl, setAll]) rfl) (.tmp rfl) ⟨_, rfl, ⟨_, _, rfl⟩, rfl⟩
 have hw : fullZ τ r = r.path := if_neg (fun g => g h28)
 refine .sk (.sr (.ptCast (b := bw) (l' := [vstr (fullZ τ r)]) (by repeat' constructor) (by rw [hw]; rfl) ?_))
 refine .q (.func (us := []) (vs := [_]) rfl rfl) rfl (.q (.func (us := []) (vs := [_]) rfl rfl) rfl (.q (.func (us := []) (vs := [_]) rfl rfl) rfl (.q (.func (us := []) (vs := [_]) rfl rfl) rfl (.q (.func (us := []) (vs := [_]) rfl rfl) rfl (.q (.func (us := []) (vs := [_, _]) rfl rfl) rfl (.q (.func (us := []) (vs := [_]) rfl rfl) rfl (.q (.func (us := []) (vs := [_, _]) rfl rfl) rfl (.q (.func (us := []) (vs := [_]) rfl rfl) rfl (.q (.func (us := []) (vs := [_]) rfl rfl) rfl (.oq (.buildSlice1 (vs := [_, _, _, _, _, _, _, _, _, _]) el_230 ze_176 rfl rfl rfl rfl rfl (by decide)) ?_))))))))))
 rintro v L' ⟨bf, rfl, rfl⟩
 refine .slMake (b := bf) (n := 10) (c := 10) (xs := [.func (.func 143) #[] #[vptr b1], .func (.func 144) #[] #[vptr b1], .func (.func 145) #[] #[vptr b1], .func (.func 147) #[] #[vptr bi], .func (.func 148) #[] #[vptr bs], .func (.func 149) #[] #[vptr b1, vptr bu], .func (.func 150) #[] #[vptr bw], .func (.func 151) #[] #[vptr b1, vptr bw], .func (.func 152) #[] #[vptr b1], .func (.func 153) #[] #[vptr b1]]) (by repeat' constructor) (by decide) (by exact Nat.le_refl 10) rfl (.cv Tryz.func85 [_] (pcfirst t τ u iv r p hA N ho hN b1 bu bs bi bw _ _ (fun _ => slR_rd)) ?_)
 refine .an rfl (.seq (.draw [7, 12, 13] [[0, 1, 2, 3, 4, 5, 6, 8, 9, 10, 7, 11, 12], [13]] mixed (by kernel_rfl) (.go [ptc b1 _ _, ptc bs _ _, ptc bw _ _] (by repeat' constructor) (.k rfl (.ld rfl ag_9) (.k rfl (.fieldAddr rfl fo_134_3) (.k rfl (.fieldAddr rfl fo_33_3) (.k rfl (.ld rfl ag_9) (.k rfl (.fieldAddr rfl fo_134_3) (.k rfl (.fieldAddr rfl fo_33_4) (.k rfl (.ld rfl ag_30) (.k rfl (.fieldAddr rfl fo_37_4) (.k rfl (.ld rfl ag_3) (.k rfl (.addW rfl rfl) (.h2 (k := 12) rfl rfl (by kernel_rfl) rfl (.c Tryz.func134 [_] (aclone_spec r.aclV r.acl p hA.rq.acl hA.rq.many)) (by repeat' constructor) (.allocA ze_60) (by repeat' constructor) ?_ ?_))))))))))))))
 ·rintro v L' ⟨⟨a7, c7, rfl⟩, rfl⟩
  refine D.k rfl (.build (us := [(0, _), (1, _), (2, _), (3, _), (5, _)]) fl_60 ze_60 rfl rfl (by simp [isCell])) (.hh rfl (.allocA ze_60) ?_)
  rintro v L' ⟨bp, rfl, rfl⟩
  refine D.ph (.g0 (.sa rfl rfl rfl sz_60 (by (first | (simp [isCell]; done) | (simp [isCell, setAll, Value.cells]; done))) ?_))
  refine D.ph (.fin (.pc bp (ptC ⟨1, fullZ τ r, r.data, .slice a7 r.acl.length c7, r.acl, 0, wrapI ((upS τ r).cver + 1), 0, nilV⟩) ?_))
  refine .then_n (.seq (.sr (.u (.fieldAddr rfl fo_134_3) (.u (.fieldAddr rfl fo_33_5) (.u (.ld rfl ag_3) (.u (.andI rfl rfl) (.ui rfl rfl rfl (.nt (.condN rfl (fun h63 => ?_) (fun h63 => ?_))))))))))
  ·refine .region (.u (.fieldAddr rfl fo_134_1) (.u (.ld rfl ag_3) (.u (.fieldAddr rfl fo_60_4) (.sw rfl rfl rfl sz_3 ?_))))
   refine .nt (.sr (.ptCast (b := bp) (l' := ptC (withA (createX τ u r) (.slice a7 r.acl.length c7))) (by repeat' constructor) (by unfold createX; first | (rw [if_pos h63]; rfl) | (rw [if_neg (fun g => g h63)]; rfl)) ?_))
   refine .q (.la (ptC (withA (createX τ u r) (.slice a7 r.acl.length c7))) rfl ag_60) rfl (.m rfl (.sa rfl rfl sz_60 (by simp [ptC, withA, createX, isCell]) ?_))
   refine .a rfl (.nil (.pc bx ([vint 1, vstr (fullZ τ r), vstr r.data, .slice a7 r.acl.length c7, vint (if andI r.flags 1 ≠ 0 then u.ses else 0), vint (wrapI ((upS τ r).cver + 1)), vint 0, nilV]) ?_))
   refine .then_n (.ret ?_)
   exact .d2 rfl (.cellA rfl ag_60 (by repeat' constructor) (by simp [spl, setAll]) rfl) (.tmp rfl) ⟨_, rfl, ⟨_, _, rfl⟩, rfl⟩
  refine .sk (.sr (.ptCast (b := bp) (l' := ptC (withA (createX τ u r) (.slice a7 r.acl.length c7))) (by repeat' constructor) (by unfold createX; first | (rw [if_pos h63]; rfl) | (rw [if_neg (fun g => g h63)]; rfl)) ?_))
  refine .q (.la (ptC (withA (createX τ u r) (.slice a7 r.acl.length c7))) rfl ag_60) rfl (.m rfl (.sa rfl rfl sz_60 (by simp [ptC, withA, createX, isCell]) ?_))
  refine .a rfl (.nil (.pc bx ([vint 1, vstr (fullZ τ r), vstr r.data, .slice a7 r.acl.length c7, vint (if andI r.flags 1 ≠ 0 then u.ses else 0), vint (wrapI ((upS τ r).cver + 1)), vint 0, nilV]) ?_))
  refine .then_n (.ret ?_)
  exact .d2 rfl (.cellA rfl ag_60 (by repeat' constructor) (by simp [spl, setAll]) rfl) (.tmp rfl) ⟨_, rfl, ⟨_, _, rfl⟩, rfl⟩
 rintro v L' ⟨bp, rfl, rfl⟩
 refine D.hh rfl (.c Tryz.func134 [_] (aclone_spec r.aclV r.acl p hA.rq.acl hA.rq.many)) ?_
 rintro v L' ⟨⟨a7, c7, rfl⟩, rfl⟩
 refine D.kv rfl (.build (us := [(0, _), (1, _), (2, _), (3, _), (5, _)]) fl_60 ze_60 rfl rfl (by simp [isCell])) (.ph (.g0 (.sa rfl rfl rfl sz_60 (by (first | (simp [isCell]; done) | (simp [isCell, setAll, Value.cells]; done))) ?_)))
 refine D.ph (.fin (.pc bp (ptC ⟨1, fullZ τ r, r.data, .slice a7 r.acl.length c7, r.acl, 0, wrapI ((upS τ r).cver + 1), 0, nilV⟩) ?_))
 refine .then_n (.seq (.sr (.u (.fieldAddr rfl fo_134_3) (.u (.fieldAddr rfl fo_33_5) (.u (.ld rfl ag_3) (.u (.andI rfl rfl) (.ui rfl rfl rfl (.nt (.condN rfl (fun h63 => ?_) (fun h63 => ?_))))))))))
 ·refine .region (.u (.fieldAddr rfl fo_134_1) (.u (.ld rfl ag_3) (.u (.fieldAddr rfl fo_60_4) (.sw rfl rfl rfl sz_3 ?_))))
  refine .nt (.sr (.ptCast (b := bp) (l' := ptC (withA (createX τ u r) (.slice a7 r.acl.length c7))) (by repeat' constructor) (by unfold createX; first | (rw [if_pos h63]; rfl) | (rw [if_neg (fun g => g h63)]; rfl)) ?_))
  refine .q (.la (ptC (withA (createX τ u r) (.slice a7 r.acl.length c7))) rfl ag_60) rfl (.m rfl (.sa rfl rfl sz_60 (by simp [ptC, withA, createX, isCell]) ?_))
  refine .a rfl (.nil (.pc bx ([vint 1, vstr (fullZ τ r), vstr r.data, .slice a7 r.acl.length c7, vint (if andI r.flags 1 ≠ 0 then u.ses else 0), vint (wrapI ((upS τ r).cver + 1)), vint 0, nilV]) ?_))
  refine .then_n (.ret ?_)
  exact .d2 rfl (.cellA rfl ag_60 (by repeat' constructor) (by simp [spl, setAll]) rfl) (.tmp rfl) ⟨_, rfl, ⟨_, _, rfl⟩, rfl⟩
 refine .sk (.sr (.ptCast (b := bp) (l' := ptC (withA (createX τ u r) (.slice a7 r.acl.length c7))) (by repeat' constructor) (by unfold createX; first | (rw [if_pos h63]; rfl) | (rw [if_neg (fun g => g h63)]; rfl)) ?_))
 refine .q (.la (ptC (withA (createX τ u r) (.slice a7 r.acl.length c7))) rfl ag_60) rfl (.m rfl (.sa rfl rfl sz_60 (by simp [ptC, withA, createX, isCell]) ?_))
 refine .a rfl (.nil (.pc bx ([vint 1, vstr (fullZ τ r), vstr r.data, .slice a7 r.acl.length c7, vint (if andI r.flags 1 ≠ 0 then u.ses else 0), vint (wrapI ((upS τ r).cver + 1)), vint 0, nilV]) ?_))
 refine .then_n (.ret ?_)
 exact .d2 rfl (.cellA rfl ag_60 (by repeat' constructor) (by simp [spl, setAll]) rfl) (.tmp rfl) ⟨_, rfl, ⟨_, _, rfl⟩, rfl⟩
theorem pe1_spec (t : Nat) (τ : Tr) (u : Who) (iv : Value) (r : Rq) (p : HP) (hA : WiA p u iv r) (N : Nat) (ho : τ.Ok N) (hN : N ≤ 1099511627776) (b : Nat) : Fn Tryz.prog 154 #[vptr b] [ptc b (wiC t u iv r) 134] fun v L => v = vint (checkZ r.path) ∧ L = [ptc b (wiC t u iv r) 134] := by
 refine Fn.intro Tryz.func154 rfl rfl fun F W => ?_
 have hpl := hA.rq.path
 have hpl2 : r.path.length ≤ 1048576 := by omega
 refine .sr (.an rfl (.sr (.u (.fieldAddr rfl fo_134_3) (.u (.fieldAddr rfl fo_33_2) (.u (.ld rfl ag_9) (.cv Tryz.func87 [_] (check_spec r.path hpl2) ?_))))))
 refine .an rfl (.ret ?_)
 exact .vv
theorem pe2_spec (t : Nat) (τ : Tr) (u : Who) (iv : Value) (r : Rq) (p : HP) (hA : WiA p u iv r) (N : Nat) (ho : τ.Ok N) (hN : N ≤ 1099511627776) (b : Nat) : Fn Tryz.prog 155 #[vptr b] [ptc b (wiC t u iv r) 134] fun v L => v = vint (whenZ (r.path = [47]) 1) ∧ L = [ptc b (wiC t u iv r) 134] := by
 refine Fn.intro Tryz.func155 rfl rfl fun F W => ?_
 refine .sr (.an rfl (.sr (.u (.fieldAddr rfl fo_134_3) (.u (.fieldAddr rfl fo_33_2) (.u (.ld rfl ag_9) (.u (.streq rfl rfl) (.cv Tryz.func90 [_, _] (pwhen_spec _ _) ?_)))))))
 refine .an rfl (.ret ?_)
 exact .dn rfl rfl ⟨by congr 1; unfold whenZ; first | (simp_all; done) | (simp_all; omega) | (split <;> simp_all; done) | (split <;> simp_all <;> omega), rfl⟩
theorem pe3_spec (b : Nat) (c : Prop) [Decidable c] : Fn Tryz.prog 156 #[vptr b] [ptc b [.bool (decide c)] 4] fun v L => v = vint (whenZ (¬ c) 60) ∧ L = [ptc b [.bool (decide c)] 4] := by
 refine Fn.intro Tryz.func156 rfl rfl fun F W => ?_
 refine .sr (.an rfl (.sr (.u (.ld rfl ag_4) (.u (.not rfl) (.cv Tryz.func90 [_, _] (pwhen_spec _ _) ?_)))))
 refine .an rfl (.ret ?_)
 exact .dn rfl rfl ⟨by congr 1; unfold whenZ; first | (simp_all; done) | (simp_all; omega) | (split <;> simp_all; done) | (split <;> simp_all <;> omega), rfl⟩
theorem pe4_spec (t : Nat) (τ : Tr) (u : Who) (iv : Value) (r : Rq) (p : HP) (hA : WiA p u iv r) (N : Nat) (ho : τ.Ok N) (hN : N ≤ 1099511627776) (b : Nat) (c : Nat) (q : Bs) : Fn Tryz.prog 157 #[vptr b, vptr c] [ptc b (wiC t u iv r) 134, ptc c [vstr q] 9, treeR t τ, p] fun v L => v = vint (whenZ (¬ mayT τ u.ids q 8) 65) ∧ L = [ptc b (wiC t u iv r) 134, ptc c [vstr q] 9, treeR t τ, p] := by
 refine Fn.intro Tryz.func157 rfl rfl fun F W => ?_
 refine .sr (.an rfl (.sr (.q (.la (wiC t u iv r) rfl ag_134) rfl (.u (.ld rfl ag_9) (.cv Tryz.func92 [_, _, _] (pmay_spec t τ u iv r p hA N ho hN q 8) ?_)))))
 refine .u (.not rfl) (.cv Tryz.func90 [_, _] (pwhen_spec _ _) ?_)
 refine .an rfl (.ret ?_)
 exact .dn rfl rfl ⟨by congr 1; unfold whenZ; first | (simp_all; done) | (simp_all; omega) | (split <;> simp_all; done) | (split <;> simp_all <;> omega), rfl⟩
theorem pe5_spec (t : Nat) (τ : Tr) (u : Who) (iv : Value) (r : Rq) (p : HP) (hA : WiA p u iv r) (N : Nat) (ho : τ.Ok N) (hN : N ≤ 1099511627776) (b : Nat) (c : Nat) (s : Stt) : Fn Tryz.prog 158 #[vptr b, vptr c] [ptc b (wiC t u iv r) 134, ptc c (stC s) 37] fun v L => v = vint (whenZ (r.ver ≠ -1 ∧ r.ver ≠ s.ver) 66) ∧ L = [ptc b (wiC t u iv r) 134, ptc c (stC s) 37] := by
 refine Fn.intro Tryz.func158 rfl rfl fun F W => ?_
 refine .sr (.an rfl (.sr (.u (.fieldAddr rfl fo_134_3) (.u (.fieldAddr rfl fo_33_6) (.u (.ld rfl ag_3) (.ui rfl rfl rfl (.m rfl (.ndec (t := 7) rfl (fun h1_7 => ?_) (fun h1_7 => ?_)))))))))
 ·refine .kNT (t := 6) rfl h1_7 (.grun (t := 7) rfl rfl rfl (.u (.fieldAddr rfl fo_134_3) (.grun (t := 7) rfl rfl rfl (.u (.fieldAddr rfl fo_33_6) (.grun (t := 7) rfl rfl rfl (.u (.ld rfl ag_3) (.grun (t := 7) rfl rfl rfl (.u (.fieldAddr rfl fo_37_3) (.grun (t := 7) rfl rfl rfl (.u (.ld rfl ag_3) (.grun (t := 7) rfl rfl rfl (.ui rfl rfl rfl (.u (.pickT rfl rfl) (.cv Tryz.func90 [_, _] (pwhen_spec _ _) ?_))))))))))))))
  refine .an rfl (.ret ?_)
  exact .dn rfl rfl ⟨by congr 1; unfold whenZ; first | (simp_all; done) | (simp_all; omega) | (split <;> simp_all; done) | (split <;> simp_all <;> omega), rfl⟩
 refine .kNF (t := 6) rfl h1_7 (.gk (.gk (.gk (.gk (.gk (.gk (.u (.pickF rfl rfl) (.cv Tryz.func90 [_, _] (pwhen_spec _ _) ?_))))))))
 refine .an rfl (.ret ?_)
 exact .dn rfl rfl ⟨by congr 1; unfold whenZ; first | (simp_all; done) | (simp_all; omega) | (split <;> simp_all; done) | (split <;> simp_all <;> omega), rfl⟩
theorem pe6_spec (c : Nat) (s : Stt) : Fn Tryz.prog 159 #[vptr c] [ptc c (stC s) 37] fun v L => v = vint (whenZ (s.kids > 0) 62) ∧ L = [ptc c (stC s) 37] := by
 refine Fn.intro Tryz.func159 rfl rfl fun F W => ?_
 refine .sr (.an rfl (.sr (.u (.fieldAddr rfl fo_37_8) (.u (.ld rfl ag_3) (.ui rfl rfl rfl (.cv Tryz.func90 [_, _] (pwhen_spec _ _) ?_))))))
 refine .an rfl (.ret ?_)
 exact .dn rfl rfl ⟨by congr 1; unfold whenZ; first | (simp_all; done) | (simp_all; omega) | (split <;> simp_all; done) | (split <;> simp_all <;> omega), rfl⟩
theorem pefirst (t : Nat) (τ : Tr) (u : Who) (iv : Value) (r : Rq) (p : HP) (hA : WiA p u iv r) (N : Nat) (ho : τ.Ok N) (hN : N ≤ 1099511627776) (b1 bu bs bi : Nat) (va : Value) (p0 : HP) (hr : ∀ h : Hp, p0 h → rdS 1 h va 6 [.func (.func 154) #[] #[vptr b1], .func (.func 155) #[] #[vptr b1], .func (.func 156) #[] #[vptr bi], .func (.func 157) #[] #[vptr b1, vptr bu], .func (.func 158) #[] #[vptr b1, vptr bs], .func (.func 159) #[] #[vptr bs]]) : Fn Tryz.prog 85 #[va] [p0, ptc b1 (wiC t u iv r) 134, ptc bu [vstr (parentZ r.path)] 9, ptc bs (stC (statD τ r.path)) 37, ptc bi [.bool (decide (thereT τ r.path))] 4, treeR t τ, p] fun v L => v = vint (firstZ (eraseE τ u r)) ∧ L = [p0, ptc b1 (wiC t u iv r) 134, ptc bu [vstr (parentZ r.path)] 9, ptc bs (stC (statD τ r.path)) 37, ptc bi [.bool (decide (thereT τ r.path))] 4, treeR t τ, p] := by
 refine Fn.unpack (pfirst_spec [.func (.func 154) #[] #[vptr b1], .func (.func 155) #[] #[vptr b1], .func (.func 156) #[] #[vptr bi], .func (.func 157) #[] #[vptr b1, vptr bu], .func (.func 158) #[] #[vptr b1, vptr bs], .func (.func 159) #[] #[vptr bs]] (eraseE τ u r) va p0 _ rfl (by show 6 ≤ _; decide) hr ?_)
 intro i hi hz
 have hi2 : i < 6 := hi
 have hc : i = 0 ∨ i = 1 ∨ i = 2 ∨ i = 3 ∨ i = 4 ∨ i = 5 := by omega
 rcases hc with rfl | rfl | rfl | rfl | rfl | rfl
 ·exact FunV.share (us := []) (vs := []) (ws := [vptr b1]) Tryz.func154 rfl rfl (by repeat' constructor) (pe1_spec t τ u iv r p hA N ho hN b1)
 ·exact FunV.share (us := []) (vs := []) (ws := [vptr b1]) Tryz.func155 rfl rfl (by repeat' constructor) (pe2_spec t τ u iv r p hA N ho hN b1)
 ·exact FunV.share (us := []) (vs := []) (ws := [vptr bi]) Tryz.func156 rfl rfl (by repeat' constructor) (pe3_spec bi _)
 ·exact FunV.share (us := []) (vs := []) (ws := [vptr b1, vptr bu]) Tryz.func157 rfl rfl (by repeat' constructor) (pe4_spec t τ u iv r p hA N ho hN b1 bu _)
 ·exact FunV.share (us := []) (vs := []) (ws := [vptr b1, vptr bs]) Tryz.func158 rfl rfl (by repeat' constructor) (pe5_spec t τ u iv r p hA N ho hN b1 bs _)
 ·exact FunV.share (us := []) (vs := []) (ws := [vptr bs]) Tryz.func159 rfl rfl (by repeat' constructor) (pe6_spec bs _)
theorem perase_spec (t : Nat) (τ : Tr) (u : Who) (iv : Value) (r : Rq) (p : HP) (hA : WiA p u iv r) (N : Nat) (ho : τ.Ok N) (hN : N ≤ 1099511627776) : Fn Tryz.prog 83 #[.agg (wiC t u iv r).toArray] [treeR t τ, p] fun v L => v = .tuple #[.agg (ptC (eraseX τ r)).toArray, vint (firstZ (eraseE τ u r))] ∧ L = [treeR t τ, p] := by
 refine Fn.intro Tryz.func83 rfl rfl fun F W => ?_
 have hpl := hA.rq.path
 have hpl2 : r.path.length ≤ 1048576 := by omega
 have hcl := hA.cells t
 refine .sr (.oq (.box rfl) ?_)
 rintro v L' ⟨b1, rfl, rfl⟩
 refine .oq (.allocA ze_60) ?_
 rintro v L' ⟨bx, rfl, rfl⟩
 refine .a rfl (.nil (.pc b1 (wiC t u iv r) ?_))
 refine .then_n (.sr (.u (.fieldAddr rfl fo_134_3) (.u (.fieldAddr rfl fo_33_2) (.u (.ld rfl ag_9) (.cv Tryz.func81 [_] (parent_spec r.path (by omega)) ?_)))))
 refine .oq (.alloc ze_9) ?_
 rintro v L' ⟨bu, rfl, rfl⟩
 refine .st rfl rfl rfl sz_9 ?_
 refine .nt (.sr (.u (.fieldAddr rfl fo_134_0) (.u (.ld rfl ag_76) (.u (.ld rfl ag_9) (.cv Tryz.func76 [_, _] (trstat_spec t τ _ N ho hN) ?_)))))
 refine .m rfl (.u (.extract rfl rfl) (.u (.extract rfl rfl) (.oq (.allocA ze_37) ?_)))
 rintro v L' ⟨bv, rfl, rfl⟩
 refine .sa rfl rfl sz_37 (by simp [stC, isCell]) ?_
 refine .a rfl (.nil (.pc bv (stC (upS τ r)) ?_))
 refine .then_n (.sr (.u (.fieldAddr rfl fo_134_0) (.u (.ld rfl ag_76) (.u (.fieldAddr rfl fo_134_3) (.u (.fieldAddr rfl fo_33_2) (.u (.ld rfl ag_9) (.cv Tryz.func76 [_, _] (trstat_spec t τ _ N ho hN) ?_)))))))
 refine .m rfl (.u (.extract rfl rfl) (.u (.extract rfl rfl) (.oq (.allocA ze_37) ?_)))
 rintro v L' ⟨bs, rfl, rfl⟩
 refine .oq (.alloc ze_4) ?_
 rintro v L' ⟨bi, rfl, rfl⟩
 refine .sa rfl rfl sz_37 (by simp [stC, isCell]) ?_
 refine .st rfl rfl rfl sz_4 ?_
 refine .nil (.pc bs (stC (statD τ r.path)) ?_)
 refine .then_n (.sr (.q (.func (us := []) (vs := [_]) rfl rfl) rfl (.q (.func (us := []) (vs := [_]) rfl rfl) rfl (.q (.func (us := []) (vs := [_]) rfl rfl) rfl (.q (.func (us := []) (vs := [_, _]) rfl rfl) rfl (.q (.func (us := []) (vs := [_, _]) rfl rfl) rfl (.q (.func (us := []) (vs := [_]) rfl rfl) rfl (.oq (.buildSlice1 (vs := [_, _, _, _, _, _]) el_230 ze_176 rfl rfl rfl rfl rfl (by decide)) ?_))))))))
 rintro v L' ⟨bf, rfl, rfl⟩
 refine .slMake (b := bf) (n := 6) (c := 6) (xs := [.func (.func 154) #[] #[vptr b1], .func (.func 155) #[] #[vptr b1], .func (.func 156) #[] #[vptr bi], .func (.func 157) #[] #[vptr b1, vptr bu], .func (.func 158) #[] #[vptr b1, vptr bs], .func (.func 159) #[] #[vptr bs]]) (by repeat' constructor) (by decide) (by exact Nat.le_refl 6) rfl (.cv Tryz.func85 [_] (pefirst t τ u iv r p hA N ho hN b1 bu bs bi _ _ (fun _ => slR_rd)) ?_)
 refine .an rfl (.sr (.u (.fieldAddr rfl fo_134_3) (.u (.fieldAddr rfl fo_33_2) (.u (.ld rfl ag_9) (.u (.fieldAddr rfl fo_37_4) (.u (.ld rfl ag_3) (.u (.addW rfl rfl) (.q (.build (us := [(0, _), (1, _), (5, _)]) fl_60 ze_60 rfl rfl (by simp [isCell])) rfl (.m rfl (.sa rfl rfl sz_60 (by (first | (simp [isCell]; done) | (simp [isCell, setAll, Value.cells]; done))) ?_))))))))))
 refine .a rfl (.nil (.pc bx ([vint 2, vstr r.path, vstr [], nilV, vint 0, vint (wrapI ((upS τ r).cver + 1)), vint 0, nilV]) ?_))
 refine .then_n (.ret ?_)
 exact .d2 rfl (.cellA rfl ag_60 (by repeat' constructor) (by simp [spl, setAll]) rfl) (.tmp rfl) ⟨rfl, rfl⟩
def kindC (k : Int) : List Value := if k = 3 then [.func (.func 161) #[] #[], vint 2, .func (.func 160) #[] #[], .func (.func 162) #[] #[]] else if k = 4 then [.func (.func 163) #[] #[], vint 16, .func (.func 164) #[] #[], .func (.func 165) #[] #[]] else if k = 5 then [.func (.func 166) #[] #[], vint 1, .func (.func 160) #[] #[], .func (.func 167) #[] #[]] else [.nilFunc, vint 0, .nilFunc, .nilFunc]
theorem pkinds_spec (k : Int) : Fn Tryz.prog 84 #[vint k] [] fun v L => v = .tuple #[.agg (kindC k).toArray, .bool (decide (k = 3 ∨ k = 4 ∨ k = 5))] ∧ L = [] := by
 refine Fn.intro Tryz.func84 rfl rfl fun F W => ?_
 refine .sr (.oq (.allocA ze_171) ?_)
 rintro v L' ⟨bx, rfl, rfl⟩
 refine .an rfl (.sr (.an rfl (.sm rfl (.q (.build (us := [(0, _), (1, _), (2, _), (3, _)]) fl_171 ze_171 rfl rfl (by simp [isCell])) rfl (.q (.to (v' := .agg ([vint 3, .func (.func 161) #[] #[], vint 2, .func (.func 160) #[] #[], .func (.func 162) #[] #[]]).toArray) (.buildN (pl := [(0, 1), (1, 4)]) (us := [(0, vint 3), (1, .agg ([.func (.func 161) #[] #[], vint 2, .func (.func 160) #[] #[], .func (.func 162) #[] #[]]).toArray)]) (cells := [vint 3, .func (.func 161) #[] #[], vint 2, .func (.func 160) #[] #[], .func (.func 162) #[] #[]]) Tryz.underlying228 (by kernel_rfl) ze_228 rfl rfl) rfl) rfl (.q (.build (us := [(0, _), (1, _), (2, _), (3, _)]) fl_171 ze_171 rfl rfl (by simp [isCell])) rfl (.q (.to (v' := .agg ([vint 4, .func (.func 163) #[] #[], vint 16, .func (.func 164) #[] #[], .func (.func 165) #[] #[]]).toArray) (.buildN (pl := [(0, 1), (1, 4)]) (us := [(0, vint 4), (1, .agg ([.func (.func 163) #[] #[], vint 16, .func (.func 164) #[] #[], .func (.func 165) #[] #[]]).toArray)]) (cells := [vint 4, .func (.func 163) #[] #[], vint 16, .func (.func 164) #[] #[], .func (.func 165) #[] #[]]) Tryz.underlying228 (by kernel_rfl) ze_228 rfl rfl) rfl) rfl ?_)))))))
 refine .m rfl (.q (.build (us := [(0, _), (1, _), (2, _), (3, _)]) fl_171 ze_171 rfl rfl (by simp [isCell])) rfl (.q (.to (v' := .agg ([vint 5, .func (.func 166) #[] #[], vint 1, .func (.func 160) #[] #[], .func (.func 167) #[] #[]]).toArray) (.buildN (pl := [(0, 1), (1, 4)]) (us := [(0, vint 5), (1, .agg ([.func (.func 166) #[] #[], vint 1, .func (.func 160) #[] #[], .func (.func 167) #[] #[]]).toArray)]) (cells := [vint 5, .func (.func 166) #[] #[], vint 1, .func (.func 160) #[] #[], .func (.func 167) #[] #[]]) Tryz.underlying228 (by kernel_rfl) ze_228 rfl rfl) rfl) rfl (.oq (.buildSlice (vs := [_, _, _]) el_229 ze_228 rfl rfl rfl rfl (by first | (simp [Value.cells]; done) | (intro v hv; simp only [List.mem_cons, List.not_mem_nil, or_false] at hv; (repeat (first | (subst hv; rfl) | (rcases hv with hv | hv; (subst hv; rfl)))))) (by decide)) ?_)))
 rintro v L' ⟨bk, rfl, rfl⟩
 refine .an rfl (.seq (.sr (.slMakeN 5 3 (b := bk) (xs := [vint 3] ++ [.func (.func 161) #[] #[], vint 2, .func (.func 160) #[] #[], .func (.func 162) #[] #[]] ++ [vint 4] ++ [.func (.func 163) #[] #[], vint 16, .func (.func 164) #[] #[], .func (.func 165) #[] #[]] ++ [vint 5] ++ [.func (.func 166) #[] #[], vint 1, .func (.func 160) #[] #[], .func (.func 167) #[] #[]]) (by repeat' constructor) rfl rfl (.m rfl (.q (.slen rfl Tryz.underlying229 rfl) rfl (.m rfl (.nt (.block (.loopK (ι := Nat) (fun q E => (19, vint q) :: E) (fun q => []) (fun q => q ≤ 3 ∧ (0 < q → k ≠ 3) ∧ (1 < q → k ≠ 4) ∧ (2 < q → k ≠ 5)) (fun q => 3 - q) (0) (ts := [0, 2, 17, 18]) (.cons rfl (.cons rfl (.cons rfl (.cons rfl (.nil))))) (⟨by omega, by omega, by omega, by omega⟩) ⟨rfl, rfl, rfl, rfl, rfl, trivial⟩ (by repeat' constructor) ?_)))))))))
 rintro i ⟨hi, hk3, hk4, hk5⟩
 refine .sr (.ui rfl rfl rfl (.nt (.seq (.condD rfl (fun h20 => ?_) (fun h20 => ?_)))))
 ·refine .sk (.seq (.block (.sr (.q (.indexAddr rfl rfl el_229 (by omega)) rfl ?_))))
  rcases (show i = 0 ∨ i = 1 ∨ i = 2 by omega) with rfl | rfl | rfl
  ·refine .q (.loadRdA (sz := 5) (j := 0 * 5) (k := 5) (p := slR 228 5 (.slice (some ⟨bk, 0, none⟩) 3 3) 3 _) (vs := [vint 3, .func (.func 161) #[] #[], vint 2, .func (.func 160) #[] #[], .func (.func 162) #[] #[]]) rfl ag_228 (by repeat' constructor) (fun _ => slR_rd) (by decide) (by omega) (by omega) rfl) rfl (.oq (.allocA ze_228) ?_)
   rintro v L' ⟨b5_2, rfl, rfl⟩
   refine .sa rfl rfl sz_228 (by (first | (simp [isCell]; done) | (simp [isCell, setAll, Value.cells]; done))) ?_
   refine .nil (.pc b5_2 ([vint 3, .func (.func 161) #[] #[], vint 2, .func (.func 160) #[] #[], .func (.func 162) #[] #[]]) ?_)
   refine .then_n (.sr (.u (.fieldAddr rfl fo_228_0) (.u (.ld rfl ag_3) (.m rfl (.ui rfl rfl rfl (.nt (.condD rfl (fun h26 => ?_) (fun h26 => ?_))))))))
   ·refine .sr (.u (.fieldAddr rfl fo_228_1) (.q (.loadA rfl ag_171 (by repeat' constructor) (by simp)) rfl (.sa rfl rfl sz_171 (by (first | (simp [isCell]; done) | (simp [isCell, setAll, Value.cells]; done))) ?_)))
    refine .an rfl (.ret (.blk_r (.then_r (.then_r (.blk_r (.then_r ?_))))))
    exact .d2 rfl (.cellA rfl ag_171 (by repeat' constructor) (by simp [spl, setAll]) rfl) (.tmp rfl) ⟨by subst h26; rfl, rfl⟩
   refine .skip (.blk_n (.then_n (.region (.q (.add rfl rfl (by omega)) rfl (.m rfl (.nt ?_))))))
   exact .rk (1) (⟨by omega, by omega, by omega, by omega⟩) (by omega) ⟨rfl, rfl, rfl, rfl, rfl, trivial⟩
  ·refine .q (.loadRdA (sz := 5) (j := 1 * 5) (k := 5) (p := slR 228 5 (.slice (some ⟨bk, 0, none⟩) 3 3) 3 _) (vs := [vint 4, .func (.func 163) #[] #[], vint 16, .func (.func 164) #[] #[], .func (.func 165) #[] #[]]) rfl ag_228 (by repeat' constructor) (fun _ => slR_rd) (by decide) (by omega) (by omega) rfl) rfl (.oq (.allocA ze_228) ?_)
   rintro v L' ⟨b5_2, rfl, rfl⟩
   refine .sa rfl rfl sz_228 (by (first | (simp [isCell]; done) | (simp [isCell, setAll, Value.cells]; done))) ?_
   refine .nil (.pc b5_2 ([vint 4, .func (.func 163) #[] #[], vint 16, .func (.func 164) #[] #[], .func (.func 165) #[] #[]]) ?_)
   refine .then_n (.sr (.u (.fieldAddr rfl fo_228_0) (.u (.ld rfl ag_3) (.m rfl (.ui rfl rfl rfl (.nt (.condD rfl (fun h26 => ?_) (fun h26 => ?_))))))))
   ·refine .sr (.u (.fieldAddr rfl fo_228_1) (.q (.loadA rfl ag_171 (by repeat' constructor) (by simp)) rfl (.sa rfl rfl sz_171 (by (first | (simp [isCell]; done) | (simp [isCell, setAll, Value.cells]; done))) ?_)))
    refine .an rfl (.ret (.blk_r (.then_r (.then_r (.blk_r (.then_r ?_))))))
    exact .d2 rfl (.cellA rfl ag_171 (by repeat' constructor) (by simp [spl, setAll]) rfl) (.tmp rfl) ⟨by subst h26; rfl, rfl⟩
   refine .skip (.blk_n (.then_n (.region (.q (.add rfl rfl (by omega)) rfl (.m rfl (.nt ?_))))))
   exact .rk (2) (⟨by omega, by omega, by omega, by omega⟩) (by omega) ⟨rfl, rfl, rfl, rfl, rfl, trivial⟩
  refine .q (.loadRdA (sz := 5) (j := 2 * 5) (k := 5) (p := slR 228 5 (.slice (some ⟨bk, 0, none⟩) 3 3) 3 _) (vs := [vint 5, .func (.func 166) #[] #[], vint 1, .func (.func 160) #[] #[], .func (.func 167) #[] #[]]) rfl ag_228 (by repeat' constructor) (fun _ => slR_rd) (by decide) (by omega) (by omega) rfl) rfl (.oq (.allocA ze_228) ?_)
  rintro v L' ⟨b5_2, rfl, rfl⟩
  refine .sa rfl rfl sz_228 (by (first | (simp [isCell]; done) | (simp [isCell, setAll, Value.cells]; done))) ?_
  refine .nil (.pc b5_2 ([vint 5, .func (.func 166) #[] #[], vint 1, .func (.func 160) #[] #[], .func (.func 167) #[] #[]]) ?_)
  refine .then_n (.sr (.u (.fieldAddr rfl fo_228_0) (.u (.ld rfl ag_3) (.m rfl (.ui rfl rfl rfl (.nt (.condD rfl (fun h26 => ?_) (fun h26 => ?_))))))))
  ·refine .sr (.u (.fieldAddr rfl fo_228_1) (.q (.loadA rfl ag_171 (by repeat' constructor) (by simp)) rfl (.sa rfl rfl sz_171 (by (first | (simp [isCell]; done) | (simp [isCell, setAll, Value.cells]; done))) ?_)))
   refine .an rfl (.ret (.blk_r (.then_r (.then_r (.blk_r (.then_r ?_))))))
   exact .d2 rfl (.cellA rfl ag_171 (by repeat' constructor) (by simp [spl, setAll]) rfl) (.tmp rfl) ⟨by subst h26; rfl, rfl⟩
  refine .skip (.blk_n (.then_n (.region (.q (.add rfl rfl (by omega)) rfl (.m rfl (.nt ?_))))))
  exact .rk (3) (⟨by omega, by omega, by omega, by omega⟩) (by omega) ⟨rfl, rfl, rfl, rfl, rfl, trivial⟩
 refine .exit (.then_e (.then_e (.blk_e (.then_n (.sr (.q (.build (us := []) fl_171 ze_171 rfl rfl (by simp [isCell])) rfl (.sa rfl rfl sz_171 (by (first | (simp [isCell]; done) | (simp [isCell, setAll, Value.cells]; done))) ?_)))))))
 refine .an rfl (.ret ?_)
 exact .d2 rfl (.cellA rfl ag_171 (by repeat' constructor) (by simp [spl, setAll]) rfl) (.tmp rfl) ⟨by unfold kindC; rw [if_neg (hk3 (by omega)), if_neg (hk4 (by omega)), if_neg (hk5 (by omega)), decide_eq_false (by rintro (g | g | g); exact hk3 (by omega) g; exact hk4 (by omega) g; exact hk5 (by omega) g)]; rfl, rfl⟩
theorem ag_pw : aggOf Tryz.prog 167 = some none := by kernel_rfl
theorem pk2_spec (t : Nat) (u : Who) (iv : Value) (r : Rq) (p : HP) (hA : WiA p u iv r) : Fn Tryz.prog 161 #[.agg (wiC t u iv r).toArray] [p] fun v L => v = vint (whenZ (r.data.length > 100) 1) ∧ L = [p] := by
 refine Fn.intro Tryz.func161 rfl rfl fun F W => ?_
 have hcl := hA.cells t
 refine .sr (.oq (.box rfl) ?_)
 rintro v L' ⟨b1, rfl, rfl⟩
 refine .a rfl (.nil (.pc b1 (wiC t u iv r) ?_))
 refine .then_n (.sr (.u (.fieldAddr rfl fo_134_3) (.u (.fieldAddr rfl fo_33_3) (.u (.ld rfl ag_9) (.q (.strlen rfl Tryz.underlying9 rfl) rfl (.ui rfl rfl rfl (.cv Tryz.func90 [_, _] (pwhen_spec _ _) ?_)))))))
 refine .an rfl (.ret ?_)
 exact .dn rfl rfl ⟨by congr 1; unfold whenZ; first | (simp_all; done) | (simp_all; omega) | (split <;> simp_all; done) | (split <;> simp_all <;> omega), rfl⟩
theorem pk4_spec (t : Nat) (u : Who) (iv : Value) (r : Rq) (p : HP) (hA : WiA p u iv r) : Fn Tryz.prog 163 #[.agg (wiC t u iv r).toArray] [p] fun v L => v = vint (whenZ (¬ rightZ r.acl = true) 50) ∧ L = [p] := by
 refine Fn.intro Tryz.func163 rfl rfl fun F W => ?_
 have hcl := hA.cells t
 refine .sr (.oq (.box rfl) ?_)
 rintro v L' ⟨b1, rfl, rfl⟩
 refine .a rfl (.nil (.pc b1 (wiC t u iv r) ?_))
 refine .then_n (.sr (.u (.fieldAddr rfl fo_134_3) (.u (.fieldAddr rfl fo_33_4) (.u (.ld rfl ag_30) (.oq (.call Tryz.func146 rfl rfl (vs := [_]) rfl (aright_spec _ r.acl p hA.rq.acl (by have := hA.rq.many; omega) (fun a ha => (hA.rq.ids a ha).2))) ?_)))))
 rintro v L' ⟨rfl, rfl⟩
 refine .u (.not rfl) (.cv Tryz.func90 [_, _] (pwhen_spec _ _) ?_)
 refine .an rfl (.ret ?_)
 exact .dn rfl rfl ⟨by congr 1; unfold whenZ; first | (simp_all; done) | (simp_all; omega) | (split <;> simp_all; done) | (split <;> simp_all <;> omega), rfl⟩
theorem pk0_spec (t : Nat) (u : Who) (iv : Value) (r : Rq) (p : HP) (hA : WiA p u iv r) : Fn Tryz.prog 166 #[.agg (wiC t u iv r).toArray] [p] fun v L => v = vint 0 ∧ L = [p] := by
 refine Fn.intro Tryz.func166 rfl rfl fun F W => ?_
 have hcl := hA.cells t
 refine .sr (.oq (.box rfl) ?_)
 rintro v L' ⟨b1, rfl, rfl⟩
 refine .a rfl (.nil (.pc b1 (wiC t u iv r) ?_))
 refine .then_n (.sr (.an rfl (.ret ?_)))
 exact .vv
theorem pk1_spec (s : Stt) : Fn Tryz.prog 160 #[.agg (stC s).toArray] [] fun v L => v = vint s.ver ∧ L = [] := by
 refine Fn.intro Tryz.func160 rfl rfl fun F W => ?_
 refine .sr (.oq (.box rfl) ?_)
 rintro v L' ⟨b1, rfl, rfl⟩
 refine .a rfl (.nil (.pc b1 (stC s) ?_))
 refine .then_n (.sr (.u (.fieldAddr rfl fo_37_3) (.u (.ld rfl ag_3) (.an rfl (.ret ?_)))))
 exact .vv
theorem pk5_spec (s : Stt) : Fn Tryz.prog 164 #[.agg (stC s).toArray] [] fun v L => v = vint s.av ∧ L = [] := by
 refine Fn.intro Tryz.func164 rfl rfl fun F W => ?_
 refine .sr (.oq (.box rfl) ?_)
 rintro v L' ⟨b1, rfl, rfl⟩
 refine .a rfl (.nil (.pc b1 (stC s) ?_))
 refine .then_n (.sr (.u (.fieldAddr rfl fo_37_5) (.u (.ld rfl ag_3) (.an rfl (.ret ?_)))))
 exact .vv
def nodeN (r : Rq) (k n : Int) : Pt :=
 if k = 3 then ⟨3, r.path, r.data, nilV, [], 0, wrapI (n + 1), 0, nilV⟩ else if k = 4 then ⟨4, r.path, [], nilV, r.acl, 0, wrapI (n + 1), 0, nilV⟩ else noopX
theorem node_n (τ : Tr) (r : Rq) : nodeX τ r = nodeN r r.kind (stampK r.kind (statD τ r.path)) := by
 unfold nodeX nodeN
 split
 ·rename_i h; rw [h]
 ·split
  ·rename_i h; rw [h]
  ·rfl
theorem pk3_spec (t : Nat) (u : Who) (iv : Value) (r : Rq) (p : HP) (hA : WiA p u iv r) (n : Int) : Fn Tryz.prog 162 #[.agg (wiC t u iv r).toArray, vint n] [p] fun v L => ∃ w : Value, v = .agg (ptC (withA (nodeN r 3 n) w)).toArray ∧ (∃ a c, w = .slice a (nodeN r 3 n).acl.length c) ∧ L = [p, slR 75 2 w (nodeN r 3 n).acl.length ((nodeN r 3 n).acl.flatMap acC)] := by
 refine Fn.intro Tryz.func162 rfl rfl fun F W => ?_
 have hcl := hA.cells t
 refine .sr (.oq (.box rfl) ?_)
 rintro v L' ⟨b1, rfl, rfl⟩
 refine .oq (.allocA ze_60) ?_
 rintro v L' ⟨b4, rfl, rfl⟩
 refine .nil (.pc b1 (wiC t u iv r) ?_)
 refine .then_n (.sr (.u (.fieldAddr rfl fo_134_3) (.u (.fieldAddr rfl fo_33_2) (.u (.ld rfl ag_9) (.u (.fieldAddr rfl fo_134_3) (.u (.fieldAddr rfl fo_33_3) (.u (.ld rfl ag_9) (.m rfl (.u (.addW rfl rfl) (.q (.build (us := [(0, _), (1, _), (2, _), (5, _)]) fl_60 ze_60 rfl rfl (by simp [isCell])) rfl (.sa rfl rfl sz_60 (by (first | (simp [isCell]; done) | (simp [isCell, setAll, Value.cells]; done))) ?_)))))))))))
 refine .nil (.pc b4 ([vint 3, vstr r.path, vstr r.data, nilV, vint 0, vint (wrapI (n + 1)), vint 0, nilV]) ?_)
 refine .add (slR_nil 75 2) (.then_n (.ret ?_))
 exact .d1 rfl (.cellA rfl ag_60 (by repeat' constructor) (by simp [spl, setAll]) rfl) ⟨nilV, rfl, ⟨none, 0, rfl⟩, rfl⟩
theorem pk6_spec (t : Nat) (u : Who) (iv : Value) (r : Rq) (p : HP) (hA : WiA p u iv r) (n : Int) : Fn Tryz.prog 165 #[.agg (wiC t u iv r).toArray, vint n] [p] fun v L => ∃ w : Value, v = .agg (ptC (withA (nodeN r 4 n) w)).toArray ∧ (∃ a c, w = .slice a (nodeN r 4 n).acl.length c) ∧ L = [p, slR 75 2 w (nodeN r 4 n).acl.length ((nodeN r 4 n).acl.flatMap acC)] := by
 refine Fn.intro Tryz.func165 rfl rfl fun F W => ?_
 have hcl := hA.cells t
 refine .sr (.oq (.box rfl) ?_)
 rintro v L' ⟨b1, rfl, rfl⟩
 refine .oq (.allocA ze_60) ?_
 rintro v L' ⟨b4, rfl, rfl⟩
 refine .nil (.pc b1 (wiC t u iv r) ?_)
 refine .then_n (.seq (.draw [6, 10] [[0, 1, 2, 3, 4, 5, 7, 8, 6], [9, 10]] mixed (by kernel_rfl) (.go [ptc b1 _ _] (by repeat' constructor) (.k rfl (.fieldAddr rfl fo_134_3) (.k rfl (.fieldAddr rfl fo_33_2) (.k rfl (.ld rfl ag_9) (.kv rfl (.fieldAddr rfl fo_134_3) (.kv rfl (.fieldAddr rfl fo_33_4) (.kv rfl (.ld rfl ag_30) (.k rfl (.move rfl) (.k rfl (.addW rfl rfl) (.hh rfl (.c Tryz.func134 [_] (aclone_spec r.aclV r.acl p hA.rq.acl hA.rq.many)) ?_))))))))))))
 rintro v L' ⟨⟨a7, c7, rfl⟩, rfl⟩
 refine D.ph (.g0 (.kv rfl (.build (us := [(0, _), (1, _), (3, _), (5, _)]) fl_60 ze_60 rfl rfl (by simp [isCell])) (.sa rfl rfl rfl sz_60 (by (first | (simp [isCell]; done) | (simp [isCell, setAll, Value.cells]; done))) ?_)))
 refine D.ph (.fin (.pc b4 ([vint 4, vstr r.path, vstr [], .slice a7 r.acl.length c7, vint 0, vint (wrapI (n + 1)), vint 0, nilV]) ?_))
 refine .then_n (.ret ?_)
 exact .d1 rfl (.cellA rfl ag_60 (by repeat' constructor) (by simp [spl, setAll]) rfl) ⟨.slice a7 r.acl.length c7, rfl, ⟨a7, c7, rfl⟩, rfl⟩
theorem pk7_spec (t : Nat) (u : Who) (iv : Value) (r : Rq) (p : HP) (hA : WiA p u iv r) (n : Int) : Fn Tryz.prog 167 #[.agg (wiC t u iv r).toArray, vint n] [p] fun v L => ∃ w : Value, v = .agg (ptC (withA (nodeN r 5 n) w)).toArray ∧ (∃ a c, w = .slice a (nodeN r 5 n).acl.length c) ∧ L = [p, slR 75 2 w (nodeN r 5 n).acl.length ((nodeN r 5 n).acl.flatMap acC)] := by
 refine Fn.intro Tryz.func167 rfl rfl fun F W => ?_
 have hcl := hA.cells t
 refine .sr (.oq (.box rfl) ?_)
 rintro v L' ⟨b1, rfl, rfl⟩
 refine .oq (.allocA ze_60) ?_
 rintro v L' ⟨b4, rfl, rfl⟩
 refine .nil (.pc b1 (wiC t u iv r) ?_)
 refine .then_n (.sr (.q (.build (us := [(0, _)]) fl_60 ze_60 rfl rfl (by simp [isCell])) rfl (.sa rfl rfl sz_60 (by (first | (simp [isCell]; done) | (simp [isCell, setAll, Value.cells]; done))) ?_)))
 refine .nil (.pc b4 ([vint 0, vstr [], vstr [], nilV, vint 0, vint 0, vint 0, nilV]) ?_)
 refine .add (slR_nil 75 2) (.then_n (.ret ?_))
 exact .d1 rfl (.cellA rfl ag_60 (by repeat' constructor) (by simp [spl, setAll]) rfl) ⟨nilV, rfl, ⟨none, 0, rfl⟩, rfl⟩
theorem kind_of (t : Nat) (u : Who) (iv : Value) (r : Rq) (p : HP) (hA : WiA p u iv r) (hk : r.kind = 3 ∨ r.kind = 4 ∨ r.kind = 5) : ∃ f1 f2 f3 : Value, kindC r.kind = [f1, vint (permK r.kind), f2, f3] ∧ isCell f1 = true ∧ isCell f2 = true ∧ isCell f3 = true ∧
  FunV Tryz.prog f1 [.agg (wiC t u iv r).toArray] [p] (fun v L => v = vint (wrongE r) ∧ L = [p]) ∧ (∀ s : Stt, FunV Tryz.prog f2 [.agg (stC s).toArray] [] (fun v L => v = vint (stampK r.kind s) ∧ L = [])) ∧
  ∀ n : Int, FunV Tryz.prog f3 [.agg (wiC t u iv r).toArray, vint n] [p] (fun v L => ∃ w : Value, v = .agg (ptC (withA (nodeN r r.kind n) w)).toArray ∧ (∃ a c, w = .slice a (nodeN r r.kind n).acl.length c) ∧ L = [p, slR 75 2 w (nodeN r r.kind n).acl.length ((nodeN r r.kind n).acl.flatMap acC)]) := by
 rcases hk with hk | hk | hk
 ·have hw : wrongE r = whenZ (r.data.length > 100) 1 := if_pos hk
  rw [hw, hk]
  exact ⟨_, _, _, rfl, rfl, rfl, rfl, FunV.of (us := []) (vs := [.agg (wiC t u iv r).toArray]) (ws := []) Tryz.func161 rfl rfl (pk2_spec t u iv r p hA), fun s => FunV.of (us := []) (vs := [.agg (stC s).toArray]) (ws := []) Tryz.func160 rfl rfl (pk1_spec s), fun n => FunV.of (us := []) (vs := [.agg (wiC t u iv r).toArray, vint n]) (ws := []) Tryz.func162 rfl rfl (pk3_spec t u iv r p hA n)⟩
 ·have hw : wrongE r = whenZ (¬ rightZ r.acl = true) 50 := by unfold wrongE; rw [if_neg (by omega), if_pos hk]
  rw [hw, hk]
  exact ⟨_, _, _, rfl, rfl, rfl, rfl, FunV.of (us := []) (vs := [.agg (wiC t u iv r).toArray]) (ws := []) Tryz.func163 rfl rfl (pk4_spec t u iv r p hA), fun s => FunV.of (us := []) (vs := [.agg (stC s).toArray]) (ws := []) Tryz.func164 rfl rfl (pk5_spec s), fun n => FunV.of (us := []) (vs := [.agg (wiC t u iv r).toArray, vint n]) (ws := []) Tryz.func165 rfl rfl (pk6_spec t u iv r p hA n)⟩
 ·have hw : wrongE r = 0 := by unfold wrongE; rw [if_neg (by omega), if_neg (by omega)]
  rw [hw, hk]
  exact ⟨_, _, _, rfl, rfl, rfl, rfl, FunV.of (us := []) (vs := [.agg (wiC t u iv r).toArray]) (ws := []) Tryz.func166 rfl rfl (pk0_spec t u iv r p hA), fun s => FunV.of (us := []) (vs := [.agg (stC s).toArray]) (ws := []) Tryz.func160 rfl rfl (pk1_spec s), fun n => FunV.of (us := []) (vs := [.agg (wiC t u iv r).toArray, vint n]) (ws := []) Tryz.func167 rfl rfl (pk7_spec t u iv r p hA n)⟩
theorem pp1_spec (t : Nat) (τ : Tr) (u : Who) (iv : Value) (r : Rq) (p : HP) (hA : WiA p u iv r) (N : Nat) (ho : τ.Ok N) (hN : N ≤ 1099511627776) (b : Nat) : Fn Tryz.prog 86 #[vptr b] [ptc b (wiC t u iv r) 134] fun v L => v = vint (checkZ r.path) ∧ L = [ptc b (wiC t u iv r) 134] := by
 refine Fn.intro Tryz.func86 rfl rfl fun F W => ?_
 have hpl := hA.rq.path
 have hpl2 : r.path.length ≤ 1048576 := by omega
 refine .sr (.an rfl (.sr (.u (.fieldAddr rfl fo_134_3) (.u (.fieldAddr rfl fo_33_2) (.u (.ld rfl ag_9) (.cv Tryz.func87 [_] (check_spec r.path hpl2) ?_))))))
 refine .an rfl (.ret ?_)
 exact .vv
theorem pp2_spec (t : Nat) (τ : Tr) (u : Who) (iv : Value) (r : Rq) (p : HP) (hA : WiA p u iv r) (N : Nat) (ho : τ.Ok N) (hN : N ≤ 1099511627776) (b : Nat) (bk : Nat) (f1 f2 f3 : Value) (m : Int) (e : Int) (hf : FunV Tryz.prog f1 [.agg (wiC t u iv r).toArray] [p] (fun v L => v = vint e ∧ L = [p])) : Fn Tryz.prog 88 #[vptr bk, vptr b] [ptc bk [f1, vint m, f2, f3] 171, ptc b (wiC t u iv r) 134, p] fun v L => v = vint (e) ∧ L = [ptc bk [f1, vint m, f2, f3] 171, ptc b (wiC t u iv r) 134, p] := by
 refine Fn.intro Tryz.func88 rfl rfl fun F W => ?_
 refine .sr (.an rfl (.sr (.u (.fieldAddr rfl fo_171_0) (.q (.load rfl ag_pw (by repeat' constructor) rfl) rfl (.q (.la (wiC t u iv r) rfl ag_134) rfl (.oq (.callD (vs := [_]) rfl rfl (hf)) ?_))))))
 rintro v L' ⟨rfl, rfl⟩
 refine .an rfl (.ret ?_)
 exact .dn rfl rfl ⟨rfl, rfl⟩
theorem pp3_spec (b : Nat) (c : Prop) [Decidable c] : Fn Tryz.prog 89 #[vptr b] [ptc b [.bool (decide c)] 4] fun v L => v = vint (whenZ (¬ c) 60) ∧ L = [ptc b [.bool (decide c)] 4] := by
 refine Fn.intro Tryz.func89 rfl rfl fun F W => ?_
 refine .sr (.an rfl (.sr (.u (.ld rfl ag_4) (.u (.not rfl) (.cv Tryz.func90 [_, _] (pwhen_spec _ _) ?_)))))
 refine .an rfl (.ret ?_)
 exact .dn rfl rfl ⟨by congr 1; unfold whenZ; first | (simp_all; done) | (simp_all; omega) | (split <;> simp_all; done) | (split <;> simp_all <;> omega), rfl⟩
theorem pp4_spec (t : Nat) (τ : Tr) (u : Who) (iv : Value) (r : Rq) (p : HP) (hA : WiA p u iv r) (N : Nat) (ho : τ.Ok N) (hN : N ≤ 1099511627776) (b : Nat) (bk : Nat) (f1 f2 f3 : Value) (m : Int) : Fn Tryz.prog 91 #[vptr b, vptr bk] [ptc b (wiC t u iv r) 134, ptc bk [f1, vint m, f2, f3] 171, treeR t τ, p] fun v L => v = vint (whenZ (¬ mayT τ u.ids r.path m) 65) ∧ L = [ptc b (wiC t u iv r) 134, ptc bk [f1, vint m, f2, f3] 171, treeR t τ, p] := by
 refine Fn.intro Tryz.func91 rfl rfl fun F W => ?_
 refine .sr (.an rfl (.sr (.q (.la (wiC t u iv r) rfl ag_134) rfl (.u (.fieldAddr rfl fo_134_3) (.u (.fieldAddr rfl fo_33_2) (.u (.ld rfl ag_9) (.u (.fieldAddr rfl fo_171_1) (.u (.ld rfl ag_3) (.cv Tryz.func92 [_, _, _] (pmay_spec t τ u iv r p hA N ho hN r.path m) ?_)))))))))
 refine .u (.not rfl) (.cv Tryz.func90 [_, _] (pwhen_spec _ _) ?_)
 refine .an rfl (.ret ?_)
 exact .dn rfl rfl ⟨by congr 1; unfold whenZ; first | (simp_all; done) | (simp_all; omega) | (split <;> simp_all; done) | (split <;> simp_all <;> omega), rfl⟩
theorem pp5_spec (t : Nat) (τ : Tr) (u : Who) (iv : Value) (r : Rq) (p : HP) (hA : WiA p u iv r) (N : Nat) (ho : τ.Ok N) (hN : N ≤ 1099511627776) (b : Nat) (bk : Nat) (f1 f2 f3 : Value) (m : Int) (c : Nat) (s : Stt) (g : Stt → Int) (hf : FunV Tryz.prog f2 [.agg (stC s).toArray] [] (fun v L => v = vint (g s) ∧ L = [])) : Fn Tryz.prog 93 #[vptr b, vptr bk, vptr c] [ptc b (wiC t u iv r) 134, ptc bk [f1, vint m, f2, f3] 171, ptc c (stC s) 37] fun v L => v = vint (whenZ (r.ver ≠ -1 ∧ r.ver ≠ g s) 66) ∧ L = [ptc b (wiC t u iv r) 134, ptc bk [f1, vint m, f2, f3] 171, ptc c (stC s) 37] := by
 refine Fn.intro Tryz.func93 rfl rfl fun F W => ?_
 refine .sr (.an rfl (.seq (.draw [] [[0, 1, 2, 3, 4, 5, 6, 7, 8, 9, 10, 11, 12, 13, 14, 15]] mixed (by kernel_rfl) (.go [ptc b _ _, ptc bk _ _, ptc c _ _] (by repeat' constructor) (.kv rfl (.fieldAddr rfl fo_134_3) (.kv rfl (.fieldAddr rfl fo_33_6) (.kv rfl (.ld rfl ag_3) (.kv rfl (.int rfl rfl rfl) (.mv rfl rfl (.ndec (t := 8) rfl (fun h1_8 => ?_) (fun h1_8 => ?_)))))))))))
 ·refine D.kNT (t := 7) rfl h1_8 (.gv rfl (.fieldAddr rfl fo_134_3) (.gv rfl (.fieldAddr rfl fo_33_6) (.gv rfl (.ld rfl ag_3) (.gv rfl (.fieldAddr rfl fo_171_2) (.gv rfl (.load rfl ag_ps (by repeat' constructor) rfl) (.gv rfl (.la (stC s) rfl ag_37) (.gm (t := 8) rfl rfl rfl (by kernel_rfl) (.callD (vs := [_]) rfl rfl (hf)) (by repeat' constructor) ?_)))))))
  refine D.gv rfl (.int rfl rfl rfl) (.kv rfl (.pickT rfl rfl) (.m rfl (by kernel_rfl) (.c Tryz.func90 [_, _] (pwhen_spec _ _)) (by repeat' constructor) ?_))
  refine D.kv rfl (.assign rfl) (.pf (.ret ?_))
  exact .dn rfl rfl ⟨by congr 1; unfold whenZ; first | (simp_all; done) | (simp_all; omega) | (split <;> simp_all; done) | (split <;> simp_all <;> omega), rfl⟩
 refine D.kNF (t := 7) rfl h1_8 (.gz rfl (.gz rfl (.gz rfl (.gz rfl (.gz rfl (.gz rfl (.gz rfl (.gz rfl (.kv rfl (.pickF rfl rfl) (.m rfl (by kernel_rfl) (.c Tryz.func90 [_, _] (pwhen_spec _ _)) (by repeat' constructor) ?_))))))))))
 refine D.kv rfl (.assign rfl) (.pf (.ret ?_))
 exact .dn rfl rfl ⟨by congr 1; unfold whenZ; first | (simp_all; done) | (simp_all; omega) | (split <;> simp_all; done) | (split <;> simp_all <;> omega), rfl⟩
theorem ppfirst (t : Nat) (τ : Tr) (u : Who) (iv : Value) (r : Rq) (p : HP) (hA : WiA p u iv r) (N : Nat) (ho : τ.Ok N) (hN : N ≤ 1099511627776) (f1 f2 f3 : Value) (hf1 : FunV Tryz.prog f1 [.agg (wiC t u iv r).toArray] [p] (fun v L => v = vint (wrongE r) ∧ L = [p])) (hf2 : ∀ s : Stt, FunV Tryz.prog f2 [.agg (stC s).toArray] [] (fun v L => v = vint (stampK r.kind s) ∧ L = [])) (b1 bk bs bi : Nat) (va : Value) (p0 : HP) (hr : ∀ h : Hp, p0 h → rdS 1 h va 5 [.func (.func 86) #[] #[vptr b1], .func (.func 88) #[] #[vptr bk, vptr b1], .func (.func 89) #[] #[vptr bi], .func (.func 91) #[] #[vptr b1, vptr bk], .func (.func 93) #[] #[vptr b1, vptr bk, vptr bs]]) : Fn Tryz.prog 85 #[va] [p0, ptc b1 (wiC t u iv r) 134, ptc bk [f1, vint (permK r.kind), f2, f3] 171, ptc bs (stC (statD τ r.path)) 37, ptc bi [.bool (decide (thereT τ r.path))] 4, treeR t τ, p] fun v L => v = vint (firstZ (nodeE τ u r)) ∧ L = [p0, ptc b1 (wiC t u iv r) 134, ptc bk [f1, vint (permK r.kind), f2, f3] 171, ptc bs (stC (statD τ r.path)) 37, ptc bi [.bool (decide (thereT τ r.path))] 4, treeR t τ, p] := by
 refine Fn.unpack (pfirst_spec [.func (.func 86) #[] #[vptr b1], .func (.func 88) #[] #[vptr bk, vptr b1], .func (.func 89) #[] #[vptr bi], .func (.func 91) #[] #[vptr b1, vptr bk], .func (.func 93) #[] #[vptr b1, vptr bk, vptr bs]] (nodeE τ u r) va p0 _ rfl (by show 5 ≤ _; decide) hr ?_)
 intro i hi hz
 have hi2 : i < 5 := hi
 have hc : i = 0 ∨ i = 1 ∨ i = 2 ∨ i = 3 ∨ i = 4 := by omega
 rcases hc with rfl | rfl | rfl | rfl | rfl
 ·exact FunV.share (us := []) (vs := []) (ws := [vptr b1]) Tryz.func86 rfl rfl (by repeat' constructor) (pp1_spec t τ u iv r p hA N ho hN b1)
 ·exact FunV.share (us := []) (vs := []) (ws := [vptr bk, vptr b1]) Tryz.func88 rfl rfl (by repeat' constructor) (pp2_spec t τ u iv r p hA N ho hN b1 bk f1 f2 f3 _ (wrongE r) hf1)
 ·exact FunV.share (us := []) (vs := []) (ws := [vptr bi]) Tryz.func89 rfl rfl (by repeat' constructor) (pp3_spec bi _)
 ·exact FunV.share (us := []) (vs := []) (ws := [vptr b1, vptr bk]) Tryz.func91 rfl rfl (by repeat' constructor) (pp4_spec t τ u iv r p hA N ho hN b1 bk f1 f2 f3 _)
 ·exact FunV.share (us := []) (vs := []) (ws := [vptr b1, vptr bk, vptr bs]) Tryz.func93 rfl rfl (by repeat' constructor) (pp5_spec t τ u iv r p hA N ho hN b1 bk f1 f2 f3 _ bs _ (stampK r.kind) (hf2 _))
theorem kindC_cells (k : Int) : (kindC k).all isCell = true := by
 unfold kindC
 split
 ·rfl
 ·split
  ·rfl
  ·split <;> rfl
theorem kindC_len (k : Int) : (kindC k).length = 4 := by
 unfold kindC
 split
 ·rfl
 ·split
  ·rfl
  ·split <;> rfl
theorem nodeN_sub (r : Rq) (k n : Int) : ∃ a m c, (nodeN r k n).subsV = .slice a m c := by
 unfold nodeN
 split
 ·exact ⟨_, _, _, rfl⟩
 ·split <;> exact ⟨_, _, _, rfl⟩
theorem part_one {τ : Tr} {u : Who} {r : Rq} (h : r.kind = 1) : partP τ u r = (createX τ u r, firstZ (createE τ u r)) := if_pos h
theorem part_two {τ : Tr} {u : Who} {r : Rq} (h : r.kind = 2) : partP τ u r = (eraseX τ r, firstZ (eraseE τ u r)) := by unfold partP; rw [if_neg (by omega), if_pos h]
theorem ptC_cells {x : Pt} {a : Option Addr} {n c : Nat} (h : ∃ a n c, x.subsV = .slice a n c) : (ptC (withA x (.slice a n c))).all isCell = true := by
 obtain ⟨a, n, c, e⟩ := h
 simp [ptC, withA, e, isCell]
theorem ppart_spec (t : Nat) (τ : Tr) (u : Who) (iv : Value) (r : Rq) (p : HP) (hA : WiA p u iv r) (N : Nat) (ho : τ.Ok N) (hN : N ≤ 1099511627776) (hcv : I64 (upS τ r).cver) : Fn Tryz.prog 51 #[.agg (wiC t u iv r).toArray] [treeR t τ, p] fun v L => ∃ w : Value, v = .tuple #[.agg (ptC (withA (partP τ u r).1 w)).toArray, vint (partP τ u r).2] ∧ (∃ a c, w = .slice a (partP τ u r).1.acl.length c) ∧ L = [treeR t τ, p, slR 75 2 w (partP τ u r).1.acl.length ((partP τ u r).1.acl.flatMap acC)] := by
 refine Fn.intro Tryz.func51 rfl rfl fun F W => ?_
 have hpl := hA.rq.path
 have hpl2 : r.path.length ≤ 1048576 := by omega
 have hcl := hA.cells t
 refine .sr (.oq (.box rfl) ?_)
 rintro v L' ⟨b1, rfl, rfl⟩
 refine .oq (.allocA ze_60) ?_
 rintro v L' ⟨bx, rfl, rfl⟩
 refine .a rfl (.nil (.pc b1 (wiC t u iv r) ?_))
 refine .then_n (.seq (.sr (.u (.fieldAddr rfl fo_134_3) (.u (.fieldAddr rfl fo_33_0) (.u (.ld rfl ag_3) (.nt (.block (.sr (.ui rfl rfl rfl (.an rfl (.condD rfl (fun h12 => ?_) (fun h12 => ?_))))))))))))
 ·refine .sr (.q (.la (wiC t u iv r) rfl ag_134) rfl (.oq (.c Tryz.func82 [_] (pcreate_spec t τ u iv r p hA N ho hN hcv)) ?_))
  rintro v L' ⟨w, rfl, ⟨aw, cw, rfl⟩, rfl⟩
  refine .u (.extract rfl rfl) (.u (.extract rfl rfl) (.sa rfl rfl sz_60 (by simp [ptC, withA, createX, isCell]) ?_))
  refine .a rfl (.nil (.pc bx ([vint (createX τ u r).kind, vstr (createX τ u r).path, vstr (createX τ u r).data, .slice aw r.acl.length cw, vint (createX τ u r).own, vint (createX τ u r).num, vint (createX τ u r).err, (createX τ u r).subsV]) ?_))
  refine .then_n (.ret (.blk_r (.then_r ?_)))
  exact .d2 rfl (.cellA rfl ag_60 (by repeat' constructor) (by simp [spl, setAll]) rfl) (.tmp rfl) ⟨.slice aw r.acl.length cw, by first | (rw [part_one h12]; done) | (rw [part_one h12]; rfl), by rw [part_one h12]; exact ⟨_, _, rfl⟩, by first | (rw [part_one h12]; done) | (rw [part_one h12]; rfl)⟩
 refine .sr (.ui rfl rfl rfl (.an rfl (.condD rfl (fun h18 => ?_) (fun h18 => ?_))))
 ·refine .sr (.q (.la (wiC t u iv r) rfl ag_134) rfl (.cv Tryz.func83 [_] (perase_spec t τ u iv r p hA N ho hN) ?_))
  refine .u (.extract rfl rfl) (.u (.extract rfl rfl) (.sa rfl rfl sz_60 (by simp [ptC, eraseX, isCell]) ?_))
  refine .a rfl (.nil (.pc bx ([vint (eraseX τ r).kind, vstr (eraseX τ r).path, vstr (eraseX τ r).data, nilV, vint (eraseX τ r).own, vint (eraseX τ r).num, vint (eraseX τ r).err, (eraseX τ r).subsV]) ?_))
  refine .add (slR_nil 75 2) (.then_n (.ret (.blk_r (.then_r ?_))))
  exact .d2 rfl (.cellA rfl ag_60 (by repeat' constructor) (by simp [spl, setAll]) rfl) (.tmp rfl) ⟨nilV, by first | (rw [part_two h18]; done) | (rw [part_two h18]; rfl), by rw [part_two h18]; exact ⟨_, _, rfl⟩, by first | (rw [part_two h18]; done) | (rw [part_two h18]; rfl)⟩
 refine .skip (.blk_n (.then_n (.sr (.u (.fieldAddr rfl fo_134_3) (.u (.fieldAddr rfl fo_33_0) (.u (.ld rfl ag_3) (.cv Tryz.func84 [_] (pkinds_spec r.kind) ?_)))))))
 refine .m rfl (.u (.extract rfl rfl) (.u (.extract rfl rfl) (.oq (.allocA ze_171) ?_)))
 rintro v L' ⟨bk, rfl, rfl⟩
 refine .oq (.storeA rfl rfl ?c40 sz_171 ?c43 ?c41 (nfz0 _ _)) ?_
 case c40 => exact fun v hv => List.all_eq_true.1 (kindC_cells r.kind) v hv
 case c43 => exact kindC_len _
 case c41 => simp [kindC_len]
 rintro v L' rfl
 refine .an rfl (.seq (.sm rfl (.u (.not rfl) (.nt (.condN rfl (fun h32 => ?_) (fun h32 => ?_))))))
 ·have hP : partP τ u r = (noopX, 110) := by unfold partP; rw [if_neg h12, if_neg h18, if_neg h32]
  have hkc : kindC r.kind = [.nilFunc, vint 0, .nilFunc, .nilFunc] := by unfold kindC; rw [if_neg (fun g => h32 (.inl g)), if_neg (fun g => h32 (.inr (.inl g))), if_neg (fun g => h32 (.inr (.inr g)))]
  refine .sr (.q (.build (us := []) fl_60 ze_60 rfl rfl (by simp [isCell])) rfl (.sa rfl rfl sz_60 (by (first | (simp [isCell]; done) | (simp [isCell, setAll, Value.cells]; done))) ?_))
  refine .a rfl (.nil (.pc bx ([vint 0, vstr [], vstr [], nilV, vint 0, vint 0, vint 0, nilV]) ?_))
  refine .add (slR_nil 75 2) (.then_n (.rt ?_))
  exact .d2 rfl (.cellA rfl ag_60 (by repeat' constructor) (by simp [spl, setAll]) rfl) (.tmp rfl) ⟨nilV, by first | (rw [hP]; done) | (rw [hP]; rfl), by rw [hP]; exact ⟨_, _, rfl⟩, by first | (rw [hP]; done) | (rw [hP]; rfl)⟩
 have hP : partP τ u r = (nodeN r r.kind (stampK r.kind (statD τ r.path)), firstZ (nodeE τ u r)) := by unfold partP; rw [if_neg h12, if_neg h18, if_pos h32, node_n]
 obtain ⟨f1, f2, f3, hkc, hc1, hc2, hc3, hf1, hf2, hf3⟩ := kind_of t u iv r p hA h32
 refine .ptCast (b := bk) (l' := [f1, vint (permK r.kind), f2, f3]) (by repeat' constructor) (by rw [hkc]; rfl) ?_
 refine .sk (.sr (.u (.fieldAddr rfl fo_134_0) (.u (.ld rfl ag_76) (.u (.fieldAddr rfl fo_134_3) (.u (.fieldAddr rfl fo_33_2) (.u (.ld rfl ag_9) (.cv Tryz.func76 [_, _] (trstat_spec t τ _ N ho hN) ?_)))))))
 refine .m rfl (.u (.extract rfl rfl) (.u (.extract rfl rfl) (.oq (.allocA ze_37) ?_)))
 rintro v L' ⟨bs, rfl, rfl⟩
 refine .oq (.alloc ze_4) ?_
 rintro v L' ⟨bi, rfl, rfl⟩
 refine .sa rfl rfl sz_37 (by simp [stC, isCell]) ?_
 refine .st rfl rfl rfl sz_4 ?_
 refine .nil (.pc bs (stC (statD τ r.path)) ?_)
 refine .then_n (.sr (.q (.func (us := []) (vs := [_]) rfl rfl) rfl (.q (.func (us := []) (vs := [_, _]) rfl rfl) rfl (.q (.func (us := []) (vs := [_]) rfl rfl) rfl (.q (.func (us := []) (vs := [_, _]) rfl rfl) rfl (.q (.func (us := []) (vs := [_, _, _]) rfl rfl) rfl (.oq (.buildSlice1 (vs := [_, _, _, _, _]) el_230 ze_176 rfl rfl rfl rfl rfl (by decide)) ?_)))))))
 rintro v L' ⟨bf, rfl, rfl⟩
 refine .slMake (b := bf) (n := 5) (c := 5) (xs := [.func (.func 86) #[] #[vptr b1], .func (.func 88) #[] #[vptr bk, vptr b1], .func (.func 89) #[] #[vptr bi], .func (.func 91) #[] #[vptr b1, vptr bk], .func (.func 93) #[] #[vptr b1, vptr bk, vptr bs]]) (by repeat' constructor) (by decide) (by exact Nat.le_refl 5) rfl (.cv Tryz.func85 [_] (ppfirst t τ u iv r p hA N ho hN f1 f2 f3 hf1 hf2 b1 bk bs bi _ _ (fun _ => slR_rd)) ?_)
 refine .an rfl (.seq (.draw [7, 9] [[0, 1, 2, 3, 4, 5, 6, 8, 7, 9], [10]] mixed (by kernel_rfl) (.go [ptc b1 _ _, ptc bk _ _, ptc bs _ _] (by repeat' constructor) (.kv rfl (.fieldAddr rfl fo_171_3) (.kv rfl (.load rfl ag_px (by repeat' constructor) rfl) (.kv rfl (.la (wiC t u iv r) rfl ag_134) (.kv rfl (.fieldAddr rfl fo_171_2) (.kv rfl (.load rfl ag_ps (by repeat' constructor) rfl) (.kv rfl (.la (stC (statD τ r.path)) rfl ag_37) (.m rfl (by kernel_rfl) (.callD (vs := [_]) rfl rfl (hf2 _)) (by repeat' constructor) ?_))))))))))
 refine D.k rfl (.move rfl) (.hh rfl (.callD (vs := [_, _]) rfl rfl (hf3 _)) ?_)
 rintro v L' ⟨w, rfl, ⟨aw, cw, rfl⟩, rfl⟩
 refine D.sa rfl rfl rfl sz_60 (by exact fun v hv => List.all_eq_true.1 (ptC_cells (nodeN_sub r _ _)) v hv) ?_
 refine D.ph (.g0 (.kv rfl (.assign rfl) (.ph (.fin (.pc bx ([vint (nodeN r r.kind (stampK r.kind (statD τ r.path))).kind, vstr (nodeN r r.kind (stampK r.kind (statD τ r.path))).path, vstr (nodeN r r.kind (stampK r.kind (statD τ r.path))).data, .slice aw (nodeN r r.kind (stampK r.kind (statD τ r.path))).acl.length cw, vint (nodeN r r.kind (stampK r.kind (statD τ r.path))).own, vint (nodeN r r.kind (stampK r.kind (statD τ r.path))).num, vint (nodeN r r.kind (stampK r.kind (statD τ r.path))).err, (nodeN r r.kind (stampK r.kind (statD τ r.path))).subsV]) ?_)))))
 refine .then_n (.ret ?_)
 exact .d2 rfl (.cellA rfl ag_60 (by repeat' constructor) (by simp [spl, setAll]) rfl) (.tmp rfl) ⟨.slice aw (nodeN r r.kind (stampK r.kind (statD τ r.path))).acl.length cw, by first | (rw [hP]; done) | (rw [hP]; rfl), by rw [hP]; exact ⟨_, _, rfl⟩, by first | (rw [hP]; done) | (rw [hP]; rfl)⟩
abbrev PN := Bs × Nd
abbrev SN := Int × (Int × Bs)
def nums7 (s : Stt) : List Int := [s.cz, s.mz, s.pz, s.ver, s.cver, s.av, s.own]
/-! ### Read again -/
def nextN (last p : Bs) : Prop := checkZ p = 0 ∧ last < p ∧ (last = [] ↔ p = [47])
def nextS (last id : Int) : Prop := last < id
instance (a p : Bs) : Decidable (nextN a p) := inferInstanceAs (Decidable (_ ∧ _ ∧ _))
instance (a p : Int) : Decidable (nextS a p) := inferInstanceAs (Decidable (_ < _))
/-! What a text is, step by step: what is read, and what is left to be read. -/
open Classical in
open Classical in
open Classical in
/-! ### What is read was laid so -/
/-! ### What was laid is read again -/
/-! ### A tree that is being laid -/
def appE (τ : Tr) (e : En) : Tr := (applyZ τ e.zx e.x e.subs).1
def ptS (kind : Int) (path data : Bs) (num : Int) : Pt := ⟨kind, path, data, .slice none 0 0, [], 0, num, 0, .slice none 0 0⟩
theorem rd_none (sz : Nat) (h : Hp) : rdS sz h (.slice none 0 0) 0 [] := .inl ⟨rfl, rfl, none, 0, rfl⟩
theorem ptS_ok (p : HP) {kind : Int} {path data : Bs} {num : Int} (hp : path.length ≤ 1048576) : PtA p (ptS kind path data num) := ⟨fun h _ => rd_none 2 h, Nat.zero_le _, hp, rfl, rfl⟩
theorem txS_ok (p : HP) {kind : Int} {path data : Bs} {num : Int} (hp : path.length ≤ 1048576) : TxA p (ptS kind path data num) [] := ⟨ptS_ok p hp, fun h _ => rd_none 8 h, Nat.zero_le _, fun y hy => by cases hy⟩
/-! ### Raw acts -/
/-! ### Parts touch what is theirs -/
theorem part_sess (τ : Tr) (x : Pt) (zx : Int) : (partZ τ x zx).1.sess = τ.sess := by
 unfold partZ createZ eraseZ
 repeat' split
 all_goals rfl
/-! ### The chapter's examples -/
theorem numB_len8 {n : Int} (h : I64 n) : (numB n).length ≤ 10 := sev_len10 (zig_lt h)
structure AclW (l : List Ac) : Prop where
 few : l.length ≤ 1048576
 long : (aclB l).length ≤ 33000000
 each : ∀ a ∈ l, AcI a ∧ a.2.length ≤ 1048576
structure PnW (y : PN) : Prop where
 p : y.1.length ≤ 60
 d : y.2.data.length ≤ 1048576
 acl : AclW y.2.acl
 st : ∀ n ∈ nums7 y.2.st, I64 n
 bare : y.2.st.len = 0 ∧ y.2.st.kids = 0
structure SnW (x : SN) : Prop where
 i : I64 x.1
 t : I64 x.2.1
 s : x.2.2.length ≤ 1048576
structure TrW (τ : Tr) : Prop where
 nd : ∀ y ∈ τ.nodes, PnW y
 ss : ∀ x ∈ τ.sess, SnW x
 zx : I64 τ.zx
theorem txtB_len8 {s : Bs} (h : s.length ≤ 1048576) : (txtB s).length ≤ 1048586 := by
 have h1 := sev_len10 (u := s.length) (by have : U64 = 18446744073709551616 := rfl; omega)
 unfold txtB cntB
 rw [List.length_append]; omega
/-! ### Who keeps it -/
structure PtN (x : Pt) : Prop where
 own : I64 x.own
 num : I64 x.num
 data : x.data.length ≤ 1048576
 acl : AclW x.acl
structure EnN (e : En) : Prop where
 zx : I64 e.zx
 x : PtN e.x
 each : ∀ y ∈ e.subs, PtN y
theorem nums7_mem {s : Stt} {n : Int} : n ∈ nums7 s ↔ n = s.cz ∨ n = s.mz ∨ n = s.pz ∨ n = s.ver ∨ n = s.cver ∨ n = s.av ∨ n = s.own := by
 simp [nums7]
theorem PnW.kid {p : Bs} {n : Nd} (h : PnW (p, n)) {num zx : Int} (h1 : I64 num) (h2 : I64 zx) : PnW (p, kidN num zx n) := by
 refine ⟨h.p, h.d, h.acl, fun k hk => ?_, h.bare⟩
 have hs := h.st
 rw [nums7_mem] at hk
 rcases hk with rfl | rfl | rfl | rfl | rfl | rfl | rfl
 ·exact hs _ (nums7_mem.2 (.inl rfl))
 ·exact hs _ (nums7_mem.2 (.inr (.inl rfl)))
 ·exact h2
 ·exact hs _ (nums7_mem.2 (.inr (.inr (.inr (.inl rfl)))))
 ·exact h1
 ·exact hs _ (nums7_mem.2 (.inr (.inr (.inr (.inr (.inr (.inl rfl)))))))
 ·exact hs _ (nums7_mem.2 (.inr (.inr (.inr (.inr (.inr (.inr rfl)))))))
theorem PnW.set {p : Bs} {n : Nd} (h : PnW (p, n)) {d : Bs} {num zx : Int} (hd : d.length ≤ 1048576) (h1 : I64 num) (h2 : I64 zx) : PnW (p, setN d num zx n) := by
 refine ⟨h.p, hd, h.acl, fun k hk => ?_, h.bare⟩
 have hs := h.st
 rw [nums7_mem] at hk
 rcases hk with rfl | rfl | rfl | rfl | rfl | rfl | rfl
 ·exact hs _ (nums7_mem.2 (.inl rfl))
 ·exact h2
 ·exact hs _ (nums7_mem.2 (.inr (.inr (.inl rfl))))
 ·exact h1
 ·exact hs _ (nums7_mem.2 (.inr (.inr (.inr (.inr (.inl rfl))))))
 ·exact hs _ (nums7_mem.2 (.inr (.inr (.inr (.inr (.inr (.inl rfl)))))))
 ·exact hs _ (nums7_mem.2 (.inr (.inr (.inr (.inr (.inr (.inr rfl)))))))
theorem PnW.acl' {p : Bs} {n : Nd} (h : PnW (p, n)) {l : List Ac} {num : Int} (hl : AclW l) (h1 : I64 num) : PnW (p, aclN l num n) := by
 refine ⟨h.p, h.d, hl, fun k hk => ?_, h.bare⟩
 have hs := h.st
 rw [nums7_mem] at hk
 rcases hk with rfl | rfl | rfl | rfl | rfl | rfl | rfl
 ·exact hs _ (nums7_mem.2 (.inl rfl))
 ·exact hs _ (nums7_mem.2 (.inr (.inl rfl)))
 ·exact hs _ (nums7_mem.2 (.inr (.inr (.inl rfl))))
 ·exact hs _ (nums7_mem.2 (.inr (.inr (.inr (.inl rfl)))))
 ·exact hs _ (nums7_mem.2 (.inr (.inr (.inr (.inr (.inl rfl))))))
 ·exact h1
 ·exact hs _ (nums7_mem.2 (.inr (.inr (.inr (.inr (.inr (.inr rfl)))))))
theorem i64_0 : I64 0 := by decide
theorem PnW.new {x : Pt} (h : PtN x) (hp : ableZ x.path) {zx : Int} (hz : I64 zx) : PnW (x.path, newN x zx) := by
 refine ⟨able_len (.inr hp), h.data, h.acl, fun k hk => ?_, ⟨rfl, rfl⟩⟩
 rw [nums7_mem] at hk
 rcases hk with rfl | rfl | rfl | rfl | rfl | rfl | rfl
 ·exact hz
 ·exact hz
 ·exact hz
 ·exact i64_0
 ·exact i64_0
 ·exact i64_0
 ·exact h.own
theorem nd_mod {l : List PN} {p : Bs} {f : Nd → Nd} (h : ∀ y ∈ l, PnW y) (hf : ∀ n, PnW (p, n) → PnW (p, f n)) : ∀ y ∈ amod l p f, PnW y := by
 intro y hy
 obtain ⟨x, hx, e1, e2 | ⟨e2, e3⟩⟩ := amod_mem hy
 ·have : y = x := Prod.ext e1.symm e2
  rw [this]; exact h x hx
 ·have e : y = (p, f x.2) := Prod.ext (e1.symm.trans e2) e3
  rw [e]
  refine hf _ ?_
  have := h x hx
  rw [← e2]; exact this
theorem TrW.part {τ : Tr} (h : TrW τ) {x : Pt} (hx : PtN x) {zx : Int} (hz : I64 zx) : TrW (partZ τ x zx).1 := by
 unfold partZ
 split
 ·unfold createZ
  split
  ·rename_i g
   refine ⟨nd_mod (fun y hy => ?_) fun n hn => hn.kid hx.num hz, h.ss, h.zx⟩
   rcases sset_mem hy with rfl | hy
   ·exact PnW.new hx g.1 hz
   ·exact h.nd y hy
  ·exact h
 split
 ·unfold eraseZ
  split
  ·exact ⟨nd_mod (fun y hy => h.nd y (List.mem_filter.1 hy).1) fun n hn => hn.kid hx.num hz, h.ss, h.zx⟩
  ·exact h
 split
 ·exact ⟨nd_mod h.nd fun n hn => hn.set hx.data hx.num hz, h.ss, h.zx⟩
 split
 ·exact ⟨nd_mod h.nd fun n hn => hn.acl' hx.acl hx.num, h.ss, h.zx⟩
 ·exact h
theorem TrW.parts {τ : Tr} (h : TrW τ) {zx : Int} (hz : I64 zx) {l : List Pt} (hl : ∀ x ∈ l, PtN x) : TrW (partsZ τ zx l).1 := by
 have key : ∀ (l : List Pt) (r : Tr × List Ev), TrW r.1 → (∀ x ∈ l, PtN x) → TrW (l.foldl (fun r x => ((partZ r.1 x zx).1, r.2 ++ (partZ r.1 x zx).2)) r).1 := by
  intro l
  induction l with
  | nil => intro r h _; exact h
  | cons x l ih =>
   intro r h hl
   rw [List.foldl_cons]
   exact ih _ (h.part (hl x (by simp)) hz) (fun y hy => hl y (by simp [hy]))
 exact key l _ h hl
theorem TrW.zxT {τ : Tr} (h : TrW τ) {z : Int} (hz : I64 z) : TrW (Go.Proofs.YtmbnebafdhpgpaaGreatDoor.zxT τ z) := ⟨h.nd, h.ss, hz⟩
theorem TrW.app {τ : Tr} (h : TrW τ) {e : En} (he : EnN e) : TrW (appE τ e) := by
 have h0 := h.zxT he.zx
 unfold appE applyZ
 dsimp only
 split
 ·split
  ·refine ⟨h0.nd, fun y hy => ?_, h0.zx⟩
   rcases sset_mem hy with rfl | hy
   ·exact ⟨he.x.own, he.x.num, he.x.data⟩
   ·exact h0.ss y hy
  ·exact h0
 split
 ·have h1 := h0.parts he.zx (l := e.subs.filter isDel) fun y hy => he.each y (List.mem_filter.1 hy).1
  exact ⟨h1.nd, fun y hy => h1.ss y (List.mem_filter.1 hy).1, h1.zx⟩
 split
 ·exact h0.parts he.zx he.each
 split
 ·exact h0
 ·exact h0.part he.x he.zx
theorem TrW.new : TrW newT := by
 refine ⟨fun y hy => ?_, fun x hx => (by cases hx), i64_0⟩
 simp only [newT, List.mem_singleton] at hy
 subst hy
 refine ⟨by decide, by decide, ⟨by decide, ?_, fun a ha => ?_⟩, fun n hn => ?_, ⟨rfl, rfl⟩⟩
 ·have h1 := numB_len8 (n := 31) (by decide)
  have h2 := txtB_len8 (s := [119, 111, 114, 108, 100]) (by decide)
  have h3 := sev_len10 (u := 0 + 1) (by decide)
  unfold aclB acB
  simp only [List.flatMap_cons, List.flatMap_nil, List.length_append, List.length_nil, List.length_cons] at *
  unfold cntB
  omega
 ·simp only [List.mem_singleton] at ha; subst ha
  exact ⟨⟨by decide, by decide⟩, by decide⟩
 ·rw [nums7_mem] at hn
  rcases hn with rfl | rfl | rfl | rfl | rfl | rfl | rfl <;> exact i64_0
theorem G.as {W : World} {n : Nat} {ds : List Deferred} {E : Env} {L R : List HP} {X : Act → World → Prop} {p q : HP} (hL : Pick p L R) (e : p = q) (h : G W n ds E (q :: R) X) : G W n ds E L X := by
 subst e; exact G.focus hL h
theorem wrap_i64 (n : Int) : I64 (wrapI n) := by
 show -9223372036854775808 ≤ IntKind.i64.wrap n ∧ IntKind.i64.wrap n ≤ 9223372036854775807
 simp only [IntKind.wrap, IntKind.signed, IntKind.bits, Bool.true_and]
 split <;> simp_all <;> omega
theorem I64.zero : I64 0 := ⟨by decide, by decide⟩
theorem cver_i64 {τ : Tr} (h : TrW τ) (p : Bs) : I64 (statD τ p).cver := by
 unfold statD statZ
 rcases hn : alook τ.nodes p with _ | n
 case some =>
  exact (h.nd _ (al_mem hn)).st _ (nums7_mem.2 (.inr (.inr (.inr (.inr (.inl rfl))))))
 case none => exact I64.zero
theorem part_n (τ : Tr) (u : Who) {r : Rq} (hu : I64 u.ses) (hd : r.data.length ≤ 1048576) (ha : AclW r.acl) : PtN (partP τ u r).1 := by
 have h0 : AclW [] := ⟨by decide, by simp [aclB, cntB, sevZ], fun a ha => by cases ha⟩
 unfold partP
 split
 ·refine ⟨?_, wrap_i64 _, hd, ha⟩
  show I64 (if andI r.flags 1 ≠ 0 then u.ses else 0)
  split
  ·exact hu
  ·exact I64.zero
 split
 ·exact ⟨I64.zero, wrap_i64 _, Nat.zero_le _, h0⟩
 split
 ·unfold nodeX
  split
  ·exact ⟨I64.zero, wrap_i64 _, hd, h0⟩
  split
  ·exact ⟨I64.zero, wrap_i64 _, Nat.zero_le _, ha⟩
  ·exact ⟨I64.zero, I64.zero, Nat.zero_le _, h0⟩
 ·exact ⟨I64.zero, I64.zero, Nat.zero_le _, h0⟩
theorem multi_cons {u : Who} {r : Rq} {l : List Rq} {τ : Tr} : multiL u (r :: l) τ = if (partP τ u r).2 ≠ 0 then (τ, [], some (0, (partP τ u r).2))
  else ((multiL u l (applyZ τ τ.zx (partP τ u r).1 []).1).1, (partP τ u r).1 :: (multiL u l (applyZ τ τ.zx (partP τ u r).1 []).1).2.1, (multiL u l (applyZ τ τ.zx (partP τ u r).1 []).1).2.2.map fun x => (x.1 + 1, x.2)) := rfl
def MultiAt (u : Who) (l : List Rq) (τ : Tr) (i : Nat) (σ : Tr) (xs : List Pt) : Prop :=
 (multiL u l τ).2.1 = xs ++ (multiL u (l.drop i) σ).2.1 ∧ (multiL u l τ).2.2 = (multiL u (l.drop i) σ).2.2.map (fun x => (x.1 + i, x.2)) ∧ xs.length = i
theorem MultiAt.zero (u : Who) (l : List Rq) (τ : Tr) : MultiAt u l τ 0 τ [] := ⟨rfl, by simp, rfl⟩
theorem MultiAt.step {u : Who} {l : List Rq} {τ σ : Tr} {i : Nat} {xs : List Pt} (h : MultiAt u l τ i σ xs) (hi : i < l.length) (h0 : (partP σ u l[i]).2 = 0) :
  MultiAt u l τ (i + 1) (applyZ σ σ.zx (partP σ u l[i]).1 []).1 (xs ++ [(partP σ u l[i]).1]) := by
 obtain ⟨h1, h2, h3⟩ := h
 rw [List.drop_eq_getElem_cons hi, multi_cons, if_neg (by omega)] at h1 h2
 refine ⟨by rw [h1, List.append_assoc]; rfl, ?_, by rw [List.length_append, h3]; rfl⟩
 rw [h2, Option.map_map]
 congr 1
 funext x
 show (x.1 + 1 + i, x.2) = (x.1 + (i + 1), x.2)
 congr 1; omega
theorem MultiAt.stop {u : Who} {l : List Rq} {τ σ : Tr} {i : Nat} {xs : List Pt} (h : MultiAt u l τ i σ xs) (hi : i < l.length) (h0 : (partP σ u l[i]).2 ≠ 0) (hl : ¬ (l.length = 0 ∨ l.length > 8)) :
  multiP τ u l = (refusal (partP σ u l[i]).2 i, []) := by
 obtain ⟨h1, h2, h3⟩ := h
 rw [List.drop_eq_getElem_cons hi, multi_cons, if_pos h0] at h2
 unfold multiP
 rw [if_neg hl, h2]
 simp
theorem MultiAt.done {u : Who} {l : List Rq} {τ σ : Tr} {xs : List Pt} (h : MultiAt u l τ l.length σ xs) (hl : ¬ (l.length = 0 ∨ l.length > 8)) :
  multiP τ u l = (⟨7, [], [], nilV, [], 0, 0, 0, nilV⟩, xs) := by
 obtain ⟨h1, h2, h3⟩ := h
 rw [List.drop_length] at h1 h2
 have h2 : (multiL u l τ).2.2 = none := h2
 have h1 : (multiL u l τ).2.1 = xs ++ [] := h1
 unfold multiP
 rw [if_neg hl, h2, h1, List.append_nil]
theorem wnums_spec (w : Nat) (bs : Bs) (va : Value) (ns : List Int) (p : HP) (hp : ∀ h : Hp, p h → rdS 1 h va ns.length (ints ns)) (hi : ∀ n ∈ ns, I64 n) (hl : bs.length + (ns.flatMap numB).length ≤ 4294900000) (hn : ns.length ≤ 1048576) : Fn Tryz.prog 121 #[vptr w, va] [wrR w bs, p] fun v L => v = .tuple #[] ∧ L = [wrR w (bs ++ ns.flatMap numB), p] := by
 refine Fn.intro Tryz.func121 rfl rfl fun F W => ?_
 refine .rdAny (p := p) hp (by repeat' constructor) fun aa ca e0 _ => ?_
 subst e0
 refine .sm rfl (.q (.slen rfl Tryz.underlying86 rfl) rfl (.m rfl (.nt (.block (.wrCast (w := w) (bs' := bs ++ (ns.take 0).flatMap numB) (by repeat' constructor) (by simp) (.loopK (ι := Nat) (fun q E => (8, vint q) :: E) (fun q => [wrR w (bs ++ (ns.take q).flatMap numB)]) (fun q => q ≤ ns.length) (fun q => ns.length - q) (0) (ts := [0, 6, 7]) (.cons rfl (.cons rfl (.cons rfl (.nil)))) (Nat.zero_le _) ⟨rfl, rfl, rfl, rfl, trivial⟩ (by repeat' constructor) ?_))))))
 rintro j hj
 refine .sr (.ui rfl rfl rfl (.nt (.seq (.condD rfl (fun h9 => ?_) (fun h9 => ?_)))))
 ·have hj2 : j < ns.length := by omega
  have hft := fm_take numB ns j
  refine .rdShape (p := p) hp (by repeat' constructor) (by omega) fun ba oa e => ?_
  subst e
  refine .sk (.seq (.block (.sr (.q (.indexAddr rfl rfl el_86 (by omega)) rfl (.q (.loadEl (p := p) (i := j * 1) (v := vint ns[j]) rfl ag_3 (by repeat' constructor) hp (by simp [hj2])) rfl (.an rfl (.region (.m rfl (.m rfl (.oq (.c Tryz.func190 [_, _] (cnum_spec w _ ns[j] (hi _ (List.getElem_mem hj2)) ?hb8)) ?_))))))))))
  case hb8 => rw [List.length_append]; omega
  rintro v L' ⟨rfl, rfl⟩
  refine .nil (.blk_n (.then_n (.region (.q (.add rfl rfl (by omega)) rfl (.m rfl (.nt (.wrCast (w := w) (bs' := bs ++ (ns.take (j + 1)).flatMap numB) (by repeat' constructor) (by rw [fm_step numB hj2, List.append_assoc]) ?_)))))))
  exact .rk (j + 1) (by omega) (by omega) ⟨rfl, rfl, rfl, rfl, trivial⟩
 have hjj : j = ns.length := by omega
 rw [hjj, List.take_length]
 refine .exit (.then_e (.then_e (.blk_e (.done_n ?_))))
 exact .vv
theorem wacl_spec (w : Nat) (bs : Bs) (a : Ac) (hi : AcI a) (hl : bs.length + (acB a).length ≤ 4294900000) : Fn Tryz.prog 193 #[vptr w, .agg (acC a).toArray] [wrR w bs] fun v L => v = .tuple #[] ∧ L = [wrR w (bs ++ acB a)] := by
 refine Fn.intro Tryz.func193 rfl rfl fun F W => ?_
 have hab : (acB a).length = (numB a.1).length + ((cntB a.2.length).length + a.2.length) := by unfold acB txtB; simp
 refine .sr (.oq (.box rfl) ?_)
 rintro v L' ⟨b3, rfl, rfl⟩
 refine .nil (.ptCast (b := b3) (l' := acC a) (by repeat' constructor) rfl ?_)
 refine .then_n (.sm rfl (.u (.fieldAddr rfl fo_75_0) (.u (.ld rfl ag_3) (.cv Tryz.func190 [_, _] (cnum_spec w bs a.1 hi.n (by omega)) ?_))))
 refine .nt (.region (.m rfl (.u (.fieldAddr rfl fo_75_1) (.u (.ld rfl ag_9) (.oq (.c Tryz.func191 [_, _] (ctext_spec w _ a.2 ?hb11)) ?_)))))
 case hb11 => rw [List.length_append]; omega
 rintro v L' ⟨rfl, rfl⟩
 refine .nil (.done_n (.wrCast (w := w) (bs' := bs ++ acB a) (by repeat' constructor) (by unfold acB; rw [List.append_assoc]) ?_))
 exact .vv
theorem wacls_spec (w : Nat) (bs : Bs) (va : Value) (l : List Ac) (p : HP) (hp : ∀ h : Hp, p h → rdS 2 h va l.length (l.flatMap acC)) (hi : ∀ a ∈ l, AcI a) (hl : bs.length + (cntB l.length ++ l.flatMap acB).length ≤ 4294900000) (hn : l.length ≤ 1048576) : Fn Tryz.prog 192 #[vptr w, va, .func (.func 193) #[] #[]] [wrR w bs, p] fun v L => v = .tuple #[] ∧ L = [wrR w (bs ++ (cntB l.length ++ l.flatMap acB)), p] := by
 refine Fn.intro Tryz.func192 rfl rfl fun F W => ?_
 refine .rdAny (p := p) hp (by repeat' constructor) fun aa ca e0 _ => ?_
 subst e0
 rw [List.length_append] at hl
 refine .sm rfl (.m rfl (.q (.slen rfl Tryz.underlying30 rfl) rfl (.cv Tryz.func194 [_, _] (ccount_spec w bs l.length (by omega) (by omega)) ?_)))
 refine .nt (.sm rfl (.q (.slen rfl Tryz.underlying30 rfl) rfl (.m rfl (.nt (.block (.wrCast (w := w) (bs' := bs ++ cntB l.length ++ (l.take 0).flatMap acB) (by repeat' constructor) (by simp) (.loopK (ι := Nat) (fun q E => (14, vint q) :: E) (fun q => [wrR w (bs ++ cntB l.length ++ (l.take q).flatMap acB)]) (fun q => q ≤ l.length) (fun q => l.length - q) (0) (ts := [0, 2, 12, 13]) (.cons rfl (.cons rfl (.cons rfl (.cons rfl (.nil))))) (Nat.zero_le _) ⟨rfl, rfl, rfl, rfl, rfl, trivial⟩ (by repeat' constructor) ?_)))))))
 rintro j hj
 refine .sr (.ui rfl rfl rfl (.nt (.seq (.condD rfl (fun h15 => ?_) (fun h15 => ?_)))))
 ·have hj2 : j < l.length := by omega
  have hft := fm_stepL acB hj2
  refine .rdShape (p := p) hp (by repeat' constructor) (by omega) fun ba oa e => ?_
  subst e
  refine .sk (.seq (.block (.sr (.q (.indexAddr rfl rfl el_30 (by omega)) rfl (.q (.loadRdA (sz := 2) (j := j * 2) (k := 2) (p := p) (vs := acC l[j]) rfl ag_75 (by repeat' constructor) hp (by simp) (by omega) (by omega) (flatMap_at (f := acC) (sz := 2) (fun _ _ => rfl) (by omega))) rfl (.oq (.allocA ze_75) ?_))))))
  rintro v L' ⟨b7, rfl, rfl⟩
  refine .sa rfl rfl sz_75 (by simp [acC, isCell]) ?_
  refine .nil (.pc b7 (acC l[j]) ?_)
  refine .then_n (.region (.m rfl (.m rfl (.q (.loadAs (vs := acC l[j]) rfl ag_75 (by repeat' constructor) (by simp [acC]) rfl) rfl (.oq (.callV Tryz.func193 rfl rfl (us := []) (vs := [_, _]) (ws := []) rfl rfl (wacl_spec w _ l[j] (hi _ (List.getElem_mem hj2)) ?hb22)) ?_)))))
  case hb22 => rw [List.length_append, List.length_append]; omega
  rintro v L' ⟨rfl, rfl⟩
  refine .nil (.blk_n (.then_n (.region (.q (.add rfl rfl (by omega)) rfl (.m rfl (.nt (.wrCast (w := w) (bs' := bs ++ cntB l.length ++ (l.take (j + 1)).flatMap acB) (by repeat' constructor) (by rw [fm_step acB hj2, ← List.append_assoc]) ?_)))))))
  exact .rk (j + 1) (by omega) (by omega) ⟨rfl, rfl, rfl, rfl, rfl, trivial⟩
 have hjj : j = l.length := by omega
 rw [hjj, List.take_length, List.append_assoc]
 refine .exit (.then_e (.then_e (.blk_e (.done_n ?_))))
 exact .vv
theorem ptB_len (y : Pt) : (ptB y).length = (numB y.kind).length + ((cntB y.path.length).length + y.path.length) + ((cntB y.data.length).length + y.data.length) + (aclB y.acl).length + ([y.own, y.num, y.err].flatMap numB).length := by unfold ptB txtB; simp only [List.length_append]
theorem wpart_spec (w : Nat) (bs : Bs) (y : Pt) (p : HP) (hy : PtW p y) (hl : bs.length + (ptB y).length ≤ 4294900000) (hn : y.acl.length ≤ 1048576) : Fn Tryz.prog 122 #[vptr w, .agg (ptC y).toArray] [wrR w bs, p] fun v L => v = .tuple #[] ∧ L = [wrR w (bs ++ ptB y), p] := by
 refine Fn.intro Tryz.func122 rfl rfl fun F W => ?_
 have hpl := ptB_len y
 have hal : (cntB y.acl.length ++ y.acl.flatMap acB).length = (aclB y.acl).length := rfl
 have hiy := hy.i
 refine .sr (.oq (.box rfl) ?_)
 rintro v L' ⟨b3, rfl, rfl⟩
 refine .nil (.ptCast (b := b3) (l' := ptC y) (by repeat' constructor) rfl ?_)
 refine .then_n (.sm rfl (.u (.fieldAddr rfl fo_60_0) (.u (.ld rfl ag_3) (.cv Tryz.func190 [_, _] (cnum_spec w bs y.kind hiy.kind (by omega)) ?_))))
 refine .nt (.sm rfl (.u (.fieldAddr rfl fo_60_1) (.u (.ld rfl ag_9) (.oq (.c Tryz.func191 [_, _] (ctext_spec w _ y.path ?hb11)) ?_))))
 case hb11 => rw [List.length_append]; omega
 rintro v L' ⟨rfl, rfl⟩
 refine .nt (.sm rfl (.u (.fieldAddr rfl fo_60_2) (.u (.ld rfl ag_9) (.oq (.c Tryz.func191 [_, _] (ctext_spec w _ y.data ?hb17)) ?_))))
 case hb17 => simp only [List.length_append, txtB]; omega
 rintro v L' ⟨rfl, rfl⟩
 refine .nt (.sm rfl (.u (.fieldAddr rfl fo_60_3) (.u (.ld rfl ag_30) (.oq (.c Tryz.func192 [_, _, _] (wacls_spec w _ _ y.acl p hy.acl hiy.acl ?hb23 hn)) ?_))))
 case hb23 => rw [hal]; simp only [List.length_append, txtB]; omega
 rintro v L' ⟨rfl, rfl⟩
 refine .nt (.region (.m rfl (.u (.fieldAddr rfl fo_60_4) (.u (.ld rfl ag_3) (.u (.fieldAddr rfl fo_60_5) (.u (.ld rfl ag_3) (.u (.fieldAddr rfl fo_60_6) (.u (.ld rfl ag_27) (.oq (.buildSlice1 (vs := [_, _, _]) el_86 ze_3 rfl rfl rfl rfl rfl (by decide)) ?_)))))))))
 rintro v L' ⟨b5, rfl, rfl⟩
 refine .slMake (b := b5) (n := 3) (c := 3) (xs := ints [y.own, y.num, y.err]) (by repeat' constructor) (by decide) (by simp) rfl (.oq (.call Tryz.func121 rfl rfl (vs := [_, _]) rfl (wnums_spec w _ _ [y.own, y.num, y.err] (slR 3 1 (.slice (some ⟨b5, 0, none⟩) 3 3) 3 (ints [y.own, y.num, y.err])) (fun h hp => slR_rd hp) (fun n hn => by simp only [List.mem_cons, List.not_mem_nil, or_false] at hn; rcases hn with rfl | rfl | rfl; exact hiy.own; exact hiy.num; exact hiy.err) ?hb35 (by simp))) ?_)
 case hb35 => have h9 : (cntB y.acl.length ++ y.acl.flatMap acB).length = (aclB y.acl).length := rfl; simp only [List.length_append, txtB] at h9 ⊢; omega
 rintro v L' ⟨rfl, rfl⟩
 refine .nil (.done_n (.wrCast (w := w) (bs' := bs ++ ptB y) (by repeat' constructor) (by unfold ptB aclB; simp only [List.append_assoc]) ?_))
 exact .vv
theorem pt_cells {y : Pt} (h1 : isCell y.aclV = true) (h2 : isCell y.subsV = true) : ∀ v ∈ ptC y, isCell v = true := by
 intro v hv
 simp only [ptC, List.mem_cons, List.not_mem_nil, or_false] at hv
 rcases hv with rfl | rfl | rfl | rfl | rfl | rfl | rfl | rfl
 case inr.inr.inr.inl => exact h1
 case inr.inr.inr.inr.inr.inr.inr => exact h2
 all_goals rfl
theorem first_mem : ∀ l : List Int, firstZ l = 0 ∨ firstZ l ∈ l
 | [] => .inl rfl
 | e :: l => by
  show (if e ≠ 0 then e else firstZ l) = 0 ∨ (if e ≠ 0 then e else firstZ l) ∈ e :: l
  split
  ·exact .inr (List.mem_cons_self ..)
  ·rcases first_mem l with h | h
   ·exact .inl h
   ·exact .inr (List.mem_cons_of_mem _ h)
theorem first_zero : ∀ l : List Int, firstZ l = 0 → ∀ e ∈ l, e = 0
 | [], _, e, he => by cases he
 | x :: l, h, e, he => by
  have h : (if x ≠ 0 then x else firstZ l) = 0 := h
  split at h
  ·rename_i g; exact absurd h g
  ·rename_i g
   rcases List.mem_cons.1 he with rfl | he
   ·omega
   ·exact first_zero l h e he
theorem check_err (p : Bs) : checkZ p = 0 ∨ checkZ p = 40 ∨ checkZ p = 41 := by
 unfold checkZ
 repeat' split
 ·exact .inl rfl
 ·exact .inr (.inl rfl)
 ·exact .inr (.inr rfl)
 ·exact .inl rfl
def staleX (x : Pt × List Pt) : Prop := x.1.kind = 8 ∧ x.1.err = 66
instance (x : Pt × List Pt) : Decidable (staleX x) := inferInstanceAs (Decidable (_ ∧ _))
theorem pchanges_spec (k : Int) : Fn Tryz.prog 25 #[vint k] [] fun v L => v = .bool (changesK k) ∧ L = [] := by
 refine Fn.intro Tryz.func25 rfl rfl fun F W => ?_
 refine .sr (.an rfl (.seq (.sm rfl (.nt (.block (.seq (.sr (.ui rfl rfl rfl (.an rfl (.dec (t := 4) rfl (fun h4 => ?_) (fun h4 => ?_)))))))))))
 ·refine .condT rfl (.sk (.condT rfl (.sr (.an rfl (.ret (.blk_r (.then_r ?_)))))))
  exact .dn rfl rfl ⟨by congr 1; unfold changesK; symm; first | (simp; omega) | (simp_all; done) | (simp_all; omega), rfl⟩
 refine .condF rfl (.sr (.ui rfl rfl rfl (.an rfl (.dec (t := 4) rfl (fun h4 => ?_) (fun h4 => ?_)))))
 ·refine .condT rfl (.sk (.condT rfl (.sr (.an rfl (.ret (.blk_r (.then_r ?_)))))))
  exact .dn rfl rfl ⟨by congr 1; unfold changesK; symm; first | (simp; omega) | (simp_all; done) | (simp_all; omega), rfl⟩
 refine .condF rfl (.sr (.ui rfl rfl rfl (.an rfl (.dec (t := 4) rfl (fun h4 => ?_) (fun h4 => ?_)))))
 ·refine .condT rfl (.sk (.condT rfl (.sr (.an rfl (.ret (.blk_r (.then_r ?_)))))))
  exact .dn rfl rfl ⟨by congr 1; unfold changesK; symm; first | (simp; omega) | (simp_all; done) | (simp_all; omega), rfl⟩
 refine .condF rfl (.sr (.ui rfl rfl rfl (.an rfl (.dec (t := 4) rfl (fun h4 => ?_) (fun h4 => ?_)))))
 ·refine .condT rfl (.sk (.condT rfl (.sr (.an rfl (.ret (.blk_r (.then_r ?_)))))))
  exact .dn rfl rfl ⟨by congr 1; unfold changesK; symm; first | (simp; omega) | (simp_all; done) | (simp_all; omega), rfl⟩
 refine .condF rfl (.sr (.ui rfl rfl rfl (.an rfl (.dec (t := 4) rfl (fun h4 => ?_) (fun h4 => ?_)))))
 ·refine .condT rfl (.sk (.condT rfl (.sr (.an rfl (.ret (.blk_r (.then_r ?_)))))))
  exact .dn rfl rfl ⟨by congr 1; unfold changesK; symm; first | (simp; omega) | (simp_all; done) | (simp_all; omega), rfl⟩
 refine .condF rfl (.sr (.ui rfl rfl rfl (.an rfl (.dec (t := 4) rfl (fun h4 => ?_) (fun h4 => ?_)))))
 ·refine .condT rfl (.sk (.condT rfl (.sr (.an rfl (.ret (.blk_r (.then_r ?_)))))))
  exact .dn rfl rfl ⟨by congr 1; unfold changesK; symm; first | (simp; omega) | (simp_all; done) | (simp_all; omega), rfl⟩
 refine .condF rfl (.region (.ui rfl rfl rfl (.an rfl (.dec (t := 4) rfl (fun h4 => ?_) (fun h4 => ?_)))))
 ·refine .condT rfl (.sr (.an rfl (.ret (.blk_r (.then_r ?_)))))
  exact .dn rfl rfl ⟨by congr 1; unfold changesK; symm; first | (simp; omega) | (simp_all; done) | (simp_all; omega), rfl⟩
 refine .condF rfl (.skip (.blk_n (.then_n (.sr (.an rfl (.ret ?_))))))
 exact .dn rfl rfl ⟨by congr 1; unfold changesK; symm; first | (simp; omega) | (simp_all; done) | (simp_all; omega), rfl⟩
theorem prefusal_spec (e n : Int) : Fn Tryz.prog 48 #[vint e, vint n] [] fun v L => v = .agg (ptC (refusal e n)).toArray ∧ L = [] := by
 refine Fn.intro Tryz.func48 rfl rfl fun F W => ?_
 refine .sr (.oq (.allocA ze_60) ?_)
 rintro v L' ⟨b4, rfl, rfl⟩
 refine .nt (.sm rfl (.m rfl (.q (.build (us := [(0, _), (6, _), (5, _)]) fl_60 ze_60 rfl rfl (by simp [isCell])) rfl (.sa rfl rfl sz_60 (by (first | (simp [isCell]; done) | (simp [isCell, setAll, Value.cells]; done))) ?_))))
 refine .nil (.pc b4 ([vint 8, vstr [], vstr [], nilV, vint 0, vint n, vint e, nilV]) ?_)
 refine .then_n (.ret ?_)
 exact .d1 rfl (.cellA rfl ag_60 (by repeat' constructor) (by simp [spl, setAll]) rfl) ⟨rfl, rfl⟩
theorem fill_entry (zx : Int) (s0 s1 s2 s3 s4 s5 s6 s7 : Value) : Instr.fill (fun i => [(0, 1), (1, 1), (2, 1), (3, 8)].toArray[i]?) ([.int .i64 0, .int .i64 0, .int .i64 0, .int .i64 0, .string (bs []), .string (bs []), .slice none 0 0, .int .i64 0, .int .i64 0, .int .i64 0, .slice none 0 0] : List Value).toArray [(0, vint zx), (3, .agg ([s0, s1, s2, s3, s4, s5, s6, s7] : List Value).toArray)] = some (([vint zx, vint 0, vint 0] ++ [s0, s1, s2, s3, s4, s5, s6, s7] : List Value).toArray) := by kernel_rfl
theorem fill_wish0 (c : Nat) (n : Int) (a : Option Addr) (m k : Nat) (s0 s1 s2 s3 s4 s5 s6 s7 s8 s9 : Value) : Instr.fill (fun i => [(0, 1), (1, 1), (2, 1), (3, 10)].toArray[i]?) ([.pointer none, .int .i64 0, .slice none 0 0, .int .i64 0, .int .i64 0, .string (bs []), .string (bs []), .slice none 0 0, .int .i64 0, .int .i64 0, .bool false, .slice none 0 0, .slice none 0 0] : List Value).toArray
  [(0, vptr c), (1, vint n), (2, .slice a m k), (3, .agg ([s0, s1, s2, s3, s4, s5, s6, s7, s8, s9] : List Value).toArray)] = some ([vptr c, vint n, .slice a m k, s0, s1, s2, s3, s4, s5, s6, s7, s8, s9] : List Value).toArray := by kernel_rfl
theorem fill_wish (c : Nat) (u : Who) (iv : Value) (h : ∃ a n c, iv = .slice a n c) (r : Rq) : Instr.fill (fun i => [(0, 1), (1, 1), (2, 1), (3, 10)].toArray[i]?) ([.pointer none, .int .i64 0, .slice none 0 0, .int .i64 0, .int .i64 0, .string (bs []), .string (bs []), .slice none 0 0, .int .i64 0, .int .i64 0, .bool false, .slice none 0 0, .slice none 0 0] : List Value).toArray
  [(0, vptr c), (1, vint u.ses), (2, iv), (3, .agg (rqC r).toArray)] = some (wiC c u iv r).toArray := by
 obtain ⟨a, m, k, rfl⟩ := h
 exact fill_wish0 _ _ _ _ _ _ _ _ _ _ _ _ _ _ _
theorem part_sub (τ : Tr) (u : Who) (r : Rq) : (partP τ u r).1.subsV = nilV := by
 unfold partP
 split
 ·rfl
 split
 ·rfl
 split
 ·unfold nodeX; split
  ·rfl
  split <;> rfl
 ·rfl
theorem part_pl (τ : Tr) (u : Who) (r : Rq) (w : Value) : (withA (partP τ u r).1 w).pl = (partP τ u r).1 := by
 unfold partP
 split
 ·rfl
 split
 ·rfl
 split
 ·unfold nodeX; split
  ·rfl
  split <;> rfl
 ·rfl
theorem part_path {p : HP} {u : Who} {iv : Value} {r : Rq} (h : WiA p u iv r) (τ : Tr) : (partP τ u r).1.path.length ≤ 1048576 := by
 have h1 := whole_len h τ
 have h2 := h.rq.path
 unfold partP
 split
 ·exact h1
 split
 ·show r.path.length ≤ _; omega
 split
 ·unfold nodeX; split
  ·show r.path.length ≤ _; omega
  split
  ·show r.path.length ≤ _; omega
  ·exact Nat.zero_le _
 ·exact Nat.zero_le _
theorem part_path0 {p : HP} {u : Who} {iv : Value} {r : Rq} (h : WiA p u iv r) (τ : Tr) (h0 : (partP τ u r).2 = 0) : (partP τ u r).1.path.length ≤ 1048576 := by
 have h2 := h.rq.path
 unfold partP at h0 ⊢
 split at h0
 ·rename_i hk
  rw [if_pos hk]
  have h3 := first_zero _ h0 (whenZ (checkZ (fullZ τ r) ≠ 0) 41) (by unfold createE; simp)
  have h4 : checkZ (fullZ τ r) = 0 := by
   unfold whenZ at h3
   split at h3
   ·cases h3
   ·rename_i g; exact Decidable.not_not.1 g
  have h5 : (fullZ τ r).length ≤ 60 := by
   by_cases e : fullZ τ r = [47]
   ·exact able_len (.inl e)
   ·exact able_len (.inr ⟨e, h4⟩)
  show (fullZ τ r).length ≤ _
  omega
 rename_i hk
 rw [if_neg hk]
 split
 ·show r.path.length ≤ _; omega
 split
 ·unfold nodeX; split
  ·show r.path.length ≤ _; omega
  split
  ·show r.path.length ≤ _; omega
  ·exact Nat.zero_le _
 ·exact Nat.zero_le _
theorem part_acl {p : HP} {u : Who} {iv : Value} {r : Rq} (h : WiA p u iv r) (τ : Tr) : (partP τ u r).1.acl.length ≤ 1048576 := by
 have h1 := h.rq.many
 unfold partP
 split
 ·exact h1
 split
 ·exact Nat.zero_le _
 split
 ·unfold nodeX; split
  ·exact Nat.zero_le _
  split
  ·exact h1
  ·exact Nat.zero_le _
 ·exact Nat.zero_le _
theorem WiA.rqcells {p : HP} {u : Who} {iv : Value} {r : Rq} (h : WiA p u iv r) : ∀ v ∈ rqC r, isCell v = true := fun v hv => List.all_eq_true.1 (h.cells 0) v (List.mem_cons_of_mem _ (List.mem_cons_of_mem _ (List.mem_cons_of_mem _ hv)))
theorem aclR_tx {y : Pt} (h1 : y.acl.length ≤ 1048576) (h2 : y.path.length ≤ 1048576) (h3 : y.subsV = nilV) (h4 : isCell y.aclV = true) : TxA (aclR y) y [] :=
 ⟨⟨fun _ hp => slR_rd hp, h1, h2, by rw [h3]; rfl, h4⟩, fun _ _ => by rw [h3]; exact .inl ⟨rfl, rfl, none, 0, rfl⟩, Nat.zero_le _, fun _ hy => by cases hy⟩
theorem pmulti_spec (t : Nat) (τ : Tr) (u : Who) (iv : Value) (r : Rq) (p : HP) (hA : WiA p u iv r) (N : Nat) (ho : τ.Ok N) (hN : N ≤ 1099511627776) (hw : TrW τ) (hN2 : N + 16 ≤ 1099511627776) (subs : List Rq) (hr : ∀ h : Hp, p h → rdS 10 h r.subsV subs.length (subs.flatMap rqC)) (hS : ∀ x ∈ subs, WiA p u iv x) (hSa : ∀ x ∈ subs, AclW x.acl) : Fn Tryz.prog 49 #[.agg (wiC t u iv r).toArray] [treeR t τ, p] fun v L =>
    ∃ (w : Value) (ys : List Pt), v = .agg (ptC ((multiP τ u subs).1.ws w)).toArray ∧ ys.map Pt.pl = (multiP τ u subs).2 ∧ (∃ a c, w = .slice a ys.length c) ∧ (∀ y ∈ ys, isCell y.aclV = true ∧ y.subsV = nilV) ∧ L = [treeR t τ, p, slR 60 8 w ys.length (ys.flatMap ptC), bigR aclR ys] := by
 refine Fn.intro Tryz.func49 rfl rfl fun F W => ?_
 refine .rdAny (p := p) hr (by repeat' constructor) fun aa ca hsv _ => ?_
 have hr2 : ∀ h : Hp, p h → rdS 10 h (.slice aa subs.length ca) subs.length (subs.flatMap rqC) := fun h hp => hsv ▸ hr h hp
 refine .sr (.oq (.box rfl) ?_)
 rintro v L' ⟨b1, rfl, rfl⟩
 refine .oq (.allocA ze_60) ?_
 rintro v L' ⟨bx, rfl, rfl⟩
 refine .nil (.pc b1 (wiC t u iv r) ?_)
 refine .then_n (.seq (.sr (.u (.fieldAddr rfl fo_134_3) (.u (.fieldAddr rfl fo_33_8) (.q (.to (v' := .slice aa subs.length ca) (.load rfl ag_23 (by repeat' constructor) rfl) (by exact hsv)) rfl (.q (.slen rfl Tryz.underlying23 rfl) rfl (.ui rfl rfl rfl (.m rfl (.dec (t := 14) rfl (fun h1_14 => ?_) (fun h1_14 => ?_))))))))))
 ·refine .kDT (t := 13) rfl h1_14 (.gk (.gk (.gk (.gk (.gk (.u (.pickT rfl rfl) (.nt (.condT rfl (.sr (.cv Tryz.func48 [_, _] (prefusal_spec 1 (-1)) ?_))))))))))
  refine .sa rfl rfl sz_60 (by simp [ptC, refusal, isCell]) ?_
  refine .nil (.pc bx ([vint 8, vstr [], vstr [], nilV, vint 0, vint (-1), vint 1, nilV]) ?_)
  refine .add (slR_nil 60 8) (.add (p := bigR aclR []) (fun h => big_nil h) ?_)
  have hm : multiP τ u subs = (refusal 1 (-1), []) := by unfold multiP; rw [if_pos (by omega)]
  refine .then_n (.rt ?_)
  exact .d1 rfl (.cellA rfl ag_60 (by repeat' constructor) (by simp [spl, setAll]) rfl) ⟨nilV, [], by rw [hm]; rfl, by rw [hm]; rfl, ⟨none, 0, rfl⟩, (fun _ h => by cases h), rfl⟩
 refine .kDF (t := 13) rfl h1_14 (.grun (t := 14) rfl rfl rfl (.u (.fieldAddr rfl fo_134_3) (.grun (t := 14) rfl rfl rfl (.u (.fieldAddr rfl fo_33_8) (.grun (t := 14) rfl rfl rfl (.q (.to (v' := .slice aa subs.length ca) (.load rfl ag_23 (by repeat' constructor) rfl) (by exact hsv)) rfl (.grun (t := 14) rfl rfl rfl (.q (.slen rfl Tryz.underlying23 rfl) rfl (.grun (t := 14) rfl rfl rfl (.ui rfl rfl rfl (.u (.pickF rfl rfl) (.nt (.condD rfl (fun h20 => ?_) (fun h20 => ?_))))))))))))))
 ·refine .sr (.cv Tryz.func48 [_, _] (prefusal_spec 1 (-1)) ?_)
  refine .sa rfl rfl sz_60 (by simp [ptC, refusal, isCell]) ?_
  refine .nil (.pc bx ([vint 8, vstr [], vstr [], nilV, vint 0, vint (-1), vint 1, nilV]) ?_)
  refine .add (slR_nil 60 8) (.add (p := bigR aclR []) (fun h => big_nil h) ?_)
  have hm : multiP τ u subs = (refusal 1 (-1), []) := by unfold multiP; rw [if_pos (by omega)]
  refine .then_n (.rt ?_)
  exact .d1 rfl (.cellA rfl ag_60 (by repeat' constructor) (by simp [spl, setAll]) rfl) ⟨nilV, [], by rw [hm]; rfl, by rw [hm]; rfl, ⟨none, 0, rfl⟩, (fun _ h => by cases h), rfl⟩
 refine .sk (.sr (.u (.fieldAddr rfl fo_134_0) (.u (.ld rfl ag_76) (.oq (.c Tryz.func78 [_] (trclone_spec t τ N ho hN)) ?_))))
 rintro v L' ⟨c, rfl, rfl⟩
 refine .an rfl (.sr (.q (.build (us := [(0, _)]) fl_60 ze_60 rfl rfl (by simp [isCell])) rfl (.oq (.allocA ze_60) ?_)))
 rintro v L' ⟨b4, rfl, rfl⟩
 refine .sa rfl rfl sz_60 (by (first | (simp [isCell]; done) | (simp [isCell, setAll, Value.cells]; done))) ?_
 refine .nil (.pc b4 ([vint 7, vstr [], vstr [], nilV, vint 0, vint 0, vint 0, nilV]) ?_)
 refine .add (slR_nil 60 8) (.add (p := bigR aclR []) (fun h => big_nil h) ?_)
 have hlen8 : ¬ (subs.length = 0 ∨ subs.length > 8) := by omega
 refine .then_n (.seq (.sr (.u (.fieldAddr rfl fo_134_3) (.u (.fieldAddr rfl fo_33_8) (.q (.to (v' := .slice aa subs.length ca) (.load rfl ag_23 (by repeat' constructor) rfl) (by exact hsv)) rfl (.q (.slen rfl Tryz.underlying23 rfl) rfl (.m rfl (.nt (.block (.loopK (ι := Nat × Tr × Value × (List Pt)) (fun q E => (30, vint q.1) :: E) (fun q => [treeR c q.2.1, ptc b4 [vint 7, vstr [], vstr [], nilV, vint 0, vint 0, vint 0, q.2.2.1] 60, slR 60 8 q.2.2.1 q.1 (q.2.2.2.flatMap ptC), bigR aclR q.2.2.2]) (fun q => q.1 ≤ subs.length ∧ (∃ a c, q.2.2.1 = .slice a q.1 c) ∧ MultiAt u subs τ q.1 q.2.1 (q.2.2.2.map Pt.pl) ∧ (∀ y ∈ q.2.2.2, isCell y.aclV = true ∧ y.subsV = nilV) ∧ q.2.1.Ok (N + q.1) ∧ TrW q.2.1) (fun q => subs.length - q.1) (0, τ, nilV, []) (ts := [1, 2, 3, 4, 28, 29]) (.cons rfl (.cons rfl (.cons rfl (.cons rfl (.cons rfl (.cons rfl (.nil))))))) (⟨Nat.zero_le _, ⟨none, 0, rfl⟩, MultiAt.zero u subs τ, (fun y hy => by cases hy), ho, hw⟩) ⟨rfl, rfl, rfl, rfl, rfl, rfl, rfl, trivial⟩ (by repeat' constructor) ?_))))))))))
 rintro ⟨i, σ, z, ys⟩ ⟨hi, ⟨au, cu, hu⟩, hat, hyc, hok, hwσ⟩
 dsimp only
 dsimp only at hi hu hat hyc hok hwσ
 subst hu
 refine .sr (.ui rfl rfl rfl (.nt (.seq (.condD rfl (fun h31 => ?_) (fun h31 => ?_)))))
 ·have hi2 : i < subs.length := by omega
  refine .rdShape (p := p) hr2 (by repeat' constructor) (by omega) fun ba oa e => ?_
  subst e
  refine .sk (.seq (.block (.sm rfl (.q (.indexAddr rfl rfl el_23 (by omega)) rfl (.q (.loadRdA (sz := 10) (j := i * 10) (k := 10) (p := p) (vs := rqC subs[i]) rfl ag_33 (by repeat' constructor) hr2 (by simp) (by omega) (by omega) (flatMap_at (f := rqC) (sz := 10) (fun _ _ => rfl) (by omega))) rfl (.oq (.allocA ze_33) ?_))))))
  rintro v L' ⟨b6, rfl, rfl⟩
  refine .a rfl (.sa rfl rfl sz_33 (by exact (hS _ (List.getElem_mem hi2)).rqcells) ?_)
  refine .nil (.pc b6 (rqC subs[i]) ?_)
  refine .then_n (.sm rfl (.u (.fieldAddr rfl fo_134_1) (.u (.ld rfl ag_3) (.u (.fieldAddr rfl fo_134_2) (.u (.ld rfl ag_38) (.q (.la (rqC subs[i]) rfl ag_33) rfl (.q (.to (v' := .agg (wiC c u iv subs[i]).toArray) (.buildN (pl := [(0, 1), (1, 1), (2, 1), (3, 10)]) (us := [(0, vptr c), (1, vint u.ses), (2, iv), (3, .agg (rqC subs[i]).toArray)]) (cells := wiC c u iv subs[i]) Tryz.underlying134 (by kernel_rfl) ze_134 rfl (fill_wish c u iv hA.shape subs[i])) rfl) rfl (.oq (.call Tryz.func51 rfl rfl (vs := [_]) rfl (ppart_spec c σ u iv subs[i] p (hS _ (List.getElem_mem hi2)) (N + i) hok (by omega) (cver_i64 hwσ _))) ?_))))))))
  rintro v L' ⟨w, rfl, ⟨aw, cw, rfl⟩, rfl⟩; obtain ⟨y, hy⟩ : ∃ y : Pt, y = (withA (partP σ u subs[i]).1 (.slice aw (partP σ u subs[i]).1.acl.length cw)) := ⟨_, rfl⟩; rw [← hy]
  refine .as (q := aclR y) (p := slR 75 2 (.slice aw (partP σ u subs[i]).1.acl.length cw) (partP σ u subs[i]).1.acl.length ((partP σ u subs[i]).1.acl.flatMap acC)) (by repeat' constructor) (by rw [hy]; rfl) ?_
  have hyk : isCell y.aclV = true ∧ y.subsV = nilV := by (rw [hy]; exact ⟨rfl, part_sub _ _ _⟩)
  have hpl : y.pl = (partP σ u subs[i]).1 := by (rw [hy]; exact part_pl _ _ _ _)
  have hap : applyZ σ σ.zx y [] = applyZ σ σ.zx (partP σ u subs[i]).1 [] := by (rw [← hpl]; rfl)
  have hac : y.acl.length ≤ 1048576 := by (rw [hy]; exact part_acl (hS _ (List.getElem_mem hi2)) σ)
  have hwa : TrW (applyZ σ σ.zx (partP σ u subs[i]).1 []).1 := hwσ.app (e := ⟨σ.zx, 0, 0, (partP σ u subs[i]).1, []⟩) ⟨hwσ.zx, part_n σ u hA.ses (by have := (hS _ (List.getElem_mem hi2)).rq.data; omega) (hSa _ (List.getElem_mem hi2)), fun _ h => by cases h⟩
  refine .m rfl (.u (.extract rfl rfl) (.u (.extract rfl rfl) (.oq (.allocA ze_60) ?_)))
  rintro v L' ⟨b7, rfl, rfl⟩
  refine .sa rfl rfl sz_60 (by exact pt_cells hyk.1 (by rw [hyk.2]; rfl)) ?_
  refine .a rfl (.nil (.pc b7 (ptC y) ?_))
  refine .then_n (.seq (.sm rfl (.ui rfl rfl rfl (.nt (.condN rfl (fun h47 => ?_) (fun h47 => ?_))))))
  ·refine .sm rfl (.m rfl (.cv Tryz.func48 [_, _] (prefusal_spec _ _) ?_))
   refine .sa rfl rfl sz_60 (by simp [ptC, refusal, isCell]) ?_
   refine .nil (.pc bx ([vint 8, vstr [], vstr [], nilV, vint 0, vint i, vint (partP σ u subs[i]).2, nilV]) ?_)
   refine .add (slR_nil 60 8) (.add (p := bigR aclR []) (fun h => big_nil h) ?_)
   have hm := hat.stop hi2 h47 hlen8
   refine .then_n (.rt (.blk_r (.then_r (.then_r (.blk_r (.then_r ?_))))))
   exact .d1 rfl (.cellA rfl ag_60 (by repeat' constructor) (by simp [spl, setAll]) rfl) ⟨nilV, [], by rw [hm]; rfl, by rw [hm]; rfl, ⟨none, 0, rfl⟩, (fun _ h => by cases h), rfl⟩
  have hpa : y.path.length ≤ 1048576 := by (rw [hy]; exact part_path0 (hS _ (List.getElem_mem hi2)) σ (by omega))
  refine .sk (.seq (.draw [2, 5] [[0, 1, 3, 2, 4], [5]] mixed (by kernel_rfl) (.go [ptc b7 _ _] (by repeat' constructor) (.k rfl (.move rfl) (.mv rfl rfl (.k rfl (.la (ptC y) rfl ag_60) (.hh rfl (.c Tryz.func29 [_] (trzxid_spec c σ)) ?_)))))))
  rintro v L' ⟨rfl, rfl⟩
  refine D.kv rfl (.buildN (pl := [(0, 1), (1, 1), (2, 1), (3, 8)]) (us := [(0, vint σ.zx), (3, .agg (ptC y).toArray)]) (cells := [vint σ.zx, vint 0, vint 0] ++ ptC y) Tryz.underlying62 (by kernel_rfl) ze_62 rfl (fill_entry _ _ _ _ _ _ _ _ _)) (.ph (.g0 (.hh rfl (.call Tryz.func42 rfl rfl (vs := [_, _]) rfl (trapply_spec c σ σ.zx 0 0 y [] (aclR y) (aclR_tx hac hpa hyk.2 hyk.1) (N + i) hok (by show N + i + 0 ≤ _; omega))) ?_)))
  rintro v L' ⟨ue, ee, rfl, -, ⟨ae, ce, rfl⟩, rfl⟩; rw [hap]
  refine D.pf (.region (.u (.fieldAddr rfl fo_60_7) (.u (.ld rfl ag_58) (.q (.la (ptC y) rfl ag_60) rfl (.oq (.buildSlice (vs := [_]) el_58 ze_60 rfl rfl rfl rfl (by first | (simp [Value.cells]; done) | (intro v hv; simp only [List.mem_cons, List.not_mem_nil, or_false] at hv; (repeat (first | (subst hv; rfl) | (rcases hv with hv | hv; (subst hv; rfl)))))) (by decide)) ?_)))))
  rintro v L' ⟨b12, rfl, rfl⟩
  refine .oq (.append1 rfl rfl rfl el_58 ze_60 rfl rfl ?c97 ?c98 (Nat.le_refl _) ?c99 (by decide)) ?_
  case c97 => simp only [List.map_cons, List.map_nil, List.flatten_cons, List.flatten_nil, List.append_nil]; simp only [Value.cells]; intro z hz; exact pt_cells (y := y) hyk.1 (by rw [hyk.2]; rfl) z (by simpa using hz)
  case c98 => rfl
  case c99 => omega
  rintro v L' ⟨⟨a12, c12, rfl⟩, rfl⟩
  refine .u (.fieldAddr rfl fo_60_7) (.st rfl rfl rfl sz_58 ?_)
  refine .nil (.pc b4 ([vint 7, vstr [], vstr [], nilV, vint 0, vint 0, vint 0, .slice a12 (i + 1) c12]) ?_)
  refine .blk_n (.then_n (.region (.q (.add rfl rfl (by omega)) rfl (.m rfl (.nt (.bigAdd (f := aclR) (l := ys) (p := aclR y) y rfl (by repeat' constructor) (.slCast (T := 60) (sz := 8) (m' := i + 1) (xs' := (ys ++ [y]).flatMap ptC) (by repeat' constructor) (by exact rfl) (by rw [List.flatMap_append]; simp [Value.cells]) ?_)))))))
  exact .rk ((i + 1, _, .slice a12 (i + 1) c12, ys ++ [y])) (⟨by dsimp only; omega, ⟨_, _, rfl⟩, by have h5 := hat.step hi2 (by omega); show MultiAt u subs τ (i + 1) (applyZ σ σ.zx (partP σ u subs[i]).1 []).1 ((ys ++ [y]).map Pt.pl); rw [List.map_append, show List.map Pt.pl [y] = [(partP σ u subs[i]).1] from by rw [List.map_cons, hpl]; rfl]; exact h5, fun z hz => by rcases List.mem_append.1 hz with hz | hz; exact hyc z hz; rw [List.mem_singleton] at hz; subst hz; exact hyk, by have := hok.apply σ.zx (partP σ u subs[i]).1 [] (part_acl (hS _ (List.getElem_mem hi2)) σ) (fun _ h => by cases h); exact this, hwa⟩) (by dsimp only; omega) ⟨rfl, rfl, rfl, rfl, rfl, rfl, rfl, trivial⟩
 have hie : i = subs.length := by omega
 have hat2 : MultiAt u subs τ subs.length σ (ys.map Pt.pl) := by rw [← hie]; exact hat
 have hm := hat2.done hlen8
 have hyl : ys.length = i := by have h := hat.2.2; rw [List.length_map] at h; exact h
 refine .slCast (T := 60) (sz := 8) (m' := ys.length) (xs' := ys.flatMap ptC) (by repeat' constructor) (by rw [hyl]) rfl (.exit (.then_e (.then_e (.blk_e (.then_n (.sr (.q (.la ([vint 7, vstr [], vstr [], nilV, vint 0, vint 0, vint 0, .slice au i cu]) rfl ag_60) rfl (.sa rfl rfl sz_60 (by (first | (simp [isCell]; done) | (simp [isCell, setAll, Value.cells]; done))) ?_))))))))
 refine .nil (.pc bx ([vint 7, vstr [], vstr [], nilV, vint 0, vint 0, vint 0, .slice au i cu]) ?_)
 refine .then_n (.ret ?_)
 exact .d1 rfl (.cellA rfl ag_60 (by repeat' constructor) (by simp [spl, setAll]) rfl) ⟨.slice au i cu, ys, by rw [hm]; rfl, by rw [hm], ⟨au, cu, by rw [hyl]⟩, hyc, rfl⟩
theorem multi_pl (τ : Tr) (u : Who) (l : List Rq) (w : Value) : ((multiP τ u l).1.ws w).pl = (multiP τ u l).1 := by
 unfold multiP
 split
 ·rfl
 ·split <;> rfl
theorem multi_acl (τ : Tr) (u : Who) (l : List Rq) : (multiP τ u l).1.aclV = nilV ∧ (multiP τ u l).1.acl = [] := by
 unfold multiP
 split
 ·exact ⟨rfl, rfl⟩
 ·split <;> exact ⟨rfl, rfl⟩
theorem ptC_ws {x : Pt} {a : Option Addr} {n c : Nat} (h : isCell x.aclV = true) : ∀ v ∈ ptC (x.ws (.slice a n c)), isCell v = true := pt_cells (y := x.ws (.slice a n c)) h rfl
def tellsK (k : Int) : Prop := k = 1 ∨ k = 3 ∨ k = 4
instance (k : Int) : Decidable (tellsK k) := inferInstanceAs (Decidable (_ ∨ _))
structure Rp where
 xid : Int
 zx : Int
 err : Int
 path : Bs
 data : Bs
 st : Stt
 aclV : Value
 kidsV : Value
 subsV : Value
def rpC (x : Rp) : List Value := [vint x.xid, vint x.zx, vint x.err, vstr x.path, vstr x.data] ++ stC x.st ++ [x.aclV, x.kidsV, x.subsV]
def rp0 : Rp := ⟨0, 0, 0, [], [], st0, nilV, nilV, nilV⟩
def toldZ12 (τ : Tr) (x : Pt) : Rp := ⟨0, 0, 0, if x.kind = 1 then x.path else [], [], if tellsK x.kind then statD τ x.path else st0, nilV, nilV, nilV⟩
@[simp] theorem rpC_len (x : Rp) : (rpC x).length = 17 := rfl
def Rp.ws (x : Rp) (w : Value) : Rp := ⟨x.xid, x.zx, x.err, x.path, x.data, x.st, x.aclV, x.kidsV, w⟩
def errR (e : Int) : Rp := ⟨0, 0, e, [], [], st0, nilV, nilV, nilV⟩
def headR (τ : Tr) (e : En) : Rp := ⟨e.xid, e.zx, if e.x.kind = 8 then e.x.err else 0, (toldZ12 τ e.x).path, [], (toldZ12 τ e.x).st, nilV, nilV, nilV⟩
def withinR (τ : Tr) (e : En) : List Rp :=
 if e.x.kind = 7 then e.subs.map (toldZ12 τ) else if e.x.kind = 8 ∧ 0 ≤ e.x.num ∧ e.x.num < 8 then List.replicate e.x.num.toNat (errR 111) ++ [errR e.x.err] else []
theorem ptold_spec (t : Nat) (τ : Tr) (x : Pt) (N : Nat) (ho : τ.Ok N) (hN : N ≤ 1099511627776) (hx1 : isCell x.aclV = true) (hx2 : isCell x.subsV = true) : Fn Tryz.prog 46 #[vptr t, .agg (ptC x).toArray] [treeR t τ] fun v L => v = .agg (rpC (toldZ12 τ x)).toArray ∧ L = [treeR t τ] := by
 refine Fn.intro Tryz.func46 rfl rfl fun F W => ?_
 refine .sr (.oq (.box rfl) ?_)
 rintro v L' ⟨b3, rfl, rfl⟩
 refine .oq (.allocA ze_41) ?_
 rintro v L' ⟨b4, rfl, rfl⟩
 refine .nil (.pc b3 (ptC x) ?_)
 refine .then_n (.sr (.oq (.allocA ze_41) ?_))
 rintro v L' ⟨b5, rfl, rfl⟩
 refine .nil (.pc b5 (rpC rp0) ?_)
 refine .then_n (.seq (.sr (.u (.fieldAddr rfl fo_60_0) (.u (.ld rfl ag_3) (.nt (.block (.sr (.ui rfl rfl rfl (.an rfl (.condD rfl (fun h8 => ?_) (fun h8 => ?_)))))))))))
 ·refine .sr (.u (.fieldAddr rfl fo_60_1) (.u (.ld rfl ag_9) (.u (.fieldAddr rfl fo_41_3) (.oq (.store rfl rfl rfl sz_9 ?c13 (nfz0 _ _)) ?_))))
  case c13 => simp [rpC, stC]
  rintro v L' rfl
  refine .nil (.pc b5 (rpC ⟨0, 0, 0, x.path, [], st0, nilV, nilV, nilV⟩) ?_)
  refine .then_n (.region (.m rfl (.u (.fieldAddr rfl fo_60_1) (.u (.ld rfl ag_9) (.cv Tryz.func76 [_, _] (trstat_spec t τ x.path N ho hN) ?_)))))
  refine .m rfl (.u (.extract rfl rfl) (.u (.extract rfl rfl) (.u (.fieldAddr rfl fo_41_5) (.sa rfl rfl sz_37 (by simp [stC, isCell]) ?_))))
  refine .nil (.pc b5 (rpC ⟨0, 0, 0, x.path, [], (statD τ x.path), nilV, nilV, nilV⟩) ?_)
  refine .blk_n (.then_n (.sr ?_))
  have e1 : (if x.kind = 1 then x.path else []) = x.path := by first | exact if_pos (by assumption) | exact if_neg (by assumption)
  have e2 : (if tellsK x.kind then statD τ x.path else st0) = (statD τ x.path) := by first | exact if_pos (by unfold tellsK; omega) | exact if_neg (by unfold tellsK; omega)
  refine .ptCast (b := b5) (l' := rpC (toldZ12 τ x)) (by repeat' constructor) (by unfold toldZ12; rw [e1, e2]; try rfl) ?_
  refine .q (.la (rpC (toldZ12 τ x)) rfl ag_41) rfl (.sa rfl rfl sz_41 (by simp [rpC, stC, toldZ12, isCell]) ?_)
  refine .nil (.pc b4 (rpC (toldZ12 τ x)) ?_)
  refine .then_n (.ret ?_)
  exact .d1 rfl (.cellA rfl ag_41 (by repeat' constructor) (by simp [spl, setAll]) rfl) ⟨rfl, rfl⟩
 refine .seq (.sr (.ui rfl rfl rfl (.an rfl (.dec (t := 21) rfl (fun h21 => ?_) (fun h21 => ?_)))))
 ·refine .condT rfl (.sk (.condT rfl (.region (.m rfl (.u (.fieldAddr rfl fo_60_1) (.u (.ld rfl ag_9) (.cv Tryz.func76 [_, _] (trstat_spec t τ x.path N ho hN) ?_)))))))
  refine .m rfl (.u (.extract rfl rfl) (.u (.extract rfl rfl) (.u (.fieldAddr rfl fo_41_5) (.sa rfl rfl sz_37 (by simp [stC, isCell]) ?_))))
  refine .nil (.pc b5 (rpC ⟨0, 0, 0, [], [], (statD τ x.path), nilV, nilV, nilV⟩) ?_)
  refine .blk_n (.then_n (.sr ?_))
  have e1 : (if x.kind = 1 then x.path else []) = [] := by first | exact if_pos (by assumption) | exact if_neg (by assumption)
  have e2 : (if tellsK x.kind then statD τ x.path else st0) = (statD τ x.path) := by first | exact if_pos (by unfold tellsK; omega) | exact if_neg (by unfold tellsK; omega)
  refine .ptCast (b := b5) (l' := rpC (toldZ12 τ x)) (by repeat' constructor) (by unfold toldZ12; rw [e1, e2]; try rfl) ?_
  refine .q (.la (rpC (toldZ12 τ x)) rfl ag_41) rfl (.sa rfl rfl sz_41 (by simp [rpC, stC, toldZ12, isCell]) ?_)
  refine .nil (.pc b4 (rpC (toldZ12 τ x)) ?_)
  refine .then_n (.ret ?_)
  exact .d1 rfl (.cellA rfl ag_41 (by repeat' constructor) (by simp [spl, setAll]) rfl) ⟨rfl, rfl⟩
 refine .condF rfl (.region (.ui rfl rfl rfl (.an rfl (.dec (t := 21) rfl (fun h21 => ?_) (fun h21 => ?_)))))
 ·refine .condT rfl (.region (.m rfl (.u (.fieldAddr rfl fo_60_1) (.u (.ld rfl ag_9) (.cv Tryz.func76 [_, _] (trstat_spec t τ x.path N ho hN) ?_)))))
  refine .m rfl (.u (.extract rfl rfl) (.u (.extract rfl rfl) (.u (.fieldAddr rfl fo_41_5) (.sa rfl rfl sz_37 (by simp [stC, isCell]) ?_))))
  refine .nil (.pc b5 (rpC ⟨0, 0, 0, [], [], (statD τ x.path), nilV, nilV, nilV⟩) ?_)
  refine .blk_n (.then_n (.sr ?_))
  have e1 : (if x.kind = 1 then x.path else []) = [] := by first | exact if_pos (by assumption) | exact if_neg (by assumption)
  have e2 : (if tellsK x.kind then statD τ x.path else st0) = (statD τ x.path) := by first | exact if_pos (by unfold tellsK; omega) | exact if_neg (by unfold tellsK; omega)
  refine .ptCast (b := b5) (l' := rpC (toldZ12 τ x)) (by repeat' constructor) (by unfold toldZ12; rw [e1, e2]; try rfl) ?_
  refine .q (.la (rpC (toldZ12 τ x)) rfl ag_41) rfl (.sa rfl rfl sz_41 (by simp [rpC, stC, toldZ12, isCell]) ?_)
  refine .nil (.pc b4 (rpC (toldZ12 τ x)) ?_)
  refine .then_n (.ret ?_)
  exact .d1 rfl (.cellA rfl ag_41 (by repeat' constructor) (by simp [spl, setAll]) rfl) ⟨rfl, rfl⟩
 refine .condF rfl (.skip (.blk_n (.then_n (.sr ?_))))
 have e1 : (if x.kind = 1 then x.path else []) = [] := by first | exact if_pos (by assumption) | exact if_neg (by assumption)
 have e2 : (if tellsK x.kind then statD τ x.path else st0) = st0 := by first | exact if_pos (by unfold tellsK; omega) | exact if_neg (by unfold tellsK; omega)
 refine .ptCast (b := b5) (l' := rpC (toldZ12 τ x)) (by repeat' constructor) (by unfold toldZ12; rw [e1, e2]; try rfl) ?_
 refine .q (.la (rpC (toldZ12 τ x)) rfl ag_41) rfl (.sa rfl rfl sz_41 (by simp [rpC, stC, toldZ12, isCell]) ?_)
 refine .nil (.pc b4 (rpC (toldZ12 τ x)) ?_)
 refine .then_n (.ret ?_)
 exact .d1 rfl (.cellA rfl ag_41 (by repeat' constructor) (by simp [spl, setAll]) rfl) ⟨rfl, rfl⟩
end Go.Proofs.YtmbnebafdhpgpaaGreatDoor
/-
 DERIVED: THE SHELF's CONTRACTS AT THIS DUMP, IN PLAIN WORDS (tools/lay-plain.mjs out of 'YtmbnebafdhpgpaaGreatDoorLayB.lean', which tools/lay-shelf.mjs wrote): THE SAME DECLARATIONS UNDER THE SAME NAMES: 'import', 'namespace', 'open', 'def', 'theorem' AND NOTHING ELSE: no command of the shelf's: FOR A HAND-IN. Each laying: the table of numbers ('.._ren') and one theorem, a field a fact of the dump's own or the kernel's comparison; each contract: ONE APPLICATION.
-/
namespace Go.Proofs
open Go.Shelf
def Tryz.bmulA_ren : Go.Shelf.Ren := ⟨fun | 212 => 77 | 263 => 136 | 264 => 137 | n => n, fun | 46 => 160 | 51 => 219 | 146 => 220 | 53 => 180 | 148 => 222 | n => n, fun | n => n⟩
theorem Tryz.bmulA : Go.Proofs.Lays.n212 Tryz.prog Tryz.bmulA_ren := {
 mixed := by kernel_rfl
 f212 := Tryz.func77.trans (congrArg some (by kernel_rfl))
 f263 := Tryz.func136.trans (congrArg some (by kernel_rfl))
 f264 := Tryz.func137.trans (congrArg some (by kernel_rfl))
 t46 := Tryz.underlying160
 a46 := Tryz.isAgg160
 z46 := Tryz.sizeOf160
 v46 := Tryz.zeroValue160
 t51 := Tryz.underlying219
 a51 := Tryz.isAgg219
 z51 := Tryz.sizeOf219
 v51 := Tryz.zeroValue219
 t53 := Tryz.underlying180
 a53 := Tryz.isAgg180
 z53 := Tryz.sizeOf180
 v53 := Tryz.zeroValue180
 t146 := Tryz.underlying220
 a146 := Tryz.isAgg220
 z146 := Tryz.sizeOf220
 v146 := Tryz.zeroValue220
 t148 := Tryz.underlying222
 a148 := Tryz.isAgg222
 z148 := Tryz.sizeOf222
 v148 := Tryz.zeroValue222 }
end Go.Proofs
namespace Go.Proofs.YtmbnebafdhpgpaaGreatDoor
open Go Go.RowKit Go.Sort Go.Shelf
theorem OpSpec.copyMe {P : Program} {E : Env} {ty : TypeId} {dT sT e : TypeId} {x y : Operand} {b off dLen dCap so m mc sz by' : Nat} {l : List Value} {T : TypeId} {fr : Nat × Nat} {ts : Array TypeId} (hts : ts = #[dT, sT]) (hx : ev E x = some (.slice (some ⟨b, off, none⟩) dLen dCap)) (hy : ev E y = some (.slice (some ⟨b, so, none⟩) m mc)) (ht : elemOf' P dT = some (e, sz, by'))
  (hcell : ∀ y ∈ l, isCell y = true) (hso : so + m * sz ≤ l.length) (hmc : m ≤ mc) (hoff : off + dLen * sz ≤ l.length) (hf : nfz fr off (dLen * sz)) :
  OpSpec P ⟨none, .call { callee := .builtin .copy, args := #[x, y], argTypes := ts }, ty, "", #[], none⟩ E [pt b (.cells l.toArray T fr)] fun v' L' => v' = vint (min m dLen : Nat) ∧ L' = [pt b (.cells (spl l off (((l.drop so).take (m * sz)).take (min m dLen * sz))).toArray T fr)] := by
 intro ρ w F ha hs
 subst hts
 have hbw : w.heap[b]? = some (.cells l.toArray T fr) := St.pt (L := F) hs
 have hru : srcS sz (fun b => w.heap[b]?) (.slice (some ⟨b, so, none⟩) m mc) m ((l.drop so).take (m * sz)) := .inl (.inr ⟨b, so, mc, l, T, fr, rfl, hbw, rfl, hso, hmc⟩)
 unfold elemOf' at ht
 split at ht <;> (try cases ht)
 rename_i e' hu
 split at ht <;> (try cases ht)
 rename_i inf hin
 have hlen : (Builtin.lenOf (.slice (some ⟨b, so, none⟩) m mc)).run P w = .ok m w := src_lenOf hru
 have hyl := srcS_len hru
 have hfc : (Builtin.firstCells inf.size (min m dLen) (.slice (some ⟨b, so, none⟩) m mc)).run P w = .ok (((l.drop so).take (m * inf.size)).take (min m dLen * inf.size)).toArray w := src_cells hru (Nat.min_le_left _ _)
 have hle2 : min m dLen * inf.size ≤ dLen * inf.size := Nat.mul_le_mul_right _ (Nat.min_le_right _ _)
 have hcl : (((l.drop so).take (m * inf.size)).take (min m dLen * inf.size)).length ≤ dLen * inf.size := by simp; omega
 have hrun : (execOp ρ ⟨none, .call { callee := .builtin .copy, args := #[x, y], argTypes := #[dT, sT] }, ty, "", #[], none⟩).run P w = .ok (.value (vint (min m dLen : Nat))) (upd w b (.cells (spl l off (((l.drop so).take (m * inf.size)).take (min m dLen * inf.size))).toArray T fr)) := by
  rw [exec_builtin]
  refine run_v ?_
  simp only [List.map_toArray, List.map_cons, List.map_nil]
  rw [ha x _ hx, ha y _ hy]
  unfold Builtin.copy_
  simp only [List.getElem?_toArray, List.getElem?_cons_zero, List.getElem?_cons_succ]
  rw [run_bind (run_underlying hu)]
  dsimp only
  rw [run_bind hlen, run_bind (run_sizeOf (k := inf.size) (by simp [sizeOf', hin]))]
  rw [show Nat.min m dLen = min m dLen from rfl, run_bind hfc]
  have hst := run_storeCells (P := P) (((l.drop so).take (m * inf.size)).take (min m dLen * inf.size)) w l off 0 hbw (by omega) (fun y hy => hcell y (List.mem_of_mem_drop (List.mem_of_mem_take (List.mem_of_mem_take hy)))) (fun i h1 h2 => hf i (by omega) (by omega))
  dsimp only
  rw [run_bind hst]; rfl
 unfold Runs; rw [hrun]
 exact ⟨_, ⟨rfl, rfl⟩, St.upd (L := F) hs, Keeps.upd _ _ _⟩
theorem bmul_spec (x y : Nat) (hx : x < 18446744073709551616) (hy : y < 18446744073709551616) : Fn Tryz.prog 77 #[.int .u64 x, .int .u64 y] [] fun v L => v = .tuple #[.int .u64 ((x * y / 18446744073709551616 : Nat) : Int), .int .u64 ((x * y % 18446744073709551616 : Nat) : Int)] ∧ L = [] := by
 intro F w hs
 refine (Any.bits_Mul Tryz.bmulA x y hx hy w).mono ?_
 rintro e w' ⟨rfl, rfl⟩
 exact ⟨_, _, ⟨rfl, rfl⟩, rfl, hs, Keeps.refl _⟩
open Go Go.RowKit Go.Sort Go.Shelf
def repL (c : List Value) (n : Nat) : List Value := (List.replicate n c).flatten
theorem repL_len {c : List Value} {m : Nat} (h : c.length = m) (n : Nat) : (repL c n).length = n * m := by
 unfold repL
 rw [List.length_flatten, List.map_replicate, List.sum_replicate_nat, h]
theorem repL_add (c : List Value) (a b : Nat) : repL c (a + b) = repL c a ++ repL c b := by
 unfold repL
 rw [← List.replicate_append_replicate, List.flatten_append]
theorem repL_take {c : List Value} {m : Nat} (h : c.length = m) {a n : Nat} (ha : a ≤ n) : (repL c n).take (a * m) = repL c a := by
 obtain ⟨b, rfl⟩ : ∃ b, n = a + b := ⟨n - a, by omega⟩
 rw [repL_add, ← repL_len h a, List.take_left']
 rfl
theorem repL_drop {c : List Value} {m : Nat} (h : c.length = m) {a n : Nat} (ha : a ≤ n) : (repL c n).drop (a * m) = repL c (n - a) := by
 obtain ⟨b, rfl⟩ : ∃ b, n = a + b := ⟨n - a, by omega⟩
 rw [repL_add, ← repL_len h a, List.drop_left', show a + b - a = b by omega]
 rfl
def repK (c z : List Value) (k n : Nat) : List Value := repL c n ++ repL z (k - n)
theorem repK_len {c z : List Value} {m : Nat} (hc : c.length = m) (hz : z.length = m) {k n : Nat} (h : n ≤ k) : (repK c z k n).length = k * m := by
 unfold repK
 rw [List.length_append, repL_len hc, repL_len hz, ← Nat.add_mul]; congr 1; omega
theorem repK_spl {c z : List Value} {m : Nat} (hc : c.length = m) (hz : z.length = m) {k n j : Nat} (h : n ≤ k) (hj : j ≤ k - n) : spl (repK c z k n) (n * m) (repL c j) = repK c z k (n + j) := by
 unfold spl repK
 have e1 : (repL c n ++ repL z (k - n)).take (n * m) = repL c n := by rw [← repL_len hc n, List.take_left']; rfl
 have e2 : (repL c n ++ repL z (k - n)).drop (n * m + (repL c j).length) = repL z (k - (n + j)) := by
  rw [← List.drop_drop, ← repL_len hc n, List.drop_left' rfl, repL_len hc j, repL_drop hz hj]; congr 1; omega
 rw [e1, e2, repL_add]
theorem repK_src {c z : List Value} {m : Nat} (hc : c.length = m) {k n j : Nat} (hj : j ≤ n) : (((repK c z k n).drop 0).take (n * m)).take (j * m) = repL c j := by
 unfold repK
 rw [List.drop_zero, ← repL_len hc n, List.take_left' rfl, repL_take hc hj]
theorem repL_one (c : List Value) : repL c 1 = c := by simp [repL]
theorem repL_cells {c : List Value} (h : ∀ v ∈ c, isCell v = true) (n : Nat) : ∀ v ∈ repL c n, isCell v = true := by
 intro v hv
 obtain ⟨l, hl, hv⟩ := List.mem_flatten.1 hv
 rw [List.eq_of_mem_replicate hl] at hv
 exact h v hv
theorem repL_get {c : List Value} {m : Nat} (h : c.length = m) (hm : 0 < m) : ∀ (n i : Nat), i < n * m → (repL c n)[i]? = c[i % m]?
 | 0, i, hi => by omega
 | n + 1, i, hi => by
  have e : repL c (n + 1) = c ++ repL c n := by rw [Nat.add_comm, repL_add, repL_one]
  rw [e]
  rcases Nat.lt_or_ge i m with g | g
  ·rw [List.getElem?_append_left (by omega), Nat.mod_eq_of_lt g]
  ·rw [List.getElem?_append_right (by omega), h, repL_get h hm n (i - m) (by rw [Nat.add_mul] at hi; omega), Nat.mod_eq_sub_mod g]
theorem run_madeZ {z : Value} {l : List Value} {sz n : Nat} (hz : z.cells = l.toArray) (hl : l.length = sz) (hs : 0 < sz) : (Array.range (n * sz)).map (fun i => z.cells[i % z.cells.size]!) = (repL l n).toArray := by
 apply Array.ext
 ·simp [repL_len hl]
 ·intro i h1 h2
  have hi : i < n * sz := by simpa using h1
  have hlt : i % l.length < l.length := Nat.mod_lt _ (by omega)
  simp only [Array.getElem_map, Array.getElem_range, hz, List.size_toArray, List.getElem_toArray]
  rw [List.getElem!_toArray, getElem!_pos l (i % l.length) hlt]
  have := repL_get hl hs n i hi
  rw [List.getElem?_eq_getElem (by simpa using h2), ← hl, List.getElem?_eq_getElem hlt] at this
  exact (Option.some.inj this).symm
theorem OpSpec.makeZ {P : Program} {E : Env} {ty : TypeId} {t e : TypeId} {x y : Operand} {i j : Int} {sz by' : Nat} {z : Value} {l : List Value} (hx : ev E x = some (vint i)) (hy : ev E y = some (vint j)) (ht : elemOf' P t = some (e, sz, by')) (hz : zeroOf P e = some z) (hzc : z.cells = l.toArray) (hl : 0 < sz ∧ l.length = sz)
  (hb : 0 ≤ i ∧ i ≤ j ∧ (by' : Int) * j ≤ 281474976710656 ∧ j ≤ 9223372036854775807) : OpSpec P ⟨none, .makeSlice t x y, ty, "", #[], none⟩ E [] fun v L' => ∃ b, v = .slice (some ⟨b, 0, none⟩) i.toNat j.toNat ∧ L' = [ptc b (repL l j.toNat) e] := by
 intro ρ w F ha hs
 unfold elemOf' at ht
 split at ht <;> (try cases ht)
 rename_i e' hu
 split at ht <;> (try cases ht)
 rename_i inf hin
 obtain ⟨h0, h1, h2, h3⟩ := hb
 have hwi : IntKind.i64.wrap i = i := i64w (by omega)
 have hwj : IntKind.i64.wrap j = j := i64w (by omega)
 have hrun : (execOp ρ ⟨none, .makeSlice t x y, ty, "", #[], none⟩).run P w = .ok (.value (.slice (some ⟨w.heap.size, 0, none⟩) i.toNat j.toNat)) { w with heap := w.heap.push (.cells (repL l j.toNat).toArray e) } := by
  refine run_v ?_
  show (Instr.makeSlice t (ρ x) (ρ y)).run P w = _
  rw [ha x _ hx, ha y _ hy]
  unfold Instr.makeSlice
  rw [run_bind (run_underlying hu)]
  dsimp only
  have hti : (typeInfo e).run P w = .ok inf w := by simp [typeInfo, program, Bind.bind, Sem.bind, Pure.pure, Sem.run, hin]
  rw [run_bind (a := i) (w' := w) rfl, run_bind (a := j) (w' := w) rfl, run_bind hti]
  simp only [hwi, hwj]
  have c1 : ((decide (j < 0) || decide ((inf.bytes : Int) * j > 2 ^ 48)) || decide (i < 0) || decide (i > j)) = false := by
   simp only [Bool.or_eq_false_iff, decide_eq_false_iff_not]
   refine ⟨⟨⟨by omega, ?_⟩, by omega⟩, by omega⟩
   have : (2 : Int) ^ 48 = 281474976710656 := by decide
   omega
  rw [c1]
  simp only [Bool.false_eq_true, if_false]
  rw [run_bind (run_askRoom (P := P) (w := w) _), run_bind (run_sizeOf (k := inf.size) (by simp [sizeOf', hin]))]
  by_cases hn : j.toNat * inf.size = 0
  ·rw [if_pos hn, run_bind run_pure]
   rw [hn]
   have hj0 : j.toNat = 0 := by
    rcases Nat.eq_zero_or_pos j.toNat with g | g
    ·exact g
    ·have := Nat.mul_pos g hl.1; omega
   have he : (Array.range 0).map (fun x => (#[] : Array Value)[x % (#[] : Array Value).size]!) = (repL l j.toNat).toArray := by rw [hj0]; simp [repL]
   rw [he, run_bind (run_newRow e _)]
   rfl
  ·rw [if_neg hn]
   rw [run_bind (run_zero hz), run_bind run_pure, run_madeZ hzc hl.2 hl.1, run_bind (run_newRow e _)]
   rfl
 unfold Runs; rw [hrun]
 exact ⟨_, ⟨_, rfl, rfl⟩, St.new (L := F) hs _, Keeps.new _ _⟩
theorem rp_zero : (rpC rp0).length = 17 := rfl
theorem rp_cells {x : Rp} (h1 : isCell x.aclV = true) (h2 : isCell x.kidsV = true) (h3 : isCell x.subsV = true) : ∀ v ∈ rpC x, isCell v = true := by
 intro v hv
 have h : (rpC x).all isCell = true := by simp only [rpC, stC, List.cons_append, List.nil_append, List.all_cons, List.all_nil, h1, h2, h3]; rfl
 exact List.all_eq_true.1 h v hv
theorem repK_cells {c z : List Value} (hc : ∀ v ∈ c, isCell v = true) (hz : ∀ v ∈ z, isCell v = true) (k n : Nat) : ∀ v ∈ repK c z k n, isCell v = true := by
 intro v hv
 rcases List.mem_append.1 hv with h | h
 ·exact repL_cells hc _ v h
 ·exact repL_cells hz _ v h
theorem prepeat_spec (x : Rp) (b0 k : Nat) (p : HP) (hr : ∀ h : Hp, p h → rdS 17 h (.slice (some ⟨b0, 0, none⟩) 1 1) 1 (rpC x)) (hx : ∀ v ∈ rpC x, isCell v = true) (hk : k ≤ 8) : Fn Tryz.prog 47 #[.slice (some ⟨b0, 0, none⟩) 1 1, vint (k : Nat)] [p] fun v L => (∃ b, v = .slice (some ⟨b, 0, none⟩) k k) ∧ L = [p, slR 41 17 v k (repL (rpC x) k)] := by
 refine Fn.intro Tryz.func47 rfl rfl fun F W => ?_
 have hz0 : ∀ v ∈ rpC rp0, isCell v = true := rp_cells rfl rfl rfl
 refine .sr (.an rfl (.seq (.sm rfl (.ui rfl rfl rfl (.nt (.condD rfl (fun h10 => ?_) (fun h10 => ?_)))))))
 ·exfalso; omega
 refine .sk (.sm rfl (.q (.slen rfl Tryz.underlying39 rfl) rfl (.q (.as (v' := .int .u64 ((1 : Nat) : Int)) (by rfl) (.conv rfl Tryz.underlying3 Tryz.underlying160)) rfl (.m rfl (.q (.as (v' := .int .u64 ((k : Nat) : Int)) (by show Value.int .u64 (IntKind.u64.wrap (k : Int)) = _; rw [show IntKind.u64.wrap (k : Int) = (k : Int) by (simp only [IntKind.wrap, IntKind.signed, IntKind.bits, Bool.false_and]; simp; omega)]) (.conv rfl Tryz.underlying3 Tryz.underlying160)) rfl (.oq (.c Tryz.func77 [_, _] (bmul_spec 1 k (by omega) (by omega))) ?_))))))
 rintro v L' ⟨rfl, rfl⟩; rw [show (1 * k / 18446744073709551616 : Nat) = 0 by omega, show (1 * k % 18446744073709551616 : Nat) = k by omega]
 refine .m rfl (.u (.extract rfl rfl) (.u (.extract rfl rfl) (.a rfl (.an rfl (.seq (.sm rfl (.q (.as (v' := .bool false) (by rfl) (.int rfl rfl rfl)) rfl (.m rfl (.grun (t := 23) rfl rfl rfl (.m rfl (.grun (t := 23) rfl rfl rfl (.q (.as (v' := .bool false) (by exact congrArg Value.bool (decide_eq_false (by omega))) (.int rfl rfl rfl)) rfl (.u (.pickF rfl rfl) (.nt (.condF rfl (.sk (.sm rfl (.q (.as (v' := vint (k : Nat)) (by show Value.int .i64 (IntKind.i64.wrap (k : Int)) = _; rw [i64w (by omega)]) (.conv rfl Tryz.underlying160 Tryz.underlying3)) rfl (.oq (.makeZ (l := rpC rp0) rfl rfl el_39 ze_41 rfl ⟨by decide, rfl⟩ ⟨by omega, by omega, by omega, by omega⟩) ?_)))))))))))))))))))
 rintro v L' ⟨bm, rfl, rfl⟩; rw [Int.toNat_natCast]
 refine .an rfl (.sm rfl (.m rfl (.oq (.copy (m := 1) (ys := rpC x) (p := p) rfl rfl rfl el_39 ?h119 ?h220 ?h321 ?h422) ?_)))
 case h119 => exact hr
 case h220 => exact hx
 case h321 => rw [repL_len rp_zero]; omega
 case h422 => exact nfz0 _ _
 rintro v L' ⟨rfl, rfl⟩
 refine .a rfl (.nil (.ptCast (b := bm) (l' := repK (rpC x) (rpC rp0) k (min 1 k)) (by repeat' constructor) (by rw [show (rpC x).take (min 1 k * 17) = repL (rpC x) (min 1 k) by (rcases Nat.eq_zero_or_pos k with g | g; rw [g]; rfl; rw [Nat.min_eq_left g, repL_one]; rfl)]; have := repK_spl (rpC_len x) rp_zero (k := k) (n := 0) (j := min 1 k) (by omega) (by omega); rw [Nat.zero_mul, Nat.zero_add] at this; exact this) ?_))
 refine .then_n (.seq (.block (.loopK (ι := Nat) (fun q E => (8, vint (q : Nat)) :: E) (fun q => [ptc bm (repK (rpC x) (rpC rp0) k q) 41]) (fun q => q ≤ k ∧ (0 < k → 0 < q)) (fun q => k - q) (min 1 k) (ts := [4, 7]) (.cons rfl (.cons rfl (.nil))) (⟨by omega, by omega⟩) ⟨rfl, rfl, rfl, trivial⟩ (by repeat' constructor) ?_)))
 rintro n ⟨hn, hpos⟩
 refine .seq (.sm rfl (.m rfl (.q (.slen rfl Tryz.underlying39 rfl) rfl (.ui rfl rfl rfl (.nt (.condD rfl (fun h37 => ?_) (fun h37 => ?_)))))))
 ·have hn2 : n < k := by omega
  refine .sk (.block (.draw [7] [[0, 1, 2, 3, 4, 5, 6, 7], [8, 9]] mixed (by kernel_rfl) (.g0 (.k rfl (.move rfl) (.mv rfl rfl (.mv rfl rfl (.kv rfl (.to (v' := .slice (some ⟨bm, 0 + n * 17, none⟩) (k - n) (k - n)) (.slSlice (i := (n : Int)) (j := (k : Int)) rfl el_39 rfl rfl (by omega)) (by rw [Int.toNat_natCast, Int.toNat_natCast, if_neg (by omega)])) (.mv rfl rfl (.mv rfl rfl (.kv rfl (.to (v' := .slice (some ⟨bm, 0, none⟩) n k) (.slTo rfl el_39 rfl (by omega) (.inr ⟨_, _, rfl⟩)) (by rw [Int.toNat_natCast])) (.hh rfl (.copyMe (sz := 17) rfl rfl rfl el_39 ?h136 ?h237 ?h338 ?h439 ?h540) ?_)))))))))))
  case h136 => exact repK_cells hx hz0 k n
  case h237 => rw [repK_len (rpC_len x) rp_zero hn]; omega
  case h338 => exact hn
  case h439 => rw [repK_len (rpC_len x) rp_zero hn]; omega
  case h540 => exact nfz0 _ _
  rintro v L' ⟨rfl, rfl⟩
  refine D.ph (.g0 (.kv rfl (.add rfl rfl (by omega)) (.kv rfl (.assign rfl) (.ph (.fin (.blk_n (.then_n (.ptCast (b := bm) (l' := repK (rpC x) (rpC rp0) k (n + min n (k - n))) (by repeat' constructor) (by rw [repK_src (rpC_len x) (Nat.min_le_left _ _), Nat.zero_add]; exact repK_spl (rpC_len x) rp_zero hn (Nat.min_le_right _ _)) ?_))))))))
  exact .rk (n + min n (k - n)) (⟨by omega, by omega⟩) (by omega) ⟨rfl, rfl, rfl, trivial⟩
 have hnk : n = k := by omega
 subst hnk
 refine .slMakeN 17 n (b := bm) (xs := repL (rpC x) n) (by repeat' constructor) (by show repL (rpC x) n ++ repL _ (n - n) = _; rw [Nat.sub_self]; simp [repL]) (by exact repL_len (rpC_len x) n) (.exit (.then_e (.then_e (.blk_e (.then_n (.sm rfl (.an rfl (.ret ?_))))))))
 exact .dn rfl rfl ⟨⟨_, rfl⟩, rfl⟩
theorem preply_spec (t : Nat) (τ : Tr) (e : En) (N : Nat) (ho : τ.Ok N) (hN : N ≤ 1099511627776) (q : HP) (hq : ∀ h : Hp, q h → rdS 8 h e.x.subsV e.subs.length (e.subs.flatMap ptC)) (hfew : e.subs.length ≤ 1048576) (h1 : isCell e.x.aclV = true) (h2 : isCell e.x.subsV = true) (hs : ∀ y ∈ e.subs, isCell y.aclV = true ∧ isCell y.subsV = true) : Fn Tryz.prog 26 #[vptr t, .agg (enC e).toArray] [treeR t τ, q] fun v L =>
    ∃ w : Value, v = .agg (rpC ((headR τ e).ws w)).toArray ∧ (∃ a c, w = .slice a (withinR τ e).length c) ∧ L = [treeR t τ, q, slR 41 17 w (withinR τ e).length ((withinR τ e).flatMap rpC)] := by
 refine Fn.intro Tryz.func26 rfl rfl fun F W => ?_
 refine .rdAny (p := q) hq (by repeat' constructor) fun aa ca hsv _ => ?_
 have hq2 : ∀ h : Hp, q h → rdS 8 h (.slice aa e.subs.length ca) e.subs.length (e.subs.flatMap ptC) := fun h hp => hsv ▸ hq h hp
 refine .sr (.oq (.box rfl) ?_)
 rintro v L' ⟨b3, rfl, rfl⟩
 refine .oq (.allocA ze_41) ?_
 rintro v L' ⟨b4, rfl, rfl⟩
 refine .nil (.pc b3 (enC e) ?_)
 refine .then_n (.seq (.sm rfl (.q (.ptreq rfl rfl Tryz.underlying76) rfl (.nt (.condF rfl (.sk (.sr (.u (.fieldAddr rfl fo_62_3) (.q (.la (ptC e.x) rfl ag_60) rfl (.oq (.allocA ze_60) ?_))))))))))
 rintro v L' ⟨b5, rfl, rfl⟩
 refine .sa rfl rfl sz_60 (by exact pt_cells h1 h2) ?_
 refine .nil (.pc b5 (ptC e.x) ?_)
 refine .then_n (.sm rfl (.q (.la (ptC e.x) rfl ag_60) rfl (.cv Tryz.func46 [_, _] (ptold_spec t τ e.x N ho hN h1 h2) ?_)))
 refine .oq (.allocA ze_41) ?_
 rintro v L' ⟨b6, rfl, rfl⟩
 refine .sa rfl rfl sz_41 (by exact rp_cells rfl rfl rfl) ?_
 refine .nil (.pc b6 (rpC (toldZ12 τ e.x)) ?_)
 refine .then_n (.seq (.draw [5, 7] [[0, 1, 2, 3, 4, 5], [6, 7]] mixed (by kernel_rfl) (.go [ptc b3 _ _] (by repeat' constructor) (.kv rfl (.fieldAddr rfl fo_62_2) (.kv rfl (.ld rfl ag_3) (.k rfl (.fieldAddr rfl fo_62_0) (.k rfl (.ld rfl ag_3) (.kv rfl (.fieldAddr rfl fo_41_0) (.hh rfl (.store rfl rfl rfl sz_3 ?c32 (nfz0 _ _)) ?_)))))))))
 case c32 => simp
 rintro v L' rfl
 refine D.ph (.g0 (.kv rfl (.fieldAddr rfl fo_41_1) (.hh rfl (.store rfl rfl rfl sz_3 ?c36 (nfz0 _ _)) ?_)))
 case c36 => simp
 rintro v L' rfl
 refine D.ph (.fin (.pc b6 (rpC ⟨e.xid, e.zx, 0, (toldZ12 τ e.x).path, [], (toldZ12 τ e.x).st, nilV, nilV, nilV⟩) ?_))
 refine .then_n (.seq (.block (.sr (.u (.fieldAddr rfl fo_60_0) (.u (.ld rfl ag_3) (.ui rfl rfl rfl (.an rfl (.condD rfl (fun h23 => ?_) (fun h23 => ?_)))))))))
 ·refine .sr (.u (.fieldAddr rfl fo_60_7) (.q (.to (v' := .slice aa e.subs.length ca) (.load rfl ag_58 (by repeat' constructor) rfl) (by exact hsv)) rfl (.q (.slen rfl Tryz.underlying58 rfl) rfl (.m rfl (.nil (.add (slR_nil 41 17) (.then_n (.block (.loopK (ι := Nat × Value) (fun q E => (30, vint q.1) :: E) (fun q => [treeR t τ, ptc b6 (rpC ⟨e.xid, e.zx, 0, (toldZ12 τ e.x).path, [], (toldZ12 τ e.x).st, nilV, nilV, q.2⟩) 41, slR 41 17 q.2 q.1 (((e.subs.take q.1).map (toldZ12 τ)).flatMap rpC)]) (fun q => q.1 ≤ e.subs.length ∧ (∃ a c, q.2 = .slice a q.1 c)) (fun q => e.subs.length - q.1) (0, nilV) (ts := [0, 4, 6, 28, 29]) (.cons rfl (.cons rfl (.cons rfl (.cons rfl (.cons rfl (.nil)))))) (⟨Nat.zero_le _, ⟨none, 0, rfl⟩⟩) ⟨rfl, rfl, rfl, rfl, rfl, rfl, trivial⟩ (by repeat' constructor) ?_)))))))))
  rintro ⟨j, w⟩ ⟨hj, ⟨au, cu, hu⟩⟩
  dsimp only
  dsimp only at hj hu
  subst hu
  refine .sr (.ui rfl rfl rfl (.nt (.seq (.condD rfl (fun h31 => ?_) (fun h31 => ?_)))))
  ·have hj2 : j < e.subs.length := by omega
   refine .rdShape (p := q) hq2 (by repeat' constructor) (by omega) fun ba oa ee => ?_
   subst ee
   refine .sk (.seq (.block (.sr (.q (.indexAddr rfl rfl el_58 (by omega)) rfl (.q (.loadRdA (sz := 8) (j := j * 8) (k := 8) (p := q) (vs := ptC e.subs[j]) rfl ag_60 (by repeat' constructor) hq2 (by simp) (by omega) (by omega) (flatMap_at (f := ptC) (sz := 8) (fun _ _ => rfl) (by omega))) rfl (.oq (.allocA ze_60) ?_))))))
   rintro v L' ⟨b8, rfl, rfl⟩
   refine .sa rfl rfl sz_60 (by exact pt_cells (hs _ (List.getElem_mem hj2)).1 (hs _ (List.getElem_mem hj2)).2) ?_
   refine .nil (.pc b8 (ptC e.subs[j]) ?_)
   refine .then_n (.draw [4, 5, 6, 8] [[0, 1, 2, 3, 4, 5], [6], [7, 8]] mixed (by kernel_rfl) (.go [ptc b8 _ _, ptc b6 _ _] (by repeat' constructor) (.k rfl (.fieldAddr rfl fo_41_8) (.k rfl (.ld rfl ag_39) (.mv rfl rfl (.kv rfl (.la (ptC e.subs[j]) rfl ag_60) (.hh rfl (.c Tryz.func46 [_, _] (ptold_spec t τ e.subs[j] N ho hN (hs _ (List.getElem_mem hj2)).1 (hs _ (List.getElem_mem hj2)).2)) ?_)))))))
   rintro v L' ⟨rfl, rfl⟩
   refine D.hh rfl (.buildSlice (vs := [_]) el_39 ze_41 rfl rfl rfl rfl (by first | (simp [Value.cells]; done) | (intro v hv; simp only [List.mem_cons, List.not_mem_nil, or_false] at hv; (repeat (first | (subst hv; rfl) | (rcases hv with hv | hv; (subst hv; rfl)))))) (by decide)) ?_
   rintro v L' ⟨b10, rfl, rfl⟩
   refine D.ph (.g0 (.hh rfl (.append1 rfl rfl rfl el_39 ze_41 rfl rfl ?c64 ?c65 (Nat.le_refl _) ?c66 (by decide)) ?_))
   case c64 => simp only [List.map_cons, List.map_nil, List.flatten_cons, List.flatten_nil, List.append_nil]; simp only [Value.cells]; intro z hz; exact rp_cells (x := toldZ12 τ e.subs[j]) rfl rfl rfl z (by simpa using hz)
   case c65 => rfl
   case c66 => omega
   rintro v L' ⟨⟨a10, c10, rfl⟩, rfl⟩
   refine D.ph (.g0 (.kv rfl (.fieldAddr rfl fo_41_8) (.hh rfl (.store rfl rfl rfl sz_39 ?c70 (nfz0 _ _)) ?_)))
   case c70 => simp
   rintro v L' rfl
   refine D.ph (.fin (.blk_n (.then_n (.region (.q (.add rfl rfl (by omega)) rfl (.m rfl (.nt (.slCast (T := 41) (sz := 17) (m' := j + 1) (xs' := ((e.subs.take (j + 1)).map (toldZ12 τ)).flatMap rpC) (by repeat' constructor) (by exact rfl) (by rw [List.take_succ_eq_append_getElem hj2, List.map_append, List.flatMap_append]; simp [Value.cells]) (.pc b6 (rpC ⟨e.xid, e.zx, 0, (toldZ12 τ e.x).path, [], (toldZ12 τ e.x).st, nilV, nilV, .slice a10 (j + 1) c10⟩) ?_)))))))))
   exact .rk ((j + 1, .slice a10 (j + 1) c10)) (⟨by dsimp only; omega, ⟨_, _, rfl⟩⟩) (by dsimp only; omega) ⟨rfl, rfl, rfl, rfl, rfl, rfl, trivial⟩
  refine .exit (.then_e (.then_e (.blk_e (.blk_n (.then_n (.sr ?_))))))
  have hW : withinR τ e = e.subs.map (toldZ12 τ) := if_pos h23
  have hje : j = e.subs.length := by omega
  have hlen : j = (withinR τ e).length := by rw [hW, List.length_map]; exact hje
  refine .as (q := slR 41 17 (.slice au j cu) (withinR τ e).length ((withinR τ e).flatMap rpC)) (p := slR 41 17 (.slice au j cu) j (((e.subs.take j).map (toldZ12 τ)).flatMap rpC)) (by repeat' constructor) (by rw [← hlen, hW, hje, List.take_length]) (.ptCast (b := b6) (l' := rpC ((headR τ e).ws (.slice au j cu))) (by repeat' constructor) (by unfold headR Rp.ws; first | (rw [if_pos h43]; try rfl) | (rw [if_neg (by omega)]; try rfl)) ?_)
  refine .q (.la (rpC ((headR τ e).ws (.slice au j cu))) rfl ag_41) rfl (.sa rfl rfl sz_41 (by exact rp_cells rfl rfl rfl) ?_)
  refine .nil (.pc b4 (rpC ((headR τ e).ws (.slice au j cu))) ?_)
  refine .then_n (.ret ?_)
  exact .d1 rfl (.cellA rfl ag_41 (by repeat' constructor) (by simp [spl, setAll]) rfl) ⟨.slice au j cu, rfl, ⟨_, _, congrArg (fun m => Value.slice _ m _) hlen⟩, rfl⟩
 refine .sr (.u (.fieldAddr rfl fo_60_0) (.u (.ld rfl ag_3) (.ui rfl rfl rfl (.an rfl (.condD rfl (fun h43 => ?_) (fun h43 => ?_))))))
 ·refine .sr (.u (.fieldAddr rfl fo_60_6) (.u (.ld rfl ag_27) (.u (.fieldAddr rfl fo_41_2) (.oq (.store rfl rfl rfl sz_27 ?c86 (nfz0 _ _)) ?_))))
  case c86 => simp
  rintro v L' rfl
  refine .nt (.sr (.u (.fieldAddr rfl fo_60_5) (.u (.ld rfl ag_3) (.ui rfl rfl rfl (.m rfl (.dec (t := 53) rfl (fun h14_53 => ?_) (fun h14_53 => ?_)))))))
  ·refine .kDT (t := 52) rfl h14_53 (.grun (t := 53) rfl rfl rfl (.u (.fieldAddr rfl fo_60_5) (.grun (t := 53) rfl rfl rfl (.u (.ld rfl ag_3) (.grun (t := 53) rfl rfl rfl (.ui rfl rfl rfl (.u (.pickT rfl rfl) (.nt (.condD rfl (fun h57 => ?_) (fun h57 => ?_))))))))))
   ·refine .draw [1, 4, 8, 9, 11] [[0, 2, 3, 5, 6, 7, 1, 4, 8], [9], [10, 11]] mixed (by kernel_rfl) (.go [ptc b5 _ _] (by repeat' constructor) (.k rfl (.to (v' := .agg (rpC (errR (111))).toArray) (.buildN (pl := [(0, 1), (1, 1), (2, 1), (3, 1), (4, 1), (5, 9), (14, 1), (15, 1), (16, 1)]) (us := [(2, vint (111))]) (cells := rpC (errR (111))) Tryz.underlying41 (by kernel_rfl) ze_41 rfl rfl) rfl) (.k rfl (.fieldAddr rfl fo_60_5) (.k rfl (.as (v' := vint ((e.x.num.toNat : Nat) : Int)) (by rw [Int.toNat_of_nonneg (by omega)]) (.ld rfl ag_3)) (.k rfl (.fieldAddr rfl fo_60_6) (.k rfl (.ld rfl ag_27) (.k rfl (.to (v' := .agg (rpC (errR (e.x.err))).toArray) (.buildN (pl := [(0, 1), (1, 1), (2, 1), (3, 1), (4, 1), (5, 9), (14, 1), (15, 1), (16, 1)]) (us := [(2, vint (e.x.err))]) (cells := rpC (errR (e.x.err))) Tryz.underlying41 (by kernel_rfl) ze_41 rfl rfl) rfl) ?_)))))))
    refine D.h2 (k := 8) rfl rfl (by kernel_rfl) rfl (.buildSlice (vs := [_]) el_39 ze_41 rfl rfl rfl rfl (by first | (simp [Value.cells]; done) | (intro v hv; simp only [List.mem_cons, List.not_mem_nil, or_false] at hv; (repeat (first | (subst hv; rfl) | (rcases hv with hv | hv; (subst hv; rfl)))))) (by decide)) (by repeat' constructor) (.buildSlice (vs := [_]) el_39 ze_41 rfl rfl rfl rfl (by first | (simp [Value.cells]; done) | (intro v hv; simp only [List.mem_cons, List.not_mem_nil, or_false] at hv; (repeat (first | (subst hv; rfl) | (rcases hv with hv | hv; (subst hv; rfl)))))) (by decide)) (by repeat' constructor) ?_ ?_
    ·rintro v L' ⟨b15, rfl, rfl⟩
     refine D.h2 (k := 8) rfl rfl (by kernel_rfl) rfl (.call Tryz.func47 rfl rfl (vs := [_, _]) rfl (prepeat_spec (errR 111) b15 e.x.num.toNat (ptc b15 (rpC (errR 111)) 41) (fun _ hp => slR_rd (slR_pt hp rfl)) (rp_cells rfl rfl rfl) (by omega))) (by repeat' constructor) (.buildSlice (vs := [_]) el_39 ze_41 rfl rfl rfl rfl (by first | (simp [Value.cells]; done) | (intro v hv; simp only [List.mem_cons, List.not_mem_nil, or_false] at hv; (repeat (first | (subst hv; rfl) | (rcases hv with hv | hv; (subst hv; rfl)))))) (by decide)) (by repeat' constructor) ?_ ?_
     ·rintro v L' ⟨⟨br, rfl⟩, rfl⟩
      refine D.hh rfl (.buildSlice (vs := [_]) el_39 ze_41 rfl rfl rfl rfl (by first | (simp [Value.cells]; done) | (intro v hv; simp only [List.mem_cons, List.not_mem_nil, or_false] at hv; (repeat (first | (subst hv; rfl) | (rcases hv with hv | hv; (subst hv; rfl)))))) (by decide)) ?_
      rintro v L' ⟨b18, rfl, rfl⟩
      refine D.ph (.g0 (.hh rfl (.append1 rfl rfl rfl el_39 ze_41 rfl rfl ?c109 ?c110 (Nat.le_refl _) ?c111 (by decide)) ?_))
      case c109 => simp only [List.map_cons, List.map_nil, List.flatten_cons, List.flatten_nil, List.append_nil]; simp only [Value.cells]; intro z hz; exact rp_cells (x := errR e.x.err) rfl rfl rfl z (by simpa using hz)
      case c110 => rfl
      case c111 => omega
      rintro v L' ⟨⟨a15, c15, rfl⟩, rfl⟩
      refine D.ph (.g0 (.kv rfl (.fieldAddr rfl fo_41_8) (.hh rfl (.store rfl rfl rfl sz_39 ?c115 (nfz0 _ _)) ?_)))
      case c115 => simp
      rintro v L' rfl
      refine D.ph (.fin (.blk_n (.then_n (.sr ?_))))
      have hW : withinR τ e = List.replicate e.x.num.toNat (errR 111) ++ [errR e.x.err] := by unfold withinR; rw [if_neg h23, if_pos ⟨h43, by omega, by omega⟩]
      have hlen : e.x.num.toNat + 1 = (withinR τ e).length := by rw [hW]; simp
      refine .slCast (T := 41) (sz := 17) (m' := (withinR τ e).length) (xs' := (withinR τ e).flatMap rpC) (by repeat' constructor) (by exact hlen) (by rw [hW, List.flatMap_append, List.flatMap_replicate]; simp [repL, Value.cells]) (.ptCast (b := b6) (l' := rpC ((headR τ e).ws (.slice a15 (e.x.num.toNat + 1) c15))) (by repeat' constructor) (by unfold headR Rp.ws; first | (rw [if_pos h43]; try rfl) | (rw [if_neg (by omega)]; try rfl)) ?_)
      refine .q (.la (rpC ((headR τ e).ws (.slice a15 (e.x.num.toNat + 1) c15))) rfl ag_41) rfl (.sa rfl rfl sz_41 (by exact rp_cells rfl rfl rfl) ?_)
      refine .nil (.pc b4 (rpC ((headR τ e).ws (.slice a15 (e.x.num.toNat + 1) c15))) ?_)
      refine .then_n (.ret ?_)
      exact .d1 rfl (.cellA rfl ag_41 (by repeat' constructor) (by simp [spl, setAll]) rfl) ⟨.slice a15 (e.x.num.toNat + 1) c15, rfl, ⟨_, _, congrArg (fun m => Value.slice _ m _) hlen⟩, rfl⟩
     rintro v L' ⟨b18, rfl, rfl⟩
     refine D.hh rfl (.call Tryz.func47 rfl rfl (vs := [_, _]) rfl (prepeat_spec (errR 111) b15 e.x.num.toNat (ptc b15 (rpC (errR 111)) 41) (fun _ hp => slR_rd (slR_pt hp rfl)) (rp_cells rfl rfl rfl) (by omega))) ?_
     rintro v L' ⟨⟨br, rfl⟩, rfl⟩
     refine D.ph (.g0 (.hh rfl (.append1 rfl rfl rfl el_39 ze_41 rfl rfl ?c127 ?c128 (Nat.le_refl _) ?c129 (by decide)) ?_))
     case c127 => simp only [List.map_cons, List.map_nil, List.flatten_cons, List.flatten_nil, List.append_nil]; simp only [Value.cells]; intro z hz; exact rp_cells (x := errR e.x.err) rfl rfl rfl z (by simpa using hz)
     case c128 => rfl
     case c129 => omega
     rintro v L' ⟨⟨a15, c15, rfl⟩, rfl⟩
     refine D.ph (.g0 (.kv rfl (.fieldAddr rfl fo_41_8) (.hh rfl (.store rfl rfl rfl sz_39 ?c133 (nfz0 _ _)) ?_)))
     case c133 => simp
     rintro v L' rfl
     refine D.ph (.fin (.blk_n (.then_n (.sr ?_))))
     have hW : withinR τ e = List.replicate e.x.num.toNat (errR 111) ++ [errR e.x.err] := by unfold withinR; rw [if_neg h23, if_pos ⟨h43, by omega, by omega⟩]
     have hlen : e.x.num.toNat + 1 = (withinR τ e).length := by rw [hW]; simp
     refine .slCast (T := 41) (sz := 17) (m' := (withinR τ e).length) (xs' := (withinR τ e).flatMap rpC) (by repeat' constructor) (by exact hlen) (by rw [hW, List.flatMap_append, List.flatMap_replicate]; simp [repL, Value.cells]) (.ptCast (b := b6) (l' := rpC ((headR τ e).ws (.slice a15 (e.x.num.toNat + 1) c15))) (by repeat' constructor) (by unfold headR Rp.ws; first | (rw [if_pos h43]; try rfl) | (rw [if_neg (by omega)]; try rfl)) ?_)
     refine .q (.la (rpC ((headR τ e).ws (.slice a15 (e.x.num.toNat + 1) c15))) rfl ag_41) rfl (.sa rfl rfl sz_41 (by exact rp_cells rfl rfl rfl) ?_)
     refine .nil (.pc b4 (rpC ((headR τ e).ws (.slice a15 (e.x.num.toNat + 1) c15))) ?_)
     refine .then_n (.ret ?_)
     exact .d1 rfl (.cellA rfl ag_41 (by repeat' constructor) (by simp [spl, setAll]) rfl) ⟨.slice a15 (e.x.num.toNat + 1) c15, rfl, ⟨_, _, congrArg (fun m => Value.slice _ m _) hlen⟩, rfl⟩
    rintro v L' ⟨b18, rfl, rfl⟩
    refine D.hh rfl (.buildSlice (vs := [_]) el_39 ze_41 rfl rfl rfl rfl (by first | (simp [Value.cells]; done) | (intro v hv; simp only [List.mem_cons, List.not_mem_nil, or_false] at hv; (repeat (first | (subst hv; rfl) | (rcases hv with hv | hv; (subst hv; rfl)))))) (by decide)) ?_
    rintro v L' ⟨b15, rfl, rfl⟩
    refine D.hh rfl (.call Tryz.func47 rfl rfl (vs := [_, _]) rfl (prepeat_spec (errR 111) b15 e.x.num.toNat (ptc b15 (rpC (errR 111)) 41) (fun _ hp => slR_rd (slR_pt hp rfl)) (rp_cells rfl rfl rfl) (by omega))) ?_
    rintro v L' ⟨⟨br, rfl⟩, rfl⟩
    refine D.ph (.g0 (.hh rfl (.append1 rfl rfl rfl el_39 ze_41 rfl rfl ?c147 ?c148 (Nat.le_refl _) ?c149 (by decide)) ?_))
    case c147 => simp only [List.map_cons, List.map_nil, List.flatten_cons, List.flatten_nil, List.append_nil]; simp only [Value.cells]; intro z hz; exact rp_cells (x := errR e.x.err) rfl rfl rfl z (by simpa using hz)
    case c148 => rfl
    case c149 => omega
    rintro v L' ⟨⟨a15, c15, rfl⟩, rfl⟩
    refine D.ph (.g0 (.kv rfl (.fieldAddr rfl fo_41_8) (.hh rfl (.store rfl rfl rfl sz_39 ?c153 (nfz0 _ _)) ?_)))
    case c153 => simp
    rintro v L' rfl
    refine D.ph (.fin (.blk_n (.then_n (.sr ?_))))
    have hW : withinR τ e = List.replicate e.x.num.toNat (errR 111) ++ [errR e.x.err] := by unfold withinR; rw [if_neg h23, if_pos ⟨h43, by omega, by omega⟩]
    have hlen : e.x.num.toNat + 1 = (withinR τ e).length := by rw [hW]; simp
    refine .slCast (T := 41) (sz := 17) (m' := (withinR τ e).length) (xs' := (withinR τ e).flatMap rpC) (by repeat' constructor) (by exact hlen) (by rw [hW, List.flatMap_append, List.flatMap_replicate]; simp [repL, Value.cells]) (.ptCast (b := b6) (l' := rpC ((headR τ e).ws (.slice a15 (e.x.num.toNat + 1) c15))) (by repeat' constructor) (by unfold headR Rp.ws; first | (rw [if_pos h43]; try rfl) | (rw [if_neg (by omega)]; try rfl)) ?_)
    refine .q (.la (rpC ((headR τ e).ws (.slice a15 (e.x.num.toNat + 1) c15))) rfl ag_41) rfl (.sa rfl rfl sz_41 (by exact rp_cells rfl rfl rfl) ?_)
    refine .nil (.pc b4 (rpC ((headR τ e).ws (.slice a15 (e.x.num.toNat + 1) c15))) ?_)
    refine .then_n (.ret ?_)
    exact .d1 rfl (.cellA rfl ag_41 (by repeat' constructor) (by simp [spl, setAll]) rfl) ⟨.slice a15 (e.x.num.toNat + 1) c15, rfl, ⟨_, _, congrArg (fun m => Value.slice _ m _) hlen⟩, rfl⟩
   refine .skip (.blk_n (.then_n (.sr ?_)))
   have hW : withinR τ e = [] := by unfold withinR; rw [if_neg h23, if_neg (by rintro ⟨g0, g1, g2⟩; omega)]
   have hlen : 0 = (withinR τ e).length := by rw [hW]; rfl
   refine .add (slR_nil 41 17) (.as (q := slR 41 17 nilV (withinR τ e).length ((withinR τ e).flatMap rpC)) (p := slR 41 17 nilV 0 []) (by repeat' constructor) (by rw [hW]; rfl) (.ptCast (b := b6) (l' := rpC ((headR τ e).ws (nilV))) (by repeat' constructor) (by unfold headR Rp.ws; first | (rw [if_pos h43]; try rfl) | (rw [if_neg (by omega)]; try rfl)) ?_))
   refine .q (.la (rpC ((headR τ e).ws (nilV))) rfl ag_41) rfl (.sa rfl rfl sz_41 (by exact rp_cells rfl rfl rfl) ?_)
   refine .nil (.pc b4 (rpC ((headR τ e).ws (nilV))) ?_)
   refine .then_n (.ret ?_)
   exact .d1 rfl (.cellA rfl ag_41 (by repeat' constructor) (by simp [spl, setAll]) rfl) ⟨nilV, rfl, ⟨_, _, congrArg (fun m => Value.slice _ m _) hlen⟩, rfl⟩
  refine .kDF (t := 52) rfl h14_53 (.gk (.gk (.gk (.u (.pickF rfl rfl) (.nt (.condF rfl (.skip (.blk_n (.then_n (.sr ?_))))))))))
  have hW : withinR τ e = [] := by unfold withinR; rw [if_neg h23, if_neg (by rintro ⟨g0, g1, g2⟩; omega)]
  have hlen : 0 = (withinR τ e).length := by rw [hW]; rfl
  refine .add (slR_nil 41 17) (.as (q := slR 41 17 nilV (withinR τ e).length ((withinR τ e).flatMap rpC)) (p := slR 41 17 nilV 0 []) (by repeat' constructor) (by rw [hW]; rfl) (.ptCast (b := b6) (l' := rpC ((headR τ e).ws (nilV))) (by repeat' constructor) (by unfold headR Rp.ws; first | (rw [if_pos h43]; try rfl) | (rw [if_neg (by omega)]; try rfl)) ?_))
  refine .q (.la (rpC ((headR τ e).ws (nilV))) rfl ag_41) rfl (.sa rfl rfl sz_41 (by exact rp_cells rfl rfl rfl) ?_)
  refine .nil (.pc b4 (rpC ((headR τ e).ws (nilV))) ?_)
  refine .then_n (.ret ?_)
  exact .d1 rfl (.cellA rfl ag_41 (by repeat' constructor) (by simp [spl, setAll]) rfl) ⟨nilV, rfl, ⟨_, _, congrArg (fun m => Value.slice _ m _) hlen⟩, rfl⟩
 refine .skip (.blk_n (.then_n (.sr ?_)))
 have hW : withinR τ e = [] := by unfold withinR; rw [if_neg h23, if_neg (by rintro ⟨g0, g1, g2⟩; omega)]
 have hlen : 0 = (withinR τ e).length := by rw [hW]; rfl
 refine .add (slR_nil 41 17) (.as (q := slR 41 17 nilV (withinR τ e).length ((withinR τ e).flatMap rpC)) (p := slR 41 17 nilV 0 []) (by repeat' constructor) (by rw [hW]; rfl) (.ptCast (b := b6) (l' := rpC ((headR τ e).ws (nilV))) (by repeat' constructor) (by unfold headR Rp.ws; first | (rw [if_pos h43]; try rfl) | (rw [if_neg (by omega)]; try rfl)) ?_))
 refine .q (.la (rpC ((headR τ e).ws (nilV))) rfl ag_41) rfl (.sa rfl rfl sz_41 (by exact rp_cells rfl rfl rfl) ?_)
 refine .nil (.pc b4 (rpC ((headR τ e).ws (nilV))) ?_)
 refine .then_n (.ret ?_)
 exact .d1 rfl (.cellA rfl ag_41 (by repeat' constructor) (by simp [spl, setAll]) rfl) ⟨nilV, rfl, ⟨_, _, congrArg (fun m => Value.slice _ m _) hlen⟩, rfl⟩
section
variable {P : Program} {E : Env} {L : List HP} {ty : TypeId}
end
/- not in this seat -/
/- not in this seat -/
/- not in this seat -/
/- not in this seat -/
/- not in this seat -/
section
variable {P : Program} {E : Env} {L : List HP} {ty : TypeId}
end
section
variable {W : World} {n : Nat} {ds : List Deferred} {E : Env} {L R : List HP} {X : Act → World → Prop}
end
/-! ### Places -/
/-! ### Parts of slices -/
section
variable {P : Program} {E : Env} {L : List HP} {ty : TypeId}
end
/-! ### What is told -/
theorem owned_len (τ : Tr) (s : Int) : (ownedZ τ s).length ≤ τ.nodes.length := by
 unfold ownedZ; rw [List.length_map]; exact List.length_filter_le _ _
/-! ### Soundness -/
def findsZ (τ : Tr) (x : Pt) : Bool :=
 if x.kind = 1 then decide (ableZ x.path ∧ ¬ thereT τ x.path ∧ thereT τ (parentZ x.path))
 else if x.kind = 2 then decide (x.path ≠ [47] ∧ thereT τ x.path ∧ (kidsZ τ x.path).length = 0)
 else if x.kind = 3 ∨ x.kind = 4 then decide (thereT τ x.path) else false
def soundL (τ : Tr) (zx : Int) (cl : Bool) : List Pt → Bool
 | [] => true
 | x :: l => findsZ τ x && (!cl || decide (x.kind = 2)) && soundL (partZ τ x zx).1 zx cl l
def soundZ (τ : Tr) (zx : Int) (x : Pt) (subs : List Pt) : Bool :=
 if x.kind = 1 ∨ x.kind = 2 ∨ x.kind = 3 ∨ x.kind = 4 then findsZ τ x
 else if x.kind = 6 ∨ x.kind = 7 then soundL τ zx (decide (x.kind = 6)) subs else true
/-! ### Paths -/
/-! ### What a part does, path by path -/
/-! ### What an entry may be -/
def wldZ : Bs := [119, 111, 114, 108, 100]
def wld (l : List Ac) : Prop := l = [] ∨ ∃ q : Int, 1 ≤ q ∧ q ≤ 31 ∧ l = [(q, wldZ)]
structure PartH (τ : Tr) (y : Pt) (K : Int) : Prop where
 kind : 0 ≤ y.kind ∧ y.kind ≤ 4
 path : y.path.length ≤ 62
 data : y.data.length ≤ 100
 acl : wld y.acl
 own : y.own = 0 ∨ ∃ s, alook τ.sess y.own = some s
 num : 0 ≤ y.num ∧ y.num ≤ K + 1
 err : y.err = 0
 room : y.kind = 1 → τ.nodes.length < 60
def PartsH (τ : Tr) (zx : Int) (subs : List Pt) (K : Int) : Prop := ∀ i (hi : i < subs.length), PartH (partsZ τ zx (subs.take i)).1 subs[i] (K + i)
structure CloseH (τ : Tr) (x : Pt) (subs : List Pt) : Prop where
 own : 1 ≤ x.own ∧ x.own ≤ 5
 paths : subs.map (·.path) = (ownedZ τ x.own).reverse
 kinds : ∀ y ∈ subs, y.kind = 2
inductive ShapeH (τ : Tr) (zx : Int) (x : Pt) (subs : List Pt) (K : Int) : Prop
 | part (hs : subs = []) (h : PartH τ x K)
 | opens (hk : x.kind = 5) (hs : subs = []) (ho : 1 ≤ x.own ∧ x.own ≤ 5) (hn : 4 ≤ x.num ∧ x.num ≤ 53) (hd : x.data.length ≤ 100) (ha : x.acl = []) (hp : x.path = [])
 | close (hk : x.kind = 6) (h : CloseH τ x subs) (hp : PartsH τ zx subs K) (ha : x.acl = []) (hd : x.data = []) (hl : subs.length ≤ 60) (hp : x.path = [])
 | multi (hk : x.kind = 7) (h : PartsH τ zx subs K) (ha : x.acl = []) (hd : x.data = []) (hl : subs.length ≤ 6) (hp : x.path = [])
 | error (hk : x.kind = 8) (hs : subs = []) (he : 0 ≤ x.err ∧ x.err < 99) (hn : x.num = -1) (ha : x.acl = []) (hd : x.data = []) (hp : x.path = [])
def TxC (x : Pt) (subs : List Pt) : Prop := isCell x.aclV = true ∧ isCell x.subsV = true ∧ ∀ y ∈ subs, isCell y.aclV = true ∧ isCell y.subsV = true
structure EntH (τ : Tr) (e : En) (K : Int) : Prop where
 sound : soundZ τ e.zx e.x e.subs = true
 shape : ShapeH τ e.zx e.x e.subs K
 ses : 0 ≤ e.ses ∧ e.ses < 9
 cells : TxC e.x e.subs
/-! ### What is so in a sound history -/
/-! ### Parts, one by one -/
theorem snocInd {α : Type} {P : List α → Prop} (h0 : P []) (h1 : ∀ l x, P l → P (l ++ [x])) (l : List α) : P l := by
 have : ∀ m : List α, P m.reverse := by
  intro m
  induction m with
  | nil => exact h0
  | cons x m ih => rw [List.reverse_cons]; exact h1 _ _ ih
 have := this l.reverse
 rwa [List.reverse_reverse] at this
inductive Hist (z0 : Int) : List En → Tr → Prop
 | nil : Hist z0 [] newT
 | snoc {l : List En} {τ : Tr} {e : En} (h : Hist z0 l τ) (he : EntH τ e (60 * l.length)) (hz : e.zx = z0 + l.length) (hx : 0 ≤ e.xid ∧ e.xid < 150) : Hist z0 (l ++ [e]) (appE τ e)
/-! ### In memory -/
/-! ### A session's end, path by path -/
theorem app_zx (τ : Tr) (e : En) : (appE τ e).zx = e.zx := by
 have hp : ∀ (τ : Tr) (x : Pt) (zx : Int), (partZ τ x zx).1.zx = τ.zx := by
  intro τ x zx
  unfold partZ createZ eraseZ
  repeat' split
  all_goals rfl
 have hps : ∀ (τ : Tr) (zx : Int) (l : List Pt), (partsZ τ zx l).1.zx = τ.zx := by
  intro τ zx l
  induction l using snocInd with
  | h0 => rfl
  | h1 l x ih => rw [parts_snoc]; dsimp only; rw [hp, ih]
 unfold appE applyZ
 dsimp only
 split
 ·split <;> rfl
 split
 ·exact hps _ _ _
 split
 ·exact hps _ _ _
 split
 ·rfl
 ·exact hp _ _ _
theorem TabP.up {a p : HP} (hT : TabP p) : TabP (sep [a, p]) := by
 intro h w hp hle
 obtain ⟨h1, h2, _, a1, a2, _, h3⟩ := hp
 obtain ⟨h4, a4, hp4⟩ := sep_head (p := p) (L := []) h3
 exact hT h4 w hp4 (fun b o e => hle b o (a2 b o (a4 b o e)))
def acl31 : List Ac := [(31, [119, 111, 114, 108, 100])]
theorem WiA.mk0 {p : HP} {s : Int} {r : Rq} (hs : I64 s) (hT : TabP p) (hk : I64 r.kind ∧ I64 r.xid ∧ I64 r.flags ∧ I64 r.ver) (hl : r.path.length ≤ 64 ∧ r.data.length ≤ 64) (ha : ∀ h : Hp, p h → rdS 2 h r.aclV r.acl.length (r.acl.flatMap acC))
  (hm : r.acl.length ≤ 8 ∧ ∀ a ∈ r.acl, I64 a.1 ∧ a.2.length ≤ 64) (h1 : ∃ a n c, r.aclV = .slice a n c) (h2 : ∃ a n c, r.subsV = .slice a n c) (h3 : ∃ a n c, r.armV = .slice a n c) : WiA p ⟨s, []⟩ nilV r :=
 ⟨⟨hk.1, hk.2.1, hk.2.2.1, hk.2.2.2, by omega, by omega, ha, by omega, fun a h => ⟨(hm.2 a h).1, by have := (hm.2 a h).2; omega⟩, h2, h3⟩, hs, fun _ _ => .inl ⟨rfl, rfl, none, 0, rfl⟩, by show 0 ≤ _; decide, ⟨none, 0, 0, rfl⟩, h1, hT⟩
theorem rd_head {a p : HP} {sz n : Nat} {v : Value} {xs : List Value} (ha : ∀ h : Hp, a h → rdS sz h v n xs) : ∀ h : Hp, sep [a, p] h → rdS sz h v n xs := by
 intro h hp
 obtain ⟨h1, a1, hp1⟩ := sep_head hp
 exact rdS_mono (ha h1 hp1) a1
theorem rd_tail {a p : HP} {sz n : Nat} {v : Value} {xs : List Value} (ha : ∀ h : Hp, p h → rdS sz h v n xs) : ∀ h : Hp, sep [a, p] h → rdS sz h v n xs := by
 intro h hp
 obtain ⟨h1, h2, _, a1, a2, _, h3⟩ := hp
 obtain ⟨h4, a4, hp4⟩ := sep_head (p := p) (L := []) h3
 exact rdS_mono (ha h4 hp4) (fun b o e => a2 b o (a4 b o e))
theorem acl31_w : AclW acl31 := ⟨by decide, by simp [acl31, aclB, acB, cntB, txtB, numB, zigZ, sevZ], fun a ha => by
 obtain rfl := List.mem_singleton.1 ha
 exact ⟨⟨⟨by decide, by decide⟩, by decide⟩, by decide⟩⟩
theorem acl_nil_w : AclW [] := ⟨by decide, by simp [aclB, cntB, sevZ], fun a ha => by cases ha⟩
theorem rd_acl {a p : HP} {v : Value} (ha : ∀ h : Hp, a h → rdS 2 h v 1 (acl31.flatMap acC)) : ∀ h : Hp, sep [a, p] h → rdS 2 h v acl31.length (acl31.flatMap acC) := by
 intro h hp
 obtain ⟨h1, a1, hp1⟩ := sep_head hp
 exact rdS_mono (ha h1 hp1) a1
theorem part_i {τ : Tr} {u : Who} {r : Rq} {p : HP} {iv : Value} (h : WiA p u iv r) (ha : AclW r.acl) : PtI (partP τ u r).1 := by
 have h1 := part_n τ u h.ses (by have := h.rq.data; omega) ha
 have h2 := part_path h τ
 have h3 := part_acl h τ
 have hu : U64 = 18446744073709551616 := rfl
 refine ⟨?_, h1.own, h1.num, ?_, by omega, by have := h1.data; omega, by omega, fun a ha => (h1.acl.each a ha).1⟩
 ·have hs : ∀ k : Int, 0 ≤ k ∧ k ≤ 8 → I64 k := fun k hk => ⟨by omega, by omega⟩
  unfold partP
  split
  ·exact hs 1 (by omega)
  split
  ·exact hs 2 (by omega)
  split
  ·unfold nodeX
   split
   ·exact hs 3 (by omega)
   split
   ·exact hs 4 (by omega)
   ·exact hs 0 (by omega)
  ·exact hs 0 (by omega)
 ·unfold partP
  split
  ·exact I64.zero
  split
  ·exact I64.zero
  split
  ·unfold nodeX
   split
   ·exact I64.zero
   split <;> exact I64.zero
  ·exact I64.zero
end Go.Proofs.YtmbnebafdhpgpaaGreatDoor
