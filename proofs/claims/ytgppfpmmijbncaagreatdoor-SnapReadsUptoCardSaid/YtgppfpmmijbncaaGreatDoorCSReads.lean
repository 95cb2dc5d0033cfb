/- Own work: snapReads.proved: the given second form, from the walk in the other texts, for arguments of bounded bulk. -/
import Derived.Test.YtgppfpmmijbncaaGreatDoorCSReadsP3
import Derived.Test.YtgppfpmmijbncaaGreatDoorCSReadsP0
import Derived.Test.YtgppfpmmijbncaaGreatDoorRows
import Derived.WalkKit
import Derived.ProofKit
import Derived.OpenShut
import Derived.JoinedCond
import Derived.Carry
import Derived.Deep.Grids
import Derived.Handed
import Derived.Deep.Strs
import Derived.Test.YtgppfpmmijbncaaGreatDoorCSReadsP2
import Derived.Test.YtgppfpmmijbncaaGreatDoorCards
import Derived.Test.YtgppfpmmijbncaaGreatDoorTie
import Derived.Deep.DeepHandedRow
import Derived.Lib.LaidTab
set_option maxRecDepth 100000
namespace Go.Proofs.YtgppfpmmijbncaaGreatDoor
open Go
theorem rfwrong_spec (r : Nat) (s : Bs) (k : Nat) (e e' : Int) : Fn Tryz.prog 134 #[vptr r, vint e'] [rfW r s k e] fun v L => v = .tuple #[] ∧ L = [rfW r s k (if e = 0 then e' else e)] := by
 refine Fn.intro Tryz.func134 rfl rfl fun F W => ?_
 refine .rfOpen (by repeat' constructor) fun hkl hsz => (.sm rfl (.nf rfl fo_175_2 (.u (.ld rfl ag_31) (.ui rfl rfl rfl (.nt (.condD rfl (fun h8 => ?_) (fun h8 => ?_)))))))
 ·refine .region (.m rfl (.m rfl (.nf rfl fo_175_2 (.st rfl rfl rfl sz_31 ?_))))
  refine .nil (.done_n ?_)
  rw [if_pos h8]
  refine .rfFold (r := r) s (k) (e') (by repeat' constructor) (by first | rfl | (simp only [List.set]; congr; omega)) (by omega) hsz ?_
  exact .vv
 refine .skip (.done_n ?_)
 rw [if_neg h8]
 refine .rfFold (r := r) s (k) (e) (by repeat' constructor) (by first | rfl | (simp only [List.set]; congr; omega)) (by omega) hsz ?_
 exact .vv
theorem rfsevens_spec (r : Nat) (s : Bs) (k : Nat) (e : Int) : Fn Tryz.prog 135 #[vptr r] [rfW r s k e] fun v L => ∃ u m e', SevA s k e u m e' ∧ v = .int .u64 (u : Nat) ∧ L = [rfW r s (k + m) e'] := by
 refine Fn.intro Tryz.func135 rfl rfl fun F W => ?_
 refine .rfOpen (by repeat' constructor) fun hkl hsz => (.sr (.an rfl (.seq (.sr ?_))))
 rcases Decidable.em (e = 0) with he0 | he0
 ·subst he0
  refine .m rfl (.nf rfl fo_175_2 (.u (.ld rfl ag_31) (.q (.as (v' := .bool false) (by rfl) (.int rfl rfl rfl)) rfl (.nt (.condF rfl (.sk (.sr (.an rfl (.sr (.an rfl (.sr (.an rfl (.block (.loopK (ι := Nat × Nat) (fun q E => (5, vint ((q.1 + 1 : Nat) : Int)) :: (3, .int .u64 q.2) :: (4, .int .u64 ((128 ^ q.1 : Nat) : Int)) :: E) (fun q => [ptc r [vstr s, vint k, vint 0] 175]) (fun q => k + q.1 ≤ s.length ∧ q.1 ≤ 9 ∧ q.2 < 128 ^ q.1 ∧ sevP q.1 q.2 (s.drop (k + q.1)) = sevP 0 0 (s.drop k)) (fun q => s.length - q.1) (0, 0) (ts := [0]) (.cons rfl (.nil)) (⟨by dsimp only; omega, by dsimp only; omega, by dsimp only; decide, rfl⟩) ⟨rfl, rfl, rfl, rfl, trivial⟩ (by repeat' constructor) ?_))))))))))))))
  rintro ⟨j, u⟩ ⟨hj, hj9, huj, hsv⟩
  dsimp only
  dsimp only at hj hj9 huj hsv
  refine .seq (.block (.seq (.seq (.draw [] [[0, 1, 2, 3, 4, 5, 6, 7, 8, 9, 10, 11]] mixed (by kernel_rfl) (.g0 (.mv rfl rfl (.nf rfl rfl rfl fo_175_1 (.kv rfl (.ld rfl ag_3) (.mv rfl rfl (.kv rfl (.add rfl rfl (by omega)) (.mv rfl rfl (.nf rfl rfl rfl fo_175_0 (.kv rfl (.ld rfl ag_9) (.kv rfl (.strlen rfl Tryz.underlying9 rfl) (.kv rfl (.int rfl rfl rfl) (.pf (.condD rfl (fun h25 => ?_) (fun h25 => ?_))))))))))))))))))
  ·refine .rfFold (r := r) s (k) (0) (by repeat' constructor) (by first | rfl | (simp only [List.set]; congr; omega)) (by omega) hsz (.sm rfl (.oq (.c Tryz.func134 [_, _] (rfwrong_spec r s k 0 10)) ?_))
   rintro v L' ⟨rfl, rfl⟩; rw [if_pos rfl]
   refine .nt (.sr (.an rfl (.rt (.blk_r (.then_r (.then_r (.blk_r ?_)))))))
   exact .dn rfl rfl ⟨0, 0, 10, .inl ⟨.inr (by rw [← hsv]; exact sevP_out (by omega)), rfl, rfl, by decide⟩, rfl, rfl⟩
  have hlt : k + j < s.length := by omega
  have hxl := s[k + j].toNat_lt
  refine .sk (.seq (.draw [] [[0, 1, 2, 3, 4, 5, 6, 7, 8, 9, 10, 11, 12]] mixed (by kernel_rfl) (.g0 (.mv rfl rfl (.nf rfl rfl rfl fo_175_0 (.kv rfl (.ld rfl ag_9) (.mv rfl rfl (.nf rfl rfl rfl fo_175_1 (.kv rfl (.ld rfl ag_3) (.mv rfl rfl (.kv rfl (.add rfl rfl (by omega)) (.kv rfl (.as (v' := vint ((k + j : Nat) : Int)) (by congr 1; omega) (.sub rfl rfl (by omega))) (.kv rfl (.to (v' := vbyte s[k + j]) (.strIndex rfl rfl Tryz.underlying9 (by omega) (by rw [Int.toNat_natCast]; exact List.getElem?_eq_getElem hlt)) rfl) ?_)))))))))))))
  refine D.kv rfl (.assign rfl) (.pf (.seq (.sm rfl (.ui rfl rfl rfl (.m rfl (.dec (t := 42) rfl (fun h11_42 => ?_) (fun h11_42 => ?_)))))))
  ·refine .kDT (t := 41) rfl h11_42 (.grun (t := 42) rfl rfl rfl (.m rfl (.grun (t := 42) rfl rfl rfl (.ui rfl rfl rfl (.u (.pickT rfl rfl) (.nt (.condD rfl (fun h45 => ?_) (fun h45 => ?_))))))))
   ·refine .rfFold (r := r) s (k) (0) (by repeat' constructor) (by first | rfl | (simp only [List.set]; congr; omega)) (by omega) hsz (.sm rfl (.oq (.c Tryz.func134 [_, _] (rfwrong_spec r s k 0 11)) ?_))
    rintro v L' ⟨rfl, rfl⟩; rw [if_pos rfl]
    refine .nt (.sr (.an rfl (.rt (.blk_r (.then_r (.then_r (.blk_r ?_)))))))
    exact .dn rfl rfl ⟨0, 0, 11, .inl ⟨.inr (by rw [← hsv, sevP_at hlt, if_pos (.inl ⟨by omega, by omega⟩)]), rfl, rfl, by decide⟩, rfl, rfl⟩
   refine .sk (.seq ?_)
   have h9 : j = 9 → s[k + j].toNat ≤ 1 := fun g => (by omega)
   refine .region (.m rfl (.m rfl (.q (.to (v' := .int .u8 ((s[k + j].toNat % 128 : Nat) : Int)) (.remU8 rfl rfl (by omega) (by decide)) (by rfl)) rfl (.q (.as (v' := .int .u64 ((s[k + j].toNat % 128 : Nat) : Int)) (by exact congrArg (Value.int .u64) (by rw [u64wrap]; omega)) (.conv rfl Tryz.underlying5 Tryz.underlying171)) rfl (.m rfl (.ui rfl rfl rfl (.q (.as (v' := .int .u64 ((u + s[k + j].toNat % 128 * 128 ^ j : Nat) : Int)) (by exact congrArg (Value.int .u64) (sev_mul hj9 huj (by omega) (fun g => by have := h9 g; omega))) (.int rfl rfl rfl)) rfl (.an rfl (.sm rfl (.ui rfl rfl rfl (.an rfl (.seq (.sm rfl (.ui rfl rfl rfl (.nt (.condD rfl (fun h58 => ?_) (fun h58 => ?_)))))))))))))))))
   ·have hnb : ¬ badB j s[k + j] := by rintro (⟨g1, g2⟩ | ⟨g1, g2⟩); have := h9 g1; omega; omega
    have hj8 : j < 9 := by rcases Nat.lt_or_ge j 9 with g | g; exact g; exact absurd (h9 (by omega)) (by omega)
    refine .exit (.then_e (.blk_e (.then_n (.region (.m rfl (.q (.as (v' := vint ((j + 1 + 1 : Nat) : Int)) (by congr 1) (.add rfl rfl (by omega))) rfl (.an rfl ?_)))))))
    rw [unit_mul hj8]
    exact .rk ((j + 1, u + s[k + j].toNat % 128 * 128 ^ j)) (⟨by dsimp only; omega, by dsimp only; omega, by dsimp only; rw [Nat.pow_succ]; have := Nat.mul_le_mul_right (128 ^ j) (show s[k + j].toNat % 128 ≤ 127 by omega); omega, by dsimp only; rw [← hsv, sevP_at hlt, if_neg hnb, if_neg (by omega)]; rfl⟩) (by dsimp only; omega) ⟨rfl, rfl, rfl, rfl, trivial⟩
   refine .sk (.seq (.sm rfl (.ui rfl rfl rfl (.m rfl (.dec (t := 61) rfl (fun h17_61 => ?_) (fun h17_61 => ?_))))))
   ·refine .kDT (t := 60) rfl h17_61 (.grun (t := 61) rfl rfl rfl (.m rfl (.grun (t := 61) rfl rfl rfl (.ui rfl rfl rfl (.u (.pickT rfl rfl) (.nt (.condD rfl (fun h64 => ?_) (fun h64 => ?_))))))))
    ·refine .rfFold (r := r) s (k) (0) (by repeat' constructor) (by first | rfl | (simp only [List.set]; congr; omega)) (by omega) hsz (.sm rfl (.oq (.c Tryz.func134 [_, _] (rfwrong_spec r s k 0 11)) ?_))
     rintro v L' ⟨rfl, rfl⟩; rw [if_pos rfl]
     refine .nt (.sr (.an rfl (.rt (.blk_r (.then_r (.then_r (.blk_r ?_)))))))
     exact .dn rfl rfl ⟨0, 0, 11, .inl ⟨.inr (by rw [← hsv, sevP_at hlt, if_pos (.inr ⟨by omega, by omega⟩)]), rfl, rfl, by decide⟩, rfl, rfl⟩
    refine .sk (.seq ?_)
    have hnb : ¬ badB j s[k + j] := by rintro (⟨g1, g2⟩ | ⟨g1, g2⟩); have := h9 g1; omega; omega
    refine .region (.m rfl (.m rfl (.nf rfl fo_175_1 (.u (.ld rfl ag_3) (.m rfl (.q (.add rfl rfl (by omega)) rfl (.nf rfl fo_175_1 (.st rfl rfl rfl sz_3 ?_))))))))
    refine .nt (.sm rfl (.an rfl (.ret (.blk_r (.then_r (.then_r (.blk_r (.rfFold (r := r) s (k + (j + 1)) (0) (by repeat' constructor) (by first | rfl | (simp only [List.set]; congr; omega)) (by omega) hsz ?_))))))))
    exact .dn rfl rfl ⟨_, j + 1, 0, .inr ⟨rfl, rfl, by omega, by rw [← hsv, sevP_at hlt, if_neg hnb, if_pos (by omega)]; rfl⟩, rfl, rfl⟩
   refine .kDF (t := 60) rfl h17_61 (.gk (.gk (.u (.pickF rfl rfl) (.nt (.condF rfl (.sk (.seq ?_)))))))
   have hnb : ¬ badB j s[k + j] := by rintro (⟨g1, g2⟩ | ⟨g1, g2⟩); have := h9 g1; omega; omega
   refine .region (.m rfl (.m rfl (.nf rfl fo_175_1 (.u (.ld rfl ag_3) (.m rfl (.q (.add rfl rfl (by omega)) rfl (.nf rfl fo_175_1 (.st rfl rfl rfl sz_3 ?_))))))))
   refine .nt (.sm rfl (.an rfl (.ret (.blk_r (.then_r (.then_r (.blk_r (.rfFold (r := r) s (k + (j + 1)) (0) (by repeat' constructor) (by first | rfl | (simp only [List.set]; congr; omega)) (by omega) hsz ?_))))))))
   exact .dn rfl rfl ⟨_, j + 1, 0, .inr ⟨rfl, rfl, by omega, by rw [← hsv, sevP_at hlt, if_neg hnb, if_pos (by omega)]; rfl⟩, rfl, rfl⟩
  refine .kDF (t := 41) rfl h11_42 (.gk (.gk (.u (.pickF rfl rfl) (.nt (.condF rfl (.sk (.seq ?_)))))))
  have h9 : j = 9 → s[k + j].toNat ≤ 1 := fun g => absurd g (by omega)
  refine .region (.m rfl (.m rfl (.q (.to (v' := .int .u8 ((s[k + j].toNat % 128 : Nat) : Int)) (.remU8 rfl rfl (by omega) (by decide)) (by rfl)) rfl (.q (.as (v' := .int .u64 ((s[k + j].toNat % 128 : Nat) : Int)) (by exact congrArg (Value.int .u64) (by rw [u64wrap]; omega)) (.conv rfl Tryz.underlying5 Tryz.underlying171)) rfl (.m rfl (.ui rfl rfl rfl (.q (.as (v' := .int .u64 ((u + s[k + j].toNat % 128 * 128 ^ j : Nat) : Int)) (by exact congrArg (Value.int .u64) (sev_mul hj9 huj (by omega) (fun g => by have := h9 g; omega))) (.int rfl rfl rfl)) rfl (.an rfl (.sm rfl (.ui rfl rfl rfl (.an rfl (.seq (.sm rfl (.ui rfl rfl rfl (.nt (.condD rfl (fun h58 => ?_) (fun h58 => ?_)))))))))))))))))
  ·have hnb : ¬ badB j s[k + j] := by rintro (⟨g1, g2⟩ | ⟨g1, g2⟩); have := h9 g1; omega; omega
   have hj8 : j < 9 := by rcases Nat.lt_or_ge j 9 with g | g; exact g; exact absurd (h9 (by omega)) (by omega)
   refine .exit (.then_e (.blk_e (.then_n (.region (.m rfl (.q (.as (v' := vint ((j + 1 + 1 : Nat) : Int)) (by congr 1) (.add rfl rfl (by omega))) rfl (.an rfl ?_)))))))
   rw [unit_mul hj8]
   exact .rk ((j + 1, u + s[k + j].toNat % 128 * 128 ^ j)) (⟨by dsimp only; omega, by dsimp only; omega, by dsimp only; rw [Nat.pow_succ]; have := Nat.mul_le_mul_right (128 ^ j) (show s[k + j].toNat % 128 ≤ 127 by omega); omega, by dsimp only; rw [← hsv, sevP_at hlt, if_neg hnb, if_neg (by omega)]; rfl⟩) (by dsimp only; omega) ⟨rfl, rfl, rfl, rfl, trivial⟩
  refine .sk (.seq (.sm rfl (.ui rfl rfl rfl (.m rfl (.dec (t := 61) rfl (fun h17_61 => ?_) (fun h17_61 => ?_))))))
  ·refine .kDT (t := 60) rfl h17_61 (.grun (t := 61) rfl rfl rfl (.m rfl (.grun (t := 61) rfl rfl rfl (.ui rfl rfl rfl (.u (.pickT rfl rfl) (.nt (.condD rfl (fun h64 => ?_) (fun h64 => ?_))))))))
   ·refine .rfFold (r := r) s (k) (0) (by repeat' constructor) (by first | rfl | (simp only [List.set]; congr; omega)) (by omega) hsz (.sm rfl (.oq (.c Tryz.func134 [_, _] (rfwrong_spec r s k 0 11)) ?_))
    rintro v L' ⟨rfl, rfl⟩; rw [if_pos rfl]
    refine .nt (.sr (.an rfl (.rt (.blk_r (.then_r (.then_r (.blk_r ?_)))))))
    exact .dn rfl rfl ⟨0, 0, 11, .inl ⟨.inr (by rw [← hsv, sevP_at hlt, if_pos (.inr ⟨by omega, by omega⟩)]), rfl, rfl, by decide⟩, rfl, rfl⟩
   refine .sk (.seq ?_)
   have hnb : ¬ badB j s[k + j] := by rintro (⟨g1, g2⟩ | ⟨g1, g2⟩); have := h9 g1; omega; omega
   refine .region (.m rfl (.m rfl (.nf rfl fo_175_1 (.u (.ld rfl ag_3) (.m rfl (.q (.add rfl rfl (by omega)) rfl (.nf rfl fo_175_1 (.st rfl rfl rfl sz_3 ?_))))))))
   refine .nt (.sm rfl (.an rfl (.ret (.blk_r (.then_r (.then_r (.blk_r (.rfFold (r := r) s (k + (j + 1)) (0) (by repeat' constructor) (by first | rfl | (simp only [List.set]; congr; omega)) (by omega) hsz ?_))))))))
   exact .dn rfl rfl ⟨_, j + 1, 0, .inr ⟨rfl, rfl, by omega, by rw [← hsv, sevP_at hlt, if_neg hnb, if_pos (by omega)]; rfl⟩, rfl, rfl⟩
  refine .kDF (t := 60) rfl h17_61 (.gk (.gk (.u (.pickF rfl rfl) (.nt (.condF rfl (.sk (.seq ?_)))))))
  have hnb : ¬ badB j s[k + j] := by rintro (⟨g1, g2⟩ | ⟨g1, g2⟩); have := h9 g1; omega; omega
  refine .region (.m rfl (.m rfl (.nf rfl fo_175_1 (.u (.ld rfl ag_3) (.m rfl (.q (.add rfl rfl (by omega)) rfl (.nf rfl fo_175_1 (.st rfl rfl rfl sz_3 ?_))))))))
  refine .nt (.sm rfl (.an rfl (.ret (.blk_r (.then_r (.then_r (.blk_r (.rfFold (r := r) s (k + (j + 1)) (0) (by repeat' constructor) (by first | rfl | (simp only [List.set]; congr; omega)) (by omega) hsz ?_))))))))
  exact .dn rfl rfl ⟨_, j + 1, 0, .inr ⟨rfl, rfl, by omega, by rw [← hsv, sevP_at hlt, if_neg hnb, if_pos (by omega)]; rfl⟩, rfl, rfl⟩
 refine .m rfl (.nf rfl fo_175_2 (.u (.ld rfl ag_31) (.q (.as (v' := .bool true) (by simp [he0]) (.int rfl rfl rfl)) rfl (.nt (.condT rfl (.sr (.an rfl (.rt (.rfFold (r := r) s (k) (e) (by repeat' constructor) (by first | rfl | (simp only [List.set]; congr; omega)) (by omega) hsz ?_)))))))))
 exact .dn rfl rfl ⟨0, 0, e, .inl ⟨.inl he0, rfl, rfl, he0⟩, rfl, rfl⟩
theorem rfzag_spec (u : Nat) (hu : u < U64) : Fn Tryz.prog 136 #[.int .u64 (u : Nat)] [] fun v L => v = vint (zagZ u) ∧ L = [] := by
 refine Fn.intro Tryz.func136 rfl rfl fun F W => ?_
 have h64 : U64 = 18446744073709551616 := rfl
 refine .sr (.an rfl (.seq (.sm rfl (.q (.to (v' := .int .u64 ((u % 2 : Nat) : Int)) (.remU rfl rfl (by omega) (by decide)) (by rfl)) rfl (.ui rfl rfl rfl (.nt (.condD rfl (fun h5 => ?_) (fun h5 => ?_))))))))
 ·refine .sm rfl (.q (.to (v' := .int .u64 ((u / 2 : Nat) : Int)) (.quoU rfl rfl (by omega) (by decide)) (by rfl)) rfl (.q (.as (v' := vint ((u / 2 : Nat) : Int)) (by rw [i64w (by omega)]) (.conv rfl Tryz.underlying171 Tryz.underlying3)) rfl (.an rfl (.rt ?_))))
  exact .dn rfl rfl ⟨congrArg vint (by unfold zagZ; rw [if_pos (by omega)]), rfl⟩
 refine .sk (.sm rfl (.q (.to (v' := .int .u64 ((u / 2 : Nat) : Int)) (.quoU rfl rfl (by omega) (by decide)) (by rfl)) rfl (.q (.as (v' := vint ((u / 2 : Nat) : Int)) (by rw [i64w (by omega)]) (.conv rfl Tryz.underlying171 Tryz.underlying3)) rfl (.q (.neg rfl (by omega)) rfl (.q (.sub rfl rfl (by omega)) rfl (.an rfl (.ret ?_)))))))
 exact .dn rfl rfl ⟨congrArg vint (by unfold zagZ; rw [if_neg (by omega)]), rfl⟩
theorem rfnumW_spec (r : Nat) (s : Bs) (k : Nat) (e : Int) : Fn Tryz.prog 101 #[vptr r] [rfW r s k e] fun v L => ∃ k' e', stW s k' e' = (runP 0 numP (stW s k e)).2 ∧ v = vint (runP 0 numP (stW s k e)).1 ∧ L = [rfW r s k' e'] := by
 refine Fn.intro Tryz.func101 rfl rfl fun F W => ?_
 refine .sr (.an rfl (.sm rfl (.oq (.c Tryz.func135 [_] (rfsevens_spec r s k e)) ?_)))
 rintro v L' ⟨u, m, e', hA, rfl, rfl⟩; have hu := hA.lt
 refine .an rfl (.sm rfl (.cv Tryz.func136 [_] (rfzag_spec u hu) ?_))
 refine .an rfl (.ret ?_)
 rw [hA.num.2]
 exact .dn rfl rfl ⟨k + m, e', hA.num.1, rfl, rfl⟩
theorem SevA.fine {s : Bs} {k : Nat} {e : Int} {u m : Nat} {e' : Int} (h : SevA s k e u m e') (g : e' ≠ 0) : u = 0 := by
 rcases h with ⟨-, rfl, -⟩ | ⟨-, h, -⟩
 ·rfl
 ·exact absurd h g
theorem rfcountW_spec (r most : Nat) (hm : most ≤ 70368744177664) (s : Bs) (k : Nat) (e : Int) : Fn Tryz.prog 102 #[vptr r, vint most] [rfW r s k e] fun v L => ∃ k' e', k' ≤ s.length ∧ stW s k' e' = (runP 0 (cntP most) (stW s k e)).2 ∧ v = vint ((runP 0 (cntP most) (stW s k e)).1 : Nat) ∧ L = [rfW r s k' e'] := by
 refine Fn.intro Tryz.func102 rfl rfl fun F W => ?_
 refine .rfOpen (by repeat' constructor) fun hkl hsz => (.sr (.an rfl (.sm rfl (.nf rfl fo_175_1 (.u (.ld rfl ag_3) (.a rfl (.nil (.rfFold (r := r) s (k) (e) (by repeat' constructor) (by first | rfl | (simp only [List.set]; congr; omega)) (by omega) hsz (.then_n (.sm rfl (.oq (.c Tryz.func135 [_] (rfsevens_spec r s k e)) ?_)))))))))))
 rintro v L' ⟨u, m, e', hA, rfl, rfl⟩; have hu := hA.lt
 refine .an rfl (.seq (.seq (.rfOpen (by repeat' constructor) fun hkm hsz => (.region (.m rfl (.nf rfl fo_175_2 (.u (.ld rfl ag_31) (.ui rfl rfl rfl (.m rfl (.dec (t := 18) rfl (fun h3_18 => ?_) (fun h3_18 => ?_)))))))))))
 ·refine .kDT (t := 17) rfl h3_18 (.grun (t := 18) rfl rfl rfl (.m rfl (.grun (t := 18) rfl rfl rfl (.m rfl (.grun (t := 18) rfl rfl rfl (.q (.as (v' := vint (most : Nat)) (by rw [Int.max_eq_left (by omega)]) (.max2 rfl rfl)) rfl (.grun (t := 18) rfl rfl rfl (.q (.as (v' := .int .u64 (most : Nat)) (by exact congrArg (Value.int .u64) (by rw [u64wrap]; omega)) (.conv rfl Tryz.underlying3 Tryz.underlying171)) rfl (.grun (t := 18) rfl rfl rfl (.ui rfl rfl rfl (.u (.pickT rfl rfl) (.nt (.condD rfl (fun h24 => ?_) (fun h24 => ?_))))))))))))))
  ·refine .sm rfl (.m rfl (.nf rfl fo_175_1 (.st rfl rfl rfl sz_3 ?_)))
   refine .nil (.rfFold (r := r) s (k) (e') (by repeat' constructor) (by first | rfl | (simp only [List.set]; congr; omega)) (by omega) hsz (.then_n (.sm rfl (.cv Tryz.func134 [_, _] (rfwrong_spec r s k e' 12) ?_))))
   refine .nt (.sr (.an rfl (.rt ?_)))
   rw [hA.cntT (most := most) (by omega)]
   exact .dn rfl rfl ⟨k, _, hkl, st_none (x := 12) (by decide), rfl, rfl⟩
  refine .sk (.seq ?_)
  have hnm : ¬ most < u := by omega
  have hu64 : U64 = 18446744073709551616 := rfl
  refine .region (.m rfl (.q (.as (v' := vint (u : Nat)) (by rw [i64w (by have : u ≤ most := Nat.not_lt.1 hnm; omega)]) (.conv rfl Tryz.underlying171 Tryz.underlying3)) rfl (.an rfl (.ret (.rfFold (r := r) s (k + m) (e') (by repeat' constructor) (by first | rfl | (simp only [List.set]; congr; omega)) (by omega) hsz ?_)))))
  obtain ⟨hc1, hc2⟩ := hA.cntF hnm
  rw [hc2]
  exact .dn rfl rfl ⟨k + m, e', hkm, hc1, rfl, rfl⟩
 refine .kDF (t := 17) rfl h3_18 (.gk (.gk (.gk (.gk (.gk (.u (.pickF rfl rfl) (.nt (.condF rfl (.sk (.seq ?_))))))))))
 have hnm : ¬ most < u := by have := hA.fine h3_18; omega
 have hu64 : U64 = 18446744073709551616 := rfl
 refine .region (.m rfl (.q (.as (v' := vint (u : Nat)) (by rw [i64w (by have : u ≤ most := Nat.not_lt.1 hnm; omega)]) (.conv rfl Tryz.underlying171 Tryz.underlying3)) rfl (.an rfl (.ret (.rfFold (r := r) s (k + m) (e') (by repeat' constructor) (by first | rfl | (simp only [List.set]; congr; omega)) (by omega) hsz ?_)))))
 obtain ⟨hc1, hc2⟩ := hA.cntF hnm
 rw [hc2]
 exact .dn rfl rfl ⟨k + m, e', hkm, hc1, rfl, rfl⟩
theorem st_bad {s : Bs} {k : Nat} {e : Int} (h : ¬ e = 0) : stW s k e = none := if_neg h
theorem txt_bad {most : Nat} {st : Rs} (h : (runP 0 (cntP most) st).2 = none) : (runP [] (txtP most) st).2 = none ∧ (runP [] (txtP most) st).1 = [] := by
  cases st with
  | none => exact ⟨rfl, rfl⟩
  | some q =>
    cases hc : cntP most q with
    | none => have f2 : runP [] (txtP most) (some q) = ([], none) := by unfold runP txtP; dsimp only; rw [hc]
              rw [f2]; exact ⟨rfl, rfl⟩
    | some x => have f : runP 0 (cntP most) (some q) = (x.1, some x.2) := by unfold runP; dsimp only; rw [hc]
                rw [f] at h; cases h
theorem rftextW_spec (r most : Nat) (hm : most ≤ 70368744177664) (s : Bs) (k : Nat) (e : Int) : Fn Tryz.prog 100 #[vptr r, vint most] [rfW r s k e] fun v L => ∃ k' e', stW s k' e' = (runP [] (txtP most) (stW s k e)).2 ∧ v = vstr (runP [] (txtP most) (stW s k e)).1 ∧ L = [rfW r s k' e'] := by
 refine Fn.intro Tryz.func100 rfl rfl fun F W => ?_
 refine .rfOpen (by repeat' constructor) fun hkl hsz => (.sr (.an rfl (.sm rfl (.nf rfl fo_175_1 (.u (.ld rfl ag_3) (.a rfl (.nil (.rfFold (r := r) s (k) (e) (by repeat' constructor) (by first | rfl | (simp only [List.set]; congr; omega)) (by omega) hsz (.then_n (.sm rfl (.m rfl (.oq (.c Tryz.func102 [_, _] (rfcountW_spec r most hm s k e)) ?_))))))))))))
 rintro v L' ⟨k1, e1, hk1, hs1, rfl, rfl⟩; obtain ⟨n, hn⟩ : ∃ n, n = (runP 0 (cntP most) (stW s k e)).1 := ⟨_, rfl⟩; rw [← hn]
 refine .a rfl (.nil ?_)
 have hrun := txt_run hs1 hn hk1
 refine .then_n (.seq (.seq (.rfOpen (by repeat' constructor) fun _ _ => (.region (.m rfl (.nf rfl fo_175_2 (.u (.ld rfl ag_31) (.ui rfl rfl rfl (.nt (.condN rfl (fun h19 => ?_) (fun h19 => ?_)))))))))))
 ·have hst1 := st_bad (s := s) (k := k1) h19
  rw [hs1] at hst1
  obtain ⟨hb1, hb2⟩ := txt_bad hst1
  refine .sr (.an rfl (.rt (.rfFold (r := r) s (k1) (e1) (by repeat' constructor) (by first | rfl | (simp only [List.set]; congr; omega)) (by omega) hsz ?_)))
  rw [hb2]
  exact .dn rfl rfl ⟨k1, e1, (by rw [hb1]; exact st_bad h19), rfl, rfl⟩
 refine .sk (.seq (.seq (.draw [] [[0, 1, 2, 3, 4, 5, 6, 7, 8, 9, 10, 11]] mixed (by kernel_rfl) (.g0 (.mv rfl rfl (.nf rfl rfl rfl fo_175_0 (.kv rfl (.ld rfl ag_9) (.kv rfl (.strlen rfl Tryz.underlying9 rfl) (.mv rfl rfl (.nf rfl rfl rfl fo_175_1 (.kv rfl (.ld rfl ag_3) (.kv rfl (.sub rfl rfl (by omega)) (.mv rfl rfl (.kv rfl (.int rfl rfl rfl) (.pf (.condD rfl (fun h31 => ?_) (fun h31 => ?_)))))))))))))))))
 ·refine .sm rfl (.m rfl (.nf rfl fo_175_1 (.st rfl rfl rfl sz_3 ?_)))
  refine .nil (.rfFold (r := r) s (k) (e1) (by repeat' constructor) (by first | rfl | (simp only [List.set]; congr; omega)) (by omega) hsz (.then_n (.sm rfl (.cv Tryz.func134 [_, _] (rfwrong_spec r s k e1 10) ?_))))
  refine .nt (.sr (.an rfl (.rt ?_)))
  rw [hrun.1 (by omega)]
  exact .dn rfl rfl ⟨k, _, st_none (x := 10) (by decide), rfl, rfl⟩
 obtain ⟨hr1, hr2⟩ := hrun.2 (by omega)
 refine .sk (.seq (.draw [] [[0, 1, 2, 3, 4, 5, 6, 7, 8, 9, 10, 11, 12, 13, 14, 15]] mixed (by kernel_rfl) (.g0 (.mv rfl rfl (.nf rfl rfl rfl fo_175_0 (.kv rfl (.ld rfl ag_9) (.mv rfl rfl (.nf rfl rfl rfl fo_175_1 (.kv rfl (.ld rfl ag_3) (.mv rfl rfl (.nf rfl rfl rfl fo_175_1 (.kv rfl (.ld rfl ag_3) (.mv rfl rfl (.kv rfl (.as (v' := vint ((k1 + n : Nat) : Int)) (by first | rfl | (congr 1; omega)) (.add rfl rfl (by omega))) (.kv rfl (.to (v' := vstr ((s.take (k1 + n)).drop k1)) (.strMid rfl rfl rfl Tryz.underlying9 (by omega)) (by rfl)) (.kv rfl (.assign rfl) (.pf (.sm rfl (.m rfl (.nf rfl fo_175_1 (.u (.ld rfl ag_3) ?_)))))))))))))))))))))
 refine .m rfl (.q (.add rfl rfl (by omega)) rfl (.nf rfl fo_175_1 (.st rfl rfl rfl sz_3 ?_)))
 refine .nt (.sm rfl (.an rfl (.ret (.rfFold (r := r) s (k1 + n) (e1) (by repeat' constructor) (by first | rfl | (simp only [List.set]; congr; omega)) (by omega) hsz ?_))))
 rw [hr2]
 exact .dn rfl rfl ⟨k1 + n, e1, hr1, rfl, rfl⟩
theorem rfendW_spec (r : Nat) (s : Bs) (k : Nat) (e : Int) : Fn Tryz.prog 105 #[vptr r] [rfW r s k e] fun v L => ∃ e1, (e1 = 0 ↔ stW s k e = some []) ∧ v = vint e1 ∧ L = [rfW r s k e1] := by
 refine Fn.intro Tryz.func105 rfl rfl fun F W => ?_
 refine .rfOpen (by repeat' constructor) fun hkl hsz => (.sr (.an rfl (.seq (.seq (.draw [] [[0, 1, 2, 3, 4, 5, 6, 7, 8, 9]] mixed (by kernel_rfl) (.g0 (.mv rfl rfl (.nf rfl rfl rfl fo_175_1 (.kv rfl (.ld rfl ag_3) (.mv rfl rfl (.nf rfl rfl rfl fo_175_0 (.kv rfl (.ld rfl ag_9) (.kv rfl (.strlen rfl Tryz.underlying9 rfl) (.kv rfl (.int rfl rfl rfl) (.pf (.condN rfl (fun h12 => ?_) (fun h12 => ?_)))))))))))))))))
 ·refine .rfFold (r := r) s (k) (e) (by repeat' constructor) (by first | rfl | (simp only [List.set]; congr; omega)) (by omega) hsz (.region (.m rfl (.cv Tryz.func134 [_, _] (rfwrong_spec r s k e 11) ?_)))
  refine .nt (.seq (.rfOpen (by repeat' constructor) fun _ _ => (.region (.m rfl (.nf rfl fo_175_2 (.u (.ld rfl ag_31) (.an rfl (.ret (.rfFold (r := r) s (k) (if e = 0 then 11 else e) (by repeat' constructor) (by first | rfl | (simp only [List.set]; congr; omega)) (by omega) hsz ?_)))))))))
  exact .dn rfl rfl ⟨_, end_T (by omega), rfl, rfl⟩
 refine .sk (.sm rfl (.nf rfl fo_175_2 (.u (.ld rfl ag_31) (.an rfl (.ret (.rfFold (r := r) s (k) (e) (by repeat' constructor) (by first | rfl | (simp only [List.set]; congr; omega)) (by omega) hsz ?_))))))
 exact .dn rfl rfl ⟨_, end_F (by omega), rfl, rfl⟩
theorem rfnum_spec (r : Nat) (st : Rs) : Fn Tryz.prog 101 #[vptr r] [rfR r st] fun v L => v = vint (runP 0 numP st).1 ∧ L = [rfR r (runP 0 numP st).2] := Fn.rfUp (v := vint) (fun s k e => rfnumW_spec r s k e) st
theorem rfcount_spec (r most : Nat) (hm : most ≤ 70368744177664) (st : Rs) : Fn Tryz.prog 102 #[vptr r, vint most] [rfR r st] fun v L => v = vint ((runP 0 (cntP most) st).1 : Nat) ∧ L = [rfR r (runP 0 (cntP most) st).2] := Fn.rfUp (v := fun n : Nat => vint n) (fun s k e => (rfcountW_spec r most hm s k e).mono fun _ _ ⟨k', e', _, h⟩ => ⟨k', e', h⟩) st
theorem rftext_spec (r most : Nat) (hm : most ≤ 70368744177664) (st : Rs) : Fn Tryz.prog 100 #[vptr r, vint most] [rfR r st] fun v L => v = vstr (runP [] (txtP most) st).1 ∧ L = [rfR r (runP [] (txtP most) st).2] := Fn.rfUp (v := vstr) (fun s k e => rftextW_spec r most hm s k e) st
theorem rfend_spec (r : Nat) (st : Rs) : Fn Tryz.prog 105 #[vptr r] [rfR r st] fun v L => ∃ e1, (e1 = 0 ↔ st = some []) ∧ v = vint e1 ∧ ∃ st', L = [rfR r st'] := Fn.rfEnd (fun s k e => rfendW_spec r s k e) st
theorem rfnumN_spec (r : Nat) (st : Rs) : Fn Tryz.prog 101 #[vptr r] [rfR r st] fun v L => v = vint (numR st).1 ∧ L = [rfR r (numR st).2] := rfnum_spec r st
theorem rftxtN_spec (r : Nat) (st : Rs) : Fn Tryz.prog 100 #[vptr r, vint 4096] [rfR r st] fun v L => v = vstr (txtR st).1 ∧ L = [rfR r (txtR st).2] := rftext_spec r 4096 (by decide) st
theorem rftxt4_spec (r : Nat) (st : Rs) : Fn Tryz.prog 100 #[vptr r, vint 4] [rfR r st] fun v L => v = vstr (txt4R st).1 ∧ L = [rfR r (txt4R st).2] := rftext_spec r 4 (by decide) st
theorem rfcntN_spec (r : Nat) (st : Rs) : Fn Tryz.prog 102 #[vptr r, vint 256] [rfR r st] fun v L => v = vint ((cntR st).1 : Nat) ∧ L = [rfR r (cntR st).2] := rfcount_spec r 256 (by decide) st
theorem stW_iff {s : Bs} {k : Nat} {e : Int} {st : Rs} (h : stW s k e = st) : e = 0 ↔ st ≠ none := by
 subst h
 unfold stW
 split
 ·rename_i h; exact ⟨fun _ => by simp, fun _ => h⟩
 ·rename_i h; exact ⟨fun g => absurd g h, fun g => absurd rfl g⟩
theorem many_fail {α : Type} {f : Rn α} (hs : Strict f) : ∀ (n j : Nat) (st : Rs), j ≤ n → (manyR f j st).2 = none → (manyR f n st).2 = none
 | 0, j, st, hj, h => by
  have : j = 0 := by omega
  subst this; exact h
 | n + 1, j, st, hj, h => by
  by_cases e : j = n + 1
  ·subst e; exact h
  ·show (f (manyR f n st).2).2 = none
   rw [many_fail hs n j st (by omega) h]; exact hs
theorem ints_getD {l : List Int} {c : Nat} (h : c < l.length) : (ints l)[c]? = some (vint (l.getD c 0)) := by simp [ints, h]
theorem seven_set {l : List Int} {k : Nat} (hk : k < 7) (hl : l.length = k) (n : Int) : (ints l ++ List.replicate (7 - k) (vint 0)).set (k * 1) (vint n) = ints (l ++ [n]) ++ List.replicate (7 - (k + 1)) (vint 0) := by
 have e : List.replicate (7 - k) (vint 0) = vint 0 :: List.replicate (7 - (k + 1)) (vint 0) := by rw [show 7 - k = (7 - (k + 1)) + 1 by omega]; rfl
 rw [e, Nat.mul_one, List.set_append_right _ _ (by simp [ints]; omega)]
 have : k - (ints l).length = 0 := by simp [ints]; omega
 rw [this]
 simp [ints]
theorem take_same8 {st : Rs} {l : List Ac} (h : l = (manyR acR (cntR (txtR (txtR st).2).2).1 (cntR (txtR (txtR st).2).2).2).1) : (((txtR st).1, (⟨(txtR (txtR st).2).1, l, st7 (manyR numR 7 (manyR acR (cntR (txtR (txtR st).2).2).1 (cntR (txtR (txtR st).2).2).2).2).1⟩ : Nd)) : PN) = (ndR st).1 := by rw [h]; rfl
theorem G.rfCastS {W : World} {n : Nat} {ds : List Deferred} {E : Env} {L R : List HP} {X : Act → World → Prop} {r : Nat} {st st' : Rs} (hL : Pick (rfR r st) L R) (hw : st = st') (h : G W n ds E (rfR r st' :: R) X) : G W n ds E L X := by
 subst hw; exact G.focus hL h
structure TakeZ (st : Rs) (z : Rno) : Prop where
 path : z.1 = (txtR st).1
 few : z.2.2.acl.length ≤ 256
 cell : isCell z.2.1 = true
 all : (ndR st).2 ≠ none → (z.1, z.2.2) = (ndR st).1
theorem rtake_spec (r : Nat) (st : Rs) : Fn Tryz.prog 103 #[vptr r] [rfR r st] fun v L => ∃ z : Rno, v = .agg (rnC z).toArray ∧ TakeZ st z ∧ L = [rfR r (ndR st).2, inA z] := by
 refine Fn.intro Tryz.func103 rfl rfl fun F W => ?_
 obtain ⟨na, hna⟩ : ∃ n, n = (cntR (txtR (txtR st).2).2).1 := ⟨_, rfl⟩
 have hna2 : na ≤ 256 := by rw [hna]; exact cntR_le _
 refine .sr (.oq (.allocA ze_129) ?_)
 rintro v L' ⟨b2, rfl, rfl⟩
 refine .nt (.sr (.q (.to (v' := .agg ([vstr [], vstr [], .slice none 0 0, vint 0, vint 0, vint 0, vint 0, vint 0, vint 0, vint 0, vint 0, vint 0] : List Value).toArray) (.buildN (pl := [(0, 1), (1, 1), (2, 1), (3, 9)]) (us := []) (cells := [vstr [], vstr [], .slice none 0 0, vint 0, vint 0, vint 0, vint 0, vint 0, vint 0, vint 0, vint 0, vint 0]) Tryz.underlying129 (by kernel_rfl) ze_129 rfl rfl) rfl) rfl (.oq (.allocA ze_129) ?_)))
 rintro v L' ⟨b3, rfl, rfl⟩
 refine .oq (.storeA rfl rfl ?c6 sz_129 ?c9 ?c7 (nfz0 _ _)) ?_
 case c6 => simp [isCell]
 case c9 => rfl
 case c7 => simp
 rintro v L' rfl
 refine .nil (.ptCast (b := b3) (l' := [vstr [], vstr [], .slice none 0 0, vint 0, vint 0, vint 0, vint 0, vint 0, vint 0, vint 0, vint 0, vint 0]) (by repeat' constructor) rfl (.then_n (.sm rfl (.cv Tryz.func100 [_, _] (rftxtN_spec r st) ?_))))
 refine .u (.fieldAddr rfl fo_129_0) (.st rfl rfl rfl sz_9 ?_)
 refine .nt (.sm rfl (.cv Tryz.func100 [_, _] (rftxtN_spec r (txtR st).2) ?_))
 refine .u (.fieldAddr rfl fo_129_1) (.st rfl rfl rfl sz_9 ?_)
 refine .nil (.ptCast (b := b3) (l' := [vstr (txtR st).1, vstr (txtR (txtR st).2).1, .slice none 0 0, vint 0, vint 0, vint 0, vint 0, vint 0, vint 0, vint 0, vint 0, vint 0]) (by repeat' constructor) rfl (.then_n (.sm rfl (.oq (.c Tryz.func102 [_, _] (rfcntN_spec r (txtR (txtR st).2).2)) ?_))))
 rintro v L' ⟨rfl, rfl⟩; rw [show (cntR (txtR (txtR st).2).2).1 = na from hna.symm]
 refine .a rfl (.nil (.add (slR_nil 90 2) (.then_n (.seq (.joinK (ι := Value × (List Ac)) (fun q E => E) (fun q => [rfR r (manyR acR (cntR (txtR (txtR st).2).2).1 (cntR (txtR (txtR st).2).2).2).2, ptc b3 ([vstr (txtR st).1, vstr (txtR (txtR st).2).1, q.1, vint 0, vint 0, vint 0, vint 0, vint 0, vint 0, vint 0, vint 0, vint 0]) 129, slR 90 2 q.1 q.2.length (q.2.flatMap acC)]) (fun q => (∃ a c, q.1 = .slice a q.2.length c) ∧ q.2.length ≤ 256 ∧ ((manyR acR (cntR (txtR (txtR st).2).2).1 (cntR (txtR (txtR st).2).2).2).2 ≠ none → q.2 = (manyR acR (cntR (txtR (txtR st).2).2).1 (cntR (txtR (txtR st).2).2).2).1)) (pre := [rfR r (cntR (txtR (txtR st).2).2).2, ptc b3 ([vstr (txtR st).1, vstr (txtR (txtR st).2).1, .slice none 0 0, vint 0, vint 0, vint 0, vint 0, vint 0, vint 0, vint 0, vint 0, vint 0]) 129, slR 90 2 (.slice none 0 0) 0 []]) (ts := [0, 2, 3]) (.cons rfl (.cons rfl (.cons rfl (.nil)))) (by repeat' constructor) ?_ ?_)))))
 ·refine .sr (.an rfl (.block (.loopK (ι := Nat × Value) (fun q E => (5, vint q.1) :: E) (fun q => [rfR r (manyR acR q.1 (cntR (txtR (txtR st).2).2).2).2, ptc b3 ([vstr (txtR st).1, vstr (txtR (txtR st).2).1, q.2, vint 0, vint 0, vint 0, vint 0, vint 0, vint 0, vint 0, vint 0, vint 0]) 129, slR 90 2 q.2 q.1 ((manyR acR q.1 (cntR (txtR (txtR st).2).2).2).1.flatMap acC)]) (fun q => q.1 ≤ na ∧ ∃ a c, q.2 = .slice a q.1 c) (fun q => na - q.1) (0, .slice none 0 0) (ts := [0, 2, 3, 4]) (.cons rfl (.cons rfl (.cons rfl (.cons rfl (.nil))))) (⟨Nat.zero_le _, none, 0, rfl⟩) ⟨rfl, rfl, rfl, rfl, rfl, trivial⟩ (by repeat' constructor) ?_)))
  rintro ⟨i, u⟩ ⟨hi, au, cu, hu⟩
  dsimp only
  dsimp only at hi hu
  subst hu
  refine .seq (.sm rfl (.m rfl (.ui rfl rfl rfl (.m rfl (.dec (t := 22) rfl (fun h6_22 => ?_) (fun h6_22 => ?_))))))
  ·refine .kDT (t := 21) rfl h6_22 (.rfLook (by repeat' constructor) fun s k e hst hkl hsz => ?_)
   have hee := stW_iff hst
   refine .grun (t := 22) rfl rfl rfl (.m rfl (.grun (t := 22) rfl rfl rfl (.u (.nilp rfl) (.grun (t := 22) rfl rfl rfl (.u (.fieldAddr rfl fo_175_2) (.grun (t := 22) rfl rfl rfl (.u (.ld rfl ag_31) (.grun (t := 22) rfl rfl rfl (.ui rfl rfl rfl (.u (.pickT rfl rfl) (.nil (.rfFold (r := r) s k e (by repeat' constructor) rfl hkl hsz (.rfUpF (by repeat' constructor) hst (.then_n (.condD rfl (fun h28 => ?_) (fun h28 => ?_))))))))))))))))
   ·refine .sk (.seq (.block (.sm rfl (.cv Tryz.func101 [_] (rfnumN_spec r _) ?_))))
    refine .an rfl (.sm rfl (.cv Tryz.func100 [_, _] (rftxtN_spec r _) ?_))
    refine .an rfl (.region (.u (.fieldAddr rfl fo_129_2) (.u (.ld rfl ag_34) (.m rfl (.m rfl (.q (.to (v' := .agg (acC (acR (manyR acR i (cntR (txtR (txtR st).2).2).2).2).1).toArray) (.build (us := [(0, _), (1, _)]) fl_90 ze_90 rfl rfl (by simp [isCell])) rfl) rfl (.oq (.buildSlice (vs := [_]) el_34 ze_90 rfl rfl rfl rfl (by first | (simp [Value.cells]; done) | (intro v hv; simp only [List.mem_cons, List.not_mem_nil, or_false] at hv; (repeat (first | (subst hv; rfl) | (rcases hv with hv | hv; (subst hv; rfl)))))) (by decide)) ?_)))))))
    rintro v L' ⟨b19, rfl, rfl⟩
    refine .oq (.append1 rfl rfl rfl el_34 ze_90 rfl rfl ?c48 ?c49 (Nat.le_refl _) ?c50 (by decide)) ?_
    case c48 => simp only [List.map_cons, List.map_nil, List.flatten_cons, List.flatten_nil, List.append_nil]; simp [Value.cells, acC, isCell]
    case c49 => rfl
    case c50 => omega
    rintro v L' ⟨⟨a5, c5, rfl⟩, rfl⟩
    refine .u (.fieldAddr rfl fo_129_2) (.oq (.store rfl rfl rfl sz_34 ?c54 (nfz0 _ _)) ?_)
    case c54 => simp
    rintro v L' rfl
    refine .nil (.blk_n (.then_n (.region (.m rfl (.q (.add rfl rfl (by omega)) rfl (.an rfl (.slCast (T := 90) (sz := 2) (m' := i + 1) (xs' := (manyR acR (i + 1) (cntR (txtR (txtR st).2).2).2).1.flatMap acC) (by repeat' constructor) (by exact rfl) (by show _ = ((manyR acR i (cntR (txtR (txtR st).2).2).2).1 ++ [_]).flatMap acC; rw [List.flatMap_append]; simp [Value.cells, acC]) (.ptCast (b := b3) (l' := [vstr (txtR st).1, vstr (txtR (txtR st).2).1, .slice a5 (i + 1) c5, vint 0, vint 0, vint 0, vint 0, vint 0, vint 0, vint 0, vint 0, vint 0]) (by repeat' constructor) rfl ?_))))))))
    exact .rk ((i + 1, .slice a5 (i + 1) c5)) (⟨by dsimp only; omega, _, _, rfl⟩) (by dsimp only; omega) ⟨rfl, rfl, rfl, rfl, rfl, trivial⟩
   refine .exit (.then_e (.then_e (.blk_e (.then_n ?_))))
   have hsl : (manyR acR i (cntR (txtR (txtR st).2).2).2).1.length = i := manyL _ _ _
   have hsn : (manyR acR i (cntR (txtR (txtR st).2).2).2).2 = none := by apply Classical.byContradiction; intro g; exact h28 (hee.2 g)
   have hs4 : (manyR acR (cntR (txtR (txtR st).2).2).1 (cntR (txtR (txtR st).2).2).2).2 = none := many_fail strict_ac _ i _ (by omega) hsn
   refine .rfCastS (st' := (manyR acR (cntR (txtR (txtR st).2).2).1 (cntR (txtR (txtR st).2).2).2).2) (by repeat' constructor) (by rw [hsn, hs4]) (.slCast (T := 90) (sz := 2) (m' := (manyR acR i (cntR (txtR (txtR st).2).2).2).1.length) (xs' := (manyR acR i (cntR (txtR (txtR st).2).2).2).1.flatMap acC) (by repeat' constructor) hsl.symm rfl ?_)
   exact .mk ((.slice au i cu, (manyR acR i (cntR (txtR (txtR st).2).2).2).1)) (⟨⟨au, cu, by dsimp only; rw [hsl]⟩, by dsimp only; omega, fun g => absurd hs4 g⟩) ⟨rfl, rfl, rfl, trivial⟩
  refine .kDF (t := 21) rfl h6_22 (.gk (.gk (.gk (.gk (.gk (.u (.pickF rfl rfl) (.nt (.condF rfl (.exit (.then_e (.then_e (.blk_e (.then_n ?_)))))))))))))
  have hii : i = na := by omega
  have hsl : (manyR acR i (cntR (txtR (txtR st).2).2).2).1.length = i := manyL _ _ _
  refine .rfCastS (st' := (manyR acR (cntR (txtR (txtR st).2).2).1 (cntR (txtR (txtR st).2).2).2).2) (by repeat' constructor) (by rw [hii, hna]) (.slCast (T := 90) (sz := 2) (m' := (manyR acR i (cntR (txtR (txtR st).2).2).2).1.length) (xs' := (manyR acR i (cntR (txtR (txtR st).2).2).2).1.flatMap acC) (by repeat' constructor) hsl.symm rfl ?_)
  exact .mk ((.slice au i cu, (manyR acR i (cntR (txtR (txtR st).2).2).2).1)) (⟨⟨au, cu, by dsimp only; rw [hsl]⟩, by dsimp only; omega, fun _ => by dsimp only; rw [hii, hna]⟩) ⟨rfl, rfl, rfl, trivial⟩
 rintro ⟨u, l⟩ ⟨⟨au, cu, hu⟩, hl256, hlA⟩
 dsimp only
 dsimp only at hu hl256 hlA
 subst hu
 refine .sr (.oq (.make rfl rfl el_45 ze_3 rfl ⟨by simp, by simp; rfl⟩ ?c60) ?_)
 case c60 => omega
 rintro v L' ⟨b7, rfl, rfl⟩
 refine .an rfl (.seq (.seq (.slMake (b := b7) (n := 7) (c := 7) (xs := (ints (manyR numR 0 (manyR acR (cntR (txtR (txtR st).2).2).1 (cntR (txtR (txtR st).2).2).2).2).1 ++ List.replicate (7 - 0) (vint 0))) (by repeat' constructor) (by decide) (by simp) (by simp [manyR]) (.region (.an rfl (.block (.loopK (ι := Nat) (fun q E => (9, vint q) :: E) (fun q => [rfR r (manyR numR q (manyR acR (cntR (txtR (txtR st).2).2).1 (cntR (txtR (txtR st).2).2).2).2).2, slR 3 1 (.slice (some ⟨b7, 0, none⟩) 7 7) 7 (ints (manyR numR q (manyR acR (cntR (txtR (txtR st).2).2).1 (cntR (txtR (txtR st).2).2).2).2).1 ++ List.replicate (7 - q) (vint 0))]) (fun q => q ≤ 7) (fun q => 7 - q) (0) (ts := [0, 2, 3, 8]) (.cons rfl (.cons rfl (.cons rfl (.cons rfl (.nil))))) (Nat.zero_le _) ⟨rfl, rfl, rfl, rfl, rfl, trivial⟩ (by repeat' constructor) ?_)))))))
 rintro k hk
 refine .seq (.sm rfl (.ui rfl rfl rfl (.nt (.condD rfl (fun h45 => ?_) (fun h45 => ?_)))))
 ·have hk2 : k < 7 := by omega
  refine .sk (.seq (.block (.region (.m rfl (.m rfl (.m rfl (.cv Tryz.func101 [_] (rfnumN_spec r _) ?_)))))))
  refine .q (.indexAddr rfl rfl el_45 (by omega)) rfl (.oq (.storeRd (sz := 1) (j := k * 1) rfl rfl rfl sz_3 ?ho72 ?hi73) ?_)
  case ho72 => omega
  case hi73 => omega
  rintro v L' rfl
  refine .nil (.blk_n (.then_n (.region (.m rfl (.q (.add rfl rfl (by omega)) rfl (.an rfl (.slCast (T := 3) (sz := 1) (m' := 7) (xs' := (ints (manyR numR (k + 1) (manyR acR (cntR (txtR (txtR st).2).2).1 (cntR (txtR (txtR st).2).2).2).2).1 ++ List.replicate (7 - (k + 1)) (vint 0))) (by repeat' constructor) rfl (seven_set hk2 (manyL _ _ _) _) ?_)))))))
  exact .rk (k + 1) (by omega) (by omega) ⟨rfl, rfl, rfl, rfl, rfl, trivial⟩
 have hkk : k = 7 := by omega
 subst hkk
 have h7 : (manyR numR 7 (manyR acR (cntR (txtR (txtR st).2).2).1 (cntR (txtR (txtR st).2).2).2).2).1.length = 7 := manyL _ _ _
 refine .slCast (T := 3) (sz := 1) (m' := 7) (xs' := ints (manyR numR 7 (manyR acR (cntR (txtR (txtR st).2).2).1 (cntR (txtR (txtR st).2).2).2).2).1) (by repeat' constructor) rfl (by simp) (.exit (.then_e (.then_e (.blk_e (.then_n (.seq (.draw [23] [[0, 1, 2, 3, 4, 5, 6, 7, 8, 9, 10, 11, 12, 13, 14, 15, 16, 17, 18, 19, 20, 21, 22, 23]] mixed (by kernel_rfl) (.g0 (.mv rfl rfl (.kv rfl (.indexAddr rfl rfl el_45 (by omega)) (.kv rfl (.loadRd (sz := 1) (j := 0) (p := slR 3 1 _ 7 (ints (manyR numR 7 (manyR acR (cntR (txtR (txtR st).2).2).1 (cntR (txtR (txtR st).2).2).2).2).1)) (v := vint ((manyR numR 7 (manyR acR (cntR (txtR (txtR st).2).2).1 (cntR (txtR (txtR st).2).2).2).2).1.getD 0 0)) rfl ag_3 (by repeat' constructor) (fun h hp => slR_rd hp) (by omega) (ints_getD (by rw [h7]; decide))) (.mv rfl rfl ?_))))))))))))
 refine D.kv rfl (.indexAddr rfl rfl el_45 (by omega)) (.kv rfl (.loadRd (sz := 1) (j := 1) (p := slR 3 1 _ 7 (ints (manyR numR 7 (manyR acR (cntR (txtR (txtR st).2).2).1 (cntR (txtR (txtR st).2).2).2).2).1)) (v := vint ((manyR numR 7 (manyR acR (cntR (txtR (txtR st).2).2).1 (cntR (txtR (txtR st).2).2).2).2).1.getD 1 0)) rfl ag_3 (by repeat' constructor) (fun h hp => slR_rd hp) (by omega) (ints_getD (by rw [h7]; decide))) (.mv rfl rfl (.kv rfl (.indexAddr rfl rfl el_45 (by omega)) (.kv rfl (.loadRd (sz := 1) (j := 2) (p := slR 3 1 _ 7 (ints (manyR numR 7 (manyR acR (cntR (txtR (txtR st).2).2).1 (cntR (txtR (txtR st).2).2).2).2).1)) (v := vint ((manyR numR 7 (manyR acR (cntR (txtR (txtR st).2).2).1 (cntR (txtR (txtR st).2).2).2).2).1.getD 2 0)) rfl ag_3 (by repeat' constructor) (fun h hp => slR_rd hp) (by omega) (ints_getD (by rw [h7]; decide))) ?_))))
 refine D.mv rfl rfl (.kv rfl (.indexAddr rfl rfl el_45 (by omega)) (.kv rfl (.loadRd (sz := 1) (j := 3) (p := slR 3 1 _ 7 (ints (manyR numR 7 (manyR acR (cntR (txtR (txtR st).2).2).1 (cntR (txtR (txtR st).2).2).2).2).1)) (v := vint ((manyR numR 7 (manyR acR (cntR (txtR (txtR st).2).2).1 (cntR (txtR (txtR st).2).2).2).2).1.getD 3 0)) rfl ag_3 (by repeat' constructor) (fun h hp => slR_rd hp) (by omega) (ints_getD (by rw [h7]; decide))) (.mv rfl rfl (.kv rfl (.indexAddr rfl rfl el_45 (by omega)) (.kv rfl (.loadRd (sz := 1) (j := 4) (p := slR 3 1 _ 7 (ints (manyR numR 7 (manyR acR (cntR (txtR (txtR st).2).2).1 (cntR (txtR (txtR st).2).2).2).2).1)) (v := vint ((manyR numR 7 (manyR acR (cntR (txtR (txtR st).2).2).1 (cntR (txtR (txtR st).2).2).2).2).1.getD 4 0)) rfl ag_3 (by repeat' constructor) (fun h hp => slR_rd hp) (by omega) (ints_getD (by rw [h7]; decide))) ?_)))))
 refine D.mv rfl rfl (.kv rfl (.indexAddr rfl rfl el_45 (by omega)) (.kv rfl (.loadRd (sz := 1) (j := 5) (p := slR 3 1 _ 7 (ints (manyR numR 7 (manyR acR (cntR (txtR (txtR st).2).2).1 (cntR (txtR (txtR st).2).2).2).2).1)) (v := vint ((manyR numR 7 (manyR acR (cntR (txtR (txtR st).2).2).1 (cntR (txtR (txtR st).2).2).2).2).1.getD 5 0)) rfl ag_3 (by repeat' constructor) (fun h hp => slR_rd hp) (by omega) (ints_getD (by rw [h7]; decide))) (.mv rfl rfl (.kv rfl (.indexAddr rfl rfl el_45 (by omega)) (.kv rfl (.loadRd (sz := 1) (j := 6) (p := slR 3 1 _ 7 (ints (manyR numR 7 (manyR acR (cntR (txtR (txtR st).2).2).1 (cntR (txtR (txtR st).2).2).2).2).1)) (v := vint ((manyR numR 7 (manyR acR (cntR (txtR (txtR st).2).2).1 (cntR (txtR (txtR st).2).2).2).2).1.getD 6 0)) rfl ag_3 (by repeat' constructor) (fun h hp => slR_rd hp) (by omega) (ints_getD (by rw [h7]; decide))) ?_)))))
 refine D.kv rfl (.to (v' := .agg (stC (st7 (manyR numR 7 (manyR acR (cntR (txtR (txtR st).2).2).1 (cntR (txtR (txtR st).2).2).2).2).1)).toArray) (.build (us := [(0, _), (1, _), (2, _), (3, _), (4, _), (5, _), (6, _)]) fl_92 ze_92 rfl rfl (by simp [isCell])) rfl) (.kv rfl (.fieldAddr rfl fo_129_3) (.hh rfl (.storeA rfl rfl ?c100 sz_92 ?c103 ?c101 (nfz0 _ _)) ?_))
 case c100 => intro v hv; simp only [stC, List.mem_cons, List.not_mem_nil, or_false] at hv; rcases hv with rfl | rfl | rfl | rfl | rfl | rfl | rfl | rfl | rfl <;> rfl
 case c103 => rfl
 case c101 => simp [stC]
 rintro v L' rfl
 refine D.ph (.fin (.ptCast (b := b3) (l' := rnC (((txtR st).1, (.slice au l.length cu, (⟨(txtR (txtR st).2).1, l, st7 (manyR numR 7 (manyR acR (cntR (txtR (txtR st).2).2).1 (cntR (txtR (txtR st).2).2).2).2).1⟩ : Nd))) : Rno)) (by repeat' constructor) rfl (.then_n (.sr (.q (.loadAs (vs := rnC (((txtR st).1, (.slice au l.length cu, (⟨(txtR (txtR st).2).1, l, st7 (manyR numR 7 (manyR acR (cntR (txtR (txtR st).2).2).1 (cntR (txtR (txtR st).2).2).2).2).1⟩ : Nd))) : Rno)) rfl ag_129 (by repeat' constructor) (by simp [rnC]) rfl) rfl (.oq (.storeA rfl rfl ?c106 sz_129 ?c109 ?c107 (nfz0 _ _)) ?_))))))
 case c106 => exact rn_cells rfl
 case c109 => rfl
 case c107 => simp [rnC]
 rintro v L' rfl
 refine .nt (.ret (.ptCast (b := b2) (l' := rnC (((txtR st).1, (.slice au l.length cu, (⟨(txtR (txtR st).2).1, l, st7 (manyR numR 7 (manyR acR (cntR (txtR (txtR st).2).2).1 (cntR (txtR (txtR st).2).2).2).2).1⟩ : Nd))) : Rno)) (by repeat' constructor) (by exact rfl) (.toRd (m := l.length) (by repeat' constructor) ?_)))
 exact .d1 rfl (.cellA rfl ag_129 (by repeat' constructor) (by simp [rnC]) rfl) ⟨(((txtR st).1, (.slice au l.length cu, (⟨(txtR (txtR st).2).1, l, st7 (manyR numR 7 (manyR acR (cntR (txtR (txtR st).2).2).1 (cntR (txtR (txtR st).2).2).2).2).1⟩ : Nd))) : Rno), rfl, ⟨rfl, hl256, rfl, fun g => by rw [take_same8 (hlA (fun e => g (by show (manyR numR 7 (manyR acR (cntR (txtR (txtR st).2).2).1 (cntR (txtR (txtR st).2).2).2).2).2 = none; rw [e]; exact many_ne (.run _ _) 7)))]⟩, rfl⟩
def r3Z (s : Bs) : Rs := (cntR (numR (txt4R (some s)).2).2).2
def rmZ (s : Bs) : Nat := (cntR (numR (txt4R (some s)).2).2).1
structure Ref8 (s : Bs) (τ : Tr) : Prop where
 head : (txt4R (some s)).1 = headB
 zx : τ.zx = (numR (txt4R (some s)).2).1
 m : τ.nodes.length = rmZ s
 n : manyR ndR (rmZ s) (r3Z s) = (τ.nodes, (manyR ndR (rmZ s) (r3Z s)).2)
 n4 : (manyR ndR (rmZ s) (r3Z s)).2 ≠ none
 okn : okN τ.nodes
 ne : τ.nodes ≠ []
 k : τ.sess.length = (cntR (manyR ndR (rmZ s) (r3Z s)).2).1
 ss : manyR ssR (cntR (manyR ndR (rmZ s) (r3Z s)).2).1 (cntR (manyR ndR (rmZ s) (r3Z s)).2).2 = (τ.sess, some [])
 oks : okS τ.sess
theorem ref8_iff {s : Bs} {τ : Tr} : readZ s = some τ ↔ Ref8 s τ := by
 rw [read_good]
 constructor
 ·rintro ⟨hN, hS, hne, r1, r2, r3, r4, r5, h1, h2, h3, h4, h5, h6⟩
  have eM : rmZ s = τ.nodes.length := by unfold rmZ; rw [h1, h2]; dsimp only; rw [h3]
  have e3 : r3Z s = some r3 := by unfold r3Z; rw [h1, h2]; dsimp only; rw [h3]
  have e4 : manyR ndR (rmZ s) (r3Z s) = (τ.nodes, some r4) := by rw [eM, e3, h4]
  refine ⟨by rw [h1], by rw [h1, h2], eM.symm, by rw [e4], by rw [e4]; simp, hN, hne, by rw [e4, h5], by rw [e4, h5]; exact h6, hS⟩
 ·rintro ⟨h1, h2, h3, h4, h5, h6, h7, h8, h9, h10⟩
  obtain ⟨r4, e4⟩ : ∃ r, (manyR ndR (rmZ s) (r3Z s)).2 = some r := Option.ne_none_iff_exists'.1 h5
  obtain ⟨r3, e3⟩ := rs_some (.many strict_nd _) e4
  have e3' := e3
  unfold r3Z at e3'
  obtain ⟨r2, e2⟩ := rs_some (f := cntR) (.run _ _) e3'
  obtain ⟨r1, e1⟩ := rs_some (f := numR) (.run _ _) e2
  have e6 : (manyR ssR (cntR (manyR ndR (rmZ s) (r3Z s)).2).1 (cntR (manyR ndR (rmZ s) (r3Z s)).2).2).2 = some [] := by rw [h9]
  obtain ⟨r5, e5⟩ := rs_some (.many strict_ss _) e6
  refine ⟨h6, h10, h7, r1, r2, r3, r4, r5, ?_, ?_, ?_, ?_, ?_, ?_⟩
  ·rw [← h1, ← e1]
  ·rw [h2, ← e1, ← e2]
  ·rw [h3, ← e2, ← e3]; rfl
  ·rw [h3, ← e3, h4, e4]
  ·rw [h8, ← e4, ← e5]
  ·rw [h8, ← e5]; exact h9
theorem ref8_bad {s : Bs} {j : Nat} (hj : j < rmZ s) (hbad : ¬ nextN (lastP (manyR ndR j (r3Z s)).1) (ndR (manyR ndR j (r3Z s)).2).1.1) : readZ s = none := by
 cases h : readZ s with
 | none => rfl
 | some τ =>
  have g := ref8_iff.1 h
  refine absurd ?_ hbad
  have e0 : (manyR ndR (rmZ s) (r3Z s)).1 = τ.nodes := by rw [g.n]
  have h1 := g.okn j (by rw [g.m]; exact hj)
  have e1 : τ.nodes.take j = (manyR ndR j (r3Z s)).1 := by rw [← e0]; exact many_take _ _ _ _ (by omega)
  have e2 : τ.nodes.take (j + 1) = (manyR ndR (j + 1) (r3Z s)).1 := by rw [← e0]; exact many_take _ _ _ _ (by omega)
  rw [List.take_succ_eq_append_getElem (by rw [g.m]; exact hj), e1] at e2
  have e3 : [τ.nodes[j]'(by rw [g.m]; exact hj)] = [(ndR (manyR ndR j (r3Z s)).2).1] := List.append_cancel_left e2
  rw [e1, List.cons.inj e3 |>.1] at h1
  exact h1
theorem ref8_stop {s : Bs} {j : Nat} (hj : j ≤ rmZ s) (h : (manyR ndR j (r3Z s)).2 = none) : readZ s = none := by
 cases h2 : readZ s with
 | none => rfl
 | some τ => exact absurd (many_fail strict_nd _ _ _ hj h) (ref8_iff.1 h2).n4
def r4Z (s : Bs) : Rs := (manyR ndR (rmZ s) (r3Z s)).2
theorem ref8_badS {s : Bs} {j : Nat} (hj : j < (cntR (r4Z s)).1) (hbad : ¬ nextS (lastI (manyR ssR j (cntR (r4Z s)).2).1) (ssR (manyR ssR j (cntR (r4Z s)).2).2).1.1) : readZ s = none := by
 cases h : readZ s with
 | none => rfl
 | some τ =>
  have g := ref8_iff.1 h
  refine absurd ?_ hbad
  have e0 : (manyR ssR (cntR (r4Z s)).1 (cntR (r4Z s)).2).1 = τ.sess := by rw [show manyR ssR (cntR (r4Z s)).1 (cntR (r4Z s)).2 = _ from g.ss]
  have hk : j < τ.sess.length := by rw [g.k]; exact hj
  have h1 := g.oks j hk
  have e1 : τ.sess.take j = (manyR ssR j (cntR (r4Z s)).2).1 := by rw [← e0]; exact many_take _ _ _ _ (by omega)
  have e2 : τ.sess.take (j + 1) = (manyR ssR (j + 1) (cntR (r4Z s)).2).1 := by rw [← e0]; exact many_take _ _ _ _ (by omega)
  rw [List.take_succ_eq_append_getElem hk, e1] at e2
  have e3 : [τ.sess[j]] = [(ssR (manyR ssR j (cntR (r4Z s)).2).2).1] := List.append_cancel_left e2
  rw [e1, List.cons.inj e3 |>.1] at h1
  exact h1
theorem ref8_stopS {s : Bs} {j : Nat} (hj : j ≤ (cntR (r4Z s)).1) (h : (manyR ssR j (cntR (r4Z s)).2).2 = none) : readZ s = none := by
 cases h2 : readZ s with
 | none => rfl
 | some τ =>
  have g := ref8_iff.1 h2
  have e := many_fail strict_ss _ _ _ hj h
  rw [show manyR ssR (cntR (r4Z s)).1 (cntR (r4Z s)).2 = _ from g.ss] at e
  cases e
theorem okN_first {l : List PN} (h : okN l) (hl : 0 < l.length) : l[0].1 = [47] := ((h 0 hl).2.2).1 rfl
theorem last_at {l : List PN} {i : Nat} (hl : l.length = i + 1) : lastP l = (l[i]'(by omega)).1 := by
 have : l = l.take i ++ [l[i]'(by omega)] := by rw [← List.take_succ_eq_append_getElem (by omega), List.take_of_length_le (by omega)]
 conv => lhs; rw [this]
 exact lastP_snoc _ _
theorem lastI_at {l : List SN} {i : Nat} (hl : l.length = i + 1) : lastI l = (l[i]'(by omega)).1 := by
 have : l = l.take i ++ [l[i]'(by omega)] := by rw [← List.take_succ_eq_append_getElem (by omega), List.take_of_length_le (by omega)]
 conv => lhs; rw [this]
 exact lastI_snoc _ _
theorem next_doc {l : List PN} (h : okN l) (hl : 0 < l.length) {p : Bs} (hc : checkZ p = 0) (hlt : lastP l < p) : nextN (lastP l) p := by
 obtain ⟨k, hk⟩ : ∃ k, l.length = k + 1 := ⟨l.length - 1, by omega⟩
 have h1 := last_at hk
 have hne : lastP l ≠ [] := fun e => by
  have := okN_able h _ (List.getElem_mem (l := l) (n := k) (by omega))
  rw [← h1, e] at this; exact absurd this (by decide)
 refine ⟨hc, hlt, fun e => absurd e hne, fun e => ?_⟩
 exfalso
 have h0 := okN_first h hl
 have hs := (okN_sorted h).2 _ (List.getElem_mem (l := l) (n := 0) hl)
 rw [h0, ← e] at hs
 exact hs hlt
theorem take_next {s : Bs} {j : Nat} {l : List Rno} {z : Rno} (hI : (manyR ndR j (r3Z s)).2 ≠ none → ndsZ l = (manyR ndR j (r3Z s)).1 ∧ okN (ndsZ l)) (hz : TakeZ (manyR ndR j (r3Z s)).2 z) (hnx : nextN (lastP (manyR ndR j (r3Z s)).1) (ndR (manyR ndR j (r3Z s)).2).1.1) (g : (manyR ndR (j + 1) (r3Z s)).2 ≠ none) : ndsZ (l ++ [z]) = (manyR ndR (j + 1) (r3Z s)).1 ∧ okN (ndsZ (l ++ [z])) := by
 have g1 : (ndR (manyR ndR j (r3Z s)).2).2 ≠ none := g
 have g2 : (manyR ndR j (r3Z s)).2 ≠ none := fun e => g1 (by rw [e]; exact strict_nd)
 obtain ⟨h1, h2⟩ := hI g2
 have h3 := hz.all g1
 have e : ndsZ (l ++ [z]) = (manyR ndR (j + 1) (r3Z s)).1 := by
  show (l ++ [z]).map _ = (manyR ndR j (r3Z s)).1 ++ [(ndR (manyR ndR j (r3Z s)).2).1]
  rw [List.map_append, ← h1, ← h3]; rfl
 refine ⟨e, ?_⟩
 rw [e]
 refine okN_snoc.2 ⟨by rw [← h1]; exact h2, hnx⟩
theorem sess_some {st : Rs} {i : Nat} (h : (manyR ssR i (cntR st).2).2 ≠ none) : st ≠ none := fun e => h (by rw [e]; exact many_ne strict_ss i)
theorem sess_stop {s : Bs} {st : Rs} {i : Nat} (h1 : st = none → readZ s = none) (h2 : st ≠ none → st = r4Z s) (hi : i ≤ (cntR st).1) (h : (manyR ssR i (cntR st).2).2 = none) : readZ s = none := by
 by_cases e : st = none
 ·exact h1 e
 ·rw [h2 e] at hi h
  exact ref8_stopS hi h
theorem read_all {s : Bs} {st : Rs} {l : List Rno} {ls : List SN} (hh : (txt4R (some s)).1 = headB) (h1 : st = none → readZ s = none) (hg : st ≠ none → st = r4Z s ∧ ndsZ l = (manyR ndR (rmZ s) (r3Z s)).1 ∧ okN (ndsZ l)) (q1 : st = r4Z s) (q2 : (manyR ssR (cntR (r4Z s)).1 (cntR (r4Z s)).2).2 = some []) (q3 : ls = (manyR ssR (cntR (r4Z s)).1 (cntR (r4Z s)).2).1) (q4 : okS ls) (hl : l.length ≠ 0) : readZ s = some ⟨ndsZ l, ls, (numR (txt4R (some s)).2).1⟩ := by
 have hst : st ≠ none := fun e => by
  rw [← q1, e] at q2
  rw [show (manyR ssR (cntR none).1 (cntR none).2).2 = none from many_ne strict_ss _] at q2
  cases q2
 obtain ⟨-, p2, p3⟩ := hg hst
 have hnl : (ndsZ l).length = rmZ s := by rw [p2]; exact manyL _ _ _
 have hsl : ls.length = (cntR (r4Z s)).1 := by rw [q3]; exact manyL _ _ _
 refine ref8_iff.2 ⟨hh, rfl, hnl, by dsimp only; rw [p2], by show r4Z s ≠ none; rw [← q1]; exact hst, p3, fun e => hl ?_, hsl, ?_, q4⟩
 ·have := congrArg List.length e
  simpa [ndsZ] using this
 ·show manyR ssR (cntR (r4Z s)).1 (cntR (r4Z s)).2 = (ls, some [])
  rw [q3, ← q2]
def RTreeOr (o : Option Tr) (v : Value) (L : List HP) : Prop := (o = none ∧ v = .tuple #[.pointer none, .bool false] ∧ L = []) ∨ ∃ τ x, o = some τ ∧ v = .tuple #[vptr x, .bool true] ∧ L = [refR x τ]
set_option maxHeartbeats 1000000 in
theorem rread8_spec (s : Bs) (hs : s.length ≤ 70368744177664) : Fn Tryz.prog 56 #[vstr s] [] (RTreeOr (readZ s)) := by
 refine Fn.intro Tryz.func56 rfl rfl fun F W => ?_
 obtain ⟨m, hm⟩ : ∃ m, m = rmZ s := ⟨_, rfl⟩
 have hm256 : m ≤ 256 := by rw [hm]; exact cntR_le _
 refine .sr (.a rfl (.an rfl (.sm rfl (.q (.to (v' := .agg ([vstr s, vint 0, vint 0] : List Value).toArray) (.build (us := [(0, _)]) fl_175 ze_175 rfl rfl (by simp [isCell])) rfl) rfl (.oq (.box rfl) ?_)))))
 rintro v L' ⟨r, rfl, rfl⟩
 refine .a rfl (.nil (.ptCast (b := r) (l' := [vstr s, vint ((0 : Nat) : Int), vint 0]) (by repeat' constructor) rfl (.rfFold (r := r) s 0 0 (by repeat' constructor) rfl (Nat.zero_le _) hs (.rfUpF (st := some s) (by repeat' constructor) rfl (.then_n (.sr (.q (.to (v' := .agg ([.slice none 0 0, .slice none 0 0, vint 0] : List Value).toArray) (.build (us := []) fl_87 ze_87 rfl rfl (by simp [isCell])) rfl) rfl (.oq (.box rfl) ?_))))))))
 rintro v L' ⟨x, rfl, rfl⟩
 refine .a rfl (.nil (.ptCast (b := x) (l' := [.slice none 0 0, .slice none 0 0, vint 0]) (by repeat' constructor) rfl (.then_n (.sm rfl (.cv Tryz.func100 [_, _] (rftxt4_spec r (some s)) ?_)))))
 refine .an rfl (.sm rfl (.m rfl (.cv Tryz.func101 [_] (rfnumN_spec r _) ?_)))
 refine .nf rfl fo_87_2 (.st rfl rfl rfl sz_3 ?_)
 refine .nil (.ptCast (b := x) (l' := [.slice none 0 0, .slice none 0 0, vint (numR (txt4R (some s)).2).1]) (by repeat' constructor) rfl (.then_n (.sm rfl (.oq (.c Tryz.func102 [_, _] (rfcntN_spec r _)) ?_))))
 rintro v L' ⟨rfl, rfl⟩; rw [show (cntR (numR (txt4R (some s)).2).2).1 = m from hm.symm]
 refine .a rfl (.nil (.add (slR_nil 129 12) (.add (slR_nil 127 3) (.add (p := bigR inA []) big_nil (.then_n (.seq (.joinK (ι := Value × (List Rno) × Rs) (fun q E => E) (fun q => [rfR r q.2.2, ptc x [q.1, .slice none 0 0, vint (numR (txt4R (some s)).2).1] 87, rnR (q.1) q.2.1, bigR inA q.2.1]) (fun q => (∃ a c, q.1 = .slice a q.2.1.length c) ∧ q.2.1.length ≤ 256 ∧ (q.2.2 = none → readZ s = none) ∧ (q.2.2 ≠ none → q.2.2 = r4Z s ∧ ndsZ q.2.1 = (manyR ndR (rmZ s) (r3Z s)).1 ∧ okN (ndsZ q.2.1))) (pre := [rfR r (r3Z s), ptc x [.slice none 0 0, .slice none 0 0, vint (numR (txt4R (some s)).2).1] 87, slR 129 12 (.slice none 0 0) 0 [], bigR inA []]) (ts := [4, 5, 6, 7]) (.cons rfl (.cons rfl (.cons rfl (.cons rfl (.nil))))) (by repeat' constructor) ?_ ?_)))))))
 ·refine .sr (.an rfl (.block (.loopK (ι := Nat × Value × (List Rno)) (fun q E => (8, vint q.1) :: E) (fun q => [rfR r (manyR ndR q.1 (r3Z s)).2, ptc x [q.2.1, .slice none 0 0, vint (numR (txt4R (some s)).2).1] 87, rnR (q.2.1) q.2.2, bigR inA q.2.2]) (fun q => q.1 ≤ m ∧ (∃ a c, q.2.1 = .slice a q.2.2.length c) ∧ q.2.2.length = q.1 ∧ ((manyR ndR q.1 (r3Z s)).2 ≠ none → ndsZ q.2.2 = (manyR ndR q.1 (r3Z s)).1 ∧ okN (ndsZ q.2.2))) (fun q => m - q.1) (0, .slice none 0 0, []) (ts := [4, 5, 6, 7]) (.cons rfl (.cons rfl (.cons rfl (.cons rfl (.nil))))) (⟨Nat.zero_le _, ⟨none, 0, rfl⟩, rfl, fun _ => ⟨rfl, okN_nil⟩⟩) ⟨rfl, rfl, rfl, rfl, rfl, trivial⟩ (by repeat' constructor) ?_)))
  rintro ⟨j, u, l⟩ ⟨hj, ⟨au, cu, hu⟩, hlj, hI⟩
  dsimp only
  dsimp only at hj hu hlj hI
  subst hu
  refine .seq (.sm rfl (.m rfl (.ui rfl rfl rfl (.m rfl (.dec (t := 31) rfl (fun h7_31 => ?_) (fun h7_31 => ?_))))))
  ·refine .kDT (t := 30) rfl h7_31 (.rfLook (by repeat' constructor) fun s2 k2 e2 hst hkl hsz => ?_)
   have hee := stW_iff hst
   refine .grun (t := 31) rfl rfl rfl (.m rfl (.grun (t := 31) rfl rfl rfl (.u (.nilp rfl) (.grun (t := 31) rfl rfl rfl (.u (.fieldAddr rfl fo_175_2) (.grun (t := 31) rfl rfl rfl (.u (.ld rfl ag_31) (.grun (t := 31) rfl rfl rfl (.ui rfl rfl rfl (.u (.pickT rfl rfl) (.nil (.rfFold (r := r) s2 k2 e2 (by repeat' constructor) rfl hkl hsz (.rfUpF (by repeat' constructor) hst (.then_n (.condD rfl (fun h37 => ?_) (fun h37 => ?_))))))))))))))))
   ·have hj2m : j < m := by omega
    have hj2 : j < rmZ s := by omega
    have hsj : (manyR ndR j (r3Z s)).2 ≠ none := hee.1 h37
    obtain ⟨hnl, hok⟩ := hI hsj
    refine .sk (.seq (.block (.sr ?_)))
    rcases Nat.eq_zero_or_pos j with hj0 | hj0
    ·have hlast : lastP (manyR ndR j (r3Z s)).1 = [] := by rw [hj0]; rfl
     refine .m rfl (.oq (.c Tryz.func103 [_] (rtake_spec r _)) ?_)
     rintro v L' ⟨z, rfl, hz, rfl⟩; have hzp := hz.path; have hzl : z.1.length ≤ 4096 := by rw [hzp]; exact txtR_le8 _
     refine .oq (.allocA ze_129) ?_
     rintro v L' ⟨b9, rfl, rfl⟩
     refine .oq (.storeA rfl rfl ?c35 sz_129 ?c38 ?c36 (nfz0 _ _)) ?_
     case c35 => exact rn_cells hz.cell
     case c38 => rfl
     case c36 => simp [rnC]
     rintro v L' rfl
     refine .nil (.ptCast (b := b9) (l' := rnC z) (by repeat' constructor) rfl (.then_n (.seq (.seq (.draw [] [[0, 1, 2, 3, 4, 5, 6, 7, 8, 9, 10, 11, 12, 13, 14, 15, 16, 17, 18, 19, 20, 21, 22, 23, 24, 25, 26, 27, 28, 29, 30]] mixed (by kernel_rfl) (.go [ptc b9 _ _, ptc x _ _, rnR _ l] (by repeat' constructor) (.kv rfl (.fieldAddr rfl fo_129_0) (.kv rfl (.load rfl ag_9 (by repeat' constructor) rfl) (.m rfl (by kernel_rfl) (.c Tryz.func104 [_] (rcheck_spec z.1 (by omega))) (by repeat' constructor) ?_)))))))))
     refine D.kv rfl (.int rfl rfl rfl) (.mv rfl rfl (.ndec (t := 46) rfl (fun h10_46 => ?_) (fun h10_46 => ?_)))
     ·refine D.kNT (t := 45) rfl h10_46 (.gz rfl (.gz rfl (.gz rfl (.gsU (t := 49) rfl rfl rfl (by kernel_rfl) (.gsU (t := 49) rfl rfl rfl (by kernel_rfl) (.gsU (t := 49) rfl rfl rfl (by kernel_rfl) (.gz rfl (.kv rfl (.pickT rfl rfl) (.mv rfl rfl (.gz rfl (.gz rfl (.gz rfl (.gsU (t := 58) rfl rfl rfl (by kernel_rfl) (.gsU (t := 58) rfl rfl rfl (by kernel_rfl) (.gsU (t := 58) rfl rfl rfl (by kernel_rfl) (.gsU (t := 58) rfl rfl rfl (by kernel_rfl) (.gsU (t := 58) rfl rfl rfl (by kernel_rfl) (.gsU (t := 58) rfl rfl rfl (by kernel_rfl) (.gsU (t := 58) rfl rfl rfl (by kernel_rfl) (.gsU (t := 58) rfl rfl rfl (by kernel_rfl) (.gsU (t := 58) rfl rfl rfl (by kernel_rfl) (.gsU (t := 58) rfl rfl rfl (by kernel_rfl) (.gsU (t := 58) rfl rfl rfl (by kernel_rfl) (.gsU (t := 58) rfl rfl rfl (by kernel_rfl) (.gz rfl (.kv rfl (.pickT rfl rfl) ?_))))))))))))))))))))))))))
      refine D.pf (.condT rfl (.seq ?_))
      have hbadz : readZ s = none := ref8_bad hj2 (fun g => h10_46 (by rw [hzp]; exact g.1))
      refine .region (.a rfl (.an rfl (.rt (.blk_r (.then_r (.then_r (.blk_r (.then_r ?_))))))))
      exact .dn rfl rfl (.inl ⟨hbadz, rfl, rfl⟩)
     refine D.kNF (t := 45) rfl h10_46 (.gv rfl (.move rfl) (.gv rfl (.as (v' := .bool true) (by simp [hj0]) (.int rfl rfl rfl)) (.gv rfl (.move rfl) (.gv rfl (.fieldAddr rfl fo_129_0) (.gv rfl (.ld rfl ag_9) (.gv rfl (.strne rfl rfl) (.gv rfl (.pickT rfl rfl) (.kv rfl (.pickF rfl rfl) (.mv rfl rfl (.ndec (t := 55) rfl (fun h10_55 => ?_) (fun h10_55 => ?_)))))))))))
     ·refine D.kNT (t := 52) rfl h10_55 (.kNT (t := 53) rfl h10_55 (.kNT (t := 54) rfl h10_55 (.gz rfl (.gz rfl (.gz rfl (.gsU (t := 58) rfl rfl rfl (by kernel_rfl) (.gsU (t := 58) rfl rfl rfl (by kernel_rfl) (.gsU (t := 58) rfl rfl rfl (by kernel_rfl) (.gsU (t := 58) rfl rfl rfl (by kernel_rfl) (.gsU (t := 58) rfl rfl rfl (by kernel_rfl) (.gsU (t := 58) rfl rfl rfl (by kernel_rfl) (.gsU (t := 58) rfl rfl rfl (by kernel_rfl) (.gsU (t := 58) rfl rfl rfl (by kernel_rfl) (.gsU (t := 58) rfl rfl rfl (by kernel_rfl) (.gsU (t := 58) rfl rfl rfl (by kernel_rfl) (.gsU (t := 58) rfl rfl rfl (by kernel_rfl) (.gsU (t := 58) rfl rfl rfl (by kernel_rfl) (.gz rfl (.kv rfl (.pickT rfl rfl) (.pf (.condT rfl (.seq ?_))))))))))))))))))))))
      have hbadz : readZ s = none := ref8_bad hj2 (fun g => h10_55 (by rw [hzp]; exact g.2.2.1 hlast))
      refine .region (.a rfl (.an rfl (.rt (.blk_r (.then_r (.then_r (.blk_r (.then_r ?_))))))))
      exact .dn rfl rfl (.inl ⟨hbadz, rfl, rfl⟩)
     refine D.kNF (t := 52) rfl h10_55 (.kNF (t := 53) rfl h10_55 (.kNF (t := 54) rfl h10_55 (.gv rfl (.move rfl) (.gv rfl (.as (v' := .bool false) (by simp [hj0]) (.int rfl rfl rfl)) (.gv rfl (.move rfl) (.gz rfl (.gz rfl (.gz rfl (.gz rfl (.gz rfl (.gz rfl (.gz rfl (.gz rfl (.gz rfl (.gz rfl (.gz rfl (.gz rfl (.gv rfl (.pickF rfl rfl) (.kv rfl (.pickF rfl rfl) (.pf (.condF rfl (.sk ?_))))))))))))))))))))))
     have hck : checkZ (txtR (manyR ndR j (r3Z s)).2).1 = 0 := by rw [← hzp]; exact h10_46
     have hnx : nextN (lastP (manyR ndR j (r3Z s)).1) (ndR (manyR ndR j (r3Z s)).2).1.1 := by rw [hlast]; have h47 : (txtR (manyR ndR j (r3Z s)).2).1 = [47] := (by rw [← hzp]; exact h10_55); exact ⟨hck, by show ([] : Bs) < (txtR (manyR ndR j (r3Z s)).2).1; rw [h47]; decide, fun _ => h47, fun _ => rfl⟩
     refine .draw [6, 7, 10] [[0, 1, 2, 3, 4, 5, 6, 7], [8, 9, 10]] mixed (by kernel_rfl) (.go [ptc b9 _ _, ptc x _ _] (by repeat' constructor) (.k rfl (.move rfl) (.k rfl (.move rfl) (.k rfl (.nilp rfl) (.k rfl (.fieldAddr rfl fo_87_0) (.k rfl (.ld rfl ag_73) (.kv rfl (.loadAs (vs := rnC z) rfl ag_129 (by repeat' constructor) (by simp [rnC]) rfl) (.hh rfl (.buildSlice (vs := [_]) el_73 ze_129 rfl rfl rfl rfl (by first | (simp [Value.cells]; done) | (intro v hv; simp only [List.mem_cons, List.not_mem_nil, or_false] at hv; (repeat (first | (subst hv; rfl) | (rcases hv with hv | hv; (subst hv; rfl)))))) (by decide)) ?_))))))))
     rintro v L' ⟨b12_6, rfl, rfl⟩
     refine D.hh rfl (.append1 rfl rfl rfl el_73 ze_129 rfl rfl ?c68 ?c69 (Nat.le_refl _) ?c70 (by decide)) ?_
     case c68 => first | exact rn_cells hz.cell | (simp only [List.map_cons, List.map_nil, List.flatten_cons, List.flatten_nil, List.append_nil]; exact rn_cells hz.cell)
     case c69 => rfl
     case c70 => first | omega | (simp; omega)
     rintro v L' ⟨⟨a12_7, c12_7, rfl⟩, rfl⟩
     refine D.ph (.g0 (.nf rfl rfl rfl fo_87_0 (.hh rfl (.store rfl rfl rfl sz_73 ?c75 (nfz0 _ _)) ?_)))
     case c75 => first | decide | (simp; omega) | simp
     rintro v L' rfl
     refine D.ph (.fin (.blk_n (.then_n (.region (.m rfl (.q (.add rfl rfl (by omega)) rfl (.an rfl (.bigSnoc (l := l) z (p := inA z) rfl (by repeat' constructor) ?_))))))))
     rw [show l.length + 1 = (l ++ [z]).length by rw [List.length_append]; rfl]
     refine .slCast (T := 129) (sz := 12) (m' := (l ++ [z]).length) (xs' := (l ++ [z]).flatMap rnC) (by repeat' constructor) rfl (by rw [List.flatMap_append]; simp; rfl) (.ptCast (b := x) (l' := [.slice a12_7 (l ++ [z]).length c12_7, .slice none 0 0, vint (numR (txt4R (some s)).2).1]) (by repeat' constructor) rfl ?_)
     exact .rk ((j + 1, .slice a12_7 (l ++ [z]).length c12_7, l ++ [z])) (⟨by dsimp only; omega, ⟨_, _, rfl⟩, by dsimp only; rw [List.length_append, hlj]; rfl, fun g => by dsimp only at g ⊢; exact take_next hI hz hnx g⟩) (by dsimp only; omega) ⟨rfl, rfl, rfl, rfl, rfl, trivial⟩
    have hlast : lastP (manyR ndR j (r3Z s)).1 = (l[j - 1]'(by omega)).1 := by rw [← hnl, last_at (i := j - 1) (by show (l.map _).length = _; rw [List.length_map]; omega)]; simp [ndsZ]
    refine .m rfl (.oq (.c Tryz.func103 [_] (rtake_spec r _)) ?_)
    rintro v L' ⟨z, rfl, hz, rfl⟩; have hzp := hz.path; have hzl : z.1.length ≤ 4096 := by rw [hzp]; exact txtR_le8 _
    refine .oq (.allocA ze_129) ?_
    rintro v L' ⟨b9, rfl, rfl⟩
    refine .oq (.storeA rfl rfl ?c85 sz_129 ?c88 ?c86 (nfz0 _ _)) ?_
    case c85 => exact rn_cells hz.cell
    case c88 => rfl
    case c86 => simp [rnC]
    rintro v L' rfl
    refine .nil (.ptCast (b := b9) (l' := rnC z) (by repeat' constructor) rfl (.then_n (.seq (.seq (.slShape (T := 129) (sz := 12) (v := .slice au l.length cu) (xs := l.flatMap rnC) (by repeat' constructor) (by omega) fun bn bn' e0 mbn _ => ?_)))))
    simp only [Value.slice.injEq, true_and] at e0
    obtain ⟨rfl, rfl⟩ := e0
    refine .draw [] [[0, 1, 2, 3, 4, 5, 6, 7, 8, 9, 10, 11, 12, 13, 14, 15, 16, 17, 18, 19, 20, 21, 22, 23, 24, 25, 26, 27, 28, 29, 30]] mixed (by kernel_rfl) (.go [ptc b9 _ _, ptc x _ _, rnR _ l] (by repeat' constructor) (.kv rfl (.fieldAddr rfl fo_129_0) (.kv rfl (.load rfl ag_9 (by repeat' constructor) rfl) (.m rfl (by kernel_rfl) (.c Tryz.func104 [_] (rcheck_spec z.1 (by omega))) (by repeat' constructor) ?_))))
    refine D.kv rfl (.int rfl rfl rfl) (.mv rfl rfl (.ndec (t := 46) rfl (fun h10_46 => ?_) (fun h10_46 => ?_)))
    ·refine D.kNT (t := 45) rfl h10_46 (.gz rfl (.gz rfl (.gz rfl (.gsU (t := 49) rfl rfl rfl (by kernel_rfl) (.gsU (t := 49) rfl rfl rfl (by kernel_rfl) (.gsU (t := 49) rfl rfl rfl (by kernel_rfl) (.gz rfl (.kv rfl (.pickT rfl rfl) (.mv rfl rfl (.gz rfl (.gz rfl (.gz rfl (.gsU (t := 58) rfl rfl rfl (by kernel_rfl) (.gsU (t := 58) rfl rfl rfl (by kernel_rfl) (.gsU (t := 58) rfl rfl rfl (by kernel_rfl) (.gsU (t := 58) rfl rfl rfl (by kernel_rfl) (.gsU (t := 58) rfl rfl rfl (by kernel_rfl) (.gsU (t := 58) rfl rfl rfl (by kernel_rfl) (.gsU (t := 58) rfl rfl rfl (by kernel_rfl) (.gsU (t := 58) rfl rfl rfl (by kernel_rfl) (.gsU (t := 58) rfl rfl rfl (by kernel_rfl) (.gsU (t := 58) rfl rfl rfl (by kernel_rfl) (.gsU (t := 58) rfl rfl rfl (by kernel_rfl) (.gsU (t := 58) rfl rfl rfl (by kernel_rfl) (.gz rfl (.kv rfl (.pickT rfl rfl) ?_))))))))))))))))))))))))))
     refine D.pf (.condT rfl (.seq ?_))
     have hbadz : readZ s = none := ref8_bad hj2 (fun g => h10_46 (by rw [hzp]; exact g.1))
     refine .region (.a rfl (.an rfl (.rt (.blk_r (.then_r (.then_r (.blk_r (.then_r ?_))))))))
     exact .dn rfl rfl (.inl ⟨hbadz, rfl, rfl⟩)
    refine D.kNF (t := 45) rfl h10_46 (.gv rfl (.move rfl) (.gv rfl (.as (v' := .bool false) (by simp; omega) (.int rfl rfl rfl)) (.gv rfl (.move rfl) (.gz rfl (.gz rfl (.gz rfl (.gv rfl (.pickF rfl rfl) (.kv rfl (.pickF rfl rfl) (.mv rfl rfl (.gv rfl (.move rfl) (.gv rfl (.as (v' := .bool true) (by simp; omega) (.int rfl rfl rfl)) (.gv rfl (.move rfl) (.gv rfl (.fieldAddr rfl fo_129_0) (.gv rfl (.ld rfl ag_9) (.gv rfl (.move rfl) (.gv rfl (.nilp rfl) (.gv rfl (.fieldAddr rfl fo_87_0) (.gv rfl (.ld rfl ag_73) (.gv rfl (.move rfl) (.gv rfl (.sub rfl rfl (by omega)) (.gv rfl (.indexAddr rfl rfl el_73 (by omega)) (.gv rfl (.fieldAddr rfl fo_129_0) (.gv rfl (.loadRd (sz := 12) (j := (j - 1) * 12 + 0) (p := rnR _ l) (v := vstr (l[j - 1]'(by omega)).1) rfl ag_9 (by repeat' constructor) (fun h hp => slR_rd hp) (by omega) ((rn_cell (l := l) (i := j - 1) (k := 0) (by omega) (by decide)).trans rfl)) ?_)))))))))))))))))))))))
    refine D.gv rfl (.strle rfl rfl) (.gv rfl (.pickT rfl rfl) (.kv rfl (.pickF rfl rfl) (.pf (.condD rfl (fun h72 => ?_) (fun h72 => ?_)))))
    ·refine .seq ?_
     have hbadz : readZ s = none := ref8_bad hj2 (fun g => h72 (by rw [hzp, ← hlast]; exact g.2.1))
     refine .region (.a rfl (.an rfl (.rt (.blk_r (.then_r (.then_r (.blk_r (.then_r ?_))))))))
     exact .dn rfl rfl (.inl ⟨hbadz, rfl, rfl⟩)
    refine .sk ?_
    have hck : checkZ (txtR (manyR ndR j (r3Z s)).2).1 = 0 := by rw [← hzp]; exact h10_46
    have hnx : nextN (lastP (manyR ndR j (r3Z s)).1) (ndR (manyR ndR j (r3Z s)).2).1.1 := by exact next_doc (by rw [← hnl]; exact hok) (by rw [manyL]; omega) hck (by have h9 : lastP (manyR ndR j (r3Z s)).1 < z.1 := (by rw [hlast]; exact Decidable.not_not.1 h72); rw [hzp] at h9; exact h9)
    refine .draw [6, 7, 10] [[0, 1, 2, 3, 4, 5, 6, 7], [8, 9, 10]] mixed (by kernel_rfl) (.go [ptc b9 _ _, ptc x _ _] (by repeat' constructor) (.k rfl (.move rfl) (.k rfl (.move rfl) (.k rfl (.nilp rfl) (.k rfl (.fieldAddr rfl fo_87_0) (.k rfl (.ld rfl ag_73) (.kv rfl (.loadAs (vs := rnC z) rfl ag_129 (by repeat' constructor) (by simp [rnC]) rfl) (.hh rfl (.buildSlice (vs := [_]) el_73 ze_129 rfl rfl rfl rfl (by first | (simp [Value.cells]; done) | (intro v hv; simp only [List.mem_cons, List.not_mem_nil, or_false] at hv; (repeat (first | (subst hv; rfl) | (rcases hv with hv | hv; (subst hv; rfl)))))) (by decide)) ?_))))))))
    rintro v L' ⟨b12_6, rfl, rfl⟩
    refine D.hh rfl (.append1 rfl rfl rfl el_73 ze_129 rfl rfl ?c126 ?c127 (Nat.le_refl _) ?c128 (by decide)) ?_
    case c126 => first | exact rn_cells hz.cell | (simp only [List.map_cons, List.map_nil, List.flatten_cons, List.flatten_nil, List.append_nil]; exact rn_cells hz.cell)
    case c127 => rfl
    case c128 => first | omega | (simp; omega)
    rintro v L' ⟨⟨a12_7, c12_7, rfl⟩, rfl⟩
    refine D.ph (.g0 (.nf rfl rfl rfl fo_87_0 (.hh rfl (.store rfl rfl rfl sz_73 ?c133 (nfz0 _ _)) ?_)))
    case c133 => first | decide | (simp; omega) | simp
    rintro v L' rfl
    refine D.ph (.fin (.blk_n (.then_n (.region (.m rfl (.q (.add rfl rfl (by omega)) rfl (.an rfl (.bigSnoc (l := l) z (p := inA z) rfl (by repeat' constructor) ?_))))))))
    rw [show l.length + 1 = (l ++ [z]).length by rw [List.length_append]; rfl]
    refine .slCast (T := 129) (sz := 12) (m' := (l ++ [z]).length) (xs' := (l ++ [z]).flatMap rnC) (by repeat' constructor) rfl (by rw [List.flatMap_append]; simp; rfl) (.ptCast (b := x) (l' := [.slice a12_7 (l ++ [z]).length c12_7, .slice none 0 0, vint (numR (txt4R (some s)).2).1]) (by repeat' constructor) rfl ?_)
    exact .rk ((j + 1, .slice a12_7 (l ++ [z]).length c12_7, l ++ [z])) (⟨by dsimp only; omega, ⟨_, _, rfl⟩, by dsimp only; rw [List.length_append, hlj]; rfl, fun g => by dsimp only at g ⊢; exact take_next hI hz hnx g⟩) (by dsimp only; omega) ⟨rfl, rfl, rfl, rfl, rfl, trivial⟩
   refine .exit (.then_e (.then_e (.blk_e (.then_n ?_))))
   have hsn : (manyR ndR j (r3Z s)).2 = none := by apply Classical.byContradiction; intro g; exact h37 (hee.2 g)
   exact .mk ((.slice au l.length cu, l, (manyR ndR j (r3Z s)).2)) (⟨⟨au, cu, rfl⟩, by dsimp only; omega, fun g => ref8_stop (by omega) g, fun g => absurd hsn g⟩) ⟨rfl, rfl, rfl, rfl, trivial⟩
  refine .kDF (t := 30) rfl h7_31 (.gk (.gk (.gk (.gk (.gk (.u (.pickF rfl rfl) (.nt (.condF rfl (.exit (.then_e (.then_e (.blk_e (.then_n ?_)))))))))))))
  have hjm : j = m := by omega
  exact .mk ((.slice au l.length cu, l, (manyR ndR j (r3Z s)).2)) (⟨⟨au, cu, rfl⟩, by dsimp only; omega, fun g => ref8_stop (by omega) g, fun g => ⟨by dsimp only; unfold r4Z; rw [← hm, ← hjm], by dsimp only; rw [← hm, ← hjm]; exact (hI g).1, (hI g).2⟩⟩) ⟨rfl, rfl, rfl, rfl, trivial⟩
 rintro ⟨u, l, st⟩ ⟨⟨au, cu, hu⟩, hl256, hbad1, hgood1⟩
 dsimp only
 dsimp only at hu hl256 hbad1 hgood1
 subst hu
 refine .sm rfl (.oq (.c Tryz.func102 [_, _] (rfcntN_spec r st)) ?_)
 rintro v L' ⟨rfl, rfl⟩; have hk256 := cntR_le st
 refine .an rfl (.seq (.joinK (ι := Value × (List SN) × Rs) (fun q E => E) (fun q => [rfR r q.2.2, ptc x [.slice au l.length cu, q.1, vint (numR (txt4R (some s)).2).1] 87, slR 127 3 q.1 q.2.1.length (q.2.1.flatMap rsC)]) (fun q => (∃ a c, q.1 = .slice a q.2.1.length c) ∧ q.2.1.length ≤ 256 ∧ (q.2.2 = none → readZ s = none) ∧ (q.2.2 ≠ none → st = r4Z s ∧ q.2.2 = (manyR ssR (cntR (r4Z s)).1 (cntR (r4Z s)).2).2 ∧ q.2.1 = (manyR ssR (cntR (r4Z s)).1 (cntR (r4Z s)).2).1 ∧ okS q.2.1)) (pre := [rfR r (cntR st).2, ptc x [.slice au l.length cu, .slice none 0 0, vint (numR (txt4R (some s)).2).1] 87, slR 127 3 (.slice none 0 0) 0 []]) (ts := [4, 5, 6]) (.cons rfl (.cons rfl (.cons rfl (.nil)))) (by repeat' constructor) ?_ ?_))
 ·refine .sr (.an rfl (.block (.loopK (ι := Nat × Value) (fun q E => (10, vint q.1) :: E) (fun q => [rfR r (manyR ssR q.1 (cntR st).2).2, ptc x [.slice au l.length cu, q.2, vint (numR (txt4R (some s)).2).1] 87, slR 127 3 q.2 q.1 ((manyR ssR q.1 (cntR st).2).1.flatMap rsC)]) (fun q => q.1 ≤ (cntR st).1 ∧ (∃ a c, q.2 = .slice a q.1 c) ∧ okS (manyR ssR q.1 (cntR st).2).1) (fun q => (cntR st).1 - q.1) (0, .slice none 0 0) (ts := [4, 5, 6, 7]) (.cons rfl (.cons rfl (.cons rfl (.cons rfl (.nil))))) (⟨Nat.zero_le _, ⟨none, 0, rfl⟩, okS_nil⟩) ⟨rfl, rfl, rfl, rfl, rfl, trivial⟩ (by repeat' constructor) ?_)))
  rintro ⟨i, us⟩ ⟨hi, ⟨as1, cs1, hus⟩, hoks⟩
  dsimp only
  dsimp only at hi hus hoks
  subst hus
  have hli : (manyR ssR i (cntR st).2).1.length = i := manyL _ _ _
  refine .seq (.sm rfl (.m rfl (.ui rfl rfl rfl (.m rfl (.dec (t := 88) rfl (fun h15_88 => ?_) (fun h15_88 => ?_))))))
  ·refine .kDT (t := 87) rfl h15_88 (.rfLook (by repeat' constructor) fun s2 k2 e2 hst hkl hsz => ?_)
   have hee := stW_iff hst
   refine .grun (t := 88) rfl rfl rfl (.m rfl (.grun (t := 88) rfl rfl rfl (.u (.nilp rfl) (.grun (t := 88) rfl rfl rfl (.u (.fieldAddr rfl fo_175_2) (.grun (t := 88) rfl rfl rfl (.u (.ld rfl ag_31) (.grun (t := 88) rfl rfl rfl (.ui rfl rfl rfl (.u (.pickT rfl rfl) (.nil (.rfFold (r := r) s2 k2 e2 (by repeat' constructor) rfl hkl hsz (.rfUpF (by repeat' constructor) hst (.then_n (.condD rfl (fun h94 => ?_) (fun h94 => ?_))))))))))))))))
   ·have hi2 : i < (cntR st).1 := by omega
    have hst4 : st = r4Z s := (hgood1 (sess_some (hee.1 h94))).1
    refine .sk (.seq (.block (.sm rfl (.cv Tryz.func101 [_] (rfnumN_spec r _) ?_))))
    refine .an rfl (.sm rfl (.cv Tryz.func101 [_] (rfnumN_spec r _) ?_))
    refine .an rfl (.sm rfl (.cv Tryz.func100 [_, _] (rftxtN_spec r _) ?_))
    refine .an rfl (.seq (.sm rfl (.ui rfl rfl rfl (.m rfl (.dec (t := 105) rfl (fun h20_105 => ?_) (fun h20_105 => ?_))))))
    ·refine .kDT (t := 104) rfl h20_105 (.gk (.gk (.gk (.gskipU (t := 108) rfl rfl rfl (.gskipU (t := 108) rfl rfl rfl (.gskipU (t := 108) rfl rfl rfl (.gskipU (t := 108) rfl rfl rfl (.gskipU (t := 108) rfl rfl rfl (.gskipU (t := 108) rfl rfl rfl (.gskipU (t := 108) rfl rfl rfl (.gskipU (t := 108) rfl rfl rfl (.gskipU (t := 108) rfl rfl rfl (.gskipU (t := 108) rfl rfl rfl (.gskipU (t := 108) rfl rfl rfl (.gk (.u (.pickT rfl rfl) (.nt (.condT rfl (.seq ?_)))))))))))))))))))
     have hbadz : readZ s = none := ref8_badS (j := i) (by rw [← hst4]; exact hi2) (by rw [← hst4]; exact fun g => by have g1 : lastI (manyR ssR i (cntR st).2).1 < (numR (manyR ssR i (cntR st).2).2).1 := g; have := (okS_pos hoks).1; omega)
     refine .region (.a rfl (.an rfl (.rt (.blk_r (.then_r (.then_r (.blk_r (.then_r ?_))))))))
     exact .dn rfl rfl (.inl ⟨hbadz, rfl, rfl⟩)
    refine .kDF (t := 104) rfl h20_105 (.grun (t := 105) rfl rfl rfl (.m rfl (.grun (t := 105) rfl rfl rfl (.ui rfl rfl rfl (.grun (t := 105) rfl rfl rfl (.m rfl (.dec (t := 108) rfl (fun h20_108 => ?_) (fun h20_108 => ?_))))))))
    ·refine .kDT (t := 107) rfl h20_108 (.grun (t := 108) rfl rfl rfl (.m rfl (.grun (t := 108) rfl rfl rfl (.m rfl (.grun (t := 108) rfl rfl rfl (.u (.nilp rfl) (.grun (t := 108) rfl rfl rfl (.u (.fieldAddr rfl fo_87_1) (.grun (t := 108) rfl rfl rfl (.u (.ld rfl ag_59) (.grun (t := 108) rfl rfl rfl (.m rfl (.grun (t := 108) rfl rfl rfl (.q (.sub rfl rfl (by omega)) rfl (.slShape (T := 127) (sz := 3) (v := .slice as1 i cs1) (xs := (manyR ssR i (cntR st).2).1.flatMap rsC) (by repeat' constructor) (by omega) fun bs bs' e0 mbs _ => ?_)))))))))))))))
     simp only [Value.slice.injEq, true_and] at e0
     obtain ⟨rfl, rfl⟩ := e0
     refine .grun (t := 108) rfl rfl rfl (.q (.indexAddr rfl rfl el_59 (by omega)) rfl (.grun (t := 108) rfl rfl rfl (.u (.fieldAddr rfl fo_127_0) (.grun (t := 108) rfl rfl rfl (.q (.loadRd (sz := 3) (j := (i - 1) * 3 + 0) (p := slR 127 3 _ i ((manyR ssR i (cntR st).2).1.flatMap rsC)) (v := vint ((manyR ssR i (cntR st).2).1[i - 1]'(by omega)).1) rfl ag_3 (by repeat' constructor) (fun h hp => slR_rd hp) (by omega) ((rs_cell (l := (manyR ssR i (cntR st).2).1) (i := i - 1) (k := 0) (by omega) (by decide)).trans rfl)) rfl (.grun (t := 108) rfl rfl rfl (.ui rfl rfl rfl (.grun (t := 105) rfl rfl rfl (.u (.pickT rfl rfl) (.u (.pickF rfl rfl) (.nt (.condD rfl (fun h121 => ?_) (fun h121 => ?_)))))))))))))
     ·refine .seq ?_
      have hbadz : readZ s = none := ref8_badS (j := i) (by rw [← hst4]; exact hi2) (by rw [← hst4]; exact fun g => by have g1 : lastI (manyR ssR i (cntR st).2).1 < (numR (manyR ssR i (cntR st).2).2).1 := g; rw [lastI_at (i := i - 1) (by omega)] at g1; omega)
      refine .region (.a rfl (.an rfl (.rt (.blk_r (.then_r (.then_r (.blk_r (.then_r ?_))))))))
      exact .dn rfl rfl (.inl ⟨hbadz, rfl, rfl⟩)
     refine .sk ?_
     have hnx : nextS (lastI (manyR ssR i (cntR st).2).1) ((ssR (manyR ssR i (cntR st).2).2).1).1 := by show lastI (manyR ssR i (cntR st).2).1 < (numR (manyR ssR i (cntR st).2).2).1; rw [lastI_at (i := i - 1) (by omega)]; omega
     refine .region (.m rfl (.m rfl (.nf rfl fo_87_1 (.u (.ld rfl ag_59) (.m rfl (.m rfl (.m rfl (.q (.to (v' := .agg (rsC (ssR (manyR ssR i (cntR st).2).2).1).toArray) (.build (us := [(0, _), (1, _), (2, _)]) fl_127 ze_127 rfl rfl (by simp [isCell])) rfl) rfl (.oq (.buildSlice (vs := [_]) el_59 ze_127 rfl rfl rfl rfl (by first | (simp [Value.cells]; done) | (intro v hv; simp only [List.mem_cons, List.not_mem_nil, or_false] at hv; (repeat (first | (subst hv; rfl) | (rcases hv with hv | hv; (subst hv; rfl)))))) (by decide)) ?_)))))))))
     rintro v L' ⟨b22_9, rfl, rfl⟩
     refine .oq (.append1 rfl rfl rfl el_59 ze_127 rfl rfl ?c186 ?c187 (Nat.le_refl _) ?c188 (by decide)) ?_
     case c186 => simp only [List.map_cons, List.map_nil, List.flatten_cons, List.flatten_nil, List.append_nil]; simp [Value.cells, rsC, isCell]
     case c187 => rfl
     case c188 => first | omega | (simp; omega)
     rintro v L' ⟨⟨a22_10, c22_10, rfl⟩, rfl⟩
     refine .nf rfl fo_87_1 (.st rfl rfl rfl sz_59 ?_)
     refine .nil (.blk_n (.then_n (.region (.m rfl (.q (.add rfl rfl (by omega)) rfl (.an rfl (.slCast (T := 127) (sz := 3) (m' := i + 1) (xs' := (manyR ssR (i + 1) (cntR st).2).1.flatMap rsC) (by repeat' constructor) rfl (by show _ = ((manyR ssR i (cntR st).2).1 ++ [(ssR (manyR ssR i (cntR st).2).2).1]).flatMap rsC; rw [List.flatMap_append]; simp; rfl) (.ptCast (b := x) (l' := [.slice au l.length cu, .slice a22_10 (i + 1) c22_10, vint (numR (txt4R (some s)).2).1]) (by repeat' constructor) rfl ?_))))))))
     exact .rk ((i + 1, .slice a22_10 (i + 1) c22_10)) (⟨by dsimp only; omega, ⟨_, _, rfl⟩, okS_snoc.2 ⟨hoks, hnx⟩⟩) (by dsimp only; omega) ⟨rfl, rfl, rfl, rfl, rfl, trivial⟩
    refine .kDF (t := 107) rfl h20_108 (.gk (.gk (.gk (.gk (.gk (.gk (.gk (.gk (.gk (.gk (.gk (.grun (t := 105) rfl rfl rfl (.u (.pickF rfl rfl) (.u (.pickF rfl rfl) (.nt (.condF rfl (.sk ?_)))))))))))))))))
    have hnx : nextS (lastI (manyR ssR i (cntR st).2).1) ((ssR (manyR ssR i (cntR st).2).2).1).1 := by show lastI (manyR ssR i (cntR st).2).1 < (numR (manyR ssR i (cntR st).2).2).1; have hi0 : i = 0 := (by omega); subst hi0; show (0 : Int) < _; omega
    refine .region (.m rfl (.m rfl (.nf rfl fo_87_1 (.u (.ld rfl ag_59) (.m rfl (.m rfl (.m rfl (.q (.to (v' := .agg (rsC (ssR (manyR ssR i (cntR st).2).2).1).toArray) (.build (us := [(0, _), (1, _), (2, _)]) fl_127 ze_127 rfl rfl (by simp [isCell])) rfl) rfl (.oq (.buildSlice (vs := [_]) el_59 ze_127 rfl rfl rfl rfl (by first | (simp [Value.cells]; done) | (intro v hv; simp only [List.mem_cons, List.not_mem_nil, or_false] at hv; (repeat (first | (subst hv; rfl) | (rcases hv with hv | hv; (subst hv; rfl)))))) (by decide)) ?_)))))))))
    rintro v L' ⟨b22_9, rfl, rfl⟩
    refine .oq (.append1 rfl rfl rfl el_59 ze_127 rfl rfl ?c207 ?c208 (Nat.le_refl _) ?c209 (by decide)) ?_
    case c207 => simp only [List.map_cons, List.map_nil, List.flatten_cons, List.flatten_nil, List.append_nil]; simp [Value.cells, rsC, isCell]
    case c208 => rfl
    case c209 => first | omega | (simp; omega)
    rintro v L' ⟨⟨a22_10, c22_10, rfl⟩, rfl⟩
    refine .nf rfl fo_87_1 (.st rfl rfl rfl sz_59 ?_)
    refine .nil (.blk_n (.then_n (.region (.m rfl (.q (.add rfl rfl (by omega)) rfl (.an rfl (.slCast (T := 127) (sz := 3) (m' := i + 1) (xs' := (manyR ssR (i + 1) (cntR st).2).1.flatMap rsC) (by repeat' constructor) rfl (by show _ = ((manyR ssR i (cntR st).2).1 ++ [(ssR (manyR ssR i (cntR st).2).2).1]).flatMap rsC; rw [List.flatMap_append]; simp; rfl) (.ptCast (b := x) (l' := [.slice au l.length cu, .slice a22_10 (i + 1) c22_10, vint (numR (txt4R (some s)).2).1]) (by repeat' constructor) rfl ?_))))))))
    exact .rk ((i + 1, .slice a22_10 (i + 1) c22_10)) (⟨by dsimp only; omega, ⟨_, _, rfl⟩, okS_snoc.2 ⟨hoks, hnx⟩⟩) (by dsimp only; omega) ⟨rfl, rfl, rfl, rfl, rfl, trivial⟩
   refine .exit (.then_e (.then_e (.blk_e (.then_n ?_))))
   have hsn : (manyR ssR i (cntR st).2).2 = none := by apply Classical.byContradiction; intro g; exact h94 (hee.2 g)
   refine .slCast (T := 127) (sz := 3) (m' := (manyR ssR i (cntR st).2).1.length) (xs' := (manyR ssR i (cntR st).2).1.flatMap rsC) (by repeat' constructor) hli.symm rfl ?_
   exact .mk ((.slice as1 i cs1, (manyR ssR i (cntR st).2).1, (manyR ssR i (cntR st).2).2)) (⟨⟨as1, cs1, by dsimp only; rw [hli]⟩, by dsimp only; omega, fun g => sess_stop hbad1 (fun g => (hgood1 g).1) (by omega) g, fun g => absurd hsn g⟩) ⟨rfl, rfl, rfl, trivial⟩
  refine .kDF (t := 87) rfl h15_88 (.gk (.gk (.gk (.gk (.gk (.u (.pickF rfl rfl) (.nt (.condF rfl (.exit (.then_e (.then_e (.blk_e (.then_n ?_)))))))))))))
  have hik : i = (cntR st).1 := by omega
  refine .slCast (T := 127) (sz := 3) (m' := (manyR ssR i (cntR st).2).1.length) (xs' := (manyR ssR i (cntR st).2).1.flatMap rsC) (by repeat' constructor) hli.symm rfl ?_
  exact .mk ((.slice as1 i cs1, (manyR ssR i (cntR st).2).1, (manyR ssR i (cntR st).2).2)) (⟨⟨as1, cs1, by dsimp only; rw [hli]⟩, by dsimp only; omega, fun g => sess_stop hbad1 (fun g => (hgood1 g).1) (by omega) g, fun g => by have e4 := (hgood1 (sess_some g)).1; dsimp only at g ⊢; exact ⟨e4, by rw [hik, e4], by rw [hik, e4], hoks⟩⟩) ⟨rfl, rfl, rfl, trivial⟩
 rintro ⟨us, ls, sf⟩ ⟨⟨as1, cs1, hus⟩, hs256, hbad2, hgood2⟩
 dsimp only
 dsimp only at hus hs256 hbad2 hgood2
 subst hus
 refine .seq (.sm rfl (.oq (.c Tryz.func105 [_] (rfend_spec r _)) ?_))
 rintro v L' ⟨e1, he1, rfl, st', rfl⟩
 refine .ui rfl rfl rfl (.m rfl (.ndec (t := 138) rfl (fun h23_138 => ?_) (fun h23_138 => ?_)))
 ·refine .kNT (t := 137) rfl h23_138 (.gk (.gk (.u (.pickT rfl rfl) (.m rfl (.gk (.gk (.gk (.gk (.gk (.gk (.u (.pickT rfl rfl) (.nt (.condT rfl (.seq ?_))))))))))))))
  have hbadz : readZ s = none := by
    cases hr : readZ s with
    | none => rfl
    | some τ =>
      have g8 := ref8_iff.1 hr
      have hsf : sf ≠ none := fun g => by rw [hbad2 g] at hr; cases hr
      obtain ⟨q1, q2, q3, q4⟩ := hgood2 hsf
      have e6 : sf = some [] := by rw [q2, show manyR ssR (cntR (r4Z s)).1 (cntR (r4Z s)).2 = _ from g8.ss]
      exact absurd (he1.2 e6) h23_138
  refine .region (.a rfl (.an rfl (.rt ?_)))
  exact .dn rfl rfl (.inl ⟨hbadz, rfl, rfl⟩)
 refine .kNF (t := 137) rfl h23_138 (.grun (t := 138) rfl rfl rfl (.m rfl (.grun (t := 138) rfl rfl rfl (.u (.strne rfl rfl) (.u (.pickF rfl rfl) (.m rfl (.ndec (t := 142) rfl (fun h23_142 => ?_) (fun h23_142 => ?_))))))))
 ·refine .kNT (t := 140) rfl h23_142 (.kNT (t := 141) rfl h23_142 (.gk (.gk (.gk (.gk (.gk (.gk (.u (.pickT rfl rfl) (.nt (.condT rfl (.seq ?_)))))))))))
  have hbadz : readZ s = none := by
    cases hr : readZ s with
    | none => rfl
    | some τ =>
      have g8 := ref8_iff.1 hr
      have hsf : sf ≠ none := fun g => by rw [hbad2 g] at hr; cases hr
      obtain ⟨q1, q2, q3, q4⟩ := hgood2 hsf
      have e6 : sf = some [] := by rw [q2, show manyR ssR (cntR (r4Z s)).1 (cntR (r4Z s)).2 = _ from g8.ss]
      exact absurd g8.head h23_142
  refine .region (.a rfl (.an rfl (.rt ?_)))
  exact .dn rfl rfl (.inl ⟨hbadz, rfl, rfl⟩)
 refine .kNF (t := 140) rfl h23_142 (.kNF (t := 141) rfl h23_142 (.grun (t := 142) rfl rfl rfl (.m rfl (.grun (t := 142) rfl rfl rfl (.u (.nilp rfl) (.grun (t := 142) rfl rfl rfl (.u (.fieldAddr rfl fo_87_0) (.grun (t := 142) rfl rfl rfl (.u (.ld rfl ag_73) (.grun (t := 142) rfl rfl rfl (.q (.slen rfl Tryz.underlying73 rfl) rfl (.grun (t := 142) rfl rfl rfl (.ui rfl rfl rfl (.u (.pickF rfl rfl) (.nt (.condD rfl (fun h149 => ?_) (fun h149 => ?_)))))))))))))))))
 ·refine .seq ?_
  have hbadz : readZ s = none := by
    cases hr : readZ s with
    | none => rfl
    | some τ =>
      have g8 := ref8_iff.1 hr
      have hsf : sf ≠ none := fun g => by rw [hbad2 g] at hr; cases hr
      obtain ⟨q1, q2, q3, q4⟩ := hgood2 hsf
      have e6 : sf = some [] := by rw [q2, show manyR ssR (cntR (r4Z s)).1 (cntR (r4Z s)).2 = _ from g8.ss]
      have hst : st ≠ none := fun g => by rw [hbad1 g] at hr; cases hr
      obtain ⟨-, p2, -⟩ := hgood1 hst
      have e7 : τ.nodes = ndsZ l := by rw [p2, g8.n]
      exact absurd (by rw [e7]; unfold ndsZ; rw [List.eq_nil_of_length_eq_zero (l := l) (by omega)]; rfl) g8.ne
  refine .region (.a rfl (.an rfl (.rt ?_)))
  exact .dn rfl rfl (.inl ⟨hbadz, rfl, rfl⟩)
 refine .sk (.seq ?_)
 have hsf0 : sf = some [] := he1.1 h23_138
 have hsf : sf ≠ none := by rw [hsf0]; simp
 obtain ⟨q1, q2, q3, q4⟩ := hgood2 hsf
 have hr : readZ s = some ⟨ndsZ l, ls, (numR (txt4R (some s)).2).1⟩ := read_all h23_142 hbad1 hgood1 q1 (by rw [← q2]; exact hsf0) q3 q4 (by have := h149; omega)
 refine .region (.m rfl (.a rfl (.an rfl (.ret (.rtFold (x := x) (τ := ⟨ndsZ l, ls, (numR (txt4R (some s)).2).1⟩) (l := l) rfl (by repeat' constructor) rfl rfl rfl rfl rfl ?_)))))
 exact .dn rfl rfl (.inr ⟨_, x, hr, rfl, rfl⟩)
theorem okN_later {l : List PN} (h : okN l) {i : Nat} (hi : i < l.length) (h1 : 1 ≤ i) : l[i].1 ≠ [47] := by
 intro e
 have h2 := ((h i hi).2.2).2 e
 have hl : (l.take i).length = (i - 1) + 1 := by rw [List.length_take]; omega
 rw [last_at hl, List.getElem_take] at h2
 have h3 := (h (i - 1) (by omega)).1
 rw [h2] at h3
 exact absurd h3 (by decide)
theorem right_sesB {τ : Tr} (h : RightT τ) : SesB τ := fun y hy => (h.ss y hy).1.2
theorem rest_sesB {z : Int} : ∀ {l : List En} {τ : Tr}, SesB τ → (∀ e ∈ l, e.x.own ≤ 9223372036854775807) → SesB (l.foldl (restStep z) τ)
 | [], _, h, _ => h
 | e :: l, τ, h, hl => rest_sesB (l := l) (τ := restStep z τ e) (by unfold restStep; split; exact app_sesB h (hl e List.mem_cons_self); exact h) (fun x hx => hl x (List.mem_cons_of_mem _ hx))
def RTreeZ (o : Option Tr) (e : Int) (v : Value) (L : List HP) : Prop := (o = none ∧ v = .tuple #[.pointer none, vint e] ∧ L = []) ∨ ∃ τ x, o = some τ ∧ v = .tuple #[vptr x, vint 0] ∧ L = [refR x τ]
def RTreeZP (p : HP) (o : Option Tr) (e : Int) (v : Value) (L : List HP) : Prop := (o = none ∧ v = .tuple #[.pointer none, vint e] ∧ L = [p]) ∨ ∃ τ x, o = some τ ∧ v = .tuple #[vptr x, vint 0] ∧ L = [refR x τ, p]
theorem rdecode8_spec (s : Bs) (hs : s.length ≤ 70368744177664) : Fn Tryz.prog 77 #[vstr s] [] (RTreeZ (decZ s) 70) := by
 refine Fn.intro Tryz.func77 rfl rfl fun F W => ?_
 refine .sr (.a rfl (.an rfl (.sm rfl (.oq (.c Tryz.func56 [_] (rread8_spec s hs)) ?_))))
 rintro v L' (⟨hz, rfl, rfl⟩ | ⟨τ, x, hz, rfl, rfl⟩)
 ·refine .m rfl (.u (.extract rfl rfl) (.u (.extract rfl rfl) (.a rfl (.an rfl (.seq (.sm rfl (.q (.as (v' := .bool true) (by rfl) (.not rfl)) rfl (.nt (.condT rfl (.sr (.a rfl (.an rfl (.rt ?_)))))))))))))
  exact .dn rfl rfl (.inl ⟨dec_none hz, rfl, rfl⟩)
 have hR := (read_form hz).1
 have ho := right_ok hR
 have hfew := ho.few
 have hpos : 0 < τ.nodes.length := List.length_pos_iff.2 hR.some'
 refine .m rfl (.u (.extract rfl rfl) (.u (.extract rfl rfl) (.a rfl (.an rfl (.seq (.sm rfl (.q (.as (v' := .bool false) (by rfl) (.not rfl)) rfl (.nt (.condF rfl (.sk (.seq (.sr (.an rfl (.block (.loopK (ι := Nat) (fun q E => (6, vint q) :: E) (fun q => [refR x τ]) (fun q => 1 ≤ q ∧ q ≤ τ.nodes.length ∧ ∀ k (hk : k < τ.nodes.length), k < q → τ.nodes[k].1 = [47] ∨ thereT τ (parentZ τ.nodes[k].1)) (fun q => τ.nodes.length - q) (1) (ts := [4]) (.cons rfl (.nil)) (⟨Nat.le_refl _, hpos, fun k hk h => .inl (by have h0 : k = 0 := (by omega); subst h0; exact okN_first hR.n hk)⟩) ⟨rfl, rfl, trivial⟩ (by repeat' constructor) ?_)))))))))))))))
 rintro i ⟨hi1, hi, hno⟩
 refine .seq (.seq (.rtOpen (x := x) (τ := τ) (by repeat' constructor) fun an cn as1 cs l hl => ?_))
 have hll := nds_len hl
 refine .region (.m rfl (.m rfl (.nf rfl fo_87_0 (.u (.ld rfl ag_73) (.q (.slen rfl Tryz.underlying73 rfl) rfl (.ui rfl rfl rfl (.nil (.rtFold (x := x) (τ := τ) (l := l) hl (by repeat' constructor) rfl rfl rfl rfl rfl (.then_n (.condD rfl (fun h20 => ?_) (fun h20 => ?_)))))))))))
 ·refine .sk (.seq (.block (.seq ?_)))
  have hi2 : i < τ.nodes.length := by omega
  have hpl := able_len (ho.able _ (List.getElem_mem hi2))
  refine .rtOpen (x := x) (τ := τ) (by repeat' constructor) fun an cn as1 cs l hl => ?_
  have hll := nds_len hl
  have hpi : τ.nodes[i].1 = (l[i]'(by omega)).1 := congrArg Prod.fst (nds_get hl (i := i) (by omega))
  refine .slShape (T := 129) (sz := 12) (v := .slice an l.length cn) (xs := l.flatMap rnC) (by repeat' constructor) (by omega) fun bn bn' e0 mbn _ => ?_
  simp only [Value.slice.injEq, true_and] at e0
  obtain ⟨rfl, rfl⟩ := e0
  refine .region (.m rfl (.m rfl (.nf rfl fo_87_0 (.u (.ld rfl ag_73) (.m rfl (.q (.indexAddr rfl rfl el_73 (by omega)) rfl (.u (.fieldAddr rfl fo_129_0) (.q (.loadRd (sz := 12) (j := i * 12 + 0) (p := rnR _ l) rfl ag_9 (by repeat' constructor) (fun h hp => slR_rd hp) (by omega) ((rn_cell (l := l) (i := i) (k := 0) (by omega) (by decide)).trans rfl)) rfl (.rtFold (x := x) (τ := τ) (l := l) hl (by repeat' constructor) rfl rfl rfl rfl rfl (.cv Tryz.func83 [_] (rparent_spec (l[i]'(by omega)).1 (by rw [← hpi]; omega)) ?_))))))))))
  refine .cv Tryz.func82 [_, _] (rplace_spec x τ (parentZ (l[i]'(by omega)).1) (by omega)) ?_
  refine .ui rfl rfl rfl (.nt (.condD rfl (fun h34 => ?_) (fun h34 => ?_)))
  ·refine .sr (.a rfl (.an rfl (.ret (.blk_r (.then_r (.then_r (.blk_r (.then_r ?_))))))))
   exact .dn rfl rfl (.inl ⟨dec_not hz (fun g => by rcases g _ (List.mem_map_of_mem (List.getElem_mem hi2)) with g1 | g1; exact okN_later hR.n hi2 hi1 g1; rw [hpi] at g1; have g2 := place_iff.2 g1; unfold placeZ at h34; omega), rfl, rfl⟩)
  refine .skip (.blk_n (.then_n (.region (.m rfl (.q (.add rfl rfl (by omega)) rfl (.an rfl ?_))))))
  exact .rk (i + 1) (⟨by omega, by omega, fun k hk hki => by by_cases e : k = i; (subst e; right; rw [hpi]; exact place_iff.1 (by unfold placeZ at h34; omega)); exact hno k hk (by omega)⟩) (by omega) ⟨rfl, rfl, trivial⟩
 refine .exit (.then_e (.then_e (.blk_e (.then_n (.sm rfl (.a rfl (.an rfl (.ret ?_))))))))
 exact .dn rfl rfl (.inr ⟨τ, x, dec_some hz (fun p hp => by obtain ⟨y, hy, rfl⟩ := List.mem_map.1 hp; obtain ⟨k, hk, rfl⟩ := List.mem_iff_getElem.1 hy; exact hno k hk (by omega)), rfl, rfl⟩)
theorem rrestore8_spec (s : Bs) (hs : s.length ≤ 70368744177664) (va : Value) (es : List En) (p : HP) (hE : EntsB p va es) : Fn Tryz.prog 33 #[vstr s, va] [p] (RTreeZP p (restO s es) 70) := by
 refine Fn.intro Tryz.func33 rfl rfl fun F W => ?_
 refine .rdAny (p := p) hE.cells (by repeat' constructor) fun aa ca e0 _ => ?_
 subst e0
 have hel := hE.len
 refine .sr (.a rfl (.an rfl (.sm rfl (.oq (.c Tryz.func56 [_] (rread8_spec s hs)) ?_))))
 rintro v L' (⟨hz, rfl, rfl⟩ | ⟨τ, x, hz, rfl, rfl⟩)
 ·refine .m rfl (.u (.extract rfl rfl) (.u (.extract rfl rfl) (.a rfl (.an rfl (.seq (.sm rfl (.q (.as (v' := .bool true) (by rfl) (.not rfl)) rfl (.nt (.condT rfl (.sr (.a rfl (.an rfl (.rt ?_)))))))))))))
  exact .dn rfl rfl (.inl ⟨by unfold restO; rw [hz]; rfl, rfl, rfl⟩)
 have hR := (read_form hz).1
 have ho := right_ok hR
 have hfew := ho.few
 have hpos : 0 < τ.nodes.length := List.length_pos_iff.2 hR.some'
 refine .m rfl (.u (.extract rfl rfl) (.u (.extract rfl rfl) (.a rfl (.an rfl (.seq (.sm rfl (.q (.as (v' := .bool false) (by rfl) (.not rfl)) rfl (.nt (.condF rfl (.sk (.seq (.rtOpen (x := x) (τ := τ) (by repeat' constructor) fun an cn as1 cs l hl => (.region (.m rfl (.nf rfl fo_87_2 (.u (.ld rfl ag_3) (.a rfl (.nil (.rtFold (x := x) (τ := τ) (l := l) hl (by repeat' constructor) rfl rfl rfl rfl rfl (.then_n (.seq (.sr (.an rfl (.block (.rfCast (x := x) (τ' := (restZ τ (es.take 0))) (by repeat' constructor) (by rw [List.take_zero]; rfl) (.loopK (ι := Nat) (fun q E => (9, vint q) :: E) (fun q => [refR x (restZ τ (es.take q))]) (fun q => q ≤ es.length) (fun q => es.length - q) (0) (ts := [1, 4, 5, 6, 8]) (.cons rfl (.cons rfl (.cons rfl (.cons rfl (.cons rfl (.nil)))))) (Nat.zero_le _) ⟨rfl, rfl, rfl, rfl, rfl, rfl, trivial⟩ (by repeat' constructor) ?_))))))))))))))))))))))))))
 rintro i hi
 refine .seq (.sm rfl (.m rfl (.q (.slen rfl Tryz.underlying24 rfl) rfl (.ui rfl rfl rfl (.nt (.condD rfl (fun h24 => ?_) (fun h24 => ?_)))))))
 ·have hi2 : i < es.length := by omega
  have hwm := wt_mem (List.getElem_mem hi2)
  have htot := hE.total
  refine .rdShape (p := p) hE.cells (by repeat' constructor) (by omega) fun be oe e1 => ?_
  subst e1
  have hok : (restZ τ (es.take i)).Ok (256 + 2097152) := (rest_ok (z := τ.zx) (p := p) (l := es.take i) ho (fun e he => hE.tx e (List.mem_of_mem_take he))).more (by have := wt_take (l := es) i; omega)
  have htx := hE.tx _ (List.getElem_mem hi2)
  refine .sk (.seq (.block (.sm rfl (.m rfl (.q (.indexAddr rfl rfl el_24 (by omega)) rfl (.u (.fieldAddr rfl fo_39_0) (.q (.loadRd (sz := 11) (j := i * 11 + 0) (p := p) rfl ag_3 (by repeat' constructor) hE.cells (by omega) ((en_cell (l := es) (i := i) (k := 0) (by omega) (by decide)).trans rfl)) rfl (.m rfl (.ui rfl rfl rfl (.nt (.condD rfl (fun h33 => ?_) (fun h33 => ?_))))))))))))
  ·refine .region (.m rfl (.m rfl (.m rfl (.q (.indexAddr rfl rfl el_24 (by omega)) rfl (.q (.loadRdA (sz := 11) (j := i * 11) (k := 11) (p := p) (vs := enC es[i]) rfl ag_39 (by repeat' constructor) hE.cells (by simp) (by omega) (by omega) (flatMap_at (f := enC) (sz := 11) (fun _ _ => rfl) (by omega))) rfl (.oq (.call Tryz.func30 rfl rfl (vs := [_, _]) rfl (rapply_spec x (restZ τ (es.take i)) es[i].zx es[i].ses es[i].xid es[i].x es[i].subs p htx _ hok (by omega))) ?_))))))
   rintro v L' ⟨ue, ee, rfl, he, hue, rfl⟩
   refine .nil (.blk_n (.then_n (.region (.m rfl (.q (.add rfl rfl (by omega)) rfl (.an rfl (.rfCast (x := x) (τ' := (restZ τ (es.take (i + 1)))) (by repeat' constructor) (by rw [rest_step _ hi2]; unfold restStep; rw [if_pos h33] <;> rfl) ?_)))))))
   exact .rk (i + 1) (by omega) (by omega) ⟨rfl, rfl, rfl, rfl, rfl, rfl, trivial⟩
  refine .skip (.blk_n (.then_n (.region (.m rfl (.q (.add rfl rfl (by omega)) rfl (.an rfl (.rfCast (x := x) (τ' := (restZ τ (es.take (i + 1)))) (by repeat' constructor) (by rw [rest_step _ hi2]; unfold restStep; rw [if_neg h33] <;> rfl) ?_)))))))
  exact .rk (i + 1) (by omega) (by omega) ⟨rfl, rfl, rfl, rfl, rfl, rfl, trivial⟩
 have hii : i = es.length := by omega
 rw [hii, List.take_length]
 refine .exit (.then_e (.then_e (.blk_e (.then_n (.sm rfl (.a rfl (.an rfl (.ret ?_))))))))
 exact .dn rfl rfl (.inr ⟨_, x, by unfold restO; rw [hz]; rfl, rfl, rfl⟩)
theorem reads8_spec (s : Bs) (hs : s.length ≤ 70368744177664) : Fn Tryz.prog 28 #[vstr s] [] fun v L => v = .bool true ∧ L = [] := by
 refine Fn.intro Tryz.func28 rfl rfl fun F W => ?_
 refine .sr (.an rfl (.sm rfl (.oq (.c Tryz.func77 [_] (rdecode8_spec s hs)) ?_)))
 rintro v L' (⟨hz, rfl, rfl⟩ | ⟨τ, x, hz, rfl, rfl⟩)
 ·refine .m rfl (.u (.extract rfl rfl) (.u (.extract rfl rfl) (.a rfl (.an rfl (.sm rfl (.oq (.c Tryz.func13 [_] (sdecode_spec s hs)) ?_))))))
  rintro v L' (⟨-, rfl, rfl⟩ | ⟨υ, u, g, -, -⟩); rotate_left; (rw [hz] at g; cases g)
  refine .m rfl (.u (.extract rfl rfl) (.u (.extract rfl rfl) (.a rfl (.an rfl (.sm rfl (.oq (.c Tryz.func13 [_] (sdecode_spec s hs)) ?_))))))
  rintro v L' (⟨-, rfl, rfl⟩ | ⟨υ, u, g, -, -⟩); rotate_left; (rw [hz] at g; cases g)
  refine .m rfl (.u (.extract rfl rfl) (.u (.extract rfl rfl) (.a rfl (.an rfl (.seq (.sm rfl (.m rfl (.q (.as (v' := .bool false) (by rfl) (.int rfl rfl rfl)) rfl (.m rfl (.grun (t := 27) rfl rfl rfl (.m rfl (.grun (t := 27) rfl rfl rfl (.m rfl (.grun (t := 27) rfl rfl rfl (.q (.as (v' := .bool false) (by rfl) (.int rfl rfl rfl)) rfl (.u (.pickF rfl rfl) (.m rfl (.grun (t := 32) rfl rfl rfl (.m rfl (.grun (t := 32) rfl rfl rfl (.q (.as (v' := .bool true) (by rfl) (.ptreq rfl rfl Tryz.underlying28)) rfl (.grun (t := 32) rfl rfl rfl (.m rfl (.grun (t := 32) rfl rfl rfl (.q (.as (v' := .bool true) (by rfl) (.ptreq rfl rfl Tryz.underlying25)) rfl (.grun (t := 32) rfl rfl rfl (.q (.as (v' := .bool false) (by rfl) (.boolne rfl rfl Tryz.underlying4)) rfl ?_)))))))))))))))))))))))))))
  refine .u (.pickF rfl rfl) (.m rfl (.grun (t := 39) rfl rfl rfl (.m rfl (.grun (t := 39) rfl rfl rfl (.q (.as (v' := .bool true) (by rfl) (.ptreq rfl rfl Tryz.underlying28)) rfl (.grun (t := 39) rfl rfl rfl (.m rfl (.grun (t := 39) rfl rfl rfl (.q (.as (v' := .bool true) (by rfl) (.ptreq rfl rfl Tryz.underlying25)) rfl (.grun (t := 39) rfl rfl rfl (.q (.as (v' := .bool false) (by rfl) (.boolne rfl rfl Tryz.underlying4)) rfl (.u (.pickF rfl rfl) (.nt (.condF rfl (.sk (.seq (.sm rfl (.q (.as (v' := .bool true) (by rfl) (.ptreq rfl rfl Tryz.underlying25)) rfl (.nt (.condT rfl (.sr (.an rfl (.rt ?_)))))))))))))))))))))))
  exact .vv
 have hR := (read_form (dec_read hz).1).1
 have ho := right_ok hR
 have hsb := right_sesB hR
 refine .m rfl (.u (.extract rfl rfl) (.u (.extract rfl rfl) (.a rfl (.an rfl (.sm rfl (.oq (.c Tryz.func13 [_] (sdecode_spec s hs)) ?_))))))
 rintro v L' (⟨g, -, -⟩ | ⟨υ, t5, g, rfl, rfl⟩); (rw [hz] at g; cases g); obtain rfl : τ = υ := by rw [hz] at g; exact Option.some.inj g
 refine .m rfl (.u (.extract rfl rfl) (.u (.extract rfl rfl) (.a rfl (.an rfl (.sm rfl (.oq (.c Tryz.func13 [_] (sdecode_spec s hs)) ?_))))))
 rintro v L' (⟨g, -, -⟩ | ⟨υ, t7, g, rfl, rfl⟩); (rw [hz] at g; cases g); obtain rfl : τ = υ := by rw [hz] at g; exact Option.some.inj g
 refine .m rfl (.u (.extract rfl rfl) (.u (.extract rfl rfl) (.a rfl (.an rfl (.seq (.sm rfl (.m rfl (.q (.as (v' := .bool false) (by rfl) (.int rfl rfl rfl)) rfl (.m rfl (.grun (t := 27) rfl rfl rfl (.m rfl (.grun (t := 27) rfl rfl rfl (.m rfl (.grun (t := 27) rfl rfl rfl (.q (.as (v' := .bool false) (by rfl) (.int rfl rfl rfl)) rfl (.u (.pickF rfl rfl) (.m rfl (.grun (t := 32) rfl rfl rfl (.m rfl (.grun (t := 32) rfl rfl rfl (.q (.as (v' := .bool false) (by rfl) (.ptreq rfl rfl Tryz.underlying28)) rfl (.grun (t := 32) rfl rfl rfl (.m rfl (.grun (t := 32) rfl rfl rfl (.q (.as (v' := .bool false) (by rfl) (.ptreq rfl rfl Tryz.underlying25)) rfl (.grun (t := 32) rfl rfl rfl (.q (.as (v' := .bool false) (by rfl) (.boolne rfl rfl Tryz.underlying4)) rfl ?_)))))))))))))))))))))))))))
 refine .u (.pickF rfl rfl) (.m rfl (.grun (t := 39) rfl rfl rfl (.m rfl (.grun (t := 39) rfl rfl rfl (.q (.as (v' := .bool false) (by rfl) (.ptreq rfl rfl Tryz.underlying28)) rfl (.grun (t := 39) rfl rfl rfl (.m rfl (.grun (t := 39) rfl rfl rfl (.q (.as (v' := .bool false) (by rfl) (.ptreq rfl rfl Tryz.underlying25)) rfl (.grun (t := 39) rfl rfl rfl (.q (.as (v' := .bool false) (by rfl) (.boolne rfl rfl Tryz.underlying4)) rfl (.u (.pickF rfl rfl) (.nt (.condF rfl (.sk (.seq (.sm rfl (.q (.as (v' := .bool false) (by rfl) (.ptreq rfl rfl Tryz.underlying25)) rfl (.nt (.condF rfl (.sk (.seq (.add (p := nilA) nilA_ok (.region (.m rfl (.q (.to (v' := .agg (ptC (ptS 3 [47] [111, 118, 101, 114] (-1))).toArray) (.build (us := [(0, _), (1, _), (2, _), (5, _)]) fl_37 ze_37 rfl rfl (by simp [isCell])) rfl) rfl ?_))))))))))))))))))))))))))
 refine .q (.buildN (pl := [(0, 1), (1, 1), (2, 1), (3, 8)]) (us := [(0, vint 1), (3, .agg (ptC (ptS 3 [47] [111, 118, 101, 114] (-1))).toArray)]) (cells := [vint 1, vint 0, vint 0] ++ ptC (ptS 3 [47] [111, 118, 101, 114] (-1))) Tryz.underlying39 (by kernel_rfl) ze_39 rfl (fill_entry _ _ _ _ _ _ _ _ _)) rfl (.oq (.call Tryz.func12 rfl rfl (vs := [_, _]) rfl (trapply_spec t5 τ 1 0 0 (ptS 3 [47] [111, 118, 101, 114] (-1)) [] nilA (txS_ok _ (by decide)) 256 ho (by decide))) ?_)
 rintro v L' ⟨u, e, rfl, -, ⟨a1, c1, rfl⟩, rfl⟩
 refine .nt (.sm rfl (.m rfl (.cv Tryz.func26 [_, _] (alike7_spec t7 x τ 256 ho (by decide) hsb) ?_)))
 refine .an rfl (.ret ?_)
 exact .vv
theorem rest_get {s : Bs} {es : List En} {υ : Tr} (h : restO s es = some υ) : ∃ σ, readZ s = some σ ∧ restZ σ es = υ := by
 unfold restO at h
 cases e : readZ s with
 | none => rw [e] at h; cases h
 | some σ => rw [e] at h; exact ⟨σ, rfl, Option.some.inj h⟩
theorem snapReads8_spec (s : Bs) (va : Value) (es : List En) (p : HP) (hs : s.length ≤ 70368744177664) (hE : EntsA p va es) : Fn Tryz.prog 8 #[vstr s, va] [p] fun v L => v = .bool true ∧ L = [p] := by
 refine Fn.intro Tryz.func8 rfl rfl fun F W => ?_
 refine .sr (.an rfl (.sr (.cv Tryz.func9 [] (awake8_spec) ?_)))
 refine .an rfl (.sm rfl (.cv Tryz.func28 [_] (reads8_spec s hs) ?_))
 refine .an rfl (.sm rfl (.m rfl (.oq (.c Tryz.func19 [_, _] (srestore_spec s hs va es p hE)) ?_)))
 rintro v L' (⟨hz, rfl, rfl⟩ | ⟨σ, t, hz, rfl, rfl⟩)
 ·refine .m rfl (.u (.extract rfl rfl) (.u (.extract rfl rfl) (.a rfl (.an rfl (.sm rfl (.m rfl (.oq (.c Tryz.func33 [_, _] (rrestore8_spec s hs va es p hE.b)) ?_)))))))
  rintro v L' (⟨-, rfl, rfl⟩ | ⟨υ, u, g, -, -⟩); rotate_left; (rw [hz] at g; cases g)
  refine .m rfl (.u (.extract rfl rfl) (.u (.extract rfl rfl) (.a rfl (.an rfl (.seq (.sm rfl (.u (.not rfl) (.m rfl (.grun (t := 28) rfl rfl rfl (.m rfl (.grun (t := 28) rfl rfl rfl (.u (.not rfl) (.u (.pickF rfl rfl) (.m rfl (.grun (t := 32) rfl rfl rfl (.m rfl (.grun (t := 32) rfl rfl rfl (.m rfl (.grun (t := 32) rfl rfl rfl (.q (.as (v' := .bool false) (by rfl) (.int rfl rfl rfl)) rfl (.u (.pickF rfl rfl) (.m rfl (.grun (t := 37) rfl rfl rfl (.m rfl (.grun (t := 37) rfl rfl rfl (.q (.as (v' := .bool true) (by rfl) (.ptreq rfl rfl Tryz.underlying28)) rfl (.grun (t := 37) rfl rfl rfl (.m rfl (.grun (t := 37) rfl rfl rfl (.q (.as (v' := .bool true) (by rfl) (.ptreq rfl rfl Tryz.underlying25)) rfl (.grun (t := 37) rfl rfl rfl ?_)))))))))))))))))))))))))))))))
  refine .q (.as (v' := .bool false) (by rfl) (.boolne rfl rfl Tryz.underlying4)) rfl (.u (.pickF rfl rfl) (.nt (.condF rfl (.sk (.sm rfl (.q (.as (v' := .bool true) (by rfl) (.ptreq rfl rfl Tryz.underlying25)) rfl (.m rfl (.gk (.gk (.gk (.u (.pickT rfl rfl) (.an rfl (.ret ?_)))))))))))))
  exact .vv
 obtain ⟨τ, hrd, hσ⟩ := rest_get hz
 have hR := (read_form hrd).1
 have ho : σ.Ok (256 + 2097152) := by rw [← hσ]; exact (rest_ok (z := τ.zx) (p := p) (l := es) (right_ok hR) hE.tx).more (by have := hE.total; omega)
 have hsb : SesB σ := by rw [← hσ]; exact rest_sesB (right_sesB hR) hE.own
 refine .m rfl (.u (.extract rfl rfl) (.u (.extract rfl rfl) (.a rfl (.an rfl (.sm rfl (.m rfl (.oq (.c Tryz.func33 [_, _] (rrestore8_spec s hs va es p hE.b)) ?_)))))))
 rintro v L' (⟨g, -, -⟩ | ⟨υ, x, g, rfl, rfl⟩); (rw [hz] at g; cases g); obtain rfl : σ = υ := by rw [hz] at g; exact Option.some.inj g
 refine .m rfl (.u (.extract rfl rfl) (.u (.extract rfl rfl) (.a rfl (.an rfl (.seq (.sm rfl (.u (.not rfl) (.m rfl (.grun (t := 28) rfl rfl rfl (.m rfl (.grun (t := 28) rfl rfl rfl (.u (.not rfl) (.u (.pickF rfl rfl) (.m rfl (.grun (t := 32) rfl rfl rfl (.m rfl (.grun (t := 32) rfl rfl rfl (.m rfl (.grun (t := 32) rfl rfl rfl (.q (.as (v' := .bool false) (by rfl) (.int rfl rfl rfl)) rfl (.u (.pickF rfl rfl) (.m rfl (.grun (t := 37) rfl rfl rfl (.m rfl (.grun (t := 37) rfl rfl rfl (.q (.as (v' := .bool false) (by rfl) (.ptreq rfl rfl Tryz.underlying28)) rfl (.grun (t := 37) rfl rfl rfl (.m rfl (.grun (t := 37) rfl rfl rfl (.q (.as (v' := .bool false) (by rfl) (.ptreq rfl rfl Tryz.underlying25)) rfl (.grun (t := 37) rfl rfl rfl ?_)))))))))))))))))))))))))))))))
 refine .q (.as (v' := .bool false) (by rfl) (.boolne rfl rfl Tryz.underlying4)) rfl (.u (.pickF rfl rfl) (.nt (.condF rfl (.sk (.sm rfl (.q (.as (v' := .bool false) (by rfl) (.ptreq rfl rfl Tryz.underlying25)) rfl (.m rfl (.grun (t := 46) rfl rfl rfl (.m rfl (.grun (t := 46) rfl rfl rfl (.m rfl (.grun (t := 46) rfl rfl rfl (.oq (.call Tryz.func26 rfl rfl (vs := [_, _]) rfl (alike7_spec t x σ _ ho (by decide) hsb)) ?_)))))))))))))
 rintro v L' ⟨rfl, rfl⟩
 refine .u (.pickF rfl rfl) (.an rfl (.ret ?_))
 exact .vv
open Go Go.ChangeShapes Go.WideShapes Go.ChangeAt Go.RowKit
section
variable {H : Type} {enc : TypeId × Value → H} {P : Program} {W W' : World}
theorem trodAll_old (hl : laidOutB P = true) (hb : Below W.heap.size W W') (sp : Nat → Bool) : ∀ (ts : List TypeId) (vs : List Value) (ds : List (DataW H)) (p : List MemPlace), (∀ t ∈ ts, P.readableRec t = true ∧ t < P.types.size) →
  DataW.TrodAll enc P W 0 (fun _ => true) true ts vs ds p → (∀ x ∈ p, x.block < W.heap.size) → (∀ x ∈ p, sp x.block = true) → DataW.TrodAll enc P W' 0 sp true ts vs ds p
 | [], vs, ds, p, _, h, _, _ => by
  obtain ⟨rfl, rfl, rfl⟩ := trodAll_nil h
  exact h
 | t :: ts, vs, ds, p, hr, h, hlt, hsp => by
  obtain ⟨v, vs1, d, ds1, a, b, rfl, rfl, rfl, h1, h2⟩ := trodAll_cons h
  have r := hr t (by simp)
  refine ⟨a, b, WideElems.Trod_stays hl r.1 r.2 h1 (fun x hx => hb.same (hlt x (by simp [hx]))) (fun x hx => hsp x (by simp [hx])), ?_, rfl⟩
  exact trodAll_old hl hb sp ts vs1 ds1 b (fun t ht => hr t (by simp [ht])) h2 (fun x hx => hlt x (by simp [hx])) (fun x hx => hsp x (by simp [hx]))
theorem settled {fn : Func} {s : ChangeSpec} {apart fresh handsOn again : Bool} {args : Array Value} {ds gs : List (DataW H)} {before : List MemPlace} {tb : TypeId}
  (hW : DataW.Whole enc P fn.params.toList s.vars apart W args.toList ds gs before) (hvars : s.vars = []) (hspec : ∀ gs', gs' = [] → s.fn H (ds ++ gs') = { results := [.lit (.bool true)], args := ds })
  (hres : fn.resultTypes = #[tb]) (htb : P.underlying tb = some .bool) (hl : laidOutB P = true) (hr : ∀ t ∈ fn.params.toList, P.readableRec t = true ∧ t < P.types.size) (hb : Below W.heap.size W W') :
  s.post enc P fn apart fresh handsOn again W args (.bool true) W' := by
 have hW' := hW
 have hlt := hW.lt
 obtain ⟨p, q, hA, hV, rfl, hfz, hnd⟩ := hW
 rw [hvars] at hV
 obtain ⟨rfl, rfl⟩ := trodVars_none hV
 have hs := hspec [] rfl
 have hargs : ∀ sp : Nat → Bool, (∀ x ∈ p, sp x.block = true) → DataW.TrodAll enc P W' 0 sp true fn.params.toList args.toList ds p := fun sp hsp =>
  trodAll_old hl hb sp _ _ _ _ hr hA (fun x hx => hlt x (by simp [hx])) hsp
 have hbool : ∀ (b : Nat) (sp : Nat → Bool) (hd : Bool), DataW.TrodAll enc P W' b sp hd fn.resultTypes.toList ((Value.bool true).resultList fn.resultTypes.size) [.lit (.bool true)] [] := by
  intro b sp hd
  rw [hres]
  exact trodAll_cons_mk (shut_bool htb _) trodAll_mk0
 refine ⟨ds, [], p ++ [], [], p, [], hW', ?_, ?_, ?_, hb.frame _, fun _ => ⟨ok_one hres rfl (okWide_bool_mk htb _), [.lit (.bool true)] ++ ds, [], p, ⟨p, [], ?_, ?_, by simp, ?_, ?_⟩, ?_⟩⟩
 ·rw [hs]; exact hbool _ _ _
 ·rw [hs]; exact hargs _ (fun x hx => by simpa using hlt x (by simp [hx]))
 ·rw [hs, hvars]; exact hV
 ·exact trodAll_append (hargs _ (fun _ _ => rfl)) (hbool _ _ _)
 ·rw [hvars]; exact hV
 ·intro b off hp
  rw [hb.frozen (p := ⟨b, off, none⟩) (hlt (.cell b off) (by simp [hp]))]
  exact hfz b off (by simp [hp])
 ·intro ha
  have := hnd ha
  simpa using this
 ·intro x hx _
  simp [hx]
theorem old_calls {f : FuncId} {args : Array Value} (h : Fn P f args [Old W] fun v L => v = .bool true ∧ L = [Old W]) :
  Calls P f args W fun e W' => e = .returned (.bool true) ∧ Below W.heap.size W W' := by
 have h0 : St [Old W] W := ⟨fun b => W.heap[b]?, fun _ => none, fun _ => .inr rfl, fun b o h => h, fun b o h => (by cases h), fun b hb => rfl, trivial⟩
 refine (h [] W h0).mono ?_
 rintro e W' ⟨v, L, ⟨rfl, rfl⟩, rfl, hs, hk⟩
 refine ⟨rfl, hk.os, hk.tape, hk.output, hk.size, fun k hk' => ?_⟩
 obtain ⟨h1, a1, hp⟩ := sep_head hs
 have e1 := hp k hk'
 have : ∃ o, W.heap[k]? = some o := ⟨_, Array.getElem?_eq_getElem hk'⟩
 obtain ⟨o, ho⟩ := this
 rw [ho] at e1 ⊢
 exact a1 _ _ e1
theorem old_rd {a : Addr} {len cap : Nat} {V : Nat → Value} (hc : ∀ i, i < len → W.cell? (a.add i) = some (V i)) (hle : len ≤ cap) : ∀ h : Hp, Old W h → rdS 1 h (.slice (some a) len cap) len ((List.range len).map V) := by
 intro h hold
 rcases Nat.eq_zero_or_pos len with rfl | hpos
 ·exact .inl ⟨rfl, rfl, some a, cap, rfl⟩
 ·obtain ⟨b, off, spot⟩ := a
  have h0 := hc 0 hpos
  have e0 : (⟨b, off, spot⟩ : Addr).add 0 = ⟨b, off, spot⟩ := by simp [Addr.add]
  rw [e0] at h0
  simp only [World.cell?] at h0
  rcases hw : W.heap[b]? with _ | o
  ·rw [hw] at h0; cases h0
  ·cases o with
   | cells c T fr =>
    rw [hw] at h0
    dsimp only at h0
    split at h0
    ·cases h0
    ·rename_i hsp
     have hspot : spot = none := by simpa using hsp
     subst hspot
     have hc' : ∀ i, i < len → c[off + i]? = some (V i) := by
      intro i hi
      have := hc i hi
      have e1 : (⟨b, off, none⟩ : Addr).add i = ⟨b, off + i, none⟩ := by
       simp only [Addr.add]; split
       ·rename_i h0; simp [h0]
       ·rfl
      rw [e1] at this
      simp only [World.cell?, hw] at this
      simpa using this
     have hlt : b < W.heap.size := by
      rcases Nat.lt_or_ge b W.heap.size with h' | h'
      ·exact h'
      ·rw [Array.getElem?_eq_none h'] at hw; cases hw
     have hlen : off + len ≤ c.size := by
      have := hc' (len - 1) (by omega)
      rcases Nat.lt_or_ge (off + (len - 1)) c.size with h' | h'
      ·omega
      ·rw [Array.getElem?_eq_none h'] at this; cases this
     refine .inr ⟨b, off, cap, c.toList, T, fr, rfl, by rw [hold b hlt, hw], ?_, by simpa using hlen, hle⟩
     apply List.ext_getElem?
     intro i
     rw [Nat.mul_one, List.getElem?_take, List.getElem?_map, List.getElem?_drop]
     split
     ·rename_i hi
      rw [List.getElem?_range hi]
      simpa using hc' i hi
     ·rename_i hi
      rw [List.getElem?_eq_none (by simpa using hi)]; rfl
   | _ => rw [hw] at h0; cases h0
end
open Go Go.ChangeShapes Go.WideShapes Go.ChangeAt Go.RowKit
section
variable {H : Type} {enc : TypeId × Value → H} {P : Program} {W : World}
theorem string_vstr (s : ByteArray) : Value.string s = vstr s.data.toList := by cases s; rfl
end
open Go Go.ChangeShapes Go.WideShapes Go.ChangeAt Go.RowKit
section
variable {H : Type} {enc : TypeId × Value → H} {P : Program} {W : World}
theorem flat_at {α : Type} {sz : Nat} (f : Nat → List α) : ∀ n, (∀ i, i < n → (f i).length = sz) → ∀ j, j < n * sz → ((List.range n).flatMap f)[j]? = (f (j / sz))[j % sz]? ∧ ((List.range n).flatMap f).length = n * sz := by
 intro n
 induction n with
 | zero => intro _ j hj; omega
 | succ n ih =>
  intro hf j hj
  have hn := hf n (by omega)
  have hlen : ((List.range n).flatMap f).length = n * sz := by
   rcases Nat.eq_zero_or_pos (n * sz) with h0 | h0
   ·rcases Nat.eq_zero_or_pos n with h1 | h1
    ·subst h1; simp
    ·have : sz = 0 := by
      rcases Nat.eq_zero_or_pos sz with h2 | h2
      ·exact h2
      ·have := Nat.mul_pos h1 h2; omega
     subst this; omega
   ·exact (ih (fun i hi => hf i (by omega)) 0 h0).2
  have e : (List.range (n + 1)).flatMap f = (List.range n).flatMap f ++ f n := by simp [List.range_succ]
  have hm : (n + 1) * sz = n * sz + sz := by rw [Nat.add_mul, Nat.one_mul]
  rw [e]
  refine ⟨?_, by rw [List.length_append, hlen, hn, hm]⟩
  rcases Nat.lt_or_ge j (n * sz) with h | h
  ·rw [List.getElem?_append_left (by omega)]
   exact (ih (fun i hi => hf i (by omega)) j h).1
  ·rw [List.getElem?_append_right (by omega), hlen]
   have hs : 0 < sz := by omega
   have h1 : j / sz = n := by
    have : j < (n + 1) * sz := hj
    have a := Nat.div_lt_of_lt_mul (show j < sz * (n + 1) by rw [Nat.mul_comm]; exact this)
    have b := (Nat.le_div_iff_mul_le hs).2 h
    omega
   have h2 : j % sz = j - n * sz := by
    have := Nat.div_add_mod j sz
    rw [h1, Nat.mul_comm] at this; omega
   rw [h1, h2]
theorem rdS_regroup {sz n c c1 : Nat} {a : Option Addr} {ys : List Value} {h : Hp} (hr : rdS 1 h (.slice a (n * sz) c1) (n * sz) ys) (hc : n ≤ c) (hs : 0 < sz) : rdS sz h (.slice a n c) n ys := by
 rcases hr with ⟨h1, h2, -⟩ | ⟨b, off, cap, l, T, fr, hv, hb, h1, h2, h3⟩
 ·have : n = 0 := by
   rcases Nat.eq_zero_or_pos n with h0 | h0
   ·exact h0
   ·have := Nat.mul_pos h0 hs; omega
  subst this
  exact .inl ⟨rfl, h2, a, c, rfl⟩
 ·simp only [Value.slice.injEq] at hv
  obtain ⟨rfl, -, -⟩ := hv
  exact .inr ⟨b, off, c, l, T, fr, rfl, hb, by rw [← h1, Nat.mul_one], by rw [Nat.mul_one] at h2; exact h2, hc⟩
abbrev Reads (enc : TypeId × Value → H) (P : Program) (W : World) (fuel : Nat) (t : TypeId) (cs : List Value) (x : DataW H × List MemPlace) : Prop := DataW.trod enc P W 0 (fun _ => true) true fuel t cs = some x
theorem dec_int {t : TypeId} {fuel : Nat} {cs : List Value} {x : DataW H × List MemPlace} (ht : P.underlying t = some (.int .i64)) (h : Reads enc P W fuel t cs x) : ∃ n : Int, cs = [vint n] ∧ -9223372036854775808 ≤ n ∧ n ≤ 9223372036854775807 := by
 obtain ⟨n, rfl, -, hwf⟩ := DataW.trod_int ht h
 exact ⟨n, rfl, bounds_i64 hwf⟩
end
open Go Go.ChangeShapes Go.WideShapes Go.ChangeAt Go.RowKit
theorem bulk_pos {H : Type} (d : DataW H) : 1 ≤ Rows.uptoBulk d := by
 cases d with
 | lit l => cases l <;> simp [Rows.uptoBulk]
 | _ => simp [Rows.uptoBulk]
theorem bulk_part {H : Type} {d : DataW H} : ∀ {l : List (DataW H)}, d ∈ l → Rows.uptoBulk d ≤ Rows.uptoBulkAll l
 | x :: l, h => by
  unfold Rows.uptoBulkAll
  rcases List.mem_cons.1 h with rfl | h
  ·omega
  ·have := bulk_part h; omega
theorem bulk_count {H : Type} : ∀ l : List (DataW H), l.length ≤ Rows.uptoBulkAll l
 | [] => by simp
 | x :: l => by
  have h1 := bulk_pos x
  have h2 := bulk_count l
  unfold Rows.uptoBulkAll
  rw [List.length_cons]; omega
theorem bulk_sum {H : Type} : ∀ l : List (DataW H), (l.map Rows.uptoBulk).sum ≤ Rows.uptoBulkAll l
 | [] => by simp
 | x :: l => by
  have h2 := bulk_sum l
  unfold Rows.uptoBulkAll
  rw [List.map_cons, List.sum_cons]; omega
theorem bulk_agg {H : Type} {d : DataW H} {l : List (DataW H)} {N : Nat} (h : Rows.uptoBulk (.agg l) ≤ N) (hd : d ∈ l) : Rows.uptoBulk d ≤ N := by
 have := bulk_part hd
 simp only [Rows.uptoBulk] at h
 omega
theorem bulk_small {H : Type} {l : List (DataW H)} (h : Rows.uptoSmall H l = true) {d : DataW H} (hd : d ∈ l) : Rows.uptoBulk d ≤ 1048576 :=
 Nat.le_trans (bulk_part hd) (of_decide_eq_true h)
instance : Inhabited Value := ⟨.bool false⟩
section
variable {H : Type} {enc : TypeId × Value → H} {P : Program} {W : World} {N : Nat}
theorem dec_str {t : TypeId} {fuel : Nat} {cs : List Value} {x : DataW H × List MemPlace} (ht : P.underlying t = some .string) (h : Reads enc P W fuel t cs x) (hb : Rows.uptoBulk x.1 ≤ N) : ∃ s : List UInt8, cs = [vstr s] ∧ s.length ≤ N := by
 obtain ⟨s, rfl, rfl, -⟩ := DataW.trod_string ht h
 simp only [Rows.uptoBulk] at hb
 exact ⟨s.data.toList, by rw [string_vstr], by omega⟩
theorem dec_int' {t : TypeId} {fuel : Nat} {cs : List Value} {x : DataW H × List MemPlace} (ht : P.underlying t = some (.int .i64)) (h : Reads enc P W fuel t cs x) : ∃ n : Int, cs = [vint n] ∧ (-9223372036854775808 ≤ n ∧ n ≤ 9223372036854775807) := by
 obtain ⟨n, h1, h2⟩ := dec_int ht h; exact ⟨n, h1, h2⟩
theorem slice_cell {t e : TypeId} {fuel : Nat} {v : Value} {x : DataW H × List MemPlace} (ht : P.underlying t = some (.slice e)) (h : Reads enc P W fuel t [v] x) : isCell v = true := by
 rcases Go.Deep.open_slice ht h with ⟨hv, -⟩ | ⟨a, len, cap, m, n, Dd, Pl, hv, -⟩
 ·rw [List.cons.injEq] at hv; rw [hv.1]; rfl
 ·rw [List.cons.injEq] at hv; rw [hv.1]; rfl
theorem dec_sliceV {Z : Type} [Inhabited Z] (toC : Z → List Value) (Q : Z → Prop) {t e : TypeId} {sz : Nat} {fuel : Nat} {cs : List Value} {x : DataW H × List MemPlace} (ht : P.underlying t = some (.slice e)) (hc : P.cellsOf e = sz) (hs : 0 < sz)
  (hdec : ∀ (n : Nat) (cs : List Value) (y : DataW H × List MemPlace), Reads enc P W n e cs y → Rows.uptoBulk y.1 ≤ N → ∃ z, cs = toC z ∧ Q z) (h : Reads enc P W fuel t cs x) (hb : Rows.uptoBulk x.1 ≤ N + 1) :
  ∃ z : Value × List Z, cs = [z.1] ∧ (∀ h : Hp, Old W h → rdS sz h z.1 z.2.length (z.2.flatMap toC)) ∧ z.2.length ≤ N ∧ ∀ y ∈ z.2, Q y := by
 subst hc
 rcases Go.Deep.open_slice ht h with ⟨rfl, rfl⟩ | ⟨a, len, cap, m, n, Dd, Pl, rfl, -, hl, hm, hmm, rfl, hx⟩
 ·exact ⟨(_, []), rfl, fun h _ => .inl ⟨rfl, rfl, none, 0, rfl⟩, by simp, by simp⟩
 ·simp only [if_true] at hmm
  subst hmm
  have hbl : len ≤ N := by
   have := bulk_count ((List.range len).map Dd)
   simp only [Rows.uptoBulk] at hb
   rw [List.length_map, List.length_range] at this
   omega
  have hbe : ∀ i, i < len → Rows.uptoBulk (Dd i) ≤ N := fun i hi => by
   have := bulk_part (d := Dd i) (l := (List.range len).map Dd) (List.mem_map_of_mem (by simpa using hi))
   simp only [Rows.uptoBulk] at hb
   omega
  obtain ⟨Zf, hZ⟩ := Go.Deep.choose_lt (α := Z) (p := fun i z => W.cells? 0 (a.add (i * P.cellsOf e)) (P.cellsOf e) = some (toC z) ∧ Q z) (n := len) (fun i hi => by
   obtain ⟨cs', h1, h2⟩ := hx i (by omega)
   obtain ⟨z, rfl, h3⟩ := hdec _ _ _ h2 (hbe i hi)
   exact ⟨z, h1, h3⟩)
  have hlenf : ∀ i, i < len → (toC (Zf i)).length = P.cellsOf e := fun i hi => (World.cells?_some (hZ i hi).1).2.1
  have hflat := flat_at (fun i => toC (Zf i)) len hlenf
  refine ⟨(_, (List.range len).map Zf), rfl, ?_, ?_, ?_⟩
  ·intro h hold
   dsimp only
   rw [List.length_map, List.length_range]
   refine rdS_regroup (c1 := len * P.cellsOf e) ?_ hl hs
   have e1 : ((List.range len).map Zf).flatMap toC = (List.range (len * P.cellsOf e)).map (fun j => ((List.range len).flatMap fun i => toC (Zf i)).getD j (.bool false)) := by
    rw [List.flatMap_map]
    apply List.ext_getElem?
    intro j
    rcases Nat.lt_or_ge j (len * P.cellsOf e) with hj | hj
    ·rw [List.getElem?_map, List.getElem?_range hj]
     have := (hflat j hj).2
     have hjl : j < ((List.range len).flatMap fun i => toC (Zf i)).length := by omega
     simp only [Option.map_some, List.getD_eq_getElem?_getD, List.getElem?_eq_getElem hjl, Option.getD_some]
    ·have : ((List.range len).flatMap fun i => toC (Zf i)).length = len * P.cellsOf e := by
      rcases Nat.eq_zero_or_pos (len * P.cellsOf e) with h0 | h0
      ·have : len = 0 := by
        rcases Nat.eq_zero_or_pos len with h1 | h1
        ·exact h1
        ·have := Nat.mul_pos h1 hs; omega
       subst this; simp
      ·exact (hflat 0 h0).2
     rw [List.getElem?_eq_none (by omega), List.getElem?_eq_none (by simpa using hj)]
   rw [e1]
   refine old_rd (W := W) (fun j hj => ?_) (Nat.le_refl _) h hold
   have hi : j / P.cellsOf e < len := Nat.div_lt_of_lt_mul (by rw [Nat.mul_comm]; exact hj)
   have hcell := (World.cells?_some (hZ (j / P.cellsOf e) hi).1).2.2 (j % P.cellsOf e) (Nat.mod_lt _ hs)
   rw [Addr.add_add, Nat.mul_comm, Nat.div_add_mod] at hcell
   rw [hcell]
   obtain ⟨f1, f2⟩ := hflat j hj
   rw [List.getD_eq_getElem?_getD, f1]
   have : j % P.cellsOf e < (toC (Zf (j / P.cellsOf e))).length := by rw [hlenf _ hi]; exact Nat.mod_lt _ hs
   simp [this]
  ·dsimp only; rw [List.length_map, List.length_range]; exact hbl
  ·intro z hz
   obtain ⟨i, hi, rfl⟩ := List.mem_map.1 hz
   exact (hZ i (by simpa using hi)).2
theorem dec_sliceU {Z : Type} [Inhabited Z] (toC : Z → List Value) (Q : Z → Prop) {t e : TypeId} {sz : Nat} {fuel : Nat} {cs : List Value} {x : DataW H × List MemPlace} (ht : P.underlying t = some (.slice e)) (hc : P.cellsOf e = sz) (hs : 0 < sz)
  (hdec : ∀ (n : Nat) (cs : List Value) (y : DataW H × List MemPlace), Reads enc P W n e cs y → Rows.uptoBulk y.1 ≤ N → ∃ z, cs = toC z ∧ Q z) (h : Reads enc P W fuel t cs x) (hb : Rows.uptoBulk x.1 ≤ N) :
  ∃ z : Value × List Z, cs = [z.1] ∧ (∀ h : Hp, Old W h → rdS sz h z.1 z.2.length (z.2.flatMap toC)) ∧ z.2.length ≤ N ∧ ∀ y ∈ z.2, Q y :=
 dec_sliceV toC Q ht hc hs hdec h (by omega)
theorem dec_sliceQV {Z : Type} [Inhabited Z] (toC : Z → List Value) (Q : Nat → Z → Prop) {t e : TypeId} {sz : Nat} {fuel : Nat} {cs : List Value} {x : DataW H × List MemPlace} (ht : P.underlying t = some (.slice e)) (hc : P.cellsOf e = sz) (hs : 0 < sz)
  (hdec : ∀ (n : Nat) (cs : List Value) (y : DataW H × List MemPlace), Reads enc P W n e cs y → ∃ z, cs = toC z ∧ Q (Rows.uptoBulk y.1) z) (h : Reads enc P W fuel t cs x) (hb : Rows.uptoBulk x.1 ≤ N + 1) :
  ∃ (z : Value × List Z) (ws : List Nat), cs = [z.1] ∧ (∀ h : Hp, Old W h → rdS sz h z.1 z.2.length (z.2.flatMap toC)) ∧ z.2.length ≤ N ∧ ws.length = z.2.length ∧ ws.sum ≤ N ∧ (∀ w ∈ ws, 1 ≤ w) ∧ ∀ i (h1 : i < z.2.length) (h2 : i < ws.length), Q ws[i] z.2[i] := by
 subst hc
 rcases Go.Deep.open_slice ht h with ⟨rfl, rfl⟩ | ⟨a, len, cap, m, n, Dd, Pl, rfl, -, hl, hm, hmm, rfl, hx⟩
 ·exact ⟨(_, []), [], rfl, fun h _ => .inl ⟨rfl, rfl, none, 0, rfl⟩, by simp, rfl, by simp, (fun _ h => by cases h), (fun i h1 _ => by simp at h1)⟩
 ·simp only [if_true] at hmm
  subst hmm
  have hbl : len ≤ N := by
   have := bulk_count ((List.range len).map Dd)
   simp only [Rows.uptoBulk] at hb
   rw [List.length_map, List.length_range] at this
   omega
  have hall : ((List.range len).map fun i => Rows.uptoBulk (Dd i)).sum ≤ N := by
   have := bulk_sum ((List.range len).map Dd)
   rw [List.map_map] at this
   simp only [Rows.uptoBulk] at hb
   have e : ((List.range len).map fun i => Rows.uptoBulk (Dd i)) = (List.range len).map (Rows.uptoBulk ∘ Dd) := rfl
   rw [e]; omega
  obtain ⟨Zf, hZ⟩ := Go.Deep.choose_lt (α := Z) (p := fun i z => W.cells? 0 (a.add (i * P.cellsOf e)) (P.cellsOf e) = some (toC z) ∧ Q (Rows.uptoBulk (Dd i)) z) (n := len) (fun i hi => by
   obtain ⟨cs', h1, h2⟩ := hx i (by omega)
   obtain ⟨z, rfl, h3⟩ := hdec _ _ _ h2
   exact ⟨z, h1, h3⟩)
  have hlenf : ∀ i, i < len → (toC (Zf i)).length = P.cellsOf e := fun i hi => (World.cells?_some (hZ i hi).1).2.1
  have hflat := flat_at (fun i => toC (Zf i)) len hlenf
  refine ⟨(_, (List.range len).map Zf), (List.range len).map fun i => Rows.uptoBulk (Dd i), rfl, ?_, ?_, by simp, hall, ?_, ?_⟩
  ·intro h hold
   dsimp only
   rw [List.length_map, List.length_range]
   refine rdS_regroup (c1 := len * P.cellsOf e) ?_ hl hs
   have e1 : ((List.range len).map Zf).flatMap toC = (List.range (len * P.cellsOf e)).map (fun j => ((List.range len).flatMap fun i => toC (Zf i)).getD j (.bool false)) := by
    rw [List.flatMap_map]
    apply List.ext_getElem?
    intro j
    rcases Nat.lt_or_ge j (len * P.cellsOf e) with hj | hj
    ·rw [List.getElem?_map, List.getElem?_range hj]
     have := (hflat j hj).2
     have hjl : j < ((List.range len).flatMap fun i => toC (Zf i)).length := by omega
     simp only [Option.map_some, List.getD_eq_getElem?_getD, List.getElem?_eq_getElem hjl, Option.getD_some]
    ·have : ((List.range len).flatMap fun i => toC (Zf i)).length = len * P.cellsOf e := by
      rcases Nat.eq_zero_or_pos (len * P.cellsOf e) with h0 | h0
      ·have : len = 0 := by
        rcases Nat.eq_zero_or_pos len with h1 | h1
        ·exact h1
        ·have := Nat.mul_pos h1 hs; omega
       subst this; simp
      ·exact (hflat 0 h0).2
     rw [List.getElem?_eq_none (by omega), List.getElem?_eq_none (by simpa using hj)]
   rw [e1]
   refine old_rd (W := W) (fun j hj => ?_) (Nat.le_refl _) h hold
   have hi : j / P.cellsOf e < len := Nat.div_lt_of_lt_mul (by rw [Nat.mul_comm]; exact hj)
   have hcell := (World.cells?_some (hZ (j / P.cellsOf e) hi).1).2.2 (j % P.cellsOf e) (Nat.mod_lt _ hs)
   rw [Addr.add_add, Nat.mul_comm, Nat.div_add_mod] at hcell
   rw [hcell]
   obtain ⟨f1, f2⟩ := hflat j hj
   rw [List.getD_eq_getElem?_getD, f1]
   have : j % P.cellsOf e < (toC (Zf (j / P.cellsOf e))).length := by rw [hlenf _ hi]; exact Nat.mod_lt _ hs
   simp [this]
  ·dsimp only; rw [List.length_map, List.length_range]; exact hbl
  ·intro w hw
   obtain ⟨i, -, rfl⟩ := List.mem_map.1 hw
   exact bulk_pos _
  ·intro i h1 h2
   simp only [List.getElem_map, List.getElem_range]
   exact (hZ i (by simpa using h1)).2
theorem dec_sliceQ {Z : Type} [Inhabited Z] (toC : Z → List Value) (Q : Nat → Z → Prop) {t e : TypeId} {sz : Nat} {fuel : Nat} {cs : List Value} {x : DataW H × List MemPlace} (ht : P.underlying t = some (.slice e)) (hc : P.cellsOf e = sz) (hs : 0 < sz)
  (hdec : ∀ (n : Nat) (cs : List Value) (y : DataW H × List MemPlace), Reads enc P W n e cs y → ∃ z, cs = toC z ∧ Q (Rows.uptoBulk y.1) z) (h : Reads enc P W fuel t cs x) (hb : Rows.uptoBulk x.1 ≤ N) :
  ∃ (z : Value × List Z) (ws : List Nat), cs = [z.1] ∧ (∀ h : Hp, Old W h → rdS sz h z.1 z.2.length (z.2.flatMap toC)) ∧ z.2.length ≤ N ∧ ws.length = z.2.length ∧ ws.sum ≤ N ∧ (∀ w ∈ ws, 1 ≤ w) ∧ ∀ i (h1 : i < z.2.length) (h2 : i < ws.length), Q ws[i] z.2[i] :=
 dec_sliceQV toC Q ht hc hs hdec h (by omega)
/-! ### With weights: what is read weighs no more than its bulk -/
end
open Go Go.ChangeShapes Go.WideShapes Go.ChangeAt Go.RowKit
theorem cells_3 : Tryz.prog.cellsOf 3 = 1 := by kernel_rfl
theorem cells_9 : Tryz.prog.cellsOf 9 = 1 := by kernel_rfl
theorem cells_90 : Tryz.prog.cellsOf 90 = 2 := by kernel_rfl
def okAcl (N : Nat) (_p : HP) (z : Ac) : Prop := (-9223372036854775808 ≤ z.1 ∧ z.1 ≤ 9223372036854775807) ∧ z.2.length ≤ N
theorem dec_Acl {H : Type} {enc : TypeId × Value → H} {W : World} {N : Nat} (n : Nat) (cs : List Value) (y : DataW H × List MemPlace) (h : Reads enc Tryz.prog W n 90 cs y) (hb : Rows.uptoBulk y.1 ≤ N) : ∃ z : Ac, cs = acC z ∧ okAcl N (Old W) z := by
 obtain ⟨xs, m, -, rfl, hlen, hxs, hf⟩ := DataW.trod_struct Tryz.underlying90 h
 rw [cells_90] at hlen
 obtain ⟨a0, a1, rfl⟩ : ∃ a0 a1, cs = [a0, a1] := by
  match cs, hlen with
  | [a0, a1], _ => exact ⟨a0, a1, rfl⟩
 obtain ⟨y0, y1, rfl⟩ : ∃ y0 y1, xs = [y0, y1] := by
  match xs, hxs with
  | [y0, y1], _ => exact ⟨y0, y1, rfl⟩
 have f0 := hf 0 _ rfl
 have g0 : Reads enc Tryz.prog W m 3 (([a0, a1] : List Value).drop 0 |>.take (Tryz.prog.cellsOf 3)) y0 := f0
 rw [cells_3] at g0
 have b0 : Rows.uptoBulk y0.1 ≤ N := bulk_agg hb (by simp)
 obtain ⟨z0, e0, q0⟩ := dec_int' Tryz.underlying3 g0
 simp at e0
 have f1 := hf 1 _ rfl
 have g1 : Reads enc Tryz.prog W m 9 (([a0, a1] : List Value).drop 1 |>.take (Tryz.prog.cellsOf 9)) y1 := f1
 rw [cells_9] at g1
 have b1 : Rows.uptoBulk y1.1 ≤ N := bulk_agg hb (by simp)
 obtain ⟨z1, e1, q1⟩ := dec_str Tryz.underlying9 g1 b1
 simp at e1
 subst e0
 subst e1
 exact ⟨(z0, z1), rfl, q0, q1⟩
theorem cells_34 : Tryz.prog.cellsOf 34 = 1 := by kernel_rfl
theorem cells_31 : Tryz.prog.cellsOf 31 = 1 := by kernel_rfl
theorem cells_35 : Tryz.prog.cellsOf 35 = 1 := by kernel_rfl
theorem cells_37 : Tryz.prog.cellsOf 37 = 8 := by kernel_rfl
abbrev ZTxn := Int × (Bs × (Bs × ((Value × List Ac) × (Int × (Int × (Int × Value))))))
def cTxn (z : ZTxn) : List Value := [vint z.1, vstr z.2.1, vstr z.2.2.1, z.2.2.2.1.1, vint z.2.2.2.2.1, vint z.2.2.2.2.2.1, vint z.2.2.2.2.2.2.1, z.2.2.2.2.2.2.2]
def okTxn (N : Nat) (_p : HP) (z : ZTxn) : Prop := (-9223372036854775808 ≤ z.1 ∧ z.1 ≤ 9223372036854775807) ∧ z.2.1.length ≤ N ∧ z.2.2.1.length ≤ N ∧ ((∀ h : Hp, _p h → rdS 2 h z.2.2.2.1.1 z.2.2.2.1.2.length (z.2.2.2.1.2.flatMap (acC))) ∧ z.2.2.2.1.2.length ≤ N ∧ ∀ y ∈ z.2.2.2.1.2, okAcl N _p y) ∧ (-9223372036854775808 ≤ z.2.2.2.2.1 ∧ z.2.2.2.2.1 ≤ 9223372036854775807) ∧ (-9223372036854775808 ≤ z.2.2.2.2.2.1 ∧ z.2.2.2.2.2.1 ≤ 9223372036854775807) ∧ (-9223372036854775808 ≤ z.2.2.2.2.2.2.1 ∧ z.2.2.2.2.2.2.1 ≤ 9223372036854775807) ∧ isCell z.2.2.2.2.2.2.2 = true
theorem dec_Txn {H : Type} {enc : TypeId × Value → H} {W : World} {N : Nat} (n : Nat) (cs : List Value) (y : DataW H × List MemPlace) (h : Reads enc Tryz.prog W n 37 cs y) (hb : Rows.uptoBulk y.1 ≤ N) : ∃ z : ZTxn, cs = cTxn z ∧ okTxn N (Old W) z := by
 obtain ⟨xs, m, -, rfl, hlen, hxs, hf⟩ := DataW.trod_struct Tryz.underlying37 h
 rw [cells_37] at hlen
 obtain ⟨a0, a1, a2, a3, a4, a5, a6, a7, rfl⟩ : ∃ a0 a1 a2 a3 a4 a5 a6 a7, cs = [a0, a1, a2, a3, a4, a5, a6, a7] := by
  match cs, hlen with
  | [a0, a1, a2, a3, a4, a5, a6, a7], _ => exact ⟨a0, a1, a2, a3, a4, a5, a6, a7, rfl⟩
 obtain ⟨y0, y1, y2, y3, y4, y5, y6, y7, rfl⟩ : ∃ y0 y1 y2 y3 y4 y5 y6 y7, xs = [y0, y1, y2, y3, y4, y5, y6, y7] := by
  match xs, hxs with
  | [y0, y1, y2, y3, y4, y5, y6, y7], _ => exact ⟨y0, y1, y2, y3, y4, y5, y6, y7, rfl⟩
 have f0 := hf 0 _ rfl
 have g0 : Reads enc Tryz.prog W m 3 (([a0, a1, a2, a3, a4, a5, a6, a7] : List Value).drop 0 |>.take (Tryz.prog.cellsOf 3)) y0 := f0
 rw [cells_3] at g0
 have b0 : Rows.uptoBulk y0.1 ≤ N := bulk_agg hb (by simp)
 obtain ⟨z0, e0, q0⟩ := dec_int' Tryz.underlying3 g0
 simp at e0
 have f1 := hf 1 _ rfl
 have g1 : Reads enc Tryz.prog W m 9 (([a0, a1, a2, a3, a4, a5, a6, a7] : List Value).drop 1 |>.take (Tryz.prog.cellsOf 9)) y1 := f1
 rw [cells_9] at g1
 have b1 : Rows.uptoBulk y1.1 ≤ N := bulk_agg hb (by simp)
 obtain ⟨z1, e1, q1⟩ := dec_str Tryz.underlying9 g1 b1
 simp at e1
 have f2 := hf 2 _ rfl
 have g2 : Reads enc Tryz.prog W m 9 (([a0, a1, a2, a3, a4, a5, a6, a7] : List Value).drop 2 |>.take (Tryz.prog.cellsOf 9)) y2 := f2
 rw [cells_9] at g2
 have b2 : Rows.uptoBulk y2.1 ≤ N := bulk_agg hb (by simp)
 obtain ⟨z2, e2, q2⟩ := dec_str Tryz.underlying9 g2 b2
 simp at e2
 have f3 := hf 3 _ rfl
 have g3 : Reads enc Tryz.prog W m 34 (([a0, a1, a2, a3, a4, a5, a6, a7] : List Value).drop 3 |>.take (Tryz.prog.cellsOf 34)) y3 := f3
 rw [cells_34] at g3
 have b3 : Rows.uptoBulk y3.1 ≤ N := bulk_agg hb (by simp)
 obtain ⟨z3, e3, q3⟩ := dec_sliceU (N := N) (acC) (fun y => okAcl N (Old W) y) Tryz.underlying34 cells_90 (by decide) (fun n cs y h hb => dec_Acl n cs y h hb) g3 b3
 simp at e3
 have f4 := hf 4 _ rfl
 have g4 : Reads enc Tryz.prog W m 3 (([a0, a1, a2, a3, a4, a5, a6, a7] : List Value).drop 4 |>.take (Tryz.prog.cellsOf 3)) y4 := f4
 rw [cells_3] at g4
 have b4 : Rows.uptoBulk y4.1 ≤ N := bulk_agg hb (by simp)
 obtain ⟨z4, e4, q4⟩ := dec_int' Tryz.underlying3 g4
 simp at e4
 have f5 := hf 5 _ rfl
 have g5 : Reads enc Tryz.prog W m 3 (([a0, a1, a2, a3, a4, a5, a6, a7] : List Value).drop 5 |>.take (Tryz.prog.cellsOf 3)) y5 := f5
 rw [cells_3] at g5
 have b5 : Rows.uptoBulk y5.1 ≤ N := bulk_agg hb (by simp)
 obtain ⟨z5, e5, q5⟩ := dec_int' Tryz.underlying3 g5
 simp at e5
 have f6 := hf 6 _ rfl
 have g6 : Reads enc Tryz.prog W m 31 (([a0, a1, a2, a3, a4, a5, a6, a7] : List Value).drop 6 |>.take (Tryz.prog.cellsOf 31)) y6 := f6
 rw [cells_31] at g6
 have b6 : Rows.uptoBulk y6.1 ≤ N := bulk_agg hb (by simp)
 obtain ⟨z6, e6, q6⟩ := dec_int' Tryz.underlying31 g6
 simp at e6
 have f7 := hf 7 _ rfl
 have g7 : Reads enc Tryz.prog W m 35 (([a0, a1, a2, a3, a4, a5, a6, a7] : List Value).drop 7 |>.take (Tryz.prog.cellsOf 35)) y7 := f7
 rw [cells_35] at g7
 obtain ⟨z7, e7, q7⟩ : ∃ z : Value, a7 = z ∧ isCell z = true := ⟨_, rfl, slice_cell Tryz.underlying35 g7⟩
 subst e0
 subst e1
 subst e2
 subst e3
 subst e4
 subst e5
 subst e6
 replace e7 := e7.symm
 subst e7
 exact ⟨(z0, z1, z2, z3, z4, z5, z6, z7), rfl, q0, q1, q2, q3, q4, q5, q6, q7⟩
def okTxn1 (N : Nat) (_p : HP) (z : ZTxn) : Prop := (-9223372036854775808 ≤ z.1 ∧ z.1 ≤ 9223372036854775807) ∧ z.2.1.length ≤ N ∧ z.2.2.1.length ≤ N ∧ ((∀ h : Hp, _p h → rdS 2 h z.2.2.2.1.1 z.2.2.2.1.2.length (z.2.2.2.1.2.flatMap (acC))) ∧ z.2.2.2.1.2.length ≤ N ∧ ∀ y ∈ z.2.2.2.1.2, okAcl N _p y) ∧ (-9223372036854775808 ≤ z.2.2.2.2.1 ∧ z.2.2.2.2.1 ≤ 9223372036854775807) ∧ (-9223372036854775808 ≤ z.2.2.2.2.2.1 ∧ z.2.2.2.2.2.1 ≤ 9223372036854775807) ∧ (-9223372036854775808 ≤ z.2.2.2.2.2.2.1 ∧ z.2.2.2.2.2.2.1 ≤ 9223372036854775807) ∧ (∃ l : List ZTxn, (∀ h : Hp, _p h → rdS 8 h z.2.2.2.2.2.2.2 l.length (l.flatMap (cTxn))) ∧ l.length ≤ N ∧ ∀ y ∈ l, okTxn N _p y)
theorem dec_Txn1 {H : Type} {enc : TypeId × Value → H} {W : World} {N : Nat} (n : Nat) (cs : List Value) (y : DataW H × List MemPlace) (h : Reads enc Tryz.prog W n 37 cs y) (hb : Rows.uptoBulk y.1 ≤ N) : ∃ z : ZTxn, cs = cTxn z ∧ okTxn1 N (Old W) z := by
 obtain ⟨xs, m, -, rfl, hlen, hxs, hf⟩ := DataW.trod_struct Tryz.underlying37 h
 rw [cells_37] at hlen
 obtain ⟨a0, a1, a2, a3, a4, a5, a6, a7, rfl⟩ : ∃ a0 a1 a2 a3 a4 a5 a6 a7, cs = [a0, a1, a2, a3, a4, a5, a6, a7] := by
  match cs, hlen with
  | [a0, a1, a2, a3, a4, a5, a6, a7], _ => exact ⟨a0, a1, a2, a3, a4, a5, a6, a7, rfl⟩
 obtain ⟨y0, y1, y2, y3, y4, y5, y6, y7, rfl⟩ : ∃ y0 y1 y2 y3 y4 y5 y6 y7, xs = [y0, y1, y2, y3, y4, y5, y6, y7] := by
  match xs, hxs with
  | [y0, y1, y2, y3, y4, y5, y6, y7], _ => exact ⟨y0, y1, y2, y3, y4, y5, y6, y7, rfl⟩
 have f0 := hf 0 _ rfl
 have g0 : Reads enc Tryz.prog W m 3 (([a0, a1, a2, a3, a4, a5, a6, a7] : List Value).drop 0 |>.take (Tryz.prog.cellsOf 3)) y0 := f0
 rw [cells_3] at g0
 have b0 : Rows.uptoBulk y0.1 ≤ N := bulk_agg hb (by simp)
 obtain ⟨z0, e0, q0⟩ := dec_int' Tryz.underlying3 g0
 simp at e0
 have f1 := hf 1 _ rfl
 have g1 : Reads enc Tryz.prog W m 9 (([a0, a1, a2, a3, a4, a5, a6, a7] : List Value).drop 1 |>.take (Tryz.prog.cellsOf 9)) y1 := f1
 rw [cells_9] at g1
 have b1 : Rows.uptoBulk y1.1 ≤ N := bulk_agg hb (by simp)
 obtain ⟨z1, e1, q1⟩ := dec_str Tryz.underlying9 g1 b1
 simp at e1
 have f2 := hf 2 _ rfl
 have g2 : Reads enc Tryz.prog W m 9 (([a0, a1, a2, a3, a4, a5, a6, a7] : List Value).drop 2 |>.take (Tryz.prog.cellsOf 9)) y2 := f2
 rw [cells_9] at g2
 have b2 : Rows.uptoBulk y2.1 ≤ N := bulk_agg hb (by simp)
 obtain ⟨z2, e2, q2⟩ := dec_str Tryz.underlying9 g2 b2
 simp at e2
 have f3 := hf 3 _ rfl
 have g3 : Reads enc Tryz.prog W m 34 (([a0, a1, a2, a3, a4, a5, a6, a7] : List Value).drop 3 |>.take (Tryz.prog.cellsOf 34)) y3 := f3
 rw [cells_34] at g3
 have b3 : Rows.uptoBulk y3.1 ≤ N := bulk_agg hb (by simp)
 obtain ⟨z3, e3, q3⟩ := dec_sliceU (N := N) (acC) (fun y => okAcl N (Old W) y) Tryz.underlying34 cells_90 (by decide) (fun n cs y h hb => dec_Acl n cs y h hb) g3 b3
 simp at e3
 have f4 := hf 4 _ rfl
 have g4 : Reads enc Tryz.prog W m 3 (([a0, a1, a2, a3, a4, a5, a6, a7] : List Value).drop 4 |>.take (Tryz.prog.cellsOf 3)) y4 := f4
 rw [cells_3] at g4
 have b4 : Rows.uptoBulk y4.1 ≤ N := bulk_agg hb (by simp)
 obtain ⟨z4, e4, q4⟩ := dec_int' Tryz.underlying3 g4
 simp at e4
 have f5 := hf 5 _ rfl
 have g5 : Reads enc Tryz.prog W m 3 (([a0, a1, a2, a3, a4, a5, a6, a7] : List Value).drop 5 |>.take (Tryz.prog.cellsOf 3)) y5 := f5
 rw [cells_3] at g5
 have b5 : Rows.uptoBulk y5.1 ≤ N := bulk_agg hb (by simp)
 obtain ⟨z5, e5, q5⟩ := dec_int' Tryz.underlying3 g5
 simp at e5
 have f6 := hf 6 _ rfl
 have g6 : Reads enc Tryz.prog W m 31 (([a0, a1, a2, a3, a4, a5, a6, a7] : List Value).drop 6 |>.take (Tryz.prog.cellsOf 31)) y6 := f6
 rw [cells_31] at g6
 have b6 : Rows.uptoBulk y6.1 ≤ N := bulk_agg hb (by simp)
 obtain ⟨z6, e6, q6⟩ := dec_int' Tryz.underlying31 g6
 simp at e6
 have f7 := hf 7 _ rfl
 have g7 : Reads enc Tryz.prog W m 35 (([a0, a1, a2, a3, a4, a5, a6, a7] : List Value).drop 7 |>.take (Tryz.prog.cellsOf 35)) y7 := f7
 rw [cells_35] at g7
 have b7 : Rows.uptoBulk y7.1 ≤ N := bulk_agg hb (by simp)
 obtain ⟨w7, e7, q7⟩ := dec_sliceU (N := N) (cTxn) (fun y => okTxn N (Old W) y) Tryz.underlying35 cells_37 (by decide) (fun n cs y h hb => dec_Txn n cs y h hb) g7 b7
 simp at e7
 obtain ⟨z7, l7⟩ := w7
 dsimp only at e7 q7
 subst e0
 subst e1
 subst e2
 subst e3
 subst e4
 subst e5
 subst e6
 replace e7 := e7.symm
 subst e7
 exact ⟨(z0, z1, z2, z3, z4, z5, z6, z7), rfl, q0, q1, q2, q3, q4, q5, q6, ⟨l7, q7⟩⟩
theorem cells_39 : Tryz.prog.cellsOf 39 = 11 := by kernel_rfl
abbrev ZEntry := Int × (Int × (Int × ZTxn))
def cEntry (z : ZEntry) : List Value := [vint z.1, vint z.2.1, vint z.2.2.1, vint z.2.2.2.1, vstr z.2.2.2.2.1, vstr z.2.2.2.2.2.1, z.2.2.2.2.2.2.1.1, vint z.2.2.2.2.2.2.2.1, vint z.2.2.2.2.2.2.2.2.1, vint z.2.2.2.2.2.2.2.2.2.1, z.2.2.2.2.2.2.2.2.2.2]
def okEntry (N : Nat) (_p : HP) (z : ZEntry) : Prop := (-9223372036854775808 ≤ z.1 ∧ z.1 ≤ 9223372036854775807) ∧ (-9223372036854775808 ≤ z.2.1 ∧ z.2.1 ≤ 9223372036854775807) ∧ (-9223372036854775808 ≤ z.2.2.1 ∧ z.2.2.1 ≤ 9223372036854775807) ∧ okTxn1 N _p z.2.2.2
theorem dec_Entry {H : Type} {enc : TypeId × Value → H} {W : World} {N : Nat} (n : Nat) (cs : List Value) (y : DataW H × List MemPlace) (h : Reads enc Tryz.prog W n 39 cs y) (hb : Rows.uptoBulk y.1 ≤ N) : ∃ z : ZEntry, cs = cEntry z ∧ okEntry N (Old W) z := by
 obtain ⟨xs, m, -, rfl, hlen, hxs, hf⟩ := DataW.trod_struct Tryz.underlying39 h
 rw [cells_39] at hlen
 obtain ⟨a0, a1, a2, a3, a4, a5, a6, a7, a8, a9, a10, rfl⟩ : ∃ a0 a1 a2 a3 a4 a5 a6 a7 a8 a9 a10, cs = [a0, a1, a2, a3, a4, a5, a6, a7, a8, a9, a10] := by
  match cs, hlen with
  | [a0, a1, a2, a3, a4, a5, a6, a7, a8, a9, a10], _ => exact ⟨a0, a1, a2, a3, a4, a5, a6, a7, a8, a9, a10, rfl⟩
 obtain ⟨y0, y1, y2, y3, rfl⟩ : ∃ y0 y1 y2 y3, xs = [y0, y1, y2, y3] := by
  match xs, hxs with
  | [y0, y1, y2, y3], _ => exact ⟨y0, y1, y2, y3, rfl⟩
 have f0 := hf 0 _ rfl
 have g0 : Reads enc Tryz.prog W m 3 (([a0, a1, a2, a3, a4, a5, a6, a7, a8, a9, a10] : List Value).drop 0 |>.take (Tryz.prog.cellsOf 3)) y0 := f0
 rw [cells_3] at g0
 have b0 : Rows.uptoBulk y0.1 ≤ N := bulk_agg hb (by simp)
 obtain ⟨z0, e0, q0⟩ := dec_int' Tryz.underlying3 g0
 simp at e0
 have f1 := hf 1 _ rfl
 have g1 : Reads enc Tryz.prog W m 3 (([a0, a1, a2, a3, a4, a5, a6, a7, a8, a9, a10] : List Value).drop 1 |>.take (Tryz.prog.cellsOf 3)) y1 := f1
 rw [cells_3] at g1
 have b1 : Rows.uptoBulk y1.1 ≤ N := bulk_agg hb (by simp)
 obtain ⟨z1, e1, q1⟩ := dec_int' Tryz.underlying3 g1
 simp at e1
 have f2 := hf 2 _ rfl
 have g2 : Reads enc Tryz.prog W m 3 (([a0, a1, a2, a3, a4, a5, a6, a7, a8, a9, a10] : List Value).drop 2 |>.take (Tryz.prog.cellsOf 3)) y2 := f2
 rw [cells_3] at g2
 have b2 : Rows.uptoBulk y2.1 ≤ N := bulk_agg hb (by simp)
 obtain ⟨z2, e2, q2⟩ := dec_int' Tryz.underlying3 g2
 simp at e2
 have f3 := hf 3 _ rfl
 have g3 : Reads enc Tryz.prog W m 37 (([a0, a1, a2, a3, a4, a5, a6, a7, a8, a9, a10] : List Value).drop 3 |>.take (Tryz.prog.cellsOf 37)) y3 := f3
 rw [cells_37] at g3
 have b3 : Rows.uptoBulk y3.1 ≤ N := bulk_agg hb (by simp)
 obtain ⟨z3, e3, q3⟩ := dec_Txn1 _ _ _ g3 b3
 simp [cTxn] at e3
 subst e0
 subst e1
 subst e2
 obtain ⟨rfl, rfl, rfl, rfl, rfl, rfl, rfl, rfl⟩ := e3
 exact ⟨(z0, z1, z2, z3), rfl, q0, q1, q2, q3⟩
def ptOf (z : ZTxn) : Pt := ⟨z.1, z.2.1, z.2.2.1, z.2.2.2.1.1, z.2.2.2.1.2, z.2.2.2.2.1, z.2.2.2.2.2.1, z.2.2.2.2.2.2.1, z.2.2.2.2.2.2.2⟩
theorem ptA_of {p : HP} {N : Nat} (hN : N ≤ 1048576) {z : ZTxn} (h : okTxn N p z) (hc : isCell z.2.2.2.1.1 = true) : PtA p (ptOf z) := by
 obtain ⟨h1, h2, h3, ⟨h4, h5, h6⟩, h7, h8, h9, h10⟩ := h
 exact ⟨h4, by show z.2.2.2.1.2.length ≤ 1048576; omega, by show z.2.1.length ≤ 1048576; omega, h10, hc⟩
theorem rd_cellOld {W : World} {sz n : Nat} {v : Value} {ys : List Value} (hr : ∀ h : Hp, Old W h → rdS sz h v n ys) : isCell v = true := by
 have h := hr (fun b => if b < W.heap.size then W.heap[b]? else none) (fun b hb => if_pos hb)
 rcases h with ⟨-, -, a, c, rfl⟩ | ⟨b, off, cap, l, T, fr, rfl, -⟩ <;> rfl
def enOf (z : ZEntry) (subs : List Pt) : En := ⟨z.1, z.2.1, z.2.2.1, ptOf z.2.2.2, subs⟩
theorem ent_of {W : World} {B : Nat} (hB : B ≤ 1048576) {z : ZEntry} (h : okEntry B (Old W) z) : ∃ e : En, cEntry z = enC e ∧ TxA (Old W) e.x e.subs ∧ e.x.own ≤ 9223372036854775807 ∧ e.subs.length ≤ B := by
 obtain ⟨h1, h2, h3, ht⟩ := h
 obtain ⟨t1, t2, t3, ⟨t4, t5, t6⟩, t7, t8, t9, l, g1, g2, g3⟩ := ht
 refine ⟨enOf z (l.map ptOf), rfl, ⟨⟨t4, by show z.2.2.2.2.2.2.1.2.length ≤ 1048576; omega, by show z.2.2.2.2.1.length ≤ 1048576; omega, rd_cellOld g1, rd_cellOld t4⟩, fun h hp => ?_, by show (l.map ptOf).length ≤ 1048576; rw [List.length_map]; omega, fun y hy => ?_⟩, t7.2, by show (l.map ptOf).length ≤ B; rw [List.length_map]; exact g2⟩
 ·have := g1 h hp
  show rdS 8 h _ (l.map ptOf).length ((l.map ptOf).flatMap ptC)
  rw [List.length_map, List.flatMap_map]
  exact this
 ·obtain ⟨q, hq, rfl⟩ := List.mem_map.1 hy
  exact ptA_of hB (g3 q hq) (rd_cellOld (g3 q hq).2.2.2.1.1)
theorem ents_list {W : World} : ∀ {l : List ZEntry} {ws : List Nat}, ws.length = l.length → ws.sum ≤ 1048576 → (∀ w ∈ ws, 1 ≤ w) → (∀ i (h1 : i < l.length) (h2 : i < ws.length), okEntry ws[i] (Old W) l[i]) → ∃ es : List En, es.length = l.length ∧ es.flatMap enC = l.flatMap cEntry ∧ (∀ e ∈ es, TxA (Old W) e.x e.subs ∧ e.x.own ≤ 9223372036854775807) ∧ wtL es ≤ 2 * ws.sum
 | [], _, _, _, _, _ => ⟨[], rfl, rfl, (fun _ h => by cases h), by simp [wtL]⟩
 | z :: l, [], h, _, _, _ => by simp at h
 | z :: l, w :: ws, h, hs, hp, hq => by
  rw [List.sum_cons] at hs
  have h0 : okEntry w (Old W) z := hq 0 (by simp) (by simp)
  have hw1 : w ≤ 1048576 := by omega
  obtain ⟨e, e1, e2, e3, e4⟩ := ent_of hw1 h0
  obtain ⟨es, k1, k2, k3, k4⟩ := ents_list (l := l) (ws := ws) (by simpa using h) (by omega) (fun x hx => hp x (List.mem_cons_of_mem _ hx)) (fun i h1 h2 => hq (i + 1) (by simpa using h1) (by simpa using h2))
  have hw := hp w List.mem_cons_self
  have e4' : e.subs.length ≤ w := e4
  refine ⟨e :: es, by rw [List.length_cons, k1, List.length_cons], by rw [List.flatMap_cons, k2, List.flatMap_cons, e1], fun x hx => ?_, ?_⟩
  ·rcases List.mem_cons.1 hx with rfl | hx
   ·exact ⟨e2, e3⟩
   ·exact k3 x hx
  ·unfold wtL at k4 ⊢
   rw [List.map_cons, List.sum_cons, List.sum_cons]
   omega
theorem dec_ents {H : Type} {enc : TypeId × Value → H} {W : World} {fuel : Nat} {cs : List Value} {x : DataW H × List MemPlace} (h : Reads enc Tryz.prog W fuel 24 cs x) (hb : Rows.uptoBulk x.1 ≤ 1048576) : ∃ (v : Value) (es : List En), cs = [v] ∧ EntsA (Old W) v es := by
 obtain ⟨z, ws, h1, h2, h3, h4, h5, h6⟩ := dec_sliceQ (N := 1048576) cEntry (fun B z => okEntry B (Old W) z) Tryz.underlying24 cells_39 (by decide) (fun n cs y h => dec_Entry n cs y h (Nat.le_refl _)) h hb
 obtain ⟨es, k1, k2, k3, k4⟩ := ents_list h4 h5 (fun w hw => (h6.1 w hw)) h6.2
 exact ⟨z.1, es, h1, fun h hp => by rw [k1, k2]; exact h2 h hp, by omega, fun e he => (k3 e he).1, fun e he => (k3 e he).2, by omega⟩
end Go.Proofs.YtgppfpmmijbncaaGreatDoor
namespace Go.Proofs.YtgppfpmmijbncaaGreatDoor.snapReads
open Go Go.ChangeShapes Go.WideShapes Go.ChangeAt Go.RowKit
theorem own : ownKnob Tryz.prog.godebug = none := by kernel_rfl
theorem laid : laidOutB Tryz.prog = true := by kernel_rfl
theorem readable : ∀ t ∈ Tryz.f8.params.toList, Tryz.prog.readableRec t = true ∧ t < Tryz.prog.types.size := by
 have h : (Tryz.f8.params.toList.all fun t => Tryz.prog.readableRec t && decide (t < Tryz.prog.types.size)) = true := by kernel_rfl
 intro t ht
 simpa using List.all_eq_true.1 h t ht
theorem contract (H : Type) (enc : TypeId × Value → H) (W : World) (base : Nat) (args : Array Value) (ds gs : List (DataW H)) (before : List MemPlace)
  (hval : ∀ (j : Nat) t v, Tryz.f8.params[j]? = some t → args[j]? = some v → Value.okWide Tryz.prog W .any base t v)
  (hW : DataW.Whole enc Tryz.prog Tryz.f8.params.toList Rows.snapReadsSpec.vars false W args.toList ds gs before) (hk : Rows.uptoSmall H (ds ++ gs) = true) :
  Calls Tryz.prog 8 args W fun e W' => ∃ v, e = .returned v ∧ Rows.snapReadsSpec.post enc Tryz.prog Tryz.f8 false true false false W args v W' := by
 have hW' := hW
 obtain ⟨p, q, hA, hV, rfl, hfz, hnd⟩ := hW
 obtain ⟨rfl, -⟩ := trodVars_none hV
 rw [List.append_nil] at hk
 have hpar : Tryz.f8.params = #[9, 24] := Tryz.params8
 rw [hpar] at hval
 have hA' := hA
 rw [hpar] at hA'
 obtain ⟨v0, vs0, d0, ds0, p0, r0, ha0, rfl, rfl, h0, t0⟩ := trodAll_cons hA'
 obtain ⟨v1, vs1, d1, ds1, p1, r1, ha1, rfl, rfl, h1, t1⟩ := trodAll_cons t0
 obtain ⟨hv, rfl, rfl⟩ := trodAll_nil t1
 obtain rfl : args = #[v0, v1] := by
  have e : args.toList = [v0, v1] := by rw [ha0, ha1, hv]
  cases args; simp_all
 have b0 := bulk_small hk (d := d0) (by simp)
 obtain ⟨fu0, g0⟩ := h0
 obtain ⟨s0, e0, q0⟩ := dec_str Tryz.underlying9 g0 b0
 obtain ⟨s0', rfl⟩ := okWide_string Tryz.underlying9 (hval 0 _ _ rfl rfl)
 obtain rfl : s0' = bs s0 := by simpa [vstr, Value.cells] using e0
 have b1 := bulk_small hk (d := d1) (by simp)
 obtain ⟨ad1, nn1, cp1, rfl⟩ := okWide_slice Tryz.underlying24 (hval 1 _ _ rfl rfl)
 obtain ⟨fu1, g1⟩ := h1
 obtain ⟨v1, xs1, e1, q1⟩ := dec_ents g1 b1
 simp [Value.cells] at e1
 subst e1
 refine (old_calls (snapReads8_spec s0 _ xs1 (Old W) (by omega) q1)).mono fun e W' ⟨he, hb⟩ => ⟨_, he, ?_⟩
 exact settled hW' rfl (fun gs' h => by subst h; rfl) rfl Tryz.underlying4 laid readable hb
def cellsTo (l : List Value) : Obj → Obj
 | .cells _ t frozen => .cells l.toArray t frozen
 | o => o
noncomputable def laidWorld (os : Os) : World :=
 let w := World.holding Tryz.prog os ⟨#[], #[], []⟩
 { w with heap := (w.heap.modify 1 (cellsTo (Pinned.utf8FirstZ.map fun (n : Nat) => Value.int .u8 n))).modify 2 (cellsTo [.int .u8 128, .int .u8 191, .int .u8 160, .int .u8 191, .int .u8 128, .int .u8 159, .int .u8 144, .int .u8 191, .int .u8 128, .int .u8 143, .int .u8 0, .int .u8 0, .int .u8 0, .int .u8 0, .int .u8 0, .int .u8 0, .int .u8 0, .int .u8 0, .int .u8 0, .int .u8 0, .int .u8 0, .int .u8 0, .int .u8 0, .int .u8 0, .int .u8 0, .int .u8 0, .int .u8 0, .int .u8 0, .int .u8 0, .int .u8 0, .int .u8 0, .int .u8 0]) }
theorem laid_met (os : Os) : laidMet Tryz.prog Rows.snapReadsUptoRow.laid ((laidWorld os).forCall (fun _ _ => 0) ⟨#[], #[vstr [], .slice none 0 0], []⟩).memory :=
 laidMet_of_run' 8 (by kernel_rfl) (by kernel_rfl)
theorem reads (os : Os) {H : Type} (enc : TypeId × Value → H) : ∃ places, DataW.whole enc Tryz.prog ((laidWorld os).forCall (fun _ _ => 0) ⟨#[], #[vstr [], .slice none 0 0], []⟩).memory Tryz.f8.params.toList Rows.snapReadsSpec.vars false (#[vstr [], .slice none 0 0] : Array Value).toList 8 = some ([.lit (.string []), .nil], [], places) :=
 ⟨[], by kernel_rfl⟩
theorem lifted (os : Os) (started : os.Started) (H : Type) (enc : TypeId × Value → H) (F : Stop.Interp) :
  ReturnsInHanded {} Tryz.checked os 8 .any ((Rows.OpenSpec.upto Rows.snapReadsSpec).preRow enc Tryz.prog Tryz.f8 Rows.snapReadsUptoRow.domain false Rows.snapReadsUptoRow.laid) (((Rows.OpenSpec.upto Rows.snapReadsSpec).at F).post enc Tryz.prog Tryz.f8 false true false false) := by
 obtain ⟨places, hx⟩ := reads os enc
 refine returnsInHanded_of_row (C := Tryz.checked) (s := Rows.OpenSpec.upto Rows.snapReadsSpec) own started (by kernel_rfl) Tryz.func8
  (witness_row_at (enc := enc) (C := Tryz.checked) false (laidWorld os) #[vstr [], .slice none 0 0] rfl (by kernel_rfl) (by kernel_rfl) (by kernel_rfl)
   (OpenSpec.preRow_of_cond 8 hx (by kernel_rfl) (fun k hk => by cases hk; kernel_rfl) (by kernel_rfl) (laid_met os))) ?_
 intro W base args ds gs before hval hW _ hcond _ _ _ _
 exact contract H enc W base args ds gs before hval hW (hcond _ rfl)
theorem saidUpto : Rows.SnapReadsUptoSaid :=
 OpenClaim.holds_of_cond 8 Tryz.f8 rfl rfl rfl rfl rfl rfl rfl ⟨rfl, rfl, rfl, rfl, rfl⟩ rfl rfl rfl rfl rfl (by kernel_rfl) Tryz.func8 (by kernel_rfl)
  (of_decide_eq_true (by kernel_rfl)) (by unfold Func.isWrapper; first | (rw [if_pos (by decide +kernel)]; kernel_rfl) | (rw [if_neg (by decide +kernel)]; exact ⟨rfl, rfl⟩))
  (fun os started H enc _ F => by rw [OpenClaim.pre_eq_preRow]; exact lifted os started H enc F)
theorem plain (f : FuncId) (fn : Func) (hf : Tryz.pinned.checked.prog.funcNamed "arboretum/arboretumlaw08.SnapReads" = some f) (hfn : Tryz.pinned.checked.prog.funcs[f]? = some fn) :
  false = Tryz.pinned.checked.prog.looks [] ∧ ∀ (j : Nat) t, fn.params[j]? = some t → Tryz.pinned.checked.prog.wantsStandIn t = false := by
 obtain rfl : f = 8 := Option.some.inj ((show Tryz.prog.funcNamed "arboretum/arboretumlaw08.SnapReads" = some 8 by kernel_rfl).symm.trans hf) |>.symm
 obtain rfl : fn = Tryz.f8 := (Option.some.inj (Tryz.func8.symm.trans hfn)).symm
 refine ⟨by kernel_rfl, fun j t ht => ?_⟩
 have h : (Tryz.f8.params.toList.all fun t => !Tryz.pinned.checked.prog.wantsStandIn t) = true := by kernel_rfl
 have h2 := List.all_eq_true.1 h t (Array.mem_def.1 (Array.mem_of_getElem? ht))
 simpa using h2
theorem proved : Rows.SnapReadsUptoCardSaid :=
 Claim7.holds_tied_plain_at .later [] _ _ _ _ saidUpto (fun _ h => by cases h) (by kernel_rfl) (fun _ h => by cases h) snapReadsUpto_row_tie rfl ⟨rfl, rfl⟩ (by kernel_rfl) rfl plain (by kernel_rfl)
end Go.Proofs.YtgppfpmmijbncaaGreatDoor.snapReads
