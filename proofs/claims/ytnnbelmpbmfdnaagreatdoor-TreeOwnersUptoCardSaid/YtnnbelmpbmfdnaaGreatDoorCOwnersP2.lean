/- Own work, some of it printed by program, texts that were built one by one and are laid one behind the other here: package path: walked. | package path: Parent, Base, Kid, Under: walked. | package tree: what creates and erases: walked. | package tree: erase, part, Apply and what is told of a tree: walked. | package tree: Stat, Get, Same: walked. | package tree: Apply, Stat, Get: walked. | entries as plain data; what is done below one node does not touch what is below another one: plain. -/
import Derived.Test.YtnnbelmpbmfdnaaGreatDoorCOwnersP1
import Derived.Shelf.SlIter.Nil
import Derived.Shelf.SortM.Plain
import Derived.Shelf.SortM.SortNone
import Derived.Ground.GgzProg
import Derived.Ground.SlgmProg
import Derived.Test.YtnnbelmpbmfdnaaGreatDoorProg
/- Own work, by program: package path: walked. -/
namespace Go.Proofs.YtnnbelmpbmfdnaaGreatDoor
open Go
set_option maxRecDepth 100000 in
theorem sindexbyte_spec (s : Bs) : Fn Tryz.prog 187 #[vstr s, .int .u8 47] [] fun v L => v = vint (idxZ s) ∧ L = [] := by
 refine Fn.intro (vs := [vstr s, .int .u8 47]) Tryz.func187 rfl rfl ?_
 intro F W
 refine G.seq (G.region (G.q (Quiet.assign rfl) rfl (G.nil (G.then_n (G.seq (G.region (G.q (Quiet.move rfl) rfl (G.q (Quiet.move rfl) rfl ?_))))))))
 refine G.q (Quiet.extern (e := Extern.BytealgIndexByte.indexByte) (vs := [_, .int .u8 47]) Tryz.func191 (by kernel_rfl) (by kernel_rfl) (by kernel_rfl) (by kernel_rfl) rfl (fun w => index_run s w)) rfl ?_
 refine G.q (Quiet.assign rfl) rfl (G.nil (G.then_n (G.ret ?_)))
 exact G.done (l := [.tmp 4]) rfl rfl ⟨rfl, rfl⟩ (by (repeat' constructor)) (by (repeat' constructor))

set_option maxRecDepth 100000 in
theorem sindex_spec (s : Bs) : Fn Tryz.prog 184 #[vstr s, vstr [47]] [] fun v L => v = vint (idxZ s) ∧ L = [] := by
 refine Fn.intro (vs := [vstr s, vstr [47]]) Tryz.func184 rfl rfl ?_
 intro F W
 refine G.seq (G.region (G.q (Quiet.assign rfl) rfl (G.nil (G.then_n (G.seq (G.region (G.q (Quiet.move rfl) rfl (G.q (Quiet.strlen rfl Tryz.underlying9 rfl) rfl (G.q (Quiet.assign rfl) rfl (G.nil (G.then_n (G.seq (G.block (G.seq (G.region (G.q (Quiet.move rfl) rfl ?_))))))))))))))))
 refine G.q (Quiet.as (v' := .bool false) (by rfl) (Quiet.int rfl rfl rfl)) rfl ?_
 refine G.q (Quiet.move rfl) rfl (G.grun (t := 19) rfl rfl rfl (G.q (Quiet.move rfl) rfl (G.grun (t := 19) rfl rfl rfl (G.q (Quiet.move rfl) rfl (G.grun (t := 19) rfl rfl rfl (G.q (Quiet.streq rfl rfl) rfl (G.q (Quiet.pickF rfl rfl) rfl (G.q (Quiet.assign rfl) rfl (G.nil (G.then_n ?_))))))))))
 refine G.condD rfl (fun h16 => ?_) (fun h16 => ?_)
 ·refine G.seq (G.region (G.q (Quiet.assign rfl) rfl (G.nil (G.then_n (G.ret (G.blk_r (G.then_r ?_)))))))
  exact G.done (l := [.tmp 4]) rfl rfl ⟨by have e : s = [47] := (by first | exact h16.symm | exact (by simpa using h16.symm)); subst e; rfl, rfl⟩ (by (repeat' constructor)) (by (repeat' constructor))
 ·refine G.seq (G.region (G.q (Quiet.move rfl) rfl ?_))
  refine G.q (Quiet.as (v' := .bool true) (by rfl) (Quiet.int rfl rfl rfl)) rfl ?_
  refine G.q (Quiet.assign rfl) rfl (G.nil (G.then_n (G.condT rfl (G.seq (G.region (G.q (Quiet.move rfl) rfl (G.q (Quiet.move rfl) rfl ?_)))))))
  refine G.q (Quiet.strIndex (c := 47) rfl rfl Tryz.underlying9 (by simp) (by simp)) rfl ?_
  refine G.op (OpSpec.call Tryz.func187 rfl rfl (vs := [_, _]) rfl (sindexbyte_spec _)) (by (repeat' constructor)) rfl ?nx13
  rintro v L' ⟨rfl, rfl⟩
  refine G.q (Quiet.assign rfl) rfl (G.nil (G.then_n (G.ret (G.blk_r (G.then_r ?_)))))
  exact G.done (l := [.tmp 4]) rfl rfl ⟨rfl, rfl⟩ (by (repeat' constructor)) (by (repeat' constructor))

set_option maxRecDepth 100000 in
theorem index_spec (s : Bs) : Fn Tryz.prog 176 #[vstr s, vstr [47]] [] fun v L => v = vint (idxZ s) ∧ L = [] := by
 refine Fn.intro (vs := [vstr s, vstr [47]]) Tryz.func176 rfl rfl ?_
 intro F W
 refine G.seq (G.region (G.q (Quiet.assign rfl) rfl (G.nil (G.then_n (G.seq (G.region (G.q (Quiet.move rfl) rfl (G.q (Quiet.move rfl) rfl ?_))))))))
 refine G.op (OpSpec.call Tryz.func184 rfl rfl (vs := [_, _]) rfl (sindex_spec _)) (by (repeat' constructor)) rfl ?nx4
 rintro v L' ⟨rfl, rfl⟩
 refine G.q (Quiet.assign rfl) rfl (G.nil (G.then_n (G.ret ?_)))
 exact G.done (l := [.tmp 4]) rfl rfl ⟨rfl, rfl⟩ (by (repeat' constructor)) (by (repeat' constructor))

set_option maxRecDepth 100000 in
theorem count_spec (s : Bs) : Fn Tryz.prog 175 #[vstr s, vstr [47]] [] fun v L => v = vint (s.count 47 : Nat) ∧ L = [] := by
 refine Fn.intro (vs := [vstr s, vstr [47]]) Tryz.func175 rfl rfl ?_
 intro F W
 refine G.seq (G.region (G.q (Quiet.assign rfl) rfl (G.nil (G.then_n (G.seq (G.seq (G.region (G.q (Quiet.move rfl) rfl (G.q (Quiet.strlen rfl Tryz.underlying9 rfl) rfl ?_)))))))))
 refine G.q (Quiet.as (v' := .bool false) (by rfl) (Quiet.int rfl rfl rfl)) rfl ?_
 refine G.nil (G.then_n (G.condF rfl (G.skip (G.then_n (G.seq (G.seq (G.region (G.q (Quiet.move rfl) rfl (G.q (Quiet.strlen rfl Tryz.underlying9 rfl) rfl ?_)))))))))
 refine G.q (Quiet.as (v' := .bool true) (by rfl) (Quiet.int rfl rfl rfl)) rfl ?_
 refine G.nil (G.then_n (G.condT rfl (G.seq (G.region (G.q (Quiet.move rfl) rfl (G.q (Quiet.move rfl) rfl ?_))))))
 refine G.q (Quiet.strIndex (c := 47) rfl rfl Tryz.underlying9 (by simp) (by simp)) rfl ?_
 refine G.q (Quiet.extern (e := Extern.BytealgCount.count) (vs := [_, .int .u8 47]) Tryz.func183 (by kernel_rfl) (by kernel_rfl) (by kernel_rfl) (by kernel_rfl) rfl (fun w => count_run s w)) rfl ?_
 refine G.q (Quiet.assign rfl) rfl (G.nil (G.then_n (G.ret (G.then_r ?_))))
 exact G.done (l := [.tmp 4]) rfl rfl ⟨rfl, rfl⟩ (by (repeat' constructor)) (by (repeat' constructor))

theorem count_cut {s : Bs} {k : Nat} (h : s = s.take k ++ 47 :: s.drop (k + 1)) (hk : (47 : UInt8) ∉ s.take k) : s.count 47 = (s.drop (k + 1)).count 47 + 1 := by
  have := congrArg (List.count 47) h
  rw [List.count_append, List.count_eq_zero.2 hk, List.count_cons_self] at this
  omega
theorem spl_done {dn : List Bs} {i n : Nat} {s : Bs} (hd : dn.length = i) (hi : i < n) : (strs dn ++ List.replicate (n - i) (vstr [])).set i (vstr s) = strs (dn ++ [s]) ++ List.replicate (n - (i + 1)) (vstr []) := by
  obtain ⟨k, rfl⟩ : ∃ k, n = i + (k + 1) := ⟨n - i - 1, by omega⟩
  rw [List.set_append_right _ _ (by simp [hd]), show i - (strs dn).length = 0 by simp [hd], show i + (k + 1) - i = k + 1 by omega, show i + (k + 1) - (i + 1) = k by omega, List.replicate_succ, List.set_cons_zero]
  simp [strs]
theorem take_done {dn : List Bs} {i n : Nat} {s : Bs} (hd : dn.length = i) (hi : i = n) : (strs (dn ++ [s]) ++ List.replicate (n + 1 - (i + 1)) (vstr [])).take (n + 1) = strs (dn ++ [s]) := by
  subst hi
  rw [Nat.sub_self, List.replicate_zero, List.append_nil, List.take_of_length_le (by simp [hd])]
set_option maxRecDepth 100000 in
theorem gensplit_spec (s : Bs) (hs : s.length ≤ 1048576) : Fn Tryz.prog 158 #[vstr s, vstr [47], vint 0, vint (-1)] [] fun v L => ∃ b, v = .slice (some ⟨b, 0, none⟩) (splitZ s).length (splitZ s).length ∧ L = [slR 9 1 v (splitZ s).length (strs (splitZ s))] := by
 refine Fn.intro (vs := [vstr s, vstr [47], vint 0, vint (-1)]) Tryz.func158 rfl rfl ?_
 intro F W
 have hcl : s.count 47 ≤ s.length := List.count_le_length
 have hsp := split_len s
 refine G.seq (G.region (G.q (Quiet.assign rfl) rfl (G.nil (G.then_n (G.seq (G.seq (G.region (G.q (Quiet.move rfl) rfl ?_))))))))
 refine G.q (Quiet.as (v' := .bool false) (by rfl) (Quiet.int rfl rfl rfl)) rfl ?_
 refine G.nil (G.then_n (G.condF rfl (G.skip (G.then_n (G.seq (G.seq (G.region (G.q (Quiet.move rfl) rfl ?_))))))))
 refine G.q (Quiet.as (v' := .bool false) (by rfl) (Quiet.streq rfl rfl)) rfl ?_
 refine G.nil (G.then_n (G.condF rfl (G.skip (G.then_n (G.seq (G.seq (G.region (G.q (Quiet.move rfl) rfl ?_))))))))
 refine G.q (Quiet.as (v' := .bool true) (by rfl) (Quiet.int rfl rfl rfl)) rfl ?_
 refine G.nil (G.then_n (G.condT rfl (G.region (G.q (Quiet.move rfl) rfl (G.q (Quiet.move rfl) rfl ?_)))))
 refine G.op (OpSpec.call Tryz.func175 rfl rfl (vs := [_, _]) rfl (count_spec _)) (by (repeat' constructor)) rfl ?nx10
 rintro v L' ⟨rfl, rfl⟩
 refine G.q (Quiet.add rfl rfl (by omega)) rfl ?_
 refine G.q (Quiet.assign rfl) rfl (G.nil (G.then_n (G.seq (G.region (G.q (Quiet.move rfl) rfl (G.q (Quiet.move rfl) rfl (G.q (Quiet.strlen rfl Tryz.underlying9 rfl) rfl ?_)))))))
 refine G.q (Quiet.add rfl rfl (by omega)) rfl ?_
 refine G.q (Quiet.to (v' := vint (((s.count 47) : Nat) + 1)) (Quiet.min2 rfl rfl) (by congr 1; omega)) rfl ?_
 refine G.q (Quiet.assign rfl) rfl (G.nil (G.then_n (G.seq (G.region (G.q (Quiet.move rfl) rfl ?_)))))
 refine G.op (OpSpec.make rfl rfl el_40 ze_9 rfl ⟨by simp, by simp; rfl⟩ ?hc17) (by (repeat' constructor)) rfl ?nx18
 case hc17 => omega
 rintro v L' ⟨ba, rfl, rfl⟩; rw [show (((s.count 47) : Nat) + 1 : Int).toNat = (s.count 47) + 1 by omega]
 refine G.q (Quiet.assign rfl) rfl (G.nil ?_)
 refine G.ptCast (b := ba) (l' := strs [] ++ List.replicate ((s.count 47) + 1 - 0) (vstr [])) (by (repeat' constructor)) (by simp) ?_
 refine G.then_n (G.seq (G.region (G.q (Quiet.move rfl) rfl ?_)))
 refine G.q (Quiet.to (v' := vint ((s.count 47) : Nat)) (Quiet.sub rfl rfl (by omega)) (by congr 1; omega)) rfl ?_
 refine G.q (Quiet.assign rfl) rfl (G.nil (G.then_n (G.seq (G.region (G.q (Quiet.assign rfl) rfl (G.nil (G.then_n (G.seq (G.block ?_)))))))))
 refine G.loopK (ι := Nat × Bs × (List Bs)) (fun q E => (10, vint q.1) :: (0, vstr q.2.1) :: E) (fun q => [ptc ba (strs q.2.2 ++ List.replicate ((s.count 47) + 1 - q.1) (vstr [])) 9]) (fun q => q.1 ≤ (s.count 47) ∧ q.2.2.length = q.1 ∧ q.2.1.count 47 + q.1 = (s.count 47) ∧ splitZ s = q.2.2 ++ splitZ q.2.1 ∧ q.2.1.length ≤ s.length) (fun q => (s.count 47) - q.1) (0, s, []) (ts := [1, 2, 3, 8, 9]) (.cons rfl (.cons rfl (.cons rfl (.cons rfl (.cons rfl (.nil)))))) (⟨Nat.zero_le _, rfl, by dsimp only; omega, rfl, Nat.le_refl _⟩) ⟨rfl, rfl, rfl, rfl, rfl, rfl, rfl, trivial⟩ (by (repeat' constructor)) ?_
 rintro ⟨i, cur, dn⟩ ⟨hi, hdl, hct, hsplit, hcul⟩
 dsimp only
 dsimp only at hi hdl hct hsplit hcul
 refine G.seq (G.seq (G.region (G.q (Quiet.move rfl) rfl (G.q (Quiet.move rfl) rfl (G.q (Quiet.int rfl rfl rfl) rfl (G.nil (G.then_n ?_)))))))
 refine G.condD rfl (fun h36 => ?_) (fun h36 => ?_)
 ·have hmem : (47 : UInt8) ∈ cur := List.count_pos_iff.1 (by omega)
  obtain ⟨k, hk1, hk2, hk4, hk3⟩ := idxZ_at hmem
  have hcat : cur = cur.take k ++ 47 :: cur.drop (k + 1) := hk4
  have hcc := count_cut hcat hk3
  refine G.skip (G.then_n (G.block (G.seq (G.region (G.q (Quiet.move rfl) rfl (G.q (Quiet.move rfl) rfl ?_))))))
  refine G.op (OpSpec.call Tryz.func176 rfl rfl (vs := [_, _]) rfl (index_spec cur)) (by (repeat' constructor)) rfl ?nx27
  rintro v L' ⟨rfl, rfl⟩; rw [hk1]
  refine G.q (Quiet.assign rfl) rfl (G.nil (G.then_n (G.seq (G.seq (G.region (G.q (Quiet.move rfl) rfl ?_))))))
  refine G.q (Quiet.as (v' := .bool false) (by first | (simp; done) | (simp; omega)) (Quiet.int rfl rfl rfl)) rfl ?_
  refine G.nil (G.then_n (G.condF rfl (G.skip (G.then_n (G.seq (G.region (G.q (Quiet.move rfl) rfl (G.q (Quiet.move rfl) rfl (G.q (Quiet.move rfl) rfl (G.q (Quiet.move rfl) rfl (G.q (Quiet.move rfl) rfl ?_)))))))))))
  refine G.q (Quiet.add rfl rfl (by omega)) rfl ?_
  refine G.q (Quiet.to (v' := vstr (cur.take k)) (Quiet.strTo (j := (k : Int) + 0) rfl rfl Tryz.underlying9 (by omega)) (by rw [show ((k : Int) + 0).toNat = k by omega])) rfl ?_
  refine G.q (Quiet.indexAddr rfl rfl el_40 (by omega)) rfl ?_
  refine G.op (OpSpec.store rfl rfl rfl sz_9 ?c37 ?c38) (by (repeat' constructor)) rfl ?nx39
  case c37 => first | (simp; done) | (simp; omega)
  case c38 => exact nfz0 _ _
  rintro v L' rfl
  refine G.nil (G.then_n (G.seq (G.region (G.q (Quiet.move rfl) rfl (G.q (Quiet.move rfl) rfl (G.q (Quiet.move rfl) rfl ?_))))))
  refine G.q (Quiet.as (v' := vint 1) (by rfl) (Quiet.strlen rfl Tryz.underlying9 rfl)) rfl ?_
  refine G.q (Quiet.add rfl rfl (by omega)) rfl ?_
  refine G.q (Quiet.to (v' := vstr (cur.drop (k + 1))) (Quiet.strFrom (i := (k : Int) + 1) rfl rfl Tryz.underlying9 (by omega)) (by rw [show ((k : Int) + 1).toNat = k + 1 by omega])) rfl ?_
  refine G.q (Quiet.assign rfl) rfl (G.nil (G.then_n (G.region (G.q (Quiet.move rfl) rfl ?_))))
  refine G.q (Quiet.add rfl rfl (by omega)) rfl ?_
  refine G.q (Quiet.assign rfl) rfl (G.nil (G.blk_n (G.then_n ?_)))
  rw [show 0 + (i : Int).toNat * 1 = i by omega, spl_done hdl (by omega)]
  exact G.roundK ((i + 1, cur.drop (k + 1), dn ++ [cur.take k])) (⟨by dsimp only; omega, by dsimp only; simp [hdl], by dsimp only; omega, by dsimp only; rw [hsplit, hcat, split_at hk3, ← hcat, List.append_assoc]; rfl, by dsimp only; rw [List.length_drop]; omega⟩) (by dsimp only; omega) ⟨rfl, rfl, rfl, rfl, rfl, rfl, rfl, trivial⟩ (by (repeat' constructor)) (by ((repeat (apply Have.cons; (repeat (first | exact Pick.here | apply Pick.there)))); apply Have.base; repeat' constructor))
 ·have hii : i = (s.count 47) := by omega
  have hlast : splitZ cur = [cur] := split_none (List.count_eq_zero.1 (by omega))
  rw [hlast] at hsplit
  refine G.exit (G.then_e (G.then_e (G.blk_e (G.then_n (G.seq (G.region (G.q (Quiet.move rfl) rfl (G.q (Quiet.move rfl) rfl (G.q (Quiet.move rfl) rfl ?_)))))))))
  refine G.q (Quiet.indexAddr rfl rfl el_40 (by omega)) rfl ?_
  refine G.op (OpSpec.store rfl rfl rfl sz_9 ?c51 ?c52) (by (repeat' constructor)) rfl ?nx53
  case c51 => first | (simp; done) | (simp; omega)
  case c52 => exact nfz0 _ _
  rintro v L' rfl
  refine G.nil (G.then_n (G.seq (G.region (G.q (Quiet.move rfl) rfl (G.q (Quiet.move rfl) rfl ?_)))))
  refine G.q (Quiet.add rfl rfl (by omega)) rfl ?_
  refine G.q (Quiet.to (v' := .slice (some ⟨ba, 0, none⟩) (splitZ s).length (splitZ s).length) (Quiet.slTo (j := (i : Int) + 1) rfl el_40 rfl (by omega) (.inr ⟨_, _, rfl⟩)) (by rw [hsp, hii]; congr 1)) rfl ?_
  refine G.q (Quiet.assign rfl) rfl (G.nil ?_)
  refine G.slMake (b := ba) (n := (splitZ s).length) (c := (splitZ s).length) (xs := strs (splitZ s)) (by (repeat' constructor)) (Nat.le_refl _) (by rw [hsp]; simp; omega) (by rw [show 0 + (i : Int).toNat * 1 = i by omega, spl_done hdl (by omega), hsp, hsplit]; exact take_done hdl hii) ?_
  refine G.then_n (G.ret ?_)
  exact G.done (l := [.tmp 8]) rfl rfl ⟨ba, rfl, rfl⟩ (by (repeat' constructor)) (by (repeat' constructor))

set_option maxRecDepth 100000 in
theorem split_spec (s : Bs) (hs : s.length ≤ 1048576) : Fn Tryz.prog 129 #[vstr s, vstr [47]] [] fun v L => ∃ b, v = .slice (some ⟨b, 0, none⟩) (splitZ s).length (splitZ s).length ∧ L = [slR 9 1 v (splitZ s).length (strs (splitZ s))] := by
 refine Fn.intro (vs := [vstr s, vstr [47]]) Tryz.func129 rfl rfl ?_
 intro F W
 refine G.seq (G.region (G.q (Quiet.assign rfl) rfl (G.nil (G.then_n (G.seq (G.region (G.q (Quiet.move rfl) rfl (G.q (Quiet.move rfl) rfl ?_))))))))
 refine G.op (OpSpec.call Tryz.func158 rfl rfl (vs := [_, _, _, _]) rfl (gensplit_spec _ ?hs4)) (by (repeat' constructor)) rfl ?nx5
 case hs4 => assumption
 rintro v L' ⟨bb, rfl, rfl⟩
 refine G.q (Quiet.assign rfl) rfl (G.nil (G.then_n (G.ret ?_)))
 exact G.done (l := [.tmp 4]) rfl rfl ⟨bb, rfl, rfl⟩ (by (repeat' constructor)) (by (repeat' constructor))

set_option maxRecDepth 100000 in
theorem isname_spec (s : Bs) : Fn Tryz.prog 130 #[vstr s] [] fun v L => v = .bool (isNameZ s) ∧ L = [] := by
 refine Fn.intro (vs := [vstr s]) Tryz.func130 rfl rfl ?_
 intro F W
 refine G.seq (G.region (G.q (Quiet.assign rfl) rfl (G.nil (G.then_n (G.seq (G.seq (G.region (G.q (Quiet.move rfl) rfl ?_))))))))
 refine G.op (OpSpec.rangeS rfl Tryz.underlying9) (by (repeat' constructor)) rfl ?nx3
 rintro v L' ⟨it, rfl, rfl⟩
 refine G.nil (G.then_n (G.block ?_))
 refine G.loopK (ι := Nat) (fun q E => E) (fun q => [runeR it s q]) (fun q => q ≤ s.length ∧ (s.take q).all letterB = true) (fun q => s.length - q) (0) (ts := [0, 6]) (.cons rfl (.cons rfl (.nil))) (⟨Nat.zero_le _, rfl⟩) ⟨rfl, rfl, trivial⟩ (by (repeat' constructor)) ?_
 rintro pos ⟨hp, hall⟩
 refine G.seq (G.region ?_)
 refine G.op (OpSpec.nextS rfl) (by (repeat' constructor)) rfl ?nx5
 rintro v L' (⟨rfl, hpos, rfl⟩ | ⟨hpos, rfl, rfl⟩)
 ·refine G.q (Quiet.extract rfl rfl) rfl (G.nil (G.then_n (G.seq (G.condF rfl (G.exit (G.then_e (G.then_e (G.blk_e (G.then_n (G.seq (G.region (G.q (Quiet.move rfl) rfl (G.q (Quiet.strne rfl rfl) rfl (G.q (Quiet.move rfl) rfl ?_))))))))))))))
  refine G.ndec (t := 37) rfl (fun h11_37 => ?_) (fun h11_37 => ?_)
  ·refine G.kNT (t := 36) rfl h11_37 (G.grun (t := 37) rfl rfl rfl (G.q (Quiet.move rfl) rfl (G.grun (t := 37) rfl rfl rfl (G.q (Quiet.strne rfl rfl) rfl (G.q (Quiet.pickT rfl rfl) rfl (G.q (Quiet.move rfl) rfl ?_))))))
   refine G.ndec (t := 41) rfl (fun h11_41 => ?_) (fun h11_41 => ?_)
   ·refine G.kNT (t := 39) rfl h11_41 (G.kNT (t := 40) rfl h11_41 (G.grun (t := 41) rfl rfl rfl (G.q (Quiet.move rfl) rfl (G.grun (t := 41) rfl rfl rfl (G.q (Quiet.strne rfl rfl) rfl (G.q (Quiet.pickT rfl rfl) rfl (G.q (Quiet.assign rfl) rfl (G.nil (G.then_n (G.ret ?_))))))))))
    have hz : isNameZ s = (!decide (s = []) && !decide (s = [46]) && !decide (s = [46, 46])) := by unfold isNameZ; rw [List.take_of_length_le (by omega)] at hall; rw [hall, Bool.and_true]
    rw [hz]
    exact G.done (l := [.tmp 2]) rfl rfl ⟨by simp_all, rfl⟩ (by (repeat' constructor)) (by (repeat' constructor))
   ·refine G.kNF (t := 39) rfl h11_41 (G.kNF (t := 40) rfl h11_41 (G.gskip (t := 41) rfl rfl rfl rfl (G.gskip (t := 41) rfl rfl rfl rfl (G.q (Quiet.pickF rfl rfl) rfl (G.q (Quiet.assign rfl) rfl (G.nil (G.then_n (G.ret ?_))))))))
    have hz : isNameZ s = (!decide (s = []) && !decide (s = [46]) && !decide (s = [46, 46])) := by unfold isNameZ; rw [List.take_of_length_le (by omega)] at hall; rw [hall, Bool.and_true]
    rw [hz]
    exact G.done (l := [.tmp 2]) rfl rfl ⟨by simp_all, rfl⟩ (by (repeat' constructor)) (by (repeat' constructor))
  ·refine G.kNF (t := 36) rfl h11_37 (G.gskip (t := 37) rfl rfl rfl rfl (G.gskip (t := 37) rfl rfl rfl rfl (G.q (Quiet.pickF rfl rfl) rfl (G.q (Quiet.move rfl) rfl (G.gskip (t := 41) rfl rfl rfl rfl (G.gskip (t := 41) rfl rfl rfl rfl (G.q (Quiet.pickF rfl rfl) rfl (G.q (Quiet.assign rfl) rfl (G.nil (G.then_n (G.ret ?_)))))))))))
   have hz : isNameZ s = (!decide (s = []) && !decide (s = [46]) && !decide (s = [46, 46])) := by unfold isNameZ; rw [List.take_of_length_le (by omega)] at hall; rw [hall, Bool.and_true]
   rw [hz]
   exact G.done (l := [.tmp 2]) rfl rfl ⟨by simp_all, rfl⟩ (by (repeat' constructor)) (by (repeat' constructor))
 ·refine G.q (Quiet.extract rfl rfl) rfl (G.nil (G.then_n (G.seq (G.condT rfl (G.skip (G.then_n (G.block (G.seq (G.region ?_)))))))))
  rcases Nat.lt_or_ge (s[pos]).toNat 128 with hlo | hhi
  ·rw [decode_low hpos hlo]
   dsimp only
   refine G.q (Quiet.extract rfl rfl) rfl (G.q (Quiet.assign rfl) rfl (G.nil (G.then_n (G.block (G.seq (G.seq (G.region (G.q (Quiet.move rfl) rfl (G.q (Quiet.int rfl rfl rfl) rfl (G.q (Quiet.move rfl) rfl ?_))))))))))
   refine G.dec (t := 13) rfl (fun h5_13 => ?_) (fun h5_13 => ?_)
   ·refine G.kDT (t := 12) rfl h5_13 (G.grun (t := 13) rfl rfl rfl (G.q (Quiet.move rfl) rfl (G.grun (t := 13) rfl rfl rfl (G.q (Quiet.int rfl rfl rfl) rfl (G.q (Quiet.pickT rfl rfl) rfl (G.q (Quiet.assign rfl) rfl (G.nil (G.then_n ?_))))))))
    refine G.dec (t := 10) rfl (fun h10 => ?_) (fun h10 => ?_)
    ·refine G.condT rfl (G.skip (G.then_n (G.condT rfl (G.skip (G.blk_n (G.blk_n (G.then_n ?_)))))))
     exact G.roundK (pos + 1) (⟨by omega, all_next hpos hall (letter_of (by omega))⟩) (by omega) ⟨rfl, rfl, trivial⟩ (by (repeat' constructor)) (by ((repeat (apply Have.cons; (repeat (first | exact Pick.here | apply Pick.there)))); apply Have.base; repeat' constructor))
    ·refine G.condF rfl (G.seq (G.region (G.q (Quiet.move rfl) rfl (G.q (Quiet.int rfl rfl rfl) rfl (G.q (Quiet.move rfl) rfl ?_)))))
     refine G.dec (t := 19) rfl (fun h6_19 => ?_) (fun h6_19 => ?_)
     ·refine G.kDT (t := 18) rfl h6_19 (G.grun (t := 19) rfl rfl rfl (G.q (Quiet.move rfl) rfl (G.grun (t := 19) rfl rfl rfl (G.q (Quiet.int rfl rfl rfl) rfl (G.q (Quiet.pickT rfl rfl) rfl (G.q (Quiet.assign rfl) rfl (G.nil (G.then_n ?_))))))))
      refine G.dec (t := 10) rfl (fun h10 => ?_) (fun h10 => ?_)
      ·refine G.condT rfl (G.skip (G.then_n (G.condT rfl (G.skip (G.blk_n (G.blk_n (G.then_n ?_)))))))
       exact G.roundK (pos + 1) (⟨by omega, all_next hpos hall (letter_of (by omega))⟩) (by omega) ⟨rfl, rfl, trivial⟩ (by (repeat' constructor)) (by ((repeat (apply Have.cons; (repeat (first | exact Pick.here | apply Pick.there)))); apply Have.base; repeat' constructor))
      ·refine G.condF rfl (G.seq (G.region (G.q (Quiet.move rfl) rfl (G.q (Quiet.int rfl rfl rfl) rfl (G.q (Quiet.move rfl) rfl ?_)))))
       refine G.dec (t := 25) rfl (fun h7_25 => ?_) (fun h7_25 => ?_)
       ·refine G.kDT (t := 24) rfl h7_25 (G.grun (t := 25) rfl rfl rfl (G.q (Quiet.move rfl) rfl (G.grun (t := 25) rfl rfl rfl (G.q (Quiet.int rfl rfl rfl) rfl (G.q (Quiet.pickT rfl rfl) rfl (G.q (Quiet.assign rfl) rfl (G.nil (G.then_n ?_))))))))
        refine G.dec (t := 10) rfl (fun h10 => ?_) (fun h10 => ?_)
        ·refine G.condT rfl (G.skip (G.then_n (G.condT rfl (G.skip (G.blk_n (G.blk_n (G.then_n ?_)))))))
         exact G.roundK (pos + 1) (⟨by omega, all_next hpos hall (letter_of (by omega))⟩) (by omega) ⟨rfl, rfl, trivial⟩ (by (repeat' constructor)) (by ((repeat (apply Have.cons; (repeat (first | exact Pick.here | apply Pick.there)))); apply Have.base; repeat' constructor))
        ·refine G.condF rfl (G.seq (G.region (G.q (Quiet.move rfl) rfl (G.q (Quiet.int rfl rfl rfl) rfl (G.q (Quiet.assign rfl) rfl (G.nil (G.then_n ?_)))))))
         refine G.dec (t := 10) rfl (fun h10 => ?_) (fun h10 => ?_)
         ·refine G.condT rfl (G.skip (G.then_n (G.condT rfl (G.skip (G.blk_n (G.blk_n (G.then_n ?_)))))))
          exact G.roundK (pos + 1) (⟨by omega, all_next hpos hall (letter_of (by omega))⟩) (by omega) ⟨rfl, rfl, trivial⟩ (by (repeat' constructor)) (by ((repeat (apply Have.cons; (repeat (first | exact Pick.here | apply Pick.there)))); apply Have.base; repeat' constructor))
         ·refine G.condF rfl (G.seq (G.region (G.q (Quiet.move rfl) rfl (G.q (Quiet.int rfl rfl rfl) rfl (G.q (Quiet.assign rfl) rfl (G.nil (G.then_n ?_)))))))
          refine G.dec (t := 10) rfl (fun h10 => ?_) (fun h10 => ?_)
          ·refine G.condT rfl (G.skip (G.then_n (G.condT rfl (G.skip (G.blk_n (G.blk_n (G.then_n ?_)))))))
           exact G.roundK (pos + 1) (⟨by omega, all_next hpos hall (letter_of (by omega))⟩) (by omega) ⟨rfl, rfl, trivial⟩ (by (repeat' constructor)) (by ((repeat (apply Have.cons; (repeat (first | exact Pick.here | apply Pick.there)))); apply Have.base; repeat' constructor))
          ·refine G.condF rfl (G.region (G.q (Quiet.move rfl) rfl (G.q (Quiet.int rfl rfl rfl) rfl (G.q (Quiet.assign rfl) rfl (G.nil (G.then_n ?_))))))
           refine G.dec (t := 10) rfl (fun h10 => ?_) (fun h10 => ?_)
           ·refine G.condT rfl (G.skip (G.blk_n (G.blk_n (G.then_n ?_))))
            exact G.roundK (pos + 1) (⟨by omega, all_next hpos hall (letter_of (by omega))⟩) (by omega) ⟨rfl, rfl, trivial⟩ (by (repeat' constructor)) (by ((repeat (apply Have.cons; (repeat (first | exact Pick.here | apply Pick.there)))); apply Have.base; repeat' constructor))
           ·refine G.condF rfl (G.seq (G.region (G.q (Quiet.assign rfl) rfl (G.nil (G.then_n (G.ret (G.blk_r (G.blk_r (G.then_r (G.blk_r (G.then_r ?_)))))))))))
            have hz : isNameZ s = false := name_bad hpos (letter_not (by omega))
            rw [hz]
            exact G.done (l := [.tmp 2]) rfl rfl ⟨rfl, rfl⟩ (by (repeat' constructor)) (by (repeat' constructor))
       ·refine G.kDF (t := 24) rfl h7_25 (G.gskip (t := 25) rfl rfl rfl rfl (G.gskip (t := 25) rfl rfl rfl rfl (G.q (Quiet.pickF rfl rfl) rfl (G.q (Quiet.assign rfl) rfl (G.nil (G.then_n (G.condF rfl (G.seq (G.region (G.q (Quiet.move rfl) rfl (G.q (Quiet.int rfl rfl rfl) rfl (G.q (Quiet.assign rfl) rfl (G.nil (G.then_n ?_))))))))))))))
        refine G.dec (t := 10) rfl (fun h10 => ?_) (fun h10 => ?_)
        ·refine G.condT rfl (G.skip (G.then_n (G.condT rfl (G.skip (G.blk_n (G.blk_n (G.then_n ?_)))))))
         exact G.roundK (pos + 1) (⟨by omega, all_next hpos hall (letter_of (by omega))⟩) (by omega) ⟨rfl, rfl, trivial⟩ (by (repeat' constructor)) (by ((repeat (apply Have.cons; (repeat (first | exact Pick.here | apply Pick.there)))); apply Have.base; repeat' constructor))
        ·refine G.condF rfl (G.seq (G.region (G.q (Quiet.move rfl) rfl (G.q (Quiet.int rfl rfl rfl) rfl (G.q (Quiet.assign rfl) rfl (G.nil (G.then_n ?_)))))))
         refine G.dec (t := 10) rfl (fun h10 => ?_) (fun h10 => ?_)
         ·refine G.condT rfl (G.skip (G.then_n (G.condT rfl (G.skip (G.blk_n (G.blk_n (G.then_n ?_)))))))
          exact G.roundK (pos + 1) (⟨by omega, all_next hpos hall (letter_of (by omega))⟩) (by omega) ⟨rfl, rfl, trivial⟩ (by (repeat' constructor)) (by ((repeat (apply Have.cons; (repeat (first | exact Pick.here | apply Pick.there)))); apply Have.base; repeat' constructor))
         ·refine G.condF rfl (G.region (G.q (Quiet.move rfl) rfl (G.q (Quiet.int rfl rfl rfl) rfl (G.q (Quiet.assign rfl) rfl (G.nil (G.then_n ?_))))))
          refine G.dec (t := 10) rfl (fun h10 => ?_) (fun h10 => ?_)
          ·refine G.condT rfl (G.skip (G.blk_n (G.blk_n (G.then_n ?_))))
           exact G.roundK (pos + 1) (⟨by omega, all_next hpos hall (letter_of (by omega))⟩) (by omega) ⟨rfl, rfl, trivial⟩ (by (repeat' constructor)) (by ((repeat (apply Have.cons; (repeat (first | exact Pick.here | apply Pick.there)))); apply Have.base; repeat' constructor))
          ·refine G.condF rfl (G.seq (G.region (G.q (Quiet.assign rfl) rfl (G.nil (G.then_n (G.ret (G.blk_r (G.blk_r (G.then_r (G.blk_r (G.then_r ?_)))))))))))
           have hz : isNameZ s = false := name_bad hpos (letter_not (by omega))
           rw [hz]
           exact G.done (l := [.tmp 2]) rfl rfl ⟨rfl, rfl⟩ (by (repeat' constructor)) (by (repeat' constructor))
     ·refine G.kDF (t := 18) rfl h6_19 (G.gskip (t := 19) rfl rfl rfl rfl (G.gskip (t := 19) rfl rfl rfl rfl (G.q (Quiet.pickF rfl rfl) rfl (G.q (Quiet.assign rfl) rfl (G.nil (G.then_n (G.condF rfl (G.seq (G.region (G.q (Quiet.move rfl) rfl (G.q (Quiet.int rfl rfl rfl) rfl (G.q (Quiet.move rfl) rfl ?_))))))))))))
      refine G.dec (t := 25) rfl (fun h7_25 => ?_) (fun h7_25 => ?_)
      ·refine G.kDT (t := 24) rfl h7_25 (G.grun (t := 25) rfl rfl rfl (G.q (Quiet.move rfl) rfl (G.grun (t := 25) rfl rfl rfl (G.q (Quiet.int rfl rfl rfl) rfl (G.q (Quiet.pickT rfl rfl) rfl (G.q (Quiet.assign rfl) rfl (G.nil (G.then_n ?_))))))))
       refine G.dec (t := 10) rfl (fun h10 => ?_) (fun h10 => ?_)
       ·refine G.condT rfl (G.skip (G.then_n (G.condT rfl (G.skip (G.blk_n (G.blk_n (G.then_n ?_)))))))
        exact G.roundK (pos + 1) (⟨by omega, all_next hpos hall (letter_of (by omega))⟩) (by omega) ⟨rfl, rfl, trivial⟩ (by (repeat' constructor)) (by ((repeat (apply Have.cons; (repeat (first | exact Pick.here | apply Pick.there)))); apply Have.base; repeat' constructor))
       ·refine G.condF rfl (G.seq (G.region (G.q (Quiet.move rfl) rfl (G.q (Quiet.int rfl rfl rfl) rfl (G.q (Quiet.assign rfl) rfl (G.nil (G.then_n ?_)))))))
        refine G.dec (t := 10) rfl (fun h10 => ?_) (fun h10 => ?_)
        ·refine G.condT rfl (G.skip (G.then_n (G.condT rfl (G.skip (G.blk_n (G.blk_n (G.then_n ?_)))))))
         exact G.roundK (pos + 1) (⟨by omega, all_next hpos hall (letter_of (by omega))⟩) (by omega) ⟨rfl, rfl, trivial⟩ (by (repeat' constructor)) (by ((repeat (apply Have.cons; (repeat (first | exact Pick.here | apply Pick.there)))); apply Have.base; repeat' constructor))
        ·refine G.condF rfl (G.seq (G.region (G.q (Quiet.move rfl) rfl (G.q (Quiet.int rfl rfl rfl) rfl (G.q (Quiet.assign rfl) rfl (G.nil (G.then_n ?_)))))))
         refine G.dec (t := 10) rfl (fun h10 => ?_) (fun h10 => ?_)
         ·refine G.condT rfl (G.skip (G.then_n (G.condT rfl (G.skip (G.blk_n (G.blk_n (G.then_n ?_)))))))
          exact G.roundK (pos + 1) (⟨by omega, all_next hpos hall (letter_of (by omega))⟩) (by omega) ⟨rfl, rfl, trivial⟩ (by (repeat' constructor)) (by ((repeat (apply Have.cons; (repeat (first | exact Pick.here | apply Pick.there)))); apply Have.base; repeat' constructor))
         ·refine G.condF rfl (G.region (G.q (Quiet.move rfl) rfl (G.q (Quiet.int rfl rfl rfl) rfl (G.q (Quiet.assign rfl) rfl (G.nil (G.then_n ?_))))))
          refine G.dec (t := 10) rfl (fun h10 => ?_) (fun h10 => ?_)
          ·refine G.condT rfl (G.skip (G.blk_n (G.blk_n (G.then_n ?_))))
           exact G.roundK (pos + 1) (⟨by omega, all_next hpos hall (letter_of (by omega))⟩) (by omega) ⟨rfl, rfl, trivial⟩ (by (repeat' constructor)) (by ((repeat (apply Have.cons; (repeat (first | exact Pick.here | apply Pick.there)))); apply Have.base; repeat' constructor))
          ·refine G.condF rfl (G.seq (G.region (G.q (Quiet.assign rfl) rfl (G.nil (G.then_n (G.ret (G.blk_r (G.blk_r (G.then_r (G.blk_r (G.then_r ?_)))))))))))
           have hz : isNameZ s = false := name_bad hpos (letter_not (by omega))
           rw [hz]
           exact G.done (l := [.tmp 2]) rfl rfl ⟨rfl, rfl⟩ (by (repeat' constructor)) (by (repeat' constructor))
      ·refine G.kDF (t := 24) rfl h7_25 (G.gskip (t := 25) rfl rfl rfl rfl (G.gskip (t := 25) rfl rfl rfl rfl (G.q (Quiet.pickF rfl rfl) rfl (G.q (Quiet.assign rfl) rfl (G.nil (G.then_n (G.condF rfl (G.seq (G.region (G.q (Quiet.move rfl) rfl (G.q (Quiet.int rfl rfl rfl) rfl (G.q (Quiet.assign rfl) rfl (G.nil (G.then_n ?_))))))))))))))
       refine G.dec (t := 10) rfl (fun h10 => ?_) (fun h10 => ?_)
       ·refine G.condT rfl (G.skip (G.then_n (G.condT rfl (G.skip (G.blk_n (G.blk_n (G.then_n ?_)))))))
        exact G.roundK (pos + 1) (⟨by omega, all_next hpos hall (letter_of (by omega))⟩) (by omega) ⟨rfl, rfl, trivial⟩ (by (repeat' constructor)) (by ((repeat (apply Have.cons; (repeat (first | exact Pick.here | apply Pick.there)))); apply Have.base; repeat' constructor))
       ·refine G.condF rfl (G.seq (G.region (G.q (Quiet.move rfl) rfl (G.q (Quiet.int rfl rfl rfl) rfl (G.q (Quiet.assign rfl) rfl (G.nil (G.then_n ?_)))))))
        refine G.dec (t := 10) rfl (fun h10 => ?_) (fun h10 => ?_)
        ·refine G.condT rfl (G.skip (G.then_n (G.condT rfl (G.skip (G.blk_n (G.blk_n (G.then_n ?_)))))))
         exact G.roundK (pos + 1) (⟨by omega, all_next hpos hall (letter_of (by omega))⟩) (by omega) ⟨rfl, rfl, trivial⟩ (by (repeat' constructor)) (by ((repeat (apply Have.cons; (repeat (first | exact Pick.here | apply Pick.there)))); apply Have.base; repeat' constructor))
        ·refine G.condF rfl (G.region (G.q (Quiet.move rfl) rfl (G.q (Quiet.int rfl rfl rfl) rfl (G.q (Quiet.assign rfl) rfl (G.nil (G.then_n ?_))))))
         refine G.dec (t := 10) rfl (fun h10 => ?_) (fun h10 => ?_)
         ·refine G.condT rfl (G.skip (G.blk_n (G.blk_n (G.then_n ?_))))
          exact G.roundK (pos + 1) (⟨by omega, all_next hpos hall (letter_of (by omega))⟩) (by omega) ⟨rfl, rfl, trivial⟩ (by (repeat' constructor)) (by ((repeat (apply Have.cons; (repeat (first | exact Pick.here | apply Pick.there)))); apply Have.base; repeat' constructor))
         ·refine G.condF rfl (G.seq (G.region (G.q (Quiet.assign rfl) rfl (G.nil (G.then_n (G.ret (G.blk_r (G.blk_r (G.then_r (G.blk_r (G.then_r ?_)))))))))))
          have hz : isNameZ s = false := name_bad hpos (letter_not (by omega))
          rw [hz]
          exact G.done (l := [.tmp 2]) rfl rfl ⟨rfl, rfl⟩ (by (repeat' constructor)) (by (repeat' constructor))
   ·refine G.kDF (t := 12) rfl h5_13 (G.gskip (t := 13) rfl rfl rfl rfl (G.gskip (t := 13) rfl rfl rfl rfl (G.q (Quiet.pickF rfl rfl) rfl (G.q (Quiet.assign rfl) rfl (G.nil (G.then_n (G.condF rfl (G.seq (G.region (G.q (Quiet.move rfl) rfl (G.q (Quiet.int rfl rfl rfl) rfl (G.q (Quiet.move rfl) rfl ?_))))))))))))
    refine G.dec (t := 19) rfl (fun h6_19 => ?_) (fun h6_19 => ?_)
    ·refine G.kDT (t := 18) rfl h6_19 (G.grun (t := 19) rfl rfl rfl (G.q (Quiet.move rfl) rfl (G.grun (t := 19) rfl rfl rfl (G.q (Quiet.int rfl rfl rfl) rfl (G.q (Quiet.pickT rfl rfl) rfl (G.q (Quiet.assign rfl) rfl (G.nil (G.then_n ?_))))))))
     refine G.dec (t := 10) rfl (fun h10 => ?_) (fun h10 => ?_)
     ·refine G.condT rfl (G.skip (G.then_n (G.condT rfl (G.skip (G.blk_n (G.blk_n (G.then_n ?_)))))))
      exact G.roundK (pos + 1) (⟨by omega, all_next hpos hall (letter_of (by omega))⟩) (by omega) ⟨rfl, rfl, trivial⟩ (by (repeat' constructor)) (by ((repeat (apply Have.cons; (repeat (first | exact Pick.here | apply Pick.there)))); apply Have.base; repeat' constructor))
     ·refine G.condF rfl (G.seq (G.region (G.q (Quiet.move rfl) rfl (G.q (Quiet.int rfl rfl rfl) rfl (G.q (Quiet.move rfl) rfl ?_)))))
      refine G.dec (t := 25) rfl (fun h7_25 => ?_) (fun h7_25 => ?_)
      ·refine G.kDT (t := 24) rfl h7_25 (G.grun (t := 25) rfl rfl rfl (G.q (Quiet.move rfl) rfl (G.grun (t := 25) rfl rfl rfl (G.q (Quiet.int rfl rfl rfl) rfl (G.q (Quiet.pickT rfl rfl) rfl (G.q (Quiet.assign rfl) rfl (G.nil (G.then_n ?_))))))))
       refine G.dec (t := 10) rfl (fun h10 => ?_) (fun h10 => ?_)
       ·refine G.condT rfl (G.skip (G.then_n (G.condT rfl (G.skip (G.blk_n (G.blk_n (G.then_n ?_)))))))
        exact G.roundK (pos + 1) (⟨by omega, all_next hpos hall (letter_of (by omega))⟩) (by omega) ⟨rfl, rfl, trivial⟩ (by (repeat' constructor)) (by ((repeat (apply Have.cons; (repeat (first | exact Pick.here | apply Pick.there)))); apply Have.base; repeat' constructor))
       ·refine G.condF rfl (G.seq (G.region (G.q (Quiet.move rfl) rfl (G.q (Quiet.int rfl rfl rfl) rfl (G.q (Quiet.assign rfl) rfl (G.nil (G.then_n ?_)))))))
        refine G.dec (t := 10) rfl (fun h10 => ?_) (fun h10 => ?_)
        ·refine G.condT rfl (G.skip (G.then_n (G.condT rfl (G.skip (G.blk_n (G.blk_n (G.then_n ?_)))))))
         exact G.roundK (pos + 1) (⟨by omega, all_next hpos hall (letter_of (by omega))⟩) (by omega) ⟨rfl, rfl, trivial⟩ (by (repeat' constructor)) (by ((repeat (apply Have.cons; (repeat (first | exact Pick.here | apply Pick.there)))); apply Have.base; repeat' constructor))
        ·refine G.condF rfl (G.seq (G.region (G.q (Quiet.move rfl) rfl (G.q (Quiet.int rfl rfl rfl) rfl (G.q (Quiet.assign rfl) rfl (G.nil (G.then_n ?_)))))))
         refine G.dec (t := 10) rfl (fun h10 => ?_) (fun h10 => ?_)
         ·refine G.condT rfl (G.skip (G.then_n (G.condT rfl (G.skip (G.blk_n (G.blk_n (G.then_n ?_)))))))
          exact G.roundK (pos + 1) (⟨by omega, all_next hpos hall (letter_of (by omega))⟩) (by omega) ⟨rfl, rfl, trivial⟩ (by (repeat' constructor)) (by ((repeat (apply Have.cons; (repeat (first | exact Pick.here | apply Pick.there)))); apply Have.base; repeat' constructor))
         ·refine G.condF rfl (G.region (G.q (Quiet.move rfl) rfl (G.q (Quiet.int rfl rfl rfl) rfl (G.q (Quiet.assign rfl) rfl (G.nil (G.then_n ?_))))))
          refine G.dec (t := 10) rfl (fun h10 => ?_) (fun h10 => ?_)
          ·refine G.condT rfl (G.skip (G.blk_n (G.blk_n (G.then_n ?_))))
           exact G.roundK (pos + 1) (⟨by omega, all_next hpos hall (letter_of (by omega))⟩) (by omega) ⟨rfl, rfl, trivial⟩ (by (repeat' constructor)) (by ((repeat (apply Have.cons; (repeat (first | exact Pick.here | apply Pick.there)))); apply Have.base; repeat' constructor))
          ·refine G.condF rfl (G.seq (G.region (G.q (Quiet.assign rfl) rfl (G.nil (G.then_n (G.ret (G.blk_r (G.blk_r (G.then_r (G.blk_r (G.then_r ?_)))))))))))
           have hz : isNameZ s = false := name_bad hpos (letter_not (by omega))
           rw [hz]
           exact G.done (l := [.tmp 2]) rfl rfl ⟨rfl, rfl⟩ (by (repeat' constructor)) (by (repeat' constructor))
      ·refine G.kDF (t := 24) rfl h7_25 (G.gskip (t := 25) rfl rfl rfl rfl (G.gskip (t := 25) rfl rfl rfl rfl (G.q (Quiet.pickF rfl rfl) rfl (G.q (Quiet.assign rfl) rfl (G.nil (G.then_n (G.condF rfl (G.seq (G.region (G.q (Quiet.move rfl) rfl (G.q (Quiet.int rfl rfl rfl) rfl (G.q (Quiet.assign rfl) rfl (G.nil (G.then_n ?_))))))))))))))
       refine G.dec (t := 10) rfl (fun h10 => ?_) (fun h10 => ?_)
       ·refine G.condT rfl (G.skip (G.then_n (G.condT rfl (G.skip (G.blk_n (G.blk_n (G.then_n ?_)))))))
        exact G.roundK (pos + 1) (⟨by omega, all_next hpos hall (letter_of (by omega))⟩) (by omega) ⟨rfl, rfl, trivial⟩ (by (repeat' constructor)) (by ((repeat (apply Have.cons; (repeat (first | exact Pick.here | apply Pick.there)))); apply Have.base; repeat' constructor))
       ·refine G.condF rfl (G.seq (G.region (G.q (Quiet.move rfl) rfl (G.q (Quiet.int rfl rfl rfl) rfl (G.q (Quiet.assign rfl) rfl (G.nil (G.then_n ?_)))))))
        refine G.dec (t := 10) rfl (fun h10 => ?_) (fun h10 => ?_)
        ·refine G.condT rfl (G.skip (G.then_n (G.condT rfl (G.skip (G.blk_n (G.blk_n (G.then_n ?_)))))))
         exact G.roundK (pos + 1) (⟨by omega, all_next hpos hall (letter_of (by omega))⟩) (by omega) ⟨rfl, rfl, trivial⟩ (by (repeat' constructor)) (by ((repeat (apply Have.cons; (repeat (first | exact Pick.here | apply Pick.there)))); apply Have.base; repeat' constructor))
        ·refine G.condF rfl (G.region (G.q (Quiet.move rfl) rfl (G.q (Quiet.int rfl rfl rfl) rfl (G.q (Quiet.assign rfl) rfl (G.nil (G.then_n ?_))))))
         refine G.dec (t := 10) rfl (fun h10 => ?_) (fun h10 => ?_)
         ·refine G.condT rfl (G.skip (G.blk_n (G.blk_n (G.then_n ?_))))
          exact G.roundK (pos + 1) (⟨by omega, all_next hpos hall (letter_of (by omega))⟩) (by omega) ⟨rfl, rfl, trivial⟩ (by (repeat' constructor)) (by ((repeat (apply Have.cons; (repeat (first | exact Pick.here | apply Pick.there)))); apply Have.base; repeat' constructor))
         ·refine G.condF rfl (G.seq (G.region (G.q (Quiet.assign rfl) rfl (G.nil (G.then_n (G.ret (G.blk_r (G.blk_r (G.then_r (G.blk_r (G.then_r ?_)))))))))))
          have hz : isNameZ s = false := name_bad hpos (letter_not (by omega))
          rw [hz]
          exact G.done (l := [.tmp 2]) rfl rfl ⟨rfl, rfl⟩ (by (repeat' constructor)) (by (repeat' constructor))
    ·refine G.kDF (t := 18) rfl h6_19 (G.gskip (t := 19) rfl rfl rfl rfl (G.gskip (t := 19) rfl rfl rfl rfl (G.q (Quiet.pickF rfl rfl) rfl (G.q (Quiet.assign rfl) rfl (G.nil (G.then_n (G.condF rfl (G.seq (G.region (G.q (Quiet.move rfl) rfl (G.q (Quiet.int rfl rfl rfl) rfl (G.q (Quiet.move rfl) rfl ?_))))))))))))
     refine G.dec (t := 25) rfl (fun h7_25 => ?_) (fun h7_25 => ?_)
     ·refine G.kDT (t := 24) rfl h7_25 (G.grun (t := 25) rfl rfl rfl (G.q (Quiet.move rfl) rfl (G.grun (t := 25) rfl rfl rfl (G.q (Quiet.int rfl rfl rfl) rfl (G.q (Quiet.pickT rfl rfl) rfl (G.q (Quiet.assign rfl) rfl (G.nil (G.then_n ?_))))))))
      refine G.dec (t := 10) rfl (fun h10 => ?_) (fun h10 => ?_)
      ·refine G.condT rfl (G.skip (G.then_n (G.condT rfl (G.skip (G.blk_n (G.blk_n (G.then_n ?_)))))))
       exact G.roundK (pos + 1) (⟨by omega, all_next hpos hall (letter_of (by omega))⟩) (by omega) ⟨rfl, rfl, trivial⟩ (by (repeat' constructor)) (by ((repeat (apply Have.cons; (repeat (first | exact Pick.here | apply Pick.there)))); apply Have.base; repeat' constructor))
      ·refine G.condF rfl (G.seq (G.region (G.q (Quiet.move rfl) rfl (G.q (Quiet.int rfl rfl rfl) rfl (G.q (Quiet.assign rfl) rfl (G.nil (G.then_n ?_)))))))
       refine G.dec (t := 10) rfl (fun h10 => ?_) (fun h10 => ?_)
       ·refine G.condT rfl (G.skip (G.then_n (G.condT rfl (G.skip (G.blk_n (G.blk_n (G.then_n ?_)))))))
        exact G.roundK (pos + 1) (⟨by omega, all_next hpos hall (letter_of (by omega))⟩) (by omega) ⟨rfl, rfl, trivial⟩ (by (repeat' constructor)) (by ((repeat (apply Have.cons; (repeat (first | exact Pick.here | apply Pick.there)))); apply Have.base; repeat' constructor))
       ·refine G.condF rfl (G.seq (G.region (G.q (Quiet.move rfl) rfl (G.q (Quiet.int rfl rfl rfl) rfl (G.q (Quiet.assign rfl) rfl (G.nil (G.then_n ?_)))))))
        refine G.dec (t := 10) rfl (fun h10 => ?_) (fun h10 => ?_)
        ·refine G.condT rfl (G.skip (G.then_n (G.condT rfl (G.skip (G.blk_n (G.blk_n (G.then_n ?_)))))))
         exact G.roundK (pos + 1) (⟨by omega, all_next hpos hall (letter_of (by omega))⟩) (by omega) ⟨rfl, rfl, trivial⟩ (by (repeat' constructor)) (by ((repeat (apply Have.cons; (repeat (first | exact Pick.here | apply Pick.there)))); apply Have.base; repeat' constructor))
        ·refine G.condF rfl (G.region (G.q (Quiet.move rfl) rfl (G.q (Quiet.int rfl rfl rfl) rfl (G.q (Quiet.assign rfl) rfl (G.nil (G.then_n ?_))))))
         refine G.dec (t := 10) rfl (fun h10 => ?_) (fun h10 => ?_)
         ·refine G.condT rfl (G.skip (G.blk_n (G.blk_n (G.then_n ?_))))
          exact G.roundK (pos + 1) (⟨by omega, all_next hpos hall (letter_of (by omega))⟩) (by omega) ⟨rfl, rfl, trivial⟩ (by (repeat' constructor)) (by ((repeat (apply Have.cons; (repeat (first | exact Pick.here | apply Pick.there)))); apply Have.base; repeat' constructor))
         ·refine G.condF rfl (G.seq (G.region (G.q (Quiet.assign rfl) rfl (G.nil (G.then_n (G.ret (G.blk_r (G.blk_r (G.then_r (G.blk_r (G.then_r ?_)))))))))))
          have hz : isNameZ s = false := name_bad hpos (letter_not (by omega))
          rw [hz]
          exact G.done (l := [.tmp 2]) rfl rfl ⟨rfl, rfl⟩ (by (repeat' constructor)) (by (repeat' constructor))
     ·refine G.kDF (t := 24) rfl h7_25 (G.gskip (t := 25) rfl rfl rfl rfl (G.gskip (t := 25) rfl rfl rfl rfl (G.q (Quiet.pickF rfl rfl) rfl (G.q (Quiet.assign rfl) rfl (G.nil (G.then_n (G.condF rfl (G.seq (G.region (G.q (Quiet.move rfl) rfl (G.q (Quiet.int rfl rfl rfl) rfl (G.q (Quiet.assign rfl) rfl (G.nil (G.then_n ?_))))))))))))))
      refine G.dec (t := 10) rfl (fun h10 => ?_) (fun h10 => ?_)
      ·refine G.condT rfl (G.skip (G.then_n (G.condT rfl (G.skip (G.blk_n (G.blk_n (G.then_n ?_)))))))
       exact G.roundK (pos + 1) (⟨by omega, all_next hpos hall (letter_of (by omega))⟩) (by omega) ⟨rfl, rfl, trivial⟩ (by (repeat' constructor)) (by ((repeat (apply Have.cons; (repeat (first | exact Pick.here | apply Pick.there)))); apply Have.base; repeat' constructor))
      ·refine G.condF rfl (G.seq (G.region (G.q (Quiet.move rfl) rfl (G.q (Quiet.int rfl rfl rfl) rfl (G.q (Quiet.assign rfl) rfl (G.nil (G.then_n ?_)))))))
       refine G.dec (t := 10) rfl (fun h10 => ?_) (fun h10 => ?_)
       ·refine G.condT rfl (G.skip (G.then_n (G.condT rfl (G.skip (G.blk_n (G.blk_n (G.then_n ?_)))))))
        exact G.roundK (pos + 1) (⟨by omega, all_next hpos hall (letter_of (by omega))⟩) (by omega) ⟨rfl, rfl, trivial⟩ (by (repeat' constructor)) (by ((repeat (apply Have.cons; (repeat (first | exact Pick.here | apply Pick.there)))); apply Have.base; repeat' constructor))
       ·refine G.condF rfl (G.region (G.q (Quiet.move rfl) rfl (G.q (Quiet.int rfl rfl rfl) rfl (G.q (Quiet.assign rfl) rfl (G.nil (G.then_n ?_))))))
        refine G.dec (t := 10) rfl (fun h10 => ?_) (fun h10 => ?_)
        ·refine G.condT rfl (G.skip (G.blk_n (G.blk_n (G.then_n ?_))))
         exact G.roundK (pos + 1) (⟨by omega, all_next hpos hall (letter_of (by omega))⟩) (by omega) ⟨rfl, rfl, trivial⟩ (by (repeat' constructor)) (by ((repeat (apply Have.cons; (repeat (first | exact Pick.here | apply Pick.there)))); apply Have.base; repeat' constructor))
        ·refine G.condF rfl (G.seq (G.region (G.q (Quiet.assign rfl) rfl (G.nil (G.then_n (G.ret (G.blk_r (G.blk_r (G.then_r (G.blk_r (G.then_r ?_)))))))))))
         have hz : isNameZ s = false := name_bad hpos (letter_not (by omega))
         rw [hz]
         exact G.done (l := [.tmp 2]) rfl rfl ⟨rfl, rfl⟩ (by (repeat' constructor)) (by (repeat' constructor))
  ·obtain ⟨hd1, hd2⟩ := decode_high hpos (by omega)
   generalize Utf8.decode (bs s) pos = dc at *
   refine G.q (Quiet.extract rfl rfl) rfl (G.q (Quiet.assign rfl) rfl (G.nil (G.then_n (G.block (G.seq (G.seq (G.region (G.q (Quiet.move rfl) rfl (G.q (Quiet.int rfl rfl rfl) rfl (G.q (Quiet.move rfl) rfl ?_))))))))))
   refine G.dec (t := 13) rfl (fun h5_13 => ?_) (fun h5_13 => ?_)
   ·refine G.kDT (t := 12) rfl h5_13 (G.grun (t := 13) rfl rfl rfl (G.q (Quiet.move rfl) rfl (G.grun (t := 13) rfl rfl rfl (G.q (Quiet.int rfl rfl rfl) rfl (G.q (Quiet.pickT rfl rfl) rfl (G.q (Quiet.assign rfl) rfl (G.nil (G.then_n ?_))))))))
    refine G.dec (t := 10) rfl (fun h10 => ?_) (fun h10 => ?_)
    ·exfalso; omega
    ·refine G.condF rfl (G.seq (G.region (G.q (Quiet.move rfl) rfl (G.q (Quiet.int rfl rfl rfl) rfl (G.q (Quiet.move rfl) rfl ?_)))))
     refine G.dec (t := 19) rfl (fun h6_19 => ?_) (fun h6_19 => ?_)
     ·refine G.kDT (t := 18) rfl h6_19 (G.grun (t := 19) rfl rfl rfl (G.q (Quiet.move rfl) rfl (G.grun (t := 19) rfl rfl rfl (G.q (Quiet.int rfl rfl rfl) rfl (G.q (Quiet.pickT rfl rfl) rfl (G.q (Quiet.assign rfl) rfl (G.nil (G.then_n ?_))))))))
      refine G.dec (t := 10) rfl (fun h10 => ?_) (fun h10 => ?_)
      ·exfalso; omega
      ·refine G.condF rfl (G.seq (G.region (G.q (Quiet.move rfl) rfl (G.q (Quiet.int rfl rfl rfl) rfl (G.q (Quiet.move rfl) rfl ?_)))))
       refine G.dec (t := 25) rfl (fun h7_25 => ?_) (fun h7_25 => ?_)
       ·refine G.kDT (t := 24) rfl h7_25 (G.grun (t := 25) rfl rfl rfl (G.q (Quiet.move rfl) rfl (G.grun (t := 25) rfl rfl rfl (G.q (Quiet.int rfl rfl rfl) rfl (G.q (Quiet.pickT rfl rfl) rfl (G.q (Quiet.assign rfl) rfl (G.nil (G.then_n ?_))))))))
        refine G.dec (t := 10) rfl (fun h10 => ?_) (fun h10 => ?_)
        ·exfalso; omega
        ·refine G.condF rfl (G.seq (G.region (G.q (Quiet.move rfl) rfl (G.q (Quiet.int rfl rfl rfl) rfl (G.q (Quiet.assign rfl) rfl (G.nil (G.then_n ?_)))))))
         refine G.dec (t := 10) rfl (fun h10 => ?_) (fun h10 => ?_)
         ·exfalso; omega
         ·refine G.condF rfl (G.seq (G.region (G.q (Quiet.move rfl) rfl (G.q (Quiet.int rfl rfl rfl) rfl (G.q (Quiet.assign rfl) rfl (G.nil (G.then_n ?_)))))))
          refine G.dec (t := 10) rfl (fun h10 => ?_) (fun h10 => ?_)
          ·exfalso; omega
          ·refine G.condF rfl (G.region (G.q (Quiet.move rfl) rfl (G.q (Quiet.int rfl rfl rfl) rfl (G.q (Quiet.assign rfl) rfl (G.nil (G.then_n ?_))))))
           refine G.dec (t := 10) rfl (fun h10 => ?_) (fun h10 => ?_)
           ·exfalso; omega
           ·refine G.condF rfl (G.seq (G.region (G.q (Quiet.assign rfl) rfl (G.nil (G.then_n (G.ret (G.blk_r (G.blk_r (G.then_r (G.blk_r (G.then_r ?_)))))))))))
            have hz : isNameZ s = false := name_bad hpos (letter_not (by omega))
            rw [hz]
            exact G.done (l := [.tmp 2]) rfl rfl ⟨rfl, rfl⟩ (by (repeat' constructor)) (by (repeat' constructor))
       ·refine G.kDF (t := 24) rfl h7_25 (G.gskip (t := 25) rfl rfl rfl rfl (G.gskip (t := 25) rfl rfl rfl rfl (G.q (Quiet.pickF rfl rfl) rfl (G.q (Quiet.assign rfl) rfl (G.nil (G.then_n (G.condF rfl (G.seq (G.region (G.q (Quiet.move rfl) rfl (G.q (Quiet.int rfl rfl rfl) rfl (G.q (Quiet.assign rfl) rfl (G.nil (G.then_n ?_))))))))))))))
        refine G.dec (t := 10) rfl (fun h10 => ?_) (fun h10 => ?_)
        ·exfalso; omega
        ·refine G.condF rfl (G.seq (G.region (G.q (Quiet.move rfl) rfl (G.q (Quiet.int rfl rfl rfl) rfl (G.q (Quiet.assign rfl) rfl (G.nil (G.then_n ?_)))))))
         refine G.dec (t := 10) rfl (fun h10 => ?_) (fun h10 => ?_)
         ·exfalso; omega
         ·refine G.condF rfl (G.region (G.q (Quiet.move rfl) rfl (G.q (Quiet.int rfl rfl rfl) rfl (G.q (Quiet.assign rfl) rfl (G.nil (G.then_n ?_))))))
          refine G.dec (t := 10) rfl (fun h10 => ?_) (fun h10 => ?_)
          ·exfalso; omega
          ·refine G.condF rfl (G.seq (G.region (G.q (Quiet.assign rfl) rfl (G.nil (G.then_n (G.ret (G.blk_r (G.blk_r (G.then_r (G.blk_r (G.then_r ?_)))))))))))
           have hz : isNameZ s = false := name_bad hpos (letter_not (by omega))
           rw [hz]
           exact G.done (l := [.tmp 2]) rfl rfl ⟨rfl, rfl⟩ (by (repeat' constructor)) (by (repeat' constructor))
     ·refine G.kDF (t := 18) rfl h6_19 (G.gskip (t := 19) rfl rfl rfl rfl (G.gskip (t := 19) rfl rfl rfl rfl (G.q (Quiet.pickF rfl rfl) rfl (G.q (Quiet.assign rfl) rfl (G.nil (G.then_n (G.condF rfl (G.seq (G.region (G.q (Quiet.move rfl) rfl (G.q (Quiet.int rfl rfl rfl) rfl (G.q (Quiet.move rfl) rfl ?_))))))))))))
      refine G.dec (t := 25) rfl (fun h7_25 => ?_) (fun h7_25 => ?_)
      ·refine G.kDT (t := 24) rfl h7_25 (G.grun (t := 25) rfl rfl rfl (G.q (Quiet.move rfl) rfl (G.grun (t := 25) rfl rfl rfl (G.q (Quiet.int rfl rfl rfl) rfl (G.q (Quiet.pickT rfl rfl) rfl (G.q (Quiet.assign rfl) rfl (G.nil (G.then_n ?_))))))))
       refine G.dec (t := 10) rfl (fun h10 => ?_) (fun h10 => ?_)
       ·exfalso; omega
       ·refine G.condF rfl (G.seq (G.region (G.q (Quiet.move rfl) rfl (G.q (Quiet.int rfl rfl rfl) rfl (G.q (Quiet.assign rfl) rfl (G.nil (G.then_n ?_)))))))
        refine G.dec (t := 10) rfl (fun h10 => ?_) (fun h10 => ?_)
        ·exfalso; omega
        ·refine G.condF rfl (G.seq (G.region (G.q (Quiet.move rfl) rfl (G.q (Quiet.int rfl rfl rfl) rfl (G.q (Quiet.assign rfl) rfl (G.nil (G.then_n ?_)))))))
         refine G.dec (t := 10) rfl (fun h10 => ?_) (fun h10 => ?_)
         ·exfalso; omega
         ·refine G.condF rfl (G.region (G.q (Quiet.move rfl) rfl (G.q (Quiet.int rfl rfl rfl) rfl (G.q (Quiet.assign rfl) rfl (G.nil (G.then_n ?_))))))
          refine G.dec (t := 10) rfl (fun h10 => ?_) (fun h10 => ?_)
          ·exfalso; omega
          ·refine G.condF rfl (G.seq (G.region (G.q (Quiet.assign rfl) rfl (G.nil (G.then_n (G.ret (G.blk_r (G.blk_r (G.then_r (G.blk_r (G.then_r ?_)))))))))))
           have hz : isNameZ s = false := name_bad hpos (letter_not (by omega))
           rw [hz]
           exact G.done (l := [.tmp 2]) rfl rfl ⟨rfl, rfl⟩ (by (repeat' constructor)) (by (repeat' constructor))
      ·refine G.kDF (t := 24) rfl h7_25 (G.gskip (t := 25) rfl rfl rfl rfl (G.gskip (t := 25) rfl rfl rfl rfl (G.q (Quiet.pickF rfl rfl) rfl (G.q (Quiet.assign rfl) rfl (G.nil (G.then_n (G.condF rfl (G.seq (G.region (G.q (Quiet.move rfl) rfl (G.q (Quiet.int rfl rfl rfl) rfl (G.q (Quiet.assign rfl) rfl (G.nil (G.then_n ?_))))))))))))))
       refine G.dec (t := 10) rfl (fun h10 => ?_) (fun h10 => ?_)
       ·exfalso; omega
       ·refine G.condF rfl (G.seq (G.region (G.q (Quiet.move rfl) rfl (G.q (Quiet.int rfl rfl rfl) rfl (G.q (Quiet.assign rfl) rfl (G.nil (G.then_n ?_)))))))
        refine G.dec (t := 10) rfl (fun h10 => ?_) (fun h10 => ?_)
        ·exfalso; omega
        ·refine G.condF rfl (G.region (G.q (Quiet.move rfl) rfl (G.q (Quiet.int rfl rfl rfl) rfl (G.q (Quiet.assign rfl) rfl (G.nil (G.then_n ?_))))))
         refine G.dec (t := 10) rfl (fun h10 => ?_) (fun h10 => ?_)
         ·exfalso; omega
         ·refine G.condF rfl (G.seq (G.region (G.q (Quiet.assign rfl) rfl (G.nil (G.then_n (G.ret (G.blk_r (G.blk_r (G.then_r (G.blk_r (G.then_r ?_)))))))))))
          have hz : isNameZ s = false := name_bad hpos (letter_not (by omega))
          rw [hz]
          exact G.done (l := [.tmp 2]) rfl rfl ⟨rfl, rfl⟩ (by (repeat' constructor)) (by (repeat' constructor))
   ·refine G.kDF (t := 12) rfl h5_13 (G.gskip (t := 13) rfl rfl rfl rfl (G.gskip (t := 13) rfl rfl rfl rfl (G.q (Quiet.pickF rfl rfl) rfl (G.q (Quiet.assign rfl) rfl (G.nil (G.then_n (G.condF rfl (G.seq (G.region (G.q (Quiet.move rfl) rfl (G.q (Quiet.int rfl rfl rfl) rfl (G.q (Quiet.move rfl) rfl ?_))))))))))))
    refine G.dec (t := 19) rfl (fun h6_19 => ?_) (fun h6_19 => ?_)
    ·refine G.kDT (t := 18) rfl h6_19 (G.grun (t := 19) rfl rfl rfl (G.q (Quiet.move rfl) rfl (G.grun (t := 19) rfl rfl rfl (G.q (Quiet.int rfl rfl rfl) rfl (G.q (Quiet.pickT rfl rfl) rfl (G.q (Quiet.assign rfl) rfl (G.nil (G.then_n ?_))))))))
     refine G.dec (t := 10) rfl (fun h10 => ?_) (fun h10 => ?_)
     ·exfalso; omega
     ·refine G.condF rfl (G.seq (G.region (G.q (Quiet.move rfl) rfl (G.q (Quiet.int rfl rfl rfl) rfl (G.q (Quiet.move rfl) rfl ?_)))))
      refine G.dec (t := 25) rfl (fun h7_25 => ?_) (fun h7_25 => ?_)
      ·refine G.kDT (t := 24) rfl h7_25 (G.grun (t := 25) rfl rfl rfl (G.q (Quiet.move rfl) rfl (G.grun (t := 25) rfl rfl rfl (G.q (Quiet.int rfl rfl rfl) rfl (G.q (Quiet.pickT rfl rfl) rfl (G.q (Quiet.assign rfl) rfl (G.nil (G.then_n ?_))))))))
       refine G.dec (t := 10) rfl (fun h10 => ?_) (fun h10 => ?_)
       ·exfalso; omega
       ·refine G.condF rfl (G.seq (G.region (G.q (Quiet.move rfl) rfl (G.q (Quiet.int rfl rfl rfl) rfl (G.q (Quiet.assign rfl) rfl (G.nil (G.then_n ?_)))))))
        refine G.dec (t := 10) rfl (fun h10 => ?_) (fun h10 => ?_)
        ·exfalso; omega
        ·refine G.condF rfl (G.seq (G.region (G.q (Quiet.move rfl) rfl (G.q (Quiet.int rfl rfl rfl) rfl (G.q (Quiet.assign rfl) rfl (G.nil (G.then_n ?_)))))))
         refine G.dec (t := 10) rfl (fun h10 => ?_) (fun h10 => ?_)
         ·exfalso; omega
         ·refine G.condF rfl (G.region (G.q (Quiet.move rfl) rfl (G.q (Quiet.int rfl rfl rfl) rfl (G.q (Quiet.assign rfl) rfl (G.nil (G.then_n ?_))))))
          refine G.dec (t := 10) rfl (fun h10 => ?_) (fun h10 => ?_)
          ·exfalso; omega
          ·refine G.condF rfl (G.seq (G.region (G.q (Quiet.assign rfl) rfl (G.nil (G.then_n (G.ret (G.blk_r (G.blk_r (G.then_r (G.blk_r (G.then_r ?_)))))))))))
           have hz : isNameZ s = false := name_bad hpos (letter_not (by omega))
           rw [hz]
           exact G.done (l := [.tmp 2]) rfl rfl ⟨rfl, rfl⟩ (by (repeat' constructor)) (by (repeat' constructor))
      ·refine G.kDF (t := 24) rfl h7_25 (G.gskip (t := 25) rfl rfl rfl rfl (G.gskip (t := 25) rfl rfl rfl rfl (G.q (Quiet.pickF rfl rfl) rfl (G.q (Quiet.assign rfl) rfl (G.nil (G.then_n (G.condF rfl (G.seq (G.region (G.q (Quiet.move rfl) rfl (G.q (Quiet.int rfl rfl rfl) rfl (G.q (Quiet.assign rfl) rfl (G.nil (G.then_n ?_))))))))))))))
       refine G.dec (t := 10) rfl (fun h10 => ?_) (fun h10 => ?_)
       ·exfalso; omega
       ·refine G.condF rfl (G.seq (G.region (G.q (Quiet.move rfl) rfl (G.q (Quiet.int rfl rfl rfl) rfl (G.q (Quiet.assign rfl) rfl (G.nil (G.then_n ?_)))))))
        refine G.dec (t := 10) rfl (fun h10 => ?_) (fun h10 => ?_)
        ·exfalso; omega
        ·refine G.condF rfl (G.region (G.q (Quiet.move rfl) rfl (G.q (Quiet.int rfl rfl rfl) rfl (G.q (Quiet.assign rfl) rfl (G.nil (G.then_n ?_))))))
         refine G.dec (t := 10) rfl (fun h10 => ?_) (fun h10 => ?_)
         ·exfalso; omega
         ·refine G.condF rfl (G.seq (G.region (G.q (Quiet.assign rfl) rfl (G.nil (G.then_n (G.ret (G.blk_r (G.blk_r (G.then_r (G.blk_r (G.then_r ?_)))))))))))
          have hz : isNameZ s = false := name_bad hpos (letter_not (by omega))
          rw [hz]
          exact G.done (l := [.tmp 2]) rfl rfl ⟨rfl, rfl⟩ (by (repeat' constructor)) (by (repeat' constructor))
    ·refine G.kDF (t := 18) rfl h6_19 (G.gskip (t := 19) rfl rfl rfl rfl (G.gskip (t := 19) rfl rfl rfl rfl (G.q (Quiet.pickF rfl rfl) rfl (G.q (Quiet.assign rfl) rfl (G.nil (G.then_n (G.condF rfl (G.seq (G.region (G.q (Quiet.move rfl) rfl (G.q (Quiet.int rfl rfl rfl) rfl (G.q (Quiet.move rfl) rfl ?_))))))))))))
     refine G.dec (t := 25) rfl (fun h7_25 => ?_) (fun h7_25 => ?_)
     ·refine G.kDT (t := 24) rfl h7_25 (G.grun (t := 25) rfl rfl rfl (G.q (Quiet.move rfl) rfl (G.grun (t := 25) rfl rfl rfl (G.q (Quiet.int rfl rfl rfl) rfl (G.q (Quiet.pickT rfl rfl) rfl (G.q (Quiet.assign rfl) rfl (G.nil (G.then_n ?_))))))))
      refine G.dec (t := 10) rfl (fun h10 => ?_) (fun h10 => ?_)
      ·exfalso; omega
      ·refine G.condF rfl (G.seq (G.region (G.q (Quiet.move rfl) rfl (G.q (Quiet.int rfl rfl rfl) rfl (G.q (Quiet.assign rfl) rfl (G.nil (G.then_n ?_)))))))
       refine G.dec (t := 10) rfl (fun h10 => ?_) (fun h10 => ?_)
       ·exfalso; omega
       ·refine G.condF rfl (G.seq (G.region (G.q (Quiet.move rfl) rfl (G.q (Quiet.int rfl rfl rfl) rfl (G.q (Quiet.assign rfl) rfl (G.nil (G.then_n ?_)))))))
        refine G.dec (t := 10) rfl (fun h10 => ?_) (fun h10 => ?_)
        ·exfalso; omega
        ·refine G.condF rfl (G.region (G.q (Quiet.move rfl) rfl (G.q (Quiet.int rfl rfl rfl) rfl (G.q (Quiet.assign rfl) rfl (G.nil (G.then_n ?_))))))
         refine G.dec (t := 10) rfl (fun h10 => ?_) (fun h10 => ?_)
         ·exfalso; omega
         ·refine G.condF rfl (G.seq (G.region (G.q (Quiet.assign rfl) rfl (G.nil (G.then_n (G.ret (G.blk_r (G.blk_r (G.then_r (G.blk_r (G.then_r ?_)))))))))))
          have hz : isNameZ s = false := name_bad hpos (letter_not (by omega))
          rw [hz]
          exact G.done (l := [.tmp 2]) rfl rfl ⟨rfl, rfl⟩ (by (repeat' constructor)) (by (repeat' constructor))
     ·refine G.kDF (t := 24) rfl h7_25 (G.gskip (t := 25) rfl rfl rfl rfl (G.gskip (t := 25) rfl rfl rfl rfl (G.q (Quiet.pickF rfl rfl) rfl (G.q (Quiet.assign rfl) rfl (G.nil (G.then_n (G.condF rfl (G.seq (G.region (G.q (Quiet.move rfl) rfl (G.q (Quiet.int rfl rfl rfl) rfl (G.q (Quiet.assign rfl) rfl (G.nil (G.then_n ?_))))))))))))))
      refine G.dec (t := 10) rfl (fun h10 => ?_) (fun h10 => ?_)
      ·exfalso; omega
      ·refine G.condF rfl (G.seq (G.region (G.q (Quiet.move rfl) rfl (G.q (Quiet.int rfl rfl rfl) rfl (G.q (Quiet.assign rfl) rfl (G.nil (G.then_n ?_)))))))
       refine G.dec (t := 10) rfl (fun h10 => ?_) (fun h10 => ?_)
       ·exfalso; omega
       ·refine G.condF rfl (G.region (G.q (Quiet.move rfl) rfl (G.q (Quiet.int rfl rfl rfl) rfl (G.q (Quiet.assign rfl) rfl (G.nil (G.then_n ?_))))))
        refine G.dec (t := 10) rfl (fun h10 => ?_) (fun h10 => ?_)
        ·exfalso; omega
        ·refine G.condF rfl (G.seq (G.region (G.q (Quiet.assign rfl) rfl (G.nil (G.then_n (G.ret (G.blk_r (G.blk_r (G.then_r (G.blk_r (G.then_r ?_)))))))))))
         have hz : isNameZ s = false := name_bad hpos (letter_not (by omega))
         rw [hz]
         exact G.done (l := [.tmp 2]) rfl rfl ⟨rfl, rfl⟩ (by (repeat' constructor)) (by (repeat' constructor))

theorem split_head {s : Bs} : ∃ h t, splitZ s = h :: t := by
  rcases h : splitZ s with _ | ⟨a, t⟩
  · exact absurd h (splitZ_ne s)
  · exact ⟨a, t, rfl⟩
set_option maxRecDepth 100000 in
theorem check_spec (s : Bs) (hs : s.length ≤ 1048576) : Fn Tryz.prog 110 #[vstr s] [] fun v L => v = vint (checkZ s) ∧ L = [] := by
 refine Fn.intro (vs := [vstr s]) Tryz.func110 rfl rfl ?_
 intro F W
 obtain ⟨hd, tl, hspl⟩ := split_head (s := s)
 have hspn := split_len s
 have hcl : s.count 47 ≤ s.length := List.count_le_length
 have hln : (splitZ s).length = tl.length + 1 := by rw [hspl]; rfl
 refine G.seq (G.region (G.q (Quiet.assign rfl) rfl (G.nil (G.then_n (G.seq (G.seq (G.region (G.q (Quiet.move rfl) rfl (G.q (Quiet.streq rfl rfl) rfl (G.nil (G.then_n ?_)))))))))))
 refine G.condD rfl (fun h7 => ?_) (fun h7 => ?_)
 ·refine G.seq (G.region (G.q (Quiet.assign rfl) rfl (G.nil (G.then_n (G.ret (G.then_r ?_))))))
  have e : checkZ s = 0 := by unfold checkZ; rw [if_pos h7]
  rw [e]
  exact G.done (l := [.tmp 2]) rfl rfl ⟨rfl, rfl⟩ (by (repeat' constructor)) (by (repeat' constructor))
 ·refine G.skip (G.then_n (G.seq (G.region (G.q (Quiet.move rfl) rfl ?_))))
  refine G.op (OpSpec.call Tryz.func129 rfl rfl (vs := [_, _]) rfl (split_spec _ ?hs6)) (by (repeat' constructor)) rfl ?nx7
  case hs6 => assumption
  rintro v L' ⟨bb, rfl, rfl⟩
  refine G.q (Quiet.assign rfl) rfl (G.nil (G.then_n (G.seq (G.seq (G.region (G.q (Quiet.move rfl) rfl ?_))))))
  refine G.q (Quiet.indexAddr rfl rfl el_40 (by omega)) rfl ?_
  refine G.q (Quiet.loadSl (v := vstr hd) (i := 0) rfl ag_9 (by (repeat' constructor)) (by rw [hspl]; rfl)) rfl ?_
  refine G.q (Quiet.strne rfl rfl) rfl (G.q (Quiet.move rfl) rfl ?_)
  refine G.ndec (t := 14) rfl (fun h4_14 => ?_) (fun h4_14 => ?_)
  ·refine G.kNT (t := 13) rfl h4_14 (G.gskip (t := 14) rfl rfl rfl rfl (G.gskip (t := 14) rfl rfl rfl rfl (G.gskip (t := 14) rfl rfl rfl rfl (G.q (Quiet.pickT rfl rfl) rfl (G.nil (G.then_n (G.condT rfl (G.seq (G.region (G.q (Quiet.assign rfl) rfl (G.nil (G.then_n (G.ret (G.then_r ?_))))))))))))))
   have e : checkZ s = 40 := by unfold checkZ; rw [if_neg h7, if_pos (by rw [hspl]; first | exact .inl (by simpa using h4_14) | exact .inr (.inl (by rw [← hspl]; omega)))]
   rw [e]
   exact G.done (l := [.tmp 2]) rfl rfl ⟨rfl, rfl⟩ (by (repeat' constructor)) (by (repeat' constructor))
  ·refine G.kNF (t := 13) rfl h4_14 (G.grun (t := 14) rfl rfl rfl (G.q (Quiet.move rfl) rfl (G.grun (t := 14) rfl rfl rfl (G.q (Quiet.slen rfl Tryz.underlying40 rfl) rfl (G.grun (t := 14) rfl rfl rfl (G.q (Quiet.int rfl rfl rfl) rfl (G.q (Quiet.pickF rfl rfl) rfl (G.nil (G.then_n ?_)))))))))
   refine G.condD rfl (fun h18 => ?_) (fun h18 => ?_)
   ·refine G.seq (G.region (G.q (Quiet.assign rfl) rfl (G.nil (G.then_n (G.ret (G.then_r ?_))))))
    have e : checkZ s = 40 := by unfold checkZ; rw [if_neg h7, if_pos (by rw [hspl]; first | exact .inl (by simpa using h4_14) | exact .inr (.inl (by rw [← hspl]; omega)))]
    rw [e]
    exact G.done (l := [.tmp 2]) rfl rfl ⟨rfl, rfl⟩ (by (repeat' constructor)) (by (repeat' constructor))
   ·refine G.skip (G.then_n (G.seq (G.seq ?_)))
    have hh0 : hd = [] := by simpa using h4_14
    have hn1 : (splitZ s).length ≠ 1 := by omega
    refine G.region (G.q (Quiet.move rfl) rfl ?_)
    refine G.q (Quiet.to (v' := .slice (some ⟨bb, 1, none⟩) tl.length tl.length) (Quiet.slSlice (i := 1) (j := ((splitZ s).length : Int)) rfl el_40 rfl rfl (by omega)) (by rw [hln, if_neg (show ¬ tl.length + 1 = (1 : Int).toNat by rw [show (1 : Int).toNat = 1 from rfl]; omega)]; simp)) rfl ?_
    refine G.q (Quiet.slen rfl Tryz.underlying40 rfl) rfl (G.q (Quiet.move rfl) rfl (G.nil (G.then_n (G.block ?_))))
    refine G.loopK (ι := Nat) (fun q E => (22, vint q) :: E) (fun q => []) (fun q => q ≤ tl.length ∧ (tl.take q).all isNameZ = true) (fun q => tl.length - q) (0) (ts := [0, 3, 20, 21]) (.cons rfl (.cons rfl (.cons rfl (.cons rfl (.nil))))) (⟨Nat.zero_le _, rfl⟩) ⟨rfl, rfl, rfl, rfl, rfl, trivial⟩ (by (repeat' constructor)) ?_
    rintro i ⟨hi, hall⟩
    refine G.seq (G.region (G.q (Quiet.int rfl rfl rfl) rfl (G.nil (G.then_n (G.seq ?_)))))
    refine G.condD rfl (fun h23 => ?_) (fun h23 => ?_)
    ·have hi2 : i < tl.length := by omega
     have hname0 := rfl (a := isNameZ tl[i])
     refine G.skip (G.then_n (G.seq (G.block (G.seq (G.region ?_)))))
     refine G.q (Quiet.indexAddr rfl rfl el_40 (by omega)) rfl ?_
     refine G.q (Quiet.loadRd (sz := 1) (j := i + 1) (p := slR 9 1 (.slice (some ⟨bb, 0, none⟩) (splitZ s).length (splitZ s).length) (splitZ s).length (strs (splitZ s))) (v := vstr tl[i]) rfl ag_9 (by (repeat' constructor)) (fun h hp => slR_rd hp) (by simp; omega) (by rw [hspl]; simp [hi2])) rfl ?_
     refine G.q (Quiet.assign rfl) rfl (G.nil (G.then_n (G.seq (G.region (G.q (Quiet.move rfl) rfl ?_)))))
     refine G.op (OpSpec.call Tryz.func130 rfl rfl (vs := [_]) rfl (isname_spec _)) (by (repeat' constructor)) rfl ?nx23
     rintro v L' ⟨rfl, rfl⟩
     refine G.q (Quiet.not rfl) rfl (G.nil (G.then_n ?_))
     refine G.condB rfl (fun h28 => ?_) (fun h28 => ?_)
     ·have hname : isNameZ tl[i] = false := by simpa using h28
      refine G.seq (G.region (G.q (Quiet.assign rfl) rfl (G.nil (G.then_n (G.ret (G.blk_r (G.then_r (G.then_r (G.blk_r (G.then_r ?_))))))))))
      have e : checkZ s = 40 := by unfold checkZ; rw [if_neg h7, if_pos (.inr (.inr (by rw [hspl, List.tail_cons, ← Bool.not_eq_true]; intro g; have := List.all_eq_true.1 g _ (List.getElem_mem hi2); rw [hname] at this; cases this)))]
      rw [e]
      exact G.done (l := [.tmp 2]) rfl rfl ⟨rfl, rfl⟩ (by (repeat' constructor)) (by (repeat' constructor))
     ·have hname : isNameZ tl[i] = true := by simpa using h28
      refine G.skip (G.blk_n (G.then_n (G.region ?_)))
      refine G.q (Quiet.add rfl rfl (by omega)) rfl ?_
      refine G.q (Quiet.move rfl) rfl (G.nil (G.then_n ?_))
      exact G.roundK (i + 1) (⟨by omega, by rw [List.take_succ_eq_append_getElem hi2, List.all_append, hall]; simp [hname]⟩) (by omega) ⟨rfl, rfl, rfl, rfl, rfl, trivial⟩ (by (repeat' constructor)) (by ((repeat (apply Have.cons; (repeat (first | exact Pick.here | apply Pick.there)))); apply Have.base; repeat' constructor))
    ·have hii : i = tl.length := by omega
     rw [hii, List.take_length] at hall
     refine G.exit (G.then_e (G.then_e (G.blk_e (G.then_n (G.seq (G.seq (G.region (G.q (Quiet.move rfl) rfl (G.q (Quiet.strlen rfl Tryz.underlying9 rfl) rfl (G.q (Quiet.int rfl rfl rfl) rfl (G.q (Quiet.move rfl) rfl ?_)))))))))))
     refine G.dec (t := 33) rfl (fun h12_33 => ?_) (fun h12_33 => ?_)
     ·refine G.kDT (t := 32) rfl h12_33 (G.gskip (t := 33) rfl rfl rfl rfl (G.gskip (t := 33) rfl rfl rfl rfl (G.gskip (t := 33) rfl rfl rfl rfl (G.gskip (t := 33) rfl rfl rfl rfl (G.q (Quiet.pickT rfl rfl) rfl (G.nil (G.then_n (G.condT rfl (G.seq (G.region (G.q (Quiet.assign rfl) rfl (G.nil (G.then_n (G.ret (G.then_r ?_)))))))))))))))
      have e : checkZ s = 41 := by unfold checkZ; rw [if_neg h7, if_neg (by rw [hspl, List.head?_cons, List.tail_cons, hall, hh0]; rintro (h | h | h); exact h rfl; rw [← hh0, ← hspl] at h; exact hn1 h; cases h), if_pos (by first | exact .inl (by omega) | exact .inr (by omega))]
      rw [e]
      exact G.done (l := [.tmp 2]) rfl rfl ⟨rfl, rfl⟩ (by (repeat' constructor)) (by (repeat' constructor))
     ·refine G.kDF (t := 32) rfl h12_33 (G.grun (t := 33) rfl rfl rfl (G.q (Quiet.move rfl) rfl (G.grun (t := 33) rfl rfl rfl (G.q (Quiet.slen rfl Tryz.underlying40 rfl) rfl (G.grun (t := 33) rfl rfl rfl ?_)))))
      refine G.q (Quiet.sub rfl rfl (by omega)) rfl ?_
      refine G.grun (t := 33) rfl rfl rfl (G.q (Quiet.int rfl rfl rfl) rfl (G.q (Quiet.pickF rfl rfl) rfl (G.nil (G.then_n ?_))))
      refine G.condD rfl (fun h38 => ?_) (fun h38 => ?_)
      ·refine G.seq (G.region (G.q (Quiet.assign rfl) rfl (G.nil (G.then_n (G.ret (G.then_r ?_))))))
       have e : checkZ s = 41 := by unfold checkZ; rw [if_neg h7, if_neg (by rw [hspl, List.head?_cons, List.tail_cons, hall, hh0]; rintro (h | h | h); exact h rfl; rw [← hh0, ← hspl] at h; exact hn1 h; cases h), if_pos (by first | exact .inl (by omega) | exact .inr (by omega))]
       rw [e]
       exact G.done (l := [.tmp 2]) rfl rfl ⟨rfl, rfl⟩ (by (repeat' constructor)) (by (repeat' constructor))
      ·refine G.skip (G.then_n (G.seq (G.region (G.q (Quiet.assign rfl) rfl (G.nil (G.then_n (G.ret ?_)))))))
       have e : checkZ s = 0 := by unfold checkZ; rw [if_neg h7, if_neg (by rw [hspl, List.head?_cons, List.tail_cons, hall, hh0]; rintro (h | h | h); exact h rfl; rw [← hh0, ← hspl] at h; exact hn1 h; cases h), if_neg (by rintro (h | h) <;> omega)]
       rw [e]
       exact G.done (l := [.tmp 2]) rfl rfl ⟨rfl, rfl⟩ (by (repeat' constructor)) (by (repeat' constructor))

end Go.Proofs.YtnnbelmpbmfdnaaGreatDoor
/- Own work, by program: package path: Parent, Base, Kid, Under: walked. -/
namespace Go.Proofs.YtnnbelmpbmfdnaaGreatDoor
open Go
set_option maxRecDepth 100000 in
theorem lastidx0_spec (s : Bs) (hs : s.length ≤ 1099511627776) : Fn Tryz.prog 156 #[vstr s, .int .u8 47] [] fun v L => v = vint (lidxZ s) ∧ L = [] := by
 refine Fn.intro (vs := [vstr s, .int .u8 47]) Tryz.func156 rfl rfl ?_
 intro F W
 have hbs := bs_size s
 refine G.seq (G.region (G.q (Quiet.assign rfl) rfl (G.nil (G.then_n (G.seq (G.seq (G.region (G.q (Quiet.move rfl) rfl (G.q (Quiet.strlen rfl Tryz.underlying9 rfl) rfl ?_)))))))))
 refine G.q (Quiet.sub rfl rfl (by omega)) rfl ?_
 refine G.q (Quiet.assign rfl) rfl (G.nil (G.then_n (G.block ?_)))
 refine G.loopK (ι := Nat) (fun q E => (5, vint (dnL s.length q)) :: E) (fun q => []) (fun q => q ≤ s.length ∧ lidxTo s (s.length - q) = lidxZ s) (fun q => s.length - q) (0) (ts := [0, 1]) (.cons rfl (.cons rfl (.nil))) (⟨Nat.zero_le _, rfl⟩) ⟨rfl, rfl, rfl, trivial⟩ (by (repeat' constructor)) ?_
 rintro k ⟨hk, hl⟩
 have hdn := dnL_eq s.length k
 refine G.seq (G.seq (G.region (G.q (Quiet.move rfl) rfl (G.q (Quiet.int rfl rfl rfl) rfl (G.nil (G.then_n ?_))))))
 refine G.condD rfl (fun h10 => ?_) (fun h10 => ?_)
 ·have hk2 : k < s.length := by omega
  have hat : s[s.length - (k + 1)] = s.getD (s.length - (k + 1)) 0 := by rw [List.getD_eq_getElem?_getD, List.getElem?_eq_getElem (by omega), Option.getD_some]
  refine G.skip (G.then_n (G.seq (G.block (G.seq (G.region (G.q (Quiet.move rfl) rfl (G.q (Quiet.move rfl) rfl ?_)))))))
  refine G.q (Quiet.strIndex (c := s[s.length - (k + 1)]) rfl rfl Tryz.underlying9 (by omega) (by rw [show (dnL s.length k).toNat = s.length - (k + 1) by omega]; simp [show s.length - (k + 1) < s.length by omega])) rfl ?_
  refine G.q (Quiet.move rfl) rfl (G.q (Quiet.int rfl rfl rfl) rfl (G.nil (G.then_n ?_)))
  refine G.condD rfl (fun h17 => ?_) (fun h17 => ?_)
  ·have he : s.getD (s.length - (k + 1)) 0 = 47 := by rw [← hat]; exact byte_eq h17
   refine G.seq (G.region (G.q (Quiet.move rfl) rfl (G.q (Quiet.assign rfl) rfl (G.nil (G.then_n (G.ret (G.blk_r (G.then_r (G.then_r (G.blk_r (G.then_r ?_)))))))))))
   exact G.done (l := [.tmp 4]) rfl rfl ⟨by rw [← hl, show s.length - k = (s.length - (k + 1)) + 1 by omega, lidxTo, if_pos he, hdn]; congr 1; omega, rfl⟩ (by (repeat' constructor)) (by (repeat' constructor))
  ·have hne : ¬ s.getD (s.length - (k + 1)) 0 = 47 := by rw [← hat]; exact fun e => h17 (by rw [e]; rfl)
   refine G.skip (G.blk_n (G.then_n (G.region (G.q (Quiet.move rfl) rfl ?_))))
   refine G.q (Quiet.sub rfl rfl (by omega)) rfl ?_
   refine G.q (Quiet.assign rfl) rfl (G.nil (G.then_n ?_))
   exact G.roundK (k + 1) (⟨by omega, by rw [← hl, show s.length - k = (s.length - (k + 1)) + 1 by omega, lidxTo, if_neg hne]⟩) (by omega) ⟨rfl, rfl, rfl, trivial⟩ (by (repeat' constructor)) (by ((repeat (apply Have.cons; (repeat (first | exact Pick.here | apply Pick.there)))); apply Have.base; repeat' constructor))
 ·refine G.exit (G.then_e (G.then_e (G.blk_e (G.then_n (G.seq (G.region (G.q (Quiet.assign rfl) rfl (G.nil (G.then_n (G.ret ?_))))))))))
  exact G.done (l := [.tmp 4]) rfl rfl ⟨by rw [← hl, show s.length - k = 0 by omega]; rfl, rfl⟩ (by (repeat' constructor)) (by (repeat' constructor))

set_option maxRecDepth 100000 in
theorem lastidx_spec (s : Bs) (hs : s.length ≤ 1099511627776) : Fn Tryz.prog 124 #[vstr s, .int .u8 47] [] fun v L => v = vint (lidxZ s) ∧ L = [] := by
 refine Fn.intro (vs := [vstr s, .int .u8 47]) Tryz.func124 rfl rfl ?_
 intro F W
 refine G.seq (G.region (G.q (Quiet.assign rfl) rfl (G.nil (G.then_n (G.seq (G.region (G.q (Quiet.move rfl) rfl (G.q (Quiet.move rfl) rfl ?_))))))))
 refine G.op (OpSpec.call Tryz.func156 rfl rfl (vs := [_, _]) rfl (lastidx0_spec _ ?hs4)) (by (repeat' constructor)) rfl ?nx5
 case hs4 => assumption
 rintro v L' ⟨rfl, rfl⟩
 refine G.q (Quiet.assign rfl) rfl (G.nil (G.then_n (G.ret ?_)))
 exact G.done (l := [.tmp 4]) rfl rfl ⟨rfl, rfl⟩ (by (repeat' constructor)) (by (repeat' constructor))

set_option maxRecDepth 100000 in
theorem parent_spec (s : Bs) (hs : s.length ≤ 1099511627776) : Fn Tryz.prog 99 #[vstr s] [] fun v L => v = vstr (parentZ s) ∧ L = [] := by
 refine Fn.intro (vs := [vstr s]) Tryz.func99 rfl rfl ?_
 intro F W
 have hr := lidx_range s
 refine G.seq (G.region (G.q (Quiet.assign rfl) rfl (G.nil (G.then_n (G.seq (G.region (G.q (Quiet.move rfl) rfl ?_)))))))
 refine G.op (OpSpec.call Tryz.func124 rfl rfl (vs := [_, _]) rfl (lastidx_spec _ ?hs3)) (by (repeat' constructor)) rfl ?nx4
 case hs3 => assumption
 rintro v L' ⟨rfl, rfl⟩
 refine G.q (Quiet.assign rfl) rfl (G.nil (G.then_n (G.block (G.seq (G.region (G.q (Quiet.move rfl) rfl (G.q (Quiet.int rfl rfl rfl) rfl (G.q (Quiet.move rfl) rfl ?_))))))))
 refine G.dec (t := 12) rfl (fun h3_12 => ?_) (fun h3_12 => ?_)
 ·refine G.kDT (t := 11) rfl h3_12 (G.gskip (t := 12) rfl rfl rfl rfl (G.gskip (t := 12) rfl rfl rfl rfl (G.q (Quiet.pickT rfl rfl) rfl (G.q (Quiet.assign rfl) rfl (G.nil (G.then_n (G.condT rfl (G.seq (G.region (G.q (Quiet.assign rfl) rfl (G.nil (G.then_n (G.ret (G.blk_r ?_))))))))))))))
  exact G.done (l := [.tmp 2]) rfl rfl ⟨by unfold parentZ; rw [if_pos (by first | exact .inl (by omega) | exact .inr (by assumption))], rfl⟩ (by (repeat' constructor)) (by (repeat' constructor))
 ·refine G.kDF (t := 11) rfl h3_12 (G.grun (t := 12) rfl rfl rfl (G.q (Quiet.move rfl) rfl (G.grun (t := 12) rfl rfl rfl (G.q (Quiet.streq rfl rfl) rfl (G.q (Quiet.pickF rfl rfl) rfl (G.q (Quiet.assign rfl) rfl (G.nil (G.then_n ?_))))))))
  refine G.dec (t := 9) rfl (fun h9 => ?_) (fun h9 => ?_)
  ·refine G.condT rfl (G.seq (G.region (G.q (Quiet.assign rfl) rfl (G.nil (G.then_n (G.ret (G.blk_r ?_)))))))
   exact G.done (l := [.tmp 2]) rfl rfl ⟨by unfold parentZ; rw [if_pos (by first | exact .inl (by omega) | exact .inr (by assumption))], rfl⟩ (by (repeat' constructor)) (by (repeat' constructor))
  ·refine G.condF rfl (G.seq (G.region (G.q (Quiet.move rfl) rfl (G.q (Quiet.int rfl rfl rfl) rfl (G.q (Quiet.assign rfl) rfl (G.nil (G.then_n ?_)))))))
   refine G.condD rfl (fun h16 => ?_) (fun h16 => ?_)
   ·refine G.seq (G.region (G.q (Quiet.assign rfl) rfl (G.nil (G.then_n (G.ret (G.blk_r ?_))))))
    exact G.done (l := [.tmp 2]) rfl rfl ⟨by unfold parentZ; rw [if_neg (by rintro (g | g); omega; exact absurd g h9), if_pos h16], rfl⟩ (by (repeat' constructor)) (by (repeat' constructor))
   ·refine G.seq (G.region (G.q (Quiet.move rfl) rfl (G.q (Quiet.move rfl) rfl ?_)))
    refine G.q (Quiet.strTo rfl rfl Tryz.underlying9 (by omega)) rfl ?_
    refine G.q (Quiet.assign rfl) rfl (G.nil (G.then_n (G.ret (G.blk_r ?_))))
    exact G.done (l := [.tmp 2]) rfl rfl ⟨by unfold parentZ; rw [if_neg (by rintro (g | g); omega; exact absurd g h9), if_neg h16], rfl⟩ (by (repeat' constructor)) (by (repeat' constructor))

set_option maxRecDepth 100000 in
theorem base_spec (s : Bs) (hs : s.length ≤ 1099511627776) : Fn Tryz.prog 100 #[vstr s] [] fun v L => v = vstr (baseZ s) ∧ L = [] := by
 refine Fn.intro (vs := [vstr s]) Tryz.func100 rfl rfl ?_
 intro F W
 have hr := lidx_range s
 refine G.seq (G.region (G.q (Quiet.assign rfl) rfl (G.nil (G.then_n (G.seq (G.region (G.q (Quiet.move rfl) rfl (G.q (Quiet.move rfl) rfl ?_))))))))
 refine G.op (OpSpec.call Tryz.func124 rfl rfl (vs := [_, _]) rfl (lastidx_spec _ ?hs4)) (by (repeat' constructor)) rfl ?nx5
 case hs4 => assumption
 rintro v L' ⟨rfl, rfl⟩
 refine G.q (Quiet.add rfl rfl (by omega)) rfl ?_
 refine G.q (Quiet.strFrom rfl rfl Tryz.underlying9 (by omega)) rfl ?_
 refine G.q (Quiet.assign rfl) rfl (G.nil (G.then_n (G.ret ?_)))
 exact G.done (l := [.tmp 2]) rfl rfl ⟨rfl, rfl⟩ (by (repeat' constructor)) (by (repeat' constructor))

set_option maxRecDepth 100000 in
theorem hasprefix0_spec (s q : Bs) : Fn Tryz.prog 169 #[vstr s, vstr q] [] fun v L => v = .bool (decide (pfx q s)) ∧ L = [] := by
 refine Fn.intro (vs := [vstr s, vstr q]) Tryz.func169 rfl rfl ?_
 intro F W
 have h1 := bs_size s
 have h2 := bs_size q
 refine G.seq (G.region (G.q (Quiet.assign rfl) rfl (G.nil (G.then_n (G.seq (G.region (G.q (Quiet.move rfl) rfl (G.q (Quiet.strlen rfl Tryz.underlying9 rfl) rfl (G.q (Quiet.move rfl) rfl (G.q (Quiet.strlen rfl Tryz.underlying9 rfl) rfl (G.q (Quiet.int rfl rfl rfl) rfl (G.q (Quiet.move rfl) rfl ?_))))))))))))
 refine G.dec (t := 10) rfl (fun h1_10 => ?_) (fun h1_10 => ?_)
 ·refine G.kDT (t := 9) rfl h1_10 (G.grun (t := 10) rfl rfl rfl (G.q (Quiet.move rfl) rfl (G.grun (t := 10) rfl rfl rfl (G.q (Quiet.move rfl) rfl (G.grun (t := 10) rfl rfl rfl (G.q (Quiet.strlen rfl Tryz.underlying9 rfl) rfl (G.grun (t := 10) rfl rfl rfl ?_)))))))
  refine G.q (Quiet.to (v' := vstr (s.take q.length)) (Quiet.strTo rfl rfl Tryz.underlying9 (by omega)) (by rw [Int.toNat_natCast])) rfl ?_
  refine G.grun (t := 10) rfl rfl rfl (G.q (Quiet.move rfl) rfl (G.grun (t := 10) rfl rfl rfl (G.q (Quiet.streq rfl rfl) rfl (G.q (Quiet.pickT rfl rfl) rfl (G.q (Quiet.assign rfl) rfl (G.nil (G.then_n (G.ret ?_))))))))
  exact G.done (l := [.tmp 4]) rfl rfl ⟨rfl, rfl⟩ (by (repeat' constructor)) (by (repeat' constructor))
 ·refine G.kDF (t := 9) rfl h1_10 (G.gskip (t := 10) rfl rfl rfl rfl (G.gskip (t := 10) rfl rfl rfl rfl (G.gskip (t := 10) rfl rfl rfl rfl (G.gskip (t := 10) rfl rfl rfl rfl (G.gskip (t := 10) rfl rfl rfl rfl (G.gskip (t := 10) rfl rfl rfl rfl (G.q (Quiet.pickF rfl rfl) rfl (G.q (Quiet.assign rfl) rfl (G.nil (G.then_n (G.ret ?_)))))))))))
  exact G.done (l := [.tmp 4]) rfl rfl ⟨by rw [decide_eq_false (fun e => by unfold pfx at e; have := congrArg List.length e; rw [List.length_take] at this; omega)], rfl⟩ (by (repeat' constructor)) (by (repeat' constructor))

set_option maxRecDepth 100000 in
theorem hasprefix_spec (s q : Bs) : Fn Tryz.prog 146 #[vstr s, vstr q] [] fun v L => v = .bool (decide (pfx q s)) ∧ L = [] := by
 refine Fn.intro (vs := [vstr s, vstr q]) Tryz.func146 rfl rfl ?_
 intro F W
 refine G.seq (G.region (G.q (Quiet.assign rfl) rfl (G.nil (G.then_n (G.seq (G.region (G.q (Quiet.move rfl) rfl (G.q (Quiet.move rfl) rfl ?_))))))))
 refine G.op (OpSpec.call Tryz.func169 rfl rfl (vs := [_, _]) rfl (hasprefix0_spec _ _)) (by (repeat' constructor)) rfl ?nx4
 rintro v L' ⟨rfl, rfl⟩
 refine G.q (Quiet.assign rfl) rfl (G.nil (G.then_n (G.ret ?_)))
 exact G.done (l := [.tmp 4]) rfl rfl ⟨rfl, rfl⟩ (by (repeat' constructor)) (by (repeat' constructor))

set_option maxRecDepth 100000 in
theorem hassuffix0_spec (s q : Bs) (hs : s.length ≤ 1099511627776) (hq : q.length ≤ 1099511627776) : Fn Tryz.prog 185 #[vstr s, vstr q] [] fun v L => v = .bool (decide (sfx q s)) ∧ L = [] := by
 refine Fn.intro (vs := [vstr s, vstr q]) Tryz.func185 rfl rfl ?_
 intro F W
 have h1 := bs_size s
 have h2 := bs_size q
 refine G.seq (G.region (G.q (Quiet.assign rfl) rfl (G.nil (G.then_n (G.seq (G.region (G.q (Quiet.move rfl) rfl (G.q (Quiet.strlen rfl Tryz.underlying9 rfl) rfl (G.q (Quiet.move rfl) rfl (G.q (Quiet.strlen rfl Tryz.underlying9 rfl) rfl (G.q (Quiet.int rfl rfl rfl) rfl (G.q (Quiet.move rfl) rfl ?_))))))))))))
 refine G.dec (t := 10) rfl (fun h1_10 => ?_) (fun h1_10 => ?_)
 ·refine G.kDT (t := 9) rfl h1_10 (G.grun (t := 10) rfl rfl rfl (G.q (Quiet.move rfl) rfl (G.grun (t := 10) rfl rfl rfl (G.q (Quiet.move rfl) rfl (G.grun (t := 10) rfl rfl rfl (G.q (Quiet.strlen rfl Tryz.underlying9 rfl) rfl (G.grun (t := 10) rfl rfl rfl (G.q (Quiet.move rfl) rfl (G.grun (t := 10) rfl rfl rfl (G.q (Quiet.strlen rfl Tryz.underlying9 rfl) rfl (G.grun (t := 10) rfl rfl rfl ?_)))))))))))
  refine G.q (Quiet.sub rfl rfl (by omega)) rfl ?_
  refine G.grun (t := 10) rfl rfl rfl ?_
  refine G.q (Quiet.to (v' := vstr (s.drop (s.length - q.length))) (Quiet.strFrom rfl rfl Tryz.underlying9 (by omega)) (by rw [show ((s.length : Int) - (q.length : Int)).toNat = s.length - q.length by omega])) rfl ?_
  refine G.grun (t := 10) rfl rfl rfl (G.q (Quiet.move rfl) rfl (G.grun (t := 10) rfl rfl rfl (G.q (Quiet.streq rfl rfl) rfl (G.q (Quiet.pickT rfl rfl) rfl (G.q (Quiet.assign rfl) rfl (G.nil (G.then_n (G.ret ?_))))))))
  exact G.done (l := [.tmp 4]) rfl rfl ⟨by congr 1; exact decide_eq_decide.2 ⟨fun e => ⟨by omega, e⟩, fun e => e.2⟩, rfl⟩ (by (repeat' constructor)) (by (repeat' constructor))
 ·refine G.kDF (t := 9) rfl h1_10 (G.gskip (t := 10) rfl rfl rfl rfl (G.gskip (t := 10) rfl rfl rfl rfl (G.gskip (t := 10) rfl rfl rfl rfl (G.gskip (t := 10) rfl rfl rfl rfl (G.gskip (t := 10) rfl rfl rfl rfl (G.gskip (t := 10) rfl rfl rfl rfl (G.gskip (t := 10) rfl rfl rfl rfl (G.gskip (t := 10) rfl rfl rfl rfl (G.gskip (t := 10) rfl rfl rfl rfl (G.q (Quiet.pickF rfl rfl) rfl (G.q (Quiet.assign rfl) rfl (G.nil (G.then_n (G.ret ?_))))))))))))))
  exact G.done (l := [.tmp 4]) rfl rfl ⟨by rw [decide_eq_false (fun e => by have := e.1; omega)], rfl⟩ (by (repeat' constructor)) (by (repeat' constructor))

set_option maxRecDepth 100000 in
theorem trimsuffix0_spec (s q : Bs) (hs : s.length ≤ 1099511627776) (hq : q.length ≤ 1099511627776) : Fn Tryz.prog 179 #[vstr s, vstr q] [] fun v L => v = vstr (trimZ s q) ∧ L = [] := by
 refine Fn.intro (vs := [vstr s, vstr q]) Tryz.func179 rfl rfl ?_
 intro F W
 have h1 := bs_size s
 have h2 := bs_size q
 refine G.seq (G.region (G.q (Quiet.assign rfl) rfl (G.nil (G.then_n (G.seq (G.seq (G.region (G.q (Quiet.move rfl) rfl (G.q (Quiet.move rfl) rfl ?_)))))))))
 refine G.op (OpSpec.call Tryz.func185 rfl rfl (vs := [_, _]) rfl (hassuffix0_spec _ _ ?hs4 ?hq5)) (by (repeat' constructor)) rfl ?nx6
 case hs4 => assumption
 case hq5 => assumption
 rintro v L' ⟨rfl, rfl⟩
 refine G.nil (G.then_n ?_)
 refine G.condD rfl (fun h7 => ?_) (fun h7 => ?_)
 ·have hsf := h7.1
  refine G.seq (G.region (G.q (Quiet.move rfl) rfl (G.q (Quiet.move rfl) rfl (G.q (Quiet.strlen rfl Tryz.underlying9 rfl) rfl (G.q (Quiet.move rfl) rfl (G.q (Quiet.strlen rfl Tryz.underlying9 rfl) rfl ?_))))))
  refine G.q (Quiet.sub rfl rfl (by omega)) rfl ?_
  refine G.q (Quiet.to (v' := vstr (trimZ s q)) (Quiet.strTo rfl rfl Tryz.underlying9 (by omega)) (by unfold trimZ; rw [if_pos h7, show ((s.length : Int) - (q.length : Int)).toNat = s.length - q.length by omega])) rfl ?_
  refine G.q (Quiet.assign rfl) rfl (G.nil (G.then_n (G.ret (G.then_r ?_))))
  exact G.done (l := [.tmp 4]) rfl rfl ⟨rfl, rfl⟩ (by (repeat' constructor)) (by (repeat' constructor))
 ·refine G.skip (G.then_n (G.seq (G.region (G.q (Quiet.move rfl) rfl (G.q (Quiet.assign rfl) rfl (G.nil (G.then_n (G.ret ?_))))))))
  exact G.done (l := [.tmp 4]) rfl rfl ⟨by unfold trimZ; rw [if_neg h7], rfl⟩ (by (repeat' constructor)) (by (repeat' constructor))

set_option maxRecDepth 100000 in
theorem trimsuffix_spec (s q : Bs) (hs : s.length ≤ 1099511627776) (hq : q.length ≤ 1099511627776) : Fn Tryz.prog 167 #[vstr s, vstr q] [] fun v L => v = vstr (trimZ s q) ∧ L = [] := by
 refine Fn.intro (vs := [vstr s, vstr q]) Tryz.func167 rfl rfl ?_
 intro F W
 refine G.seq (G.region (G.q (Quiet.assign rfl) rfl (G.nil (G.then_n (G.seq (G.region (G.q (Quiet.move rfl) rfl (G.q (Quiet.move rfl) rfl ?_))))))))
 refine G.op (OpSpec.call Tryz.func179 rfl rfl (vs := [_, _]) rfl (trimsuffix0_spec _ _ ?hs4 ?hq5)) (by (repeat' constructor)) rfl ?nx6
 case hs4 => assumption
 case hq5 => assumption
 rintro v L' ⟨rfl, rfl⟩
 refine G.q (Quiet.assign rfl) rfl (G.nil (G.then_n (G.ret ?_)))
 exact G.done (l := [.tmp 4]) rfl rfl ⟨rfl, rfl⟩ (by (repeat' constructor)) (by (repeat' constructor))

set_option maxRecDepth 100000 in
theorem slashof_spec (s : Bs) : Fn Tryz.prog 168 #[vstr s] [] fun v L => v = vstr (if s = [47] then [47] else []) ∧ L = [] := by
 refine Fn.intro (vs := [vstr s]) Tryz.func168 rfl rfl ?_
 intro F W
 refine G.seq (G.region (G.q (Quiet.assign rfl) rfl (G.nil (G.then_n (G.seq (G.seq (G.region (G.q (Quiet.move rfl) rfl (G.q (Quiet.streq rfl rfl) rfl (G.nil (G.then_n ?_)))))))))))
 refine G.condD rfl (fun h4 => ?_) (fun h4 => ?_)
 ·refine G.seq (G.region (G.q (Quiet.assign rfl) rfl (G.nil (G.then_n (G.ret (G.then_r ?_))))))
  exact G.done (l := [.tmp 2]) rfl rfl ⟨by rw [if_pos h4], rfl⟩ (by (repeat' constructor)) (by (repeat' constructor))
 ·refine G.skip (G.then_n (G.seq (G.region (G.q (Quiet.assign rfl) rfl (G.nil (G.then_n (G.ret ?_)))))))
  exact G.done (l := [.tmp 2]) rfl rfl ⟨by rw [if_neg h4], rfl⟩ (by (repeat' constructor)) (by (repeat' constructor))

set_option maxRecDepth 100000 in
theorem kid_spec (s name : Bs) (hs : s.length ≤ 1099511627776) (hn : name.length ≤ 1099511627776) : Fn Tryz.prog 145 #[vstr s, vstr name] [] fun v L => v = vstr (kidZ s name) ∧ L = [] := by
 refine Fn.intro (vs := [vstr s, vstr name]) Tryz.func145 rfl rfl ?_
 intro F W
 have htl : (trimZ s (if s = [47] then [47] else [])).length ≤ s.length := trim_len _ _
 refine G.seq (G.region (G.q (Quiet.assign rfl) rfl (G.nil (G.then_n (G.seq (G.region (G.q (Quiet.move rfl) rfl (G.q (Quiet.move rfl) rfl ?_))))))))
 refine G.op (OpSpec.call Tryz.func168 rfl rfl (vs := [_]) rfl (slashof_spec _)) (by (repeat' constructor)) rfl ?nx4
 rintro v L' ⟨rfl, rfl⟩
 refine G.op (OpSpec.call Tryz.func167 rfl rfl (vs := [_, _]) rfl (trimsuffix_spec _ _ ?hs6 ?hq7)) (by (repeat' constructor)) rfl ?nx8
 case hs6 => assumption
 case hq7 => first | assumption | (split <;> simp) | simp
 rintro v L' ⟨rfl, rfl⟩
 refine G.q (Quiet.concat rfl rfl (by simp; omega)) rfl ?_
 refine G.q (Quiet.move rfl) rfl ?_
 refine G.q (Quiet.concat rfl rfl (by simp; omega)) rfl ?_
 refine G.q (Quiet.assign rfl) rfl (G.nil (G.then_n (G.ret ?_)))
 exact G.done (l := [.tmp 4]) rfl rfl ⟨by rw [kid_trim], rfl⟩ (by (repeat' constructor)) (by (repeat' constructor))

set_option maxRecDepth 100000 in
theorem under_spec (s q : Bs) (hq : q.length ≤ 1099511627776) : Fn Tryz.prog 121 #[vstr s, vstr q] [] fun v L => v = .bool (decide (underZ s q)) ∧ L = [] := by
 refine Fn.intro (vs := [vstr s, vstr q]) Tryz.func121 rfl rfl ?_
 intro F W
 refine G.seq (G.region (G.q (Quiet.assign rfl) rfl (G.nil (G.then_n (G.seq (G.region (G.q (Quiet.move rfl) rfl ?_)))))))
 refine G.op (OpSpec.call Tryz.func145 rfl rfl (vs := [_, _]) rfl (kid_spec _ _ ?hs3 ?hn4)) (by (repeat' constructor)) rfl ?nx5
 case hs3 => first | assumption | omega
 case hn4 => first | assumption | omega | simp
 rintro v L' ⟨rfl, rfl⟩
 refine G.q (Quiet.assign rfl) rfl (G.nil (G.then_n (G.seq (G.region (G.q (Quiet.move rfl) rfl (G.q (Quiet.move rfl) rfl ?_))))))
 refine G.op (OpSpec.call Tryz.func146 rfl rfl (vs := [_, _]) rfl (hasprefix_spec _ _)) (by (repeat' constructor)) rfl ?nx8
 rintro v L' ⟨rfl, rfl⟩
 refine G.q (Quiet.move rfl) rfl ?_
 refine G.dec (t := 11) rfl (fun h2_11 => ?_) (fun h2_11 => ?_)
 ·refine G.kDT (t := 10) rfl h2_11 (G.grun (t := 11) rfl rfl rfl (G.q (Quiet.move rfl) rfl (G.grun (t := 11) rfl rfl rfl (G.q (Quiet.move rfl) rfl (G.grun (t := 11) rfl rfl rfl (G.q (Quiet.strne rfl rfl) rfl (G.q (Quiet.pickT rfl rfl) rfl (G.q (Quiet.assign rfl) rfl (G.nil (G.then_n (G.ret ?_)))))))))))
  exact G.done (l := [.tmp 4]) rfl rfl ⟨by rw [← decide_not]; congr 1; exact decide_eq_decide.2 ⟨fun e => ⟨h2_11, e⟩, fun e => e.2⟩, rfl⟩ (by (repeat' constructor)) (by (repeat' constructor))
 ·refine G.kDF (t := 10) rfl h2_11 (G.gskip (t := 11) rfl rfl rfl rfl (G.gskip (t := 11) rfl rfl rfl rfl (G.gskip (t := 11) rfl rfl rfl rfl (G.q (Quiet.pickF rfl rfl) rfl (G.q (Quiet.assign rfl) rfl (G.nil (G.then_n (G.ret ?_))))))))
  exact G.done (l := [.tmp 4]) rfl rfl ⟨by rw [decide_eq_false (fun e => h2_11 e.1)], rfl⟩ (by (repeat' constructor)) (by (repeat' constructor))

end Go.Proofs.YtnnbelmpbmfdnaaGreatDoor
/-
  DERIVED: THE SHELF's CONTRACTS AT THIS DUMP, IN PLAIN WORDS (tools/lay-plain.mjs out of 'YtnnbelmpbmfdnaaGreatDoorLayS.lean', which tools/lay-shelf.mjs wrote): THE SAME DECLARATIONS UNDER THE SAME NAMES: 'import', 'namespace', 'open', 'def', 'theorem' AND NOTHING ELSE: no command of the shelf's: FOR A HAND-IN. Each laying: the table of numbers ('.._ren') and one theorem, a field a fact of the dump's own or the kernel's comparison; each contract: ONE APPLICATION.
-/

namespace Go.Proofs
open Go.Shelf
def Tryz.keysS_ren : Go.Shelf.Ren := ⟨fun | 7 => 48 | 10 => 98 | n => n, fun | 23 => 107 | 26 => 9 | 3 => 102 | 28 => 116 | 0 => 0 | 27 => 115 | 33 => 173 | 4 => 4 | n => n, fun | n => n⟩
theorem Tryz.keysS : Go.Proofs.SlLaysZ.n7 Tryz.prog Tryz.keysS_ren := {
  mixed := by kernel_rfl
  f7 := ⟨Tryz.f48.name, by decide, Tryz.func48.trans (congrArg some (by kernel_rfl))⟩
  f10 := ⟨Tryz.f98.name, by decide, Tryz.func98.trans (congrArg some (by kernel_rfl))⟩
  t0 := Tryz.underlying0
  a0 := Tryz.isAgg0
  z0 := Tryz.sizeOf0
  v0 := Tryz.zeroValue0
  t4 := Tryz.underlying4
  a4 := Tryz.isAgg4
  z4 := Tryz.sizeOf4
  v4 := Tryz.zeroValue4
  t23 := Tryz.underlying107
  a23 := Tryz.isAgg107
  z23 := Tryz.sizeOf107
  v23 := Tryz.zeroValue107
  t26 := Tryz.underlying9
  a26 := Tryz.isAgg9
  z26 := Tryz.sizeOf9
  v26 := Tryz.zeroValue9
  t27 := Tryz.underlying115
  a27 := Tryz.isAgg115
  z27 := Tryz.sizeOf115
  v27 := Tryz.zeroValue115
  t28 := Tryz.underlying116
  a28 := Tryz.isAgg116
  z28 := Tryz.sizeOf116
  v28 := Tryz.zeroValue116
  t33 := Tryz.underlying173
  a33 := Tryz.isAgg173
  z33 := Tryz.sizeOf173
  v33 := Tryz.zeroValue173 }
def Tryz.sortedS_ren : Go.Shelf.Ren := ⟨fun | 6 => 47 | 8 => 96 | 9 => 97 | 11 => 122 | 13 => 115 | 12 => 123 | 23 => 141 | 24 => 142 | 14 => 147 | 15 => 148 | 16 => 149 | 17 => 150 | 18 => 151 | 19 => 152 | 20 => 153 | 21 => 154 | 22 => 155 | 25 => 170 | 26 => 161 | 27 => 162 | 28 => 171 | 29 => 172 | 30 => 173 | 31 => 180 | n => n, fun | 26 => 9 | 28 => 116 | 24 => 40 | 0 => 0 | 3 => 3 | 37 => 185 | 48 => 208 | 50 => 210 | 4 => 4 | 40 => 200 | 39 => 199 | 45 => 205 | 5 => 5 | 9 => 9 | 51 => 220 | 55 => 224 | 57 => 232 | 58 => 233 | 33 => 173 | n => n, fun | n => n⟩
theorem Tryz.sortedS : Go.Proofs.SlLaysZ.n6 Tryz.prog Tryz.sortedS_ren := {
  mixed := by kernel_rfl
  f6 := ⟨Tryz.f47.name, by decide, Tryz.func47.trans (congrArg some (by kernel_rfl))⟩
  f8 := ⟨Tryz.f96.name, by decide, Tryz.func96.trans (congrArg some (by kernel_rfl))⟩
  f11 := ⟨Tryz.f122.name, by decide, Tryz.func122.trans (congrArg some (by kernel_rfl))⟩
  t0 := Tryz.underlying0
  a0 := Tryz.isAgg0
  z0 := Tryz.sizeOf0
  v0 := Tryz.zeroValue0
  t24 := Tryz.underlying40
  a24 := Tryz.isAgg40
  z24 := Tryz.sizeOf40
  v24 := Tryz.zeroValue40
  t26 := Tryz.underlying9
  a26 := Tryz.isAgg9
  z26 := Tryz.sizeOf9
  v26 := Tryz.zeroValue9
  t28 := Tryz.underlying116
  a28 := Tryz.isAgg116
  z28 := Tryz.sizeOf116
  v28 := Tryz.zeroValue116
  i26 := by kernel_rfl }
def Tryz.sortS_ren : Go.Shelf.Ren := ⟨fun | 6 => 97 | 8 => 115 | 9 => 123 | 19 => 141 | 20 => 142 | 21 => 147 | 22 => 148 | 23 => 149 | 24 => 150 | 25 => 151 | 26 => 152 | 27 => 153 | 28 => 154 | 29 => 155 | 36 => 170 | 31 => 161 | 32 => 162 | 37 => 171 | 38 => 172 | 39 => 173 | 41 => 180 | n => n, fun | 27 => 40 | 29 => 9 | 3 => 3 | 32 => 185 | 26 => 40 | 0 => 0 | 44 => 208 | 46 => 210 | 4 => 4 | 36 => 200 | 35 => 199 | 41 => 205 | 5 => 5 | 9 => 9 | 53 => 220 | 57 => 224 | 63 => 232 | 64 => 233 | n => n, fun | n => n⟩
theorem Tryz.sortS : Go.Proofs.SlLaysM.n6 Tryz.prog Tryz.sortS_ren := {
  mixed := by kernel_rfl
  f6 := ⟨Tryz.f97.name, by decide, Tryz.func97.trans (congrArg some (by kernel_rfl))⟩
  f8 := Tryz.func115.trans (congrArg some (by kernel_rfl))
  f9 := ⟨Tryz.f123.name, by decide, Tryz.func123.trans (congrArg some (by kernel_rfl))⟩
  f19 := Tryz.func141.trans (congrArg some (by kernel_rfl))
  f20 := Tryz.func142.trans (congrArg some (by kernel_rfl))
  f21 := ⟨Tryz.f147.name, by decide, Tryz.func147.trans (congrArg some (by kernel_rfl))⟩
  f22 := ⟨Tryz.f148.name, by decide, Tryz.func148.trans (congrArg some (by kernel_rfl))⟩
  f23 := ⟨Tryz.f149.name, by decide, Tryz.func149.trans (congrArg some (by kernel_rfl))⟩
  f24 := ⟨Tryz.f150.name, by decide, Tryz.func150.trans (congrArg some (by kernel_rfl))⟩
  f25 := ⟨Tryz.f151.name, by decide, Tryz.func151.trans (congrArg some (by kernel_rfl))⟩
  f26 := ⟨Tryz.f152.name, by decide, Tryz.func152.trans (congrArg some (by kernel_rfl))⟩
  f27 := ⟨Tryz.f153.name, by decide, Tryz.func153.trans (congrArg some (by kernel_rfl))⟩
  f28 := ⟨Tryz.f154.name, by decide, Tryz.func154.trans (congrArg some (by kernel_rfl))⟩
  f29 := ⟨Tryz.f155.name, by decide, Tryz.func155.trans (congrArg some (by kernel_rfl))⟩
  f31 := Tryz.func161.trans (congrArg some (by kernel_rfl))
  f32 := Tryz.func162.trans (congrArg some (by kernel_rfl))
  f36 := ⟨Tryz.f170.name, by decide, Tryz.func170.trans (congrArg some (by kernel_rfl))⟩
  f37 := ⟨Tryz.f171.name, by decide, Tryz.func171.trans (congrArg some (by kernel_rfl))⟩
  f38 := ⟨Tryz.f172.name, by decide, Tryz.func172.trans (congrArg some (by kernel_rfl))⟩
  f39 := ⟨Tryz.f173.name, by decide, Tryz.func173.trans (congrArg some (by kernel_rfl))⟩
  f41 := ⟨Tryz.f180.name, by decide, Tryz.func180.trans (congrArg some (by kernel_rfl))⟩
  t0 := Tryz.underlying0
  a0 := Tryz.isAgg0
  z0 := Tryz.sizeOf0
  v0 := Tryz.zeroValue0
  t3 := Tryz.underlying3
  a3 := Tryz.isAgg3
  z3 := Tryz.sizeOf3
  v3 := Tryz.zeroValue3
  t4 := Tryz.underlying4
  a4 := Tryz.isAgg4
  z4 := Tryz.sizeOf4
  v4 := Tryz.zeroValue4
  t5 := Tryz.underlying5
  a5 := Tryz.isAgg5
  z5 := Tryz.sizeOf5
  v5 := Tryz.zeroValue5
  t9 := Tryz.underlying9
  a9 := Tryz.isAgg9
  z9 := Tryz.sizeOf9
  v9 := Tryz.zeroValue9
  t26 := Tryz.underlying40
  a26 := Tryz.isAgg40
  z26 := Tryz.sizeOf40
  v26 := Tryz.zeroValue40
  t27 := Tryz.underlying40
  a27 := Tryz.isAgg40
  z27 := Tryz.sizeOf40
  v27 := Tryz.zeroValue40
  t29 := Tryz.underlying9
  a29 := Tryz.isAgg9
  z29 := Tryz.sizeOf9
  v29 := Tryz.zeroValue9
  t32 := Tryz.underlying185
  a32 := Tryz.isAgg185
  z32 := Tryz.sizeOf185
  v32 := Tryz.zeroValue185
  t35 := Tryz.underlying199
  a35 := Tryz.isAgg199
  z35 := Tryz.sizeOf199
  v35 := Tryz.zeroValue199
  t36 := Tryz.underlying200
  a36 := Tryz.isAgg200
  z36 := Tryz.sizeOf200
  v36 := Tryz.zeroValue200
  t41 := Tryz.underlying205
  a41 := Tryz.isAgg205
  z41 := Tryz.sizeOf205
  v41 := Tryz.zeroValue205
  t44 := Tryz.underlying208
  a44 := Tryz.isAgg208
  z44 := Tryz.sizeOf208
  v44 := Tryz.zeroValue208
  t46 := Tryz.underlying210
  a46 := Tryz.isAgg210
  z46 := Tryz.sizeOf210
  v46 := Tryz.zeroValue210
  t53 := Tryz.underlying220
  a53 := Tryz.isAgg220
  z53 := Tryz.sizeOf220
  v53 := Tryz.zeroValue220
  t57 := Tryz.underlying224
  a57 := Tryz.isAgg224
  z57 := Tryz.sizeOf224
  v57 := Tryz.zeroValue224
  t63 := Tryz.underlying232
  a63 := Tryz.isAgg232
  z63 := Tryz.sizeOf232
  v63 := Tryz.zeroValue232
  t64 := Tryz.underlying233
  a64 := Tryz.isAgg233
  z64 := Tryz.sizeOf233
  v64 := Tryz.zeroValue233 }
end Go.Proofs
/- Own work, by program: package tree: what creates and erases: walked. -/

namespace Go.Proofs.YtnnbelmpbmfdnaaGreatDoor
open Go
theorem acC_cells (l : List Ac) : ∀ y ∈ l.flatMap acC, isCell y = true := by
  intro y hy
  obtain ⟨a, -, h⟩ := List.mem_flatMap.1 hy
  simp only [acC, List.mem_cons, List.not_mem_nil, or_false] at h
  rcases h with rfl | rfl <;> rfl
theorem fill_node (d : Bs) (ad : Option Addr) (n c : Nat) (s0 s1 s2 s3 s4 s5 s6 s7 s8 : Value) : Instr.fill (fun i => [(0, 1), (1, 1), (2, 9)].toArray[i]?) ([.string (bs []), .slice none 0 0, .int .i64 0, .int .i64 0, .int .i64 0, .int .i64 0, .int .i64 0, .int .i64 0, .int .i64 0, .int .i64 0, .int .i64 0] : List Value).toArray [(0, vstr d), (1, .slice ad n c), (2, .agg ([s0, s1, s2, s3, s4, s5, s6, s7, s8] : List Value).toArray)] = some (([vstr d, .slice ad n c] ++ [s0, s1, s2, s3, s4, s5, s6, s7, s8] : List Value).toArray) := by kernel_rfl
structure PtA (p : HP) (x : Pt) : Prop where
  acl : ∀ h : Hp, p h → rdS 2 h x.aclV x.acl.length (x.acl.flatMap acC)
  few : x.acl.length ≤ 1048576
  plen : x.path.length ≤ 1048576
  subs : isCell x.subsV = true
  cell : isCell x.aclV = true
theorem PtA.all {p : HP} {x : Pt} (h : PtA p x) : ∀ v ∈ ptC x, isCell v = true := by
  intro v hv
  simp only [ptC, List.mem_cons, List.not_mem_nil, or_false] at hv
  rcases hv with rfl | rfl | rfl | rfl | rfl | rfl | rfl | rfl
  · rfl
  · rfl
  · rfl
  · exact h.cell
  · rfl
  · rfl
  · rfl
  · exact h.subs
structure TxA (p : HP) (x : Pt) (subs : List Pt) : Prop where
  own : PtA p x
  rd : ∀ h : Hp, p h → rdS 8 h x.subsV subs.length (subs.flatMap ptC)
  few : subs.length ≤ 1048576
  each : ∀ y ∈ subs, PtA p y
theorem evC_cells (l : List Ev) : ∀ y ∈ l.flatMap evC, isCell y = true := by
  intro y hy
  obtain ⟨a, -, h⟩ := List.mem_flatMap.1 hy
  simp only [evC, List.mem_cons, List.not_mem_nil, or_false] at h
  rcases h with rfl | rfl | rfl <;> rfl
set_option maxRecDepth 100000 in
theorem aclone_spec (v : Value) (xs : List Ac) (p : HP) (hp : ∀ h : Hp, p h → rdS 2 h v xs.length (xs.flatMap acC)) (hn : xs.length ≤ 1048576) : Fn Tryz.prog 58 #[v] [p] fun u L => (∃ a c, u = .slice a xs.length c) ∧ L = [p, slR 104 2 u xs.length (xs.flatMap acC)] := by
 refine Fn.intro (vs := [v]) Tryz.func58 rfl rfl ?_
 intro F W
 refine G.rdAny (p := p) hp (by (repeat' constructor)) fun a c e0 hl => ?_
 subst e0
 refine G.seq (G.region (G.q (Quiet.assign rfl) rfl (G.nil (G.then_n (G.seq (G.seq (G.region (G.q (Quiet.move rfl) rfl (G.q (Quiet.sleq rfl rfl Tryz.underlying34) rfl (G.nil (G.then_n ?_)))))))))))
 refine G.condB rfl (fun h4 => ?_) (fun h4 => ?_)
 ·have ha : a = none := by simpa using h4
  subst ha
  refine G.rdNil (p := p) hp (by (repeat' constructor)) fun hx0 => ?_
  have hxs : xs = [] := List.eq_nil_of_length_eq_zero hx0
  subst hxs
  refine G.add (slR_nil 104 2) (G.seq (G.region (G.q (Quiet.assign rfl) rfl (G.nil (G.then_n (G.ret (G.then_r ?_)))))))
  exact G.done (l := [.tmp 2]) rfl rfl ⟨⟨_, _, rfl⟩, rfl⟩ (by (repeat' constructor)) (by (repeat' constructor))
 ·refine G.skip (G.then_n (G.seq (G.region ?_)))
  refine G.op (OpSpec.buildSlice (vs := []) el_34 ze_104 rfl rfl rfl rfl (by first | (simp [Value.cells]; done) | (intro v hv; simp only [List.mem_cons, List.not_mem_nil, or_false] at hv; (repeat (first | (subst hv; rfl) | (rcases hv with hv | hv; (subst hv; rfl)))))) (by decide)) (by (repeat' constructor)) rfl ?nx5
  rintro v L' ⟨b0, rfl, rfl⟩
  refine G.q (Quiet.move rfl) rfl ?_
  refine G.slMakeN 2 0 (b := b0) (xs := ([] : List Ac).flatMap acC) (by (repeat' constructor)) rfl rfl ?_
  refine G.op (OpSpec.append (n := 0) (m := xs.length) (ys := xs.flatMap acC) (p := p) rfl rfl rfl el_34 (.inl ⟨_, Tryz.underlying34⟩) ze_104 rfl rfl ?hc8 hp ?hb9 (by decide)) (by (repeat' constructor)) rfl ?nx10
  case hc8 => exact acC_cells _
  case hb9 => omega
  rintro v L' ⟨⟨a3, c3, rfl⟩, rfl⟩; rw [Nat.zero_add, show ([] : List Ac).flatMap acC ++ xs.flatMap acC = xs.flatMap acC from rfl]
  refine G.q (Quiet.assign rfl) rfl (G.nil (G.then_n (G.ret ?_)))
  exact G.done (l := [.tmp 2]) rfl rfl ⟨⟨_, _, rfl⟩, rfl⟩ (by (repeat' constructor)) (by (repeat' constructor))

set_option maxRecDepth 100000 in
theorem able_spec (p : Bs) (hs : p.length ≤ 1048576) : Fn Tryz.prog 119 #[vstr p] [] fun v L => v = .bool (decide (ableZ p)) ∧ L = [] := by
 refine Fn.intro (vs := [vstr p]) Tryz.func119 rfl rfl ?_
 intro F W
 refine G.seq (G.region (G.q (Quiet.assign rfl) rfl (G.nil (G.then_n (G.seq (G.region (G.q (Quiet.move rfl) rfl (G.q (Quiet.strne rfl rfl) rfl (G.q (Quiet.move rfl) rfl ?_)))))))))
 refine G.ndec (t := 5) rfl (fun h1_5 => ?_) (fun h1_5 => ?_)
 ·refine G.kNT (t := 4) rfl h1_5 (G.grun (t := 5) rfl rfl rfl (G.q (Quiet.move rfl) rfl (G.grun (t := 5) rfl rfl rfl ?_)))
  refine G.op (OpSpec.call Tryz.func110 rfl rfl (vs := [_]) rfl (check_spec p hs)) (by (repeat' constructor)) rfl ?nx5
  rintro v L' ⟨rfl, rfl⟩
  refine G.grun (t := 5) rfl rfl rfl (G.q (Quiet.int rfl rfl rfl) rfl (G.q (Quiet.pickT rfl rfl) rfl (G.q (Quiet.assign rfl) rfl (G.nil (G.then_n (G.ret ?_))))))
  exact G.done (l := [.tmp 2]) rfl rfl ⟨congrArg Value.bool (decide_eq_decide.2 ⟨fun e => ⟨h1_5, e⟩, fun e => e.2⟩), rfl⟩ (by (repeat' constructor)) (by (repeat' constructor))
 ·refine G.kNF (t := 4) rfl h1_5 (G.gskip (t := 5) rfl rfl rfl rfl (G.gskip (t := 5) rfl rfl rfl rfl (G.gskip (t := 5) rfl rfl rfl rfl (G.q (Quiet.pickF rfl rfl) rfl (G.q (Quiet.assign rfl) rfl (G.nil (G.then_n (G.ret ?_))))))))
  exact G.done (l := [.tmp 2]) rfl rfl ⟨by rw [decide_eq_false (fun e => e.1 h1_5)], rfl⟩ (by (repeat' constructor)) (by (repeat' constructor))

set_option maxRecDepth 100000 in
theorem trnew_spec : Fn Tryz.prog 13 #[] [] fun v L => ∃ t, v = vptr t ∧ L = [treeR t newT] := by
 refine Fn.intro (vs := []) Tryz.func13 rfl rfl ?_
 intro F W
 refine G.seq (G.region (G.q (Quiet.assign rfl) rfl (G.nil (G.then_n (G.seq (G.region ?_))))))
 refine G.op (OpSpec.makeMap Tryz.underlying107) (by (repeat' constructor)) rfl ?nx2
 rintro v L' ⟨rn, rfl, rfl⟩
 refine G.q (Quiet.build (us := [(0, _), (1, _)]) fl_104 ze_104 rfl rfl (by simp [isCell])) rfl ?_
 refine G.op (OpSpec.buildSlice (vs := [_]) el_34 ze_104 rfl rfl rfl rfl (by first | (simp [Value.cells]; done) | (intro v hv; simp only [List.mem_cons, List.not_mem_nil, or_false] at hv; (repeat (first | (subst hv; rfl) | (rcases hv with hv | hv; (subst hv; rfl)))))) (by decide)) (by (repeat' constructor)) rfl ?nx5
 rintro v L' ⟨ba, rfl, rfl⟩
 refine G.q (Quiet.buildN (pl := [(0, 1), (1, 1), (2, 9)]) (us := [(1, .slice (some ⟨ba, 0, none⟩) 1 1)]) (cells := ndC (.slice (some ⟨ba, 0, none⟩) 1 1) ⟨[], [(31, [119, 111, 114, 108, 100])], st0⟩) Tryz.underlying106 (by kernel_rfl) ze_106 rfl rfl) rfl ?_
 refine G.op (OpSpec.box rfl) (by (repeat' constructor)) rfl ?nx8
 rintro v L' ⟨tn, rfl, rfl⟩
 refine G.fold (p := mapR rn []) (.cons (p := pt rn (.map #[] 0)) (by (repeat' constructor)) .nil) (fun h hp => mapR_new (sep_pt hp)) ?_
 refine G.op (OpSpec.mapInsert (m := ([] : NmM)) (enc := ndV) (v := (tn, (.slice (some ⟨ba, 0, none⟩) 1 1, ⟨[], [(31, [119, 111, 114, 108, 100])], st0⟩))) (k := [47]) (KeyLaw.str Tryz.underlying9) rfl rfl rfl Tryz.underlying107 ?he10) (by (repeat' constructor)) rfl ?nx11
 case he10 => rfl
 rintro v L' rfl
 refine G.q (Quiet.move rfl) rfl ?_
 refine G.op (OpSpec.makeMap Tryz.underlying108) (by (repeat' constructor)) rfl ?nx12
 rintro v L' ⟨rs, rfl, rfl⟩
 refine G.q (Quiet.build (us := [(0, _), (1, _)]) fl_110 ze_110 rfl rfl (by simp [isCell])) rfl ?_
 refine G.op (OpSpec.box rfl) (by (repeat' constructor)) rfl ?nx15
 rintro v L' ⟨t, rfl, rfl⟩
 refine G.q (Quiet.assign rfl) rfl (G.nil (G.then_n (G.ret ?_)))
 refine G.fold (p := mapR rs []) (.cons (p := pt rs (.map #[] 0)) (by (repeat' constructor)) .nil) (fun h hp => mapR_new (sep_pt hp)) ?_
 refine G.slMakeN 2 1 (b := ba) (xs := ([(31, [119, 111, 114, 108, 100])] : List Ac).flatMap acC) (by (repeat' constructor)) rfl rfl ?_
 refine G.toRd (m := 1) (by (repeat' constructor)) ?_
 refine G.ndFold (x := (([47] : Bs), ((tn, (.slice (some ⟨ba, 0, none⟩) 1 1, ⟨[], [(31, [119, 111, 114, 108, 100])], st0⟩)) : Nm))) (by (repeat' constructor)) rfl rfl rfl rfl ?_
 refine G.fold (p := bigR inN [(([47] : Bs), ((tn, (.slice (some ⟨ba, 0, none⟩) 1 1, ⟨[], [(31, [119, 111, 114, 108, 100])], st0⟩)) : Nm))]) (.cons (p := inN (([47] : Bs), ((tn, (.slice (some ⟨ba, 0, none⟩) 1 1, ⟨[], [(31, [119, 111, 114, 108, 100])], st0⟩)) : Nm))) (by (repeat' constructor)) .nil) (fun h hp => hp) ?_
 have hI : TrI newT [(([47] : Bs), ((tn, (.slice (some ⟨ba, 0, none⟩) 1 1, ⟨[], [(31, [119, 111, 114, 108, 100])], st0⟩)) : Nm))] [] := ⟨by simp, fun q => (by unfold newT; simp only [alook]; split <;> rfl), by simp, fun i => rfl⟩
 refine G.trFold (τ := newT) hI (by (repeat' constructor)) rfl rfl rfl ?_
 exact G.done (l := [.tmp 0]) rfl rfl ⟨_, rfl, rfl⟩ (by (repeat' constructor)) (by (repeat' constructor))

set_option maxRecDepth 100000 in
theorem trkid_spec (t : Nat) (τ : Tr) (p : Bs) (num zx : Int) : Fn Tryz.prog 120 #[vptr t, vstr p, vint num, vint zx] [treeR t τ] fun v L => v = .tuple #[] ∧ L = [treeR t (kidT τ p num zx)] := by
 refine Fn.intro (vs := [vptr t, vstr p, vint num, vint zx]) Tryz.func120 rfl rfl ?_
 intro F W
 refine G.trOpen (τ := τ) (by (repeat' constructor)) fun rn rs m s hI => ?_
 refine G.seq (G.region ?_)
 rcases hal : alook m p with _ | x
 ·refine G.q (Quiet.move rfl) rfl (G.q (Quiet.nilp rfl) rfl (G.q (Quiet.fieldAddr rfl fo_110_0) rfl ?_))
  refine G.q (Quiet.load rfl ag_107 (by (repeat' constructor)) (rfl)) rfl ?_
  refine G.q (Quiet.move rfl) rfl ?_
  refine G.q (Quiet.lookupN (m := m) (enc := ndV) (KeyLaw.str Tryz.underlying9) (hal) rfl rfl Tryz.underlying107 ze_102 (by (repeat' constructor)) rfl) rfl ?_
  refine G.q (Quiet.assign rfl) rfl (G.nil (G.then_n (G.seq (G.region (G.q (Quiet.move rfl) rfl ?_)))))
  refine G.q (Quiet.as (v' := .bool false) (by rfl) (Quiet.ptrne rfl rfl Tryz.underlying102)) rfl ?_
  refine G.nil (G.then_n (G.condF rfl (G.skip (G.done_n ?_))))
  refine G.trFold (τ := τ) hI (by (repeat' constructor)) rfl rfl rfl ?_
  refine G.trCast (τ' := kidT τ p num zx) (by (repeat' constructor)) (hI.kidN hal _) ?_
  exact G.done (l := []) rfl rfl ⟨rfl, rfl⟩ (by (repeat' constructor)) (by (repeat' constructor))
 ·refine G.q (Quiet.move rfl) rfl (G.q (Quiet.nilp rfl) rfl (G.q (Quiet.fieldAddr rfl fo_110_0) rfl ?_))
  refine G.q (Quiet.load rfl ag_107 (by (repeat' constructor)) (rfl)) rfl ?_
  refine G.q (Quiet.move rfl) rfl ?_
  refine G.q (Quiet.lookupY (m := m) (enc := ndV) (KeyLaw.str Tryz.underlying9) (hal) rfl rfl Tryz.underlying107 ze_102 (by (repeat' constructor)) rfl) rfl ?_
  refine G.q (Quiet.assign rfl) rfl (G.nil (G.then_n (G.seq (G.region (G.q (Quiet.move rfl) rfl ?_)))))
  refine G.q (Quiet.as (v' := .bool true) (by rfl) (Quiet.ptrne rfl rfl Tryz.underlying102)) rfl ?_
  refine G.nil (G.then_n (G.condT rfl ?_))
  refine G.bigTake hal (by (repeat' constructor)) ?_
  refine G.ndOpen (x := (p, x)) (by (repeat' constructor)) ?_
  refine G.region (G.q (Quiet.move rfl) rfl (G.q (Quiet.move rfl) rfl (G.q (Quiet.move rfl) rfl (G.q (Quiet.move rfl) rfl (G.q (Quiet.nilp rfl) rfl (G.q (Quiet.fieldAddr rfl fo_106_2) rfl (G.q (Quiet.fieldAddr rfl fo_43_4) rfl ?_)))))))
  refine G.op (OpSpec.store rfl rfl rfl sz_3 ?c20 ?c21) (by (repeat' constructor)) rfl ?nx22
  case c20 => simp [ndC]
  case c21 => exact nfz0 _ _
  rintro v L' rfl
  refine G.q (Quiet.nilp rfl) rfl (G.q (Quiet.fieldAddr rfl fo_106_2) rfl (G.q (Quiet.fieldAddr rfl fo_43_2) rfl ?_))
  refine G.op (OpSpec.store rfl rfl rfl sz_3 ?c26 ?c27) (by (repeat' constructor)) rfl ?nx28
  case c26 => simp [ndC]
  case c27 => exact nfz0 _ _
  rintro v L' rfl
  refine G.nil (G.done_n ?_)
  refine G.ndFold (x := (p, (x.1, (x.2.1, kidN num zx x.2.2)))) (by (repeat' constructor)) rfl rfl rfl rfl ?_
  refine G.bigPut (f := inN) (m := m) p (x.1, (x.2.1, kidN num zx x.2.2)) rfl (by (repeat' constructor)) ?_
  refine G.trFold (τ := (kidT τ p num zx)) (hI.mod hal (kidN num zx) (y := (x.1, (x.2.1, kidN num zx x.2.2))) rfl) (by (repeat' constructor)) rfl (ndE_set (y := (x.1, (x.2.1, kidN num zx x.2.2))) hal rfl).symm rfl ?_
  exact G.done (l := []) rfl rfl ⟨rfl, rfl⟩ (by (repeat' constructor)) (by (repeat' constructor))

set_option maxRecDepth 100000 in
theorem trcreate_spec (t : Nat) (τ : Tr) (x : Pt) (zx : Int) (p : HP) (hx : PtA p x) : Fn Tryz.prog 94 #[vptr t, .agg (ptC x).toArray, vint zx] [treeR t τ, p] fun v L => ∃ a c, v = .slice a (createZ τ x zx).2.length c ∧ L = [treeR t (createZ τ x zx).1, p, slR 75 3 v (createZ τ x zx).2.length ((createZ τ x zx).2.flatMap evC)] := by
 refine Fn.intro (vs := [vptr t, .agg (ptC x).toArray, vint zx]) Tryz.func94 rfl rfl ?_
 intro F W
 have hfew := hx.few
 have hpl := hx.plen
 have hpar := parent_len x.path
 refine G.seq (G.region ?_)
 refine G.op (OpSpec.box rfl) (by (repeat' constructor)) rfl ?nx1
 rintro v L' ⟨bx, rfl, rfl⟩
 refine G.q (Quiet.assign rfl) rfl (G.nil ?_)
 refine G.ptCast (b := bx) (l' := ptC x) (by (repeat' constructor)) rfl ?_
 refine G.then_n (G.seq (G.region (G.q (Quiet.fieldAddr rfl fo_37_1) rfl ?_)))
 refine G.q (Quiet.load rfl ag_9 (by (repeat' constructor)) (rfl)) rfl ?_
 refine G.op (OpSpec.call Tryz.func99 rfl rfl (vs := [_]) rfl (parent_spec x.path (by omega))) (by (repeat' constructor)) rfl ?nx6
 rintro v L' ⟨rfl, rfl⟩
 refine G.q (Quiet.assign rfl) rfl (G.nil (G.then_n (G.seq (G.seq (G.region (G.q (Quiet.fieldAddr rfl fo_37_1) rfl ?_))))))
 refine G.q (Quiet.load rfl ag_9 (by (repeat' constructor)) (rfl)) rfl ?_
 refine G.op (OpSpec.call Tryz.func119 rfl rfl (vs := [_]) rfl (able_spec x.path hpl)) (by (repeat' constructor)) rfl ?nx10
 rintro v L' ⟨rfl, rfl⟩
 refine G.q (Quiet.not rfl) rfl (G.q (Quiet.move rfl) rfl ?_)
 refine G.ndec (t := 16) rfl (fun h2_16 => ?_) (fun h2_16 => ?_)
 ·refine G.kNT (t := 15) rfl h2_16 (G.gskip (t := 16) rfl rfl rfl rfl (G.gskip (t := 16) rfl rfl rfl rfl (G.gskip (t := 16) rfl rfl rfl rfl (G.gskip (t := 16) rfl rfl rfl rfl (G.gskip (t := 16) rfl rfl rfl rfl (G.gskip (t := 16) rfl rfl rfl rfl (G.gskip (t := 16) rfl rfl rfl rfl (G.q (Quiet.pickT rfl rfl) rfl (G.nil (G.then_n (G.condT rfl (G.seq (G.region (G.q (Quiet.assign rfl) rfl (G.nil (G.then_n (G.ret (G.then_r (G.add (slR_nil 75 3) ?_)))))))))))))))))))
  have hc : createZ τ x zx = (τ, []) := by unfold createZ; rw [if_neg (fun g => h2_16 g.1)]
  refine G.trCast (τ' := (createZ τ x zx).1) (by (repeat' constructor)) (by rw [hc]) ?_
  refine G.slCast (T := 75) (sz := 3) (m' := (createZ τ x zx).2.length) (xs' := (createZ τ x zx).2.flatMap evC) (by (repeat' constructor)) (by rw [hc]; rfl) (by first | (rw [hc]; done) | (rw [hc]; rfl)) ?_
  exact G.done (l := [.tmp 6]) rfl rfl ⟨_, _, by rw [hc]; rfl, rfl⟩ (by (repeat' constructor)) (by (repeat' constructor))
 ·refine G.kNF (t := 15) rfl h2_16 ?_
  refine G.trOpen (τ := τ) (by (repeat' constructor)) fun rn rs m s hI => ?_
  refine G.grun (t := 16) rfl rfl rfl (G.q (Quiet.move rfl) rfl (G.grun (t := 16) rfl rfl rfl (G.q (Quiet.nilp rfl) rfl (G.grun (t := 16) rfl rfl rfl (G.q (Quiet.fieldAddr rfl fo_110_0) rfl (G.grun (t := 16) rfl rfl rfl ?_))))))
  refine G.q (Quiet.load rfl ag_107 (by (repeat' constructor)) (rfl)) rfl ?_
  refine G.grun (t := 16) rfl rfl rfl (G.q (Quiet.move rfl) rfl ?_)
  rcases hup : alook m (parentZ x.path) with _ | pu
  ·refine G.grun (t := 16) rfl rfl rfl ?_
   refine G.q (Quiet.lookupN (m := m) (enc := ndV) (KeyLaw.str Tryz.underlying9) (hup) rfl rfl Tryz.underlying107 ze_102 (by (repeat' constructor)) rfl) rfl ?_
   refine G.grun (t := 16) rfl rfl rfl ?_
   refine G.q (Quiet.as (v' := .bool true) (by rfl) (Quiet.ptreq rfl rfl Tryz.underlying102)) rfl ?_
   refine G.q (Quiet.pickF rfl rfl) rfl (G.nil (G.then_n (G.condT rfl (G.seq (G.region (G.q (Quiet.assign rfl) rfl (G.nil (G.then_n (G.ret (G.then_r (G.add (slR_nil 75 3) ?_)))))))))))
   have hc : createZ τ x zx = (τ, []) := by unfold createZ; rw [if_neg (fun g => hI.none_iff.1 hup g.2)]
   refine G.trFold (τ := τ) hI (by (repeat' constructor)) rfl rfl rfl ?_
   refine G.trCast (τ' := (createZ τ x zx).1) (by (repeat' constructor)) (by rw [hc]) ?_
   refine G.slCast (T := 75) (sz := 3) (m' := (createZ τ x zx).2.length) (xs' := (createZ τ x zx).2.flatMap evC) (by (repeat' constructor)) (by rw [hc]; rfl) (by first | (rw [hc]; done) | (rw [hc]; rfl)) ?_
   exact G.done (l := [.tmp 6]) rfl rfl ⟨_, _, by rw [hc]; rfl, rfl⟩ (by (repeat' constructor)) (by (repeat' constructor))
  ·refine G.grun (t := 16) rfl rfl rfl ?_
   refine G.q (Quiet.lookupY (m := m) (enc := ndV) (KeyLaw.str Tryz.underlying9) (hup) rfl rfl Tryz.underlying107 ze_102 (by (repeat' constructor)) rfl) rfl ?_
   refine G.grun (t := 16) rfl rfl rfl ?_
   refine G.q (Quiet.as (v' := .bool false) (by rfl) (Quiet.ptreq rfl rfl Tryz.underlying102)) rfl ?_
   refine G.q (Quiet.pickF rfl rfl) rfl (G.nil (G.then_n (G.condF rfl (G.skip (G.then_n (G.seq (G.region (G.q (Quiet.assign rfl) rfl (G.nil (G.then_n (G.seq (G.seq ?_))))))))))))
   refine G.draw [] [[0, 1, 2, 3, 4, 5, 6, 7]] mixed (by kernel_rfl) ?_
   refine Phases.go [] (by (repeat' constructor)) ?_
   rcases hal : alook m x.path with _ | px
   ·refine D.qw [1, 2, 3, 6, 7] rfl (by kernel_rfl) (Quiet.move rfl) ?_
    refine D.qw [2, 3, 6, 7] rfl (by kernel_rfl) (Quiet.nilp rfl) ?_
    refine D.qw [3, 6, 7] rfl (by kernel_rfl) (Quiet.fieldAddr rfl fo_110_0) ?_
    refine D.qw [6, 7] rfl (by kernel_rfl) (Quiet.load rfl ag_107 (by (repeat' constructor)) (rfl)) ?_
    refine D.qw [5, 6, 7] rfl (by kernel_rfl) (Quiet.fieldAddr rfl fo_37_1) ?_
    refine D.qw [6, 7] rfl (by kernel_rfl) (Quiet.load rfl ag_9 (by (repeat' constructor)) (rfl)) ?_
    refine D.qw [7] rfl (by kernel_rfl) (Quiet.lookupN (m := m) (enc := ndV) (KeyLaw.str Tryz.underlying9) (hal) rfl rfl Tryz.underlying107 ze_102 (by (repeat' constructor)) rfl) ?_
    refine D.qw [] rfl (by kernel_rfl) (Quiet.as (v' := .bool false) (by rfl) (Quiet.ptrne rfl rfl Tryz.underlying102)) ?_
    refine D.ph (Phases.fin (G.then_n (G.condF rfl (G.skip (G.then_n (G.seq ?_))))))
    refine G.draw [10, 18, 19] [[0, 1, 2, 3, 4, 5, 6, 7, 8, 9, 11, 12, 13, 14, 15, 16, 10, 17, 18], [19]] mixed (by kernel_rfl) ?_
    refine Phases.go [ptc bx _ _, ptc t _ _] (by (repeat' constructor)) ?_
    refine D.q rfl (by kernel_rfl) (Quiet.move rfl) ?_
    refine D.q rfl (by kernel_rfl) (Quiet.nilp rfl) ?_
    refine D.q rfl (by kernel_rfl) (Quiet.fieldAddr rfl fo_110_0) ?_
    refine D.q rfl (by kernel_rfl) (Quiet.load rfl ag_107 (by (repeat' constructor)) (rfl)) ?_
    refine D.q rfl (by kernel_rfl) (Quiet.fieldAddr rfl fo_37_1) ?_
    refine D.q rfl (by kernel_rfl) (Quiet.load rfl ag_9 (by (repeat' constructor)) (rfl)) ?_
    refine D.q rfl (by kernel_rfl) (Quiet.fieldAddr rfl fo_37_2) ?_
    refine D.q rfl (by kernel_rfl) (Quiet.load rfl ag_9 (by (repeat' constructor)) (rfl)) ?_
    refine D.qw [9, 10, 17, 18] rfl (by kernel_rfl) (Quiet.fieldAddr rfl fo_37_3) ?_
    refine D.qw [10, 17, 18] rfl (by kernel_rfl) (Quiet.load rfl ag_34 (by (repeat' constructor)) (rfl)) ?_
    refine D.q rfl (by kernel_rfl) (Quiet.move rfl) ?_
    refine D.q rfl (by kernel_rfl) (Quiet.move rfl) ?_
    refine D.q rfl (by kernel_rfl) (Quiet.move rfl) ?_
    refine D.q rfl (by kernel_rfl) (Quiet.fieldAddr rfl fo_37_4) ?_
    refine D.q rfl (by kernel_rfl) (Quiet.load rfl ag_3 (by (repeat' constructor)) (rfl)) ?_
    refine D.q rfl (by kernel_rfl) (Quiet.build (us := [(0, _), (1, _), (2, _), (6, _)]) fl_43 ze_43 rfl rfl (by simp [isCell])) ?_
    refine D.h rfl (by kernel_rfl) (OpSpec.call Tryz.func58 rfl rfl (vs := [_]) rfl (aclone_spec x.aclV x.acl p hx.acl hfew)) (by (repeat' constructor)) ?nx49
    rintro v L' ⟨⟨a7, c7, rfl⟩, rfl⟩
    refine D.qw [18] rfl (by kernel_rfl) (Quiet.buildN (pl := [(0, 1), (1, 1), (2, 9)]) (us := [(0, vstr x.data), (1, .slice a7 x.acl.length c7), (2, .agg ([vint zx, vint zx, vint zx, vint 0, vint 0, vint 0, vint x.own, vint 0, vint 0] : List Value).toArray)]) (cells := [vstr x.data, .slice a7 x.acl.length c7] ++ [vint zx, vint zx, vint zx, vint 0, vint 0, vint 0, vint x.own, vint 0, vint 0]) Tryz.underlying106 (by kernel_rfl) ze_106 rfl (fill_node _ _ _ _ _ _ _ _ _ _ _ _ _)) ?_
    refine D.h rfl (by kernel_rfl) (OpSpec.box rfl) (by (repeat' constructor)) ?nx52
    rintro v L' ⟨tn, rfl, rfl⟩
    refine D.ph ?_
    refine Phases.go [] (by (repeat' constructor)) ?_
    refine D.h rfl (by kernel_rfl) (OpSpec.mapSet (m := m) (enc := ndV) (v := ((tn, (.slice a7 x.acl.length c7, newN x zx)) : Nm)) (k := x.path) (KeyLaw.str Tryz.underlying9) rfl rfl rfl Tryz.underlying107 ?he54) (by (repeat' constructor)) ?nx55
    case he54 => rfl
    rintro v L' rfl
    refine D.ph (Phases.fin ?_)
    refine G.toRd (by (repeat' constructor)) ?_
    refine G.ndFold (x := (x.path, ((tn, (.slice a7 x.acl.length c7, newN x zx)) : Nm))) (by (repeat' constructor)) rfl rfl rfl rfl ?_
    have hdel := adel_none hal
    refine G.bigPut (f := inN) (m := m) x.path ((tn, (.slice a7 x.acl.length c7, newN x zx)) : Nm) rfl (by rw [hdel]; (repeat' constructor)) ?_
    refine G.trFold (τ := ({ τ with nodes := sset τ.nodes x.path (newN x zx) } : Tr)) (hI.lay x.path ((tn, (.slice a7 x.acl.length c7, newN x zx)) : Nm)) (by (repeat' constructor)) rfl rfl rfl ?_
    refine G.then_n (G.seq (G.region (G.q (Quiet.move rfl) rfl (G.q (Quiet.move rfl) rfl (G.q (Quiet.fieldAddr rfl fo_37_5) rfl ?_)))))
    refine G.q (Quiet.load rfl ag_3 (by (repeat' constructor)) (rfl)) rfl ?_
    refine G.q (Quiet.move rfl) rfl ?_
    refine G.op (OpSpec.call Tryz.func120 rfl rfl (vs := [_, _, _, _]) rfl (trkid_spec t ({ τ with nodes := sset τ.nodes x.path (newN x zx) } : Tr) (parentZ x.path) x.num zx)) (by (repeat' constructor)) rfl ?nx60
    rintro v L' ⟨rfl, rfl⟩
    refine G.nil (G.then_n (G.seq (G.region (G.q (Quiet.move rfl) rfl (G.q (Quiet.fieldAddr rfl fo_37_1) rfl ?_)))))
    refine G.q (Quiet.load rfl ag_9 (by (repeat' constructor)) (rfl)) rfl ?_
    refine G.q (Quiet.move rfl) rfl ?_
    refine G.q (Quiet.build (us := [(0, _), (1, _), (2, _)]) fl_75 ze_75 rfl rfl (by simp [isCell])) rfl ?_
    refine G.q (Quiet.move rfl) rfl (G.q (Quiet.move rfl) rfl ?_)
    refine G.q (Quiet.build (us := [(0, _), (1, _), (2, _)]) fl_75 ze_75 rfl rfl (by simp [isCell])) rfl ?_
    refine G.op (OpSpec.buildSlice (vs := [_, _]) el_30 ze_75 rfl rfl rfl rfl (by first | (simp [Value.cells]; done) | (intro v hv; simp only [List.mem_cons, List.not_mem_nil, or_false] at hv; (repeat (first | (subst hv; rfl) | (rcases hv with hv | hv; (subst hv; rfl)))))) (by decide)) (by (repeat' constructor)) rfl ?nx68
    rintro v L' ⟨bo, rfl, rfl⟩
    refine G.q (Quiet.assign rfl) rfl (G.nil ?_)
    refine G.slMakeN 3 2 (b := bo) (xs := ([(1, (x.path, zx)), (4, (parentZ x.path, zx))] : List Ev).flatMap evC) (by (repeat' constructor)) rfl rfl ?_
    refine G.then_n (G.ret ?_)
    have hc : createZ τ x zx = (kidT ({ τ with nodes := sset τ.nodes x.path (newN x zx) } : Tr) (parentZ x.path) x.num zx, [(1, (x.path, zx)), (4, (parentZ x.path, zx))]) := by unfold createZ; rw [if_pos ⟨h2_16, hI.some_iff hup⟩, if_neg (hI.none_iff.1 hal)]
    refine G.trCast (τ' := (createZ τ x zx).1) (by (repeat' constructor)) (by rw [hc]) ?_
    refine G.slCast (T := 75) (sz := 3) (m' := (createZ τ x zx).2.length) (xs' := (createZ τ x zx).2.flatMap evC) (by (repeat' constructor)) (by rw [hc]; rfl) (by first | (rw [hc]; done) | (rw [hc]; rfl)) ?_
    exact G.done (l := [.tmp 6]) rfl rfl ⟨_, _, by rw [hc]; rfl, rfl⟩ (by (repeat' constructor)) (by (repeat' constructor))
   ·refine D.qw [1, 2, 3, 6, 7] rfl (by kernel_rfl) (Quiet.move rfl) ?_
    refine D.qw [2, 3, 6, 7] rfl (by kernel_rfl) (Quiet.nilp rfl) ?_
    refine D.qw [3, 6, 7] rfl (by kernel_rfl) (Quiet.fieldAddr rfl fo_110_0) ?_
    refine D.qw [6, 7] rfl (by kernel_rfl) (Quiet.load rfl ag_107 (by (repeat' constructor)) (rfl)) ?_
    refine D.qw [5, 6, 7] rfl (by kernel_rfl) (Quiet.fieldAddr rfl fo_37_1) ?_
    refine D.qw [6, 7] rfl (by kernel_rfl) (Quiet.load rfl ag_9 (by (repeat' constructor)) (rfl)) ?_
    refine D.qw [7] rfl (by kernel_rfl) (Quiet.lookupY (m := m) (enc := ndV) (KeyLaw.str Tryz.underlying9) (hal) rfl rfl Tryz.underlying107 ze_102 (by (repeat' constructor)) rfl) ?_
    refine D.qw [] rfl (by kernel_rfl) (Quiet.as (v' := .bool true) (by rfl) (Quiet.ptrne rfl rfl Tryz.underlying102)) ?_
    refine D.ph (Phases.fin (G.then_n (G.condT rfl (G.region (G.q (Quiet.assign rfl) rfl (G.nil (G.then_n (G.seq ?_))))))))
    refine G.draw [10, 18, 19] [[0, 1, 2, 3, 4, 5, 6, 7, 8, 9, 11, 12, 13, 14, 15, 16, 10, 17, 18], [19]] mixed (by kernel_rfl) ?_
    refine Phases.go [ptc bx _ _, ptc t _ _] (by (repeat' constructor)) ?_
    refine D.q rfl (by kernel_rfl) (Quiet.move rfl) ?_
    refine D.q rfl (by kernel_rfl) (Quiet.nilp rfl) ?_
    refine D.q rfl (by kernel_rfl) (Quiet.fieldAddr rfl fo_110_0) ?_
    refine D.q rfl (by kernel_rfl) (Quiet.load rfl ag_107 (by (repeat' constructor)) (rfl)) ?_
    refine D.q rfl (by kernel_rfl) (Quiet.fieldAddr rfl fo_37_1) ?_
    refine D.q rfl (by kernel_rfl) (Quiet.load rfl ag_9 (by (repeat' constructor)) (rfl)) ?_
    refine D.q rfl (by kernel_rfl) (Quiet.fieldAddr rfl fo_37_2) ?_
    refine D.q rfl (by kernel_rfl) (Quiet.load rfl ag_9 (by (repeat' constructor)) (rfl)) ?_
    refine D.qw [9, 10, 17, 18] rfl (by kernel_rfl) (Quiet.fieldAddr rfl fo_37_3) ?_
    refine D.qw [10, 17, 18] rfl (by kernel_rfl) (Quiet.load rfl ag_34 (by (repeat' constructor)) (rfl)) ?_
    refine D.q rfl (by kernel_rfl) (Quiet.move rfl) ?_
    refine D.q rfl (by kernel_rfl) (Quiet.move rfl) ?_
    refine D.q rfl (by kernel_rfl) (Quiet.move rfl) ?_
    refine D.q rfl (by kernel_rfl) (Quiet.fieldAddr rfl fo_37_4) ?_
    refine D.q rfl (by kernel_rfl) (Quiet.load rfl ag_3 (by (repeat' constructor)) (rfl)) ?_
    refine D.q rfl (by kernel_rfl) (Quiet.build (us := [(0, _), (1, _), (2, _), (6, _)]) fl_43 ze_43 rfl rfl (by simp [isCell])) ?_
    refine D.h rfl (by kernel_rfl) (OpSpec.call Tryz.func58 rfl rfl (vs := [_]) rfl (aclone_spec x.aclV x.acl p hx.acl hfew)) (by (repeat' constructor)) ?nx95
    rintro v L' ⟨⟨a7, c7, rfl⟩, rfl⟩
    refine D.qw [18] rfl (by kernel_rfl) (Quiet.buildN (pl := [(0, 1), (1, 1), (2, 9)]) (us := [(0, vstr x.data), (1, .slice a7 x.acl.length c7), (2, .agg ([vint zx, vint zx, vint zx, vint 0, vint 0, vint 0, vint x.own, vint 0, vint 0] : List Value).toArray)]) (cells := [vstr x.data, .slice a7 x.acl.length c7] ++ [vint zx, vint zx, vint zx, vint 0, vint 0, vint 0, vint x.own, vint 0, vint 0]) Tryz.underlying106 (by kernel_rfl) ze_106 rfl (fill_node _ _ _ _ _ _ _ _ _ _ _ _ _)) ?_
    refine D.h rfl (by kernel_rfl) (OpSpec.box rfl) (by (repeat' constructor)) ?nx98
    rintro v L' ⟨tn, rfl, rfl⟩
    refine D.ph ?_
    refine Phases.go [] (by (repeat' constructor)) ?_
    refine D.h rfl (by kernel_rfl) (OpSpec.mapSet (m := m) (enc := ndV) (v := ((tn, (.slice a7 x.acl.length c7, newN x zx)) : Nm)) (k := x.path) (KeyLaw.str Tryz.underlying9) rfl rfl rfl Tryz.underlying107 ?he100) (by (repeat' constructor)) ?nx101
    case he100 => rfl
    rintro v L' rfl
    refine D.ph (Phases.fin ?_)
    refine G.toRd (by (repeat' constructor)) ?_
    refine G.ndFold (x := (x.path, ((tn, (.slice a7 x.acl.length c7, newN x zx)) : Nm))) (by (repeat' constructor)) rfl rfl rfl rfl ?_
    refine G.bigTake hal (by (repeat' constructor)) ?_
    refine G.bigPut (f := inN) (m := m) x.path ((tn, (.slice a7 x.acl.length c7, newN x zx)) : Nm) rfl (by (repeat' constructor)) ?_
    refine G.trFold (τ := ({ τ with nodes := sset τ.nodes x.path (newN x zx) } : Tr)) (hI.lay x.path ((tn, (.slice a7 x.acl.length c7, newN x zx)) : Nm)) (by (repeat' constructor)) rfl rfl rfl ?_
    refine G.then_n (G.seq (G.region (G.q (Quiet.move rfl) rfl (G.q (Quiet.move rfl) rfl (G.q (Quiet.fieldAddr rfl fo_37_5) rfl ?_)))))
    refine G.q (Quiet.load rfl ag_3 (by (repeat' constructor)) (rfl)) rfl ?_
    refine G.q (Quiet.move rfl) rfl ?_
    refine G.op (OpSpec.call Tryz.func120 rfl rfl (vs := [_, _, _, _]) rfl (trkid_spec t ({ τ with nodes := sset τ.nodes x.path (newN x zx) } : Tr) (parentZ x.path) x.num zx)) (by (repeat' constructor)) rfl ?nx106
    rintro v L' ⟨rfl, rfl⟩
    refine G.nil (G.then_n (G.seq (G.region (G.q (Quiet.move rfl) rfl (G.q (Quiet.fieldAddr rfl fo_37_1) rfl ?_)))))
    refine G.q (Quiet.load rfl ag_9 (by (repeat' constructor)) (rfl)) rfl ?_
    refine G.q (Quiet.move rfl) rfl ?_
    refine G.q (Quiet.build (us := [(0, _), (1, _), (2, _)]) fl_75 ze_75 rfl rfl (by simp [isCell])) rfl ?_
    refine G.q (Quiet.move rfl) rfl (G.q (Quiet.move rfl) rfl ?_)
    refine G.q (Quiet.build (us := [(0, _), (1, _), (2, _)]) fl_75 ze_75 rfl rfl (by simp [isCell])) rfl ?_
    refine G.op (OpSpec.buildSlice (vs := [_, _]) el_30 ze_75 rfl rfl rfl rfl (by first | (simp [Value.cells]; done) | (intro v hv; simp only [List.mem_cons, List.not_mem_nil, or_false] at hv; (repeat (first | (subst hv; rfl) | (rcases hv with hv | hv; (subst hv; rfl)))))) (by decide)) (by (repeat' constructor)) rfl ?nx114
    rintro v L' ⟨bo, rfl, rfl⟩
    refine G.q (Quiet.assign rfl) rfl (G.nil ?_)
    refine G.slMakeN 3 2 (b := bo) (xs := ([(3, (x.path, zx)), (4, (parentZ x.path, zx))] : List Ev).flatMap evC) (by (repeat' constructor)) rfl rfl ?_
    refine G.then_n (G.ret ?_)
    have hc : createZ τ x zx = (kidT ({ τ with nodes := sset τ.nodes x.path (newN x zx) } : Tr) (parentZ x.path) x.num zx, [(3, (x.path, zx)), (4, (parentZ x.path, zx))]) := by unfold createZ; rw [if_pos ⟨h2_16, hI.some_iff hup⟩, if_pos (hI.some_iff hal)]
    refine G.trCast (τ' := (createZ τ x zx).1) (by (repeat' constructor)) (by rw [hc]) ?_
    refine G.slCast (T := 75) (sz := 3) (m' := (createZ τ x zx).2.length) (xs' := (createZ τ x zx).2.flatMap evC) (by (repeat' constructor)) (by rw [hc]; rfl) (by first | (rw [hc]; done) | (rw [hc]; rfl)) ?_
    exact G.done (l := [.tmp 6]) rfl rfl ⟨_, _, by rw [hc]; rfl, rfl⟩ (by (repeat' constructor)) (by (repeat' constructor))

end Go.Proofs.YtnnbelmpbmfdnaaGreatDoor
/- Own work, by program: package tree: erase, part, Apply and what is told of a tree: walked. -/

namespace Go.Proofs.YtnnbelmpbmfdnaaGreatDoor
open Go
theorem trkeys_spec (mb : Option Nat) : Fn Tryz.prog 48 #[.map mb] [] fun v L => ∃ b, v = .func (.func 98) #[] #[vptr b] ∧ L = [ptc b [.map mb] 107] :=
  keysS_fn Tryz.keysS mb
theorem trsorted_spec {b r : Nat} {T : TypeId} (m : NmM) (hnd : (m.map (·.1)).Nodup) (hbd : ∀ x ∈ m, x.1.length ≤ 60) (hlen : m.length ≤ 1099511627776) :
    Fn Tryz.prog 47 #[.func (.func 98) #[] #[vptr b]] [ptc b [.map (some r)] T, mapR r (ndE m)] fun v L => (∃ a c, v = .slice a m.length c) ∧ L = [slR 9 1 v m.length (strs (sortS (m.map (·.1)))), mapR r (ndE m)] :=
  sortedS_fn Tryz.keysS Tryz.sortedS Tryz.sortS rfl (enters_of Tryz.func97 rfl rfl) (enters_of Tryz.func98 rfl rfl) Tryz.underlying9 (enc := ndV) (b := b) (r := r) (T := T) m hnd (fun x hx => Nat.le_trans (hbd x hx) (by decide)) hlen
theorem sortstr_spec (v : Value) (n : Nat) (xs : List Bs) (hn : n < 4611686018427387904) : Fn Tryz.prog 97 #[v] [slR 9 1 v n (strs xs)] fun u L => u = .tuple #[] ∧ L = [slR 9 1 v n (strs (sortS xs))] :=
  sortS_fn Tryz.sortS 9 v n xs hn
set_option maxRecDepth 100000 in
theorem trkids0_spec (t rn : Nat) (vs vz : Value) (m : NmM) (p : Bs) (hlen : ∀ x ∈ m, x.1.length ≤ 60) (hm0 : m.length ≤ 1099511627776) : Fn Tryz.prog 49 #[vptr t, vstr p] [ptc t [.map (some rn), vs, vz] 110, mapR rn (ndE m)] fun v L => (∃ a c, v = .slice a (kidsM m p).length c) ∧ L = [ptc t [.map (some rn), vs, vz] 110, mapR rn (ndE m), slR 9 1 v (kidsM m p).length (strs (sortS (kidsM m p)))] := by
 refine Fn.intro (vs := [vptr t, vstr p]) Tryz.func49 rfl rfl ?_
 intro F W
 refine G.seq (G.region (G.q (Quiet.assign rfl) rfl (G.nil (G.then_n (G.seq (G.add (slR_nil 9 1) (G.region (G.q (Quiet.assign rfl) rfl (G.nil (G.then_n (G.seq (G.seq (G.region (G.q (Quiet.move rfl) rfl (G.q (Quiet.nilp rfl) rfl (G.q (Quiet.fieldAddr rfl fo_110_0) rfl ?_))))))))))))))))
 refine G.q (Quiet.load rfl ag_107 (by (repeat' constructor)) (rfl)) rfl ?_
 refine G.op (OpSpec.range (f := fun x : Bs × Nm => (vstr x.1, ndV x.2)) (m := m) rfl Tryz.underlying107 ?he7) (by (repeat' constructor)) rfl ?nx8
 case he7 => rfl
 rintro v L' ⟨it, rfl, rfl⟩
 refine G.nil (G.then_n (G.block ?_))
 refine G.loopK (ι := NmM × Value × (List Bs)) (fun q E => (5, q.2.1) :: E) (fun q => [rangeR (fun x : Bs × Nm => (vstr x.1, ndV x.2)) it rn m q.1, slR 9 1 q.2.1 q.2.2.length (strs q.2.2)]) (fun q => q.2.2 = kidsM q.1 p ∧ (∃ rest, m.Perm (q.1 ++ rest)) ∧ ∃ a c, q.2.1 = .slice a q.2.2.length c) (fun q => m.length - q.1.length) ([], .slice none 0 0, []) (ts := [1, 4, 11]) (.cons rfl (.cons rfl (.cons rfl (.nil)))) (⟨rfl, ⟨m, .refl _⟩, none, 0, rfl⟩) ⟨rfl, rfl, rfl, rfl, trivial⟩ (by (repeat' constructor)) ?_
 rintro ⟨ss, u, acc⟩ ⟨hacc, ⟨rest, hm⟩, au, cu, hu⟩
 dsimp only
 dsimp only at hacc hm hu
 subst hu
 have hml := hm.length_eq
 rw [List.length_append] at hml
 have hkl := kidsM_len ss p
 rw [← hacc] at hkl
 refine G.seq (G.region ?_)
 refine G.op (OpSpec.next rfl) (by (repeat' constructor)) rfl ?nx10
 rintro v L' (⟨rfl, hp3, rfl⟩ | ⟨x, rest3, rfl, hp3, rfl⟩)
 ·refine G.rangeDone (by (repeat' constructor)) ?_
  have hperm : acc.Perm (kidsM m p) := by rw [hacc]; unfold kidsM; exact ((hp3.symm.filter _).map _)
  have hpl := hperm.length_eq
  have hsp := sortS_of_perm hperm
  have hkm := kidsM_len m p
  refine G.q (Quiet.extract rfl rfl) rfl (G.nil (G.then_n (G.seq (G.condF rfl (G.exit (G.then_e (G.then_e (G.blk_e (G.then_n (G.seq (G.region (G.q (Quiet.move rfl) rfl ?_))))))))))))
  refine G.op (OpSpec.call Tryz.func97 rfl rfl (vs := [_]) rfl (sortstr_spec _ acc.length acc (by omega))) (by (repeat' constructor)) rfl ?nx14
  rintro v L' ⟨rfl, rfl⟩; rw [hsp, hpl]
  refine G.nil (G.then_n (G.seq (G.region (G.q (Quiet.move rfl) rfl (G.q (Quiet.assign rfl) rfl (G.nil (G.then_n (G.ret ?_))))))))
  exact G.done (l := [.tmp 4]) rfl rfl ⟨⟨_, _, rfl⟩, rfl⟩ (by (repeat' constructor)) (by (repeat' constructor))
 ·refine G.q (Quiet.extract rfl rfl) rfl (G.nil (G.then_n (G.seq (G.condT rfl (G.skip (G.then_n (G.block (G.seq (G.region ?_)))))))))
  refine G.q (Quiet.entryE (v := .tuple #[vstr x.1, ndV x.2]) rfl (by (repeat' constructor)) rfl) rfl ?_
  refine G.q (Quiet.extract rfl rfl) rfl (G.q (Quiet.assign rfl) rfl (G.nil ?_))
  have hxm : x ∈ m := hp3.mem_iff.2 (by simp)
  have hxl := hlen x hxm
  refine G.then_n (G.seq (G.region (G.q (Quiet.move rfl) rfl (G.q (Quiet.strne rfl rfl) rfl (G.q (Quiet.move rfl) rfl ?_)))))
  refine G.ndec (t := 18) rfl (fun h5_18 => ?_) (fun h5_18 => ?_)
  ·refine G.kNT (t := 17) rfl h5_18 (G.grun (t := 18) rfl rfl rfl (G.q (Quiet.move rfl) rfl (G.grun (t := 18) rfl rfl rfl ?_)))
   refine G.op (OpSpec.call Tryz.func99 rfl rfl (vs := [_]) rfl (parent_spec x.1 (by omega))) (by (repeat' constructor)) rfl ?nx22
   rintro v L' ⟨rfl, rfl⟩
   refine G.grun (t := 18) rfl rfl rfl (G.q (Quiet.move rfl) rfl (G.grun (t := 18) rfl rfl rfl (G.q (Quiet.streq rfl rfl) rfl (G.q (Quiet.pickT rfl rfl) rfl (G.nil (G.then_n ?_))))))
   refine G.condD rfl (fun h23 => ?_) (fun h23 => ?_)
   ·refine G.region (G.q (Quiet.move rfl) rfl (G.q (Quiet.move rfl) rfl ?_))
    refine G.op (OpSpec.call Tryz.func100 rfl rfl (vs := [_]) rfl (base_spec x.1 (by omega))) (by (repeat' constructor)) rfl ?nx27
    rintro v L' ⟨rfl, rfl⟩
    refine G.op (OpSpec.buildSlice1 (vs := [_]) el_40 ze_9 rfl rfl rfl rfl rfl (by decide)) (by (repeat' constructor)) rfl ?nx29
    rintro v L' ⟨b6_3, rfl, rfl⟩
    refine G.op (OpSpec.append1 rfl rfl rfl el_40 ze_9 rfl rfl ?c31 ?c32 (Nat.le_refl _) ?c33 (by decide)) (by (repeat' constructor)) rfl ?nx34
    case c31 => (first | (simp [isCell]; done) | (simp [isCell, setAll, Value.cells]; done))
    case c32 => rfl
    case c33 => omega
    rintro v L' ⟨⟨a6_4, c6_4, rfl⟩, rfl⟩
    refine G.q (Quiet.assign rfl) rfl (G.nil (G.blk_n (G.then_n ?_)))
    have hl := hp3.length_eq
    simp at hl
    have hsel : ¬ x.1 = [47] ∧ parentZ x.1 = p := ⟨h5_18, h23⟩
    rw [show strs acc ++ [vstr (baseZ x.1)] = strs (acc ++ [baseZ x.1]) by simp [strs], show acc.length + 1 = (acc ++ [baseZ x.1]).length by simp]
    exact G.roundK ((ss ++ [x], .slice a6_4 (acc ++ [baseZ x.1]).length c6_4, acc ++ [baseZ x.1])) (⟨by dsimp only; rw [hacc]; unfold kidsM; rw [List.filter_append, List.map_append]; simp [hsel], ⟨_, by simpa using hp3⟩, _, _, rfl⟩) (by dsimp only; simp; omega) ⟨rfl, rfl, rfl, rfl, trivial⟩ (by (repeat' constructor)) (by ((repeat (apply Have.cons; (repeat (first | exact Pick.here | apply Pick.there)))); apply Have.base; repeat' constructor))
   ·refine G.skip (G.blk_n (G.then_n ?_))
    have hl := hp3.length_eq
    simp at hl
    have hsel : ¬ x.1 = [47] → ¬ parentZ x.1 = p := fun g1 g2 => h23 g2
    exact G.roundK ((ss ++ [x], .slice au acc.length cu, acc)) (⟨by dsimp only; rw [hacc]; unfold kidsM; rw [List.filter_append, List.map_append]; simp; exact hsel, ⟨_, by simpa using hp3⟩, _, _, rfl⟩) (by dsimp only; simp; omega) ⟨rfl, rfl, rfl, rfl, trivial⟩ (by (repeat' constructor)) (by ((repeat (apply Have.cons; (repeat (first | exact Pick.here | apply Pick.there)))); apply Have.base; repeat' constructor))
  ·refine G.kNF (t := 17) rfl h5_18 (G.gskip (t := 18) rfl rfl rfl rfl (G.gskip (t := 18) rfl rfl rfl rfl (G.gskip (t := 18) rfl rfl rfl rfl (G.gskip (t := 18) rfl rfl rfl rfl (G.q (Quiet.pickF rfl rfl) rfl (G.nil (G.then_n (G.condF rfl (G.skip (G.blk_n (G.then_n ?_)))))))))))
   have hl := hp3.length_eq
   simp at hl
   have hsel : ¬ x.1 = [47] → ¬ parentZ x.1 = p := fun g1 g2 => g1 h5_18
   exact G.roundK ((ss ++ [x], .slice au acc.length cu, acc)) (⟨by dsimp only; rw [hacc]; unfold kidsM; rw [List.filter_append, List.map_append]; simp; exact hsel, ⟨_, by simpa using hp3⟩, _, _, rfl⟩) (by dsimp only; simp; omega) ⟨rfl, rfl, rfl, rfl, trivial⟩ (by (repeat' constructor)) (by ((repeat (apply Have.cons; (repeat (first | exact Pick.here | apply Pick.there)))); apply Have.base; repeat' constructor))

set_option maxRecDepth 100000 in
theorem trpaths_spec (t : Nat) (τ : Tr) (N : Nat) (ho : τ.Ok N) (hN : N ≤ 1099511627776) : Fn Tryz.prog 15 #[vptr t] [treeR t τ] fun v L => (∃ a c, v = .slice a (pathsZ τ).length c) ∧ L = [treeR t τ, slR 9 1 v (pathsZ τ).length (strs (pathsZ τ))] := by
 refine Fn.intro (vs := [vptr t]) Tryz.func15 rfl rfl ?_
 intro F W
 refine G.trOpen (τ := τ) (by (repeat' constructor)) fun rn rs m s hI => ?_
 have hlen := hI.len ho
 have hfew := ho.few
 have hpz : (pathsZ τ).length = τ.nodes.length := List.length_map _
 refine G.seq (G.region (G.q (Quiet.assign rfl) rfl (G.nil (G.then_n (G.seq (G.region (G.q (Quiet.move rfl) rfl (G.q (Quiet.nilp rfl) rfl (G.q (Quiet.fieldAddr rfl fo_110_0) rfl ?_)))))))))
 refine G.q (Quiet.load rfl ag_107 (by (repeat' constructor)) (rfl)) rfl ?_
 refine G.op (OpSpec.call Tryz.func48 rfl rfl (vs := [_]) rfl (trkeys_spec _)) (by (repeat' constructor)) rfl ?nx6
 rintro v L' ⟨bk, rfl, rfl⟩
 refine G.op (OpSpec.call Tryz.func47 rfl rfl (vs := [_]) rfl (trsorted_spec m hI.keys (hI.plen ho) (by omega))) (by (repeat' constructor)) rfl ?nx8
 rintro v L' ⟨⟨ap, cp, rfl⟩, rfl⟩; rw [hI.paths ho, show m.length = (pathsZ τ).length by omega]
 refine G.q (Quiet.assign rfl) rfl (G.nil (G.then_n (G.ret ?_)))
 refine G.trFold (τ := τ) hI (by (repeat' constructor)) rfl rfl rfl ?_
 exact G.done (l := [.tmp 2]) rfl rfl ⟨⟨_, _, rfl⟩, rfl⟩ (by (repeat' constructor)) (by (repeat' constructor))

set_option maxRecDepth 100000 in
theorem trlayzx_spec (t : Nat) (τ : Tr) (z : Int) : Fn Tryz.prog 77 #[vptr t, vint z] [treeR t τ] fun v L => v = .tuple #[] ∧ L = [treeR t (zxT τ z)] := by
 refine Fn.intro (vs := [vptr t, vint z]) Tryz.func77 rfl rfl ?_
 intro F W
 refine G.trOpen (τ := τ) (by (repeat' constructor)) fun rn rs m s hI => ?_
 refine G.region (G.q (Quiet.move rfl) rfl (G.q (Quiet.move rfl) rfl (G.q (Quiet.nilp rfl) rfl (G.q (Quiet.fieldAddr rfl fo_110_2) rfl ?_))))
 refine G.op (OpSpec.store rfl rfl rfl sz_3 ?c5 ?c6) (by (repeat' constructor)) rfl ?nx7
 case c5 => first | decide | (simp; omega) | simp
 case c6 => exact nfz0 _ _
 rintro v L' rfl
 refine G.nil (G.done_n ?_)
 refine G.trFold (τ := (zxT τ z)) (hI.zx z) (by (repeat' constructor)) rfl rfl rfl ?_
 exact G.done (l := []) rfl rfl ⟨rfl, rfl⟩ (by (repeat' constructor)) (by (repeat' constructor))

set_option maxRecDepth 100000 in
theorem trzxid_spec (t : Nat) (τ : Tr) : Fn Tryz.prog 22 #[vptr t] [treeR t τ] fun v L => v = vint τ.zx ∧ L = [treeR t τ] := by
 refine Fn.intro (vs := [vptr t]) Tryz.func22 rfl rfl ?_
 intro F W
 refine G.trOpen (τ := τ) (by (repeat' constructor)) fun rn rs m s hI => ?_
 refine G.seq (G.region (G.q (Quiet.assign rfl) rfl (G.nil (G.then_n (G.seq (G.region (G.q (Quiet.move rfl) rfl (G.q (Quiet.nilp rfl) rfl (G.q (Quiet.fieldAddr rfl fo_110_2) rfl ?_)))))))))
 refine G.q (Quiet.load rfl ag_3 (by (repeat' constructor)) (rfl)) rfl ?_
 refine G.q (Quiet.assign rfl) rfl (G.nil (G.then_n (G.ret ?_)))
 refine G.trFold (τ := τ) hI (by (repeat' constructor)) rfl rfl rfl ?_
 exact G.done (l := [.tmp 2]) rfl rfl ⟨rfl, rfl⟩ (by (repeat' constructor)) (by (repeat' constructor))

set_option maxRecDepth 100000 in
theorem trerase_spec (t : Nat) (τ : Tr) (x : Pt) (zx : Int) (p : HP) (hx : PtA p x) (N : Nat) (ho : τ.Ok N) (hN : N ≤ 1099511627776) : Fn Tryz.prog 95 #[vptr t, .agg (ptC x).toArray, vint zx] [treeR t τ] fun v L => ∃ a c, v = .slice a (eraseZ τ x zx).2.length c ∧ L = [treeR t (eraseZ τ x zx).1, slR 75 3 v (eraseZ τ x zx).2.length ((eraseZ τ x zx).2.flatMap evC)] := by
 refine Fn.intro (vs := [vptr t, .agg (ptC x).toArray, vint zx]) Tryz.func95 rfl rfl ?_
 intro F W
 have hfew := hx.few
 have hpl := hx.plen
 have hpar := parent_len x.path
 have hpz : (pathsZ τ).length = τ.nodes.length := List.length_map _
 have hofew := ho.few
 refine G.seq (G.region ?_)
 refine G.op (OpSpec.box rfl) (by (repeat' constructor)) rfl ?nx1
 rintro v L' ⟨bx, rfl, rfl⟩
 refine G.q (Quiet.assign rfl) rfl (G.nil ?_)
 refine G.ptCast (b := bx) (l' := ptC x) (by (repeat' constructor)) rfl ?_
 refine G.then_n (G.seq (G.seq (G.region (G.q (Quiet.fieldAddr rfl fo_37_1) rfl ?_))))
 refine G.q (Quiet.load rfl ag_9 (by (repeat' constructor)) (rfl)) rfl ?_
 refine G.op (OpSpec.call Tryz.func119 rfl rfl (vs := [_]) rfl (able_spec x.path hpl)) (by (repeat' constructor)) rfl ?nx6
 rintro v L' ⟨rfl, rfl⟩
 refine G.q (Quiet.not rfl) rfl (G.nil (G.then_n ?_))
 refine G.condN rfl (fun h16 => ?_) (fun h16 => ?_)
 ·refine G.seq (G.region (G.q (Quiet.assign rfl) rfl (G.nil (G.then_n (G.ret (G.then_r (G.add (slR_nil 75 3) ?_)))))))
  have hc : eraseZ τ x zx = (τ, []) := by unfold eraseZ; rw [if_neg h16]
  refine G.trCast (τ' := (eraseZ τ x zx).1) (by (repeat' constructor)) (by rw [hc]) ?_
  refine G.slCast (T := 75) (sz := 3) (m' := (eraseZ τ x zx).2.length) (xs' := (eraseZ τ x zx).2.flatMap evC) (by (repeat' constructor)) (by (rw [hc]; try rfl)) (by (rw [hc]; try rfl)) ?_
  exact G.done (l := [.tmp 6]) rfl rfl ⟨_, _, by (rw [hc]; try rfl), rfl⟩ (by (repeat' constructor)) (by (repeat' constructor))
 ·refine G.skip (G.then_n (G.seq (G.region (G.q (Quiet.fieldAddr rfl fo_37_1) rfl ?_))))
  refine G.q (Quiet.load rfl ag_9 (by (repeat' constructor)) (rfl)) rfl ?_
  refine G.op (OpSpec.call Tryz.func99 rfl rfl (vs := [_]) rfl (parent_spec x.path (by omega))) (by (repeat' constructor)) rfl ?nx12
  rintro v L' ⟨rfl, rfl⟩
  refine G.q (Quiet.assign rfl) rfl (G.nil (G.then_n (G.seq ?_)))
  refine G.trOpen (τ := τ) (by (repeat' constructor)) fun rn rs m s hI => ?_
  refine G.draw [] [[0, 1, 2, 3, 4, 5, 6, 7, 8, 9, 10, 11]] mixed (by kernel_rfl) ?_
  refine Phases.go [] (by (repeat' constructor)) ?_
  rcases hal : alook m x.path with _ | px
  ·have hth : ¬ thereT τ x.path := hI.none_iff.1 hal
   refine D.qw [1, 2, 3, 6, 7, 8, 9, 10, 11] rfl (by kernel_rfl) (Quiet.move rfl) ?_
   refine D.qw [2, 3, 6, 7, 8, 9, 10, 11] rfl (by kernel_rfl) (Quiet.nilp rfl) ?_
   refine D.qw [3, 6, 7, 8, 9, 10, 11] rfl (by kernel_rfl) (Quiet.fieldAddr rfl fo_110_0) ?_
   refine D.qw [6, 7, 8, 9, 10, 11] rfl (by kernel_rfl) (Quiet.load rfl ag_107 (by (repeat' constructor)) (rfl)) ?_
   refine D.qw [5, 6, 7, 8, 9, 10, 11] rfl (by kernel_rfl) (Quiet.fieldAddr rfl fo_37_1) ?_
   refine D.qw [6, 7, 8, 9, 10, 11] rfl (by kernel_rfl) (Quiet.load rfl ag_9 (by (repeat' constructor)) (rfl)) ?_
   refine D.qw [7, 8, 9, 10, 11] rfl (by kernel_rfl) (Quiet.lookupOkN (m := m) (enc := ndV) (KeyLaw.str Tryz.underlying9) hal rfl rfl Tryz.underlying107 ze_102 (by (repeat' constructor)) rfl) ?_
   refine D.qw [8, 9, 10, 11] rfl (by kernel_rfl) (Quiet.move rfl) ?_
   refine D.qw [10, 11] rfl (by kernel_rfl) (Quiet.extract rfl rfl) ?_
   refine D.qw [11] rfl (by kernel_rfl) (Quiet.extract rfl rfl) ?_
   refine D.qw [11] rfl (by kernel_rfl) (Quiet.assign rfl) ?_
   refine D.qw [] rfl (by kernel_rfl) (Quiet.assign rfl) ?_
   refine D.ph (Phases.fin ?_)
   refine G.trFold (τ := τ) hI (by (repeat' constructor)) rfl rfl rfl ?_
   refine G.then_n (G.seq (G.seq (G.region (G.q (Quiet.move rfl) rfl ?_))))
   refine G.op (OpSpec.call Tryz.func15 rfl rfl (vs := [_]) rfl (trpaths_spec t τ N ho hN)) (by (repeat' constructor)) rfl ?nx24
   rintro v L' ⟨⟨ap, cp, rfl⟩, rfl⟩
   refine G.q (Quiet.slen rfl Tryz.underlying40 rfl) rfl (G.q (Quiet.move rfl) rfl (G.nil (G.then_n (G.block ?_))))
   refine G.trCast (τ' := cutL τ x.path ((pathsZ τ).take 0)) (by (repeat' constructor)) (by rw [List.take_zero, cutL_nil]) ?_
   refine G.loopK (ι := Nat) (fun q E => (33, vint q) :: E) (fun q => [treeR t (cutL τ x.path ((pathsZ τ).take q))]) (fun q => q ≤ (pathsZ τ).length) (fun q => (pathsZ τ).length - q) (0) (ts := [0, 2, 4, 6, 7, 9, 31, 32]) (.cons rfl (.cons rfl (.cons rfl (.cons rfl (.cons rfl (.cons rfl (.cons rfl (.cons rfl (.nil))))))))) (Nat.zero_le _) ⟨rfl, rfl, rfl, rfl, rfl, rfl, rfl, rfl, rfl, trivial⟩ (by (repeat' constructor)) ?_
   rintro i hi
   refine G.seq (G.region (G.q (Quiet.int rfl rfl rfl) rfl (G.nil (G.then_n (G.seq ?_)))))
   refine G.condD rfl (fun h34 => ?_) (fun h34 => ?_)
   ·have hi2 : i < (pathsZ τ).length := by omega
    refine G.slShape (v := .slice ap _ cp) (by (repeat' constructor)) (by omega) fun bp cp' e0 mp _ => ?_
    simp only [Value.slice.injEq, true_and] at e0
    obtain ⟨rfl, rfl⟩ := e0
    refine G.skip (G.then_n (G.seq (G.block (G.seq (G.region ?_)))))
    refine G.q (Quiet.indexAddr rfl rfl el_40 (by omega)) rfl ?_
    refine G.q (Quiet.loadSl (v := vstr (pathsZ τ)[i]) (i := i * 1) rfl ag_9 (by (repeat' constructor)) (by simp [hi2])) rfl ?_
    refine G.q (Quiet.assign rfl) rfl (G.nil (G.then_n (G.seq (G.region (G.q (Quiet.move rfl) rfl (G.q (Quiet.fieldAddr rfl fo_37_1) rfl ?_))))))
    refine G.q (Quiet.load rfl ag_9 (by (repeat' constructor)) (rfl)) rfl ?_
    refine G.q (Quiet.streq rfl rfl) rfl (G.q (Quiet.move rfl) rfl ?_)
    refine G.dec (t := 41) rfl (fun h8_41 => ?_) (fun h8_41 => ?_)
    ·refine G.kDT (t := 40) rfl h8_41 (G.gskip (t := 41) rfl rfl rfl rfl (G.gskip (t := 41) rfl rfl rfl rfl (G.gskip (t := 41) rfl rfl rfl rfl (G.gskip (t := 41) rfl rfl rfl rfl (G.q (Quiet.pickT rfl rfl) rfl (G.nil (G.then_n (G.condT rfl ?_))))))))
     have hhit : hitT (pathsZ τ)[i] x.path = true := by unfold hitT; rw [decide_eq_true h8_41]; rfl
     refine G.trOpen (τ := (cutL τ x.path ((pathsZ τ).take i))) (by (repeat' constructor)) fun rn rs m s hI => ?_
     refine G.region (G.q (Quiet.move rfl) rfl (G.q (Quiet.nilp rfl) rfl (G.q (Quiet.fieldAddr rfl fo_110_0) rfl ?_)))
     refine G.q (Quiet.load rfl ag_107 (by (repeat' constructor)) (rfl)) rfl ?_
     refine G.q (Quiet.move rfl) rfl ?_
     refine G.op (OpSpec.mapDel (m := m) (enc := ndV) (k := (pathsZ τ)[i]) (KeyLaw.str Tryz.underlying9) rfl rfl rfl Tryz.underlying107 ?he39) (by (repeat' constructor)) rfl ?nx40
     case he39 => rfl
     rintro v L' rfl
     refine G.nil ?_
     refine G.bigDel (f := inN) (pathsZ τ)[i] (by (repeat' constructor)) ?_
     refine G.trFold (τ := ({ (cutL τ x.path ((pathsZ τ).take i)) with nodes := (cutL τ x.path ((pathsZ τ).take i)).nodes.filter fun y => !decide (y.1 = (pathsZ τ)[i]) } : Tr)) (hI.del (pathsZ τ)[i]) (by (repeat' constructor)) rfl rfl rfl ?_
     refine G.blk_n (G.then_n (G.region ?_))
     refine G.q (Quiet.add rfl rfl (by omega)) rfl ?_
     refine G.q (Quiet.move rfl) rfl (G.nil (G.then_n ?_))
     refine G.trCast (τ' := cutL τ x.path ((pathsZ τ).take (i + 1))) (by (repeat' constructor)) (by rw [List.take_succ_eq_append_getElem hi2, cutL_hit τ _ hhit]) ?_
     exact G.roundK (i + 1) (by omega) (by omega) ⟨rfl, rfl, rfl, rfl, rfl, rfl, rfl, rfl, rfl, trivial⟩ (by (repeat' constructor)) (by ((repeat (apply Have.cons; (repeat (first | exact Pick.here | apply Pick.there)))); apply Have.base; repeat' constructor))
    ·refine G.kDF (t := 40) rfl h8_41 (G.grun (t := 41) rfl rfl rfl (G.q (Quiet.move rfl) rfl (G.grun (t := 41) rfl rfl rfl (G.q (Quiet.fieldAddr rfl fo_37_1) rfl (G.grun (t := 41) rfl rfl rfl ?_)))))
     refine G.q (Quiet.load rfl ag_9 (by (repeat' constructor)) (rfl)) rfl ?_
     refine G.grun (t := 41) rfl rfl rfl ?_
     refine G.op (OpSpec.call Tryz.func121 rfl rfl (vs := [_, _]) rfl (under_spec (pathsZ τ)[i] x.path (by omega))) (by (repeat' constructor)) rfl ?nx44
     rintro v L' ⟨rfl, rfl⟩
     refine G.q (Quiet.pickF rfl rfl) rfl (G.nil (G.then_n ?_))
     refine G.condD rfl (fun h46 => ?_) (fun h46 => ?_)
     ·have hhit : hitT (pathsZ τ)[i] x.path = true := by unfold hitT; rw [decide_eq_true h46, Bool.or_true]
      refine G.trOpen (τ := (cutL τ x.path ((pathsZ τ).take i))) (by (repeat' constructor)) fun rn rs m s hI => ?_
      refine G.region (G.q (Quiet.move rfl) rfl (G.q (Quiet.nilp rfl) rfl (G.q (Quiet.fieldAddr rfl fo_110_0) rfl ?_)))
      refine G.q (Quiet.load rfl ag_107 (by (repeat' constructor)) (rfl)) rfl ?_
      refine G.q (Quiet.move rfl) rfl ?_
      refine G.op (OpSpec.mapDel (m := m) (enc := ndV) (k := (pathsZ τ)[i]) (KeyLaw.str Tryz.underlying9) rfl rfl rfl Tryz.underlying107 ?he50) (by (repeat' constructor)) rfl ?nx51
      case he50 => rfl
      rintro v L' rfl
      refine G.nil ?_
      refine G.bigDel (f := inN) (pathsZ τ)[i] (by (repeat' constructor)) ?_
      refine G.trFold (τ := ({ (cutL τ x.path ((pathsZ τ).take i)) with nodes := (cutL τ x.path ((pathsZ τ).take i)).nodes.filter fun y => !decide (y.1 = (pathsZ τ)[i]) } : Tr)) (hI.del (pathsZ τ)[i]) (by (repeat' constructor)) rfl rfl rfl ?_
      refine G.blk_n (G.then_n (G.region ?_))
      refine G.q (Quiet.add rfl rfl (by omega)) rfl ?_
      refine G.q (Quiet.move rfl) rfl (G.nil (G.then_n ?_))
      refine G.trCast (τ' := cutL τ x.path ((pathsZ τ).take (i + 1))) (by (repeat' constructor)) (by rw [List.take_succ_eq_append_getElem hi2, cutL_hit τ _ hhit]) ?_
      exact G.roundK (i + 1) (by omega) (by omega) ⟨rfl, rfl, rfl, rfl, rfl, rfl, rfl, rfl, rfl, trivial⟩ (by (repeat' constructor)) (by ((repeat (apply Have.cons; (repeat (first | exact Pick.here | apply Pick.there)))); apply Have.base; repeat' constructor))
     ·have hhit : hitT (pathsZ τ)[i] x.path = false := by unfold hitT; rw [decide_eq_false h8_41, decide_eq_false h46]; rfl
      refine G.skip (G.blk_n (G.then_n (G.region ?_)))
      refine G.q (Quiet.add rfl rfl (by omega)) rfl ?_
      refine G.q (Quiet.move rfl) rfl (G.nil (G.then_n ?_))
      refine G.trCast (τ' := cutL τ x.path ((pathsZ τ).take (i + 1))) (by (repeat' constructor)) (by rw [List.take_succ_eq_append_getElem hi2, cutL_skip τ _ hhit]) ?_
      exact G.roundK (i + 1) (by omega) (by omega) ⟨rfl, rfl, rfl, rfl, rfl, rfl, rfl, rfl, rfl, trivial⟩ (by (repeat' constructor)) (by ((repeat (apply Have.cons; (repeat (first | exact Pick.here | apply Pick.there)))); apply Have.base; repeat' constructor))
   ·have hii : i = (pathsZ τ).length := by omega
    rw [hii, List.take_length, cutL_all]
    refine G.exit (G.then_e (G.then_e (G.blk_e (G.then_n (G.seq (G.region (G.q (Quiet.move rfl) rfl (G.q (Quiet.move rfl) rfl (G.q (Quiet.fieldAddr rfl fo_37_5) rfl ?_)))))))))
    refine G.q (Quiet.load rfl ag_3 (by (repeat' constructor)) (rfl)) rfl ?_
    refine G.q (Quiet.move rfl) rfl ?_
    refine G.op (OpSpec.call Tryz.func120 rfl rfl (vs := [_, _, _, _]) rfl (trkid_spec t (cutT τ x.path) (parentZ x.path) x.num zx)) (by (repeat' constructor)) rfl ?nx59
    rintro v L' ⟨rfl, rfl⟩
    refine G.nil (G.then_n (G.seq (G.seq (G.region (G.q (Quiet.move rfl) rfl (G.q (Quiet.not rfl) rfl (G.nil (G.then_n (G.condT rfl (G.seq (G.region (G.q (Quiet.assign rfl) rfl (G.nil (G.then_n (G.ret (G.then_r (G.add (slR_nil 75 3) ?_)))))))))))))))))
    have hc : eraseZ τ x zx = ((kidT (cutT τ x.path) (parentZ x.path) x.num zx), []) := by unfold eraseZ; rw [if_pos h16, if_neg hth]
    refine G.trCast (τ' := (eraseZ τ x zx).1) (by (repeat' constructor)) (by rw [hc]) ?_
    refine G.slCast (T := 75) (sz := 3) (m' := (eraseZ τ x zx).2.length) (xs' := (eraseZ τ x zx).2.flatMap evC) (by (repeat' constructor)) (by (rw [hc]; try rfl)) (by (rw [hc]; try rfl)) ?_
    exact G.done (l := [.tmp 6]) rfl rfl ⟨_, _, by (rw [hc]; try rfl), rfl⟩ (by (repeat' constructor)) (by (repeat' constructor))
  ·have hth : thereT τ x.path := hI.some_iff hal
   refine D.qw [1, 2, 3, 6, 7, 8, 9, 10, 11] rfl (by kernel_rfl) (Quiet.move rfl) ?_
   refine D.qw [2, 3, 6, 7, 8, 9, 10, 11] rfl (by kernel_rfl) (Quiet.nilp rfl) ?_
   refine D.qw [3, 6, 7, 8, 9, 10, 11] rfl (by kernel_rfl) (Quiet.fieldAddr rfl fo_110_0) ?_
   refine D.qw [6, 7, 8, 9, 10, 11] rfl (by kernel_rfl) (Quiet.load rfl ag_107 (by (repeat' constructor)) (rfl)) ?_
   refine D.qw [5, 6, 7, 8, 9, 10, 11] rfl (by kernel_rfl) (Quiet.fieldAddr rfl fo_37_1) ?_
   refine D.qw [6, 7, 8, 9, 10, 11] rfl (by kernel_rfl) (Quiet.load rfl ag_9 (by (repeat' constructor)) (rfl)) ?_
   refine D.qw [7, 8, 9, 10, 11] rfl (by kernel_rfl) (Quiet.lookupOkY (m := m) (enc := ndV) (KeyLaw.str Tryz.underlying9) hal rfl rfl Tryz.underlying107 ze_102 (by (repeat' constructor)) rfl) ?_
   refine D.qw [8, 9, 10, 11] rfl (by kernel_rfl) (Quiet.move rfl) ?_
   refine D.qw [10, 11] rfl (by kernel_rfl) (Quiet.extract rfl rfl) ?_
   refine D.qw [11] rfl (by kernel_rfl) (Quiet.extract rfl rfl) ?_
   refine D.qw [11] rfl (by kernel_rfl) (Quiet.assign rfl) ?_
   refine D.qw [] rfl (by kernel_rfl) (Quiet.assign rfl) ?_
   refine D.ph (Phases.fin ?_)
   refine G.trFold (τ := τ) hI (by (repeat' constructor)) rfl rfl rfl ?_
   refine G.then_n (G.seq (G.seq (G.region (G.q (Quiet.move rfl) rfl ?_))))
   refine G.op (OpSpec.call Tryz.func15 rfl rfl (vs := [_]) rfl (trpaths_spec t τ N ho hN)) (by (repeat' constructor)) rfl ?nx74
   rintro v L' ⟨⟨ap, cp, rfl⟩, rfl⟩
   refine G.q (Quiet.slen rfl Tryz.underlying40 rfl) rfl (G.q (Quiet.move rfl) rfl (G.nil (G.then_n (G.block ?_))))
   refine G.trCast (τ' := cutL τ x.path ((pathsZ τ).take 0)) (by (repeat' constructor)) (by rw [List.take_zero, cutL_nil]) ?_
   refine G.loopK (ι := Nat) (fun q E => (33, vint q) :: E) (fun q => [treeR t (cutL τ x.path ((pathsZ τ).take q))]) (fun q => q ≤ (pathsZ τ).length) (fun q => (pathsZ τ).length - q) (0) (ts := [0, 2, 4, 6, 7, 9, 31, 32]) (.cons rfl (.cons rfl (.cons rfl (.cons rfl (.cons rfl (.cons rfl (.cons rfl (.cons rfl (.nil))))))))) (Nat.zero_le _) ⟨rfl, rfl, rfl, rfl, rfl, rfl, rfl, rfl, rfl, trivial⟩ (by (repeat' constructor)) ?_
   rintro i hi
   refine G.seq (G.region (G.q (Quiet.int rfl rfl rfl) rfl (G.nil (G.then_n (G.seq ?_)))))
   refine G.condD rfl (fun h34 => ?_) (fun h34 => ?_)
   ·have hi2 : i < (pathsZ τ).length := by omega
    refine G.slShape (v := .slice ap _ cp) (by (repeat' constructor)) (by omega) fun bp cp' e0 mp _ => ?_
    simp only [Value.slice.injEq, true_and] at e0
    obtain ⟨rfl, rfl⟩ := e0
    refine G.skip (G.then_n (G.seq (G.block (G.seq (G.region ?_)))))
    refine G.q (Quiet.indexAddr rfl rfl el_40 (by omega)) rfl ?_
    refine G.q (Quiet.loadSl (v := vstr (pathsZ τ)[i]) (i := i * 1) rfl ag_9 (by (repeat' constructor)) (by simp [hi2])) rfl ?_
    refine G.q (Quiet.assign rfl) rfl (G.nil (G.then_n (G.seq (G.region (G.q (Quiet.move rfl) rfl (G.q (Quiet.fieldAddr rfl fo_37_1) rfl ?_))))))
    refine G.q (Quiet.load rfl ag_9 (by (repeat' constructor)) (rfl)) rfl ?_
    refine G.q (Quiet.streq rfl rfl) rfl (G.q (Quiet.move rfl) rfl ?_)
    refine G.dec (t := 41) rfl (fun h8_41 => ?_) (fun h8_41 => ?_)
    ·refine G.kDT (t := 40) rfl h8_41 (G.gskip (t := 41) rfl rfl rfl rfl (G.gskip (t := 41) rfl rfl rfl rfl (G.gskip (t := 41) rfl rfl rfl rfl (G.gskip (t := 41) rfl rfl rfl rfl (G.q (Quiet.pickT rfl rfl) rfl (G.nil (G.then_n (G.condT rfl ?_))))))))
     have hhit : hitT (pathsZ τ)[i] x.path = true := by unfold hitT; rw [decide_eq_true h8_41]; rfl
     refine G.trOpen (τ := (cutL τ x.path ((pathsZ τ).take i))) (by (repeat' constructor)) fun rn rs m s hI => ?_
     refine G.region (G.q (Quiet.move rfl) rfl (G.q (Quiet.nilp rfl) rfl (G.q (Quiet.fieldAddr rfl fo_110_0) rfl ?_)))
     refine G.q (Quiet.load rfl ag_107 (by (repeat' constructor)) (rfl)) rfl ?_
     refine G.q (Quiet.move rfl) rfl ?_
     refine G.op (OpSpec.mapDel (m := m) (enc := ndV) (k := (pathsZ τ)[i]) (KeyLaw.str Tryz.underlying9) rfl rfl rfl Tryz.underlying107 ?he89) (by (repeat' constructor)) rfl ?nx90
     case he89 => rfl
     rintro v L' rfl
     refine G.nil ?_
     refine G.bigDel (f := inN) (pathsZ τ)[i] (by (repeat' constructor)) ?_
     refine G.trFold (τ := ({ (cutL τ x.path ((pathsZ τ).take i)) with nodes := (cutL τ x.path ((pathsZ τ).take i)).nodes.filter fun y => !decide (y.1 = (pathsZ τ)[i]) } : Tr)) (hI.del (pathsZ τ)[i]) (by (repeat' constructor)) rfl rfl rfl ?_
     refine G.blk_n (G.then_n (G.region ?_))
     refine G.q (Quiet.add rfl rfl (by omega)) rfl ?_
     refine G.q (Quiet.move rfl) rfl (G.nil (G.then_n ?_))
     refine G.trCast (τ' := cutL τ x.path ((pathsZ τ).take (i + 1))) (by (repeat' constructor)) (by rw [List.take_succ_eq_append_getElem hi2, cutL_hit τ _ hhit]) ?_
     exact G.roundK (i + 1) (by omega) (by omega) ⟨rfl, rfl, rfl, rfl, rfl, rfl, rfl, rfl, rfl, trivial⟩ (by (repeat' constructor)) (by ((repeat (apply Have.cons; (repeat (first | exact Pick.here | apply Pick.there)))); apply Have.base; repeat' constructor))
    ·refine G.kDF (t := 40) rfl h8_41 (G.grun (t := 41) rfl rfl rfl (G.q (Quiet.move rfl) rfl (G.grun (t := 41) rfl rfl rfl (G.q (Quiet.fieldAddr rfl fo_37_1) rfl (G.grun (t := 41) rfl rfl rfl ?_)))))
     refine G.q (Quiet.load rfl ag_9 (by (repeat' constructor)) (rfl)) rfl ?_
     refine G.grun (t := 41) rfl rfl rfl ?_
     refine G.op (OpSpec.call Tryz.func121 rfl rfl (vs := [_, _]) rfl (under_spec (pathsZ τ)[i] x.path (by omega))) (by (repeat' constructor)) rfl ?nx94
     rintro v L' ⟨rfl, rfl⟩
     refine G.q (Quiet.pickF rfl rfl) rfl (G.nil (G.then_n ?_))
     refine G.condD rfl (fun h46 => ?_) (fun h46 => ?_)
     ·have hhit : hitT (pathsZ τ)[i] x.path = true := by unfold hitT; rw [decide_eq_true h46, Bool.or_true]
      refine G.trOpen (τ := (cutL τ x.path ((pathsZ τ).take i))) (by (repeat' constructor)) fun rn rs m s hI => ?_
      refine G.region (G.q (Quiet.move rfl) rfl (G.q (Quiet.nilp rfl) rfl (G.q (Quiet.fieldAddr rfl fo_110_0) rfl ?_)))
      refine G.q (Quiet.load rfl ag_107 (by (repeat' constructor)) (rfl)) rfl ?_
      refine G.q (Quiet.move rfl) rfl ?_
      refine G.op (OpSpec.mapDel (m := m) (enc := ndV) (k := (pathsZ τ)[i]) (KeyLaw.str Tryz.underlying9) rfl rfl rfl Tryz.underlying107 ?he100) (by (repeat' constructor)) rfl ?nx101
      case he100 => rfl
      rintro v L' rfl
      refine G.nil ?_
      refine G.bigDel (f := inN) (pathsZ τ)[i] (by (repeat' constructor)) ?_
      refine G.trFold (τ := ({ (cutL τ x.path ((pathsZ τ).take i)) with nodes := (cutL τ x.path ((pathsZ τ).take i)).nodes.filter fun y => !decide (y.1 = (pathsZ τ)[i]) } : Tr)) (hI.del (pathsZ τ)[i]) (by (repeat' constructor)) rfl rfl rfl ?_
      refine G.blk_n (G.then_n (G.region ?_))
      refine G.q (Quiet.add rfl rfl (by omega)) rfl ?_
      refine G.q (Quiet.move rfl) rfl (G.nil (G.then_n ?_))
      refine G.trCast (τ' := cutL τ x.path ((pathsZ τ).take (i + 1))) (by (repeat' constructor)) (by rw [List.take_succ_eq_append_getElem hi2, cutL_hit τ _ hhit]) ?_
      exact G.roundK (i + 1) (by omega) (by omega) ⟨rfl, rfl, rfl, rfl, rfl, rfl, rfl, rfl, rfl, trivial⟩ (by (repeat' constructor)) (by ((repeat (apply Have.cons; (repeat (first | exact Pick.here | apply Pick.there)))); apply Have.base; repeat' constructor))
     ·have hhit : hitT (pathsZ τ)[i] x.path = false := by unfold hitT; rw [decide_eq_false h8_41, decide_eq_false h46]; rfl
      refine G.skip (G.blk_n (G.then_n (G.region ?_)))
      refine G.q (Quiet.add rfl rfl (by omega)) rfl ?_
      refine G.q (Quiet.move rfl) rfl (G.nil (G.then_n ?_))
      refine G.trCast (τ' := cutL τ x.path ((pathsZ τ).take (i + 1))) (by (repeat' constructor)) (by rw [List.take_succ_eq_append_getElem hi2, cutL_skip τ _ hhit]) ?_
      exact G.roundK (i + 1) (by omega) (by omega) ⟨rfl, rfl, rfl, rfl, rfl, rfl, rfl, rfl, rfl, trivial⟩ (by (repeat' constructor)) (by ((repeat (apply Have.cons; (repeat (first | exact Pick.here | apply Pick.there)))); apply Have.base; repeat' constructor))
   ·have hii : i = (pathsZ τ).length := by omega
    rw [hii, List.take_length, cutL_all]
    refine G.exit (G.then_e (G.then_e (G.blk_e (G.then_n (G.seq (G.region (G.q (Quiet.move rfl) rfl (G.q (Quiet.move rfl) rfl (G.q (Quiet.fieldAddr rfl fo_37_5) rfl ?_)))))))))
    refine G.q (Quiet.load rfl ag_3 (by (repeat' constructor)) (rfl)) rfl ?_
    refine G.q (Quiet.move rfl) rfl ?_
    refine G.op (OpSpec.call Tryz.func120 rfl rfl (vs := [_, _, _, _]) rfl (trkid_spec t (cutT τ x.path) (parentZ x.path) x.num zx)) (by (repeat' constructor)) rfl ?nx109
    rintro v L' ⟨rfl, rfl⟩
    refine G.nil (G.then_n (G.seq (G.seq (G.region (G.q (Quiet.move rfl) rfl (G.q (Quiet.not rfl) rfl (G.nil (G.then_n (G.condF rfl (G.skip (G.then_n (G.seq (G.region (G.q (Quiet.fieldAddr rfl fo_37_1) rfl ?_))))))))))))))
    refine G.q (Quiet.load rfl ag_9 (by (repeat' constructor)) (rfl)) rfl ?_
    refine G.q (Quiet.move rfl) rfl ?_
    refine G.q (Quiet.build (us := [(0, _), (1, _), (2, _)]) fl_75 ze_75 rfl rfl (by simp [isCell])) rfl ?_
    refine G.op (OpSpec.buildSlice (vs := [_]) el_30 ze_75 rfl rfl rfl rfl (by first | (simp [Value.cells]; done) | (intro v hv; simp only [List.mem_cons, List.not_mem_nil, or_false] at hv; (repeat (first | (subst hv; rfl) | (rcases hv with hv | hv; (subst hv; rfl)))))) (by decide)) (by (repeat' constructor)) rfl ?nx117
    rintro v L' ⟨bo, rfl, rfl⟩
    refine G.q (Quiet.assign rfl) rfl (G.nil ?_)
    refine G.slMakeN 3 1 (b := bo) (xs := ([(2, (x.path, zx))] : List Ev).flatMap evC) (by (repeat' constructor)) rfl rfl ?_
    refine G.then_n (G.seq (G.seq ?_))
    refine G.trOpen (τ := (kidT (cutT τ x.path) (parentZ x.path) x.num zx)) (by (repeat' constructor)) fun rn rs m s hI => ?_
    refine G.region ?_
    rcases hup : alook m (parentZ x.path) with _ | pu
    ·refine G.q (Quiet.move rfl) rfl (G.q (Quiet.nilp rfl) rfl (G.q (Quiet.fieldAddr rfl fo_110_0) rfl ?_))
     refine G.q (Quiet.load rfl ag_107 (by (repeat' constructor)) (rfl)) rfl ?_
     refine G.q (Quiet.move rfl) rfl ?_
     refine G.q (Quiet.lookupN (m := m) (enc := ndV) (KeyLaw.str Tryz.underlying9) (hup) rfl rfl Tryz.underlying107 ze_102 (by (repeat' constructor)) rfl) rfl ?_
     refine G.q (Quiet.as (v' := .bool false) (by rfl) (Quiet.ptrne rfl rfl Tryz.underlying102)) rfl ?_
     refine G.nil (G.then_n (G.condF rfl (G.skip (G.then_n (G.seq (G.region (G.q (Quiet.move rfl) rfl (G.q (Quiet.assign rfl) rfl (G.nil (G.then_n (G.ret ?_)))))))))))
     have hc : eraseZ τ x zx = ((kidT (cutT τ x.path) (parentZ x.path) x.num zx), [(2, (x.path, zx))]) := by unfold eraseZ; rw [if_pos h16, if_pos hth, if_neg (fun g => hI.none_iff.1 hup (kid_there.2 g))]
     refine G.trFold (τ := (kidT (cutT τ x.path) (parentZ x.path) x.num zx)) hI (by (repeat' constructor)) rfl rfl rfl ?_
     refine G.trCast (τ' := (eraseZ τ x zx).1) (by (repeat' constructor)) (by rw [hc]) ?_
     refine G.slCast (T := 75) (sz := 3) (m' := (eraseZ τ x zx).2.length) (xs' := (eraseZ τ x zx).2.flatMap evC) (by (repeat' constructor)) (by (rw [hc]; try rfl)) (by (rw [hc]; try rfl)) ?_
     exact G.done (l := [.tmp 6]) rfl rfl ⟨_, _, by (rw [hc]; try rfl), rfl⟩ (by (repeat' constructor)) (by (repeat' constructor))
    ·refine G.q (Quiet.move rfl) rfl (G.q (Quiet.nilp rfl) rfl (G.q (Quiet.fieldAddr rfl fo_110_0) rfl ?_))
     refine G.q (Quiet.load rfl ag_107 (by (repeat' constructor)) (rfl)) rfl ?_
     refine G.q (Quiet.move rfl) rfl ?_
     refine G.q (Quiet.lookupY (m := m) (enc := ndV) (KeyLaw.str Tryz.underlying9) (hup) rfl rfl Tryz.underlying107 ze_102 (by (repeat' constructor)) rfl) rfl ?_
     refine G.q (Quiet.as (v' := .bool true) (by rfl) (Quiet.ptrne rfl rfl Tryz.underlying102)) rfl ?_
     refine G.nil (G.then_n (G.condT rfl (G.region (G.q (Quiet.move rfl) rfl (G.q (Quiet.move rfl) rfl (G.q (Quiet.move rfl) rfl ?_))))))
     refine G.q (Quiet.build (us := [(0, _), (1, _), (2, _)]) fl_75 ze_75 rfl rfl (by simp [isCell])) rfl ?_
     refine G.op (OpSpec.buildSlice (vs := [_]) el_30 ze_75 rfl rfl rfl rfl (by first | (simp [Value.cells]; done) | (intro v hv; simp only [List.mem_cons, List.not_mem_nil, or_false] at hv; (repeat (first | (subst hv; rfl) | (rcases hv with hv | hv; (subst hv; rfl)))))) (by decide)) (by (repeat' constructor)) rfl ?nx136
     rintro v L' ⟨b16_4, rfl, rfl⟩
     refine G.op (OpSpec.append1 rfl rfl rfl el_30 ze_75 rfl rfl ?c138 ?c139 (Nat.le_refl _) ?c140 (by decide)) (by (repeat' constructor)) rfl ?nx141
     case c138 => (first | (simp [isCell]; done) | (simp [isCell, setAll, Value.cells]; done))
     case c139 => rfl
     case c140 => omega
     rintro v L' ⟨⟨a16_5, c16_5, rfl⟩, rfl⟩
     refine G.q (Quiet.assign rfl) rfl (G.nil (G.then_n (G.seq (G.region (G.q (Quiet.move rfl) rfl (G.q (Quiet.assign rfl) rfl (G.nil (G.then_n (G.ret ?_)))))))))
     have hc : eraseZ τ x zx = ((kidT (cutT τ x.path) (parentZ x.path) x.num zx), [(2, (x.path, zx)), (4, (parentZ x.path, zx))]) := by unfold eraseZ; rw [if_pos h16, if_pos hth, if_pos (kid_there.1 (hI.some_iff hup))]
     refine G.trFold (τ := (kidT (cutT τ x.path) (parentZ x.path) x.num zx)) hI (by (repeat' constructor)) rfl rfl rfl ?_
     refine G.trCast (τ' := (eraseZ τ x zx).1) (by (repeat' constructor)) (by rw [hc]) ?_
     refine G.slCast (T := 75) (sz := 3) (m' := (eraseZ τ x zx).2.length) (xs' := (eraseZ τ x zx).2.flatMap evC) (by (repeat' constructor)) (by (rw [hc]; try rfl)) (by (rw [hc]; try rfl)) ?_
     exact G.done (l := [.tmp 6]) rfl rfl ⟨_, _, by (rw [hc]; try rfl), rfl⟩ (by (repeat' constructor)) (by (repeat' constructor))

set_option maxRecDepth 100000 in
theorem trpart_spec (t : Nat) (τ : Tr) (x : Pt) (zx : Int) (p : HP) (hx : PtA p x) (N : Nat) (ho : τ.Ok N) (hN : N ≤ 1099511627776) : Fn Tryz.prog 46 #[vptr t, .agg (ptC x).toArray, vint zx] [treeR t τ, p] fun v L => ∃ a c, v = .slice a (partZ τ x zx).2.length c ∧ L = [treeR t (partZ τ x zx).1, p, slR 75 3 v (partZ τ x zx).2.length ((partZ τ x zx).2.flatMap evC)] := by
 refine Fn.intro (vs := [vptr t, .agg (ptC x).toArray, vint zx]) Tryz.func46 rfl rfl ?_
 intro F W
 have hfew := hx.few
 have hpl := hx.plen
 refine G.seq (G.region ?_)
 refine G.op (OpSpec.box rfl) (by (repeat' constructor)) rfl ?nx1
 rintro v L' ⟨bx, rfl, rfl⟩
 refine G.q (Quiet.assign rfl) rfl (G.nil ?_)
 refine G.ptCast (b := bx) (l' := ptC x) (by (repeat' constructor)) rfl ?_
 refine G.then_n (G.seq ?_)
 refine G.trOpen (τ := τ) (by (repeat' constructor)) fun rn rs m s hI => ?_
 refine G.draw [] [[0, 1, 2, 3, 4, 5, 6, 7]] mixed (by kernel_rfl) ?_
 refine Phases.go [] (by (repeat' constructor)) ?_
 rcases hal : alook m x.path with _ | px
 ·refine D.qw [1, 2, 3, 6, 7] rfl (by kernel_rfl) (Quiet.move rfl) ?_
  refine D.qw [2, 3, 6, 7] rfl (by kernel_rfl) (Quiet.nilp rfl) ?_
  refine D.qw [3, 6, 7] rfl (by kernel_rfl) (Quiet.fieldAddr rfl fo_110_0) ?_
  refine D.qw [6, 7] rfl (by kernel_rfl) (Quiet.load rfl ag_107 (by (repeat' constructor)) (rfl)) ?_
  refine D.qw [5, 6, 7] rfl (by kernel_rfl) (Quiet.fieldAddr rfl fo_37_1) ?_
  refine D.qw [6, 7] rfl (by kernel_rfl) (Quiet.load rfl ag_9 (by (repeat' constructor)) (rfl)) ?_
  refine D.qw [7] rfl (by kernel_rfl) (Quiet.lookupN (m := m) (enc := ndV) (KeyLaw.str Tryz.underlying9) (hal) rfl rfl Tryz.underlying107 ze_102 (by (repeat' constructor)) rfl) ?_
  refine D.qw [] rfl (by kernel_rfl) (Quiet.assign rfl) ?_
  refine D.ph (Phases.fin (G.then_n (G.seq (G.block (G.seq (G.region (G.q (Quiet.fieldAddr rfl fo_37_0) rfl ?_)))))))
  refine G.q (Quiet.load rfl ag_3 (by (repeat' constructor)) (rfl)) rfl ?_
  refine G.q (Quiet.int rfl rfl rfl) rfl (G.q (Quiet.assign rfl) rfl (G.nil (G.then_n ?_)))
  refine G.condD rfl (fun h15 => ?_) (fun h15 => ?_)
  ·refine G.trFold (τ := τ) hI (by (repeat' constructor)) rfl rfl rfl ?_
   refine G.seq (G.region (G.q (Quiet.move rfl) rfl ?_))
   refine G.q (Quiet.loadAs (vs := ptC x) rfl ag_37 (by (repeat' constructor)) (by simp [ptC]) rfl) rfl ?_
   refine G.q (Quiet.move rfl) rfl ?_
   refine G.op (OpSpec.call Tryz.func94 rfl rfl (vs := [_, _, _]) rfl (trcreate_spec t τ x zx p hx)) (by (repeat' constructor)) rfl ?nx17
   rintro v L' ⟨a3, c3, rfl, rfl⟩
   refine G.q (Quiet.assign rfl) rfl (G.nil (G.then_n (G.ret (G.blk_r (G.then_r ?_)))))
   have hc : partZ τ x zx = createZ τ x zx := by unfold partZ; rw [if_pos h15]
   refine G.trCast (τ' := (partZ τ x zx).1) (by (repeat' constructor)) (by rw [hc]) ?_
   refine G.slCast (T := 75) (sz := 3) (m' := (partZ τ x zx).2.length) (xs' := (partZ τ x zx).2.flatMap evC) (by (repeat' constructor)) (by (rw [hc]; try rfl)) (by (rw [hc]; try rfl)) ?_
   exact G.done (l := [.tmp 6]) rfl rfl ⟨_, _, by (rw [hc]; try rfl), rfl⟩ (by (repeat' constructor)) (by (repeat' constructor))
  ·refine G.seq (G.region (G.q (Quiet.fieldAddr rfl fo_37_0) rfl ?_))
   refine G.q (Quiet.load rfl ag_3 (by (repeat' constructor)) (rfl)) rfl ?_
   refine G.q (Quiet.int rfl rfl rfl) rfl (G.q (Quiet.assign rfl) rfl (G.nil (G.then_n ?_)))
   refine G.condD rfl (fun h23 => ?_) (fun h23 => ?_)
   ·refine G.trFold (τ := τ) hI (by (repeat' constructor)) rfl rfl rfl ?_
    refine G.seq (G.region (G.q (Quiet.move rfl) rfl ?_))
    refine G.q (Quiet.loadAs (vs := ptC x) rfl ag_37 (by (repeat' constructor)) (by simp [ptC]) rfl) rfl ?_
    refine G.q (Quiet.move rfl) rfl ?_
    refine G.op (OpSpec.call Tryz.func95 rfl rfl (vs := [_, _, _]) rfl (trerase_spec t τ x zx p hx N ho hN)) (by (repeat' constructor)) rfl ?nx25
    rintro v L' ⟨a5, c5, rfl, rfl⟩
    refine G.q (Quiet.assign rfl) rfl (G.nil (G.then_n (G.ret (G.blk_r (G.then_r ?_)))))
    have hc : partZ τ x zx = eraseZ τ x zx := by unfold partZ; rw [if_neg h15, if_pos h23]
    refine G.trCast (τ' := (partZ τ x zx).1) (by (repeat' constructor)) (by rw [hc]) ?_
    refine G.slCast (T := 75) (sz := 3) (m' := (partZ τ x zx).2.length) (xs' := (partZ τ x zx).2.flatMap evC) (by (repeat' constructor)) (by (rw [hc]; try rfl)) (by (rw [hc]; try rfl)) ?_
    exact G.done (l := [.tmp 6]) rfl rfl ⟨_, _, by (rw [hc]; try rfl), rfl⟩ (by (repeat' constructor)) (by (repeat' constructor))
   ·refine G.seq (G.region (G.q (Quiet.fieldAddr rfl fo_37_0) rfl ?_))
    refine G.q (Quiet.load rfl ag_3 (by (repeat' constructor)) (rfl)) rfl ?_
    refine G.q (Quiet.int rfl rfl rfl) rfl (G.q (Quiet.move rfl) rfl ?_)
    refine G.dec (t := 35) rfl (fun h6_35 => ?_) (fun h6_35 => ?_)
    ·refine G.kDT (t := 34) rfl h6_35 (G.grun (t := 35) rfl rfl rfl (G.q (Quiet.move rfl) rfl (G.grun (t := 35) rfl rfl rfl ?_)))
     refine G.q (Quiet.as (v' := .bool false) (by rfl) (Quiet.ptrne rfl rfl Tryz.underlying102)) rfl ?_
     refine G.q (Quiet.pickT rfl rfl) rfl (G.q (Quiet.assign rfl) rfl (G.nil (G.then_n (G.condF rfl (G.seq (G.region (G.q (Quiet.fieldAddr rfl fo_37_0) rfl ?_)))))))
     refine G.q (Quiet.load rfl ag_3 (by (repeat' constructor)) (rfl)) rfl ?_
     refine G.q (Quiet.int rfl rfl rfl) rfl (G.q (Quiet.move rfl) rfl ?_)
     refine G.dec (t := 64) rfl (fun h9_64 => ?_) (fun h9_64 => ?_)
     ·refine G.kDT (t := 63) rfl h9_64 (G.grun (t := 64) rfl rfl rfl (G.q (Quiet.move rfl) rfl (G.grun (t := 64) rfl rfl rfl ?_)))
      refine G.q (Quiet.as (v' := .bool false) (by rfl) (Quiet.ptrne rfl rfl Tryz.underlying102)) rfl ?_
      refine G.q (Quiet.pickT rfl rfl) rfl (G.q (Quiet.assign rfl) rfl (G.nil (G.then_n (G.condF rfl (G.skip (G.blk_n (G.then_n (G.seq (G.region (G.q (Quiet.assign rfl) rfl (G.nil (G.then_n (G.ret ?_)))))))))))))
      refine G.trFold (τ := τ) hI (by (repeat' constructor)) rfl rfl rfl ?_
      refine G.add (slR_nil 75 3) ?_
      have hc : partZ τ x zx = (τ, []) := by unfold partZ; rw [if_neg h15, if_neg h23, if_neg (fun g => hI.none_iff.1 hal g.2), if_neg (fun g => hI.none_iff.1 hal g.2)]
      refine G.trCast (τ' := (partZ τ x zx).1) (by (repeat' constructor)) (by rw [hc]) ?_
      refine G.slCast (T := 75) (sz := 3) (m' := (partZ τ x zx).2.length) (xs' := (partZ τ x zx).2.flatMap evC) (by (repeat' constructor)) (by (rw [hc]; try rfl)) (by (rw [hc]; try rfl)) ?_
      exact G.done (l := [.tmp 6]) rfl rfl ⟨_, _, by (rw [hc]; try rfl), rfl⟩ (by (repeat' constructor)) (by (repeat' constructor))
     ·refine G.kDF (t := 63) rfl h9_64 (G.gskip (t := 64) rfl rfl rfl rfl (G.gskip (t := 64) rfl rfl rfl rfl (G.q (Quiet.pickF rfl rfl) rfl (G.q (Quiet.assign rfl) rfl (G.nil (G.then_n (G.condF rfl (G.skip (G.blk_n (G.then_n (G.seq (G.region (G.q (Quiet.assign rfl) rfl (G.nil (G.then_n (G.ret ?_))))))))))))))))
      refine G.trFold (τ := τ) hI (by (repeat' constructor)) rfl rfl rfl ?_
      refine G.add (slR_nil 75 3) ?_
      have hc : partZ τ x zx = (τ, []) := by unfold partZ; rw [if_neg h15, if_neg h23, if_neg (fun g => hI.none_iff.1 hal g.2), if_neg (fun g => h9_64 g.1)]
      refine G.trCast (τ' := (partZ τ x zx).1) (by (repeat' constructor)) (by rw [hc]) ?_
      refine G.slCast (T := 75) (sz := 3) (m' := (partZ τ x zx).2.length) (xs' := (partZ τ x zx).2.flatMap evC) (by (repeat' constructor)) (by (rw [hc]; try rfl)) (by (rw [hc]; try rfl)) ?_
      exact G.done (l := [.tmp 6]) rfl rfl ⟨_, _, by (rw [hc]; try rfl), rfl⟩ (by (repeat' constructor)) (by (repeat' constructor))
    ·refine G.kDF (t := 34) rfl h6_35 (G.gskip (t := 35) rfl rfl rfl rfl (G.gskip (t := 35) rfl rfl rfl rfl (G.q (Quiet.pickF rfl rfl) rfl (G.q (Quiet.assign rfl) rfl (G.nil (G.then_n (G.condF rfl (G.seq (G.region (G.q (Quiet.fieldAddr rfl fo_37_0) rfl ?_))))))))))
     refine G.q (Quiet.load rfl ag_3 (by (repeat' constructor)) (rfl)) rfl ?_
     refine G.q (Quiet.int rfl rfl rfl) rfl (G.q (Quiet.move rfl) rfl ?_)
     refine G.dec (t := 64) rfl (fun h9_64 => ?_) (fun h9_64 => ?_)
     ·refine G.kDT (t := 63) rfl h9_64 (G.grun (t := 64) rfl rfl rfl (G.q (Quiet.move rfl) rfl (G.grun (t := 64) rfl rfl rfl ?_)))
      refine G.q (Quiet.as (v' := .bool false) (by rfl) (Quiet.ptrne rfl rfl Tryz.underlying102)) rfl ?_
      refine G.q (Quiet.pickT rfl rfl) rfl (G.q (Quiet.assign rfl) rfl (G.nil (G.then_n (G.condF rfl (G.skip (G.blk_n (G.then_n (G.seq (G.region (G.q (Quiet.assign rfl) rfl (G.nil (G.then_n (G.ret ?_)))))))))))))
      refine G.trFold (τ := τ) hI (by (repeat' constructor)) rfl rfl rfl ?_
      refine G.add (slR_nil 75 3) ?_
      have hc : partZ τ x zx = (τ, []) := by unfold partZ; rw [if_neg h15, if_neg h23, if_neg (fun g => h6_35 g.1), if_neg (fun g => hI.none_iff.1 hal g.2)]
      refine G.trCast (τ' := (partZ τ x zx).1) (by (repeat' constructor)) (by rw [hc]) ?_
      refine G.slCast (T := 75) (sz := 3) (m' := (partZ τ x zx).2.length) (xs' := (partZ τ x zx).2.flatMap evC) (by (repeat' constructor)) (by (rw [hc]; try rfl)) (by (rw [hc]; try rfl)) ?_
      exact G.done (l := [.tmp 6]) rfl rfl ⟨_, _, by (rw [hc]; try rfl), rfl⟩ (by (repeat' constructor)) (by (repeat' constructor))
     ·refine G.kDF (t := 63) rfl h9_64 (G.gskip (t := 64) rfl rfl rfl rfl (G.gskip (t := 64) rfl rfl rfl rfl (G.q (Quiet.pickF rfl rfl) rfl (G.q (Quiet.assign rfl) rfl (G.nil (G.then_n (G.condF rfl (G.skip (G.blk_n (G.then_n (G.seq (G.region (G.q (Quiet.assign rfl) rfl (G.nil (G.then_n (G.ret ?_))))))))))))))))
      refine G.trFold (τ := τ) hI (by (repeat' constructor)) rfl rfl rfl ?_
      refine G.add (slR_nil 75 3) ?_
      have hc : partZ τ x zx = (τ, []) := by unfold partZ; rw [if_neg h15, if_neg h23, if_neg (fun g => h6_35 g.1), if_neg (fun g => h9_64 g.1)]
      refine G.trCast (τ' := (partZ τ x zx).1) (by (repeat' constructor)) (by rw [hc]) ?_
      refine G.slCast (T := 75) (sz := 3) (m' := (partZ τ x zx).2.length) (xs' := (partZ τ x zx).2.flatMap evC) (by (repeat' constructor)) (by (rw [hc]; try rfl)) (by (rw [hc]; try rfl)) ?_
      exact G.done (l := [.tmp 6]) rfl rfl ⟨_, _, by (rw [hc]; try rfl), rfl⟩ (by (repeat' constructor)) (by (repeat' constructor))
 ·refine D.qw [1, 2, 3, 6, 7] rfl (by kernel_rfl) (Quiet.move rfl) ?_
  refine D.qw [2, 3, 6, 7] rfl (by kernel_rfl) (Quiet.nilp rfl) ?_
  refine D.qw [3, 6, 7] rfl (by kernel_rfl) (Quiet.fieldAddr rfl fo_110_0) ?_
  refine D.qw [6, 7] rfl (by kernel_rfl) (Quiet.load rfl ag_107 (by (repeat' constructor)) (rfl)) ?_
  refine D.qw [5, 6, 7] rfl (by kernel_rfl) (Quiet.fieldAddr rfl fo_37_1) ?_
  refine D.qw [6, 7] rfl (by kernel_rfl) (Quiet.load rfl ag_9 (by (repeat' constructor)) (rfl)) ?_
  refine D.qw [7] rfl (by kernel_rfl) (Quiet.lookupY (m := m) (enc := ndV) (KeyLaw.str Tryz.underlying9) (hal) rfl rfl Tryz.underlying107 ze_102 (by (repeat' constructor)) rfl) ?_
  refine D.qw [] rfl (by kernel_rfl) (Quiet.assign rfl) ?_
  refine D.ph (Phases.fin (G.then_n (G.seq (G.block (G.seq (G.region (G.q (Quiet.fieldAddr rfl fo_37_0) rfl ?_)))))))
  refine G.q (Quiet.load rfl ag_3 (by (repeat' constructor)) (rfl)) rfl ?_
  refine G.q (Quiet.int rfl rfl rfl) rfl (G.q (Quiet.assign rfl) rfl (G.nil (G.then_n ?_)))
  refine G.condD rfl (fun h15 => ?_) (fun h15 => ?_)
  ·refine G.trFold (τ := τ) hI (by (repeat' constructor)) rfl rfl rfl ?_
   refine G.seq (G.region (G.q (Quiet.move rfl) rfl ?_))
   refine G.q (Quiet.loadAs (vs := ptC x) rfl ag_37 (by (repeat' constructor)) (by simp [ptC]) rfl) rfl ?_
   refine G.q (Quiet.move rfl) rfl ?_
   refine G.op (OpSpec.call Tryz.func94 rfl rfl (vs := [_, _, _]) rfl (trcreate_spec t τ x zx p hx)) (by (repeat' constructor)) rfl ?nx59
   rintro v L' ⟨a3, c3, rfl, rfl⟩
   refine G.q (Quiet.assign rfl) rfl (G.nil (G.then_n (G.ret (G.blk_r (G.then_r ?_)))))
   have hc : partZ τ x zx = createZ τ x zx := by unfold partZ; rw [if_pos h15]
   refine G.trCast (τ' := (partZ τ x zx).1) (by (repeat' constructor)) (by rw [hc]) ?_
   refine G.slCast (T := 75) (sz := 3) (m' := (partZ τ x zx).2.length) (xs' := (partZ τ x zx).2.flatMap evC) (by (repeat' constructor)) (by (rw [hc]; try rfl)) (by (rw [hc]; try rfl)) ?_
   exact G.done (l := [.tmp 6]) rfl rfl ⟨_, _, by (rw [hc]; try rfl), rfl⟩ (by (repeat' constructor)) (by (repeat' constructor))
  ·refine G.seq (G.region (G.q (Quiet.fieldAddr rfl fo_37_0) rfl ?_))
   refine G.q (Quiet.load rfl ag_3 (by (repeat' constructor)) (rfl)) rfl ?_
   refine G.q (Quiet.int rfl rfl rfl) rfl (G.q (Quiet.assign rfl) rfl (G.nil (G.then_n ?_)))
   refine G.condD rfl (fun h23 => ?_) (fun h23 => ?_)
   ·refine G.trFold (τ := τ) hI (by (repeat' constructor)) rfl rfl rfl ?_
    refine G.seq (G.region (G.q (Quiet.move rfl) rfl ?_))
    refine G.q (Quiet.loadAs (vs := ptC x) rfl ag_37 (by (repeat' constructor)) (by simp [ptC]) rfl) rfl ?_
    refine G.q (Quiet.move rfl) rfl ?_
    refine G.op (OpSpec.call Tryz.func95 rfl rfl (vs := [_, _, _]) rfl (trerase_spec t τ x zx p hx N ho hN)) (by (repeat' constructor)) rfl ?nx67
    rintro v L' ⟨a5, c5, rfl, rfl⟩
    refine G.q (Quiet.assign rfl) rfl (G.nil (G.then_n (G.ret (G.blk_r (G.then_r ?_)))))
    have hc : partZ τ x zx = eraseZ τ x zx := by unfold partZ; rw [if_neg h15, if_pos h23]
    refine G.trCast (τ' := (partZ τ x zx).1) (by (repeat' constructor)) (by rw [hc]) ?_
    refine G.slCast (T := 75) (sz := 3) (m' := (partZ τ x zx).2.length) (xs' := (partZ τ x zx).2.flatMap evC) (by (repeat' constructor)) (by (rw [hc]; try rfl)) (by (rw [hc]; try rfl)) ?_
    exact G.done (l := [.tmp 6]) rfl rfl ⟨_, _, by (rw [hc]; try rfl), rfl⟩ (by (repeat' constructor)) (by (repeat' constructor))
   ·refine G.seq (G.region (G.q (Quiet.fieldAddr rfl fo_37_0) rfl ?_))
    refine G.q (Quiet.load rfl ag_3 (by (repeat' constructor)) (rfl)) rfl ?_
    refine G.q (Quiet.int rfl rfl rfl) rfl (G.q (Quiet.move rfl) rfl ?_)
    refine G.dec (t := 35) rfl (fun h6_35 => ?_) (fun h6_35 => ?_)
    ·refine G.kDT (t := 34) rfl h6_35 (G.grun (t := 35) rfl rfl rfl (G.q (Quiet.move rfl) rfl (G.grun (t := 35) rfl rfl rfl ?_)))
     refine G.q (Quiet.as (v' := .bool true) (by rfl) (Quiet.ptrne rfl rfl Tryz.underlying102)) rfl ?_
     refine G.q (Quiet.pickT rfl rfl) rfl (G.q (Quiet.assign rfl) rfl (G.nil (G.then_n (G.condT rfl (G.seq ?_)))))
     refine G.bigTake hal (by (repeat' constructor)) ?_
     refine G.ndOpen (x := (x.path, px)) (by (repeat' constructor)) ?_
     refine G.draw [10, 14, 18] [[0, 1, 2, 3, 4, 5, 6, 7, 8, 9, 10, 11, 12, 13, 14], [15, 16, 17, 18]] mixed (by kernel_rfl) ?_
     refine Phases.go [ptc bx _ _] (by (repeat' constructor)) ?_
     refine D.qw [8, 9, 10, 11, 12, 13, 14] rfl (by kernel_rfl) (Quiet.move rfl) ?_
     refine D.q rfl (by kernel_rfl) (Quiet.move rfl) ?_
     refine D.q rfl (by kernel_rfl) (Quiet.move rfl) ?_
     refine D.qw [4, 8, 9, 10, 11, 12, 13, 14] rfl (by kernel_rfl) (Quiet.fieldAddr rfl fo_37_2) ?_
     refine D.qw [8, 9, 10, 11, 12, 13, 14] rfl (by kernel_rfl) (Quiet.load rfl ag_9 (by (repeat' constructor)) (rfl)) ?_
     refine D.q rfl (by kernel_rfl) (Quiet.fieldAddr rfl fo_37_5) ?_
     refine D.q rfl (by kernel_rfl) (Quiet.load rfl ag_3 (by (repeat' constructor)) (rfl)) ?_
     refine D.q rfl (by kernel_rfl) (Quiet.move rfl) ?_
     refine D.qw [9, 10, 11, 12, 13, 14] rfl (by kernel_rfl) (Quiet.nilp rfl) ?_
     refine D.qw [10, 11, 12, 13, 14] rfl (by kernel_rfl) (Quiet.fieldAddr rfl fo_106_0) ?_
     refine D.h rfl (by kernel_rfl) (OpSpec.store rfl rfl rfl sz_9 ?c80 ?c81) (by (repeat' constructor)) ?nx82
     case c80 => simp [ndC]
     case c81 => exact nfz0 _ _
     rintro v L' rfl
     refine D.qw [12, 13, 14] rfl (by kernel_rfl) (Quiet.nilp rfl) ?_
     refine D.qw [13, 14] rfl (by kernel_rfl) (Quiet.fieldAddr rfl fo_106_2) ?_
     refine D.qw [14] rfl (by kernel_rfl) (Quiet.fieldAddr rfl fo_43_3) ?_
     refine D.h rfl (by kernel_rfl) (OpSpec.store rfl rfl rfl sz_3 ?c86 ?c87) (by (repeat' constructor)) ?nx88
     case c86 => simp [ndC]
     case c87 => exact nfz0 _ _
     rintro v L' rfl
     refine D.ph ?_
     refine Phases.go [] (by (repeat' constructor)) ?_
     refine D.qw [16, 17, 18] rfl (by kernel_rfl) (Quiet.nilp rfl) ?_
     refine D.qw [17, 18] rfl (by kernel_rfl) (Quiet.fieldAddr rfl fo_106_2) ?_
     refine D.qw [18] rfl (by kernel_rfl) (Quiet.fieldAddr rfl fo_43_1) ?_
     refine D.h rfl (by kernel_rfl) (OpSpec.store rfl rfl rfl sz_3 ?c92 ?c93) (by (repeat' constructor)) ?nx94
     case c92 => simp [ndC]
     case c93 => exact nfz0 _ _
     rintro v L' rfl
     refine D.ph (Phases.fin ?_)
     refine G.ndFold (x := (x.path, (px.1, (px.2.1, setN x.data x.num zx px.2.2)))) (by (repeat' constructor)) rfl rfl rfl rfl ?_
     refine G.bigPut (f := inN) (m := m) x.path ((x.path, (px.1, (px.2.1, setN x.data x.num zx px.2.2)))).2 rfl (by (repeat' constructor)) ?_
     refine G.trFold (τ := ({ τ with nodes := amod τ.nodes x.path (setN x.data x.num zx) } : Tr)) (hI.mod hal (setN x.data x.num zx) (y := ((x.path, (px.1, (px.2.1, setN x.data x.num zx px.2.2)))).2) rfl) (by (repeat' constructor)) rfl (ndE_set (y := ((x.path, (px.1, (px.2.1, setN x.data x.num zx px.2.2)))).2) hal rfl).symm rfl ?_
     refine G.then_n (G.seq (G.region (G.q (Quiet.fieldAddr rfl fo_37_1) rfl ?_)))
     refine G.q (Quiet.load rfl ag_9 (by (repeat' constructor)) (rfl)) rfl ?_
     refine G.q (Quiet.move rfl) rfl ?_
     refine G.q (Quiet.build (us := [(0, _), (1, _), (2, _)]) fl_75 ze_75 rfl rfl (by simp [isCell])) rfl ?_
     refine G.op (OpSpec.buildSlice (vs := [_]) el_30 ze_75 rfl rfl rfl rfl (by first | (simp [Value.cells]; done) | (intro v hv; simp only [List.mem_cons, List.not_mem_nil, or_false] at hv; (repeat (first | (subst hv; rfl) | (rcases hv with hv | hv; (subst hv; rfl)))))) (by decide)) (by (repeat' constructor)) rfl ?nx99
     rintro v L' ⟨bo, rfl, rfl⟩
     refine G.q (Quiet.assign rfl) rfl (G.nil ?_)
     refine G.slMakeN 3 1 (b := bo) (xs := ([(3, (x.path, zx))] : List Ev).flatMap evC) (by (repeat' constructor)) rfl rfl ?_
     refine G.then_n (G.ret (G.blk_r (G.then_r ?_)))
     have hc : partZ τ x zx = (({ τ with nodes := amod τ.nodes x.path (setN x.data x.num zx) } : Tr), [(3, (x.path, zx))]) := by unfold partZ; rw [if_neg h15, if_neg h23, if_pos ⟨h6_35, hI.some_iff hal⟩]
     refine G.trCast (τ' := (partZ τ x zx).1) (by (repeat' constructor)) (by rw [hc]) ?_
     refine G.slCast (T := 75) (sz := 3) (m' := (partZ τ x zx).2.length) (xs' := (partZ τ x zx).2.flatMap evC) (by (repeat' constructor)) (by (rw [hc]; try rfl)) (by (rw [hc]; try rfl)) ?_
     exact G.done (l := [.tmp 6]) rfl rfl ⟨_, _, by (rw [hc]; try rfl), rfl⟩ (by (repeat' constructor)) (by (repeat' constructor))
    ·refine G.kDF (t := 34) rfl h6_35 (G.gskip (t := 35) rfl rfl rfl rfl (G.gskip (t := 35) rfl rfl rfl rfl (G.q (Quiet.pickF rfl rfl) rfl (G.q (Quiet.assign rfl) rfl (G.nil (G.then_n (G.condF rfl (G.seq (G.region (G.q (Quiet.fieldAddr rfl fo_37_0) rfl ?_))))))))))
     refine G.q (Quiet.load rfl ag_3 (by (repeat' constructor)) (rfl)) rfl ?_
     refine G.q (Quiet.int rfl rfl rfl) rfl (G.q (Quiet.move rfl) rfl ?_)
     refine G.dec (t := 64) rfl (fun h9_64 => ?_) (fun h9_64 => ?_)
     ·refine G.kDT (t := 63) rfl h9_64 (G.grun (t := 64) rfl rfl rfl (G.q (Quiet.move rfl) rfl (G.grun (t := 64) rfl rfl rfl ?_)))
      refine G.q (Quiet.as (v' := .bool true) (by rfl) (Quiet.ptrne rfl rfl Tryz.underlying102)) rfl ?_
      refine G.q (Quiet.pickT rfl rfl) rfl (G.q (Quiet.assign rfl) rfl (G.nil (G.then_n (G.condT rfl ?_))))
      refine G.bigTake hal (by (repeat' constructor)) ?_
      refine G.ndOpen (x := (x.path, px)) (by (repeat' constructor)) ?_
      refine G.draw [4, 9, 13] [[0, 1, 2, 3, 5, 6, 4, 7, 8, 9], [10, 11, 12, 13]] mixed (by kernel_rfl) ?_
      refine Phases.go [ptc bx _ _] (by (repeat' constructor)) ?_
      refine D.q rfl (by kernel_rfl) (Quiet.move rfl) ?_
      refine D.q rfl (by kernel_rfl) (Quiet.move rfl) ?_
      refine D.qw [3, 4, 7, 8, 9] rfl (by kernel_rfl) (Quiet.fieldAddr rfl fo_37_3) ?_
      refine D.qw [4, 7, 8, 9] rfl (by kernel_rfl) (Quiet.load rfl ag_34 (by (repeat' constructor)) (rfl)) ?_
      refine D.q rfl (by kernel_rfl) (Quiet.fieldAddr rfl fo_37_5) ?_
      refine D.q rfl (by kernel_rfl) (Quiet.load rfl ag_3 (by (repeat' constructor)) (rfl)) ?_
      refine D.h rfl (by kernel_rfl) (OpSpec.call Tryz.func58 rfl rfl (vs := [_]) rfl (aclone_spec x.aclV x.acl p hx.acl hfew)) (by (repeat' constructor)) ?nx110
      rintro v L' ⟨⟨a10, c10, rfl⟩, rfl⟩
      refine D.qw [8, 9] rfl (by kernel_rfl) (Quiet.nilp rfl) ?_
      refine D.qw [9] rfl (by kernel_rfl) (Quiet.fieldAddr rfl fo_106_1) ?_
      refine D.h rfl (by kernel_rfl) (OpSpec.store rfl rfl rfl sz_34 ?c114 ?c115) (by (repeat' constructor)) ?nx116
      case c114 => simp [ndC]
      case c115 => exact nfz0 _ _
      rintro v L' rfl
      refine D.ph ?_
      refine Phases.go [] (by (repeat' constructor)) ?_
      refine D.qw [11, 12, 13] rfl (by kernel_rfl) (Quiet.nilp rfl) ?_
      refine D.qw [12, 13] rfl (by kernel_rfl) (Quiet.fieldAddr rfl fo_106_2) ?_
      refine D.qw [13] rfl (by kernel_rfl) (Quiet.fieldAddr rfl fo_43_5) ?_
      refine D.h rfl (by kernel_rfl) (OpSpec.store rfl rfl rfl sz_3 ?c120 ?c121) (by (repeat' constructor)) ?nx122
      case c120 => simp [ndC]
      case c121 => exact nfz0 _ _
      rintro v L' rfl
      refine D.ph (Phases.fin ?_)
      refine G.toRd (v := .slice a10 x.acl.length c10) (by (repeat' constructor)) ?_
      refine G.ndFold (x := (x.path, (px.1, (.slice a10 x.acl.length c10, aclN x.acl x.num px.2.2)))) (v := .slice a10 x.acl.length c10) (by (repeat' constructor)) rfl rfl rfl rfl ?_
      refine G.bigPut (f := inN) (m := m) x.path ((x.path, (px.1, (.slice a10 x.acl.length c10, aclN x.acl x.num px.2.2)))).2 rfl (by (repeat' constructor)) ?_
      refine G.trFold (τ := ({ τ with nodes := amod τ.nodes x.path (aclN x.acl x.num) } : Tr)) (hI.mod hal (aclN x.acl x.num) (y := ((x.path, (px.1, (.slice a10 x.acl.length c10, aclN x.acl x.num px.2.2)))).2) rfl) (by (repeat' constructor)) rfl (ndE_set (y := ((x.path, (px.1, (.slice a10 x.acl.length c10, aclN x.acl x.num px.2.2)))).2) hal rfl).symm rfl ?_
      refine G.blk_n (G.then_n (G.seq (G.region (G.q (Quiet.assign rfl) rfl (G.nil (G.then_n (G.ret (G.add (slR_nil 75 3) ?_))))))))
      have hc : partZ τ x zx = (({ τ with nodes := amod τ.nodes x.path (aclN x.acl x.num) } : Tr), []) := by unfold partZ; rw [if_neg h15, if_neg h23, if_neg (fun g => h6_35 g.1), if_pos ⟨h9_64, hI.some_iff hal⟩]
      refine G.trCast (τ' := (partZ τ x zx).1) (by (repeat' constructor)) (by rw [hc]) ?_
      refine G.slCast (T := 75) (sz := 3) (m' := (partZ τ x zx).2.length) (xs' := (partZ τ x zx).2.flatMap evC) (by (repeat' constructor)) (by (rw [hc]; try rfl)) (by (rw [hc]; try rfl)) ?_
      exact G.done (l := [.tmp 6]) rfl rfl ⟨_, _, by (rw [hc]; try rfl), rfl⟩ (by (repeat' constructor)) (by (repeat' constructor))
     ·refine G.kDF (t := 63) rfl h9_64 (G.gskip (t := 64) rfl rfl rfl rfl (G.gskip (t := 64) rfl rfl rfl rfl (G.q (Quiet.pickF rfl rfl) rfl (G.q (Quiet.assign rfl) rfl (G.nil (G.then_n (G.condF rfl (G.skip (G.blk_n (G.then_n (G.seq (G.region (G.q (Quiet.assign rfl) rfl (G.nil (G.then_n (G.ret ?_))))))))))))))))
      refine G.trFold (τ := τ) hI (by (repeat' constructor)) rfl rfl rfl ?_
      refine G.add (slR_nil 75 3) ?_
      have hc : partZ τ x zx = (τ, []) := by unfold partZ; rw [if_neg h15, if_neg h23, if_neg (fun g => h6_35 g.1), if_neg (fun g => h9_64 g.1)]
      refine G.trCast (τ' := (partZ τ x zx).1) (by (repeat' constructor)) (by rw [hc]) ?_
      refine G.slCast (T := 75) (sz := 3) (m' := (partZ τ x zx).2.length) (xs' := (partZ τ x zx).2.flatMap evC) (by (repeat' constructor)) (by (rw [hc]; try rfl)) (by (rw [hc]; try rfl)) ?_
      exact G.done (l := [.tmp 6]) rfl rfl ⟨_, _, by (rw [hc]; try rfl), rfl⟩ (by (repeat' constructor)) (by (repeat' constructor))

end Go.Proofs.YtnnbelmpbmfdnaaGreatDoor
/- Own work, by program: package tree: Stat, Get, Same: walked. -/

namespace Go.Proofs.YtnnbelmpbmfdnaaGreatDoor
open Go
set_option maxRecDepth 100000 in
theorem trstat_spec (t : Nat) (τ : Tr) (p : Bs) (N : Nat) (ho : τ.Ok N) (hN : N ≤ 1099511627776) : Fn Tryz.prog 16 #[vptr t, vstr p] [treeR t τ] fun v L => v = .tuple #[.agg (stC (statD τ p)).toArray, .bool (decide (thereT τ p))] ∧ L = [treeR t τ] := by
 refine Fn.intro (vs := [vptr t, vstr p]) Tryz.func16 rfl rfl ?_
 intro F W
 refine G.trOpen (τ := τ) (by (repeat' constructor)) fun rn rs m s hI => ?_
 have hlen := hI.len ho
 have hfew := ho.few
 refine G.seq (G.region ?_)
 refine G.op (OpSpec.allocA ze_43) (by (repeat' constructor)) rfl ?nx1
 rintro v L' ⟨b4, rfl, rfl⟩
 refine G.q (Quiet.assign rfl) rfl (G.nil (G.then_n (G.seq (G.region ?_))))
 rcases hal : alook m p with _ | px
 ·refine G.q (Quiet.move rfl) rfl (G.q (Quiet.nilp rfl) rfl (G.q (Quiet.fieldAddr rfl fo_110_0) rfl ?_))
  refine G.q (Quiet.load rfl ag_107 (by (repeat' constructor)) (rfl)) rfl ?_
  refine G.q (Quiet.move rfl) rfl ?_
  refine G.q (Quiet.lookupN (m := m) (enc := ndV) (KeyLaw.str Tryz.underlying9) (hal) rfl rfl Tryz.underlying107 ze_102 (by (repeat' constructor)) rfl) rfl ?_
  refine G.q (Quiet.assign rfl) rfl (G.nil (G.then_n (G.seq (G.seq (G.region (G.q (Quiet.move rfl) rfl ?_))))))
  refine G.q (Quiet.as (v' := .bool true) (by rfl) (Quiet.ptreq rfl rfl Tryz.underlying102)) rfl ?_
  refine G.nil (G.then_n (G.condT rfl (G.seq (G.region ?_))))
  refine G.q (Quiet.build (us := []) fl_43 ze_43 rfl rfl (by simp [isCell])) rfl ?_
  refine G.op (OpSpec.storeA rfl rfl ?c12 sz_43 ?c15 ?c13 ?c14) (by (repeat' constructor)) rfl ?nx16
  case c12 => (first | (simp [isCell]; done) | (simp [isCell, setAll, Value.cells]; done))
  case c15 => (first | (simp; done) | (simp [setAll, spl, Value.cells]; done))
  case c13 => (first | (simp; done) | (simp [setAll, spl, Value.cells]; done))
  case c14 => exact nfz0 _ _
  rintro v L' rfl
  refine G.q (Quiet.assign rfl) rfl (G.nil (G.then_n (G.ret (G.then_r ?_))))
  refine G.ptCast (b := b4) (l' := stC (statD τ p)) (by (repeat' constructor)) (by rw [hI.stat0 hal]; rfl) ?_
  refine G.trFold (τ := τ) hI (by (repeat' constructor)) rfl rfl rfl ?_
  exact G.done2 rfl (.cellA rfl ag_43 (by (repeat' constructor)) (by simp [stC]) rfl) (.tmp rfl) ⟨by rw [decide_eq_false (hI.none_iff.1 hal)]; rfl, rfl⟩ (by (repeat' constructor)) (by (repeat' constructor))
 ·refine G.q (Quiet.move rfl) rfl (G.q (Quiet.nilp rfl) rfl (G.q (Quiet.fieldAddr rfl fo_110_0) rfl ?_))
  refine G.q (Quiet.load rfl ag_107 (by (repeat' constructor)) (rfl)) rfl ?_
  refine G.q (Quiet.move rfl) rfl ?_
  refine G.q (Quiet.lookupY (m := m) (enc := ndV) (KeyLaw.str Tryz.underlying9) (hal) rfl rfl Tryz.underlying107 ze_102 (by (repeat' constructor)) rfl) rfl ?_
  refine G.q (Quiet.assign rfl) rfl (G.nil (G.then_n (G.seq (G.seq (G.region (G.q (Quiet.move rfl) rfl ?_))))))
  refine G.q (Quiet.as (v' := .bool false) (by rfl) (Quiet.ptreq rfl rfl Tryz.underlying102)) rfl ?_
  refine G.nil (G.then_n (G.condF rfl (G.skip (G.then_n (G.seq ?_)))))
  refine G.bigTake hal (by (repeat' constructor)) ?_
  refine G.ndOpen (x := (p, px)) (by (repeat' constructor)) ?_
  refine G.region (G.q (Quiet.move rfl) rfl (G.q (Quiet.nilp rfl) rfl (G.q (Quiet.fieldAddr rfl fo_106_2) rfl ?_)))
  refine G.q (Quiet.loadAs (vs := stC px.2.2.st) rfl ag_43 (by (repeat' constructor)) (by simp [ndC]) rfl) rfl ?_
  refine G.op (OpSpec.allocA ze_43) (by (repeat' constructor)) rfl ?nx28
  rintro v L' ⟨b7, rfl, rfl⟩
  refine G.op (OpSpec.storeA rfl rfl ?c30 sz_43 ?c33 ?c31 ?c32) (by (repeat' constructor)) rfl ?nx34
  case c30 => intro v hv; simp only [stC, List.mem_cons, List.not_mem_nil, or_false] at hv; rcases hv with rfl | rfl | rfl | rfl | rfl | rfl | rfl | rfl | rfl <;> rfl
  case c33 => rfl
  case c31 => simp [stC]
  case c32 => exact nfz0 _ _
  rintro v L' rfl
  refine G.nil ?_
  refine G.ptCast (b := b7) (l' := stC px.2.2.st) (by (repeat' constructor)) rfl ?_
  refine G.then_n (G.seq ?_)
  refine G.draw [7, 10, 12] [[0, 1, 2, 3, 4, 5, 6, 9, 7, 8, 10], [11, 12]] mixed (by kernel_rfl) ?_
  refine Phases.go [ptc px.1 _ _] (by (repeat' constructor)) ?_
  refine D.q rfl (by kernel_rfl) (Quiet.move rfl) ?_
  refine D.q rfl (by kernel_rfl) (Quiet.nilp rfl) ?_
  refine D.q rfl (by kernel_rfl) (Quiet.fieldAddr rfl fo_106_0) ?_
  refine D.q rfl (by kernel_rfl) (Quiet.load rfl ag_9 (by (repeat' constructor)) (rfl)) ?_
  refine D.q rfl (by kernel_rfl) (Quiet.strlen rfl Tryz.underlying9 rfl) ?_
  refine D.qw [7, 8, 10] rfl (by kernel_rfl) (Quiet.move rfl) ?_
  refine D.qw [7, 8, 10] rfl (by kernel_rfl) (Quiet.move rfl) ?_
  refine D.q rfl (by kernel_rfl) (Quiet.fieldAddr rfl fo_43_7) ?_
  refine D.h rfl (by kernel_rfl) (OpSpec.call Tryz.func49 rfl rfl (vs := [_, _]) rfl (trkids0_spec t rn (.map (some rs)) (vint τ.zx) m p (hI.plen ho) (by omega))) (by (repeat' constructor)) ?nx42
  rintro v L' ⟨⟨a5, c5, rfl⟩, rfl⟩
  refine D.q rfl (by kernel_rfl) (Quiet.slen rfl Tryz.underlying40 rfl) ?_
  refine D.h rfl (by kernel_rfl) (OpSpec.store rfl rfl rfl sz_3 ?c45 ?c46) (by (repeat' constructor)) ?nx47
  case c45 => simp [stC]
  case c46 => exact nfz0 _ _
  rintro v L' rfl
  refine D.ph ?_
  refine Phases.go [] (by (repeat' constructor)) ?_
  refine D.qw [12] rfl (by kernel_rfl) (Quiet.fieldAddr rfl fo_43_8) ?_
  refine D.h rfl (by kernel_rfl) (OpSpec.store rfl rfl rfl sz_3 ?c49 ?c50) (by (repeat' constructor)) ?nx51
  case c49 => simp [stC]
  case c50 => exact nfz0 _ _
  rintro v L' rfl
  refine D.ph (Phases.fin ?_)
  refine G.ptCast (b := b7) (l' := stC (statD τ p)) (by (repeat' constructor)) (by rw [hI.stat hal, ← hI.kids ho p, sortS_length]; rfl) ?_
  refine G.then_n (G.seq (G.region ?_))
  refine G.q (Quiet.loadAs (vs := stC (statD τ p)) rfl ag_43 (by (repeat' constructor)) (by simp [stC]) rfl) rfl ?_
  refine G.op (OpSpec.storeA rfl rfl ?c53 sz_43 ?c56 ?c54 ?c55) (by (repeat' constructor)) rfl ?nx57
  case c53 => intro v hv; simp only [stC, List.mem_cons, List.not_mem_nil, or_false] at hv; rcases hv with rfl | rfl | rfl | rfl | rfl | rfl | rfl | rfl | rfl <;> rfl
  case c56 => rfl
  case c54 => simp [stC]
  case c55 => exact nfz0 _ _
  rintro v L' rfl
  refine G.q (Quiet.assign rfl) rfl (G.nil (G.then_n (G.ret ?_)))
  refine G.ptCast (b := b4) (l' := stC (statD τ p)) (by (repeat' constructor)) rfl ?_
  refine G.ndFold (x := (p, px)) (by (repeat' constructor)) rfl rfl rfl rfl ?_
  refine G.bigPut (f := inN) (m := m) p px rfl (by (repeat' constructor)) ?_
  rw [aset_self hal]
  refine G.trFold (τ := τ) hI (by (repeat' constructor)) rfl rfl rfl ?_
  exact G.done2 rfl (.cellA rfl ag_43 (by (repeat' constructor)) (by simp [stC]) rfl) (.tmp rfl) ⟨by rw [decide_eq_true (hI.some_iff hal)]; rfl, rfl⟩ (by (repeat' constructor)) (by (repeat' constructor))

set_option maxRecDepth 100000 in
theorem trget_spec (t : Nat) (τ : Tr) (p : Bs) (N : Nat) (ho : τ.Ok N) (hN : N ≤ 1099511627776) : Fn Tryz.prog 41 #[vptr t, vstr p] [treeR t τ] fun v L => v = .tuple #[vstr (dataD τ p), .agg (stC (statD τ p)).toArray, vint (if thereT τ p then 0 else 60)] ∧ L = [treeR t τ] := by
 refine Fn.intro (vs := [vptr t, vstr p]) Tryz.func41 rfl rfl ?_
 intro F W
 refine G.seq (G.region (G.q (Quiet.assign rfl) rfl ?_))
 refine G.op (OpSpec.allocA ze_43) (by (repeat' constructor)) rfl ?nx2
 rintro v L' ⟨b5, rfl, rfl⟩
 refine G.q (Quiet.assign rfl) rfl (G.nil (G.then_n (G.seq (G.region (G.q (Quiet.move rfl) rfl (G.q (Quiet.move rfl) rfl ?_))))))
 refine G.op (OpSpec.call Tryz.func16 rfl rfl (vs := [_, _]) rfl (trstat_spec t τ p N ho hN)) (by (repeat' constructor)) rfl ?nx7
 rintro v L' ⟨rfl, rfl⟩
 refine G.q (Quiet.move rfl) rfl (G.q (Quiet.extract rfl rfl) rfl (G.q (Quiet.extract rfl rfl) rfl ?_))
 refine G.op (OpSpec.allocA ze_43) (by (repeat' constructor)) rfl ?nx11
 rintro v L' ⟨b7, rfl, rfl⟩
 refine G.op (OpSpec.storeA rfl rfl ?c13 sz_43 ?c16 ?c14 ?c15) (by (repeat' constructor)) rfl ?nx17
 case c13 => intro v hv; simp only [stC, List.mem_cons, List.not_mem_nil, or_false] at hv; rcases hv with rfl | rfl | rfl | rfl | rfl | rfl | rfl | rfl | rfl <;> rfl
 case c16 => rfl
 case c14 => simp [stC]
 case c15 => exact nfz0 _ _
 rintro v L' rfl
 refine G.q (Quiet.assign rfl) rfl (G.nil ?_)
 refine G.ptCast (b := b7) (l' := stC (statD τ p)) (by (repeat' constructor)) rfl ?_
 refine G.then_n (G.seq (G.seq (G.region (G.q (Quiet.move rfl) rfl (G.q (Quiet.not rfl) rfl (G.nil (G.then_n ?_)))))))
 refine G.condN rfl (fun h16 => ?_) (fun h16 => ?_)
 ·refine G.seq (G.region ?_)
  refine G.q (Quiet.build (us := []) fl_43 ze_43 rfl rfl (by simp [isCell])) rfl ?_
  refine G.q (Quiet.assign rfl) rfl ?_
  refine G.op (OpSpec.storeA rfl rfl ?c21 sz_43 ?c24 ?c22 ?c23) (by (repeat' constructor)) rfl ?nx25
  case c21 => (first | (simp [isCell]; done) | (simp [isCell, setAll, Value.cells]; done))
  case c24 => (first | (simp; done) | (simp [setAll, spl, Value.cells]; done))
  case c22 => (first | (simp; done) | (simp [setAll, spl, Value.cells]; done))
  case c23 => exact nfz0 _ _
  rintro v L' rfl
  refine G.q (Quiet.assign rfl) rfl (G.nil (G.then_n (G.ret (G.then_r ?_))))
  refine G.ptCast (b := b5) (l' := stC (statD τ p)) (by (repeat' constructor)) (by rw [show statD τ p = st0 by unfold statD statZ; unfold thereT at h16; cases e : alook τ.nodes p with | none => rfl | some y => rw [e] at h16; exact absurd rfl h16]; rfl) ?_
  exact G.done3 rfl (.tmp rfl) (.cellA rfl ag_43 (by (repeat' constructor)) (by simp [stC]) rfl) (.tmp rfl) ⟨by rw [if_neg h16, show dataD τ p = [] by unfold dataD; unfold thereT at h16; cases e : alook τ.nodes p with | none => rfl | some y => rw [e] at h16; exact absurd rfl h16]; rfl, rfl⟩ (by (repeat' constructor)) (by (repeat' constructor))
 ·refine G.skip (G.then_n (G.seq ?_))
  refine G.trOpen (τ := τ) (by (repeat' constructor)) fun rn rs m s hI => ?_
  obtain ⟨px, hal⟩ : ∃ px, alook m p = some px := by rcases h : alook m p with _ | y; exact absurd h16 (hI.none_iff.1 h); exact ⟨y, rfl⟩
  refine G.bigTake hal (by (repeat' constructor)) ?_
  refine G.ndOpen (x := (p, px)) (by (repeat' constructor)) ?_
  refine G.draw [11] [[0, 1, 2, 3, 4, 5, 6, 7, 8, 9, 10, 11], [12]] mixed (by kernel_rfl) ?_
  refine Phases.go [] (by (repeat' constructor)) ?_
  refine D.qw [1, 2, 3, 5, 6, 7, 8, 10, 11] rfl (by kernel_rfl) (Quiet.move rfl) ?_
  refine D.qw [2, 3, 5, 6, 7, 8, 10, 11] rfl (by kernel_rfl) (Quiet.nilp rfl) ?_
  refine D.qw [3, 5, 6, 7, 8, 10, 11] rfl (by kernel_rfl) (Quiet.fieldAddr rfl fo_110_0) ?_
  refine D.qw [5, 6, 7, 8, 10, 11] rfl (by kernel_rfl) (Quiet.load rfl ag_107 (by (repeat' constructor)) (rfl)) ?_
  refine D.qw [5, 6, 7, 8, 10, 11] rfl (by kernel_rfl) (Quiet.move rfl) ?_
  refine D.qw [6, 7, 8, 10, 11] rfl (by kernel_rfl) (Quiet.lookupY (m := m) (enc := ndV) (KeyLaw.str Tryz.underlying9) (hal) rfl rfl Tryz.underlying107 ze_102 (by (repeat' constructor)) rfl) ?_
  refine D.qw [7, 8, 10, 11] rfl (by kernel_rfl) (Quiet.nilp rfl) ?_
  refine D.qw [8, 10, 11] rfl (by kernel_rfl) (Quiet.fieldAddr rfl fo_106_0) ?_
  refine D.qw [10, 11] rfl (by kernel_rfl) (Quiet.load rfl ag_9 (by (repeat' constructor)) (rfl)) ?_
  refine D.qw [11] rfl (by kernel_rfl) (Quiet.loadAs (vs := stC (statD τ p)) rfl ag_43 (by (repeat' constructor)) (by simp [stC]) rfl) ?_
  refine D.qw [11] rfl (by kernel_rfl) (Quiet.assign rfl) ?_
  refine D.h rfl (by kernel_rfl) (OpSpec.storeA rfl rfl ?c37 sz_43 ?c40 ?c38 ?c39) (by (repeat' constructor)) ?nx41
  case c37 => intro v hv; simp only [stC, List.mem_cons, List.not_mem_nil, or_false] at hv; rcases hv with rfl | rfl | rfl | rfl | rfl | rfl | rfl | rfl | rfl <;> rfl
  case c40 => rfl
  case c38 => simp [stC]
  case c39 => exact nfz0 _ _
  rintro v L' rfl
  refine D.ph ?_
  refine Phases.go [] (by (repeat' constructor)) ?_
  refine D.qw [] rfl (by kernel_rfl) (Quiet.assign rfl) ?_
  refine D.ph (Phases.fin (G.then_n (G.ret ?_)))
  refine G.ptCast (b := b5) (l' := stC (statD τ p)) (by (repeat' constructor)) rfl ?_
  refine G.ndFold (x := (p, px)) (by (repeat' constructor)) rfl rfl rfl rfl ?_
  refine G.bigPut (f := inN) (m := m) p px rfl (by (repeat' constructor)) ?_
  rw [aset_self hal]
  refine G.trFold (τ := τ) hI (by (repeat' constructor)) rfl rfl rfl ?_
  exact G.done3 rfl (.tmp rfl) (.cellA rfl ag_43 (by (repeat' constructor)) (by simp [stC]) rfl) (.tmp rfl) ⟨by rw [if_pos h16, show dataD τ p = px.2.2.data by unfold dataD; rw [hI.at hal]; rfl]; rfl, rfl⟩ (by (repeat' constructor)) (by (repeat' constructor))

set_option maxRecDepth 100000 in
theorem aclequal_spec (va vb : Value) (xs ys : List Ac) (hn : xs.length ≤ 1048576) : Fn Tryz.prog 56 #[va, vb] [rdO 2 va xs.length (xs.flatMap acC), rdO 2 vb ys.length (ys.flatMap acC)] fun v L => v = .bool (decide (xs = ys)) ∧ L = [rdO 2 va xs.length (xs.flatMap acC), rdO 2 vb ys.length (ys.flatMap acC)] := by
 refine Fn.intro (vs := [va, vb]) Tryz.func56 rfl rfl ?_
 intro F W
 refine G.rdAny (p := rdO 2 va xs.length (xs.flatMap acC)) (fun h hp => hp) (by (repeat' constructor)) fun aa ca e0 _ => ?_
 subst e0
 refine G.rdAny (p := rdO 2 vb ys.length (ys.flatMap acC)) (fun h hp => hp) (by (repeat' constructor)) fun ab cb e0 _ => ?_
 subst e0
 refine G.seq (G.region (G.q (Quiet.assign rfl) rfl (G.nil (G.then_n (G.seq (G.seq (G.region (G.q (Quiet.move rfl) rfl (G.q (Quiet.slen rfl Tryz.underlying34 rfl) rfl (G.q (Quiet.move rfl) rfl (G.q (Quiet.slen rfl Tryz.underlying34 rfl) rfl (G.q (Quiet.int rfl rfl rfl) rfl (G.nil (G.then_n ?_))))))))))))))
 refine G.condN rfl (fun h10 => ?_) (fun h10 => ?_)
 ·refine G.seq (G.region (G.q (Quiet.assign rfl) rfl (G.nil (G.then_n (G.ret (G.then_r ?_))))))
  exact G.done (l := [.tmp 4]) rfl rfl ⟨by rw [decide_eq_false (fun e => h10 (by rw [e]))], rfl⟩ (by (repeat' constructor)) (by (repeat' constructor))
 ·have hlen : xs.length = ys.length := by omega
  refine G.skip (G.then_n (G.seq (G.seq (G.region (G.q (Quiet.move rfl) rfl (G.q (Quiet.slen rfl Tryz.underlying34 rfl) rfl (G.q (Quiet.move rfl) rfl (G.nil (G.then_n (G.block ?_))))))))))
  refine G.loopK (ι := Nat) (fun q E => (13, vint q) :: E) (fun q => []) (fun q => q ≤ xs.length ∧ xs.take q = ys.take q) (fun q => xs.length - q) (0) (ts := [0, 1, 12]) (.cons rfl (.cons rfl (.cons rfl (.nil)))) (⟨Nat.zero_le _, rfl⟩) ⟨rfl, rfl, rfl, rfl, trivial⟩ (by (repeat' constructor)) ?_
  rintro i ⟨hi, hpre⟩
  refine G.seq (G.region (G.q (Quiet.int rfl rfl rfl) rfl (G.nil (G.then_n (G.seq ?_)))))
  refine G.condD rfl (fun h14 => ?_) (fun h14 => ?_)
  ·have hi2 : i < xs.length := by omega
   have hi3 : i < ys.length := by omega
   refine G.rdShape (p := rdO 2 _ xs.length (xs.flatMap acC)) (fun h hp => hp) (by (repeat' constructor)) (by omega) fun ba oa e0 => ?_
   subst e0
   refine G.rdShape (p := rdO 2 (.slice ab ys.length cb) ys.length (ys.flatMap acC)) (fun h hp => hp) (by (repeat' constructor)) (by omega) fun bb ob e0 => ?_
   subst e0
   refine G.skip (G.then_n (G.seq (G.block (G.seq (G.region (G.q (Quiet.move rfl) rfl (G.q (Quiet.assign rfl) rfl (G.nil (G.then_n (G.seq ?_))))))))))
   refine G.draw [] [[0, 1, 2, 3, 4, 5, 6, 7, 8]] mixed (by kernel_rfl) ?_
   refine Phases.go [] (by (repeat' constructor)) ?_
   refine D.qw [2, 3, 8] rfl (by kernel_rfl) (Quiet.move rfl) ?_
   refine D.qw [2, 3, 8] rfl (by kernel_rfl) (Quiet.move rfl) ?_
   refine D.qw [3, 8] rfl (by kernel_rfl) (Quiet.indexAddr rfl rfl el_34 (by omega)) ?_
   refine D.qw [8] rfl (by kernel_rfl) (Quiet.loadRdA (sz := 2) (j := i * 2) (k := 2) (p := rdO 2 _ xs.length (xs.flatMap acC)) (vs := acC xs[i]) rfl ag_104 (by (repeat' constructor)) (fun h hp => hp) (by simp) (by omega) (by omega) (flatMap_at (f := acC) (sz := 2) (fun _ _ => rfl) (by omega))) ?_
   refine D.qw [6, 7, 8] rfl (by kernel_rfl) (Quiet.move rfl) ?_
   refine D.qw [6, 7, 8] rfl (by kernel_rfl) (Quiet.move rfl) ?_
   refine D.qw [7, 8] rfl (by kernel_rfl) (Quiet.indexAddr rfl rfl el_34 (by omega)) ?_
   refine D.qw [8] rfl (by kernel_rfl) (Quiet.loadRdA (sz := 2) (j := i * 2) (k := 2) (p := rdO 2 _ ys.length (ys.flatMap acC)) (vs := acC ys[i]) rfl ag_104 (by (repeat' constructor)) (fun h hp => hp) (by simp) (by omega) (by omega) (flatMap_at (f := acC) (sz := 2) (fun _ _ => rfl) (by omega))) ?_
   refine D.qw [] rfl (by kernel_rfl) (Quiet.structNe (r := decide (xs[i] = ys[i])) rfl rfl (by kernel_rfl) (ac_eq 9998 _ _)) ?_
   refine D.ph (Phases.fin (G.then_n ?_))
   refine G.condN rfl (fun h24 => ?_) (fun h24 => ?_)
   ·refine G.seq (G.region (G.q (Quiet.assign rfl) rfl (G.nil (G.then_n (G.ret (G.blk_r (G.then_r (G.then_r (G.blk_r (G.then_r ?_))))))))))
    exact G.done (l := [.tmp 4]) rfl rfl ⟨by rw [decide_eq_false (fun e => h24 (by simp only [e]))], rfl⟩ (by (repeat' constructor)) (by (repeat' constructor))
   ·refine G.skip (G.blk_n (G.then_n (G.region ?_)))
    refine G.q (Quiet.add rfl rfl (by omega)) rfl ?_
    refine G.q (Quiet.move rfl) rfl (G.nil (G.then_n ?_))
    exact G.roundK (i + 1) (⟨by omega, by rw [List.take_succ_eq_append_getElem hi2, List.take_succ_eq_append_getElem hi3, hpre, h24]⟩) (by omega) ⟨rfl, rfl, rfl, rfl, trivial⟩ (by (repeat' constructor)) (by ((repeat (apply Have.cons; (repeat (first | exact Pick.here | apply Pick.there)))); apply Have.base; repeat' constructor))
  ·refine G.exit (G.then_e (G.then_e (G.blk_e (G.then_n (G.seq (G.region (G.q (Quiet.assign rfl) rfl (G.nil (G.then_n (G.ret ?_))))))))))
   exact G.done (l := [.tmp 4]) rfl rfl ⟨by rw [decide_eq_true (by have hii : i = xs.length := (by omega); rw [hii, List.take_length] at hpre; rw [hlen, List.take_length] at hpre; exact hpre)], rfl⟩ (by (repeat' constructor)) (by (repeat' constructor))

theorem nd_ext {a b : Nd} (h1 : a.data = b.data) (h2 : a.acl = b.acl) (h3 : a.st = b.st) : a = b := by cases a; cases b; cases h1; cases h2; cases h3; rfl
set_option maxRecDepth 100000 in
theorem trsame1_spec (a b : Bs) (px py : Nm) (hn : px.2.2.acl.length ≤ 1048576) : Fn Tryz.prog 55 #[vptr px.1, vptr py.1] [inN (a, px), inN (b, py)] fun v L => v = .bool (decide (px.2.2 = py.2.2)) ∧ L = [inN (a, px), inN (b, py)] := by
 refine Fn.intro (vs := [vptr px.1, vptr py.1]) Tryz.func55 rfl rfl ?_
 intro F W
 refine G.ndOpen (x := (a, px)) (by (repeat' constructor)) ?_
 refine G.ndOpen (x := (b, py)) (by (repeat' constructor)) ?_
 refine G.seq (G.region (G.q (Quiet.assign rfl) rfl (G.nil (G.then_n (G.seq ?_)))))
 refine G.draw [] [[0, 1, 2, 3, 4, 5, 6, 7, 8, 9, 10, 11, 12, 13, 14, 15, 16, 17, 18, 19, 20, 21, 22, 23, 24, 25, 26, 27, 28, 29, 30, 31]] mixed (by kernel_rfl) ?_
 refine Phases.go [ptc px.1 _ _, ptc py.1 _ _, rdO 2 px.2.1 _ _, rdO 2 py.2.1 _ _] (by (repeat' constructor)) ?_
 refine D.qw [1, 2, 3, 8, 9, 10, 11, 12, 13, 14, 15, 16, 17, 18, 19, 20, 21, 22, 23, 24, 25, 26, 27, 28, 29, 30, 31] rfl (by kernel_rfl) (Quiet.move rfl) ?_
 refine D.qw [2, 3, 8, 9, 10, 11, 12, 13, 14, 15, 16, 17, 18, 19, 20, 21, 22, 23, 24, 25, 26, 27, 28, 29, 30, 31] rfl (by kernel_rfl) (Quiet.nilp rfl) ?_
 refine D.qw [3, 8, 9, 10, 11, 12, 13, 14, 15, 16, 17, 18, 19, 20, 21, 22, 23, 24, 25, 26, 27, 28, 29, 30, 31] rfl (by kernel_rfl) (Quiet.fieldAddr rfl fo_106_0) ?_
 refine D.qw [8, 9, 10, 11, 12, 13, 14, 15, 16, 17, 18, 19, 20, 21, 22, 23, 24, 25, 26, 27, 28, 29, 30, 31] rfl (by kernel_rfl) (Quiet.load rfl ag_9 (by (repeat' constructor)) (rfl)) ?_
 refine D.qw [5, 6, 7, 8, 9, 10, 11, 12, 13, 14, 15, 16, 17, 18, 19, 20, 21, 22, 23, 24, 25, 26, 27, 28, 29, 30, 31] rfl (by kernel_rfl) (Quiet.move rfl) ?_
 refine D.qw [6, 7, 8, 9, 10, 11, 12, 13, 14, 15, 16, 17, 18, 19, 20, 21, 22, 23, 24, 25, 26, 27, 28, 29, 30, 31] rfl (by kernel_rfl) (Quiet.nilp rfl) ?_
 refine D.qw [7, 8, 9, 10, 11, 12, 13, 14, 15, 16, 17, 18, 19, 20, 21, 22, 23, 24, 25, 26, 27, 28, 29, 30, 31] rfl (by kernel_rfl) (Quiet.fieldAddr rfl fo_106_0) ?_
 refine D.qw [8, 9, 10, 11, 12, 13, 14, 15, 16, 17, 18, 19, 20, 21, 22, 23, 24, 25, 26, 27, 28, 29, 30, 31] rfl (by kernel_rfl) (Quiet.load rfl ag_9 (by (repeat' constructor)) (rfl)) ?_
 refine D.qw [9, 10, 11, 12, 13, 14, 15, 16, 17, 18, 19, 20, 21, 22, 23, 24, 25, 26, 27, 28, 29, 30, 31] rfl (by kernel_rfl) (Quiet.streq rfl rfl) ?_
 refine D.qw [10, 11, 12, 13, 14, 15, 16, 17, 18, 19, 20, 21, 22, 23, 24, 25, 26, 27, 28, 29, 30, 31] rfl (by kernel_rfl) (Quiet.move rfl) ?_
 refine D.dec (t := 14) rfl (fun h1_14 => ?_) (fun h1_14 => ?_)
 ·refine D.kDT (t := 13) rfl h1_14 ?_
  refine D.gqw [11, 12, 13, 18, 19, 20, 21, 22, 23, 24, 25, 26, 27, 28, 29, 30, 31] (t := 14) rfl rfl rfl (by kernel_rfl) (Quiet.move rfl) ?_
  refine D.gqw [12, 13, 18, 19, 20, 21, 22, 23, 24, 25, 26, 27, 28, 29, 30, 31] (t := 14) rfl rfl rfl (by kernel_rfl) (Quiet.nilp rfl) ?_
  refine D.gqw [13, 18, 19, 20, 21, 22, 23, 24, 25, 26, 27, 28, 29, 30, 31] (t := 14) rfl rfl rfl (by kernel_rfl) (Quiet.fieldAddr rfl fo_106_2) ?_
  refine D.gqw [18, 19, 20, 21, 22, 23, 24, 25, 26, 27, 28, 29, 30, 31] (t := 14) rfl rfl rfl (by kernel_rfl) (Quiet.loadAs (vs := stC px.2.2.st) rfl ag_43 (by (repeat' constructor)) (by simp [ndC]) rfl) ?_
  refine D.gqw [15, 16, 17, 18, 19, 20, 21, 22, 23, 24, 25, 26, 27, 28, 29, 30, 31] (t := 14) rfl rfl rfl (by kernel_rfl) (Quiet.move rfl) ?_
  refine D.gqw [16, 17, 18, 19, 20, 21, 22, 23, 24, 25, 26, 27, 28, 29, 30, 31] (t := 14) rfl rfl rfl (by kernel_rfl) (Quiet.nilp rfl) ?_
  refine D.gqw [17, 18, 19, 20, 21, 22, 23, 24, 25, 26, 27, 28, 29, 30, 31] (t := 14) rfl rfl rfl (by kernel_rfl) (Quiet.fieldAddr rfl fo_106_2) ?_
  refine D.gqw [18, 19, 20, 21, 22, 23, 24, 25, 26, 27, 28, 29, 30, 31] (t := 14) rfl rfl rfl (by kernel_rfl) (Quiet.loadAs (vs := stC py.2.2.st) rfl ag_43 (by (repeat' constructor)) (by simp [ndC]) rfl) ?_
  refine D.gqw [19, 20, 21, 22, 23, 24, 25, 26, 27, 28, 29, 30, 31] (t := 14) rfl rfl rfl (by kernel_rfl) (Quiet.structEq (r := decide (px.2.2.st = py.2.2.st)) rfl rfl (by kernel_rfl) (st_eq 9998 _ _)) ?_
  refine D.qw [20, 21, 22, 23, 24, 25, 26, 27, 28, 29, 30, 31] rfl (by kernel_rfl) (Quiet.pickT rfl rfl) ?_
  refine D.qw [21, 22, 23, 24, 25, 26, 27, 28, 29, 30, 31] rfl (by kernel_rfl) (Quiet.move rfl) ?_
  refine D.dec (t := 25) rfl (fun h1_25 => ?_) (fun h1_25 => ?_)
  ·refine D.kDT (t := 23) rfl h1_25 (D.kDT (t := 24) rfl h1_25 ?_)
   refine D.gqw [22, 23, 24, 29, 30, 31] (t := 25) rfl rfl rfl (by kernel_rfl) (Quiet.move rfl) ?_
   refine D.gqw [23, 24, 29, 30, 31] (t := 25) rfl rfl rfl (by kernel_rfl) (Quiet.nilp rfl) ?_
   refine D.gqw [24, 29, 30, 31] (t := 25) rfl rfl rfl (by kernel_rfl) (Quiet.fieldAddr rfl fo_106_1) ?_
   refine D.gqw [29, 30, 31] (t := 25) rfl rfl rfl (by kernel_rfl) (Quiet.load rfl ag_34 (by (repeat' constructor)) (rfl)) ?_
   refine D.gqw [26, 27, 28, 29, 30, 31] (t := 25) rfl rfl rfl (by kernel_rfl) (Quiet.move rfl) ?_
   refine D.gqw [27, 28, 29, 30, 31] (t := 25) rfl rfl rfl (by kernel_rfl) (Quiet.nilp rfl) ?_
   refine D.gqw [28, 29, 30, 31] (t := 25) rfl rfl rfl (by kernel_rfl) (Quiet.fieldAddr rfl fo_106_1) ?_
   refine D.gqw [29, 30, 31] (t := 25) rfl rfl rfl (by kernel_rfl) (Quiet.load rfl ag_34 (by (repeat' constructor)) (rfl)) ?_
   refine D.gm (t := 25) rfl rfl rfl (by kernel_rfl) (OpSpec.call Tryz.func56 rfl rfl (vs := [_, _]) rfl (aclequal_spec px.2.1 py.2.1 px.2.2.acl py.2.2.acl hn)) (by (repeat' constructor)) ?nx28
   refine D.qw [31] rfl (by kernel_rfl) (Quiet.pickT rfl rfl) ?_
   refine D.qw [] rfl (by kernel_rfl) (Quiet.assign rfl) ?_
   refine D.ph (Phases.fin (G.then_n (G.ret ?_)))
   refine G.ndFold (x := (a, px)) (by (repeat' constructor)) rfl rfl rfl rfl ?_
   refine G.ndFold (x := (b, py)) (by (repeat' constructor)) rfl rfl rfl rfl ?_
   exact G.done (l := [.tmp 4]) rfl rfl ⟨by congr 1; exact decide_eq_decide.2 ⟨fun e => nd_ext h1_14 e h1_25, fun e => by rw [e]⟩, rfl⟩ (by (repeat' constructor)) (by (repeat' constructor))
  ·refine D.kDF (t := 23) rfl h1_25 (D.kDF (t := 24) rfl h1_25 ?_)
   refine D.gs (t := 25) rfl rfl rfl rfl (by kernel_rfl) ?_
   refine D.gs (t := 25) rfl rfl rfl rfl (by kernel_rfl) ?_
   refine D.gs (t := 25) rfl rfl rfl rfl (by kernel_rfl) ?_
   refine D.gs (t := 25) rfl rfl rfl rfl (by kernel_rfl) ?_
   refine D.gs (t := 25) rfl rfl rfl rfl (by kernel_rfl) ?_
   refine D.gs (t := 25) rfl rfl rfl rfl (by kernel_rfl) ?_
   refine D.gs (t := 25) rfl rfl rfl rfl (by kernel_rfl) ?_
   refine D.gs (t := 25) rfl rfl rfl rfl (by kernel_rfl) ?_
   refine D.gs (t := 25) rfl rfl rfl rfl (by kernel_rfl) ?_
   refine D.qw [31] rfl (by kernel_rfl) (Quiet.pickF rfl rfl) ?_
   refine D.qw [] rfl (by kernel_rfl) (Quiet.assign rfl) ?_
   refine D.ph (Phases.fin (G.then_n (G.ret ?_)))
   refine G.ndFold (x := (a, px)) (by (repeat' constructor)) rfl rfl rfl rfl ?_
   refine G.ndFold (x := (b, py)) (by (repeat' constructor)) rfl rfl rfl rfl ?_
   exact G.done (l := [.tmp 4]) rfl rfl ⟨by rw [decide_eq_false (fun e => h1_25 (by rw [e]))], rfl⟩ (by (repeat' constructor)) (by (repeat' constructor))
 ·refine D.kDF (t := 13) rfl h1_14 ?_
  refine D.gs (t := 14) rfl rfl rfl rfl (by kernel_rfl) ?_
  refine D.gs (t := 14) rfl rfl rfl rfl (by kernel_rfl) ?_
  refine D.gs (t := 14) rfl rfl rfl rfl (by kernel_rfl) ?_
  refine D.gs (t := 14) rfl rfl rfl rfl (by kernel_rfl) ?_
  refine D.gs (t := 14) rfl rfl rfl rfl (by kernel_rfl) ?_
  refine D.gs (t := 14) rfl rfl rfl rfl (by kernel_rfl) ?_
  refine D.gs (t := 14) rfl rfl rfl rfl (by kernel_rfl) ?_
  refine D.gs (t := 14) rfl rfl rfl rfl (by kernel_rfl) ?_
  refine D.gs (t := 14) rfl rfl rfl rfl (by kernel_rfl) ?_
  refine D.qw [20, 21, 22, 23, 24, 25, 26, 27, 28, 29, 30, 31] rfl (by kernel_rfl) (Quiet.pickF rfl rfl) ?_
  refine D.qw [21, 22, 23, 24, 25, 26, 27, 28, 29, 30, 31] rfl (by kernel_rfl) (Quiet.move rfl) ?_
  refine D.gs (t := 25) rfl rfl rfl rfl (by kernel_rfl) ?_
  refine D.gs (t := 25) rfl rfl rfl rfl (by kernel_rfl) ?_
  refine D.gs (t := 25) rfl rfl rfl rfl (by kernel_rfl) ?_
  refine D.gs (t := 25) rfl rfl rfl rfl (by kernel_rfl) ?_
  refine D.gs (t := 25) rfl rfl rfl rfl (by kernel_rfl) ?_
  refine D.gs (t := 25) rfl rfl rfl rfl (by kernel_rfl) ?_
  refine D.gs (t := 25) rfl rfl rfl rfl (by kernel_rfl) ?_
  refine D.gs (t := 25) rfl rfl rfl rfl (by kernel_rfl) ?_
  refine D.gs (t := 25) rfl rfl rfl rfl (by kernel_rfl) ?_
  refine D.qw [31] rfl (by kernel_rfl) (Quiet.pickF rfl rfl) ?_
  refine D.qw [] rfl (by kernel_rfl) (Quiet.assign rfl) ?_
  refine D.ph (Phases.fin (G.then_n (G.ret ?_)))
  refine G.ndFold (x := (a, px)) (by (repeat' constructor)) rfl rfl rfl rfl ?_
  refine G.ndFold (x := (b, py)) (by (repeat' constructor)) rfl rfl rfl rfl ?_
  exact G.done (l := [.tmp 4]) rfl rfl ⟨by rw [decide_eq_false (fun e => h1_14 (by rw [e]))], rfl⟩ (by (repeat' constructor)) (by (repeat' constructor))

theorem ss_eq (d : Nat) (a b : Int × Bs) : EqAt Tryz.prog (d + 2) 112 (ssV a) (ssV b) (decide (a = b)) := by
  have h := EqAt.struct (d := d + 1) (xs := [vint a.1, vstr a.2]) (ys := [vint b.1, vstr b.2]) Tryz.underlying112 (by kernel_rfl)
    (.cons (FEq.cell (by decide) ag_3 rfl rfl (EqAt.int Tryz.underlying3 a.1 b.1)) (.cons (FEq.cell (by decide) ag_9 rfl rfl (EqAt.str Tryz.underlying9 a.2 b.2)) .nil))
  have e : ([decide (a.1 = b.1), decide (a.2 = b.2)].all id) = decide (a = b) := by
    obtain ⟨a1, a2⟩ := a; obtain ⟨b1, b2⟩ := b
    simp [Bool.decide_and]
  rw [← e]; exact h
theorem al_len_of {K β : Type} [DecidableEq K] {a b : List (K × β)} (ha : (a.map (·.1)).Nodup) (hb : (b.map (·.1)).Nodup) (h : ∀ i, alook a i = alook b i) : a.length = b.length := (al_ext_perm ha hb h).length_eq
theorem eq_of_all {K β : Type} [DecidableEq K] {a b : List (K × β)} (ha : (a.map (·.1)).Nodup) (hl : a.length = b.length) (h : ∀ x ∈ a, alook b x.1 = some x.2) : ∀ i, alook a i = alook b i := fun i => by
  rcases e : alook a i with _ | y
  · exact (keys_same ha hl (fun x hx => by rw [h x hx]; rfl) e).symm
  · exact (h (i, y) (al_mem e)).symm
set_option maxRecDepth 100000 in
theorem mapseq_spec (r1 r2 : Nat) (s1 s2 : SsM) (hn1 : (s1.map (·.1)).Nodup) (hn2 : (s2.map (·.1)).Nodup) : Fn Tryz.prog 53 #[.map (some r1), .map (some r2)] [mapR r1 (ssE s1), mapR r2 (ssE s2)] fun v L => ∃ b, v = .bool b ∧ (b = true ↔ ∀ i, alook s1 i = alook s2 i) ∧ L = [mapR r1 (ssE s1), mapR r2 (ssE s2)] := by
 refine Fn.intro (vs := [.map (some r1), .map (some r2)]) Tryz.func53 rfl rfl ?_
 intro F W
 refine G.seq (G.region (G.q (Quiet.assign rfl) rfl (G.nil (G.then_n (G.seq (G.seq (G.region (G.q (Quiet.move rfl) rfl ?_))))))))
 refine G.q (Quiet.to (Quiet.maplen rfl Tryz.underlying108 rfl (by (repeat' constructor))) (show _ = vint s1.length by simp [ssE])) rfl ?_
 refine G.q (Quiet.move rfl) rfl ?_
 refine G.q (Quiet.to (Quiet.maplen rfl Tryz.underlying108 rfl (by (repeat' constructor))) (show _ = vint s2.length by simp [ssE])) rfl ?_
 refine G.q (Quiet.int rfl rfl rfl) rfl (G.nil (G.then_n ?_))
 refine G.condN rfl (fun h13 => ?_) (fun h13 => ?_)
 ·refine G.seq (G.region (G.q (Quiet.assign rfl) rfl (G.nil (G.then_n (G.ret (G.then_r ?_))))))
  exact G.done (l := [.tmp 4]) rfl rfl ⟨false, rfl, ⟨fun e => (by cases e), fun e => absurd (al_len_of hn1 hn2 e) (by omega)⟩, rfl⟩ (by (repeat' constructor)) (by (repeat' constructor))
 ·refine G.skip (G.then_n (G.seq (G.seq (G.region (G.q (Quiet.move rfl) rfl ?_)))))
  refine G.op (OpSpec.range (f := fun x : Int × (Int × Bs) => (vint x.1, ssV x.2)) (m := s1) rfl Tryz.underlying108 ?he9) (by (repeat' constructor)) rfl ?nx10
  case he9 => rfl
  rintro v L' ⟨it, rfl, rfl⟩
  refine G.nil (G.then_n (G.block ?_))
  refine G.loopK (ι := SsM) (fun q E => E) (fun q => [rangeR (fun x : Int × (Int × Bs) => (vint x.1, ssV x.2)) it r1 s1 q]) (fun q => (∀ x ∈ q, alook s2 x.1 = some x.2) ∧ ∃ rest, s1.Perm (q ++ rest)) (fun q => s1.length - q.length) ([]) (ts := [1, 15]) (.cons rfl (.cons rfl (.nil))) (⟨by simp, s1, .refl _⟩) ⟨rfl, rfl, trivial⟩ (by (repeat' constructor)) ?_
  rintro ss ⟨hall, rest, hm⟩
  have hml := hm.length_eq
  rw [List.length_append] at hml
  refine G.seq (G.region ?_)
  refine G.op (OpSpec.next rfl) (by (repeat' constructor)) rfl ?nx12
  rintro v L' (⟨rfl, hp4, rfl⟩ | ⟨x, rest4, rfl, hp4, rfl⟩)
  ·refine G.rangeDone (by (repeat' constructor)) ?_
   refine G.q (Quiet.extract rfl rfl) rfl (G.nil (G.then_n (G.seq (G.condF rfl (G.exit (G.then_e (G.then_e (G.blk_e (G.then_n (G.seq (G.region (G.q (Quiet.assign rfl) rfl (G.nil (G.then_n (G.ret ?_)))))))))))))))
   exact G.done (l := [.tmp 4]) rfl rfl ⟨true, rfl, ⟨fun _ => eq_of_all hn1 (by omega) (fun x hx => hall x (hp4.mem_iff.1 hx)), fun _ => rfl⟩, rfl⟩ (by (repeat' constructor)) (by (repeat' constructor))
  ·refine G.q (Quiet.extract rfl rfl) rfl (G.nil (G.then_n (G.seq (G.condT rfl (G.skip (G.then_n (G.block (G.seq (G.region ?_)))))))))
   refine G.q (Quiet.entryE (v := .tuple #[vint x.1, ssV x.2]) rfl (by (repeat' constructor)) rfl) rfl ?_
   refine G.q (Quiet.extract rfl rfl) rfl (G.q (Quiet.extract rfl rfl) rfl ?_)
   refine G.op (OpSpec.allocA ze_112) (by (repeat' constructor)) rfl ?nx21
   rintro v L' ⟨b6, rfl, rfl⟩
   refine G.q (Quiet.assign rfl) rfl ?_
   refine G.op (OpSpec.storeA (vs := [vint x.2.1, vstr x.2.2]) rfl rfl ?c123 sz_112 rfl ?c224 ?c325) (by (repeat' constructor)) rfl ?nx26
   case c123 => (first | (simp [isCell]; done) | (simp [isCell, setAll, Value.cells]; done))
   case c224 => (first | (simp; done) | (simp [setAll, spl, Value.cells]; done))
   case c325 => exact nfz0 _ _
   rintro v L' rfl
   refine G.nil ?_
   refine G.ptCast (b := b6) (l' := [vint x.2.1, vstr x.2.2]) (by (repeat' constructor)) rfl ?_
   have hxm : x ∈ s1 := hp4.mem_iff.2 (by simp)
   have hx1 := al_of_mem (k := x.1) (b := x.2) hn1 hxm
   refine G.then_n (G.seq (G.region ?_))
   rcases hy2 : alook s2 x.1 with _ | y
   ·refine G.q (Quiet.move rfl) rfl (G.q (Quiet.move rfl) rfl ?_)
    refine G.q (Quiet.lookupOkN (m := s2) (enc := ssV) (KeyLaw.int Tryz.underlying3) hy2 rfl rfl Tryz.underlying108 ze_112 (by (repeat' constructor)) rfl) rfl ?_
    refine G.q (Quiet.move rfl) rfl (G.q (Quiet.extract rfl rfl) rfl (G.q (Quiet.extract rfl rfl) rfl ?_))
    refine G.op (OpSpec.allocA ze_112) (by (repeat' constructor)) rfl ?nx31
    rintro v L' ⟨b7, rfl, rfl⟩
    refine G.op (OpSpec.storeA (vs := [.int .i64 0, .string (bs [])]) rfl rfl ?c133 sz_112 rfl ?c234 ?c335) (by (repeat' constructor)) rfl ?nx36
    case c133 => (first | (simp [isCell]; done) | (simp [isCell, setAll, Value.cells]; done))
    case c234 => (first | (simp; done) | (simp [setAll, spl, Value.cells]; done))
    case c335 => exact nfz0 _ _
    rintro v L' rfl
    refine G.q (Quiet.assign rfl) rfl (G.nil (G.then_n (G.seq (G.region (G.q (Quiet.move rfl) rfl (G.q (Quiet.not rfl) rfl (G.q (Quiet.move rfl) rfl (G.gskip (t := 29) rfl rfl rfl rfl (G.gskip (t := 29) rfl rfl rfl rfl (G.gskip (t := 29) rfl rfl rfl rfl (G.q (Quiet.pickT rfl rfl) rfl (G.nil (G.then_n (G.condT rfl (G.seq (G.region (G.q (Quiet.assign rfl) rfl (G.nil (G.then_n (G.ret (G.blk_r (G.then_r (G.blk_r (G.then_r ?_))))))))))))))))))))))))
    refine G.rangeDone (by (repeat' constructor)) ?_
    exact G.done (l := [.tmp 4]) rfl rfl ⟨false, rfl, ⟨fun e => (by cases e), fun e => absurd (e x.1) (by rw [hx1, hy2]; simp)⟩, rfl⟩ (by (repeat' constructor)) (by (repeat' constructor))
   ·refine G.q (Quiet.move rfl) rfl (G.q (Quiet.move rfl) rfl ?_)
    refine G.q (Quiet.lookupOkY (m := s2) (enc := ssV) (KeyLaw.int Tryz.underlying3) hy2 rfl rfl Tryz.underlying108 ze_112 (by (repeat' constructor)) rfl) rfl ?_
    refine G.q (Quiet.move rfl) rfl (G.q (Quiet.extract rfl rfl) rfl (G.q (Quiet.extract rfl rfl) rfl ?_))
    refine G.op (OpSpec.allocA ze_112) (by (repeat' constructor)) rfl ?nx44
    rintro v L' ⟨b7, rfl, rfl⟩
    refine G.op (OpSpec.storeA (vs := [vint y.1, vstr y.2]) rfl rfl ?c146 sz_112 rfl ?c247 ?c348) (by (repeat' constructor)) rfl ?nx49
    case c146 => (first | (simp [isCell]; done) | (simp [isCell, setAll, Value.cells]; done))
    case c247 => (first | (simp; done) | (simp [setAll, spl, Value.cells]; done))
    case c348 => exact nfz0 _ _
    rintro v L' rfl
    refine G.q (Quiet.assign rfl) rfl (G.nil ?_)
    refine G.ptCast (b := b7) (l' := [vint y.1, vstr y.2]) (by (repeat' constructor)) rfl ?_
    refine G.then_n (G.seq (G.region (G.q (Quiet.move rfl) rfl (G.q (Quiet.not rfl) rfl (G.q (Quiet.move rfl) rfl (G.grun (t := 29) rfl rfl rfl ?_))))))
    refine G.q (Quiet.loadAs (vs := [vint x.2.1, vstr x.2.2]) rfl ag_112 (by (repeat' constructor)) (by simp) rfl) rfl ?_
    refine G.grun (t := 29) rfl rfl rfl ?_
    refine G.q (Quiet.loadAs (vs := [vint y.1, vstr y.2]) rfl ag_112 (by (repeat' constructor)) (by simp) rfl) rfl ?_
    refine G.grun (t := 29) rfl rfl rfl ?_
    refine G.q (Quiet.structNe (r := decide (x.2 = y)) rfl rfl (by kernel_rfl) (ss_eq 9998 x.2 y)) rfl ?_
    refine G.q (Quiet.pickF rfl rfl) rfl (G.nil (G.then_n ?_))
    refine G.condN rfl (fun h33 => ?_) (fun h33 => ?_)
    ·refine G.seq (G.region (G.q (Quiet.assign rfl) rfl (G.nil (G.then_n (G.ret (G.blk_r (G.then_r (G.blk_r (G.then_r ?_)))))))))
     refine G.rangeDone (by (repeat' constructor)) ?_
     exact G.done (l := [.tmp 4]) rfl rfl ⟨false, rfl, ⟨fun e => (by cases e), fun e => absurd (e x.1) (by rw [hx1, hy2]; intro g; exact h33 (Option.some.inj g))⟩, rfl⟩ (by (repeat' constructor)) (by (repeat' constructor))
    ·have h7_x := h33.symm
     refine G.skip (G.blk_n (G.then_n ?_))
     have hl := hp4.length_eq
     simp at hl
     exact G.roundK ((ss ++ [x])) (⟨fun z hz => by rcases List.mem_append.1 hz with hz | hz; exact hall z hz; (have hz : z = x := by simpa using hz); subst hz; rw [hy2, h7_x], ⟨_, by simpa using hp4⟩⟩) (by simp; omega) ⟨rfl, rfl, trivial⟩ (by (repeat' constructor)) (by ((repeat (apply Have.cons; (repeat (first | exact Pick.here | apply Pick.there)))); apply Have.base; repeat' constructor))

theorem nd_all {a b : NmM} (ha : (a.map (·.1)).Nodup) (hl : a.length = b.length) (h : ∀ x ∈ a, ∃ y, alook b x.1 = some y ∧ y.2.2 = x.2.2.2) : ∀ p, (alook a p).map (fun x : Nm => x.2.2) = (alook b p).map (fun x : Nm => x.2.2) := fun p => by
  rcases e : alook a p with _ | y
  · rw [keys_same ha hl (fun x hx => by obtain ⟨y, hy, -⟩ := h x hx; rw [hy]; rfl) e]
  · obtain ⟨z, hz, hq⟩ := h (p, y) (al_mem e)
    dsimp only at hz hq
    rw [hz]; simp [hq]
theorem nd_len {a b : NmM} (ha : (a.map (·.1)).Nodup) (hb : (b.map (·.1)).Nodup) (h : ∀ p, (alook a p).map (fun x : Nm => x.2.2) = (alook b p).map (fun x : Nm => x.2.2)) : a.length = b.length := by
  have := ((List.perm_ext_iff_of_nodup ha hb).2 fun p => by
    rw [← al_isSome, ← al_isSome]
    have := congrArg Option.isSome (h p)
    rw [Option.isSome_map, Option.isSome_map] at this
    rw [this]).length_eq
  simpa using this
set_option maxRecDepth 100000 in
theorem mapsef_spec (r1 r2 : Nat) (m1 m2 : NmM) (hn1 : (m1.map (·.1)).Nodup) (hn2 : (m2.map (·.1)).Nodup) (hacl : ∀ x ∈ m1, x.2.2.2.acl.length ≤ 1048576) : Fn Tryz.prog 54 #[.map (some r1), .map (some r2), .func (.func 55) #[] #[]] [mapR r1 (ndE m1), mapR r2 (ndE m2), bigR inN m1, bigR inN m2] fun v L => ∃ b, v = .bool b ∧ (b = true ↔ ∀ p, (alook m1 p).map (fun x : Nm => x.2.2) = (alook m2 p).map (fun x : Nm => x.2.2)) ∧ L = [mapR r1 (ndE m1), mapR r2 (ndE m2), bigR inN m1, bigR inN m2] := by
 refine Fn.intro (vs := [.map (some r1), .map (some r2), .func (.func 55) #[] #[]]) Tryz.func54 rfl rfl ?_
 intro F W
 refine G.seq (G.region (G.q (Quiet.assign rfl) rfl (G.nil (G.then_n (G.seq (G.seq (G.region (G.q (Quiet.move rfl) rfl ?_))))))))
 refine G.q (Quiet.to (Quiet.maplen rfl Tryz.underlying107 rfl (by (repeat' constructor))) (show _ = vint m1.length by simp [ndE])) rfl ?_
 refine G.q (Quiet.move rfl) rfl ?_
 refine G.q (Quiet.to (Quiet.maplen rfl Tryz.underlying107 rfl (by (repeat' constructor))) (show _ = vint m2.length by simp [ndE])) rfl ?_
 refine G.q (Quiet.int rfl rfl rfl) rfl (G.nil (G.then_n ?_))
 refine G.condN rfl (fun h15 => ?_) (fun h15 => ?_)
 ·refine G.seq (G.region (G.q (Quiet.assign rfl) rfl (G.nil (G.then_n (G.ret (G.then_r ?_))))))
  exact G.done (l := [.tmp 6]) rfl rfl ⟨false, rfl, ⟨fun e => (by cases e), fun e => absurd (nd_len hn1 hn2 e) (by omega)⟩, rfl⟩ (by (repeat' constructor)) (by (repeat' constructor))
 ·refine G.skip (G.then_n (G.seq (G.seq (G.region (G.q (Quiet.move rfl) rfl ?_)))))
  refine G.op (OpSpec.range (f := fun x : Bs × Nm => (vstr x.1, ndV x.2)) (m := m1) rfl Tryz.underlying107 ?he9) (by (repeat' constructor)) rfl ?nx10
  case he9 => rfl
  rintro v L' ⟨it, rfl, rfl⟩
  refine G.nil (G.then_n (G.block ?_))
  refine G.loopK (ι := NmM) (fun q E => E) (fun q => [rangeR (fun x : Bs × Nm => (vstr x.1, ndV x.2)) it r1 m1 q]) (fun q => (∀ x ∈ q, ∃ y, alook m2 x.1 = some y ∧ y.2.2 = x.2.2.2) ∧ ∃ rest, m1.Perm (q ++ rest)) (fun q => m1.length - q.length) ([]) (ts := [1, 2, 17]) (.cons rfl (.cons rfl (.cons rfl (.nil)))) (⟨by simp, m1, .refl _⟩) ⟨rfl, rfl, rfl, trivial⟩ (by (repeat' constructor)) ?_
  rintro ss ⟨hall, rest, hm⟩
  have hml := hm.length_eq
  rw [List.length_append] at hml
  refine G.seq (G.region ?_)
  refine G.op (OpSpec.next rfl) (by (repeat' constructor)) rfl ?nx12
  rintro v L' (⟨rfl, hp4, rfl⟩ | ⟨x, rest4, rfl, hp4, rfl⟩)
  ·refine G.rangeDone (by (repeat' constructor)) ?_
   refine G.q (Quiet.extract rfl rfl) rfl (G.nil (G.then_n (G.seq (G.condF rfl (G.exit (G.then_e (G.then_e (G.blk_e (G.then_n (G.seq (G.region (G.q (Quiet.assign rfl) rfl (G.nil (G.then_n (G.ret ?_)))))))))))))))
   exact G.done (l := [.tmp 6]) rfl rfl ⟨true, rfl, ⟨fun _ => nd_all hn1 (by omega) (fun x hx => hall x (hp4.mem_iff.1 hx)), fun _ => rfl⟩, rfl⟩ (by (repeat' constructor)) (by (repeat' constructor))
  ·refine G.q (Quiet.extract rfl rfl) rfl (G.nil (G.then_n (G.seq (G.condT rfl (G.skip (G.then_n (G.block (G.seq (G.region ?_)))))))))
   refine G.q (Quiet.entryE (v := .tuple #[vstr x.1, ndV x.2]) rfl (by (repeat' constructor)) rfl) rfl ?_
   refine G.q (Quiet.extract rfl rfl) rfl (G.q (Quiet.extract rfl rfl) rfl (G.q (Quiet.assign rfl) rfl (G.q (Quiet.assign rfl) rfl (G.nil ?_))))
   have hxm : x ∈ m1 := hp4.mem_iff.2 (by simp)
   have hx1 := al_of_mem (k := x.1) (b := x.2) hn1 hxm
   refine G.then_n (G.seq (G.region ?_))
   rcases hy2 : alook m2 x.1 with _ | y
   ·refine G.q (Quiet.move rfl) rfl (G.q (Quiet.move rfl) rfl ?_)
    refine G.q (Quiet.lookupOkN (m := m2) (enc := ndV) (KeyLaw.str Tryz.underlying9) hy2 rfl rfl Tryz.underlying107 ze_102 (by (repeat' constructor)) rfl) rfl ?_
    refine G.q (Quiet.move rfl) rfl (G.q (Quiet.extract rfl rfl) rfl (G.q (Quiet.extract rfl rfl) rfl (G.q (Quiet.assign rfl) rfl (G.q (Quiet.assign rfl) rfl (G.nil (G.then_n (G.seq (G.region (G.q (Quiet.move rfl) rfl (G.q (Quiet.not rfl) rfl (G.q (Quiet.move rfl) rfl (G.gskip (t := 31) rfl rfl rfl rfl (G.gskip (t := 31) rfl rfl rfl rfl (G.gskip (t := 31) rfl rfl rfl rfl (G.gskip (t := 31) rfl rfl rfl rfl (G.gskip (t := 31) rfl rfl rfl rfl (G.q (Quiet.pickT rfl rfl) rfl (G.nil (G.then_n (G.condT rfl (G.seq (G.region (G.q (Quiet.assign rfl) rfl (G.nil (G.then_n (G.ret (G.blk_r (G.then_r (G.blk_r (G.then_r ?_))))))))))))))))))))))))))))))
    refine G.rangeDone (by (repeat' constructor)) ?_
    exact G.done (l := [.tmp 6]) rfl rfl ⟨false, rfl, ⟨fun e => (by cases e), fun e => absurd (e x.1) (by rw [hx1, hy2]; simp)⟩, rfl⟩ (by (repeat' constructor)) (by (repeat' constructor))
   ·refine G.q (Quiet.move rfl) rfl (G.q (Quiet.move rfl) rfl ?_)
    refine G.q (Quiet.lookupOkY (m := m2) (enc := ndV) (KeyLaw.str Tryz.underlying9) hy2 rfl rfl Tryz.underlying107 ze_102 (by (repeat' constructor)) rfl) rfl ?_
    refine G.q (Quiet.move rfl) rfl (G.q (Quiet.extract rfl rfl) rfl (G.q (Quiet.extract rfl rfl) rfl (G.q (Quiet.assign rfl) rfl (G.q (Quiet.assign rfl) rfl (G.nil (G.then_n (G.seq (G.region (G.q (Quiet.move rfl) rfl (G.q (Quiet.not rfl) rfl (G.q (Quiet.move rfl) rfl ?_)))))))))))
    refine G.bigTake hx1 (by (repeat' constructor)) ?_
    refine G.bigTake hy2 (by (repeat' constructor)) ?_
    refine G.grun (t := 31) rfl rfl rfl (G.q (Quiet.move rfl) rfl (G.grun (t := 31) rfl rfl rfl (G.q (Quiet.move rfl) rfl (G.grun (t := 31) rfl rfl rfl (G.q (Quiet.move rfl) rfl (G.grun (t := 31) rfl rfl rfl ?_))))))
    refine G.op (OpSpec.callV Tryz.func55 rfl rfl (us := []) (vs := [_, _]) (ws := []) rfl rfl (trsame1_spec x.1 x.1 x.2 y (hacl _ hxm))) (by (repeat' constructor)) rfl ?nx34
    rintro v L' ⟨rfl, rfl⟩
    refine G.bigPut (f := inN) (m := m1) x.1 x.2 rfl (by (repeat' constructor)) ?_
    refine G.bigPut (f := inN) (m := m2) x.1 y rfl (by (repeat' constructor)) ?_
    rw [aset_self hx1, aset_self hy2]
    refine G.grun (t := 31) rfl rfl rfl (G.q (Quiet.not rfl) rfl (G.q (Quiet.pickF rfl rfl) rfl (G.nil (G.then_n ?_))))
    refine G.condN rfl (fun h37 => ?_) (fun h37 => ?_)
    ·refine G.seq (G.region (G.q (Quiet.assign rfl) rfl (G.nil (G.then_n (G.ret (G.blk_r (G.then_r (G.blk_r (G.then_r ?_)))))))))
     refine G.rangeDone (by (repeat' constructor)) ?_
     exact G.done (l := [.tmp 6]) rfl rfl ⟨false, rfl, ⟨fun e => (by cases e), fun e => absurd (e x.1) (by rw [hx1, hy2]; intro g; exact h37 (Option.some.inj g))⟩, rfl⟩ (by (repeat' constructor)) (by (repeat' constructor))
    ·have h35 := h37
     refine G.skip (G.blk_n (G.then_n ?_))
     have hl := hp4.length_eq
     simp at hl
     exact G.roundK ((ss ++ [x])) (⟨fun z hz => by rcases List.mem_append.1 hz with hz | hz; exact hall z hz; (have hz : z = x := by simpa using hz); subst hz; exact ⟨y, hy2, h35.symm⟩, ⟨_, by simpa using hp4⟩⟩) (by simp; omega) ⟨rfl, rfl, rfl, trivial⟩ (by (repeat' constructor)) (by ((repeat (apply Have.cons; (repeat (first | exact Pick.here | apply Pick.there)))); apply Have.base; repeat' constructor))

set_option maxRecDepth 100000 in
theorem trsame_spec (t u : Nat) (τ υ : Tr) (N M : Nat) (ho : τ.Ok N) (hυ : υ.Ok M) : Fn Tryz.prog 23 #[vptr t, vptr u] [treeR t τ, treeR u υ] fun v L => v = .bool (decide (τ = υ)) ∧ L = [treeR t τ, treeR u υ] := by
 refine Fn.intro (vs := [vptr t, vptr u]) Tryz.func23 rfl rfl ?_
 intro F W
 refine G.trOpen (τ := τ) (by (repeat' constructor)) fun rn rs m s hI => ?_
 refine G.trOpen (t := u) (τ := υ) (by (repeat' constructor)) fun rn2 rs2 m2 s2 hI2 => ?_
 have hts := tr_same ho hυ hI hI2
 refine G.seq (G.region (G.q (Quiet.assign rfl) rfl (G.nil (G.then_n (G.seq ?_)))))
 refine G.draw [22, 33] [[0, 1, 2, 3, 4, 5, 6, 7, 8, 9, 10, 11, 12, 13, 14, 15, 16, 17, 18, 19, 20, 21, 22], [23, 24, 25, 26, 27, 28, 29, 30, 31, 32, 33], [34, 35]] mixed (by kernel_rfl) ?_
 refine Phases.go [] (by (repeat' constructor)) ?_
 refine D.qw [1, 2, 3, 4, 5, 6, 7, 8, 9, 10, 11, 12, 13, 14, 15, 16, 17, 18, 19, 20, 21, 22] rfl (by kernel_rfl) (Quiet.move rfl) ?_
 refine D.qw [2, 3, 4, 5, 6, 7, 8, 9, 10, 11, 12, 13, 14, 15, 16, 17, 18, 19, 20, 21, 22] rfl (by kernel_rfl) (Quiet.as (v' := .bool true) (by rfl) (Quiet.ptrne rfl rfl Tryz.underlying28)) ?_
 refine D.qw [3, 4, 5, 6, 7, 8, 9, 10, 11, 12, 13, 14, 15, 16, 17, 18, 19, 20, 21, 22] rfl (by kernel_rfl) (Quiet.move rfl) ?_
 refine D.gqw [4, 5, 6, 11, 12, 13, 14, 15, 16, 17, 18, 19, 20, 21, 22] (t := 7) rfl rfl rfl (by kernel_rfl) (Quiet.move rfl) ?_
 refine D.gqw [5, 6, 11, 12, 13, 14, 15, 16, 17, 18, 19, 20, 21, 22] (t := 7) rfl rfl rfl (by kernel_rfl) (Quiet.nilp rfl) ?_
 refine D.gqw [6, 11, 12, 13, 14, 15, 16, 17, 18, 19, 20, 21, 22] (t := 7) rfl rfl rfl (by kernel_rfl) (Quiet.fieldAddr rfl fo_110_2) ?_
 refine D.gqw [11, 12, 13, 14, 15, 16, 17, 18, 19, 20, 21, 22] (t := 7) rfl rfl rfl (by kernel_rfl) (Quiet.load rfl ag_3 (by (repeat' constructor)) (rfl)) ?_
 refine D.gqw [8, 9, 10, 11, 12, 13, 14, 15, 16, 17, 18, 19, 20, 21, 22] (t := 7) rfl rfl rfl (by kernel_rfl) (Quiet.move rfl) ?_
 refine D.gqw [9, 10, 11, 12, 13, 14, 15, 16, 17, 18, 19, 20, 21, 22] (t := 7) rfl rfl rfl (by kernel_rfl) (Quiet.nilp rfl) ?_
 refine D.gqw [10, 11, 12, 13, 14, 15, 16, 17, 18, 19, 20, 21, 22] (t := 7) rfl rfl rfl (by kernel_rfl) (Quiet.fieldAddr rfl fo_110_2) ?_
 refine D.gqw [11, 12, 13, 14, 15, 16, 17, 18, 19, 20, 21, 22] (t := 7) rfl rfl rfl (by kernel_rfl) (Quiet.load rfl ag_3 (by (repeat' constructor)) (rfl)) ?_
 refine D.gqw [12, 13, 14, 15, 16, 17, 18, 19, 20, 21, 22] (t := 7) rfl rfl rfl (by kernel_rfl) (Quiet.int rfl rfl rfl) ?_
 refine D.qw [13, 14, 15, 16, 17, 18, 19, 20, 21, 22] rfl (by kernel_rfl) (Quiet.pickT rfl rfl) ?_
 refine D.qw [14, 15, 16, 17, 18, 19, 20, 21, 22] rfl (by kernel_rfl) (Quiet.move rfl) ?_
 refine D.dec (t := 18) rfl (fun h1_18 => ?_) (fun h1_18 => ?_)
 ·refine D.kDT (t := 16) rfl h1_18 (D.kDT (t := 17) rfl h1_18 ?_)
  refine D.gqw [15, 16, 17, 22] (t := 18) rfl rfl rfl (by kernel_rfl) (Quiet.move rfl) ?_
  refine D.gqw [16, 17, 22] (t := 18) rfl rfl rfl (by kernel_rfl) (Quiet.nilp rfl) ?_
  refine D.gqw [17, 22] (t := 18) rfl rfl rfl (by kernel_rfl) (Quiet.fieldAddr rfl fo_110_1) ?_
  refine D.gqw [22] (t := 18) rfl rfl rfl (by kernel_rfl) (Quiet.load rfl ag_108 (by (repeat' constructor)) (rfl)) ?_
  refine D.gqw [19, 20, 21, 22] (t := 18) rfl rfl rfl (by kernel_rfl) (Quiet.move rfl) ?_
  refine D.gqw [20, 21, 22] (t := 18) rfl rfl rfl (by kernel_rfl) (Quiet.nilp rfl) ?_
  refine D.gqw [21, 22] (t := 18) rfl rfl rfl (by kernel_rfl) (Quiet.fieldAddr rfl fo_110_1) ?_
  refine D.gqw [22] (t := 18) rfl rfl rfl (by kernel_rfl) (Quiet.load rfl ag_108 (by (repeat' constructor)) (rfl)) ?_
  refine D.gh (t := 18) rfl rfl rfl (by kernel_rfl) (OpSpec.call Tryz.func53 rfl rfl (vs := [_, _]) rfl (mapseq_spec rs rs2 s s2 hI.skeys hI2.skeys)) (by (repeat' constructor)) ?nx21
  rintro v L' ⟨b1, rfl, hb1, rfl⟩
  refine D.ph ?_
  refine Phases.go [] (by (repeat' constructor)) ?_
  refine D.qw [24, 25, 26, 27, 28, 29, 30, 31, 32, 33] rfl (by kernel_rfl) (Quiet.pickT rfl rfl) ?_
  refine D.qw [25, 26, 27, 28, 29, 30, 31, 32, 33] rfl (by kernel_rfl) (Quiet.move rfl) ?_
  refine D.bool (t := 29) rfl (fun h1_29 => ?_) (fun h1_29 => ?_)
  ·refine D.kB (t := 27) rfl h1_29 (D.kB (t := 28) rfl h1_29 ?_)
   refine D.gqw [26, 27, 28, 33] (t := 29) rfl rfl rfl (by kernel_rfl) (Quiet.move rfl) ?_
   refine D.gqw [27, 28, 33] (t := 29) rfl rfl rfl (by kernel_rfl) (Quiet.nilp rfl) ?_
   refine D.gqw [28, 33] (t := 29) rfl rfl rfl (by kernel_rfl) (Quiet.fieldAddr rfl fo_110_0) ?_
   refine D.gqw [33] (t := 29) rfl rfl rfl (by kernel_rfl) (Quiet.load rfl ag_107 (by (repeat' constructor)) (rfl)) ?_
   refine D.gqw [30, 31, 32, 33] (t := 29) rfl rfl rfl (by kernel_rfl) (Quiet.move rfl) ?_
   refine D.gqw [31, 32, 33] (t := 29) rfl rfl rfl (by kernel_rfl) (Quiet.nilp rfl) ?_
   refine D.gqw [32, 33] (t := 29) rfl rfl rfl (by kernel_rfl) (Quiet.fieldAddr rfl fo_110_0) ?_
   refine D.gqw [33] (t := 29) rfl rfl rfl (by kernel_rfl) (Quiet.load rfl ag_107 (by (repeat' constructor)) (rfl)) ?_
   refine D.gh (t := 29) rfl rfl rfl (by kernel_rfl) (OpSpec.call Tryz.func54 rfl rfl (vs := [_, _, _]) rfl (mapsef_spec rn rn2 m m2 hI.keys hI2.keys (fun x hx => hI.acl ho (al_of_mem (k := x.1) (b := x.2) hI.keys hx)))) (by (repeat' constructor)) ?nx31
   rintro v L' ⟨b2, rfl, hb2, rfl⟩
   refine D.ph ?_
   refine Phases.go [] (by (repeat' constructor)) ?_
   refine D.qw [35] rfl (by kernel_rfl) (Quiet.pickT rfl rfl) ?_
   refine D.qw [] rfl (by kernel_rfl) (Quiet.assign rfl) ?_
   refine D.ph (Phases.fin (G.then_n (G.ret ?_)))
   refine G.trFold (τ := τ) hI (by (repeat' constructor)) rfl rfl rfl ?_
   refine G.trFold (t := u) (τ := υ) hI2 (by (repeat' constructor)) rfl rfl rfl ?_
   exact G.done (l := [.tmp 4]) rfl rfl ⟨by congr 1; exact Bool.eq_iff_iff.2 (by rw [decide_eq_true_iff, hts]; exact ⟨fun e => ⟨h1_18, hb1.1 h1_29, hb2.1 e⟩, fun e => hb2.2 e.2.2⟩), rfl⟩ (by (repeat' constructor)) (by (repeat' constructor))
  ·refine D.kB (t := 27) rfl h1_29 (D.kB (t := 28) rfl h1_29 ?_)
   refine D.gs (t := 29) rfl rfl rfl rfl (by kernel_rfl) ?_
   refine D.gs (t := 29) rfl rfl rfl rfl (by kernel_rfl) ?_
   refine D.gs (t := 29) rfl rfl rfl rfl (by kernel_rfl) ?_
   refine D.gs (t := 29) rfl rfl rfl rfl (by kernel_rfl) ?_
   refine D.gs (t := 29) rfl rfl rfl rfl (by kernel_rfl) ?_
   refine D.gs (t := 29) rfl rfl rfl rfl (by kernel_rfl) ?_
   refine D.gs (t := 29) rfl rfl rfl rfl (by kernel_rfl) ?_
   refine D.gs (t := 29) rfl rfl rfl rfl (by kernel_rfl) ?_
   refine D.gs (t := 29) rfl rfl rfl rfl (by kernel_rfl) ?_
   refine D.ph ?_
   refine Phases.go [] (by (repeat' constructor)) ?_
   refine D.qw [35] rfl (by kernel_rfl) (Quiet.pickF rfl rfl) ?_
   refine D.qw [] rfl (by kernel_rfl) (Quiet.assign rfl) ?_
   refine D.ph (Phases.fin (G.then_n (G.ret ?_)))
   refine G.trFold (τ := τ) hI (by (repeat' constructor)) rfl rfl rfl ?_
   refine G.trFold (t := u) (τ := υ) hI2 (by (repeat' constructor)) rfl rfl rfl ?_
   exact G.done (l := [.tmp 4]) rfl rfl ⟨by rw [decide_eq_false (fun e => by have := hb1.2 (hts.1 e).2.1; rw [h1_29] at this; cases this)], rfl⟩ (by (repeat' constructor)) (by (repeat' constructor))
 ·refine D.kDF (t := 16) rfl h1_18 (D.kDF (t := 17) rfl h1_18 ?_)
  refine D.gs (t := 18) rfl rfl rfl rfl (by kernel_rfl) ?_
  refine D.gs (t := 18) rfl rfl rfl rfl (by kernel_rfl) ?_
  refine D.gs (t := 18) rfl rfl rfl rfl (by kernel_rfl) ?_
  refine D.gs (t := 18) rfl rfl rfl rfl (by kernel_rfl) ?_
  refine D.gs (t := 18) rfl rfl rfl rfl (by kernel_rfl) ?_
  refine D.gs (t := 18) rfl rfl rfl rfl (by kernel_rfl) ?_
  refine D.gs (t := 18) rfl rfl rfl rfl (by kernel_rfl) ?_
  refine D.gs (t := 18) rfl rfl rfl rfl (by kernel_rfl) ?_
  refine D.gs (t := 18) rfl rfl rfl rfl (by kernel_rfl) ?_
  refine D.ph ?_
  refine Phases.go [] (by (repeat' constructor)) ?_
  refine D.qw [24, 25, 26, 27, 28, 29, 30, 31, 32, 33] rfl (by kernel_rfl) (Quiet.pickF rfl rfl) ?_
  refine D.qw [25, 26, 27, 28, 29, 30, 31, 32, 33] rfl (by kernel_rfl) (Quiet.move rfl) ?_
  refine D.gs (t := 29) rfl rfl rfl rfl (by kernel_rfl) ?_
  refine D.gs (t := 29) rfl rfl rfl rfl (by kernel_rfl) ?_
  refine D.gs (t := 29) rfl rfl rfl rfl (by kernel_rfl) ?_
  refine D.gs (t := 29) rfl rfl rfl rfl (by kernel_rfl) ?_
  refine D.gs (t := 29) rfl rfl rfl rfl (by kernel_rfl) ?_
  refine D.gs (t := 29) rfl rfl rfl rfl (by kernel_rfl) ?_
  refine D.gs (t := 29) rfl rfl rfl rfl (by kernel_rfl) ?_
  refine D.gs (t := 29) rfl rfl rfl rfl (by kernel_rfl) ?_
  refine D.gs (t := 29) rfl rfl rfl rfl (by kernel_rfl) ?_
  refine D.ph ?_
  refine Phases.go [] (by (repeat' constructor)) ?_
  refine D.qw [35] rfl (by kernel_rfl) (Quiet.pickF rfl rfl) ?_
  refine D.qw [] rfl (by kernel_rfl) (Quiet.assign rfl) ?_
  refine D.ph (Phases.fin (G.then_n (G.ret ?_)))
  refine G.trFold (τ := τ) hI (by (repeat' constructor)) rfl rfl rfl ?_
  refine G.trFold (t := u) (τ := υ) hI2 (by (repeat' constructor)) rfl rfl rfl ?_
  exact G.done (l := [.tmp 4]) rfl rfl ⟨by rw [decide_eq_false (fun e => h1_18 (hts.1 e).1)], rfl⟩ (by (repeat' constructor)) (by (repeat' constructor))

end Go.Proofs.YtnnbelmpbmfdnaaGreatDoor
/- Own work, by program: package tree: Apply, Stat, Get: walked. -/

namespace Go.Proofs.YtnnbelmpbmfdnaaGreatDoor
open Go
set_option maxRecDepth 100000 in
theorem trapply_spec (t : Nat) (τ : Tr) (zx ses xid : Int) (x : Pt) (subs : List Pt) (p : HP) (hx : TxA p x subs) (N : Nat) (ho : τ.Ok N) (hN : N + subs.length ≤ 1099511627776) : Fn Tryz.prog 14 #[vptr t, .agg ([vint zx, vint ses, vint xid] ++ ptC x).toArray] [treeR t τ, p] fun v L => ∃ u e, v = .tuple #[u, vint e] ∧ e = (applyZ τ zx x subs).2.2 ∧ (∃ a c, u = .slice a (applyZ τ zx x subs).2.1.length c) ∧ L = [treeR t (applyZ τ zx x subs).1, p, slR 75 3 u (applyZ τ zx x subs).2.1.length ((applyZ τ zx x subs).2.1.flatMap evC)] := by
 refine Fn.intro (vs := [vptr t, .agg ([vint zx, vint ses, vint xid] ++ ptC x).toArray]) Tryz.func14 rfl rfl ?_
 intro F W
 refine G.rdAny (p := p) hx.rd (by (repeat' constructor)) fun asb csb esub _ => ?_
 have hrd := hx.rd
 rw [esub] at hrd
 have hfs := hx.few
 refine G.seq (G.region ?_)
 refine G.op (OpSpec.box rfl) (by (repeat' constructor)) rfl ?nx1
 rintro v L' ⟨be, rfl, rfl⟩
 refine G.q (Quiet.assign rfl) rfl (G.q (Quiet.assign rfl) rfl (G.nil ?_))
 refine G.ptCast (b := be) (l' := ([vint zx, vint ses, vint xid] ++ ptC x)) (by (repeat' constructor)) rfl ?_
 refine G.then_n (G.seq (G.region (G.q (Quiet.assign rfl) rfl (G.nil (G.then_n (G.seq (G.region (G.q (Quiet.fieldAddr rfl fo_39_3) rfl ?_))))))))
 refine G.q (Quiet.loadAs (vs := ptC x) rfl ag_37 (by (repeat' constructor)) (by simp [ptC]) rfl) rfl ?_
 refine G.op (OpSpec.allocA ze_37) (by (repeat' constructor)) rfl ?nx8
 rintro v L' ⟨bx, rfl, rfl⟩
 refine G.op (OpSpec.storeA rfl rfl ?c10 sz_37 ?c13 ?c11 ?c12) (by (repeat' constructor)) rfl ?nx14
 case c10 => exact hx.own.all
 case c13 => rfl
 case c11 => simp [ptC]
 case c12 => exact nfz0 _ _
 rintro v L' rfl
 refine G.nil ?_
 refine G.ptCast (b := bx) (l' := ptC x) (by (repeat' constructor)) rfl ?_
 refine G.then_n (G.seq ?_)
 refine G.trOpen (τ := τ) (by (repeat' constructor)) fun rn rs m s hI => ?_
 refine G.region (G.q (Quiet.move rfl) rfl (G.q (Quiet.fieldAddr rfl fo_39_0) rfl ?_))
 refine G.q (Quiet.load rfl ag_3 (by (repeat' constructor)) (rfl)) rfl ?_
 refine G.q (Quiet.nilp rfl) rfl (G.q (Quiet.fieldAddr rfl fo_110_2) rfl ?_)
 refine G.op (OpSpec.store rfl rfl rfl sz_3 ?c20 ?c21) (by (repeat' constructor)) rfl ?nx22
 case c20 => first | decide | (simp; omega) | simp
 case c21 => exact nfz0 _ _
 rintro v L' rfl
 refine G.nil ?_
 refine G.trFold (τ := (zxT τ zx)) (hI.zx zx) (by (repeat' constructor)) rfl rfl rfl ?_
 refine G.then_n (G.seq (G.seq (G.region (G.q (Quiet.fieldAddr rfl fo_37_0) rfl ?_))))
 refine G.q (Quiet.load rfl ag_3 (by (repeat' constructor)) (rfl)) rfl ?_
 refine G.nil (G.then_n (G.block (G.seq (G.region (G.q (Quiet.int rfl rfl rfl) rfl (G.q (Quiet.assign rfl) rfl (G.nil (G.then_n ?_))))))))
 refine G.condD rfl (fun h26 => ?_) (fun h26 => ?_)
 ·refine G.seq (G.region (G.q (Quiet.fieldAddr rfl fo_37_4) rfl ?_))
  refine G.q (Quiet.load rfl ag_3 (by (repeat' constructor)) (rfl)) rfl ?_
  refine G.q (Quiet.int rfl rfl rfl) rfl (G.nil (G.then_n ?_))
  refine G.condD rfl (fun h30 => ?_) (fun h30 => ?_)
  ·refine G.trOpen (τ := (zxT τ zx)) (by (repeat' constructor)) fun rn rs m s hI => ?_
   refine G.draw [11] [[0, 1, 2, 3, 4, 5, 6, 7, 8, 9, 10, 11]] mixed (by kernel_rfl) ?_
   refine Phases.go [] (by (repeat' constructor)) ?_
   refine D.qw [1, 2, 3, 11] rfl (by kernel_rfl) (Quiet.move rfl) ?_
   refine D.qw [2, 3, 11] rfl (by kernel_rfl) (Quiet.nilp rfl) ?_
   refine D.qw [3, 11] rfl (by kernel_rfl) (Quiet.fieldAddr rfl fo_110_1) ?_
   refine D.qw [11] rfl (by kernel_rfl) (Quiet.load rfl ag_108 (by (repeat' constructor)) (rfl)) ?_
   refine D.qw [5, 11] rfl (by kernel_rfl) (Quiet.fieldAddr rfl fo_37_4) ?_
   refine D.qw [11] rfl (by kernel_rfl) (Quiet.load rfl ag_3 (by (repeat' constructor)) (rfl)) ?_
   refine D.qw [7, 10, 11] rfl (by kernel_rfl) (Quiet.fieldAddr rfl fo_37_5) ?_
   refine D.qw [10, 11] rfl (by kernel_rfl) (Quiet.load rfl ag_3 (by (repeat' constructor)) (rfl)) ?_
   refine D.qw [9, 10, 11] rfl (by kernel_rfl) (Quiet.fieldAddr rfl fo_37_2) ?_
   refine D.qw [10, 11] rfl (by kernel_rfl) (Quiet.load rfl ag_9 (by (repeat' constructor)) (rfl)) ?_
   refine D.qw [11] rfl (by kernel_rfl) (Quiet.build (us := [(0, _), (1, _)]) fl_112 ze_112 rfl rfl (by simp [isCell])) ?_
   refine D.h rfl (by kernel_rfl) (OpSpec.mapSet (m := s) (enc := ssV) (v := (x.num, x.data)) (k := x.own) (KeyLaw.int Tryz.underlying3) rfl rfl rfl Tryz.underlying108 ?he40) (by (repeat' constructor)) ?nx41
   case he40 => rfl
   rintro v L' rfl
   refine D.ph (Phases.fin ?_)
   refine G.trFold (τ := (openS (zxT τ zx) x.own x.num x.data)) (hI.open x.own x.num x.data) (by (repeat' constructor)) rfl rfl rfl ?_
   refine G.blk_n (G.then_n (G.seq (G.region (G.q (Quiet.move rfl) rfl (G.q (Quiet.assign rfl) rfl (G.q (Quiet.assign rfl) rfl (G.nil (G.then_n (G.ret (G.add (slR_nil 75 3) ?_))))))))))
   have hc : applyZ τ zx x subs = (openS (zxT τ zx) x.own x.num x.data, ([], 0)) := by unfold applyZ; dsimp only; rw [if_pos h26, if_pos (by omega)]
   refine G.trCast (τ' := (applyZ τ zx x subs).1) (by (repeat' constructor)) (by rw [hc]) ?_
   refine G.slCast (T := 75) (sz := 3) (m' := (applyZ τ zx x subs).2.1.length) (xs' := (applyZ τ zx x subs).2.1.flatMap evC) (by (repeat' constructor)) (by (rw [hc]; try rfl)) (by (rw [hc]; try rfl)) ?_
   exact G.done (l := [.tmp 4, .tmp 5]) rfl rfl ⟨_, _, rfl, by rw [hc], ⟨_, _, by (rw [hc]; try rfl)⟩, rfl⟩ (by (repeat' constructor)) (by (repeat' constructor))
  ·refine G.skip (G.blk_n (G.then_n (G.seq (G.region (G.q (Quiet.move rfl) rfl (G.q (Quiet.assign rfl) rfl (G.q (Quiet.assign rfl) rfl (G.nil (G.then_n (G.ret (G.add (slR_nil 75 3) ?_)))))))))))
   have hc : applyZ τ zx x subs = ((zxT τ zx), ([], 0)) := by unfold applyZ; dsimp only; rw [if_pos h26, if_neg (by omega)]
   refine G.trCast (τ' := (applyZ τ zx x subs).1) (by (repeat' constructor)) (by rw [hc]) ?_
   refine G.slCast (T := 75) (sz := 3) (m' := (applyZ τ zx x subs).2.1.length) (xs' := (applyZ τ zx x subs).2.1.flatMap evC) (by (repeat' constructor)) (by (rw [hc]; try rfl)) (by (rw [hc]; try rfl)) ?_
   exact G.done (l := [.tmp 4, .tmp 5]) rfl rfl ⟨_, _, rfl, by rw [hc], ⟨_, _, by (rw [hc]; try rfl)⟩, rfl⟩ (by (repeat' constructor)) (by (repeat' constructor))
 ·refine G.seq (G.region (G.q (Quiet.int rfl rfl rfl) rfl (G.q (Quiet.assign rfl) rfl (G.nil (G.then_n ?_)))))
  refine G.condD rfl (fun h42 => ?_) (fun h42 => ?_)
  ·refine G.seq (G.seq (G.region (G.q (Quiet.fieldAddr rfl fo_37_7) rfl ?_)))
   refine G.q (Quiet.as (v' := .slice asb subs.length csb) (by exact esub) (Quiet.load rfl ag_35 (by (repeat' constructor)) (rfl))) rfl ?_
   refine G.q (Quiet.slen rfl Tryz.underlying35 rfl) rfl (G.q (Quiet.move rfl) rfl (G.nil (G.then_n (G.block (G.add (slR_nil 75 3) ?_)))))
   refine G.trCast (τ' := (partsZ (zxT τ zx) zx ((subs.take 0).filter isDel)).1) (by (repeat' constructor)) (by rw [List.take_zero]; rfl) ?_
   refine G.slCast (T := 75) (sz := 3) (m' := (partsZ (zxT τ zx) zx ((subs.take 0).filter isDel)).2.length) (xs' := (partsZ (zxT τ zx) zx ((subs.take 0).filter isDel)).2.flatMap evC) (by (repeat' constructor)) (by rw [List.take_zero]; rfl) (by rw [List.take_zero]; rfl) ?_
   refine G.loopK (ι := Nat × Value) (fun q E => (47, vint q.1) :: (6, q.2) :: E) (fun q => [treeR t (partsZ (zxT τ zx) zx ((subs.take q.1).filter isDel)).1, slR 75 3 q.2 (partsZ (zxT τ zx) zx ((subs.take q.1).filter isDel)).2.length ((partsZ (zxT τ zx) zx ((subs.take q.1).filter isDel)).2.flatMap evC)]) (fun q => q.1 ≤ subs.length ∧ ∃ a c, q.2 = .slice a (partsZ (zxT τ zx) zx ((subs.take q.1).filter isDel)).2.length c) (fun q => subs.length - q.1) (0, .slice none 0 0) (ts := [0, 3, 4, 5, 7, 45, 46]) (.cons rfl (.cons rfl (.cons rfl (.cons rfl (.cons rfl (.cons rfl (.cons rfl (.nil)))))))) (⟨Nat.zero_le _, none, 0, by rw [List.take_zero]; rfl⟩) ⟨rfl, rfl, rfl, rfl, rfl, rfl, rfl, rfl, rfl, trivial⟩ (by (repeat' constructor)) ?_
   rintro ⟨i, u⟩ ⟨hi, au, cu, hu⟩
   dsimp only
   dsimp only at hi hu
   subst hu
   have hev := parts_ev (zxT τ zx) zx ((subs.take i).filter isDel)
   have hfl := List.length_filter_le isDel (subs.take i)
   rw [List.length_take] at hfl
   have hok : (partsZ (zxT τ zx) zx ((subs.take i).filter isDel)).1.Ok (N + subs.length) := ((ho.zx zx).parts zx _ (fun y hy => (hx.each y (List.mem_of_mem_take (List.mem_filter.1 hy).1)).few)).more (by omega)
   refine G.seq (G.region (G.q (Quiet.int rfl rfl rfl) rfl (G.nil (G.then_n (G.seq ?_)))))
   refine G.condD rfl (fun h48 => ?_) (fun h48 => ?_)
   ·have hi2 : i < subs.length := by omega
    refine G.rdShape (p := p) hrd (by (repeat' constructor)) (by omega) fun bs os e1 => ?_
    subst e1
    have hys := hx.each _ (List.getElem_mem hi2)
    refine G.skip (G.then_n (G.seq (G.block (G.seq (G.region ?_)))))
    refine G.q (Quiet.indexAddr rfl rfl el_35 (by omega)) rfl ?_
    refine G.q (Quiet.loadRdA (sz := 8) (j := i * 8) (k := 8) (p := p) (vs := ptC subs[i]) rfl ag_37 (by (repeat' constructor)) hrd (by simp) (by omega) (by omega) (flatMap_at (f := ptC) (sz := 8) (fun _ _ => rfl) (by omega))) rfl ?_
    refine G.op (OpSpec.allocA ze_37) (by (repeat' constructor)) rfl ?nx52
    rintro v L' ⟨by1, rfl, rfl⟩
    refine G.op (OpSpec.storeA rfl rfl ?c54 sz_37 ?c57 ?c55 ?c56) (by (repeat' constructor)) rfl ?nx58
    case c54 => exact hys.all
    case c57 => rfl
    case c55 => simp [ptC]
    case c56 => exact nfz0 _ _
    rintro v L' rfl
    refine G.nil ?_
    refine G.ptCast (b := by1) (l' := ptC subs[i]) (by (repeat' constructor)) rfl ?_
    refine G.then_n (G.seq (G.region (G.q (Quiet.fieldAddr rfl fo_37_0) rfl ?_)))
    refine G.q (Quiet.load rfl ag_3 (by (repeat' constructor)) (rfl)) rfl ?_
    refine G.q (Quiet.int rfl rfl rfl) rfl (G.nil (G.then_n ?_))
    refine G.condD rfl (fun h53 => ?_) (fun h53 => ?_)
    ·refine G.region (G.q (Quiet.move rfl) rfl (G.q (Quiet.move rfl) rfl ?_))
     refine G.q (Quiet.loadAs (vs := ptC subs[i]) rfl ag_37 (by (repeat' constructor)) (by simp [ptC]) rfl) rfl ?_
     refine G.q (Quiet.fieldAddr rfl fo_39_0) rfl ?_
     refine G.q (Quiet.load rfl ag_3 (by (repeat' constructor)) (rfl)) rfl ?_
     refine G.op (OpSpec.call Tryz.func46 rfl rfl (vs := [_, _, _]) rfl (trpart_spec t (partsZ (zxT τ zx) zx ((subs.take i).filter isDel)).1 subs[i] zx p hys (N + subs.length) hok (by omega))) (by (repeat' constructor)) rfl ?nx67
     rintro v L' ⟨a14, c14, rfl, rfl⟩
     refine G.op (OpSpec.append (n := (partsZ (zxT τ zx) zx ((subs.take i).filter isDel)).2.length) (m := (partZ (partsZ (zxT τ zx) zx ((subs.take i).filter isDel)).1 subs[i] zx).2.length) (ys := (partZ (partsZ (zxT τ zx) zx ((subs.take i).filter isDel)).1 subs[i] zx).2.flatMap evC) (p := slR 75 3 (.slice a14 (partZ (partsZ (zxT τ zx) zx ((subs.take i).filter isDel)).1 subs[i] zx).2.length c14) (partZ (partsZ (zxT τ zx) zx ((subs.take i).filter isDel)).1 subs[i] zx).2.length ((partZ (partsZ (zxT τ zx) zx ((subs.take i).filter isDel)).1 subs[i] zx).2.flatMap evC)) rfl rfl rfl el_30 (.inl ⟨_, Tryz.underlying30⟩) ze_75 rfl rfl ?hc69 ?hr70 ?hb71 (by decide)) (by (repeat' constructor)) rfl ?nx72
     case hc69 => exact evC_cells _
     case hr70 => exact fun h hp => slR_rd hp
     case hb71 => have := part_ev (partsZ (zxT τ zx) zx ((subs.take i).filter isDel)).1 subs[i] zx; omega
     rintro v L' ⟨⟨a14_6, c14_6, rfl⟩, rfl⟩
     refine G.q (Quiet.assign rfl) rfl (G.nil (G.blk_n (G.then_n (G.region ?_))))
     refine G.q (Quiet.add rfl rfl (by omega)) rfl ?_
     refine G.q (Quiet.move rfl) rfl (G.nil (G.then_n ?_))
     have hst := filter_take_yes (f := isDel) hi2 (by unfold isDel; rw [decide_eq_true h53])
     refine G.trCast (τ' := (partsZ (zxT τ zx) zx ((subs.take (i + 1)).filter isDel)).1) (by (repeat' constructor)) (by rw [hst, parts_snoc]) ?_
     refine G.slCast (T := 75) (sz := 3) (m' := (partsZ (zxT τ zx) zx ((subs.take (i + 1)).filter isDel)).2.length) (xs' := (partsZ (zxT τ zx) zx ((subs.take (i + 1)).filter isDel)).2.flatMap evC) (by (repeat' constructor)) (by rw [hst, parts_snoc]; simp) (by rw [hst, parts_snoc]; simp) ?_
     exact G.roundK ((i + 1, .slice a14_6 ((partsZ (zxT τ zx) zx ((subs.take i).filter isDel)).2.length + (partZ (partsZ (zxT τ zx) zx ((subs.take i).filter isDel)).1 subs[i] zx).2.length) c14_6)) (⟨by dsimp only; omega, _, _, by rw [hst, parts_snoc, List.length_append]⟩) (by dsimp only; omega) ⟨rfl, rfl, rfl, rfl, rfl, rfl, rfl, rfl, rfl, trivial⟩ (by (repeat' constructor)) (by ((repeat (apply Have.cons; (repeat (first | exact Pick.here | apply Pick.there)))); apply Have.base; repeat' constructor))
    ·refine G.skip (G.blk_n (G.then_n (G.region ?_)))
     refine G.q (Quiet.add rfl rfl (by omega)) rfl ?_
     refine G.q (Quiet.move rfl) rfl (G.nil (G.then_n ?_))
     have hst := filter_take_no (f := isDel) hi2 (by unfold isDel; rw [decide_eq_false h53])
     refine G.trCast (τ' := (partsZ (zxT τ zx) zx ((subs.take (i + 1)).filter isDel)).1) (by (repeat' constructor)) (by rw [hst]) ?_
     refine G.slCast (T := 75) (sz := 3) (m' := (partsZ (zxT τ zx) zx ((subs.take (i + 1)).filter isDel)).2.length) (xs' := (partsZ (zxT τ zx) zx ((subs.take (i + 1)).filter isDel)).2.flatMap evC) (by (repeat' constructor)) (by rw [hst]) (by rw [hst]) ?_
     exact G.roundK ((i + 1, .slice au (partsZ (zxT τ zx) zx ((subs.take i).filter isDel)).2.length cu)) (⟨by dsimp only; omega, _, _, by rw [hst]⟩) (by dsimp only; omega) ⟨rfl, rfl, rfl, rfl, rfl, rfl, rfl, rfl, rfl, trivial⟩ (by (repeat' constructor)) (by ((repeat (apply Have.cons; (repeat (first | exact Pick.here | apply Pick.there)))); apply Have.base; repeat' constructor))
   ·have hii : i = subs.length := by omega
    rw [hii, List.take_length]
    refine G.exit (G.then_e (G.then_e (G.blk_e (G.then_n ?_))))
    refine G.trOpen (τ := (partsZ (zxT τ zx) zx (subs.filter isDel)).1) (by (repeat' constructor)) fun rn rs m s hI => ?_
    refine G.draw [6] [[0, 1, 2, 3, 4, 5, 6]] mixed (by kernel_rfl) ?_
    refine Phases.go [] (by (repeat' constructor)) ?_
    refine D.qw [1, 2, 3, 6] rfl (by kernel_rfl) (Quiet.move rfl) ?_
    refine D.qw [2, 3, 6] rfl (by kernel_rfl) (Quiet.nilp rfl) ?_
    refine D.qw [3, 6] rfl (by kernel_rfl) (Quiet.fieldAddr rfl fo_110_1) ?_
    refine D.qw [6] rfl (by kernel_rfl) (Quiet.load rfl ag_108 (by (repeat' constructor)) (rfl)) ?_
    refine D.qw [5, 6] rfl (by kernel_rfl) (Quiet.fieldAddr rfl fo_37_4) ?_
    refine D.qw [6] rfl (by kernel_rfl) (Quiet.load rfl ag_3 (by (repeat' constructor)) (rfl)) ?_
    refine D.h rfl (by kernel_rfl) (OpSpec.mapDel (m := s) (enc := ssV) (k := x.own) (KeyLaw.int Tryz.underlying3) rfl rfl rfl Tryz.underlying108 ?he82) (by (repeat' constructor)) ?nx83
    case he82 => rfl
    rintro v L' rfl
    refine D.ph (Phases.fin ?_)
    refine G.trFold (τ := (dropS (partsZ (zxT τ zx) zx (subs.filter isDel)).1 x.own)) (hI.drop x.own) (by (repeat' constructor)) rfl rfl rfl ?_
    refine G.blk_n (G.then_n (G.seq (G.region (G.q (Quiet.move rfl) rfl (G.q (Quiet.assign rfl) rfl (G.q (Quiet.assign rfl) rfl (G.nil (G.then_n (G.ret ?_)))))))))
    have hc : applyZ τ zx x subs = (dropS (partsZ (zxT τ zx) zx (subs.filter isDel)).1 x.own, ((partsZ (zxT τ zx) zx (subs.filter isDel)).2, 0)) := by unfold applyZ; dsimp only; rw [if_neg h26, if_pos h42]
    refine G.trCast (τ' := (applyZ τ zx x subs).1) (by (repeat' constructor)) (by rw [hc]) ?_
    refine G.slCast (T := 75) (sz := 3) (m' := (applyZ τ zx x subs).2.1.length) (xs' := (applyZ τ zx x subs).2.1.flatMap evC) (by (repeat' constructor)) (by (rw [hc]; try rfl)) (by (rw [hc]; try rfl)) ?_
    exact G.done (l := [.tmp 4, .tmp 5]) rfl rfl ⟨_, _, rfl, by rw [hc], ⟨_, _, by (rw [hc]; try rfl)⟩, rfl⟩ (by (repeat' constructor)) (by (repeat' constructor))
  ·refine G.seq (G.region (G.q (Quiet.int rfl rfl rfl) rfl (G.q (Quiet.assign rfl) rfl (G.nil (G.then_n ?_)))))
   refine G.condD rfl (fun h68 => ?_) (fun h68 => ?_)
   ·refine G.seq (G.region (G.q (Quiet.fieldAddr rfl fo_37_7) rfl ?_))
    refine G.q (Quiet.as (v' := .slice asb subs.length csb) (by exact esub) (Quiet.load rfl ag_35 (by (repeat' constructor)) (rfl))) rfl ?_
    refine G.q (Quiet.slen rfl Tryz.underlying35 rfl) rfl (G.q (Quiet.move rfl) rfl (G.nil (G.then_n (G.block (G.add (slR_nil 75 3) ?_)))))
    refine G.trCast (τ' := (partsZ (zxT τ zx) zx (subs.take 0)).1) (by (repeat' constructor)) (by rw [List.take_zero]; rfl) ?_
    refine G.slCast (T := 75) (sz := 3) (m' := (partsZ (zxT τ zx) zx (subs.take 0)).2.length) (xs' := (partsZ (zxT τ zx) zx (subs.take 0)).2.flatMap evC) (by (repeat' constructor)) (by rw [List.take_zero]; rfl) (by rw [List.take_zero]; rfl) ?_
    refine G.loopK (ι := Nat × Value) (fun q E => (73, vint q.1) :: (6, q.2) :: E) (fun q => [treeR t (partsZ (zxT τ zx) zx (subs.take q.1)).1, slR 75 3 q.2 (partsZ (zxT τ zx) zx (subs.take q.1)).2.length ((partsZ (zxT τ zx) zx (subs.take q.1)).2.flatMap evC)]) (fun q => q.1 ≤ subs.length ∧ ∃ a c, q.2 = .slice a (partsZ (zxT τ zx) zx (subs.take q.1)).2.length c) (fun q => subs.length - q.1) (0, .slice none 0 0) (ts := [0, 3, 4, 5, 71, 72]) (.cons rfl (.cons rfl (.cons rfl (.cons rfl (.cons rfl (.cons rfl (.nil))))))) (⟨Nat.zero_le _, none, 0, by rw [List.take_zero]; rfl⟩) ⟨rfl, rfl, rfl, rfl, rfl, rfl, rfl, rfl, trivial⟩ (by (repeat' constructor)) ?_
    rintro ⟨i, u⟩ ⟨hi, au, cu, hu⟩
    dsimp only
    dsimp only at hi hu
    subst hu
    have hev := parts_ev (zxT τ zx) zx (subs.take i)
    have hfl := List.length_take_le i subs
    have hok : (partsZ (zxT τ zx) zx (subs.take i)).1.Ok (N + subs.length) := ((ho.zx zx).parts zx _ (fun y hy => (hx.each y (List.mem_of_mem_take hy)).few)).more (by rw [List.length_take]; omega)
    refine G.seq (G.region (G.q (Quiet.int rfl rfl rfl) rfl (G.nil (G.then_n (G.seq ?_)))))
    refine G.condD rfl (fun h74 => ?_) (fun h74 => ?_)
    ·have hi2 : i < subs.length := by omega
     refine G.rdShape (p := p) hrd (by (repeat' constructor)) (by omega) fun bs os e1 => ?_
     subst e1
     have hys := hx.each _ (List.getElem_mem hi2)
     refine G.skip (G.then_n (G.seq (G.block (G.seq (G.region ?_)))))
     refine G.q (Quiet.indexAddr rfl rfl el_35 (by omega)) rfl ?_
     refine G.q (Quiet.loadRdA (sz := 8) (j := i * 8) (k := 8) (p := p) (vs := ptC subs[i]) rfl ag_37 (by (repeat' constructor)) hrd (by simp) (by omega) (by omega) (flatMap_at (f := ptC) (sz := 8) (fun _ _ => rfl) (by omega))) rfl ?_
     refine G.op (OpSpec.allocA ze_37) (by (repeat' constructor)) rfl ?nx94
     rintro v L' ⟨by1, rfl, rfl⟩
     refine G.op (OpSpec.storeA rfl rfl ?c96 sz_37 ?c99 ?c97 ?c98) (by (repeat' constructor)) rfl ?nx100
     case c96 => exact hys.all
     case c99 => rfl
     case c97 => simp [ptC]
     case c98 => exact nfz0 _ _
     rintro v L' rfl
     refine G.nil ?_
     refine G.ptCast (b := by1) (l' := ptC subs[i]) (by (repeat' constructor)) rfl ?_
     refine G.then_n (G.region (G.q (Quiet.move rfl) rfl (G.q (Quiet.move rfl) rfl ?_)))
     refine G.q (Quiet.loadAs (vs := ptC subs[i]) rfl ag_37 (by (repeat' constructor)) (by simp [ptC]) rfl) rfl ?_
     refine G.q (Quiet.fieldAddr rfl fo_39_0) rfl ?_
     refine G.q (Quiet.load rfl ag_3 (by (repeat' constructor)) (rfl)) rfl ?_
     refine G.op (OpSpec.call Tryz.func46 rfl rfl (vs := [_, _, _]) rfl (trpart_spec t (partsZ (zxT τ zx) zx (subs.take i)).1 subs[i] zx p hys (N + subs.length) hok (by omega))) (by (repeat' constructor)) rfl ?nx106
     rintro v L' ⟨a21, c21, rfl, rfl⟩
     refine G.op (OpSpec.append (n := (partsZ (zxT τ zx) zx (subs.take i)).2.length) (m := (partZ (partsZ (zxT τ zx) zx (subs.take i)).1 subs[i] zx).2.length) (ys := (partZ (partsZ (zxT τ zx) zx (subs.take i)).1 subs[i] zx).2.flatMap evC) (p := slR 75 3 (.slice a21 (partZ (partsZ (zxT τ zx) zx (subs.take i)).1 subs[i] zx).2.length c21) (partZ (partsZ (zxT τ zx) zx (subs.take i)).1 subs[i] zx).2.length ((partZ (partsZ (zxT τ zx) zx (subs.take i)).1 subs[i] zx).2.flatMap evC)) rfl rfl rfl el_30 (.inl ⟨_, Tryz.underlying30⟩) ze_75 rfl rfl ?hc108 ?hr109 ?hb110 (by decide)) (by (repeat' constructor)) rfl ?nx111
     case hc108 => exact evC_cells _
     case hr109 => exact fun h hp => slR_rd hp
     case hb110 => have := part_ev (partsZ (zxT τ zx) zx (subs.take i)).1 subs[i] zx; omega
     rintro v L' ⟨⟨a21_6, c21_6, rfl⟩, rfl⟩
     refine G.q (Quiet.assign rfl) rfl (G.nil (G.blk_n (G.then_n (G.region ?_))))
     refine G.q (Quiet.add rfl rfl (by omega)) rfl ?_
     refine G.q (Quiet.move rfl) rfl (G.nil (G.then_n ?_))
     have hst := List.take_succ_eq_append_getElem hi2
     refine G.trCast (τ' := (partsZ (zxT τ zx) zx (subs.take (i + 1))).1) (by (repeat' constructor)) (by rw [hst, parts_snoc]) ?_
     refine G.slCast (T := 75) (sz := 3) (m' := (partsZ (zxT τ zx) zx (subs.take (i + 1))).2.length) (xs' := (partsZ (zxT τ zx) zx (subs.take (i + 1))).2.flatMap evC) (by (repeat' constructor)) (by rw [hst, parts_snoc]; simp) (by rw [hst, parts_snoc]; simp) ?_
     exact G.roundK ((i + 1, .slice a21_6 ((partsZ (zxT τ zx) zx (subs.take i)).2.length + (partZ (partsZ (zxT τ zx) zx (subs.take i)).1 subs[i] zx).2.length) c21_6)) (⟨by dsimp only; omega, _, _, by rw [hst, parts_snoc, List.length_append]⟩) (by dsimp only; omega) ⟨rfl, rfl, rfl, rfl, rfl, rfl, rfl, rfl, trivial⟩ (by (repeat' constructor)) (by ((repeat (apply Have.cons; (repeat (first | exact Pick.here | apply Pick.there)))); apply Have.base; repeat' constructor))
    ·have hii : i = subs.length := by omega
     rw [hii, List.take_length]
     refine G.exit (G.then_e (G.then_e (G.blk_e (G.blk_n (G.then_n (G.seq (G.region (G.q (Quiet.move rfl) rfl (G.q (Quiet.assign rfl) rfl (G.q (Quiet.assign rfl) rfl (G.nil (G.then_n (G.ret ?_)))))))))))))
     have hc : applyZ τ zx x subs = ((partsZ (zxT τ zx) zx subs).1, ((partsZ (zxT τ zx) zx subs).2, 0)) := by unfold applyZ; dsimp only; rw [if_neg h26, if_neg h42, if_pos h68]
     refine G.trCast (τ' := (applyZ τ zx x subs).1) (by (repeat' constructor)) (by rw [hc]) ?_
     refine G.slCast (T := 75) (sz := 3) (m' := (applyZ τ zx x subs).2.1.length) (xs' := (applyZ τ zx x subs).2.1.flatMap evC) (by (repeat' constructor)) (by (rw [hc]; try rfl)) (by (rw [hc]; try rfl)) ?_
     exact G.done (l := [.tmp 4, .tmp 5]) rfl rfl ⟨_, _, rfl, by rw [hc], ⟨_, _, by (rw [hc]; try rfl)⟩, rfl⟩ (by (repeat' constructor)) (by (repeat' constructor))
   ·refine G.seq (G.region (G.q (Quiet.int rfl rfl rfl) rfl (G.q (Quiet.assign rfl) rfl (G.nil (G.then_n ?_)))))
    refine G.condD rfl (fun h85 => ?_) (fun h85 => ?_)
    ·refine G.seq ?_
     refine G.draw [] [[0, 1, 2, 3]] mixed (by kernel_rfl) ?_
     refine Phases.go [] (by (repeat' constructor)) ?_
     refine D.qw [1, 3] rfl (by kernel_rfl) (Quiet.fieldAddr rfl fo_37_6) ?_
     refine D.qw [3] rfl (by kernel_rfl) (Quiet.load rfl ag_31 (by (repeat' constructor)) (rfl)) ?_
     refine D.qw [3] rfl (by kernel_rfl) (Quiet.assign rfl) ?_
     refine D.qw [] rfl (by kernel_rfl) (Quiet.assign rfl) ?_
     refine D.ph (Phases.fin (G.then_n (G.ret (G.blk_r (G.then_r (G.add (slR_nil 75 3) ?_))))))
     have hc : applyZ τ zx x subs = ((zxT τ zx), ([], x.err)) := by unfold applyZ; dsimp only; rw [if_neg h26, if_neg h42, if_neg h68, if_pos h85]
     refine G.trCast (τ' := (applyZ τ zx x subs).1) (by (repeat' constructor)) (by rw [hc]) ?_
     refine G.slCast (T := 75) (sz := 3) (m' := (applyZ τ zx x subs).2.1.length) (xs' := (applyZ τ zx x subs).2.1.flatMap evC) (by (repeat' constructor)) (by (rw [hc]; try rfl)) (by (rw [hc]; try rfl)) ?_
     exact G.done (l := [.tmp 4, .tmp 5]) rfl rfl ⟨_, _, rfl, by rw [hc], ⟨_, _, by (rw [hc]; try rfl)⟩, rfl⟩ (by (repeat' constructor)) (by (repeat' constructor))
    ·refine G.region (G.q (Quiet.move rfl) rfl ?_)
     refine G.q (Quiet.loadAs (vs := ptC x) rfl ag_37 (by (repeat' constructor)) (by simp [ptC]) rfl) rfl ?_
     refine G.q (Quiet.fieldAddr rfl fo_39_0) rfl ?_
     refine G.q (Quiet.load rfl ag_3 (by (repeat' constructor)) (rfl)) rfl ?_
     refine G.op (OpSpec.call Tryz.func46 rfl rfl (vs := [_, _, _]) rfl (trpart_spec t (zxT τ zx) x zx p hx.own N (ho.zx zx) (by omega))) (by (repeat' constructor)) rfl ?nx124
     rintro v L' ⟨a5, c5, rfl, rfl⟩
     refine G.q (Quiet.assign rfl) rfl (G.nil (G.blk_n (G.then_n (G.seq (G.region (G.q (Quiet.move rfl) rfl (G.q (Quiet.assign rfl) rfl (G.q (Quiet.assign rfl) rfl (G.nil (G.then_n (G.ret ?_)))))))))))
     have hc : applyZ τ zx x subs = ((partZ (zxT τ zx) x zx).1, ((partZ (zxT τ zx) x zx).2, 0)) := by unfold applyZ; dsimp only; rw [if_neg h26, if_neg h42, if_neg h68, if_neg h85]
     refine G.trCast (τ' := (applyZ τ zx x subs).1) (by (repeat' constructor)) (by rw [hc]) ?_
     refine G.slCast (T := 75) (sz := 3) (m' := (applyZ τ zx x subs).2.1.length) (xs' := (applyZ τ zx x subs).2.1.flatMap evC) (by (repeat' constructor)) (by (rw [hc]; try rfl)) (by (rw [hc]; try rfl)) ?_
     exact G.done (l := [.tmp 4, .tmp 5]) rfl rfl ⟨_, _, rfl, by rw [hc], ⟨_, _, by (rw [hc]; try rfl)⟩, rfl⟩ (by (repeat' constructor)) (by (repeat' constructor))

end Go.Proofs.YtnnbelmpbmfdnaaGreatDoor
/- Own work: entries as plain data; what is done below one node does not touch what is below another one: plain. -/
namespace Go.Proofs.YtnnbelmpbmfdnaaGreatDoor
open Go

structure En where
  zx : Int
  ses : Int
  xid : Int
  x : Pt
  subs : List Pt
def enC (e : En) : List Value := [vint e.zx, vint e.ses, vint e.xid] ++ ptC e.x
def appE (τ : Tr) (e : En) : Tr := (applyZ τ e.zx e.x e.subs).1
def appL (τ : Tr) (l : List En) : Tr := l.foldl appE τ
theorem appL_nil (τ : Tr) : appL τ [] = τ := rfl
theorem appL_snoc (τ : Tr) (l : List En) (e : En) : appL τ (l ++ [e]) = appE (appL τ l) e := by unfold appL; rw [List.foldl_append]; rfl
theorem appL_step (τ : Tr) {l : List En} {i : Nat} (hi : i < l.length) : appL τ (l.take (i + 1)) = appE (appL τ (l.take i)) l[i] := by
  rw [List.take_succ_eq_append_getElem hi, appL_snoc]
/-- A part without lists. -/
def ptS (kind : Int) (path data : Bs) (num : Int) : Pt := ⟨kind, path, data, .slice none 0 0, [], 0, num, 0, .slice none 0 0⟩
def enS (zx kind : Int) (path data : Bs) (num : Int) : En := ⟨zx, 0, 0, ptS kind path data num, []⟩
theorem rd_none (sz : Nat) (h : Hp) : rdS sz h (.slice none 0 0) 0 [] := .inl ⟨rfl, rfl, none, 0, rfl⟩
theorem ptS_ok (p : HP) {kind : Int} {path data : Bs} {num : Int} (hp : path.length ≤ 1048576) : PtA p (ptS kind path data num) := ⟨fun h _ => rd_none 2 h, Nat.zero_le _, hp, rfl, rfl⟩
theorem txS_ok (p : HP) {kind : Int} {path data : Bs} {num : Int} (hp : path.length ≤ 1048576) : TxA p (ptS kind path data num) [] := ⟨ptS_ok p hp, fun h _ => rd_none 8 h, Nat.zero_le _, fun y hy => by cases hy⟩
/-! ### Raw acts -/
abbrev Ac0 := Int × (Int × (Int × (Bs × Value)))
def ac0C (a : Ac0) : List Value := [vint a.1, vint a.2.1, vint a.2.2.1, vstr a.2.2.2.1, a.2.2.2.2]
structure Acts0 (p : HP) (v : Value) (xs : List Ac0) : Prop where
  cells : ∀ h : Hp, p h → rdS 5 h v xs.length (xs.flatMap ac0C)
  len : xs.length ≤ 1048576
  ok : ∀ a ∈ xs, (-9223372036854775808 ≤ a.1 ∧ a.1 ≤ 9223372036854775807) ∧ (-9223372036854775808 ≤ a.2.1 ∧ a.2.1 ≤ 9223372036854775807) ∧ (-9223372036854775808 ≤ a.2.2.1 ∧ a.2.2.1 ≤ 9223372036854775807) ∧ a.2.2.2.1.length ≤ 1048576
theorem ac0_cell {l : List Ac0} {i k : Nat} (hi : i < l.length) (hk : k < 5) : (l.flatMap ac0C)[i * 5 + k]? = (ac0C l[i])[k]? := flatMap_cell (f := ac0C) (sz := 5) (fun _ _ => rfl) hi hk
def undNames : List Bs := [[120], [121], [122], [120, 47, 120], [120, 47, 121], [121, 47, 120]]
def undName (k : Int) : Bs := undNames.getD k.toNat []
theorem undName_at {k : Int} (h0 : 0 ≤ k) (h6 : k < 6) : (undNames.map vstr)[0 + k.toNat * 1]? = some (vstr (undName k)) := by
  have : 0 + k.toNat * 1 < undNames.length := by show _ < 6; omega
  rw [List.getElem?_map, List.getElem?_eq_getElem this]
  unfold undName
  rw [List.getD_eq_getElem?_getD, List.getElem?_eq_getElem (by show _ < 6; omega)]
  simp
theorem undName_len (k : Int) : (undName k).length ≤ 3 := by
  unfold undName undNames
  rcases Nat.lt_or_ge k.toNat 6 with h | h
  · rw [List.getD_eq_getElem?_getD]
    match k.toNat, h with
    | 0, _ => decide
    | 1, _ => decide
    | 2, _ => decide
    | 3, _ => decide
    | 4, _ => decide
    | 5, _ => decide
  · rw [List.getD_eq_getElem?_getD, List.getElem?_eq_none (by simpa using h)]; decide
def undE (q : Bs) (i : Nat) (a : Ac0) : En := enS (10 + i) (1 + pickZ a.1 4) (q ++ [47] ++ undName (pickZ a.2.1 6)) a.2.2.2.1 (pickZ a.2.2.1 9)
def undTo (q : Bs) (xs : List Ac0) : Nat → List En
  | 0 => []
  | i + 1 => undTo q xs i ++ [undE q i (xs.getD i (0, (0, (0, ([], .bool false)))))]
theorem undTo_len (q : Bs) (xs : List Ac0) (i : Nat) : (undTo q xs i).length = i := by
  induction i with
  | zero => rfl
  | succ i ih => unfold undTo; rw [List.length_append, ih]; rfl
def undL (q : Bs) (xs : List Ac0) : List En := undTo q xs (min 60 xs.length)
theorem undTo_mem {q : Bs} {xs : List Ac0} {i : Nat} {e : En} (h : e ∈ undTo q xs i) : ∃ zx kind k data num, e = enS zx kind (q ++ [47] ++ undName k) data num ∧ 1 ≤ kind ∧ kind ≤ 4 ∧ 0 ≤ k ∧ k < 6 := by
  induction i with
  | zero => cases h
  | succ i ih =>
    unfold undTo at h
    rcases List.mem_append.1 h with h | h
    · exact ih h
    · rw [List.mem_singleton] at h; subst h
      have h1 := pickZ_range (xs.getD i (0, (0, (0, ([], .bool false))))).1 (n := 4) (by decide)
      have h2 := pickZ_range (xs.getD i (0, (0, (0, ([], .bool false))))).2.1 (n := 6) (by decide)
      exact ⟨_, _, _, _, _, rfl, by omega, by omega, h2.1, h2.2⟩
/-! ### Parts touch what is theirs -/
theorem parent_kid {r : Bs} (hr : r = [47, 97] ∨ r = [47, 98]) {k : Int} (h0 : 0 ≤ k) (h6 : k < 6) : parentZ (r ++ [47] ++ undName k) = r ∨ ∃ c, parentZ (r ++ [47] ++ undName k) = r ++ [47] ++ c := by
  have : k = 0 ∨ k = 1 ∨ k = 2 ∨ k = 3 ∨ k = 4 ∨ k = 5 := by omega
  rcases hr with rfl | rfl
  · rcases this with rfl | rfl | rfl | rfl | rfl | rfl
    · exact .inl (by decide)
    · exact .inl (by decide)
    · exact .inl (by decide)
    · exact .inr ⟨[120], by decide⟩
    · exact .inr ⟨[120], by decide⟩
    · exact .inr ⟨[121], by decide⟩
  · rcases this with rfl | rfl | rfl | rfl | rfl | rfl
    · exact .inl (by decide)
    · exact .inl (by decide)
    · exact .inl (by decide)
    · exact .inr ⟨[120], by decide⟩
    · exact .inr ⟨[120], by decide⟩
    · exact .inr ⟨[121], by decide⟩
theorem part_local {A : Bs → Prop} {τ τ' : Tr} {x : Pt} {zx : Int} (hp : A x.path) (hu : A (parentZ x.path)) (h : ∀ q, A q → alook τ.nodes q = alook τ'.nodes q) : ∀ q, A q → alook (partZ τ x zx).1.nodes q = alook (partZ τ' x zx).1.nodes q := by
  intro q hq
  have t1 : thereT τ x.path ↔ thereT τ' x.path := by unfold thereT; rw [h _ hp]
  have t2 : thereT τ (parentZ x.path) ↔ thereT τ' (parentZ x.path) := by unfold thereT; rw [h _ hu]
  unfold partZ
  simp only [t1]
  split
  · unfold createZ
    simp only [t2]
    split
    · show alook (amod (sset _ _ _) _ _) q = alook (amod (sset _ _ _) _ _) q
      rw [al_amod, al_amod, al_sset, al_sset, h q hq]
    · exact h q hq
  split
  · unfold eraseZ
    split
    · show alook (amod (τ.nodes.filter _) _ _) q = alook (amod (τ'.nodes.filter _) _ _) q
      rw [al_amod, al_amod, al_filter (fun k => !hitT k x.path), al_filter (fun k => !hitT k x.path), h q hq]
    · exact h q hq
  split
  · show alook (amod _ _ _) q = alook (amod _ _ _) q
    rw [al_amod, al_amod, h q hq]
  split
  · show alook (amod _ _ _) q = alook (amod _ _ _) q
    rw [al_amod, al_amod, h q hq]
  · exact h q hq
theorem part_else {A : Bs → Prop} {τ : Tr} {x : Pt} {zx : Int} (hp : A x.path) (hu : A (parentZ x.path)) (hh : ∀ q, hitT q x.path = true → A q) : ∀ q, ¬ A q → alook (partZ τ x zx).1.nodes q = alook τ.nodes q := by
  intro q hq
  have n1 : ¬ q = x.path := fun e => hq (e ▸ hp)
  have n2 : ¬ q = parentZ x.path := fun e => hq (e ▸ hu)
  have n3 : hitT q x.path = false := by
    cases e : hitT q x.path with
    | false => rfl
    | true => exact absurd (hh q e) hq
  unfold partZ
  split
  · unfold createZ
    split
    · show alook (amod (sset _ _ _) _ _) q = _
      rw [al_amod, if_neg n2, al_sset, if_neg n1]
    · rfl
  split
  · unfold eraseZ
    split
    · show alook (amod (τ.nodes.filter _) _ _) q = _
      rw [al_amod, if_neg n2, al_filter (fun k => !hitT k x.path), n3]; rfl
    · rfl
  split
  · show alook (amod _ _ _) q = _
    rw [al_amod, if_neg n1]
  split
  · show alook (amod _ _ _) q = _
    rw [al_amod, if_neg n1]
  · rfl
theorem part_sess (τ : Tr) (x : Pt) (zx : Int) : (partZ τ x zx).1.sess = τ.sess := by
  unfold partZ createZ eraseZ
  repeat' split
  all_goals rfl
theorem enS_app (τ : Tr) {zx kind : Int} {path data : Bs} {num : Int} (h1 : 1 ≤ kind) (h4 : kind ≤ 4) : appE τ (enS zx kind path data num) = (partZ (zxT τ zx) (ptS kind path data num) zx).1 := by
  unfold appE applyZ enS
  dsimp only
  rw [if_neg (by show ¬ kind = 5; omega), if_neg (by show ¬ kind = 6; omega), if_neg (by show ¬ kind = 7; omega), if_neg (by show ¬ kind = 8; omega)]
/-- Below a node. -/
def inR (r q : Bs) : Prop := q = r ∨ ∃ c, q = r ++ [47] ++ c
theorem inR_hit {r n q : Bs} (h : hitT q (r ++ [47] ++ n) = true) : inR r q := by
  unfold hitT at h
  rw [Bool.or_eq_true, decide_eq_true_iff, decide_eq_true_iff] at h
  rcases h with rfl | ⟨h, -⟩
  · exact .inr ⟨n, rfl⟩
  · unfold pfx at h
    have : ∃ d, q = kidZ (r ++ [47] ++ n) [] ++ d := ⟨q.drop (kidZ (r ++ [47] ++ n) []).length, by
      conv => lhs; rw [← List.take_append_drop (kidZ (r ++ [47] ++ n) []).length q, h]⟩
    obtain ⟨d, rfl⟩ := this
    unfold kidZ
    split
    · rename_i e
      right
      have := congrArg List.length e
      simp at this
      have hr : r = [] := List.eq_nil_of_length_eq_zero (by omega)
      have hn : n = [] := List.eq_nil_of_length_eq_zero (by omega)
      subst hr; subst hn
      exact ⟨d, by simp⟩
    · exact .inr ⟨n ++ [47] ++ d, by simp⟩
theorem parts_local {r : Bs} {l : List En} (hl : ∀ e ∈ l, ∃ zx kind n data num, e = enS zx kind (r ++ [47] ++ n) data num ∧ 1 ≤ kind ∧ kind ≤ 4 ∧ inR r (parentZ (r ++ [47] ++ n))) {τ τ' : Tr} (h : ∀ q, inR r q → alook τ.nodes q = alook τ'.nodes q) :
    (∀ q, inR r q → alook (appL τ l).nodes q = alook (appL τ' l).nodes q) ∧ (∀ q, ¬ inR r q → alook (appL τ l).nodes q = alook τ.nodes q) ∧ (appL τ l).sess = τ.sess := by
  induction l generalizing τ τ' with
  | nil => exact ⟨h, fun q _ => rfl, rfl⟩
  | cons e l ih =>
    obtain ⟨zx, kind, n, data, num, rfl, h1, h4, hu⟩ := hl e List.mem_cons_self
    have hp : inR r (ptS kind (r ++ [47] ++ n) data num).path := .inr ⟨n, rfl⟩
    have e1 := part_local (A := inR r) (τ := zxT τ zx) (τ' := zxT τ' zx) (x := ptS kind (r ++ [47] ++ n) data num) (zx := zx) hp hu h
    have e2 := part_else (A := inR r) (τ := zxT τ zx) (x := ptS kind (r ++ [47] ++ n) data num) (zx := zx) hp hu (fun q hq => inR_hit hq)
    obtain ⟨g1, g2, g3⟩ := ih (fun e he => hl e (List.mem_cons_of_mem _ he)) (τ := appE τ (enS zx kind (r ++ [47] ++ n) data num)) (τ' := appE τ' (enS zx kind (r ++ [47] ++ n) data num)) (by rw [enS_app _ h1 h4, enS_app _ h1 h4]; exact e1)
    refine ⟨g1, fun q hq => ?_, ?_⟩
    · show alook (appL (appE τ _) l).nodes q = _
      rw [g2 q hq, enS_app _ h1 h4, e2 q hq]; rfl
    · show (appL (appE τ _) l).sess = _
      rw [g3, enS_app _ h1 h4, part_sess]; rfl
theorem und_kinds {r : Bs} (hr : r = [47, 97] ∨ r = [47, 98]) (xs : List Ac0) : ∀ e ∈ undL r xs, ∃ zx kind n data num, e = enS zx kind (r ++ [47] ++ n) data num ∧ 1 ≤ kind ∧ kind ≤ 4 ∧ inR r (parentZ (r ++ [47] ++ n)) := fun e he => by
  obtain ⟨zx, kind, k, data, num, rfl, h1, h2, h3, h4⟩ := undTo_mem he
  exact ⟨zx, kind, _, data, num, rfl, h1, h2, parent_kid hr h3 h4⟩
theorem inR_apart {q : Bs} (h1 : inR [47, 97] q) (h2 : inR [47, 98] q) : False := by
  have key : q.getD 1 0 = 97 := by
    rcases h1 with rfl | ⟨c, rfl⟩ <;> rfl
  have key2 : q.getD 1 0 = 98 := by
    rcases h2 with rfl | ⟨c, rfl⟩ <;> rfl
  rw [key] at key2; cases key2
theorem enS_ok {τ : Tr} {N : Nat} (h : τ.Ok N) {e : En} (he : e.x.acl.length ≤ 1048576) (hs : e.subs = []) : (appE τ e).Ok (N + 1) := by
  have := h.apply e.zx e.x e.subs he (by rw [hs]; simp)
  rw [hs] at this
  exact (by unfold appE; rw [hs]; exact this)
theorem und_ok {τ : Tr} {N : Nat} (h : τ.Ok N) : ∀ l : List En, (∀ e ∈ l, e.x.acl = [] ∧ e.subs = []) → (appL τ l).Ok (N + l.length) := by
  intro l
  induction l generalizing τ N with
  | nil => intro _; exact h
  | cons e l ih =>
    intro hl
    obtain ⟨h1, h2⟩ := hl e List.mem_cons_self
    have := ih (enS_ok h (e := e) (by rw [h1]; simp) h2) (fun e he => hl e (List.mem_cons_of_mem _ he))
    show (appL (appE τ e) l).Ok _
    exact this.more (by rw [List.length_cons]; omega)
theorem und_plain {q : Bs} {xs : List Ac0} : ∀ e ∈ undL q xs, e.x.acl = [] ∧ e.subs = [] ∧ ∃ kind k data num, e.x = ptS kind (q ++ [47] ++ undName k) data num := fun e he => by
  obtain ⟨zx, kind, k, data, num, rfl, -⟩ := undTo_mem he
  exact ⟨rfl, rfl, kind, k, data, num, rfl⟩
/-- The law. -/
theorem neighbours {τ : Tr} {N : Nat} (ho : τ.Ok N) (xs ys : List Ac0) : zxT (appL (appL τ (undL [47, 97] xs)) (undL [47, 98] ys)) 9 = zxT (appL (appL τ (undL [47, 98] ys)) (undL [47, 97] xs)) 9 := by
  have ka := und_kinds (.inl rfl) xs
  have kb := und_kinds (.inr rfl) ys
  have pa : ∀ e ∈ undL [47, 97] xs, e.x.acl = [] ∧ e.subs = [] := fun e he => ⟨(und_plain e he).1, (und_plain e he).2.1⟩
  have pb : ∀ e ∈ undL [47, 98] ys, e.x.acl = [] ∧ e.subs = [] := fun e he => ⟨(und_plain e he).1, (und_plain e he).2.1⟩
  obtain ⟨a1, a2, a3⟩ := parts_local ka (τ := τ) (τ' := τ) (fun _ _ => rfl)
  obtain ⟨b1, b2, b3⟩ := parts_local kb (τ := τ) (τ' := τ) (fun _ _ => rfl)
  obtain ⟨c1, c2, c3⟩ := parts_local kb (τ := appL τ (undL [47, 97] xs)) (τ' := τ) (fun q hq => a2 q (fun g => inR_apart g hq))
  obtain ⟨d1, d2, d3⟩ := parts_local ka (τ := appL τ (undL [47, 98] ys)) (τ' := τ) (fun q hq => b2 q (fun g => inR_apart hq g))
  refine Tr.ext' (sorted_same linB (und_ok (und_ok ho _ pa) _ pb).sorted (und_ok (und_ok ho _ pb) _ pa).sorted fun q => ?_) ?_ rfl
  · show alook (appL (appL τ _) _).nodes q = alook (appL (appL τ _) _).nodes q
    by_cases hA : inR [47, 97] q
    · rw [c2 q (fun g => inR_apart hA g), d1 q hA]
    · by_cases hB : inR [47, 98] q
      · rw [c1 q hB, d2 q hA]
      · rw [c2 q hB, a2 q hA, d2 q hA, b2 q hB]
  · show (appL (appL τ _) _).sess = (appL (appL τ _) _).sess
    rw [c3, a3, d3, b3]
/-! ### The chapter's examples -/
def aw7x : Pt := ptS 1 [47, 97] [120] 1
def aw7y : Pt := ptS 1 [47, 98, 47, 99] [] 1
def aw7A : Tr := (applyZ newT 5 aw7x []).1
def aw7B : Tr := (applyZ aw7A 6 aw7y []).1
theorem aw7_1 : (applyZ newT 5 aw7x []).2 = ([(1, ([47, 97], 5)), (4, ([47], 5))], 0) := by decide
theorem aw7_2 : (applyZ aw7A 6 aw7y []).2 = ([], 0) := by decide
theorem aw7_3 : dataD aw7B [47, 97] = [120] ∧ statD aw7B [47, 97] = ⟨5, 5, 5, 0, 0, 0, 0, 1, 0⟩ ∧ thereT aw7B [47, 97] := by decide
theorem aw7_4 : statD aw7B [47] = ⟨0, 0, 5, 0, 1, 0, 0, 0, 1⟩ ∧ thereT aw7B [47] := by decide
theorem aw7_5 : aw7B.zx = 6 := by decide
theorem aw7_okA : aw7A.Ok 2 := newT_ok.apply 5 aw7x [] (by decide) (by simp)
theorem aw7_okB : aw7B.Ok 3 := aw7_okA.apply 6 aw7y [] (by decide) (by simp)
end Go.Proofs.YtnnbelmpbmfdnaaGreatDoor
