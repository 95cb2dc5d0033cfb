/- Own work, by program: package path: walked. -/
import Derived.Test.YtnnbelmpbmfdnaaDoorPath
import Derived.Test.YtnnbelmpbmfdnaaDoorSlRunes
namespace Go.Proofs.YtnnbelmpbmfdnaaDoor
open Go
set_option maxRecDepth 100000 in
theorem sindexbyte_spec (s : Bs) : Fn Tryd.prog 105 #[vstr s, .int .u8 47] [] fun v L => v = vint (idxZ s) ∧ L = [] := by
  refine Fn.intro (vs := [vstr s, .int .u8 47]) Tryd.func105 rfl rfl ?_
  intro F W
  refine G.seq ?_
  refine G.region ?_
  refine G.q (Quiet.assign rfl) rfl ?_
  refine G.nil ?_
  refine G.then_n ?_
  refine G.seq ?_
  refine G.region ?_
  refine G.q (Quiet.move rfl) rfl ?_
  refine G.q (Quiet.move rfl) rfl ?_
  refine G.q (Quiet.extern (e := Extern.BytealgIndexByte.indexByte) (vs := [_, .int .u8 47]) Tryd.func111 (by kernel_rfl) (by kernel_rfl) (by kernel_rfl) (by kernel_rfl) rfl (fun w => index_run s w)) rfl ?_
  refine G.q (Quiet.assign rfl) rfl ?_
  refine G.nil ?_
  refine G.then_n ?_
  refine G.ret ?_
  exact G.done (l := [.tmp 4]) rfl rfl ⟨rfl, rfl⟩ (by (repeat (first | exact Picks.nil | (apply Picks.cons; (repeat (first | exact Pick.here | apply Pick.there)))))) (by (repeat (first | exact Suff.here | apply Suff.there)))

set_option maxRecDepth 100000 in
theorem sindex_spec (s : Bs) : Fn Tryd.prog 97 #[vstr s, vstr [47]] [] fun v L => v = vint (idxZ s) ∧ L = [] := by
  refine Fn.intro (vs := [vstr s, vstr [47]]) Tryd.func97 rfl rfl ?_
  intro F W
  refine G.seq ?_
  refine G.region ?_
  refine G.q (Quiet.assign rfl) rfl ?_
  refine G.nil ?_
  refine G.then_n ?_
  refine G.seq ?_
  refine G.region ?_
  refine G.q (Quiet.move rfl) rfl ?_
  refine G.q (Quiet.strlen rfl Tryd.underlying9 rfl) rfl ?_
  refine G.q (Quiet.assign rfl) rfl ?_
  refine G.nil ?_
  refine G.then_n ?_
  refine G.seq ?_
  refine G.block ?_
  refine G.seq ?_
  refine G.region ?_
  refine G.q (Quiet.move rfl) rfl ?_
  refine G.q (Quiet.as (v' := .bool false) (by rfl) (Quiet.int rfl rfl rfl)) rfl ?_
  refine G.q (Quiet.move rfl) rfl ?_
  refine G.grun (t := 19) rfl rfl rfl ?_
  refine G.q (Quiet.move rfl) rfl ?_
  refine G.grun (t := 19) rfl rfl rfl ?_
  refine G.q (Quiet.move rfl) rfl ?_
  refine G.grun (t := 19) rfl rfl rfl ?_
  refine G.q (Quiet.streq rfl rfl) rfl ?_
  refine G.q (Quiet.pickF rfl rfl) rfl ?_
  refine G.q (Quiet.assign rfl) rfl ?_
  refine G.nil ?_
  refine G.then_n ?_
  refine G.condD rfl (fun h16 => ?_) (fun h16 => ?_)
  · refine G.seq ?_
    refine G.region ?_
    refine G.q (Quiet.assign rfl) rfl ?_
    refine G.nil ?_
    refine G.then_n ?_
    refine G.ret ?_
    refine G.blk_r ?_
    refine G.then_r ?_
    exact G.done (l := [.tmp 4]) rfl rfl ⟨by have e : s = [47] := (by first | exact h16.symm | exact (by simpa using h16.symm)); subst e; rfl, rfl⟩ (by (repeat (first | exact Picks.nil | (apply Picks.cons; (repeat (first | exact Pick.here | apply Pick.there)))))) (by (repeat (first | exact Suff.here | apply Suff.there)))
  · refine G.seq ?_
    refine G.region ?_
    refine G.q (Quiet.move rfl) rfl ?_
    refine G.q (Quiet.as (v' := .bool true) (by rfl) (Quiet.int rfl rfl rfl)) rfl ?_
    refine G.q (Quiet.assign rfl) rfl ?_
    refine G.nil ?_
    refine G.then_n ?_
    refine G.condT rfl ?_
    refine G.seq ?_
    refine G.region ?_
    refine G.q (Quiet.move rfl) rfl ?_
    refine G.q (Quiet.move rfl) rfl ?_
    refine G.q (Quiet.strIndex (c := 47) rfl rfl Tryd.underlying9 (by simp) (by simp)) rfl ?_
    refine G.op (OpSpec.call Tryd.func105 rfl rfl (vs := [_, _]) rfl (sindexbyte_spec _)) (by (repeat (first | exact Picks.nil | (apply Picks.cons; (repeat (first | exact Pick.here | apply Pick.there)))))) rfl ?nx13
    rintro v L' ⟨rfl, rfl⟩
    refine G.q (Quiet.assign rfl) rfl ?_
    refine G.nil ?_
    refine G.then_n ?_
    refine G.ret ?_
    refine G.blk_r ?_
    refine G.then_r ?_
    exact G.done (l := [.tmp 4]) rfl rfl ⟨rfl, rfl⟩ (by (repeat (first | exact Picks.nil | (apply Picks.cons; (repeat (first | exact Pick.here | apply Pick.there)))))) (by (repeat (first | exact Suff.here | apply Suff.there)))

set_option maxRecDepth 100000 in
theorem index_spec (s : Bs) : Fn Tryd.prog 77 #[vstr s, vstr [47]] [] fun v L => v = vint (idxZ s) ∧ L = [] := by
  refine Fn.intro (vs := [vstr s, vstr [47]]) Tryd.func77 rfl rfl ?_
  intro F W
  refine G.seq ?_
  refine G.region ?_
  refine G.q (Quiet.assign rfl) rfl ?_
  refine G.nil ?_
  refine G.then_n ?_
  refine G.seq ?_
  refine G.region ?_
  refine G.q (Quiet.move rfl) rfl ?_
  refine G.q (Quiet.move rfl) rfl ?_
  refine G.op (OpSpec.call Tryd.func97 rfl rfl (vs := [_, _]) rfl (sindex_spec _)) (by (repeat (first | exact Picks.nil | (apply Picks.cons; (repeat (first | exact Pick.here | apply Pick.there)))))) rfl ?nx4
  rintro v L' ⟨rfl, rfl⟩
  refine G.q (Quiet.assign rfl) rfl ?_
  refine G.nil ?_
  refine G.then_n ?_
  refine G.ret ?_
  exact G.done (l := [.tmp 4]) rfl rfl ⟨rfl, rfl⟩ (by (repeat (first | exact Picks.nil | (apply Picks.cons; (repeat (first | exact Pick.here | apply Pick.there)))))) (by (repeat (first | exact Suff.here | apply Suff.there)))

set_option maxRecDepth 100000 in
theorem count_spec (s : Bs) : Fn Tryd.prog 76 #[vstr s, vstr [47]] [] fun v L => v = vint (s.count 47 : Nat) ∧ L = [] := by
  refine Fn.intro (vs := [vstr s, vstr [47]]) Tryd.func76 rfl rfl ?_
  intro F W
  refine G.seq ?_
  refine G.region ?_
  refine G.q (Quiet.assign rfl) rfl ?_
  refine G.nil ?_
  refine G.then_n ?_
  refine G.seq ?_
  refine G.seq ?_
  refine G.region ?_
  refine G.q (Quiet.move rfl) rfl ?_
  refine G.q (Quiet.strlen rfl Tryd.underlying9 rfl) rfl ?_
  refine G.q (Quiet.as (v' := .bool false) (by rfl) (Quiet.int rfl rfl rfl)) rfl ?_
  refine G.nil ?_
  refine G.then_n ?_
  refine G.condF rfl ?_
  refine G.skip ?_
  refine G.then_n ?_
  refine G.seq ?_
  refine G.seq ?_
  refine G.region ?_
  refine G.q (Quiet.move rfl) rfl ?_
  refine G.q (Quiet.strlen rfl Tryd.underlying9 rfl) rfl ?_
  refine G.q (Quiet.as (v' := .bool true) (by rfl) (Quiet.int rfl rfl rfl)) rfl ?_
  refine G.nil ?_
  refine G.then_n ?_
  refine G.condT rfl ?_
  refine G.seq ?_
  refine G.region ?_
  refine G.q (Quiet.move rfl) rfl ?_
  refine G.q (Quiet.move rfl) rfl ?_
  refine G.q (Quiet.strIndex (c := 47) rfl rfl Tryd.underlying9 (by simp) (by simp)) rfl ?_
  refine G.q (Quiet.extern (e := Extern.BytealgCount.count) (vs := [_, .int .u8 47]) Tryd.func96 (by kernel_rfl) (by kernel_rfl) (by kernel_rfl) (by kernel_rfl) rfl (fun w => count_run s w)) rfl ?_
  refine G.q (Quiet.assign rfl) rfl ?_
  refine G.nil ?_
  refine G.then_n ?_
  refine G.ret ?_
  refine G.then_r ?_
  exact G.done (l := [.tmp 4]) rfl rfl ⟨rfl, rfl⟩ (by (repeat (first | exact Picks.nil | (apply Picks.cons; (repeat (first | exact Pick.here | apply Pick.there)))))) (by (repeat (first | exact Suff.here | apply Suff.there)))

theorem count_cut {s : Bs} {k : Nat} (h : s = s.take k ++ 47 :: s.drop (k + 1)) (hk : (47 : UInt8) ∉ s.take k) : s.count 47 = (s.drop (k + 1)).count 47 + 1 := by
  have := congrArg (List.count 47) h
  rw [List.count_append, List.count_eq_zero.2 hk, List.count_cons_self] at this
  omega
theorem spl_done {dn : List Bs} {i n : Nat} {s : Bs} (hd : dn.length = i) (hi : i < n) : (strs dn ++ List.replicate (n - i) (vstr [])).set i (vstr s) = strs (dn ++ [s]) ++ List.replicate (n - (i + 1)) (vstr []) := by
  obtain ⟨k, rfl⟩ : ∃ k, n = i + (k + 1) := ⟨n - i - 1, by omega⟩
  rw [List.set_append_right _ _ (by simp [hd]), show i - (strs dn).length = 0 by simp [hd], show i + (k + 1) - i = k + 1 by omega, show i + (k + 1) - (i + 1) = k by omega, List.replicate_succ, List.set_cons_zero]
  simp [strs]
theorem take_done {dn : List Bs} {i n : Nat} {s : Bs} (hd : dn.length = i) (hi : i = n) : (strs (dn ++ [s]) ++ List.replicate (n + 1 - (i + 1)) (vstr [])).take (n + 1) = strs (dn ++ [s]) := by
  subst hi
  rw [Nat.sub_self, List.replicate_zero, List.append_nil, List.take_of_length_le (by simp [hd])]
set_option maxRecDepth 100000 in
theorem gensplit_spec (s : Bs) (hs : s.length ≤ 1048576) : Fn Tryd.prog 62 #[vstr s, vstr [47], vint 0, vint (-1)] [] fun v L => ∃ b, v = .slice (some ⟨b, 0, none⟩) (splitZ s).length (splitZ s).length ∧ L = [slR 9 1 v (splitZ s).length (strs (splitZ s))] := by
  refine Fn.intro (vs := [vstr s, vstr [47], vint 0, vint (-1)]) Tryd.func62 rfl rfl ?_
  intro F W
  have hcl : s.count 47 ≤ s.length := List.count_le_length
  have hsp := split_len s
  refine G.seq ?_
  refine G.region ?_
  refine G.q (Quiet.assign rfl) rfl ?_
  refine G.nil ?_
  refine G.then_n ?_
  refine G.seq ?_
  refine G.seq ?_
  refine G.region ?_
  refine G.q (Quiet.move rfl) rfl ?_
  refine G.q (Quiet.as (v' := .bool false) (by rfl) (Quiet.int rfl rfl rfl)) rfl ?_
  refine G.nil ?_
  refine G.then_n ?_
  refine G.condF rfl ?_
  refine G.skip ?_
  refine G.then_n ?_
  refine G.seq ?_
  refine G.seq ?_
  refine G.region ?_
  refine G.q (Quiet.move rfl) rfl ?_
  refine G.q (Quiet.as (v' := .bool false) (by rfl) (Quiet.streq rfl rfl)) rfl ?_
  refine G.nil ?_
  refine G.then_n ?_
  refine G.condF rfl ?_
  refine G.skip ?_
  refine G.then_n ?_
  refine G.seq ?_
  refine G.seq ?_
  refine G.region ?_
  refine G.q (Quiet.move rfl) rfl ?_
  refine G.q (Quiet.as (v' := .bool true) (by rfl) (Quiet.int rfl rfl rfl)) rfl ?_
  refine G.nil ?_
  refine G.then_n ?_
  refine G.condT rfl ?_
  refine G.region ?_
  refine G.q (Quiet.move rfl) rfl ?_
  refine G.q (Quiet.move rfl) rfl ?_
  refine G.op (OpSpec.call Tryd.func76 rfl rfl (vs := [_, _]) rfl (count_spec _)) (by (repeat (first | exact Picks.nil | (apply Picks.cons; (repeat (first | exact Pick.here | apply Pick.there)))))) rfl ?nx10
  rintro v L' ⟨rfl, rfl⟩
  refine G.q (Quiet.add rfl rfl (by omega)) rfl ?_
  refine G.q (Quiet.assign rfl) rfl ?_
  refine G.nil ?_
  refine G.then_n ?_
  refine G.seq ?_
  refine G.region ?_
  refine G.q (Quiet.move rfl) rfl ?_
  refine G.q (Quiet.move rfl) rfl ?_
  refine G.q (Quiet.strlen rfl Tryd.underlying9 rfl) rfl ?_
  refine G.q (Quiet.add rfl rfl (by omega)) rfl ?_
  refine G.q (Quiet.to (v' := vint (((s.count 47) : Nat) + 1)) (Quiet.min2 rfl rfl) (by congr 1; omega)) rfl ?_
  refine G.q (Quiet.assign rfl) rfl ?_
  refine G.nil ?_
  refine G.then_n ?_
  refine G.seq ?_
  refine G.region ?_
  refine G.q (Quiet.move rfl) rfl ?_
  refine G.op (OpSpec.make rfl rfl el_78 ze_9 rfl ⟨by simp, by simp; rfl⟩ ?hc17) (by (repeat (first | exact Picks.nil | (apply Picks.cons; (repeat (first | exact Pick.here | apply Pick.there)))))) rfl ?nx18
  case hc17 => omega
  rintro v L' ⟨ba, rfl, rfl⟩; rw [show (((s.count 47) : Nat) + 1 : Int).toNat = (s.count 47) + 1 by omega]
  refine G.q (Quiet.assign rfl) rfl ?_
  refine G.nil ?_
  refine G.ptCast (b := ba) (l' := strs [] ++ List.replicate ((s.count 47) + 1 - 0) (vstr [])) (by (repeat (first | exact Pick.here | apply Pick.there))) (by simp) ?_
  refine G.then_n ?_
  refine G.seq ?_
  refine G.region ?_
  refine G.q (Quiet.move rfl) rfl ?_
  refine G.q (Quiet.to (v' := vint ((s.count 47) : Nat)) (Quiet.sub rfl rfl (by omega)) (by congr 1; omega)) rfl ?_
  refine G.q (Quiet.assign rfl) rfl ?_
  refine G.nil ?_
  refine G.then_n ?_
  refine G.seq ?_
  refine G.region ?_
  refine G.q (Quiet.assign rfl) rfl ?_
  refine G.nil ?_
  refine G.then_n ?_
  refine G.seq ?_
  refine G.block ?_
  refine G.loopK (ι := Nat × Bs × (List Bs)) (fun q E => (10, vint q.1) :: (0, vstr q.2.1) :: E) (fun q => [ptc ba (strs q.2.2 ++ List.replicate ((s.count 47) + 1 - q.1) (vstr [])) 9]) (fun q => q.1 ≤ (s.count 47) ∧ q.2.2.length = q.1 ∧ q.2.1.count 47 + q.1 = (s.count 47) ∧ splitZ s = q.2.2 ++ splitZ q.2.1 ∧ q.2.1.length ≤ s.length) (fun q => (s.count 47) - q.1) (0, s, []) (ts := [1, 2, 3, 8, 9]) (.cons rfl (.cons rfl (.cons rfl (.cons rfl (.cons rfl (.nil)))))) (⟨Nat.zero_le _, rfl, by dsimp only; omega, rfl, Nat.le_refl _⟩) ⟨rfl, rfl, rfl, rfl, rfl, rfl, rfl, trivial⟩ (by (repeat (first | exact Picks.nil | (apply Picks.cons; (repeat (first | exact Pick.here | apply Pick.there)))))) ?_
  rintro ⟨i, cur, dn⟩ ⟨hi, hdl, hct, hsplit, hcul⟩
  dsimp only
  dsimp only at hi hdl hct hsplit hcul
  refine G.seq ?_
  refine G.seq ?_
  refine G.region ?_
  refine G.q (Quiet.move rfl) rfl ?_
  refine G.q (Quiet.move rfl) rfl ?_
  refine G.q (Quiet.int rfl rfl rfl) rfl ?_
  refine G.nil ?_
  refine G.then_n ?_
  refine G.condD rfl (fun h36 => ?_) (fun h36 => ?_)
  · have hmem : (47 : UInt8) ∈ cur := List.count_pos_iff.1 (by omega)
    obtain ⟨k, hk1, hk2, hk4, hk3⟩ := idxZ_at hmem
    have hcat : cur = cur.take k ++ 47 :: cur.drop (k + 1) := hk4
    have hcc := count_cut hcat hk3
    refine G.skip ?_
    refine G.then_n ?_
    refine G.block ?_
    refine G.seq ?_
    refine G.region ?_
    refine G.q (Quiet.move rfl) rfl ?_
    refine G.q (Quiet.move rfl) rfl ?_
    refine G.op (OpSpec.call Tryd.func77 rfl rfl (vs := [_, _]) rfl (index_spec cur)) (by (repeat (first | exact Picks.nil | (apply Picks.cons; (repeat (first | exact Pick.here | apply Pick.there)))))) rfl ?nx27
    rintro v L' ⟨rfl, rfl⟩; rw [hk1]
    refine G.q (Quiet.assign rfl) rfl ?_
    refine G.nil ?_
    refine G.then_n ?_
    refine G.seq ?_
    refine G.seq ?_
    refine G.region ?_
    refine G.q (Quiet.move rfl) rfl ?_
    refine G.q (Quiet.as (v' := .bool false) (by first | (simp; done) | (simp; omega)) (Quiet.int rfl rfl rfl)) rfl ?_
    refine G.nil ?_
    refine G.then_n ?_
    refine G.condF rfl ?_
    refine G.skip ?_
    refine G.then_n ?_
    refine G.seq ?_
    refine G.region ?_
    refine G.q (Quiet.move rfl) rfl ?_
    refine G.q (Quiet.move rfl) rfl ?_
    refine G.q (Quiet.move rfl) rfl ?_
    refine G.q (Quiet.move rfl) rfl ?_
    refine G.q (Quiet.move rfl) rfl ?_
    refine G.q (Quiet.add rfl rfl (by omega)) rfl ?_
    refine G.q (Quiet.to (v' := vstr (cur.take k)) (Quiet.strTo (j := (k : Int) + 0) rfl rfl Tryd.underlying9 (by omega)) (by rw [show ((k : Int) + 0).toNat = k by omega])) rfl ?_
    refine G.q (Quiet.indexAddr rfl rfl el_78 (by omega)) rfl ?_
    refine G.op (OpSpec.store rfl rfl rfl sz_9 ?c37 ?c38) (by (repeat (first | exact Picks.nil | (apply Picks.cons; (repeat (first | exact Pick.here | apply Pick.there)))))) rfl ?nx39
    case c37 => first | (simp; done) | (simp; omega)
    case c38 => exact nfz0 _ _
    rintro v L' rfl
    refine G.nil ?_
    refine G.then_n ?_
    refine G.seq ?_
    refine G.region ?_
    refine G.q (Quiet.move rfl) rfl ?_
    refine G.q (Quiet.move rfl) rfl ?_
    refine G.q (Quiet.move rfl) rfl ?_
    refine G.q (Quiet.as (v' := vint 1) (by rfl) (Quiet.strlen rfl Tryd.underlying9 rfl)) rfl ?_
    refine G.q (Quiet.add rfl rfl (by omega)) rfl ?_
    refine G.q (Quiet.to (v' := vstr (cur.drop (k + 1))) (Quiet.strFrom (i := (k : Int) + 1) rfl rfl Tryd.underlying9 (by omega)) (by rw [show ((k : Int) + 1).toNat = k + 1 by omega])) rfl ?_
    refine G.q (Quiet.assign rfl) rfl ?_
    refine G.nil ?_
    refine G.then_n ?_
    refine G.region ?_
    refine G.q (Quiet.move rfl) rfl ?_
    refine G.q (Quiet.add rfl rfl (by omega)) rfl ?_
    refine G.q (Quiet.assign rfl) rfl ?_
    refine G.nil ?_
    refine G.blk_n ?_
    refine G.then_n ?_
    rw [show 0 + (i : Int).toNat * 1 = i by omega, spl_done hdl (by omega)]
    exact G.roundK ((i + 1, cur.drop (k + 1), dn ++ [cur.take k])) (⟨by dsimp only; omega, by dsimp only; simp [hdl], by dsimp only; omega, by dsimp only; rw [hsplit, hcat, split_at hk3, ← hcat, List.append_assoc]; rfl, by dsimp only; rw [List.length_drop]; omega⟩) (by dsimp only; omega) ⟨rfl, rfl, rfl, rfl, rfl, rfl, rfl, trivial⟩ (by (repeat (first | exact Picks.nil | (apply Picks.cons; (repeat (first | exact Pick.here | apply Pick.there)))))) (by ((repeat (apply Have.cons; (repeat (first | exact Pick.here | apply Pick.there)))); apply Have.base; repeat (first | exact Suff.here | apply Suff.there)))
  · have hii : i = (s.count 47) := by omega
    have hlast : splitZ cur = [cur] := split_none (List.count_eq_zero.1 (by omega))
    rw [hlast] at hsplit
    refine G.exit ?_
    refine G.then_e ?_
    refine G.then_e ?_
    refine G.blk_e ?_
    refine G.then_n ?_
    refine G.seq ?_
    refine G.region ?_
    refine G.q (Quiet.move rfl) rfl ?_
    refine G.q (Quiet.move rfl) rfl ?_
    refine G.q (Quiet.move rfl) rfl ?_
    refine G.q (Quiet.indexAddr rfl rfl el_78 (by omega)) rfl ?_
    refine G.op (OpSpec.store rfl rfl rfl sz_9 ?c51 ?c52) (by (repeat (first | exact Picks.nil | (apply Picks.cons; (repeat (first | exact Pick.here | apply Pick.there)))))) rfl ?nx53
    case c51 => first | (simp; done) | (simp; omega)
    case c52 => exact nfz0 _ _
    rintro v L' rfl
    refine G.nil ?_
    refine G.then_n ?_
    refine G.seq ?_
    refine G.region ?_
    refine G.q (Quiet.move rfl) rfl ?_
    refine G.q (Quiet.move rfl) rfl ?_
    refine G.q (Quiet.add rfl rfl (by omega)) rfl ?_
    refine G.q (Quiet.to (v' := .slice (some ⟨ba, 0, none⟩) (splitZ s).length (splitZ s).length) (Quiet.slTo (j := (i : Int) + 1) rfl el_78 rfl (by omega) (.inr ⟨_, _, rfl⟩)) (by rw [hsp, hii]; congr 1)) rfl ?_
    refine G.q (Quiet.assign rfl) rfl ?_
    refine G.nil ?_
    refine G.slMake (b := ba) (n := (splitZ s).length) (c := (splitZ s).length) (xs := strs (splitZ s)) (by (repeat (first | exact Pick.here | apply Pick.there))) (Nat.le_refl _) (by rw [hsp]; simp; omega) (by rw [show 0 + (i : Int).toNat * 1 = i by omega, spl_done hdl (by omega), hsp, hsplit]; exact take_done hdl hii) ?_
    refine G.then_n ?_
    refine G.ret ?_
    exact G.done (l := [.tmp 8]) rfl rfl ⟨ba, rfl, rfl⟩ (by (repeat (first | exact Picks.nil | (apply Picks.cons; (repeat (first | exact Pick.here | apply Pick.there)))))) (by (repeat (first | exact Suff.here | apply Suff.there)))

set_option maxRecDepth 100000 in
theorem split_spec (s : Bs) (hs : s.length ≤ 1048576) : Fn Tryd.prog 42 #[vstr s, vstr [47]] [] fun v L => ∃ b, v = .slice (some ⟨b, 0, none⟩) (splitZ s).length (splitZ s).length ∧ L = [slR 9 1 v (splitZ s).length (strs (splitZ s))] := by
  refine Fn.intro (vs := [vstr s, vstr [47]]) Tryd.func42 rfl rfl ?_
  intro F W
  refine G.seq ?_
  refine G.region ?_
  refine G.q (Quiet.assign rfl) rfl ?_
  refine G.nil ?_
  refine G.then_n ?_
  refine G.seq ?_
  refine G.region ?_
  refine G.q (Quiet.move rfl) rfl ?_
  refine G.q (Quiet.move rfl) rfl ?_
  refine G.op (OpSpec.call Tryd.func62 rfl rfl (vs := [_, _, _, _]) rfl (gensplit_spec _ ?hs4)) (by (repeat (first | exact Picks.nil | (apply Picks.cons; (repeat (first | exact Pick.here | apply Pick.there)))))) rfl ?nx5
  case hs4 => assumption
  rintro v L' ⟨bb, rfl, rfl⟩
  refine G.q (Quiet.assign rfl) rfl ?_
  refine G.nil ?_
  refine G.then_n ?_
  refine G.ret ?_
  exact G.done (l := [.tmp 4]) rfl rfl ⟨bb, rfl, rfl⟩ (by (repeat (first | exact Picks.nil | (apply Picks.cons; (repeat (first | exact Pick.here | apply Pick.there)))))) (by (repeat (first | exact Suff.here | apply Suff.there)))

set_option maxRecDepth 100000 in
theorem isname_spec (s : Bs) : Fn Tryd.prog 43 #[vstr s] [] fun v L => v = .bool (isNameZ s) ∧ L = [] := by
  refine Fn.intro (vs := [vstr s]) Tryd.func43 rfl rfl ?_
  intro F W
  refine G.seq ?_
  refine G.region ?_
  refine G.q (Quiet.assign rfl) rfl ?_
  refine G.nil ?_
  refine G.then_n ?_
  refine G.seq ?_
  refine G.seq ?_
  refine G.region ?_
  refine G.q (Quiet.move rfl) rfl ?_
  refine G.op (OpSpec.rangeS rfl Tryd.underlying9) (by (repeat (first | exact Picks.nil | (apply Picks.cons; (repeat (first | exact Pick.here | apply Pick.there)))))) rfl ?nx3
  rintro v L' ⟨it, rfl, rfl⟩
  refine G.nil ?_
  refine G.then_n ?_
  refine G.block ?_
  refine G.loopK (ι := Nat) (fun q E => E) (fun q => [runeR it s q]) (fun q => q ≤ s.length ∧ (s.take q).all letterB = true) (fun q => s.length - q) (0) (ts := [0, 6]) (.cons rfl (.cons rfl (.nil))) (⟨Nat.zero_le _, rfl⟩) ⟨rfl, rfl, trivial⟩ (by (repeat (first | exact Picks.nil | (apply Picks.cons; (repeat (first | exact Pick.here | apply Pick.there)))))) ?_
  rintro pos ⟨hp, hall⟩
  refine G.seq ?_
  refine G.region ?_
  refine G.op (OpSpec.nextS rfl) (by (repeat (first | exact Picks.nil | (apply Picks.cons; (repeat (first | exact Pick.here | apply Pick.there)))))) rfl ?nx5
  rintro v L' (⟨rfl, hpos, rfl⟩ | ⟨hpos, rfl, rfl⟩)
  · refine G.q (Quiet.extract rfl rfl) rfl ?_
    refine G.nil ?_
    refine G.then_n ?_
    refine G.seq ?_
    refine G.condF rfl ?_
    refine G.exit ?_
    refine G.then_e ?_
    refine G.then_e ?_
    refine G.blk_e ?_
    refine G.then_n ?_
    refine G.seq ?_
    refine G.region ?_
    refine G.q (Quiet.move rfl) rfl ?_
    refine G.q (Quiet.strne rfl rfl) rfl ?_
    refine G.q (Quiet.move rfl) rfl ?_
    refine G.ndec (t := 37) rfl (fun h11_37 => ?_) (fun h11_37 => ?_)
    · refine G.kNT (t := 36) rfl h11_37 ?_
      refine G.grun (t := 37) rfl rfl rfl ?_
      refine G.q (Quiet.move rfl) rfl ?_
      refine G.grun (t := 37) rfl rfl rfl ?_
      refine G.q (Quiet.strne rfl rfl) rfl ?_
      refine G.q (Quiet.pickT rfl rfl) rfl ?_
      refine G.q (Quiet.move rfl) rfl ?_
      refine G.ndec (t := 41) rfl (fun h11_41 => ?_) (fun h11_41 => ?_)
      · refine G.kNT (t := 39) rfl h11_41 ?_
        refine G.kNT (t := 40) rfl h11_41 ?_
        refine G.grun (t := 41) rfl rfl rfl ?_
        refine G.q (Quiet.move rfl) rfl ?_
        refine G.grun (t := 41) rfl rfl rfl ?_
        refine G.q (Quiet.strne rfl rfl) rfl ?_
        refine G.q (Quiet.pickT rfl rfl) rfl ?_
        refine G.q (Quiet.assign rfl) rfl ?_
        refine G.nil ?_
        refine G.then_n ?_
        refine G.ret ?_
        have hz : isNameZ s = (!decide (s = []) && !decide (s = [46]) && !decide (s = [46, 46])) := by unfold isNameZ; rw [List.take_of_length_le (by omega)] at hall; rw [hall, Bool.and_true]
        rw [hz]
        exact G.done (l := [.tmp 2]) rfl rfl ⟨by simp_all, rfl⟩ (by (repeat (first | exact Picks.nil | (apply Picks.cons; (repeat (first | exact Pick.here | apply Pick.there)))))) (by (repeat (first | exact Suff.here | apply Suff.there)))
      · refine G.kNF (t := 39) rfl h11_41 ?_
        refine G.kNF (t := 40) rfl h11_41 ?_
        refine G.gskip (t := 41) rfl rfl rfl rfl ?_
        refine G.gskip (t := 41) rfl rfl rfl rfl ?_
        refine G.q (Quiet.pickF rfl rfl) rfl ?_
        refine G.q (Quiet.assign rfl) rfl ?_
        refine G.nil ?_
        refine G.then_n ?_
        refine G.ret ?_
        have hz : isNameZ s = (!decide (s = []) && !decide (s = [46]) && !decide (s = [46, 46])) := by unfold isNameZ; rw [List.take_of_length_le (by omega)] at hall; rw [hall, Bool.and_true]
        rw [hz]
        exact G.done (l := [.tmp 2]) rfl rfl ⟨by simp_all, rfl⟩ (by (repeat (first | exact Picks.nil | (apply Picks.cons; (repeat (first | exact Pick.here | apply Pick.there)))))) (by (repeat (first | exact Suff.here | apply Suff.there)))
    · refine G.kNF (t := 36) rfl h11_37 ?_
      refine G.gskip (t := 37) rfl rfl rfl rfl ?_
      refine G.gskip (t := 37) rfl rfl rfl rfl ?_
      refine G.q (Quiet.pickF rfl rfl) rfl ?_
      refine G.q (Quiet.move rfl) rfl ?_
      refine G.gskip (t := 41) rfl rfl rfl rfl ?_
      refine G.gskip (t := 41) rfl rfl rfl rfl ?_
      refine G.q (Quiet.pickF rfl rfl) rfl ?_
      refine G.q (Quiet.assign rfl) rfl ?_
      refine G.nil ?_
      refine G.then_n ?_
      refine G.ret ?_
      have hz : isNameZ s = (!decide (s = []) && !decide (s = [46]) && !decide (s = [46, 46])) := by unfold isNameZ; rw [List.take_of_length_le (by omega)] at hall; rw [hall, Bool.and_true]
      rw [hz]
      exact G.done (l := [.tmp 2]) rfl rfl ⟨by simp_all, rfl⟩ (by (repeat (first | exact Picks.nil | (apply Picks.cons; (repeat (first | exact Pick.here | apply Pick.there)))))) (by (repeat (first | exact Suff.here | apply Suff.there)))
  · refine G.q (Quiet.extract rfl rfl) rfl ?_
    refine G.nil ?_
    refine G.then_n ?_
    refine G.seq ?_
    refine G.condT rfl ?_
    refine G.skip ?_
    refine G.then_n ?_
    refine G.block ?_
    refine G.seq ?_
    refine G.region ?_
    rcases Nat.lt_or_ge (s[pos]).toNat 128 with hlo | hhi
    · rw [decode_low hpos hlo]
      dsimp only
      refine G.q (Quiet.extract rfl rfl) rfl ?_
      refine G.q (Quiet.assign rfl) rfl ?_
      refine G.nil ?_
      refine G.then_n ?_
      refine G.block ?_
      refine G.seq ?_
      refine G.seq ?_
      refine G.region ?_
      refine G.q (Quiet.move rfl) rfl ?_
      refine G.q (Quiet.int rfl rfl rfl) rfl ?_
      refine G.q (Quiet.move rfl) rfl ?_
      refine G.dec (t := 13) rfl (fun h5_13 => ?_) (fun h5_13 => ?_)
      · refine G.kDT (t := 12) rfl h5_13 ?_
        refine G.grun (t := 13) rfl rfl rfl ?_
        refine G.q (Quiet.move rfl) rfl ?_
        refine G.grun (t := 13) rfl rfl rfl ?_
        refine G.q (Quiet.int rfl rfl rfl) rfl ?_
        refine G.q (Quiet.pickT rfl rfl) rfl ?_
        refine G.q (Quiet.assign rfl) rfl ?_
        refine G.nil ?_
        refine G.then_n ?_
        refine G.dec (t := 10) rfl (fun h10 => ?_) (fun h10 => ?_)
        · refine G.condT rfl ?_
          refine G.skip ?_
          refine G.then_n ?_
          refine G.condT rfl ?_
          refine G.skip ?_
          refine G.blk_n ?_
          refine G.blk_n ?_
          refine G.then_n ?_
          exact G.roundK (pos + 1) (⟨by omega, all_next hpos hall (letter_of (by omega))⟩) (by omega) ⟨rfl, rfl, trivial⟩ (by (repeat (first | exact Picks.nil | (apply Picks.cons; (repeat (first | exact Pick.here | apply Pick.there)))))) (by ((repeat (apply Have.cons; (repeat (first | exact Pick.here | apply Pick.there)))); apply Have.base; repeat (first | exact Suff.here | apply Suff.there)))
        · refine G.condF rfl ?_
          refine G.seq ?_
          refine G.region ?_
          refine G.q (Quiet.move rfl) rfl ?_
          refine G.q (Quiet.int rfl rfl rfl) rfl ?_
          refine G.q (Quiet.move rfl) rfl ?_
          refine G.dec (t := 19) rfl (fun h6_19 => ?_) (fun h6_19 => ?_)
          · refine G.kDT (t := 18) rfl h6_19 ?_
            refine G.grun (t := 19) rfl rfl rfl ?_
            refine G.q (Quiet.move rfl) rfl ?_
            refine G.grun (t := 19) rfl rfl rfl ?_
            refine G.q (Quiet.int rfl rfl rfl) rfl ?_
            refine G.q (Quiet.pickT rfl rfl) rfl ?_
            refine G.q (Quiet.assign rfl) rfl ?_
            refine G.nil ?_
            refine G.then_n ?_
            refine G.dec (t := 10) rfl (fun h10 => ?_) (fun h10 => ?_)
            · refine G.condT rfl ?_
              refine G.skip ?_
              refine G.then_n ?_
              refine G.condT rfl ?_
              refine G.skip ?_
              refine G.blk_n ?_
              refine G.blk_n ?_
              refine G.then_n ?_
              exact G.roundK (pos + 1) (⟨by omega, all_next hpos hall (letter_of (by omega))⟩) (by omega) ⟨rfl, rfl, trivial⟩ (by (repeat (first | exact Picks.nil | (apply Picks.cons; (repeat (first | exact Pick.here | apply Pick.there)))))) (by ((repeat (apply Have.cons; (repeat (first | exact Pick.here | apply Pick.there)))); apply Have.base; repeat (first | exact Suff.here | apply Suff.there)))
            · refine G.condF rfl ?_
              refine G.seq ?_
              refine G.region ?_
              refine G.q (Quiet.move rfl) rfl ?_
              refine G.q (Quiet.int rfl rfl rfl) rfl ?_
              refine G.q (Quiet.move rfl) rfl ?_
              refine G.dec (t := 25) rfl (fun h7_25 => ?_) (fun h7_25 => ?_)
              · refine G.kDT (t := 24) rfl h7_25 ?_
                refine G.grun (t := 25) rfl rfl rfl ?_
                refine G.q (Quiet.move rfl) rfl ?_
                refine G.grun (t := 25) rfl rfl rfl ?_
                refine G.q (Quiet.int rfl rfl rfl) rfl ?_
                refine G.q (Quiet.pickT rfl rfl) rfl ?_
                refine G.q (Quiet.assign rfl) rfl ?_
                refine G.nil ?_
                refine G.then_n ?_
                refine G.dec (t := 10) rfl (fun h10 => ?_) (fun h10 => ?_)
                · refine G.condT rfl ?_
                  refine G.skip ?_
                  refine G.then_n ?_
                  refine G.condT rfl ?_
                  refine G.skip ?_
                  refine G.blk_n ?_
                  refine G.blk_n ?_
                  refine G.then_n ?_
                  exact G.roundK (pos + 1) (⟨by omega, all_next hpos hall (letter_of (by omega))⟩) (by omega) ⟨rfl, rfl, trivial⟩ (by (repeat (first | exact Picks.nil | (apply Picks.cons; (repeat (first | exact Pick.here | apply Pick.there)))))) (by ((repeat (apply Have.cons; (repeat (first | exact Pick.here | apply Pick.there)))); apply Have.base; repeat (first | exact Suff.here | apply Suff.there)))
                · refine G.condF rfl ?_
                  refine G.seq ?_
                  refine G.region ?_
                  refine G.q (Quiet.move rfl) rfl ?_
                  refine G.q (Quiet.int rfl rfl rfl) rfl ?_
                  refine G.q (Quiet.assign rfl) rfl ?_
                  refine G.nil ?_
                  refine G.then_n ?_
                  refine G.dec (t := 10) rfl (fun h10 => ?_) (fun h10 => ?_)
                  · refine G.condT rfl ?_
                    refine G.skip ?_
                    refine G.then_n ?_
                    refine G.condT rfl ?_
                    refine G.skip ?_
                    refine G.blk_n ?_
                    refine G.blk_n ?_
                    refine G.then_n ?_
                    exact G.roundK (pos + 1) (⟨by omega, all_next hpos hall (letter_of (by omega))⟩) (by omega) ⟨rfl, rfl, trivial⟩ (by (repeat (first | exact Picks.nil | (apply Picks.cons; (repeat (first | exact Pick.here | apply Pick.there)))))) (by ((repeat (apply Have.cons; (repeat (first | exact Pick.here | apply Pick.there)))); apply Have.base; repeat (first | exact Suff.here | apply Suff.there)))
                  · refine G.condF rfl ?_
                    refine G.seq ?_
                    refine G.region ?_
                    refine G.q (Quiet.move rfl) rfl ?_
                    refine G.q (Quiet.int rfl rfl rfl) rfl ?_
                    refine G.q (Quiet.assign rfl) rfl ?_
                    refine G.nil ?_
                    refine G.then_n ?_
                    refine G.dec (t := 10) rfl (fun h10 => ?_) (fun h10 => ?_)
                    · refine G.condT rfl ?_
                      refine G.skip ?_
                      refine G.then_n ?_
                      refine G.condT rfl ?_
                      refine G.skip ?_
                      refine G.blk_n ?_
                      refine G.blk_n ?_
                      refine G.then_n ?_
                      exact G.roundK (pos + 1) (⟨by omega, all_next hpos hall (letter_of (by omega))⟩) (by omega) ⟨rfl, rfl, trivial⟩ (by (repeat (first | exact Picks.nil | (apply Picks.cons; (repeat (first | exact Pick.here | apply Pick.there)))))) (by ((repeat (apply Have.cons; (repeat (first | exact Pick.here | apply Pick.there)))); apply Have.base; repeat (first | exact Suff.here | apply Suff.there)))
                    · refine G.condF rfl ?_
                      refine G.region ?_
                      refine G.q (Quiet.move rfl) rfl ?_
                      refine G.q (Quiet.int rfl rfl rfl) rfl ?_
                      refine G.q (Quiet.assign rfl) rfl ?_
                      refine G.nil ?_
                      refine G.then_n ?_
                      refine G.dec (t := 10) rfl (fun h10 => ?_) (fun h10 => ?_)
                      · refine G.condT rfl ?_
                        refine G.skip ?_
                        refine G.blk_n ?_
                        refine G.blk_n ?_
                        refine G.then_n ?_
                        exact G.roundK (pos + 1) (⟨by omega, all_next hpos hall (letter_of (by omega))⟩) (by omega) ⟨rfl, rfl, trivial⟩ (by (repeat (first | exact Picks.nil | (apply Picks.cons; (repeat (first | exact Pick.here | apply Pick.there)))))) (by ((repeat (apply Have.cons; (repeat (first | exact Pick.here | apply Pick.there)))); apply Have.base; repeat (first | exact Suff.here | apply Suff.there)))
                      · refine G.condF rfl ?_
                        refine G.seq ?_
                        refine G.region ?_
                        refine G.q (Quiet.assign rfl) rfl ?_
                        refine G.nil ?_
                        refine G.then_n ?_
                        refine G.ret ?_
                        refine G.blk_r ?_
                        refine G.blk_r ?_
                        refine G.then_r ?_
                        refine G.blk_r ?_
                        refine G.then_r ?_
                        have hz : isNameZ s = false := name_bad hpos (letter_not (by omega))
                        rw [hz]
                        exact G.done (l := [.tmp 2]) rfl rfl ⟨rfl, rfl⟩ (by (repeat (first | exact Picks.nil | (apply Picks.cons; (repeat (first | exact Pick.here | apply Pick.there)))))) (by (repeat (first | exact Suff.here | apply Suff.there)))
              · refine G.kDF (t := 24) rfl h7_25 ?_
                refine G.gskip (t := 25) rfl rfl rfl rfl ?_
                refine G.gskip (t := 25) rfl rfl rfl rfl ?_
                refine G.q (Quiet.pickF rfl rfl) rfl ?_
                refine G.q (Quiet.assign rfl) rfl ?_
                refine G.nil ?_
                refine G.then_n ?_
                refine G.condF rfl ?_
                refine G.seq ?_
                refine G.region ?_
                refine G.q (Quiet.move rfl) rfl ?_
                refine G.q (Quiet.int rfl rfl rfl) rfl ?_
                refine G.q (Quiet.assign rfl) rfl ?_
                refine G.nil ?_
                refine G.then_n ?_
                refine G.dec (t := 10) rfl (fun h10 => ?_) (fun h10 => ?_)
                · refine G.condT rfl ?_
                  refine G.skip ?_
                  refine G.then_n ?_
                  refine G.condT rfl ?_
                  refine G.skip ?_
                  refine G.blk_n ?_
                  refine G.blk_n ?_
                  refine G.then_n ?_
                  exact G.roundK (pos + 1) (⟨by omega, all_next hpos hall (letter_of (by omega))⟩) (by omega) ⟨rfl, rfl, trivial⟩ (by (repeat (first | exact Picks.nil | (apply Picks.cons; (repeat (first | exact Pick.here | apply Pick.there)))))) (by ((repeat (apply Have.cons; (repeat (first | exact Pick.here | apply Pick.there)))); apply Have.base; repeat (first | exact Suff.here | apply Suff.there)))
                · refine G.condF rfl ?_
                  refine G.seq ?_
                  refine G.region ?_
                  refine G.q (Quiet.move rfl) rfl ?_
                  refine G.q (Quiet.int rfl rfl rfl) rfl ?_
                  refine G.q (Quiet.assign rfl) rfl ?_
                  refine G.nil ?_
                  refine G.then_n ?_
                  refine G.dec (t := 10) rfl (fun h10 => ?_) (fun h10 => ?_)
                  · refine G.condT rfl ?_
                    refine G.skip ?_
                    refine G.then_n ?_
                    refine G.condT rfl ?_
                    refine G.skip ?_
                    refine G.blk_n ?_
                    refine G.blk_n ?_
                    refine G.then_n ?_
                    exact G.roundK (pos + 1) (⟨by omega, all_next hpos hall (letter_of (by omega))⟩) (by omega) ⟨rfl, rfl, trivial⟩ (by (repeat (first | exact Picks.nil | (apply Picks.cons; (repeat (first | exact Pick.here | apply Pick.there)))))) (by ((repeat (apply Have.cons; (repeat (first | exact Pick.here | apply Pick.there)))); apply Have.base; repeat (first | exact Suff.here | apply Suff.there)))
                  · refine G.condF rfl ?_
                    refine G.region ?_
                    refine G.q (Quiet.move rfl) rfl ?_
                    refine G.q (Quiet.int rfl rfl rfl) rfl ?_
                    refine G.q (Quiet.assign rfl) rfl ?_
                    refine G.nil ?_
                    refine G.then_n ?_
                    refine G.dec (t := 10) rfl (fun h10 => ?_) (fun h10 => ?_)
                    · refine G.condT rfl ?_
                      refine G.skip ?_
                      refine G.blk_n ?_
                      refine G.blk_n ?_
                      refine G.then_n ?_
                      exact G.roundK (pos + 1) (⟨by omega, all_next hpos hall (letter_of (by omega))⟩) (by omega) ⟨rfl, rfl, trivial⟩ (by (repeat (first | exact Picks.nil | (apply Picks.cons; (repeat (first | exact Pick.here | apply Pick.there)))))) (by ((repeat (apply Have.cons; (repeat (first | exact Pick.here | apply Pick.there)))); apply Have.base; repeat (first | exact Suff.here | apply Suff.there)))
                    · refine G.condF rfl ?_
                      refine G.seq ?_
                      refine G.region ?_
                      refine G.q (Quiet.assign rfl) rfl ?_
                      refine G.nil ?_
                      refine G.then_n ?_
                      refine G.ret ?_
                      refine G.blk_r ?_
                      refine G.blk_r ?_
                      refine G.then_r ?_
                      refine G.blk_r ?_
                      refine G.then_r ?_
                      have hz : isNameZ s = false := name_bad hpos (letter_not (by omega))
                      rw [hz]
                      exact G.done (l := [.tmp 2]) rfl rfl ⟨rfl, rfl⟩ (by (repeat (first | exact Picks.nil | (apply Picks.cons; (repeat (first | exact Pick.here | apply Pick.there)))))) (by (repeat (first | exact Suff.here | apply Suff.there)))
          · refine G.kDF (t := 18) rfl h6_19 ?_
            refine G.gskip (t := 19) rfl rfl rfl rfl ?_
            refine G.gskip (t := 19) rfl rfl rfl rfl ?_
            refine G.q (Quiet.pickF rfl rfl) rfl ?_
            refine G.q (Quiet.assign rfl) rfl ?_
            refine G.nil ?_
            refine G.then_n ?_
            refine G.condF rfl ?_
            refine G.seq ?_
            refine G.region ?_
            refine G.q (Quiet.move rfl) rfl ?_
            refine G.q (Quiet.int rfl rfl rfl) rfl ?_
            refine G.q (Quiet.move rfl) rfl ?_
            refine G.dec (t := 25) rfl (fun h7_25 => ?_) (fun h7_25 => ?_)
            · refine G.kDT (t := 24) rfl h7_25 ?_
              refine G.grun (t := 25) rfl rfl rfl ?_
              refine G.q (Quiet.move rfl) rfl ?_
              refine G.grun (t := 25) rfl rfl rfl ?_
              refine G.q (Quiet.int rfl rfl rfl) rfl ?_
              refine G.q (Quiet.pickT rfl rfl) rfl ?_
              refine G.q (Quiet.assign rfl) rfl ?_
              refine G.nil ?_
              refine G.then_n ?_
              refine G.dec (t := 10) rfl (fun h10 => ?_) (fun h10 => ?_)
              · refine G.condT rfl ?_
                refine G.skip ?_
                refine G.then_n ?_
                refine G.condT rfl ?_
                refine G.skip ?_
                refine G.blk_n ?_
                refine G.blk_n ?_
                refine G.then_n ?_
                exact G.roundK (pos + 1) (⟨by omega, all_next hpos hall (letter_of (by omega))⟩) (by omega) ⟨rfl, rfl, trivial⟩ (by (repeat (first | exact Picks.nil | (apply Picks.cons; (repeat (first | exact Pick.here | apply Pick.there)))))) (by ((repeat (apply Have.cons; (repeat (first | exact Pick.here | apply Pick.there)))); apply Have.base; repeat (first | exact Suff.here | apply Suff.there)))
              · refine G.condF rfl ?_
                refine G.seq ?_
                refine G.region ?_
                refine G.q (Quiet.move rfl) rfl ?_
                refine G.q (Quiet.int rfl rfl rfl) rfl ?_
                refine G.q (Quiet.assign rfl) rfl ?_
                refine G.nil ?_
                refine G.then_n ?_
                refine G.dec (t := 10) rfl (fun h10 => ?_) (fun h10 => ?_)
                · refine G.condT rfl ?_
                  refine G.skip ?_
                  refine G.then_n ?_
                  refine G.condT rfl ?_
                  refine G.skip ?_
                  refine G.blk_n ?_
                  refine G.blk_n ?_
                  refine G.then_n ?_
                  exact G.roundK (pos + 1) (⟨by omega, all_next hpos hall (letter_of (by omega))⟩) (by omega) ⟨rfl, rfl, trivial⟩ (by (repeat (first | exact Picks.nil | (apply Picks.cons; (repeat (first | exact Pick.here | apply Pick.there)))))) (by ((repeat (apply Have.cons; (repeat (first | exact Pick.here | apply Pick.there)))); apply Have.base; repeat (first | exact Suff.here | apply Suff.there)))
                · refine G.condF rfl ?_
                  refine G.seq ?_
                  refine G.region ?_
                  refine G.q (Quiet.move rfl) rfl ?_
                  refine G.q (Quiet.int rfl rfl rfl) rfl ?_
                  refine G.q (Quiet.assign rfl) rfl ?_
                  refine G.nil ?_
                  refine G.then_n ?_
                  refine G.dec (t := 10) rfl (fun h10 => ?_) (fun h10 => ?_)
                  · refine G.condT rfl ?_
                    refine G.skip ?_
                    refine G.then_n ?_
                    refine G.condT rfl ?_
                    refine G.skip ?_
                    refine G.blk_n ?_
                    refine G.blk_n ?_
                    refine G.then_n ?_
                    exact G.roundK (pos + 1) (⟨by omega, all_next hpos hall (letter_of (by omega))⟩) (by omega) ⟨rfl, rfl, trivial⟩ (by (repeat (first | exact Picks.nil | (apply Picks.cons; (repeat (first | exact Pick.here | apply Pick.there)))))) (by ((repeat (apply Have.cons; (repeat (first | exact Pick.here | apply Pick.there)))); apply Have.base; repeat (first | exact Suff.here | apply Suff.there)))
                  · refine G.condF rfl ?_
                    refine G.region ?_
                    refine G.q (Quiet.move rfl) rfl ?_
                    refine G.q (Quiet.int rfl rfl rfl) rfl ?_
                    refine G.q (Quiet.assign rfl) rfl ?_
                    refine G.nil ?_
                    refine G.then_n ?_
                    refine G.dec (t := 10) rfl (fun h10 => ?_) (fun h10 => ?_)
                    · refine G.condT rfl ?_
                      refine G.skip ?_
                      refine G.blk_n ?_
                      refine G.blk_n ?_
                      refine G.then_n ?_
                      exact G.roundK (pos + 1) (⟨by omega, all_next hpos hall (letter_of (by omega))⟩) (by omega) ⟨rfl, rfl, trivial⟩ (by (repeat (first | exact Picks.nil | (apply Picks.cons; (repeat (first | exact Pick.here | apply Pick.there)))))) (by ((repeat (apply Have.cons; (repeat (first | exact Pick.here | apply Pick.there)))); apply Have.base; repeat (first | exact Suff.here | apply Suff.there)))
                    · refine G.condF rfl ?_
                      refine G.seq ?_
                      refine G.region ?_
                      refine G.q (Quiet.assign rfl) rfl ?_
                      refine G.nil ?_
                      refine G.then_n ?_
                      refine G.ret ?_
                      refine G.blk_r ?_
                      refine G.blk_r ?_
                      refine G.then_r ?_
                      refine G.blk_r ?_
                      refine G.then_r ?_
                      have hz : isNameZ s = false := name_bad hpos (letter_not (by omega))
                      rw [hz]
                      exact G.done (l := [.tmp 2]) rfl rfl ⟨rfl, rfl⟩ (by (repeat (first | exact Picks.nil | (apply Picks.cons; (repeat (first | exact Pick.here | apply Pick.there)))))) (by (repeat (first | exact Suff.here | apply Suff.there)))
            · refine G.kDF (t := 24) rfl h7_25 ?_
              refine G.gskip (t := 25) rfl rfl rfl rfl ?_
              refine G.gskip (t := 25) rfl rfl rfl rfl ?_
              refine G.q (Quiet.pickF rfl rfl) rfl ?_
              refine G.q (Quiet.assign rfl) rfl ?_
              refine G.nil ?_
              refine G.then_n ?_
              refine G.condF rfl ?_
              refine G.seq ?_
              refine G.region ?_
              refine G.q (Quiet.move rfl) rfl ?_
              refine G.q (Quiet.int rfl rfl rfl) rfl ?_
              refine G.q (Quiet.assign rfl) rfl ?_
              refine G.nil ?_
              refine G.then_n ?_
              refine G.dec (t := 10) rfl (fun h10 => ?_) (fun h10 => ?_)
              · refine G.condT rfl ?_
                refine G.skip ?_
                refine G.then_n ?_
                refine G.condT rfl ?_
                refine G.skip ?_
                refine G.blk_n ?_
                refine G.blk_n ?_
                refine G.then_n ?_
                exact G.roundK (pos + 1) (⟨by omega, all_next hpos hall (letter_of (by omega))⟩) (by omega) ⟨rfl, rfl, trivial⟩ (by (repeat (first | exact Picks.nil | (apply Picks.cons; (repeat (first | exact Pick.here | apply Pick.there)))))) (by ((repeat (apply Have.cons; (repeat (first | exact Pick.here | apply Pick.there)))); apply Have.base; repeat (first | exact Suff.here | apply Suff.there)))
              · refine G.condF rfl ?_
                refine G.seq ?_
                refine G.region ?_
                refine G.q (Quiet.move rfl) rfl ?_
                refine G.q (Quiet.int rfl rfl rfl) rfl ?_
                refine G.q (Quiet.assign rfl) rfl ?_
                refine G.nil ?_
                refine G.then_n ?_
                refine G.dec (t := 10) rfl (fun h10 => ?_) (fun h10 => ?_)
                · refine G.condT rfl ?_
                  refine G.skip ?_
                  refine G.then_n ?_
                  refine G.condT rfl ?_
                  refine G.skip ?_
                  refine G.blk_n ?_
                  refine G.blk_n ?_
                  refine G.then_n ?_
                  exact G.roundK (pos + 1) (⟨by omega, all_next hpos hall (letter_of (by omega))⟩) (by omega) ⟨rfl, rfl, trivial⟩ (by (repeat (first | exact Picks.nil | (apply Picks.cons; (repeat (first | exact Pick.here | apply Pick.there)))))) (by ((repeat (apply Have.cons; (repeat (first | exact Pick.here | apply Pick.there)))); apply Have.base; repeat (first | exact Suff.here | apply Suff.there)))
                · refine G.condF rfl ?_
                  refine G.region ?_
                  refine G.q (Quiet.move rfl) rfl ?_
                  refine G.q (Quiet.int rfl rfl rfl) rfl ?_
                  refine G.q (Quiet.assign rfl) rfl ?_
                  refine G.nil ?_
                  refine G.then_n ?_
                  refine G.dec (t := 10) rfl (fun h10 => ?_) (fun h10 => ?_)
                  · refine G.condT rfl ?_
                    refine G.skip ?_
                    refine G.blk_n ?_
                    refine G.blk_n ?_
                    refine G.then_n ?_
                    exact G.roundK (pos + 1) (⟨by omega, all_next hpos hall (letter_of (by omega))⟩) (by omega) ⟨rfl, rfl, trivial⟩ (by (repeat (first | exact Picks.nil | (apply Picks.cons; (repeat (first | exact Pick.here | apply Pick.there)))))) (by ((repeat (apply Have.cons; (repeat (first | exact Pick.here | apply Pick.there)))); apply Have.base; repeat (first | exact Suff.here | apply Suff.there)))
                  · refine G.condF rfl ?_
                    refine G.seq ?_
                    refine G.region ?_
                    refine G.q (Quiet.assign rfl) rfl ?_
                    refine G.nil ?_
                    refine G.then_n ?_
                    refine G.ret ?_
                    refine G.blk_r ?_
                    refine G.blk_r ?_
                    refine G.then_r ?_
                    refine G.blk_r ?_
                    refine G.then_r ?_
                    have hz : isNameZ s = false := name_bad hpos (letter_not (by omega))
                    rw [hz]
                    exact G.done (l := [.tmp 2]) rfl rfl ⟨rfl, rfl⟩ (by (repeat (first | exact Picks.nil | (apply Picks.cons; (repeat (first | exact Pick.here | apply Pick.there)))))) (by (repeat (first | exact Suff.here | apply Suff.there)))
      · refine G.kDF (t := 12) rfl h5_13 ?_
        refine G.gskip (t := 13) rfl rfl rfl rfl ?_
        refine G.gskip (t := 13) rfl rfl rfl rfl ?_
        refine G.q (Quiet.pickF rfl rfl) rfl ?_
        refine G.q (Quiet.assign rfl) rfl ?_
        refine G.nil ?_
        refine G.then_n ?_
        refine G.condF rfl ?_
        refine G.seq ?_
        refine G.region ?_
        refine G.q (Quiet.move rfl) rfl ?_
        refine G.q (Quiet.int rfl rfl rfl) rfl ?_
        refine G.q (Quiet.move rfl) rfl ?_
        refine G.dec (t := 19) rfl (fun h6_19 => ?_) (fun h6_19 => ?_)
        · refine G.kDT (t := 18) rfl h6_19 ?_
          refine G.grun (t := 19) rfl rfl rfl ?_
          refine G.q (Quiet.move rfl) rfl ?_
          refine G.grun (t := 19) rfl rfl rfl ?_
          refine G.q (Quiet.int rfl rfl rfl) rfl ?_
          refine G.q (Quiet.pickT rfl rfl) rfl ?_
          refine G.q (Quiet.assign rfl) rfl ?_
          refine G.nil ?_
          refine G.then_n ?_
          refine G.dec (t := 10) rfl (fun h10 => ?_) (fun h10 => ?_)
          · refine G.condT rfl ?_
            refine G.skip ?_
            refine G.then_n ?_
            refine G.condT rfl ?_
            refine G.skip ?_
            refine G.blk_n ?_
            refine G.blk_n ?_
            refine G.then_n ?_
            exact G.roundK (pos + 1) (⟨by omega, all_next hpos hall (letter_of (by omega))⟩) (by omega) ⟨rfl, rfl, trivial⟩ (by (repeat (first | exact Picks.nil | (apply Picks.cons; (repeat (first | exact Pick.here | apply Pick.there)))))) (by ((repeat (apply Have.cons; (repeat (first | exact Pick.here | apply Pick.there)))); apply Have.base; repeat (first | exact Suff.here | apply Suff.there)))
          · refine G.condF rfl ?_
            refine G.seq ?_
            refine G.region ?_
            refine G.q (Quiet.move rfl) rfl ?_
            refine G.q (Quiet.int rfl rfl rfl) rfl ?_
            refine G.q (Quiet.move rfl) rfl ?_
            refine G.dec (t := 25) rfl (fun h7_25 => ?_) (fun h7_25 => ?_)
            · refine G.kDT (t := 24) rfl h7_25 ?_
              refine G.grun (t := 25) rfl rfl rfl ?_
              refine G.q (Quiet.move rfl) rfl ?_
              refine G.grun (t := 25) rfl rfl rfl ?_
              refine G.q (Quiet.int rfl rfl rfl) rfl ?_
              refine G.q (Quiet.pickT rfl rfl) rfl ?_
              refine G.q (Quiet.assign rfl) rfl ?_
              refine G.nil ?_
              refine G.then_n ?_
              refine G.dec (t := 10) rfl (fun h10 => ?_) (fun h10 => ?_)
              · refine G.condT rfl ?_
                refine G.skip ?_
                refine G.then_n ?_
                refine G.condT rfl ?_
                refine G.skip ?_
                refine G.blk_n ?_
                refine G.blk_n ?_
                refine G.then_n ?_
                exact G.roundK (pos + 1) (⟨by omega, all_next hpos hall (letter_of (by omega))⟩) (by omega) ⟨rfl, rfl, trivial⟩ (by (repeat (first | exact Picks.nil | (apply Picks.cons; (repeat (first | exact Pick.here | apply Pick.there)))))) (by ((repeat (apply Have.cons; (repeat (first | exact Pick.here | apply Pick.there)))); apply Have.base; repeat (first | exact Suff.here | apply Suff.there)))
              · refine G.condF rfl ?_
                refine G.seq ?_
                refine G.region ?_
                refine G.q (Quiet.move rfl) rfl ?_
                refine G.q (Quiet.int rfl rfl rfl) rfl ?_
                refine G.q (Quiet.assign rfl) rfl ?_
                refine G.nil ?_
                refine G.then_n ?_
                refine G.dec (t := 10) rfl (fun h10 => ?_) (fun h10 => ?_)
                · refine G.condT rfl ?_
                  refine G.skip ?_
                  refine G.then_n ?_
                  refine G.condT rfl ?_
                  refine G.skip ?_
                  refine G.blk_n ?_
                  refine G.blk_n ?_
                  refine G.then_n ?_
                  exact G.roundK (pos + 1) (⟨by omega, all_next hpos hall (letter_of (by omega))⟩) (by omega) ⟨rfl, rfl, trivial⟩ (by (repeat (first | exact Picks.nil | (apply Picks.cons; (repeat (first | exact Pick.here | apply Pick.there)))))) (by ((repeat (apply Have.cons; (repeat (first | exact Pick.here | apply Pick.there)))); apply Have.base; repeat (first | exact Suff.here | apply Suff.there)))
                · refine G.condF rfl ?_
                  refine G.seq ?_
                  refine G.region ?_
                  refine G.q (Quiet.move rfl) rfl ?_
                  refine G.q (Quiet.int rfl rfl rfl) rfl ?_
                  refine G.q (Quiet.assign rfl) rfl ?_
                  refine G.nil ?_
                  refine G.then_n ?_
                  refine G.dec (t := 10) rfl (fun h10 => ?_) (fun h10 => ?_)
                  · refine G.condT rfl ?_
                    refine G.skip ?_
                    refine G.then_n ?_
                    refine G.condT rfl ?_
                    refine G.skip ?_
                    refine G.blk_n ?_
                    refine G.blk_n ?_
                    refine G.then_n ?_
                    exact G.roundK (pos + 1) (⟨by omega, all_next hpos hall (letter_of (by omega))⟩) (by omega) ⟨rfl, rfl, trivial⟩ (by (repeat (first | exact Picks.nil | (apply Picks.cons; (repeat (first | exact Pick.here | apply Pick.there)))))) (by ((repeat (apply Have.cons; (repeat (first | exact Pick.here | apply Pick.there)))); apply Have.base; repeat (first | exact Suff.here | apply Suff.there)))
                  · refine G.condF rfl ?_
                    refine G.region ?_
                    refine G.q (Quiet.move rfl) rfl ?_
                    refine G.q (Quiet.int rfl rfl rfl) rfl ?_
                    refine G.q (Quiet.assign rfl) rfl ?_
                    refine G.nil ?_
                    refine G.then_n ?_
                    refine G.dec (t := 10) rfl (fun h10 => ?_) (fun h10 => ?_)
                    · refine G.condT rfl ?_
                      refine G.skip ?_
                      refine G.blk_n ?_
                      refine G.blk_n ?_
                      refine G.then_n ?_
                      exact G.roundK (pos + 1) (⟨by omega, all_next hpos hall (letter_of (by omega))⟩) (by omega) ⟨rfl, rfl, trivial⟩ (by (repeat (first | exact Picks.nil | (apply Picks.cons; (repeat (first | exact Pick.here | apply Pick.there)))))) (by ((repeat (apply Have.cons; (repeat (first | exact Pick.here | apply Pick.there)))); apply Have.base; repeat (first | exact Suff.here | apply Suff.there)))
                    · refine G.condF rfl ?_
                      refine G.seq ?_
                      refine G.region ?_
                      refine G.q (Quiet.assign rfl) rfl ?_
                      refine G.nil ?_
                      refine G.then_n ?_
                      refine G.ret ?_
                      refine G.blk_r ?_
                      refine G.blk_r ?_
                      refine G.then_r ?_
                      refine G.blk_r ?_
                      refine G.then_r ?_
                      have hz : isNameZ s = false := name_bad hpos (letter_not (by omega))
                      rw [hz]
                      exact G.done (l := [.tmp 2]) rfl rfl ⟨rfl, rfl⟩ (by (repeat (first | exact Picks.nil | (apply Picks.cons; (repeat (first | exact Pick.here | apply Pick.there)))))) (by (repeat (first | exact Suff.here | apply Suff.there)))
            · refine G.kDF (t := 24) rfl h7_25 ?_
              refine G.gskip (t := 25) rfl rfl rfl rfl ?_
              refine G.gskip (t := 25) rfl rfl rfl rfl ?_
              refine G.q (Quiet.pickF rfl rfl) rfl ?_
              refine G.q (Quiet.assign rfl) rfl ?_
              refine G.nil ?_
              refine G.then_n ?_
              refine G.condF rfl ?_
              refine G.seq ?_
              refine G.region ?_
              refine G.q (Quiet.move rfl) rfl ?_
              refine G.q (Quiet.int rfl rfl rfl) rfl ?_
              refine G.q (Quiet.assign rfl) rfl ?_
              refine G.nil ?_
              refine G.then_n ?_
              refine G.dec (t := 10) rfl (fun h10 => ?_) (fun h10 => ?_)
              · refine G.condT rfl ?_
                refine G.skip ?_
                refine G.then_n ?_
                refine G.condT rfl ?_
                refine G.skip ?_
                refine G.blk_n ?_
                refine G.blk_n ?_
                refine G.then_n ?_
                exact G.roundK (pos + 1) (⟨by omega, all_next hpos hall (letter_of (by omega))⟩) (by omega) ⟨rfl, rfl, trivial⟩ (by (repeat (first | exact Picks.nil | (apply Picks.cons; (repeat (first | exact Pick.here | apply Pick.there)))))) (by ((repeat (apply Have.cons; (repeat (first | exact Pick.here | apply Pick.there)))); apply Have.base; repeat (first | exact Suff.here | apply Suff.there)))
              · refine G.condF rfl ?_
                refine G.seq ?_
                refine G.region ?_
                refine G.q (Quiet.move rfl) rfl ?_
                refine G.q (Quiet.int rfl rfl rfl) rfl ?_
                refine G.q (Quiet.assign rfl) rfl ?_
                refine G.nil ?_
                refine G.then_n ?_
                refine G.dec (t := 10) rfl (fun h10 => ?_) (fun h10 => ?_)
                · refine G.condT rfl ?_
                  refine G.skip ?_
                  refine G.then_n ?_
                  refine G.condT rfl ?_
                  refine G.skip ?_
                  refine G.blk_n ?_
                  refine G.blk_n ?_
                  refine G.then_n ?_
                  exact G.roundK (pos + 1) (⟨by omega, all_next hpos hall (letter_of (by omega))⟩) (by omega) ⟨rfl, rfl, trivial⟩ (by (repeat (first | exact Picks.nil | (apply Picks.cons; (repeat (first | exact Pick.here | apply Pick.there)))))) (by ((repeat (apply Have.cons; (repeat (first | exact Pick.here | apply Pick.there)))); apply Have.base; repeat (first | exact Suff.here | apply Suff.there)))
                · refine G.condF rfl ?_
                  refine G.region ?_
                  refine G.q (Quiet.move rfl) rfl ?_
                  refine G.q (Quiet.int rfl rfl rfl) rfl ?_
                  refine G.q (Quiet.assign rfl) rfl ?_
                  refine G.nil ?_
                  refine G.then_n ?_
                  refine G.dec (t := 10) rfl (fun h10 => ?_) (fun h10 => ?_)
                  · refine G.condT rfl ?_
                    refine G.skip ?_
                    refine G.blk_n ?_
                    refine G.blk_n ?_
                    refine G.then_n ?_
                    exact G.roundK (pos + 1) (⟨by omega, all_next hpos hall (letter_of (by omega))⟩) (by omega) ⟨rfl, rfl, trivial⟩ (by (repeat (first | exact Picks.nil | (apply Picks.cons; (repeat (first | exact Pick.here | apply Pick.there)))))) (by ((repeat (apply Have.cons; (repeat (first | exact Pick.here | apply Pick.there)))); apply Have.base; repeat (first | exact Suff.here | apply Suff.there)))
                  · refine G.condF rfl ?_
                    refine G.seq ?_
                    refine G.region ?_
                    refine G.q (Quiet.assign rfl) rfl ?_
                    refine G.nil ?_
                    refine G.then_n ?_
                    refine G.ret ?_
                    refine G.blk_r ?_
                    refine G.blk_r ?_
                    refine G.then_r ?_
                    refine G.blk_r ?_
                    refine G.then_r ?_
                    have hz : isNameZ s = false := name_bad hpos (letter_not (by omega))
                    rw [hz]
                    exact G.done (l := [.tmp 2]) rfl rfl ⟨rfl, rfl⟩ (by (repeat (first | exact Picks.nil | (apply Picks.cons; (repeat (first | exact Pick.here | apply Pick.there)))))) (by (repeat (first | exact Suff.here | apply Suff.there)))
        · refine G.kDF (t := 18) rfl h6_19 ?_
          refine G.gskip (t := 19) rfl rfl rfl rfl ?_
          refine G.gskip (t := 19) rfl rfl rfl rfl ?_
          refine G.q (Quiet.pickF rfl rfl) rfl ?_
          refine G.q (Quiet.assign rfl) rfl ?_
          refine G.nil ?_
          refine G.then_n ?_
          refine G.condF rfl ?_
          refine G.seq ?_
          refine G.region ?_
          refine G.q (Quiet.move rfl) rfl ?_
          refine G.q (Quiet.int rfl rfl rfl) rfl ?_
          refine G.q (Quiet.move rfl) rfl ?_
          refine G.dec (t := 25) rfl (fun h7_25 => ?_) (fun h7_25 => ?_)
          · refine G.kDT (t := 24) rfl h7_25 ?_
            refine G.grun (t := 25) rfl rfl rfl ?_
            refine G.q (Quiet.move rfl) rfl ?_
            refine G.grun (t := 25) rfl rfl rfl ?_
            refine G.q (Quiet.int rfl rfl rfl) rfl ?_
            refine G.q (Quiet.pickT rfl rfl) rfl ?_
            refine G.q (Quiet.assign rfl) rfl ?_
            refine G.nil ?_
            refine G.then_n ?_
            refine G.dec (t := 10) rfl (fun h10 => ?_) (fun h10 => ?_)
            · refine G.condT rfl ?_
              refine G.skip ?_
              refine G.then_n ?_
              refine G.condT rfl ?_
              refine G.skip ?_
              refine G.blk_n ?_
              refine G.blk_n ?_
              refine G.then_n ?_
              exact G.roundK (pos + 1) (⟨by omega, all_next hpos hall (letter_of (by omega))⟩) (by omega) ⟨rfl, rfl, trivial⟩ (by (repeat (first | exact Picks.nil | (apply Picks.cons; (repeat (first | exact Pick.here | apply Pick.there)))))) (by ((repeat (apply Have.cons; (repeat (first | exact Pick.here | apply Pick.there)))); apply Have.base; repeat (first | exact Suff.here | apply Suff.there)))
            · refine G.condF rfl ?_
              refine G.seq ?_
              refine G.region ?_
              refine G.q (Quiet.move rfl) rfl ?_
              refine G.q (Quiet.int rfl rfl rfl) rfl ?_
              refine G.q (Quiet.assign rfl) rfl ?_
              refine G.nil ?_
              refine G.then_n ?_
              refine G.dec (t := 10) rfl (fun h10 => ?_) (fun h10 => ?_)
              · refine G.condT rfl ?_
                refine G.skip ?_
                refine G.then_n ?_
                refine G.condT rfl ?_
                refine G.skip ?_
                refine G.blk_n ?_
                refine G.blk_n ?_
                refine G.then_n ?_
                exact G.roundK (pos + 1) (⟨by omega, all_next hpos hall (letter_of (by omega))⟩) (by omega) ⟨rfl, rfl, trivial⟩ (by (repeat (first | exact Picks.nil | (apply Picks.cons; (repeat (first | exact Pick.here | apply Pick.there)))))) (by ((repeat (apply Have.cons; (repeat (first | exact Pick.here | apply Pick.there)))); apply Have.base; repeat (first | exact Suff.here | apply Suff.there)))
              · refine G.condF rfl ?_
                refine G.seq ?_
                refine G.region ?_
                refine G.q (Quiet.move rfl) rfl ?_
                refine G.q (Quiet.int rfl rfl rfl) rfl ?_
                refine G.q (Quiet.assign rfl) rfl ?_
                refine G.nil ?_
                refine G.then_n ?_
                refine G.dec (t := 10) rfl (fun h10 => ?_) (fun h10 => ?_)
                · refine G.condT rfl ?_
                  refine G.skip ?_
                  refine G.then_n ?_
                  refine G.condT rfl ?_
                  refine G.skip ?_
                  refine G.blk_n ?_
                  refine G.blk_n ?_
                  refine G.then_n ?_
                  exact G.roundK (pos + 1) (⟨by omega, all_next hpos hall (letter_of (by omega))⟩) (by omega) ⟨rfl, rfl, trivial⟩ (by (repeat (first | exact Picks.nil | (apply Picks.cons; (repeat (first | exact Pick.here | apply Pick.there)))))) (by ((repeat (apply Have.cons; (repeat (first | exact Pick.here | apply Pick.there)))); apply Have.base; repeat (first | exact Suff.here | apply Suff.there)))
                · refine G.condF rfl ?_
                  refine G.region ?_
                  refine G.q (Quiet.move rfl) rfl ?_
                  refine G.q (Quiet.int rfl rfl rfl) rfl ?_
                  refine G.q (Quiet.assign rfl) rfl ?_
                  refine G.nil ?_
                  refine G.then_n ?_
                  refine G.dec (t := 10) rfl (fun h10 => ?_) (fun h10 => ?_)
                  · refine G.condT rfl ?_
                    refine G.skip ?_
                    refine G.blk_n ?_
                    refine G.blk_n ?_
                    refine G.then_n ?_
                    exact G.roundK (pos + 1) (⟨by omega, all_next hpos hall (letter_of (by omega))⟩) (by omega) ⟨rfl, rfl, trivial⟩ (by (repeat (first | exact Picks.nil | (apply Picks.cons; (repeat (first | exact Pick.here | apply Pick.there)))))) (by ((repeat (apply Have.cons; (repeat (first | exact Pick.here | apply Pick.there)))); apply Have.base; repeat (first | exact Suff.here | apply Suff.there)))
                  · refine G.condF rfl ?_
                    refine G.seq ?_
                    refine G.region ?_
                    refine G.q (Quiet.assign rfl) rfl ?_
                    refine G.nil ?_
                    refine G.then_n ?_
                    refine G.ret ?_
                    refine G.blk_r ?_
                    refine G.blk_r ?_
                    refine G.then_r ?_
                    refine G.blk_r ?_
                    refine G.then_r ?_
                    have hz : isNameZ s = false := name_bad hpos (letter_not (by omega))
                    rw [hz]
                    exact G.done (l := [.tmp 2]) rfl rfl ⟨rfl, rfl⟩ (by (repeat (first | exact Picks.nil | (apply Picks.cons; (repeat (first | exact Pick.here | apply Pick.there)))))) (by (repeat (first | exact Suff.here | apply Suff.there)))
          · refine G.kDF (t := 24) rfl h7_25 ?_
            refine G.gskip (t := 25) rfl rfl rfl rfl ?_
            refine G.gskip (t := 25) rfl rfl rfl rfl ?_
            refine G.q (Quiet.pickF rfl rfl) rfl ?_
            refine G.q (Quiet.assign rfl) rfl ?_
            refine G.nil ?_
            refine G.then_n ?_
            refine G.condF rfl ?_
            refine G.seq ?_
            refine G.region ?_
            refine G.q (Quiet.move rfl) rfl ?_
            refine G.q (Quiet.int rfl rfl rfl) rfl ?_
            refine G.q (Quiet.assign rfl) rfl ?_
            refine G.nil ?_
            refine G.then_n ?_
            refine G.dec (t := 10) rfl (fun h10 => ?_) (fun h10 => ?_)
            · refine G.condT rfl ?_
              refine G.skip ?_
              refine G.then_n ?_
              refine G.condT rfl ?_
              refine G.skip ?_
              refine G.blk_n ?_
              refine G.blk_n ?_
              refine G.then_n ?_
              exact G.roundK (pos + 1) (⟨by omega, all_next hpos hall (letter_of (by omega))⟩) (by omega) ⟨rfl, rfl, trivial⟩ (by (repeat (first | exact Picks.nil | (apply Picks.cons; (repeat (first | exact Pick.here | apply Pick.there)))))) (by ((repeat (apply Have.cons; (repeat (first | exact Pick.here | apply Pick.there)))); apply Have.base; repeat (first | exact Suff.here | apply Suff.there)))
            · refine G.condF rfl ?_
              refine G.seq ?_
              refine G.region ?_
              refine G.q (Quiet.move rfl) rfl ?_
              refine G.q (Quiet.int rfl rfl rfl) rfl ?_
              refine G.q (Quiet.assign rfl) rfl ?_
              refine G.nil ?_
              refine G.then_n ?_
              refine G.dec (t := 10) rfl (fun h10 => ?_) (fun h10 => ?_)
              · refine G.condT rfl ?_
                refine G.skip ?_
                refine G.then_n ?_
                refine G.condT rfl ?_
                refine G.skip ?_
                refine G.blk_n ?_
                refine G.blk_n ?_
                refine G.then_n ?_
                exact G.roundK (pos + 1) (⟨by omega, all_next hpos hall (letter_of (by omega))⟩) (by omega) ⟨rfl, rfl, trivial⟩ (by (repeat (first | exact Picks.nil | (apply Picks.cons; (repeat (first | exact Pick.here | apply Pick.there)))))) (by ((repeat (apply Have.cons; (repeat (first | exact Pick.here | apply Pick.there)))); apply Have.base; repeat (first | exact Suff.here | apply Suff.there)))
              · refine G.condF rfl ?_
                refine G.region ?_
                refine G.q (Quiet.move rfl) rfl ?_
                refine G.q (Quiet.int rfl rfl rfl) rfl ?_
                refine G.q (Quiet.assign rfl) rfl ?_
                refine G.nil ?_
                refine G.then_n ?_
                refine G.dec (t := 10) rfl (fun h10 => ?_) (fun h10 => ?_)
                · refine G.condT rfl ?_
                  refine G.skip ?_
                  refine G.blk_n ?_
                  refine G.blk_n ?_
                  refine G.then_n ?_
                  exact G.roundK (pos + 1) (⟨by omega, all_next hpos hall (letter_of (by omega))⟩) (by omega) ⟨rfl, rfl, trivial⟩ (by (repeat (first | exact Picks.nil | (apply Picks.cons; (repeat (first | exact Pick.here | apply Pick.there)))))) (by ((repeat (apply Have.cons; (repeat (first | exact Pick.here | apply Pick.there)))); apply Have.base; repeat (first | exact Suff.here | apply Suff.there)))
                · refine G.condF rfl ?_
                  refine G.seq ?_
                  refine G.region ?_
                  refine G.q (Quiet.assign rfl) rfl ?_
                  refine G.nil ?_
                  refine G.then_n ?_
                  refine G.ret ?_
                  refine G.blk_r ?_
                  refine G.blk_r ?_
                  refine G.then_r ?_
                  refine G.blk_r ?_
                  refine G.then_r ?_
                  have hz : isNameZ s = false := name_bad hpos (letter_not (by omega))
                  rw [hz]
                  exact G.done (l := [.tmp 2]) rfl rfl ⟨rfl, rfl⟩ (by (repeat (first | exact Picks.nil | (apply Picks.cons; (repeat (first | exact Pick.here | apply Pick.there)))))) (by (repeat (first | exact Suff.here | apply Suff.there)))
    · obtain ⟨hd1, hd2⟩ := decode_high hpos (by omega)
      generalize Utf8.decode (bs s) pos = dc at *
      refine G.q (Quiet.extract rfl rfl) rfl ?_
      refine G.q (Quiet.assign rfl) rfl ?_
      refine G.nil ?_
      refine G.then_n ?_
      refine G.block ?_
      refine G.seq ?_
      refine G.seq ?_
      refine G.region ?_
      refine G.q (Quiet.move rfl) rfl ?_
      refine G.q (Quiet.int rfl rfl rfl) rfl ?_
      refine G.q (Quiet.move rfl) rfl ?_
      refine G.dec (t := 13) rfl (fun h5_13 => ?_) (fun h5_13 => ?_)
      · refine G.kDT (t := 12) rfl h5_13 ?_
        refine G.grun (t := 13) rfl rfl rfl ?_
        refine G.q (Quiet.move rfl) rfl ?_
        refine G.grun (t := 13) rfl rfl rfl ?_
        refine G.q (Quiet.int rfl rfl rfl) rfl ?_
        refine G.q (Quiet.pickT rfl rfl) rfl ?_
        refine G.q (Quiet.assign rfl) rfl ?_
        refine G.nil ?_
        refine G.then_n ?_
        refine G.dec (t := 10) rfl (fun h10 => ?_) (fun h10 => ?_)
        · exfalso; omega
        · refine G.condF rfl ?_
          refine G.seq ?_
          refine G.region ?_
          refine G.q (Quiet.move rfl) rfl ?_
          refine G.q (Quiet.int rfl rfl rfl) rfl ?_
          refine G.q (Quiet.move rfl) rfl ?_
          refine G.dec (t := 19) rfl (fun h6_19 => ?_) (fun h6_19 => ?_)
          · refine G.kDT (t := 18) rfl h6_19 ?_
            refine G.grun (t := 19) rfl rfl rfl ?_
            refine G.q (Quiet.move rfl) rfl ?_
            refine G.grun (t := 19) rfl rfl rfl ?_
            refine G.q (Quiet.int rfl rfl rfl) rfl ?_
            refine G.q (Quiet.pickT rfl rfl) rfl ?_
            refine G.q (Quiet.assign rfl) rfl ?_
            refine G.nil ?_
            refine G.then_n ?_
            refine G.dec (t := 10) rfl (fun h10 => ?_) (fun h10 => ?_)
            · exfalso; omega
            · refine G.condF rfl ?_
              refine G.seq ?_
              refine G.region ?_
              refine G.q (Quiet.move rfl) rfl ?_
              refine G.q (Quiet.int rfl rfl rfl) rfl ?_
              refine G.q (Quiet.move rfl) rfl ?_
              refine G.dec (t := 25) rfl (fun h7_25 => ?_) (fun h7_25 => ?_)
              · refine G.kDT (t := 24) rfl h7_25 ?_
                refine G.grun (t := 25) rfl rfl rfl ?_
                refine G.q (Quiet.move rfl) rfl ?_
                refine G.grun (t := 25) rfl rfl rfl ?_
                refine G.q (Quiet.int rfl rfl rfl) rfl ?_
                refine G.q (Quiet.pickT rfl rfl) rfl ?_
                refine G.q (Quiet.assign rfl) rfl ?_
                refine G.nil ?_
                refine G.then_n ?_
                refine G.dec (t := 10) rfl (fun h10 => ?_) (fun h10 => ?_)
                · exfalso; omega
                · refine G.condF rfl ?_
                  refine G.seq ?_
                  refine G.region ?_
                  refine G.q (Quiet.move rfl) rfl ?_
                  refine G.q (Quiet.int rfl rfl rfl) rfl ?_
                  refine G.q (Quiet.assign rfl) rfl ?_
                  refine G.nil ?_
                  refine G.then_n ?_
                  refine G.dec (t := 10) rfl (fun h10 => ?_) (fun h10 => ?_)
                  · exfalso; omega
                  · refine G.condF rfl ?_
                    refine G.seq ?_
                    refine G.region ?_
                    refine G.q (Quiet.move rfl) rfl ?_
                    refine G.q (Quiet.int rfl rfl rfl) rfl ?_
                    refine G.q (Quiet.assign rfl) rfl ?_
                    refine G.nil ?_
                    refine G.then_n ?_
                    refine G.dec (t := 10) rfl (fun h10 => ?_) (fun h10 => ?_)
                    · exfalso; omega
                    · refine G.condF rfl ?_
                      refine G.region ?_
                      refine G.q (Quiet.move rfl) rfl ?_
                      refine G.q (Quiet.int rfl rfl rfl) rfl ?_
                      refine G.q (Quiet.assign rfl) rfl ?_
                      refine G.nil ?_
                      refine G.then_n ?_
                      refine G.dec (t := 10) rfl (fun h10 => ?_) (fun h10 => ?_)
                      · exfalso; omega
                      · refine G.condF rfl ?_
                        refine G.seq ?_
                        refine G.region ?_
                        refine G.q (Quiet.assign rfl) rfl ?_
                        refine G.nil ?_
                        refine G.then_n ?_
                        refine G.ret ?_
                        refine G.blk_r ?_
                        refine G.blk_r ?_
                        refine G.then_r ?_
                        refine G.blk_r ?_
                        refine G.then_r ?_
                        have hz : isNameZ s = false := name_bad hpos (letter_not (by omega))
                        rw [hz]
                        exact G.done (l := [.tmp 2]) rfl rfl ⟨rfl, rfl⟩ (by (repeat (first | exact Picks.nil | (apply Picks.cons; (repeat (first | exact Pick.here | apply Pick.there)))))) (by (repeat (first | exact Suff.here | apply Suff.there)))
              · refine G.kDF (t := 24) rfl h7_25 ?_
                refine G.gskip (t := 25) rfl rfl rfl rfl ?_
                refine G.gskip (t := 25) rfl rfl rfl rfl ?_
                refine G.q (Quiet.pickF rfl rfl) rfl ?_
                refine G.q (Quiet.assign rfl) rfl ?_
                refine G.nil ?_
                refine G.then_n ?_
                refine G.condF rfl ?_
                refine G.seq ?_
                refine G.region ?_
                refine G.q (Quiet.move rfl) rfl ?_
                refine G.q (Quiet.int rfl rfl rfl) rfl ?_
                refine G.q (Quiet.assign rfl) rfl ?_
                refine G.nil ?_
                refine G.then_n ?_
                refine G.dec (t := 10) rfl (fun h10 => ?_) (fun h10 => ?_)
                · exfalso; omega
                · refine G.condF rfl ?_
                  refine G.seq ?_
                  refine G.region ?_
                  refine G.q (Quiet.move rfl) rfl ?_
                  refine G.q (Quiet.int rfl rfl rfl) rfl ?_
                  refine G.q (Quiet.assign rfl) rfl ?_
                  refine G.nil ?_
                  refine G.then_n ?_
                  refine G.dec (t := 10) rfl (fun h10 => ?_) (fun h10 => ?_)
                  · exfalso; omega
                  · refine G.condF rfl ?_
                    refine G.region ?_
                    refine G.q (Quiet.move rfl) rfl ?_
                    refine G.q (Quiet.int rfl rfl rfl) rfl ?_
                    refine G.q (Quiet.assign rfl) rfl ?_
                    refine G.nil ?_
                    refine G.then_n ?_
                    refine G.dec (t := 10) rfl (fun h10 => ?_) (fun h10 => ?_)
                    · exfalso; omega
                    · refine G.condF rfl ?_
                      refine G.seq ?_
                      refine G.region ?_
                      refine G.q (Quiet.assign rfl) rfl ?_
                      refine G.nil ?_
                      refine G.then_n ?_
                      refine G.ret ?_
                      refine G.blk_r ?_
                      refine G.blk_r ?_
                      refine G.then_r ?_
                      refine G.blk_r ?_
                      refine G.then_r ?_
                      have hz : isNameZ s = false := name_bad hpos (letter_not (by omega))
                      rw [hz]
                      exact G.done (l := [.tmp 2]) rfl rfl ⟨rfl, rfl⟩ (by (repeat (first | exact Picks.nil | (apply Picks.cons; (repeat (first | exact Pick.here | apply Pick.there)))))) (by (repeat (first | exact Suff.here | apply Suff.there)))
          · refine G.kDF (t := 18) rfl h6_19 ?_
            refine G.gskip (t := 19) rfl rfl rfl rfl ?_
            refine G.gskip (t := 19) rfl rfl rfl rfl ?_
            refine G.q (Quiet.pickF rfl rfl) rfl ?_
            refine G.q (Quiet.assign rfl) rfl ?_
            refine G.nil ?_
            refine G.then_n ?_
            refine G.condF rfl ?_
            refine G.seq ?_
            refine G.region ?_
            refine G.q (Quiet.move rfl) rfl ?_
            refine G.q (Quiet.int rfl rfl rfl) rfl ?_
            refine G.q (Quiet.move rfl) rfl ?_
            refine G.dec (t := 25) rfl (fun h7_25 => ?_) (fun h7_25 => ?_)
            · refine G.kDT (t := 24) rfl h7_25 ?_
              refine G.grun (t := 25) rfl rfl rfl ?_
              refine G.q (Quiet.move rfl) rfl ?_
              refine G.grun (t := 25) rfl rfl rfl ?_
              refine G.q (Quiet.int rfl rfl rfl) rfl ?_
              refine G.q (Quiet.pickT rfl rfl) rfl ?_
              refine G.q (Quiet.assign rfl) rfl ?_
              refine G.nil ?_
              refine G.then_n ?_
              refine G.dec (t := 10) rfl (fun h10 => ?_) (fun h10 => ?_)
              · exfalso; omega
              · refine G.condF rfl ?_
                refine G.seq ?_
                refine G.region ?_
                refine G.q (Quiet.move rfl) rfl ?_
                refine G.q (Quiet.int rfl rfl rfl) rfl ?_
                refine G.q (Quiet.assign rfl) rfl ?_
                refine G.nil ?_
                refine G.then_n ?_
                refine G.dec (t := 10) rfl (fun h10 => ?_) (fun h10 => ?_)
                · exfalso; omega
                · refine G.condF rfl ?_
                  refine G.seq ?_
                  refine G.region ?_
                  refine G.q (Quiet.move rfl) rfl ?_
                  refine G.q (Quiet.int rfl rfl rfl) rfl ?_
                  refine G.q (Quiet.assign rfl) rfl ?_
                  refine G.nil ?_
                  refine G.then_n ?_
                  refine G.dec (t := 10) rfl (fun h10 => ?_) (fun h10 => ?_)
                  · exfalso; omega
                  · refine G.condF rfl ?_
                    refine G.region ?_
                    refine G.q (Quiet.move rfl) rfl ?_
                    refine G.q (Quiet.int rfl rfl rfl) rfl ?_
                    refine G.q (Quiet.assign rfl) rfl ?_
                    refine G.nil ?_
                    refine G.then_n ?_
                    refine G.dec (t := 10) rfl (fun h10 => ?_) (fun h10 => ?_)
                    · exfalso; omega
                    · refine G.condF rfl ?_
                      refine G.seq ?_
                      refine G.region ?_
                      refine G.q (Quiet.assign rfl) rfl ?_
                      refine G.nil ?_
                      refine G.then_n ?_
                      refine G.ret ?_
                      refine G.blk_r ?_
                      refine G.blk_r ?_
                      refine G.then_r ?_
                      refine G.blk_r ?_
                      refine G.then_r ?_
                      have hz : isNameZ s = false := name_bad hpos (letter_not (by omega))
                      rw [hz]
                      exact G.done (l := [.tmp 2]) rfl rfl ⟨rfl, rfl⟩ (by (repeat (first | exact Picks.nil | (apply Picks.cons; (repeat (first | exact Pick.here | apply Pick.there)))))) (by (repeat (first | exact Suff.here | apply Suff.there)))
            · refine G.kDF (t := 24) rfl h7_25 ?_
              refine G.gskip (t := 25) rfl rfl rfl rfl ?_
              refine G.gskip (t := 25) rfl rfl rfl rfl ?_
              refine G.q (Quiet.pickF rfl rfl) rfl ?_
              refine G.q (Quiet.assign rfl) rfl ?_
              refine G.nil ?_
              refine G.then_n ?_
              refine G.condF rfl ?_
              refine G.seq ?_
              refine G.region ?_
              refine G.q (Quiet.move rfl) rfl ?_
              refine G.q (Quiet.int rfl rfl rfl) rfl ?_
              refine G.q (Quiet.assign rfl) rfl ?_
              refine G.nil ?_
              refine G.then_n ?_
              refine G.dec (t := 10) rfl (fun h10 => ?_) (fun h10 => ?_)
              · exfalso; omega
              · refine G.condF rfl ?_
                refine G.seq ?_
                refine G.region ?_
                refine G.q (Quiet.move rfl) rfl ?_
                refine G.q (Quiet.int rfl rfl rfl) rfl ?_
                refine G.q (Quiet.assign rfl) rfl ?_
                refine G.nil ?_
                refine G.then_n ?_
                refine G.dec (t := 10) rfl (fun h10 => ?_) (fun h10 => ?_)
                · exfalso; omega
                · refine G.condF rfl ?_
                  refine G.region ?_
                  refine G.q (Quiet.move rfl) rfl ?_
                  refine G.q (Quiet.int rfl rfl rfl) rfl ?_
                  refine G.q (Quiet.assign rfl) rfl ?_
                  refine G.nil ?_
                  refine G.then_n ?_
                  refine G.dec (t := 10) rfl (fun h10 => ?_) (fun h10 => ?_)
                  · exfalso; omega
                  · refine G.condF rfl ?_
                    refine G.seq ?_
                    refine G.region ?_
                    refine G.q (Quiet.assign rfl) rfl ?_
                    refine G.nil ?_
                    refine G.then_n ?_
                    refine G.ret ?_
                    refine G.blk_r ?_
                    refine G.blk_r ?_
                    refine G.then_r ?_
                    refine G.blk_r ?_
                    refine G.then_r ?_
                    have hz : isNameZ s = false := name_bad hpos (letter_not (by omega))
                    rw [hz]
                    exact G.done (l := [.tmp 2]) rfl rfl ⟨rfl, rfl⟩ (by (repeat (first | exact Picks.nil | (apply Picks.cons; (repeat (first | exact Pick.here | apply Pick.there)))))) (by (repeat (first | exact Suff.here | apply Suff.there)))
      · refine G.kDF (t := 12) rfl h5_13 ?_
        refine G.gskip (t := 13) rfl rfl rfl rfl ?_
        refine G.gskip (t := 13) rfl rfl rfl rfl ?_
        refine G.q (Quiet.pickF rfl rfl) rfl ?_
        refine G.q (Quiet.assign rfl) rfl ?_
        refine G.nil ?_
        refine G.then_n ?_
        refine G.condF rfl ?_
        refine G.seq ?_
        refine G.region ?_
        refine G.q (Quiet.move rfl) rfl ?_
        refine G.q (Quiet.int rfl rfl rfl) rfl ?_
        refine G.q (Quiet.move rfl) rfl ?_
        refine G.dec (t := 19) rfl (fun h6_19 => ?_) (fun h6_19 => ?_)
        · refine G.kDT (t := 18) rfl h6_19 ?_
          refine G.grun (t := 19) rfl rfl rfl ?_
          refine G.q (Quiet.move rfl) rfl ?_
          refine G.grun (t := 19) rfl rfl rfl ?_
          refine G.q (Quiet.int rfl rfl rfl) rfl ?_
          refine G.q (Quiet.pickT rfl rfl) rfl ?_
          refine G.q (Quiet.assign rfl) rfl ?_
          refine G.nil ?_
          refine G.then_n ?_
          refine G.dec (t := 10) rfl (fun h10 => ?_) (fun h10 => ?_)
          · exfalso; omega
          · refine G.condF rfl ?_
            refine G.seq ?_
            refine G.region ?_
            refine G.q (Quiet.move rfl) rfl ?_
            refine G.q (Quiet.int rfl rfl rfl) rfl ?_
            refine G.q (Quiet.move rfl) rfl ?_
            refine G.dec (t := 25) rfl (fun h7_25 => ?_) (fun h7_25 => ?_)
            · refine G.kDT (t := 24) rfl h7_25 ?_
              refine G.grun (t := 25) rfl rfl rfl ?_
              refine G.q (Quiet.move rfl) rfl ?_
              refine G.grun (t := 25) rfl rfl rfl ?_
              refine G.q (Quiet.int rfl rfl rfl) rfl ?_
              refine G.q (Quiet.pickT rfl rfl) rfl ?_
              refine G.q (Quiet.assign rfl) rfl ?_
              refine G.nil ?_
              refine G.then_n ?_
              refine G.dec (t := 10) rfl (fun h10 => ?_) (fun h10 => ?_)
              · exfalso; omega
              · refine G.condF rfl ?_
                refine G.seq ?_
                refine G.region ?_
                refine G.q (Quiet.move rfl) rfl ?_
                refine G.q (Quiet.int rfl rfl rfl) rfl ?_
                refine G.q (Quiet.assign rfl) rfl ?_
                refine G.nil ?_
                refine G.then_n ?_
                refine G.dec (t := 10) rfl (fun h10 => ?_) (fun h10 => ?_)
                · exfalso; omega
                · refine G.condF rfl ?_
                  refine G.seq ?_
                  refine G.region ?_
                  refine G.q (Quiet.move rfl) rfl ?_
                  refine G.q (Quiet.int rfl rfl rfl) rfl ?_
                  refine G.q (Quiet.assign rfl) rfl ?_
                  refine G.nil ?_
                  refine G.then_n ?_
                  refine G.dec (t := 10) rfl (fun h10 => ?_) (fun h10 => ?_)
                  · exfalso; omega
                  · refine G.condF rfl ?_
                    refine G.region ?_
                    refine G.q (Quiet.move rfl) rfl ?_
                    refine G.q (Quiet.int rfl rfl rfl) rfl ?_
                    refine G.q (Quiet.assign rfl) rfl ?_
                    refine G.nil ?_
                    refine G.then_n ?_
                    refine G.dec (t := 10) rfl (fun h10 => ?_) (fun h10 => ?_)
                    · exfalso; omega
                    · refine G.condF rfl ?_
                      refine G.seq ?_
                      refine G.region ?_
                      refine G.q (Quiet.assign rfl) rfl ?_
                      refine G.nil ?_
                      refine G.then_n ?_
                      refine G.ret ?_
                      refine G.blk_r ?_
                      refine G.blk_r ?_
                      refine G.then_r ?_
                      refine G.blk_r ?_
                      refine G.then_r ?_
                      have hz : isNameZ s = false := name_bad hpos (letter_not (by omega))
                      rw [hz]
                      exact G.done (l := [.tmp 2]) rfl rfl ⟨rfl, rfl⟩ (by (repeat (first | exact Picks.nil | (apply Picks.cons; (repeat (first | exact Pick.here | apply Pick.there)))))) (by (repeat (first | exact Suff.here | apply Suff.there)))
            · refine G.kDF (t := 24) rfl h7_25 ?_
              refine G.gskip (t := 25) rfl rfl rfl rfl ?_
              refine G.gskip (t := 25) rfl rfl rfl rfl ?_
              refine G.q (Quiet.pickF rfl rfl) rfl ?_
              refine G.q (Quiet.assign rfl) rfl ?_
              refine G.nil ?_
              refine G.then_n ?_
              refine G.condF rfl ?_
              refine G.seq ?_
              refine G.region ?_
              refine G.q (Quiet.move rfl) rfl ?_
              refine G.q (Quiet.int rfl rfl rfl) rfl ?_
              refine G.q (Quiet.assign rfl) rfl ?_
              refine G.nil ?_
              refine G.then_n ?_
              refine G.dec (t := 10) rfl (fun h10 => ?_) (fun h10 => ?_)
              · exfalso; omega
              · refine G.condF rfl ?_
                refine G.seq ?_
                refine G.region ?_
                refine G.q (Quiet.move rfl) rfl ?_
                refine G.q (Quiet.int rfl rfl rfl) rfl ?_
                refine G.q (Quiet.assign rfl) rfl ?_
                refine G.nil ?_
                refine G.then_n ?_
                refine G.dec (t := 10) rfl (fun h10 => ?_) (fun h10 => ?_)
                · exfalso; omega
                · refine G.condF rfl ?_
                  refine G.region ?_
                  refine G.q (Quiet.move rfl) rfl ?_
                  refine G.q (Quiet.int rfl rfl rfl) rfl ?_
                  refine G.q (Quiet.assign rfl) rfl ?_
                  refine G.nil ?_
                  refine G.then_n ?_
                  refine G.dec (t := 10) rfl (fun h10 => ?_) (fun h10 => ?_)
                  · exfalso; omega
                  · refine G.condF rfl ?_
                    refine G.seq ?_
                    refine G.region ?_
                    refine G.q (Quiet.assign rfl) rfl ?_
                    refine G.nil ?_
                    refine G.then_n ?_
                    refine G.ret ?_
                    refine G.blk_r ?_
                    refine G.blk_r ?_
                    refine G.then_r ?_
                    refine G.blk_r ?_
                    refine G.then_r ?_
                    have hz : isNameZ s = false := name_bad hpos (letter_not (by omega))
                    rw [hz]
                    exact G.done (l := [.tmp 2]) rfl rfl ⟨rfl, rfl⟩ (by (repeat (first | exact Picks.nil | (apply Picks.cons; (repeat (first | exact Pick.here | apply Pick.there)))))) (by (repeat (first | exact Suff.here | apply Suff.there)))
        · refine G.kDF (t := 18) rfl h6_19 ?_
          refine G.gskip (t := 19) rfl rfl rfl rfl ?_
          refine G.gskip (t := 19) rfl rfl rfl rfl ?_
          refine G.q (Quiet.pickF rfl rfl) rfl ?_
          refine G.q (Quiet.assign rfl) rfl ?_
          refine G.nil ?_
          refine G.then_n ?_
          refine G.condF rfl ?_
          refine G.seq ?_
          refine G.region ?_
          refine G.q (Quiet.move rfl) rfl ?_
          refine G.q (Quiet.int rfl rfl rfl) rfl ?_
          refine G.q (Quiet.move rfl) rfl ?_
          refine G.dec (t := 25) rfl (fun h7_25 => ?_) (fun h7_25 => ?_)
          · refine G.kDT (t := 24) rfl h7_25 ?_
            refine G.grun (t := 25) rfl rfl rfl ?_
            refine G.q (Quiet.move rfl) rfl ?_
            refine G.grun (t := 25) rfl rfl rfl ?_
            refine G.q (Quiet.int rfl rfl rfl) rfl ?_
            refine G.q (Quiet.pickT rfl rfl) rfl ?_
            refine G.q (Quiet.assign rfl) rfl ?_
            refine G.nil ?_
            refine G.then_n ?_
            refine G.dec (t := 10) rfl (fun h10 => ?_) (fun h10 => ?_)
            · exfalso; omega
            · refine G.condF rfl ?_
              refine G.seq ?_
              refine G.region ?_
              refine G.q (Quiet.move rfl) rfl ?_
              refine G.q (Quiet.int rfl rfl rfl) rfl ?_
              refine G.q (Quiet.assign rfl) rfl ?_
              refine G.nil ?_
              refine G.then_n ?_
              refine G.dec (t := 10) rfl (fun h10 => ?_) (fun h10 => ?_)
              · exfalso; omega
              · refine G.condF rfl ?_
                refine G.seq ?_
                refine G.region ?_
                refine G.q (Quiet.move rfl) rfl ?_
                refine G.q (Quiet.int rfl rfl rfl) rfl ?_
                refine G.q (Quiet.assign rfl) rfl ?_
                refine G.nil ?_
                refine G.then_n ?_
                refine G.dec (t := 10) rfl (fun h10 => ?_) (fun h10 => ?_)
                · exfalso; omega
                · refine G.condF rfl ?_
                  refine G.region ?_
                  refine G.q (Quiet.move rfl) rfl ?_
                  refine G.q (Quiet.int rfl rfl rfl) rfl ?_
                  refine G.q (Quiet.assign rfl) rfl ?_
                  refine G.nil ?_
                  refine G.then_n ?_
                  refine G.dec (t := 10) rfl (fun h10 => ?_) (fun h10 => ?_)
                  · exfalso; omega
                  · refine G.condF rfl ?_
                    refine G.seq ?_
                    refine G.region ?_
                    refine G.q (Quiet.assign rfl) rfl ?_
                    refine G.nil ?_
                    refine G.then_n ?_
                    refine G.ret ?_
                    refine G.blk_r ?_
                    refine G.blk_r ?_
                    refine G.then_r ?_
                    refine G.blk_r ?_
                    refine G.then_r ?_
                    have hz : isNameZ s = false := name_bad hpos (letter_not (by omega))
                    rw [hz]
                    exact G.done (l := [.tmp 2]) rfl rfl ⟨rfl, rfl⟩ (by (repeat (first | exact Picks.nil | (apply Picks.cons; (repeat (first | exact Pick.here | apply Pick.there)))))) (by (repeat (first | exact Suff.here | apply Suff.there)))
          · refine G.kDF (t := 24) rfl h7_25 ?_
            refine G.gskip (t := 25) rfl rfl rfl rfl ?_
            refine G.gskip (t := 25) rfl rfl rfl rfl ?_
            refine G.q (Quiet.pickF rfl rfl) rfl ?_
            refine G.q (Quiet.assign rfl) rfl ?_
            refine G.nil ?_
            refine G.then_n ?_
            refine G.condF rfl ?_
            refine G.seq ?_
            refine G.region ?_
            refine G.q (Quiet.move rfl) rfl ?_
            refine G.q (Quiet.int rfl rfl rfl) rfl ?_
            refine G.q (Quiet.assign rfl) rfl ?_
            refine G.nil ?_
            refine G.then_n ?_
            refine G.dec (t := 10) rfl (fun h10 => ?_) (fun h10 => ?_)
            · exfalso; omega
            · refine G.condF rfl ?_
              refine G.seq ?_
              refine G.region ?_
              refine G.q (Quiet.move rfl) rfl ?_
              refine G.q (Quiet.int rfl rfl rfl) rfl ?_
              refine G.q (Quiet.assign rfl) rfl ?_
              refine G.nil ?_
              refine G.then_n ?_
              refine G.dec (t := 10) rfl (fun h10 => ?_) (fun h10 => ?_)
              · exfalso; omega
              · refine G.condF rfl ?_
                refine G.region ?_
                refine G.q (Quiet.move rfl) rfl ?_
                refine G.q (Quiet.int rfl rfl rfl) rfl ?_
                refine G.q (Quiet.assign rfl) rfl ?_
                refine G.nil ?_
                refine G.then_n ?_
                refine G.dec (t := 10) rfl (fun h10 => ?_) (fun h10 => ?_)
                · exfalso; omega
                · refine G.condF rfl ?_
                  refine G.seq ?_
                  refine G.region ?_
                  refine G.q (Quiet.assign rfl) rfl ?_
                  refine G.nil ?_
                  refine G.then_n ?_
                  refine G.ret ?_
                  refine G.blk_r ?_
                  refine G.blk_r ?_
                  refine G.then_r ?_
                  refine G.blk_r ?_
                  refine G.then_r ?_
                  have hz : isNameZ s = false := name_bad hpos (letter_not (by omega))
                  rw [hz]
                  exact G.done (l := [.tmp 2]) rfl rfl ⟨rfl, rfl⟩ (by (repeat (first | exact Picks.nil | (apply Picks.cons; (repeat (first | exact Pick.here | apply Pick.there)))))) (by (repeat (first | exact Suff.here | apply Suff.there)))

theorem split_head {s : Bs} : ∃ h t, splitZ s = h :: t := by
  rcases h : splitZ s with _ | ⟨a, t⟩
  · exact absurd h (splitZ_ne s)
  · exact ⟨a, t, rfl⟩
set_option maxRecDepth 100000 in
theorem check_spec (s : Bs) (hs : s.length ≤ 1048576) : Fn Tryd.prog 35 #[vstr s] [] fun v L => v = vint (checkZ s) ∧ L = [] := by
  refine Fn.intro (vs := [vstr s]) Tryd.func35 rfl rfl ?_
  intro F W
  obtain ⟨hd, tl, hspl⟩ := split_head (s := s)
  have hspn := split_len s
  have hcl : s.count 47 ≤ s.length := List.count_le_length
  have hln : (splitZ s).length = tl.length + 1 := by rw [hspl]; rfl
  refine G.seq ?_
  refine G.region ?_
  refine G.q (Quiet.assign rfl) rfl ?_
  refine G.nil ?_
  refine G.then_n ?_
  refine G.seq ?_
  refine G.seq ?_
  refine G.region ?_
  refine G.q (Quiet.move rfl) rfl ?_
  refine G.q (Quiet.streq rfl rfl) rfl ?_
  refine G.nil ?_
  refine G.then_n ?_
  refine G.condD rfl (fun h7 => ?_) (fun h7 => ?_)
  · refine G.seq ?_
    refine G.region ?_
    refine G.q (Quiet.assign rfl) rfl ?_
    refine G.nil ?_
    refine G.then_n ?_
    refine G.ret ?_
    refine G.then_r ?_
    have e : checkZ s = 0 := by unfold checkZ; rw [if_pos h7]
    rw [e]
    exact G.done (l := [.tmp 2]) rfl rfl ⟨rfl, rfl⟩ (by (repeat (first | exact Picks.nil | (apply Picks.cons; (repeat (first | exact Pick.here | apply Pick.there)))))) (by (repeat (first | exact Suff.here | apply Suff.there)))
  · refine G.skip ?_
    refine G.then_n ?_
    refine G.seq ?_
    refine G.region ?_
    refine G.q (Quiet.move rfl) rfl ?_
    refine G.op (OpSpec.call Tryd.func42 rfl rfl (vs := [_, _]) rfl (split_spec _ ?hs6)) (by (repeat (first | exact Picks.nil | (apply Picks.cons; (repeat (first | exact Pick.here | apply Pick.there)))))) rfl ?nx7
    case hs6 => assumption
    rintro v L' ⟨bb, rfl, rfl⟩
    refine G.q (Quiet.assign rfl) rfl ?_
    refine G.nil ?_
    refine G.then_n ?_
    refine G.seq ?_
    refine G.seq ?_
    refine G.region ?_
    refine G.q (Quiet.move rfl) rfl ?_
    refine G.q (Quiet.indexAddr rfl rfl el_78 (by omega)) rfl ?_
    refine G.q (Quiet.loadSl (v := vstr hd) (i := 0) rfl ag_9 (by (repeat (first | exact Pick.here | apply Pick.there))) (by rw [hspl]; rfl)) rfl ?_
    refine G.q (Quiet.strne rfl rfl) rfl ?_
    refine G.q (Quiet.move rfl) rfl ?_
    refine G.ndec (t := 14) rfl (fun h4_14 => ?_) (fun h4_14 => ?_)
    · refine G.kNT (t := 13) rfl h4_14 ?_
      refine G.gskip (t := 14) rfl rfl rfl rfl ?_
      refine G.gskip (t := 14) rfl rfl rfl rfl ?_
      refine G.gskip (t := 14) rfl rfl rfl rfl ?_
      refine G.q (Quiet.pickT rfl rfl) rfl ?_
      refine G.nil ?_
      refine G.then_n ?_
      refine G.condT rfl ?_
      refine G.seq ?_
      refine G.region ?_
      refine G.q (Quiet.assign rfl) rfl ?_
      refine G.nil ?_
      refine G.then_n ?_
      refine G.ret ?_
      refine G.then_r ?_
      have e : checkZ s = 40 := by unfold checkZ; rw [if_neg h7, if_pos (by rw [hspl]; first | exact .inl (by simpa using h4_14) | exact .inr (.inl (by rw [← hspl]; omega)))]
      rw [e]
      exact G.done (l := [.tmp 2]) rfl rfl ⟨rfl, rfl⟩ (by (repeat (first | exact Picks.nil | (apply Picks.cons; (repeat (first | exact Pick.here | apply Pick.there)))))) (by (repeat (first | exact Suff.here | apply Suff.there)))
    · refine G.kNF (t := 13) rfl h4_14 ?_
      refine G.grun (t := 14) rfl rfl rfl ?_
      refine G.q (Quiet.move rfl) rfl ?_
      refine G.grun (t := 14) rfl rfl rfl ?_
      refine G.q (Quiet.slen rfl Tryd.underlying78 rfl) rfl ?_
      refine G.grun (t := 14) rfl rfl rfl ?_
      refine G.q (Quiet.int rfl rfl rfl) rfl ?_
      refine G.q (Quiet.pickF rfl rfl) rfl ?_
      refine G.nil ?_
      refine G.then_n ?_
      refine G.condD rfl (fun h18 => ?_) (fun h18 => ?_)
      · refine G.seq ?_
        refine G.region ?_
        refine G.q (Quiet.assign rfl) rfl ?_
        refine G.nil ?_
        refine G.then_n ?_
        refine G.ret ?_
        refine G.then_r ?_
        have e : checkZ s = 40 := by unfold checkZ; rw [if_neg h7, if_pos (by rw [hspl]; first | exact .inl (by simpa using h4_14) | exact .inr (.inl (by rw [← hspl]; omega)))]
        rw [e]
        exact G.done (l := [.tmp 2]) rfl rfl ⟨rfl, rfl⟩ (by (repeat (first | exact Picks.nil | (apply Picks.cons; (repeat (first | exact Pick.here | apply Pick.there)))))) (by (repeat (first | exact Suff.here | apply Suff.there)))
      · refine G.skip ?_
        refine G.then_n ?_
        refine G.seq ?_
        refine G.seq ?_
        have hh0 : hd = [] := by simpa using h4_14
        have hn1 : (splitZ s).length ≠ 1 := by omega
        refine G.region ?_
        refine G.q (Quiet.move rfl) rfl ?_
        refine G.q (Quiet.to (v' := .slice (some ⟨bb, 1, none⟩) tl.length tl.length) (Quiet.slSlice (i := 1) (j := ((splitZ s).length : Int)) rfl el_78 rfl rfl (by omega)) (by rw [hln, if_neg (show ¬ tl.length + 1 = (1 : Int).toNat by rw [show (1 : Int).toNat = 1 from rfl]; omega)]; simp)) rfl ?_
        refine G.q (Quiet.slen rfl Tryd.underlying78 rfl) rfl ?_
        refine G.q (Quiet.move rfl) rfl ?_
        refine G.nil ?_
        refine G.then_n ?_
        refine G.block ?_
        refine G.loopK (ι := Nat) (fun q E => (22, vint q) :: E) (fun q => []) (fun q => q ≤ tl.length ∧ (tl.take q).all isNameZ = true) (fun q => tl.length - q) (0) (ts := [0, 3, 20, 21]) (.cons rfl (.cons rfl (.cons rfl (.cons rfl (.nil))))) (⟨Nat.zero_le _, rfl⟩) ⟨rfl, rfl, rfl, rfl, rfl, trivial⟩ (by (repeat (first | exact Picks.nil | (apply Picks.cons; (repeat (first | exact Pick.here | apply Pick.there)))))) ?_
        rintro i ⟨hi, hall⟩
        refine G.seq ?_
        refine G.region ?_
        refine G.q (Quiet.int rfl rfl rfl) rfl ?_
        refine G.nil ?_
        refine G.then_n ?_
        refine G.seq ?_
        refine G.condD rfl (fun h23 => ?_) (fun h23 => ?_)
        · have hi2 : i < tl.length := by omega
          have hname0 := rfl (a := isNameZ tl[i])
          refine G.skip ?_
          refine G.then_n ?_
          refine G.seq ?_
          refine G.block ?_
          refine G.seq ?_
          refine G.region ?_
          refine G.q (Quiet.indexAddr rfl rfl el_78 (by omega)) rfl ?_
          refine G.q (Quiet.loadRd (sz := 1) (j := i + 1) (p := slR 9 1 (.slice (some ⟨bb, 0, none⟩) (splitZ s).length (splitZ s).length) (splitZ s).length (strs (splitZ s))) (v := vstr tl[i]) rfl ag_9 (by (repeat (first | exact Pick.here | apply Pick.there))) (fun h hp => slR_rd hp) (by simp; omega) (by rw [hspl]; simp [hi2])) rfl ?_
          refine G.q (Quiet.assign rfl) rfl ?_
          refine G.nil ?_
          refine G.then_n ?_
          refine G.seq ?_
          refine G.region ?_
          refine G.q (Quiet.move rfl) rfl ?_
          refine G.op (OpSpec.call Tryd.func43 rfl rfl (vs := [_]) rfl (isname_spec _)) (by (repeat (first | exact Picks.nil | (apply Picks.cons; (repeat (first | exact Pick.here | apply Pick.there)))))) rfl ?nx23
          rintro v L' ⟨rfl, rfl⟩
          refine G.q (Quiet.not rfl) rfl ?_
          refine G.nil ?_
          refine G.then_n ?_
          refine G.condB rfl (fun h28 => ?_) (fun h28 => ?_)
          · have hname : isNameZ tl[i] = false := by simpa using h28
            refine G.seq ?_
            refine G.region ?_
            refine G.q (Quiet.assign rfl) rfl ?_
            refine G.nil ?_
            refine G.then_n ?_
            refine G.ret ?_
            refine G.blk_r ?_
            refine G.then_r ?_
            refine G.then_r ?_
            refine G.blk_r ?_
            refine G.then_r ?_
            have e : checkZ s = 40 := by unfold checkZ; rw [if_neg h7, if_pos (.inr (.inr (by rw [hspl, List.tail_cons, ← Bool.not_eq_true]; intro g; have := List.all_eq_true.1 g _ (List.getElem_mem hi2); rw [hname] at this; cases this)))]
            rw [e]
            exact G.done (l := [.tmp 2]) rfl rfl ⟨rfl, rfl⟩ (by (repeat (first | exact Picks.nil | (apply Picks.cons; (repeat (first | exact Pick.here | apply Pick.there)))))) (by (repeat (first | exact Suff.here | apply Suff.there)))
          · have hname : isNameZ tl[i] = true := by simpa using h28
            refine G.skip ?_
            refine G.blk_n ?_
            refine G.then_n ?_
            refine G.region ?_
            refine G.q (Quiet.add rfl rfl (by omega)) rfl ?_
            refine G.q (Quiet.move rfl) rfl ?_
            refine G.nil ?_
            refine G.then_n ?_
            exact G.roundK (i + 1) (⟨by omega, by rw [List.take_succ_eq_append_getElem hi2, List.all_append, hall]; simp [hname]⟩) (by omega) ⟨rfl, rfl, rfl, rfl, rfl, trivial⟩ (by (repeat (first | exact Picks.nil | (apply Picks.cons; (repeat (first | exact Pick.here | apply Pick.there)))))) (by ((repeat (apply Have.cons; (repeat (first | exact Pick.here | apply Pick.there)))); apply Have.base; repeat (first | exact Suff.here | apply Suff.there)))
        · have hii : i = tl.length := by omega
          rw [hii, List.take_length] at hall
          refine G.exit ?_
          refine G.then_e ?_
          refine G.then_e ?_
          refine G.blk_e ?_
          refine G.then_n ?_
          refine G.seq ?_
          refine G.seq ?_
          refine G.region ?_
          refine G.q (Quiet.move rfl) rfl ?_
          refine G.q (Quiet.strlen rfl Tryd.underlying9 rfl) rfl ?_
          refine G.q (Quiet.int rfl rfl rfl) rfl ?_
          refine G.q (Quiet.move rfl) rfl ?_
          refine G.dec (t := 33) rfl (fun h12_33 => ?_) (fun h12_33 => ?_)
          · refine G.kDT (t := 32) rfl h12_33 ?_
            refine G.gskip (t := 33) rfl rfl rfl rfl ?_
            refine G.gskip (t := 33) rfl rfl rfl rfl ?_
            refine G.gskip (t := 33) rfl rfl rfl rfl ?_
            refine G.gskip (t := 33) rfl rfl rfl rfl ?_
            refine G.q (Quiet.pickT rfl rfl) rfl ?_
            refine G.nil ?_
            refine G.then_n ?_
            refine G.condT rfl ?_
            refine G.seq ?_
            refine G.region ?_
            refine G.q (Quiet.assign rfl) rfl ?_
            refine G.nil ?_
            refine G.then_n ?_
            refine G.ret ?_
            refine G.then_r ?_
            have e : checkZ s = 41 := by unfold checkZ; rw [if_neg h7, if_neg (by rw [hspl, List.head?_cons, List.tail_cons, hall, hh0]; rintro (h | h | h); exact h rfl; rw [← hh0, ← hspl] at h; exact hn1 h; cases h), if_pos (by first | exact .inl (by omega) | exact .inr (by omega))]
            rw [e]
            exact G.done (l := [.tmp 2]) rfl rfl ⟨rfl, rfl⟩ (by (repeat (first | exact Picks.nil | (apply Picks.cons; (repeat (first | exact Pick.here | apply Pick.there)))))) (by (repeat (first | exact Suff.here | apply Suff.there)))
          · refine G.kDF (t := 32) rfl h12_33 ?_
            refine G.grun (t := 33) rfl rfl rfl ?_
            refine G.q (Quiet.move rfl) rfl ?_
            refine G.grun (t := 33) rfl rfl rfl ?_
            refine G.q (Quiet.slen rfl Tryd.underlying78 rfl) rfl ?_
            refine G.grun (t := 33) rfl rfl rfl ?_
            refine G.q (Quiet.sub rfl rfl (by omega)) rfl ?_
            refine G.grun (t := 33) rfl rfl rfl ?_
            refine G.q (Quiet.int rfl rfl rfl) rfl ?_
            refine G.q (Quiet.pickF rfl rfl) rfl ?_
            refine G.nil ?_
            refine G.then_n ?_
            refine G.condD rfl (fun h38 => ?_) (fun h38 => ?_)
            · refine G.seq ?_
              refine G.region ?_
              refine G.q (Quiet.assign rfl) rfl ?_
              refine G.nil ?_
              refine G.then_n ?_
              refine G.ret ?_
              refine G.then_r ?_
              have e : checkZ s = 41 := by unfold checkZ; rw [if_neg h7, if_neg (by rw [hspl, List.head?_cons, List.tail_cons, hall, hh0]; rintro (h | h | h); exact h rfl; rw [← hh0, ← hspl] at h; exact hn1 h; cases h), if_pos (by first | exact .inl (by omega) | exact .inr (by omega))]
              rw [e]
              exact G.done (l := [.tmp 2]) rfl rfl ⟨rfl, rfl⟩ (by (repeat (first | exact Picks.nil | (apply Picks.cons; (repeat (first | exact Pick.here | apply Pick.there)))))) (by (repeat (first | exact Suff.here | apply Suff.there)))
            · refine G.skip ?_
              refine G.then_n ?_
              refine G.seq ?_
              refine G.region ?_
              refine G.q (Quiet.assign rfl) rfl ?_
              refine G.nil ?_
              refine G.then_n ?_
              refine G.ret ?_
              have e : checkZ s = 0 := by unfold checkZ; rw [if_neg h7, if_neg (by rw [hspl, List.head?_cons, List.tail_cons, hall, hh0]; rintro (h | h | h); exact h rfl; rw [← hh0, ← hspl] at h; exact hn1 h; cases h), if_neg (by rintro (h | h) <;> omega)]
              rw [e]
              exact G.done (l := [.tmp 2]) rfl rfl ⟨rfl, rfl⟩ (by (repeat (first | exact Picks.nil | (apply Picks.cons; (repeat (first | exact Pick.here | apply Pick.there)))))) (by (repeat (first | exact Suff.here | apply Suff.there)))

end Go.Proofs.YtnnbelmpbmfdnaaDoor
