/- Own work, by program: the helpers of law 03. -/
import Derived.Test.YtepncdidkjjllaaL3
namespace Go.Proofs.Ytepncdidkjjllaa
open Go
theorem pick3_spec (c n : Int) (hc : -9223372036854775808 ≤ c ∧ c ≤ 9223372036854775807) (hn : 0 < n) : Fn Try.prog 48 #[vint c, vint n] [] fun v L => v = vint (pickZ c n) ∧ L = [] := by
  refine Fn.intro (vs := [vint c, vint n]) Try.func48 rfl rfl ?_
  intro F W
  refine G.seq ?_
  refine G.region ?_
  refine G.q (Quiet.assign rfl) rfl ?_
  refine G.nil ?_
  refine G.then_n ?_
  refine G.seq ?_
  refine G.seq ?_
  refine G.region ?_
  refine G.q (Quiet.move rfl) rfl ?_
  refine G.q (Quiet.int rfl rfl rfl) rfl ?_
  refine G.nil ?_
  refine G.then_n ?_
  refine G.condD rfl (fun h6 => ?_) (fun h6 => ?_)
  · refine G.region ?_
    refine G.q (Quiet.move rfl) rfl ?_
    refine G.q (Quiet.add rfl rfl (by omega)) rfl ?_
    refine G.q (Quiet.neg rfl (by omega)) rfl ?_
    refine G.q (Quiet.assign rfl) rfl ?_
    refine G.nil ?_
    refine G.then_n ?_
    refine G.seq ?_
    refine G.region ?_
    refine G.q (Quiet.move rfl) rfl ?_
    refine G.q (Quiet.move rfl) rfl ?_
    refine G.q (Quiet.remE rfl rfl (by omega) (by omega)) rfl ?_
    refine G.q (Quiet.assign rfl) rfl ?_
    refine G.nil ?_
    refine G.then_n ?_
    refine G.ret ?_
    have e : pickZ c n = (-(c + 1)) % n := by unfold pickZ; rw [if_pos h6]
    rw [e]
    exact G.done (l := [.tmp 4]) rfl rfl ⟨rfl, rfl⟩ (by (repeat (first | exact Picks.nil | (apply Picks.cons; (repeat (first | exact Pick.here | apply Pick.there)))))) (by (repeat (first | exact Suff.here | apply Suff.there)))
  · refine G.skip ?_
    refine G.then_n ?_
    refine G.seq ?_
    refine G.region ?_
    refine G.q (Quiet.move rfl) rfl ?_
    refine G.q (Quiet.move rfl) rfl ?_
    refine G.q (Quiet.remE rfl rfl (by omega) (by omega)) rfl ?_
    refine G.q (Quiet.assign rfl) rfl ?_
    refine G.nil ?_
    refine G.then_n ?_
    refine G.ret ?_
    have e : pickZ c n = (c) % n := by unfold pickZ; rw [if_neg h6]
    rw [e]
    exact G.done (l := [.tmp 4]) rfl rfl ⟨rfl, rfl⟩ (by (repeat (first | exact Picks.nil | (apply Picks.cons; (repeat (first | exact Pick.here | apply Pick.there)))))) (by (repeat (first | exact Suff.here | apply Suff.there)))

set_option maxRecDepth 100000 in
theorem filled_spec (n : Int) : Fn Try.prog 49 #[vint n] [] fun v L => v = vstr (fill n) ∧ L = [] := by
  refine Fn.intro (vs := [vint n]) Try.func49 rfl rfl ?_
  intro F W
  refine G.seq ?_
  refine G.region ?_
  refine G.q (Quiet.assign rfl) rfl ?_
  refine G.nil ?_
  refine G.then_n ?_
  refine G.seq ?_
  refine G.region ?_
  refine G.op (OpSpec.make rfl rfl el_31 ze_5 rfl ⟨by simp, by simp; rfl⟩ ?c2) (by (repeat (first | exact Picks.nil | (apply Picks.cons; (repeat (first | exact Pick.here | apply Pick.there)))))) rfl ?nx3
  case c2 => omega
  rintro v L' ⟨b, rfl, rfl⟩
  refine G.q (Quiet.assign rfl) rfl ?_
  refine G.nil ?_
  refine G.then_n ?_
  refine G.seq ?_
  refine G.seq ?_
  refine G.region ?_
  refine G.q (Quiet.assign rfl) rfl ?_
  refine G.nil ?_
  refine G.then_n ?_
  refine G.block ?_
  refine G.loop (F := F) (ι := Nat) (fun i => [(0, vint n), (3, .slice (some ⟨b, 0, none⟩) 64 64), (4, vint i)]) (fun i => [ptc b ((bys (fill n)).take i ++ (List.replicate 64 (Value.int .u8 0)).drop i) 5]) (fun i => i ≤ 64) (fun i => 64 - i) 0 (Nat.zero_le _) ⟨rfl, rfl, rfl, trivial⟩ (by (repeat (first | exact Picks.nil | (apply Picks.cons; (repeat (first | exact Pick.here | apply Pick.there)))))) (by (repeat (first | exact Suff.here | apply Suff.there))) ?_
  intro i hi
  refine G.seq ?_
  refine G.seq ?_
  refine G.region ?_
  refine G.q (Quiet.move rfl) rfl ?_
  refine G.q (Quiet.int rfl rfl rfl) rfl ?_
  refine G.nil ?_
  refine G.then_n ?_
  refine G.condD rfl (fun h7 => ?_) (fun h7 => ?_)
  · have hi2 : i < 64 := by omega
    refine G.skip ?_
    refine G.then_n ?_
    refine G.seq ?_
    refine G.block ?_
    refine G.region ?_
    refine G.q (Quiet.move rfl) rfl ?_
    refine G.q (Quiet.move rfl) rfl ?_
    refine G.q (Quiet.move rfl) rfl ?_
    refine G.q (Quiet.move rfl) rfl ?_
    refine G.q (Quiet.move rfl) rfl ?_
    refine G.q (Quiet.rem rfl rfl (by decide)) rfl ?_
    refine G.q (Quiet.int rfl rfl rfl) rfl ?_
    refine G.q (Quiet.int rfl rfl rfl) rfl ?_
    refine G.q (Quiet.conv rfl Try.underlying3 Try.underlying5) rfl ?_
    refine G.q (Quiet.indexAddr rfl rfl el_31 (by omega)) rfl ?_
    refine G.op (OpSpec.store rfl rfl rfl sz_5 ?c18 ?c19) (by (repeat (first | exact Picks.nil | (apply Picks.cons; (repeat (first | exact Pick.here | apply Pick.there)))))) rfl ?nx20
    case c18 => simp [fill_len]; omega
    case c19 => exact nfz0 _ _
    rintro v L' rfl
    refine G.nil ?_
    rw [Nat.zero_add, Nat.mul_one, show IntKind.u8.wrap (IntKind.i64.wrap (n + IntKind.i64.wrap (i * n.tmod 5))) = fillV n i from rfl, show (Int.toNat (i : Int)) = i from rfl, fill_step n hi2]
    refine G.blk_n ?_
    refine G.then_n ?_
    refine G.region ?_
    refine G.q (Quiet.move rfl) rfl ?_
    refine G.q (Quiet.add rfl rfl (by omega)) rfl ?_
    refine G.q (Quiet.assign rfl) rfl ?_
    refine G.nil ?_
    refine G.then_n ?_
    refine G.round (i + 1) (by omega) (by omega) ⟨rfl, rfl, rfl, trivial⟩ (by (repeat (first | exact Picks.nil | (apply Picks.cons; (repeat (first | exact Pick.here | apply Pick.there)))))) (by (repeat (first | exact Suff.here | apply Suff.there)))
  · have hi2 : i = 64 := by omega
    subst hi2
    rw [List.take_of_length_le (by simp [fill_len]), List.drop_eq_nil_of_le (by simp), List.append_nil]
    refine G.exit ?_
    refine G.then_e ?_
    refine G.then_e ?_
    refine G.blk_e ?_
    refine G.then_n ?_
    refine G.seq ?_
    refine G.region ?_
    refine G.q (Quiet.move rfl) rfl ?_
    refine G.q (Quiet.bytesPt (cs := fill n) rfl Try.underlying31 Try.underlying5 Try.underlying9 (by (repeat (first | exact Pick.here | apply Pick.there))) (by rw [List.drop_zero]; exact List.take_of_length_le (by simp [fill_len])) (by simp [fill_len]) (by decide)) rfl ?_
    refine G.q (Quiet.assign rfl) rfl ?_
    refine G.nil ?_
    refine G.then_n ?_
    refine G.ret ?_
    exact G.done (l := [.tmp 2]) rfl rfl ⟨rfl, rfl⟩ (by (repeat (first | exact Picks.nil | (apply Picks.cons; (repeat (first | exact Pick.here | apply Pick.there)))))) (by (repeat (first | exact Suff.here | apply Suff.there)))

set_option maxRecDepth 100000 in
theorem awake3_spec : Fn Try.prog 47 #[] [] fun v L => v = .bool true ∧ L = [] := by
  refine Fn.intro (vs := []) Try.func47 rfl rfl ?_
  intro F W
  refine G.seq ?_
  refine G.region ?_
  refine G.q (Quiet.assign rfl) rfl ?_
  refine G.nil ?_
  refine G.then_n ?_
  refine G.seq ?_
  refine G.region ?_
  refine G.op (OpSpec.call Try.func15 rfl rfl (vs := [_]) rfl (new_spec _)) (by (repeat (first | exact Picks.nil | (apply Picks.cons; (repeat (first | exact Pick.here | apply Pick.there)))))) rfl ?nx2
  rintro v L' (⟨h, -, -⟩ | ⟨-, d, rfl, rfl⟩); · omega
  refine G.q (Quiet.move rfl) rfl ?_
  refine G.q (Quiet.extract rfl rfl) rfl ?_
  refine G.q (Quiet.extract rfl rfl) rfl ?_
  refine G.q (Quiet.assign rfl) rfl ?_
  refine G.q (Quiet.assign rfl) rfl ?_
  refine G.nil ?_
  refine G.then_n ?_
  refine G.seq ?_
  refine G.seq ?_
  refine G.region ?_
  refine G.q (Quiet.move rfl) rfl ?_
  refine G.q (Quiet.ptreq rfl rfl Try.underlying24) rfl ?_
  refine G.q (Quiet.move rfl) rfl ?_
  refine G.grun (t := 20) rfl rfl rfl ?_
  refine G.q (Quiet.move rfl) rfl ?_
  refine G.grun (t := 20) rfl rfl rfl ?_
  refine G.q (Quiet.int rfl rfl rfl) rfl ?_
  refine G.q (Quiet.pickF rfl rfl) rfl ?_
  refine G.nil ?_
  refine G.then_n ?_
  refine G.condF rfl ?_
  refine G.skip ?_
  refine G.then_n ?_
  refine G.seq ?_
  refine G.region ?_
  refine G.op (OpSpec.call Try.func49 rfl rfl (vs := [_]) rfl (filled_spec _)) (by (repeat (first | exact Picks.nil | (apply Picks.cons; (repeat (first | exact Pick.here | apply Pick.there)))))) rfl ?nx8
  rintro v L' ⟨rfl, rfl⟩
  refine G.q (Quiet.assign rfl) rfl ?_
  refine G.nil ?_
  refine G.then_n ?_
  refine G.seq ?_
  refine G.region ?_
  refine G.op (OpSpec.call Try.func49 rfl rfl (vs := [_]) rfl (filled_spec _)) (by (repeat (first | exact Picks.nil | (apply Picks.cons; (repeat (first | exact Pick.here | apply Pick.there)))))) rfl ?nx10
  rintro v L' ⟨rfl, rfl⟩
  refine G.q (Quiet.assign rfl) rfl ?_
  refine G.nil ?_
  refine G.then_n ?_
  refine G.seq ?_
  refine G.region ?_
  refine G.q (Quiet.move rfl) rfl ?_
  refine G.q (Quiet.move rfl) rfl ?_
  refine G.op (OpSpec.call Try.func17 rfl rfl (vs := [_, _, _]) rfl (write_spec _ (Dk.new 16) _ _ (by decide))) (by (repeat (first | exact Picks.nil | (apply Picks.cons; (repeat (first | exact Pick.here | apply Pick.there)))))) rfl ?nx12
  rintro v L' ⟨rfl, rfl⟩; rw [aw_1 (fill_len _)]
  refine G.q (Quiet.assign rfl) rfl ?_
  refine G.nil ?_
  refine G.then_n ?_
  refine G.seq ?_
  refine G.region ?_
  refine G.q (Quiet.move rfl) rfl ?_
  refine G.op (OpSpec.call Try.func50 rfl rfl (vs := [_]) rfl (sync_spec _ (aw1 (fill 5)) (by decide))) (by (repeat (first | exact Picks.nil | (apply Picks.cons; (repeat (first | exact Pick.here | apply Pick.there)))))) rfl ?nx14
  rintro v L' ⟨rfl, rfl⟩; rw [aw_2]
  refine G.q (Quiet.assign rfl) rfl ?_
  refine G.nil ?_
  refine G.then_n ?_
  refine G.seq ?_
  refine G.region ?_
  refine G.q (Quiet.move rfl) rfl ?_
  refine G.q (Quiet.move rfl) rfl ?_
  refine G.op (OpSpec.call Try.func17 rfl rfl (vs := [_, _, _]) rfl (write_spec _ (aw2 (fill 5)) _ _ (by decide))) (by (repeat (first | exact Picks.nil | (apply Picks.cons; (repeat (first | exact Pick.here | apply Pick.there)))))) rfl ?nx16
  rintro v L' ⟨rfl, rfl⟩; rw [aw_3 (fill_len _)]
  refine G.q (Quiet.assign rfl) rfl ?_
  refine G.nil ?_
  refine G.then_n ?_
  refine G.seq ?_
  refine G.region ?_
  refine G.q (Quiet.move rfl) rfl ?_
  refine G.q (Quiet.move rfl) rfl ?_
  refine G.op (OpSpec.call Try.func17 rfl rfl (vs := [_, _, _]) rfl (write_spec _ (aw3 (fill 5) (fill 11)) _ _ (by decide))) (by (repeat (first | exact Picks.nil | (apply Picks.cons; (repeat (first | exact Pick.here | apply Pick.there)))))) rfl ?nx18
  rintro v L' ⟨rfl, rfl⟩; rw [aw_4 (fill_len _)]
  refine G.q (Quiet.assign rfl) rfl ?_
  refine G.nil ?_
  refine G.then_n ?_
  refine G.seq ?_
  refine G.region ?_
  refine G.q (Quiet.move rfl) rfl ?_
  refine G.op (OpSpec.buildSlice1 (vs := [_, _]) el_40 ze_3 rfl rfl rfl rfl rfl (by decide)) (by (repeat (first | exact Picks.nil | (apply Picks.cons; (repeat (first | exact Pick.here | apply Pick.there)))))) rfl ?nx20
  rintro v L' ⟨b10_1, rfl, rfl⟩
  refine G.op (OpSpec.call Try.func53 rfl rfl (vs := [_, _]) rfl (crash_spec d _ _ [1, 14] _ ?hr22 (by decide))) (by (repeat (first | exact Picks.nil | (apply Picks.cons; (repeat (first | exact Pick.here | apply Pick.there)))))) rfl ?nx23
  case hr22 => exact fun h hp => aw_pt hp
  rintro v L' ⟨rfl, rfl⟩; rw [aw_c]
  refine G.nil ?_
  refine G.then_n ?_
  refine G.seq ?_
  refine G.region ?_
  refine G.q (Quiet.move rfl) rfl ?_
  refine G.op (OpSpec.call Try.func55 rfl rfl (vs := [_, _]) rfl (read_spec _ _ _)) (by (repeat (first | exact Picks.nil | (apply Picks.cons; (repeat (first | exact Pick.here | apply Pick.there)))))) rfl ?nx25
  rintro v L' ⟨rfl, rfl⟩; rw [aw_5]
  refine G.q (Quiet.move rfl) rfl ?_
  refine G.q (Quiet.extract rfl rfl) rfl ?_
  refine G.q (Quiet.extract rfl rfl) rfl ?_
  refine G.q (Quiet.assign rfl) rfl ?_
  refine G.q (Quiet.assign rfl) rfl ?_
  refine G.nil ?_
  refine G.then_n ?_
  refine G.seq ?_
  refine G.region ?_
  refine G.q (Quiet.move rfl) rfl ?_
  refine G.op (OpSpec.call Try.func55 rfl rfl (vs := [_, _]) rfl (read_spec _ _ _)) (by (repeat (first | exact Picks.nil | (apply Picks.cons; (repeat (first | exact Pick.here | apply Pick.there)))))) rfl ?nx29
  rintro v L' ⟨rfl, rfl⟩; rw [aw_6]
  refine G.q (Quiet.move rfl) rfl ?_
  refine G.q (Quiet.extract rfl rfl) rfl ?_
  refine G.q (Quiet.extract rfl rfl) rfl ?_
  refine G.q (Quiet.assign rfl) rfl ?_
  refine G.q (Quiet.assign rfl) rfl ?_
  refine G.nil ?_
  refine G.then_n ?_
  refine G.seq ?_
  refine G.region ?_
  refine G.q (Quiet.move rfl) rfl ?_
  refine G.q (Quiet.int rfl rfl rfl) rfl ?_
  refine G.q (Quiet.move rfl) rfl ?_
  refine G.grun (t := 52) rfl rfl rfl ?_
  refine G.q (Quiet.move rfl) rfl ?_
  refine G.grun (t := 52) rfl rfl rfl ?_
  refine G.q (Quiet.int rfl rfl rfl) rfl ?_
  refine G.q (Quiet.pickT rfl rfl) rfl ?_
  refine G.q (Quiet.move rfl) rfl ?_
  refine G.grun (t := 56) rfl rfl rfl ?_
  refine G.q (Quiet.move rfl) rfl ?_
  refine G.grun (t := 56) rfl rfl rfl ?_
  refine G.q (Quiet.int rfl rfl rfl) rfl ?_
  refine G.q (Quiet.pickT rfl rfl) rfl ?_
  refine G.q (Quiet.move rfl) rfl ?_
  refine G.grun (t := 60) rfl rfl rfl ?_
  refine G.q (Quiet.move rfl) rfl ?_
  refine G.grun (t := 60) rfl rfl rfl ?_
  refine G.q (Quiet.int rfl rfl rfl) rfl ?_
  refine G.q (Quiet.pickT rfl rfl) rfl ?_
  refine G.q (Quiet.move rfl) rfl ?_
  refine G.grun (t := 64) rfl rfl rfl ?_
  refine G.q (Quiet.move rfl) rfl ?_
  refine G.grun (t := 64) rfl rfl rfl ?_
  refine G.q (Quiet.int rfl rfl rfl) rfl ?_
  refine G.q (Quiet.pickT rfl rfl) rfl ?_
  refine G.q (Quiet.move rfl) rfl ?_
  refine G.grun (t := 68) rfl rfl rfl ?_
  refine G.q (Quiet.move rfl) rfl ?_
  refine G.grun (t := 68) rfl rfl rfl ?_
  refine G.q (Quiet.int rfl rfl rfl) rfl ?_
  refine G.q (Quiet.pickT rfl rfl) rfl ?_
  refine G.q (Quiet.assign rfl) rfl ?_
  refine G.nil ?_
  refine G.then_n ?_
  refine G.seq ?_
  refine G.draw [17] [[0, 1, 2, 3, 4, 5, 6, 7, 8, 9, 10, 11, 12, 13, 14, 15, 16, 17, 18, 19], [20]] mixed (by kernel_rfl) ?_
  refine Phases.go [] (by (repeat (first | exact Picks.nil | (apply Picks.cons; (repeat (first | exact Pick.here | apply Pick.there)))))) ?_
  refine D.qw [1, 2, 3, 4, 5, 6, 7, 8, 9, 10, 11, 12, 13, 14, 15, 16, 17, 18, 19] rfl (by kernel_rfl) (Quiet.move rfl) ?_
  refine D.qw [2, 3, 4, 5, 6, 7, 8, 9, 10, 11, 12, 13, 14, 15, 16, 17, 18, 19] rfl (by kernel_rfl) (Quiet.move rfl) ?_
  refine D.gqw [8, 9, 10, 11, 12, 13, 14, 15, 16, 17, 18, 19] (t := 73) rfl rfl rfl (by kernel_rfl) (Quiet.move rfl) ?_
  refine D.gqw [4, 7, 8, 9, 10, 11, 12, 13, 14, 15, 16, 17, 18, 19] (t := 73) rfl rfl rfl (by kernel_rfl) (Quiet.move rfl) ?_
  refine D.gqw [7, 8, 9, 10, 11, 12, 13, 14, 15, 16, 17, 18, 19] (t := 73) rfl rfl rfl (by kernel_rfl) (Quiet.strTo rfl rfl Try.underlying9 (by simp [fill_len])) ?_
  refine D.gqw [6, 7, 8, 9, 10, 11, 12, 13, 14, 15, 16, 17, 18, 19] (t := 73) rfl rfl rfl (by kernel_rfl) (Quiet.move rfl) ?_
  refine D.gqw [7, 8, 9, 10, 11, 12, 13, 14, 15, 16, 17, 18, 19] (t := 73) rfl rfl rfl (by kernel_rfl) (Quiet.strFrom rfl rfl Try.underlying9 (by simp [fill_len])) ?_
  refine D.gqw [8, 9, 10, 11, 12, 13, 14, 15, 16, 17, 18, 19] (t := 73) rfl rfl rfl (by kernel_rfl) (Quiet.concat rfl rfl (by simp [fill_len])) ?_
  refine D.gqw [9, 10, 11, 12, 13, 14, 15, 16, 17, 18, 19] (t := 73) rfl rfl rfl (by kernel_rfl) (Quiet.streqT (a := (fill 11).take 4 ++ (fill 5).drop 4) rfl rfl rfl) ?_
  refine D.qw [10, 11, 12, 13, 14, 15, 16, 17, 18, 19] rfl (by kernel_rfl) (Quiet.pickT rfl rfl) ?_
  refine D.qw [11, 12, 13, 14, 15, 16, 17, 18, 19] rfl (by kernel_rfl) (Quiet.move rfl) ?_
  refine D.gqw [13, 14, 15, 16, 17, 18, 19] (t := 82) rfl rfl rfl (by kernel_rfl) (Quiet.move rfl) ?_
  refine D.gqw [13, 14, 15, 16, 17, 18, 19] (t := 82) rfl rfl rfl (by kernel_rfl) (Quiet.move rfl) ?_
  refine D.gqw [14, 15, 16, 17, 18, 19] (t := 82) rfl rfl rfl (by kernel_rfl) (Quiet.streqT (a := fill 11) rfl rfl rfl) ?_
  refine D.qw [15, 16, 17, 18, 19] rfl (by kernel_rfl) (Quiet.pickT rfl rfl) ?_
  refine D.qw [16, 17, 18, 19] rfl (by kernel_rfl) (Quiet.move rfl) ?_
  refine D.gqw [17, 18, 19] (t := 87) rfl rfl rfl (by kernel_rfl) (Quiet.move rfl) ?_
  refine D.gh (t := 87) rfl rfl rfl (by kernel_rfl) (OpSpec.call Try.func21 rfl rfl (vs := [_]) rfl (acts_spec _ _)) (by (repeat (first | exact Picks.nil | (apply Picks.cons; (repeat (first | exact Pick.here | apply Pick.there)))))) ?nx44
  rintro v L' ⟨rfl, rfl⟩
  refine D.gqw [19] (t := 87) rfl rfl rfl (by kernel_rfl) (Quiet.int rfl rfl rfl) ?_
  refine D.qw [] rfl (by kernel_rfl) (Quiet.pickT rfl rfl) ?_
  refine D.ph ?_
  refine Phases.go [] (by (repeat (first | exact Picks.nil | (apply Picks.cons; (repeat (first | exact Pick.here | apply Pick.there)))))) ?_
  refine D.qw [] rfl (by kernel_rfl) (Quiet.assign rfl) ?_
  refine D.ph ?_
  refine Phases.fin ?_
  refine G.then_n ?_
  refine G.ret ?_
  exact G.done (l := [.tmp 0]) rfl rfl ⟨rfl, rfl⟩ (by (repeat (first | exact Picks.nil | (apply Picks.cons; (repeat (first | exact Pick.here | apply Pick.there)))))) (by (repeat (first | exact Suff.here | apply Suff.there)))

end Go.Proofs.Ytepncdidkjjllaa
