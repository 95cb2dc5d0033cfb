/- Own work, by program: the first example of law 04: walked. -/
import Derived.Test.YtepncdidkjjllaaL4C
import Derived.Test.YtepncdidkjjllaaDisk2
namespace Go.Proofs.Ytepncdidkjjllaa
open Go
set_option maxRecDepth 100000 in
theorem awake4_spec : Fn Try.prog 14 #[] [] fun v L => v = .bool true ∧ L = [] := by
  refine Fn.intro (vs := []) Try.func14 rfl rfl ?_
  intro F W
  refine G.seq ?_
  refine G.region ?_
  refine G.q (Quiet.assign rfl) rfl ?_
  refine G.nil ?_
  refine G.then_n ?_
  refine G.seq ?_
  refine G.region ?_
  refine G.op (OpSpec.call Try.func15 rfl rfl (vs := [_]) rfl (new_spec 18)) (by (repeat (first | exact Picks.nil | (apply Picks.cons; (repeat (first | exact Pick.here | apply Pick.there)))))) rfl ?nx2
  rintro v L' (⟨h, -, -⟩ | ⟨-, d, rfl, rfl⟩); · omega
  refine G.q (Quiet.move rfl) rfl ?_
  refine G.q (Quiet.extract rfl rfl) rfl ?_
  refine G.q (Quiet.extract rfl rfl) rfl ?_
  refine G.q (Quiet.assign rfl) rfl ?_
  refine G.q (Quiet.assign rfl) rfl ?_
  refine G.nil ?_
  refine G.then_n ?_
  refine G.seq ?_
  refine G.seq ?_
  refine G.region ?_
  refine G.q (Quiet.move rfl) rfl ?_
  refine G.q (Quiet.ptreq rfl rfl Try.underlying24) rfl ?_
  refine G.q (Quiet.move rfl) rfl ?_
  refine G.grun (t := 21) rfl rfl rfl ?_
  refine G.q (Quiet.move rfl) rfl ?_
  refine G.grun (t := 21) rfl rfl rfl ?_
  refine G.q (Quiet.as (v' := .bool false) (by rfl) (Quiet.int rfl rfl rfl)) rfl ?_
  refine G.q (Quiet.pickF rfl rfl) rfl ?_
  refine G.nil ?_
  refine G.then_n ?_
  refine G.condF rfl ?_
  refine G.skip ?_
  refine G.then_n ?_
  refine G.seq ?_
  refine G.region ?_
  refine G.q (Quiet.move rfl) rfl ?_
  refine G.op (OpSpec.call Try.func23 rfl rfl (vs := [_]) rfl (format_spec d (Dk.new 18) (by decide))) (by (repeat (first | exact Picks.nil | (apply Picks.cons; (repeat (first | exact Pick.here | apply Pick.there)))))) rfl ?nx8
  rintro v L' (⟨h, -, -⟩ | ⟨-, x, rfl, rfl⟩); · have := aw_f; rw [h] at this; cases this
  refine G.q (Quiet.move rfl) rfl ?_
  refine G.q (Quiet.extract rfl rfl) rfl ?_
  refine G.q (Quiet.extract rfl rfl) rfl ?_
  refine G.q (Quiet.assign rfl) rfl ?_
  refine G.q (Quiet.assign rfl) rfl ?_
  refine G.nil ?_
  refine G.then_n ?_
  refine G.seq ?_
  refine G.seq ?_
  refine G.region ?_
  refine G.q (Quiet.move rfl) rfl ?_
  refine G.q (Quiet.ptreq rfl rfl Try.underlying34) rfl ?_
  refine G.q (Quiet.move rfl) rfl ?_
  refine G.grun (t := 32) rfl rfl rfl ?_
  refine G.q (Quiet.move rfl) rfl ?_
  refine G.grun (t := 32) rfl rfl rfl ?_
  refine G.q (Quiet.as (v' := .bool false) (by rfl) (Quiet.int rfl rfl rfl)) rfl ?_
  refine G.q (Quiet.pickF rfl rfl) rfl ?_
  refine G.nil ?_
  refine G.then_n ?_
  refine G.condF rfl ?_
  refine G.skip ?_
  refine G.then_n ?_
  refine G.seq ?_
  refine G.region ?_
  refine G.q (Quiet.move rfl) rfl ?_
  refine G.op (OpSpec.call Try.func27 rfl rfl (vs := [_, _]) rfl (wappend_spec x d newW aw1 ab aw1_I (by decide))) (by (repeat (first | exact Picks.nil | (apply Picks.cons; (repeat (first | exact Pick.here | apply Pick.there)))))) rfl ?nx14
  rintro v L' ⟨rfl, rfl⟩; rw [show appendZ aw1 newW ab = aw2 from rfl, aw_a]
  refine G.q (Quiet.assign rfl) rfl ?_
  refine G.nil ?_
  refine G.then_n ?_
  refine G.seq ?_
  refine G.region ?_
  refine G.q (Quiet.move rfl) rfl ?_
  refine G.op (OpSpec.call Try.func25 rfl rfl (vs := [_]) rfl (wroom_spec x d aw2.2.1 aw2.1 aw2_I.size (by have e8 : (laidZ aw2.2.1.recs).length = 8 := (by kernel_rfl); omega))) (by (repeat (first | exact Picks.nil | (apply Picks.cons; (repeat (first | exact Pick.here | apply Pick.there)))))) rfl ?nx16
  rintro v L' ⟨rfl, rfl⟩; rw [aw_room]
  refine G.q (Quiet.assign rfl) rfl ?_
  refine G.nil ?_
  refine G.then_n ?_
  refine G.seq ?_
  refine G.region ?_
  refine G.q (Quiet.move rfl) rfl ?_
  refine G.op (OpSpec.call Try.func28 rfl rfl (vs := [_]) rfl (wsync_spec x d aw2.2.1 aw2.1 aw2_I)) (by (repeat (first | exact Picks.nil | (apply Picks.cons; (repeat (first | exact Pick.here | apply Pick.there)))))) rfl ?nx18
  rintro v L' ⟨rfl, rfl⟩; rw [show syncZ aw2.1 aw2.2.1 = aw3 from rfl, aw_s]
  refine G.q (Quiet.assign rfl) rfl ?_
  refine G.nil ?_
  refine G.then_n ?_
  refine G.seq ?_
  refine G.region ?_
  refine G.q (Quiet.move rfl) rfl ?_
  refine G.op (OpSpec.call Try.func55 rfl rfl (vs := [_, _]) rfl (read_spec d aw3.1 0)) (by (repeat (first | exact Picks.nil | (apply Picks.cons; (repeat (first | exact Pick.here | apply Pick.there)))))) rfl ?nx20
  rintro v L' ⟨rfl, rfl⟩; obtain ⟨hre, hrl, hrt⟩ := aw_read; rw [hre]; generalize (aw3.1.read 0).1 = s0 at *
  refine G.q (Quiet.move rfl) rfl ?_
  refine G.q (Quiet.extract rfl rfl) rfl ?_
  refine G.q (Quiet.extract rfl rfl) rfl ?_
  refine G.q (Quiet.assign rfl) rfl ?_
  refine G.q (Quiet.assign rfl) rfl ?_
  refine G.nil ?_
  refine G.then_n ?_
  refine G.seq ?_
  refine G.dkOk (by (repeat (first | exact Pick.here | apply Pick.there))) fun hok => ?_
  refine G.region ?_
  refine G.q (Quiet.move rfl) rfl ?_
  refine G.op (OpSpec.call Try.func30 rfl rfl (vs := [_]) rfl (open_spec d aw3.1 (by rw [aw3_len]; decide) hok)) (by (repeat (first | exact Picks.nil | (apply Picks.cons; (repeat (first | exact Pick.here | apply Pick.there)))))) rfl ?nx24
  rintro v L' (⟨h, -, -⟩ | ⟨-, h, -, -⟩ | ⟨-, ω, hop, y, rfl, rfl⟩); · rw [aw_dead] at h; cases h
  · have := aw_open; rw [h] at this; cases this
  refine G.q (Quiet.move rfl) rfl ?_
  refine G.q (Quiet.extract rfl rfl) rfl ?_
  refine G.q (Quiet.extract rfl rfl) rfl ?_
  refine G.q (Quiet.assign rfl) rfl ?_
  refine G.q (Quiet.assign rfl) rfl ?_
  refine G.nil ?_
  refine G.then_n ?_
  refine G.seq ?_
  refine G.seq ?_
  refine G.region ?_
  refine G.q (Quiet.move rfl) rfl ?_
  refine G.q (Quiet.ptreq rfl rfl Try.underlying34) rfl ?_
  refine G.q (Quiet.move rfl) rfl ?_
  refine G.grun (t := 54) rfl rfl rfl ?_
  refine G.q (Quiet.move rfl) rfl ?_
  refine G.grun (t := 54) rfl rfl rfl ?_
  refine G.q (Quiet.as (v' := .bool false) (by rfl) (Quiet.int rfl rfl rfl)) rfl ?_
  refine G.q (Quiet.pickF rfl rfl) rfl ?_
  refine G.q (Quiet.move rfl) rfl ?_
  refine G.grun (t := 58) rfl rfl rfl ?_
  refine G.q (Quiet.move rfl) rfl ?_
  refine G.grun (t := 58) rfl rfl rfl ?_
  refine G.q (Quiet.as (v' := .bool false) (by rfl) (Quiet.int rfl rfl rfl)) rfl ?_
  refine G.q (Quiet.pickF rfl rfl) rfl ?_
  refine G.q (Quiet.move rfl) rfl ?_
  refine G.grun (t := 62) rfl rfl rfl ?_
  refine G.q (Quiet.move rfl) rfl ?_
  refine G.grun (t := 62) rfl rfl rfl ?_
  refine G.q (Quiet.strlen rfl Try.underlying9 rfl) rfl ?_
  refine G.grun (t := 62) rfl rfl rfl ?_
  refine G.q (Quiet.as (v' := .bool false) (by simp [bs_size, hrl]) (Quiet.int rfl rfl rfl)) rfl ?_
  refine G.q (Quiet.pickF rfl rfl) rfl ?_
  refine G.nil ?_
  refine G.then_n ?_
  refine G.condF rfl ?_
  refine G.skip ?_
  refine G.then_n ?_
  refine G.seq ?_
  have hor : ω.recs = [ab] ∧ ω.doubt = false := by have := aw_open; rw [hop] at this; simpa using this
  refine G.region ?_
  refine G.q (Quiet.move rfl) rfl ?_
  refine G.op (OpSpec.call Try.func60 rfl rfl (vs := [_]) rfl (wrecords_spec y d ω (by rw [hor.1]; decide))) (by (repeat (first | exact Picks.nil | (apply Picks.cons; (repeat (first | exact Pick.here | apply Pick.there)))))) rfl ?nx33
  rintro v L' (⟨h, -, -⟩ | ⟨-, a4, c4, rfl, rfl⟩); · rw [hor.2] at h; cases h
  refine G.q (Quiet.move rfl) rfl ?_
  refine G.q (Quiet.extract rfl rfl) rfl ?_
  refine G.q (Quiet.extract rfl rfl) rfl ?_
  refine G.q (Quiet.assign rfl) rfl ?_
  refine G.q (Quiet.assign rfl) rfl ?_
  refine G.nil ?_
  refine G.then_n ?_
  refine G.seq ?_
  refine G.region ?_
  refine G.q (Quiet.move rfl) rfl ?_
  refine G.op (OpSpec.buildSlice1 (vs := [_]) el_22 ze_9 rfl rfl rfl rfl rfl (by decide)) (by (repeat (first | exact Picks.nil | (apply Picks.cons; (repeat (first | exact Pick.here | apply Pick.there)))))) rfl ?nx37
  rintro v L' ⟨b15, rfl, rfl⟩
  refine G.op (OpSpec.call Try.func61 rfl rfl (vs := [_, _]) rfl (texts_spec _ _ ω.recs [ab] (strR (.slice a4 ω.recs.length c4) ω.recs) (ptc b15 (strs [ab]) 9) (fun h hp => slR_rd hp) (fun h hp => slR_rd (slR_pt hp rfl)) (by rw [hor.1]; decide))) (by (repeat (first | exact Picks.nil | (apply Picks.cons; (repeat (first | exact Pick.here | apply Pick.there)))))) rfl ?nx39
  rintro v L' ⟨rfl, rfl⟩; rw [decide_eq_true hor.1]
  refine G.q (Quiet.assign rfl) rfl ?_
  refine G.nil ?_
  refine G.then_n ?_
  refine G.seq ?_
  refine G.region ?_
  refine G.q (Quiet.move rfl) rfl ?_
  refine G.q (Quiet.as (v' := .bool true) (by rfl) (Quiet.int rfl rfl rfl)) rfl ?_
  refine G.q (Quiet.move rfl) rfl ?_
  refine G.grun (t := 77) rfl rfl rfl ?_
  refine G.q (Quiet.move rfl) rfl ?_
  refine G.grun (t := 77) rfl rfl rfl ?_
  refine G.q (Quiet.as (v' := .bool true) (by rfl) (Quiet.int rfl rfl rfl)) rfl ?_
  refine G.q (Quiet.pickT rfl rfl) rfl ?_
  refine G.q (Quiet.move rfl) rfl ?_
  refine G.grun (t := 81) rfl rfl rfl ?_
  refine G.q (Quiet.move rfl) rfl ?_
  refine G.grun (t := 81) rfl rfl rfl ?_
  refine G.q (Quiet.as (v' := .bool true) (by rfl) (Quiet.int rfl rfl rfl)) rfl ?_
  refine G.q (Quiet.pickT rfl rfl) rfl ?_
  refine G.q (Quiet.move rfl) rfl ?_
  refine G.grun (t := 85) rfl rfl rfl ?_
  refine G.q (Quiet.move rfl) rfl ?_
  refine G.q (Quiet.pickT rfl rfl) rfl ?_
  refine G.q (Quiet.move rfl) rfl ?_
  refine G.grun (t := 88) rfl rfl rfl ?_
  refine G.q (Quiet.move rfl) rfl ?_
  refine G.grun (t := 88) rfl rfl rfl ?_
  refine G.q (Quiet.as (v' := .bool true) (by rfl) (Quiet.int rfl rfl rfl)) rfl ?_
  refine G.q (Quiet.pickT rfl rfl) rfl ?_
  refine G.q (Quiet.move rfl) rfl ?_
  refine G.grun (t := 92) rfl rfl rfl ?_
  refine G.q (Quiet.move rfl) rfl ?_
  refine G.grun (t := 92) rfl rfl rfl ?_
  refine G.op (OpSpec.call Try.func21 rfl rfl (vs := [_]) rfl (acts_spec _ _)) (by (repeat (first | exact Picks.nil | (apply Picks.cons; (repeat (first | exact Pick.here | apply Pick.there)))))) rfl ?nx45
  rintro v L' ⟨rfl, rfl⟩
  refine G.grun (t := 92) rfl rfl rfl ?_
  refine G.q (Quiet.as (v' := .bool true) (by rw [aw_acts]; rfl) (Quiet.int rfl rfl rfl)) rfl ?_
  refine G.q (Quiet.pickT rfl rfl) rfl ?_
  refine G.q (Quiet.move rfl) rfl ?_
  refine G.grun (t := 97) rfl rfl rfl ?_
  refine G.q (Quiet.move rfl) rfl ?_
  refine G.grun (t := 97) rfl rfl rfl ?_
  refine G.q (Quiet.strTo rfl rfl Try.underlying9 (by omega)) rfl ?_
  refine G.grun (t := 97) rfl rfl rfl ?_
  refine G.q (Quiet.as (v' := .bool true) (by simpa using hrt) (Quiet.streq rfl rfl)) rfl ?_
  refine G.q (Quiet.pickT rfl rfl) rfl ?_
  refine G.q (Quiet.assign rfl) rfl ?_
  refine G.nil ?_
  refine G.then_n ?_
  refine G.ret ?_
  exact G.done (l := [.tmp 0]) rfl rfl ⟨rfl, rfl⟩ (by (repeat (first | exact Picks.nil | (apply Picks.cons; (repeat (first | exact Pick.here | apply Pick.there)))))) (by (repeat (first | exact Suff.here | apply Suff.there)))

end Go.Proofs.Ytepncdidkjjllaa
