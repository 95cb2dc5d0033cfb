/- Own work, by program: package disk, function by function. -/
import Derived.Test.YtepncdidkjjllaaDk
namespace Go.Proofs.Ytepncdidkjjllaa
open Go
set_option maxRecDepth 100000 in
theorem act_spec (d : Nat) (now old : Value) (acts left : Int) (dead : Bool) (hA : 0 ≤ acts ∧ acts < 4611686018427387904) (hl : 0 ≤ left ∧ left ≤ 9223372036854775807) : Fn Try.prog 64 #[vptr d] [ptc d [now, old, vint acts, vint left, .bool dead] 100] fun v L => v = vint (actE left) ∧ L = [ptc d [now, old, vint (acts + 1), vint (actL left), .bool (actD left dead)] 100] := by
  refine Fn.intro (vs := [vptr d]) Try.func64 rfl rfl ?_
  intro F W
  refine G.seq ?_
  refine G.region ?_
  refine G.q (Quiet.assign rfl) rfl ?_
  refine G.nil ?_
  refine G.then_n ?_
  refine G.seq ?_
  refine G.region ?_
  refine G.q (Quiet.move rfl) rfl ?_
  refine G.q (Quiet.nilp rfl) rfl ?_
  refine G.q (Quiet.fieldAddr rfl fo_100_2) rfl ?_
  refine G.q (Quiet.load rfl ag_3 (by (repeat (first | exact Pick.here | apply Pick.there))) (rfl)) rfl ?_
  refine G.q (Quiet.add rfl rfl (by omega)) rfl ?_
  refine G.q (Quiet.nilp rfl) rfl ?_
  refine G.q (Quiet.fieldAddr rfl fo_100_2) rfl ?_
  refine G.op (OpSpec.store rfl rfl rfl sz_3 ?c9 ?c10) (by (repeat (first | exact Picks.nil | (apply Picks.cons; (repeat (first | exact Pick.here | apply Pick.there)))))) rfl ?nx11
  case c9 => first | decide | (simp; omega) | simp
  case c10 => exact nfz0 _ _
  rintro v L' rfl
  refine G.nil ?_
  refine G.then_n ?_
  refine G.seq ?_
  refine G.seq ?_
  refine G.region ?_
  refine G.q (Quiet.move rfl) rfl ?_
  refine G.q (Quiet.nilp rfl) rfl ?_
  refine G.q (Quiet.fieldAddr rfl fo_100_3) rfl ?_
  refine G.q (Quiet.load rfl ag_3 (by (repeat (first | exact Pick.here | apply Pick.there))) (rfl)) rfl ?_
  refine G.q (Quiet.int rfl rfl rfl) rfl ?_
  refine G.nil ?_
  refine G.then_n ?_
  refine G.condD rfl (fun h14 => ?_) (fun h14 => ?_)
  · refine G.seq ?_
    refine G.region ?_
    refine G.q (Quiet.assign rfl) rfl ?_
    refine G.nil ?_
    refine G.then_n ?_
    refine G.ret ?_
    refine G.then_r ?_
    have e1 : actE left = 0 := by unfold actE; rw [if_pos h14]
    have e2 : actL left = left := by unfold actL; rw [if_pos h14, h14]
    have e3 : actD left dead = dead := by unfold actD; rw [if_pos h14]
    rw [e1, e2, e3]
    exact G.done (l := [.tmp 2]) rfl rfl ⟨rfl, rfl⟩ (by (repeat (first | exact Picks.nil | (apply Picks.cons; (repeat (first | exact Pick.here | apply Pick.there)))))) (by (repeat (first | exact Suff.here | apply Suff.there)))
  · refine G.skip ?_
    refine G.then_n ?_
    refine G.seq ?_
    refine G.region ?_
    refine G.q (Quiet.move rfl) rfl ?_
    refine G.q (Quiet.nilp rfl) rfl ?_
    refine G.q (Quiet.fieldAddr rfl fo_100_3) rfl ?_
    refine G.q (Quiet.load rfl ag_3 (by (repeat (first | exact Pick.here | apply Pick.there))) (rfl)) rfl ?_
    refine G.q (Quiet.sub rfl rfl (by omega)) rfl ?_
    refine G.q (Quiet.nilp rfl) rfl ?_
    refine G.q (Quiet.fieldAddr rfl fo_100_3) rfl ?_
    refine G.op (OpSpec.store rfl rfl rfl sz_3 ?c25 ?c26) (by (repeat (first | exact Picks.nil | (apply Picks.cons; (repeat (first | exact Pick.here | apply Pick.there)))))) rfl ?nx27
    case c25 => first | decide | (simp; omega) | simp
    case c26 => exact nfz0 _ _
    rintro v L' rfl
    refine G.nil ?_
    refine G.then_n ?_
    refine G.seq ?_
    refine G.seq ?_
    refine G.region ?_
    refine G.q (Quiet.move rfl) rfl ?_
    refine G.q (Quiet.nilp rfl) rfl ?_
    refine G.q (Quiet.fieldAddr rfl fo_100_3) rfl ?_
    refine G.q (Quiet.load rfl ag_3 (by (repeat (first | exact Pick.here | apply Pick.there))) (rfl)) rfl ?_
    refine G.q (Quiet.int rfl rfl rfl) rfl ?_
    refine G.nil ?_
    refine G.then_n ?_
    refine G.condD rfl (fun h26 => ?_) (fun h26 => ?_)
    · refine G.seq ?_
      refine G.region ?_
      refine G.q (Quiet.assign rfl) rfl ?_
      refine G.nil ?_
      refine G.then_n ?_
      refine G.ret ?_
      refine G.then_r ?_
      have e1 : actE left = 0 := by unfold actE; rw [if_neg h14, if_pos h26]
      have e2 : actL left = left - 1 := by unfold actL; rw [if_neg h14]
      have e3 : actD left dead = dead := by unfold actD; rw [if_neg h14, if_pos h26]
      rw [e1, e2, e3]
      exact G.done (l := [.tmp 2]) rfl rfl ⟨rfl, rfl⟩ (by (repeat (first | exact Picks.nil | (apply Picks.cons; (repeat (first | exact Pick.here | apply Pick.there)))))) (by (repeat (first | exact Suff.here | apply Suff.there)))
    · refine G.skip ?_
      refine G.then_n ?_
      refine G.seq ?_
      refine G.region ?_
      refine G.q (Quiet.move rfl) rfl ?_
      refine G.q (Quiet.nilp rfl) rfl ?_
      refine G.q (Quiet.fieldAddr rfl fo_100_4) rfl ?_
      refine G.op (OpSpec.store rfl rfl rfl sz_4 ?c37 ?c38) (by (repeat (first | exact Picks.nil | (apply Picks.cons; (repeat (first | exact Pick.here | apply Pick.there)))))) rfl ?nx39
      case c37 => first | decide | (simp; omega) | simp
      case c38 => exact nfz0 _ _
      rintro v L' rfl
      refine G.nil ?_
      refine G.then_n ?_
      refine G.seq ?_
      refine G.region ?_
      refine G.q (Quiet.assign rfl) rfl ?_
      refine G.nil ?_
      refine G.then_n ?_
      refine G.ret ?_
      have e1 : actE left = 2 := by unfold actE; rw [if_neg h14, if_neg h26]
      have e2 : actL left = left - 1 := by unfold actL; rw [if_neg h14]
      have e3 : actD left dead = true := by unfold actD; rw [if_neg h14, if_neg h26]
      rw [e1, e2, e3]
      exact G.done (l := [.tmp 2]) rfl rfl ⟨rfl, rfl⟩ (by (repeat (first | exact Picks.nil | (apply Picks.cons; (repeat (first | exact Pick.here | apply Pick.there)))))) (by (repeat (first | exact Suff.here | apply Suff.there)))

set_option maxRecDepth 100000 in
theorem has_spec (d : Nat) (a : Option Addr) (k c : Nat) (x y z u : Value) (n : Int) : Fn Try.prog 63 #[vptr d, vint n] [ptc d [.slice a k c, x, y, z, u] 100] fun v L => v = .bool (decide (0 ≤ n) && decide (n < k)) ∧ L = [ptc d [.slice a k c, x, y, z, u] 100] := by
  refine Fn.intro (vs := [vptr d, vint n]) Try.func63 rfl rfl ?_
  intro F W
  refine G.seq ?_
  refine G.region ?_
  refine G.q (Quiet.assign rfl) rfl ?_
  refine G.nil ?_
  refine G.then_n ?_
  refine G.seq ?_
  refine G.region ?_
  refine G.q (Quiet.move rfl) rfl ?_
  refine G.q (Quiet.int rfl rfl rfl) rfl ?_
  refine G.q (Quiet.move rfl) rfl ?_
  refine G.dec (t := 7) rfl (fun h1_7 => ?_) (fun h1_7 => ?_)
  · refine G.kDT (t := 6) rfl h1_7 ?_
    refine G.grun (t := 7) rfl rfl rfl ?_
    refine G.q (Quiet.move rfl) rfl ?_
    refine G.grun (t := 7) rfl rfl rfl ?_
    refine G.q (Quiet.move rfl) rfl ?_
    refine G.grun (t := 7) rfl rfl rfl ?_
    refine G.q (Quiet.nilp rfl) rfl ?_
    refine G.grun (t := 7) rfl rfl rfl ?_
    refine G.q (Quiet.fieldAddr rfl fo_100_0) rfl ?_
    refine G.grun (t := 7) rfl rfl rfl ?_
    refine G.q (Quiet.load rfl ag_97 (by (repeat (first | exact Pick.here | apply Pick.there))) (rfl)) rfl ?_
    refine G.grun (t := 7) rfl rfl rfl ?_
    refine G.q (Quiet.slen rfl Try.underlying97 rfl) rfl ?_
    refine G.grun (t := 7) rfl rfl rfl ?_
    refine G.q (Quiet.int rfl rfl rfl) rfl ?_
    refine G.q (Quiet.pickT rfl rfl) rfl ?_
    refine G.q (Quiet.assign rfl) rfl ?_
    refine G.nil ?_
    refine G.then_n ?_
    refine G.ret ?_
    exact G.done (l := [.tmp 4]) rfl rfl ⟨by simp; omega, rfl⟩ (by (repeat (first | exact Picks.nil | (apply Picks.cons; (repeat (first | exact Pick.here | apply Pick.there)))))) (by (repeat (first | exact Suff.here | apply Suff.there)))
  · refine G.kDF (t := 6) rfl h1_7 ?_
    refine G.gskip (t := 7) rfl rfl rfl rfl ?_
    refine G.gskip (t := 7) rfl rfl rfl rfl ?_
    refine G.gskip (t := 7) rfl rfl rfl rfl ?_
    refine G.gskip (t := 7) rfl rfl rfl rfl ?_
    refine G.gskip (t := 7) rfl rfl rfl rfl ?_
    refine G.gskip (t := 7) rfl rfl rfl rfl ?_
    refine G.gskip (t := 7) rfl rfl rfl rfl ?_
    refine G.q (Quiet.pickF rfl rfl) rfl ?_
    refine G.q (Quiet.assign rfl) rfl ?_
    refine G.nil ?_
    refine G.then_n ?_
    refine G.ret ?_
    exact G.done (l := [.tmp 4]) rfl rfl ⟨by simp; omega, rfl⟩ (by (repeat (first | exact Picks.nil | (apply Picks.cons; (repeat (first | exact Pick.here | apply Pick.there)))))) (by (repeat (first | exact Suff.here | apply Suff.there)))

set_option maxRecDepth 100000 in
theorem size_spec (d : Nat) (δ : Dk) : Fn Try.prog 108 #[vptr d] [dkR d δ] fun v L => v = vint δ.now.length ∧ L = [dkR d δ] := by
  refine Fn.intro (vs := [vptr d]) Try.func108 rfl rfl ?_
  intro F W
  refine G.dkOpen .here fun nb ob hok => ?_
  refine G.seq ?_
  refine G.region ?_
  refine G.q (Quiet.assign rfl) rfl ?_
  refine G.nil ?_
  refine G.then_n ?_
  refine G.seq ?_
  refine G.region ?_
  refine G.q (Quiet.move rfl) rfl ?_
  refine G.q (Quiet.nilp rfl) rfl ?_
  refine G.q (Quiet.fieldAddr rfl fo_100_0) rfl ?_
  refine G.q (Quiet.load rfl ag_97 (by (repeat (first | exact Pick.here | apply Pick.there))) (rfl)) rfl ?_
  refine G.q (Quiet.slen rfl Try.underlying97 rfl) rfl ?_
  refine G.q (Quiet.assign rfl) rfl ?_
  refine G.nil ?_
  refine G.then_n ?_
  refine G.ret ?_
  refine G.dkFold (δ := δ) (by (repeat (first | exact Picks.nil | (apply Picks.cons; (repeat (first | exact Pick.here | apply Pick.there)))))) rfl rfl rfl hok ?_
  exact G.done (l := [.tmp 2]) rfl rfl ⟨rfl, rfl⟩ (by (repeat (first | exact Picks.nil | (apply Picks.cons; (repeat (first | exact Pick.here | apply Pick.there)))))) (by (repeat (first | exact Suff.here | apply Suff.there)))

set_option maxRecDepth 100000 in
theorem dead_spec (d : Nat) (δ : Dk) : Fn Try.prog 52 #[vptr d] [dkR d δ] fun v L => v = .bool δ.dead ∧ L = [dkR d δ] := by
  refine Fn.intro (vs := [vptr d]) Try.func52 rfl rfl ?_
  intro F W
  refine G.dkOpen .here fun nb ob hok => ?_
  refine G.seq ?_
  refine G.region ?_
  refine G.q (Quiet.assign rfl) rfl ?_
  refine G.nil ?_
  refine G.then_n ?_
  refine G.seq ?_
  refine G.region ?_
  refine G.q (Quiet.move rfl) rfl ?_
  refine G.q (Quiet.nilp rfl) rfl ?_
  refine G.q (Quiet.fieldAddr rfl fo_100_4) rfl ?_
  refine G.q (Quiet.load rfl ag_4 (by (repeat (first | exact Pick.here | apply Pick.there))) (rfl)) rfl ?_
  refine G.q (Quiet.assign rfl) rfl ?_
  refine G.nil ?_
  refine G.then_n ?_
  refine G.ret ?_
  refine G.dkFold (δ := δ) (by (repeat (first | exact Picks.nil | (apply Picks.cons; (repeat (first | exact Pick.here | apply Pick.there)))))) rfl rfl rfl hok ?_
  exact G.done (l := [.tmp 2]) rfl rfl ⟨rfl, rfl⟩ (by (repeat (first | exact Picks.nil | (apply Picks.cons; (repeat (first | exact Pick.here | apply Pick.there)))))) (by (repeat (first | exact Suff.here | apply Suff.there)))

set_option maxRecDepth 100000 in
theorem acts_spec (d : Nat) (δ : Dk) : Fn Try.prog 21 #[vptr d] [dkR d δ] fun v L => v = vint δ.acts ∧ L = [dkR d δ] := by
  refine Fn.intro (vs := [vptr d]) Try.func21 rfl rfl ?_
  intro F W
  refine G.dkOpen .here fun nb ob hok => ?_
  refine G.seq ?_
  refine G.region ?_
  refine G.q (Quiet.assign rfl) rfl ?_
  refine G.nil ?_
  refine G.then_n ?_
  refine G.seq ?_
  refine G.region ?_
  refine G.q (Quiet.move rfl) rfl ?_
  refine G.q (Quiet.nilp rfl) rfl ?_
  refine G.q (Quiet.fieldAddr rfl fo_100_2) rfl ?_
  refine G.q (Quiet.load rfl ag_3 (by (repeat (first | exact Pick.here | apply Pick.there))) (rfl)) rfl ?_
  refine G.q (Quiet.assign rfl) rfl ?_
  refine G.nil ?_
  refine G.then_n ?_
  refine G.ret ?_
  refine G.dkFold (δ := δ) (by (repeat (first | exact Picks.nil | (apply Picks.cons; (repeat (first | exact Pick.here | apply Pick.there)))))) rfl rfl rfl hok ?_
  exact G.done (l := [.tmp 2]) rfl rfl ⟨rfl, rfl⟩ (by (repeat (first | exact Picks.nil | (apply Picks.cons; (repeat (first | exact Pick.here | apply Pick.there)))))) (by (repeat (first | exact Suff.here | apply Suff.there)))

set_option maxRecDepth 100000 in
theorem arm_spec (d : Nat) (δ : Dk) (n : Int) (hn : n ≤ 9223372036854775807) : Fn Try.prog 51 #[vptr d, vint n] [dkR d δ] fun v L => v = vint (δ.arm n).2 ∧ L = [dkR d (δ.arm n).1] := by
  refine Fn.intro (vs := [vptr d, vint n]) Try.func51 rfl rfl ?_
  intro F W
  refine G.dkOpen .here fun nb ob hok => ?_
  refine G.seq ?_
  refine G.region ?_
  refine G.q (Quiet.assign rfl) rfl ?_
  refine G.nil ?_
  refine G.then_n ?_
  refine G.seq ?_
  refine G.block ?_
  refine G.seq ?_
  refine G.region ?_
  refine G.q (Quiet.move rfl) rfl ?_
  refine G.q (Quiet.nilp rfl) rfl ?_
  refine G.q (Quiet.fieldAddr rfl fo_100_4) rfl ?_
  refine G.q (Quiet.load rfl ag_4 (by (repeat (first | exact Pick.here | apply Pick.there))) (rfl)) rfl ?_
  refine G.q (Quiet.assign rfl) rfl ?_
  refine G.nil ?_
  refine G.then_n ?_
  refine G.condB rfl (fun h5 => ?_) (fun h5 => ?_)
  · refine G.seq ?_
    refine G.region ?_
    refine G.q (Quiet.assign rfl) rfl ?_
    refine G.nil ?_
    refine G.then_n ?_
    refine G.ret ?_
    refine G.blk_r ?_
    refine G.then_r ?_
    have e : δ.arm n = (δ, 2) := by unfold Dk.arm; simp only [h5, if_true]
    rw [e]
    refine G.dkFold (δ := δ) (by (repeat (first | exact Picks.nil | (apply Picks.cons; (repeat (first | exact Pick.here | apply Pick.there)))))) rfl rfl rfl hok ?_
    exact G.done (l := [.tmp 4]) rfl rfl ⟨rfl, rfl⟩ (by (repeat (first | exact Picks.nil | (apply Picks.cons; (repeat (first | exact Pick.here | apply Pick.there)))))) (by (repeat (first | exact Suff.here | apply Suff.there)))
  · refine G.seq ?_
    refine G.region ?_
    refine G.q (Quiet.move rfl) rfl ?_
    refine G.q (Quiet.int rfl rfl rfl) rfl ?_
    refine G.q (Quiet.assign rfl) rfl ?_
    refine G.nil ?_
    refine G.then_n ?_
    refine G.condD rfl (fun h10 => ?_) (fun h10 => ?_)
    · refine G.seq ?_
      refine G.region ?_
      refine G.q (Quiet.assign rfl) rfl ?_
      refine G.nil ?_
      refine G.then_n ?_
      refine G.ret ?_
      refine G.blk_r ?_
      refine G.then_r ?_
      have e : δ.arm n = (δ, 1) := by unfold Dk.arm; simp only [h5, h10, if_true, if_false, Bool.false_eq_true]
      rw [e]
      refine G.dkFold (δ := δ) (by (repeat (first | exact Picks.nil | (apply Picks.cons; (repeat (first | exact Pick.here | apply Pick.there)))))) rfl rfl rfl hok ?_
      exact G.done (l := [.tmp 4]) rfl rfl ⟨rfl, rfl⟩ (by (repeat (first | exact Picks.nil | (apply Picks.cons; (repeat (first | exact Pick.here | apply Pick.there)))))) (by (repeat (first | exact Suff.here | apply Suff.there)))
    · refine G.skip ?_
      refine G.blk_n ?_
      refine G.then_n ?_
      refine G.seq ?_
      refine G.region ?_
      refine G.q (Quiet.move rfl) rfl ?_
      refine G.q (Quiet.move rfl) rfl ?_
      refine G.q (Quiet.nilp rfl) rfl ?_
      refine G.q (Quiet.fieldAddr rfl fo_100_3) rfl ?_
      refine G.op (OpSpec.store rfl rfl rfl sz_3 ?c14 ?c15) (by (repeat (first | exact Picks.nil | (apply Picks.cons; (repeat (first | exact Pick.here | apply Pick.there)))))) rfl ?nx16
      case c14 => first | decide | (simp; omega) | simp
      case c15 => exact nfz0 _ _
      rintro v L' rfl
      refine G.nil ?_
      refine G.then_n ?_
      refine G.seq ?_
      refine G.region ?_
      refine G.q (Quiet.assign rfl) rfl ?_
      refine G.nil ?_
      refine G.then_n ?_
      refine G.ret ?_
      have e : δ.arm n = ({ δ with left := n }, 0) := by unfold Dk.arm; simp only [h5, h10, if_false, Bool.false_eq_true]
      rw [e]
      refine G.dkFold (δ := { δ with left := n }) (by (repeat (first | exact Picks.nil | (apply Picks.cons; (repeat (first | exact Pick.here | apply Pick.there)))))) rfl rfl rfl ⟨hok.sec, hok.olds, hok.nodup, hok.big, hok.acts0, by simp; omega⟩ ?_
      exact G.done (l := [.tmp 4]) rfl rfl ⟨rfl, rfl⟩ (by (repeat (first | exact Picks.nil | (apply Picks.cons; (repeat (first | exact Pick.here | apply Pick.there)))))) (by (repeat (first | exact Suff.here | apply Suff.there)))

set_option maxRecDepth 100000 in
theorem sync_spec (d : Nat) (δ : Dk) (hA : δ.acts < 4611686018427387904) : Fn Try.prog 50 #[vptr d] [dkR d δ] fun v L => v = vint δ.sync.2 ∧ L = [dkR d δ.sync.1] := by
  refine Fn.intro (vs := [vptr d]) Try.func50 rfl rfl ?_
  intro F W
  refine G.dkOpen .here fun nb ob hok => ?_
  have hl0 := hok.left0
  have ha0 := hok.acts0
  refine G.seq ?_
  refine G.region ?_
  refine G.q (Quiet.assign rfl) rfl ?_
  refine G.nil ?_
  refine G.then_n ?_
  refine G.seq ?_
  refine G.seq ?_
  refine G.region ?_
  refine G.q (Quiet.move rfl) rfl ?_
  refine G.q (Quiet.nilp rfl) rfl ?_
  refine G.q (Quiet.fieldAddr rfl fo_100_4) rfl ?_
  refine G.q (Quiet.load rfl ag_4 (by (repeat (first | exact Pick.here | apply Pick.there))) (rfl)) rfl ?_
  refine G.nil ?_
  refine G.then_n ?_
  refine G.condB rfl (fun h7 => ?_) (fun h7 => ?_)
  · refine G.seq ?_
    refine G.region ?_
    refine G.q (Quiet.assign rfl) rfl ?_
    refine G.nil ?_
    refine G.then_n ?_
    refine G.ret ?_
    refine G.then_r ?_
    have e : δ.sync = (δ, 2) := by unfold Dk.sync; simp only [h7, if_true]
    rw [e]
    refine G.dkFold (δ := δ) (by (repeat (first | exact Picks.nil | (apply Picks.cons; (repeat (first | exact Pick.here | apply Pick.there)))))) rfl rfl rfl hok ?_
    exact G.done (l := [.tmp 2]) rfl rfl ⟨rfl, rfl⟩ (by (repeat (first | exact Picks.nil | (apply Picks.cons; (repeat (first | exact Pick.here | apply Pick.there)))))) (by (repeat (first | exact Suff.here | apply Suff.there)))
  · refine G.skip ?_
    refine G.then_n ?_
    refine G.seq ?_
    refine G.region ?_
    refine G.q (Quiet.move rfl) rfl ?_
    refine G.op (OpSpec.call Try.func64 rfl rfl (vs := [_]) rfl (act_spec _ _ _ _ _ _ ?hA8 ?hl9)) (by (repeat (first | exact Picks.nil | (apply Picks.cons; (repeat (first | exact Pick.here | apply Pick.there)))))) rfl ?nx10
    case hA8 => omega
    case hl9 => omega
    rintro v L' ⟨rfl, rfl⟩
    refine G.q (Quiet.assign rfl) rfl ?_
    refine G.nil ?_
    refine G.then_n ?_
    refine G.seq ?_
    refine G.seq ?_
    refine G.region ?_
    refine G.q (Quiet.move rfl) rfl ?_
    refine G.q (Quiet.int rfl rfl rfl) rfl ?_
    refine G.nil ?_
    refine G.then_n ?_
    refine G.condD rfl (fun h11 => ?_) (fun h11 => ?_)
    · refine G.region ?_
      refine G.q (Quiet.move rfl) rfl ?_
      refine G.q (Quiet.nilp rfl) rfl ?_
      refine G.q (Quiet.fieldAddr rfl fo_100_1) rfl ?_
      refine G.q (Quiet.load rfl ag_98 (by (repeat (first | exact Pick.here | apply Pick.there))) (rfl)) rfl ?_
      refine G.op (OpSpec.mapClear rfl rfl Try.underlying98) (by (repeat (first | exact Picks.nil | (apply Picks.cons; (repeat (first | exact Pick.here | apply Pick.there)))))) rfl ?nx17
      rintro v L' rfl
      refine G.nil ?_
      refine G.then_n ?_
      refine G.seq ?_
      refine G.region ?_
      refine G.q (Quiet.move rfl) rfl ?_
      refine G.q (Quiet.assign rfl) rfl ?_
      refine G.nil ?_
      refine G.then_n ?_
      refine G.ret ?_
      have e : δ.sync = ({ δ.act.1 with old := [] }, 0) := by unfold Dk.sync Dk.act; simp only [h7, h11, if_true, if_false, Bool.false_eq_true]
      rw [e, h11]
      refine G.dkFold (δ := { δ.act.1 with old := [] }) (by (repeat (first | exact Picks.nil | (apply Picks.cons; (repeat (first | exact Pick.here | apply Pick.there)))))) rfl rfl rfl hok.acted.cleared ?_
      exact G.done (l := [.tmp 2]) rfl rfl ⟨rfl, rfl⟩ (by (repeat (first | exact Picks.nil | (apply Picks.cons; (repeat (first | exact Pick.here | apply Pick.there)))))) (by (repeat (first | exact Suff.here | apply Suff.there)))
    · refine G.skip ?_
      refine G.then_n ?_
      refine G.seq ?_
      refine G.region ?_
      refine G.q (Quiet.move rfl) rfl ?_
      refine G.q (Quiet.assign rfl) rfl ?_
      refine G.nil ?_
      refine G.then_n ?_
      refine G.ret ?_
      have e : δ.sync = (δ.act.1, δ.act.2) := by unfold Dk.sync Dk.act; simp only [h7, h11, if_false, Bool.false_eq_true]
      rw [e]
      refine G.dkFold (δ := δ.act.1) (by (repeat (first | exact Picks.nil | (apply Picks.cons; (repeat (first | exact Pick.here | apply Pick.there)))))) rfl rfl rfl hok.acted ?_
      exact G.done (l := [.tmp 2]) rfl rfl ⟨rfl, rfl⟩ (by (repeat (first | exact Picks.nil | (apply Picks.cons; (repeat (first | exact Pick.here | apply Pick.there)))))) (by (repeat (first | exact Suff.here | apply Suff.there)))

set_option maxRecDepth 100000 in
theorem read_spec (d : Nat) (δ : Dk) (n : Int) : Fn Try.prog 55 #[vptr d, vint n] [dkR d δ] fun v L => v = .tuple #[vstr (δ.read n).1, vint (δ.read n).2] ∧ L = [dkR d δ] := by
  refine Fn.intro (vs := [vptr d, vint n]) Try.func55 rfl rfl ?_
  intro F W
  refine G.dkOpen .here fun nb ob hok => ?_
  refine G.seq ?_
  refine G.region ?_
  refine G.q (Quiet.assign rfl) rfl ?_
  refine G.q (Quiet.assign rfl) rfl ?_
  refine G.nil ?_
  refine G.then_n ?_
  refine G.seq ?_
  refine G.block ?_
  refine G.seq ?_
  refine G.region ?_
  refine G.q (Quiet.move rfl) rfl ?_
  refine G.q (Quiet.nilp rfl) rfl ?_
  refine G.q (Quiet.fieldAddr rfl fo_100_4) rfl ?_
  refine G.q (Quiet.load rfl ag_4 (by (repeat (first | exact Pick.here | apply Pick.there))) (rfl)) rfl ?_
  refine G.q (Quiet.assign rfl) rfl ?_
  refine G.nil ?_
  refine G.then_n ?_
  refine G.condB rfl (fun h7 => ?_) (fun h7 => ?_)
  · refine G.seq ?_
    refine G.region ?_
    refine G.q (Quiet.assign rfl) rfl ?_
    refine G.q (Quiet.assign rfl) rfl ?_
    refine G.nil ?_
    refine G.then_n ?_
    refine G.ret ?_
    refine G.blk_r ?_
    refine G.then_r ?_
    have e : δ.read n = ([], 2) := by unfold Dk.read; simp only [h7, if_true]
    rw [e]
    refine G.dkFold (δ := δ) (by (repeat (first | exact Picks.nil | (apply Picks.cons; (repeat (first | exact Pick.here | apply Pick.there)))))) rfl rfl rfl hok ?_
    exact G.done (l := [.tmp 4, .tmp 5]) rfl rfl ⟨rfl, rfl⟩ (by (repeat (first | exact Picks.nil | (apply Picks.cons; (repeat (first | exact Pick.here | apply Pick.there)))))) (by (repeat (first | exact Suff.here | apply Suff.there)))
  · refine G.seq ?_
    refine G.region ?_
    refine G.q (Quiet.move rfl) rfl ?_
    refine G.q (Quiet.move rfl) rfl ?_
    refine G.op (OpSpec.call Try.func63 rfl rfl (vs := [_, _]) rfl (has_spec _ _ _ _ _ _ _ _ _)) (by (repeat (first | exact Picks.nil | (apply Picks.cons; (repeat (first | exact Pick.here | apply Pick.there)))))) rfl ?nx11
    rintro v L' ⟨rfl, rfl⟩
    refine G.q (Quiet.not rfl) rfl ?_
    refine G.q (Quiet.assign rfl) rfl ?_
    refine G.nil ?_
    refine G.then_n ?_
    refine G.condB rfl (fun h12 => ?_) (fun h12 => ?_)
    · refine G.seq ?_
      refine G.region ?_
      refine G.q (Quiet.assign rfl) rfl ?_
      refine G.q (Quiet.assign rfl) rfl ?_
      refine G.nil ?_
      refine G.then_n ?_
      refine G.ret ?_
      refine G.blk_r ?_
      refine G.then_r ?_
      have e : δ.read n = ([], 20) := by unfold Dk.read; have hh : δ.has n = false := (by have := h12; simp only [Bool.not_eq_true'] at this; exact this); simp only [h7, hh, if_true, if_false, Bool.false_eq_true]
      rw [e]
      refine G.dkFold (δ := δ) (by (repeat (first | exact Picks.nil | (apply Picks.cons; (repeat (first | exact Pick.here | apply Pick.there)))))) rfl rfl rfl hok ?_
      exact G.done (l := [.tmp 4, .tmp 5]) rfl rfl ⟨rfl, rfl⟩ (by (repeat (first | exact Picks.nil | (apply Picks.cons; (repeat (first | exact Pick.here | apply Pick.there)))))) (by (repeat (first | exact Suff.here | apply Suff.there)))
    · have hh : δ.has n = true := by simpa [Dk.has] using h12
      obtain ⟨q0, q1, q2⟩ := has_lt hh
      have q3 : (bys δ.now[n.toNat]).length = 64 := by simpa using hok.sec _ (List.getElem_mem q2)
      have q4 := secsC_length hok.sec
      refine G.skip ?_
      refine G.blk_n ?_
      refine G.then_n ?_
      refine G.seq ?_
      refine G.region ?_
      refine G.q (Quiet.move rfl) rfl ?_
      refine G.q (Quiet.nilp rfl) rfl ?_
      refine G.q (Quiet.fieldAddr rfl fo_100_0) rfl ?_
      refine G.q (Quiet.load rfl ag_97 (by (repeat (first | exact Pick.here | apply Pick.there))) (rfl)) rfl ?_
      refine G.q (Quiet.move rfl) rfl ?_
      refine G.q (Quiet.indexAddr rfl rfl el_97 (by omega)) rfl ?_
      refine G.q (Quiet.loadAs (vs := bys δ.now[n.toNat]) rfl ag_106 (by (repeat (first | exact Pick.here | apply Pick.there))) (by omega) (by rw [Nat.zero_add]; exact secsC_at hok.sec q2)) rfl ?_
      refine G.op (OpSpec.allocA ze_106) (by (repeat (first | exact Picks.nil | (apply Picks.cons; (repeat (first | exact Pick.here | apply Pick.there)))))) rfl ?nx23
      rintro v L' ⟨b5_7, rfl, rfl⟩
      refine G.op (OpSpec.storeA rfl rfl ?c25 sz_106 ?c28 ?c26 ?c27) (by (repeat (first | exact Picks.nil | (apply Picks.cons; (repeat (first | exact Pick.here | apply Pick.there)))))) rfl ?nx29
      case c25 => exact bys_cell _
      case c28 => exact q3
      case c26 => rw [q3]; decide
      case c27 => exact nfz0 _ _
      rintro v L' rfl
      refine G.nil ?_
      refine G.then_n ?_
      refine G.seq ?_
      rw [spl_all (vs := bys δ.now[n.toNat]) (by rw [q3]; rfl)]
      refine G.region ?_
      refine G.q (Quiet.arrSlice rfl ar_106 (by first | exact rfl | rfl) (by first | exact rfl | rfl) (by omega)) rfl ?_
      refine G.q (Quiet.bytesPt (cs := δ.now[n.toNat]) rfl Try.underlying31 Try.underlying5 Try.underlying9 (by (repeat (first | exact Pick.here | apply Pick.there))) (by show (List.drop 0 _).take 64 = _; rw [List.drop_zero]; exact List.take_of_length_le (by rw [q3]; decide)) (by rw [q3]; decide) (by decide)) rfl ?_
      refine G.q (Quiet.assign rfl) rfl ?_
      refine G.q (Quiet.assign rfl) rfl ?_
      refine G.nil ?_
      refine G.then_n ?_
      refine G.ret ?_
      have e : δ.read n = (δ.now[n.toNat], 0) := by unfold Dk.read; simp [h7, hh, q2]
      rw [e]
      refine G.dkFold (δ := δ) (by (repeat (first | exact Picks.nil | (apply Picks.cons; (repeat (first | exact Pick.here | apply Pick.there)))))) rfl rfl rfl hok ?_
      exact G.done (l := [.tmp 4, .tmp 5]) rfl rfl ⟨rfl, rfl⟩ (by (repeat (first | exact Picks.nil | (apply Picks.cons; (repeat (first | exact Pick.here | apply Pick.there)))))) (by (repeat (first | exact Suff.here | apply Suff.there)))

set_option maxRecDepth 100000 in
theorem write_spec (d : Nat) (δ : Dk) (n : Int) (s : List UInt8) (hA : δ.acts < 4611686018427387904) : Fn Try.prog 17 #[vptr d, vint n, vstr s] [dkR d δ] fun v L => v = vint (δ.write n s).2 ∧ L = [dkR d (δ.write n s).1] := by
  refine Fn.intro (vs := [vptr d, vint n, vstr s]) Try.func17 rfl rfl ?_
  intro F W
  refine G.dkOpen .here fun nb ob hok => ?_
  have hl0 := hok.left0
  have ha0 := hok.acts0
  refine G.seq ?_
  refine G.region ?_
  refine G.q (Quiet.assign rfl) rfl ?_
  refine G.nil ?_
  refine G.then_n ?_
  refine G.seq ?_
  refine G.block ?_
  refine G.seq ?_
  refine G.region ?_
  refine G.q (Quiet.move rfl) rfl ?_
  refine G.q (Quiet.nilp rfl) rfl ?_
  refine G.q (Quiet.fieldAddr rfl fo_100_4) rfl ?_
  refine G.q (Quiet.load rfl ag_4 (by (repeat (first | exact Pick.here | apply Pick.there))) (rfl)) rfl ?_
  refine G.q (Quiet.assign rfl) rfl ?_
  refine G.nil ?_
  refine G.then_n ?_
  refine G.condB rfl (fun h9 => ?_) (fun h9 => ?_)
  · refine G.seq ?_
    refine G.region ?_
    refine G.q (Quiet.assign rfl) rfl ?_
    refine G.nil ?_
    refine G.then_n ?_
    refine G.ret ?_
    refine G.blk_r ?_
    refine G.then_r ?_
    have e : δ.write n s = (δ, 2) := by unfold Dk.write; simp only [h9, if_true]
    rw [e]
    refine G.dkFold (δ := δ) (by (repeat (first | exact Picks.nil | (apply Picks.cons; (repeat (first | exact Pick.here | apply Pick.there)))))) rfl rfl rfl hok ?_
    exact G.done (l := [.tmp 6]) rfl rfl ⟨rfl, rfl⟩ (by (repeat (first | exact Picks.nil | (apply Picks.cons; (repeat (first | exact Pick.here | apply Pick.there)))))) (by (repeat (first | exact Suff.here | apply Suff.there)))
  · refine G.seq ?_
    refine G.region ?_
    refine G.q (Quiet.move rfl) rfl ?_
    refine G.q (Quiet.move rfl) rfl ?_
    refine G.op (OpSpec.call Try.func63 rfl rfl (vs := [_, _]) rfl (has_spec _ _ _ _ _ _ _ _ _)) (by (repeat (first | exact Picks.nil | (apply Picks.cons; (repeat (first | exact Pick.here | apply Pick.there)))))) rfl ?nx9
    rintro v L' ⟨rfl, rfl⟩
    refine G.q (Quiet.not rfl) rfl ?_
    refine G.q (Quiet.move rfl) rfl ?_
    refine G.bool (t := 19) rfl (fun h3_19 => ?_) (fun h3_19 => ?_)
    · refine G.kB (t := 18) rfl h3_19 ?_
      refine G.gskip (t := 19) rfl rfl rfl rfl ?_
      refine G.gskip (t := 19) rfl rfl rfl rfl ?_
      refine G.gskip (t := 19) rfl rfl rfl rfl ?_
      refine G.q (Quiet.pickT rfl rfl) rfl ?_
      refine G.q (Quiet.assign rfl) rfl ?_
      refine G.nil ?_
      refine G.then_n ?_
      refine G.condT rfl ?_
      refine G.seq ?_
      refine G.region ?_
      refine G.q (Quiet.assign rfl) rfl ?_
      refine G.nil ?_
      refine G.then_n ?_
      refine G.ret ?_
      refine G.blk_r ?_
      refine G.then_r ?_
      have e : δ.write n s = (δ, 20) := by unfold Dk.write; have hh : δ.has n = false := (by have := h3_19; simp only [Bool.not_eq_true'] at this; exact this); simp [h9, hh]
      rw [e]
      refine G.dkFold (δ := δ) (by (repeat (first | exact Picks.nil | (apply Picks.cons; (repeat (first | exact Pick.here | apply Pick.there)))))) rfl rfl rfl hok ?_
      exact G.done (l := [.tmp 6]) rfl rfl ⟨rfl, rfl⟩ (by (repeat (first | exact Picks.nil | (apply Picks.cons; (repeat (first | exact Pick.here | apply Pick.there)))))) (by (repeat (first | exact Suff.here | apply Suff.there)))
    · have hh : δ.has n = true := by simpa [Dk.has] using h3_19
      obtain ⟨q0, q1, q2⟩ := has_lt hh
      have q3 : (bys δ.now[n.toNat]).length = 64 := by simpa using hok.sec _ (List.getElem_mem q2)
      have q4 := secsC_length hok.sec
      refine G.kB (t := 18) rfl h3_19 ?_
      refine G.grun (t := 19) rfl rfl rfl ?_
      refine G.q (Quiet.move rfl) rfl ?_
      refine G.grun (t := 19) rfl rfl rfl ?_
      refine G.q (Quiet.strlen rfl Try.underlying9 rfl) rfl ?_
      refine G.grun (t := 19) rfl rfl rfl ?_
      refine G.q (Quiet.int rfl rfl rfl) rfl ?_
      refine G.q (Quiet.pickF rfl rfl) rfl ?_
      refine G.q (Quiet.assign rfl) rfl ?_
      refine G.nil ?_
      refine G.then_n ?_
      refine G.condN rfl (fun h14 => ?_) (fun h14 => ?_)
      · refine G.seq ?_
        refine G.region ?_
        refine G.q (Quiet.assign rfl) rfl ?_
        refine G.nil ?_
        refine G.then_n ?_
        refine G.ret ?_
        refine G.blk_r ?_
        refine G.then_r ?_
        have e : δ.write n s = (δ, 20) := by unfold Dk.write; have q6 : s.length ≠ 64 := (by omega); simp [h9, q6]
        rw [e]
        refine G.dkFold (δ := δ) (by (repeat (first | exact Picks.nil | (apply Picks.cons; (repeat (first | exact Pick.here | apply Pick.there)))))) rfl rfl rfl hok ?_
        exact G.done (l := [.tmp 6]) rfl rfl ⟨rfl, rfl⟩ (by (repeat (first | exact Picks.nil | (apply Picks.cons; (repeat (first | exact Pick.here | apply Pick.there)))))) (by (repeat (first | exact Suff.here | apply Suff.there)))
      · refine G.skip ?_
        refine G.blk_n ?_
        refine G.then_n ?_
        refine G.seq ?_
        refine G.seq ?_
        refine G.region ?_
        refine G.q (Quiet.move rfl) rfl ?_
        refine G.q (Quiet.nilp rfl) rfl ?_
        refine G.q (Quiet.fieldAddr rfl fo_100_1) rfl ?_
        refine G.q (Quiet.load rfl ag_98 (by (repeat (first | exact Pick.here | apply Pick.there))) (rfl)) rfl ?_
        refine G.q (Quiet.move rfl) rfl ?_
        refine G.q (Quiet.lookupOk (m := δ.old) (enc := secV) (KeyLaw.int Try.underlying3) rfl rfl Try.underlying98 ze_106 (by (repeat (first | exact Pick.here | apply Pick.there))) rfl) rfl ?_
        rcases hq : alook δ.old n with _ | s0
        · refine G.q (Quiet.move rfl) rfl ?_
          refine G.q (Quiet.extract rfl rfl) rfl ?_
          refine G.q (Quiet.extract rfl rfl) rfl ?_
          refine G.op (OpSpec.allocA ze_106) (by (repeat (first | exact Picks.nil | (apply Picks.cons; (repeat (first | exact Pick.here | apply Pick.there)))))) rfl ?nx26
          rintro v L' ⟨b5_9, rfl, rfl⟩
          refine G.op (OpSpec.storeA rfl rfl ?c28 sz_106 ?c31 ?c29 ?c30) (by (repeat (first | exact Picks.nil | (apply Picks.cons; (repeat (first | exact Pick.here | apply Pick.there)))))) rfl ?nx32
          case c28 => (first | (simp [isCell]; done) | (simp [isCell, setAll, Value.cells]; done))
          case c31 => rfl
          case c29 => decide
          case c30 => exact nfz0 _ _
          rintro v L' rfl
          refine G.q (Quiet.assign rfl) rfl ?_
          refine G.nil ?_
          refine G.then_n ?_
          refine G.seq ?_
          refine G.region ?_
          refine G.q (Quiet.move rfl) rfl ?_
          refine G.q (Quiet.not rfl) rfl ?_
          refine G.nil ?_
          refine G.then_n ?_
          refine G.condT rfl ?_
          refine G.draw [12] [[0, 1, 2, 3, 4, 5, 6, 7, 8, 9, 10, 11, 12]] mixed (by kernel_rfl) ?_
          refine Phases.go [] (by (repeat (first | exact Picks.nil | (apply Picks.cons; (repeat (first | exact Pick.here | apply Pick.there)))))) ?_
          refine D.qw [1, 2, 3, 12] rfl (by kernel_rfl) (Quiet.move rfl) ?_
          refine D.qw [2, 3, 12] rfl (by kernel_rfl) (Quiet.nilp rfl) ?_
          refine D.qw [3, 12] rfl (by kernel_rfl) (Quiet.fieldAddr rfl fo_100_1) ?_
          refine D.qw [12] rfl (by kernel_rfl) (Quiet.load rfl ag_98 (by (repeat (first | exact Pick.here | apply Pick.there))) (rfl)) ?_
          refine D.qw [12] rfl (by kernel_rfl) (Quiet.move rfl) ?_
          refine D.qw [6, 7, 8, 10, 11, 12] rfl (by kernel_rfl) (Quiet.move rfl) ?_
          refine D.qw [7, 8, 10, 11, 12] rfl (by kernel_rfl) (Quiet.nilp rfl) ?_
          refine D.qw [8, 10, 11, 12] rfl (by kernel_rfl) (Quiet.fieldAddr rfl fo_100_0) ?_
          refine D.qw [10, 11, 12] rfl (by kernel_rfl) (Quiet.load rfl ag_97 (by (repeat (first | exact Pick.here | apply Pick.there))) (rfl)) ?_
          refine D.qw [10, 11, 12] rfl (by kernel_rfl) (Quiet.move rfl) ?_
          refine D.qw [11, 12] rfl (by kernel_rfl) (Quiet.indexAddr rfl rfl el_97 (by omega)) ?_
          refine D.qw [12] rfl (by kernel_rfl) (Quiet.loadAs (vs := bys δ.now[n.toNat]) rfl ag_106 (by (repeat (first | exact Pick.here | apply Pick.there))) (by omega) (by rw [Nat.zero_add]; exact secsC_at hok.sec q2)) ?_
          refine D.h rfl (by kernel_rfl) (OpSpec.mapSet (m := δ.old) (enc := secV) (KeyLaw.int Try.underlying3) rfl rfl (v := δ.now[n.toNat]) rfl Try.underlying98 rfl) (by (repeat (first | exact Picks.nil | (apply Picks.cons; (repeat (first | exact Pick.here | apply Pick.there)))))) ?nx46
          rintro v L' rfl
          refine D.ph ?_
          refine Phases.fin ?_
          refine G.then_n ?_
          refine G.seq ?_
          have q6 : s.length = 64 := by omega
          have q7 : (bys s).length = 64 := by simpa using q6
          refine G.draw [6, 10] [[0, 1, 2, 3, 4, 5, 6, 7, 8], [9, 10]] mixed (by kernel_rfl) ?_
          refine Phases.go [ptc d _ 100] (by (repeat (first | exact Picks.nil | (apply Picks.cons; (repeat (first | exact Pick.here | apply Pick.there)))))) ?_
          refine D.q rfl (by kernel_rfl) (Quiet.move rfl) ?_
          refine D.q rfl (by kernel_rfl) (Quiet.nilp rfl) ?_
          refine D.q rfl (by kernel_rfl) (Quiet.fieldAddr rfl fo_100_0) ?_
          refine D.q rfl (by kernel_rfl) (Quiet.load rfl ag_97 (by (repeat (first | exact Pick.here | apply Pick.there))) (rfl)) ?_
          refine D.q rfl (by kernel_rfl) (Quiet.move rfl) ?_
          refine D.qw [6, 7, 8] rfl (by kernel_rfl) (Quiet.move rfl) ?_
          refine D.h rfl (by kernel_rfl) (OpSpec.strBytes rfl Try.underlying9 Try.underlying31 Try.underlying5) (by (repeat (first | exact Picks.nil | (apply Picks.cons; (repeat (first | exact Pick.here | apply Pick.there)))))) ?nx53
          rintro v L' ⟨rfl, b8, c8, rfl⟩
          refine D.qw [8] rfl (by kernel_rfl) (Quiet.toArr rfl ar_106 (by omega)) ?_
          refine D.qw [] rfl (by kernel_rfl) (Quiet.loadAr (vs := bys s) (m := s.length) (sz := 1) rfl ag_106 (by (repeat (first | exact Pick.here | apply Pick.there))) (fun h hp => slR_rd hp) (by omega) (by rw [List.take_of_length_le (by simp; omega)])) ?_
          refine D.ph ?_
          refine Phases.go [] (by (repeat (first | exact Picks.nil | (apply Picks.cons; (repeat (first | exact Pick.here | apply Pick.there)))))) ?_
          refine D.qw [10] rfl (by kernel_rfl) (Quiet.indexAddr rfl rfl el_97 (by omega)) ?_
          refine D.h rfl (by kernel_rfl) (OpSpec.storeA rfl rfl ?c58 sz_106 ?c61 ?c59 ?c60) (by (repeat (first | exact Picks.nil | (apply Picks.cons; (repeat (first | exact Pick.here | apply Pick.there)))))) ?nx62
          case c58 => exact bys_cell _
          case c61 => exact q7
          case c59 => rw [q7, q4]; omega
          case c60 => exact nfz0 _ _
          rintro v L' rfl
          refine D.ph ?_
          refine Phases.fin ?_
          rw [Nat.zero_add, secsC_set hok.sec q2 q6]
          refine G.then_n ?_
          refine G.seq ?_
          refine G.region ?_
          refine G.q (Quiet.move rfl) rfl ?_
          refine G.op (OpSpec.call Try.func64 rfl rfl (vs := [_]) rfl (act_spec _ _ _ _ _ _ ?hA64 ?hl65)) (by (repeat (first | exact Picks.nil | (apply Picks.cons; (repeat (first | exact Pick.here | apply Pick.there)))))) rfl ?nx66
          case hA64 => omega
          case hl65 => omega
          rintro v L' ⟨rfl, rfl⟩
          refine G.q (Quiet.assign rfl) rfl ?_
          refine G.nil ?_
          refine G.then_n ?_
          refine G.ret ?_
          have e : δ.write n s = (δ.put n s).act := by unfold Dk.write; simp [h9, hh, q6]
          rw [e]
          refine G.dkFold (δ := (δ.put n s).act.1) (by (repeat (first | exact Picks.nil | (apply Picks.cons; (repeat (first | exact Pick.here | apply Pick.there)))))) (by simp [Dk.act, Dk.put]) rfl (by simp [Dk.act, Dk.put, hq, q2, oldsV]) (hok.putOk hh q6).acted ?_
          exact G.done (l := [.tmp 6]) rfl rfl ⟨rfl, rfl⟩ (by (repeat (first | exact Picks.nil | (apply Picks.cons; (repeat (first | exact Pick.here | apply Pick.there)))))) (by (repeat (first | exact Suff.here | apply Suff.there)))
        · have q5 : (bys s0).length = 64 := by simpa using (hok.olds _ (alook_mem hq)).1
          refine G.q (Quiet.move rfl) rfl ?_
          refine G.q (Quiet.extract rfl rfl) rfl ?_
          refine G.q (Quiet.extract rfl rfl) rfl ?_
          refine G.op (OpSpec.allocA ze_106) (by (repeat (first | exact Picks.nil | (apply Picks.cons; (repeat (first | exact Pick.here | apply Pick.there)))))) rfl ?nx70
          rintro v L' ⟨b5_9, rfl, rfl⟩
          refine G.op (OpSpec.storeA rfl rfl ?c72 sz_106 ?c75 ?c73 ?c74) (by (repeat (first | exact Picks.nil | (apply Picks.cons; (repeat (first | exact Pick.here | apply Pick.there)))))) rfl ?nx76
          case c72 => exact bys_cell _
          case c75 => exact q5
          case c73 => rw [q5]; decide
          case c74 => exact nfz0 _ _
          rintro v L' rfl
          refine G.q (Quiet.assign rfl) rfl ?_
          refine G.nil ?_
          refine G.then_n ?_
          refine G.seq ?_
          refine G.region ?_
          refine G.q (Quiet.move rfl) rfl ?_
          refine G.q (Quiet.not rfl) rfl ?_
          refine G.nil ?_
          refine G.then_n ?_
          refine G.condF rfl ?_
          refine G.skip ?_
          refine G.then_n ?_
          refine G.seq ?_
          have q6 : s.length = 64 := by omega
          have q7 : (bys s).length = 64 := by simpa using q6
          refine G.draw [6, 10] [[0, 1, 2, 3, 4, 5, 6, 7, 8], [9, 10]] mixed (by kernel_rfl) ?_
          refine Phases.go [ptc d _ 100] (by (repeat (first | exact Picks.nil | (apply Picks.cons; (repeat (first | exact Pick.here | apply Pick.there)))))) ?_
          refine D.q rfl (by kernel_rfl) (Quiet.move rfl) ?_
          refine D.q rfl (by kernel_rfl) (Quiet.nilp rfl) ?_
          refine D.q rfl (by kernel_rfl) (Quiet.fieldAddr rfl fo_100_0) ?_
          refine D.q rfl (by kernel_rfl) (Quiet.load rfl ag_97 (by (repeat (first | exact Pick.here | apply Pick.there))) (rfl)) ?_
          refine D.q rfl (by kernel_rfl) (Quiet.move rfl) ?_
          refine D.qw [6, 7, 8] rfl (by kernel_rfl) (Quiet.move rfl) ?_
          refine D.h rfl (by kernel_rfl) (OpSpec.strBytes rfl Try.underlying9 Try.underlying31 Try.underlying5) (by (repeat (first | exact Picks.nil | (apply Picks.cons; (repeat (first | exact Pick.here | apply Pick.there)))))) ?nx84
          rintro v L' ⟨rfl, b8, c8, rfl⟩
          refine D.qw [8] rfl (by kernel_rfl) (Quiet.toArr rfl ar_106 (by omega)) ?_
          refine D.qw [] rfl (by kernel_rfl) (Quiet.loadAr (vs := bys s) (m := s.length) (sz := 1) rfl ag_106 (by (repeat (first | exact Pick.here | apply Pick.there))) (fun h hp => slR_rd hp) (by omega) (by rw [List.take_of_length_le (by simp; omega)])) ?_
          refine D.ph ?_
          refine Phases.go [] (by (repeat (first | exact Picks.nil | (apply Picks.cons; (repeat (first | exact Pick.here | apply Pick.there)))))) ?_
          refine D.qw [10] rfl (by kernel_rfl) (Quiet.indexAddr rfl rfl el_97 (by omega)) ?_
          refine D.h rfl (by kernel_rfl) (OpSpec.storeA rfl rfl ?c89 sz_106 ?c92 ?c90 ?c91) (by (repeat (first | exact Picks.nil | (apply Picks.cons; (repeat (first | exact Pick.here | apply Pick.there)))))) ?nx93
          case c89 => exact bys_cell _
          case c92 => exact q7
          case c90 => rw [q7, q4]; omega
          case c91 => exact nfz0 _ _
          rintro v L' rfl
          refine D.ph ?_
          refine Phases.fin ?_
          rw [Nat.zero_add, secsC_set hok.sec q2 q6]
          refine G.then_n ?_
          refine G.seq ?_
          refine G.region ?_
          refine G.q (Quiet.move rfl) rfl ?_
          refine G.op (OpSpec.call Try.func64 rfl rfl (vs := [_]) rfl (act_spec _ _ _ _ _ _ ?hA95 ?hl96)) (by (repeat (first | exact Picks.nil | (apply Picks.cons; (repeat (first | exact Pick.here | apply Pick.there)))))) rfl ?nx97
          case hA95 => omega
          case hl96 => omega
          rintro v L' ⟨rfl, rfl⟩
          refine G.q (Quiet.assign rfl) rfl ?_
          refine G.nil ?_
          refine G.then_n ?_
          refine G.ret ?_
          have e : δ.write n s = (δ.put n s).act := by unfold Dk.write; simp [h9, hh, q6]
          rw [e]
          refine G.dkFold (δ := (δ.put n s).act.1) (by (repeat (first | exact Picks.nil | (apply Picks.cons; (repeat (first | exact Pick.here | apply Pick.there)))))) (by simp [Dk.act, Dk.put]) rfl (by simp [Dk.act, Dk.put, hq, q2, oldsV]) (hok.putOk hh q6).acted ?_
          exact G.done (l := [.tmp 6]) rfl rfl ⟨rfl, rfl⟩ (by (repeat (first | exact Picks.nil | (apply Picks.cons; (repeat (first | exact Pick.here | apply Pick.there)))))) (by (repeat (first | exact Suff.here | apply Suff.there)))

end Go.Proofs.Ytepncdidkjjllaa
