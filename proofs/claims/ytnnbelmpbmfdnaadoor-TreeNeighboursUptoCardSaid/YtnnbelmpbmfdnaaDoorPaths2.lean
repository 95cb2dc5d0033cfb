/- Own work, by program: package path: Parent, Base, Kid, Under: walked. -/
import Derived.Test.YtnnbelmpbmfdnaaDoorPath2
import Derived.Test.YtnnbelmpbmfdnaaDoorPaths
namespace Go.Proofs.YtnnbelmpbmfdnaaDoor
open Go
set_option maxRecDepth 100000 in
theorem lastidx0_spec (s : Bs) (hs : s.length ≤ 1099511627776) : Fn Tryd.prog 79 #[vstr s, .int .u8 47] [] fun v L => v = vint (lidxZ s) ∧ L = [] := by
  refine Fn.intro (vs := [vstr s, .int .u8 47]) Tryd.func79 rfl rfl ?_
  intro F W
  have hbs := bs_size s
  refine G.seq ?_
  refine G.region ?_
  refine G.q (Quiet.assign rfl) rfl ?_
  refine G.nil ?_
  refine G.then_n ?_
  refine G.seq ?_
  refine G.seq ?_
  refine G.region ?_
  refine G.q (Quiet.move rfl) rfl ?_
  refine G.q (Quiet.strlen rfl Tryd.underlying9 rfl) rfl ?_
  refine G.q (Quiet.sub rfl rfl (by omega)) rfl ?_
  refine G.q (Quiet.assign rfl) rfl ?_
  refine G.nil ?_
  refine G.then_n ?_
  refine G.block ?_
  refine G.loopK (ι := Nat) (fun q E => (5, vint (dnL s.length q)) :: E) (fun q => []) (fun q => q ≤ s.length ∧ lidxTo s (s.length - q) = lidxZ s) (fun q => s.length - q) (0) (ts := [0, 1]) (.cons rfl (.cons rfl (.nil))) (⟨Nat.zero_le _, rfl⟩) ⟨rfl, rfl, rfl, trivial⟩ (by (repeat (first | exact Picks.nil | (apply Picks.cons; (repeat (first | exact Pick.here | apply Pick.there)))))) ?_
  rintro k ⟨hk, hl⟩
  have hdn := dnL_eq s.length k
  refine G.seq ?_
  refine G.seq ?_
  refine G.region ?_
  refine G.q (Quiet.move rfl) rfl ?_
  refine G.q (Quiet.int rfl rfl rfl) rfl ?_
  refine G.nil ?_
  refine G.then_n ?_
  refine G.condD rfl (fun h10 => ?_) (fun h10 => ?_)
  · have hk2 : k < s.length := by omega
    have hat : s[s.length - (k + 1)] = s.getD (s.length - (k + 1)) 0 := by rw [List.getD_eq_getElem?_getD, List.getElem?_eq_getElem (by omega), Option.getD_some]
    refine G.skip ?_
    refine G.then_n ?_
    refine G.seq ?_
    refine G.block ?_
    refine G.seq ?_
    refine G.region ?_
    refine G.q (Quiet.move rfl) rfl ?_
    refine G.q (Quiet.move rfl) rfl ?_
    refine G.q (Quiet.strIndex (c := s[s.length - (k + 1)]) rfl rfl Tryd.underlying9 (by omega) (by rw [show (dnL s.length k).toNat = s.length - (k + 1) by omega]; simp [show s.length - (k + 1) < s.length by omega])) rfl ?_
    refine G.q (Quiet.move rfl) rfl ?_
    refine G.q (Quiet.int rfl rfl rfl) rfl ?_
    refine G.nil ?_
    refine G.then_n ?_
    refine G.condD rfl (fun h17 => ?_) (fun h17 => ?_)
    · have he : s.getD (s.length - (k + 1)) 0 = 47 := by rw [← hat]; exact byte_eq h17
      refine G.seq ?_
      refine G.region ?_
      refine G.q (Quiet.move rfl) rfl ?_
      refine G.q (Quiet.assign rfl) rfl ?_
      refine G.nil ?_
      refine G.then_n ?_
      refine G.ret ?_
      refine G.blk_r ?_
      refine G.then_r ?_
      refine G.then_r ?_
      refine G.blk_r ?_
      refine G.then_r ?_
      exact G.done (l := [.tmp 4]) rfl rfl ⟨by rw [← hl, show s.length - k = (s.length - (k + 1)) + 1 by omega, lidxTo, if_pos he, hdn]; congr 1; omega, rfl⟩ (by (repeat (first | exact Picks.nil | (apply Picks.cons; (repeat (first | exact Pick.here | apply Pick.there)))))) (by (repeat (first | exact Suff.here | apply Suff.there)))
    · have hne : ¬ s.getD (s.length - (k + 1)) 0 = 47 := by rw [← hat]; exact fun e => h17 (by rw [e]; rfl)
      refine G.skip ?_
      refine G.blk_n ?_
      refine G.then_n ?_
      refine G.region ?_
      refine G.q (Quiet.move rfl) rfl ?_
      refine G.q (Quiet.sub rfl rfl (by omega)) rfl ?_
      refine G.q (Quiet.assign rfl) rfl ?_
      refine G.nil ?_
      refine G.then_n ?_
      exact G.roundK (k + 1) (⟨by omega, by rw [← hl, show s.length - k = (s.length - (k + 1)) + 1 by omega, lidxTo, if_neg hne]⟩) (by omega) ⟨rfl, rfl, rfl, trivial⟩ (by (repeat (first | exact Picks.nil | (apply Picks.cons; (repeat (first | exact Pick.here | apply Pick.there)))))) (by ((repeat (apply Have.cons; (repeat (first | exact Pick.here | apply Pick.there)))); apply Have.base; repeat (first | exact Suff.here | apply Suff.there)))
  · refine G.exit ?_
    refine G.then_e ?_
    refine G.then_e ?_
    refine G.blk_e ?_
    refine G.then_n ?_
    refine G.seq ?_
    refine G.region ?_
    refine G.q (Quiet.assign rfl) rfl ?_
    refine G.nil ?_
    refine G.then_n ?_
    refine G.ret ?_
    exact G.done (l := [.tmp 4]) rfl rfl ⟨by rw [← hl, show s.length - k = 0 by omega]; rfl, rfl⟩ (by (repeat (first | exact Picks.nil | (apply Picks.cons; (repeat (first | exact Pick.here | apply Pick.there)))))) (by (repeat (first | exact Suff.here | apply Suff.there)))

set_option maxRecDepth 100000 in
theorem lastidx_spec (s : Bs) (hs : s.length ≤ 1099511627776) : Fn Tryd.prog 69 #[vstr s, .int .u8 47] [] fun v L => v = vint (lidxZ s) ∧ L = [] := by
  refine Fn.intro (vs := [vstr s, .int .u8 47]) Tryd.func69 rfl rfl ?_
  intro F W
  refine G.seq ?_
  refine G.region ?_
  refine G.q (Quiet.assign rfl) rfl ?_
  refine G.nil ?_
  refine G.then_n ?_
  refine G.seq ?_
  refine G.region ?_
  refine G.q (Quiet.move rfl) rfl ?_
  refine G.q (Quiet.move rfl) rfl ?_
  refine G.op (OpSpec.call Tryd.func79 rfl rfl (vs := [_, _]) rfl (lastidx0_spec _ ?hs4)) (by (repeat (first | exact Picks.nil | (apply Picks.cons; (repeat (first | exact Pick.here | apply Pick.there)))))) rfl ?nx5
  case hs4 => assumption
  rintro v L' ⟨rfl, rfl⟩
  refine G.q (Quiet.assign rfl) rfl ?_
  refine G.nil ?_
  refine G.then_n ?_
  refine G.ret ?_
  exact G.done (l := [.tmp 4]) rfl rfl ⟨rfl, rfl⟩ (by (repeat (first | exact Picks.nil | (apply Picks.cons; (repeat (first | exact Pick.here | apply Pick.there)))))) (by (repeat (first | exact Suff.here | apply Suff.there)))

set_option maxRecDepth 100000 in
theorem parent_spec (s : Bs) (hs : s.length ≤ 1099511627776) : Fn Tryd.prog 55 #[vstr s] [] fun v L => v = vstr (parentZ s) ∧ L = [] := by
  refine Fn.intro (vs := [vstr s]) Tryd.func55 rfl rfl ?_
  intro F W
  have hr := lidx_range s
  refine G.seq ?_
  refine G.region ?_
  refine G.q (Quiet.assign rfl) rfl ?_
  refine G.nil ?_
  refine G.then_n ?_
  refine G.seq ?_
  refine G.region ?_
  refine G.q (Quiet.move rfl) rfl ?_
  refine G.op (OpSpec.call Tryd.func69 rfl rfl (vs := [_, _]) rfl (lastidx_spec _ ?hs3)) (by (repeat (first | exact Picks.nil | (apply Picks.cons; (repeat (first | exact Pick.here | apply Pick.there)))))) rfl ?nx4
  case hs3 => assumption
  rintro v L' ⟨rfl, rfl⟩
  refine G.q (Quiet.assign rfl) rfl ?_
  refine G.nil ?_
  refine G.then_n ?_
  refine G.block ?_
  refine G.seq ?_
  refine G.region ?_
  refine G.q (Quiet.move rfl) rfl ?_
  refine G.q (Quiet.int rfl rfl rfl) rfl ?_
  refine G.q (Quiet.move rfl) rfl ?_
  refine G.dec (t := 12) rfl (fun h3_12 => ?_) (fun h3_12 => ?_)
  · refine G.kDT (t := 11) rfl h3_12 ?_
    refine G.gskip (t := 12) rfl rfl rfl rfl ?_
    refine G.gskip (t := 12) rfl rfl rfl rfl ?_
    refine G.q (Quiet.pickT rfl rfl) rfl ?_
    refine G.q (Quiet.assign rfl) rfl ?_
    refine G.nil ?_
    refine G.then_n ?_
    refine G.condT rfl ?_
    refine G.seq ?_
    refine G.region ?_
    refine G.q (Quiet.assign rfl) rfl ?_
    refine G.nil ?_
    refine G.then_n ?_
    refine G.ret ?_
    refine G.blk_r ?_
    exact G.done (l := [.tmp 2]) rfl rfl ⟨by unfold parentZ; rw [if_pos (by first | exact .inl (by omega) | exact .inr (by assumption))], rfl⟩ (by (repeat (first | exact Picks.nil | (apply Picks.cons; (repeat (first | exact Pick.here | apply Pick.there)))))) (by (repeat (first | exact Suff.here | apply Suff.there)))
  · refine G.kDF (t := 11) rfl h3_12 ?_
    refine G.grun (t := 12) rfl rfl rfl ?_
    refine G.q (Quiet.move rfl) rfl ?_
    refine G.grun (t := 12) rfl rfl rfl ?_
    refine G.q (Quiet.streq rfl rfl) rfl ?_
    refine G.q (Quiet.pickF rfl rfl) rfl ?_
    refine G.q (Quiet.assign rfl) rfl ?_
    refine G.nil ?_
    refine G.then_n ?_
    refine G.dec (t := 9) rfl (fun h9 => ?_) (fun h9 => ?_)
    · refine G.condT rfl ?_
      refine G.seq ?_
      refine G.region ?_
      refine G.q (Quiet.assign rfl) rfl ?_
      refine G.nil ?_
      refine G.then_n ?_
      refine G.ret ?_
      refine G.blk_r ?_
      exact G.done (l := [.tmp 2]) rfl rfl ⟨by unfold parentZ; rw [if_pos (by first | exact .inl (by omega) | exact .inr (by assumption))], rfl⟩ (by (repeat (first | exact Picks.nil | (apply Picks.cons; (repeat (first | exact Pick.here | apply Pick.there)))))) (by (repeat (first | exact Suff.here | apply Suff.there)))
    · refine G.condF rfl ?_
      refine G.seq ?_
      refine G.region ?_
      refine G.q (Quiet.move rfl) rfl ?_
      refine G.q (Quiet.int rfl rfl rfl) rfl ?_
      refine G.q (Quiet.assign rfl) rfl ?_
      refine G.nil ?_
      refine G.then_n ?_
      refine G.condD rfl (fun h16 => ?_) (fun h16 => ?_)
      · refine G.seq ?_
        refine G.region ?_
        refine G.q (Quiet.assign rfl) rfl ?_
        refine G.nil ?_
        refine G.then_n ?_
        refine G.ret ?_
        refine G.blk_r ?_
        exact G.done (l := [.tmp 2]) rfl rfl ⟨by unfold parentZ; rw [if_neg (by rintro (g | g); omega; exact absurd g h9), if_pos h16], rfl⟩ (by (repeat (first | exact Picks.nil | (apply Picks.cons; (repeat (first | exact Pick.here | apply Pick.there)))))) (by (repeat (first | exact Suff.here | apply Suff.there)))
      · refine G.seq ?_
        refine G.region ?_
        refine G.q (Quiet.move rfl) rfl ?_
        refine G.q (Quiet.move rfl) rfl ?_
        refine G.q (Quiet.strTo rfl rfl Tryd.underlying9 (by omega)) rfl ?_
        refine G.q (Quiet.assign rfl) rfl ?_
        refine G.nil ?_
        refine G.then_n ?_
        refine G.ret ?_
        refine G.blk_r ?_
        exact G.done (l := [.tmp 2]) rfl rfl ⟨by unfold parentZ; rw [if_neg (by rintro (g | g); omega; exact absurd g h9), if_neg h16], rfl⟩ (by (repeat (first | exact Picks.nil | (apply Picks.cons; (repeat (first | exact Pick.here | apply Pick.there)))))) (by (repeat (first | exact Suff.here | apply Suff.there)))

set_option maxRecDepth 100000 in
theorem base_spec (s : Bs) (hs : s.length ≤ 1099511627776) : Fn Tryd.prog 56 #[vstr s] [] fun v L => v = vstr (baseZ s) ∧ L = [] := by
  refine Fn.intro (vs := [vstr s]) Tryd.func56 rfl rfl ?_
  intro F W
  have hr := lidx_range s
  refine G.seq ?_
  refine G.region ?_
  refine G.q (Quiet.assign rfl) rfl ?_
  refine G.nil ?_
  refine G.then_n ?_
  refine G.seq ?_
  refine G.region ?_
  refine G.q (Quiet.move rfl) rfl ?_
  refine G.q (Quiet.move rfl) rfl ?_
  refine G.op (OpSpec.call Tryd.func69 rfl rfl (vs := [_, _]) rfl (lastidx_spec _ ?hs4)) (by (repeat (first | exact Picks.nil | (apply Picks.cons; (repeat (first | exact Pick.here | apply Pick.there)))))) rfl ?nx5
  case hs4 => assumption
  rintro v L' ⟨rfl, rfl⟩
  refine G.q (Quiet.add rfl rfl (by omega)) rfl ?_
  refine G.q (Quiet.strFrom rfl rfl Tryd.underlying9 (by omega)) rfl ?_
  refine G.q (Quiet.assign rfl) rfl ?_
  refine G.nil ?_
  refine G.then_n ?_
  refine G.ret ?_
  exact G.done (l := [.tmp 2]) rfl rfl ⟨rfl, rfl⟩ (by (repeat (first | exact Picks.nil | (apply Picks.cons; (repeat (first | exact Pick.here | apply Pick.there)))))) (by (repeat (first | exact Suff.here | apply Suff.there)))

set_option maxRecDepth 100000 in
theorem hasprefix0_spec (s q : Bs) : Fn Tryd.prog 93 #[vstr s, vstr q] [] fun v L => v = .bool (decide (pfx q s)) ∧ L = [] := by
  refine Fn.intro (vs := [vstr s, vstr q]) Tryd.func93 rfl rfl ?_
  intro F W
  have h1 := bs_size s
  have h2 := bs_size q
  refine G.seq ?_
  refine G.region ?_
  refine G.q (Quiet.assign rfl) rfl ?_
  refine G.nil ?_
  refine G.then_n ?_
  refine G.seq ?_
  refine G.region ?_
  refine G.q (Quiet.move rfl) rfl ?_
  refine G.q (Quiet.strlen rfl Tryd.underlying9 rfl) rfl ?_
  refine G.q (Quiet.move rfl) rfl ?_
  refine G.q (Quiet.strlen rfl Tryd.underlying9 rfl) rfl ?_
  refine G.q (Quiet.int rfl rfl rfl) rfl ?_
  refine G.q (Quiet.move rfl) rfl ?_
  refine G.dec (t := 10) rfl (fun h1_10 => ?_) (fun h1_10 => ?_)
  · refine G.kDT (t := 9) rfl h1_10 ?_
    refine G.grun (t := 10) rfl rfl rfl ?_
    refine G.q (Quiet.move rfl) rfl ?_
    refine G.grun (t := 10) rfl rfl rfl ?_
    refine G.q (Quiet.move rfl) rfl ?_
    refine G.grun (t := 10) rfl rfl rfl ?_
    refine G.q (Quiet.strlen rfl Tryd.underlying9 rfl) rfl ?_
    refine G.grun (t := 10) rfl rfl rfl ?_
    refine G.q (Quiet.to (v' := vstr (s.take q.length)) (Quiet.strTo rfl rfl Tryd.underlying9 (by omega)) (by rw [Int.toNat_natCast])) rfl ?_
    refine G.grun (t := 10) rfl rfl rfl ?_
    refine G.q (Quiet.move rfl) rfl ?_
    refine G.grun (t := 10) rfl rfl rfl ?_
    refine G.q (Quiet.streq rfl rfl) rfl ?_
    refine G.q (Quiet.pickT rfl rfl) rfl ?_
    refine G.q (Quiet.assign rfl) rfl ?_
    refine G.nil ?_
    refine G.then_n ?_
    refine G.ret ?_
    exact G.done (l := [.tmp 4]) rfl rfl ⟨rfl, rfl⟩ (by (repeat (first | exact Picks.nil | (apply Picks.cons; (repeat (first | exact Pick.here | apply Pick.there)))))) (by (repeat (first | exact Suff.here | apply Suff.there)))
  · refine G.kDF (t := 9) rfl h1_10 ?_
    refine G.gskip (t := 10) rfl rfl rfl rfl ?_
    refine G.gskip (t := 10) rfl rfl rfl rfl ?_
    refine G.gskip (t := 10) rfl rfl rfl rfl ?_
    refine G.gskip (t := 10) rfl rfl rfl rfl ?_
    refine G.gskip (t := 10) rfl rfl rfl rfl ?_
    refine G.gskip (t := 10) rfl rfl rfl rfl ?_
    refine G.q (Quiet.pickF rfl rfl) rfl ?_
    refine G.q (Quiet.assign rfl) rfl ?_
    refine G.nil ?_
    refine G.then_n ?_
    refine G.ret ?_
    exact G.done (l := [.tmp 4]) rfl rfl ⟨by rw [decide_eq_false (fun e => by unfold pfx at e; have := congrArg List.length e; rw [List.length_take] at this; omega)], rfl⟩ (by (repeat (first | exact Picks.nil | (apply Picks.cons; (repeat (first | exact Pick.here | apply Pick.there)))))) (by (repeat (first | exact Suff.here | apply Suff.there)))

set_option maxRecDepth 100000 in
theorem hasprefix_spec (s q : Bs) : Fn Tryd.prog 74 #[vstr s, vstr q] [] fun v L => v = .bool (decide (pfx q s)) ∧ L = [] := by
  refine Fn.intro (vs := [vstr s, vstr q]) Tryd.func74 rfl rfl ?_
  intro F W
  refine G.seq ?_
  refine G.region ?_
  refine G.q (Quiet.assign rfl) rfl ?_
  refine G.nil ?_
  refine G.then_n ?_
  refine G.seq ?_
  refine G.region ?_
  refine G.q (Quiet.move rfl) rfl ?_
  refine G.q (Quiet.move rfl) rfl ?_
  refine G.op (OpSpec.call Tryd.func93 rfl rfl (vs := [_, _]) rfl (hasprefix0_spec _ _)) (by (repeat (first | exact Picks.nil | (apply Picks.cons; (repeat (first | exact Pick.here | apply Pick.there)))))) rfl ?nx4
  rintro v L' ⟨rfl, rfl⟩
  refine G.q (Quiet.assign rfl) rfl ?_
  refine G.nil ?_
  refine G.then_n ?_
  refine G.ret ?_
  exact G.done (l := [.tmp 4]) rfl rfl ⟨rfl, rfl⟩ (by (repeat (first | exact Picks.nil | (apply Picks.cons; (repeat (first | exact Pick.here | apply Pick.there)))))) (by (repeat (first | exact Suff.here | apply Suff.there)))

set_option maxRecDepth 100000 in
theorem hassuffix0_spec (s q : Bs) (hs : s.length ≤ 1099511627776) (hq : q.length ≤ 1099511627776) : Fn Tryd.prog 110 #[vstr s, vstr q] [] fun v L => v = .bool (decide (sfx q s)) ∧ L = [] := by
  refine Fn.intro (vs := [vstr s, vstr q]) Tryd.func110 rfl rfl ?_
  intro F W
  have h1 := bs_size s
  have h2 := bs_size q
  refine G.seq ?_
  refine G.region ?_
  refine G.q (Quiet.assign rfl) rfl ?_
  refine G.nil ?_
  refine G.then_n ?_
  refine G.seq ?_
  refine G.region ?_
  refine G.q (Quiet.move rfl) rfl ?_
  refine G.q (Quiet.strlen rfl Tryd.underlying9 rfl) rfl ?_
  refine G.q (Quiet.move rfl) rfl ?_
  refine G.q (Quiet.strlen rfl Tryd.underlying9 rfl) rfl ?_
  refine G.q (Quiet.int rfl rfl rfl) rfl ?_
  refine G.q (Quiet.move rfl) rfl ?_
  refine G.dec (t := 10) rfl (fun h1_10 => ?_) (fun h1_10 => ?_)
  · refine G.kDT (t := 9) rfl h1_10 ?_
    refine G.grun (t := 10) rfl rfl rfl ?_
    refine G.q (Quiet.move rfl) rfl ?_
    refine G.grun (t := 10) rfl rfl rfl ?_
    refine G.q (Quiet.move rfl) rfl ?_
    refine G.grun (t := 10) rfl rfl rfl ?_
    refine G.q (Quiet.strlen rfl Tryd.underlying9 rfl) rfl ?_
    refine G.grun (t := 10) rfl rfl rfl ?_
    refine G.q (Quiet.move rfl) rfl ?_
    refine G.grun (t := 10) rfl rfl rfl ?_
    refine G.q (Quiet.strlen rfl Tryd.underlying9 rfl) rfl ?_
    refine G.grun (t := 10) rfl rfl rfl ?_
    refine G.q (Quiet.sub rfl rfl (by omega)) rfl ?_
    refine G.grun (t := 10) rfl rfl rfl ?_
    refine G.q (Quiet.to (v' := vstr (s.drop (s.length - q.length))) (Quiet.strFrom rfl rfl Tryd.underlying9 (by omega)) (by rw [show ((s.length : Int) - (q.length : Int)).toNat = s.length - q.length by omega])) rfl ?_
    refine G.grun (t := 10) rfl rfl rfl ?_
    refine G.q (Quiet.move rfl) rfl ?_
    refine G.grun (t := 10) rfl rfl rfl ?_
    refine G.q (Quiet.streq rfl rfl) rfl ?_
    refine G.q (Quiet.pickT rfl rfl) rfl ?_
    refine G.q (Quiet.assign rfl) rfl ?_
    refine G.nil ?_
    refine G.then_n ?_
    refine G.ret ?_
    exact G.done (l := [.tmp 4]) rfl rfl ⟨by congr 1; exact decide_eq_decide.2 ⟨fun e => ⟨by omega, e⟩, fun e => e.2⟩, rfl⟩ (by (repeat (first | exact Picks.nil | (apply Picks.cons; (repeat (first | exact Pick.here | apply Pick.there)))))) (by (repeat (first | exact Suff.here | apply Suff.there)))
  · refine G.kDF (t := 9) rfl h1_10 ?_
    refine G.gskip (t := 10) rfl rfl rfl rfl ?_
    refine G.gskip (t := 10) rfl rfl rfl rfl ?_
    refine G.gskip (t := 10) rfl rfl rfl rfl ?_
    refine G.gskip (t := 10) rfl rfl rfl rfl ?_
    refine G.gskip (t := 10) rfl rfl rfl rfl ?_
    refine G.gskip (t := 10) rfl rfl rfl rfl ?_
    refine G.gskip (t := 10) rfl rfl rfl rfl ?_
    refine G.gskip (t := 10) rfl rfl rfl rfl ?_
    refine G.gskip (t := 10) rfl rfl rfl rfl ?_
    refine G.q (Quiet.pickF rfl rfl) rfl ?_
    refine G.q (Quiet.assign rfl) rfl ?_
    refine G.nil ?_
    refine G.then_n ?_
    refine G.ret ?_
    exact G.done (l := [.tmp 4]) rfl rfl ⟨by rw [decide_eq_false (fun e => by have := e.1; omega)], rfl⟩ (by (repeat (first | exact Picks.nil | (apply Picks.cons; (repeat (first | exact Pick.here | apply Pick.there)))))) (by (repeat (first | exact Suff.here | apply Suff.there)))

set_option maxRecDepth 100000 in
theorem trimsuffix0_spec (s q : Bs) (hs : s.length ≤ 1099511627776) (hq : q.length ≤ 1099511627776) : Fn Tryd.prog 103 #[vstr s, vstr q] [] fun v L => v = vstr (trimZ s q) ∧ L = [] := by
  refine Fn.intro (vs := [vstr s, vstr q]) Tryd.func103 rfl rfl ?_
  intro F W
  have h1 := bs_size s
  have h2 := bs_size q
  refine G.seq ?_
  refine G.region ?_
  refine G.q (Quiet.assign rfl) rfl ?_
  refine G.nil ?_
  refine G.then_n ?_
  refine G.seq ?_
  refine G.seq ?_
  refine G.region ?_
  refine G.q (Quiet.move rfl) rfl ?_
  refine G.q (Quiet.move rfl) rfl ?_
  refine G.op (OpSpec.call Tryd.func110 rfl rfl (vs := [_, _]) rfl (hassuffix0_spec _ _ ?hs4 ?hq5)) (by (repeat (first | exact Picks.nil | (apply Picks.cons; (repeat (first | exact Pick.here | apply Pick.there)))))) rfl ?nx6
  case hs4 => assumption
  case hq5 => assumption
  rintro v L' ⟨rfl, rfl⟩
  refine G.nil ?_
  refine G.then_n ?_
  refine G.condD rfl (fun h7 => ?_) (fun h7 => ?_)
  · have hsf := h7.1
    refine G.seq ?_
    refine G.region ?_
    refine G.q (Quiet.move rfl) rfl ?_
    refine G.q (Quiet.move rfl) rfl ?_
    refine G.q (Quiet.strlen rfl Tryd.underlying9 rfl) rfl ?_
    refine G.q (Quiet.move rfl) rfl ?_
    refine G.q (Quiet.strlen rfl Tryd.underlying9 rfl) rfl ?_
    refine G.q (Quiet.sub rfl rfl (by omega)) rfl ?_
    refine G.q (Quiet.to (v' := vstr (trimZ s q)) (Quiet.strTo rfl rfl Tryd.underlying9 (by omega)) (by unfold trimZ; rw [if_pos h7, show ((s.length : Int) - (q.length : Int)).toNat = s.length - q.length by omega])) rfl ?_
    refine G.q (Quiet.assign rfl) rfl ?_
    refine G.nil ?_
    refine G.then_n ?_
    refine G.ret ?_
    refine G.then_r ?_
    exact G.done (l := [.tmp 4]) rfl rfl ⟨rfl, rfl⟩ (by (repeat (first | exact Picks.nil | (apply Picks.cons; (repeat (first | exact Pick.here | apply Pick.there)))))) (by (repeat (first | exact Suff.here | apply Suff.there)))
  · refine G.skip ?_
    refine G.then_n ?_
    refine G.seq ?_
    refine G.region ?_
    refine G.q (Quiet.move rfl) rfl ?_
    refine G.q (Quiet.assign rfl) rfl ?_
    refine G.nil ?_
    refine G.then_n ?_
    refine G.ret ?_
    exact G.done (l := [.tmp 4]) rfl rfl ⟨by unfold trimZ; rw [if_neg h7], rfl⟩ (by (repeat (first | exact Picks.nil | (apply Picks.cons; (repeat (first | exact Pick.here | apply Pick.there)))))) (by (repeat (first | exact Suff.here | apply Suff.there)))

set_option maxRecDepth 100000 in
theorem trimsuffix_spec (s q : Bs) (hs : s.length ≤ 1099511627776) (hq : q.length ≤ 1099511627776) : Fn Tryd.prog 91 #[vstr s, vstr q] [] fun v L => v = vstr (trimZ s q) ∧ L = [] := by
  refine Fn.intro (vs := [vstr s, vstr q]) Tryd.func91 rfl rfl ?_
  intro F W
  refine G.seq ?_
  refine G.region ?_
  refine G.q (Quiet.assign rfl) rfl ?_
  refine G.nil ?_
  refine G.then_n ?_
  refine G.seq ?_
  refine G.region ?_
  refine G.q (Quiet.move rfl) rfl ?_
  refine G.q (Quiet.move rfl) rfl ?_
  refine G.op (OpSpec.call Tryd.func103 rfl rfl (vs := [_, _]) rfl (trimsuffix0_spec _ _ ?hs4 ?hq5)) (by (repeat (first | exact Picks.nil | (apply Picks.cons; (repeat (first | exact Pick.here | apply Pick.there)))))) rfl ?nx6
  case hs4 => assumption
  case hq5 => assumption
  rintro v L' ⟨rfl, rfl⟩
  refine G.q (Quiet.assign rfl) rfl ?_
  refine G.nil ?_
  refine G.then_n ?_
  refine G.ret ?_
  exact G.done (l := [.tmp 4]) rfl rfl ⟨rfl, rfl⟩ (by (repeat (first | exact Picks.nil | (apply Picks.cons; (repeat (first | exact Pick.here | apply Pick.there)))))) (by (repeat (first | exact Suff.here | apply Suff.there)))

set_option maxRecDepth 100000 in
theorem slashof_spec (s : Bs) : Fn Tryd.prog 92 #[vstr s] [] fun v L => v = vstr (if s = [47] then [47] else []) ∧ L = [] := by
  refine Fn.intro (vs := [vstr s]) Tryd.func92 rfl rfl ?_
  intro F W
  refine G.seq ?_
  refine G.region ?_
  refine G.q (Quiet.assign rfl) rfl ?_
  refine G.nil ?_
  refine G.then_n ?_
  refine G.seq ?_
  refine G.seq ?_
  refine G.region ?_
  refine G.q (Quiet.move rfl) rfl ?_
  refine G.q (Quiet.streq rfl rfl) rfl ?_
  refine G.nil ?_
  refine G.then_n ?_
  refine G.condD rfl (fun h4 => ?_) (fun h4 => ?_)
  · refine G.seq ?_
    refine G.region ?_
    refine G.q (Quiet.assign rfl) rfl ?_
    refine G.nil ?_
    refine G.then_n ?_
    refine G.ret ?_
    refine G.then_r ?_
    exact G.done (l := [.tmp 2]) rfl rfl ⟨by rw [if_pos h4], rfl⟩ (by (repeat (first | exact Picks.nil | (apply Picks.cons; (repeat (first | exact Pick.here | apply Pick.there)))))) (by (repeat (first | exact Suff.here | apply Suff.there)))
  · refine G.skip ?_
    refine G.then_n ?_
    refine G.seq ?_
    refine G.region ?_
    refine G.q (Quiet.assign rfl) rfl ?_
    refine G.nil ?_
    refine G.then_n ?_
    refine G.ret ?_
    exact G.done (l := [.tmp 2]) rfl rfl ⟨by rw [if_neg h4], rfl⟩ (by (repeat (first | exact Picks.nil | (apply Picks.cons; (repeat (first | exact Pick.here | apply Pick.there)))))) (by (repeat (first | exact Suff.here | apply Suff.there)))

set_option maxRecDepth 100000 in
theorem kid_spec (s name : Bs) (hs : s.length ≤ 1099511627776) (hn : name.length ≤ 1099511627776) : Fn Tryd.prog 73 #[vstr s, vstr name] [] fun v L => v = vstr (kidZ s name) ∧ L = [] := by
  refine Fn.intro (vs := [vstr s, vstr name]) Tryd.func73 rfl rfl ?_
  intro F W
  have htl : (trimZ s (if s = [47] then [47] else [])).length ≤ s.length := trim_len _ _
  refine G.seq ?_
  refine G.region ?_
  refine G.q (Quiet.assign rfl) rfl ?_
  refine G.nil ?_
  refine G.then_n ?_
  refine G.seq ?_
  refine G.region ?_
  refine G.q (Quiet.move rfl) rfl ?_
  refine G.q (Quiet.move rfl) rfl ?_
  refine G.op (OpSpec.call Tryd.func92 rfl rfl (vs := [_]) rfl (slashof_spec _)) (by (repeat (first | exact Picks.nil | (apply Picks.cons; (repeat (first | exact Pick.here | apply Pick.there)))))) rfl ?nx4
  rintro v L' ⟨rfl, rfl⟩
  refine G.op (OpSpec.call Tryd.func91 rfl rfl (vs := [_, _]) rfl (trimsuffix_spec _ _ ?hs6 ?hq7)) (by (repeat (first | exact Picks.nil | (apply Picks.cons; (repeat (first | exact Pick.here | apply Pick.there)))))) rfl ?nx8
  case hs6 => assumption
  case hq7 => first | assumption | (split <;> simp) | simp
  rintro v L' ⟨rfl, rfl⟩
  refine G.q (Quiet.concat rfl rfl (by simp; omega)) rfl ?_
  refine G.q (Quiet.move rfl) rfl ?_
  refine G.q (Quiet.concat rfl rfl (by simp; omega)) rfl ?_
  refine G.q (Quiet.assign rfl) rfl ?_
  refine G.nil ?_
  refine G.then_n ?_
  refine G.ret ?_
  exact G.done (l := [.tmp 4]) rfl rfl ⟨by rw [kid_trim], rfl⟩ (by (repeat (first | exact Picks.nil | (apply Picks.cons; (repeat (first | exact Pick.here | apply Pick.there)))))) (by (repeat (first | exact Suff.here | apply Suff.there)))

set_option maxRecDepth 100000 in
theorem under_spec (s q : Bs) (hq : q.length ≤ 1099511627776) : Fn Tryd.prog 61 #[vstr s, vstr q] [] fun v L => v = .bool (decide (underZ s q)) ∧ L = [] := by
  refine Fn.intro (vs := [vstr s, vstr q]) Tryd.func61 rfl rfl ?_
  intro F W
  refine G.seq ?_
  refine G.region ?_
  refine G.q (Quiet.assign rfl) rfl ?_
  refine G.nil ?_
  refine G.then_n ?_
  refine G.seq ?_
  refine G.region ?_
  refine G.q (Quiet.move rfl) rfl ?_
  refine G.op (OpSpec.call Tryd.func73 rfl rfl (vs := [_, _]) rfl (kid_spec _ _ ?hs3 ?hn4)) (by (repeat (first | exact Picks.nil | (apply Picks.cons; (repeat (first | exact Pick.here | apply Pick.there)))))) rfl ?nx5
  case hs3 => first | assumption | omega
  case hn4 => first | assumption | omega | simp
  rintro v L' ⟨rfl, rfl⟩
  refine G.q (Quiet.assign rfl) rfl ?_
  refine G.nil ?_
  refine G.then_n ?_
  refine G.seq ?_
  refine G.region ?_
  refine G.q (Quiet.move rfl) rfl ?_
  refine G.q (Quiet.move rfl) rfl ?_
  refine G.op (OpSpec.call Tryd.func74 rfl rfl (vs := [_, _]) rfl (hasprefix_spec _ _)) (by (repeat (first | exact Picks.nil | (apply Picks.cons; (repeat (first | exact Pick.here | apply Pick.there)))))) rfl ?nx8
  rintro v L' ⟨rfl, rfl⟩
  refine G.q (Quiet.move rfl) rfl ?_
  refine G.dec (t := 11) rfl (fun h2_11 => ?_) (fun h2_11 => ?_)
  · refine G.kDT (t := 10) rfl h2_11 ?_
    refine G.grun (t := 11) rfl rfl rfl ?_
    refine G.q (Quiet.move rfl) rfl ?_
    refine G.grun (t := 11) rfl rfl rfl ?_
    refine G.q (Quiet.move rfl) rfl ?_
    refine G.grun (t := 11) rfl rfl rfl ?_
    refine G.q (Quiet.strne rfl rfl) rfl ?_
    refine G.q (Quiet.pickT rfl rfl) rfl ?_
    refine G.q (Quiet.assign rfl) rfl ?_
    refine G.nil ?_
    refine G.then_n ?_
    refine G.ret ?_
    exact G.done (l := [.tmp 4]) rfl rfl ⟨by rw [← decide_not]; congr 1; exact decide_eq_decide.2 ⟨fun e => ⟨h2_11, e⟩, fun e => e.2⟩, rfl⟩ (by (repeat (first | exact Picks.nil | (apply Picks.cons; (repeat (first | exact Pick.here | apply Pick.there)))))) (by (repeat (first | exact Suff.here | apply Suff.there)))
  · refine G.kDF (t := 10) rfl h2_11 ?_
    refine G.gskip (t := 11) rfl rfl rfl rfl ?_
    refine G.gskip (t := 11) rfl rfl rfl rfl ?_
    refine G.gskip (t := 11) rfl rfl rfl rfl ?_
    refine G.q (Quiet.pickF rfl rfl) rfl ?_
    refine G.q (Quiet.assign rfl) rfl ?_
    refine G.nil ?_
    refine G.then_n ?_
    refine G.ret ?_
    exact G.done (l := [.tmp 4]) rfl rfl ⟨by rw [decide_eq_false (fun e => h2_11 e.1)], rfl⟩ (by (repeat (first | exact Picks.nil | (apply Picks.cons; (repeat (first | exact Pick.here | apply Pick.there)))))) (by (repeat (first | exact Suff.here | apply Suff.there)))

end Go.Proofs.YtnnbelmpbmfdnaaDoor
