/- Own work, by program: Clip, Clone; Open: walked. -/
import Derived.Test.YtepncdidkjjllaaWalPart
namespace Go.Proofs.Ytepncdidkjjllaa
open Go
theorem G.nilEmpty {W : World} {k : Nat} {ds : List Deferred} {E : Env} {L R : List HP} {X : Act → World → Prop} {p : HP} {sz n c : Nat} {xs : List Value} (hr : ∀ h : Hp, p h → rdS sz h (.slice none n c) n xs) (hL : Pick p L R)
    (h : n = 0 → xs = [] → G W k ds E L X) : G W k ds E L X := by
  intro a w he hk hs
  obtain ⟨g1, -, hp⟩ := sep_head (hs.pick hL)
  rcases hr _ hp with ⟨h1, h2, -⟩ | ⟨b, off, cap, l, T, fr, hv, -⟩
  · exact h h1 h2 a w he hk hs
  · simp at hv
set_option maxRecDepth 100000 in
theorem clipB0_spec : Fn Try.prog 88 #[.slice none 0 0] [slR 5 1 (.slice none 0 0) 0 []] fun u L => u = .slice none 0 0 ∧ L = [slR 5 1 u 0 []] := by
  refine Fn.intro (vs := [.slice none 0 0]) Try.func88 rfl rfl ?_
  intro F W
  refine G.seq ?_
  refine G.region ?_
  refine G.q (Quiet.assign rfl) rfl ?_
  refine G.nil ?_
  refine G.then_n ?_
  refine G.seq ?_
  refine G.region ?_
  refine G.q (Quiet.move rfl) rfl ?_
  refine G.q (Quiet.move rfl) rfl ?_
  refine G.q (Quiet.slen rfl Try.underlying31 rfl) rfl ?_
  refine G.q (Quiet.move rfl) rfl ?_
  refine G.q (Quiet.slen rfl Try.underlying31 rfl) rfl ?_
  refine G.q (Quiet.clip (n := 0) rfl el_31 rfl rfl (Nat.le_refl _) (.inl rfl)) rfl ?_
  refine G.q (Quiet.assign rfl) rfl ?_
  refine G.nil ?_
  refine G.then_n ?_
  refine G.ret ?_
  exact G.done (l := [.tmp 2]) rfl rfl ⟨rfl, rfl⟩ (by (repeat (first | exact Picks.nil | (apply Picks.cons; (repeat (first | exact Pick.here | apply Pick.there)))))) (by (repeat (first | exact Suff.here | apply Suff.there)))

set_option maxRecDepth 100000 in
theorem clipB1_spec (b n c : Nat) (hc : n ≤ c) (xs : List Value) : Fn Try.prog 88 #[.slice (some ⟨b, 0, none⟩) n c] [slR 5 1 (.slice (some ⟨b, 0, none⟩) n c) n xs] fun u L => u = .slice (some ⟨b, 0, none⟩) n n ∧ L = [slR 5 1 u n xs] := by
  refine Fn.intro (vs := [.slice (some ⟨b, 0, none⟩) n c]) Try.func88 rfl rfl ?_
  intro F W
  refine G.seq ?_
  refine G.region ?_
  refine G.q (Quiet.assign rfl) rfl ?_
  refine G.nil ?_
  refine G.then_n ?_
  refine G.seq ?_
  refine G.region ?_
  refine G.q (Quiet.move rfl) rfl ?_
  refine G.q (Quiet.move rfl) rfl ?_
  refine G.q (Quiet.slen rfl Try.underlying31 rfl) rfl ?_
  refine G.q (Quiet.move rfl) rfl ?_
  refine G.q (Quiet.slen rfl Try.underlying31 rfl) rfl ?_
  refine G.q (Quiet.clip (n := n) rfl el_31 rfl rfl hc (.inr ⟨_, _, rfl⟩)) rfl ?_
  refine G.q (Quiet.assign rfl) rfl ?_
  refine G.nil ?_
  refine G.then_n ?_
  refine G.ret ?_
  refine G.slClip (by (repeat (first | exact Pick.here | apply Pick.there))) ?_
  exact G.done (l := [.tmp 2]) rfl rfl ⟨rfl, rfl⟩ (by (repeat (first | exact Picks.nil | (apply Picks.cons; (repeat (first | exact Pick.here | apply Pick.there)))))) (by (repeat (first | exact Suff.here | apply Suff.there)))

theorem clipB_spec (v : Value) (n : Nat) (xs : List Value) : Fn Try.prog 88 #[v] [slR 5 1 v n xs] fun u L => (∃ a c, u = .slice a n c) ∧ L = [slR 5 1 u n xs] := by
  intro F w hs
  obtain ⟨g1, -, hp⟩ := sep_head hs
  rcases hp with ⟨rfl, rfl, rfl⟩ | ⟨b, cap, rest, fr, rfl, -, -, -, h4, -⟩
  · exact (clipB0_spec F w hs).mono fun e w' ⟨u, L, ⟨h1, h2⟩, h3⟩ => ⟨u, L, ⟨⟨_, _, h1⟩, h2⟩, h3⟩
  · exact (clipB1_spec b n cap h4 xs F w hs).mono fun e w' ⟨u, L, ⟨h1, h2⟩, h3⟩ => ⟨u, L, ⟨⟨_, _, h1⟩, h2⟩, h3⟩
set_option maxRecDepth 100000 in
theorem clipT0_spec : Fn Try.prog 109 #[.slice none 0 0] [slR 9 1 (.slice none 0 0) 0 []] fun u L => u = .slice none 0 0 ∧ L = [slR 9 1 u 0 []] := by
  refine Fn.intro (vs := [.slice none 0 0]) Try.func109 rfl rfl ?_
  intro F W
  refine G.seq ?_
  refine G.region ?_
  refine G.q (Quiet.assign rfl) rfl ?_
  refine G.nil ?_
  refine G.then_n ?_
  refine G.seq ?_
  refine G.region ?_
  refine G.q (Quiet.move rfl) rfl ?_
  refine G.q (Quiet.move rfl) rfl ?_
  refine G.q (Quiet.slen rfl Try.underlying22 rfl) rfl ?_
  refine G.q (Quiet.move rfl) rfl ?_
  refine G.q (Quiet.slen rfl Try.underlying22 rfl) rfl ?_
  refine G.q (Quiet.clip (n := 0) rfl el_22 rfl rfl (Nat.le_refl _) (.inl rfl)) rfl ?_
  refine G.q (Quiet.assign rfl) rfl ?_
  refine G.nil ?_
  refine G.then_n ?_
  refine G.ret ?_
  exact G.done (l := [.tmp 2]) rfl rfl ⟨rfl, rfl⟩ (by (repeat (first | exact Picks.nil | (apply Picks.cons; (repeat (first | exact Pick.here | apply Pick.there)))))) (by (repeat (first | exact Suff.here | apply Suff.there)))

set_option maxRecDepth 100000 in
theorem clipT1_spec (b n c : Nat) (hc : n ≤ c) (xs : List Value) : Fn Try.prog 109 #[.slice (some ⟨b, 0, none⟩) n c] [slR 9 1 (.slice (some ⟨b, 0, none⟩) n c) n xs] fun u L => u = .slice (some ⟨b, 0, none⟩) n n ∧ L = [slR 9 1 u n xs] := by
  refine Fn.intro (vs := [.slice (some ⟨b, 0, none⟩) n c]) Try.func109 rfl rfl ?_
  intro F W
  refine G.seq ?_
  refine G.region ?_
  refine G.q (Quiet.assign rfl) rfl ?_
  refine G.nil ?_
  refine G.then_n ?_
  refine G.seq ?_
  refine G.region ?_
  refine G.q (Quiet.move rfl) rfl ?_
  refine G.q (Quiet.move rfl) rfl ?_
  refine G.q (Quiet.slen rfl Try.underlying22 rfl) rfl ?_
  refine G.q (Quiet.move rfl) rfl ?_
  refine G.q (Quiet.slen rfl Try.underlying22 rfl) rfl ?_
  refine G.q (Quiet.clip (n := n) rfl el_22 rfl rfl hc (.inr ⟨_, _, rfl⟩)) rfl ?_
  refine G.q (Quiet.assign rfl) rfl ?_
  refine G.nil ?_
  refine G.then_n ?_
  refine G.ret ?_
  refine G.slClip (by (repeat (first | exact Pick.here | apply Pick.there))) ?_
  exact G.done (l := [.tmp 2]) rfl rfl ⟨rfl, rfl⟩ (by (repeat (first | exact Picks.nil | (apply Picks.cons; (repeat (first | exact Pick.here | apply Pick.there)))))) (by (repeat (first | exact Suff.here | apply Suff.there)))

theorem clipT_spec (v : Value) (n : Nat) (xs : List Value) : Fn Try.prog 109 #[v] [slR 9 1 v n xs] fun u L => (∃ a c, u = .slice a n c) ∧ L = [slR 9 1 u n xs] := by
  intro F w hs
  obtain ⟨g1, -, hp⟩ := sep_head hs
  rcases hp with ⟨rfl, rfl, rfl⟩ | ⟨b, cap, rest, fr, rfl, -, -, -, h4, -⟩
  · exact (clipT0_spec F w hs).mono fun e w' ⟨u, L, ⟨h1, h2⟩, h3⟩ => ⟨u, L, ⟨⟨_, _, h1⟩, h2⟩, h3⟩
  · exact (clipT1_spec b n cap h4 xs F w hs).mono fun e w' ⟨u, L, ⟨h1, h2⟩, h3⟩ => ⟨u, L, ⟨⟨_, _, h1⟩, h2⟩, h3⟩
set_option maxRecDepth 100000 in
theorem cloneB_spec (v : Value) (n : Nat) (xs : List Value) (p : HP) (hr : ∀ h : Hp, p h → rdS 1 h v n xs) (hc : ∀ y ∈ xs, isCell y = true) (hb : n ≤ 4294967296) : Fn Try.prog 83 #[v] [p] fun u L => (∃ a c, u = .slice a n c) ∧ L = [slR 5 1 u n xs, p] := by
  refine Fn.intro (vs := [v]) Try.func83 rfl rfl ?_
  intro F W
  refine G.rdAny (p := p) hr (by (repeat (first | exact Pick.here | apply Pick.there))) fun aa ca e hlen => ?_
  subst e
  refine G.seq ?_
  refine G.region ?_
  refine G.q (Quiet.assign rfl) rfl ?_
  refine G.nil ?_
  refine G.then_n ?_
  refine G.seq ?_
  refine G.seq ?_
  refine G.region ?_
  refine G.q (Quiet.move rfl) rfl ?_
  rcases aa with _ | aa
  · refine G.q (Quiet.sleq rfl rfl Try.underlying31) rfl ?_
    refine G.nil ?_
    refine G.then_n ?_
    refine G.condT rfl ?_
    refine G.seq ?_
    refine G.region ?_
    refine G.q (Quiet.assign rfl) rfl ?_
    refine G.nil ?_
    refine G.then_n ?_
    refine G.ret ?_
    refine G.then_r ?_
    refine G.nilEmpty (p := p) hr (by (repeat (first | exact Pick.here | apply Pick.there))) fun e1 e2 => ?_
    subst e1; subst e2
    refine G.add (slR_nil 5 1) ?_
    exact G.done (l := [.tmp 2]) rfl rfl ⟨⟨_, _, rfl⟩, rfl⟩ (by (repeat (first | exact Picks.nil | (apply Picks.cons; (repeat (first | exact Pick.here | apply Pick.there)))))) (by (repeat (first | exact Suff.here | apply Suff.there)))
  · refine G.q (Quiet.sleq rfl rfl Try.underlying31) rfl ?_
    refine G.nil ?_
    refine G.then_n ?_
    refine G.condF rfl ?_
    refine G.skip ?_
    refine G.then_n ?_
    refine G.seq ?_
    refine G.region ?_
    refine G.op (OpSpec.buildSlice1 (vs := []) el_31 ze_5 rfl rfl rfl rfl rfl (by decide)) (by (repeat (first | exact Picks.nil | (apply Picks.cons; (repeat (first | exact Pick.here | apply Pick.there)))))) rfl ?nx6
    rintro v L' ⟨b0, rfl, rfl⟩
    refine G.q (Quiet.move rfl) rfl ?_
    refine G.slMake (n := 0) (c := 0) (xs := []) (b := b0) (by (repeat (first | exact Pick.here | apply Pick.there))) (Nat.le_refl _) (Nat.zero_le _) rfl ?_
    refine G.op (OpSpec.append (n := 0) (m := n) (xs := []) (ys := xs) (p := p) rfl rfl rfl el_31 (.inl ⟨_, Try.underlying31⟩) ze_5 rfl rfl ?hc9 ?hr10 ?hb11 (by decide)) (by (repeat (first | exact Picks.nil | (apply Picks.cons; (repeat (first | exact Pick.here | apply Pick.there)))))) rfl ?nx12
    case hc9 => exact hc
    case hr10 => exact hr
    case hb11 => omega
    rintro v L' ⟨⟨a1, c1, rfl⟩, rfl⟩; rw [Nat.zero_add, List.nil_append]
    refine G.q (Quiet.assign rfl) rfl ?_
    refine G.nil ?_
    refine G.then_n ?_
    refine G.ret ?_
    exact G.done (l := [.tmp 2]) rfl rfl ⟨⟨_, _, rfl⟩, rfl⟩ (by (repeat (first | exact Picks.nil | (apply Picks.cons; (repeat (first | exact Pick.here | apply Pick.there)))))) (by (repeat (first | exact Suff.here | apply Suff.there)))

set_option maxRecDepth 100000 in
theorem cloneT_spec (v : Value) (n : Nat) (xs : List Value) (p : HP) (hr : ∀ h : Hp, p h → rdS 1 h v n xs) (hc : ∀ y ∈ xs, isCell y = true) (hb : n ≤ 4294967296) : Fn Try.prog 110 #[v] [p] fun u L => (∃ a c, u = .slice a n c) ∧ L = [slR 9 1 u n xs, p] := by
  refine Fn.intro (vs := [v]) Try.func110 rfl rfl ?_
  intro F W
  refine G.rdAny (p := p) hr (by (repeat (first | exact Pick.here | apply Pick.there))) fun aa ca e hlen => ?_
  subst e
  refine G.seq ?_
  refine G.region ?_
  refine G.q (Quiet.assign rfl) rfl ?_
  refine G.nil ?_
  refine G.then_n ?_
  refine G.seq ?_
  refine G.seq ?_
  refine G.region ?_
  refine G.q (Quiet.move rfl) rfl ?_
  rcases aa with _ | aa
  · refine G.q (Quiet.sleq rfl rfl Try.underlying22) rfl ?_
    refine G.nil ?_
    refine G.then_n ?_
    refine G.condT rfl ?_
    refine G.seq ?_
    refine G.region ?_
    refine G.q (Quiet.assign rfl) rfl ?_
    refine G.nil ?_
    refine G.then_n ?_
    refine G.ret ?_
    refine G.then_r ?_
    refine G.nilEmpty (p := p) hr (by (repeat (first | exact Pick.here | apply Pick.there))) fun e1 e2 => ?_
    subst e1; subst e2
    refine G.add (slR_nil 9 1) ?_
    exact G.done (l := [.tmp 2]) rfl rfl ⟨⟨_, _, rfl⟩, rfl⟩ (by (repeat (first | exact Picks.nil | (apply Picks.cons; (repeat (first | exact Pick.here | apply Pick.there)))))) (by (repeat (first | exact Suff.here | apply Suff.there)))
  · refine G.q (Quiet.sleq rfl rfl Try.underlying22) rfl ?_
    refine G.nil ?_
    refine G.then_n ?_
    refine G.condF rfl ?_
    refine G.skip ?_
    refine G.then_n ?_
    refine G.seq ?_
    refine G.region ?_
    refine G.op (OpSpec.buildSlice1 (vs := []) el_22 ze_9 rfl rfl rfl rfl rfl (by decide)) (by (repeat (first | exact Picks.nil | (apply Picks.cons; (repeat (first | exact Pick.here | apply Pick.there)))))) rfl ?nx6
    rintro v L' ⟨b0, rfl, rfl⟩
    refine G.q (Quiet.move rfl) rfl ?_
    refine G.slMake (n := 0) (c := 0) (xs := []) (b := b0) (by (repeat (first | exact Pick.here | apply Pick.there))) (Nat.le_refl _) (Nat.zero_le _) rfl ?_
    refine G.op (OpSpec.append (n := 0) (m := n) (xs := []) (ys := xs) (p := p) rfl rfl rfl el_22 (.inl ⟨_, Try.underlying22⟩) ze_9 rfl rfl ?hc9 ?hr10 ?hb11 (by decide)) (by (repeat (first | exact Picks.nil | (apply Picks.cons; (repeat (first | exact Pick.here | apply Pick.there)))))) rfl ?nx12
    case hc9 => exact hc
    case hr10 => exact hr
    case hb11 => omega
    rintro v L' ⟨⟨a1, c1, rfl⟩, rfl⟩; rw [Nat.zero_add, List.nil_append]
    refine G.q (Quiet.assign rfl) rfl ?_
    refine G.nil ?_
    refine G.then_n ?_
    refine G.ret ?_
    exact G.done (l := [.tmp 2]) rfl rfl ⟨⟨_, _, rfl⟩, rfl⟩ (by (repeat (first | exact Picks.nil | (apply Picks.cons; (repeat (first | exact Pick.here | apply Pick.there)))))) (by (repeat (first | exact Suff.here | apply Suff.there)))

set_option maxRecDepth 100000 in
theorem open_spec (d : Nat) (δ : Dk) (hn : 2 ≤ δ.now.length ∧ δ.now.length ≤ 32768) (hok : δ.Ok) : Fn Try.prog 30 #[vptr d] [dkR d δ] fun v L => (δ.dead = true ∧ v = .tuple #[.pointer none, vint 2] ∧ L = [dkR d δ]) ∨
    (δ.dead = false ∧ openZ δ = none ∧ v = .tuple #[.pointer none, vint 31] ∧ L = [dkR d δ]) ∨ (δ.dead = false ∧ ∃ ω, openZ δ = some ω ∧ ∃ x, v = .tuple #[vptr x, vint 0] ∧ L = [dkR d δ, wlR x d ω]) := by
  refine Fn.intro (vs := [vptr d]) Try.func30 rfl rfl ?_
  intro F W
  have hn2 := hn.1
  refine G.seq ?_
  refine G.region ?_
  refine G.q (Quiet.assign rfl) rfl ?_
  refine G.q (Quiet.assign rfl) rfl ?_
  refine G.nil ?_
  refine G.then_n ?_
  refine G.seq ?_
  refine G.block ?_
  refine G.seq ?_
  refine G.region ?_
  refine G.q (Quiet.move rfl) rfl ?_
  refine G.q (Quiet.ptreq rfl rfl Try.underlying24) rfl ?_
  refine G.q (Quiet.assign rfl) rfl ?_
  refine G.nil ?_
  refine G.then_n ?_
  refine G.condF rfl ?_
  refine G.seq ?_
  refine G.region ?_
  refine G.q (Quiet.move rfl) rfl ?_
  refine G.op (OpSpec.call Try.func52 rfl rfl (vs := [_]) rfl (dead_spec d δ)) (by (repeat (first | exact Picks.nil | (apply Picks.cons; (repeat (first | exact Pick.here | apply Pick.there)))))) rfl ?nx6
  rintro v L' ⟨rfl, rfl⟩
  refine G.q (Quiet.assign rfl) rfl ?_
  refine G.nil ?_
  refine G.then_n ?_
  refine G.condB rfl (fun h17 => ?_) (fun h17 => ?_)
  · refine G.seq ?_
    refine G.region ?_
    refine G.q (Quiet.assign rfl) rfl ?_
    refine G.q (Quiet.assign rfl) rfl ?_
    refine G.nil ?_
    refine G.then_n ?_
    refine G.ret ?_
    refine G.blk_r ?_
    refine G.then_r ?_
    exact G.done (l := [.tmp 2, .tmp 3]) rfl rfl (.inl ⟨by simpa using h17, rfl, rfl⟩) (by (repeat (first | exact Picks.nil | (apply Picks.cons; (repeat (first | exact Pick.here | apply Pick.there)))))) (by (repeat (first | exact Suff.here | apply Suff.there)))
  · have hd : δ.dead = false := by simpa using h17
    refine G.skip ?_
    refine G.blk_n ?_
    refine G.then_n ?_
    refine G.seq ?_
    refine G.region ?_
    refine G.q (Quiet.move rfl) rfl ?_
    refine G.op (OpSpec.call Try.func87 rfl rfl (vs := [_, _]) rfl (found_spec d δ 0 hn hok)) (by (repeat (first | exact Picks.nil | (apply Picks.cons; (repeat (first | exact Pick.here | apply Pick.there)))))) rfl ?nx11
    rintro v L' ⟨rfl, rfl⟩
    refine G.q (Quiet.move rfl) rfl ?_
    refine G.q (Quiet.extract (vs := [.agg (mkC ((foundZ δ 0).getD mk0)).toArray, .bool (foundZ δ 0).isSome]) rfl rfl) rfl ?_
    refine G.q (Quiet.extract (vs := [.agg (mkC ((foundZ δ 0).getD mk0)).toArray, .bool (foundZ δ 0).isSome]) rfl rfl) rfl ?_
    refine G.op (OpSpec.allocA ze_115) (by (repeat (first | exact Picks.nil | (apply Picks.cons; (repeat (first | exact Pick.here | apply Pick.there)))))) rfl ?nx15
    rintro v L' ⟨b4, rfl, rfl⟩
    refine G.op (OpSpec.storeA rfl rfl ?c17 sz_115 ?c20 ?c18 ?c19) (by (repeat (first | exact Picks.nil | (apply Picks.cons; (repeat (first | exact Pick.here | apply Pick.there)))))) rfl ?nx21
    case c17 => simp [mkC, isCell]
    case c20 => simp [mkC]
    case c18 => simp [mkC]
    case c19 => exact nfz0 _ _
    rintro v L' rfl
    refine G.q (Quiet.assign rfl) rfl ?_
    refine G.nil ?_
    refine G.ptCast (b := b4) (l' := mkC ((foundZ δ 0).getD mk0)) (by (repeat (first | exact Pick.here | apply Pick.there))) rfl ?_
    refine G.then_n ?_
    refine G.seq ?_
    refine G.joinK (ι := Option Mk) (fun q E => (5, .bool q.isSome) :: E) (fun q => [ptc b4 (mkC (q.getD mk0)) 115, dkR d δ]) (fun q => bestZ δ = q) (pre := [ptc b4 (mkC ((foundZ δ 0).getD mk0)) 115, dkR d δ]) (ts := [0, 2, 3, 4]) (.cons rfl (.cons rfl (.cons rfl (.cons rfl (.nil))))) (by (repeat (first | exact Picks.nil | (apply Picks.cons; (repeat (first | exact Pick.here | apply Pick.there)))))) ?_ ?_
    · refine G.seq ?_
      refine G.region ?_
      rcases hf0 : foundZ δ 0 with _ | m0
      · refine G.q (Quiet.move rfl) rfl ?_
        refine G.op (OpSpec.call Try.func87 rfl rfl (vs := [_, _]) rfl (found_spec d δ 1 hn hok)) (by (repeat (first | exact Picks.nil | (apply Picks.cons; (repeat (first | exact Pick.here | apply Pick.there)))))) rfl ?nx23
        rintro v L' ⟨rfl, rfl⟩
        rcases hf1 : foundZ δ 1 with _ | m1
        · refine G.q (Quiet.move rfl) rfl ?_
          refine G.q (Quiet.extract (vs := [.agg (mkC mk0).toArray, .bool false]) rfl rfl) rfl ?_
          refine G.q (Quiet.extract (vs := [.agg (mkC mk0).toArray, .bool false]) rfl rfl) rfl ?_
          refine G.op (OpSpec.allocA ze_115) (by (repeat (first | exact Picks.nil | (apply Picks.cons; (repeat (first | exact Pick.here | apply Pick.there)))))) rfl ?nx27
          rintro v L' ⟨b6, rfl, rfl⟩
          refine G.op (OpSpec.storeA rfl rfl ?c29 sz_115 ?c32 ?c30 ?c31) (by (repeat (first | exact Picks.nil | (apply Picks.cons; (repeat (first | exact Pick.here | apply Pick.there)))))) rfl ?nx33
          case c29 => simp [mkC, isCell]
          case c32 => simp [mkC]
          case c30 => simp [mkC]
          case c31 => exact nfz0 _ _
          rintro v L' rfl
          refine G.q (Quiet.assign rfl) rfl ?_
          refine G.nil ?_
          refine G.ptCast (b := b6) (l' := mkC mk0) (by (repeat (first | exact Pick.here | apply Pick.there))) rfl ?_
          refine G.then_n ?_
          refine G.seq ?_
          refine G.region ?_
          refine G.q (Quiet.move rfl) rfl ?_
          refine G.q (Quiet.move rfl) rfl ?_
          refine G.gskip (t := 31) rfl rfl rfl rfl ?_
          refine G.gskip (t := 31) rfl rfl rfl rfl ?_
          refine G.gskip (t := 31) rfl rfl rfl rfl ?_
          refine G.gskipU (t := 34) rfl rfl rfl ?_
          refine G.gskipU (t := 34) rfl rfl rfl ?_
          refine G.gskipU (t := 34) rfl rfl rfl ?_
          refine G.gskipU (t := 34) rfl rfl rfl ?_
          refine G.gskipU (t := 34) rfl rfl rfl ?_
          refine G.gskip (t := 31) rfl rfl rfl rfl ?_
          refine G.q (Quiet.pickF rfl rfl) rfl ?_
          refine G.nil ?_
          refine G.then_n ?_
          refine G.condF rfl ?_
          refine G.skip ?_
          refine G.then_n ?_
          exact G.meetK (none) (by unfold bestZ; rw [hf0, hf1]) ⟨rfl, rfl, rfl, rfl, rfl, trivial⟩ (by (repeat (first | exact Picks.nil | (apply Picks.cons; (repeat (first | exact Pick.here | apply Pick.there)))))) (by ((repeat (apply Have.cons; (repeat (first | exact Pick.here | apply Pick.there)))); apply Have.base; repeat (first | exact Suff.here | apply Suff.there)))
        · refine G.q (Quiet.move rfl) rfl ?_
          refine G.q (Quiet.extract (vs := [.agg (mkC m1).toArray, .bool true]) rfl rfl) rfl ?_
          refine G.q (Quiet.extract (vs := [.agg (mkC m1).toArray, .bool true]) rfl rfl) rfl ?_
          refine G.op (OpSpec.allocA ze_115) (by (repeat (first | exact Picks.nil | (apply Picks.cons; (repeat (first | exact Pick.here | apply Pick.there)))))) rfl ?nx37
          rintro v L' ⟨b6, rfl, rfl⟩
          refine G.op (OpSpec.storeA rfl rfl ?c39 sz_115 ?c42 ?c40 ?c41) (by (repeat (first | exact Picks.nil | (apply Picks.cons; (repeat (first | exact Pick.here | apply Pick.there)))))) rfl ?nx43
          case c39 => simp [mkC, isCell]
          case c42 => simp [mkC]
          case c40 => simp [mkC]
          case c41 => exact nfz0 _ _
          rintro v L' rfl
          refine G.q (Quiet.assign rfl) rfl ?_
          refine G.nil ?_
          refine G.ptCast (b := b6) (l' := mkC m1) (by (repeat (first | exact Pick.here | apply Pick.there))) rfl ?_
          refine G.then_n ?_
          refine G.seq ?_
          refine G.region ?_
          refine G.q (Quiet.move rfl) rfl ?_
          refine G.q (Quiet.move rfl) rfl ?_
          refine G.grun (t := 31) rfl rfl rfl ?_
          refine G.q (Quiet.move rfl) rfl ?_
          refine G.grun (t := 31) rfl rfl rfl ?_
          refine G.q (Quiet.not rfl) rfl ?_
          refine G.grun (t := 31) rfl rfl rfl ?_
          refine G.q (Quiet.move rfl) rfl ?_
          refine G.gskip (t := 34) rfl rfl rfl rfl ?_
          refine G.gskip (t := 34) rfl rfl rfl rfl ?_
          refine G.gskip (t := 34) rfl rfl rfl rfl ?_
          refine G.gskip (t := 34) rfl rfl rfl rfl ?_
          refine G.gskip (t := 34) rfl rfl rfl rfl ?_
          refine G.grun (t := 31) rfl rfl rfl ?_
          refine G.q (Quiet.pickT rfl rfl) rfl ?_
          refine G.q (Quiet.pickT rfl rfl) rfl ?_
          refine G.nil ?_
          refine G.then_n ?_
          refine G.condT rfl ?_
          refine G.region ?_
          refine G.q (Quiet.loadAs (vs := mkC m1) rfl ag_115 (by (repeat (first | exact Pick.here | apply Pick.there))) (by simp [mkC]) rfl) rfl ?_
          refine G.op (OpSpec.storeA rfl rfl ?c47 sz_115 ?c50 ?c48 ?c49) (by (repeat (first | exact Picks.nil | (apply Picks.cons; (repeat (first | exact Pick.here | apply Pick.there)))))) rfl ?nx51
          case c47 => simp [mkC, isCell]
          case c50 => simp [mkC]
          case c48 => simp [mkC]
          case c49 => exact nfz0 _ _
          rintro v L' rfl
          refine G.q (Quiet.assign rfl) rfl ?_
          refine G.nil ?_
          refine G.ptCast (b := b4) (l' := mkC m1) (by (repeat (first | exact Pick.here | apply Pick.there))) rfl ?_
          refine G.then_n ?_
          exact G.meetK ((some m1)) (by unfold bestZ; rw [hf0, hf1]) ⟨rfl, rfl, rfl, rfl, rfl, trivial⟩ (by (repeat (first | exact Picks.nil | (apply Picks.cons; (repeat (first | exact Pick.here | apply Pick.there)))))) (by ((repeat (apply Have.cons; (repeat (first | exact Pick.here | apply Pick.there)))); apply Have.base; repeat (first | exact Suff.here | apply Suff.there)))
      · refine G.q (Quiet.move rfl) rfl ?_
        refine G.op (OpSpec.call Try.func87 rfl rfl (vs := [_, _]) rfl (found_spec d δ 1 hn hok)) (by (repeat (first | exact Picks.nil | (apply Picks.cons; (repeat (first | exact Pick.here | apply Pick.there)))))) rfl ?nx54
        rintro v L' ⟨rfl, rfl⟩
        rcases hf1 : foundZ δ 1 with _ | m1
        · refine G.q (Quiet.move rfl) rfl ?_
          refine G.q (Quiet.extract (vs := [.agg (mkC mk0).toArray, .bool false]) rfl rfl) rfl ?_
          refine G.q (Quiet.extract (vs := [.agg (mkC mk0).toArray, .bool false]) rfl rfl) rfl ?_
          refine G.op (OpSpec.allocA ze_115) (by (repeat (first | exact Picks.nil | (apply Picks.cons; (repeat (first | exact Pick.here | apply Pick.there)))))) rfl ?nx58
          rintro v L' ⟨b6, rfl, rfl⟩
          refine G.op (OpSpec.storeA rfl rfl ?c60 sz_115 ?c63 ?c61 ?c62) (by (repeat (first | exact Picks.nil | (apply Picks.cons; (repeat (first | exact Pick.here | apply Pick.there)))))) rfl ?nx64
          case c60 => simp [mkC, isCell]
          case c63 => simp [mkC]
          case c61 => simp [mkC]
          case c62 => exact nfz0 _ _
          rintro v L' rfl
          refine G.q (Quiet.assign rfl) rfl ?_
          refine G.nil ?_
          refine G.ptCast (b := b6) (l' := mkC mk0) (by (repeat (first | exact Pick.here | apply Pick.there))) rfl ?_
          refine G.then_n ?_
          refine G.seq ?_
          refine G.region ?_
          refine G.q (Quiet.move rfl) rfl ?_
          refine G.q (Quiet.move rfl) rfl ?_
          refine G.gskip (t := 31) rfl rfl rfl rfl ?_
          refine G.gskip (t := 31) rfl rfl rfl rfl ?_
          refine G.gskip (t := 31) rfl rfl rfl rfl ?_
          refine G.gskipU (t := 34) rfl rfl rfl ?_
          refine G.gskipU (t := 34) rfl rfl rfl ?_
          refine G.gskipU (t := 34) rfl rfl rfl ?_
          refine G.gskipU (t := 34) rfl rfl rfl ?_
          refine G.gskipU (t := 34) rfl rfl rfl ?_
          refine G.gskip (t := 31) rfl rfl rfl rfl ?_
          refine G.q (Quiet.pickF rfl rfl) rfl ?_
          refine G.nil ?_
          refine G.then_n ?_
          refine G.condF rfl ?_
          refine G.skip ?_
          refine G.then_n ?_
          exact G.meetK ((some m0)) (by unfold bestZ; rw [hf0, hf1]) ⟨rfl, rfl, rfl, rfl, rfl, trivial⟩ (by (repeat (first | exact Picks.nil | (apply Picks.cons; (repeat (first | exact Pick.here | apply Pick.there)))))) (by ((repeat (apply Have.cons; (repeat (first | exact Pick.here | apply Pick.there)))); apply Have.base; repeat (first | exact Suff.here | apply Suff.there)))
        · refine G.q (Quiet.move rfl) rfl ?_
          refine G.q (Quiet.extract (vs := [.agg (mkC m1).toArray, .bool true]) rfl rfl) rfl ?_
          refine G.q (Quiet.extract (vs := [.agg (mkC m1).toArray, .bool true]) rfl rfl) rfl ?_
          refine G.op (OpSpec.allocA ze_115) (by (repeat (first | exact Picks.nil | (apply Picks.cons; (repeat (first | exact Pick.here | apply Pick.there)))))) rfl ?nx68
          rintro v L' ⟨b6, rfl, rfl⟩
          refine G.op (OpSpec.storeA rfl rfl ?c70 sz_115 ?c73 ?c71 ?c72) (by (repeat (first | exact Picks.nil | (apply Picks.cons; (repeat (first | exact Pick.here | apply Pick.there)))))) rfl ?nx74
          case c70 => simp [mkC, isCell]
          case c73 => simp [mkC]
          case c71 => simp [mkC]
          case c72 => exact nfz0 _ _
          rintro v L' rfl
          refine G.q (Quiet.assign rfl) rfl ?_
          refine G.nil ?_
          refine G.ptCast (b := b6) (l' := mkC m1) (by (repeat (first | exact Pick.here | apply Pick.there))) rfl ?_
          refine G.then_n ?_
          refine G.seq ?_
          refine G.region ?_
          refine G.q (Quiet.move rfl) rfl ?_
          refine G.q (Quiet.move rfl) rfl ?_
          refine G.grun (t := 31) rfl rfl rfl ?_
          refine G.q (Quiet.move rfl) rfl ?_
          refine G.grun (t := 31) rfl rfl rfl ?_
          refine G.q (Quiet.not rfl) rfl ?_
          refine G.grun (t := 31) rfl rfl rfl ?_
          refine G.q (Quiet.move rfl) rfl ?_
          refine G.grun (t := 34) rfl rfl rfl ?_
          refine G.q (Quiet.fieldAddr rfl fo_115_0) rfl ?_
          refine G.grun (t := 34) rfl rfl rfl ?_
          refine G.q (Quiet.load rfl ag_3 (by (repeat (first | exact Pick.here | apply Pick.there))) (rfl)) rfl ?_
          refine G.grun (t := 34) rfl rfl rfl ?_
          refine G.q (Quiet.fieldAddr rfl fo_115_0) rfl ?_
          refine G.grun (t := 34) rfl rfl rfl ?_
          refine G.q (Quiet.load rfl ag_3 (by (repeat (first | exact Pick.here | apply Pick.there))) (rfl)) rfl ?_
          refine G.grun (t := 34) rfl rfl rfl ?_
          refine G.q (Quiet.int rfl rfl rfl) rfl ?_
          refine G.grun (t := 31) rfl rfl rfl ?_
          refine G.q (Quiet.pickF rfl rfl) rfl ?_
          refine G.q (Quiet.pickT rfl rfl) rfl ?_
          refine G.nil ?_
          refine G.then_n ?_
          refine G.condD rfl (fun h41 => ?_) (fun h41 => ?_)
          · refine G.region ?_
            refine G.q (Quiet.loadAs (vs := mkC m1) rfl ag_115 (by (repeat (first | exact Pick.here | apply Pick.there))) (by simp [mkC]) rfl) rfl ?_
            refine G.op (OpSpec.storeA rfl rfl ?c82 sz_115 ?c85 ?c83 ?c84) (by (repeat (first | exact Picks.nil | (apply Picks.cons; (repeat (first | exact Pick.here | apply Pick.there)))))) rfl ?nx86
            case c82 => simp [mkC, isCell]
            case c85 => simp [mkC]
            case c83 => simp [mkC]
            case c84 => exact nfz0 _ _
            rintro v L' rfl
            refine G.q (Quiet.assign rfl) rfl ?_
            refine G.nil ?_
            refine G.ptCast (b := b4) (l' := mkC m1) (by (repeat (first | exact Pick.here | apply Pick.there))) rfl ?_
            refine G.then_n ?_
            exact G.meetK ((some m1)) (by unfold bestZ; rw [hf0, hf1]; exact congrArg some (if_pos h41)) ⟨rfl, rfl, rfl, rfl, rfl, trivial⟩ (by (repeat (first | exact Picks.nil | (apply Picks.cons; (repeat (first | exact Pick.here | apply Pick.there)))))) (by ((repeat (apply Have.cons; (repeat (first | exact Pick.here | apply Pick.there)))); apply Have.base; repeat (first | exact Suff.here | apply Suff.there)))
          · refine G.skip ?_
            refine G.then_n ?_
            exact G.meetK ((some m0)) (by unfold bestZ; rw [hf0, hf1]; exact congrArg some (if_neg h41)) ⟨rfl, rfl, rfl, rfl, rfl, trivial⟩ (by (repeat (first | exact Picks.nil | (apply Picks.cons; (repeat (first | exact Pick.here | apply Pick.there)))))) (by ((repeat (apply Have.cons; (repeat (first | exact Pick.here | apply Pick.there)))); apply Have.base; repeat (first | exact Suff.here | apply Suff.there)))
    · rintro o hbest
      refine G.seq ?_
      refine G.seq ?_
      refine G.region ?_
      rcases o with _ | m
      · refine G.q (Quiet.move rfl) rfl ?_
        refine G.q (Quiet.not rfl) rfl ?_
        refine G.nil ?_
        refine G.then_n ?_
        refine G.condT rfl ?_
        refine G.seq ?_
        refine G.region ?_
        refine G.q (Quiet.assign rfl) rfl ?_
        refine G.q (Quiet.assign rfl) rfl ?_
        refine G.nil ?_
        refine G.then_n ?_
        refine G.ret ?_
        refine G.then_r ?_
        exact G.done (l := [.tmp 2, .tmp 3]) rfl rfl (.inr (.inl ⟨hd, openZ_none hbest, rfl, rfl⟩)) (by (repeat (first | exact Picks.nil | (apply Picks.cons; (repeat (first | exact Pick.here | apply Pick.there)))))) (by (repeat (first | exact Suff.here | apply Suff.there)))
      · simp only [Option.getD_some]
        have hm := bestZ_some hok hbest
        obtain ⟨e1, e2, e3, e4⟩ := bytesZ_len hok hn2 hm
        have hml := hm.len
        have hma := hm.area
        have hmn := hm.num
        have hhalf : halfZ δ ≤ 16383 := by unfold halfZ; omega
        refine G.q (Quiet.move rfl) rfl ?_
        refine G.q (Quiet.not rfl) rfl ?_
        refine G.nil ?_
        refine G.then_n ?_
        refine G.condF rfl ?_
        refine G.skip ?_
        refine G.then_n ?_
        refine G.seq ?_
        refine G.add (slR_nil 5 1) ?_
        refine G.region ?_
        refine G.q (Quiet.assign rfl) rfl ?_
        refine G.nil ?_
        refine G.then_n ?_
        refine G.seq ?_
        refine G.seq ?_
        refine G.region ?_
        refine G.q (Quiet.assign rfl) rfl ?_
        refine G.nil ?_
        refine G.then_n ?_
        refine G.block ?_
        refine G.loopK (ι := Nat × Value) (fun q E => (8, q.2) :: (9, vint q.1) :: E) (fun q => [bytR q.2 (areaZ δ m.area q.1)]) (fun q => q.1 ≤ secs m ∧ ∃ a c, q.2 = .slice a (areaZ δ m.area q.1).length c) (fun q => secs m - q.1) (0, .slice none 0 0) (ts := [0, 2, 3, 4]) (.cons rfl (.cons rfl (.cons rfl (.cons rfl (.nil))))) (⟨Nat.zero_le _, _, _, rfl⟩) ⟨rfl, rfl, rfl, rfl, rfl, rfl, trivial⟩ (by (repeat (first | exact Picks.nil | (apply Picks.cons; (repeat (first | exact Pick.here | apply Pick.there)))))) ?_
        rintro ⟨i, u⟩ ⟨hi, au, cu, hu⟩
        dsimp only
        dsimp only at hi hu
        subst hu
        have hal := areaZ_len hok hn2 hma i (by omega)
        refine G.seq ?_
        refine G.seq ?_
        refine G.region ?_
        refine G.q (Quiet.move rfl) rfl ?_
        refine G.q (Quiet.slen rfl Try.underlying31 rfl) rfl ?_
        refine G.q (Quiet.fieldAddr rfl fo_115_2) rfl ?_
        refine G.q (Quiet.load rfl ag_3 (by (repeat (first | exact Pick.here | apply Pick.there))) (rfl)) rfl ?_
        refine G.q (Quiet.int rfl rfl rfl) rfl ?_
        refine G.nil ?_
        refine G.then_n ?_
        refine G.condD rfl (fun h49 => ?_) (fun h49 => ?_)
        · have hi2 : i < secs m := by unfold secs; omega
          have hrd := area_read hd hn2 hma (i := i) (by omega)
          have hix := area_idx hn2 hma (i := i) (by omega)
          have hsl := getD_mem64' hok.sec (i := (2 + m.area * halfZ δ + i).toNat) (by omega)
          have hmul : 0 ≤ m.area * halfZ δ ∧ m.area * halfZ δ ≤ 16383 := by rcases (by omega : m.area = 0 ∨ m.area = 1) with h | h <;> rw [h] <;> unfold halfZ <;> omega
          refine G.skip ?_
          refine G.then_n ?_
          refine G.seq ?_
          refine G.block ?_
          refine G.seq ?_
          refine G.draw [] [[0, 1, 2, 3, 4, 5, 6, 7, 8, 9, 10, 11, 12, 13, 14]] mixed (by kernel_rfl) ?_
          refine Phases.go [ptc b4 _ _, dkR d δ] (by (repeat (first | exact Picks.nil | (apply Picks.cons; (repeat (first | exact Pick.here | apply Pick.there)))))) ?_
          refine D.qw [9, 10, 11, 12, 13, 14] rfl (by kernel_rfl) (Quiet.move rfl) ?_
          refine D.qw [2, 5, 6, 8, 9, 10, 11, 12, 13, 14] rfl (by kernel_rfl) (Quiet.fieldAddr rfl fo_115_1) ?_
          refine D.qw [5, 6, 8, 9, 10, 11, 12, 13, 14] rfl (by kernel_rfl) (Quiet.load rfl ag_3 (by (repeat (first | exact Pick.here | apply Pick.there))) (rfl)) ?_
          refine D.qw [4, 5, 6, 8, 9, 10, 11, 12, 13, 14] rfl (by kernel_rfl) (Quiet.move rfl) ?_
          refine D.m rfl (by kernel_rfl) (OpSpec.call Try.func80 rfl rfl (vs := [_]) rfl (half_spec d δ hn)) (by (repeat (first | exact Picks.nil | (apply Picks.cons; (repeat (first | exact Pick.here | apply Pick.there)))))) ?nx105
          refine D.qw [6, 8, 9, 10, 11, 12, 13, 14] rfl (by kernel_rfl) (Quiet.mul rfl rfl (by omega)) ?_
          refine D.qw [8, 9, 10, 11, 12, 13, 14] rfl (by kernel_rfl) (Quiet.add rfl rfl (by omega)) ?_
          refine D.qw [8, 9, 10, 11, 12, 13, 14] rfl (by kernel_rfl) (Quiet.move rfl) ?_
          refine D.qw [9, 10, 11, 12, 13, 14] rfl (by kernel_rfl) (Quiet.add rfl rfl (by omega)) ?_
          refine D.m rfl (by kernel_rfl) (OpSpec.call Try.func55 rfl rfl (vs := [_, _]) rfl (read_spec d δ (2 + m.area * halfZ δ + i))) (by (repeat (first | exact Picks.nil | (apply Picks.cons; (repeat (first | exact Pick.here | apply Pick.there)))))) ?nx111
          rw [hrd]
          refine D.qw [11, 12, 13, 14] rfl (by kernel_rfl) (Quiet.move rfl) ?_
          refine D.qw [13, 14] rfl (by kernel_rfl) (Quiet.extract rfl rfl) ?_
          refine D.qw [14] rfl (by kernel_rfl) (Quiet.extract rfl rfl) ?_
          refine D.qw [14] rfl (by kernel_rfl) (Quiet.assign rfl) ?_
          refine D.qw [] rfl (by kernel_rfl) (Quiet.assign rfl) ?_
          refine D.ph ?_
          refine Phases.fin ?_
          refine G.then_n ?_
          refine G.region ?_
          refine G.q (Quiet.move rfl) rfl ?_
          refine G.q (Quiet.move rfl) rfl ?_
          refine G.op (OpSpec.appendS rfl rfl rfl el_31 Try.underlying9 ze_5 rfl rfl ?hb116 (by decide)) (by (repeat (first | exact Picks.nil | (apply Picks.cons; (repeat (first | exact Pick.here | apply Pick.there)))))) rfl ?nx117
          case hb116 => dsimp only; omega
          rintro v L' ⟨⟨a16, c16, rfl⟩, rfl⟩; dsimp only
          refine G.q (Quiet.assign rfl) rfl ?_
          refine G.nil ?_
          refine G.blk_n ?_
          refine G.then_n ?_
          refine G.region ?_
          refine G.q (Quiet.move rfl) rfl ?_
          refine G.q (Quiet.add rfl rfl (by omega)) rfl ?_
          refine G.q (Quiet.assign rfl) rfl ?_
          refine G.nil ?_
          refine G.then_n ?_
          rw [show bysL (areaZ δ m.area i) ++ (δ.now.getD (2 + m.area * halfZ δ + i).toNat []).map vbyte = bysL (areaZ δ m.area (i + 1)) by rw [areaZ_succ, bysL_append]; rfl, show (areaZ δ m.area i).length + (δ.now.getD (2 + m.area * halfZ δ + i).toNat []).length = (areaZ δ m.area (i + 1)).length by rw [areaZ_succ, List.length_append]]
          exact G.roundK ((i + 1, .slice a16 (areaZ δ m.area (i + 1)).length c16)) (⟨by dsimp only; omega, _, _, rfl⟩) (by dsimp only; omega) ⟨rfl, rfl, rfl, rfl, rfl, rfl, trivial⟩ (by (repeat (first | exact Picks.nil | (apply Picks.cons; (repeat (first | exact Pick.here | apply Pick.there)))))) (by ((repeat (apply Have.cons; (repeat (first | exact Pick.here | apply Pick.there)))); apply Have.base; repeat (first | exact Suff.here | apply Suff.there)))
        · have hi3 : i = secs m := by unfold secs; unfold secs at hi; omega
          subst hi3
          refine G.slAddr (a := au) (c := cu) (by (repeat (first | exact Pick.here | apply Pick.there))) fun hcap hadr => ?_
          refine G.slTo (m := (areaZ δ m.area (secs m)).length) (k := m.len.toNat) (by omega) (by (repeat (first | exact Pick.here | apply Pick.there))) ?_
          refine G.slCast (m' := (bytesZ δ m).length) (xs' := bysL (bytesZ δ m)) (by (repeat (first | exact Pick.here | apply Pick.there))) e3.symm (by rw [show bytesZ δ m = (areaZ δ m.area (secs m)).take m.len.toNat from rfl]; simp [bysL, List.map_take]) ?_
          refine G.exit ?_
          refine G.then_e ?_
          refine G.then_e ?_
          refine G.blk_e ?_
          refine G.then_n ?_
          refine G.seq ?_
          refine G.region ?_
          refine G.q (Quiet.move rfl) rfl ?_
          refine G.q (Quiet.fieldAddr rfl fo_115_2) rfl ?_
          refine G.q (Quiet.load rfl ag_3 (by (repeat (first | exact Pick.here | apply Pick.there))) (rfl)) rfl ?_
          refine G.q (Quiet.to (v' := .slice au (bytesZ δ m).length cu) (Quiet.slTo (j := m.len) rfl el_31 rfl (by omega) hadr) (by rw [e3])) rfl ?_
          rw [← e3]
          refine G.op (OpSpec.call Try.func88 rfl rfl (vs := [_]) rfl (clipB_spec _ _ _)) (by (repeat (first | exact Picks.nil | (apply Picks.cons; (repeat (first | exact Pick.here | apply Pick.there)))))) rfl ?nx125
          rintro v L' ⟨⟨a17, c17, rfl⟩, rfl⟩
          refine G.q (Quiet.assign rfl) rfl ?_
          refine G.nil ?_
          refine G.then_n ?_
          refine G.seq ?_
          refine G.region ?_
          refine G.q (Quiet.move rfl) rfl ?_
          refine G.q (Quiet.bytesBy (cs := bytesZ δ m) (n := (bytesZ δ m).length) (p := bytR (.slice a17 (bytesZ δ m).length c17) (bytesZ δ m)) rfl Try.underlying31 Try.underlying5 Try.underlying9 (fun h hp => slR_rd hp) (by (repeat (first | exact Pick.here | apply Pick.there)))) rfl ?_
          refine G.q (Quiet.fieldAddr rfl fo_115_3) rfl ?_
          refine G.q (Quiet.load rfl ag_3 (by (repeat (first | exact Pick.here | apply Pick.there))) (rfl)) rfl ?_
          refine G.op (OpSpec.call Try.func89 rfl rfl (vs := [_, _]) rfl (parted_spec (bytesZ δ m) m.num ?hs130)) (by (repeat (first | exact Picks.nil | (apply Picks.cons; (repeat (first | exact Pick.here | apply Pick.there)))))) rfl ?nx131
          case hs130 => omega
          rintro v L' (⟨l, hpart, ap, cp, rfl, rfl⟩ | ⟨hpart, ⟨w, rfl⟩, rfl⟩)
          · obtain ⟨hl1, hl2⟩ := partZ_laid hpart
            have hlm := laidZ_many l
            rw [hl1] at hlm
            refine G.q (Quiet.move rfl) rfl ?_
            refine G.q (Quiet.extract rfl rfl) rfl ?_
            refine G.q (Quiet.extract rfl rfl) rfl ?_
            refine G.q (Quiet.assign rfl) rfl ?_
            refine G.q (Quiet.assign rfl) rfl ?_
            refine G.nil ?_
            refine G.then_n ?_
            refine G.seq ?_
            refine G.seq ?_
            refine G.region ?_
            refine G.q (Quiet.move rfl) rfl ?_
            refine G.q (Quiet.not rfl) rfl ?_
            refine G.nil ?_
            refine G.then_n ?_
            refine G.condF rfl ?_
            refine G.skip ?_
            refine G.then_n ?_
            refine G.seq ?_
            refine G.region ?_
            refine G.q (Quiet.move rfl) rfl ?_
            refine G.q (Quiet.move rfl) rfl ?_
            refine G.q (Quiet.move rfl) rfl ?_
            refine G.q (Quiet.slen rfl Try.underlying22 rfl) rfl ?_
            refine G.q (Quiet.move rfl) rfl ?_
            refine G.q (Quiet.fieldAddr rfl fo_115_1) rfl ?_
            refine G.q (Quiet.load rfl ag_3 (by (repeat (first | exact Pick.here | apply Pick.there))) (rfl)) rfl ?_
            refine G.q (Quiet.fieldAddr rfl fo_115_0) rfl ?_
            refine G.q (Quiet.load rfl ag_3 (by (repeat (first | exact Pick.here | apply Pick.there))) (rfl)) rfl ?_
            refine G.q (Quiet.fieldAddr rfl fo_115_4) rfl ?_
            refine G.q (Quiet.load rfl ag_3 (by (repeat (first | exact Pick.here | apply Pick.there))) (rfl)) rfl ?_
            refine G.q (Quiet.fieldAddr rfl fo_115_5) rfl ?_
            refine G.q (Quiet.load rfl ag_3 (by (repeat (first | exact Pick.here | apply Pick.there))) (rfl)) rfl ?_
            refine G.q (Quiet.build (us := [(0, _), (1, _), (2, _), (3, _), (4, _), (5, _), (6, _), (7, _)]) fl_118 ze_118 rfl rfl (by simp [isCell])) rfl ?_
            refine G.op (OpSpec.box rfl) (by (repeat (first | exact Picks.nil | (apply Picks.cons; (repeat (first | exact Pick.here | apply Pick.there)))))) rfl ?nx147
            rintro v L' ⟨x, rfl, rfl⟩
            refine G.q (Quiet.assign rfl) rfl ?_
            refine G.q (Quiet.assign rfl) rfl ?_
            refine G.nil ?_
            refine G.then_n ?_
            refine G.ret ?_
            refine G.wlFold (x := x) (d := d) (ω := ⟨l, l.length, m.area, m.count, m.a, m.b, false⟩) (by (repeat (first | exact Picks.nil | (apply Picks.cons; (repeat (first | exact Pick.here | apply Pick.there)))))) rfl rfl rfl (by rw [hl1]) (by rw [hl1]) ?_
            exact G.done (l := [.tmp 2, .tmp 3]) rfl rfl (.inr (.inr ⟨hd, _, by rw [openZ_some hbest]; unfold openB; rw [hpart], _, rfl, rfl⟩)) (by (repeat (first | exact Picks.nil | (apply Picks.cons; (repeat (first | exact Pick.here | apply Pick.there)))))) (by (repeat (first | exact Suff.here | apply Suff.there)))
          · refine G.q (Quiet.move rfl) rfl ?_
            refine G.q (Quiet.extract rfl rfl) rfl ?_
            refine G.q (Quiet.extract rfl rfl) rfl ?_
            refine G.q (Quiet.assign rfl) rfl ?_
            refine G.q (Quiet.assign rfl) rfl ?_
            refine G.nil ?_
            refine G.then_n ?_
            refine G.seq ?_
            refine G.seq ?_
            refine G.region ?_
            refine G.q (Quiet.move rfl) rfl ?_
            refine G.q (Quiet.not rfl) rfl ?_
            refine G.nil ?_
            refine G.then_n ?_
            refine G.condT rfl ?_
            refine G.seq ?_
            refine G.region ?_
            refine G.q (Quiet.assign rfl) rfl ?_
            refine G.q (Quiet.assign rfl) rfl ?_
            refine G.nil ?_
            refine G.then_n ?_
            refine G.ret ?_
            refine G.then_r ?_
            exact G.done (l := [.tmp 2, .tmp 3]) rfl rfl (.inr (.inl ⟨hd, by rw [openZ_some hbest]; unfold openB; rw [hpart], rfl, rfl⟩)) (by (repeat (first | exact Picks.nil | (apply Picks.cons; (repeat (first | exact Pick.here | apply Pick.there)))))) (by (repeat (first | exact Suff.here | apply Suff.there)))

end Go.Proofs.Ytepncdidkjjllaa
