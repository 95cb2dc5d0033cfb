/- Own work, by program: does, told, behind, same: walked. -/
import Derived.Test.YtepncdidkjjllaaL4B
namespace Go.Proofs.Ytepncdidkjjllaa
open Go
set_option maxRecDepth 100000 in
theorem does_spec (x d : Nat) (ω : Wl) (δ : Dk) (k n f : Int) (vl vh : Value) (l : List Int) (p : HP) (hI : WlI δ ω) (hn : -9223372036854775808 ≤ n ∧ n ≤ 9223372036854775807) (hr : ∀ h : Hp, p h → rdS 1 h vl l.length (ints l)) (hl : ∀ x ∈ l, -9223372036854775808 ≤ x ∧ x ≤ 9223372036854775807) (hll : l.length ≤ 4611686018427387904) (hcv : isCell vl = true ∧ isCell vh = true) : Fn Try.prog 24 #[vptr x, .agg #[vint k, vint n, vint f, vl, vh]] [wlR x d ω, dkR d δ, p] fun v L => v = vint (doesZ δ ω k n f l).2.2 ∧ L = [wlR x d (doesZ δ ω k n f l).2.1, dkR d (doesZ δ ω k n f l).1, p] := by
  refine Fn.intro (vs := [vptr x, .agg #[vint k, vint n, vint f, vl, vh]]) Try.func24 rfl rfl ?_
  intro F W
  have hlm := manyZ_laid l
  refine G.seq ?_
  refine G.region ?_
  refine G.op (OpSpec.box rfl) (by (repeat (first | exact Picks.nil | (apply Picks.cons; (repeat (first | exact Pick.here | apply Pick.there)))))) rfl ?nx1
  rintro v L' ⟨bo, rfl, rfl⟩
  refine G.q (Quiet.assign rfl) rfl ?_
  refine G.nil ?_
  refine G.ptCast (b := bo) (l' := [vint k, vint n, vint f, vl, vh]) (by (repeat (first | exact Pick.here | apply Pick.there))) rfl ?_
  refine G.then_n ?_
  refine G.seq ?_
  refine G.seq ?_
  refine G.region ?_
  refine G.q (Quiet.fieldAddr rfl fo_42_0) rfl ?_
  refine G.q (Quiet.load rfl ag_3 (by (repeat (first | exact Pick.here | apply Pick.there))) (rfl)) rfl ?_
  refine G.nil ?_
  refine G.then_n ?_
  refine G.block ?_
  refine G.seq ?_
  refine G.region ?_
  refine G.q (Quiet.int rfl rfl rfl) rfl ?_
  refine G.q (Quiet.assign rfl) rfl ?_
  refine G.nil ?_
  refine G.then_n ?_
  refine G.condD rfl (fun h7 => ?_) (fun h7 => ?_)
  · refine G.seq ?_
    refine G.region ?_
    refine G.q (Quiet.move rfl) rfl ?_
    refine G.q (Quiet.fieldAddr rfl fo_42_1) rfl ?_
    refine G.q (Quiet.load rfl ag_3 (by (repeat (first | exact Pick.here | apply Pick.there))) (rfl)) rfl ?_
    refine G.q (Quiet.fieldAddr rfl fo_42_2) rfl ?_
    refine G.q (Quiet.load rfl ag_3 (by (repeat (first | exact Pick.here | apply Pick.there))) (rfl)) rfl ?_
    refine G.op (OpSpec.call Try.func75 rfl rfl (vs := [_, _]) rfl (bytes4_spec n f hn)) (by (repeat (first | exact Picks.nil | (apply Picks.cons; (repeat (first | exact Pick.here | apply Pick.there)))))) rfl ?nx12
    rintro v L' ⟨rfl, rfl⟩
    refine G.op (OpSpec.call Try.func27 rfl rfl (vs := [_, _]) rfl (wappend_spec x d ω δ (bytZ n f) hI (by have := bytZ_len n f; omega))) (by (repeat (first | exact Picks.nil | (apply Picks.cons; (repeat (first | exact Pick.here | apply Pick.there)))))) rfl ?nx14
    rintro v L' ⟨rfl, rfl⟩
    refine G.q (Quiet.assign rfl) rfl ?_
    refine G.nil ?_
    refine G.then_n ?_
    refine G.ret ?_
    refine G.blk_r ?_
    refine G.then_r ?_
    have e : doesZ δ ω k n f l = appendZ δ ω (bytZ n f) := by unfold doesZ; rw [if_pos h7]
    rw [e]
    exact G.done (l := [.tmp 4]) rfl rfl ⟨rfl, rfl⟩ (by (repeat (first | exact Picks.nil | (apply Picks.cons; (repeat (first | exact Pick.here | apply Pick.there)))))) (by (repeat (first | exact Suff.here | apply Suff.there)))
  · refine G.seq ?_
    refine G.region ?_
    refine G.q (Quiet.int rfl rfl rfl) rfl ?_
    refine G.q (Quiet.assign rfl) rfl ?_
    refine G.nil ?_
    refine G.then_n ?_
    refine G.condD rfl (fun h16 => ?_) (fun h16 => ?_)
    · refine G.seq ?_
      refine G.region ?_
      refine G.q (Quiet.move rfl) rfl ?_
      refine G.op (OpSpec.call Try.func28 rfl rfl (vs := [_]) rfl (wsync_spec x d ω δ hI)) (by (repeat (first | exact Picks.nil | (apply Picks.cons; (repeat (first | exact Pick.here | apply Pick.there)))))) rfl ?nx18
      rintro v L' ⟨rfl, rfl⟩
      refine G.q (Quiet.assign rfl) rfl ?_
      refine G.nil ?_
      refine G.then_n ?_
      refine G.ret ?_
      refine G.blk_r ?_
      refine G.then_r ?_
      have e : doesZ δ ω k n f l = syncZ δ ω := by unfold doesZ; rw [if_neg h7, if_pos h16]
      rw [e]
      exact G.done (l := [.tmp 4]) rfl rfl ⟨rfl, rfl⟩ (by (repeat (first | exact Picks.nil | (apply Picks.cons; (repeat (first | exact Pick.here | apply Pick.there)))))) (by (repeat (first | exact Suff.here | apply Suff.there)))
    · refine G.seq ?_
      refine G.region ?_
      refine G.q (Quiet.int rfl rfl rfl) rfl ?_
      refine G.q (Quiet.assign rfl) rfl ?_
      refine G.nil ?_
      refine G.then_n ?_
      refine G.condD rfl (fun h20 => ?_) (fun h20 => ?_)
      · refine G.seq ?_
        refine G.region ?_
        refine G.q (Quiet.move rfl) rfl ?_
        refine G.q (Quiet.fieldAddr rfl fo_42_1) rfl ?_
        refine G.q (Quiet.load rfl ag_3 (by (repeat (first | exact Pick.here | apply Pick.there))) (rfl)) rfl ?_
        refine G.op (OpSpec.call Try.func76 rfl rfl (vs := [_, _]) rfl (wcut_spec x d ω δ n hI)) (by (repeat (first | exact Picks.nil | (apply Picks.cons; (repeat (first | exact Pick.here | apply Pick.there)))))) rfl ?nx24
        rintro v L' ⟨rfl, rfl⟩
        refine G.q (Quiet.assign rfl) rfl ?_
        refine G.nil ?_
        refine G.then_n ?_
        refine G.ret ?_
        refine G.blk_r ?_
        refine G.then_r ?_
        have e : doesZ δ ω k n f l = cutZ δ ω n := by unfold doesZ; rw [if_neg h7, if_neg h16, if_pos h20]
        rw [e]
        exact G.done (l := [.tmp 4]) rfl rfl ⟨rfl, rfl⟩ (by (repeat (first | exact Picks.nil | (apply Picks.cons; (repeat (first | exact Pick.here | apply Pick.there)))))) (by (repeat (first | exact Suff.here | apply Suff.there)))
      · refine G.seq ?_
        refine G.region ?_
        refine G.q (Quiet.int rfl rfl rfl) rfl ?_
        refine G.q (Quiet.assign rfl) rfl ?_
        refine G.nil ?_
        refine G.then_n ?_
        refine G.condD rfl (fun h26 => ?_) (fun h26 => ?_)
        · refine G.seq ?_
          refine G.region ?_
          refine G.q (Quiet.move rfl) rfl ?_
          refine G.q (Quiet.fieldAddr rfl fo_42_3) rfl ?_
          refine G.q (Quiet.load rfl ag_40 (by (repeat (first | exact Pick.here | apply Pick.there))) (rfl)) rfl ?_
          refine G.op (OpSpec.call Try.func78 rfl rfl (vs := [_]) rfl (many4_spec vl l p hr hl hll)) (by (repeat (first | exact Picks.nil | (apply Picks.cons; (repeat (first | exact Pick.here | apply Pick.there)))))) rfl ?nx30
          rintro v L' ⟨am, cm, rfl, rfl⟩
          refine G.op (OpSpec.call Try.func77 rfl rfl (vs := [_, _]) rfl (wrenew_spec x d ω δ (.slice am (manyZ l).length cm) (manyZ l) (strR (.slice am (manyZ l).length cm) (manyZ l)) hI (fun h hp => slR_rd hp) (by omega))) (by (repeat (first | exact Picks.nil | (apply Picks.cons; (repeat (first | exact Pick.here | apply Pick.there)))))) rfl ?nx32
          rintro v L' ⟨rfl, rfl⟩
          refine G.q (Quiet.assign rfl) rfl ?_
          refine G.nil ?_
          refine G.then_n ?_
          refine G.ret ?_
          refine G.blk_r ?_
          refine G.then_r ?_
          have e : doesZ δ ω k n f l = renewZ δ ω (manyZ l) := by unfold doesZ; rw [if_neg h7, if_neg h16, if_neg h20, if_pos h26]
          rw [e]
          exact G.done (l := [.tmp 4]) rfl rfl ⟨rfl, rfl⟩ (by (repeat (first | exact Picks.nil | (apply Picks.cons; (repeat (first | exact Pick.here | apply Pick.there)))))) (by (repeat (first | exact Suff.here | apply Suff.there)))
        · refine G.seq ?_
          refine G.region ?_
          refine G.q (Quiet.int rfl rfl rfl) rfl ?_
          refine G.q (Quiet.assign rfl) rfl ?_
          refine G.nil ?_
          refine G.then_n ?_
          refine G.condD rfl (fun h33 => ?_) (fun h33 => ?_)
          · refine G.seq ?_
            refine G.region ?_
            refine G.q (Quiet.move rfl) rfl ?_
            refine G.q (Quiet.fieldAddr rfl fo_42_1) rfl ?_
            refine G.q (Quiet.load rfl ag_3 (by (repeat (first | exact Pick.here | apply Pick.there))) (rfl)) rfl ?_
            refine G.q (Quiet.fieldAddr rfl fo_42_2) rfl ?_
            refine G.q (Quiet.load rfl ag_3 (by (repeat (first | exact Pick.here | apply Pick.there))) (rfl)) rfl ?_
            refine G.op (OpSpec.call Try.func79 rfl rfl (vs := [_, _, _]) rfl (wmark_spec x d ω δ n f hI)) (by (repeat (first | exact Picks.nil | (apply Picks.cons; (repeat (first | exact Pick.here | apply Pick.there)))))) rfl ?nx40
            rintro v L' ⟨rfl, rfl⟩
            refine G.q (Quiet.assign rfl) rfl ?_
            refine G.nil ?_
            refine G.then_n ?_
            refine G.ret ?_
            refine G.blk_r ?_
            refine G.then_r ?_
            have e : doesZ δ ω k n f l = setmZ δ ω n f := by unfold doesZ; rw [if_neg h7, if_neg h16, if_neg h20, if_neg h26, if_pos h33]
            rw [e]
            exact G.done (l := [.tmp 4]) rfl rfl ⟨rfl, rfl⟩ (by (repeat (first | exact Picks.nil | (apply Picks.cons; (repeat (first | exact Pick.here | apply Pick.there)))))) (by (repeat (first | exact Suff.here | apply Suff.there)))
          · refine G.skip ?_
            refine G.blk_n ?_
            refine G.then_n ?_
            refine G.seq ?_
            refine G.region ?_
            refine G.q (Quiet.assign rfl) rfl ?_
            refine G.nil ?_
            refine G.then_n ?_
            refine G.ret ?_
            have e : doesZ δ ω k n f l = (δ, ω, 0) := by unfold doesZ; rw [if_neg h7, if_neg h16, if_neg h20, if_neg h26, if_neg h33]
            rw [e]
            exact G.done (l := [.tmp 4]) rfl rfl ⟨rfl, rfl⟩ (by (repeat (first | exact Picks.nil | (apply Picks.cons; (repeat (first | exact Pick.here | apply Pick.there)))))) (by (repeat (first | exact Suff.here | apply Suff.there)))

set_option maxRecDepth 100000 in
theorem told_spec (x d : Nat) (ω : Wl) (al : Bool) (hs : 0 ≤ ω.synced) (hl : ω.recs.length ≤ 4294967296) : Fn Try.prog 29 #[vptr x, .bool al] [wlR x d ω] fun v L => ∃ a c, v = .agg #[.slice a (toldZ ω al).length c, vint ω.a, vint ω.b] ∧ L = [wlR x d ω, strR (.slice a (toldZ ω al).length c) (toldZ ω al)] := by
  refine Fn.intro (vs := [vptr x, .bool al]) Try.func29 rfl rfl ?_
  intro F W
  have htl := toldZ_len ω al
  have hrl : (tl ω).length ≤ 4294967296 := by unfold tl; split; exact Nat.zero_le _; exact hl
  refine G.seq ?_
  refine G.region ?_
  refine G.op (OpSpec.allocA ze_54) (by (repeat (first | exact Picks.nil | (apply Picks.cons; (repeat (first | exact Pick.here | apply Pick.there)))))) rfl ?nx1
  rintro v L' ⟨bt, rfl, rfl⟩
  refine G.nil ?_
  refine G.ptCast (b := bt) (l' := [.slice none 0 0, vint 0, vint 0]) (by (repeat (first | exact Pick.here | apply Pick.there))) rfl ?_
  refine G.then_n ?_
  refine G.seq ?_
  refine G.region ?_
  refine G.q (Quiet.move rfl) rfl ?_
  refine G.op (OpSpec.call Try.func60 rfl rfl (vs := [_]) rfl (wrec2_spec x d ω hl)) (by (repeat (first | exact Picks.nil | (apply Picks.cons; (repeat (first | exact Pick.here | apply Pick.there)))))) rfl ?nx4
  rintro v L' ⟨ar, cr, er, rfl, rfl⟩
  refine G.q (Quiet.move rfl) rfl ?_
  refine G.q (Quiet.extract (vs := [(.slice ar (tl ω).length cr), vint er]) rfl rfl) rfl ?_
  refine G.q (Quiet.extract (vs := [(.slice ar (tl ω).length cr), vint er]) rfl rfl) rfl ?_
  refine G.q (Quiet.assign rfl) rfl ?_
  refine G.q (Quiet.assign rfl) rfl ?_
  refine G.nil ?_
  refine G.slAddr (T := 9) (by (repeat (first | exact Pick.here | apply Pick.there))) fun hrc hra => ?_
  refine G.then_n ?_
  refine G.seq ?_
  refine G.region ?_
  refine G.q (Quiet.move rfl) rfl ?_
  refine G.op (OpSpec.call Try.func69 rfl rfl (vs := [_]) rfl (wmarks_spec x d ω)) (by (repeat (first | exact Picks.nil | (apply Picks.cons; (repeat (first | exact Pick.here | apply Pick.there)))))) rfl ?nx9
  rintro v L' ⟨rfl, rfl⟩
  refine G.q (Quiet.move rfl) rfl ?_
  refine G.q (Quiet.extract (vs := [vint ω.a, vint ω.b]) rfl rfl) rfl ?_
  refine G.q (Quiet.extract (vs := [vint ω.a, vint ω.b]) rfl rfl) rfl ?_
  refine G.q (Quiet.assign rfl) rfl ?_
  refine G.q (Quiet.assign rfl) rfl ?_
  refine G.nil ?_
  refine G.then_n ?_
  refine G.seq ?_
  refine G.region ?_
  refine G.q (Quiet.move rfl) rfl ?_
  refine G.q (Quiet.slen rfl Try.underlying22 rfl) rfl ?_
  refine G.q (Quiet.assign rfl) rfl ?_
  refine G.nil ?_
  refine G.then_n ?_
  refine G.seq ?_
  refine G.seq ?_
  refine G.region ?_
  refine G.q (Quiet.move rfl) rfl ?_
  refine G.q (Quiet.not rfl) rfl ?_
  refine G.nil ?_
  refine G.then_n ?_
  refine G.condB rfl (fun h23 => ?_) (fun h23 => ?_)
  · refine G.region ?_
    refine G.q (Quiet.move rfl) rfl ?_
    refine G.op (OpSpec.call Try.func70 rfl rfl (vs := [_]) rfl (wsynced_spec x d ω)) (by (repeat (first | exact Picks.nil | (apply Picks.cons; (repeat (first | exact Pick.here | apply Pick.there)))))) rfl ?nx17
    rintro v L' ⟨rfl, rfl⟩
    refine G.q (Quiet.max2 rfl rfl) rfl ?_
    refine G.q (Quiet.move rfl) rfl ?_
    refine G.q (Quiet.slen rfl Try.underlying22 rfl) rfl ?_
    refine G.q (Quiet.min2 rfl rfl) rfl ?_
    refine G.q (Quiet.assign rfl) rfl ?_
    refine G.nil ?_
    refine G.then_n ?_
    refine G.seq ?_
    have hal : al = false := by simpa using h23
    refine G.add (slR_nil 9 1) ?_
    have hto := toldZ_le ω al
    refine G.region ?_
    refine G.q (Quiet.move rfl) rfl ?_
    refine G.q (Quiet.move rfl) rfl ?_
    refine G.q (Quiet.to (v' := .slice ar (toldZ ω al).length cr) (Quiet.slTo (j := min (max ω.synced 0) (tl ω).length) rfl el_22 rfl (by omega) hra) (by rw [htl, hal]; simp; try omega)) rfl ?_
    refine G.op (OpSpec.append (n := 0) (m := (toldZ ω al).length) (ys := strs (toldZ ω al)) (p := strR (.slice ar (tl ω).length cr) (tl ω)) rfl rfl rfl el_22 (.inl ⟨_, Try.underlying22⟩) ze_9 rfl rfl ?hc23 ?hr24 ?hb25 (by decide)) (by (repeat (first | exact Picks.nil | (apply Picks.cons; (repeat (first | exact Pick.here | apply Pick.there)))))) rfl ?nx26
    case hc23 => exact strs_cell _
    case hr24 => exact told_rd ω al
    case hb25 => omega
    rintro v L' ⟨⟨a8, c8, rfl⟩, rfl⟩; rw [Nat.zero_add, List.nil_append]
    refine G.q (Quiet.move rfl) rfl ?_
    refine G.q (Quiet.move rfl) rfl ?_
    refine G.q (Quiet.build (us := [(0, _), (1, _), (2, _)]) fl_54 ze_54 rfl rfl (by simp [isCell])) rfl ?_
    refine G.op (OpSpec.storeA rfl rfl ?c29 sz_54 ?c32 ?c30 ?c31) (by (repeat (first | exact Picks.nil | (apply Picks.cons; (repeat (first | exact Pick.here | apply Pick.there)))))) rfl ?nx33
    case c29 => (first | (simp [isCell]; done) | (simp [isCell, setAll, Value.cells]; done))
    case c32 => (first | (simp; done) | (simp [setAll, spl, Value.cells]; done))
    case c30 => (first | (simp; done) | (simp [setAll, spl, Value.cells]; done))
    case c31 => exact nfz0 _ _
    rintro v L' rfl
    refine G.nil ?_
    refine G.ptCast (b := bt) (l' := [.slice a8 (toldZ ω al).length c8, vint ω.a, vint ω.b]) (by (repeat (first | exact Pick.here | apply Pick.there))) rfl ?_
    refine G.then_n ?_
    refine G.ret ?_
    exact G.done1 rfl (.cellA rfl ag_54 (by (repeat (first | exact Pick.here | apply Pick.there))) (by simp [spl, setAll]) rfl) ⟨a8, c8, rfl, rfl⟩ (by (repeat (first | exact Picks.nil | (apply Picks.cons; (repeat (first | exact Pick.here | apply Pick.there)))))) (by (repeat (first | exact Suff.here | apply Suff.there)))
  · refine G.skip ?_
    refine G.then_n ?_
    refine G.seq ?_
    have hal : al = true := by simpa using h23
    refine G.add (slR_nil 9 1) ?_
    have hto := toldZ_le ω al
    refine G.region ?_
    refine G.q (Quiet.move rfl) rfl ?_
    refine G.q (Quiet.move rfl) rfl ?_
    refine G.q (Quiet.to (v' := .slice ar (toldZ ω al).length cr) (Quiet.slTo (j := (tl ω).length) rfl el_22 rfl (by omega) hra) (by rw [htl, hal]; simp; try omega)) rfl ?_
    refine G.op (OpSpec.append (n := 0) (m := (toldZ ω al).length) (ys := strs (toldZ ω al)) (p := strR (.slice ar (tl ω).length cr) (tl ω)) rfl rfl rfl el_22 (.inl ⟨_, Try.underlying22⟩) ze_9 rfl rfl ?hc35 ?hr36 ?hb37 (by decide)) (by (repeat (first | exact Picks.nil | (apply Picks.cons; (repeat (first | exact Pick.here | apply Pick.there)))))) rfl ?nx38
    case hc35 => exact strs_cell _
    case hr36 => exact told_rd ω al
    case hb37 => omega
    rintro v L' ⟨⟨a8, c8, rfl⟩, rfl⟩; rw [Nat.zero_add, List.nil_append]
    refine G.q (Quiet.move rfl) rfl ?_
    refine G.q (Quiet.move rfl) rfl ?_
    refine G.q (Quiet.build (us := [(0, _), (1, _), (2, _)]) fl_54 ze_54 rfl rfl (by simp [isCell])) rfl ?_
    refine G.op (OpSpec.storeA rfl rfl ?c41 sz_54 ?c44 ?c42 ?c43) (by (repeat (first | exact Picks.nil | (apply Picks.cons; (repeat (first | exact Pick.here | apply Pick.there)))))) rfl ?nx45
    case c41 => (first | (simp [isCell]; done) | (simp [isCell, setAll, Value.cells]; done))
    case c44 => (first | (simp; done) | (simp [setAll, spl, Value.cells]; done))
    case c42 => (first | (simp; done) | (simp [setAll, spl, Value.cells]; done))
    case c43 => exact nfz0 _ _
    rintro v L' rfl
    refine G.nil ?_
    refine G.ptCast (b := bt) (l' := [.slice a8 (toldZ ω al).length c8, vint ω.a, vint ω.b]) (by (repeat (first | exact Pick.here | apply Pick.there))) rfl ?_
    refine G.then_n ?_
    refine G.ret ?_
    exact G.done1 rfl (.cellA rfl ag_54 (by (repeat (first | exact Pick.here | apply Pick.there))) (by simp [spl, setAll]) rfl) ⟨a8, c8, rfl, rfl⟩ (by (repeat (first | exact Picks.nil | (apply Picks.cons; (repeat (first | exact Pick.here | apply Pick.there)))))) (by (repeat (first | exact Suff.here | apply Suff.there)))

set_option maxRecDepth 100000 in
theorem behind_spec (x d : Nat) (ω : Wl) (k n f : Int) (vl vh : Value) (l : List Int) (p : HP) (hs : 0 ≤ ω.synced) (hl : ω.recs.length ≤ 4294967296) (hr : ∀ h : Hp, p h → rdS 1 h vl l.length (ints l)) (hll : ∀ x ∈ l, -9223372036854775808 ≤ x ∧ x ≤ 9223372036854775807) (hlb : l.length ≤ 4611686018427387904) (hcv : isCell vl = true ∧ isCell vh = true) :
    Fn Try.prog 59 #[vptr x, .agg #[vint k, vint n, vint f, vl, vh]] [wlR x d ω, p] fun v L => ∃ u q, (∀ h : Hp, q h → rdS 1 h u (behindZ ω k n f l).1.1.length (strs (behindZ ω k n f l).1.1)) ∧ v = .tuple #[.agg #[u, vint (behindZ ω k n f l).1.2.1, vint (behindZ ω k n f l).1.2.2], .bool (behindZ ω k n f l).2] ∧ L = [wlR x d ω, p, q] := by
  refine Fn.intro (vs := [vptr x, .agg #[vint k, vint n, vint f, vl, vh]]) Try.func59 rfl rfl ?_
  intro F W
  have htt : (toldZ ω true).length = (tl ω).length := rfl
  refine G.seq ?_
  refine G.region ?_
  refine G.op (OpSpec.box rfl) (by (repeat (first | exact Picks.nil | (apply Picks.cons; (repeat (first | exact Pick.here | apply Pick.there)))))) rfl ?nx1
  rintro v L' ⟨bo, rfl, rfl⟩
  refine G.op (OpSpec.allocA ze_54) (by (repeat (first | exact Picks.nil | (apply Picks.cons; (repeat (first | exact Pick.here | apply Pick.there)))))) rfl ?nx3
  rintro v L' ⟨br, rfl, rfl⟩
  refine G.q (Quiet.assign rfl) rfl ?_
  refine G.nil ?_
  refine G.ptCast (b := bo) (l' := [vint k, vint n, vint f, vl, vh]) (by (repeat (first | exact Pick.here | apply Pick.there))) rfl ?_
  refine G.ptCast (b := br) (l' := [.slice none 0 0, vint 0, vint 0]) (by (repeat (first | exact Pick.here | apply Pick.there))) rfl ?_
  refine G.then_n ?_
  refine G.seq ?_
  refine G.region ?_
  refine G.q (Quiet.move rfl) rfl ?_
  refine G.op (OpSpec.call Try.func29 rfl rfl (vs := [_, _]) rfl (told_spec x d ω false hs hl)) (by (repeat (first | exact Picks.nil | (apply Picks.cons; (repeat (first | exact Pick.here | apply Pick.there)))))) rfl ?nx7
  rintro v L' ⟨a1, c1, rfl, rfl⟩
  refine G.op (OpSpec.allocA ze_54) (by (repeat (first | exact Picks.nil | (apply Picks.cons; (repeat (first | exact Pick.here | apply Pick.there)))))) rfl ?nx9
  rintro v L' ⟨b6, rfl, rfl⟩
  refine G.op (OpSpec.storeA rfl rfl ?c11 sz_54 ?c14 ?c12 ?c13) (by (repeat (first | exact Picks.nil | (apply Picks.cons; (repeat (first | exact Pick.here | apply Pick.there)))))) rfl ?nx15
  case c11 => (first | (simp [isCell]; done) | (simp [isCell, setAll, Value.cells]; done))
  case c14 => (first | (simp; done) | (simp [setAll, spl, Value.cells]; done))
  case c12 => (first | (simp; done) | (simp [setAll, spl, Value.cells]; done))
  case c13 => exact nfz0 _ _
  rintro v L' rfl
  refine G.nil ?_
  refine G.ptCast (b := b6) (l' := [.slice a1 (toldZ ω false).length c1, vint ω.a, vint ω.b]) (by (repeat (first | exact Pick.here | apply Pick.there))) rfl ?_
  refine G.then_n ?_
  refine G.seq ?_
  refine G.region ?_
  refine G.q (Quiet.move rfl) rfl ?_
  refine G.op (OpSpec.call Try.func29 rfl rfl (vs := [_, _]) rfl (told_spec x d ω true hs hl)) (by (repeat (first | exact Picks.nil | (apply Picks.cons; (repeat (first | exact Pick.here | apply Pick.there)))))) rfl ?nx17
  rintro v L' ⟨a2, c2, rfl, rfl⟩
  refine G.op (OpSpec.allocA ze_54) (by (repeat (first | exact Picks.nil | (apply Picks.cons; (repeat (first | exact Pick.here | apply Pick.there)))))) rfl ?nx19
  rintro v L' ⟨b7, rfl, rfl⟩
  refine G.op (OpSpec.storeA rfl rfl ?c21 sz_54 ?c24 ?c22 ?c23) (by (repeat (first | exact Picks.nil | (apply Picks.cons; (repeat (first | exact Pick.here | apply Pick.there)))))) rfl ?nx25
  case c21 => (first | (simp [isCell]; done) | (simp [isCell, setAll, Value.cells]; done))
  case c24 => (first | (simp; done) | (simp [setAll, spl, Value.cells]; done))
  case c22 => (first | (simp; done) | (simp [setAll, spl, Value.cells]; done))
  case c23 => exact nfz0 _ _
  rintro v L' rfl
  refine G.nil ?_
  refine G.ptCast (b := b7) (l' := [.slice a2 (toldZ ω true).length c2, vint ω.a, vint ω.b]) (by (repeat (first | exact Pick.here | apply Pick.there))) rfl ?_
  refine G.slAddr (a := a2) (c := c2) (T := 9) (by (repeat (first | exact Pick.here | apply Pick.there))) fun hrc hra => ?_
  refine G.then_n ?_
  refine G.seq ?_
  refine G.seq ?_
  refine G.region ?_
  refine G.q (Quiet.fieldAddr rfl fo_42_0) rfl ?_
  refine G.q (Quiet.load rfl ag_3 (by (repeat (first | exact Pick.here | apply Pick.there))) (rfl)) rfl ?_
  refine G.nil ?_
  refine G.then_n ?_
  refine G.block ?_
  refine G.seq ?_
  refine G.region ?_
  refine G.q (Quiet.int rfl rfl rfl) rfl ?_
  refine G.q (Quiet.assign rfl) rfl ?_
  refine G.nil ?_
  refine G.then_n ?_
  refine G.condD rfl (fun h15 => ?_) (fun h15 => ?_)
  · refine G.seq ?_
    refine G.region ?_
    refine G.q (Quiet.loadA rfl ag_54 (by (repeat (first | exact Pick.here | apply Pick.there))) (by simp)) rfl ?_
    refine G.op (OpSpec.storeA rfl rfl ?c30 sz_54 ?c33 ?c31 ?c32) (by (repeat (first | exact Picks.nil | (apply Picks.cons; (repeat (first | exact Pick.here | apply Pick.there)))))) rfl ?nx34
    case c30 => (first | (simp [isCell]; done) | (simp [isCell, setAll, Value.cells]; done))
    case c33 => (first | (simp; done) | (simp [setAll, spl, Value.cells]; done))
    case c31 => (first | (simp; done) | (simp [setAll, spl, Value.cells]; done))
    case c32 => exact nfz0 _ _
    rintro v L' rfl
    refine G.q (Quiet.assign rfl) rfl ?_
    refine G.nil ?_
    refine G.then_n ?_
    refine G.ret ?_
    refine G.blk_r ?_
    refine G.then_r ?_
    have e : behindZ ω k n f l = ((toldZ ω true, ω.a, ω.b), true) := by unfold behindZ; rw [if_pos h15]
    rw [e]
    exact G.done2 rfl (.cellA rfl ag_54 (by (repeat (first | exact Pick.here | apply Pick.there))) (by simp [spl, setAll]) rfl) (.tmp rfl) ⟨_, _, fun h hp => slR_rd hp, rfl, rfl⟩ (by (repeat (first | exact Picks.nil | (apply Picks.cons; (repeat (first | exact Pick.here | apply Pick.there)))))) (by (repeat (first | exact Suff.here | apply Suff.there)))
  · refine G.seq ?_
    refine G.region ?_
    refine G.q (Quiet.int rfl rfl rfl) rfl ?_
    refine G.q (Quiet.assign rfl) rfl ?_
    refine G.nil ?_
    refine G.then_n ?_
    refine G.condD rfl (fun h18 => ?_) (fun h18 => ?_)
    · refine G.seq ?_
      refine G.seq ?_
      refine G.region ?_
      refine G.q (Quiet.fieldAddr rfl fo_42_1) rfl ?_
      refine G.q (Quiet.load rfl ag_3 (by (repeat (first | exact Pick.here | apply Pick.there))) (rfl)) rfl ?_
      refine G.q (Quiet.int rfl rfl rfl) rfl ?_
      refine G.q (Quiet.move rfl) rfl ?_
      refine G.dec (t := 23) rfl (fun h7_23 => ?_) (fun h7_23 => ?_)
      · refine G.kDT (t := 22) rfl h7_23 ?_
        refine G.gskip (t := 23) rfl rfl rfl rfl ?_
        refine G.gskip (t := 23) rfl rfl rfl rfl ?_
        refine G.gskip (t := 23) rfl rfl rfl rfl ?_
        refine G.gskip (t := 23) rfl rfl rfl rfl ?_
        refine G.gskip (t := 23) rfl rfl rfl rfl ?_
        refine G.gskip (t := 23) rfl rfl rfl rfl ?_
        refine G.q (Quiet.pickT rfl rfl) rfl ?_
        refine G.nil ?_
        refine G.then_n ?_
        refine G.condT rfl ?_
        refine G.seq ?_
        refine G.region ?_
        refine G.q (Quiet.loadA rfl ag_54 (by (repeat (first | exact Pick.here | apply Pick.there))) (by simp)) rfl ?_
        refine G.op (OpSpec.storeA rfl rfl ?c42 sz_54 ?c45 ?c43 ?c44) (by (repeat (first | exact Picks.nil | (apply Picks.cons; (repeat (first | exact Pick.here | apply Pick.there)))))) rfl ?nx46
        case c42 => (first | (simp [isCell]; done) | (simp [isCell, setAll, Value.cells]; done))
        case c45 => (first | (simp; done) | (simp [setAll, spl, Value.cells]; done))
        case c43 => (first | (simp; done) | (simp [setAll, spl, Value.cells]; done))
        case c44 => exact nfz0 _ _
        rintro v L' rfl
        refine G.q (Quiet.assign rfl) rfl ?_
        refine G.nil ?_
        refine G.then_n ?_
        refine G.ret ?_
        refine G.then_r ?_
        refine G.blk_r ?_
        refine G.then_r ?_
        have e : behindZ ω k n f l = ((toldZ ω false, ω.a, ω.b), false) := by unfold behindZ; rw [if_neg h15, if_pos h18, if_pos (.inl h7_23)]
        rw [e]
        exact G.done2 rfl (.cellA rfl ag_54 (by (repeat (first | exact Pick.here | apply Pick.there))) (by simp [spl, setAll]) rfl) (.tmp rfl) ⟨_, _, fun h hp => slR_rd hp, rfl, rfl⟩ (by (repeat (first | exact Picks.nil | (apply Picks.cons; (repeat (first | exact Pick.here | apply Pick.there)))))) (by (repeat (first | exact Suff.here | apply Suff.there)))
      · refine G.kDF (t := 22) rfl h7_23 ?_
        refine G.grun (t := 23) rfl rfl rfl ?_
        refine G.q (Quiet.fieldAddr rfl fo_42_1) rfl ?_
        refine G.grun (t := 23) rfl rfl rfl ?_
        refine G.q (Quiet.load rfl ag_3 (by (repeat (first | exact Pick.here | apply Pick.there))) (rfl)) rfl ?_
        refine G.grun (t := 23) rfl rfl rfl ?_
        refine G.q (Quiet.fieldAddr rfl fo_54_0) rfl ?_
        refine G.grun (t := 23) rfl rfl rfl ?_
        refine G.q (Quiet.load rfl ag_22 (by (repeat (first | exact Pick.here | apply Pick.there))) (rfl)) rfl ?_
        refine G.grun (t := 23) rfl rfl rfl ?_
        refine G.q (Quiet.slen rfl Try.underlying22 rfl) rfl ?_
        refine G.grun (t := 23) rfl rfl rfl ?_
        refine G.q (Quiet.int rfl rfl rfl) rfl ?_
        refine G.q (Quiet.pickF rfl rfl) rfl ?_
        refine G.nil ?_
        refine G.then_n ?_
        refine G.condD rfl (fun h30 => ?_) (fun h30 => ?_)
        · refine G.seq ?_
          refine G.region ?_
          refine G.q (Quiet.loadA rfl ag_54 (by (repeat (first | exact Pick.here | apply Pick.there))) (by simp)) rfl ?_
          refine G.op (OpSpec.storeA rfl rfl ?c55 sz_54 ?c58 ?c56 ?c57) (by (repeat (first | exact Picks.nil | (apply Picks.cons; (repeat (first | exact Pick.here | apply Pick.there)))))) rfl ?nx59
          case c55 => (first | (simp [isCell]; done) | (simp [isCell, setAll, Value.cells]; done))
          case c58 => (first | (simp; done) | (simp [setAll, spl, Value.cells]; done))
          case c56 => (first | (simp; done) | (simp [setAll, spl, Value.cells]; done))
          case c57 => exact nfz0 _ _
          rintro v L' rfl
          refine G.q (Quiet.assign rfl) rfl ?_
          refine G.nil ?_
          refine G.then_n ?_
          refine G.ret ?_
          refine G.then_r ?_
          refine G.blk_r ?_
          refine G.then_r ?_
          have e : behindZ ω k n f l = ((toldZ ω false, ω.a, ω.b), false) := by unfold behindZ; rw [if_neg h15, if_pos h18, if_pos (.inr h30)]
          rw [e]
          exact G.done2 rfl (.cellA rfl ag_54 (by (repeat (first | exact Pick.here | apply Pick.there))) (by simp [spl, setAll]) rfl) (.tmp rfl) ⟨_, _, fun h hp => slR_rd hp, rfl, rfl⟩ (by (repeat (first | exact Picks.nil | (apply Picks.cons; (repeat (first | exact Pick.here | apply Pick.there)))))) (by (repeat (first | exact Suff.here | apply Suff.there)))
        · refine G.skip ?_
          refine G.then_n ?_
          refine G.seq ?_
          have hin : ¬ (n < 0 ∨ n > (tl ω).length) := by rintro (h | h) <;> omega
          refine G.draw [10] [[0, 1, 2, 3, 4, 5, 6, 7, 8, 9, 10], [11]] mixed (by kernel_rfl) ?_
          refine Phases.go [] (by (repeat (first | exact Picks.nil | (apply Picks.cons; (repeat (first | exact Pick.here | apply Pick.there)))))) ?_
          refine D.qw [1, 4, 9, 10] rfl (by kernel_rfl) (Quiet.fieldAddr rfl fo_54_0) ?_
          refine D.qw [4, 9, 10] rfl (by kernel_rfl) (Quiet.load rfl ag_22 (by (repeat (first | exact Pick.here | apply Pick.there))) (rfl)) ?_
          refine D.qw [3, 4, 9, 10] rfl (by kernel_rfl) (Quiet.fieldAddr rfl fo_42_1) ?_
          refine D.qw [4, 9, 10] rfl (by kernel_rfl) (Quiet.load rfl ag_3 (by (repeat (first | exact Pick.here | apply Pick.there))) (rfl)) ?_
          refine D.qw [9, 10] rfl (by kernel_rfl) (Quiet.slTo (j := n) rfl el_22 rfl (by omega) hra) ?_
          refine D.qw [6, 9, 10] rfl (by kernel_rfl) (Quiet.fieldAddr rfl fo_54_1) ?_
          refine D.qw [9, 10] rfl (by kernel_rfl) (Quiet.load rfl ag_3 (by (repeat (first | exact Pick.here | apply Pick.there))) (rfl)) ?_
          refine D.qw [8, 9, 10] rfl (by kernel_rfl) (Quiet.fieldAddr rfl fo_54_2) ?_
          refine D.qw [9, 10] rfl (by kernel_rfl) (Quiet.load rfl ag_3 (by (repeat (first | exact Pick.here | apply Pick.there))) (rfl)) ?_
          refine D.qw [10] rfl (by kernel_rfl) (Quiet.build (us := [(0, _), (1, _), (2, _)]) fl_54 ze_54 rfl rfl (by simp [isCell])) ?_
          refine D.h rfl (by kernel_rfl) (OpSpec.storeA rfl rfl ?c71 sz_54 ?c74 ?c72 ?c73) (by (repeat (first | exact Picks.nil | (apply Picks.cons; (repeat (first | exact Pick.here | apply Pick.there)))))) ?nx75
          case c71 => (first | (simp [isCell]; done) | (simp [isCell, setAll, Value.cells]; done))
          case c74 => (first | (simp; done) | (simp [setAll, spl, Value.cells]; done))
          case c72 => (first | (simp; done) | (simp [setAll, spl, Value.cells]; done))
          case c73 => exact nfz0 _ _
          rintro v L' rfl
          refine D.ph ?_
          refine Phases.go [] (by (repeat (first | exact Picks.nil | (apply Picks.cons; (repeat (first | exact Pick.here | apply Pick.there)))))) ?_
          refine D.qw [] rfl (by kernel_rfl) (Quiet.assign rfl) ?_
          refine D.ph ?_
          refine Phases.fin ?_
          refine G.then_n ?_
          refine G.ret ?_
          refine G.blk_r ?_
          refine G.then_r ?_
          have e : behindZ ω k n f l = (((tl ω).take n.toNat, ω.a, ω.b), true) := by unfold behindZ; rw [if_neg h15, if_pos h18, if_neg hin]
          rw [e]
          exact G.done2 rfl (.cellA rfl ag_54 (by (repeat (first | exact Pick.here | apply Pick.there))) (by simp [spl, setAll]) rfl) (.tmp rfl) ⟨_, strR (.slice a2 (toldZ ω true).length c2) (tl ω), fun h hp => rd_take (k := n.toNat) (by omega) rfl h hp, rfl, rfl⟩ (by (repeat (first | exact Picks.nil | (apply Picks.cons; (repeat (first | exact Pick.here | apply Pick.there)))))) (by (repeat (first | exact Suff.here | apply Suff.there)))
    · refine G.seq ?_
      refine G.region ?_
      refine G.q (Quiet.int rfl rfl rfl) rfl ?_
      refine G.q (Quiet.assign rfl) rfl ?_
      refine G.nil ?_
      refine G.then_n ?_
      refine G.condD rfl (fun h42 => ?_) (fun h42 => ?_)
      · refine G.seq ?_
        refine G.region ?_
        refine G.q (Quiet.fieldAddr rfl fo_42_3) rfl ?_
        refine G.q (Quiet.load rfl ag_40 (by (repeat (first | exact Pick.here | apply Pick.there))) (rfl)) rfl ?_
        refine G.op (OpSpec.call Try.func78 rfl rfl (vs := [_]) rfl (many4_spec vl l p hr hll hlb)) (by (repeat (first | exact Picks.nil | (apply Picks.cons; (repeat (first | exact Pick.here | apply Pick.there)))))) rfl ?nx80
        rintro v L' ⟨am, cm, rfl, rfl⟩
        refine G.q (Quiet.assign rfl) rfl ?_
        refine G.nil ?_
        refine G.then_n ?_
        refine G.seq ?_
        refine G.region ?_
        refine G.q (Quiet.move rfl) rfl ?_
        refine G.q (Quiet.fieldAddr rfl fo_54_1) rfl ?_
        refine G.q (Quiet.load rfl ag_3 (by (repeat (first | exact Pick.here | apply Pick.there))) (rfl)) rfl ?_
        refine G.q (Quiet.fieldAddr rfl fo_54_2) rfl ?_
        refine G.q (Quiet.load rfl ag_3 (by (repeat (first | exact Pick.here | apply Pick.there))) (rfl)) rfl ?_
        refine G.q (Quiet.build (us := [(0, _), (1, _), (2, _)]) fl_54 ze_54 rfl rfl (by simp [isCell])) rfl ?_
        refine G.op (OpSpec.storeA rfl rfl ?c87 sz_54 ?c90 ?c88 ?c89) (by (repeat (first | exact Picks.nil | (apply Picks.cons; (repeat (first | exact Pick.here | apply Pick.there)))))) rfl ?nx91
        case c87 => (first | (simp [isCell]; done) | (simp [isCell, setAll, Value.cells]; done))
        case c90 => (first | (simp; done) | (simp [setAll, spl, Value.cells]; done))
        case c88 => (first | (simp; done) | (simp [setAll, spl, Value.cells]; done))
        case c89 => exact nfz0 _ _
        rintro v L' rfl
        refine G.q (Quiet.assign rfl) rfl ?_
        refine G.nil ?_
        refine G.then_n ?_
        refine G.ret ?_
        refine G.blk_r ?_
        refine G.then_r ?_
        have e : behindZ ω k n f l = ((manyZ l, ω.a, ω.b), true) := by unfold behindZ; rw [if_neg h15, if_neg h18, if_pos h42]
        rw [e]
        exact G.done2 rfl (.cellA rfl ag_54 (by (repeat (first | exact Pick.here | apply Pick.there))) (by simp [spl, setAll]) rfl) (.tmp rfl) ⟨_, _, fun h hp => slR_rd hp, rfl, rfl⟩ (by (repeat (first | exact Picks.nil | (apply Picks.cons; (repeat (first | exact Pick.here | apply Pick.there)))))) (by (repeat (first | exact Suff.here | apply Suff.there)))
      · refine G.seq ?_
        refine G.region ?_
        refine G.q (Quiet.int rfl rfl rfl) rfl ?_
        refine G.q (Quiet.assign rfl) rfl ?_
        refine G.nil ?_
        refine G.then_n ?_
        refine G.condD rfl (fun h53 => ?_) (fun h53 => ?_)
        · refine G.seq ?_
          refine G.draw [15] [[0, 1, 2, 3, 4, 5, 6, 7, 8, 9, 10, 11, 12, 13, 14, 15], [16]] mixed (by kernel_rfl) ?_
          refine Phases.go [ptc bo [vint k, vint n, vint f, vl, vh] 42] (by (repeat (first | exact Picks.nil | (apply Picks.cons; (repeat (first | exact Pick.here | apply Pick.there)))))) ?_
          refine D.qw [1, 6, 15] rfl (by kernel_rfl) (Quiet.fieldAddr rfl fo_54_0) ?_
          refine D.qw [6, 15] rfl (by kernel_rfl) (Quiet.load rfl ag_22 (by (repeat (first | exact Pick.here | apply Pick.there))) (rfl)) ?_
          refine D.qw [3, 6, 15] rfl (by kernel_rfl) (Quiet.fieldAddr rfl fo_42_1) ?_
          refine D.qw [6, 15] rfl (by kernel_rfl) (Quiet.load rfl ag_3 (by (repeat (first | exact Pick.here | apply Pick.there))) (rfl)) ?_
          refine D.qw [5, 6, 15] rfl (by kernel_rfl) (Quiet.fieldAddr rfl fo_42_2) ?_
          refine D.qw [6, 15] rfl (by kernel_rfl) (Quiet.load rfl ag_3 (by (repeat (first | exact Pick.here | apply Pick.there))) (rfl)) ?_
          refine D.qw [15] rfl (by kernel_rfl) (Quiet.build (us := [(0, _), (1, _), (2, _)]) fl_54 ze_54 rfl rfl (by simp [isCell])) ?_
          refine D.qw [8, 9, 10, 11, 12, 13, 14, 15] rfl (by kernel_rfl) (Quiet.fieldAddr rfl fo_42_1) ?_
          refine D.qw [9, 10, 11, 12, 13, 14, 15] rfl (by kernel_rfl) (Quiet.load rfl ag_3 (by (repeat (first | exact Pick.here | apply Pick.there))) (rfl)) ?_
          refine D.qw [10, 11, 12, 13, 14, 15] rfl (by kernel_rfl) (Quiet.int rfl rfl rfl) ?_
          refine D.qw [11, 12, 13, 14, 15] rfl (by kernel_rfl) (Quiet.move rfl) ?_
          refine D.dec (t := 65) rfl (fun h14_65 => ?_) (fun h14_65 => ?_)
          · refine D.kDT (t := 64) rfl h14_65 ?_
            refine D.gq (t := 65) rfl rfl rfl (by kernel_rfl) (Quiet.fieldAddr rfl fo_42_2) ?_
            refine D.gq (t := 65) rfl rfl rfl (by kernel_rfl) (Quiet.load rfl ag_3 (by (repeat (first | exact Pick.here | apply Pick.there))) (rfl)) ?_
            refine D.gq (t := 65) rfl rfl rfl (by kernel_rfl) (Quiet.int rfl rfl rfl) ?_
            refine D.q rfl (by kernel_rfl) (Quiet.pickT rfl rfl) ?_
            refine D.h rfl (by kernel_rfl) (OpSpec.storeA rfl rfl ?c107 sz_54 ?c110 ?c108 ?c109) (by (repeat (first | exact Picks.nil | (apply Picks.cons; (repeat (first | exact Pick.here | apply Pick.there)))))) ?nx111
            case c107 => (first | (simp [isCell]; done) | (simp [isCell, setAll, Value.cells]; done))
            case c110 => (first | (simp; done) | (simp [setAll, spl, Value.cells]; done))
            case c108 => (first | (simp; done) | (simp [setAll, spl, Value.cells]; done))
            case c109 => exact nfz0 _ _
            rintro v L' rfl
            refine D.ph ?_
            refine Phases.go [] (by (repeat (first | exact Picks.nil | (apply Picks.cons; (repeat (first | exact Pick.here | apply Pick.there)))))) ?_
            refine D.qw [] rfl (by kernel_rfl) (Quiet.assign rfl) ?_
            refine D.ph ?_
            refine Phases.fin ?_
            refine G.then_n ?_
            refine G.ret ?_
            refine G.blk_r ?_
            refine G.then_r ?_
            have e : behindZ ω k n f l = ((toldZ ω false, n, f), decide (f ≥ 0)) := by unfold behindZ; rw [if_neg h15, if_neg h18, if_neg h42, if_pos h53, decide_eq_true h14_65, Bool.true_and]
            rw [e]
            exact G.done2 rfl (.cellA rfl ag_54 (by (repeat (first | exact Pick.here | apply Pick.there))) (by simp [spl, setAll]) rfl) (.tmp rfl) ⟨_, _, fun h hp => slR_rd hp, rfl, rfl⟩ (by (repeat (first | exact Picks.nil | (apply Picks.cons; (repeat (first | exact Pick.here | apply Pick.there)))))) (by (repeat (first | exact Suff.here | apply Suff.there)))
          · refine D.kDF (t := 64) rfl h14_65 ?_
            refine D.gs (t := 65) rfl rfl rfl rfl (by kernel_rfl) ?_
            refine D.gs (t := 65) rfl rfl rfl rfl (by kernel_rfl) ?_
            refine D.gs (t := 65) rfl rfl rfl rfl (by kernel_rfl) ?_
            refine D.q rfl (by kernel_rfl) (Quiet.pickF rfl rfl) ?_
            refine D.h rfl (by kernel_rfl) (OpSpec.storeA rfl rfl ?c113 sz_54 ?c116 ?c114 ?c115) (by (repeat (first | exact Picks.nil | (apply Picks.cons; (repeat (first | exact Pick.here | apply Pick.there)))))) ?nx117
            case c113 => (first | (simp [isCell]; done) | (simp [isCell, setAll, Value.cells]; done))
            case c116 => (first | (simp; done) | (simp [setAll, spl, Value.cells]; done))
            case c114 => (first | (simp; done) | (simp [setAll, spl, Value.cells]; done))
            case c115 => exact nfz0 _ _
            rintro v L' rfl
            refine D.ph ?_
            refine Phases.go [] (by (repeat (first | exact Picks.nil | (apply Picks.cons; (repeat (first | exact Pick.here | apply Pick.there)))))) ?_
            refine D.qw [] rfl (by kernel_rfl) (Quiet.assign rfl) ?_
            refine D.ph ?_
            refine Phases.fin ?_
            refine G.then_n ?_
            refine G.ret ?_
            refine G.blk_r ?_
            refine G.then_r ?_
            have e : behindZ ω k n f l = ((toldZ ω false, n, f), false) := by unfold behindZ; rw [if_neg h15, if_neg h18, if_neg h42, if_pos h53, decide_eq_false h14_65, Bool.false_and]
            rw [e]
            exact G.done2 rfl (.cellA rfl ag_54 (by (repeat (first | exact Pick.here | apply Pick.there))) (by simp [spl, setAll]) rfl) (.tmp rfl) ⟨_, _, fun h hp => slR_rd hp, rfl, rfl⟩ (by (repeat (first | exact Picks.nil | (apply Picks.cons; (repeat (first | exact Pick.here | apply Pick.there)))))) (by (repeat (first | exact Suff.here | apply Suff.there)))
        · refine G.skip ?_
          refine G.blk_n ?_
          refine G.then_n ?_
          refine G.seq ?_
          refine G.region ?_
          refine G.q (Quiet.loadA rfl ag_54 (by (repeat (first | exact Pick.here | apply Pick.there))) (by simp)) rfl ?_
          refine G.op (OpSpec.storeA rfl rfl ?c119 sz_54 ?c122 ?c120 ?c121) (by (repeat (first | exact Picks.nil | (apply Picks.cons; (repeat (first | exact Pick.here | apply Pick.there)))))) rfl ?nx123
          case c119 => (first | (simp [isCell]; done) | (simp [isCell, setAll, Value.cells]; done))
          case c122 => (first | (simp; done) | (simp [setAll, spl, Value.cells]; done))
          case c120 => (first | (simp; done) | (simp [setAll, spl, Value.cells]; done))
          case c121 => exact nfz0 _ _
          rintro v L' rfl
          refine G.q (Quiet.assign rfl) rfl ?_
          refine G.nil ?_
          refine G.then_n ?_
          refine G.ret ?_
          have e : behindZ ω k n f l = ((toldZ ω false, ω.a, ω.b), false) := by unfold behindZ; rw [if_neg h15, if_neg h18, if_neg h42, if_neg h53]
          rw [e]
          exact G.done2 rfl (.cellA rfl ag_54 (by (repeat (first | exact Pick.here | apply Pick.there))) (by simp [spl, setAll]) rfl) (.tmp rfl) ⟨_, _, fun h hp => slR_rd hp, rfl, rfl⟩ (by (repeat (first | exact Picks.nil | (apply Picks.cons; (repeat (first | exact Pick.here | apply Pick.there)))))) (by (repeat (first | exact Suff.here | apply Suff.there)))

set_option maxRecDepth 100000 in
theorem same4_spec (x d : Nat) (ω : Wl) (u : Value) (sl : List Bs) (sa sb : Int) (q : HP) (hs : 0 ≤ ω.synced) (hl : ω.recs.length ≤ 4294967296) (hq : ∀ h : Hp, q h → rdS 1 h u sl.length (strs sl)) (hlb : sl.length ≤ 4611686018427387904) : Fn Try.prog 31 #[vptr x, .agg #[u, vint sa, vint sb]] [wlR x d ω, q] fun v L => v = .bool (sameZ ω (sl, sa, sb)) ∧ L = [wlR x d ω, q] := by
  refine Fn.intro (vs := [vptr x, .agg #[u, vint sa, vint sb]]) Try.func31 rfl rfl ?_
  intro F W
  refine G.rdAny (p := q) hq (by (repeat (first | exact Pick.here | apply Pick.there))) fun ua uc e _ => ?_
  subst e
  refine G.seq ?_
  refine G.region ?_
  refine G.op (OpSpec.box rfl) (by (repeat (first | exact Picks.nil | (apply Picks.cons; (repeat (first | exact Pick.here | apply Pick.there)))))) rfl ?nx1
  rintro v L' ⟨bx, rfl, rfl⟩
  refine G.q (Quiet.assign rfl) rfl ?_
  refine G.nil ?_
  refine G.ptCast (b := bx) (l' := [.slice ua sl.length uc, vint sa, vint sb]) (by (repeat (first | exact Pick.here | apply Pick.there))) rfl ?_
  refine G.then_n ?_
  refine G.seq ?_
  refine G.region ?_
  refine G.q (Quiet.move rfl) rfl ?_
  refine G.op (OpSpec.call Try.func29 rfl rfl (vs := [_, _]) rfl (told_spec x d ω true hs hl)) (by (repeat (first | exact Picks.nil | (apply Picks.cons; (repeat (first | exact Pick.here | apply Pick.there)))))) rfl ?nx5
  rintro v L' ⟨a1, c1, rfl, rfl⟩
  refine G.op (OpSpec.allocA ze_54) (by (repeat (first | exact Picks.nil | (apply Picks.cons; (repeat (first | exact Pick.here | apply Pick.there)))))) rfl ?nx7
  rintro v L' ⟨b5, rfl, rfl⟩
  refine G.op (OpSpec.storeA rfl rfl ?c9 sz_54 ?c12 ?c10 ?c11) (by (repeat (first | exact Picks.nil | (apply Picks.cons; (repeat (first | exact Pick.here | apply Pick.there)))))) rfl ?nx13
  case c9 => (first | (simp [isCell]; done) | (simp [isCell, setAll, Value.cells]; done))
  case c12 => (first | (simp; done) | (simp [setAll, spl, Value.cells]; done))
  case c10 => (first | (simp; done) | (simp [setAll, spl, Value.cells]; done))
  case c11 => exact nfz0 _ _
  rintro v L' rfl
  refine G.nil ?_
  refine G.ptCast (b := b5) (l' := [.slice a1 (toldZ ω true).length c1, vint ω.a, vint ω.b]) (by (repeat (first | exact Pick.here | apply Pick.there))) rfl ?_
  refine G.then_n ?_
  refine G.seq ?_
  refine G.region ?_
  refine G.q (Quiet.fieldAddr rfl fo_54_0) rfl ?_
  refine G.q (Quiet.load rfl ag_22 (by (repeat (first | exact Pick.here | apply Pick.there))) (rfl)) rfl ?_
  refine G.q (Quiet.fieldAddr rfl fo_54_0) rfl ?_
  refine G.q (Quiet.load rfl ag_22 (by (repeat (first | exact Pick.here | apply Pick.there))) (rfl)) rfl ?_
  refine G.op (OpSpec.call Try.func61 rfl rfl (vs := [_, _]) rfl (texts_spec _ _ sl (toldZ ω true) q (strR (.slice a1 (toldZ ω true).length c1) (toldZ ω true)) hq (fun h hp => slR_rd hp) hlb)) (by (repeat (first | exact Picks.nil | (apply Picks.cons; (repeat (first | exact Pick.here | apply Pick.there)))))) rfl ?nx18
  rintro v L' ⟨rfl, rfl⟩
  refine G.q (Quiet.assign rfl) rfl ?_
  refine G.nil ?_
  refine G.then_n ?_
  refine G.seq ?_
  refine G.region ?_
  refine G.q (Quiet.move rfl) rfl ?_
  refine G.q (Quiet.move rfl) rfl ?_
  refine G.dec (t := 15) rfl (fun h3_15 => ?_) (fun h3_15 => ?_)
  · refine G.kDT (t := 13) rfl h3_15 ?_
    refine G.kDT (t := 6) rfl h3_15 ?_
    refine G.kDT (t := 14) rfl h3_15 ?_
    refine G.grun (t := 15) rfl rfl rfl ?_
    refine G.q (Quiet.fieldAddr rfl fo_54_1) rfl ?_
    refine G.grun (t := 15) rfl rfl rfl ?_
    refine G.q (Quiet.load rfl ag_3 (by (repeat (first | exact Pick.here | apply Pick.there))) (rfl)) rfl ?_
    refine G.grun (t := 15) rfl rfl rfl ?_
    refine G.q (Quiet.fieldAddr rfl fo_54_1) rfl ?_
    refine G.grun (t := 15) rfl rfl rfl ?_
    refine G.q (Quiet.load rfl ag_3 (by (repeat (first | exact Pick.here | apply Pick.there))) (rfl)) rfl ?_
    refine G.grun (t := 15) rfl rfl rfl ?_
    refine G.q (Quiet.int rfl rfl rfl) rfl ?_
    refine G.q (Quiet.pickT rfl rfl) rfl ?_
    refine G.q (Quiet.move rfl) rfl ?_
    refine G.dec (t := 22) rfl (fun h3_22 => ?_) (fun h3_22 => ?_)
    · refine G.kDT (t := 20) rfl h3_22 ?_
      refine G.kDT (t := 21) rfl h3_22 ?_
      refine G.grun (t := 22) rfl rfl rfl ?_
      refine G.q (Quiet.fieldAddr rfl fo_54_2) rfl ?_
      refine G.grun (t := 22) rfl rfl rfl ?_
      refine G.q (Quiet.load rfl ag_3 (by (repeat (first | exact Pick.here | apply Pick.there))) (rfl)) rfl ?_
      refine G.grun (t := 22) rfl rfl rfl ?_
      refine G.q (Quiet.fieldAddr rfl fo_54_2) rfl ?_
      refine G.grun (t := 22) rfl rfl rfl ?_
      refine G.q (Quiet.load rfl ag_3 (by (repeat (first | exact Pick.here | apply Pick.there))) (rfl)) rfl ?_
      refine G.grun (t := 22) rfl rfl rfl ?_
      refine G.q (Quiet.int rfl rfl rfl) rfl ?_
      refine G.q (Quiet.pickT rfl rfl) rfl ?_
      refine G.q (Quiet.move rfl) rfl ?_
      refine G.dec (t := 29) rfl (fun h3_29 => ?_) (fun h3_29 => ?_)
      · refine G.kDT (t := 27) rfl h3_29 ?_
        refine G.kDT (t := 28) rfl h3_29 ?_
        refine G.grun (t := 29) rfl rfl rfl ?_
        refine G.q (Quiet.move rfl) rfl ?_
        refine G.grun (t := 29) rfl rfl rfl ?_
        refine G.op (OpSpec.call Try.func70 rfl rfl (vs := [_]) rfl (wsynced_spec x d ω)) (by (repeat (first | exact Picks.nil | (apply Picks.cons; (repeat (first | exact Pick.here | apply Pick.there)))))) rfl ?nx31
        rintro v L' ⟨rfl, rfl⟩
        refine G.grun (t := 29) rfl rfl rfl ?_
        refine G.q (Quiet.move rfl) rfl ?_
        refine G.grun (t := 29) rfl rfl rfl ?_
        refine G.op (OpSpec.call Try.func26 rfl rfl (vs := [_]) rfl (wlen_spec x d ω)) (by (repeat (first | exact Picks.nil | (apply Picks.cons; (repeat (first | exact Pick.here | apply Pick.there)))))) rfl ?nx34
        rintro v L' ⟨rfl, rfl⟩
        refine G.grun (t := 29) rfl rfl rfl ?_
        refine G.q (Quiet.int rfl rfl rfl) rfl ?_
        refine G.q (Quiet.pickT rfl rfl) rfl ?_
        refine G.q (Quiet.assign rfl) rfl ?_
        refine G.nil ?_
        refine G.then_n ?_
        refine G.ret ?_
        exact G.done (l := [.tmp 4]) rfl rfl ⟨by unfold sameZ; simp_all [toldZ], rfl⟩ (by (repeat (first | exact Picks.nil | (apply Picks.cons; (repeat (first | exact Pick.here | apply Pick.there)))))) (by (repeat (first | exact Suff.here | apply Suff.there)))
      · refine G.kDF (t := 27) rfl h3_29 ?_
        refine G.kDF (t := 28) rfl h3_29 ?_
        refine G.gskip (t := 29) rfl rfl rfl rfl ?_
        refine G.gskip (t := 29) rfl rfl rfl rfl ?_
        refine G.gskip (t := 29) rfl rfl rfl rfl ?_
        refine G.gskip (t := 29) rfl rfl rfl rfl ?_
        refine G.gskip (t := 29) rfl rfl rfl rfl ?_
        refine G.q (Quiet.pickF rfl rfl) rfl ?_
        refine G.q (Quiet.assign rfl) rfl ?_
        refine G.nil ?_
        refine G.then_n ?_
        refine G.ret ?_
        exact G.done (l := [.tmp 4]) rfl rfl ⟨by unfold sameZ; simp_all [toldZ], rfl⟩ (by (repeat (first | exact Picks.nil | (apply Picks.cons; (repeat (first | exact Pick.here | apply Pick.there)))))) (by (repeat (first | exact Suff.here | apply Suff.there)))
    · refine G.kDF (t := 20) rfl h3_22 ?_
      refine G.kDF (t := 21) rfl h3_22 ?_
      refine G.gskip (t := 22) rfl rfl rfl rfl ?_
      refine G.gskip (t := 22) rfl rfl rfl rfl ?_
      refine G.gskip (t := 22) rfl rfl rfl rfl ?_
      refine G.gskip (t := 22) rfl rfl rfl rfl ?_
      refine G.gskip (t := 22) rfl rfl rfl rfl ?_
      refine G.q (Quiet.pickF rfl rfl) rfl ?_
      refine G.q (Quiet.move rfl) rfl ?_
      refine G.gskip (t := 29) rfl rfl rfl rfl ?_
      refine G.gskip (t := 29) rfl rfl rfl rfl ?_
      refine G.gskip (t := 29) rfl rfl rfl rfl ?_
      refine G.gskip (t := 29) rfl rfl rfl rfl ?_
      refine G.gskip (t := 29) rfl rfl rfl rfl ?_
      refine G.q (Quiet.pickF rfl rfl) rfl ?_
      refine G.q (Quiet.assign rfl) rfl ?_
      refine G.nil ?_
      refine G.then_n ?_
      refine G.ret ?_
      exact G.done (l := [.tmp 4]) rfl rfl ⟨by unfold sameZ; simp_all [toldZ], rfl⟩ (by (repeat (first | exact Picks.nil | (apply Picks.cons; (repeat (first | exact Pick.here | apply Pick.there)))))) (by (repeat (first | exact Suff.here | apply Suff.there)))
  · refine G.kDF (t := 13) rfl h3_15 ?_
    refine G.kDF (t := 6) rfl h3_15 ?_
    refine G.kDF (t := 14) rfl h3_15 ?_
    refine G.gskip (t := 15) rfl rfl rfl rfl ?_
    refine G.gskip (t := 15) rfl rfl rfl rfl ?_
    refine G.gskip (t := 15) rfl rfl rfl rfl ?_
    refine G.gskip (t := 15) rfl rfl rfl rfl ?_
    refine G.gskip (t := 15) rfl rfl rfl rfl ?_
    refine G.q (Quiet.pickF rfl rfl) rfl ?_
    refine G.q (Quiet.move rfl) rfl ?_
    refine G.gskip (t := 22) rfl rfl rfl rfl ?_
    refine G.gskip (t := 22) rfl rfl rfl rfl ?_
    refine G.gskip (t := 22) rfl rfl rfl rfl ?_
    refine G.gskip (t := 22) rfl rfl rfl rfl ?_
    refine G.gskip (t := 22) rfl rfl rfl rfl ?_
    refine G.q (Quiet.pickF rfl rfl) rfl ?_
    refine G.q (Quiet.move rfl) rfl ?_
    refine G.gskip (t := 29) rfl rfl rfl rfl ?_
    refine G.gskip (t := 29) rfl rfl rfl rfl ?_
    refine G.gskip (t := 29) rfl rfl rfl rfl ?_
    refine G.gskip (t := 29) rfl rfl rfl rfl ?_
    refine G.gskip (t := 29) rfl rfl rfl rfl ?_
    refine G.q (Quiet.pickF rfl rfl) rfl ?_
    refine G.q (Quiet.assign rfl) rfl ?_
    refine G.nil ?_
    refine G.then_n ?_
    refine G.ret ?_
    exact G.done (l := [.tmp 4]) rfl rfl ⟨by unfold sameZ; simp_all [toldZ], rfl⟩ (by (repeat (first | exact Picks.nil | (apply Picks.cons; (repeat (first | exact Pick.here | apply Pick.there)))))) (by (repeat (first | exact Suff.here | apply Suff.there)))

end Go.Proofs.Ytepncdidkjjllaa
