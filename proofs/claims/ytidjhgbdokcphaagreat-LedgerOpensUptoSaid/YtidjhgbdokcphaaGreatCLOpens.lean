/- Own work, some of it printed by program, texts that were built one by one and are laid one behind the other here: both ledgers opened; LedgerOpens: walked. | from what a call is given to the atoms of SlCore, and back to what a statement asks. | strings and rows of strings as arguments. | nested arguments decoded: slices of structs, and what the row says of their weight. | arguments of a bounded bulk (the second form's bound), decoded. | lists of strings of an argument, decoded. | ledgerOpens: the walk, brought to the given second form and its card. -/
import Derived.Test.YtidjhgbdokcphaaGreatCLOpensP4
import Derived.Test.YtidjhgbdokcphaaGreatCLOpensP0
import Derived.Test.YtidjhgbdokcphaaGreatRows
import Derived.WalkKit
import Derived.ProofKit
import Derived.OpenShut
import Derived.JoinedCond
import Derived.Carry
import Derived.Deep.Grids
import Derived.Handed
import Derived.Deep.Strs
import Derived.Test.YtidjhgbdokcphaaGreatCLOpensP1
set_option linter.unusedSimpArgs false
set_option linter.unusedVariables false
set_option maxRecDepth 100000
/- Own work, by program: both ledgers opened; LedgerOpens: walked. -/

namespace Go.Proofs.YtidjhgbdokcphaaGreat
open Go
theorem wopenN_spec : Fn Tryz.prog 54 #[.pointer none] [] fun v L => v = .tuple #[.pointer none, vint 1] ∧ L = [] := by
 refine Fn.intro (vs := [.pointer none]) Tryz.func54 rfl rfl ?_
 intro F W
 refine G.seq (G.region (G.ag rfl rfl (G.ag rfl rfl (G.nil (G.then_n (G.seq (G.block (G.seq (G.region (G.mv rfl rfl (G.q (Quiet.ptreq rfl rfl Tryz.underlying24) rfl (G.ag rfl rfl (G.nil (G.then_n (G.condT rfl (G.seq (G.region (G.ag rfl rfl (G.ag rfl rfl (G.nil (G.then_n (G.ret (G.blk_r (G.then_r ?_))))))))))))))))))))))))
 exact G.dn (l := [.tmp 2, .tmp 3]) rfl rfl ⟨rfl, rfl⟩

theorem lopenN_spec : Fn Tryz.prog 18 #[.pointer none] [] fun v L => v = .tuple #[.pointer none, vint 1] ∧ L = [] := by
 refine Fn.intro (vs := [.pointer none]) Tryz.func18 rfl rfl ?_
 intro F W
 refine G.seq (G.region (G.ag rfl rfl (G.ag rfl rfl (G.nil (G.then_n (G.seq (G.region (G.mv rfl rfl ?_))))))))
 refine G.oq (OpSpec.call Tryz.func54 rfl rfl (vs := [_]) rfl (wopenN_spec)) ?nx4
 rintro v L' ⟨rfl, rfl⟩
 refine G.mv rfl rfl (G.q (Quiet.extract rfl rfl) rfl (G.q (Quiet.extract rfl rfl) rfl (G.ag rfl rfl (G.ag rfl rfl (G.nil (G.then_n (G.seq (G.block (G.seq (G.region (G.mv rfl rfl ?_)))))))))))
 refine G.q (Quiet.as (v' := .bool false) (by rfl) (Quiet.int rfl rfl rfl)) rfl ?_
 refine G.ag rfl rfl (G.nil (G.then_n (G.condF rfl (G.seq (G.region (G.mv rfl rfl ?_))))))
 refine G.q (Quiet.as (v' := .bool true) (by rfl) (Quiet.int rfl rfl rfl)) rfl ?_
 refine G.ag rfl rfl (G.nil (G.then_n (G.condT rfl (G.seq (G.region (G.mv rfl rfl (G.ag rfl rfl (G.ag rfl rfl (G.nil (G.then_n (G.ret (G.blk_r (G.then_r ?_)))))))))))))
 exact G.dn (l := [.tmp 2, .tmp 3]) rfl rfl ⟨rfl, rfl⟩

theorem lformatN_spec : Fn Tryz.prog 12 #[.pointer none] [] fun v L => v = .tuple #[.pointer none, vint 1] ∧ L = [] := by
 refine Fn.intro (vs := [.pointer none]) Tryz.func12 rfl rfl ?_
 intro F W
 refine G.seq (G.region (G.ag rfl rfl (G.ag rfl rfl (G.nil (G.then_n (G.seq (G.seq (G.region (G.mv rfl rfl (G.q (Quiet.ptreq rfl rfl Tryz.underlying24) rfl (G.nil (G.then_n (G.condT rfl (G.seq (G.region (G.ag rfl rfl (G.ag rfl rfl (G.nil (G.then_n (G.ret (G.then_r ?_)))))))))))))))))))))
 exact G.dn (l := [.tmp 2, .tmp 3]) rfl rfl ⟨rfl, rfl⟩

theorem r9openK_spec (x : Nat) (ρ : Rk) (δ : Dk) (hL : ρ.L = δ.now) (hd : δ.dead = false) (hg : ρ.Gone = false) (hn : 2 ≤ δ.now.length ∧ δ.now.length ≤ 32768) (hok : δ.Ok) (hrs : ∀ ω, openZ δ = some ω → (ω.recs.length ≤ 1048576 ∧ ∀ s ∈ ω.recs, s.length ≤ 1073741824) ∧ I64 ω.a ∧ I64 ω.b) : Fn Tryz.prog 72 #[vptr x] [rkR x ρ] fun v L =>
    (openZ δ = none ∧ v = .tuple #[.pointer none, vint 80] ∧ L = [rkR x ρ]) ∨ (∃ ω, openZ δ = some ω ∧ ((openLZ ω = none ∧ v = .tuple #[.pointer none, vint 80] ∧ L = [rkR x ρ]) ∨ (∃ Λ y w, openLZ ω = some Λ ∧ v = .tuple #[vptr y, vint 0] ∧ L = [rgR y w Λ, rlR w x ω, rkR x ρ]))) := by
 refine Fn.intro (vs := [vptr x]) Tryz.func72 rfl rfl ?_
 intro F W
 refine G.seq (G.region (G.ag rfl rfl (G.ag rfl rfl (G.nil (G.then_n (G.seq (G.region (G.mv rfl rfl ?_))))))))
 refine G.oq (OpSpec.call Tryz.func127 rfl rfl (vs := [_]) rfl (ropen_spec x ρ δ hL hd hg hn hok)) ?nx4
 rintro v L' (⟨hop, rfl, rfl⟩ | ⟨ω, hop, w, rfl, rfl⟩)
 ·refine G.mv rfl rfl (G.q (Quiet.extract rfl rfl) rfl (G.q (Quiet.extract rfl rfl) rfl (G.ag rfl rfl (G.ag rfl rfl (G.nil (G.then_n (G.seq (G.seq (G.region (G.mv rfl rfl ?_))))))))))
  refine G.q (Quiet.as (v' := .bool true) (by rfl) (Quiet.int rfl rfl rfl)) rfl ?_
  refine G.nil (G.then_n (G.condT rfl (G.seq (G.region (G.ag rfl rfl (G.ag rfl rfl (G.nil (G.then_n (G.ret (G.then_r ?_))))))))))
  exact G.dn (l := [.tmp 2, .tmp 3]) rfl rfl (.inl ⟨hop, rfl, rfl⟩)
 ·obtain ⟨⟨hr1, hr2⟩, hr3, hr4⟩ := hrs ω hop
  refine G.mv rfl rfl (G.q (Quiet.extract rfl rfl) rfl (G.q (Quiet.extract rfl rfl) rfl (G.ag rfl rfl (G.ag rfl rfl (G.nil (G.then_n (G.seq (G.seq (G.region (G.mv rfl rfl ?_))))))))))
  refine G.q (Quiet.as (v' := .bool false) (by rfl) (Quiet.int rfl rfl rfl)) rfl ?_
  refine G.nil (G.then_n (G.condF rfl (G.skip (G.then_n (G.seq (G.seq (G.region (G.mv rfl rfl ?_))))))))
  refine G.q (Quiet.as (v' := .bool false) (by rfl) (Quiet.int rfl rfl rfl)) rfl ?_
  refine G.nil (G.then_n (G.condF rfl (G.skip (G.then_n (G.seq (G.region (G.mv rfl rfl ?_)))))))
  refine G.oq (OpSpec.call Tryz.func128 rfl rfl (vs := [_]) rfl (r9read_spec w x ω hr1 hr2 hr3 hr4)) ?nx16
  rintro v L' (⟨hol, rfl, rfl⟩ | ⟨Λ, y, hol, rfl, rfl⟩)
  ·refine G.mv rfl rfl (G.q (Quiet.extract rfl rfl) rfl (G.q (Quiet.extract rfl rfl) rfl (G.ag rfl rfl (G.ag rfl rfl (G.nil (G.then_n (G.seq (G.seq (G.region (G.mv rfl rfl (G.q (Quiet.not rfl) rfl (G.nil (G.then_n (G.condT rfl (G.seq (G.region (G.ag rfl rfl (G.ag rfl rfl (G.nil (G.then_n (G.ret (G.then_r ?_))))))))))))))))))))))
   exact G.dn (l := [.tmp 2, .tmp 3]) rfl rfl (.inr ⟨ω, hop, .inl ⟨hol, rfl, rfl⟩⟩)
  ·refine G.mv rfl rfl (G.q (Quiet.extract rfl rfl) rfl (G.q (Quiet.extract rfl rfl) rfl (G.ag rfl rfl (G.ag rfl rfl (G.nil (G.then_n (G.seq (G.seq (G.region (G.mv rfl rfl (G.q (Quiet.not rfl) rfl (G.nil (G.then_n (G.condF rfl (G.skip (G.then_n (G.seq (G.region (G.mv rfl rfl (G.ag rfl rfl (G.ag rfl rfl (G.nil (G.then_n (G.ret ?_))))))))))))))))))))))))
   exact G.dn (l := [.tmp 2, .tmp 3]) rfl rfl (.inr ⟨ω, hop, .inr ⟨Λ, y, w, hol, rfl, rfl⟩⟩)

theorem sopensK_spec (s d x : Nat) (l0 y0 : Value) (δ : Dk) (ρ : Rk) (hL : ρ.L = δ.now) (hd : δ.dead = false) (hg : ρ.Gone = false) (hn : 2 ≤ δ.now.length ∧ δ.now.length ≤ 32768) (hok : δ.Ok) (hac : δ.acts + 10000000 < 4611686018427387904) : Fn Tryz.prog 24 #[vptr s, .bool false] [ptc s [vptr d, l0, vptr x, y0] 62, dkR d δ, rkR x ρ] fun v L => ((δ.dead = true ∨ openZ δ = none ∨ ∃ ω, openZ δ = some ω ∧ openLZ ω = none) ∧ v = .bool true ∧ L = [ptc s [vptr d, .pointer none, vptr x, .pointer none] 62, dkR d δ, rkR x ρ]) ∨ (δ.dead = false ∧ ∃ ω Λ g xg y w, openZ δ = some ω ∧ openLZ ω = some Λ ∧ v = .bool true ∧ L = [ptc s [vptr d, vptr g, vptr x, vptr y] 62, lgR g xg Λ, wlR xg d ω, dkR d δ, rgR y w Λ, rlR w x ω, rkR x ρ]) := by
 refine Fn.intro (vs := [vptr s, .bool false]) Tryz.func24 rfl rfl ?_
 intro F W
 have hI := fun ω h => open_I (ω := ω) hok hn hac h
 have hrsP : ∀ ω, openZ δ = some ω → ω.doubt = false ∧ ω.recs.length ≤ 1048576 ∧ ∀ s ∈ ω.recs, s.length ≤ 1073741824 := fun ω h => ⟨(hI ω h).2.1, (hI ω h).2.2.2.1, fun s hs => by have := (hI ω h).2.2.1 s hs; omega⟩
 have hrsR : ∀ ω, openZ δ = some ω → (ω.recs.length ≤ 1048576 ∧ ∀ s ∈ ω.recs, s.length ≤ 1073741824) ∧ I64 ω.a ∧ I64 ω.b := fun ω h => ⟨(hrsP ω h).2, ⟨by have := (hI ω h).2.2.2.2.1; omega, (hI ω h).2.2.2.2.1.2⟩, ⟨by have := (hI ω h).2.2.2.2.2; omega, (hI ω h).2.2.2.2.2.2⟩⟩
 refine G.seq (G.region (G.ag rfl rfl (G.nil (G.then_n (G.seq (G.region (G.ag rfl rfl (G.nil (G.then_n (G.seq (G.region (G.ag rfl rfl (G.nil (G.then_n (G.seq (G.seq (G.region (G.mv rfl rfl (G.nil (G.then_n (G.condF rfl (G.seq (G.region (G.mv rfl rfl (G.mv rfl rfl (G.q (Quiet.nilp rfl) rfl (G.q (Quiet.fieldAddr rfl fo_62_0) rfl ?_)))))))))))))))))))))))))))
 refine G.q (Quiet.ld rfl ag_24) rfl ?_
 refine G.oq (OpSpec.call Tryz.func18 rfl rfl (vs := [_]) rfl (lopen_spec d δ hn hok hrsP)) ?nx10
 rintro v L' (⟨hdd, rfl, rfl⟩ | ⟨hdd, hop, rfl, rfl⟩ | ⟨hdd, ω, hop, ⟨hol, rfl, rfl⟩ | ⟨Λ, g, xg, hol, rfl, rfl⟩⟩)
 · rw [hd] at hdd; cases hdd
 ·refine G.mv rfl rfl (G.q (Quiet.extract rfl rfl) rfl (G.q (Quiet.extract rfl rfl) rfl (G.q (Quiet.nilp rfl) rfl (G.q (Quiet.fieldAddr rfl fo_62_1) rfl ?_))))
  refine G.oq (OpSpec.store rfl rfl rfl sz_28 ?c17 ?c18) ?nx19
  case c17 => simp
  case c18 => exact nfz0 _ _
  rintro v L' rfl
  refine G.ag rfl rfl (G.nil ?_)
  refine G.ptCast (b := s) (l' := [vptr d, .pointer none, vptr x, y0]) (by (repeat' constructor)) (by exact rfl) ?_
  refine G.then_n (G.region (G.mv rfl rfl (G.mv rfl rfl (G.q (Quiet.nilp rfl) rfl (G.q (Quiet.fieldAddr rfl fo_62_2) rfl ?_)))))
  refine G.q (Quiet.ld rfl ag_47) rfl ?_
  refine G.oq (OpSpec.call Tryz.func72 rfl rfl (vs := [_]) rfl (r9openK_spec x ρ δ hL hd hg hn hok hrsR)) ?nx25
  rintro v L' (⟨hop2, rfl, rfl⟩ | ⟨ω2, hop2, ⟨hol2, rfl, rfl⟩ | ⟨Λ2, y, w, hol2, rfl, rfl⟩⟩)
  ·refine G.mv rfl rfl (G.q (Quiet.extract rfl rfl) rfl (G.q (Quiet.extract rfl rfl) rfl (G.q (Quiet.nilp rfl) rfl (G.q (Quiet.fieldAddr rfl fo_62_3) rfl ?_))))
   refine G.oq (OpSpec.store rfl rfl rfl sz_60 ?c31 ?c32) ?nx33
   case c31 => simp
   case c32 => exact nfz0 _ _
   rintro v L' rfl
   refine G.ag rfl rfl (G.nil ?_)
   refine G.ptCast (b := s) (l' := [vptr d, .pointer none, vptr x, .pointer none]) (by (repeat' constructor)) (by exact rfl) ?_
   refine G.then_n (G.seq ?_)
   refine G.draw [] [[0, 1, 2, 3, 4, 5, 6, 7, 8, 9, 10, 11, 12, 13, 14, 15, 16]] mixed (by kernel_rfl) ?_
   refine Phases.go [] (by (repeat' constructor)) ?_
   refine D.kw [2, 3, 4, 5, 6, 7, 8, 9, 10, 11, 12, 13, 14, 15, 16] rfl (Quiet.move rfl) ?_
   refine D.kw [2, 3, 4, 5, 6, 7, 8, 9, 10, 11, 12, 13, 14, 15, 16] rfl (Quiet.move rfl) ?_
   refine D.kw [3, 4, 5, 6, 7, 8, 9, 10, 11, 12, 13, 14, 15, 16] rfl (Quiet.as (v' := .bool true) (by rfl) (Quiet.int rfl rfl rfl)) ?_
   refine D.kw [4, 5, 6, 7, 8, 9, 10, 11, 12, 13, 14, 15, 16] rfl (Quiet.move rfl) ?_
   refine D.gqw [5, 6, 7, 8, 14, 15, 16] (t := 55) rfl rfl rfl (by kernel_rfl) (Quiet.move rfl) ?_
   refine D.gqw [6, 7, 8, 14, 15, 16] (t := 55) rfl rfl rfl (by kernel_rfl) (Quiet.nilp rfl) ?_
   refine D.gqw [7, 8, 14, 15, 16] (t := 55) rfl rfl rfl (by kernel_rfl) (Quiet.fieldAddr rfl fo_62_1) ?_
   refine D.gqw [8, 14, 15, 16] (t := 55) rfl rfl rfl (by kernel_rfl) (Quiet.ld rfl ag_28) ?_
   refine D.gqw [14, 15, 16] (t := 55) rfl rfl rfl (by kernel_rfl) (Quiet.ptreq rfl rfl Tryz.underlying28) ?_
   refine D.gqw [10, 11, 12, 13, 14, 15, 16] (t := 55) rfl rfl rfl (by kernel_rfl) (Quiet.move rfl) ?_
   refine D.gqw [11, 12, 13, 14, 15, 16] (t := 55) rfl rfl rfl (by kernel_rfl) (Quiet.nilp rfl) ?_
   refine D.gqw [12, 13, 14, 15, 16] (t := 55) rfl rfl rfl (by kernel_rfl) (Quiet.fieldAddr rfl fo_62_3) ?_
   refine D.gqw [13, 14, 15, 16] (t := 55) rfl rfl rfl (by kernel_rfl) (Quiet.ld rfl ag_60) ?_
   refine D.gqw [14, 15, 16] (t := 55) rfl rfl rfl (by kernel_rfl) (Quiet.ptreq rfl rfl Tryz.underlying60) ?_
   refine D.gqw [15, 16] (t := 55) rfl rfl rfl (by kernel_rfl) (Quiet.as (v' := .bool true) (by rfl) (Quiet.booleq rfl rfl Tryz.underlying4)) ?_
   refine D.kw [16] rfl (Quiet.pickT rfl rfl) ?_
   refine D.kw [] rfl (Quiet.assign rfl) ?_
   refine D.ph (Phases.fin (G.then_n (G.ret ?_)))
   exact G.dn (l := [.tmp 4]) rfl rfl (.inl ⟨.inr (.inl hop), rfl, rfl⟩)
  · rw [hop] at hop2; cases hop2
  · rw [hop] at hop2; cases hop2
 ·refine G.mv rfl rfl (G.q (Quiet.extract rfl rfl) rfl (G.q (Quiet.extract rfl rfl) rfl (G.q (Quiet.nilp rfl) rfl (G.q (Quiet.fieldAddr rfl fo_62_1) rfl ?_))))
  refine G.oq (OpSpec.store rfl rfl rfl sz_28 ?c53 ?c54) ?nx55
  case c53 => simp
  case c54 => exact nfz0 _ _
  rintro v L' rfl
  refine G.ag rfl rfl (G.nil ?_)
  refine G.ptCast (b := s) (l' := [vptr d, .pointer none, vptr x, y0]) (by (repeat' constructor)) (by exact rfl) ?_
  refine G.then_n (G.region (G.mv rfl rfl (G.mv rfl rfl (G.q (Quiet.nilp rfl) rfl (G.q (Quiet.fieldAddr rfl fo_62_2) rfl ?_)))))
  refine G.q (Quiet.ld rfl ag_47) rfl ?_
  refine G.oq (OpSpec.call Tryz.func72 rfl rfl (vs := [_]) rfl (r9openK_spec x ρ δ hL hd hg hn hok hrsR)) ?nx61
  rintro v L' (⟨hop2, rfl, rfl⟩ | ⟨ω2, hop2, ⟨hol2, rfl, rfl⟩ | ⟨Λ2, y, w, hol2, rfl, rfl⟩⟩)
  · rw [hop] at hop2; cases hop2
  ·refine G.mv rfl rfl (G.q (Quiet.extract rfl rfl) rfl (G.q (Quiet.extract rfl rfl) rfl (G.q (Quiet.nilp rfl) rfl (G.q (Quiet.fieldAddr rfl fo_62_3) rfl ?_))))
   refine G.oq (OpSpec.store rfl rfl rfl sz_60 ?c68 ?c69) ?nx70
   case c68 => simp
   case c69 => exact nfz0 _ _
   rintro v L' rfl
   refine G.ag rfl rfl (G.nil ?_)
   refine G.ptCast (b := s) (l' := [vptr d, .pointer none, vptr x, .pointer none]) (by (repeat' constructor)) (by exact rfl) ?_
   refine G.then_n (G.seq ?_)
   refine G.draw [] [[0, 1, 2, 3, 4, 5, 6, 7, 8, 9, 10, 11, 12, 13, 14, 15, 16]] mixed (by kernel_rfl) ?_
   refine Phases.go [] (by (repeat' constructor)) ?_
   refine D.kw [2, 3, 4, 5, 6, 7, 8, 9, 10, 11, 12, 13, 14, 15, 16] rfl (Quiet.move rfl) ?_
   refine D.kw [2, 3, 4, 5, 6, 7, 8, 9, 10, 11, 12, 13, 14, 15, 16] rfl (Quiet.move rfl) ?_
   refine D.kw [3, 4, 5, 6, 7, 8, 9, 10, 11, 12, 13, 14, 15, 16] rfl (Quiet.as (v' := .bool true) (by rfl) (Quiet.int rfl rfl rfl)) ?_
   refine D.kw [4, 5, 6, 7, 8, 9, 10, 11, 12, 13, 14, 15, 16] rfl (Quiet.move rfl) ?_
   refine D.gqw [5, 6, 7, 8, 14, 15, 16] (t := 55) rfl rfl rfl (by kernel_rfl) (Quiet.move rfl) ?_
   refine D.gqw [6, 7, 8, 14, 15, 16] (t := 55) rfl rfl rfl (by kernel_rfl) (Quiet.nilp rfl) ?_
   refine D.gqw [7, 8, 14, 15, 16] (t := 55) rfl rfl rfl (by kernel_rfl) (Quiet.fieldAddr rfl fo_62_1) ?_
   refine D.gqw [8, 14, 15, 16] (t := 55) rfl rfl rfl (by kernel_rfl) (Quiet.ld rfl ag_28) ?_
   refine D.gqw [14, 15, 16] (t := 55) rfl rfl rfl (by kernel_rfl) (Quiet.ptreq rfl rfl Tryz.underlying28) ?_
   refine D.gqw [10, 11, 12, 13, 14, 15, 16] (t := 55) rfl rfl rfl (by kernel_rfl) (Quiet.move rfl) ?_
   refine D.gqw [11, 12, 13, 14, 15, 16] (t := 55) rfl rfl rfl (by kernel_rfl) (Quiet.nilp rfl) ?_
   refine D.gqw [12, 13, 14, 15, 16] (t := 55) rfl rfl rfl (by kernel_rfl) (Quiet.fieldAddr rfl fo_62_3) ?_
   refine D.gqw [13, 14, 15, 16] (t := 55) rfl rfl rfl (by kernel_rfl) (Quiet.ld rfl ag_60) ?_
   refine D.gqw [14, 15, 16] (t := 55) rfl rfl rfl (by kernel_rfl) (Quiet.ptreq rfl rfl Tryz.underlying60) ?_
   refine D.gqw [15, 16] (t := 55) rfl rfl rfl (by kernel_rfl) (Quiet.as (v' := .bool true) (by rfl) (Quiet.booleq rfl rfl Tryz.underlying4)) ?_
   refine D.kw [16] rfl (Quiet.pickT rfl rfl) ?_
   refine D.kw [] rfl (Quiet.assign rfl) ?_
   refine D.ph (Phases.fin (G.then_n (G.ret ?_)))
   exact G.dn (l := [.tmp 4]) rfl rfl (.inl ⟨.inr (.inr ⟨ω, hop, hol⟩), rfl, rfl⟩)
  · rw [hop] at hop2; cases hop2; rw [hol] at hol2; cases hol2
 ·refine G.mv rfl rfl (G.q (Quiet.extract rfl rfl) rfl (G.q (Quiet.extract rfl rfl) rfl (G.q (Quiet.nilp rfl) rfl (G.q (Quiet.fieldAddr rfl fo_62_1) rfl ?_))))
  refine G.oq (OpSpec.store rfl rfl rfl sz_28 ?c89 ?c90) ?nx91
  case c89 => simp
  case c90 => exact nfz0 _ _
  rintro v L' rfl
  refine G.ag rfl rfl (G.nil ?_)
  refine G.ptCast (b := s) (l' := [vptr d, vptr g, vptr x, y0]) (by (repeat' constructor)) (by exact rfl) ?_
  refine G.then_n (G.region (G.mv rfl rfl (G.mv rfl rfl (G.q (Quiet.nilp rfl) rfl (G.q (Quiet.fieldAddr rfl fo_62_2) rfl ?_)))))
  refine G.q (Quiet.ld rfl ag_47) rfl ?_
  refine G.oq (OpSpec.call Tryz.func72 rfl rfl (vs := [_]) rfl (r9openK_spec x ρ δ hL hd hg hn hok hrsR)) ?nx97
  rintro v L' (⟨hop2, rfl, rfl⟩ | ⟨ω2, hop2, ⟨hol2, rfl, rfl⟩ | ⟨Λ2, y, w, hol2, rfl, rfl⟩⟩)
  · rw [hop] at hop2; cases hop2
  · rw [hop] at hop2; cases hop2; rw [hol] at hol2; cases hol2
  ·refine G.mv rfl rfl (G.q (Quiet.extract rfl rfl) rfl (G.q (Quiet.extract rfl rfl) rfl (G.q (Quiet.nilp rfl) rfl (G.q (Quiet.fieldAddr rfl fo_62_3) rfl ?_))))
   refine G.oq (OpSpec.store rfl rfl rfl sz_60 ?c105 ?c106) ?nx107
   case c105 => simp
   case c106 => exact nfz0 _ _
   rintro v L' rfl
   refine G.ag rfl rfl (G.nil ?_)
   refine G.ptCast (b := s) (l' := [vptr d, vptr g, vptr x, vptr y]) (by (repeat' constructor)) (by exact rfl) ?_
   rw [hop] at hop2; cases hop2
   rw [hol] at hol2; cases hol2
   refine G.then_n (G.seq ?_)
   refine G.draw [] [[0, 1, 2, 3, 4, 5, 6, 7, 8, 9, 10, 11, 12, 13, 14, 15, 16]] mixed (by kernel_rfl) ?_
   refine Phases.go [] (by (repeat' constructor)) ?_
   refine D.kw [2, 3, 4, 5, 6, 7, 8, 9, 10, 11, 12, 13, 14, 15, 16] rfl (Quiet.move rfl) ?_
   refine D.kw [2, 3, 4, 5, 6, 7, 8, 9, 10, 11, 12, 13, 14, 15, 16] rfl (Quiet.move rfl) ?_
   refine D.kw [3, 4, 5, 6, 7, 8, 9, 10, 11, 12, 13, 14, 15, 16] rfl (Quiet.as (v' := .bool true) (by rfl) (Quiet.int rfl rfl rfl)) ?_
   refine D.kw [4, 5, 6, 7, 8, 9, 10, 11, 12, 13, 14, 15, 16] rfl (Quiet.move rfl) ?_
   refine D.gqw [5, 6, 7, 8, 14, 15, 16] (t := 55) rfl rfl rfl (by kernel_rfl) (Quiet.move rfl) ?_
   refine D.gqw [6, 7, 8, 14, 15, 16] (t := 55) rfl rfl rfl (by kernel_rfl) (Quiet.nilp rfl) ?_
   refine D.gqw [7, 8, 14, 15, 16] (t := 55) rfl rfl rfl (by kernel_rfl) (Quiet.fieldAddr rfl fo_62_1) ?_
   refine D.gqw [8, 14, 15, 16] (t := 55) rfl rfl rfl (by kernel_rfl) (Quiet.ld rfl ag_28) ?_
   refine D.gqw [14, 15, 16] (t := 55) rfl rfl rfl (by kernel_rfl) (Quiet.ptreq rfl rfl Tryz.underlying28) ?_
   refine D.gqw [10, 11, 12, 13, 14, 15, 16] (t := 55) rfl rfl rfl (by kernel_rfl) (Quiet.move rfl) ?_
   refine D.gqw [11, 12, 13, 14, 15, 16] (t := 55) rfl rfl rfl (by kernel_rfl) (Quiet.nilp rfl) ?_
   refine D.gqw [12, 13, 14, 15, 16] (t := 55) rfl rfl rfl (by kernel_rfl) (Quiet.fieldAddr rfl fo_62_3) ?_
   refine D.gqw [13, 14, 15, 16] (t := 55) rfl rfl rfl (by kernel_rfl) (Quiet.ld rfl ag_60) ?_
   refine D.gqw [14, 15, 16] (t := 55) rfl rfl rfl (by kernel_rfl) (Quiet.ptreq rfl rfl Tryz.underlying60) ?_
   refine D.gqw [15, 16] (t := 55) rfl rfl rfl (by kernel_rfl) (Quiet.as (v' := .bool true) (by rfl) (Quiet.booleq rfl rfl Tryz.underlying4)) ?_
   refine D.kw [16] rfl (Quiet.pickT rfl rfl) ?_
   refine D.kw [] rfl (Quiet.assign rfl) ?_
   refine D.ph (Phases.fin (G.then_n (G.ret ?_)))
   exact G.dn (l := [.tmp 4]) rfl rfl (.inr ⟨hdd, ω, Λ, g, xg, y, w, hop, hol, rfl, rfl⟩)

theorem fmt_len (n : Int) : (formatZ (Dk.new n)).1.now.length = n.toNat := by
  have hl : (Dk.new n).now.length = n.toNat := by simp [Dk.new]
  unfold formatZ
  repeat' split
  all_goals (rw [show ∀ k, (fmtZ (Dk.new n) k).1.now.length = n.toNat from fun k => by rw [(fmtZ_keeps (Dk.new n) k).1, hl]])
theorem setm_ab {δ : Dk} {ω : Wl} (a b : Int) (ha : I64 a) (hb : I64 b) (h : (setmZ δ ω a b).2.2 = 0) (h0 : ω.a = 0 ∧ ω.b = 0) : (0 ≤ (setmZ δ ω a b).2.1.a ∧ (setmZ δ ω a b).2.1.a ≤ 9223372036854775807) ∧ (0 ≤ (setmZ δ ω a b).2.1.b ∧ (setmZ δ ω a b).2.1.b ≤ 9223372036854775807) := by
  unfold setmZ at h ⊢
  split
  · rename_i g; rw [if_pos g] at h; exact absurd h (by show ¬ (34 : Int) = 0; decide)
  rename_i g1
  rw [if_neg g1] at h
  split
  · rename_i g; rw [if_pos g] at h; exact absurd h (by show ¬ (1 : Int) = 0; decide)
  rename_i g2
  rw [if_neg g2] at h
  split
  · rename_i g; rw [if_pos g] at h; exact absurd h (by show ¬ (30 : Int) = 0; decide)
  rename_i g3
  rw [if_neg g3] at h
  split
  · rename_i g; rw [if_pos g, (dbt_err _).1] at h; exact absurd h g
  · exact ⟨⟨by dsimp only; omega, ha.2⟩, ⟨by dsimp only; omega, hb.2⟩⟩
theorem take_put {a b : List Bs} {i : Nat} (h : a.take i = b.take i) (ha : i < a.length) (hb : i < b.length) : (a.set i (b.getD i [])).take (i + 1) = b.take (i + 1) := by
  rw [List.take_succ_eq_append_getElem (by rw [List.length_set]; exact ha), List.take_succ_eq_append_getElem hb, List.take_set_of_le (Nat.le_refl _), h, List.getElem_set_self]
  simp [List.getD_eq_getElem?_getD, hb]
set_option maxHeartbeats 1000000 in
theorem ledgerOpens_spec (v0 : Value) (n1 n2 : Int) (l : List Bs) (p : HP) (hp : ∀ h : Hp, p h → rdS 1 h v0 l.length (strs l)) (hll : (laidZ l).length ≤ 900000000) (hn1 : I64 n1) (hn2 : I64 n2) : Fn Tryz.prog 4 #[v0, vint n1, vint n2] [p] fun v L => v = .bool true ∧ L = [p] := by
 refine Fn.intro (vs := [v0, vint n1, vint n2]) Tryz.func4 rfl rfl ?_
 intro F W
 obtain ⟨hf1, hWf, -⟩ := format_well (n := 400) (by decide)
 obtain ⟨hWm, hlm, hm⟩ := well_setm hWf n1 n2
 obtain ⟨hWr, hlr, hr⟩ := well_renew hWm l
 have hfl : (formatZ (Dk.new 400)).1.now.length = 400 := by rw [(fmt_len 400)]; rfl
 have hwn : newW.a = 0 ∧ newW.b = 0 := ⟨rfl, rfl⟩
 refine G.seq (G.region (G.ag rfl rfl (G.nil (G.then_n (G.seq (G.region ?_))))))
 refine G.oq (OpSpec.call Tryz.func10 rfl rfl (vs := []) rfl (awake9_spec)) ?nx2
 rintro v L' ⟨rfl, rfl⟩
 refine G.ag rfl rfl (G.nil (G.then_n (G.seq (G.region ?_))))
 refine G.oq (OpSpec.call Tryz.func18 rfl rfl (vs := [_]) rfl (lopenN_spec)) ?nx4
 rintro v L' ⟨rfl, rfl⟩
 refine G.mv rfl rfl (G.q (Quiet.extract rfl rfl) rfl (G.q (Quiet.extract rfl rfl) rfl (G.ag rfl rfl (G.ag rfl rfl (G.nil (G.then_n (G.seq (G.region ?_))))))))
 refine G.oq (OpSpec.call Tryz.func12 rfl rfl (vs := [_]) rfl (lformatN_spec)) ?nx8
 rintro v L' ⟨rfl, rfl⟩
 refine G.mv rfl rfl (G.q (Quiet.extract rfl rfl) rfl (G.q (Quiet.extract rfl rfl) rfl (G.ag rfl rfl (G.ag rfl rfl (G.nil (G.then_n (G.seq (G.region ?_))))))))
 refine G.oq (OpSpec.call Tryz.func11 rfl rfl (vs := [_]) rfl (new_spec 400)) ?nx12
 rintro v L' (⟨h, -, -⟩ | ⟨-, d, rfl, rfl⟩); · omega
 refine G.mv rfl rfl (G.q (Quiet.extract rfl rfl) rfl (G.q (Quiet.extract rfl rfl) rfl (G.ag rfl rfl (G.ag rfl rfl (G.nil (G.then_n (G.seq (G.region ?_))))))))
 refine G.oq (OpSpec.call Tryz.func19 rfl rfl (vs := [_]) rfl (rnew_spec 400)) ?nx16
 rintro v L' (⟨h, -, -⟩ | ⟨-, x, rfl, rfl⟩); · omega
 refine G.mv rfl rfl (G.q (Quiet.extract rfl rfl) rfl (G.q (Quiet.extract rfl rfl) rfl (G.ag rfl rfl (G.ag rfl rfl (G.nil ?_)))))
 refine G.dsFold (x := x) (δ := Dk.new 400) (by (repeat' constructor)) (Rel.new 400 (by decide)) (by decide) ?_
 refine G.then_n (G.seq (G.region (G.mv rfl rfl ?_)))
 refine G.oq (OpSpec.call Tryz.func20 rfl rfl (vs := [_]) rfl (r4format_spec x (Dk.new 400) (by decide))) ?nx20
 rintro v L' (⟨h, -, -⟩ | ⟨-, w, rfl, rfl⟩); · rw [hf1] at h; cases h
 refine G.mv rfl rfl (G.q (Quiet.extract rfl rfl) rfl (G.q (Quiet.extract rfl rfl) rfl (G.ag rfl rfl (G.ag rfl rfl (G.nil (G.then_n (G.seq (G.seq (G.region (G.mv rfl rfl (G.q (Quiet.not rfl) rfl (G.mv rfl rfl (G.grun (t := 45) rfl rfl rfl (G.mv rfl rfl (G.grun (t := 45) rfl rfl rfl ?_)))))))))))))))
 refine G.q (Quiet.as (v' := .bool false) (by rfl) (Quiet.int rfl rfl rfl)) rfl ?_
 refine G.q (Quiet.pickF rfl rfl) rfl (G.mv rfl rfl (G.grun (t := 49) rfl rfl rfl (G.mv rfl rfl (G.grun (t := 49) rfl rfl rfl ?_))))
 refine G.q (Quiet.as (v' := .bool false) (by rfl) (Quiet.int rfl rfl rfl)) rfl ?_
 refine G.q (Quiet.pickF rfl rfl) rfl (G.mv rfl rfl (G.grun (t := 53) rfl rfl rfl (G.mv rfl rfl (G.grun (t := 53) rfl rfl rfl (G.q (Quiet.ptreq rfl rfl Tryz.underlying24) rfl (G.q (Quiet.pickF rfl rfl) rfl (G.mv rfl rfl (G.grun (t := 57) rfl rfl rfl (G.mv rfl rfl (G.grun (t := 57) rfl rfl rfl ?_))))))))))
 refine G.q (Quiet.as (v' := .bool false) (by rfl) (Quiet.int rfl rfl rfl)) rfl ?_
 refine G.q (Quiet.pickF rfl rfl) rfl (G.mv rfl rfl (G.grun (t := 61) rfl rfl rfl (G.mv rfl rfl (G.grun (t := 61) rfl rfl rfl ?_))))
 refine G.q (Quiet.as (v' := .bool false) (by rfl) (Quiet.int rfl rfl rfl)) rfl ?_
 refine G.q (Quiet.pickF rfl rfl) rfl (G.mv rfl rfl (G.grun (t := 65) rfl rfl rfl (G.mv rfl rfl (G.grun (t := 65) rfl rfl rfl ?_))))
 refine G.q (Quiet.as (v' := .bool false) (by rfl) (Quiet.int rfl rfl rfl)) rfl ?_
 refine G.q (Quiet.pickF rfl rfl) rfl (G.nil (G.then_n (G.condF rfl (G.skip (G.then_n (G.seq (G.seq (G.region (G.mv rfl rfl (G.mv rfl rfl (G.mv rfl rfl ?_)))))))))))
 refine G.oq (OpSpec.call Tryz.func21 rfl rfl (vs := [_, _, _]) rfl (rmark_spec w x newW (formatZ (Dk.new 400)).1 n1 n2 (hWf.i (by decide)) hn1.2 hn2.2)) ?nx33
 rintro v L' ⟨rfl, rfl⟩
 refine G.q (Quiet.int rfl rfl rfl) rfl (G.mv rfl rfl ?_)
 refine G.ndec (t := 74) rfl (fun h9_74 => ?_) (fun h9_74 => ?_)
 ·refine G.kNT (t := 73) rfl h9_74 (G.gskip (t := 74) rfl rfl rfl rfl (G.gskip (t := 74) rfl rfl rfl rfl (G.gskip (t := 74) rfl rfl rfl rfl (G.gskip (t := 74) rfl rfl rfl rfl (G.q (Quiet.pickT rfl rfl) rfl (G.nil (G.then_n (G.condT rfl (G.seq (G.region (G.mv rfl rfl (G.ag rfl rfl (G.nil (G.then_n (G.ret (G.then_r ?_))))))))))))))))
  exact G.dn (l := [.tmp 6]) rfl rfl ⟨rfl, rfl⟩
 ·refine G.kNF (t := 73) rfl h9_74 (G.grun (t := 74) rfl rfl rfl (G.mv rfl rfl (G.grun (t := 74) rfl rfl rfl (G.mv rfl rfl (G.grun (t := 74) rfl rfl rfl ?_)))))
  refine G.oq (OpSpec.call Tryz.func22 rfl rfl (vs := [_, _]) rfl (rrenew_spec w x (setmZ (formatZ (Dk.new 400)).1 newW n1 n2).2.1 (setmZ (formatZ (Dk.new 400)).1 newW n1 n2).1 v0 l p hp (hWm.i (by decide)) (setm_ab n1 n2 hn1 hn2 h9_74 hwn) hll)) ?nx38
  rintro v L' ⟨rfl, rfl⟩
  refine G.grun (t := 74) rfl rfl rfl (G.q (Quiet.int rfl rfl rfl) rfl (G.q (Quiet.pickF rfl rfl) rfl (G.nil (G.then_n ?_))))
  refine G.condN rfl (fun h79 => ?_) (fun h79 => ?_)
  ·refine G.seq (G.region (G.mv rfl rfl (G.ag rfl rfl (G.nil (G.then_n (G.ret (G.then_r ?_)))))))
   exact G.dn (l := [.tmp 6]) rfl rfl ⟨rfl, rfl⟩
  ·refine G.skip (G.then_n (G.seq (G.seq ?_)))
   have hal := hWr.al
   refine G.dsOpen (by (repeat' constructor)) fun ρ hrel hN => ?_
   have hg : ρ.Gone = false := by rw [← hrel.dead]; exact hal.dead
   have hrl : ρ.L.length = 400 := by rw [hrel.L, hlr, hlm, hfl]
   refine G.rkOpen (by (repeat' constructor)) fun vL vO vP hrok => ?_
   refine G.slAny (v := vL) (by (repeat' constructor)) fun aL cL e _ => ?_
   subst e
   refine G.slShape (v := .slice aL ρ.L.length cL) (by (repeat' constructor)) (by omega) fun bL cL' e m _ => ?_
   simp only [Value.slice.injEq, true_and] at e
   obtain ⟨rfl, rfl⟩ := e
   refine G.region (G.ag rfl rfl (G.nil (G.then_n (G.block ?_))))
   refine G.loopK (ι := Nat × Dk) (fun q E => (18, vint q.1) :: E) (fun q => [dkR d q.2]) (fun q => q.1 ≤ 400 ∧ Al q.2 ∧ q.2.now.length = 400 ∧ q.2.now.take q.1 = ρ.L.take q.1 ∧ q.2.acts ≤ q.1) (fun q => 400 - q.1) (0, Dk.new 400) (ts := [12, 14]) (.cons rfl (.cons rfl (.nil))) (⟨Nat.zero_le _, new_al 400, by simp [Dk.new], rfl, by decide⟩) ⟨rfl, rfl, rfl, trivial⟩ (by (repeat' constructor)) ?_
   rintro ⟨i, σ⟩ ⟨hi, hσ, hσn, hσt, hσa⟩
   dsimp only
   dsimp only at hi hσ hσn hσt hσa
   refine G.seq (G.seq (G.region (G.mv rfl rfl (G.q (Quiet.int rfl rfl rfl) rfl (G.nil (G.then_n ?_))))))
   refine G.condD rfl (fun h82 => ?_) (fun h82 => ?_)
   ·have hi2 : i < 400 := by omega
    have hsl : (ρ.L.getD i []).length = 64 := by rw [List.getD_eq_getElem?_getD, List.getElem?_eq_getElem (by omega)]; exact hrok.sec _ (List.getElem_mem _)
    obtain ⟨hw1, hw2, hw3⟩ := al_write hσ (n := i) (s := ρ.L.getD i []) ⟨by omega, by omega⟩ hsl
    rw [Int.toNat_natCast] at hw3
    refine G.skip (G.then_n (G.seq (G.block (G.seq (G.region (G.mv rfl rfl (G.mv rfl rfl (G.mv rfl rfl (G.q (Quiet.nilp rfl) rfl (G.q (Quiet.fieldAddr rfl fo_58_0) rfl ?_))))))))))
    refine G.q (Quiet.ld rfl ag_46) rfl ?_
    refine G.mv rfl rfl ?_
    refine G.q (Quiet.indexAddr rfl rfl el_46 (by omega)) rfl ?_
    refine G.q (Quiet.loadEl (p := strR (.slice (some ⟨bL, 0, none⟩) ρ.L.length cL) ρ.L) (i := i * 1) (v := vstr (ρ.L.getD i [])) rfl ag_9 (by (repeat' constructor)) (fun h hp => slR_rd hp) (by have hil : i < ρ.L.length := (by omega); simp [strs, List.getD_eq_getElem?_getD, hil])) rfl ?_
    refine G.oq (OpSpec.call Tryz.func23 rfl rfl (vs := [_, _, _]) rfl (write_spec d σ i (ρ.L.getD i []) (by omega))) ?nx53
    rintro v L' ⟨rfl, rfl⟩
    refine G.q (Quiet.as (v' := .bool false) (by rw [hw1]; rfl) (Quiet.int rfl rfl rfl)) rfl ?_
    refine G.nil (G.then_n (G.condF rfl (G.skip (G.blk_n (G.then_n (G.region (G.mv rfl rfl ?_)))))))
    refine G.q (Quiet.add rfl rfl (by omega)) rfl ?_
    refine G.ag rfl rfl (G.nil (G.then_n ?_))
    exact G.roundK ((i + 1, (σ.write i (ρ.L.getD i [])).1)) (⟨by dsimp only; omega, hw2, by dsimp only; rw [hw3, List.length_set]; exact hσn, by dsimp only; rw [hw3]; exact take_put hσt (by omega) (by omega), by dsimp only; have := (write_keeps σ i (ρ.L.getD i [])).2; omega⟩) (by dsimp only; omega) ⟨rfl, rfl, rfl, trivial⟩ (by (repeat' constructor)) (by ((repeat (apply Have.cons; (repeat (first | exact Pick.here | apply Pick.there)))); apply Have.base; repeat' constructor))
   ·have hie : i = 400 := by omega
    rw [hie, List.take_of_length_le (by omega), List.take_of_length_le (by omega)] at hσt
    refine G.rkFold (ρ := ρ) (by (repeat' constructor)) rfl ⟨rfl, rfl⟩ ⟨rfl, rfl⟩ ⟨rfl, rfl⟩ hrok ?_
    refine G.dkOk (d := d) (by (repeat' constructor)) fun hok => ?_
    refine G.exit (G.then_e (G.then_e (G.blk_e (G.then_n (G.seq (G.region (G.mv rfl rfl (G.mv rfl rfl ?_))))))))
    refine G.q (Quiet.to (v' := .agg [vptr d, .pointer none, vptr x, .pointer none].toArray) (Quiet.build (us := [(0, _), (2, _)]) fl_62 ze_62 rfl rfl (by simp [isCell])) rfl) rfl ?_
    refine G.oq (OpSpec.box rfl) ?nx61
    rintro v L' ⟨s, rfl, rfl⟩
    refine G.ag rfl rfl (G.nil (G.then_n (G.seq (G.region (G.mv rfl rfl ?_)))))
    refine G.oq (OpSpec.call Tryz.func24 rfl rfl (vs := [_, _]) rfl (sopensK_spec s d x (.pointer none) (.pointer none) σ ρ hσt.symm hσ.dead hg (by omega) hok (by omega))) ?nx63
    rintro v L' (⟨-, rfl, rfl⟩ | ⟨-, ω, Λ, g, xg, y, w9, hop, hol, rfl, rfl⟩)
    ·refine G.ag rfl rfl (G.nil (G.then_n (G.seq (G.region (G.mv rfl rfl (G.mv rfl rfl (G.grun (t := 103) rfl rfl rfl (G.mv rfl rfl (G.grun (t := 103) rfl rfl rfl ?_)))))))))
     refine G.oq (OpSpec.call Tryz.func25 rfl rfl (vs := [_]) rfl (wholeN_spec s d x)) ?nx65
     rintro v L' ⟨rfl, rfl⟩
     refine G.q (Quiet.pickT rfl rfl) rfl (G.ag rfl rfl (G.nil (G.then_n (G.ret ?_))))
     exact G.dn (l := [.tmp 6]) rfl rfl ⟨rfl, rfl⟩
    ·have hI9 := open_I hok (by omega) (by omega) hop
     have hW9 := (openL_W hI9.2.2.1 hI9.2.2.2.2.2.1 hol).1
     refine G.ag rfl rfl (G.nil (G.then_n (G.seq (G.region (G.mv rfl rfl (G.mv rfl rfl (G.grun (t := 103) rfl rfl rfl (G.mv rfl rfl (G.grun (t := 103) rfl rfl rfl ?_)))))))))
     refine G.oq (OpSpec.call Tryz.func25 rfl rfl (vs := [_]) rfl (whole9_spec s d g xg x y w9 Λ hW9)) ?nx68
     rintro v L' ⟨rfl, rfl⟩
     refine G.q (Quiet.pickT rfl rfl) rfl (G.ag rfl rfl (G.nil (G.then_n (G.ret ?_))))
     exact G.dn (l := [.tmp 6]) rfl rfl ⟨rfl, rfl⟩

end Go.Proofs.YtidjhgbdokcphaaGreat

/- Own work: from what a call is given to the atoms of SlCore, and back to what a statement asks. -/

namespace Go.Proofs.YtidjhgbdokcphaaGreat
open Go Go.ChangeShapes Go.WideShapes Go.ChangeAt Go.RowKit

section
variable {H : Type} {enc : TypeId × Value → H} {P : Program} {W W' : World}
theorem trodAll_old (hl : laidOutB P = true) (hb : Below W.heap.size W W') (sp : Nat → Bool) : ∀ (ts : List TypeId) (vs : List Value) (ds : List (DataW H)) (p : List MemPlace), (∀ t ∈ ts, P.readableRec t = true ∧ t < P.types.size) →
    DataW.TrodAll enc P W 0 (fun _ => true) true ts vs ds p → (∀ x ∈ p, x.block < W.heap.size) → (∀ x ∈ p, sp x.block = true) → DataW.TrodAll enc P W' 0 sp true ts vs ds p
  | [], vs, ds, p, _, h, _, _ => by
    obtain ⟨rfl, rfl, rfl⟩ := trodAll_nil h
    exact h
  | t :: ts, vs, ds, p, hr, h, hlt, hsp => by
    obtain ⟨v, vs1, d, ds1, a, b, rfl, rfl, rfl, h1, h2⟩ := trodAll_cons h
    have r := hr t (by simp)
    refine ⟨a, b, WideElems.Trod_stays hl r.1 r.2 h1 (fun x hx => hb.same (hlt x (by simp [hx]))) (fun x hx => hsp x (by simp [hx])), ?_, rfl⟩
    exact trodAll_old hl hb sp ts vs1 ds1 b (fun t ht => hr t (by simp [ht])) h2 (fun x hx => hlt x (by simp [hx])) (fun x hx => hsp x (by simp [hx]))
theorem settled {fn : Func} {s : ChangeSpec} {apart fresh handsOn again : Bool} {args : Array Value} {ds gs : List (DataW H)} {before : List MemPlace} {tb : TypeId}
    (hW : DataW.Whole enc P fn.params.toList s.vars apart W args.toList ds gs before) (hvars : s.vars = []) (hspec : ∀ gs', gs' = [] → s.fn H (ds ++ gs') = { results := [.lit (.bool true)], args := ds })
    (hres : fn.resultTypes = #[tb]) (htb : P.underlying tb = some .bool) (hl : laidOutB P = true) (hr : ∀ t ∈ fn.params.toList, P.readableRec t = true ∧ t < P.types.size) (hb : Below W.heap.size W W') :
    s.post enc P fn apart fresh handsOn again W args (.bool true) W' := by
  have hW' := hW
  have hlt := hW.lt
  obtain ⟨p, q, hA, hV, rfl, hfz, hnd⟩ := hW
  rw [hvars] at hV
  obtain ⟨rfl, rfl⟩ := trodVars_none hV
  have hs := hspec [] rfl
  have hargs : ∀ sp : Nat → Bool, (∀ x ∈ p, sp x.block = true) → DataW.TrodAll enc P W' 0 sp true fn.params.toList args.toList ds p := fun sp hsp =>
    trodAll_old hl hb sp _ _ _ _ hr hA (fun x hx => hlt x (by simp [hx])) hsp
  have hbool : ∀ (b : Nat) (sp : Nat → Bool) (hd : Bool), DataW.TrodAll enc P W' b sp hd fn.resultTypes.toList ((Value.bool true).resultList fn.resultTypes.size) [.lit (.bool true)] [] := by
    intro b sp hd
    rw [hres]
    exact trodAll_cons_mk (shut_bool htb _) trodAll_mk0
  refine ⟨ds, [], p ++ [], [], p, [], hW', ?_, ?_, ?_, hb.frame _, fun _ => ⟨ok_one hres rfl (okWide_bool_mk htb _), [.lit (.bool true)] ++ ds, [], p, ⟨p, [], ?_, ?_, by simp, ?_, ?_⟩, ?_⟩⟩
  · rw [hs]; exact hbool _ _ _
  · rw [hs]; exact hargs _ (fun x hx => by simpa using hlt x (by simp [hx]))
  · rw [hs, hvars]; exact hV
  · exact trodAll_append (hargs _ (fun _ _ => rfl)) (hbool _ _ _)
  · rw [hvars]; exact hV
  · intro b off hp
    rw [hb.frozen (p := ⟨b, off, none⟩) (hlt (.cell b off) (by simp [hp]))]
    exact hfz b off (by simp [hp])
  · intro ha
    have := hnd ha
    simpa using this
  · intro x hx _
    simp [hx]
theorem old_calls {f : FuncId} {args : Array Value} (h : Fn P f args [Old W] fun v L => v = .bool true ∧ L = [Old W]) :
    Calls P f args W fun e W' => e = .returned (.bool true) ∧ Below W.heap.size W W' := by
  have h0 : St [Old W] W := ⟨fun b => W.heap[b]?, fun _ => none, fun _ => .inr rfl, fun b o h => h, fun b o h => (by cases h), fun b hb => rfl, trivial⟩
  refine (h [] W h0).mono ?_
  rintro e W' ⟨v, L, ⟨rfl, rfl⟩, rfl, hs, hk⟩
  refine ⟨rfl, hk.os, hk.tape, hk.output, hk.size, fun k hk' => ?_⟩
  obtain ⟨h1, a1, hp⟩ := sep_head hs
  have e1 := hp k hk'
  have : ∃ o, W.heap[k]? = some o := ⟨_, Array.getElem?_eq_getElem hk'⟩
  obtain ⟨o, ho⟩ := this
  rw [ho] at e1 ⊢
  exact a1 _ _ e1
theorem old_rd {a : Addr} {len cap : Nat} {V : Nat → Value} (hc : ∀ i, i < len → W.cell? (a.add i) = some (V i)) (hle : len ≤ cap) : ∀ h : Hp, Old W h → rdS 1 h (.slice (some a) len cap) len ((List.range len).map V) := by
  intro h hold
  rcases Nat.eq_zero_or_pos len with rfl | hpos
  · exact .inl ⟨rfl, rfl, some a, cap, rfl⟩
  · obtain ⟨b, off, spot⟩ := a
    have h0 := hc 0 hpos
    have e0 : (⟨b, off, spot⟩ : Addr).add 0 = ⟨b, off, spot⟩ := by simp [Addr.add]
    rw [e0] at h0
    simp only [World.cell?] at h0
    rcases hw : W.heap[b]? with _ | o
    · rw [hw] at h0; cases h0
    · cases o with
      | cells c T fr =>
        rw [hw] at h0
        dsimp only at h0
        split at h0
        · cases h0
        · rename_i hsp
          have hspot : spot = none := by simpa using hsp
          subst hspot
          have hc' : ∀ i, i < len → c[off + i]? = some (V i) := by
            intro i hi
            have := hc i hi
            have e1 : (⟨b, off, none⟩ : Addr).add i = ⟨b, off + i, none⟩ := by
              simp only [Addr.add]; split
              · rename_i h0; simp [h0]
              · rfl
            rw [e1] at this
            simp only [World.cell?, hw] at this
            simpa using this
          have hlt : b < W.heap.size := by
            rcases Nat.lt_or_ge b W.heap.size with h' | h'
            · exact h'
            · rw [Array.getElem?_eq_none h'] at hw; cases hw
          have hlen : off + len ≤ c.size := by
            have := hc' (len - 1) (by omega)
            rcases Nat.lt_or_ge (off + (len - 1)) c.size with h' | h'
            · omega
            · rw [Array.getElem?_eq_none h'] at this; cases this
          refine .inr ⟨b, off, cap, c.toList, T, fr, rfl, by rw [hold b hlt, hw], ?_, by simpa using hlen, hle⟩
          apply List.ext_getElem?
          intro i
          rw [Nat.mul_one, List.getElem?_take, List.getElem?_map, List.getElem?_drop]
          split
          · rename_i hi
            rw [List.getElem?_range hi]
            simpa using hc' i hi
          · rename_i hi
            rw [List.getElem?_eq_none (by simpa using hi)]; rfl
      | _ => rw [hw] at h0; cases h0
theorem arg_int {t : TypeId} {r : Reach} {b0 : Nat} {v : Value} {d : DataW H} {ps : List MemPlace} (ht : P.underlying t = some (.int .i64)) (hval : Value.okWide P W r b0 t v)
    (h : DataW.Trod enc P W 0 (fun _ => true) true t v d ps) : ∃ n : Int, v = vint n ∧ d = .lit (.int .i64 n) ∧ -9223372036854775808 ≤ n ∧ n ≤ 9223372036854775807 := by
  obtain ⟨n, rfl, rfl, rfl, hwf⟩ := open_int ht hval h
  exact ⟨n, rfl, rfl, bounds_i64 hwf⟩
end
end Go.Proofs.YtidjhgbdokcphaaGreat

/- Own work: strings and rows of strings as arguments. -/
namespace Go.Proofs.YtidjhgbdokcphaaGreat
open Go Go.ChangeShapes Go.WideShapes Go.ChangeAt Go.RowKit

section
variable {H : Type} {enc : TypeId × Value → H} {P : Program} {W : World}
theorem string_vstr (s : ByteArray) : Value.string s = vstr s.data.toList := by cases s; rfl
end
end Go.Proofs.YtidjhgbdokcphaaGreat

/- Own work: nested arguments decoded: slices of structs, and what the row says of their weight. -/

namespace Go.Proofs.YtidjhgbdokcphaaGreat
open Go Go.ChangeShapes Go.WideShapes Go.ChangeAt Go.RowKit

section
variable {H : Type} {enc : TypeId × Value → H} {P : Program} {W : World}
theorem flat_at {α : Type} {sz : Nat} (f : Nat → List α) : ∀ n, (∀ i, i < n → (f i).length = sz) → ∀ j, j < n * sz → ((List.range n).flatMap f)[j]? = (f (j / sz))[j % sz]? ∧ ((List.range n).flatMap f).length = n * sz := by
  intro n
  induction n with
  | zero => intro _ j hj; omega
  | succ n ih =>
    intro hf j hj
    have hn := hf n (by omega)
    have hlen : ((List.range n).flatMap f).length = n * sz := by
      rcases Nat.eq_zero_or_pos (n * sz) with h0 | h0
      · rcases Nat.eq_zero_or_pos n with h1 | h1
        · subst h1; simp
        · have : sz = 0 := by
            rcases Nat.eq_zero_or_pos sz with h2 | h2
            · exact h2
            · have := Nat.mul_pos h1 h2; omega
          subst this; omega
      · exact (ih (fun i hi => hf i (by omega)) 0 h0).2
    have e : (List.range (n + 1)).flatMap f = (List.range n).flatMap f ++ f n := by simp [List.range_succ]
    have hm : (n + 1) * sz = n * sz + sz := by rw [Nat.add_mul, Nat.one_mul]
    rw [e]
    refine ⟨?_, by rw [List.length_append, hlen, hn, hm]⟩
    rcases Nat.lt_or_ge j (n * sz) with h | h
    · rw [List.getElem?_append_left (by omega)]
      exact (ih (fun i hi => hf i (by omega)) j h).1
    · rw [List.getElem?_append_right (by omega), hlen]
      have hs : 0 < sz := by omega
      have h1 : j / sz = n := by
        have : j < (n + 1) * sz := hj
        have a := Nat.div_lt_of_lt_mul (show j < sz * (n + 1) by rw [Nat.mul_comm]; exact this)
        have b := (Nat.le_div_iff_mul_le hs).2 h
        omega
      have h2 : j % sz = j - n * sz := by
        have := Nat.div_add_mod j sz
        rw [h1, Nat.mul_comm] at this; omega
      rw [h1, h2]
theorem rdS_regroup {sz n c c1 : Nat} {a : Option Addr} {ys : List Value} {h : Hp} (hr : rdS 1 h (.slice a (n * sz) c1) (n * sz) ys) (hc : n ≤ c) (hs : 0 < sz) : rdS sz h (.slice a n c) n ys := by
  rcases hr with ⟨h1, h2, -⟩ | ⟨b, off, cap, l, T, fr, hv, hb, h1, h2, h3⟩
  · have : n = 0 := by
      rcases Nat.eq_zero_or_pos n with h0 | h0
      · exact h0
      · have := Nat.mul_pos h0 hs; omega
    subst this
    exact .inl ⟨rfl, h2, a, c, rfl⟩
  · simp only [Value.slice.injEq] at hv
    obtain ⟨rfl, -, -⟩ := hv
    exact .inr ⟨b, off, c, l, T, fr, rfl, hb, by rw [← h1, Nat.mul_one], by rw [Nat.mul_one] at h2; exact h2, hc⟩
abbrev Reads (enc : TypeId × Value → H) (P : Program) (W : World) (fuel : Nat) (t : TypeId) (cs : List Value) (x : DataW H × List MemPlace) : Prop := DataW.trod enc P W 0 (fun _ => true) true fuel t cs = some x
end
end Go.Proofs.YtidjhgbdokcphaaGreat

/- Own work: arguments of a bounded bulk (the second form's bound), decoded. -/
namespace Go.Proofs.YtidjhgbdokcphaaGreat
open Go Go.ChangeShapes Go.WideShapes Go.ChangeAt Go.RowKit

theorem bulk_pos {H : Type} (d : DataW H) : 1 ≤ Rows.uptoBulk d := by
  cases d with
  | lit l => cases l <;> simp [Rows.uptoBulk]
  | _ => simp [Rows.uptoBulk]
theorem bulk_part {H : Type} {d : DataW H} : ∀ {l : List (DataW H)}, d ∈ l → Rows.uptoBulk d ≤ Rows.uptoBulkAll l
  | x :: l, h => by
    unfold Rows.uptoBulkAll
    rcases List.mem_cons.1 h with rfl | h
    · omega
    · have := bulk_part h; omega
theorem bulk_count {H : Type} : ∀ l : List (DataW H), l.length ≤ Rows.uptoBulkAll l
  | [] => by simp
  | x :: l => by
    have h1 := bulk_pos x
    have h2 := bulk_count l
    unfold Rows.uptoBulkAll
    rw [List.length_cons]; omega
theorem bulk_sum {H : Type} : ∀ l : List (DataW H), (l.map Rows.uptoBulk).sum ≤ Rows.uptoBulkAll l
  | [] => by simp
  | x :: l => by
    have h2 := bulk_sum l
    unfold Rows.uptoBulkAll
    rw [List.map_cons, List.sum_cons]; omega
theorem bulk_small {H : Type} {l : List (DataW H)} (h : Rows.uptoSmall H l = true) {d : DataW H} (hd : d ∈ l) : Rows.uptoBulk d ≤ 1048576 :=
  Nat.le_trans (bulk_part hd) (of_decide_eq_true h)
instance : Inhabited Value := ⟨.bool false⟩
section
variable {H : Type} {enc : TypeId × Value → H} {P : Program} {W : World} {N : Nat}
theorem dec_sliceV {Z : Type} [Inhabited Z] (toC : Z → List Value) (Q : Z → Prop) {t e : TypeId} {sz : Nat} {fuel : Nat} {cs : List Value} {x : DataW H × List MemPlace} (ht : P.underlying t = some (.slice e)) (hc : P.cellsOf e = sz) (hs : 0 < sz)
    (hdec : ∀ (n : Nat) (cs : List Value) (y : DataW H × List MemPlace), Reads enc P W n e cs y → Rows.uptoBulk y.1 ≤ N → ∃ z, cs = toC z ∧ Q z) (h : Reads enc P W fuel t cs x) (hb : Rows.uptoBulk x.1 ≤ N + 1) :
    ∃ z : Value × List Z, cs = [z.1] ∧ (∀ h : Hp, Old W h → rdS sz h z.1 z.2.length (z.2.flatMap toC)) ∧ z.2.length ≤ N ∧ ∀ y ∈ z.2, Q y := by
  subst hc
  rcases Go.Deep.open_slice ht h with ⟨rfl, rfl⟩ | ⟨a, len, cap, m, n, Dd, Pl, rfl, -, hl, hm, hmm, rfl, hx⟩
  · exact ⟨(_, []), rfl, fun h _ => .inl ⟨rfl, rfl, none, 0, rfl⟩, by simp, by simp⟩
  · simp only [if_true] at hmm
    subst hmm
    have hbl : len ≤ N := by
      have := bulk_count ((List.range len).map Dd)
      simp only [Rows.uptoBulk] at hb
      rw [List.length_map, List.length_range] at this
      omega
    have hbe : ∀ i, i < len → Rows.uptoBulk (Dd i) ≤ N := fun i hi => by
      have := bulk_part (d := Dd i) (l := (List.range len).map Dd) (List.mem_map_of_mem (by simpa using hi))
      simp only [Rows.uptoBulk] at hb
      omega
    obtain ⟨Zf, hZ⟩ := Go.Deep.choose_lt (α := Z) (p := fun i z => W.cells? 0 (a.add (i * P.cellsOf e)) (P.cellsOf e) = some (toC z) ∧ Q z) (n := len) (fun i hi => by
      obtain ⟨cs', h1, h2⟩ := hx i (by omega)
      obtain ⟨z, rfl, h3⟩ := hdec _ _ _ h2 (hbe i hi)
      exact ⟨z, h1, h3⟩)
    have hlenf : ∀ i, i < len → (toC (Zf i)).length = P.cellsOf e := fun i hi => (World.cells?_some (hZ i hi).1).2.1
    have hflat := flat_at (fun i => toC (Zf i)) len hlenf
    refine ⟨(_, (List.range len).map Zf), rfl, ?_, ?_, ?_⟩
    · intro h hold
      dsimp only
      rw [List.length_map, List.length_range]
      refine rdS_regroup (c1 := len * P.cellsOf e) ?_ hl hs
      have e1 : ((List.range len).map Zf).flatMap toC = (List.range (len * P.cellsOf e)).map (fun j => ((List.range len).flatMap fun i => toC (Zf i)).getD j (.bool false)) := by
        rw [List.flatMap_map]
        apply List.ext_getElem?
        intro j
        rcases Nat.lt_or_ge j (len * P.cellsOf e) with hj | hj
        · rw [List.getElem?_map, List.getElem?_range hj]
          have := (hflat j hj).2
          have hjl : j < ((List.range len).flatMap fun i => toC (Zf i)).length := by omega
          simp only [Option.map_some, List.getD_eq_getElem?_getD, List.getElem?_eq_getElem hjl, Option.getD_some]
        · have : ((List.range len).flatMap fun i => toC (Zf i)).length = len * P.cellsOf e := by
            rcases Nat.eq_zero_or_pos (len * P.cellsOf e) with h0 | h0
            · have : len = 0 := by
                rcases Nat.eq_zero_or_pos len with h1 | h1
                · exact h1
                · have := Nat.mul_pos h1 hs; omega
              subst this; simp
            · exact (hflat 0 h0).2
          rw [List.getElem?_eq_none (by omega), List.getElem?_eq_none (by simpa using hj)]
      rw [e1]
      refine old_rd (W := W) (fun j hj => ?_) (Nat.le_refl _) h hold
      have hi : j / P.cellsOf e < len := Nat.div_lt_of_lt_mul (by rw [Nat.mul_comm]; exact hj)
      have hcell := (World.cells?_some (hZ (j / P.cellsOf e) hi).1).2.2 (j % P.cellsOf e) (Nat.mod_lt _ hs)
      rw [Addr.add_add, Nat.mul_comm, Nat.div_add_mod] at hcell
      rw [hcell]
      obtain ⟨f1, f2⟩ := hflat j hj
      rw [List.getD_eq_getElem?_getD, f1]
      have : j % P.cellsOf e < (toC (Zf (j / P.cellsOf e))).length := by rw [hlenf _ hi]; exact Nat.mod_lt _ hs
      simp [this]
    · dsimp only; rw [List.length_map, List.length_range]; exact hbl
    · intro z hz
      obtain ⟨i, hi, rfl⟩ := List.mem_map.1 hz
      exact (hZ i (by simpa using hi)).2
theorem dec_sliceQV {Z : Type} [Inhabited Z] (toC : Z → List Value) (Q : Nat → Z → Prop) {t e : TypeId} {sz : Nat} {fuel : Nat} {cs : List Value} {x : DataW H × List MemPlace} (ht : P.underlying t = some (.slice e)) (hc : P.cellsOf e = sz) (hs : 0 < sz)
    (hdec : ∀ (n : Nat) (cs : List Value) (y : DataW H × List MemPlace), Reads enc P W n e cs y → ∃ z, cs = toC z ∧ Q (Rows.uptoBulk y.1) z) (h : Reads enc P W fuel t cs x) (hb : Rows.uptoBulk x.1 ≤ N + 1) :
    ∃ (z : Value × List Z) (ws : List Nat), cs = [z.1] ∧ (∀ h : Hp, Old W h → rdS sz h z.1 z.2.length (z.2.flatMap toC)) ∧ z.2.length ≤ N ∧ ws.length = z.2.length ∧ ws.sum ≤ N ∧ (∀ w ∈ ws, 1 ≤ w) ∧ ∀ i (h1 : i < z.2.length) (h2 : i < ws.length), Q ws[i] z.2[i] := by
  subst hc
  rcases Go.Deep.open_slice ht h with ⟨rfl, rfl⟩ | ⟨a, len, cap, m, n, Dd, Pl, rfl, -, hl, hm, hmm, rfl, hx⟩
  · exact ⟨(_, []), [], rfl, fun h _ => .inl ⟨rfl, rfl, none, 0, rfl⟩, by simp, rfl, by simp, (fun _ h => by cases h), (fun i h1 _ => by simp at h1)⟩
  · simp only [if_true] at hmm
    subst hmm
    have hbl : len ≤ N := by
      have := bulk_count ((List.range len).map Dd)
      simp only [Rows.uptoBulk] at hb
      rw [List.length_map, List.length_range] at this
      omega
    have hall : ((List.range len).map fun i => Rows.uptoBulk (Dd i)).sum ≤ N := by
      have := bulk_sum ((List.range len).map Dd)
      rw [List.map_map] at this
      simp only [Rows.uptoBulk] at hb
      have e : ((List.range len).map fun i => Rows.uptoBulk (Dd i)) = (List.range len).map (Rows.uptoBulk ∘ Dd) := rfl
      rw [e]; omega
    obtain ⟨Zf, hZ⟩ := Go.Deep.choose_lt (α := Z) (p := fun i z => W.cells? 0 (a.add (i * P.cellsOf e)) (P.cellsOf e) = some (toC z) ∧ Q (Rows.uptoBulk (Dd i)) z) (n := len) (fun i hi => by
      obtain ⟨cs', h1, h2⟩ := hx i (by omega)
      obtain ⟨z, rfl, h3⟩ := hdec _ _ _ h2
      exact ⟨z, h1, h3⟩)
    have hlenf : ∀ i, i < len → (toC (Zf i)).length = P.cellsOf e := fun i hi => (World.cells?_some (hZ i hi).1).2.1
    have hflat := flat_at (fun i => toC (Zf i)) len hlenf
    refine ⟨(_, (List.range len).map Zf), (List.range len).map fun i => Rows.uptoBulk (Dd i), rfl, ?_, ?_, by simp, hall, ?_, ?_⟩
    · intro h hold
      dsimp only
      rw [List.length_map, List.length_range]
      refine rdS_regroup (c1 := len * P.cellsOf e) ?_ hl hs
      have e1 : ((List.range len).map Zf).flatMap toC = (List.range (len * P.cellsOf e)).map (fun j => ((List.range len).flatMap fun i => toC (Zf i)).getD j (.bool false)) := by
        rw [List.flatMap_map]
        apply List.ext_getElem?
        intro j
        rcases Nat.lt_or_ge j (len * P.cellsOf e) with hj | hj
        · rw [List.getElem?_map, List.getElem?_range hj]
          have := (hflat j hj).2
          have hjl : j < ((List.range len).flatMap fun i => toC (Zf i)).length := by omega
          simp only [Option.map_some, List.getD_eq_getElem?_getD, List.getElem?_eq_getElem hjl, Option.getD_some]
        · have : ((List.range len).flatMap fun i => toC (Zf i)).length = len * P.cellsOf e := by
            rcases Nat.eq_zero_or_pos (len * P.cellsOf e) with h0 | h0
            · have : len = 0 := by
                rcases Nat.eq_zero_or_pos len with h1 | h1
                · exact h1
                · have := Nat.mul_pos h1 hs; omega
              subst this; simp
            · exact (hflat 0 h0).2
          rw [List.getElem?_eq_none (by omega), List.getElem?_eq_none (by simpa using hj)]
      rw [e1]
      refine old_rd (W := W) (fun j hj => ?_) (Nat.le_refl _) h hold
      have hi : j / P.cellsOf e < len := Nat.div_lt_of_lt_mul (by rw [Nat.mul_comm]; exact hj)
      have hcell := (World.cells?_some (hZ (j / P.cellsOf e) hi).1).2.2 (j % P.cellsOf e) (Nat.mod_lt _ hs)
      rw [Addr.add_add, Nat.mul_comm, Nat.div_add_mod] at hcell
      rw [hcell]
      obtain ⟨f1, f2⟩ := hflat j hj
      rw [List.getD_eq_getElem?_getD, f1]
      have : j % P.cellsOf e < (toC (Zf (j / P.cellsOf e))).length := by rw [hlenf _ hi]; exact Nat.mod_lt _ hs
      simp [this]
    · dsimp only; rw [List.length_map, List.length_range]; exact hbl
    · intro w hw
      obtain ⟨i, -, rfl⟩ := List.mem_map.1 hw
      exact bulk_pos _
    · intro i h1 h2
      simp only [List.getElem_map, List.getElem_range]
      exact (hZ i (by simpa using h1)).2
/-! ### With weights: what is read weighs no more than its bulk -/
theorem dec_strW {t : TypeId} {fuel : Nat} {cs : List Value} {x : DataW H × List MemPlace} (ht : P.underlying t = some .string) (h : Reads enc P W fuel t cs x) : ∃ s : List UInt8, cs = [vstr s] ∧ s.length + 1 ≤ Rows.uptoBulk x.1 := by
  obtain ⟨s, rfl, rfl, -⟩ := DataW.trod_string ht h
  exact ⟨s.data.toList, by rw [string_vstr], by simp [Rows.uptoBulk]⟩
theorem sum_le {Z : Type} {m : Z → Nat} : ∀ {l : List Z} {ws : List Nat}, ws.length = l.length → (∀ i (h1 : i < l.length) (h2 : i < ws.length), m l[i] ≤ ws[i]) → (l.map m).sum ≤ ws.sum
  | [], _, _, _ => by simp
  | z :: l, [], h, _ => by simp at h
  | z :: l, w :: ws, h, hq => by
    have h0 := hq 0 (by simp) (by simp)
    have h1 := sum_le (l := l) (ws := ws) (m := m) (by simpa using h) (fun i h1 h2 => hq (i + 1) (by simpa using h1) (by simpa using h2))
    rw [List.map_cons, List.sum_cons, List.sum_cons]
    have h0' : m z ≤ w := h0
    omega
theorem dec_sliceW {Z : Type} [Inhabited Z] (toC : Z → List Value) (Q : Z → Prop) (m : Z → Nat) {t e : TypeId} {sz : Nat} {fuel : Nat} {cs : List Value} {x : DataW H × List MemPlace} (ht : P.underlying t = some (.slice e)) (hc : P.cellsOf e = sz) (hs : 0 < sz)
    (hdec : ∀ (n : Nat) (cs : List Value) (y : DataW H × List MemPlace), Reads enc P W n e cs y → ∃ z, cs = toC z ∧ Q z ∧ m z ≤ Rows.uptoBulk y.1) (h : Reads enc P W fuel t cs x) :
    ∃ z : Value × List Z, cs = [z.1] ∧ (∀ h : Hp, Old W h → rdS sz h z.1 z.2.length (z.2.flatMap toC)) ∧ (∀ y ∈ z.2, Q y) ∧ z.2.length + 1 ≤ Rows.uptoBulk x.1 ∧ 1 + (z.2.map m).sum ≤ Rows.uptoBulk x.1 := by
  have hp := bulk_pos x.1
  obtain ⟨z, ws, h1, h2, h3, h4, h5, -, h7⟩ := dec_sliceQV (N := Rows.uptoBulk x.1 - 1) toC (fun B z => Q z ∧ m z ≤ B) ht hc hs hdec h (by omega)
  refine ⟨z, h1, h2, fun y hy => ?_, by omega, ?_⟩
  · obtain ⟨i, hi, rfl⟩ := List.mem_iff_getElem.1 hy
    exact (h7 i hi (by omega)).1
  · have := sum_le (m := m) h4 (fun i g1 g2 => (h7 i g1 g2).2)
    omega
end
end Go.Proofs.YtidjhgbdokcphaaGreat

/- Own work, by program: lists of strings of an argument, decoded. -/
namespace Go.Proofs.YtidjhgbdokcphaaGreat
open Go Go.ChangeShapes Go.WideShapes Go.ChangeAt Go.RowKit
def Strs9 (p : HP) (v : Value) (l : List Bs) : Prop := (∀ h : Hp, p h → rdS 1 h v l.length (strs l)) ∧ (laidZ l).length ≤ 900000000
theorem laid_sum (l : List Bs) : (laidZ l).length ≤ 6 * (l.map fun s => s.length + 1).sum := by
  induction l with
  | nil => exact Nat.zero_le _
  | cons x l ih =>
    have e : laidZ (x :: l) = recZ x ++ laidZ l := by simp [laidZ]
    rw [e, List.length_append, recZ_len, List.map_cons, List.sum_cons]; omega
theorem fm_strs (l : List Bs) : (l.flatMap fun s => [vstr s]) = strs l := by
  induction l with
  | nil => rfl
  | cons z l ih => rw [List.flatMap_cons, ih]; rfl
theorem dec_strs9 {H : Type} {enc : TypeId × Value → H} {W : World} {fuel : Nat} {cs : List Value} {x : DataW H × List MemPlace} (h : Reads enc Tryz.prog W fuel 46 cs x) (hb : Rows.uptoBulk x.1 ≤ 1048576) : ∃ (v : Value) (l : List Bs), cs = [v] ∧ Strs9 (Old W) v l := by
  obtain ⟨⟨v, l⟩, h1, h2, h3, h4, h5⟩ := dec_sliceW (fun s : Bs => [vstr s]) (fun _ => True) (fun s => s.length + 1) Tryz.underlying46 (show Tryz.prog.cellsOf 9 = 1 by kernel_rfl) (by decide) (fun n cs y h => by obtain ⟨s, e, hs⟩ := dec_strW Tryz.underlying9 h; exact ⟨s, e, trivial, hs⟩) h
  dsimp only at h1 h2 h3 h4 h5
  exact ⟨v, l, h1, fun h hp => by rw [← fm_strs]; exact h2 h hp, by have := laid_sum l; omega⟩
end Go.Proofs.YtidjhgbdokcphaaGreat

/- Own work: ledgerOpens: the walk, brought to the given second form and its card. -/

namespace Go.Proofs.YtidjhgbdokcphaaGreat.ledgerOpens
open Go Go.ChangeShapes Go.WideShapes Go.ChangeAt Go.RowKit
theorem own : ownKnob Tryz.prog.godebug = none := by kernel_rfl
theorem laid : laidOutB Tryz.prog = true := by kernel_rfl
theorem readable : ∀ t ∈ Tryz.f4.params.toList, Tryz.prog.readableRec t = true ∧ t < Tryz.prog.types.size := by
  have h : (Tryz.f4.params.toList.all fun t => Tryz.prog.readableRec t && decide (t < Tryz.prog.types.size)) = true := by kernel_rfl
  intro t ht
  simpa using List.all_eq_true.1 h t ht
theorem contract (H : Type) (enc : TypeId × Value → H) (W : World) (base : Nat) (args : Array Value) (ds gs : List (DataW H)) (before : List MemPlace)
    (hval : ∀ (j : Nat) t v, Tryz.f4.params[j]? = some t → args[j]? = some v → Value.okWide Tryz.prog W .any base t v)
    (hW : DataW.Whole enc Tryz.prog Tryz.f4.params.toList Rows.ledgerOpensSpec.vars false W args.toList ds gs before) (hk : Rows.uptoSmall H (ds ++ gs) = true) :
    Calls Tryz.prog 4 args W fun e W' => ∃ v, e = .returned v ∧ Rows.ledgerOpensSpec.post enc Tryz.prog Tryz.f4 false true false false W args v W' := by
  have hW' := hW
  obtain ⟨p, q, hA, hV, rfl, hfz, hnd⟩ := hW
  obtain ⟨rfl, -⟩ := trodVars_none hV
  rw [List.append_nil] at hk
  have hpar : Tryz.f4.params = #[46, 3, 3] := Tryz.params4
  rw [hpar] at hval
  have hA' := hA
  rw [hpar] at hA'
  obtain ⟨v0, vs0, d0, ds0, p0, r0, ha0, rfl, rfl, h0, t0⟩ := trodAll_cons hA'
  obtain ⟨v1, vs1, d1, ds1, p1, r1, ha1, rfl, rfl, h1, t1⟩ := trodAll_cons t0
  obtain ⟨v2, vs2, d2, ds2, p2, r2, ha2, rfl, rfl, h2, t2⟩ := trodAll_cons t1
  obtain ⟨hv, rfl, rfl⟩ := trodAll_nil t2
  obtain rfl : args = #[v0, v1, v2] := by
    have e : args.toList = [v0, v1, v2] := by rw [ha0, ha1, ha2, hv]
    cases args; simp_all
  have b0 := bulk_small hk (d := d0) (by simp)
  obtain ⟨ad0, nn0, cp0, rfl⟩ := okWide_slice Tryz.underlying46 (hval 0 _ _ rfl rfl)
  obtain ⟨fu0, g0⟩ := h0
  obtain ⟨v0, xs0, e0, q0⟩ := dec_strs9 g0 b0
  simp [Value.cells] at e0
  subst e0
  have b1 := bulk_small hk (d := d1) (by simp)
  obtain ⟨n1, rfl, -, q1⟩ := arg_int Tryz.underlying3 (hval 1 _ _ rfl rfl) h1
  have b2 := bulk_small hk (d := d2) (by simp)
  obtain ⟨n2, rfl, -, q2⟩ := arg_int Tryz.underlying3 (hval 2 _ _ rfl rfl) h2
  refine (old_calls (ledgerOpens_spec _ n1 n2 xs0 (Old W) q0.1 q0.2 q1 q2)).mono fun e W' ⟨he, hb⟩ => ⟨_, he, ?_⟩
  exact settled hW' rfl (fun gs' h => by subst h; rfl) rfl Tryz.underlying4 laid readable hb
theorem lifted (os : Os) (started : os.Started) (H : Type) (enc : TypeId × Value → H) (F : Stop.Interp) :
    ReturnsInHanded {} Tryz.checked os 4 .any ((Rows.OpenSpec.upto Rows.ledgerOpensSpec).pre6 enc Tryz.prog Tryz.f4 Rows.ledgerOpensUptoRow.domain false) (((Rows.OpenSpec.upto Rows.ledgerOpensSpec).at F).post enc Tryz.prog Tryz.f4 false true false false) := by
  refine returnsInHanded_of_cond (C := Tryz.checked) (s := Rows.OpenSpec.upto Rows.ledgerOpensSpec) (k := Rows.uptoSmall) rfl own started (by kernel_rfl) Tryz.func4
    (OpenSpec.witness (enc := enc) (C := Tryz.checked) (s := Rows.OpenSpec.upto Rows.ledgerOpensSpec) (k := Rows.uptoSmall) rfl false ⟨#[], #[.slice none 0 0, .int .i64 0, .int .i64 0], []⟩ 8 (by kernel_rfl) (by kernel_rfl) (by kernel_rfl)
      (x := ([.nil, .lit (.int .i64 0), .lit (.int .i64 0)], [], [])) (by kernel_rfl) rfl (by kernel_rfl)) ?_
  intro W base args ds gs before hval hW _ hk _
  exact contract H enc W base args ds gs before hval hW hk
theorem proved : Rows.LedgerOpensUptoSaid :=
  OpenClaim.holds_of_cond 4 Tryz.f4 rfl rfl rfl rfl rfl rfl rfl ⟨rfl, rfl, rfl, rfl, rfl⟩ rfl rfl rfl rfl rfl (by kernel_rfl) Tryz.func4 (by kernel_rfl)
    (of_decide_eq_true (by kernel_rfl)) (by unfold Func.isWrapper; first | (rw [if_pos (by decide +kernel)]; kernel_rfl) | (rw [if_neg (by decide +kernel)]; exact ⟨rfl, rfl⟩))
    (fun os started H enc _ F => lifted os started H enc F)
end Go.Proofs.YtidjhgbdokcphaaGreat.ledgerOpens

