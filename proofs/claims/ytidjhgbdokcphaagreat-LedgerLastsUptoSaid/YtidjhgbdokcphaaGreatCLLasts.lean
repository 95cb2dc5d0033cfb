/- Own work, some of it printed by program, texts that were built one by one and are laid one behind the other here: LedgerLasts: walked. | from what a call is given to the atoms of SlCore, and back to what a statement asks. | strings and rows of strings as arguments. | nested arguments decoded: slices of structs, and what the row says of their weight. | arguments of a bounded bulk (the second form's bound), decoded. | arguments of law 09, decoded with their weights. | scripts of law 09, decoded. | ledgerLasts: the walk, brought to the given second form and its card. -/
import Derived.Test.YtidjhgbdokcphaaGreatCLLastsP4
import Derived.Test.YtidjhgbdokcphaaGreatCLLastsP3
import Derived.Test.YtidjhgbdokcphaaGreatCLLastsP0
import Derived.Test.YtidjhgbdokcphaaGreatRows
import Derived.WalkKit
import Derived.ProofKit
import Derived.OpenShut
import Derived.JoinedCond
import Derived.Carry
import Derived.Deep.Grids
import Derived.Handed
import Derived.Deep.Strs
set_option linter.unusedSimpArgs false
set_option linter.unusedVariables false
set_option maxRecDepth 100000
/- Own work, by program: LedgerLasts: walked. -/
namespace Go.Proofs.YtidjhgbdokcphaaGreat
open Go
theorem lsyncD_spec (g x d : Nat) (δ : Dk) (ω : Wl) (Λ : Lg) (hd : Λ.doubt = true) : Fn Tryz.prog 28 #[vptr g] [lgR g x Λ, wlR x d ω, dkR d δ] fun v L => v = vint 2 ∧ L = [lgR g x Λ, wlR x d ω, dkR d δ] := by
 refine Fn.intro (vs := [vptr g]) Tryz.func28 rfl rfl ?_
 intro F W
 refine G.seq (G.region (G.ag rfl rfl (G.nil (G.then_n (G.seq (G.seq ?_))))))
 refine G.lgOpen (by (repeat' constructor)) fun ea ec za zc => ?_
 refine G.region (G.mv rfl rfl (G.q (Quiet.nilp rfl) rfl (G.q (Quiet.fieldAddr rfl fo_79_6) rfl ?_)))
 refine G.q (Quiet.ld rfl ag_4) rfl ?_
 refine G.nil (G.then_n ?_)
 refine G.condB rfl (fun h6 => ?_) (fun h6 => ?_)
 ·refine G.seq (G.region (G.ag rfl rfl (G.nil (G.then_n (G.ret (G.then_r ?_))))))
  refine G.lgFold (g := g) (x := x) Λ (by (repeat' constructor)) (by exact rfl) (by first | rfl | simp [Lg.keep]) (by first | rfl | simp [Lg.keep]) (by first | rfl | simp [Lg.keep]) (by first | rfl | simp [Lg.keep]) ?_
  exact G.dn (l := [.tmp 2]) rfl rfl ⟨rfl, rfl⟩
 · rw [hd] at h6; cases h6

theorem lacceptD_spec (g x d : Nat) (δ : Dk) (ω : Wl) (Λ : Lg) (hd : Λ.doubt = true) (n : Int) : Fn Tryz.prog 39 #[vptr g, vint n] [lgR g x Λ, wlR x d ω, dkR d δ] fun v L => v = vint 2 ∧ L = [lgR g x Λ, wlR x d ω, dkR d δ] := by
 refine Fn.intro (vs := [vptr g, vint n]) Tryz.func39 rfl rfl ?_
 intro F W
 refine G.lgOpen (by (repeat' constructor)) fun ea ec za zc => ?_
 refine G.seq (G.region (G.ag rfl rfl (G.nil (G.then_n (G.seq (G.block (G.seq (G.region (G.mv rfl rfl (G.q (Quiet.nilp rfl) rfl (G.q (Quiet.fieldAddr rfl fo_79_6) rfl ?_)))))))))))
 refine G.q (Quiet.ld rfl ag_4) rfl ?_
 refine G.ag rfl rfl (G.nil (G.then_n ?_))
 refine G.condB rfl (fun h6 => ?_) (fun h6 => ?_)
 ·refine G.seq (G.region (G.ag rfl rfl (G.nil (G.then_n (G.ret (G.blk_r (G.then_r ?_)))))))
  refine G.lgFold (g := g) (x := x) Λ (by (repeat' constructor)) (by exact rfl) (by first | rfl | simp [Lg.keep]) (by first | rfl | simp [Lg.keep]) (by first | rfl | simp [Lg.keep]) (by first | rfl | simp [Lg.keep]) ?_
  exact G.dn (l := [.tmp 4]) rfl rfl ⟨rfl, rfl⟩
 · rw [hd] at h6; cases h6

set_option maxHeartbeats 4000000 in
theorem ledgerLasts_spec (n0 n2 : Int) (v1 v3 : Value) (xs : List Op9) (how : List Int) (p : HP) (hn0 : I64 n0) (hn2 : I64 n2) (hx : Ops9 p v1 xs) (hhow : ∀ h : Hp, p h → rdS 1 h v3 how.length (ints how)) (hhows : ∀ z ∈ how, I64 z) : Fn Tryz.prog 8 #[vint n0, v1, vint n2, v3] [p] fun v L => v = .bool true ∧ L = [p] := by
 refine Fn.intro (vs := [vint n0, v1, vint n2, v3]) Tryz.func8 rfl rfl ?_
 intro F W
 have hcells := hx.cells
 have hel := hx.len
 refine G.rdAny (p := p) hcells (by (repeat' constructor)) fun a0 c0 e _ => ?_
 subst e
 have hpn := pickZ_range n0 (n := 400) (by decide)
 have hpa := pickZ_range n2 (n := 120) (by decide)
 obtain ⟨ω0, hf1, hfa, hfT, hfc, hW0, hf3, hf4⟩ := twin_start (n := (16 + pickZ n0 400)) (by omega) (k := pickZ n2 120) (by omega)
 refine G.seq (G.region (G.ag rfl rfl (G.nil (G.then_n (G.seq (G.region ?_))))))
 refine G.oq (OpSpec.call Tryz.func10 rfl rfl (vs := []) rfl (awake9_spec)) ?nx2
 rintro v L' ⟨rfl, rfl⟩
 refine G.ag rfl rfl (G.nil (G.then_n (G.seq (G.region (G.mv rfl rfl ?_)))))
 refine G.oq (OpSpec.call Tryz.func26 rfl rfl (vs := [_, _]) rfl (pick9_spec n0 400 hn0 (by decide))) ?nx5
 rintro v L' ⟨rfl, rfl⟩
 refine G.q (Quiet.add rfl rfl (by omega)) rfl ?_
 refine G.ag rfl rfl (G.nil (G.then_n (G.seq (G.region (G.mv rfl rfl ?_)))))
 refine G.oq (OpSpec.call Tryz.func11 rfl rfl (vs := [_]) rfl (new_spec (16 + pickZ n0 400))) ?nx8
 rintro v L' (⟨h, -, -⟩ | ⟨-, d, rfl, rfl⟩); · omega
 refine G.mv rfl rfl (G.q (Quiet.extract rfl rfl) rfl (G.q (Quiet.extract rfl rfl) rfl (G.ag rfl rfl (G.ag rfl rfl (G.nil (G.then_n (G.seq (G.region (G.mv rfl rfl ?_)))))))))
 refine G.oq (OpSpec.call Tryz.func11 rfl rfl (vs := [_]) rfl (new_spec (16 + pickZ n0 400))) ?nx12
 rintro v L' (⟨h, -, -⟩ | ⟨-, d2, rfl, rfl⟩); · omega
 refine G.mv rfl rfl (G.q (Quiet.extract rfl rfl) rfl (G.q (Quiet.extract rfl rfl) rfl (G.ag rfl rfl (G.ag rfl rfl (G.nil (G.then_n (G.seq (G.region (G.mv rfl rfl ?_)))))))))
 refine G.oq (OpSpec.call Tryz.func12 rfl rfl (vs := [_]) rfl (lformat_spec d (Dk.new (16 + pickZ n0 400)) (by show (0 : Int) + 10 < _; decide) (hf3.i (by decide)) (hf4.i (by decide)))) ?nx16
 rintro v L' (⟨h, -, -⟩ | ⟨ω1, g, x, hw1, rfl, rfl⟩); · rw [hf1] at h; cases h
 rw [hf1] at hw1; cases hw1
 refine G.mv rfl rfl (G.q (Quiet.extract rfl rfl) rfl (G.q (Quiet.extract rfl rfl) rfl (G.ag rfl rfl (G.ag rfl rfl (G.nil (G.then_n (G.seq (G.region (G.mv rfl rfl ?_)))))))))
 refine G.oq (OpSpec.call Tryz.func12 rfl rfl (vs := [_]) rfl (lformat_spec d2 (Dk.new (16 + pickZ n0 400)) (by show (0 : Int) + 10 < _; decide) (hf3.i (by decide)) (hf4.i (by decide)))) ?nx20
 rintro v L' (⟨h, -, -⟩ | ⟨ω1, g2, x2, hw1, rfl, rfl⟩); · rw [hf1] at h; cases h
 rw [hf1] at hw1; cases hw1
 refine G.mv rfl rfl (G.q (Quiet.extract rfl rfl) rfl (G.q (Quiet.extract rfl rfl) rfl (G.ag rfl rfl (G.ag rfl rfl (G.nil (G.then_n (G.seq (G.seq (G.region (G.mv rfl rfl (G.q (Quiet.not rfl) rfl (G.mv rfl rfl (G.grun (t := 56) rfl rfl rfl (G.mv rfl rfl (G.grun (t := 56) rfl rfl rfl ?_)))))))))))))))
 refine G.q (Quiet.as (v' := .bool false) (by rfl) (Quiet.ptreq rfl rfl Tryz.underlying28)) rfl ?_
 refine G.q (Quiet.pickF rfl rfl) rfl (G.mv rfl rfl (G.grun (t := 60) rfl rfl rfl (G.mv rfl rfl (G.grun (t := 60) rfl rfl rfl ?_))))
 refine G.q (Quiet.as (v' := .bool false) (by rfl) (Quiet.ptreq rfl rfl Tryz.underlying28)) rfl ?_
 refine G.q (Quiet.pickF rfl rfl) rfl (G.mv rfl rfl (G.grun (t := 64) rfl rfl rfl (G.mv rfl rfl (G.grun (t := 64) rfl rfl rfl ?_))))
 refine G.q (Quiet.as (v' := .bool false) (by rfl) (Quiet.int rfl rfl rfl)) rfl ?_
 refine G.q (Quiet.pickF rfl rfl) rfl (G.mv rfl rfl (G.grun (t := 68) rfl rfl rfl (G.mv rfl rfl (G.grun (t := 68) rfl rfl rfl ?_))))
 refine G.q (Quiet.as (v' := .bool false) (by rfl) (Quiet.int rfl rfl rfl)) rfl ?_
 refine G.q (Quiet.pickF rfl rfl) rfl (G.mv rfl rfl (G.grun (t := 72) rfl rfl rfl (G.mv rfl rfl (G.grun (t := 72) rfl rfl rfl ?_))))
 refine G.q (Quiet.as (v' := .bool false) (by rfl) (Quiet.int rfl rfl rfl)) rfl ?_
 refine G.q (Quiet.pickF rfl rfl) rfl (G.mv rfl rfl (G.grun (t := 76) rfl rfl rfl (G.mv rfl rfl (G.grun (t := 76) rfl rfl rfl ?_))))
 refine G.q (Quiet.as (v' := .bool false) (by rfl) (Quiet.int rfl rfl rfl)) rfl ?_
 refine G.q (Quiet.pickF rfl rfl) rfl (G.nil (G.then_n (G.condF rfl (G.skip (G.then_n (G.seq (G.seq (G.region (G.mv rfl rfl (G.mv rfl rfl ?_))))))))))
 refine G.oq (OpSpec.call Tryz.func26 rfl rfl (vs := [_, _]) rfl (pick9_spec n2 120 hn2 (by decide))) ?nx32
 rintro v L' ⟨rfl, rfl⟩
 refine G.oq (OpSpec.call Tryz.func31 rfl rfl (vs := [_, _]) rfl (arm_spec d (lgFormat (Dk.new (16 + pickZ n0 400))).1 (pickZ n2 120) (by omega))) ?nx34
 rintro v L' ⟨rfl, rfl⟩
 refine G.q (Quiet.as (v' := .bool false) (by rw [hfa]; rfl) (Quiet.int rfl rfl rfl)) rfl ?_
 refine G.nil (G.then_n (G.condF rfl (G.skip (G.then_n (G.seq (G.region (G.mv rfl rfl ?_)))))))
 refine G.oq (OpSpec.call Tryz.func35 rfl rfl (vs := [_]) rfl (told9_spec g2 x2 lg0 hW0)) ?nx37
 rintro v L' ⟨sw, rfl, rfl⟩
 refine G.oq (OpSpec.allocA ze_82) ?nx39
 rintro v L' ⟨b19, rfl, rfl⟩
 refine G.toldOpen (sl := sw) (by (repeat' constructor)) fun x1 y1 e1 hs1 hm1 hn1 hk1 => ?_
 subst hs1
 refine G.oq (OpSpec.storeA rfl rfl ?c41 sz_82 ?c44 ?c42 ?c43) ?nx45
 case c41 => simp [isCell]
 case c44 => rfl
 case c42 => simp
 case c43 => exact nfz0 _ _
 rintro v L' rfl
 refine G.nil ?_
 refine G.toldFold (a := x1) (c := y1) (m := e1.length) (es := e1) (.slice x1 e1.length y1) lg0.ents (by (repeat' constructor)) rfl rfl rfl hm1 hn1 hk1 ?_
 obtain ⟨sw, hsw1⟩ : ∃ sw, Value.slice x1 e1.length y1 = sw := ⟨_, rfl⟩
 rw [hsw1]
 have hcl1 : isCell sw = true := by rw [← hsw1]; rfl
 refine G.ptCast (b := b19) (l' := [vint lg0.base, vstr lg0.snap, sw, vint lg0.acc, vint lg0.cur]) (by (repeat' constructor)) (by rw [← hsw1]; exact rfl) ?_
 refine G.then_n (G.seq (G.seq (G.region (G.ag rfl rfl (G.nil (G.then_n (G.block ?_)))))))
 rw [show dkR d2 (lgFormat (Dk.new (16 + pickZ n0 400))).1 = dkR d2 ((lgFormat (Dk.new (16 + pickZ n0 400))).1.arm (pickZ n2 120)).1.calm by rw [hfc]]
 refine G.loopK (ι := Nat × Ld × Lg × Value) (fun q E => (20, vint q.1) :: (15, vptr g) :: E) (fun q => [lgR g x q.2.1.Λ, wlR x d q.2.1.ω, dkR d q.2.1.δ, lgR g2 x2 q.2.1.Λ, wlR x2 d2 q.2.1.ω, dkR d2 q.2.1.δ.calm, ptc b19 [vint q.2.2.1.base, vstr q.2.2.1.snap, q.2.2.2, vint q.2.2.1.acc, vint q.2.2.1.cur] 82, toldR q.2.2.2 q.2.2.1.ents]) (fun q => q.1 ≤ xs.length ∧ q.1 ≤ 100 ∧ Twin q.2.1 (4000003 + q.1 * 8000000) (3 + 2 * (q.1 : Int)) q.2.2.1 ∧ isCell q.2.2.2 = true) (fun q => xs.length - q.1) (0, ⟨((lgFormat (Dk.new (16 + pickZ n0 400))).1.arm (pickZ n2 120)).1, ω0, lg0⟩, lg0, sw) (ts := [1, 3, 11, 12, 17, 19]) (.cons rfl (.cons rfl (.cons rfl (.cons rfl (.cons rfl (.cons rfl (.nil))))))) (⟨Nat.zero_le _, Nat.zero_le _, hfT.more (by dsimp only; omega) (by dsimp only; omega), hcl1⟩) ⟨rfl, rfl, rfl, rfl, rfl, rfl, rfl, rfl, trivial⟩ (by (repeat' constructor)) ?_
 rintro ⟨i, s, u, sw⟩ ⟨hi, hi1, hT0, hsc⟩
 dsimp only
 dsimp only at hi hi1 hT0 hsc
 refine G.seq (G.seq (G.region (G.mv rfl rfl (G.mv rfl rfl (G.q (Quiet.slen rfl Tryz.underlying71 rfl) rfl (G.q (Quiet.int rfl rfl rfl) rfl (G.mv rfl rfl ?_)))))))
 refine G.dec (t := 91) rfl (fun h13_91 => ?_) (fun h13_91 => ?_)
 ·refine G.kDT (t := 90) rfl h13_91 (G.grun (t := 91) rfl rfl rfl (G.mv rfl rfl (G.grun (t := 91) rfl rfl rfl (G.q (Quiet.int rfl rfl rfl) rfl (G.q (Quiet.pickT rfl rfl) rfl (G.nil (G.then_n ?_)))))))
  refine G.condD rfl (fun h94 => ?_) (fun h94 => ?_)
  ·have hi2 : i < xs.length := by omega
   refine G.rdShape (p := p) hcells (by (repeat' constructor)) (by omega) fun ba oa e => ?_
   subst e
   have ho := hx.each _ (List.getElem_mem hi2)
   have hpk := pickZ_range xs[i].k (n := 7) (by decide)
   have hLv := twin_live hT0
   refine G.skip (G.then_n (G.seq (G.block (G.seq (G.region (G.mv rfl rfl (G.mv rfl rfl ?_)))))))
   refine G.q (Quiet.indexAddr rfl rfl el_71 (by omega)) rfl ?_
   refine G.q (Quiet.loadRdA (sz := 17) (j := i * 17) (k := 17) (p := p) (vs := op9C xs[i]) rfl ag_73 (by (repeat' constructor)) hcells (by simp) (by omega) (by omega) (op9_at hi2)) rfl ?_
   refine G.oq (OpSpec.allocA ze_73) ?nx57
   rintro v L' ⟨bo, rfl, rfl⟩
   refine G.oq (OpSpec.storeA rfl rfl ?c59 sz_73 ?c62 ?c60 ?c61) ?nx63
   case c59 => exact op9K_cells ho _
   case c62 => rfl
   case c60 => simp [op9K, op9C, enC, ptC]
   case c61 => exact nfz0 _ _
   rintro v L' rfl
   refine G.nil ?_
   refine G.ptCast (b := bo) (l' := op9K xs[i] xs[i].k) (by (repeat' constructor)) (by exact rfl) ?_
   refine G.then_n (G.seq (G.region (G.q (Quiet.fieldAddr rfl fo_73_0) rfl ?_)))
   refine G.q (Quiet.ld rfl ag_3) rfl ?_
   refine G.oq (OpSpec.call Tryz.func26 rfl rfl (vs := [_, _]) rfl (pick9_spec xs[i].k 7 ho.k (by decide))) ?nx66
   rintro v L' ⟨rfl, rfl⟩
   refine G.q (Quiet.add rfl rfl (by omega)) rfl ?_
   refine G.q (Quiet.fieldAddr rfl fo_73_0) rfl ?_
   refine G.oq (OpSpec.store rfl rfl rfl sz_3 ?c70 ?c71) ?nx72
   case c70 => simp [op9K, op9C, enC, ptC]
   case c71 => exact nfz0 _ _
   rintro v L' rfl
   refine G.nil ?_
   refine G.ptCast (b := bo) (l' := op9K xs[i] (1 + pickZ xs[i].k 7)) (by (repeat' constructor)) (by exact rfl) ?_
   refine G.then_n (G.seq (G.region (G.mv rfl rfl ?_)))
   refine G.q (Quiet.loadAs (vs := op9K xs[i] (1 + pickZ xs[i].k 7)) rfl ag_73 (by (repeat' constructor)) (by simp [op9K, op9C, enC, ptC]) rfl) rfl ?_
   refine G.oq (OpSpec.call Tryz.func32 rfl rfl (vs := [_, _]) rfl (does9_spec g x d s.δ s.ω s.Λ xs[i] (1 + pickZ xs[i].k 7) p (4000003 + i * 8000000) hT0.l (by omega) ho)) ?nx75
   rintro v L' ⟨rfl, rfl⟩; obtain ⟨r, hr⟩ : ∃ r, lgDoes ⟨s.δ, s.ω, s.Λ⟩ xs[i] (1 + pickZ xs[i].k 7) = r := ⟨_, rfl⟩; rw [hr]
   refine G.ag rfl rfl (G.nil (G.then_n (G.seq (G.region (G.mv rfl rfl ?_)))))
   refine G.q (Quiet.loadAs (vs := op9K xs[i] (1 + pickZ xs[i].k 7)) rfl ag_73 (by (repeat' constructor)) (by simp [op9K, op9C, enC, ptC]) rfl) rfl ?_
   refine G.oq (OpSpec.call Tryz.func32 rfl rfl (vs := [_, _]) rfl (does9_spec g2 x2 d2 s.δ.calm s.ω s.Λ xs[i] (1 + pickZ xs[i].k 7) p (4000003 + i * 8000000) hLv.l (by omega) ho)) ?nx79
   rintro v L' ⟨rfl, rfl⟩; have hlc := (live_does hLv ho (1 + pickZ xs[i].k 7)).1; obtain ⟨rc, hrc⟩ : ∃ r, lgDoes ⟨s.δ.calm, s.ω, s.Λ⟩ xs[i] (1 + pickZ xs[i].k 7) = r := ⟨_, rfl⟩; rw [hrc]; rw [hrc] at hlc; have hcW : LgW rc.1.Λ := hlc.l.lw.w
   refine G.ag rfl rfl (G.nil (G.then_n (G.seq (G.region (G.mv rfl rfl ?_)))))
   refine G.oq (OpSpec.call Tryz.func35 rfl rfl (vs := [_]) rfl (told9_spec g2 x2 rc.1.Λ hcW)) ?nx82
   rintro v L' ⟨sn, rfl, rfl⟩
   refine G.oq (OpSpec.allocA ze_82) ?nx84
   rintro v L' ⟨b24, rfl, rfl⟩
   refine G.toldOpen (sl := sn) (by (repeat' constructor)) fun x2 y2 e2 hs2 hm2 hn2 hk2 => ?_
   subst hs2
   refine G.oq (OpSpec.storeA rfl rfl ?c86 sz_82 ?c89 ?c87 ?c88) ?nx90
   case c86 => simp [isCell]
   case c89 => rfl
   case c87 => simp
   case c88 => exact nfz0 _ _
   rintro v L' rfl
   refine G.nil ?_
   refine G.toldFold (a := x2) (c := y2) (m := e2.length) (es := e2) (.slice x2 e2.length y2) rc.1.Λ.ents (by (repeat' constructor)) rfl rfl rfl hm2 hn2 hk2 ?_
   obtain ⟨sn, hsw2⟩ : ∃ sw, Value.slice x2 e2.length y2 = sw := ⟨_, rfl⟩
   rw [hsw2]
   have hcl2 : isCell sn = true := by rw [← hsw2]; rfl
   refine G.ptCast (b := b24) (l' := [vint rc.1.Λ.base, vstr rc.1.Λ.snap, sn, vint rc.1.Λ.acc, vint rc.1.Λ.cur]) (by (repeat' constructor)) (by rw [← hsw2]; exact rfl) ?_
   refine G.then_n (G.seq ?_)
   refine G.dkOk (d := d) (by (repeat' constructor)) fun hok => ?_
   refine G.region ?_
   rcases twin_cases hT0 (by omega) ho (1 + pickZ xs[i].k 7) hr hrc hok how with hcs | hcs | hcs | hcs | ⟨hr2, hdd, hdb, hcs⟩
   rotate_left 4
   rcases hcs with hcs | hcs | hcs | hcs | hcs | hcs | hcs
   rotate_left 7
   ·obtain ⟨hlv, hq, h0, hT⟩ := hcs
    subst hq
    refine G.mv rfl rfl ?_
    refine G.q (Quiet.as (v' := .bool false) (by exact congrArg Value.bool (decide_eq_false h0)) (Quiet.int rfl rfl rfl)) rfl ?_
    refine G.mv rfl rfl (G.gskip (t := 116) rfl rfl rfl rfl (G.gskip (t := 116) rfl rfl rfl rfl (G.gskip (t := 116) rfl rfl rfl rfl (G.q (Quiet.pickF rfl rfl) rfl (G.mv rfl rfl (G.gskip (t := 121) rfl rfl rfl rfl (G.gskip (t := 121) rfl rfl rfl rfl (G.gskip (t := 121) rfl rfl rfl rfl (G.q (Quiet.pickF rfl rfl) rfl (G.ag rfl rfl (G.nil (G.then_n (G.seq (G.seq (G.region (G.mv rfl rfl ?_))))))))))))))))
    refine G.q (Quiet.as (v' := .bool true) (by exact congrArg (fun b => Value.bool (!b)) (decide_eq_false hlv)) (Quiet.int rfl rfl rfl)) rfl ?_
    refine G.nil (G.then_n (G.condT rfl (G.seq (G.seq ?_))))
    refine G.draw [5, 7] [[0, 1, 2, 3, 4, 6, 5], [7], [8, 9]] mixed (by kernel_rfl) ?_
    refine Phases.go [ptc b24 _ _] (by (repeat' constructor)) ?_
    refine D.kw [2, 3, 4, 6, 5] rfl (Quiet.move rfl) ?_
    refine D.kw [2, 3, 4, 6, 5] rfl (Quiet.move rfl) ?_
    refine D.kw [3, 4, 6, 5] rfl (Quiet.as (v' := .bool false) (by simp) (Quiet.int rfl rfl rfl)) ?_
    refine D.kw [4, 6, 5] rfl (Quiet.move rfl) ?_
    refine D.gqw [5] (t := 131) rfl rfl rfl (by kernel_rfl) (Quiet.move rfl) ?_
    refine D.gq (t := 131) rfl rfl rfl (by kernel_rfl) (Quiet.loadAs (vs := [vint r.1.Λ.base, vstr r.1.Λ.snap, sn, vint r.1.Λ.acc, vint r.1.Λ.cur]) rfl ag_82 (by (repeat' constructor)) (by simp) rfl) ?_
    refine D.gh (t := 131) rfl rfl rfl (by kernel_rfl) (OpSpec.call Tryz.func35 rfl rfl (vs := [_]) rfl (told9_spec g x r.1.Λ hcW)) (by (repeat' constructor)) ?nx98
    rintro v L' ⟨sl, rfl, rfl⟩
    refine D.ph ?_
    refine Phases.go [] (by (repeat' constructor)) ?_
    refine D.gh (t := 131) rfl rfl rfl (by kernel_rfl) (OpSpec.call Tryz.func37 rfl rfl (vs := [_, _]) rfl (equal9_spec r.1.Λ.base r.1.Λ.cur r.1.Λ.acc r.1.Λ.base r.1.Λ.cur r.1.Λ.acc r.1.Λ.snap r.1.Λ.snap sl sn r.1.Λ.ents r.1.Λ.ents)) (by (repeat' constructor)) ?nx100
    rintro v L' ⟨rfl, rfl⟩; rw [decide_eq_true (⟨rfl, rfl, rfl, rfl, rfl⟩ : r.1.Λ.ents = r.1.Λ.ents ∧ r.1.Λ.base = r.1.Λ.base ∧ r.1.Λ.snap = r.1.Λ.snap ∧ r.1.Λ.acc = r.1.Λ.acc ∧ r.1.Λ.cur = r.1.Λ.cur)]
    refine D.ph ?_
    refine Phases.go [] (by (repeat' constructor)) ?_
    refine D.gqw [9] (t := 131) rfl rfl rfl (by kernel_rfl) (Quiet.not rfl) ?_
    refine D.kw [] rfl (Quiet.pickF rfl rfl) ?_
    refine D.ph (Phases.fin (G.then_n (G.condF rfl (G.skip (G.then_n (G.seq (G.block (G.seq (G.region (G.mv rfl rfl ?_))))))))))
    refine G.q (Quiet.as (v' := .bool true) (by exact congrArg (fun b => Value.bool (!b)) (decide_eq_false h0)) (Quiet.int rfl rfl rfl)) rfl ?_
    refine G.mv rfl rfl (G.gskip (t := 142) rfl rfl rfl rfl (G.gskip (t := 142) rfl rfl rfl rfl (G.gskip (t := 142) rfl rfl rfl rfl (G.q (Quiet.pickT rfl rfl) rfl (G.ag rfl rfl (G.nil (G.then_n (G.condT rfl (G.skip (G.blk_n (G.then_n (G.exit (G.then_e (G.blk_e (G.then_n (G.region (G.mv rfl rfl ?_)))))))))))))))))
    refine G.q (Quiet.add rfl rfl (by omega)) rfl ?_
    refine G.ag rfl rfl (G.nil (G.then_n ?_))
    exact G.roundK ((i + 1, r.1, u, sw)) (⟨by dsimp only; omega, by dsimp only; omega, hT.more (by dsimp only; omega) (by dsimp only; omega), hsc⟩) (by dsimp only; omega) ⟨rfl, rfl, rfl, rfl, rfl, rfl, rfl, rfl, trivial⟩ (by (repeat' constructor)) (by ((repeat (apply Have.cons; (repeat (first | exact Pick.here | apply Pick.there)))); apply Have.base; repeat' constructor))
   ·obtain ⟨hlv, hq, h0, hk, hT⟩ := hcs
    subst hq
    refine G.mv rfl rfl ?_
    refine G.q (Quiet.as (v' := .bool true) (by exact congrArg Value.bool (decide_eq_true h0)) (Quiet.int rfl rfl rfl)) rfl ?_
    refine G.mv rfl rfl (G.grun (t := 116) rfl rfl rfl (G.q (Quiet.fieldAddr rfl fo_73_0) rfl (G.grun (t := 116) rfl rfl rfl ?_)))
    refine G.q (Quiet.ld rfl ag_3) rfl ?_
    refine G.grun (t := 116) rfl rfl rfl ?_
    refine G.q (Quiet.as (v' := .bool false) (by exact congrArg (fun b => Value.bool (!b)) (decide_eq_true hk)) (Quiet.int rfl rfl rfl)) rfl ?_
    refine G.q (Quiet.pickT rfl rfl) rfl (G.mv rfl rfl (G.gskip (t := 121) rfl rfl rfl rfl (G.gskip (t := 121) rfl rfl rfl rfl (G.gskip (t := 121) rfl rfl rfl rfl (G.q (Quiet.pickF rfl rfl) rfl (G.ag rfl rfl (G.nil (G.then_n (G.seq (G.seq (G.region (G.mv rfl rfl ?_))))))))))))
    refine G.q (Quiet.as (v' := .bool true) (by exact congrArg (fun b => Value.bool (!b)) (decide_eq_false hlv)) (Quiet.int rfl rfl rfl)) rfl ?_
    refine G.nil (G.then_n (G.condT rfl (G.seq (G.seq ?_))))
    refine G.draw [5, 7] [[0, 1, 2, 3, 4, 6, 5], [7], [8, 9]] mixed (by kernel_rfl) ?_
    refine Phases.go [ptc b24 _ _] (by (repeat' constructor)) ?_
    refine D.kw [2, 3, 4, 6, 5] rfl (Quiet.move rfl) ?_
    refine D.kw [2, 3, 4, 6, 5] rfl (Quiet.move rfl) ?_
    refine D.kw [3, 4, 6, 5] rfl (Quiet.as (v' := .bool false) (by simp) (Quiet.int rfl rfl rfl)) ?_
    refine D.kw [4, 6, 5] rfl (Quiet.move rfl) ?_
    refine D.gqw [5] (t := 131) rfl rfl rfl (by kernel_rfl) (Quiet.move rfl) ?_
    refine D.gq (t := 131) rfl rfl rfl (by kernel_rfl) (Quiet.loadAs (vs := [vint r.1.Λ.base, vstr r.1.Λ.snap, sn, vint r.1.Λ.acc, vint r.1.Λ.cur]) rfl ag_82 (by (repeat' constructor)) (by simp) rfl) ?_
    refine D.gh (t := 131) rfl rfl rfl (by kernel_rfl) (OpSpec.call Tryz.func35 rfl rfl (vs := [_]) rfl (told9_spec g x r.1.Λ hcW)) (by (repeat' constructor)) ?nx116
    rintro v L' ⟨sl, rfl, rfl⟩
    refine D.ph ?_
    refine Phases.go [] (by (repeat' constructor)) ?_
    refine D.gh (t := 131) rfl rfl rfl (by kernel_rfl) (OpSpec.call Tryz.func37 rfl rfl (vs := [_, _]) rfl (equal9_spec r.1.Λ.base r.1.Λ.cur r.1.Λ.acc r.1.Λ.base r.1.Λ.cur r.1.Λ.acc r.1.Λ.snap r.1.Λ.snap sl sn r.1.Λ.ents r.1.Λ.ents)) (by (repeat' constructor)) ?nx118
    rintro v L' ⟨rfl, rfl⟩; rw [decide_eq_true (⟨rfl, rfl, rfl, rfl, rfl⟩ : r.1.Λ.ents = r.1.Λ.ents ∧ r.1.Λ.base = r.1.Λ.base ∧ r.1.Λ.snap = r.1.Λ.snap ∧ r.1.Λ.acc = r.1.Λ.acc ∧ r.1.Λ.cur = r.1.Λ.cur)]
    refine D.ph ?_
    refine Phases.go [] (by (repeat' constructor)) ?_
    refine D.gqw [9] (t := 131) rfl rfl rfl (by kernel_rfl) (Quiet.not rfl) ?_
    refine D.kw [] rfl (Quiet.pickF rfl rfl) ?_
    refine D.ph (Phases.fin (G.then_n (G.condF rfl (G.skip (G.then_n (G.seq (G.block (G.seq (G.region (G.mv rfl rfl ?_))))))))))
    refine G.q (Quiet.as (v' := .bool false) (by exact congrArg (fun b => Value.bool (!b)) (decide_eq_true h0)) (Quiet.int rfl rfl rfl)) rfl ?_
    refine G.mv rfl rfl (G.grun (t := 142) rfl rfl rfl (G.q (Quiet.fieldAddr rfl fo_73_0) rfl (G.grun (t := 142) rfl rfl rfl ?_)))
    refine G.q (Quiet.ld rfl ag_3) rfl ?_
    refine G.grun (t := 142) rfl rfl rfl ?_
    refine G.q (Quiet.as (v' := .bool true) (by exact congrArg Value.bool (decide_eq_true hk)) (Quiet.int rfl rfl rfl)) rfl ?_
    refine G.q (Quiet.pickF rfl rfl) rfl (G.ag rfl rfl (G.nil (G.then_n (G.condT rfl (G.skip (G.blk_n (G.then_n (G.exit (G.then_e (G.blk_e (G.then_n (G.region (G.mv rfl rfl ?_)))))))))))))
    refine G.q (Quiet.add rfl rfl (by omega)) rfl ?_
    refine G.ag rfl rfl (G.nil (G.then_n ?_))
    exact G.roundK ((i + 1, r.1, u, sw)) (⟨by dsimp only; omega, by dsimp only; omega, hT.more (by dsimp only; omega) (by dsimp only; omega), hsc⟩) (by dsimp only; omega) ⟨rfl, rfl, rfl, rfl, rfl, rfl, rfl, rfl, trivial⟩ (by (repeat' constructor)) (by ((repeat (apply Have.cons; (repeat (first | exact Pick.here | apply Pick.there)))); apply Have.base; repeat' constructor))
   ·obtain ⟨hlv, hq, h0, hk, hT⟩ := hcs
    subst hq
    refine G.mv rfl rfl ?_
    refine G.q (Quiet.as (v' := .bool true) (by exact congrArg Value.bool (decide_eq_true h0)) (Quiet.int rfl rfl rfl)) rfl ?_
    refine G.mv rfl rfl (G.grun (t := 116) rfl rfl rfl (G.q (Quiet.fieldAddr rfl fo_73_0) rfl (G.grun (t := 116) rfl rfl rfl ?_)))
    refine G.q (Quiet.ld rfl ag_3) rfl ?_
    refine G.grun (t := 116) rfl rfl rfl ?_
    refine G.q (Quiet.as (v' := .bool true) (by exact congrArg (fun b => Value.bool (!b)) (decide_eq_false (by omega))) (Quiet.int rfl rfl rfl)) rfl ?_
    refine G.q (Quiet.pickT rfl rfl) rfl (G.mv rfl rfl (G.grun (t := 121) rfl rfl rfl (G.q (Quiet.fieldAddr rfl fo_73_0) rfl (G.grun (t := 121) rfl rfl rfl ?_))))
    refine G.q (Quiet.ld rfl ag_3) rfl ?_
    refine G.grun (t := 121) rfl rfl rfl ?_
    refine G.q (Quiet.as (v' := .bool false) (by exact congrArg (fun b => Value.bool (!b)) (decide_eq_true hk)) (Quiet.int rfl rfl rfl)) rfl ?_
    refine G.q (Quiet.pickT rfl rfl) rfl (G.ag rfl rfl (G.nil (G.then_n (G.seq (G.seq (G.region (G.mv rfl rfl ?_)))))))
    refine G.q (Quiet.as (v' := .bool true) (by exact congrArg (fun b => Value.bool (!b)) (decide_eq_false hlv)) (Quiet.int rfl rfl rfl)) rfl ?_
    refine G.nil (G.then_n (G.condT rfl (G.seq (G.seq ?_))))
    refine G.draw [5, 7] [[0, 1, 2, 3, 4, 6, 5], [7], [8, 9]] mixed (by kernel_rfl) ?_
    refine Phases.go [ptc b24 _ _] (by (repeat' constructor)) ?_
    refine D.kw [2, 3, 4, 6, 5] rfl (Quiet.move rfl) ?_
    refine D.kw [2, 3, 4, 6, 5] rfl (Quiet.move rfl) ?_
    refine D.kw [3, 4, 6, 5] rfl (Quiet.as (v' := .bool false) (by simp) (Quiet.int rfl rfl rfl)) ?_
    refine D.kw [4, 6, 5] rfl (Quiet.move rfl) ?_
    refine D.gqw [5] (t := 131) rfl rfl rfl (by kernel_rfl) (Quiet.move rfl) ?_
    refine D.gq (t := 131) rfl rfl rfl (by kernel_rfl) (Quiet.loadAs (vs := [vint r.1.Λ.base, vstr r.1.Λ.snap, sn, vint r.1.Λ.acc, vint r.1.Λ.cur]) rfl ag_82 (by (repeat' constructor)) (by simp) rfl) ?_
    refine D.gh (t := 131) rfl rfl rfl (by kernel_rfl) (OpSpec.call Tryz.func35 rfl rfl (vs := [_]) rfl (told9_spec g x r.1.Λ hcW)) (by (repeat' constructor)) ?nx138
    rintro v L' ⟨sl, rfl, rfl⟩
    refine D.ph ?_
    refine Phases.go [] (by (repeat' constructor)) ?_
    refine D.gh (t := 131) rfl rfl rfl (by kernel_rfl) (OpSpec.call Tryz.func37 rfl rfl (vs := [_, _]) rfl (equal9_spec r.1.Λ.base r.1.Λ.cur r.1.Λ.acc r.1.Λ.base r.1.Λ.cur r.1.Λ.acc r.1.Λ.snap r.1.Λ.snap sl sn r.1.Λ.ents r.1.Λ.ents)) (by (repeat' constructor)) ?nx140
    rintro v L' ⟨rfl, rfl⟩; rw [decide_eq_true (⟨rfl, rfl, rfl, rfl, rfl⟩ : r.1.Λ.ents = r.1.Λ.ents ∧ r.1.Λ.base = r.1.Λ.base ∧ r.1.Λ.snap = r.1.Λ.snap ∧ r.1.Λ.acc = r.1.Λ.acc ∧ r.1.Λ.cur = r.1.Λ.cur)]
    refine D.ph ?_
    refine Phases.go [] (by (repeat' constructor)) ?_
    refine D.gqw [9] (t := 131) rfl rfl rfl (by kernel_rfl) (Quiet.not rfl) ?_
    refine D.kw [] rfl (Quiet.pickF rfl rfl) ?_
    refine D.ph (Phases.fin (G.then_n (G.condF rfl (G.skip (G.then_n (G.seq (G.block (G.seq (G.region (G.mv rfl rfl ?_))))))))))
    refine G.q (Quiet.as (v' := .bool false) (by exact congrArg (fun b => Value.bool (!b)) (decide_eq_true h0)) (Quiet.int rfl rfl rfl)) rfl ?_
    refine G.mv rfl rfl (G.grun (t := 142) rfl rfl rfl (G.q (Quiet.fieldAddr rfl fo_73_0) rfl (G.grun (t := 142) rfl rfl rfl ?_)))
    refine G.q (Quiet.ld rfl ag_3) rfl ?_
    refine G.grun (t := 142) rfl rfl rfl ?_
    refine G.q (Quiet.as (v' := .bool false) (by exact congrArg Value.bool (decide_eq_false (by omega))) (Quiet.int rfl rfl rfl)) rfl ?_
    refine G.q (Quiet.pickF rfl rfl) rfl (G.ag rfl rfl (G.nil (G.then_n (G.condF rfl (G.seq (G.region (G.q (Quiet.fieldAddr rfl fo_73_0) rfl ?_)))))))
    refine G.q (Quiet.ld rfl ag_3) rfl ?_
    refine G.q (Quiet.as (v' := .bool true) (by exact congrArg Value.bool (decide_eq_true hk)) (Quiet.int rfl rfl rfl)) rfl ?_
    refine G.ag rfl rfl (G.nil (G.then_n (G.condT rfl (G.region (G.q (Quiet.fieldAddr rfl fo_82_3) rfl ?_)))))
    refine G.q (Quiet.ld rfl ag_3) rfl ?_
    refine G.q (Quiet.fieldAddr rfl fo_82_3) rfl ?_
    refine G.oq (OpSpec.store rfl rfl rfl sz_3 ?c153 ?c154) ?nx155
    case c153 => simp
    case c154 => exact nfz0 _ _
    rintro v L' rfl
    refine G.nil ?_
    refine G.ptCast (b := b19) (l' := [vint (u.setAcc r.1.Λ.acc).base, vstr (u.setAcc r.1.Λ.acc).snap, sw, vint (u.setAcc r.1.Λ.acc).acc, vint (u.setAcc r.1.Λ.acc).cur]) (by (repeat' constructor)) (by exact rfl) ?_
    refine G.blk_n (G.then_n (G.exit (G.then_e (G.blk_e (G.then_n (G.region (G.mv rfl rfl ?_)))))))
    refine G.q (Quiet.add rfl rfl (by omega)) rfl ?_
    refine G.ag rfl rfl (G.nil (G.then_n ?_))
    exact G.roundK ((i + 1, r.1, u.setAcc r.1.Λ.acc, sw)) (⟨by dsimp only; omega, by dsimp only; omega, hT.more (by dsimp only; omega) (by dsimp only; omega), hsc⟩) (by dsimp only; omega) ⟨rfl, rfl, rfl, rfl, rfl, rfl, rfl, rfl, trivial⟩ (by (repeat' constructor)) (by ((repeat (apply Have.cons; (repeat (first | exact Pick.here | apply Pick.there)))); apply Have.base; repeat' constructor))
   ·obtain ⟨hlv, hq, h0, hk1, hk3, hT⟩ := hcs
    subst hq
    refine G.mv rfl rfl ?_
    refine G.q (Quiet.as (v' := .bool true) (by exact congrArg Value.bool (decide_eq_true h0)) (Quiet.int rfl rfl rfl)) rfl ?_
    refine G.mv rfl rfl (G.grun (t := 116) rfl rfl rfl (G.q (Quiet.fieldAddr rfl fo_73_0) rfl (G.grun (t := 116) rfl rfl rfl ?_)))
    refine G.q (Quiet.ld rfl ag_3) rfl ?_
    refine G.grun (t := 116) rfl rfl rfl ?_
    refine G.q (Quiet.as (v' := .bool true) (by exact congrArg (fun b => Value.bool (!b)) (decide_eq_false (by omega))) (Quiet.int rfl rfl rfl)) rfl ?_
    refine G.q (Quiet.pickT rfl rfl) rfl (G.mv rfl rfl (G.grun (t := 121) rfl rfl rfl (G.q (Quiet.fieldAddr rfl fo_73_0) rfl (G.grun (t := 121) rfl rfl rfl ?_))))
    refine G.q (Quiet.ld rfl ag_3) rfl ?_
    refine G.grun (t := 121) rfl rfl rfl ?_
    refine G.q (Quiet.as (v' := .bool true) (by exact congrArg (fun b => Value.bool (!b)) (decide_eq_false (by omega))) (Quiet.int rfl rfl rfl)) rfl ?_
    refine G.q (Quiet.pickT rfl rfl) rfl (G.ag rfl rfl (G.nil (G.then_n (G.seq (G.seq (G.region (G.mv rfl rfl ?_)))))))
    refine G.q (Quiet.as (v' := .bool true) (by exact congrArg (fun b => Value.bool (!b)) (decide_eq_false hlv)) (Quiet.int rfl rfl rfl)) rfl ?_
    refine G.nil (G.then_n (G.condT rfl (G.seq (G.seq ?_))))
    refine G.draw [5, 7] [[0, 1, 2, 3, 4, 6, 5], [7], [8, 9]] mixed (by kernel_rfl) ?_
    refine Phases.go [ptc b24 _ _] (by (repeat' constructor)) ?_
    refine D.kw [2, 3, 4, 6, 5] rfl (Quiet.move rfl) ?_
    refine D.kw [2, 3, 4, 6, 5] rfl (Quiet.move rfl) ?_
    refine D.kw [3, 4, 6, 5] rfl (Quiet.as (v' := .bool false) (by simp) (Quiet.int rfl rfl rfl)) ?_
    refine D.kw [4, 6, 5] rfl (Quiet.move rfl) ?_
    refine D.gqw [5] (t := 131) rfl rfl rfl (by kernel_rfl) (Quiet.move rfl) ?_
    refine D.gq (t := 131) rfl rfl rfl (by kernel_rfl) (Quiet.loadAs (vs := [vint r.1.Λ.base, vstr r.1.Λ.snap, sn, vint r.1.Λ.acc, vint r.1.Λ.cur]) rfl ag_82 (by (repeat' constructor)) (by simp) rfl) ?_
    refine D.gh (t := 131) rfl rfl rfl (by kernel_rfl) (OpSpec.call Tryz.func35 rfl rfl (vs := [_]) rfl (told9_spec g x r.1.Λ hcW)) (by (repeat' constructor)) ?nx169
    rintro v L' ⟨sl, rfl, rfl⟩
    refine D.ph ?_
    refine Phases.go [] (by (repeat' constructor)) ?_
    refine D.gh (t := 131) rfl rfl rfl (by kernel_rfl) (OpSpec.call Tryz.func37 rfl rfl (vs := [_, _]) rfl (equal9_spec r.1.Λ.base r.1.Λ.cur r.1.Λ.acc r.1.Λ.base r.1.Λ.cur r.1.Λ.acc r.1.Λ.snap r.1.Λ.snap sl sn r.1.Λ.ents r.1.Λ.ents)) (by (repeat' constructor)) ?nx171
    rintro v L' ⟨rfl, rfl⟩; rw [decide_eq_true (⟨rfl, rfl, rfl, rfl, rfl⟩ : r.1.Λ.ents = r.1.Λ.ents ∧ r.1.Λ.base = r.1.Λ.base ∧ r.1.Λ.snap = r.1.Λ.snap ∧ r.1.Λ.acc = r.1.Λ.acc ∧ r.1.Λ.cur = r.1.Λ.cur)]
    refine D.ph ?_
    refine Phases.go [] (by (repeat' constructor)) ?_
    refine D.gqw [9] (t := 131) rfl rfl rfl (by kernel_rfl) (Quiet.not rfl) ?_
    refine D.kw [] rfl (Quiet.pickF rfl rfl) ?_
    refine D.ph (Phases.fin (G.then_n (G.condF rfl (G.skip (G.then_n (G.seq (G.block (G.seq (G.region (G.mv rfl rfl ?_))))))))))
    refine G.q (Quiet.as (v' := .bool false) (by exact congrArg (fun b => Value.bool (!b)) (decide_eq_true h0)) (Quiet.int rfl rfl rfl)) rfl ?_
    refine G.mv rfl rfl (G.grun (t := 142) rfl rfl rfl (G.q (Quiet.fieldAddr rfl fo_73_0) rfl (G.grun (t := 142) rfl rfl rfl ?_)))
    refine G.q (Quiet.ld rfl ag_3) rfl ?_
    refine G.grun (t := 142) rfl rfl rfl ?_
    refine G.q (Quiet.as (v' := .bool false) (by exact congrArg Value.bool (decide_eq_false (by omega))) (Quiet.int rfl rfl rfl)) rfl ?_
    refine G.q (Quiet.pickF rfl rfl) rfl (G.ag rfl rfl (G.nil (G.then_n (G.condF rfl (G.seq (G.region (G.q (Quiet.fieldAddr rfl fo_73_0) rfl ?_)))))))
    refine G.q (Quiet.ld rfl ag_3) rfl ?_
    refine G.q (Quiet.as (v' := .bool false) (by exact congrArg Value.bool (decide_eq_false (by omega))) (Quiet.int rfl rfl rfl)) rfl ?_
    refine G.ag rfl rfl (G.nil (G.then_n (G.condF rfl (G.region ?_))))
    refine G.q (Quiet.loadAs (vs := [vint r.1.Λ.base, vstr r.1.Λ.snap, sn, vint r.1.Λ.acc, vint r.1.Λ.cur]) rfl ag_82 (by (repeat' constructor)) (by simp) rfl) rfl ?_
    refine G.oq (OpSpec.storeA rfl rfl ?c182 sz_82 ?c185 ?c183 ?c184) ?nx186
    case c182 => exact wc_cells hcl2
    case c185 => rfl
    case c183 => simp
    case c184 => exact nfz0 _ _
    rintro v L' rfl
    refine G.nil ?_
    refine G.ptCast (b := b19) (l' := [vint r.1.Λ.base, vstr r.1.Λ.snap, sn, vint r.1.Λ.acc, vint r.1.Λ.cur]) (by (repeat' constructor)) (by exact rfl) ?_
    refine G.blk_n (G.then_n (G.exit (G.then_e (G.blk_e (G.then_n (G.region (G.mv rfl rfl ?_)))))))
    refine G.q (Quiet.add rfl rfl (by omega)) rfl ?_
    refine G.ag rfl rfl (G.nil (G.then_n ?_))
    exact G.roundK ((i + 1, r.1, r.1.Λ, sn)) (⟨by dsimp only; omega, by dsimp only; omega, hT.more (by dsimp only; omega) (by dsimp only; omega), hcl2⟩) (by dsimp only; omega) ⟨rfl, rfl, rfl, rfl, rfl, rfl, rfl, rfl, trivial⟩ (by (repeat' constructor)) (by ((repeat (apply Have.cons; (repeat (first | exact Pick.here | apply Pick.there)))); apply Have.base; repeat' constructor))
   ·obtain ⟨L, hB, hE, h0⟩ := hcs
    unfold EqL at hE
    refine G.mv rfl rfl ?_
    refine G.q (Quiet.as (v' := .bool false) (by exact congrArg Value.bool (decide_eq_false h0)) (Quiet.int rfl rfl rfl)) rfl ?_
    refine G.mv rfl rfl (G.gskip (t := 116) rfl rfl rfl rfl (G.gskip (t := 116) rfl rfl rfl rfl (G.gskip (t := 116) rfl rfl rfl rfl (G.q (Quiet.pickF rfl rfl) rfl (G.mv rfl rfl (G.gskip (t := 121) rfl rfl rfl rfl (G.gskip (t := 121) rfl rfl rfl rfl (G.gskip (t := 121) rfl rfl rfl rfl (G.q (Quiet.pickF rfl rfl) rfl (G.ag rfl rfl (G.nil (G.then_n (G.seq (G.seq (G.region (G.mv rfl rfl ?_))))))))))))))))
    refine G.q (Quiet.as (v' := .bool false) (by exact congrArg (fun b => Value.bool (!b)) (decide_eq_true hr2)) (Quiet.int rfl rfl rfl)) rfl ?_
    refine G.nil (G.then_n (G.condF rfl (G.skip (G.then_n (G.seq (G.seq (G.region (G.mv rfl rfl ?_))))))))
    refine G.oq (OpSpec.call Tryz.func38 rfl rfl (vs := [_]) rfl (dead_spec d r.1.δ)) ?nx194
    rintro v L' ⟨rfl, rfl⟩; rw [hdd]
    refine G.q (Quiet.not rfl) rfl (G.mv rfl rfl (G.grun (t := 157) rfl rfl rfl (G.mv rfl rfl (G.grun (t := 157) rfl rfl rfl ?_))))
    refine G.oq (OpSpec.call Tryz.func28 rfl rfl (vs := [_]) rfl (lsyncD_spec g x d r.1.δ r.1.ω r.1.Λ hdb)) ?nx198
    rintro v L' ⟨rfl, rfl⟩
    refine G.grun (t := 157) rfl rfl rfl ?_
    refine G.q (Quiet.as (v' := .bool false) (by rfl) (Quiet.int rfl rfl rfl)) rfl ?_
    refine G.q (Quiet.pickF rfl rfl) rfl (G.mv rfl rfl (G.grun (t := 162) rfl rfl rfl (G.mv rfl rfl (G.grun (t := 162) rfl rfl rfl ?_))))
    refine G.oq (OpSpec.call Tryz.func39 rfl rfl (vs := [_, _]) rfl (lacceptD_spec g x d r.1.δ r.1.ω r.1.Λ hdb 1073741824)) ?nx202
    rintro v L' ⟨rfl, rfl⟩
    refine G.grun (t := 162) rfl rfl rfl ?_
    refine G.q (Quiet.as (v' := .bool false) (by rfl) (Quiet.int rfl rfl rfl)) rfl ?_
    refine G.q (Quiet.pickF rfl rfl) rfl (G.nil (G.then_n (G.condF rfl (G.skip (G.then_n (G.seq (G.region (G.mv rfl rfl (G.mv rfl rfl ?_)))))))))
    refine G.oq (OpSpec.call Tryz.func29 rfl rfl (vs := [_, _]) rfl (crash_spec d r.1.δ _ how p hhow hhows)) ?nx207
    rintro v L' ⟨rfl, rfl⟩
    refine G.nil (G.then_n (G.seq ?_))
    obtain ⟨ω2, o1, o2, o3, o4⟩ := hB.open_
    have hsz2 := o3.lv.well.size
    have hdd2 := o3.lv.dead
    refine G.dkOk (by (repeat' constructor)) fun hok2 => ?_
    obtain ⟨σ, hσ⟩ : ∃ σ, r.1.δ.crash how = σ := ⟨_, rfl⟩
    rw [hσ] at o1 o3 hok2 hsz2 hdd2 ⊢
    refine G.region (G.mv rfl rfl ?_)
    refine G.oq (OpSpec.call Tryz.func18 rfl rfl (vs := [_]) rfl (lopen_spec d σ hsz2 hok2 (fun ω9 h9 => by rw [o1] at h9; cases h9; exact o3.opened))) ?nx210
    rintro v L' (⟨h, -, -⟩ | ⟨-, h, -, -⟩ | ⟨-, ω9, h9, ⟨h, -, -⟩ | ⟨Λ9, mm, y, hl9, rfl, rfl⟩⟩); · rw [hdd2] at h; cases h
    · rw [o1] at h; cases h
    · rw [o1] at h9; cases h9; rw [o2] at h; cases h
    rw [o1] at h9; cases h9; rw [o2] at hl9; cases hl9
    refine G.mv rfl rfl (G.q (Quiet.extract rfl rfl) rfl (G.q (Quiet.extract rfl rfl) rfl (G.ag rfl rfl (G.ag rfl rfl (G.nil (G.then_n (G.seq (G.seq ?_))))))))
    have hWL : LgW L := o3.lw.w
    refine G.region (G.mv rfl rfl (G.q (Quiet.ptreq rfl rfl Tryz.underlying28) rfl (G.mv rfl rfl (G.grun (t := 177) rfl rfl rfl (G.mv rfl rfl (G.grun (t := 177) rfl rfl rfl ?_))))))
    refine G.q (Quiet.as (v' := .bool false) (by rfl) (Quiet.int rfl rfl rfl)) rfl ?_
    refine G.q (Quiet.pickF rfl rfl) rfl (G.nil (G.then_n (G.condF rfl (G.skip (G.then_n (G.seq (G.region (G.mv rfl rfl ?_))))))))
    refine G.oq (OpSpec.call Tryz.func35 rfl rfl (vs := [_]) rfl (told9_spec mm y L hWL)) ?nx216
    rintro v L' ⟨st, rfl, rfl⟩
    refine G.oq (OpSpec.allocA ze_82) ?nx218
    rintro v L' ⟨b26, rfl, rfl⟩
    refine G.toldOpen (sl := st) (by (repeat' constructor)) fun x3 y3 e3 hs3 hm3 hn3 hk3 => ?_
    subst hs3
    refine G.oq (OpSpec.storeA rfl rfl ?c220 sz_82 ?c223 ?c221 ?c222) ?nx224
    case c220 => simp [isCell]
    case c223 => rfl
    case c221 => simp
    case c222 => exact nfz0 _ _
    rintro v L' rfl
    refine G.nil ?_
    refine G.toldFold (a := x3) (c := y3) (m := e3.length) (es := e3) (.slice x3 e3.length y3) L.ents (by (repeat' constructor)) rfl rfl rfl hm3 hn3 hk3 ?_
    obtain ⟨st, hsw3⟩ : ∃ sw, Value.slice x3 e3.length y3 = sw := ⟨_, rfl⟩
    rw [hsw3]
    have hcl3 : isCell st = true := by rw [← hsw3]; rfl
    refine G.ptCast (b := b26) (l' := [vint L.base, vstr L.snap, st, vint L.acc, vint L.cur]) (by (repeat' constructor)) (by rw [← hsw3]; exact rfl) ?_
    refine G.then_n (G.seq (G.region ?_))
    refine G.q (Quiet.loadAs (vs := [vint L.base, vstr L.snap, st, vint L.acc, vint L.cur]) rfl ag_82 (by (repeat' constructor)) (by simp) rfl) rfl ?_
    refine G.q (Quiet.loadAs (vs := [vint u.base, vstr u.snap, sw, vint u.acc, vint u.cur]) rfl ag_82 (by (repeat' constructor)) (by simp) rfl) rfl ?_
    refine G.oq (OpSpec.call Tryz.func37 rfl rfl (vs := [_, _]) rfl (equal9_spec L.base L.cur L.acc u.base u.cur u.acc L.snap u.snap st sw L.ents u.ents)) ?nx227
    rintro v L' ⟨rfl, rfl⟩; rw [decide_eq_true hE]
    refine G.ag rfl rfl (G.nil (G.then_n (G.seq (G.seq (G.region (G.q (Quiet.fieldAddr rfl fo_73_0) rfl ?_))))))
    refine G.q (Quiet.ld rfl ag_3) rfl ?_
    refine G.q (Quiet.int rfl rfl rfl) rfl (G.mv rfl rfl ?_)
    refine G.dec (t := 189) rfl (fun h36_189 => ?_) (fun h36_189 => ?_)
    ·refine G.kDT (t := 188) rfl h36_189 (G.grun (t := 189) rfl rfl rfl (G.mv rfl rfl (G.grun (t := 189) rfl rfl rfl ?_)))
     refine G.q (Quiet.as (v' := .bool false) (by exact congrArg Value.bool (decide_eq_false h0)) (Quiet.int rfl rfl rfl)) rfl ?_
     refine G.q (Quiet.pickT rfl rfl) rfl (G.nil (G.then_n (G.condF rfl (G.skip (G.then_n (G.seq (G.seq (G.region (G.q (Quiet.fieldAddr rfl fo_73_0) rfl ?_)))))))))
     refine G.q (Quiet.ld rfl ag_3) rfl ?_
     refine G.q (Quiet.int rfl rfl rfl) rfl (G.mv rfl rfl ?_)
     refine G.dec (t := 206) rfl (fun h40_206 => ?_) (fun h40_206 => ?_)
     ·refine G.kDT (t := 205) rfl h40_206 (G.grun (t := 206) rfl rfl rfl (G.mv rfl rfl (G.grun (t := 206) rfl rfl rfl ?_)))
      refine G.q (Quiet.as (v' := .bool false) (by exact congrArg Value.bool (decide_eq_false h0)) (Quiet.int rfl rfl rfl)) rfl ?_
      refine G.q (Quiet.pickT rfl rfl) rfl (G.nil (G.then_n (G.condF rfl (G.skip (G.then_n (G.seq (G.region (G.mv rfl rfl (G.mv rfl rfl (G.gskip (t := 221) rfl rfl rfl rfl (G.gskip (t := 221) rfl rfl rfl rfl (G.gskipU (t := 223) rfl rfl rfl (G.gskipU (t := 223) rfl rfl rfl (G.gskipU (t := 223) rfl rfl rfl (G.gskip (t := 221) rfl rfl rfl rfl (G.q (Quiet.pickT rfl rfl) rfl (G.ag rfl rfl (G.nil (G.then_n (G.ret (G.blk_r (G.then_r (G.then_r (G.blk_r (G.then_r ?_)))))))))))))))))))))))))
      exact G.dn (l := [.tmp 8]) rfl rfl ⟨rfl, rfl⟩
     ·refine G.kDF (t := 205) rfl h40_206 (G.gskip (t := 206) rfl rfl rfl rfl (G.gskip (t := 206) rfl rfl rfl rfl (G.q (Quiet.pickF rfl rfl) rfl (G.nil (G.then_n (G.condF rfl (G.skip (G.then_n (G.seq (G.region (G.mv rfl rfl (G.mv rfl rfl (G.gskip (t := 221) rfl rfl rfl rfl (G.gskip (t := 221) rfl rfl rfl rfl (G.gskipU (t := 223) rfl rfl rfl (G.gskipU (t := 223) rfl rfl rfl (G.gskipU (t := 223) rfl rfl rfl (G.gskip (t := 221) rfl rfl rfl rfl (G.q (Quiet.pickT rfl rfl) rfl (G.ag rfl rfl (G.nil (G.then_n (G.ret (G.blk_r (G.then_r (G.then_r (G.blk_r (G.then_r ?_))))))))))))))))))))))))))))
      exact G.dn (l := [.tmp 8]) rfl rfl ⟨rfl, rfl⟩
    ·refine G.kDF (t := 188) rfl h36_189 (G.gskip (t := 189) rfl rfl rfl rfl (G.gskip (t := 189) rfl rfl rfl rfl (G.q (Quiet.pickF rfl rfl) rfl (G.nil (G.then_n (G.condF rfl (G.skip (G.then_n (G.seq (G.seq (G.region (G.q (Quiet.fieldAddr rfl fo_73_0) rfl ?_))))))))))))
     refine G.q (Quiet.ld rfl ag_3) rfl ?_
     refine G.q (Quiet.int rfl rfl rfl) rfl (G.mv rfl rfl ?_)
     refine G.dec (t := 206) rfl (fun h40_206 => ?_) (fun h40_206 => ?_)
     ·refine G.kDT (t := 205) rfl h40_206 (G.grun (t := 206) rfl rfl rfl (G.mv rfl rfl (G.grun (t := 206) rfl rfl rfl ?_)))
      refine G.q (Quiet.as (v' := .bool false) (by exact congrArg Value.bool (decide_eq_false h0)) (Quiet.int rfl rfl rfl)) rfl ?_
      refine G.q (Quiet.pickT rfl rfl) rfl (G.nil (G.then_n (G.condF rfl (G.skip (G.then_n (G.seq (G.region (G.mv rfl rfl (G.mv rfl rfl (G.gskip (t := 221) rfl rfl rfl rfl (G.gskip (t := 221) rfl rfl rfl rfl (G.gskipU (t := 223) rfl rfl rfl (G.gskipU (t := 223) rfl rfl rfl (G.gskipU (t := 223) rfl rfl rfl (G.gskip (t := 221) rfl rfl rfl rfl (G.q (Quiet.pickT rfl rfl) rfl (G.ag rfl rfl (G.nil (G.then_n (G.ret (G.blk_r (G.then_r (G.then_r (G.blk_r (G.then_r ?_)))))))))))))))))))))))))
      exact G.dn (l := [.tmp 8]) rfl rfl ⟨rfl, rfl⟩
     ·refine G.kDF (t := 205) rfl h40_206 (G.gskip (t := 206) rfl rfl rfl rfl (G.gskip (t := 206) rfl rfl rfl rfl (G.q (Quiet.pickF rfl rfl) rfl (G.nil (G.then_n (G.condF rfl (G.skip (G.then_n (G.seq (G.region (G.mv rfl rfl (G.mv rfl rfl (G.gskip (t := 221) rfl rfl rfl rfl (G.gskip (t := 221) rfl rfl rfl rfl (G.gskipU (t := 223) rfl rfl rfl (G.gskipU (t := 223) rfl rfl rfl (G.gskipU (t := 223) rfl rfl rfl (G.gskip (t := 221) rfl rfl rfl rfl (G.q (Quiet.pickT rfl rfl) rfl (G.ag rfl rfl (G.nil (G.then_n (G.ret (G.blk_r (G.then_r (G.then_r (G.blk_r (G.then_r ?_))))))))))))))))))))))))))))
      exact G.dn (l := [.tmp 8]) rfl rfl ⟨rfl, rfl⟩
   ·obtain ⟨L, hB, hE, h0, hk⟩ := hcs
    unfold EqL at hE
    refine G.mv rfl rfl ?_
    refine G.q (Quiet.as (v' := .bool true) (by exact congrArg Value.bool (decide_eq_true h0)) (Quiet.int rfl rfl rfl)) rfl ?_
    refine G.mv rfl rfl (G.grun (t := 116) rfl rfl rfl (G.q (Quiet.fieldAddr rfl fo_73_0) rfl (G.grun (t := 116) rfl rfl rfl ?_)))
    refine G.q (Quiet.ld rfl ag_3) rfl ?_
    refine G.grun (t := 116) rfl rfl rfl ?_
    refine G.q (Quiet.as (v' := .bool false) (by exact congrArg (fun b => Value.bool (!b)) (decide_eq_true hk)) (Quiet.int rfl rfl rfl)) rfl ?_
    refine G.q (Quiet.pickT rfl rfl) rfl (G.mv rfl rfl (G.gskip (t := 121) rfl rfl rfl rfl (G.gskip (t := 121) rfl rfl rfl rfl (G.gskip (t := 121) rfl rfl rfl rfl (G.q (Quiet.pickF rfl rfl) rfl (G.ag rfl rfl (G.nil (G.then_n (G.seq (G.seq (G.region (G.mv rfl rfl ?_))))))))))))
    refine G.q (Quiet.as (v' := .bool false) (by exact congrArg (fun b => Value.bool (!b)) (decide_eq_true hr2)) (Quiet.int rfl rfl rfl)) rfl ?_
    refine G.nil (G.then_n (G.condF rfl (G.skip (G.then_n (G.seq (G.seq (G.region (G.mv rfl rfl ?_))))))))
    refine G.oq (OpSpec.call Tryz.func38 rfl rfl (vs := [_]) rfl (dead_spec d r.1.δ)) ?nx255
    rintro v L' ⟨rfl, rfl⟩; rw [hdd]
    refine G.q (Quiet.not rfl) rfl (G.mv rfl rfl (G.grun (t := 157) rfl rfl rfl (G.mv rfl rfl (G.grun (t := 157) rfl rfl rfl ?_))))
    refine G.oq (OpSpec.call Tryz.func28 rfl rfl (vs := [_]) rfl (lsyncD_spec g x d r.1.δ r.1.ω r.1.Λ hdb)) ?nx259
    rintro v L' ⟨rfl, rfl⟩
    refine G.grun (t := 157) rfl rfl rfl ?_
    refine G.q (Quiet.as (v' := .bool false) (by rfl) (Quiet.int rfl rfl rfl)) rfl ?_
    refine G.q (Quiet.pickF rfl rfl) rfl (G.mv rfl rfl (G.grun (t := 162) rfl rfl rfl (G.mv rfl rfl (G.grun (t := 162) rfl rfl rfl ?_))))
    refine G.oq (OpSpec.call Tryz.func39 rfl rfl (vs := [_, _]) rfl (lacceptD_spec g x d r.1.δ r.1.ω r.1.Λ hdb 1073741824)) ?nx263
    rintro v L' ⟨rfl, rfl⟩
    refine G.grun (t := 162) rfl rfl rfl ?_
    refine G.q (Quiet.as (v' := .bool false) (by rfl) (Quiet.int rfl rfl rfl)) rfl ?_
    refine G.q (Quiet.pickF rfl rfl) rfl (G.nil (G.then_n (G.condF rfl (G.skip (G.then_n (G.seq (G.region (G.mv rfl rfl (G.mv rfl rfl ?_)))))))))
    refine G.oq (OpSpec.call Tryz.func29 rfl rfl (vs := [_, _]) rfl (crash_spec d r.1.δ _ how p hhow hhows)) ?nx268
    rintro v L' ⟨rfl, rfl⟩
    refine G.nil (G.then_n (G.seq ?_))
    obtain ⟨ω2, o1, o2, o3, o4⟩ := hB.open_
    have hsz2 := o3.lv.well.size
    have hdd2 := o3.lv.dead
    refine G.dkOk (by (repeat' constructor)) fun hok2 => ?_
    obtain ⟨σ, hσ⟩ : ∃ σ, r.1.δ.crash how = σ := ⟨_, rfl⟩
    rw [hσ] at o1 o3 hok2 hsz2 hdd2 ⊢
    refine G.region (G.mv rfl rfl ?_)
    refine G.oq (OpSpec.call Tryz.func18 rfl rfl (vs := [_]) rfl (lopen_spec d σ hsz2 hok2 (fun ω9 h9 => by rw [o1] at h9; cases h9; exact o3.opened))) ?nx271
    rintro v L' (⟨h, -, -⟩ | ⟨-, h, -, -⟩ | ⟨-, ω9, h9, ⟨h, -, -⟩ | ⟨Λ9, mm, y, hl9, rfl, rfl⟩⟩); · rw [hdd2] at h; cases h
    · rw [o1] at h; cases h
    · rw [o1] at h9; cases h9; rw [o2] at h; cases h
    rw [o1] at h9; cases h9; rw [o2] at hl9; cases hl9
    refine G.mv rfl rfl (G.q (Quiet.extract rfl rfl) rfl (G.q (Quiet.extract rfl rfl) rfl (G.ag rfl rfl (G.ag rfl rfl (G.nil (G.then_n (G.seq (G.seq ?_))))))))
    have hWL : LgW L := o3.lw.w
    refine G.region (G.mv rfl rfl (G.q (Quiet.ptreq rfl rfl Tryz.underlying28) rfl (G.mv rfl rfl (G.grun (t := 177) rfl rfl rfl (G.mv rfl rfl (G.grun (t := 177) rfl rfl rfl ?_))))))
    refine G.q (Quiet.as (v' := .bool false) (by rfl) (Quiet.int rfl rfl rfl)) rfl ?_
    refine G.q (Quiet.pickF rfl rfl) rfl (G.nil (G.then_n (G.condF rfl (G.skip (G.then_n (G.seq (G.region (G.mv rfl rfl ?_))))))))
    refine G.oq (OpSpec.call Tryz.func35 rfl rfl (vs := [_]) rfl (told9_spec mm y L hWL)) ?nx277
    rintro v L' ⟨st, rfl, rfl⟩
    refine G.oq (OpSpec.allocA ze_82) ?nx279
    rintro v L' ⟨b26, rfl, rfl⟩
    refine G.toldOpen (sl := st) (by (repeat' constructor)) fun x3 y3 e3 hs3 hm3 hn3 hk3 => ?_
    subst hs3
    refine G.oq (OpSpec.storeA rfl rfl ?c281 sz_82 ?c284 ?c282 ?c283) ?nx285
    case c281 => simp [isCell]
    case c284 => rfl
    case c282 => simp
    case c283 => exact nfz0 _ _
    rintro v L' rfl
    refine G.nil ?_
    refine G.toldFold (a := x3) (c := y3) (m := e3.length) (es := e3) (.slice x3 e3.length y3) L.ents (by (repeat' constructor)) rfl rfl rfl hm3 hn3 hk3 ?_
    obtain ⟨st, hsw3⟩ : ∃ sw, Value.slice x3 e3.length y3 = sw := ⟨_, rfl⟩
    rw [hsw3]
    have hcl3 : isCell st = true := by rw [← hsw3]; rfl
    refine G.ptCast (b := b26) (l' := [vint L.base, vstr L.snap, st, vint L.acc, vint L.cur]) (by (repeat' constructor)) (by rw [← hsw3]; exact rfl) ?_
    refine G.then_n (G.seq (G.region ?_))
    refine G.q (Quiet.loadAs (vs := [vint L.base, vstr L.snap, st, vint L.acc, vint L.cur]) rfl ag_82 (by (repeat' constructor)) (by simp) rfl) rfl ?_
    refine G.q (Quiet.loadAs (vs := [vint u.base, vstr u.snap, sw, vint u.acc, vint u.cur]) rfl ag_82 (by (repeat' constructor)) (by simp) rfl) rfl ?_
    refine G.oq (OpSpec.call Tryz.func37 rfl rfl (vs := [_, _]) rfl (equal9_spec L.base L.cur L.acc u.base u.cur u.acc L.snap u.snap st sw L.ents u.ents)) ?nx288
    rintro v L' ⟨rfl, rfl⟩; rw [decide_eq_true hE]
    refine G.ag rfl rfl (G.nil (G.then_n (G.seq (G.seq (G.region (G.q (Quiet.fieldAddr rfl fo_73_0) rfl ?_))))))
    refine G.q (Quiet.ld rfl ag_3) rfl ?_
    refine G.q (Quiet.as (v' := .bool false) (by exact congrArg Value.bool (decide_eq_false (by omega))) (Quiet.int rfl rfl rfl)) rfl ?_
    refine G.mv rfl rfl (G.gskip (t := 189) rfl rfl rfl rfl (G.gskip (t := 189) rfl rfl rfl rfl (G.q (Quiet.pickF rfl rfl) rfl (G.nil (G.then_n (G.condF rfl (G.skip (G.then_n (G.seq (G.seq (G.region (G.q (Quiet.fieldAddr rfl fo_73_0) rfl ?_))))))))))))
    refine G.q (Quiet.ld rfl ag_3) rfl ?_
    refine G.q (Quiet.as (v' := .bool false) (by exact congrArg Value.bool (decide_eq_false (by omega))) (Quiet.int rfl rfl rfl)) rfl ?_
    refine G.mv rfl rfl (G.gskip (t := 206) rfl rfl rfl rfl (G.gskip (t := 206) rfl rfl rfl rfl (G.q (Quiet.pickF rfl rfl) rfl (G.nil (G.then_n (G.condF rfl (G.skip (G.then_n (G.seq (G.region (G.mv rfl rfl (G.mv rfl rfl (G.gskip (t := 221) rfl rfl rfl rfl (G.gskip (t := 221) rfl rfl rfl rfl (G.gskipU (t := 223) rfl rfl rfl (G.gskipU (t := 223) rfl rfl rfl (G.gskipU (t := 223) rfl rfl rfl (G.gskip (t := 221) rfl rfl rfl rfl (G.q (Quiet.pickT rfl rfl) rfl (G.ag rfl rfl (G.nil (G.then_n (G.ret (G.blk_r (G.then_r (G.then_r (G.blk_r (G.then_r ?_))))))))))))))))))))))))))))
    exact G.dn (l := [.tmp 8]) rfl rfl ⟨rfl, rfl⟩
   ·obtain ⟨L, hB, hE, h0, hk⟩ := hcs
    unfold EqL at hE
    refine G.mv rfl rfl ?_
    refine G.q (Quiet.as (v' := .bool true) (by exact congrArg Value.bool (decide_eq_true h0)) (Quiet.int rfl rfl rfl)) rfl ?_
    refine G.mv rfl rfl (G.grun (t := 116) rfl rfl rfl (G.q (Quiet.fieldAddr rfl fo_73_0) rfl (G.grun (t := 116) rfl rfl rfl ?_)))
    refine G.q (Quiet.ld rfl ag_3) rfl ?_
    refine G.grun (t := 116) rfl rfl rfl ?_
    refine G.q (Quiet.as (v' := .bool true) (by exact congrArg (fun b => Value.bool (!b)) (decide_eq_false (by omega))) (Quiet.int rfl rfl rfl)) rfl ?_
    refine G.q (Quiet.pickT rfl rfl) rfl (G.mv rfl rfl (G.grun (t := 121) rfl rfl rfl (G.q (Quiet.fieldAddr rfl fo_73_0) rfl (G.grun (t := 121) rfl rfl rfl ?_))))
    refine G.q (Quiet.ld rfl ag_3) rfl ?_
    refine G.grun (t := 121) rfl rfl rfl ?_
    refine G.q (Quiet.as (v' := .bool false) (by exact congrArg (fun b => Value.bool (!b)) (decide_eq_true hk)) (Quiet.int rfl rfl rfl)) rfl ?_
    refine G.q (Quiet.pickT rfl rfl) rfl (G.ag rfl rfl (G.nil (G.then_n (G.seq (G.seq (G.region (G.mv rfl rfl ?_)))))))
    refine G.q (Quiet.as (v' := .bool false) (by exact congrArg (fun b => Value.bool (!b)) (decide_eq_true hr2)) (Quiet.int rfl rfl rfl)) rfl ?_
    refine G.nil (G.then_n (G.condF rfl (G.skip (G.then_n (G.seq (G.seq (G.region (G.mv rfl rfl ?_))))))))
    refine G.oq (OpSpec.call Tryz.func38 rfl rfl (vs := [_]) rfl (dead_spec d r.1.δ)) ?nx308
    rintro v L' ⟨rfl, rfl⟩; rw [hdd]
    refine G.q (Quiet.not rfl) rfl (G.mv rfl rfl (G.grun (t := 157) rfl rfl rfl (G.mv rfl rfl (G.grun (t := 157) rfl rfl rfl ?_))))
    refine G.oq (OpSpec.call Tryz.func28 rfl rfl (vs := [_]) rfl (lsyncD_spec g x d r.1.δ r.1.ω r.1.Λ hdb)) ?nx312
    rintro v L' ⟨rfl, rfl⟩
    refine G.grun (t := 157) rfl rfl rfl ?_
    refine G.q (Quiet.as (v' := .bool false) (by rfl) (Quiet.int rfl rfl rfl)) rfl ?_
    refine G.q (Quiet.pickF rfl rfl) rfl (G.mv rfl rfl (G.grun (t := 162) rfl rfl rfl (G.mv rfl rfl (G.grun (t := 162) rfl rfl rfl ?_))))
    refine G.oq (OpSpec.call Tryz.func39 rfl rfl (vs := [_, _]) rfl (lacceptD_spec g x d r.1.δ r.1.ω r.1.Λ hdb 1073741824)) ?nx316
    rintro v L' ⟨rfl, rfl⟩
    refine G.grun (t := 162) rfl rfl rfl ?_
    refine G.q (Quiet.as (v' := .bool false) (by rfl) (Quiet.int rfl rfl rfl)) rfl ?_
    refine G.q (Quiet.pickF rfl rfl) rfl (G.nil (G.then_n (G.condF rfl (G.skip (G.then_n (G.seq (G.region (G.mv rfl rfl (G.mv rfl rfl ?_)))))))))
    refine G.oq (OpSpec.call Tryz.func29 rfl rfl (vs := [_, _]) rfl (crash_spec d r.1.δ _ how p hhow hhows)) ?nx321
    rintro v L' ⟨rfl, rfl⟩
    refine G.nil (G.then_n (G.seq ?_))
    obtain ⟨ω2, o1, o2, o3, o4⟩ := hB.open_
    have hsz2 := o3.lv.well.size
    have hdd2 := o3.lv.dead
    refine G.dkOk (by (repeat' constructor)) fun hok2 => ?_
    obtain ⟨σ, hσ⟩ : ∃ σ, r.1.δ.crash how = σ := ⟨_, rfl⟩
    rw [hσ] at o1 o3 hok2 hsz2 hdd2 ⊢
    refine G.region (G.mv rfl rfl ?_)
    refine G.oq (OpSpec.call Tryz.func18 rfl rfl (vs := [_]) rfl (lopen_spec d σ hsz2 hok2 (fun ω9 h9 => by rw [o1] at h9; cases h9; exact o3.opened))) ?nx324
    rintro v L' (⟨h, -, -⟩ | ⟨-, h, -, -⟩ | ⟨-, ω9, h9, ⟨h, -, -⟩ | ⟨Λ9, mm, y, hl9, rfl, rfl⟩⟩); · rw [hdd2] at h; cases h
    · rw [o1] at h; cases h
    · rw [o1] at h9; cases h9; rw [o2] at h; cases h
    rw [o1] at h9; cases h9; rw [o2] at hl9; cases hl9
    refine G.mv rfl rfl (G.q (Quiet.extract rfl rfl) rfl (G.q (Quiet.extract rfl rfl) rfl (G.ag rfl rfl (G.ag rfl rfl (G.nil (G.then_n (G.seq (G.seq ?_))))))))
    have hWL : LgW L := o3.lw.w
    refine G.region (G.mv rfl rfl (G.q (Quiet.ptreq rfl rfl Tryz.underlying28) rfl (G.mv rfl rfl (G.grun (t := 177) rfl rfl rfl (G.mv rfl rfl (G.grun (t := 177) rfl rfl rfl ?_))))))
    refine G.q (Quiet.as (v' := .bool false) (by rfl) (Quiet.int rfl rfl rfl)) rfl ?_
    refine G.q (Quiet.pickF rfl rfl) rfl (G.nil (G.then_n (G.condF rfl (G.skip (G.then_n (G.seq (G.region (G.mv rfl rfl ?_))))))))
    refine G.oq (OpSpec.call Tryz.func35 rfl rfl (vs := [_]) rfl (told9_spec mm y L hWL)) ?nx330
    rintro v L' ⟨st, rfl, rfl⟩
    refine G.oq (OpSpec.allocA ze_82) ?nx332
    rintro v L' ⟨b26, rfl, rfl⟩
    refine G.toldOpen (sl := st) (by (repeat' constructor)) fun x3 y3 e3 hs3 hm3 hn3 hk3 => ?_
    subst hs3
    refine G.oq (OpSpec.storeA rfl rfl ?c334 sz_82 ?c337 ?c335 ?c336) ?nx338
    case c334 => simp [isCell]
    case c337 => rfl
    case c335 => simp
    case c336 => exact nfz0 _ _
    rintro v L' rfl
    refine G.nil ?_
    refine G.toldFold (a := x3) (c := y3) (m := e3.length) (es := e3) (.slice x3 e3.length y3) L.ents (by (repeat' constructor)) rfl rfl rfl hm3 hn3 hk3 ?_
    obtain ⟨st, hsw3⟩ : ∃ sw, Value.slice x3 e3.length y3 = sw := ⟨_, rfl⟩
    rw [hsw3]
    have hcl3 : isCell st = true := by rw [← hsw3]; rfl
    refine G.ptCast (b := b26) (l' := [vint L.base, vstr L.snap, st, vint L.acc, vint L.cur]) (by (repeat' constructor)) (by rw [← hsw3]; exact rfl) ?_
    refine G.then_n (G.seq (G.region ?_))
    refine G.q (Quiet.loadAs (vs := [vint L.base, vstr L.snap, st, vint L.acc, vint L.cur]) rfl ag_82 (by (repeat' constructor)) (by simp) rfl) rfl ?_
    refine G.q (Quiet.loadAs (vs := [vint u.base, vstr u.snap, sw, vint u.acc, vint u.cur]) rfl ag_82 (by (repeat' constructor)) (by simp) rfl) rfl ?_
    refine G.oq (OpSpec.call Tryz.func37 rfl rfl (vs := [_, _]) rfl (equal9_spec L.base L.cur L.acc u.base u.cur u.acc L.snap u.snap st sw L.ents u.ents)) ?nx341
    rintro v L' ⟨rfl, rfl⟩; rw [decide_eq_true hE]
    refine G.ag rfl rfl (G.nil (G.then_n (G.seq (G.seq (G.region (G.q (Quiet.fieldAddr rfl fo_73_0) rfl ?_))))))
    refine G.q (Quiet.ld rfl ag_3) rfl ?_
    refine G.q (Quiet.as (v' := .bool false) (by exact congrArg Value.bool (decide_eq_false (by omega))) (Quiet.int rfl rfl rfl)) rfl ?_
    refine G.mv rfl rfl (G.gskip (t := 189) rfl rfl rfl rfl (G.gskip (t := 189) rfl rfl rfl rfl (G.q (Quiet.pickF rfl rfl) rfl (G.nil (G.then_n (G.condF rfl (G.skip (G.then_n (G.seq (G.seq (G.region (G.q (Quiet.fieldAddr rfl fo_73_0) rfl ?_))))))))))))
    refine G.q (Quiet.ld rfl ag_3) rfl ?_
    refine G.q (Quiet.as (v' := .bool true) (by exact congrArg Value.bool (decide_eq_true hk)) (Quiet.int rfl rfl rfl)) rfl ?_
    refine G.mv rfl rfl (G.grun (t := 206) rfl rfl rfl (G.mv rfl rfl (G.grun (t := 206) rfl rfl rfl ?_)))
    refine G.q (Quiet.as (v' := .bool true) (by exact congrArg Value.bool (decide_eq_true h0)) (Quiet.int rfl rfl rfl)) rfl ?_
    refine G.q (Quiet.pickT rfl rfl) rfl (G.nil (G.then_n (G.condT rfl (G.seq (G.region ?_)))))
    refine G.q (Quiet.loadAs (vs := [vint u.base, vstr u.snap, sw, vint u.acc, vint u.cur]) rfl ag_82 (by (repeat' constructor)) (by simp) rfl) rfl ?_
    refine G.oq (OpSpec.allocA ze_82) ?nx352
    rintro v L' ⟨b29, rfl, rfl⟩
    refine G.oq (OpSpec.storeA rfl rfl ?c354 sz_82 ?c357 ?c355 ?c356) ?nx358
    case c354 => exact wc_cells hsc
    case c357 => rfl
    case c355 => simp
    case c356 => exact nfz0 _ _
    rintro v L' rfl
    refine G.nil ?_
    refine G.ptCast (b := b29) (l' := [vint u.base, vstr u.snap, sw, vint u.acc, vint u.cur]) (by (repeat' constructor)) (by exact rfl) ?_
    refine G.then_n (G.seq (G.region (G.q (Quiet.fieldAddr rfl fo_82_3) rfl ?_)))
    refine G.q (Quiet.ld rfl ag_3) rfl ?_
    refine G.q (Quiet.fieldAddr rfl fo_82_3) rfl ?_
    refine G.oq (OpSpec.store rfl rfl rfl sz_3 ?c362 ?c363) ?nx364
    case c362 => simp
    case c363 => exact nfz0 _ _
    rintro v L' rfl
    refine G.nil ?_
    refine G.ptCast (b := b29) (l' := [vint u.base, vstr u.snap, sw, vint rc.1.Λ.acc, vint u.cur]) (by (repeat' constructor)) (by exact rfl) ?_
    refine G.then_n (G.region (G.mv rfl rfl (G.mv rfl rfl (G.gskip (t := 215) rfl rfl rfl rfl (G.gskip (t := 215) rfl rfl rfl rfl (G.gskip (t := 215) rfl rfl rfl rfl (G.q (Quiet.pickT rfl rfl) rfl (G.ag rfl rfl (G.nil (G.then_n (G.seq (G.region (G.mv rfl rfl (G.mv rfl rfl (G.gskip (t := 221) rfl rfl rfl rfl (G.gskip (t := 221) rfl rfl rfl rfl (G.gskipU (t := 223) rfl rfl rfl (G.gskipU (t := 223) rfl rfl rfl (G.gskipU (t := 223) rfl rfl rfl (G.gskip (t := 221) rfl rfl rfl rfl (G.q (Quiet.pickT rfl rfl) rfl (G.ag rfl rfl (G.nil (G.then_n (G.ret (G.blk_r (G.then_r (G.then_r (G.blk_r (G.then_r ?_))))))))))))))))))))))))))))))
    exact G.dn (l := [.tmp 8]) rfl rfl ⟨rfl, rfl⟩
   ·obtain ⟨L, hB, hE, h0, hk1, hk3⟩ := hcs
    unfold EqL at hE
    refine G.mv rfl rfl ?_
    refine G.q (Quiet.as (v' := .bool true) (by exact congrArg Value.bool (decide_eq_true h0)) (Quiet.int rfl rfl rfl)) rfl ?_
    refine G.mv rfl rfl (G.grun (t := 116) rfl rfl rfl (G.q (Quiet.fieldAddr rfl fo_73_0) rfl (G.grun (t := 116) rfl rfl rfl ?_)))
    refine G.q (Quiet.ld rfl ag_3) rfl ?_
    refine G.grun (t := 116) rfl rfl rfl ?_
    refine G.q (Quiet.as (v' := .bool true) (by exact congrArg (fun b => Value.bool (!b)) (decide_eq_false (by omega))) (Quiet.int rfl rfl rfl)) rfl ?_
    refine G.q (Quiet.pickT rfl rfl) rfl (G.mv rfl rfl (G.grun (t := 121) rfl rfl rfl (G.q (Quiet.fieldAddr rfl fo_73_0) rfl (G.grun (t := 121) rfl rfl rfl ?_))))
    refine G.q (Quiet.ld rfl ag_3) rfl ?_
    refine G.grun (t := 121) rfl rfl rfl ?_
    refine G.q (Quiet.as (v' := .bool true) (by exact congrArg (fun b => Value.bool (!b)) (decide_eq_false (by omega))) (Quiet.int rfl rfl rfl)) rfl ?_
    refine G.q (Quiet.pickT rfl rfl) rfl (G.ag rfl rfl (G.nil (G.then_n (G.seq (G.seq (G.region (G.mv rfl rfl ?_)))))))
    refine G.q (Quiet.as (v' := .bool false) (by exact congrArg (fun b => Value.bool (!b)) (decide_eq_true hr2)) (Quiet.int rfl rfl rfl)) rfl ?_
    refine G.nil (G.then_n (G.condF rfl (G.skip (G.then_n (G.seq (G.seq (G.region (G.mv rfl rfl ?_))))))))
    refine G.oq (OpSpec.call Tryz.func38 rfl rfl (vs := [_]) rfl (dead_spec d r.1.δ)) ?nx376
    rintro v L' ⟨rfl, rfl⟩; rw [hdd]
    refine G.q (Quiet.not rfl) rfl (G.mv rfl rfl (G.grun (t := 157) rfl rfl rfl (G.mv rfl rfl (G.grun (t := 157) rfl rfl rfl ?_))))
    refine G.oq (OpSpec.call Tryz.func28 rfl rfl (vs := [_]) rfl (lsyncD_spec g x d r.1.δ r.1.ω r.1.Λ hdb)) ?nx380
    rintro v L' ⟨rfl, rfl⟩
    refine G.grun (t := 157) rfl rfl rfl ?_
    refine G.q (Quiet.as (v' := .bool false) (by rfl) (Quiet.int rfl rfl rfl)) rfl ?_
    refine G.q (Quiet.pickF rfl rfl) rfl (G.mv rfl rfl (G.grun (t := 162) rfl rfl rfl (G.mv rfl rfl (G.grun (t := 162) rfl rfl rfl ?_))))
    refine G.oq (OpSpec.call Tryz.func39 rfl rfl (vs := [_, _]) rfl (lacceptD_spec g x d r.1.δ r.1.ω r.1.Λ hdb 1073741824)) ?nx384
    rintro v L' ⟨rfl, rfl⟩
    refine G.grun (t := 162) rfl rfl rfl ?_
    refine G.q (Quiet.as (v' := .bool false) (by rfl) (Quiet.int rfl rfl rfl)) rfl ?_
    refine G.q (Quiet.pickF rfl rfl) rfl (G.nil (G.then_n (G.condF rfl (G.skip (G.then_n (G.seq (G.region (G.mv rfl rfl (G.mv rfl rfl ?_)))))))))
    refine G.oq (OpSpec.call Tryz.func29 rfl rfl (vs := [_, _]) rfl (crash_spec d r.1.δ _ how p hhow hhows)) ?nx389
    rintro v L' ⟨rfl, rfl⟩
    refine G.nil (G.then_n (G.seq ?_))
    obtain ⟨ω2, o1, o2, o3, o4⟩ := hB.open_
    have hsz2 := o3.lv.well.size
    have hdd2 := o3.lv.dead
    refine G.dkOk (by (repeat' constructor)) fun hok2 => ?_
    obtain ⟨σ, hσ⟩ : ∃ σ, r.1.δ.crash how = σ := ⟨_, rfl⟩
    rw [hσ] at o1 o3 hok2 hsz2 hdd2 ⊢
    refine G.region (G.mv rfl rfl ?_)
    refine G.oq (OpSpec.call Tryz.func18 rfl rfl (vs := [_]) rfl (lopen_spec d σ hsz2 hok2 (fun ω9 h9 => by rw [o1] at h9; cases h9; exact o3.opened))) ?nx392
    rintro v L' (⟨h, -, -⟩ | ⟨-, h, -, -⟩ | ⟨-, ω9, h9, ⟨h, -, -⟩ | ⟨Λ9, mm, y, hl9, rfl, rfl⟩⟩); · rw [hdd2] at h; cases h
    · rw [o1] at h; cases h
    · rw [o1] at h9; cases h9; rw [o2] at h; cases h
    rw [o1] at h9; cases h9; rw [o2] at hl9; cases hl9
    refine G.mv rfl rfl (G.q (Quiet.extract rfl rfl) rfl (G.q (Quiet.extract rfl rfl) rfl (G.ag rfl rfl (G.ag rfl rfl (G.nil (G.then_n (G.seq (G.seq ?_))))))))
    have hWL : LgW L := o3.lw.w
    refine G.region (G.mv rfl rfl (G.q (Quiet.ptreq rfl rfl Tryz.underlying28) rfl (G.mv rfl rfl (G.grun (t := 177) rfl rfl rfl (G.mv rfl rfl (G.grun (t := 177) rfl rfl rfl ?_))))))
    refine G.q (Quiet.as (v' := .bool false) (by rfl) (Quiet.int rfl rfl rfl)) rfl ?_
    refine G.q (Quiet.pickF rfl rfl) rfl (G.nil (G.then_n (G.condF rfl (G.skip (G.then_n (G.seq (G.region (G.mv rfl rfl ?_))))))))
    refine G.oq (OpSpec.call Tryz.func35 rfl rfl (vs := [_]) rfl (told9_spec mm y L hWL)) ?nx398
    rintro v L' ⟨st, rfl, rfl⟩
    refine G.oq (OpSpec.allocA ze_82) ?nx400
    rintro v L' ⟨b26, rfl, rfl⟩
    refine G.toldOpen (sl := st) (by (repeat' constructor)) fun x3 y3 e3 hs3 hm3 hn3 hk3 => ?_
    subst hs3
    refine G.oq (OpSpec.storeA rfl rfl ?c402 sz_82 ?c405 ?c403 ?c404) ?nx406
    case c402 => simp [isCell]
    case c405 => rfl
    case c403 => simp
    case c404 => exact nfz0 _ _
    rintro v L' rfl
    refine G.nil ?_
    refine G.toldFold (a := x3) (c := y3) (m := e3.length) (es := e3) (.slice x3 e3.length y3) L.ents (by (repeat' constructor)) rfl rfl rfl hm3 hn3 hk3 ?_
    obtain ⟨st, hsw3⟩ : ∃ sw, Value.slice x3 e3.length y3 = sw := ⟨_, rfl⟩
    rw [hsw3]
    have hcl3 : isCell st = true := by rw [← hsw3]; rfl
    refine G.ptCast (b := b26) (l' := [vint L.base, vstr L.snap, st, vint L.acc, vint L.cur]) (by (repeat' constructor)) (by rw [← hsw3]; exact rfl) ?_
    refine G.then_n (G.seq (G.region ?_))
    refine G.q (Quiet.loadAs (vs := [vint L.base, vstr L.snap, st, vint L.acc, vint L.cur]) rfl ag_82 (by (repeat' constructor)) (by simp) rfl) rfl ?_
    refine G.q (Quiet.loadAs (vs := [vint u.base, vstr u.snap, sw, vint u.acc, vint u.cur]) rfl ag_82 (by (repeat' constructor)) (by simp) rfl) rfl ?_
    refine G.oq (OpSpec.call Tryz.func37 rfl rfl (vs := [_, _]) rfl (equal9_spec L.base L.cur L.acc u.base u.cur u.acc L.snap u.snap st sw L.ents u.ents)) ?nx409
    rintro v L' ⟨rfl, rfl⟩; rw [decide_eq_true hE]
    refine G.ag rfl rfl (G.nil (G.then_n (G.seq (G.seq (G.region (G.q (Quiet.fieldAddr rfl fo_73_0) rfl ?_))))))
    refine G.q (Quiet.ld rfl ag_3) rfl ?_
    refine G.q (Quiet.int rfl rfl rfl) rfl (G.mv rfl rfl ?_)
    refine G.dec (t := 189) rfl (fun h36_189 => ?_) (fun h36_189 => ?_)
    ·refine G.kDT (t := 188) rfl h36_189 (G.grun (t := 189) rfl rfl rfl (G.mv rfl rfl (G.grun (t := 189) rfl rfl rfl ?_)))
     refine G.q (Quiet.as (v' := .bool true) (by exact congrArg Value.bool (decide_eq_true h0)) (Quiet.int rfl rfl rfl)) rfl ?_
     refine G.q (Quiet.pickT rfl rfl) rfl (G.nil (G.then_n (G.condT rfl (G.seq (G.region ?_)))))
     refine G.q (Quiet.loadAs (vs := [vint rc.1.Λ.base, vstr rc.1.Λ.snap, sn, vint rc.1.Λ.acc, vint rc.1.Λ.cur]) rfl ag_82 (by (repeat' constructor)) (by simp) rfl) rfl ?_
     refine G.oq (OpSpec.allocA ze_82) ?nx416
     rintro v L' ⟨b28, rfl, rfl⟩
     refine G.oq (OpSpec.storeA rfl rfl ?c418 sz_82 ?c421 ?c419 ?c420) ?nx422
     case c418 => exact wc_cells hcl2
     case c421 => rfl
     case c419 => simp
     case c420 => exact nfz0 _ _
     rintro v L' rfl
     refine G.nil ?_
     refine G.ptCast (b := b28) (l' := [vint rc.1.Λ.base, vstr rc.1.Λ.snap, sn, vint rc.1.Λ.acc, vint rc.1.Λ.cur]) (by (repeat' constructor)) (by exact rfl) ?_
     refine G.then_n (G.seq (G.region (G.q (Quiet.fieldAddr rfl fo_82_4) rfl ?_)))
     refine G.q (Quiet.ld rfl ag_3) rfl ?_
     refine G.q (Quiet.fieldAddr rfl fo_82_4) rfl ?_
     refine G.oq (OpSpec.store rfl rfl rfl sz_3 ?c426 ?c427) ?nx428
     case c426 => simp
     case c427 => exact nfz0 _ _
     rintro v L' rfl
     refine G.nil ?_
     refine G.ptCast (b := b28) (l' := [vint rc.1.Λ.base, vstr rc.1.Λ.snap, sn, vint rc.1.Λ.acc, vint u.cur]) (by (repeat' constructor)) (by exact rfl) ?_
     refine G.then_n (G.region (G.mv rfl rfl (G.mv rfl rfl (G.gskip (t := 198) rfl rfl rfl rfl (G.gskip (t := 198) rfl rfl rfl rfl (G.gskip (t := 198) rfl rfl rfl rfl (G.q (Quiet.pickT rfl rfl) rfl (G.ag rfl rfl (G.nil (G.then_n (G.seq (G.seq (G.region (G.q (Quiet.fieldAddr rfl fo_73_0) rfl ?_))))))))))))))
     refine G.q (Quiet.ld rfl ag_3) rfl ?_
     refine G.q (Quiet.as (v' := .bool false) (by exact congrArg Value.bool (decide_eq_false (by omega))) (Quiet.int rfl rfl rfl)) rfl ?_
     refine G.mv rfl rfl (G.gskip (t := 206) rfl rfl rfl rfl (G.gskip (t := 206) rfl rfl rfl rfl (G.q (Quiet.pickF rfl rfl) rfl (G.nil (G.then_n (G.condF rfl (G.skip (G.then_n (G.seq (G.region (G.mv rfl rfl (G.mv rfl rfl (G.gskip (t := 221) rfl rfl rfl rfl (G.gskip (t := 221) rfl rfl rfl rfl (G.gskipU (t := 223) rfl rfl rfl (G.gskipU (t := 223) rfl rfl rfl (G.gskipU (t := 223) rfl rfl rfl (G.gskip (t := 221) rfl rfl rfl rfl (G.q (Quiet.pickT rfl rfl) rfl (G.ag rfl rfl (G.nil (G.then_n (G.ret (G.blk_r (G.then_r (G.then_r (G.blk_r (G.then_r ?_))))))))))))))))))))))))))))
     exact G.dn (l := [.tmp 8]) rfl rfl ⟨rfl, rfl⟩
    ·refine G.kDF (t := 188) rfl h36_189 (G.gskip (t := 189) rfl rfl rfl rfl (G.gskip (t := 189) rfl rfl rfl rfl (G.q (Quiet.pickF rfl rfl) rfl (G.nil (G.then_n (G.condF rfl (G.skip (G.then_n (G.seq (G.seq (G.region (G.q (Quiet.fieldAddr rfl fo_73_0) rfl ?_))))))))))))
     refine G.q (Quiet.ld rfl ag_3) rfl ?_
     refine G.q (Quiet.as (v' := .bool false) (by exact congrArg Value.bool (decide_eq_false (by omega))) (Quiet.int rfl rfl rfl)) rfl ?_
     refine G.mv rfl rfl (G.gskip (t := 206) rfl rfl rfl rfl (G.gskip (t := 206) rfl rfl rfl rfl (G.q (Quiet.pickF rfl rfl) rfl (G.nil (G.then_n (G.condF rfl (G.skip (G.then_n (G.seq (G.region (G.mv rfl rfl (G.mv rfl rfl (G.gskip (t := 221) rfl rfl rfl rfl (G.gskip (t := 221) rfl rfl rfl rfl (G.gskipU (t := 223) rfl rfl rfl (G.gskipU (t := 223) rfl rfl rfl (G.gskipU (t := 223) rfl rfl rfl (G.gskip (t := 221) rfl rfl rfl rfl (G.q (Quiet.pickT rfl rfl) rfl (G.ag rfl rfl (G.nil (G.then_n (G.ret (G.blk_r (G.then_r (G.then_r (G.blk_r (G.then_r ?_))))))))))))))))))))))))))))
     exact G.dn (l := [.tmp 8]) rfl rfl ⟨rfl, rfl⟩
   ·obtain ⟨L, hB, hk, h0, hE⟩ := hcs
    unfold EqL at hE
    refine G.mv rfl rfl ?_
    refine G.q (Quiet.as (v' := .bool true) (by exact congrArg Value.bool (decide_eq_true h0)) (Quiet.int rfl rfl rfl)) rfl ?_
    refine G.mv rfl rfl (G.grun (t := 116) rfl rfl rfl (G.q (Quiet.fieldAddr rfl fo_73_0) rfl (G.grun (t := 116) rfl rfl rfl ?_)))
    refine G.q (Quiet.ld rfl ag_3) rfl ?_
    refine G.grun (t := 116) rfl rfl rfl ?_
    refine G.q (Quiet.as (v' := .bool true) (by exact congrArg (fun b => Value.bool (!b)) (decide_eq_false (by omega))) (Quiet.int rfl rfl rfl)) rfl ?_
    refine G.q (Quiet.pickT rfl rfl) rfl (G.mv rfl rfl (G.grun (t := 121) rfl rfl rfl (G.q (Quiet.fieldAddr rfl fo_73_0) rfl (G.grun (t := 121) rfl rfl rfl ?_))))
    refine G.q (Quiet.ld rfl ag_3) rfl ?_
    refine G.grun (t := 121) rfl rfl rfl ?_
    refine G.q (Quiet.as (v' := .bool true) (by exact congrArg (fun b => Value.bool (!b)) (decide_eq_false (by omega))) (Quiet.int rfl rfl rfl)) rfl ?_
    refine G.q (Quiet.pickT rfl rfl) rfl (G.ag rfl rfl (G.nil (G.then_n (G.seq (G.seq (G.region (G.mv rfl rfl ?_)))))))
    refine G.q (Quiet.as (v' := .bool false) (by exact congrArg (fun b => Value.bool (!b)) (decide_eq_true hr2)) (Quiet.int rfl rfl rfl)) rfl ?_
    refine G.nil (G.then_n (G.condF rfl (G.skip (G.then_n (G.seq (G.seq (G.region (G.mv rfl rfl ?_))))))))
    refine G.oq (OpSpec.call Tryz.func38 rfl rfl (vs := [_]) rfl (dead_spec d r.1.δ)) ?nx450
    rintro v L' ⟨rfl, rfl⟩; rw [hdd]
    refine G.q (Quiet.not rfl) rfl (G.mv rfl rfl (G.grun (t := 157) rfl rfl rfl (G.mv rfl rfl (G.grun (t := 157) rfl rfl rfl ?_))))
    refine G.oq (OpSpec.call Tryz.func28 rfl rfl (vs := [_]) rfl (lsyncD_spec g x d r.1.δ r.1.ω r.1.Λ hdb)) ?nx454
    rintro v L' ⟨rfl, rfl⟩
    refine G.grun (t := 157) rfl rfl rfl ?_
    refine G.q (Quiet.as (v' := .bool false) (by rfl) (Quiet.int rfl rfl rfl)) rfl ?_
    refine G.q (Quiet.pickF rfl rfl) rfl (G.mv rfl rfl (G.grun (t := 162) rfl rfl rfl (G.mv rfl rfl (G.grun (t := 162) rfl rfl rfl ?_))))
    refine G.oq (OpSpec.call Tryz.func39 rfl rfl (vs := [_, _]) rfl (lacceptD_spec g x d r.1.δ r.1.ω r.1.Λ hdb 1073741824)) ?nx458
    rintro v L' ⟨rfl, rfl⟩
    refine G.grun (t := 162) rfl rfl rfl ?_
    refine G.q (Quiet.as (v' := .bool false) (by rfl) (Quiet.int rfl rfl rfl)) rfl ?_
    refine G.q (Quiet.pickF rfl rfl) rfl (G.nil (G.then_n (G.condF rfl (G.skip (G.then_n (G.seq (G.region (G.mv rfl rfl (G.mv rfl rfl ?_)))))))))
    refine G.oq (OpSpec.call Tryz.func29 rfl rfl (vs := [_, _]) rfl (crash_spec d r.1.δ _ how p hhow hhows)) ?nx463
    rintro v L' ⟨rfl, rfl⟩
    refine G.nil (G.then_n (G.seq ?_))
    obtain ⟨ω2, o1, o2, o3, o4⟩ := hB.open_
    have hsz2 := o3.lv.well.size
    have hdd2 := o3.lv.dead
    refine G.dkOk (by (repeat' constructor)) fun hok2 => ?_
    obtain ⟨σ, hσ⟩ : ∃ σ, r.1.δ.crash how = σ := ⟨_, rfl⟩
    rw [hσ] at o1 o3 hok2 hsz2 hdd2 ⊢
    refine G.region (G.mv rfl rfl ?_)
    refine G.oq (OpSpec.call Tryz.func18 rfl rfl (vs := [_]) rfl (lopen_spec d σ hsz2 hok2 (fun ω9 h9 => by rw [o1] at h9; cases h9; exact o3.opened))) ?nx466
    rintro v L' (⟨h, -, -⟩ | ⟨-, h, -, -⟩ | ⟨-, ω9, h9, ⟨h, -, -⟩ | ⟨Λ9, mm, y, hl9, rfl, rfl⟩⟩); · rw [hdd2] at h; cases h
    · rw [o1] at h; cases h
    · rw [o1] at h9; cases h9; rw [o2] at h; cases h
    rw [o1] at h9; cases h9; rw [o2] at hl9; cases hl9
    refine G.mv rfl rfl (G.q (Quiet.extract rfl rfl) rfl (G.q (Quiet.extract rfl rfl) rfl (G.ag rfl rfl (G.ag rfl rfl (G.nil (G.then_n (G.seq (G.seq ?_))))))))
    have hWL : LgW L := o3.lw.w
    refine G.region (G.mv rfl rfl (G.q (Quiet.ptreq rfl rfl Tryz.underlying28) rfl (G.mv rfl rfl (G.grun (t := 177) rfl rfl rfl (G.mv rfl rfl (G.grun (t := 177) rfl rfl rfl ?_))))))
    refine G.q (Quiet.as (v' := .bool false) (by rfl) (Quiet.int rfl rfl rfl)) rfl ?_
    refine G.q (Quiet.pickF rfl rfl) rfl (G.nil (G.then_n (G.condF rfl (G.skip (G.then_n (G.seq (G.region (G.mv rfl rfl ?_))))))))
    refine G.oq (OpSpec.call Tryz.func35 rfl rfl (vs := [_]) rfl (told9_spec mm y L hWL)) ?nx472
    rintro v L' ⟨st, rfl, rfl⟩
    refine G.oq (OpSpec.allocA ze_82) ?nx474
    rintro v L' ⟨b26, rfl, rfl⟩
    refine G.toldOpen (sl := st) (by (repeat' constructor)) fun x3 y3 e3 hs3 hm3 hn3 hk3 => ?_
    subst hs3
    refine G.oq (OpSpec.storeA rfl rfl ?c476 sz_82 ?c479 ?c477 ?c478) ?nx480
    case c476 => simp [isCell]
    case c479 => rfl
    case c477 => simp
    case c478 => exact nfz0 _ _
    rintro v L' rfl
    refine G.nil ?_
    refine G.toldFold (a := x3) (c := y3) (m := e3.length) (es := e3) (.slice x3 e3.length y3) L.ents (by (repeat' constructor)) rfl rfl rfl hm3 hn3 hk3 ?_
    obtain ⟨st, hsw3⟩ : ∃ sw, Value.slice x3 e3.length y3 = sw := ⟨_, rfl⟩
    rw [hsw3]
    have hcl3 : isCell st = true := by rw [← hsw3]; rfl
    refine G.ptCast (b := b26) (l' := [vint L.base, vstr L.snap, st, vint L.acc, vint L.cur]) (by (repeat' constructor)) (by rw [← hsw3]; exact rfl) ?_
    refine G.then_n (G.seq (G.region ?_))
    refine G.q (Quiet.loadAs (vs := [vint L.base, vstr L.snap, st, vint L.acc, vint L.cur]) rfl ag_82 (by (repeat' constructor)) (by simp) rfl) rfl ?_
    refine G.q (Quiet.loadAs (vs := [vint u.base, vstr u.snap, sw, vint u.acc, vint u.cur]) rfl ag_82 (by (repeat' constructor)) (by simp) rfl) rfl ?_
    refine G.oq (OpSpec.call Tryz.func37 rfl rfl (vs := [_, _]) rfl (equal9_spec L.base L.cur L.acc u.base u.cur u.acc L.snap u.snap st sw L.ents u.ents)) ?nx483
    rintro v L' ⟨rfl, rfl⟩
    refine G.ag rfl rfl (G.nil (G.then_n (G.seq (G.seq (G.region (G.q (Quiet.fieldAddr rfl fo_73_0) rfl ?_))))))
    refine G.q (Quiet.ld rfl ag_3) rfl ?_
    refine G.q (Quiet.as (v' := .bool true) (by exact congrArg Value.bool (decide_eq_true hk)) (Quiet.int rfl rfl rfl)) rfl ?_
    refine G.mv rfl rfl (G.grun (t := 189) rfl rfl rfl (G.mv rfl rfl (G.grun (t := 189) rfl rfl rfl ?_)))
    refine G.q (Quiet.as (v' := .bool true) (by exact congrArg Value.bool (decide_eq_true h0)) (Quiet.int rfl rfl rfl)) rfl ?_
    refine G.q (Quiet.pickT rfl rfl) rfl (G.nil (G.then_n (G.condT rfl (G.seq (G.region ?_)))))
    refine G.q (Quiet.loadAs (vs := [vint rc.1.Λ.base, vstr rc.1.Λ.snap, sn, vint rc.1.Λ.acc, vint rc.1.Λ.cur]) rfl ag_82 (by (repeat' constructor)) (by simp) rfl) rfl ?_
    refine G.oq (OpSpec.allocA ze_82) ?nx490
    rintro v L' ⟨b28, rfl, rfl⟩
    refine G.oq (OpSpec.storeA rfl rfl ?c492 sz_82 ?c495 ?c493 ?c494) ?nx496
    case c492 => exact wc_cells hcl2
    case c495 => rfl
    case c493 => simp
    case c494 => exact nfz0 _ _
    rintro v L' rfl
    refine G.nil ?_
    refine G.ptCast (b := b28) (l' := [vint rc.1.Λ.base, vstr rc.1.Λ.snap, sn, vint rc.1.Λ.acc, vint rc.1.Λ.cur]) (by (repeat' constructor)) (by exact rfl) ?_
    refine G.then_n (G.seq (G.region (G.q (Quiet.fieldAddr rfl fo_82_4) rfl ?_)))
    refine G.q (Quiet.ld rfl ag_3) rfl ?_
    refine G.q (Quiet.fieldAddr rfl fo_82_4) rfl ?_
    refine G.oq (OpSpec.store rfl rfl rfl sz_3 ?c500 ?c501) ?nx502
    case c500 => simp
    case c501 => exact nfz0 _ _
    rintro v L' rfl
    refine G.nil ?_
    refine G.ptCast (b := b28) (l' := [vint rc.1.Λ.base, vstr rc.1.Λ.snap, sn, vint rc.1.Λ.acc, vint u.cur]) (by (repeat' constructor)) (by exact rfl) ?_
    refine G.then_n (G.region (G.mv rfl rfl (G.mv rfl rfl ?_)))
    refine G.dec (t := 198) rfl (fun h39_198 => ?_) (fun h39_198 => ?_)
    ·refine G.kDT (t := 185) rfl h39_198 (G.kDT (t := 27) rfl h39_198 (G.kDT (t := 197) rfl h39_198 (G.gskip (t := 198) rfl rfl rfl rfl (G.gskip (t := 198) rfl rfl rfl rfl (G.gskip (t := 198) rfl rfl rfl rfl (G.q (Quiet.pickT rfl rfl) rfl (G.ag rfl rfl (G.nil (G.then_n (G.seq (G.seq (G.region (G.q (Quiet.fieldAddr rfl fo_73_0) rfl ?_)))))))))))))
     refine G.q (Quiet.ld rfl ag_3) rfl ?_
     refine G.q (Quiet.as (v' := .bool false) (by exact congrArg Value.bool (decide_eq_false (by omega))) (Quiet.int rfl rfl rfl)) rfl ?_
     refine G.mv rfl rfl (G.gskip (t := 206) rfl rfl rfl rfl (G.gskip (t := 206) rfl rfl rfl rfl (G.q (Quiet.pickF rfl rfl) rfl (G.nil (G.then_n (G.condF rfl (G.skip (G.then_n (G.seq (G.region (G.mv rfl rfl (G.mv rfl rfl (G.gskip (t := 221) rfl rfl rfl rfl (G.gskip (t := 221) rfl rfl rfl rfl (G.gskipU (t := 223) rfl rfl rfl (G.gskipU (t := 223) rfl rfl rfl (G.gskipU (t := 223) rfl rfl rfl (G.gskip (t := 221) rfl rfl rfl rfl (G.q (Quiet.pickT rfl rfl) rfl (G.ag rfl rfl (G.nil (G.then_n (G.ret (G.blk_r (G.then_r (G.then_r (G.blk_r (G.then_r ?_))))))))))))))))))))))))))))
     exact G.dn (l := [.tmp 8]) rfl rfl ⟨rfl, rfl⟩
    ·refine G.kDF (t := 185) rfl h39_198 (G.kDF (t := 27) rfl h39_198 (G.kDF (t := 197) rfl h39_198 (G.grun (t := 198) rfl rfl rfl ?_)))
     refine G.q (Quiet.loadAs (vs := [vint L.base, vstr L.snap, st, vint L.acc, vint L.cur]) rfl ag_82 (by (repeat' constructor)) (by simp) rfl) rfl ?_
     refine G.grun (t := 198) rfl rfl rfl ?_
     refine G.q (Quiet.loadAs (vs := [vint rc.1.Λ.base, vstr rc.1.Λ.snap, sn, vint rc.1.Λ.acc, vint u.cur]) rfl ag_82 (by (repeat' constructor)) (by simp) rfl) rfl ?_
     refine G.grun (t := 198) rfl rfl rfl ?_
     refine G.oq (OpSpec.call Tryz.func37 rfl rfl (vs := [_, _]) rfl (equal9_spec L.base L.cur L.acc rc.1.Λ.base u.cur rc.1.Λ.acc L.snap rc.1.Λ.snap st sn L.ents rc.1.Λ.ents)) ?nx511
     rintro v L' ⟨rfl, rfl⟩; rw [decide_eq_true hE]
     refine G.q (Quiet.pickF rfl rfl) rfl (G.ag rfl rfl (G.nil (G.then_n (G.seq (G.seq (G.region (G.q (Quiet.fieldAddr rfl fo_73_0) rfl ?_)))))))
     refine G.q (Quiet.ld rfl ag_3) rfl ?_
     refine G.q (Quiet.as (v' := .bool false) (by exact congrArg Value.bool (decide_eq_false (by omega))) (Quiet.int rfl rfl rfl)) rfl ?_
     refine G.mv rfl rfl (G.gskip (t := 206) rfl rfl rfl rfl (G.gskip (t := 206) rfl rfl rfl rfl (G.q (Quiet.pickF rfl rfl) rfl (G.nil (G.then_n (G.condF rfl (G.skip (G.then_n (G.seq (G.region (G.mv rfl rfl (G.mv rfl rfl (G.gskip (t := 221) rfl rfl rfl rfl (G.gskip (t := 221) rfl rfl rfl rfl (G.gskipU (t := 223) rfl rfl rfl (G.gskipU (t := 223) rfl rfl rfl (G.gskipU (t := 223) rfl rfl rfl (G.gskip (t := 221) rfl rfl rfl rfl (G.q (Quiet.pickT rfl rfl) rfl (G.ag rfl rfl (G.nil (G.then_n (G.ret (G.blk_r (G.then_r (G.then_r (G.blk_r (G.then_r ?_))))))))))))))))))))))))))))
     exact G.dn (l := [.tmp 8]) rfl rfl ⟨rfl, rfl⟩
   ·obtain ⟨L, hB, hk, h0, hE⟩ := hcs
    unfold EqL at hE
    refine G.mv rfl rfl ?_
    refine G.q (Quiet.as (v' := .bool true) (by exact congrArg Value.bool (decide_eq_true h0)) (Quiet.int rfl rfl rfl)) rfl ?_
    refine G.mv rfl rfl (G.grun (t := 116) rfl rfl rfl (G.q (Quiet.fieldAddr rfl fo_73_0) rfl (G.grun (t := 116) rfl rfl rfl ?_)))
    refine G.q (Quiet.ld rfl ag_3) rfl ?_
    refine G.grun (t := 116) rfl rfl rfl ?_
    refine G.q (Quiet.as (v' := .bool true) (by exact congrArg (fun b => Value.bool (!b)) (decide_eq_false (by omega))) (Quiet.int rfl rfl rfl)) rfl ?_
    refine G.q (Quiet.pickT rfl rfl) rfl (G.mv rfl rfl (G.grun (t := 121) rfl rfl rfl (G.q (Quiet.fieldAddr rfl fo_73_0) rfl (G.grun (t := 121) rfl rfl rfl ?_))))
    refine G.q (Quiet.ld rfl ag_3) rfl ?_
    refine G.grun (t := 121) rfl rfl rfl ?_
    refine G.q (Quiet.as (v' := .bool false) (by exact congrArg (fun b => Value.bool (!b)) (decide_eq_true hk)) (Quiet.int rfl rfl rfl)) rfl ?_
    refine G.q (Quiet.pickT rfl rfl) rfl (G.ag rfl rfl (G.nil (G.then_n (G.seq (G.seq (G.region (G.mv rfl rfl ?_)))))))
    refine G.q (Quiet.as (v' := .bool false) (by exact congrArg (fun b => Value.bool (!b)) (decide_eq_true hr2)) (Quiet.int rfl rfl rfl)) rfl ?_
    refine G.nil (G.then_n (G.condF rfl (G.skip (G.then_n (G.seq (G.seq (G.region (G.mv rfl rfl ?_))))))))
    refine G.oq (OpSpec.call Tryz.func38 rfl rfl (vs := [_]) rfl (dead_spec d r.1.δ)) ?nx527
    rintro v L' ⟨rfl, rfl⟩; rw [hdd]
    refine G.q (Quiet.not rfl) rfl (G.mv rfl rfl (G.grun (t := 157) rfl rfl rfl (G.mv rfl rfl (G.grun (t := 157) rfl rfl rfl ?_))))
    refine G.oq (OpSpec.call Tryz.func28 rfl rfl (vs := [_]) rfl (lsyncD_spec g x d r.1.δ r.1.ω r.1.Λ hdb)) ?nx531
    rintro v L' ⟨rfl, rfl⟩
    refine G.grun (t := 157) rfl rfl rfl ?_
    refine G.q (Quiet.as (v' := .bool false) (by rfl) (Quiet.int rfl rfl rfl)) rfl ?_
    refine G.q (Quiet.pickF rfl rfl) rfl (G.mv rfl rfl (G.grun (t := 162) rfl rfl rfl (G.mv rfl rfl (G.grun (t := 162) rfl rfl rfl ?_))))
    refine G.oq (OpSpec.call Tryz.func39 rfl rfl (vs := [_, _]) rfl (lacceptD_spec g x d r.1.δ r.1.ω r.1.Λ hdb 1073741824)) ?nx535
    rintro v L' ⟨rfl, rfl⟩
    refine G.grun (t := 162) rfl rfl rfl ?_
    refine G.q (Quiet.as (v' := .bool false) (by rfl) (Quiet.int rfl rfl rfl)) rfl ?_
    refine G.q (Quiet.pickF rfl rfl) rfl (G.nil (G.then_n (G.condF rfl (G.skip (G.then_n (G.seq (G.region (G.mv rfl rfl (G.mv rfl rfl ?_)))))))))
    refine G.oq (OpSpec.call Tryz.func29 rfl rfl (vs := [_, _]) rfl (crash_spec d r.1.δ _ how p hhow hhows)) ?nx540
    rintro v L' ⟨rfl, rfl⟩
    refine G.nil (G.then_n (G.seq ?_))
    obtain ⟨ω2, o1, o2, o3, o4⟩ := hB.open_
    have hsz2 := o3.lv.well.size
    have hdd2 := o3.lv.dead
    refine G.dkOk (by (repeat' constructor)) fun hok2 => ?_
    obtain ⟨σ, hσ⟩ : ∃ σ, r.1.δ.crash how = σ := ⟨_, rfl⟩
    rw [hσ] at o1 o3 hok2 hsz2 hdd2 ⊢
    refine G.region (G.mv rfl rfl ?_)
    refine G.oq (OpSpec.call Tryz.func18 rfl rfl (vs := [_]) rfl (lopen_spec d σ hsz2 hok2 (fun ω9 h9 => by rw [o1] at h9; cases h9; exact o3.opened))) ?nx543
    rintro v L' (⟨h, -, -⟩ | ⟨-, h, -, -⟩ | ⟨-, ω9, h9, ⟨h, -, -⟩ | ⟨Λ9, mm, y, hl9, rfl, rfl⟩⟩); · rw [hdd2] at h; cases h
    · rw [o1] at h; cases h
    · rw [o1] at h9; cases h9; rw [o2] at h; cases h
    rw [o1] at h9; cases h9; rw [o2] at hl9; cases hl9
    refine G.mv rfl rfl (G.q (Quiet.extract rfl rfl) rfl (G.q (Quiet.extract rfl rfl) rfl (G.ag rfl rfl (G.ag rfl rfl (G.nil (G.then_n (G.seq (G.seq ?_))))))))
    have hWL : LgW L := o3.lw.w
    refine G.region (G.mv rfl rfl (G.q (Quiet.ptreq rfl rfl Tryz.underlying28) rfl (G.mv rfl rfl (G.grun (t := 177) rfl rfl rfl (G.mv rfl rfl (G.grun (t := 177) rfl rfl rfl ?_))))))
    refine G.q (Quiet.as (v' := .bool false) (by rfl) (Quiet.int rfl rfl rfl)) rfl ?_
    refine G.q (Quiet.pickF rfl rfl) rfl (G.nil (G.then_n (G.condF rfl (G.skip (G.then_n (G.seq (G.region (G.mv rfl rfl ?_))))))))
    refine G.oq (OpSpec.call Tryz.func35 rfl rfl (vs := [_]) rfl (told9_spec mm y L hWL)) ?nx549
    rintro v L' ⟨st, rfl, rfl⟩
    refine G.oq (OpSpec.allocA ze_82) ?nx551
    rintro v L' ⟨b26, rfl, rfl⟩
    refine G.toldOpen (sl := st) (by (repeat' constructor)) fun x3 y3 e3 hs3 hm3 hn3 hk3 => ?_
    subst hs3
    refine G.oq (OpSpec.storeA rfl rfl ?c553 sz_82 ?c556 ?c554 ?c555) ?nx557
    case c553 => simp [isCell]
    case c556 => rfl
    case c554 => simp
    case c555 => exact nfz0 _ _
    rintro v L' rfl
    refine G.nil ?_
    refine G.toldFold (a := x3) (c := y3) (m := e3.length) (es := e3) (.slice x3 e3.length y3) L.ents (by (repeat' constructor)) rfl rfl rfl hm3 hn3 hk3 ?_
    obtain ⟨st, hsw3⟩ : ∃ sw, Value.slice x3 e3.length y3 = sw := ⟨_, rfl⟩
    rw [hsw3]
    have hcl3 : isCell st = true := by rw [← hsw3]; rfl
    refine G.ptCast (b := b26) (l' := [vint L.base, vstr L.snap, st, vint L.acc, vint L.cur]) (by (repeat' constructor)) (by rw [← hsw3]; exact rfl) ?_
    refine G.then_n (G.seq (G.region ?_))
    refine G.q (Quiet.loadAs (vs := [vint L.base, vstr L.snap, st, vint L.acc, vint L.cur]) rfl ag_82 (by (repeat' constructor)) (by simp) rfl) rfl ?_
    refine G.q (Quiet.loadAs (vs := [vint u.base, vstr u.snap, sw, vint u.acc, vint u.cur]) rfl ag_82 (by (repeat' constructor)) (by simp) rfl) rfl ?_
    refine G.oq (OpSpec.call Tryz.func37 rfl rfl (vs := [_, _]) rfl (equal9_spec L.base L.cur L.acc u.base u.cur u.acc L.snap u.snap st sw L.ents u.ents)) ?nx560
    rintro v L' ⟨rfl, rfl⟩
    refine G.ag rfl rfl (G.nil (G.then_n (G.seq (G.seq (G.region (G.q (Quiet.fieldAddr rfl fo_73_0) rfl ?_))))))
    refine G.q (Quiet.ld rfl ag_3) rfl ?_
    refine G.q (Quiet.as (v' := .bool false) (by exact congrArg Value.bool (decide_eq_false (by omega))) (Quiet.int rfl rfl rfl)) rfl ?_
    refine G.mv rfl rfl (G.gskip (t := 189) rfl rfl rfl rfl (G.gskip (t := 189) rfl rfl rfl rfl (G.q (Quiet.pickF rfl rfl) rfl (G.nil (G.then_n (G.condF rfl (G.skip (G.then_n (G.seq (G.seq (G.region (G.q (Quiet.fieldAddr rfl fo_73_0) rfl ?_))))))))))))
    refine G.q (Quiet.ld rfl ag_3) rfl ?_
    refine G.q (Quiet.as (v' := .bool true) (by exact congrArg Value.bool (decide_eq_true hk)) (Quiet.int rfl rfl rfl)) rfl ?_
    refine G.mv rfl rfl (G.grun (t := 206) rfl rfl rfl (G.mv rfl rfl (G.grun (t := 206) rfl rfl rfl ?_)))
    refine G.q (Quiet.as (v' := .bool true) (by exact congrArg Value.bool (decide_eq_true h0)) (Quiet.int rfl rfl rfl)) rfl ?_
    refine G.q (Quiet.pickT rfl rfl) rfl (G.nil (G.then_n (G.condT rfl (G.seq (G.region ?_)))))
    refine G.q (Quiet.loadAs (vs := [vint u.base, vstr u.snap, sw, vint u.acc, vint u.cur]) rfl ag_82 (by (repeat' constructor)) (by simp) rfl) rfl ?_
    refine G.oq (OpSpec.allocA ze_82) ?nx571
    rintro v L' ⟨b29, rfl, rfl⟩
    refine G.oq (OpSpec.storeA rfl rfl ?c573 sz_82 ?c576 ?c574 ?c575) ?nx577
    case c573 => exact wc_cells hsc
    case c576 => rfl
    case c574 => simp
    case c575 => exact nfz0 _ _
    rintro v L' rfl
    refine G.nil ?_
    refine G.ptCast (b := b29) (l' := [vint u.base, vstr u.snap, sw, vint u.acc, vint u.cur]) (by (repeat' constructor)) (by exact rfl) ?_
    refine G.then_n (G.seq (G.region (G.q (Quiet.fieldAddr rfl fo_82_3) rfl ?_)))
    refine G.q (Quiet.ld rfl ag_3) rfl ?_
    refine G.q (Quiet.fieldAddr rfl fo_82_3) rfl ?_
    refine G.oq (OpSpec.store rfl rfl rfl sz_3 ?c581 ?c582) ?nx583
    case c581 => simp
    case c582 => exact nfz0 _ _
    rintro v L' rfl
    refine G.nil ?_
    refine G.ptCast (b := b29) (l' := [vint u.base, vstr u.snap, sw, vint rc.1.Λ.acc, vint u.cur]) (by (repeat' constructor)) (by exact rfl) ?_
    refine G.then_n (G.region (G.mv rfl rfl (G.mv rfl rfl ?_)))
    refine G.dec (t := 215) rfl (fun h43_215 => ?_) (fun h43_215 => ?_)
    ·refine G.kDT (t := 185) rfl h43_215 (G.kDT (t := 27) rfl h43_215 (G.kDT (t := 214) rfl h43_215 (G.gskip (t := 215) rfl rfl rfl rfl (G.gskip (t := 215) rfl rfl rfl rfl (G.gskip (t := 215) rfl rfl rfl rfl (G.q (Quiet.pickT rfl rfl) rfl (G.ag rfl rfl (G.nil (G.then_n (G.seq (G.region (G.mv rfl rfl (G.mv rfl rfl (G.gskip (t := 221) rfl rfl rfl rfl (G.gskip (t := 221) rfl rfl rfl rfl (G.gskipU (t := 223) rfl rfl rfl (G.gskipU (t := 223) rfl rfl rfl (G.gskipU (t := 223) rfl rfl rfl (G.gskip (t := 221) rfl rfl rfl rfl (G.q (Quiet.pickT rfl rfl) rfl (G.ag rfl rfl (G.nil (G.then_n (G.ret (G.blk_r (G.then_r (G.then_r (G.blk_r (G.then_r ?_)))))))))))))))))))))))))))))
     exact G.dn (l := [.tmp 8]) rfl rfl ⟨rfl, rfl⟩
    ·refine G.kDF (t := 185) rfl h43_215 (G.kDF (t := 27) rfl h43_215 (G.kDF (t := 214) rfl h43_215 (G.grun (t := 215) rfl rfl rfl ?_)))
     refine G.q (Quiet.loadAs (vs := [vint L.base, vstr L.snap, st, vint L.acc, vint L.cur]) rfl ag_82 (by (repeat' constructor)) (by simp) rfl) rfl ?_
     refine G.grun (t := 215) rfl rfl rfl ?_
     refine G.q (Quiet.loadAs (vs := [vint u.base, vstr u.snap, sw, vint rc.1.Λ.acc, vint u.cur]) rfl ag_82 (by (repeat' constructor)) (by simp) rfl) rfl ?_
     refine G.grun (t := 215) rfl rfl rfl ?_
     refine G.oq (OpSpec.call Tryz.func37 rfl rfl (vs := [_, _]) rfl (equal9_spec L.base L.cur L.acc u.base u.cur rc.1.Λ.acc L.snap u.snap st sw L.ents u.ents)) ?nx588
     rintro v L' ⟨rfl, rfl⟩; rw [decide_eq_true hE]
     refine G.q (Quiet.pickF rfl rfl) rfl (G.ag rfl rfl (G.nil (G.then_n (G.seq (G.region (G.mv rfl rfl (G.mv rfl rfl (G.gskip (t := 221) rfl rfl rfl rfl (G.gskip (t := 221) rfl rfl rfl rfl (G.gskipU (t := 223) rfl rfl rfl (G.gskipU (t := 223) rfl rfl rfl (G.gskipU (t := 223) rfl rfl rfl (G.gskip (t := 221) rfl rfl rfl rfl (G.q (Quiet.pickT rfl rfl) rfl (G.ag rfl rfl (G.nil (G.then_n (G.ret (G.blk_r (G.then_r (G.then_r (G.blk_r (G.then_r ?_)))))))))))))))))))))))
     exact G.dn (l := [.tmp 8]) rfl rfl ⟨rfl, rfl⟩
   ·obtain ⟨L, hB, h0, hk1, hk3, hE⟩ := hcs
    unfold EqL at hE
    refine G.mv rfl rfl ?_
    refine G.q (Quiet.as (v' := .bool true) (by exact congrArg Value.bool (decide_eq_true h0)) (Quiet.int rfl rfl rfl)) rfl ?_
    refine G.mv rfl rfl (G.grun (t := 116) rfl rfl rfl (G.q (Quiet.fieldAddr rfl fo_73_0) rfl (G.grun (t := 116) rfl rfl rfl ?_)))
    refine G.q (Quiet.ld rfl ag_3) rfl ?_
    refine G.grun (t := 116) rfl rfl rfl ?_
    refine G.q (Quiet.as (v' := .bool true) (by exact congrArg (fun b => Value.bool (!b)) (decide_eq_false (by omega))) (Quiet.int rfl rfl rfl)) rfl ?_
    refine G.q (Quiet.pickT rfl rfl) rfl (G.mv rfl rfl (G.grun (t := 121) rfl rfl rfl (G.q (Quiet.fieldAddr rfl fo_73_0) rfl (G.grun (t := 121) rfl rfl rfl ?_))))
    refine G.q (Quiet.ld rfl ag_3) rfl ?_
    refine G.grun (t := 121) rfl rfl rfl ?_
    refine G.q (Quiet.as (v' := .bool true) (by exact congrArg (fun b => Value.bool (!b)) (decide_eq_false (by omega))) (Quiet.int rfl rfl rfl)) rfl ?_
    refine G.q (Quiet.pickT rfl rfl) rfl (G.ag rfl rfl (G.nil (G.then_n (G.seq (G.seq (G.region (G.mv rfl rfl ?_)))))))
    refine G.q (Quiet.as (v' := .bool false) (by exact congrArg (fun b => Value.bool (!b)) (decide_eq_true hr2)) (Quiet.int rfl rfl rfl)) rfl ?_
    refine G.nil (G.then_n (G.condF rfl (G.skip (G.then_n (G.seq (G.seq (G.region (G.mv rfl rfl ?_))))))))
    refine G.oq (OpSpec.call Tryz.func38 rfl rfl (vs := [_]) rfl (dead_spec d r.1.δ)) ?nx600
    rintro v L' ⟨rfl, rfl⟩; rw [hdd]
    refine G.q (Quiet.not rfl) rfl (G.mv rfl rfl (G.grun (t := 157) rfl rfl rfl (G.mv rfl rfl (G.grun (t := 157) rfl rfl rfl ?_))))
    refine G.oq (OpSpec.call Tryz.func28 rfl rfl (vs := [_]) rfl (lsyncD_spec g x d r.1.δ r.1.ω r.1.Λ hdb)) ?nx604
    rintro v L' ⟨rfl, rfl⟩
    refine G.grun (t := 157) rfl rfl rfl ?_
    refine G.q (Quiet.as (v' := .bool false) (by rfl) (Quiet.int rfl rfl rfl)) rfl ?_
    refine G.q (Quiet.pickF rfl rfl) rfl (G.mv rfl rfl (G.grun (t := 162) rfl rfl rfl (G.mv rfl rfl (G.grun (t := 162) rfl rfl rfl ?_))))
    refine G.oq (OpSpec.call Tryz.func39 rfl rfl (vs := [_, _]) rfl (lacceptD_spec g x d r.1.δ r.1.ω r.1.Λ hdb 1073741824)) ?nx608
    rintro v L' ⟨rfl, rfl⟩
    refine G.grun (t := 162) rfl rfl rfl ?_
    refine G.q (Quiet.as (v' := .bool false) (by rfl) (Quiet.int rfl rfl rfl)) rfl ?_
    refine G.q (Quiet.pickF rfl rfl) rfl (G.nil (G.then_n (G.condF rfl (G.skip (G.then_n (G.seq (G.region (G.mv rfl rfl (G.mv rfl rfl ?_)))))))))
    refine G.oq (OpSpec.call Tryz.func29 rfl rfl (vs := [_, _]) rfl (crash_spec d r.1.δ _ how p hhow hhows)) ?nx613
    rintro v L' ⟨rfl, rfl⟩
    refine G.nil (G.then_n (G.seq ?_))
    obtain ⟨ω2, o1, o2, o3, o4⟩ := hB.open_
    have hsz2 := o3.lv.well.size
    have hdd2 := o3.lv.dead
    refine G.dkOk (by (repeat' constructor)) fun hok2 => ?_
    obtain ⟨σ, hσ⟩ : ∃ σ, r.1.δ.crash how = σ := ⟨_, rfl⟩
    rw [hσ] at o1 o3 hok2 hsz2 hdd2 ⊢
    refine G.region (G.mv rfl rfl ?_)
    refine G.oq (OpSpec.call Tryz.func18 rfl rfl (vs := [_]) rfl (lopen_spec d σ hsz2 hok2 (fun ω9 h9 => by rw [o1] at h9; cases h9; exact o3.opened))) ?nx616
    rintro v L' (⟨h, -, -⟩ | ⟨-, h, -, -⟩ | ⟨-, ω9, h9, ⟨h, -, -⟩ | ⟨Λ9, mm, y, hl9, rfl, rfl⟩⟩); · rw [hdd2] at h; cases h
    · rw [o1] at h; cases h
    · rw [o1] at h9; cases h9; rw [o2] at h; cases h
    rw [o1] at h9; cases h9; rw [o2] at hl9; cases hl9
    refine G.mv rfl rfl (G.q (Quiet.extract rfl rfl) rfl (G.q (Quiet.extract rfl rfl) rfl (G.ag rfl rfl (G.ag rfl rfl (G.nil (G.then_n (G.seq (G.seq ?_))))))))
    have hWL : LgW L := o3.lw.w
    refine G.region (G.mv rfl rfl (G.q (Quiet.ptreq rfl rfl Tryz.underlying28) rfl (G.mv rfl rfl (G.grun (t := 177) rfl rfl rfl (G.mv rfl rfl (G.grun (t := 177) rfl rfl rfl ?_))))))
    refine G.q (Quiet.as (v' := .bool false) (by rfl) (Quiet.int rfl rfl rfl)) rfl ?_
    refine G.q (Quiet.pickF rfl rfl) rfl (G.nil (G.then_n (G.condF rfl (G.skip (G.then_n (G.seq (G.region (G.mv rfl rfl ?_))))))))
    refine G.oq (OpSpec.call Tryz.func35 rfl rfl (vs := [_]) rfl (told9_spec mm y L hWL)) ?nx622
    rintro v L' ⟨st, rfl, rfl⟩
    refine G.oq (OpSpec.allocA ze_82) ?nx624
    rintro v L' ⟨b26, rfl, rfl⟩
    refine G.toldOpen (sl := st) (by (repeat' constructor)) fun x3 y3 e3 hs3 hm3 hn3 hk3 => ?_
    subst hs3
    refine G.oq (OpSpec.storeA rfl rfl ?c626 sz_82 ?c629 ?c627 ?c628) ?nx630
    case c626 => simp [isCell]
    case c629 => rfl
    case c627 => simp
    case c628 => exact nfz0 _ _
    rintro v L' rfl
    refine G.nil ?_
    refine G.toldFold (a := x3) (c := y3) (m := e3.length) (es := e3) (.slice x3 e3.length y3) L.ents (by (repeat' constructor)) rfl rfl rfl hm3 hn3 hk3 ?_
    obtain ⟨st, hsw3⟩ : ∃ sw, Value.slice x3 e3.length y3 = sw := ⟨_, rfl⟩
    rw [hsw3]
    have hcl3 : isCell st = true := by rw [← hsw3]; rfl
    refine G.ptCast (b := b26) (l' := [vint L.base, vstr L.snap, st, vint L.acc, vint L.cur]) (by (repeat' constructor)) (by rw [← hsw3]; exact rfl) ?_
    refine G.then_n (G.seq (G.region ?_))
    refine G.q (Quiet.loadAs (vs := [vint L.base, vstr L.snap, st, vint L.acc, vint L.cur]) rfl ag_82 (by (repeat' constructor)) (by simp) rfl) rfl ?_
    refine G.q (Quiet.loadAs (vs := [vint u.base, vstr u.snap, sw, vint u.acc, vint u.cur]) rfl ag_82 (by (repeat' constructor)) (by simp) rfl) rfl ?_
    refine G.oq (OpSpec.call Tryz.func37 rfl rfl (vs := [_, _]) rfl (equal9_spec L.base L.cur L.acc u.base u.cur u.acc L.snap u.snap st sw L.ents u.ents)) ?nx633
    rintro v L' ⟨rfl, rfl⟩
    refine G.ag rfl rfl (G.nil (G.then_n (G.seq (G.seq (G.region (G.q (Quiet.fieldAddr rfl fo_73_0) rfl ?_))))))
    refine G.q (Quiet.ld rfl ag_3) rfl ?_
    refine G.q (Quiet.int rfl rfl rfl) rfl (G.mv rfl rfl ?_)
    refine G.dec (t := 189) rfl (fun h36_189 => ?_) (fun h36_189 => ?_)
    ·refine G.kDT (t := 188) rfl h36_189 (G.grun (t := 189) rfl rfl rfl (G.mv rfl rfl (G.grun (t := 189) rfl rfl rfl ?_)))
     refine G.q (Quiet.as (v' := .bool true) (by exact congrArg Value.bool (decide_eq_true h0)) (Quiet.int rfl rfl rfl)) rfl ?_
     refine G.q (Quiet.pickT rfl rfl) rfl (G.nil (G.then_n (G.condT rfl (G.seq (G.region ?_)))))
     refine G.q (Quiet.loadAs (vs := [vint rc.1.Λ.base, vstr rc.1.Λ.snap, sn, vint rc.1.Λ.acc, vint rc.1.Λ.cur]) rfl ag_82 (by (repeat' constructor)) (by simp) rfl) rfl ?_
     refine G.oq (OpSpec.allocA ze_82) ?nx640
     rintro v L' ⟨b28, rfl, rfl⟩
     refine G.oq (OpSpec.storeA rfl rfl ?c642 sz_82 ?c645 ?c643 ?c644) ?nx646
     case c642 => exact wc_cells hcl2
     case c645 => rfl
     case c643 => simp
     case c644 => exact nfz0 _ _
     rintro v L' rfl
     refine G.nil ?_
     refine G.ptCast (b := b28) (l' := [vint rc.1.Λ.base, vstr rc.1.Λ.snap, sn, vint rc.1.Λ.acc, vint rc.1.Λ.cur]) (by (repeat' constructor)) (by exact rfl) ?_
     refine G.then_n (G.seq (G.region (G.q (Quiet.fieldAddr rfl fo_82_4) rfl ?_)))
     refine G.q (Quiet.ld rfl ag_3) rfl ?_
     refine G.q (Quiet.fieldAddr rfl fo_82_4) rfl ?_
     refine G.oq (OpSpec.store rfl rfl rfl sz_3 ?c650 ?c651) ?nx652
     case c650 => simp
     case c651 => exact nfz0 _ _
     rintro v L' rfl
     refine G.nil ?_
     refine G.ptCast (b := b28) (l' := [vint rc.1.Λ.base, vstr rc.1.Λ.snap, sn, vint rc.1.Λ.acc, vint u.cur]) (by (repeat' constructor)) (by exact rfl) ?_
     refine G.then_n (G.region (G.mv rfl rfl (G.mv rfl rfl ?_)))
     refine G.dec (t := 198) rfl (fun h39_198 => ?_) (fun h39_198 => ?_)
     ·refine G.kDT (t := 185) rfl h39_198 (G.kDT (t := 27) rfl h39_198 (G.kDT (t := 197) rfl h39_198 (G.gskip (t := 198) rfl rfl rfl rfl (G.gskip (t := 198) rfl rfl rfl rfl (G.gskip (t := 198) rfl rfl rfl rfl (G.q (Quiet.pickT rfl rfl) rfl (G.ag rfl rfl (G.nil (G.then_n (G.seq (G.seq (G.region (G.q (Quiet.fieldAddr rfl fo_73_0) rfl ?_)))))))))))))
      refine G.q (Quiet.ld rfl ag_3) rfl ?_
      refine G.q (Quiet.as (v' := .bool false) (by exact congrArg Value.bool (decide_eq_false (by omega))) (Quiet.int rfl rfl rfl)) rfl ?_
      refine G.mv rfl rfl (G.gskip (t := 206) rfl rfl rfl rfl (G.gskip (t := 206) rfl rfl rfl rfl (G.q (Quiet.pickF rfl rfl) rfl (G.nil (G.then_n (G.condF rfl (G.skip (G.then_n (G.seq (G.region (G.mv rfl rfl (G.mv rfl rfl (G.gskip (t := 221) rfl rfl rfl rfl (G.gskip (t := 221) rfl rfl rfl rfl (G.gskipU (t := 223) rfl rfl rfl (G.gskipU (t := 223) rfl rfl rfl (G.gskipU (t := 223) rfl rfl rfl (G.gskip (t := 221) rfl rfl rfl rfl (G.q (Quiet.pickT rfl rfl) rfl (G.ag rfl rfl (G.nil (G.then_n (G.ret (G.blk_r (G.then_r (G.then_r (G.blk_r (G.then_r ?_))))))))))))))))))))))))))))
      exact G.dn (l := [.tmp 8]) rfl rfl ⟨rfl, rfl⟩
     ·refine G.kDF (t := 185) rfl h39_198 (G.kDF (t := 27) rfl h39_198 (G.kDF (t := 197) rfl h39_198 (G.grun (t := 198) rfl rfl rfl ?_)))
      refine G.q (Quiet.loadAs (vs := [vint L.base, vstr L.snap, st, vint L.acc, vint L.cur]) rfl ag_82 (by (repeat' constructor)) (by simp) rfl) rfl ?_
      refine G.grun (t := 198) rfl rfl rfl ?_
      refine G.q (Quiet.loadAs (vs := [vint rc.1.Λ.base, vstr rc.1.Λ.snap, sn, vint rc.1.Λ.acc, vint u.cur]) rfl ag_82 (by (repeat' constructor)) (by simp) rfl) rfl ?_
      refine G.grun (t := 198) rfl rfl rfl ?_
      refine G.oq (OpSpec.call Tryz.func37 rfl rfl (vs := [_, _]) rfl (equal9_spec L.base L.cur L.acc rc.1.Λ.base u.cur rc.1.Λ.acc L.snap rc.1.Λ.snap st sn L.ents rc.1.Λ.ents)) ?nx661
      rintro v L' ⟨rfl, rfl⟩
      refine G.q (Quiet.pickF rfl rfl) rfl (G.ag rfl rfl (G.nil (G.then_n (G.seq (G.seq (G.region (G.q (Quiet.fieldAddr rfl fo_73_0) rfl ?_)))))))
      refine G.q (Quiet.ld rfl ag_3) rfl ?_
      refine G.q (Quiet.as (v' := .bool false) (by exact congrArg Value.bool (decide_eq_false (by omega))) (Quiet.int rfl rfl rfl)) rfl ?_
      refine G.mv rfl rfl (G.gskip (t := 206) rfl rfl rfl rfl (G.gskip (t := 206) rfl rfl rfl rfl (G.q (Quiet.pickF rfl rfl) rfl (G.nil (G.then_n (G.condF rfl (G.skip (G.then_n (G.seq (G.region (G.mv rfl rfl (G.mv rfl rfl ?_))))))))))))
      refine G.dec (t := 221) rfl (fun h44_221 => ?_) (fun h44_221 => ?_)
      ·refine G.kDT (t := 27) rfl h44_221 (G.kDT (t := 201) rfl h44_221 (G.kDT (t := 202) rfl h44_221 (G.kDT (t := 220) rfl h44_221 (G.gskip (t := 221) rfl rfl rfl rfl (G.gskip (t := 221) rfl rfl rfl rfl (G.gskipU (t := 223) rfl rfl rfl (G.gskipU (t := 223) rfl rfl rfl (G.gskipU (t := 223) rfl rfl rfl (G.gskip (t := 221) rfl rfl rfl rfl (G.q (Quiet.pickT rfl rfl) rfl (G.ag rfl rfl (G.nil (G.then_n (G.ret (G.blk_r (G.then_r (G.then_r (G.blk_r (G.then_r ?_)))))))))))))))))))
       exact G.dn (l := [.tmp 8]) rfl rfl ⟨rfl, rfl⟩
      ·refine G.kDF (t := 27) rfl h44_221 (G.kDF (t := 201) rfl h44_221 (G.kDF (t := 202) rfl h44_221 (G.kDF (t := 220) rfl h44_221 (G.grun (t := 221) rfl rfl rfl (G.mv rfl rfl (G.grun (t := 221) rfl rfl rfl (G.mv rfl rfl (G.grun (t := 223) rfl rfl rfl ?_))))))))
       refine G.q (Quiet.loadAs (vs := [vint L.base, vstr L.snap, st, vint L.acc, vint L.cur]) rfl ag_82 (by (repeat' constructor)) (by simp) rfl) rfl ?_
       refine G.grun (t := 223) rfl rfl rfl ?_
       refine G.q (Quiet.loadAs (vs := [vint rc.1.Λ.base, vstr rc.1.Λ.snap, sn, vint rc.1.Λ.acc, vint rc.1.Λ.cur]) rfl ag_82 (by (repeat' constructor)) (by simp) rfl) rfl ?_
       refine G.grun (t := 223) rfl rfl rfl ?_
       refine G.oq (OpSpec.call Tryz.func37 rfl rfl (vs := [_, _]) rfl (equal9_spec L.base L.cur L.acc rc.1.Λ.base rc.1.Λ.cur rc.1.Λ.acc L.snap rc.1.Λ.snap st sn L.ents rc.1.Λ.ents)) ?nx670
       rintro v L' ⟨rfl, rfl⟩; rw [decide_eq_true hE]
       refine G.grun (t := 221) rfl rfl rfl (G.q (Quiet.pickT rfl rfl) rfl (G.q (Quiet.pickF rfl rfl) rfl (G.ag rfl rfl (G.nil (G.then_n (G.ret (G.blk_r (G.then_r (G.then_r (G.blk_r (G.then_r ?_)))))))))))
       exact G.dn (l := [.tmp 8]) rfl rfl ⟨rfl, rfl⟩
    ·refine G.kDF (t := 188) rfl h36_189 (G.gskip (t := 189) rfl rfl rfl rfl (G.gskip (t := 189) rfl rfl rfl rfl (G.q (Quiet.pickF rfl rfl) rfl (G.nil (G.then_n (G.condF rfl (G.skip (G.then_n (G.seq (G.seq (G.region (G.q (Quiet.fieldAddr rfl fo_73_0) rfl ?_))))))))))))
     refine G.q (Quiet.ld rfl ag_3) rfl ?_
     refine G.q (Quiet.as (v' := .bool false) (by exact congrArg Value.bool (decide_eq_false (by omega))) (Quiet.int rfl rfl rfl)) rfl ?_
     refine G.mv rfl rfl (G.gskip (t := 206) rfl rfl rfl rfl (G.gskip (t := 206) rfl rfl rfl rfl (G.q (Quiet.pickF rfl rfl) rfl (G.nil (G.then_n (G.condF rfl (G.skip (G.then_n (G.seq (G.region (G.mv rfl rfl (G.mv rfl rfl ?_))))))))))))
     refine G.dec (t := 221) rfl (fun h44_221 => ?_) (fun h44_221 => ?_)
     ·refine G.kDT (t := 185) rfl h44_221 (G.kDT (t := 27) rfl h44_221 (G.kDT (t := 220) rfl h44_221 (G.gskip (t := 221) rfl rfl rfl rfl (G.gskip (t := 221) rfl rfl rfl rfl (G.gskipU (t := 223) rfl rfl rfl (G.gskipU (t := 223) rfl rfl rfl (G.gskipU (t := 223) rfl rfl rfl (G.gskip (t := 221) rfl rfl rfl rfl (G.q (Quiet.pickT rfl rfl) rfl (G.ag rfl rfl (G.nil (G.then_n (G.ret (G.blk_r (G.then_r (G.then_r (G.blk_r (G.then_r ?_))))))))))))))))))
      exact G.dn (l := [.tmp 8]) rfl rfl ⟨rfl, rfl⟩
     ·refine G.kDF (t := 185) rfl h44_221 (G.kDF (t := 27) rfl h44_221 (G.kDF (t := 220) rfl h44_221 (G.grun (t := 221) rfl rfl rfl (G.mv rfl rfl (G.grun (t := 221) rfl rfl rfl (G.mv rfl rfl (G.grun (t := 223) rfl rfl rfl ?_)))))))
      refine G.q (Quiet.loadAs (vs := [vint L.base, vstr L.snap, st, vint L.acc, vint L.cur]) rfl ag_82 (by (repeat' constructor)) (by simp) rfl) rfl ?_
      refine G.grun (t := 223) rfl rfl rfl ?_
      refine G.q (Quiet.loadAs (vs := [vint rc.1.Λ.base, vstr rc.1.Λ.snap, sn, vint rc.1.Λ.acc, vint rc.1.Λ.cur]) rfl ag_82 (by (repeat' constructor)) (by simp) rfl) rfl ?_
      refine G.grun (t := 223) rfl rfl rfl ?_
      refine G.oq (OpSpec.call Tryz.func37 rfl rfl (vs := [_, _]) rfl (equal9_spec L.base L.cur L.acc rc.1.Λ.base rc.1.Λ.cur rc.1.Λ.acc L.snap rc.1.Λ.snap st sn L.ents rc.1.Λ.ents)) ?nx680
      rintro v L' ⟨rfl, rfl⟩; rw [decide_eq_true hE]
      refine G.grun (t := 221) rfl rfl rfl (G.q (Quiet.pickT rfl rfl) rfl (G.q (Quiet.pickF rfl rfl) rfl (G.ag rfl rfl (G.nil (G.then_n (G.ret (G.blk_r (G.then_r (G.then_r (G.blk_r (G.then_r ?_)))))))))))
      exact G.dn (l := [.tmp 8]) rfl rfl ⟨rfl, rfl⟩
  ·refine G.exit (G.then_e (G.then_e (G.blk_e (G.then_n (G.seq ?_)))))
   refine G.dkOk (d := d) (by (repeat' constructor)) fun hok => ?_
   have hB := back_live hT0.l hok how
   refine G.region (G.mv rfl rfl (G.mv rfl rfl ?_))
   refine G.oq (OpSpec.call Tryz.func29 rfl rfl (vs := [_, _]) rfl (crash_spec d s.δ _ how p hhow hhows)) ?nx684
   rintro v L' ⟨rfl, rfl⟩
   refine G.nil (G.then_n (G.seq ?_))
   obtain ⟨ω2, o1, o2, o3, o4⟩ := hB.open_
   have hsz2 := o3.lv.well.size
   have hdd2 := o3.lv.dead
   refine G.dkOk (by (repeat' constructor)) fun hok2 => ?_
   obtain ⟨σ, hσ⟩ : ∃ σ, s.δ.crash how = σ := ⟨_, rfl⟩
   rw [hσ] at o1 o3 hok2 hsz2 hdd2 ⊢
   refine G.region (G.mv rfl rfl ?_)
   refine G.oq (OpSpec.call Tryz.func18 rfl rfl (vs := [_]) rfl (lopen_spec d σ hsz2 hok2 (fun ω9 h9 => by rw [o1] at h9; cases h9; exact o3.opened))) ?nx687
   rintro v L' (⟨h, -, -⟩ | ⟨-, h, -, -⟩ | ⟨-, ω9, h9, ⟨h, -, -⟩ | ⟨Λ9, mm, y, hl9, rfl, rfl⟩⟩); · rw [hdd2] at h; cases h
   · rw [o1] at h; cases h
   · rw [o1] at h9; cases h9; rw [o2] at h; cases h
   rw [o1] at h9; cases h9; rw [o2] at hl9; cases hl9
   refine G.mv rfl rfl (G.q (Quiet.extract rfl rfl) rfl (G.q (Quiet.extract rfl rfl) rfl (G.ag rfl rfl (G.ag rfl rfl (G.nil (G.then_n (G.seq ?_)))))))
   have hWL : LgW s.syn := o3.lw.w
   have hu : u = s.syn := hT0.u
   subst hu
   refine G.draw [8, 10] [[0, 1, 2, 3, 4, 5, 6, 7, 9, 8], [10], [11, 12]] mixed (by kernel_rfl) ?_
   refine Phases.go [ptc b19 _ _] (by (repeat' constructor)) ?_
   refine D.kw [1, 2, 3, 4, 5, 6, 7, 9, 8] rfl (Quiet.move rfl) ?_
   refine D.kw [2, 3, 4, 5, 6, 7, 9, 8] rfl (Quiet.ptrne rfl rfl Tryz.underlying28) ?_
   refine D.kw [3, 4, 5, 6, 7, 9, 8] rfl (Quiet.move rfl) ?_
   refine D.gqw [4, 5, 6, 7, 9, 8] (t := 239) rfl rfl rfl (by kernel_rfl) (Quiet.move rfl) ?_
   refine D.gqw [5, 6, 7, 9, 8] (t := 239) rfl rfl rfl (by kernel_rfl) (Quiet.as (v' := .bool true) (by rfl) (Quiet.int rfl rfl rfl)) ?_
   refine D.kw [6, 7, 9, 8] rfl (Quiet.pickT rfl rfl) ?_
   refine D.kw [7, 9, 8] rfl (Quiet.move rfl) ?_
   refine D.gqw [8] (t := 243) rfl rfl rfl (by kernel_rfl) (Quiet.move rfl) ?_
   refine D.gq (t := 243) rfl rfl rfl (by kernel_rfl) (Quiet.loadAs (vs := [vint s.syn.base, vstr s.syn.snap, sw, vint s.syn.acc, vint s.syn.cur]) rfl ag_82 (by (repeat' constructor)) (by simp) rfl) ?_
   refine D.gh (t := 243) rfl rfl rfl (by kernel_rfl) (OpSpec.call Tryz.func35 rfl rfl (vs := [_]) rfl (told9_spec mm y s.syn hWL)) (by (repeat' constructor)) ?nx694
   rintro v L' ⟨st, rfl, rfl⟩
   refine D.ph ?_
   refine Phases.go [] (by (repeat' constructor)) ?_
   refine D.gh (t := 243) rfl rfl rfl (by kernel_rfl) (OpSpec.call Tryz.func37 rfl rfl (vs := [_, _]) rfl (equal9_spec s.syn.base s.syn.cur s.syn.acc s.syn.base s.syn.cur s.syn.acc s.syn.snap s.syn.snap st sw s.syn.ents s.syn.ents)) (by (repeat' constructor)) ?nx696
   rintro v L' ⟨rfl, rfl⟩; rw [decide_eq_true (⟨rfl, rfl, rfl, rfl, rfl⟩ : s.syn.ents = s.syn.ents ∧ s.syn.base = s.syn.base ∧ s.syn.snap = s.syn.snap ∧ s.syn.acc = s.syn.acc ∧ s.syn.cur = s.syn.cur)]
   refine D.ph ?_
   refine Phases.go [] (by (repeat' constructor)) ?_
   refine D.kw [12] rfl (Quiet.pickT rfl rfl) ?_
   refine D.kw [] rfl (Quiet.assign rfl) ?_
   refine D.ph (Phases.fin (G.then_n (G.ret ?_)))
   exact G.dn (l := [.tmp 8]) rfl rfl ⟨rfl, rfl⟩
 ·refine G.kDF (t := 90) rfl h13_91 (G.gskip (t := 91) rfl rfl rfl rfl (G.gskip (t := 91) rfl rfl rfl rfl (G.q (Quiet.pickF rfl rfl) rfl (G.nil (G.then_n (G.condF rfl (G.exit (G.then_e (G.then_e (G.blk_e (G.then_n (G.seq ?_))))))))))))
  refine G.dkOk (d := d) (by (repeat' constructor)) fun hok => ?_
  have hB := back_live hT0.l hok how
  refine G.region (G.mv rfl rfl (G.mv rfl rfl ?_))
  refine G.oq (OpSpec.call Tryz.func29 rfl rfl (vs := [_, _]) rfl (crash_spec d s.δ _ how p hhow hhows)) ?nx701
  rintro v L' ⟨rfl, rfl⟩
  refine G.nil (G.then_n (G.seq ?_))
  obtain ⟨ω2, o1, o2, o3, o4⟩ := hB.open_
  have hsz2 := o3.lv.well.size
  have hdd2 := o3.lv.dead
  refine G.dkOk (by (repeat' constructor)) fun hok2 => ?_
  obtain ⟨σ, hσ⟩ : ∃ σ, s.δ.crash how = σ := ⟨_, rfl⟩
  rw [hσ] at o1 o3 hok2 hsz2 hdd2 ⊢
  refine G.region (G.mv rfl rfl ?_)
  refine G.oq (OpSpec.call Tryz.func18 rfl rfl (vs := [_]) rfl (lopen_spec d σ hsz2 hok2 (fun ω9 h9 => by rw [o1] at h9; cases h9; exact o3.opened))) ?nx704
  rintro v L' (⟨h, -, -⟩ | ⟨-, h, -, -⟩ | ⟨-, ω9, h9, ⟨h, -, -⟩ | ⟨Λ9, mm, y, hl9, rfl, rfl⟩⟩); · rw [hdd2] at h; cases h
  · rw [o1] at h; cases h
  · rw [o1] at h9; cases h9; rw [o2] at h; cases h
  rw [o1] at h9; cases h9; rw [o2] at hl9; cases hl9
  refine G.mv rfl rfl (G.q (Quiet.extract rfl rfl) rfl (G.q (Quiet.extract rfl rfl) rfl (G.ag rfl rfl (G.ag rfl rfl (G.nil (G.then_n (G.seq ?_)))))))
  have hWL : LgW s.syn := o3.lw.w
  have hu : u = s.syn := hT0.u
  subst hu
  refine G.draw [8, 10] [[0, 1, 2, 3, 4, 5, 6, 7, 9, 8], [10], [11, 12]] mixed (by kernel_rfl) ?_
  refine Phases.go [ptc b19 _ _] (by (repeat' constructor)) ?_
  refine D.kw [1, 2, 3, 4, 5, 6, 7, 9, 8] rfl (Quiet.move rfl) ?_
  refine D.kw [2, 3, 4, 5, 6, 7, 9, 8] rfl (Quiet.ptrne rfl rfl Tryz.underlying28) ?_
  refine D.kw [3, 4, 5, 6, 7, 9, 8] rfl (Quiet.move rfl) ?_
  refine D.gqw [4, 5, 6, 7, 9, 8] (t := 239) rfl rfl rfl (by kernel_rfl) (Quiet.move rfl) ?_
  refine D.gqw [5, 6, 7, 9, 8] (t := 239) rfl rfl rfl (by kernel_rfl) (Quiet.as (v' := .bool true) (by rfl) (Quiet.int rfl rfl rfl)) ?_
  refine D.kw [6, 7, 9, 8] rfl (Quiet.pickT rfl rfl) ?_
  refine D.kw [7, 9, 8] rfl (Quiet.move rfl) ?_
  refine D.gqw [8] (t := 243) rfl rfl rfl (by kernel_rfl) (Quiet.move rfl) ?_
  refine D.gq (t := 243) rfl rfl rfl (by kernel_rfl) (Quiet.loadAs (vs := [vint s.syn.base, vstr s.syn.snap, sw, vint s.syn.acc, vint s.syn.cur]) rfl ag_82 (by (repeat' constructor)) (by simp) rfl) ?_
  refine D.gh (t := 243) rfl rfl rfl (by kernel_rfl) (OpSpec.call Tryz.func35 rfl rfl (vs := [_]) rfl (told9_spec mm y s.syn hWL)) (by (repeat' constructor)) ?nx711
  rintro v L' ⟨st, rfl, rfl⟩
  refine D.ph ?_
  refine Phases.go [] (by (repeat' constructor)) ?_
  refine D.gh (t := 243) rfl rfl rfl (by kernel_rfl) (OpSpec.call Tryz.func37 rfl rfl (vs := [_, _]) rfl (equal9_spec s.syn.base s.syn.cur s.syn.acc s.syn.base s.syn.cur s.syn.acc s.syn.snap s.syn.snap st sw s.syn.ents s.syn.ents)) (by (repeat' constructor)) ?nx713
  rintro v L' ⟨rfl, rfl⟩; rw [decide_eq_true (⟨rfl, rfl, rfl, rfl, rfl⟩ : s.syn.ents = s.syn.ents ∧ s.syn.base = s.syn.base ∧ s.syn.snap = s.syn.snap ∧ s.syn.acc = s.syn.acc ∧ s.syn.cur = s.syn.cur)]
  refine D.ph ?_
  refine Phases.go [] (by (repeat' constructor)) ?_
  refine D.kw [12] rfl (Quiet.pickT rfl rfl) ?_
  refine D.kw [] rfl (Quiet.assign rfl) ?_
  refine D.ph (Phases.fin (G.then_n (G.ret ?_)))
  exact G.dn (l := [.tmp 8]) rfl rfl ⟨rfl, rfl⟩

end Go.Proofs.YtidjhgbdokcphaaGreat

/- Own work: from what a call is given to the atoms of SlCore, and back to what a statement asks. -/

namespace Go.Proofs.YtidjhgbdokcphaaGreat
open Go Go.ChangeShapes Go.WideShapes Go.ChangeAt Go.RowKit

section
variable {H : Type} {enc : TypeId × Value → H} {P : Program} {W W' : World}
theorem trodAll_old (hl : laidOutB P = true) (hb : Below W.heap.size W W') (sp : Nat → Bool) : ∀ (ts : List TypeId) (vs : List Value) (ds : List (DataW H)) (p : List MemPlace), (∀ t ∈ ts, P.readableRec t = true ∧ t < P.types.size) →
    DataW.TrodAll enc P W 0 (fun _ => true) true ts vs ds p → (∀ x ∈ p, x.block < W.heap.size) → (∀ x ∈ p, sp x.block = true) → DataW.TrodAll enc P W' 0 sp true ts vs ds p
  | [], vs, ds, p, _, h, _, _ => by
    obtain ⟨rfl, rfl, rfl⟩ := trodAll_nil h
    exact h
  | t :: ts, vs, ds, p, hr, h, hlt, hsp => by
    obtain ⟨v, vs1, d, ds1, a, b, rfl, rfl, rfl, h1, h2⟩ := trodAll_cons h
    have r := hr t (by simp)
    refine ⟨a, b, WideElems.Trod_stays hl r.1 r.2 h1 (fun x hx => hb.same (hlt x (by simp [hx]))) (fun x hx => hsp x (by simp [hx])), ?_, rfl⟩
    exact trodAll_old hl hb sp ts vs1 ds1 b (fun t ht => hr t (by simp [ht])) h2 (fun x hx => hlt x (by simp [hx])) (fun x hx => hsp x (by simp [hx]))
theorem settled {fn : Func} {s : ChangeSpec} {apart fresh handsOn again : Bool} {args : Array Value} {ds gs : List (DataW H)} {before : List MemPlace} {tb : TypeId}
    (hW : DataW.Whole enc P fn.params.toList s.vars apart W args.toList ds gs before) (hvars : s.vars = []) (hspec : ∀ gs', gs' = [] → s.fn H (ds ++ gs') = { results := [.lit (.bool true)], args := ds })
    (hres : fn.resultTypes = #[tb]) (htb : P.underlying tb = some .bool) (hl : laidOutB P = true) (hr : ∀ t ∈ fn.params.toList, P.readableRec t = true ∧ t < P.types.size) (hb : Below W.heap.size W W') :
    s.post enc P fn apart fresh handsOn again W args (.bool true) W' := by
  have hW' := hW
  have hlt := hW.lt
  obtain ⟨p, q, hA, hV, rfl, hfz, hnd⟩ := hW
  rw [hvars] at hV
  obtain ⟨rfl, rfl⟩ := trodVars_none hV
  have hs := hspec [] rfl
  have hargs : ∀ sp : Nat → Bool, (∀ x ∈ p, sp x.block = true) → DataW.TrodAll enc P W' 0 sp true fn.params.toList args.toList ds p := fun sp hsp =>
    trodAll_old hl hb sp _ _ _ _ hr hA (fun x hx => hlt x (by simp [hx])) hsp
  have hbool : ∀ (b : Nat) (sp : Nat → Bool) (hd : Bool), DataW.TrodAll enc P W' b sp hd fn.resultTypes.toList ((Value.bool true).resultList fn.resultTypes.size) [.lit (.bool true)] [] := by
    intro b sp hd
    rw [hres]
    exact trodAll_cons_mk (shut_bool htb _) trodAll_mk0
  refine ⟨ds, [], p ++ [], [], p, [], hW', ?_, ?_, ?_, hb.frame _, fun _ => ⟨ok_one hres rfl (okWide_bool_mk htb _), [.lit (.bool true)] ++ ds, [], p, ⟨p, [], ?_, ?_, by simp, ?_, ?_⟩, ?_⟩⟩
  · rw [hs]; exact hbool _ _ _
  · rw [hs]; exact hargs _ (fun x hx => by simpa using hlt x (by simp [hx]))
  · rw [hs, hvars]; exact hV
  · exact trodAll_append (hargs _ (fun _ _ => rfl)) (hbool _ _ _)
  · rw [hvars]; exact hV
  · intro b off hp
    rw [hb.frozen (p := ⟨b, off, none⟩) (hlt (.cell b off) (by simp [hp]))]
    exact hfz b off (by simp [hp])
  · intro ha
    have := hnd ha
    simpa using this
  · intro x hx _
    simp [hx]
theorem old_calls {f : FuncId} {args : Array Value} (h : Fn P f args [Old W] fun v L => v = .bool true ∧ L = [Old W]) :
    Calls P f args W fun e W' => e = .returned (.bool true) ∧ Below W.heap.size W W' := by
  have h0 : St [Old W] W := ⟨fun b => W.heap[b]?, fun _ => none, fun _ => .inr rfl, fun b o h => h, fun b o h => (by cases h), fun b hb => rfl, trivial⟩
  refine (h [] W h0).mono ?_
  rintro e W' ⟨v, L, ⟨rfl, rfl⟩, rfl, hs, hk⟩
  refine ⟨rfl, hk.os, hk.tape, hk.output, hk.size, fun k hk' => ?_⟩
  obtain ⟨h1, a1, hp⟩ := sep_head hs
  have e1 := hp k hk'
  have : ∃ o, W.heap[k]? = some o := ⟨_, Array.getElem?_eq_getElem hk'⟩
  obtain ⟨o, ho⟩ := this
  rw [ho] at e1 ⊢
  exact a1 _ _ e1
theorem old_rd {a : Addr} {len cap : Nat} {V : Nat → Value} (hc : ∀ i, i < len → W.cell? (a.add i) = some (V i)) (hle : len ≤ cap) : ∀ h : Hp, Old W h → rdS 1 h (.slice (some a) len cap) len ((List.range len).map V) := by
  intro h hold
  rcases Nat.eq_zero_or_pos len with rfl | hpos
  · exact .inl ⟨rfl, rfl, some a, cap, rfl⟩
  · obtain ⟨b, off, spot⟩ := a
    have h0 := hc 0 hpos
    have e0 : (⟨b, off, spot⟩ : Addr).add 0 = ⟨b, off, spot⟩ := by simp [Addr.add]
    rw [e0] at h0
    simp only [World.cell?] at h0
    rcases hw : W.heap[b]? with _ | o
    · rw [hw] at h0; cases h0
    · cases o with
      | cells c T fr =>
        rw [hw] at h0
        dsimp only at h0
        split at h0
        · cases h0
        · rename_i hsp
          have hspot : spot = none := by simpa using hsp
          subst hspot
          have hc' : ∀ i, i < len → c[off + i]? = some (V i) := by
            intro i hi
            have := hc i hi
            have e1 : (⟨b, off, none⟩ : Addr).add i = ⟨b, off + i, none⟩ := by
              simp only [Addr.add]; split
              · rename_i h0; simp [h0]
              · rfl
            rw [e1] at this
            simp only [World.cell?, hw] at this
            simpa using this
          have hlt : b < W.heap.size := by
            rcases Nat.lt_or_ge b W.heap.size with h' | h'
            · exact h'
            · rw [Array.getElem?_eq_none h'] at hw; cases hw
          have hlen : off + len ≤ c.size := by
            have := hc' (len - 1) (by omega)
            rcases Nat.lt_or_ge (off + (len - 1)) c.size with h' | h'
            · omega
            · rw [Array.getElem?_eq_none h'] at this; cases this
          refine .inr ⟨b, off, cap, c.toList, T, fr, rfl, by rw [hold b hlt, hw], ?_, by simpa using hlen, hle⟩
          apply List.ext_getElem?
          intro i
          rw [Nat.mul_one, List.getElem?_take, List.getElem?_map, List.getElem?_drop]
          split
          · rename_i hi
            rw [List.getElem?_range hi]
            simpa using hc' i hi
          · rename_i hi
            rw [List.getElem?_eq_none (by simpa using hi)]; rfl
      | _ => rw [hw] at h0; cases h0
theorem arg_int {t : TypeId} {r : Reach} {b0 : Nat} {v : Value} {d : DataW H} {ps : List MemPlace} (ht : P.underlying t = some (.int .i64)) (hval : Value.okWide P W r b0 t v)
    (h : DataW.Trod enc P W 0 (fun _ => true) true t v d ps) : ∃ n : Int, v = vint n ∧ d = .lit (.int .i64 n) ∧ -9223372036854775808 ≤ n ∧ n ≤ 9223372036854775807 := by
  obtain ⟨n, rfl, rfl, rfl, hwf⟩ := open_int ht hval h
  exact ⟨n, rfl, rfl, bounds_i64 hwf⟩
end
end Go.Proofs.YtidjhgbdokcphaaGreat

/- Own work: strings and rows of strings as arguments. -/
namespace Go.Proofs.YtidjhgbdokcphaaGreat
open Go Go.ChangeShapes Go.WideShapes Go.ChangeAt Go.RowKit

section
variable {H : Type} {enc : TypeId × Value → H} {P : Program} {W : World}
theorem string_vstr (s : ByteArray) : Value.string s = vstr s.data.toList := by cases s; rfl
end
end Go.Proofs.YtidjhgbdokcphaaGreat

/- Own work: nested arguments decoded: slices of structs, and what the row says of their weight. -/

namespace Go.Proofs.YtidjhgbdokcphaaGreat
open Go Go.ChangeShapes Go.WideShapes Go.ChangeAt Go.RowKit

section
variable {H : Type} {enc : TypeId × Value → H} {P : Program} {W : World}
theorem flat_at {α : Type} {sz : Nat} (f : Nat → List α) : ∀ n, (∀ i, i < n → (f i).length = sz) → ∀ j, j < n * sz → ((List.range n).flatMap f)[j]? = (f (j / sz))[j % sz]? ∧ ((List.range n).flatMap f).length = n * sz := by
  intro n
  induction n with
  | zero => intro _ j hj; omega
  | succ n ih =>
    intro hf j hj
    have hn := hf n (by omega)
    have hlen : ((List.range n).flatMap f).length = n * sz := by
      rcases Nat.eq_zero_or_pos (n * sz) with h0 | h0
      · rcases Nat.eq_zero_or_pos n with h1 | h1
        · subst h1; simp
        · have : sz = 0 := by
            rcases Nat.eq_zero_or_pos sz with h2 | h2
            · exact h2
            · have := Nat.mul_pos h1 h2; omega
          subst this; omega
      · exact (ih (fun i hi => hf i (by omega)) 0 h0).2
    have e : (List.range (n + 1)).flatMap f = (List.range n).flatMap f ++ f n := by simp [List.range_succ]
    have hm : (n + 1) * sz = n * sz + sz := by rw [Nat.add_mul, Nat.one_mul]
    rw [e]
    refine ⟨?_, by rw [List.length_append, hlen, hn, hm]⟩
    rcases Nat.lt_or_ge j (n * sz) with h | h
    · rw [List.getElem?_append_left (by omega)]
      exact (ih (fun i hi => hf i (by omega)) j h).1
    · rw [List.getElem?_append_right (by omega), hlen]
      have hs : 0 < sz := by omega
      have h1 : j / sz = n := by
        have : j < (n + 1) * sz := hj
        have a := Nat.div_lt_of_lt_mul (show j < sz * (n + 1) by rw [Nat.mul_comm]; exact this)
        have b := (Nat.le_div_iff_mul_le hs).2 h
        omega
      have h2 : j % sz = j - n * sz := by
        have := Nat.div_add_mod j sz
        rw [h1, Nat.mul_comm] at this; omega
      rw [h1, h2]
theorem rdS_regroup {sz n c c1 : Nat} {a : Option Addr} {ys : List Value} {h : Hp} (hr : rdS 1 h (.slice a (n * sz) c1) (n * sz) ys) (hc : n ≤ c) (hs : 0 < sz) : rdS sz h (.slice a n c) n ys := by
  rcases hr with ⟨h1, h2, -⟩ | ⟨b, off, cap, l, T, fr, hv, hb, h1, h2, h3⟩
  · have : n = 0 := by
      rcases Nat.eq_zero_or_pos n with h0 | h0
      · exact h0
      · have := Nat.mul_pos h0 hs; omega
    subst this
    exact .inl ⟨rfl, h2, a, c, rfl⟩
  · simp only [Value.slice.injEq] at hv
    obtain ⟨rfl, -, -⟩ := hv
    exact .inr ⟨b, off, c, l, T, fr, rfl, hb, by rw [← h1, Nat.mul_one], by rw [Nat.mul_one] at h2; exact h2, hc⟩
abbrev Reads (enc : TypeId × Value → H) (P : Program) (W : World) (fuel : Nat) (t : TypeId) (cs : List Value) (x : DataW H × List MemPlace) : Prop := DataW.trod enc P W 0 (fun _ => true) true fuel t cs = some x
theorem dec_int {t : TypeId} {fuel : Nat} {cs : List Value} {x : DataW H × List MemPlace} (ht : P.underlying t = some (.int .i64)) (h : Reads enc P W fuel t cs x) : ∃ n : Int, cs = [vint n] ∧ -9223372036854775808 ≤ n ∧ n ≤ 9223372036854775807 := by
  obtain ⟨n, rfl, -, hwf⟩ := DataW.trod_int ht h
  exact ⟨n, rfl, bounds_i64 hwf⟩
end
end Go.Proofs.YtidjhgbdokcphaaGreat

/- Own work: arguments of a bounded bulk (the second form's bound), decoded. -/
namespace Go.Proofs.YtidjhgbdokcphaaGreat
open Go Go.ChangeShapes Go.WideShapes Go.ChangeAt Go.RowKit

theorem bulk_pos {H : Type} (d : DataW H) : 1 ≤ Rows.uptoBulk d := by
  cases d with
  | lit l => cases l <;> simp [Rows.uptoBulk]
  | _ => simp [Rows.uptoBulk]
theorem bulk_part {H : Type} {d : DataW H} : ∀ {l : List (DataW H)}, d ∈ l → Rows.uptoBulk d ≤ Rows.uptoBulkAll l
  | x :: l, h => by
    unfold Rows.uptoBulkAll
    rcases List.mem_cons.1 h with rfl | h
    · omega
    · have := bulk_part h; omega
theorem bulk_count {H : Type} : ∀ l : List (DataW H), l.length ≤ Rows.uptoBulkAll l
  | [] => by simp
  | x :: l => by
    have h1 := bulk_pos x
    have h2 := bulk_count l
    unfold Rows.uptoBulkAll
    rw [List.length_cons]; omega
theorem bulk_sum {H : Type} : ∀ l : List (DataW H), (l.map Rows.uptoBulk).sum ≤ Rows.uptoBulkAll l
  | [] => by simp
  | x :: l => by
    have h2 := bulk_sum l
    unfold Rows.uptoBulkAll
    rw [List.map_cons, List.sum_cons]; omega
theorem bulk_small {H : Type} {l : List (DataW H)} (h : Rows.uptoSmall H l = true) {d : DataW H} (hd : d ∈ l) : Rows.uptoBulk d ≤ 1048576 :=
  Nat.le_trans (bulk_part hd) (of_decide_eq_true h)
instance : Inhabited Value := ⟨.bool false⟩
section
variable {H : Type} {enc : TypeId × Value → H} {P : Program} {W : World} {N : Nat}
theorem dec_int' {t : TypeId} {fuel : Nat} {cs : List Value} {x : DataW H × List MemPlace} (ht : P.underlying t = some (.int .i64)) (h : Reads enc P W fuel t cs x) : ∃ n : Int, cs = [vint n] ∧ (-9223372036854775808 ≤ n ∧ n ≤ 9223372036854775807) := by
  obtain ⟨n, h1, h2⟩ := dec_int ht h; exact ⟨n, h1, h2⟩
theorem dec_sliceV {Z : Type} [Inhabited Z] (toC : Z → List Value) (Q : Z → Prop) {t e : TypeId} {sz : Nat} {fuel : Nat} {cs : List Value} {x : DataW H × List MemPlace} (ht : P.underlying t = some (.slice e)) (hc : P.cellsOf e = sz) (hs : 0 < sz)
    (hdec : ∀ (n : Nat) (cs : List Value) (y : DataW H × List MemPlace), Reads enc P W n e cs y → Rows.uptoBulk y.1 ≤ N → ∃ z, cs = toC z ∧ Q z) (h : Reads enc P W fuel t cs x) (hb : Rows.uptoBulk x.1 ≤ N + 1) :
    ∃ z : Value × List Z, cs = [z.1] ∧ (∀ h : Hp, Old W h → rdS sz h z.1 z.2.length (z.2.flatMap toC)) ∧ z.2.length ≤ N ∧ ∀ y ∈ z.2, Q y := by
  subst hc
  rcases Go.Deep.open_slice ht h with ⟨rfl, rfl⟩ | ⟨a, len, cap, m, n, Dd, Pl, rfl, -, hl, hm, hmm, rfl, hx⟩
  · exact ⟨(_, []), rfl, fun h _ => .inl ⟨rfl, rfl, none, 0, rfl⟩, by simp, by simp⟩
  · simp only [if_true] at hmm
    subst hmm
    have hbl : len ≤ N := by
      have := bulk_count ((List.range len).map Dd)
      simp only [Rows.uptoBulk] at hb
      rw [List.length_map, List.length_range] at this
      omega
    have hbe : ∀ i, i < len → Rows.uptoBulk (Dd i) ≤ N := fun i hi => by
      have := bulk_part (d := Dd i) (l := (List.range len).map Dd) (List.mem_map_of_mem (by simpa using hi))
      simp only [Rows.uptoBulk] at hb
      omega
    obtain ⟨Zf, hZ⟩ := Go.Deep.choose_lt (α := Z) (p := fun i z => W.cells? 0 (a.add (i * P.cellsOf e)) (P.cellsOf e) = some (toC z) ∧ Q z) (n := len) (fun i hi => by
      obtain ⟨cs', h1, h2⟩ := hx i (by omega)
      obtain ⟨z, rfl, h3⟩ := hdec _ _ _ h2 (hbe i hi)
      exact ⟨z, h1, h3⟩)
    have hlenf : ∀ i, i < len → (toC (Zf i)).length = P.cellsOf e := fun i hi => (World.cells?_some (hZ i hi).1).2.1
    have hflat := flat_at (fun i => toC (Zf i)) len hlenf
    refine ⟨(_, (List.range len).map Zf), rfl, ?_, ?_, ?_⟩
    · intro h hold
      dsimp only
      rw [List.length_map, List.length_range]
      refine rdS_regroup (c1 := len * P.cellsOf e) ?_ hl hs
      have e1 : ((List.range len).map Zf).flatMap toC = (List.range (len * P.cellsOf e)).map (fun j => ((List.range len).flatMap fun i => toC (Zf i)).getD j (.bool false)) := by
        rw [List.flatMap_map]
        apply List.ext_getElem?
        intro j
        rcases Nat.lt_or_ge j (len * P.cellsOf e) with hj | hj
        · rw [List.getElem?_map, List.getElem?_range hj]
          have := (hflat j hj).2
          have hjl : j < ((List.range len).flatMap fun i => toC (Zf i)).length := by omega
          simp only [Option.map_some, List.getD_eq_getElem?_getD, List.getElem?_eq_getElem hjl, Option.getD_some]
        · have : ((List.range len).flatMap fun i => toC (Zf i)).length = len * P.cellsOf e := by
            rcases Nat.eq_zero_or_pos (len * P.cellsOf e) with h0 | h0
            · have : len = 0 := by
                rcases Nat.eq_zero_or_pos len with h1 | h1
                · exact h1
                · have := Nat.mul_pos h1 hs; omega
              subst this; simp
            · exact (hflat 0 h0).2
          rw [List.getElem?_eq_none (by omega), List.getElem?_eq_none (by simpa using hj)]
      rw [e1]
      refine old_rd (W := W) (fun j hj => ?_) (Nat.le_refl _) h hold
      have hi : j / P.cellsOf e < len := Nat.div_lt_of_lt_mul (by rw [Nat.mul_comm]; exact hj)
      have hcell := (World.cells?_some (hZ (j / P.cellsOf e) hi).1).2.2 (j % P.cellsOf e) (Nat.mod_lt _ hs)
      rw [Addr.add_add, Nat.mul_comm, Nat.div_add_mod] at hcell
      rw [hcell]
      obtain ⟨f1, f2⟩ := hflat j hj
      rw [List.getD_eq_getElem?_getD, f1]
      have : j % P.cellsOf e < (toC (Zf (j / P.cellsOf e))).length := by rw [hlenf _ hi]; exact Nat.mod_lt _ hs
      simp [this]
    · dsimp only; rw [List.length_map, List.length_range]; exact hbl
    · intro z hz
      obtain ⟨i, hi, rfl⟩ := List.mem_map.1 hz
      exact (hZ i (by simpa using hi)).2
theorem dec_sliceQV {Z : Type} [Inhabited Z] (toC : Z → List Value) (Q : Nat → Z → Prop) {t e : TypeId} {sz : Nat} {fuel : Nat} {cs : List Value} {x : DataW H × List MemPlace} (ht : P.underlying t = some (.slice e)) (hc : P.cellsOf e = sz) (hs : 0 < sz)
    (hdec : ∀ (n : Nat) (cs : List Value) (y : DataW H × List MemPlace), Reads enc P W n e cs y → ∃ z, cs = toC z ∧ Q (Rows.uptoBulk y.1) z) (h : Reads enc P W fuel t cs x) (hb : Rows.uptoBulk x.1 ≤ N + 1) :
    ∃ (z : Value × List Z) (ws : List Nat), cs = [z.1] ∧ (∀ h : Hp, Old W h → rdS sz h z.1 z.2.length (z.2.flatMap toC)) ∧ z.2.length ≤ N ∧ ws.length = z.2.length ∧ ws.sum ≤ N ∧ (∀ w ∈ ws, 1 ≤ w) ∧ ∀ i (h1 : i < z.2.length) (h2 : i < ws.length), Q ws[i] z.2[i] := by
  subst hc
  rcases Go.Deep.open_slice ht h with ⟨rfl, rfl⟩ | ⟨a, len, cap, m, n, Dd, Pl, rfl, -, hl, hm, hmm, rfl, hx⟩
  · exact ⟨(_, []), [], rfl, fun h _ => .inl ⟨rfl, rfl, none, 0, rfl⟩, by simp, rfl, by simp, (fun _ h => by cases h), (fun i h1 _ => by simp at h1)⟩
  · simp only [if_true] at hmm
    subst hmm
    have hbl : len ≤ N := by
      have := bulk_count ((List.range len).map Dd)
      simp only [Rows.uptoBulk] at hb
      rw [List.length_map, List.length_range] at this
      omega
    have hall : ((List.range len).map fun i => Rows.uptoBulk (Dd i)).sum ≤ N := by
      have := bulk_sum ((List.range len).map Dd)
      rw [List.map_map] at this
      simp only [Rows.uptoBulk] at hb
      have e : ((List.range len).map fun i => Rows.uptoBulk (Dd i)) = (List.range len).map (Rows.uptoBulk ∘ Dd) := rfl
      rw [e]; omega
    obtain ⟨Zf, hZ⟩ := Go.Deep.choose_lt (α := Z) (p := fun i z => W.cells? 0 (a.add (i * P.cellsOf e)) (P.cellsOf e) = some (toC z) ∧ Q (Rows.uptoBulk (Dd i)) z) (n := len) (fun i hi => by
      obtain ⟨cs', h1, h2⟩ := hx i (by omega)
      obtain ⟨z, rfl, h3⟩ := hdec _ _ _ h2
      exact ⟨z, h1, h3⟩)
    have hlenf : ∀ i, i < len → (toC (Zf i)).length = P.cellsOf e := fun i hi => (World.cells?_some (hZ i hi).1).2.1
    have hflat := flat_at (fun i => toC (Zf i)) len hlenf
    refine ⟨(_, (List.range len).map Zf), (List.range len).map fun i => Rows.uptoBulk (Dd i), rfl, ?_, ?_, by simp, hall, ?_, ?_⟩
    · intro h hold
      dsimp only
      rw [List.length_map, List.length_range]
      refine rdS_regroup (c1 := len * P.cellsOf e) ?_ hl hs
      have e1 : ((List.range len).map Zf).flatMap toC = (List.range (len * P.cellsOf e)).map (fun j => ((List.range len).flatMap fun i => toC (Zf i)).getD j (.bool false)) := by
        rw [List.flatMap_map]
        apply List.ext_getElem?
        intro j
        rcases Nat.lt_or_ge j (len * P.cellsOf e) with hj | hj
        · rw [List.getElem?_map, List.getElem?_range hj]
          have := (hflat j hj).2
          have hjl : j < ((List.range len).flatMap fun i => toC (Zf i)).length := by omega
          simp only [Option.map_some, List.getD_eq_getElem?_getD, List.getElem?_eq_getElem hjl, Option.getD_some]
        · have : ((List.range len).flatMap fun i => toC (Zf i)).length = len * P.cellsOf e := by
            rcases Nat.eq_zero_or_pos (len * P.cellsOf e) with h0 | h0
            · have : len = 0 := by
                rcases Nat.eq_zero_or_pos len with h1 | h1
                · exact h1
                · have := Nat.mul_pos h1 hs; omega
              subst this; simp
            · exact (hflat 0 h0).2
          rw [List.getElem?_eq_none (by omega), List.getElem?_eq_none (by simpa using hj)]
      rw [e1]
      refine old_rd (W := W) (fun j hj => ?_) (Nat.le_refl _) h hold
      have hi : j / P.cellsOf e < len := Nat.div_lt_of_lt_mul (by rw [Nat.mul_comm]; exact hj)
      have hcell := (World.cells?_some (hZ (j / P.cellsOf e) hi).1).2.2 (j % P.cellsOf e) (Nat.mod_lt _ hs)
      rw [Addr.add_add, Nat.mul_comm, Nat.div_add_mod] at hcell
      rw [hcell]
      obtain ⟨f1, f2⟩ := hflat j hj
      rw [List.getD_eq_getElem?_getD, f1]
      have : j % P.cellsOf e < (toC (Zf (j / P.cellsOf e))).length := by rw [hlenf _ hi]; exact Nat.mod_lt _ hs
      simp [this]
    · dsimp only; rw [List.length_map, List.length_range]; exact hbl
    · intro w hw
      obtain ⟨i, -, rfl⟩ := List.mem_map.1 hw
      exact bulk_pos _
    · intro i h1 h2
      simp only [List.getElem_map, List.getElem_range]
      exact (hZ i (by simpa using h1)).2
/-! ### With weights: what is read weighs no more than its bulk -/
theorem dec_strW {t : TypeId} {fuel : Nat} {cs : List Value} {x : DataW H × List MemPlace} (ht : P.underlying t = some .string) (h : Reads enc P W fuel t cs x) : ∃ s : List UInt8, cs = [vstr s] ∧ s.length + 1 ≤ Rows.uptoBulk x.1 := by
  obtain ⟨s, rfl, rfl, -⟩ := DataW.trod_string ht h
  exact ⟨s.data.toList, by rw [string_vstr], by simp [Rows.uptoBulk]⟩
theorem dec_intW {t : TypeId} {fuel : Nat} {cs : List Value} {x : DataW H × List MemPlace} (ht : P.underlying t = some (.int .i64)) (h : Reads enc P W fuel t cs x) : ∃ n : Int, cs = [vint n] ∧ (-9223372036854775808 ≤ n ∧ n ≤ 9223372036854775807) ∧ 1 ≤ Rows.uptoBulk x.1 := by
  obtain ⟨n, h1, h2⟩ := dec_int' ht h; exact ⟨n, h1, h2, bulk_pos _⟩
theorem slice_shape {t e : TypeId} {fuel : Nat} {v : Value} {x : DataW H × List MemPlace} (ht : P.underlying t = some (.slice e)) (h : Reads enc P W fuel t [v] x) : ∃ a n c, v = .slice a n c := by
  rcases Go.Deep.open_slice ht h with ⟨hv, -⟩ | ⟨a, len, cap, m, n, Dd, Pl, hv, -⟩
  · rw [List.cons.injEq] at hv; rw [hv.1]; exact ⟨_, _, _, rfl⟩
  · rw [List.cons.injEq] at hv; rw [hv.1]; exact ⟨_, _, _, rfl⟩
theorem sum_le {Z : Type} {m : Z → Nat} : ∀ {l : List Z} {ws : List Nat}, ws.length = l.length → (∀ i (h1 : i < l.length) (h2 : i < ws.length), m l[i] ≤ ws[i]) → (l.map m).sum ≤ ws.sum
  | [], _, _, _ => by simp
  | z :: l, [], h, _ => by simp at h
  | z :: l, w :: ws, h, hq => by
    have h0 := hq 0 (by simp) (by simp)
    have h1 := sum_le (l := l) (ws := ws) (m := m) (by simpa using h) (fun i h1 h2 => hq (i + 1) (by simpa using h1) (by simpa using h2))
    rw [List.map_cons, List.sum_cons, List.sum_cons]
    have h0' : m z ≤ w := h0
    omega
theorem dec_sliceW {Z : Type} [Inhabited Z] (toC : Z → List Value) (Q : Z → Prop) (m : Z → Nat) {t e : TypeId} {sz : Nat} {fuel : Nat} {cs : List Value} {x : DataW H × List MemPlace} (ht : P.underlying t = some (.slice e)) (hc : P.cellsOf e = sz) (hs : 0 < sz)
    (hdec : ∀ (n : Nat) (cs : List Value) (y : DataW H × List MemPlace), Reads enc P W n e cs y → ∃ z, cs = toC z ∧ Q z ∧ m z ≤ Rows.uptoBulk y.1) (h : Reads enc P W fuel t cs x) :
    ∃ z : Value × List Z, cs = [z.1] ∧ (∀ h : Hp, Old W h → rdS sz h z.1 z.2.length (z.2.flatMap toC)) ∧ (∀ y ∈ z.2, Q y) ∧ z.2.length + 1 ≤ Rows.uptoBulk x.1 ∧ 1 + (z.2.map m).sum ≤ Rows.uptoBulk x.1 := by
  have hp := bulk_pos x.1
  obtain ⟨z, ws, h1, h2, h3, h4, h5, -, h7⟩ := dec_sliceQV (N := Rows.uptoBulk x.1 - 1) toC (fun B z => Q z ∧ m z ≤ B) ht hc hs hdec h (by omega)
  refine ⟨z, h1, h2, fun y hy => ?_, by omega, ?_⟩
  · obtain ⟨i, hi, rfl⟩ := List.mem_iff_getElem.1 hy
    exact (h7 i hi (by omega)).1
  · have := sum_le (m := m) h4 (fun i g1 g2 => (h7 i g1 g2).2)
    omega
theorem rd_shape {sz n : Nat} {v : Value} {ys : List Value} (hr : ∀ h : Hp, Old W h → rdS sz h v n ys) : ∃ a c, v = .slice a n c := by
  have h := hr (fun b => if b < W.heap.size then W.heap[b]? else none) (fun b hb => if_pos hb)
  rcases h with ⟨rfl, -, a, c, rfl⟩ | ⟨b, off, cap, l, T, fr, rfl, -⟩
  · exact ⟨_, _, rfl⟩
  · exact ⟨_, _, rfl⟩
end
end Go.Proofs.YtidjhgbdokcphaaGreat

/- Own work, by program: arguments of law 09, decoded with their weights. -/
namespace Go.Proofs.YtidjhgbdokcphaaGreat
open Go Go.ChangeShapes Go.WideShapes Go.ChangeAt Go.RowKit
def mAc (a : Ac) : Nat := 3 + a.2.length
def mPt (y : Pt) : Nat := 9 + y.path.length + y.data.length + (y.acl.map mAc).sum
def mEn (e : En) : Nat := mPt e.x + (e.subs.map mPt).sum
structure PtQ (p : HP) (y : Pt) : Prop where
  kind : I64 y.kind
  own : I64 y.own
  num : I64 y.num
  err : I64 y.err
  acl : ∀ h : Hp, p h → rdS 2 h y.aclV y.acl.length (y.acl.flatMap acC)
  ash : ∃ a n c, y.aclV = .slice a n c
  ssh : ∃ a n c, y.subsV = .slice a n c
  each : ∀ a ∈ y.acl, I64 a.1
structure EnQ (p : HP) (e : En) : Prop where
  zx : I64 e.zx
  ses : I64 e.ses
  xid : I64 e.xid
  x : PtQ p e.x
  subs : ∀ h : Hp, p h → rdS 8 h e.x.subsV e.subs.length (e.subs.flatMap ptC)
  each : ∀ y ∈ e.subs, PtQ p y
theorem sum_mem {α : Type} {m : α → Nat} : ∀ {l : List α} {x : α}, x ∈ l → m x ≤ (l.map m).sum
  | y :: l, x, h => by
    rw [List.map_cons, List.sum_cons]
    rcases List.mem_cons.1 h with rfl | h
    · omega
    · have := sum_mem (m := m) h; omega
theorem sum_many {α : Type} {m : α → Nat} (hm : ∀ x, 1 ≤ m x) : ∀ l : List α, l.length ≤ (l.map m).sum
  | [] => by simp
  | y :: l => by have := sum_many hm l; have := hm y; rw [List.map_cons, List.sum_cons, List.length_cons]; omega
theorem fm_weigh {α : Type} {f : α → Bs} {m : α → Nat} : ∀ {l : List α}, (∀ x ∈ l, (f x).length ≤ 20 * m x) → (l.flatMap f).length ≤ 20 * (l.map m).sum
  | [], _ => by simp
  | y :: l, h => by
    have h1 := h y (List.mem_cons_self ..)
    have h2 := fm_weigh (l := l) (m := m) (f := f) (fun x hx => h x (List.mem_cons_of_mem _ hx))
    rw [List.flatMap_cons, List.length_append, List.map_cons, List.sum_cons]; omega
theorem cntB_len {n : Nat} (h : n < U64) : (cntB n).length ≤ 10 := sev_len10 h
theorem acB_weigh {a : Ac} (h : AcI a) : (acB a).length ≤ 20 * mAc a := by
  have h1 := numB_len h.n
  have h2 := cntB_len h.s
  unfold acB txtB mAc
  rw [List.length_append, List.length_append]; omega
theorem PtQ.i {p : HP} {y : Pt} (h : PtQ p y) (hm : mPt y ≤ 1048576) : PtI y := by
  unfold mPt at hm
  have hl := sum_many (m := mAc) (fun a => by unfold mAc; omega) y.acl
  have hu : (1048576 : Nat) < U64 := by decide
  refine ⟨h.kind, h.own, h.num, h.err, by omega, by omega, by omega, fun a ha => ⟨h.each a ha, ?_⟩⟩
  have h1 := sum_mem (m := mAc) ha
  have h2 : mAc a = 3 + a.2.length := rfl
  omega
theorem ptB_weigh {p : HP} {y : Pt} (h : PtQ p y) (hm : mPt y ≤ 1048576) : (ptB y).length ≤ 20 * mPt y := by
  have hi := h.i hm
  have h1 := numB_len h.kind
  have h2 := cntB_len hi.path
  have h3 := cntB_len hi.data
  have h4 := cntB_len hi.many
  have h5 := numB_len h.own
  have h6 := numB_len h.num
  have h7 := numB_len h.err
  have h8 := fm_weigh (f := acB) (m := mAc) (l := y.acl) (fun a ha => acB_weigh (hi.acl a ha))
  rw [ptB_len]
  unfold aclB mPt
  rw [List.length_append]
  simp only [List.flatMap_cons, List.flatMap_nil, List.length_append, List.length_nil]
  omega
theorem EnQ.X {p : HP} {e : En} (h : EnQ p e) (hm : mEn e ≤ 1048576) : EnX p e := by
  unfold mEn at hm
  have hx : mPt e.x ≤ 1048576 := by omega
  have hs : ∀ y ∈ e.subs, mPt y ≤ 1048576 := fun y hy => by have := sum_mem (m := mPt) hy; omega
  have hl := sum_many (m := mPt) (fun a => by unfold mPt; omega) e.subs
  have hu : (1048576 : Nat) < U64 := by decide
  have hal : ∀ y : Pt, mPt y ≤ 1048576 → y.acl.length ≤ 1048576 := fun y hy => by
    have := sum_many (m := mAc) (fun a => by unfold mAc; omega) y.acl
    unfold mPt at hy; omega
  have hc : ∀ y, PtQ p y → isCell y.aclV = true ∧ isCell y.subsV = true := fun y hy => by
    obtain ⟨a, n, c, g⟩ := hy.ash
    obtain ⟨a', n', c', g'⟩ := hy.ssh
    rw [g, g']; exact ⟨rfl, rfl⟩
  refine ⟨⟨⟨⟨h.zx, h.ses, h.xid, h.x.i hx, by omega, fun y hy => (h.each y hy).i (hs y hy)⟩, h.x.acl, h.subs, fun y hy => (h.each y hy).acl⟩, ?_, ⟨by omega, hal _ hx, fun y hy => hal y (hs y hy)⟩, hc _ h.x, fun y hy => hc y (h.each y hy)⟩, fun y hy => (h.each y hy).ssh⟩
  have h1 := numB_len h.zx
  have h2 := numB_len h.ses
  have h3 := numB_len h.xid
  have h4 := ptB_weigh h.x hx
  have h5 := fm_weigh (f := ptB) (m := mPt) (l := e.subs) (fun y hy => ptB_weigh (h.each y hy) (hs y hy))
  have h6 := cntB_len (n := e.subs.length) (by omega)
  rw [enB_len]
  unfold subsB
  rw [List.length_append]
  simp only [List.flatMap_cons, List.flatMap_nil, List.length_append, List.length_nil]
  omega
instance : Inhabited Pt := ⟨pt0⟩
instance : Inhabited En := ⟨en0⟩
theorem decAc {H : Type} {enc : TypeId × Value → H} {W : World} (n : Nat) (cs : List Value) (y : DataW H × List MemPlace) (h : Reads enc Tryz.prog W n 210 cs y) : ∃ a : Ac, cs = acC a ∧ I64 a.1 ∧ mAc a ≤ Rows.uptoBulk y.1 := by
  obtain ⟨xs, m, -, rfl, hlen, hxs, hf⟩ := DataW.trod_struct Tryz.underlying210 h
  rw [show Tryz.prog.cellsOf 210 = 2 by kernel_rfl] at hlen
  obtain ⟨a0, a1, rfl⟩ : ∃ a0 a1, cs = [a0, a1] := by
    match cs, hlen with
    | [a0, a1], _ => exact ⟨a0, a1, rfl⟩
  obtain ⟨y0, y1, rfl⟩ : ∃ y0 y1, xs = [y0, y1] := by
    match xs, hxs with
    | [y0, y1], _ => exact ⟨y0, y1, rfl⟩
  simp only [Rows.uptoBulk, Rows.uptoBulkAll, List.map_cons, List.map_nil]
  have g0 : Reads enc Tryz.prog W m 3 (([a0, a1] : List Value).drop 0 |>.take (Tryz.prog.cellsOf 3)) y0 := hf 0 _ rfl
  rw [show Tryz.prog.cellsOf 3 = 1 by kernel_rfl] at g0
  have p0 := bulk_pos y0.1
  obtain ⟨z0, e0, q0, r0⟩ := dec_intW Tryz.underlying3 g0
  try simp at e0
  have g1 : Reads enc Tryz.prog W m 9 (([a0, a1] : List Value).drop 1 |>.take (Tryz.prog.cellsOf 9)) y1 := hf 1 _ rfl
  rw [show Tryz.prog.cellsOf 9 = 1 by kernel_rfl] at g1
  have p1 := bulk_pos y1.1
  obtain ⟨z1, e1, r1⟩ := dec_strW Tryz.underlying9 g1
  try simp at e1
  subst e0
  subst e1
  exact ⟨(z0, z1), rfl, q0, by unfold mAc; dsimp only; omega⟩
theorem decPt {H : Type} {enc : TypeId × Value → H} {W : World} (n : Nat) (cs : List Value) (y : DataW H × List MemPlace) (h : Reads enc Tryz.prog W n 36 cs y) : ∃ y0 : Pt, cs = ptC y0 ∧ PtQ (Old W) y0 ∧ mPt y0 ≤ Rows.uptoBulk y.1 := by
  obtain ⟨xs, m, -, rfl, hlen, hxs, hf⟩ := DataW.trod_struct Tryz.underlying36 h
  rw [show Tryz.prog.cellsOf 36 = 8 by kernel_rfl] at hlen
  obtain ⟨a0, a1, a2, a3, a4, a5, a6, a7, rfl⟩ : ∃ a0 a1 a2 a3 a4 a5 a6 a7, cs = [a0, a1, a2, a3, a4, a5, a6, a7] := by
    match cs, hlen with
    | [a0, a1, a2, a3, a4, a5, a6, a7], _ => exact ⟨a0, a1, a2, a3, a4, a5, a6, a7, rfl⟩
  obtain ⟨y0, y1, y2, y3, y4, y5, y6, y7, rfl⟩ : ∃ y0 y1 y2 y3 y4 y5 y6 y7, xs = [y0, y1, y2, y3, y4, y5, y6, y7] := by
    match xs, hxs with
    | [y0, y1, y2, y3, y4, y5, y6, y7], _ => exact ⟨y0, y1, y2, y3, y4, y5, y6, y7, rfl⟩
  simp only [Rows.uptoBulk, Rows.uptoBulkAll, List.map_cons, List.map_nil]
  have g0 : Reads enc Tryz.prog W m 3 (([a0, a1, a2, a3, a4, a5, a6, a7] : List Value).drop 0 |>.take (Tryz.prog.cellsOf 3)) y0 := hf 0 _ rfl
  rw [show Tryz.prog.cellsOf 3 = 1 by kernel_rfl] at g0
  have p0 := bulk_pos y0.1
  obtain ⟨z0, e0, q0, r0⟩ := dec_intW Tryz.underlying3 g0
  try simp at e0
  have g1 : Reads enc Tryz.prog W m 9 (([a0, a1, a2, a3, a4, a5, a6, a7] : List Value).drop 1 |>.take (Tryz.prog.cellsOf 9)) y1 := hf 1 _ rfl
  rw [show Tryz.prog.cellsOf 9 = 1 by kernel_rfl] at g1
  have p1 := bulk_pos y1.1
  obtain ⟨z1, e1, r1⟩ := dec_strW Tryz.underlying9 g1
  try simp at e1
  have g2 : Reads enc Tryz.prog W m 9 (([a0, a1, a2, a3, a4, a5, a6, a7] : List Value).drop 2 |>.take (Tryz.prog.cellsOf 9)) y2 := hf 2 _ rfl
  rw [show Tryz.prog.cellsOf 9 = 1 by kernel_rfl] at g2
  have p2 := bulk_pos y2.1
  obtain ⟨z2, e2, r2⟩ := dec_strW Tryz.underlying9 g2
  try simp at e2
  have g3 : Reads enc Tryz.prog W m 33 (([a0, a1, a2, a3, a4, a5, a6, a7] : List Value).drop 3 |>.take (Tryz.prog.cellsOf 33)) y3 := hf 3 _ rfl
  rw [show Tryz.prog.cellsOf 33 = 1 by kernel_rfl] at g3
  have p3 := bulk_pos y3.1
  obtain ⟨⟨v3, l3⟩, e3, k3, q3, c3, r3⟩ := dec_sliceW acC (fun a => I64 a.1) mAc Tryz.underlying33 (show Tryz.prog.cellsOf 210 = 2 by kernel_rfl) (by decide) (fun n cs y h => decAc n cs y h) g3
  dsimp only at e3 k3 q3 c3 r3
  obtain ⟨sa3, sc3, hs3⟩ := rd_shape k3
  have sh3 : ∃ a n c, v3 = .slice a n c := ⟨_, _, _, hs3⟩
  try simp at e3
  have g4 : Reads enc Tryz.prog W m 3 (([a0, a1, a2, a3, a4, a5, a6, a7] : List Value).drop 4 |>.take (Tryz.prog.cellsOf 3)) y4 := hf 4 _ rfl
  rw [show Tryz.prog.cellsOf 3 = 1 by kernel_rfl] at g4
  have p4 := bulk_pos y4.1
  obtain ⟨z4, e4, q4, r4⟩ := dec_intW Tryz.underlying3 g4
  try simp at e4
  have g5 : Reads enc Tryz.prog W m 3 (([a0, a1, a2, a3, a4, a5, a6, a7] : List Value).drop 5 |>.take (Tryz.prog.cellsOf 3)) y5 := hf 5 _ rfl
  rw [show Tryz.prog.cellsOf 3 = 1 by kernel_rfl] at g5
  have p5 := bulk_pos y5.1
  obtain ⟨z5, e5, q5, r5⟩ := dec_intW Tryz.underlying3 g5
  try simp at e5
  have g6 : Reads enc Tryz.prog W m 25 (([a0, a1, a2, a3, a4, a5, a6, a7] : List Value).drop 6 |>.take (Tryz.prog.cellsOf 25)) y6 := hf 6 _ rfl
  rw [show Tryz.prog.cellsOf 25 = 1 by kernel_rfl] at g6
  have p6 := bulk_pos y6.1
  obtain ⟨z6, e6, q6, r6⟩ := dec_intW Tryz.underlying25 g6
  try simp at e6
  have g7 : Reads enc Tryz.prog W m 34 (([a0, a1, a2, a3, a4, a5, a6, a7] : List Value).drop 7 |>.take (Tryz.prog.cellsOf 34)) y7 := hf 7 _ rfl
  rw [show Tryz.prog.cellsOf 34 = 1 by kernel_rfl] at g7
  have p7 := bulk_pos y7.1
  obtain ⟨z7, e7, s7⟩ : ∃ z : Value, a7 = z ∧ ∃ a n c, z = .slice a n c := ⟨_, rfl, slice_shape Tryz.underlying34 g7⟩
  try simp at e7
  subst e0
  subst e1
  subst e2
  subst e3
  subst e4
  subst e5
  subst e6
  subst e7
  exact ⟨⟨z0, z1, z2, a3, l3, z4, z5, z6, a7⟩, rfl, ⟨q0, q4, q5, q6, k3, sh3, s7, q3⟩, by unfold mPt; dsimp only; omega⟩
theorem decPtD {H : Type} {enc : TypeId × Value → H} {W : World} (n : Nat) (cs : List Value) (y : DataW H × List MemPlace) (h : Reads enc Tryz.prog W n 36 cs y) : ∃ (y0 : Pt) (l : List Pt), cs = ptC y0 ∧ PtQ (Old W) y0 ∧ (∀ h : Hp, Old W h → rdS 8 h y0.subsV l.length (l.flatMap ptC)) ∧ (∀ q ∈ l, PtQ (Old W) q) ∧ mPt y0 + (l.map mPt).sum ≤ Rows.uptoBulk y.1 := by
  obtain ⟨xs, m, -, rfl, hlen, hxs, hf⟩ := DataW.trod_struct Tryz.underlying36 h
  rw [show Tryz.prog.cellsOf 36 = 8 by kernel_rfl] at hlen
  obtain ⟨a0, a1, a2, a3, a4, a5, a6, a7, rfl⟩ : ∃ a0 a1 a2 a3 a4 a5 a6 a7, cs = [a0, a1, a2, a3, a4, a5, a6, a7] := by
    match cs, hlen with
    | [a0, a1, a2, a3, a4, a5, a6, a7], _ => exact ⟨a0, a1, a2, a3, a4, a5, a6, a7, rfl⟩
  obtain ⟨y0, y1, y2, y3, y4, y5, y6, y7, rfl⟩ : ∃ y0 y1 y2 y3 y4 y5 y6 y7, xs = [y0, y1, y2, y3, y4, y5, y6, y7] := by
    match xs, hxs with
    | [y0, y1, y2, y3, y4, y5, y6, y7], _ => exact ⟨y0, y1, y2, y3, y4, y5, y6, y7, rfl⟩
  simp only [Rows.uptoBulk, Rows.uptoBulkAll, List.map_cons, List.map_nil]
  have g0 : Reads enc Tryz.prog W m 3 (([a0, a1, a2, a3, a4, a5, a6, a7] : List Value).drop 0 |>.take (Tryz.prog.cellsOf 3)) y0 := hf 0 _ rfl
  rw [show Tryz.prog.cellsOf 3 = 1 by kernel_rfl] at g0
  have p0 := bulk_pos y0.1
  obtain ⟨z0, e0, q0, r0⟩ := dec_intW Tryz.underlying3 g0
  try simp at e0
  have g1 : Reads enc Tryz.prog W m 9 (([a0, a1, a2, a3, a4, a5, a6, a7] : List Value).drop 1 |>.take (Tryz.prog.cellsOf 9)) y1 := hf 1 _ rfl
  rw [show Tryz.prog.cellsOf 9 = 1 by kernel_rfl] at g1
  have p1 := bulk_pos y1.1
  obtain ⟨z1, e1, r1⟩ := dec_strW Tryz.underlying9 g1
  try simp at e1
  have g2 : Reads enc Tryz.prog W m 9 (([a0, a1, a2, a3, a4, a5, a6, a7] : List Value).drop 2 |>.take (Tryz.prog.cellsOf 9)) y2 := hf 2 _ rfl
  rw [show Tryz.prog.cellsOf 9 = 1 by kernel_rfl] at g2
  have p2 := bulk_pos y2.1
  obtain ⟨z2, e2, r2⟩ := dec_strW Tryz.underlying9 g2
  try simp at e2
  have g3 : Reads enc Tryz.prog W m 33 (([a0, a1, a2, a3, a4, a5, a6, a7] : List Value).drop 3 |>.take (Tryz.prog.cellsOf 33)) y3 := hf 3 _ rfl
  rw [show Tryz.prog.cellsOf 33 = 1 by kernel_rfl] at g3
  have p3 := bulk_pos y3.1
  obtain ⟨⟨v3, l3⟩, e3, k3, q3, c3, r3⟩ := dec_sliceW acC (fun a => I64 a.1) mAc Tryz.underlying33 (show Tryz.prog.cellsOf 210 = 2 by kernel_rfl) (by decide) (fun n cs y h => decAc n cs y h) g3
  dsimp only at e3 k3 q3 c3 r3
  obtain ⟨sa3, sc3, hs3⟩ := rd_shape k3
  have sh3 : ∃ a n c, v3 = .slice a n c := ⟨_, _, _, hs3⟩
  try simp at e3
  have g4 : Reads enc Tryz.prog W m 3 (([a0, a1, a2, a3, a4, a5, a6, a7] : List Value).drop 4 |>.take (Tryz.prog.cellsOf 3)) y4 := hf 4 _ rfl
  rw [show Tryz.prog.cellsOf 3 = 1 by kernel_rfl] at g4
  have p4 := bulk_pos y4.1
  obtain ⟨z4, e4, q4, r4⟩ := dec_intW Tryz.underlying3 g4
  try simp at e4
  have g5 : Reads enc Tryz.prog W m 3 (([a0, a1, a2, a3, a4, a5, a6, a7] : List Value).drop 5 |>.take (Tryz.prog.cellsOf 3)) y5 := hf 5 _ rfl
  rw [show Tryz.prog.cellsOf 3 = 1 by kernel_rfl] at g5
  have p5 := bulk_pos y5.1
  obtain ⟨z5, e5, q5, r5⟩ := dec_intW Tryz.underlying3 g5
  try simp at e5
  have g6 : Reads enc Tryz.prog W m 25 (([a0, a1, a2, a3, a4, a5, a6, a7] : List Value).drop 6 |>.take (Tryz.prog.cellsOf 25)) y6 := hf 6 _ rfl
  rw [show Tryz.prog.cellsOf 25 = 1 by kernel_rfl] at g6
  have p6 := bulk_pos y6.1
  obtain ⟨z6, e6, q6, r6⟩ := dec_intW Tryz.underlying25 g6
  try simp at e6
  have g7 : Reads enc Tryz.prog W m 34 (([a0, a1, a2, a3, a4, a5, a6, a7] : List Value).drop 7 |>.take (Tryz.prog.cellsOf 34)) y7 := hf 7 _ rfl
  rw [show Tryz.prog.cellsOf 34 = 1 by kernel_rfl] at g7
  have p7 := bulk_pos y7.1
  obtain ⟨⟨v7, l7⟩, e7, k7, q7, c7, r7⟩ := dec_sliceW ptC (fun q => PtQ (Old W) q) mPt Tryz.underlying34 (show Tryz.prog.cellsOf 36 = 8 by kernel_rfl) (by decide) (fun n cs y h => decPt n cs y h) g7
  dsimp only at e7 k7 q7 c7 r7
  obtain ⟨sa7, sc7, hs7⟩ := rd_shape k7
  have sh7 : ∃ a n c, v7 = .slice a n c := ⟨_, _, _, hs7⟩
  try simp at e7
  subst e0
  subst e1
  subst e2
  subst e3
  subst e4
  subst e5
  subst e6
  subst e7
  exact ⟨⟨z0, z1, z2, a3, l3, z4, z5, z6, a7⟩, l7, rfl, ⟨q0, q4, q5, q6, k3, sh3, sh7, q3⟩, k7, q7, by unfold mPt; dsimp only; unfold mPt at r7; omega⟩
theorem decEn {H : Type} {enc : TypeId × Value → H} {W : World} (n : Nat) (cs : List Value) (y : DataW H × List MemPlace) (h : Reads enc Tryz.prog W n 38 cs y) : ∃ e : En, cs = enC e ∧ EnQ (Old W) e ∧ mEn e ≤ Rows.uptoBulk y.1 := by
  obtain ⟨xs, m, -, rfl, hlen, hxs, hf⟩ := DataW.trod_struct Tryz.underlying38 h
  rw [show Tryz.prog.cellsOf 38 = 11 by kernel_rfl] at hlen
  obtain ⟨a0, a1, a2, a3, a4, a5, a6, a7, a8, a9, a10, rfl⟩ : ∃ a0 a1 a2 a3 a4 a5 a6 a7 a8 a9 a10, cs = [a0, a1, a2, a3, a4, a5, a6, a7, a8, a9, a10] := by
    match cs, hlen with
    | [a0, a1, a2, a3, a4, a5, a6, a7, a8, a9, a10], _ => exact ⟨a0, a1, a2, a3, a4, a5, a6, a7, a8, a9, a10, rfl⟩
  obtain ⟨y0, y1, y2, y3, rfl⟩ : ∃ y0 y1 y2 y3, xs = [y0, y1, y2, y3] := by
    match xs, hxs with
    | [y0, y1, y2, y3], _ => exact ⟨y0, y1, y2, y3, rfl⟩
  simp only [Rows.uptoBulk, Rows.uptoBulkAll, List.map_cons, List.map_nil]
  have g0 : Reads enc Tryz.prog W m 3 (([a0, a1, a2, a3, a4, a5, a6, a7, a8, a9, a10] : List Value).drop 0 |>.take (Tryz.prog.cellsOf 3)) y0 := hf 0 _ rfl
  rw [show Tryz.prog.cellsOf 3 = 1 by kernel_rfl] at g0
  have p0 := bulk_pos y0.1
  obtain ⟨z0, e0, q0, r0⟩ := dec_intW Tryz.underlying3 g0
  try simp at e0
  have g1 : Reads enc Tryz.prog W m 3 (([a0, a1, a2, a3, a4, a5, a6, a7, a8, a9, a10] : List Value).drop 1 |>.take (Tryz.prog.cellsOf 3)) y1 := hf 1 _ rfl
  rw [show Tryz.prog.cellsOf 3 = 1 by kernel_rfl] at g1
  have p1 := bulk_pos y1.1
  obtain ⟨z1, e1, q1, r1⟩ := dec_intW Tryz.underlying3 g1
  try simp at e1
  have g2 : Reads enc Tryz.prog W m 3 (([a0, a1, a2, a3, a4, a5, a6, a7, a8, a9, a10] : List Value).drop 2 |>.take (Tryz.prog.cellsOf 3)) y2 := hf 2 _ rfl
  rw [show Tryz.prog.cellsOf 3 = 1 by kernel_rfl] at g2
  have p2 := bulk_pos y2.1
  obtain ⟨z2, e2, q2, r2⟩ := dec_intW Tryz.underlying3 g2
  try simp at e2
  have g3 : Reads enc Tryz.prog W m 36 (([a0, a1, a2, a3, a4, a5, a6, a7, a8, a9, a10] : List Value).drop 3 |>.take (Tryz.prog.cellsOf 36)) y3 := hf 3 _ rfl
  rw [show Tryz.prog.cellsOf 36 = 8 by kernel_rfl] at g3
  have p3 := bulk_pos y3.1
  obtain ⟨z3, l3, e3, q3, k3, s3, r3⟩ := decPtD _ _ _ g3
  try simp [ptC, enC] at e3
  subst e0
  subst e1
  subst e2
  obtain ⟨rfl, rfl, rfl, rfl, rfl, rfl, rfl, rfl⟩ := e3
  exact ⟨⟨z0, z1, z2, z3, l3⟩, rfl, ⟨q0, q1, q2, q3, k3, s3⟩, by unfold mEn; dsimp only; omega⟩
end Go.Proofs.YtidjhgbdokcphaaGreat

/- Own work, by program: scripts of law 09, decoded. -/
namespace Go.Proofs.YtidjhgbdokcphaaGreat
open Go Go.ChangeShapes Go.WideShapes Go.ChangeAt Go.RowKit
def Ints9 (p : HP) (v : Value) (l : List Int) : Prop := (∀ h : Hp, p h → rdS 1 h v l.length (ints l)) ∧ (∀ z ∈ l, I64 z) ∧ l.length ≤ 1048576
theorem fm_ints (l : List Int) : (l.flatMap fun z => [vint z]) = ints l := by
  induction l with
  | nil => rfl
  | cons z l ih => rw [List.flatMap_cons, ih]; rfl
theorem dec_ints9 {H : Type} {enc : TypeId × Value → H} {W : World} {fuel : Nat} {cs : List Value} {x : DataW H × List MemPlace} (h : Reads enc Tryz.prog W fuel 31 cs x) (hb : Rows.uptoBulk x.1 ≤ 1048576) : ∃ (v : Value) (l : List Int), cs = [v] ∧ Ints9 (Old W) v l := by
  obtain ⟨⟨v, l⟩, h1, h2, h3, h4, h5⟩ := dec_sliceW (fun z => [vint z]) (fun z => I64 z) (fun _ => 1) Tryz.underlying31 (show Tryz.prog.cellsOf 3 = 1 by kernel_rfl) (by decide) (fun n cs y h => dec_intW Tryz.underlying3 h) h
  dsimp only at h1 h2 h3 h4 h5
  exact ⟨v, l, h1, fun h hp => by rw [← fm_ints]; exact h2 h hp, h3, by omega⟩
instance : Inhabited Op9 := ⟨⟨0, 0, 0, en0, nilV, [], [], nilV, []⟩⟩
theorem decOp {H : Type} {enc : TypeId × Value → H} {W : World} (n : Nat) (cs : List Value) (y : DataW H × List MemPlace) (h : Reads enc Tryz.prog W n 73 cs y) : ∃ o : Op9, cs = op9C o ∧ (Rows.uptoBulk y.1 ≤ 1048576 → Op9A (Old W) o) := by
  obtain ⟨xs, m, -, rfl, hlen, hxs, hf⟩ := DataW.trod_struct Tryz.underlying73 h
  rw [show Tryz.prog.cellsOf 73 = 17 by kernel_rfl] at hlen
  obtain ⟨a0, a1, a2, a3, a4, a5, a6, a7, a8, a9, a10, a11, a12, a13, a14, a15, a16, rfl⟩ : ∃ a0 a1 a2 a3 a4 a5 a6 a7 a8 a9 a10 a11 a12 a13 a14 a15 a16, cs = [a0, a1, a2, a3, a4, a5, a6, a7, a8, a9, a10, a11, a12, a13, a14, a15, a16] := by
    match cs, hlen with
    | [a0, a1, a2, a3, a4, a5, a6, a7, a8, a9, a10, a11, a12, a13, a14, a15, a16], _ => exact ⟨a0, a1, a2, a3, a4, a5, a6, a7, a8, a9, a10, a11, a12, a13, a14, a15, a16, rfl⟩
  obtain ⟨y0, y1, y2, y3, y4, y5, y6, rfl⟩ : ∃ y0 y1 y2 y3 y4 y5 y6, xs = [y0, y1, y2, y3, y4, y5, y6] := by
    match xs, hxs with
    | [y0, y1, y2, y3, y4, y5, y6], _ => exact ⟨y0, y1, y2, y3, y4, y5, y6, rfl⟩
  simp only [Rows.uptoBulk, Rows.uptoBulkAll, List.map_cons, List.map_nil]
  have g0 : Reads enc Tryz.prog W m 3 (([a0, a1, a2, a3, a4, a5, a6, a7, a8, a9, a10, a11, a12, a13, a14, a15, a16] : List Value).drop 0 |>.take (Tryz.prog.cellsOf 3)) y0 := hf 0 _ rfl
  rw [show Tryz.prog.cellsOf 3 = 1 by kernel_rfl] at g0
  have p0 := bulk_pos y0.1
  obtain ⟨z0, e0, q0, r0⟩ := dec_intW Tryz.underlying3 g0
  try simp at e0
  have g1 : Reads enc Tryz.prog W m 3 (([a0, a1, a2, a3, a4, a5, a6, a7, a8, a9, a10, a11, a12, a13, a14, a15, a16] : List Value).drop 1 |>.take (Tryz.prog.cellsOf 3)) y1 := hf 1 _ rfl
  rw [show Tryz.prog.cellsOf 3 = 1 by kernel_rfl] at g1
  have p1 := bulk_pos y1.1
  obtain ⟨z1, e1, q1, r1⟩ := dec_intW Tryz.underlying3 g1
  try simp at e1
  have g2 : Reads enc Tryz.prog W m 3 (([a0, a1, a2, a3, a4, a5, a6, a7, a8, a9, a10, a11, a12, a13, a14, a15, a16] : List Value).drop 2 |>.take (Tryz.prog.cellsOf 3)) y2 := hf 2 _ rfl
  rw [show Tryz.prog.cellsOf 3 = 1 by kernel_rfl] at g2
  have p2 := bulk_pos y2.1
  obtain ⟨z2, e2, q2, r2⟩ := dec_intW Tryz.underlying3 g2
  try simp at e2
  have g3 : Reads enc Tryz.prog W m 38 (([a0, a1, a2, a3, a4, a5, a6, a7, a8, a9, a10, a11, a12, a13, a14, a15, a16] : List Value).drop 3 |>.take (Tryz.prog.cellsOf 38)) y3 := hf 3 _ rfl
  rw [show Tryz.prog.cellsOf 38 = 11 by kernel_rfl] at g3
  have p3 := bulk_pos y3.1
  obtain ⟨z3, e3, q3, r3⟩ := decEn _ _ _ g3
  try simp [ptC, enC] at e3
  have g4 : Reads enc Tryz.prog W m 22 (([a0, a1, a2, a3, a4, a5, a6, a7, a8, a9, a10, a11, a12, a13, a14, a15, a16] : List Value).drop 14 |>.take (Tryz.prog.cellsOf 22)) y4 := hf 4 _ rfl
  rw [show Tryz.prog.cellsOf 22 = 1 by kernel_rfl] at g4
  have p4 := bulk_pos y4.1
  obtain ⟨⟨v4, l4⟩, e4, k4, q4, c4, r4⟩ := dec_sliceW enC (fun e => EnQ (Old W) e) mEn Tryz.underlying22 (show Tryz.prog.cellsOf 38 = 11 by kernel_rfl) (by decide) (fun n cs y h => decEn n cs y h) g4
  dsimp only at e4 k4 q4 c4 r4
  have ck4 : isCell v4 = true := by obtain ⟨sa, sc, hs⟩ := rd_shape k4; rw [hs]; rfl
  try simp at e4
  have g5 : Reads enc Tryz.prog W m 9 (([a0, a1, a2, a3, a4, a5, a6, a7, a8, a9, a10, a11, a12, a13, a14, a15, a16] : List Value).drop 15 |>.take (Tryz.prog.cellsOf 9)) y5 := hf 5 _ rfl
  rw [show Tryz.prog.cellsOf 9 = 1 by kernel_rfl] at g5
  have p5 := bulk_pos y5.1
  obtain ⟨z5, e5, r5⟩ := dec_strW Tryz.underlying9 g5
  try simp at e5
  have g6 : Reads enc Tryz.prog W m 31 (([a0, a1, a2, a3, a4, a5, a6, a7, a8, a9, a10, a11, a12, a13, a14, a15, a16] : List Value).drop 16 |>.take (Tryz.prog.cellsOf 31)) y6 := hf 6 _ rfl
  rw [show Tryz.prog.cellsOf 31 = 1 by kernel_rfl] at g6
  have p6 := bulk_pos y6.1
  obtain ⟨⟨v6, l6⟩, e6, k6, q6, c6, r6⟩ := dec_sliceW (fun z => [vint z]) (fun z => I64 z) (fun _ => 1) Tryz.underlying31 (show Tryz.prog.cellsOf 3 = 1 by kernel_rfl) (by decide) (fun n cs y h => dec_intW Tryz.underlying3 h) g6
  dsimp only at e6 k6 q6 c6 r6
  have ck6 : isCell v6 = true := by obtain ⟨sa, sc, hs⟩ := rd_shape k6; rw [hs]; rfl
  try simp at e6
  subst e0
  subst e1
  subst e2
  obtain ⟨rfl, rfl, rfl, rfl, rfl, rfl, rfl, rfl, rfl, rfl, rfl⟩ := e3
  subst e4
  subst e5
  subst e6
  exact ⟨⟨z0, z1, z2, z3, a14, l4, z5, a16, l6⟩, rfl, fun hb => ⟨q0, q1, q2, q3.X (by omega), k4, by dsimp only; omega, fun e he => (q4 e he).X (by have := sum_mem (m := mEn) (l := l4) he; omega), by dsimp only; omega, fun h hp => by rw [← fm_ints]; exact k6 h hp, q6, ck4, ck6⟩⟩
theorem sum_at {l : List Nat} {i : Nat} (h : i < l.length) : l[i] ≤ l.sum := by
  have := sum_mem (m := id) (l := l) (List.getElem_mem h)
  simpa using this
theorem dec_ops9 {H : Type} {enc : TypeId × Value → H} {W : World} {fuel : Nat} {cs : List Value} {x : DataW H × List MemPlace} (h : Reads enc Tryz.prog W fuel 71 cs x) (hb : Rows.uptoBulk x.1 ≤ 1048576) : ∃ (v : Value) (xs : List Op9), cs = [v] ∧ Ops9 (Old W) v xs := by
  obtain ⟨⟨v, xs⟩, ws, h1, h2, h3, h4, h5, -, h7⟩ := dec_sliceQV (N := 1048576) op9C (fun B o => B ≤ 1048576 → Op9A (Old W) o) Tryz.underlying71 (show Tryz.prog.cellsOf 73 = 17 by kernel_rfl) (by decide) (fun n cs y h => decOp n cs y h) h (by omega)
  dsimp only at h1 h2 h3 h4 h7
  refine ⟨v, xs, h1, h2, h3, fun o ho => ?_⟩
  obtain ⟨i, hi, rfl⟩ := List.mem_iff_getElem.1 ho
  have hw : i < ws.length := by omega
  exact h7 i hi hw (Nat.le_trans (sum_at hw) h5)
end Go.Proofs.YtidjhgbdokcphaaGreat

/- Own work: ledgerLasts: the walk, brought to the given second form and its card. -/

namespace Go.Proofs.YtidjhgbdokcphaaGreat.ledgerLasts
open Go Go.ChangeShapes Go.WideShapes Go.ChangeAt Go.RowKit
theorem own : ownKnob Tryz.prog.godebug = none := by kernel_rfl
theorem laid : laidOutB Tryz.prog = true := by kernel_rfl
theorem readable : ∀ t ∈ Tryz.f8.params.toList, Tryz.prog.readableRec t = true ∧ t < Tryz.prog.types.size := by
  have h : (Tryz.f8.params.toList.all fun t => Tryz.prog.readableRec t && decide (t < Tryz.prog.types.size)) = true := by kernel_rfl
  intro t ht
  simpa using List.all_eq_true.1 h t ht
theorem contract (H : Type) (enc : TypeId × Value → H) (W : World) (base : Nat) (args : Array Value) (ds gs : List (DataW H)) (before : List MemPlace)
    (hval : ∀ (j : Nat) t v, Tryz.f8.params[j]? = some t → args[j]? = some v → Value.okWide Tryz.prog W .any base t v)
    (hW : DataW.Whole enc Tryz.prog Tryz.f8.params.toList Rows.ledgerLastsSpec.vars false W args.toList ds gs before) (hk : Rows.uptoSmall H (ds ++ gs) = true) :
    Calls Tryz.prog 8 args W fun e W' => ∃ v, e = .returned v ∧ Rows.ledgerLastsSpec.post enc Tryz.prog Tryz.f8 false true false false W args v W' := by
  have hW' := hW
  obtain ⟨p, q, hA, hV, rfl, hfz, hnd⟩ := hW
  obtain ⟨rfl, -⟩ := trodVars_none hV
  rw [List.append_nil] at hk
  have hpar : Tryz.f8.params = #[3, 71, 3, 31] := Tryz.params8
  rw [hpar] at hval
  have hA' := hA
  rw [hpar] at hA'
  obtain ⟨v0, vs0, d0, ds0, p0, r0, ha0, rfl, rfl, h0, t0⟩ := trodAll_cons hA'
  obtain ⟨v1, vs1, d1, ds1, p1, r1, ha1, rfl, rfl, h1, t1⟩ := trodAll_cons t0
  obtain ⟨v2, vs2, d2, ds2, p2, r2, ha2, rfl, rfl, h2, t2⟩ := trodAll_cons t1
  obtain ⟨v3, vs3, d3, ds3, p3, r3, ha3, rfl, rfl, h3, t3⟩ := trodAll_cons t2
  obtain ⟨hv, rfl, rfl⟩ := trodAll_nil t3
  obtain rfl : args = #[v0, v1, v2, v3] := by
    have e : args.toList = [v0, v1, v2, v3] := by rw [ha0, ha1, ha2, ha3, hv]
    cases args; simp_all
  have b0 := bulk_small hk (d := d0) (by simp)
  obtain ⟨n0, rfl, -, q0⟩ := arg_int Tryz.underlying3 (hval 0 _ _ rfl rfl) h0
  have b1 := bulk_small hk (d := d1) (by simp)
  obtain ⟨ad1, nn1, cp1, rfl⟩ := okWide_slice Tryz.underlying71 (hval 1 _ _ rfl rfl)
  obtain ⟨fu1, g1⟩ := h1
  obtain ⟨v1, xs1, e1, q1⟩ := dec_ops9 g1 b1
  simp [Value.cells] at e1
  subst e1
  have b2 := bulk_small hk (d := d2) (by simp)
  obtain ⟨n2, rfl, -, q2⟩ := arg_int Tryz.underlying3 (hval 2 _ _ rfl rfl) h2
  have b3 := bulk_small hk (d := d3) (by simp)
  obtain ⟨ad3, nn3, cp3, rfl⟩ := okWide_slice Tryz.underlying31 (hval 3 _ _ rfl rfl)
  obtain ⟨fu3, g3⟩ := h3
  obtain ⟨v3, xs3, e3, q3⟩ := dec_ints9 g3 b3
  simp [Value.cells] at e3
  subst e3
  refine (old_calls (ledgerLasts_spec n0 n2 _ _ xs1 xs3 (Old W) q0 q2 q1 q3.1 q3.2.1)).mono fun e W' ⟨he, hb⟩ => ⟨_, he, ?_⟩
  exact settled hW' rfl (fun gs' h => by subst h; rfl) rfl Tryz.underlying4 laid readable hb
theorem lifted (os : Os) (started : os.Started) (H : Type) (enc : TypeId × Value → H) (F : Stop.Interp) :
    ReturnsInHanded {} Tryz.checked os 8 .any ((Rows.OpenSpec.upto Rows.ledgerLastsSpec).pre6 enc Tryz.prog Tryz.f8 Rows.ledgerLastsUptoRow.domain false) (((Rows.OpenSpec.upto Rows.ledgerLastsSpec).at F).post enc Tryz.prog Tryz.f8 false true false false) := by
  refine returnsInHanded_of_cond (C := Tryz.checked) (s := Rows.OpenSpec.upto Rows.ledgerLastsSpec) (k := Rows.uptoSmall) rfl own started (by kernel_rfl) Tryz.func8
    (OpenSpec.witness (enc := enc) (C := Tryz.checked) (s := Rows.OpenSpec.upto Rows.ledgerLastsSpec) (k := Rows.uptoSmall) rfl false ⟨#[], #[.int .i64 0, .slice none 0 0, .int .i64 0, .slice none 0 0], []⟩ 8 (by kernel_rfl) (by kernel_rfl) (by kernel_rfl)
      (x := ([.lit (.int .i64 0), .nil, .lit (.int .i64 0), .nil], [], [])) (by kernel_rfl) rfl (by kernel_rfl)) ?_
  intro W base args ds gs before hval hW _ hk _
  exact contract H enc W base args ds gs before hval hW hk
theorem proved : Rows.LedgerLastsUptoSaid :=
  OpenClaim.holds_of_cond 8 Tryz.f8 rfl rfl rfl rfl rfl rfl rfl ⟨rfl, rfl, rfl, rfl, rfl⟩ rfl rfl rfl rfl rfl (by kernel_rfl) Tryz.func8 (by kernel_rfl)
    (of_decide_eq_true (by kernel_rfl)) (by unfold Func.isWrapper; first | (rw [if_pos (by decide +kernel)]; kernel_rfl) | (rw [if_neg (by decide +kernel)]; exact ⟨rfl, rfl⟩))
    (fun os started H enc _ F => lifted os started H enc F)
end Go.Proofs.YtidjhgbdokcphaaGreat.ledgerLasts

