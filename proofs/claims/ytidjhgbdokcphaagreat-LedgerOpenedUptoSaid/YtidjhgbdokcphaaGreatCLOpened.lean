/- Own work, some of it printed by program, texts that were built one by one and are laid one behind the other here: scripts on a disk that lives; how marks are counted: plain. | LedgerOpened: walked. | from what a call is given to the atoms of SlCore, and back to what a statement asks. | strings and rows of strings as arguments. | nested arguments decoded: slices of structs, and what the row says of their weight. | arguments of a bounded bulk (the second form's bound), decoded. | arguments of law 09, decoded with their weights. | scripts of law 09, decoded. | ledgerOpened: the walk, brought to the given second form and its card. -/
import Derived.Test.YtidjhgbdokcphaaGreatCLOpenedP4
import Derived.Test.YtidjhgbdokcphaaGreatCLOpenedP3
import Derived.Test.YtidjhgbdokcphaaGreatCLOpenedP0
import Derived.Test.YtidjhgbdokcphaaGreatRows
import Derived.WalkKit
import Derived.ProofKit
import Derived.OpenShut
import Derived.JoinedCond
import Derived.Carry
import Derived.Deep.Grids
import Derived.Handed
import Derived.Deep.Strs
set_option linter.unusedSimpArgs false
set_option linter.unusedVariables false
/- Own work: scripts on a disk that lives; how marks are counted: plain. -/
namespace Go.Proofs.YtidjhgbdokcphaaGreat
open Go

theorem dbt_count (r : Dk × Wl × Int) : (dbt r).2.1.count = r.2.1.count := by unfold dbt; split <;> rfl
theorem seal_count (δ : Dk) (ω : Wl) (ar : Int) (l : List Bs) : (sealZ δ ω ar l).2.1.count ≤ ω.count + 1 := by
  unfold sealZ
  repeat' split
  all_goals (dsimp only; omega)
theorem append_count (δ : Dk) (ω : Wl) (s : Bs) : (appendZ δ ω s).2.1.count ≤ ω.count + 1 := by
  unfold appendZ
  repeat' split
  all_goals first | (rw [dbt_count]; dsimp only; omega) | (dsimp only; omega)
theorem sync_count (δ : Dk) (ω : Wl) : (syncZ δ ω).2.1.count ≤ ω.count + 1 := by
  unfold syncZ
  repeat' split
  all_goals first | (rw [dbt_count]; exact seal_count _ _ _ _) | (dsimp only; omega)
theorem cut_count (δ : Dk) (ω : Wl) (n : Int) : (cutZ δ ω n).2.1.count ≤ ω.count + 1 := by
  unfold cutZ
  repeat' split
  all_goals first | (rw [dbt_count]; exact seal_count _ _ _ _) | (dsimp only; omega)
theorem renew_count (δ : Dk) (ω : Wl) (l : List Bs) : (renewZ δ ω l).2.1.count ≤ ω.count + 1 := by
  unfold renewZ
  repeat' split
  all_goals first | (rw [dbt_count]; exact seal_count _ _ _ _) | (rw [dbt_count]; dsimp only; omega) | (dsimp only; omega)
theorem setm_count (δ : Dk) (ω : Wl) (a b : Int) : (setmZ δ ω a b).2.1.count ≤ ω.count + 1 := by
  unfold setmZ
  repeat' split
  all_goals first | (rw [dbt_count]; dsimp only; omega) | (dsimp only; omega)
theorem lsync_count (s : Ld) : (lgSync s).1.ω.count ≤ s.ω.count + 1 := by
  unfold lgSync
  split
  · show s.ω.count ≤ _; omega
  · exact sync_count _ _
theorem lrenew_count (s : Ld) (b : Int) (sn : Bs) (es : List Bs) (zs : List Int) : (lgRenew s b sn es zs).1.ω.count ≤ s.ω.count + 1 := by
  unfold lgRenew
  split
  · dsimp only; omega
  · split <;> exact renew_count _ _ _
theorem does_count (s : Ld) (o : Op9) (k : Int) : (lgDoes s o k).1.ω.count ≤ s.ω.count + 2 := by
  unfold lgDoes
  split
  · have h := append_count s.δ s.ω (enB o.e)
    unfold lgAppend
    repeat' split
    all_goals first | (dsimp only; omega) | (show (appendZ s.δ s.ω (enB o.e)).2.1.count ≤ _; omega)
  split
  · have := lsync_count s; omega
  split
  · have h := setm_count s.δ s.ω o.n s.Λ.cur
    unfold lgAccept
    repeat' split
    all_goals first | (dsimp only; omega) | (show (setmZ s.δ s.ω o.n s.Λ.cur).2.1.count ≤ _; omega)
  split
  · have h := lsync_count s
    have h2 := setm_count (lgSync s).1.δ (lgSync s).1.ω (lgSync s).1.Λ.acc o.n
    unfold lgAdopt
    repeat' split
    all_goals first | (dsimp only; omega) | omega | skip
    unfold lgAdopt2
    split
    · show (setmZ _ _ _ _).2.1.count ≤ _; omega
    · show (setmZ _ _ _ _).2.1.count ≤ _; omega
  split
  · unfold lgCut
    repeat' split
    all_goals first | (dsimp only; omega) | skip
    rename_i n _
    have h := cut_count s.δ s.ω (((headL s.Λ.base s.Λ.snap).length + n : Nat) : Int)
    unfold lgCut2
    split
    · show (cutZ _ _ _).2.1.count ≤ _; omega
    · show (cutZ _ _ _).2.1.count ≤ _; omega
  split
  · unfold lgInstall
    repeat' split
    all_goals first | (dsimp only; omega) | skip
    have := lrenew_count s o.n (textZ o) (o.l.map enB) (o.l.map (·.zx)); omega
  · unfold lgCompact
    repeat' split
    all_goals first | (dsimp only; omega) | skip
    rename_i n _
    have := lrenew_count s o.n (textZ o) (s.Λ.ents.drop n) (s.Λ.zxs.drop n); omega
theorem lk_does {p : HP} {s : Ld} {N : Int} (h : LWell s N) {o : Op9} (ho : Op9A p o) (k : Int) : (lgDoes s o k).2 ≠ 2 := by
  unfold lgDoes
  split
  · exact (lk_append h ho.e.l.w.i).live
  split
  · exact (lk_sync h).2.2.2.1
  split
  · exact (lk_accept h o.n).1.live
  split
  · exact (lk_adopt h o.n).1.live
  split
  · exact (lk_cut h o.n).live
  split
  · exact (lk_install h ho.n.2 _ (fun e he => (ho.x e he).l.w.i)).live
  · exact (lk_compact h o.n _).live
/-- On a disk that lives and is not armed. -/
structure Live (s : Ld) (N : Int) (c : Int) : Prop where
  l : LLv s N
  calm : s.calm = s
  count : s.ω.count ≤ c
theorem Live.w {s : Ld} {N c : Int} (h : Live s N c) : LWell s N := by have := h.l.lw; rw [h.calm] at this; exact this
theorem Live.more {s : Ld} {N M c c' : Int} (h : Live s N c) (hN : N ≤ M) (hc : c ≤ c') : Live s M c' := ⟨h.l.more hN, h.calm, by have := h.count; omega⟩
theorem live_does {p : HP} {s : Ld} {N c : Int} (h : Live s N c) {o : Op9} (ho : Op9A p o) (k : Int) : Live (lgDoes s o k).1 (N + 8000000) (c + 2) ∧ (lgDoes s o k).2 ≠ 2 := by
  have h2 := lk_does h.w ho k
  obtain ⟨q1, q2⟩ := (lr_does h.l ho k).live h2
  rw [h.calm] at q2
  refine ⟨⟨q1.more (by omega), ?_, by have := does_count s o k; have := h.count; omega⟩, h2⟩
  exact (congrArg Prod.fst q2).symm
theorem live_sync {s : Ld} {N c : Int} (h : Live s N c) (hc : c < 4294967295) : Live (lgSync s).1 (N + 4000000) (c + 1) ∧ (lgSync s).2 = 0 ∧ (lgSync s).1.ω.synced = (lgSync s).1.ω.recs.length ∧ (lgSync s).1.Λ = s.Λ := by
  have hw := h.w
  obtain ⟨k1, k2, k3, k4, k5⟩ := lk_sync hw
  obtain ⟨q1, q2⟩ := (lr_sync h.l).live k4
  rw [h.calm] at q2
  have hcnt := h.count
  have e0 : (lgSync s).2 = 0 := by
    unfold lgSync
    rw [if_neg (by rw [hw.live]; decide)]
    rcases (well_sync hw.well).2.2 with ⟨c', g⟩ | g
    · show metE (syncZ s.δ s.ω).2.2 = 0; rw [g]; exact (by decide : metE 0 = 0)
    · exfalso
      have h2 : syncZ s.δ s.ω = (s.δ, s.ω, 30) := g
      unfold syncZ at h2
      rw [if_neg (by rw [hw.well.doubt]; decide)] at h2
      split at h2
      · have := congrArg (fun r => r.2.2) h2; revert this; show (0 : Int) = 30 → False; decide
      · rw [if_neg (by omega)] at h2
        obtain ⟨e, -, -⟩ := well_seal hw.well (by omega) hw.well.area hw.well.fits hw.well.al rfl (by have := hw.well.acts; omega)
        have h3 : (dbt (sealZ s.δ s.ω s.ω.area s.ω.recs)).2 = (s.ω, 30) := by rw [h2]
        rw [e] at h3
        have := congrArg Prod.snd h3; revert this; show (0 : Int) = 30 → False; decide
  obtain ⟨f1, f2⟩ := k5 e0
  exact ⟨⟨q1, (congrArg Prod.fst q2).symm, by have := lsync_count s; omega⟩, e0, by rw [f2]; exact f1, k3⟩
theorem live_open {s : Ld} {N c : Int} (h : Live s N c) (hs : s.ω.synced = s.ω.recs.length) (hok : s.δ.Ok) : openZ s.δ = some s.ω ∧ openLZ s.ω = some s.Λ := by
  have hw := h.w
  refine ⟨opened_full h.l.lv.kp hw.well hok hs, ?_⟩
  unfold openLZ
  have := hw.w.eps
  rw [if_neg (by rw [hw.a, hw.b]; omega), hw.a, hw.b, hw.recs]
  exact lparse_back hw.w hw.live
theorem format_live {n : Int} (h : 16 ≤ n ∧ n ≤ 32768) : ∃ ω, (lgFormat (Dk.new n)).2 = some ω ∧ Live ⟨(lgFormat (Dk.new n)).1, ω, lg0⟩ 4000003 3 ∧ Well (formatZ (Dk.new n)).1 newW 3 ∧ Well (lgF1 (Dk.new n)).1 (lgF1 (Dk.new n)).2.1 2000003 := by
  obtain ⟨ω, f1, f2, f4, f5⟩ := format_llv h
  obtain ⟨ω', g1, g2, -⟩ := format_lwell h
  rw [f1] at g1; cases g1
  refine ⟨ω, f1, ⟨f2, ?_, ?_⟩, f4, f5⟩
  · show (⟨(lgFormat (Dk.new n)).1.calm, ω, lg0⟩ : Ld) = _
    rw [calm_of g2.well.al]
  · show ω.count ≤ 3
    rw [(lgFormat_ok f1).2.2.1]
    have h1 := sync_count (lgF1 (Dk.new n)).1 (lgF1 (Dk.new n)).2.1
    have h2 := append_count (formatZ (Dk.new n)).1 newW (headB 0 0)
    have h3 : newW.count = 1 := rfl
    show (syncZ _ _).2.1.count ≤ 3
    have h4 : (lgF1 (Dk.new n)).2.1.count = (appendZ (formatZ (Dk.new n)).1 newW (headB 0 0)).2.1.count := rfl
    omega
end Go.Proofs.YtidjhgbdokcphaaGreat

/- Own work, by program: LedgerOpened: walked. -/
namespace Go.Proofs.YtidjhgbdokcphaaGreat
open Go
set_option maxRecDepth 100000 in
theorem ledgerOpened_spec (n0 n2 : Int) (v1 : Value) (xs : List Op9) (p : HP) (hn0 : I64 n0) (hn2 : I64 n2) (hx : Ops9 p v1 xs) : Fn Tryz.prog 7 #[vint n0, v1, vint n2] [p] fun v L => v = .bool true ∧ L = [p] := by
 refine Fn.intro (vs := [vint n0, v1, vint n2]) Tryz.func7 rfl rfl ?_
 intro F W
 have hcells := hx.cells
 have hel := hx.len
 refine G.rdAny (p := p) hcells (by (repeat' constructor)) fun a0 c0 e _ => ?_
 subst e
 have hpn := pickZ_range n0 (n := 400) (by decide)
 have hp5 := pickZ_range n2 (n := 5) (by decide)
 obtain ⟨ω0, hf1, hf2, hf3, hf4⟩ := format_live (n := (64 + pickZ n0 400)) (by omega)
 refine G.seq (G.region (G.q (Quiet.assign rfl) rfl (G.nil (G.then_n (G.seq (G.region ?_))))))
 refine G.op (OpSpec.call Tryz.func10 rfl rfl (vs := []) rfl (awake9_spec)) (by (repeat' constructor)) rfl ?nx2
 rintro v L' ⟨rfl, rfl⟩
 refine G.q (Quiet.assign rfl) rfl (G.nil (G.then_n (G.seq (G.region (G.q (Quiet.move rfl) rfl ?_)))))
 refine G.op (OpSpec.call Tryz.func26 rfl rfl (vs := [_, _]) rfl (pick9_spec n0 400 hn0 (by decide))) (by (repeat' constructor)) rfl ?nx5
 rintro v L' ⟨rfl, rfl⟩
 refine G.q (Quiet.add rfl rfl (by omega)) rfl ?_
 refine G.op (OpSpec.call Tryz.func11 rfl rfl (vs := [_]) rfl (new_spec (64 + pickZ n0 400))) (by (repeat' constructor)) rfl ?nx8
 rintro v L' (⟨h, -, -⟩ | ⟨-, d, rfl, rfl⟩); · omega
 refine G.q (Quiet.move rfl) rfl (G.q (Quiet.extract rfl rfl) rfl (G.q (Quiet.extract rfl rfl) rfl (G.q (Quiet.assign rfl) rfl (G.q (Quiet.assign rfl) rfl (G.nil (G.then_n (G.seq (G.region (G.q (Quiet.move rfl) rfl ?_)))))))))
 refine G.op (OpSpec.call Tryz.func12 rfl rfl (vs := [_]) rfl (lformat_spec d (Dk.new (64 + pickZ n0 400)) (by show (0 : Int) + 10 < _; decide) (hf3.i (by decide)) (hf4.i (by decide)))) (by (repeat' constructor)) rfl ?nx12
 rintro v L' (⟨h, -, -⟩ | ⟨ω1, g, x, hw1, rfl, rfl⟩); · rw [hf1] at h; cases h
 rw [hf1] at hw1; cases hw1
 refine G.q (Quiet.move rfl) rfl (G.q (Quiet.extract rfl rfl) rfl (G.q (Quiet.extract rfl rfl) rfl (G.q (Quiet.assign rfl) rfl (G.q (Quiet.assign rfl) rfl (G.nil (G.then_n (G.seq (G.seq (G.region (G.q (Quiet.move rfl) rfl (G.q (Quiet.not rfl) rfl (G.q (Quiet.move rfl) rfl (G.grun (t := 34) rfl rfl rfl (G.q (Quiet.move rfl) rfl (G.grun (t := 34) rfl rfl rfl (G.q (Quiet.ptreq rfl rfl Tryz.underlying28) rfl (G.q (Quiet.pickF rfl rfl) rfl (G.q (Quiet.move rfl) rfl (G.grun (t := 38) rfl rfl rfl (G.q (Quiet.move rfl) rfl (G.grun (t := 38) rfl rfl rfl ?_)))))))))))))))))))))
 refine G.q (Quiet.as (v' := .bool false) (by rfl) (Quiet.int rfl rfl rfl)) rfl ?_
 refine G.q (Quiet.pickF rfl rfl) rfl (G.q (Quiet.move rfl) rfl (G.grun (t := 42) rfl rfl rfl (G.q (Quiet.move rfl) rfl (G.grun (t := 42) rfl rfl rfl ?_))))
 refine G.q (Quiet.as (v' := .bool false) (by rfl) (Quiet.int rfl rfl rfl)) rfl ?_
 refine G.q (Quiet.pickF rfl rfl) rfl (G.nil (G.then_n (G.condF rfl (G.skip (G.then_n (G.seq (G.seq (G.region (G.q (Quiet.assign rfl) rfl (G.nil (G.then_n (G.block ?_))))))))))))
 refine G.loopK (ι := Nat × Ld) (fun q E => (12, vint q.1) :: E) (fun q => [lgR g x q.2.Λ, wlR x d q.2.ω, dkR d q.2.δ]) (fun q => q.1 ≤ xs.length ∧ q.1 ≤ 60 ∧ Live q.2 (4000003 + q.1 * 8000000) (3 + 2 * q.1)) (fun q => xs.length - q.1) (0, ⟨(lgFormat (Dk.new (64 + pickZ n0 400))).1, ω0, lg0⟩) (ts := [1, 2, 6, 8, 10]) (.cons rfl (.cons rfl (.cons rfl (.cons rfl (.cons rfl (.nil)))))) (⟨Nat.zero_le _, Nat.zero_le _, hf2.more (by dsimp only; omega) (by dsimp only; omega)⟩) ⟨rfl, rfl, rfl, rfl, rfl, rfl, trivial⟩ (by (repeat' constructor)) ?_
 rintro ⟨i, s⟩ ⟨hi, hi1, hL⟩
 dsimp only
 dsimp only at hi hi1 hL
 refine G.seq (G.seq (G.region (G.q (Quiet.move rfl) rfl (G.q (Quiet.move rfl) rfl (G.q (Quiet.slen rfl Tryz.underlying71 rfl) rfl (G.q (Quiet.int rfl rfl rfl) rfl (G.q (Quiet.move rfl) rfl ?_)))))))
 refine G.dec (t := 50) rfl (fun h7_50 => ?_) (fun h7_50 => ?_)
 ·refine G.kDT (t := 49) rfl h7_50 (G.grun (t := 50) rfl rfl rfl (G.q (Quiet.move rfl) rfl (G.grun (t := 50) rfl rfl rfl (G.q (Quiet.int rfl rfl rfl) rfl (G.q (Quiet.pickT rfl rfl) rfl (G.nil (G.then_n ?_)))))))
  refine G.condD rfl (fun h53 => ?_) (fun h53 => ?_)
  ·have hi2 : i < xs.length := by omega
   refine G.rdShape (p := p) hcells (by (repeat' constructor)) (by omega) fun ba oa e => ?_
   subst e
   have ho := hx.each _ (List.getElem_mem hi2)
   have hpk := pickZ_range xs[i].k (n := 7) (by decide)
   refine G.skip (G.then_n (G.seq (G.block (G.seq (G.region (G.q (Quiet.move rfl) rfl (G.q (Quiet.move rfl) rfl ?_)))))))
   refine G.q (Quiet.indexAddr rfl rfl el_71 (by omega)) rfl ?_
   refine G.q (Quiet.loadRdA (sz := 17) (j := i * 17) (k := 17) (p := p) (vs := op9C xs[i]) rfl ag_73 (by (repeat' constructor)) hcells (by simp) (by omega) (by omega) (op9_at hi2)) rfl ?_
   refine G.op (OpSpec.allocA ze_73) (by (repeat' constructor)) rfl ?nx31
   rintro v L' ⟨bo, rfl, rfl⟩
   refine G.op (OpSpec.storeA rfl rfl ?c33 sz_73 ?c36 ?c34 ?c35) (by (repeat' constructor)) rfl ?nx37
   case c33 => exact op9K_cells ho _
   case c36 => rfl
   case c34 => simp [op9K, op9C, enC, ptC]
   case c35 => exact nfz0 _ _
   rintro v L' rfl
   refine G.nil ?_
   refine G.ptCast (b := bo) (l' := op9K xs[i] xs[i].k) (by (repeat' constructor)) (by exact rfl) ?_
   refine G.then_n (G.seq (G.region (G.q (Quiet.fieldAddr rfl fo_73_0) rfl ?_)))
   refine G.q (Quiet.load rfl ag_3 (by (repeat' constructor)) (rfl)) rfl ?_
   refine G.op (OpSpec.call Tryz.func26 rfl rfl (vs := [_, _]) rfl (pick9_spec xs[i].k 7 ho.k (by decide))) (by (repeat' constructor)) rfl ?nx40
   rintro v L' ⟨rfl, rfl⟩
   refine G.q (Quiet.add rfl rfl (by omega)) rfl ?_
   refine G.q (Quiet.fieldAddr rfl fo_73_0) rfl ?_
   refine G.op (OpSpec.store rfl rfl rfl sz_3 ?c44 ?c45) (by (repeat' constructor)) rfl ?nx46
   case c44 => simp [op9K, op9C, enC, ptC]
   case c45 => exact nfz0 _ _
   rintro v L' rfl
   refine G.nil ?_
   refine G.ptCast (b := bo) (l' := op9K xs[i] (1 + pickZ xs[i].k 7)) (by (repeat' constructor)) (by exact rfl) ?_
   refine G.then_n (G.region (G.q (Quiet.move rfl) rfl ?_))
   refine G.q (Quiet.loadAs (vs := op9K xs[i] (1 + pickZ xs[i].k 7)) rfl ag_73 (by (repeat' constructor)) (by simp [op9K, op9C, enC, ptC]) rfl) rfl ?_
   refine G.op (OpSpec.call Tryz.func32 rfl rfl (vs := [_, _]) rfl (does9_spec g x d s.δ s.ω s.Λ xs[i] (1 + pickZ xs[i].k 7) p (4000003 + i * 8000000) hL.l (by omega) ho)) (by (repeat' constructor)) rfl ?nx49
   rintro v L' ⟨rfl, rfl⟩; have hlv := (live_does hL ho (1 + pickZ xs[i].k 7)).1; obtain ⟨r, hr⟩ : ∃ r, lgDoes ⟨s.δ, s.ω, s.Λ⟩ xs[i] (1 + pickZ xs[i].k 7) = r := ⟨_, rfl⟩; rw [hr]; rw [show lgDoes s xs[i] (1 + pickZ xs[i].k 7) = r from hr] at hlv
   refine G.nil (G.blk_n (G.then_n (G.region (G.q (Quiet.move rfl) rfl ?_))))
   refine G.q (Quiet.add rfl rfl (by omega)) rfl ?_
   refine G.q (Quiet.assign rfl) rfl (G.nil (G.then_n ?_))
   exact G.roundK ((i + 1, r.1)) (⟨by dsimp only; omega, by dsimp only; omega, hlv.more (by dsimp only; omega) (by dsimp only; omega)⟩) (by dsimp only; omega) ⟨rfl, rfl, rfl, rfl, rfl, rfl, trivial⟩ (by (repeat' constructor)) (by ((repeat (apply Have.cons; (repeat (first | exact Pick.here | apply Pick.there)))); apply Have.base; repeat' constructor))
  ·refine G.exit (G.then_e (G.then_e (G.blk_e (G.then_n (G.seq (G.region (G.q (Quiet.move rfl) rfl ?_)))))))
   refine G.op (OpSpec.call Tryz.func28 rfl rfl (vs := [_]) rfl (lsync_spec g x d s.δ s.ω s.Λ (hL.l.lv.i (by omega)))) (by (repeat' constructor)) rfl ?nx54
   rintro v L' ⟨rfl, rfl⟩; obtain ⟨hT, -, hTs, -⟩ := live_sync hL (by omega); obtain ⟨t, ht⟩ : ∃ t, (lgSync ⟨s.δ, s.ω, s.Λ⟩).1 = t := ⟨_, rfl⟩; rw [ht]; rw [show (lgSync s).1 = t from ht] at hT hTs
   refine G.nil (G.then_n (G.seq (G.region (G.q (Quiet.move rfl) rfl ?_))))
   refine G.op (OpSpec.call Tryz.func35 rfl rfl (vs := [_]) rfl (told9_spec g x t.Λ hT.l.lw.w)) (by (repeat' constructor)) rfl ?nx57
   rintro v L' ⟨sw, rfl, rfl⟩
   refine G.op (OpSpec.allocA ze_82) (by (repeat' constructor)) rfl ?nx59
   rintro v L' ⟨b14, rfl, rfl⟩
   refine G.toldOpen (sl := sw) (by (repeat' constructor)) fun x1 y1 e1 hs1 hm1 hn1 hk1 => ?_
   subst hs1
   refine G.op (OpSpec.storeA rfl rfl ?c61 sz_82 ?c64 ?c62 ?c63) (by (repeat' constructor)) rfl ?nx65
   case c61 => simp [isCell]
   case c64 => rfl
   case c62 => simp
   case c63 => exact nfz0 _ _
   rintro v L' rfl
   refine G.nil ?_
   refine G.toldFold (a := x1) (c := y1) (m := e1.length) (es := e1) (.slice x1 e1.length y1) t.Λ.ents (by (repeat' constructor)) rfl rfl rfl hm1 hn1 hk1 ?_
   obtain ⟨sw, hsw⟩ : ∃ sw, Value.slice x1 e1.length y1 = sw := ⟨_, rfl⟩
   rw [hsw]
   refine G.ptCast (b := b14) (l' := [vint t.Λ.base, vstr t.Λ.snap, sw, vint t.Λ.acc, vint t.Λ.cur]) (by (repeat' constructor)) (by rw [← hsw]; exact rfl) ?_
   refine G.then_n (G.seq (G.region (G.q (Quiet.move rfl) rfl ?_)))
   refine G.op (OpSpec.call Tryz.func36 rfl rfl (vs := [_]) rfl (acts_spec d t.δ)) (by (repeat' constructor)) rfl ?nx67
   rintro v L' ⟨rfl, rfl⟩
   refine G.q (Quiet.assign rfl) rfl (G.nil (G.then_n (G.seq (G.seq ?_))))
   refine G.dkOk (by (repeat' constructor)) fun hok => ?_
   obtain ⟨ho1, ho2⟩ := live_open hT hTs hok
   have hsz := hT.w.well.size
   have hdd := hT.l.lv.dead
   have hopn := LLv.opened (σ := t.δ) (ω := t.ω) (Λ := t.Λ) hT.l
   have htw : LgW t.Λ := hT.l.lw.w
   have hmk : (marksZ t.Λ).length ≤ 4294967296 := by have h1 := mk_lens (t.Λ.base :: t.Λ.zxs) _ (Nat.le_refl _); rw [List.take_length, List.length_cons] at h1; have h2 := htw.rows.len; have h3 := htw.few; unfold marksZ; omega
   refine G.region (G.q (Quiet.assign rfl) rfl (G.nil (G.then_n (G.block ?_))))
   refine G.loopK (ι := Nat) (fun q E => (16, vint q) :: E) (fun q => []) (fun q => (q : Int) ≤ pickZ n2 5 + 1) (fun q => (pickZ n2 5 + 1 - q).toNat) (0) (ts := [2, 8, 10, 14, 15]) (.cons rfl (.cons rfl (.cons rfl (.cons rfl (.cons rfl (.nil)))))) (by omega) ⟨rfl, rfl, rfl, rfl, rfl, rfl, trivial⟩ (by (repeat' constructor)) ?_
   rintro j hj
   refine G.seq (G.seq (G.region (G.q (Quiet.move rfl) rfl (G.q (Quiet.move rfl) rfl ?_))))
   refine G.op (OpSpec.call Tryz.func26 rfl rfl (vs := [_, _]) rfl (pick9_spec n2 5 hn2 (by decide))) (by (repeat' constructor)) rfl ?nx72
   rintro v L' ⟨rfl, rfl⟩
   refine G.q (Quiet.int rfl rfl rfl) rfl (G.nil (G.then_n ?_))
   refine G.condD rfl (fun h77 => ?_) (fun h77 => ?_)
   ·refine G.skip (G.then_n (G.seq (G.block (G.seq (G.region (G.q (Quiet.move rfl) rfl ?_))))))
    refine G.op (OpSpec.call Tryz.func18 rfl rfl (vs := [_]) rfl (lopen_spec d t.δ hsz hok (fun ω9 h9 => by rw [ho1] at h9; cases h9; exact hopn))) (by (repeat' constructor)) rfl ?nx76
    rintro v L' (⟨h, -, -⟩ | ⟨-, h, -, -⟩ | ⟨-, ω9, h9, ⟨h, -, -⟩ | ⟨Λ9, m, y, hl9, rfl, rfl⟩⟩); · rw [hdd] at h; cases h
    · rw [ho1] at h; cases h
    · rw [ho1] at h9; cases h9; rw [ho2] at h; cases h
    rw [ho1] at h9; cases h9; rw [ho2] at hl9; cases hl9
    refine G.q (Quiet.move rfl) rfl (G.q (Quiet.extract rfl rfl) rfl (G.q (Quiet.extract rfl rfl) rfl (G.q (Quiet.assign rfl) rfl (G.q (Quiet.assign rfl) rfl (G.nil (G.then_n (G.seq ?_)))))))
    refine G.draw [8, 10, 15, 17, 18, 23, 25] [[0, 1, 2, 3, 4, 5, 6, 7, 9, 8], [10], [11, 12, 13, 14, 16, 15], [17], [18], [19, 20, 21, 22, 24, 23], [25], [26, 27]] mixed (by kernel_rfl) ?_
    refine Phases.go [ptc b14 _ _] (by (repeat' constructor)) ?_
    refine D.qw [1, 2, 3, 4, 5, 6, 7, 9, 8] rfl (by kernel_rfl) (Quiet.move rfl) ?_
    refine D.qw [2, 3, 4, 5, 6, 7, 9, 8] rfl (by kernel_rfl) (Quiet.ptreq rfl rfl Tryz.underlying28) ?_
    refine D.qw [3, 4, 5, 6, 7, 9, 8] rfl (by kernel_rfl) (Quiet.move rfl) ?_
    refine D.gqw [4, 5, 6, 7, 9, 8] (t := 87) rfl rfl rfl (by kernel_rfl) (Quiet.move rfl) ?_
    refine D.gqw [5, 6, 7, 9, 8] (t := 87) rfl rfl rfl (by kernel_rfl) (Quiet.as (v' := .bool false) (by rfl) (Quiet.int rfl rfl rfl)) ?_
    refine D.qw [6, 7, 9, 8] rfl (by kernel_rfl) (Quiet.pickF rfl rfl) ?_
    refine D.qw [7, 9, 8] rfl (by kernel_rfl) (Quiet.move rfl) ?_
    refine D.gqw [8] (t := 91) rfl rfl rfl (by kernel_rfl) (Quiet.move rfl) ?_
    refine D.gq (t := 91) rfl rfl rfl (by kernel_rfl) (Quiet.loadAs (vs := [vint t.Λ.base, vstr t.Λ.snap, sw, vint t.Λ.acc, vint t.Λ.cur]) rfl ag_82 (by (repeat' constructor)) (by simp) rfl) ?_
    refine D.gh (t := 91) rfl rfl rfl (by kernel_rfl) (OpSpec.call Tryz.func35 rfl rfl (vs := [_]) rfl (told9_spec m y t.Λ htw)) (by (repeat' constructor)) ?nx83
    rintro v L' ⟨sl, rfl, rfl⟩
    refine D.ph ?_
    refine Phases.go [] (by (repeat' constructor)) ?_
    refine D.gh (t := 91) rfl rfl rfl (by kernel_rfl) (OpSpec.call Tryz.func37 rfl rfl (vs := [_, _]) rfl (equal9_spec t.Λ.base t.Λ.cur t.Λ.acc t.Λ.base t.Λ.cur t.Λ.acc t.Λ.snap t.Λ.snap sl sw t.Λ.ents t.Λ.ents)) (by (repeat' constructor)) ?nx85
    rintro v L' ⟨rfl, rfl⟩; rw [decide_eq_true (⟨rfl, rfl, rfl, rfl, rfl⟩ : t.Λ.ents = t.Λ.ents ∧ t.Λ.base = t.Λ.base ∧ t.Λ.snap = t.Λ.snap ∧ t.Λ.acc = t.Λ.acc ∧ t.Λ.cur = t.Λ.cur)]
    refine D.ph ?_
    refine Phases.go [ptc b14 _ _] (by (repeat' constructor)) ?_
    refine D.gqw [12, 13, 14, 16, 15] (t := 91) rfl rfl rfl (by kernel_rfl) (Quiet.not rfl) ?_
    refine D.qw [13, 14, 16, 15] rfl (by kernel_rfl) (Quiet.pickF rfl rfl) ?_
    refine D.qw [14, 16, 15] rfl (by kernel_rfl) (Quiet.move rfl) ?_
    refine D.gqw [15] (t := 98) rfl rfl rfl (by kernel_rfl) (Quiet.move rfl) ?_
    refine D.gq (t := 98) rfl rfl rfl (by kernel_rfl) (Quiet.move rfl) ?_
    refine D.gh (t := 98) rfl rfl rfl (by kernel_rfl) (OpSpec.call Tryz.func15 rfl rfl (vs := [_]) rfl (lmarks_spec m y t.Λ htw.i)) (by (repeat' constructor)) ?nx89
    rintro v L' ⟨am, cm, rfl, rfl⟩
    refine D.ph ?_
    refine Phases.go [] (by (repeat' constructor)) ?_
    refine D.gh (t := 98) rfl rfl rfl (by kernel_rfl) (OpSpec.call Tryz.func15 rfl rfl (vs := [_]) rfl (lmarks_spec g x t.Λ htw.i)) (by (repeat' constructor)) ?nx91
    rintro v L' ⟨al, cl, rfl, rfl⟩
    refine D.ph ?_
    refine Phases.go [] (by (repeat' constructor)) ?_
    refine D.gh (t := 98) rfl rfl rfl (by kernel_rfl) (OpSpec.call Tryz.func14 rfl rfl (vs := [_, _]) rfl (numbers9_spec _ _ (marksZ t.Λ) (marksZ t.Λ) (intR (.slice am (marksZ t.Λ).length cm) (marksZ t.Λ)) (intR (.slice al (marksZ t.Λ).length cl) (marksZ t.Λ)) (fun h hp => slR_rd hp) (fun h hp => slR_rd hp) hmk hmk)) (by (repeat' constructor)) ?nx93
    rintro v L' ⟨rfl, rfl⟩; rw [decide_eq_true rfl]
    refine D.ph ?_
    refine Phases.go [ptc b14 _ _] (by (repeat' constructor)) ?_
    refine D.gqw [20, 21, 22, 24, 23] (t := 98) rfl rfl rfl (by kernel_rfl) (Quiet.not rfl) ?_
    refine D.qw [21, 22, 24, 23] rfl (by kernel_rfl) (Quiet.pickF rfl rfl) ?_
    refine D.qw [22, 24, 23] rfl (by kernel_rfl) (Quiet.move rfl) ?_
    refine D.gqw [23] (t := 106) rfl rfl rfl (by kernel_rfl) (Quiet.move rfl) ?_
    refine D.gq (t := 106) rfl rfl rfl (by kernel_rfl) (Quiet.move rfl) ?_
    refine D.gh (t := 106) rfl rfl rfl (by kernel_rfl) (OpSpec.call Tryz.func17 rfl rfl (vs := [_]) rfl (llast_spec m y t.Λ htw.i)) (by (repeat' constructor)) ?nx97
    rintro v L' ⟨rfl, rfl⟩
    refine D.ph ?_
    refine Phases.go [] (by (repeat' constructor)) ?_
    refine D.gh (t := 106) rfl rfl rfl (by kernel_rfl) (OpSpec.call Tryz.func17 rfl rfl (vs := [_]) rfl (llast_spec g x t.Λ htw.i)) (by (repeat' constructor)) ?nx99
    rintro v L' ⟨rfl, rfl⟩
    refine D.ph ?_
    refine Phases.go [] (by (repeat' constructor)) ?_
    refine D.gqw [27] (t := 106) rfl rfl rfl (by kernel_rfl) (Quiet.as (v' := .bool false) (by simp) (Quiet.int rfl rfl rfl)) ?_
    refine D.qw [] rfl (by kernel_rfl) (Quiet.pickF rfl rfl) ?_
    refine D.ph (Phases.fin (G.then_n (G.condF rfl (G.skip (G.blk_n (G.then_n (G.region (G.q (Quiet.move rfl) rfl ?_))))))))
    refine G.q (Quiet.add rfl rfl (by omega)) rfl ?_
    refine G.q (Quiet.assign rfl) rfl (G.nil (G.then_n ?_))
    exact G.roundK (j + 1) (by omega) (by omega) ⟨rfl, rfl, rfl, rfl, rfl, rfl, trivial⟩ (by (repeat' constructor)) (by ((repeat (apply Have.cons; (repeat (first | exact Pick.here | apply Pick.there)))); apply Have.base; repeat' constructor))
   ·refine G.exit (G.then_e (G.then_e (G.blk_e (G.then_n (G.seq (G.region (G.q (Quiet.move rfl) rfl ?_)))))))
    refine G.op (OpSpec.call Tryz.func36 rfl rfl (vs := [_]) rfl (acts_spec d t.δ)) (by (repeat' constructor)) rfl ?nx105
    rintro v L' ⟨rfl, rfl⟩
    refine G.q (Quiet.move rfl) rfl ?_
    refine G.q (Quiet.as (v' := .bool true) (by simp) (Quiet.int rfl rfl rfl)) rfl ?_
    refine G.q (Quiet.assign rfl) rfl (G.nil (G.then_n (G.ret ?_)))
    exact G.done (l := [.tmp 6]) rfl rfl ⟨rfl, rfl⟩ (by (repeat' constructor)) (by (repeat' constructor))
 ·refine G.kDF (t := 49) rfl h7_50 (G.gskip (t := 50) rfl rfl rfl rfl (G.gskip (t := 50) rfl rfl rfl rfl (G.q (Quiet.pickF rfl rfl) rfl (G.nil (G.then_n (G.condF rfl (G.exit (G.then_e (G.then_e (G.blk_e (G.then_n (G.seq (G.region (G.q (Quiet.move rfl) rfl ?_))))))))))))))
  refine G.op (OpSpec.call Tryz.func28 rfl rfl (vs := [_]) rfl (lsync_spec g x d s.δ s.ω s.Λ (hL.l.lv.i (by omega)))) (by (repeat' constructor)) rfl ?nx111
  rintro v L' ⟨rfl, rfl⟩; obtain ⟨hT, -, hTs, -⟩ := live_sync hL (by omega); obtain ⟨t, ht⟩ : ∃ t, (lgSync ⟨s.δ, s.ω, s.Λ⟩).1 = t := ⟨_, rfl⟩; rw [ht]; rw [show (lgSync s).1 = t from ht] at hT hTs
  refine G.nil (G.then_n (G.seq (G.region (G.q (Quiet.move rfl) rfl ?_))))
  refine G.op (OpSpec.call Tryz.func35 rfl rfl (vs := [_]) rfl (told9_spec g x t.Λ hT.l.lw.w)) (by (repeat' constructor)) rfl ?nx114
  rintro v L' ⟨sw, rfl, rfl⟩
  refine G.op (OpSpec.allocA ze_82) (by (repeat' constructor)) rfl ?nx116
  rintro v L' ⟨b14, rfl, rfl⟩
  refine G.toldOpen (sl := sw) (by (repeat' constructor)) fun x1 y1 e1 hs1 hm1 hn1 hk1 => ?_
  subst hs1
  refine G.op (OpSpec.storeA rfl rfl ?c118 sz_82 ?c121 ?c119 ?c120) (by (repeat' constructor)) rfl ?nx122
  case c118 => simp [isCell]
  case c121 => rfl
  case c119 => simp
  case c120 => exact nfz0 _ _
  rintro v L' rfl
  refine G.nil ?_
  refine G.toldFold (a := x1) (c := y1) (m := e1.length) (es := e1) (.slice x1 e1.length y1) t.Λ.ents (by (repeat' constructor)) rfl rfl rfl hm1 hn1 hk1 ?_
  obtain ⟨sw, hsw⟩ : ∃ sw, Value.slice x1 e1.length y1 = sw := ⟨_, rfl⟩
  rw [hsw]
  refine G.ptCast (b := b14) (l' := [vint t.Λ.base, vstr t.Λ.snap, sw, vint t.Λ.acc, vint t.Λ.cur]) (by (repeat' constructor)) (by rw [← hsw]; exact rfl) ?_
  refine G.then_n (G.seq (G.region (G.q (Quiet.move rfl) rfl ?_)))
  refine G.op (OpSpec.call Tryz.func36 rfl rfl (vs := [_]) rfl (acts_spec d t.δ)) (by (repeat' constructor)) rfl ?nx124
  rintro v L' ⟨rfl, rfl⟩
  refine G.q (Quiet.assign rfl) rfl (G.nil (G.then_n (G.seq (G.seq ?_))))
  refine G.dkOk (by (repeat' constructor)) fun hok => ?_
  obtain ⟨ho1, ho2⟩ := live_open hT hTs hok
  have hsz := hT.w.well.size
  have hdd := hT.l.lv.dead
  have hopn := LLv.opened (σ := t.δ) (ω := t.ω) (Λ := t.Λ) hT.l
  have htw : LgW t.Λ := hT.l.lw.w
  have hmk : (marksZ t.Λ).length ≤ 4294967296 := by have h1 := mk_lens (t.Λ.base :: t.Λ.zxs) _ (Nat.le_refl _); rw [List.take_length, List.length_cons] at h1; have h2 := htw.rows.len; have h3 := htw.few; unfold marksZ; omega
  refine G.region (G.q (Quiet.assign rfl) rfl (G.nil (G.then_n (G.block ?_))))
  refine G.loopK (ι := Nat) (fun q E => (16, vint q) :: E) (fun q => []) (fun q => (q : Int) ≤ pickZ n2 5 + 1) (fun q => (pickZ n2 5 + 1 - q).toNat) (0) (ts := [2, 8, 10, 14, 15]) (.cons rfl (.cons rfl (.cons rfl (.cons rfl (.cons rfl (.nil)))))) (by omega) ⟨rfl, rfl, rfl, rfl, rfl, rfl, trivial⟩ (by (repeat' constructor)) ?_
  rintro j hj
  refine G.seq (G.seq (G.region (G.q (Quiet.move rfl) rfl (G.q (Quiet.move rfl) rfl ?_))))
  refine G.op (OpSpec.call Tryz.func26 rfl rfl (vs := [_, _]) rfl (pick9_spec n2 5 hn2 (by decide))) (by (repeat' constructor)) rfl ?nx129
  rintro v L' ⟨rfl, rfl⟩
  refine G.q (Quiet.int rfl rfl rfl) rfl (G.nil (G.then_n ?_))
  refine G.condD rfl (fun h77 => ?_) (fun h77 => ?_)
  ·refine G.skip (G.then_n (G.seq (G.block (G.seq (G.region (G.q (Quiet.move rfl) rfl ?_))))))
   refine G.op (OpSpec.call Tryz.func18 rfl rfl (vs := [_]) rfl (lopen_spec d t.δ hsz hok (fun ω9 h9 => by rw [ho1] at h9; cases h9; exact hopn))) (by (repeat' constructor)) rfl ?nx133
   rintro v L' (⟨h, -, -⟩ | ⟨-, h, -, -⟩ | ⟨-, ω9, h9, ⟨h, -, -⟩ | ⟨Λ9, m, y, hl9, rfl, rfl⟩⟩); · rw [hdd] at h; cases h
   · rw [ho1] at h; cases h
   · rw [ho1] at h9; cases h9; rw [ho2] at h; cases h
   rw [ho1] at h9; cases h9; rw [ho2] at hl9; cases hl9
   refine G.q (Quiet.move rfl) rfl (G.q (Quiet.extract rfl rfl) rfl (G.q (Quiet.extract rfl rfl) rfl (G.q (Quiet.assign rfl) rfl (G.q (Quiet.assign rfl) rfl (G.nil (G.then_n (G.seq ?_)))))))
   refine G.draw [8, 10, 15, 17, 18, 23, 25] [[0, 1, 2, 3, 4, 5, 6, 7, 9, 8], [10], [11, 12, 13, 14, 16, 15], [17], [18], [19, 20, 21, 22, 24, 23], [25], [26, 27]] mixed (by kernel_rfl) ?_
   refine Phases.go [ptc b14 _ _] (by (repeat' constructor)) ?_
   refine D.qw [1, 2, 3, 4, 5, 6, 7, 9, 8] rfl (by kernel_rfl) (Quiet.move rfl) ?_
   refine D.qw [2, 3, 4, 5, 6, 7, 9, 8] rfl (by kernel_rfl) (Quiet.ptreq rfl rfl Tryz.underlying28) ?_
   refine D.qw [3, 4, 5, 6, 7, 9, 8] rfl (by kernel_rfl) (Quiet.move rfl) ?_
   refine D.gqw [4, 5, 6, 7, 9, 8] (t := 87) rfl rfl rfl (by kernel_rfl) (Quiet.move rfl) ?_
   refine D.gqw [5, 6, 7, 9, 8] (t := 87) rfl rfl rfl (by kernel_rfl) (Quiet.as (v' := .bool false) (by rfl) (Quiet.int rfl rfl rfl)) ?_
   refine D.qw [6, 7, 9, 8] rfl (by kernel_rfl) (Quiet.pickF rfl rfl) ?_
   refine D.qw [7, 9, 8] rfl (by kernel_rfl) (Quiet.move rfl) ?_
   refine D.gqw [8] (t := 91) rfl rfl rfl (by kernel_rfl) (Quiet.move rfl) ?_
   refine D.gq (t := 91) rfl rfl rfl (by kernel_rfl) (Quiet.loadAs (vs := [vint t.Λ.base, vstr t.Λ.snap, sw, vint t.Λ.acc, vint t.Λ.cur]) rfl ag_82 (by (repeat' constructor)) (by simp) rfl) ?_
   refine D.gh (t := 91) rfl rfl rfl (by kernel_rfl) (OpSpec.call Tryz.func35 rfl rfl (vs := [_]) rfl (told9_spec m y t.Λ htw)) (by (repeat' constructor)) ?nx140
   rintro v L' ⟨sl, rfl, rfl⟩
   refine D.ph ?_
   refine Phases.go [] (by (repeat' constructor)) ?_
   refine D.gh (t := 91) rfl rfl rfl (by kernel_rfl) (OpSpec.call Tryz.func37 rfl rfl (vs := [_, _]) rfl (equal9_spec t.Λ.base t.Λ.cur t.Λ.acc t.Λ.base t.Λ.cur t.Λ.acc t.Λ.snap t.Λ.snap sl sw t.Λ.ents t.Λ.ents)) (by (repeat' constructor)) ?nx142
   rintro v L' ⟨rfl, rfl⟩; rw [decide_eq_true (⟨rfl, rfl, rfl, rfl, rfl⟩ : t.Λ.ents = t.Λ.ents ∧ t.Λ.base = t.Λ.base ∧ t.Λ.snap = t.Λ.snap ∧ t.Λ.acc = t.Λ.acc ∧ t.Λ.cur = t.Λ.cur)]
   refine D.ph ?_
   refine Phases.go [ptc b14 _ _] (by (repeat' constructor)) ?_
   refine D.gqw [12, 13, 14, 16, 15] (t := 91) rfl rfl rfl (by kernel_rfl) (Quiet.not rfl) ?_
   refine D.qw [13, 14, 16, 15] rfl (by kernel_rfl) (Quiet.pickF rfl rfl) ?_
   refine D.qw [14, 16, 15] rfl (by kernel_rfl) (Quiet.move rfl) ?_
   refine D.gqw [15] (t := 98) rfl rfl rfl (by kernel_rfl) (Quiet.move rfl) ?_
   refine D.gq (t := 98) rfl rfl rfl (by kernel_rfl) (Quiet.move rfl) ?_
   refine D.gh (t := 98) rfl rfl rfl (by kernel_rfl) (OpSpec.call Tryz.func15 rfl rfl (vs := [_]) rfl (lmarks_spec m y t.Λ htw.i)) (by (repeat' constructor)) ?nx146
   rintro v L' ⟨am, cm, rfl, rfl⟩
   refine D.ph ?_
   refine Phases.go [] (by (repeat' constructor)) ?_
   refine D.gh (t := 98) rfl rfl rfl (by kernel_rfl) (OpSpec.call Tryz.func15 rfl rfl (vs := [_]) rfl (lmarks_spec g x t.Λ htw.i)) (by (repeat' constructor)) ?nx148
   rintro v L' ⟨al, cl, rfl, rfl⟩
   refine D.ph ?_
   refine Phases.go [] (by (repeat' constructor)) ?_
   refine D.gh (t := 98) rfl rfl rfl (by kernel_rfl) (OpSpec.call Tryz.func14 rfl rfl (vs := [_, _]) rfl (numbers9_spec _ _ (marksZ t.Λ) (marksZ t.Λ) (intR (.slice am (marksZ t.Λ).length cm) (marksZ t.Λ)) (intR (.slice al (marksZ t.Λ).length cl) (marksZ t.Λ)) (fun h hp => slR_rd hp) (fun h hp => slR_rd hp) hmk hmk)) (by (repeat' constructor)) ?nx150
   rintro v L' ⟨rfl, rfl⟩; rw [decide_eq_true rfl]
   refine D.ph ?_
   refine Phases.go [ptc b14 _ _] (by (repeat' constructor)) ?_
   refine D.gqw [20, 21, 22, 24, 23] (t := 98) rfl rfl rfl (by kernel_rfl) (Quiet.not rfl) ?_
   refine D.qw [21, 22, 24, 23] rfl (by kernel_rfl) (Quiet.pickF rfl rfl) ?_
   refine D.qw [22, 24, 23] rfl (by kernel_rfl) (Quiet.move rfl) ?_
   refine D.gqw [23] (t := 106) rfl rfl rfl (by kernel_rfl) (Quiet.move rfl) ?_
   refine D.gq (t := 106) rfl rfl rfl (by kernel_rfl) (Quiet.move rfl) ?_
   refine D.gh (t := 106) rfl rfl rfl (by kernel_rfl) (OpSpec.call Tryz.func17 rfl rfl (vs := [_]) rfl (llast_spec m y t.Λ htw.i)) (by (repeat' constructor)) ?nx154
   rintro v L' ⟨rfl, rfl⟩
   refine D.ph ?_
   refine Phases.go [] (by (repeat' constructor)) ?_
   refine D.gh (t := 106) rfl rfl rfl (by kernel_rfl) (OpSpec.call Tryz.func17 rfl rfl (vs := [_]) rfl (llast_spec g x t.Λ htw.i)) (by (repeat' constructor)) ?nx156
   rintro v L' ⟨rfl, rfl⟩
   refine D.ph ?_
   refine Phases.go [] (by (repeat' constructor)) ?_
   refine D.gqw [27] (t := 106) rfl rfl rfl (by kernel_rfl) (Quiet.as (v' := .bool false) (by simp) (Quiet.int rfl rfl rfl)) ?_
   refine D.qw [] rfl (by kernel_rfl) (Quiet.pickF rfl rfl) ?_
   refine D.ph (Phases.fin (G.then_n (G.condF rfl (G.skip (G.blk_n (G.then_n (G.region (G.q (Quiet.move rfl) rfl ?_))))))))
   refine G.q (Quiet.add rfl rfl (by omega)) rfl ?_
   refine G.q (Quiet.assign rfl) rfl (G.nil (G.then_n ?_))
   exact G.roundK (j + 1) (by omega) (by omega) ⟨rfl, rfl, rfl, rfl, rfl, rfl, trivial⟩ (by (repeat' constructor)) (by ((repeat (apply Have.cons; (repeat (first | exact Pick.here | apply Pick.there)))); apply Have.base; repeat' constructor))
  ·refine G.exit (G.then_e (G.then_e (G.blk_e (G.then_n (G.seq (G.region (G.q (Quiet.move rfl) rfl ?_)))))))
   refine G.op (OpSpec.call Tryz.func36 rfl rfl (vs := [_]) rfl (acts_spec d t.δ)) (by (repeat' constructor)) rfl ?nx162
   rintro v L' ⟨rfl, rfl⟩
   refine G.q (Quiet.move rfl) rfl ?_
   refine G.q (Quiet.as (v' := .bool true) (by simp) (Quiet.int rfl rfl rfl)) rfl ?_
   refine G.q (Quiet.assign rfl) rfl (G.nil (G.then_n (G.ret ?_)))
   exact G.done (l := [.tmp 6]) rfl rfl ⟨rfl, rfl⟩ (by (repeat' constructor)) (by (repeat' constructor))

end Go.Proofs.YtidjhgbdokcphaaGreat

/- Own work: from what a call is given to the atoms of SlCore, and back to what a statement asks. -/

namespace Go.Proofs.YtidjhgbdokcphaaGreat
open Go Go.ChangeShapes Go.WideShapes Go.ChangeAt Go.RowKit

section
variable {H : Type} {enc : TypeId × Value → H} {P : Program} {W W' : World}
theorem trodAll_old (hl : laidOutB P = true) (hb : Below W.heap.size W W') (sp : Nat → Bool) : ∀ (ts : List TypeId) (vs : List Value) (ds : List (DataW H)) (p : List MemPlace), (∀ t ∈ ts, P.readableRec t = true ∧ t < P.types.size) →
    DataW.TrodAll enc P W 0 (fun _ => true) true ts vs ds p → (∀ x ∈ p, x.block < W.heap.size) → (∀ x ∈ p, sp x.block = true) → DataW.TrodAll enc P W' 0 sp true ts vs ds p
  | [], vs, ds, p, _, h, _, _ => by
    obtain ⟨rfl, rfl, rfl⟩ := trodAll_nil h
    exact h
  | t :: ts, vs, ds, p, hr, h, hlt, hsp => by
    obtain ⟨v, vs1, d, ds1, a, b, rfl, rfl, rfl, h1, h2⟩ := trodAll_cons h
    have r := hr t (by simp)
    refine ⟨a, b, WideElems.Trod_stays hl r.1 r.2 h1 (fun x hx => hb.same (hlt x (by simp [hx]))) (fun x hx => hsp x (by simp [hx])), ?_, rfl⟩
    exact trodAll_old hl hb sp ts vs1 ds1 b (fun t ht => hr t (by simp [ht])) h2 (fun x hx => hlt x (by simp [hx])) (fun x hx => hsp x (by simp [hx]))
theorem settled {fn : Func} {s : ChangeSpec} {apart fresh handsOn again : Bool} {args : Array Value} {ds gs : List (DataW H)} {before : List MemPlace} {tb : TypeId}
    (hW : DataW.Whole enc P fn.params.toList s.vars apart W args.toList ds gs before) (hvars : s.vars = []) (hspec : ∀ gs', gs' = [] → s.fn H (ds ++ gs') = { results := [.lit (.bool true)], args := ds })
    (hres : fn.resultTypes = #[tb]) (htb : P.underlying tb = some .bool) (hl : laidOutB P = true) (hr : ∀ t ∈ fn.params.toList, P.readableRec t = true ∧ t < P.types.size) (hb : Below W.heap.size W W') :
    s.post enc P fn apart fresh handsOn again W args (.bool true) W' := by
  have hW' := hW
  have hlt := hW.lt
  obtain ⟨p, q, hA, hV, rfl, hfz, hnd⟩ := hW
  rw [hvars] at hV
  obtain ⟨rfl, rfl⟩ := trodVars_none hV
  have hs := hspec [] rfl
  have hargs : ∀ sp : Nat → Bool, (∀ x ∈ p, sp x.block = true) → DataW.TrodAll enc P W' 0 sp true fn.params.toList args.toList ds p := fun sp hsp =>
    trodAll_old hl hb sp _ _ _ _ hr hA (fun x hx => hlt x (by simp [hx])) hsp
  have hbool : ∀ (b : Nat) (sp : Nat → Bool) (hd : Bool), DataW.TrodAll enc P W' b sp hd fn.resultTypes.toList ((Value.bool true).resultList fn.resultTypes.size) [.lit (.bool true)] [] := by
    intro b sp hd
    rw [hres]
    exact trodAll_cons_mk (shut_bool htb _) trodAll_mk0
  refine ⟨ds, [], p ++ [], [], p, [], hW', ?_, ?_, ?_, hb.frame _, fun _ => ⟨ok_one hres rfl (okWide_bool_mk htb _), [.lit (.bool true)] ++ ds, [], p, ⟨p, [], ?_, ?_, by simp, ?_, ?_⟩, ?_⟩⟩
  · rw [hs]; exact hbool _ _ _
  · rw [hs]; exact hargs _ (fun x hx => by simpa using hlt x (by simp [hx]))
  · rw [hs, hvars]; exact hV
  · exact trodAll_append (hargs _ (fun _ _ => rfl)) (hbool _ _ _)
  · rw [hvars]; exact hV
  · intro b off hp
    rw [hb.frozen (p := ⟨b, off, none⟩) (hlt (.cell b off) (by simp [hp]))]
    exact hfz b off (by simp [hp])
  · intro ha
    have := hnd ha
    simpa using this
  · intro x hx _
    simp [hx]
theorem old_calls {f : FuncId} {args : Array Value} (h : Fn P f args [Old W] fun v L => v = .bool true ∧ L = [Old W]) :
    Calls P f args W fun e W' => e = .returned (.bool true) ∧ Below W.heap.size W W' := by
  have h0 : St [Old W] W := ⟨fun b => W.heap[b]?, fun _ => none, fun _ => .inr rfl, fun b o h => h, fun b o h => (by cases h), fun b hb => rfl, trivial⟩
  refine (h [] W h0).mono ?_
  rintro e W' ⟨v, L, ⟨rfl, rfl⟩, rfl, hs, hk⟩
  refine ⟨rfl, hk.os, hk.tape, hk.output, hk.size, fun k hk' => ?_⟩
  obtain ⟨h1, a1, hp⟩ := sep_head hs
  have e1 := hp k hk'
  have : ∃ o, W.heap[k]? = some o := ⟨_, Array.getElem?_eq_getElem hk'⟩
  obtain ⟨o, ho⟩ := this
  rw [ho] at e1 ⊢
  exact a1 _ _ e1
theorem old_rd {a : Addr} {len cap : Nat} {V : Nat → Value} (hc : ∀ i, i < len → W.cell? (a.add i) = some (V i)) (hle : len ≤ cap) : ∀ h : Hp, Old W h → rdS 1 h (.slice (some a) len cap) len ((List.range len).map V) := by
  intro h hold
  rcases Nat.eq_zero_or_pos len with rfl | hpos
  · exact .inl ⟨rfl, rfl, some a, cap, rfl⟩
  · obtain ⟨b, off, spot⟩ := a
    have h0 := hc 0 hpos
    have e0 : (⟨b, off, spot⟩ : Addr).add 0 = ⟨b, off, spot⟩ := by simp [Addr.add]
    rw [e0] at h0
    simp only [World.cell?] at h0
    rcases hw : W.heap[b]? with _ | o
    · rw [hw] at h0; cases h0
    · cases o with
      | cells c T fr =>
        rw [hw] at h0
        dsimp only at h0
        split at h0
        · cases h0
        · rename_i hsp
          have hspot : spot = none := by simpa using hsp
          subst hspot
          have hc' : ∀ i, i < len → c[off + i]? = some (V i) := by
            intro i hi
            have := hc i hi
            have e1 : (⟨b, off, none⟩ : Addr).add i = ⟨b, off + i, none⟩ := by
              simp only [Addr.add]; split
              · rename_i h0; simp [h0]
              · rfl
            rw [e1] at this
            simp only [World.cell?, hw] at this
            simpa using this
          have hlt : b < W.heap.size := by
            rcases Nat.lt_or_ge b W.heap.size with h' | h'
            · exact h'
            · rw [Array.getElem?_eq_none h'] at hw; cases hw
          have hlen : off + len ≤ c.size := by
            have := hc' (len - 1) (by omega)
            rcases Nat.lt_or_ge (off + (len - 1)) c.size with h' | h'
            · omega
            · rw [Array.getElem?_eq_none h'] at this; cases this
          refine .inr ⟨b, off, cap, c.toList, T, fr, rfl, by rw [hold b hlt, hw], ?_, by simpa using hlen, hle⟩
          apply List.ext_getElem?
          intro i
          rw [Nat.mul_one, List.getElem?_take, List.getElem?_map, List.getElem?_drop]
          split
          · rename_i hi
            rw [List.getElem?_range hi]
            simpa using hc' i hi
          · rename_i hi
            rw [List.getElem?_eq_none (by simpa using hi)]; rfl
      | _ => rw [hw] at h0; cases h0
theorem arg_int {t : TypeId} {r : Reach} {b0 : Nat} {v : Value} {d : DataW H} {ps : List MemPlace} (ht : P.underlying t = some (.int .i64)) (hval : Value.okWide P W r b0 t v)
    (h : DataW.Trod enc P W 0 (fun _ => true) true t v d ps) : ∃ n : Int, v = vint n ∧ d = .lit (.int .i64 n) ∧ -9223372036854775808 ≤ n ∧ n ≤ 9223372036854775807 := by
  obtain ⟨n, rfl, rfl, rfl, hwf⟩ := open_int ht hval h
  exact ⟨n, rfl, rfl, bounds_i64 hwf⟩
end
end Go.Proofs.YtidjhgbdokcphaaGreat

/- Own work: strings and rows of strings as arguments. -/
namespace Go.Proofs.YtidjhgbdokcphaaGreat
open Go Go.ChangeShapes Go.WideShapes Go.ChangeAt Go.RowKit

section
variable {H : Type} {enc : TypeId × Value → H} {P : Program} {W : World}
theorem string_vstr (s : ByteArray) : Value.string s = vstr s.data.toList := by cases s; rfl
end
end Go.Proofs.YtidjhgbdokcphaaGreat

/- Own work: nested arguments decoded: slices of structs, and what the row says of their weight. -/

namespace Go.Proofs.YtidjhgbdokcphaaGreat
open Go Go.ChangeShapes Go.WideShapes Go.ChangeAt Go.RowKit

section
variable {H : Type} {enc : TypeId × Value → H} {P : Program} {W : World}
/-- No slice and no string in this datum weighs more than the row's reach. -/
def Light (P : Program) (t : TypeId) (d : DataW H) : Prop := ∀ n ∈ d.weights P t, n ≤ reachBytes
theorem flat_at {α : Type} {sz : Nat} (f : Nat → List α) : ∀ n, (∀ i, i < n → (f i).length = sz) → ∀ j, j < n * sz → ((List.range n).flatMap f)[j]? = (f (j / sz))[j % sz]? ∧ ((List.range n).flatMap f).length = n * sz := by
  intro n
  induction n with
  | zero => intro _ j hj; omega
  | succ n ih =>
    intro hf j hj
    have hn := hf n (by omega)
    have hlen : ((List.range n).flatMap f).length = n * sz := by
      rcases Nat.eq_zero_or_pos (n * sz) with h0 | h0
      · rcases Nat.eq_zero_or_pos n with h1 | h1
        · subst h1; simp
        · have : sz = 0 := by
            rcases Nat.eq_zero_or_pos sz with h2 | h2
            · exact h2
            · have := Nat.mul_pos h1 h2; omega
          subst this; omega
      · exact (ih (fun i hi => hf i (by omega)) 0 h0).2
    have e : (List.range (n + 1)).flatMap f = (List.range n).flatMap f ++ f n := by simp [List.range_succ]
    have hm : (n + 1) * sz = n * sz + sz := by rw [Nat.add_mul, Nat.one_mul]
    rw [e]
    refine ⟨?_, by rw [List.length_append, hlen, hn, hm]⟩
    rcases Nat.lt_or_ge j (n * sz) with h | h
    · rw [List.getElem?_append_left (by omega)]
      exact (ih (fun i hi => hf i (by omega)) j h).1
    · rw [List.getElem?_append_right (by omega), hlen]
      have hs : 0 < sz := by omega
      have h1 : j / sz = n := by
        have : j < (n + 1) * sz := hj
        have a := Nat.div_lt_of_lt_mul (show j < sz * (n + 1) by rw [Nat.mul_comm]; exact this)
        have b := (Nat.le_div_iff_mul_le hs).2 h
        omega
      have h2 : j % sz = j - n * sz := by
        have := Nat.div_add_mod j sz
        rw [h1, Nat.mul_comm] at this; omega
      rw [h1, h2]
theorem rdS_regroup {sz n c c1 : Nat} {a : Option Addr} {ys : List Value} {h : Hp} (hr : rdS 1 h (.slice a (n * sz) c1) (n * sz) ys) (hc : n ≤ c) (hs : 0 < sz) : rdS sz h (.slice a n c) n ys := by
  rcases hr with ⟨h1, h2, -⟩ | ⟨b, off, cap, l, T, fr, hv, hb, h1, h2, h3⟩
  · have : n = 0 := by
      rcases Nat.eq_zero_or_pos n with h0 | h0
      · exact h0
      · have := Nat.mul_pos h0 hs; omega
    subst this
    exact .inl ⟨rfl, h2, a, c, rfl⟩
  · simp only [Value.slice.injEq] at hv
    obtain ⟨rfl, -, -⟩ := hv
    exact .inr ⟨b, off, c, l, T, fr, rfl, hb, by rw [← h1, Nat.mul_one], by rw [Nat.mul_one] at h2; exact h2, hc⟩
abbrev Reads (enc : TypeId × Value → H) (P : Program) (W : World) (fuel : Nat) (t : TypeId) (cs : List Value) (x : DataW H × List MemPlace) : Prop := DataW.trod enc P W 0 (fun _ => true) true fuel t cs = some x
theorem dec_int {t : TypeId} {fuel : Nat} {cs : List Value} {x : DataW H × List MemPlace} (ht : P.underlying t = some (.int .i64)) (h : Reads enc P W fuel t cs x) : ∃ n : Int, cs = [vint n] ∧ -9223372036854775808 ≤ n ∧ n ≤ 9223372036854775807 := by
  obtain ⟨n, rfl, -, hwf⟩ := DataW.trod_int ht h
  exact ⟨n, rfl, bounds_i64 hwf⟩
end
end Go.Proofs.YtidjhgbdokcphaaGreat

/- Own work: arguments of a bounded bulk (the second form's bound), decoded. -/
namespace Go.Proofs.YtidjhgbdokcphaaGreat
open Go Go.ChangeShapes Go.WideShapes Go.ChangeAt Go.RowKit

theorem bulk_pos {H : Type} (d : DataW H) : 1 ≤ Rows.uptoBulk d := by
  cases d with
  | lit l => cases l <;> simp [Rows.uptoBulk]
  | _ => simp [Rows.uptoBulk]
theorem bulk_part {H : Type} {d : DataW H} : ∀ {l : List (DataW H)}, d ∈ l → Rows.uptoBulk d ≤ Rows.uptoBulkAll l
  | x :: l, h => by
    unfold Rows.uptoBulkAll
    rcases List.mem_cons.1 h with rfl | h
    · omega
    · have := bulk_part h; omega
theorem bulk_count {H : Type} : ∀ l : List (DataW H), l.length ≤ Rows.uptoBulkAll l
  | [] => by simp
  | x :: l => by
    have h1 := bulk_pos x
    have h2 := bulk_count l
    unfold Rows.uptoBulkAll
    rw [List.length_cons]; omega
theorem bulk_sum {H : Type} : ∀ l : List (DataW H), (l.map Rows.uptoBulk).sum ≤ Rows.uptoBulkAll l
  | [] => by simp
  | x :: l => by
    have h2 := bulk_sum l
    unfold Rows.uptoBulkAll
    rw [List.map_cons, List.sum_cons]; omega
theorem bulk_small {H : Type} {l : List (DataW H)} (h : Rows.uptoSmall H l = true) {d : DataW H} (hd : d ∈ l) : Rows.uptoBulk d ≤ 1048576 :=
  Nat.le_trans (bulk_part hd) (of_decide_eq_true h)
instance : Inhabited Value := ⟨.bool false⟩
section
variable {H : Type} {enc : TypeId × Value → H} {P : Program} {W : World} {N : Nat}
theorem dec_int' {t : TypeId} {fuel : Nat} {cs : List Value} {x : DataW H × List MemPlace} (ht : P.underlying t = some (.int .i64)) (h : Reads enc P W fuel t cs x) : ∃ n : Int, cs = [vint n] ∧ (-9223372036854775808 ≤ n ∧ n ≤ 9223372036854775807) := by
  obtain ⟨n, h1, h2⟩ := dec_int ht h; exact ⟨n, h1, h2⟩
/-- The same, with each element's own bulk, and their sum. -/
theorem dec_sliceQV {Z : Type} [Inhabited Z] (toC : Z → List Value) (Q : Nat → Z → Prop) {t e : TypeId} {sz : Nat} {fuel : Nat} {cs : List Value} {x : DataW H × List MemPlace} (ht : P.underlying t = some (.slice e)) (hc : P.cellsOf e = sz) (hs : 0 < sz)
    (hdec : ∀ (n : Nat) (cs : List Value) (y : DataW H × List MemPlace), Reads enc P W n e cs y → ∃ z, cs = toC z ∧ Q (Rows.uptoBulk y.1) z) (h : Reads enc P W fuel t cs x) (hb : Rows.uptoBulk x.1 ≤ N + 1) :
    ∃ (z : Value × List Z) (ws : List Nat), cs = [z.1] ∧ (∀ h : Hp, Old W h → rdS sz h z.1 z.2.length (z.2.flatMap toC)) ∧ z.2.length ≤ N ∧ ws.length = z.2.length ∧ ws.sum ≤ N ∧ (∀ w ∈ ws, 1 ≤ w) ∧ ∀ i (h1 : i < z.2.length) (h2 : i < ws.length), Q ws[i] z.2[i] := by
  subst hc
  rcases Go.Deep.open_slice ht h with ⟨rfl, rfl⟩ | ⟨a, len, cap, m, n, Dd, Pl, rfl, -, hl, hm, hmm, rfl, hx⟩
  · exact ⟨(_, []), [], rfl, fun h _ => .inl ⟨rfl, rfl, none, 0, rfl⟩, by simp, rfl, by simp, (fun _ h => by cases h), (fun i h1 _ => by simp at h1)⟩
  · simp only [if_true] at hmm
    subst hmm
    have hbl : len ≤ N := by
      have := bulk_count ((List.range len).map Dd)
      simp only [Rows.uptoBulk] at hb
      rw [List.length_map, List.length_range] at this
      omega
    have hall : ((List.range len).map fun i => Rows.uptoBulk (Dd i)).sum ≤ N := by
      have := bulk_sum ((List.range len).map Dd)
      rw [List.map_map] at this
      simp only [Rows.uptoBulk] at hb
      have e : ((List.range len).map fun i => Rows.uptoBulk (Dd i)) = (List.range len).map (Rows.uptoBulk ∘ Dd) := rfl
      rw [e]; omega
    obtain ⟨Zf, hZ⟩ := Go.Deep.choose_lt (α := Z) (p := fun i z => W.cells? 0 (a.add (i * P.cellsOf e)) (P.cellsOf e) = some (toC z) ∧ Q (Rows.uptoBulk (Dd i)) z) (n := len) (fun i hi => by
      obtain ⟨cs', h1, h2⟩ := hx i (by omega)
      obtain ⟨z, rfl, h3⟩ := hdec _ _ _ h2
      exact ⟨z, h1, h3⟩)
    have hlenf : ∀ i, i < len → (toC (Zf i)).length = P.cellsOf e := fun i hi => (World.cells?_some (hZ i hi).1).2.1
    have hflat := flat_at (fun i => toC (Zf i)) len hlenf
    refine ⟨(_, (List.range len).map Zf), (List.range len).map fun i => Rows.uptoBulk (Dd i), rfl, ?_, ?_, by simp, hall, ?_, ?_⟩
    · intro h hold
      dsimp only
      rw [List.length_map, List.length_range]
      refine rdS_regroup (c1 := len * P.cellsOf e) ?_ hl hs
      have e1 : ((List.range len).map Zf).flatMap toC = (List.range (len * P.cellsOf e)).map (fun j => ((List.range len).flatMap fun i => toC (Zf i)).getD j (.bool false)) := by
        rw [List.flatMap_map]
        apply List.ext_getElem?
        intro j
        rcases Nat.lt_or_ge j (len * P.cellsOf e) with hj | hj
        · rw [List.getElem?_map, List.getElem?_range hj]
          have := (hflat j hj).2
          have hjl : j < ((List.range len).flatMap fun i => toC (Zf i)).length := by omega
          simp only [Option.map_some, List.getD_eq_getElem?_getD, List.getElem?_eq_getElem hjl, Option.getD_some]
        · have : ((List.range len).flatMap fun i => toC (Zf i)).length = len * P.cellsOf e := by
            rcases Nat.eq_zero_or_pos (len * P.cellsOf e) with h0 | h0
            · have : len = 0 := by
                rcases Nat.eq_zero_or_pos len with h1 | h1
                · exact h1
                · have := Nat.mul_pos h1 hs; omega
              subst this; simp
            · exact (hflat 0 h0).2
          rw [List.getElem?_eq_none (by omega), List.getElem?_eq_none (by simpa using hj)]
      rw [e1]
      refine old_rd (W := W) (fun j hj => ?_) (Nat.le_refl _) h hold
      have hi : j / P.cellsOf e < len := Nat.div_lt_of_lt_mul (by rw [Nat.mul_comm]; exact hj)
      have hcell := (World.cells?_some (hZ (j / P.cellsOf e) hi).1).2.2 (j % P.cellsOf e) (Nat.mod_lt _ hs)
      rw [Addr.add_add, Nat.mul_comm, Nat.div_add_mod] at hcell
      rw [hcell]
      obtain ⟨f1, f2⟩ := hflat j hj
      rw [List.getD_eq_getElem?_getD, f1]
      have : j % P.cellsOf e < (toC (Zf (j / P.cellsOf e))).length := by rw [hlenf _ hi]; exact Nat.mod_lt _ hs
      simp [this]
    · dsimp only; rw [List.length_map, List.length_range]; exact hbl
    · intro w hw
      obtain ⟨i, -, rfl⟩ := List.mem_map.1 hw
      exact bulk_pos _
    · intro i h1 h2
      simp only [List.getElem_map, List.getElem_range]
      exact (hZ i (by simpa using h1)).2
/-! ### With weights: what is read weighs no more than its bulk -/
theorem dec_strW {t : TypeId} {fuel : Nat} {cs : List Value} {x : DataW H × List MemPlace} (ht : P.underlying t = some .string) (h : Reads enc P W fuel t cs x) : ∃ s : List UInt8, cs = [vstr s] ∧ s.length + 1 ≤ Rows.uptoBulk x.1 := by
  obtain ⟨s, rfl, rfl, -⟩ := DataW.trod_string ht h
  exact ⟨s.data.toList, by rw [string_vstr], by simp [Rows.uptoBulk]⟩
theorem dec_intW {t : TypeId} {fuel : Nat} {cs : List Value} {x : DataW H × List MemPlace} (ht : P.underlying t = some (.int .i64)) (h : Reads enc P W fuel t cs x) : ∃ n : Int, cs = [vint n] ∧ (-9223372036854775808 ≤ n ∧ n ≤ 9223372036854775807) ∧ 1 ≤ Rows.uptoBulk x.1 := by
  obtain ⟨n, h1, h2⟩ := dec_int' ht h; exact ⟨n, h1, h2, bulk_pos _⟩
theorem slice_shape {t e : TypeId} {fuel : Nat} {v : Value} {x : DataW H × List MemPlace} (ht : P.underlying t = some (.slice e)) (h : Reads enc P W fuel t [v] x) : ∃ a n c, v = .slice a n c := by
  rcases Go.Deep.open_slice ht h with ⟨hv, -⟩ | ⟨a, len, cap, m, n, Dd, Pl, hv, -⟩
  · rw [List.cons.injEq] at hv; rw [hv.1]; exact ⟨_, _, _, rfl⟩
  · rw [List.cons.injEq] at hv; rw [hv.1]; exact ⟨_, _, _, rfl⟩
theorem sum_le {Z : Type} {m : Z → Nat} : ∀ {l : List Z} {ws : List Nat}, ws.length = l.length → (∀ i (h1 : i < l.length) (h2 : i < ws.length), m l[i] ≤ ws[i]) → (l.map m).sum ≤ ws.sum
  | [], _, _, _ => by simp
  | z :: l, [], h, _ => by simp at h
  | z :: l, w :: ws, h, hq => by
    have h0 := hq 0 (by simp) (by simp)
    have h1 := sum_le (l := l) (ws := ws) (m := m) (by simpa using h) (fun i h1 h2 => hq (i + 1) (by simpa using h1) (by simpa using h2))
    rw [List.map_cons, List.sum_cons, List.sum_cons]
    have h0' : m z ≤ w := h0
    omega
theorem dec_sliceW {Z : Type} [Inhabited Z] (toC : Z → List Value) (Q : Z → Prop) (m : Z → Nat) {t e : TypeId} {sz : Nat} {fuel : Nat} {cs : List Value} {x : DataW H × List MemPlace} (ht : P.underlying t = some (.slice e)) (hc : P.cellsOf e = sz) (hs : 0 < sz)
    (hdec : ∀ (n : Nat) (cs : List Value) (y : DataW H × List MemPlace), Reads enc P W n e cs y → ∃ z, cs = toC z ∧ Q z ∧ m z ≤ Rows.uptoBulk y.1) (h : Reads enc P W fuel t cs x) :
    ∃ z : Value × List Z, cs = [z.1] ∧ (∀ h : Hp, Old W h → rdS sz h z.1 z.2.length (z.2.flatMap toC)) ∧ (∀ y ∈ z.2, Q y) ∧ z.2.length + 1 ≤ Rows.uptoBulk x.1 ∧ 1 + (z.2.map m).sum ≤ Rows.uptoBulk x.1 := by
  have hp := bulk_pos x.1
  obtain ⟨z, ws, h1, h2, h3, h4, h5, -, h7⟩ := dec_sliceQV (N := Rows.uptoBulk x.1 - 1) toC (fun B z => Q z ∧ m z ≤ B) ht hc hs hdec h (by omega)
  refine ⟨z, h1, h2, fun y hy => ?_, by omega, ?_⟩
  · obtain ⟨i, hi, rfl⟩ := List.mem_iff_getElem.1 hy
    exact (h7 i hi (by omega)).1
  · have := sum_le (m := m) h4 (fun i g1 g2 => (h7 i g1 g2).2)
    omega
theorem rd_shape {sz n : Nat} {v : Value} {ys : List Value} (hr : ∀ h : Hp, Old W h → rdS sz h v n ys) : ∃ a c, v = .slice a n c := by
  have h := hr (fun b => if b < W.heap.size then W.heap[b]? else none) (fun b hb => if_pos hb)
  rcases h with ⟨rfl, -, a, c, rfl⟩ | ⟨b, off, cap, l, T, fr, rfl, -⟩
  · exact ⟨_, _, rfl⟩
  · exact ⟨_, _, rfl⟩
end
end Go.Proofs.YtidjhgbdokcphaaGreat

/- Own work, by program: arguments of law 09, decoded with their weights. -/
namespace Go.Proofs.YtidjhgbdokcphaaGreat
open Go Go.ChangeShapes Go.WideShapes Go.ChangeAt Go.RowKit
def mAc (a : Ac) : Nat := 3 + a.2.length
def mPt (y : Pt) : Nat := 9 + y.path.length + y.data.length + (y.acl.map mAc).sum
def mEn (e : En) : Nat := mPt e.x + (e.subs.map mPt).sum
structure PtQ (p : HP) (y : Pt) : Prop where
  kind : I64 y.kind
  own : I64 y.own
  num : I64 y.num
  err : I64 y.err
  acl : ∀ h : Hp, p h → rdS 2 h y.aclV y.acl.length (y.acl.flatMap acC)
  ash : ∃ a n c, y.aclV = .slice a n c
  ssh : ∃ a n c, y.subsV = .slice a n c
  each : ∀ a ∈ y.acl, I64 a.1
structure EnQ (p : HP) (e : En) : Prop where
  zx : I64 e.zx
  ses : I64 e.ses
  xid : I64 e.xid
  x : PtQ p e.x
  subs : ∀ h : Hp, p h → rdS 8 h e.x.subsV e.subs.length (e.subs.flatMap ptC)
  each : ∀ y ∈ e.subs, PtQ p y
theorem sum_mem {α : Type} {m : α → Nat} : ∀ {l : List α} {x : α}, x ∈ l → m x ≤ (l.map m).sum
  | y :: l, x, h => by
    rw [List.map_cons, List.sum_cons]
    rcases List.mem_cons.1 h with rfl | h
    · omega
    · have := sum_mem (m := m) h; omega
theorem sum_many {α : Type} {m : α → Nat} (hm : ∀ x, 1 ≤ m x) : ∀ l : List α, l.length ≤ (l.map m).sum
  | [] => by simp
  | y :: l => by have := sum_many hm l; have := hm y; rw [List.map_cons, List.sum_cons, List.length_cons]; omega
theorem fm_weigh {α : Type} {f : α → Bs} {m : α → Nat} : ∀ {l : List α}, (∀ x ∈ l, (f x).length ≤ 20 * m x) → (l.flatMap f).length ≤ 20 * (l.map m).sum
  | [], _ => by simp
  | y :: l, h => by
    have h1 := h y (List.mem_cons_self ..)
    have h2 := fm_weigh (l := l) (m := m) (f := f) (fun x hx => h x (List.mem_cons_of_mem _ hx))
    rw [List.flatMap_cons, List.length_append, List.map_cons, List.sum_cons]; omega
theorem cntB_len {n : Nat} (h : n < U64) : (cntB n).length ≤ 10 := sev_len10 h
theorem acB_weigh {a : Ac} (h : AcI a) : (acB a).length ≤ 20 * mAc a := by
  have h1 := numB_len h.n
  have h2 := cntB_len h.s
  unfold acB txtB mAc
  rw [List.length_append, List.length_append]; omega
theorem PtQ.i {p : HP} {y : Pt} (h : PtQ p y) (hm : mPt y ≤ 1048576) : PtI y := by
  unfold mPt at hm
  have hl := sum_many (m := mAc) (fun a => by unfold mAc; omega) y.acl
  have hu : (1048576 : Nat) < U64 := by decide
  refine ⟨h.kind, h.own, h.num, h.err, by omega, by omega, by omega, fun a ha => ⟨h.each a ha, ?_⟩⟩
  have h1 := sum_mem (m := mAc) ha
  have h2 : mAc a = 3 + a.2.length := rfl
  omega
theorem ptB_weigh {p : HP} {y : Pt} (h : PtQ p y) (hm : mPt y ≤ 1048576) : (ptB y).length ≤ 20 * mPt y := by
  have hi := h.i hm
  have h1 := numB_len h.kind
  have h2 := cntB_len hi.path
  have h3 := cntB_len hi.data
  have h4 := cntB_len hi.many
  have h5 := numB_len h.own
  have h6 := numB_len h.num
  have h7 := numB_len h.err
  have h8 := fm_weigh (f := acB) (m := mAc) (l := y.acl) (fun a ha => acB_weigh (hi.acl a ha))
  rw [ptB_len]
  unfold aclB mPt
  rw [List.length_append]
  simp only [List.flatMap_cons, List.flatMap_nil, List.length_append, List.length_nil]
  omega
theorem EnQ.X {p : HP} {e : En} (h : EnQ p e) (hm : mEn e ≤ 1048576) : EnX p e := by
  unfold mEn at hm
  have hx : mPt e.x ≤ 1048576 := by omega
  have hs : ∀ y ∈ e.subs, mPt y ≤ 1048576 := fun y hy => by have := sum_mem (m := mPt) hy; omega
  have hl := sum_many (m := mPt) (fun a => by unfold mPt; omega) e.subs
  have hu : (1048576 : Nat) < U64 := by decide
  have hal : ∀ y : Pt, mPt y ≤ 1048576 → y.acl.length ≤ 1048576 := fun y hy => by
    have := sum_many (m := mAc) (fun a => by unfold mAc; omega) y.acl
    unfold mPt at hy; omega
  have hc : ∀ y, PtQ p y → isCell y.aclV = true ∧ isCell y.subsV = true := fun y hy => by
    obtain ⟨a, n, c, g⟩ := hy.ash
    obtain ⟨a', n', c', g'⟩ := hy.ssh
    rw [g, g']; exact ⟨rfl, rfl⟩
  refine ⟨⟨⟨⟨h.zx, h.ses, h.xid, h.x.i hx, by omega, fun y hy => (h.each y hy).i (hs y hy)⟩, h.x.acl, h.subs, fun y hy => (h.each y hy).acl⟩, ?_, ⟨by omega, hal _ hx, fun y hy => hal y (hs y hy)⟩, hc _ h.x, fun y hy => hc y (h.each y hy)⟩, fun y hy => (h.each y hy).ssh⟩
  have h1 := numB_len h.zx
  have h2 := numB_len h.ses
  have h3 := numB_len h.xid
  have h4 := ptB_weigh h.x hx
  have h5 := fm_weigh (f := ptB) (m := mPt) (l := e.subs) (fun y hy => ptB_weigh (h.each y hy) (hs y hy))
  have h6 := cntB_len (n := e.subs.length) (by omega)
  rw [enB_len]
  unfold subsB
  rw [List.length_append]
  simp only [List.flatMap_cons, List.flatMap_nil, List.length_append, List.length_nil]
  omega
instance : Inhabited Pt := ⟨pt0⟩
instance : Inhabited En := ⟨en0⟩
set_option maxRecDepth 100000 in
theorem decAc {H : Type} {enc : TypeId × Value → H} {W : World} (n : Nat) (cs : List Value) (y : DataW H × List MemPlace) (h : Reads enc Tryz.prog W n 210 cs y) : ∃ a : Ac, cs = acC a ∧ I64 a.1 ∧ mAc a ≤ Rows.uptoBulk y.1 := by
  obtain ⟨xs, m, -, rfl, hlen, hxs, hf⟩ := DataW.trod_struct Tryz.underlying210 h
  rw [show Tryz.prog.cellsOf 210 = 2 by kernel_rfl] at hlen
  obtain ⟨a0, a1, rfl⟩ : ∃ a0 a1, cs = [a0, a1] := by
    match cs, hlen with
    | [a0, a1], _ => exact ⟨a0, a1, rfl⟩
  obtain ⟨y0, y1, rfl⟩ : ∃ y0 y1, xs = [y0, y1] := by
    match xs, hxs with
    | [y0, y1], _ => exact ⟨y0, y1, rfl⟩
  simp only [Rows.uptoBulk, Rows.uptoBulkAll, List.map_cons, List.map_nil]
  have g0 : Reads enc Tryz.prog W m 3 (([a0, a1] : List Value).drop 0 |>.take (Tryz.prog.cellsOf 3)) y0 := hf 0 _ rfl
  rw [show Tryz.prog.cellsOf 3 = 1 by kernel_rfl] at g0
  have p0 := bulk_pos y0.1
  obtain ⟨z0, e0, q0, r0⟩ := dec_intW Tryz.underlying3 g0
  try simp at e0
  have g1 : Reads enc Tryz.prog W m 9 (([a0, a1] : List Value).drop 1 |>.take (Tryz.prog.cellsOf 9)) y1 := hf 1 _ rfl
  rw [show Tryz.prog.cellsOf 9 = 1 by kernel_rfl] at g1
  have p1 := bulk_pos y1.1
  obtain ⟨z1, e1, r1⟩ := dec_strW Tryz.underlying9 g1
  try simp at e1
  subst e0
  subst e1
  exact ⟨(z0, z1), rfl, q0, by unfold mAc; dsimp only; omega⟩
set_option maxRecDepth 100000 in
theorem decPt {H : Type} {enc : TypeId × Value → H} {W : World} (n : Nat) (cs : List Value) (y : DataW H × List MemPlace) (h : Reads enc Tryz.prog W n 36 cs y) : ∃ y0 : Pt, cs = ptC y0 ∧ PtQ (Old W) y0 ∧ mPt y0 ≤ Rows.uptoBulk y.1 := by
  obtain ⟨xs, m, -, rfl, hlen, hxs, hf⟩ := DataW.trod_struct Tryz.underlying36 h
  rw [show Tryz.prog.cellsOf 36 = 8 by kernel_rfl] at hlen
  obtain ⟨a0, a1, a2, a3, a4, a5, a6, a7, rfl⟩ : ∃ a0 a1 a2 a3 a4 a5 a6 a7, cs = [a0, a1, a2, a3, a4, a5, a6, a7] := by
    match cs, hlen with
    | [a0, a1, a2, a3, a4, a5, a6, a7], _ => exact ⟨a0, a1, a2, a3, a4, a5, a6, a7, rfl⟩
  obtain ⟨y0, y1, y2, y3, y4, y5, y6, y7, rfl⟩ : ∃ y0 y1 y2 y3 y4 y5 y6 y7, xs = [y0, y1, y2, y3, y4, y5, y6, y7] := by
    match xs, hxs with
    | [y0, y1, y2, y3, y4, y5, y6, y7], _ => exact ⟨y0, y1, y2, y3, y4, y5, y6, y7, rfl⟩
  simp only [Rows.uptoBulk, Rows.uptoBulkAll, List.map_cons, List.map_nil]
  have g0 : Reads enc Tryz.prog W m 3 (([a0, a1, a2, a3, a4, a5, a6, a7] : List Value).drop 0 |>.take (Tryz.prog.cellsOf 3)) y0 := hf 0 _ rfl
  rw [show Tryz.prog.cellsOf 3 = 1 by kernel_rfl] at g0
  have p0 := bulk_pos y0.1
  obtain ⟨z0, e0, q0, r0⟩ := dec_intW Tryz.underlying3 g0
  try simp at e0
  have g1 : Reads enc Tryz.prog W m 9 (([a0, a1, a2, a3, a4, a5, a6, a7] : List Value).drop 1 |>.take (Tryz.prog.cellsOf 9)) y1 := hf 1 _ rfl
  rw [show Tryz.prog.cellsOf 9 = 1 by kernel_rfl] at g1
  have p1 := bulk_pos y1.1
  obtain ⟨z1, e1, r1⟩ := dec_strW Tryz.underlying9 g1
  try simp at e1
  have g2 : Reads enc Tryz.prog W m 9 (([a0, a1, a2, a3, a4, a5, a6, a7] : List Value).drop 2 |>.take (Tryz.prog.cellsOf 9)) y2 := hf 2 _ rfl
  rw [show Tryz.prog.cellsOf 9 = 1 by kernel_rfl] at g2
  have p2 := bulk_pos y2.1
  obtain ⟨z2, e2, r2⟩ := dec_strW Tryz.underlying9 g2
  try simp at e2
  have g3 : Reads enc Tryz.prog W m 33 (([a0, a1, a2, a3, a4, a5, a6, a7] : List Value).drop 3 |>.take (Tryz.prog.cellsOf 33)) y3 := hf 3 _ rfl
  rw [show Tryz.prog.cellsOf 33 = 1 by kernel_rfl] at g3
  have p3 := bulk_pos y3.1
  obtain ⟨⟨v3, l3⟩, e3, k3, q3, c3, r3⟩ := dec_sliceW acC (fun a => I64 a.1) mAc Tryz.underlying33 (show Tryz.prog.cellsOf 210 = 2 by kernel_rfl) (by decide) (fun n cs y h => decAc n cs y h) g3
  dsimp only at e3 k3 q3 c3 r3
  obtain ⟨sa3, sc3, hs3⟩ := rd_shape k3
  have sh3 : ∃ a n c, v3 = .slice a n c := ⟨_, _, _, hs3⟩
  try simp at e3
  have g4 : Reads enc Tryz.prog W m 3 (([a0, a1, a2, a3, a4, a5, a6, a7] : List Value).drop 4 |>.take (Tryz.prog.cellsOf 3)) y4 := hf 4 _ rfl
  rw [show Tryz.prog.cellsOf 3 = 1 by kernel_rfl] at g4
  have p4 := bulk_pos y4.1
  obtain ⟨z4, e4, q4, r4⟩ := dec_intW Tryz.underlying3 g4
  try simp at e4
  have g5 : Reads enc Tryz.prog W m 3 (([a0, a1, a2, a3, a4, a5, a6, a7] : List Value).drop 5 |>.take (Tryz.prog.cellsOf 3)) y5 := hf 5 _ rfl
  rw [show Tryz.prog.cellsOf 3 = 1 by kernel_rfl] at g5
  have p5 := bulk_pos y5.1
  obtain ⟨z5, e5, q5, r5⟩ := dec_intW Tryz.underlying3 g5
  try simp at e5
  have g6 : Reads enc Tryz.prog W m 25 (([a0, a1, a2, a3, a4, a5, a6, a7] : List Value).drop 6 |>.take (Tryz.prog.cellsOf 25)) y6 := hf 6 _ rfl
  rw [show Tryz.prog.cellsOf 25 = 1 by kernel_rfl] at g6
  have p6 := bulk_pos y6.1
  obtain ⟨z6, e6, q6, r6⟩ := dec_intW Tryz.underlying25 g6
  try simp at e6
  have g7 : Reads enc Tryz.prog W m 34 (([a0, a1, a2, a3, a4, a5, a6, a7] : List Value).drop 7 |>.take (Tryz.prog.cellsOf 34)) y7 := hf 7 _ rfl
  rw [show Tryz.prog.cellsOf 34 = 1 by kernel_rfl] at g7
  have p7 := bulk_pos y7.1
  obtain ⟨z7, e7, s7⟩ : ∃ z : Value, a7 = z ∧ ∃ a n c, z = .slice a n c := ⟨_, rfl, slice_shape Tryz.underlying34 g7⟩
  try simp at e7
  subst e0
  subst e1
  subst e2
  subst e3
  subst e4
  subst e5
  subst e6
  subst e7
  exact ⟨⟨z0, z1, z2, a3, l3, z4, z5, z6, a7⟩, rfl, ⟨q0, q4, q5, q6, k3, sh3, s7, q3⟩, by unfold mPt; dsimp only; omega⟩
set_option maxRecDepth 100000 in
theorem decPtD {H : Type} {enc : TypeId × Value → H} {W : World} (n : Nat) (cs : List Value) (y : DataW H × List MemPlace) (h : Reads enc Tryz.prog W n 36 cs y) : ∃ (y0 : Pt) (l : List Pt), cs = ptC y0 ∧ PtQ (Old W) y0 ∧ (∀ h : Hp, Old W h → rdS 8 h y0.subsV l.length (l.flatMap ptC)) ∧ (∀ q ∈ l, PtQ (Old W) q) ∧ mPt y0 + (l.map mPt).sum ≤ Rows.uptoBulk y.1 := by
  obtain ⟨xs, m, -, rfl, hlen, hxs, hf⟩ := DataW.trod_struct Tryz.underlying36 h
  rw [show Tryz.prog.cellsOf 36 = 8 by kernel_rfl] at hlen
  obtain ⟨a0, a1, a2, a3, a4, a5, a6, a7, rfl⟩ : ∃ a0 a1 a2 a3 a4 a5 a6 a7, cs = [a0, a1, a2, a3, a4, a5, a6, a7] := by
    match cs, hlen with
    | [a0, a1, a2, a3, a4, a5, a6, a7], _ => exact ⟨a0, a1, a2, a3, a4, a5, a6, a7, rfl⟩
  obtain ⟨y0, y1, y2, y3, y4, y5, y6, y7, rfl⟩ : ∃ y0 y1 y2 y3 y4 y5 y6 y7, xs = [y0, y1, y2, y3, y4, y5, y6, y7] := by
    match xs, hxs with
    | [y0, y1, y2, y3, y4, y5, y6, y7], _ => exact ⟨y0, y1, y2, y3, y4, y5, y6, y7, rfl⟩
  simp only [Rows.uptoBulk, Rows.uptoBulkAll, List.map_cons, List.map_nil]
  have g0 : Reads enc Tryz.prog W m 3 (([a0, a1, a2, a3, a4, a5, a6, a7] : List Value).drop 0 |>.take (Tryz.prog.cellsOf 3)) y0 := hf 0 _ rfl
  rw [show Tryz.prog.cellsOf 3 = 1 by kernel_rfl] at g0
  have p0 := bulk_pos y0.1
  obtain ⟨z0, e0, q0, r0⟩ := dec_intW Tryz.underlying3 g0
  try simp at e0
  have g1 : Reads enc Tryz.prog W m 9 (([a0, a1, a2, a3, a4, a5, a6, a7] : List Value).drop 1 |>.take (Tryz.prog.cellsOf 9)) y1 := hf 1 _ rfl
  rw [show Tryz.prog.cellsOf 9 = 1 by kernel_rfl] at g1
  have p1 := bulk_pos y1.1
  obtain ⟨z1, e1, r1⟩ := dec_strW Tryz.underlying9 g1
  try simp at e1
  have g2 : Reads enc Tryz.prog W m 9 (([a0, a1, a2, a3, a4, a5, a6, a7] : List Value).drop 2 |>.take (Tryz.prog.cellsOf 9)) y2 := hf 2 _ rfl
  rw [show Tryz.prog.cellsOf 9 = 1 by kernel_rfl] at g2
  have p2 := bulk_pos y2.1
  obtain ⟨z2, e2, r2⟩ := dec_strW Tryz.underlying9 g2
  try simp at e2
  have g3 : Reads enc Tryz.prog W m 33 (([a0, a1, a2, a3, a4, a5, a6, a7] : List Value).drop 3 |>.take (Tryz.prog.cellsOf 33)) y3 := hf 3 _ rfl
  rw [show Tryz.prog.cellsOf 33 = 1 by kernel_rfl] at g3
  have p3 := bulk_pos y3.1
  obtain ⟨⟨v3, l3⟩, e3, k3, q3, c3, r3⟩ := dec_sliceW acC (fun a => I64 a.1) mAc Tryz.underlying33 (show Tryz.prog.cellsOf 210 = 2 by kernel_rfl) (by decide) (fun n cs y h => decAc n cs y h) g3
  dsimp only at e3 k3 q3 c3 r3
  obtain ⟨sa3, sc3, hs3⟩ := rd_shape k3
  have sh3 : ∃ a n c, v3 = .slice a n c := ⟨_, _, _, hs3⟩
  try simp at e3
  have g4 : Reads enc Tryz.prog W m 3 (([a0, a1, a2, a3, a4, a5, a6, a7] : List Value).drop 4 |>.take (Tryz.prog.cellsOf 3)) y4 := hf 4 _ rfl
  rw [show Tryz.prog.cellsOf 3 = 1 by kernel_rfl] at g4
  have p4 := bulk_pos y4.1
  obtain ⟨z4, e4, q4, r4⟩ := dec_intW Tryz.underlying3 g4
  try simp at e4
  have g5 : Reads enc Tryz.prog W m 3 (([a0, a1, a2, a3, a4, a5, a6, a7] : List Value).drop 5 |>.take (Tryz.prog.cellsOf 3)) y5 := hf 5 _ rfl
  rw [show Tryz.prog.cellsOf 3 = 1 by kernel_rfl] at g5
  have p5 := bulk_pos y5.1
  obtain ⟨z5, e5, q5, r5⟩ := dec_intW Tryz.underlying3 g5
  try simp at e5
  have g6 : Reads enc Tryz.prog W m 25 (([a0, a1, a2, a3, a4, a5, a6, a7] : List Value).drop 6 |>.take (Tryz.prog.cellsOf 25)) y6 := hf 6 _ rfl
  rw [show Tryz.prog.cellsOf 25 = 1 by kernel_rfl] at g6
  have p6 := bulk_pos y6.1
  obtain ⟨z6, e6, q6, r6⟩ := dec_intW Tryz.underlying25 g6
  try simp at e6
  have g7 : Reads enc Tryz.prog W m 34 (([a0, a1, a2, a3, a4, a5, a6, a7] : List Value).drop 7 |>.take (Tryz.prog.cellsOf 34)) y7 := hf 7 _ rfl
  rw [show Tryz.prog.cellsOf 34 = 1 by kernel_rfl] at g7
  have p7 := bulk_pos y7.1
  obtain ⟨⟨v7, l7⟩, e7, k7, q7, c7, r7⟩ := dec_sliceW ptC (fun q => PtQ (Old W) q) mPt Tryz.underlying34 (show Tryz.prog.cellsOf 36 = 8 by kernel_rfl) (by decide) (fun n cs y h => decPt n cs y h) g7
  dsimp only at e7 k7 q7 c7 r7
  obtain ⟨sa7, sc7, hs7⟩ := rd_shape k7
  have sh7 : ∃ a n c, v7 = .slice a n c := ⟨_, _, _, hs7⟩
  try simp at e7
  subst e0
  subst e1
  subst e2
  subst e3
  subst e4
  subst e5
  subst e6
  subst e7
  exact ⟨⟨z0, z1, z2, a3, l3, z4, z5, z6, a7⟩, l7, rfl, ⟨q0, q4, q5, q6, k3, sh3, sh7, q3⟩, k7, q7, by unfold mPt; dsimp only; unfold mPt at r7; omega⟩
set_option maxRecDepth 100000 in
theorem decEn {H : Type} {enc : TypeId × Value → H} {W : World} (n : Nat) (cs : List Value) (y : DataW H × List MemPlace) (h : Reads enc Tryz.prog W n 38 cs y) : ∃ e : En, cs = enC e ∧ EnQ (Old W) e ∧ mEn e ≤ Rows.uptoBulk y.1 := by
  obtain ⟨xs, m, -, rfl, hlen, hxs, hf⟩ := DataW.trod_struct Tryz.underlying38 h
  rw [show Tryz.prog.cellsOf 38 = 11 by kernel_rfl] at hlen
  obtain ⟨a0, a1, a2, a3, a4, a5, a6, a7, a8, a9, a10, rfl⟩ : ∃ a0 a1 a2 a3 a4 a5 a6 a7 a8 a9 a10, cs = [a0, a1, a2, a3, a4, a5, a6, a7, a8, a9, a10] := by
    match cs, hlen with
    | [a0, a1, a2, a3, a4, a5, a6, a7, a8, a9, a10], _ => exact ⟨a0, a1, a2, a3, a4, a5, a6, a7, a8, a9, a10, rfl⟩
  obtain ⟨y0, y1, y2, y3, rfl⟩ : ∃ y0 y1 y2 y3, xs = [y0, y1, y2, y3] := by
    match xs, hxs with
    | [y0, y1, y2, y3], _ => exact ⟨y0, y1, y2, y3, rfl⟩
  simp only [Rows.uptoBulk, Rows.uptoBulkAll, List.map_cons, List.map_nil]
  have g0 : Reads enc Tryz.prog W m 3 (([a0, a1, a2, a3, a4, a5, a6, a7, a8, a9, a10] : List Value).drop 0 |>.take (Tryz.prog.cellsOf 3)) y0 := hf 0 _ rfl
  rw [show Tryz.prog.cellsOf 3 = 1 by kernel_rfl] at g0
  have p0 := bulk_pos y0.1
  obtain ⟨z0, e0, q0, r0⟩ := dec_intW Tryz.underlying3 g0
  try simp at e0
  have g1 : Reads enc Tryz.prog W m 3 (([a0, a1, a2, a3, a4, a5, a6, a7, a8, a9, a10] : List Value).drop 1 |>.take (Tryz.prog.cellsOf 3)) y1 := hf 1 _ rfl
  rw [show Tryz.prog.cellsOf 3 = 1 by kernel_rfl] at g1
  have p1 := bulk_pos y1.1
  obtain ⟨z1, e1, q1, r1⟩ := dec_intW Tryz.underlying3 g1
  try simp at e1
  have g2 : Reads enc Tryz.prog W m 3 (([a0, a1, a2, a3, a4, a5, a6, a7, a8, a9, a10] : List Value).drop 2 |>.take (Tryz.prog.cellsOf 3)) y2 := hf 2 _ rfl
  rw [show Tryz.prog.cellsOf 3 = 1 by kernel_rfl] at g2
  have p2 := bulk_pos y2.1
  obtain ⟨z2, e2, q2, r2⟩ := dec_intW Tryz.underlying3 g2
  try simp at e2
  have g3 : Reads enc Tryz.prog W m 36 (([a0, a1, a2, a3, a4, a5, a6, a7, a8, a9, a10] : List Value).drop 3 |>.take (Tryz.prog.cellsOf 36)) y3 := hf 3 _ rfl
  rw [show Tryz.prog.cellsOf 36 = 8 by kernel_rfl] at g3
  have p3 := bulk_pos y3.1
  obtain ⟨z3, l3, e3, q3, k3, s3, r3⟩ := decPtD _ _ _ g3
  try simp [ptC, enC] at e3
  subst e0
  subst e1
  subst e2
  obtain ⟨rfl, rfl, rfl, rfl, rfl, rfl, rfl, rfl⟩ := e3
  exact ⟨⟨z0, z1, z2, z3, l3⟩, rfl, ⟨q0, q1, q2, q3, k3, s3⟩, by unfold mEn; dsimp only; omega⟩
end Go.Proofs.YtidjhgbdokcphaaGreat

/- Own work, by program: scripts of law 09, decoded. -/
namespace Go.Proofs.YtidjhgbdokcphaaGreat
open Go Go.ChangeShapes Go.WideShapes Go.ChangeAt Go.RowKit
def Ints9 (p : HP) (v : Value) (l : List Int) : Prop := (∀ h : Hp, p h → rdS 1 h v l.length (ints l)) ∧ (∀ z ∈ l, I64 z) ∧ l.length ≤ 1048576
theorem fm_ints (l : List Int) : (l.flatMap fun z => [vint z]) = ints l := by
  induction l with
  | nil => rfl
  | cons z l ih => rw [List.flatMap_cons, ih]; rfl
instance : Inhabited Op9 := ⟨⟨0, 0, 0, en0, nilV, [], [], nilV, []⟩⟩
set_option maxRecDepth 100000 in
theorem decOp {H : Type} {enc : TypeId × Value → H} {W : World} (n : Nat) (cs : List Value) (y : DataW H × List MemPlace) (h : Reads enc Tryz.prog W n 73 cs y) : ∃ o : Op9, cs = op9C o ∧ (Rows.uptoBulk y.1 ≤ 1048576 → Op9A (Old W) o) := by
  obtain ⟨xs, m, -, rfl, hlen, hxs, hf⟩ := DataW.trod_struct Tryz.underlying73 h
  rw [show Tryz.prog.cellsOf 73 = 17 by kernel_rfl] at hlen
  obtain ⟨a0, a1, a2, a3, a4, a5, a6, a7, a8, a9, a10, a11, a12, a13, a14, a15, a16, rfl⟩ : ∃ a0 a1 a2 a3 a4 a5 a6 a7 a8 a9 a10 a11 a12 a13 a14 a15 a16, cs = [a0, a1, a2, a3, a4, a5, a6, a7, a8, a9, a10, a11, a12, a13, a14, a15, a16] := by
    match cs, hlen with
    | [a0, a1, a2, a3, a4, a5, a6, a7, a8, a9, a10, a11, a12, a13, a14, a15, a16], _ => exact ⟨a0, a1, a2, a3, a4, a5, a6, a7, a8, a9, a10, a11, a12, a13, a14, a15, a16, rfl⟩
  obtain ⟨y0, y1, y2, y3, y4, y5, y6, rfl⟩ : ∃ y0 y1 y2 y3 y4 y5 y6, xs = [y0, y1, y2, y3, y4, y5, y6] := by
    match xs, hxs with
    | [y0, y1, y2, y3, y4, y5, y6], _ => exact ⟨y0, y1, y2, y3, y4, y5, y6, rfl⟩
  simp only [Rows.uptoBulk, Rows.uptoBulkAll, List.map_cons, List.map_nil]
  have g0 : Reads enc Tryz.prog W m 3 (([a0, a1, a2, a3, a4, a5, a6, a7, a8, a9, a10, a11, a12, a13, a14, a15, a16] : List Value).drop 0 |>.take (Tryz.prog.cellsOf 3)) y0 := hf 0 _ rfl
  rw [show Tryz.prog.cellsOf 3 = 1 by kernel_rfl] at g0
  have p0 := bulk_pos y0.1
  obtain ⟨z0, e0, q0, r0⟩ := dec_intW Tryz.underlying3 g0
  try simp at e0
  have g1 : Reads enc Tryz.prog W m 3 (([a0, a1, a2, a3, a4, a5, a6, a7, a8, a9, a10, a11, a12, a13, a14, a15, a16] : List Value).drop 1 |>.take (Tryz.prog.cellsOf 3)) y1 := hf 1 _ rfl
  rw [show Tryz.prog.cellsOf 3 = 1 by kernel_rfl] at g1
  have p1 := bulk_pos y1.1
  obtain ⟨z1, e1, q1, r1⟩ := dec_intW Tryz.underlying3 g1
  try simp at e1
  have g2 : Reads enc Tryz.prog W m 3 (([a0, a1, a2, a3, a4, a5, a6, a7, a8, a9, a10, a11, a12, a13, a14, a15, a16] : List Value).drop 2 |>.take (Tryz.prog.cellsOf 3)) y2 := hf 2 _ rfl
  rw [show Tryz.prog.cellsOf 3 = 1 by kernel_rfl] at g2
  have p2 := bulk_pos y2.1
  obtain ⟨z2, e2, q2, r2⟩ := dec_intW Tryz.underlying3 g2
  try simp at e2
  have g3 : Reads enc Tryz.prog W m 38 (([a0, a1, a2, a3, a4, a5, a6, a7, a8, a9, a10, a11, a12, a13, a14, a15, a16] : List Value).drop 3 |>.take (Tryz.prog.cellsOf 38)) y3 := hf 3 _ rfl
  rw [show Tryz.prog.cellsOf 38 = 11 by kernel_rfl] at g3
  have p3 := bulk_pos y3.1
  obtain ⟨z3, e3, q3, r3⟩ := decEn _ _ _ g3
  try simp [ptC, enC] at e3
  have g4 : Reads enc Tryz.prog W m 22 (([a0, a1, a2, a3, a4, a5, a6, a7, a8, a9, a10, a11, a12, a13, a14, a15, a16] : List Value).drop 14 |>.take (Tryz.prog.cellsOf 22)) y4 := hf 4 _ rfl
  rw [show Tryz.prog.cellsOf 22 = 1 by kernel_rfl] at g4
  have p4 := bulk_pos y4.1
  obtain ⟨⟨v4, l4⟩, e4, k4, q4, c4, r4⟩ := dec_sliceW enC (fun e => EnQ (Old W) e) mEn Tryz.underlying22 (show Tryz.prog.cellsOf 38 = 11 by kernel_rfl) (by decide) (fun n cs y h => decEn n cs y h) g4
  dsimp only at e4 k4 q4 c4 r4
  have ck4 : isCell v4 = true := by obtain ⟨sa, sc, hs⟩ := rd_shape k4; rw [hs]; rfl
  try simp at e4
  have g5 : Reads enc Tryz.prog W m 9 (([a0, a1, a2, a3, a4, a5, a6, a7, a8, a9, a10, a11, a12, a13, a14, a15, a16] : List Value).drop 15 |>.take (Tryz.prog.cellsOf 9)) y5 := hf 5 _ rfl
  rw [show Tryz.prog.cellsOf 9 = 1 by kernel_rfl] at g5
  have p5 := bulk_pos y5.1
  obtain ⟨z5, e5, r5⟩ := dec_strW Tryz.underlying9 g5
  try simp at e5
  have g6 : Reads enc Tryz.prog W m 31 (([a0, a1, a2, a3, a4, a5, a6, a7, a8, a9, a10, a11, a12, a13, a14, a15, a16] : List Value).drop 16 |>.take (Tryz.prog.cellsOf 31)) y6 := hf 6 _ rfl
  rw [show Tryz.prog.cellsOf 31 = 1 by kernel_rfl] at g6
  have p6 := bulk_pos y6.1
  obtain ⟨⟨v6, l6⟩, e6, k6, q6, c6, r6⟩ := dec_sliceW (fun z => [vint z]) (fun z => I64 z) (fun _ => 1) Tryz.underlying31 (show Tryz.prog.cellsOf 3 = 1 by kernel_rfl) (by decide) (fun n cs y h => dec_intW Tryz.underlying3 h) g6
  dsimp only at e6 k6 q6 c6 r6
  have ck6 : isCell v6 = true := by obtain ⟨sa, sc, hs⟩ := rd_shape k6; rw [hs]; rfl
  try simp at e6
  subst e0
  subst e1
  subst e2
  obtain ⟨rfl, rfl, rfl, rfl, rfl, rfl, rfl, rfl, rfl, rfl, rfl⟩ := e3
  subst e4
  subst e5
  subst e6
  exact ⟨⟨z0, z1, z2, z3, a14, l4, z5, a16, l6⟩, rfl, fun hb => ⟨q0, q1, q2, q3.X (by omega), k4, by dsimp only; omega, fun e he => (q4 e he).X (by have := sum_mem (m := mEn) (l := l4) he; omega), by dsimp only; omega, fun h hp => by rw [← fm_ints]; exact k6 h hp, q6, ck4, ck6⟩⟩
theorem sum_at {l : List Nat} {i : Nat} (h : i < l.length) : l[i] ≤ l.sum := by
  have := sum_mem (m := id) (l := l) (List.getElem_mem h)
  simpa using this
theorem dec_ops9 {H : Type} {enc : TypeId × Value → H} {W : World} {fuel : Nat} {cs : List Value} {x : DataW H × List MemPlace} (h : Reads enc Tryz.prog W fuel 71 cs x) (hb : Rows.uptoBulk x.1 ≤ 1048576) : ∃ (v : Value) (xs : List Op9), cs = [v] ∧ Ops9 (Old W) v xs := by
  obtain ⟨⟨v, xs⟩, ws, h1, h2, h3, h4, h5, -, h7⟩ := dec_sliceQV (N := 1048576) op9C (fun B o => B ≤ 1048576 → Op9A (Old W) o) Tryz.underlying71 (show Tryz.prog.cellsOf 73 = 17 by kernel_rfl) (by decide) (fun n cs y h => decOp n cs y h) h (by omega)
  dsimp only at h1 h2 h3 h4 h7
  refine ⟨v, xs, h1, h2, h3, fun o ho => ?_⟩
  obtain ⟨i, hi, rfl⟩ := List.mem_iff_getElem.1 ho
  have hw : i < ws.length := by omega
  exact h7 i hi hw (Nat.le_trans (sum_at hw) h5)
end Go.Proofs.YtidjhgbdokcphaaGreat

/- Own work: ledgerOpened: the walk, brought to the given second form and its card. -/

namespace Go.Proofs.YtidjhgbdokcphaaGreat.ledgerOpened
open Go Go.ChangeShapes Go.WideShapes Go.ChangeAt Go.RowKit
theorem own : ownKnob Tryz.prog.godebug = none := by kernel_rfl
theorem laid : laidOutB Tryz.prog = true := by kernel_rfl
theorem readable : ∀ t ∈ Tryz.f7.params.toList, Tryz.prog.readableRec t = true ∧ t < Tryz.prog.types.size := by
  have h : (Tryz.f7.params.toList.all fun t => Tryz.prog.readableRec t && decide (t < Tryz.prog.types.size)) = true := by kernel_rfl
  intro t ht
  simpa using List.all_eq_true.1 h t ht
set_option maxRecDepth 100000 in
theorem contract (H : Type) (enc : TypeId × Value → H) (W : World) (base : Nat) (args : Array Value) (ds gs : List (DataW H)) (before : List MemPlace)
    (hval : ∀ (j : Nat) t v, Tryz.f7.params[j]? = some t → args[j]? = some v → Value.okWide Tryz.prog W .any base t v)
    (hW : DataW.Whole enc Tryz.prog Tryz.f7.params.toList Rows.ledgerOpenedSpec.vars false W args.toList ds gs before) (hk : Rows.uptoSmall H (ds ++ gs) = true) :
    Calls Tryz.prog 7 args W fun e W' => ∃ v, e = .returned v ∧ Rows.ledgerOpenedSpec.post enc Tryz.prog Tryz.f7 false true false false W args v W' := by
  have hW' := hW
  obtain ⟨p, q, hA, hV, rfl, hfz, hnd⟩ := hW
  obtain ⟨rfl, -⟩ := trodVars_none hV
  rw [List.append_nil] at hk
  have hpar : Tryz.f7.params = #[3, 71, 3] := Tryz.params7
  rw [hpar] at hval
  have hA' := hA
  rw [hpar] at hA'
  obtain ⟨v0, vs0, d0, ds0, p0, r0, ha0, rfl, rfl, h0, t0⟩ := trodAll_cons hA'
  obtain ⟨v1, vs1, d1, ds1, p1, r1, ha1, rfl, rfl, h1, t1⟩ := trodAll_cons t0
  obtain ⟨v2, vs2, d2, ds2, p2, r2, ha2, rfl, rfl, h2, t2⟩ := trodAll_cons t1
  obtain ⟨hv, rfl, rfl⟩ := trodAll_nil t2
  obtain rfl : args = #[v0, v1, v2] := by
    have e : args.toList = [v0, v1, v2] := by rw [ha0, ha1, ha2, hv]
    cases args; simp_all
  have b0 := bulk_small hk (d := d0) (by simp)
  obtain ⟨n0, rfl, -, q0⟩ := arg_int Tryz.underlying3 (hval 0 _ _ rfl rfl) h0
  have b1 := bulk_small hk (d := d1) (by simp)
  obtain ⟨ad1, nn1, cp1, rfl⟩ := okWide_slice Tryz.underlying71 (hval 1 _ _ rfl rfl)
  obtain ⟨fu1, g1⟩ := h1
  obtain ⟨v1, xs1, e1, q1⟩ := dec_ops9 g1 b1
  simp [Value.cells] at e1
  subst e1
  have b2 := bulk_small hk (d := d2) (by simp)
  obtain ⟨n2, rfl, -, q2⟩ := arg_int Tryz.underlying3 (hval 2 _ _ rfl rfl) h2
  refine (old_calls (ledgerOpened_spec n0 n2 _ xs1 (Old W) q0 q2 q1)).mono fun e W' ⟨he, hb⟩ => ⟨_, he, ?_⟩
  exact settled hW' rfl (fun gs' h => by subst h; rfl) rfl Tryz.underlying4 laid readable hb
set_option maxRecDepth 100000 in
theorem lifted (os : Os) (started : os.Started) (H : Type) (enc : TypeId × Value → H) (F : Stop.Interp) :
    ReturnsInHanded {} Tryz.checked os 7 .any ((Rows.OpenSpec.upto Rows.ledgerOpenedSpec).pre6 enc Tryz.prog Tryz.f7 Rows.ledgerOpenedUptoRow.domain false) (((Rows.OpenSpec.upto Rows.ledgerOpenedSpec).at F).post enc Tryz.prog Tryz.f7 false true false false) := by
  refine returnsInHanded_of_cond (C := Tryz.checked) (s := Rows.OpenSpec.upto Rows.ledgerOpenedSpec) (k := Rows.uptoSmall) rfl own started (by kernel_rfl) Tryz.func7
    (OpenSpec.witness (enc := enc) (C := Tryz.checked) (s := Rows.OpenSpec.upto Rows.ledgerOpenedSpec) (k := Rows.uptoSmall) rfl false ⟨#[], #[.int .i64 0, .slice none 0 0, .int .i64 0], []⟩ 8 (by kernel_rfl) (by kernel_rfl) (by kernel_rfl)
      (x := ([.lit (.int .i64 0), .nil, .lit (.int .i64 0)], [], [])) (by kernel_rfl) rfl (by kernel_rfl)) ?_
  intro W base args ds gs before hval hW _ hk _
  exact contract H enc W base args ds gs before hval hW hk
theorem proved : Rows.LedgerOpenedUptoSaid :=
  OpenClaim.holds_of_cond 7 Tryz.f7 rfl rfl rfl rfl rfl rfl rfl ⟨rfl, rfl, rfl, rfl, rfl⟩ rfl rfl rfl rfl rfl (by kernel_rfl) Tryz.func7 (by kernel_rfl)
    (of_decide_eq_true (by kernel_rfl)) (by unfold Func.isWrapper; first | (rw [if_pos (by decide +kernel)]; kernel_rfl) | (rw [if_neg (by decide +kernel)]; exact ⟨rfl, rfl⟩))
    (fun os started H enc _ F => lifted os started H enc F)
end Go.Proofs.YtidjhgbdokcphaaGreat.ledgerOpened

