/- Own work, some of it printed by program, texts that were built one by one: a part of the proof of followPlays.proved. -/
import Derived.Test.YteebpmkkdlabpaaGreatCFPlaysP1
import Derived.Shelf.SlIterI.Nil
import Derived.Shelf.SortM.Plain
import Derived.Shelf.SortM.SortNone
import Derived.Ground.GgzProg
import Derived.Ground.SlgmProg
import Derived.Test.YteebpmkkdlabpaaGreatProg
import Derived.Test.YteebpmkkdlabpaaGreatCFPlaysP0
import Derived.Sort.OwnSortedInts
import Derived.Shelf.Slices.CompactI
import Derived.Shelf.Slices.Cells
set_option maxRecDepth 100000
namespace Go.Proofs.YteebpmkkdlabpaaGreat
open Go
structure EnX (p : HP) (e : En) : Prop where
 l : EnL p e
 sub : ∀ y ∈ e.subs, ∃ a n c, y.subsV = .slice a n c
def hasSub (y : Pt) : Bool := decide (slen y.subsV > 0)
theorem noSubs_any (l : List Pt) : (l.all fun y => decide (slen y.subsV = 0)) = !l.any hasSub := by
 induction l with
 | nil => rfl
 | cons y l ih =>
  rw [List.all_cons, List.any_cons, ih]
  have e : decide (slen y.subsV = 0) = !hasSub y := by
   unfold hasSub
   rcases Nat.eq_zero_or_pos (slen y.subsV) with h | h
   ·rw [h]; rfl
   ·rw [decide_eq_false (by omega), decide_eq_true h]; rfl
  rw [e]; cases hasSub y <;> rfl
theorem LgI.met {Λ : Lg} (h : LgI Λ) (e : Int) : LgI (Λ.met e) := by
 unfold Lg.met
 split
 ·exact ⟨h.ents, h.same, h.each, h.base, h.zxs⟩
 ·exact h
theorem lhas_spec (y : Pt) (a : Option Addr) (n c : Nat) (hy : y.subsV = .slice a n c) : Fn Tryz.prog 110 #[.agg (ptC y).toArray] [] fun v L => v = .bool (hasSub y) ∧ L = [] := by
 refine Fn.intro Tryz.func110 rfl rfl fun F W => ?_
 refine .sr (.oq (.box rfl) ?_)
 rintro v L' ⟨b1, rfl, rfl⟩
 refine .a rfl (.nil (.ptCast (b := b1) (l' := ptC y) (by repeat' constructor) rfl (.then_n (.sr (.u (.fieldAddr rfl fo_73_7) (.q (.to (v' := .slice a n c) (.load rfl ag_71 (by repeat' constructor) rfl) hy) rfl (.q (.slen rfl Tryz.underlying71 rfl) rfl (.ui rfl rfl rfl (.an rfl (.ret ?_))))))))))
 exact .dn rfl rfl ⟨congrArg Value.bool (decide_eq_decide.2 (by rw [hy]; show _ ↔ n > 0; omega)), rfl⟩
theorem lidx_spec (v : Value) (l : List Pt) (p : HP) (hr : ∀ h : Hp, p h → rdS 8 h v l.length (l.flatMap ptC)) (hl : l.length ≤ 4294967296) (hs : ∀ y ∈ l, ∃ a n c, y.subsV = .slice a n c) : Fn Tryz.prog 174 #[v, .func (.func 110) #[] #[]] [p] fun u L => (∃ r : Int, u = vint r ∧ (decide (r ≥ 0) = l.any hasSub)) ∧ L = [p] := by
 refine Fn.intro Tryz.func174 rfl rfl fun F W => ?_
 refine .rdAny (p := p) hr (by repeat' constructor) fun aa ca e _ => ?_
 subst e
 refine .sr (.an rfl (.seq (.sm rfl (.q (.slen rfl Tryz.underlying71 rfl) rfl (.m rfl (.nt (.block (.loopK (ι := Nat) (fun q E => (8, vint q) :: E) (fun q => []) (fun q => q ≤ l.length ∧ ∀ j (hj : j < q) (hl : j < l.length), hasSub l[j] = false) (fun q => l.length - q) (0) (ts := [0, 1, 7]) (.cons rfl (.cons rfl (.cons rfl (.nil)))) (⟨Nat.zero_le _, fun j hj => by omega⟩) ⟨rfl, rfl, rfl, rfl, trivial⟩ (by repeat' constructor) ?_))))))))
 rintro i ⟨hi, hb⟩
 refine .sr (.ui rfl rfl rfl (.nt (.seq (.condD rfl (fun h9 => ?_) (fun h9 => ?_)))))
 ·have hi2 : i < l.length := by omega
  obtain ⟨sa, sn, sc, hsy⟩ := hs _ (List.getElem_mem hi2)
  refine .rdShape (p := p) hr (by repeat' constructor) (by omega) fun ba oa e => ?_
  subst e
  refine .sk (.seq (.block (.sm rfl (.an rfl (.sm rfl (.m rfl (.m rfl (.q (.indexAddr rfl rfl el_71 (by omega)) rfl (.q (.loadRdA (sz := 8) (j := i * 8) (k := 8) (p := p) (vs := ptC l[i]) rfl ag_73 (by repeat' constructor) hr (by simp) (by omega) (by omega) (flatMap_at (f := ptC) (sz := 8) (fun _ _ => rfl) (by omega))) rfl (.oq (.callV Tryz.func110 rfl rfl (us := []) (vs := [_]) (ws := []) rfl rfl (lhas_spec l[i] sa sn sc hsy)) ?_))))))))))
  rintro v L' ⟨rfl, rfl⟩
  refine .nt (.condB rfl (fun h16 => ?_) (fun h16 => ?_))
  ·refine .sm rfl (.an rfl (.ret (.blk_r (.then_r (.then_r (.blk_r (.then_r ?_)))))))
   exact .dn rfl rfl ⟨⟨_, rfl, by rw [decide_eq_true (by omega)]; exact (List.any_eq_true.2 ⟨l[i], List.getElem_mem hi2, h16⟩).symm⟩, rfl⟩
  refine .skip (.blk_n (.then_n (.region (.q (.add rfl rfl (by omega)) rfl (.m rfl (.nt ?_))))))
  exact .rk (i + 1) (⟨by omega, fun j hj hl => by rcases Nat.lt_or_ge j i with h | h; exact hb j h hl; obtain rfl : j = i := (by omega); exact h16⟩) (by omega) ⟨rfl, rfl, rfl, rfl, trivial⟩
 refine .exit (.then_e (.then_e (.blk_e (.then_n (.sr (.an rfl (.ret ?_)))))))
 exact .dn rfl rfl ⟨⟨_, rfl, by rw [decide_eq_false (by decide)]; symm; rw [List.any_eq_false]; intro s hs; obtain ⟨j, hj, rfl⟩ := List.mem_iff_getElem.1 hs; rw [hb j (by omega) hj]; decide⟩, rfl⟩
theorem lcontains_spec (v : Value) (l : List Pt) (p : HP) (hr : ∀ h : Hp, p h → rdS 8 h v l.length (l.flatMap ptC)) (hl : l.length ≤ 4294967296) (hs : ∀ y ∈ l, ∃ a n c, y.subsV = .slice a n c) : Fn Tryz.prog 109 #[v, .func (.func 110) #[] #[]] [p] fun u L => u = .bool (l.any hasSub) ∧ L = [p] := by
 refine Fn.intro Tryz.func109 rfl rfl fun F W => ?_
 refine .sr (.an rfl (.sm rfl (.m rfl (.oq (.c Tryz.func174 [_, _] (lidx_spec v l p hr hl hs)) ?_))))
 rintro v' L' ⟨⟨r, rfl, hrl⟩, rfl⟩
 refine .ui rfl rfl rfl (.an rfl (.ret ?_))
 exact .dn rfl rfl ⟨congrArg Value.bool hrl, rfl⟩
theorem llaid_spec (e : En) (p : HP) (he : EnX p e) : Fn Tryz.prog 67 #[.agg (enC e).toArray] [p] fun v L => ∃ s1, (fitsE e = true → s1 = enB e) ∧ v = .tuple #[vstr s1, .bool (fitsE e)] ∧ L = [p] := by
 refine Fn.intro Tryz.func67 rfl rfl fun F W => ?_
 have hle := he.l.len
 have hns : noSubs e = !e.subs.any hasSub := noSubs_any e.subs
 refine .sr (.oq (.box rfl) ?_)
 rintro v L' ⟨b1, rfl, rfl⟩
 refine .a rfl (.a rfl (.nil (.ptCast (b := b1) (l' := enC e) (by repeat' constructor) (by exact rfl) (.then_n (.seq (.sr (.u (.fieldAddr rfl fo_75_3) (.u (.fieldAddr rfl fo_73_7) (.u (.ld rfl ag_71) (.oq (.call Tryz.func109 rfl rfl (vs := [_, _]) rfl (lcontains_spec _ e.subs p he.l.w.subs (by have := he.l.few.1; omega) he.sub)) ?_))))))))))
 rintro v L' ⟨rfl, rfl⟩
 refine .nt (.condB rfl (fun h10 => ?_) (fun h10 => ?_))
 ·refine .sr (.a rfl (.an rfl (.rt ?_)))
  have hf : fitsE e = false := by unfold fitsE; rw [hns, h10]; rfl
  rw [hf]
  exact .dn rfl rfl ⟨[], (fun h => by cases h), rfl, rfl⟩
 refine .sk (.sr (.q (.loadAs (vs := enC e) rfl ag_75 (by repeat' constructor) (by simp [enC, ptC]) rfl) rfl (.cv Tryz.func111 [_] (wput_spec e p he.l) ?_)))
 refine .an rfl (.sm rfl (.oq (.c Tryz.func82 [_] (wget_spec (enB e) (by omega))) ?_))
 rintro v L' ⟨ge, er, hge, rfl, rfl⟩
 refine .m rfl (.u (.extract rfl rfl) (.u (.extract rfl rfl) (.oq (.allocA ze_75) ?_)))
 rintro v L' ⟨b5, rfl, rfl⟩
 refine .oq (.storeA rfl rfl ?c21 sz_75 ?c24 ?c22 (nfz0 _ _)) ?_
 case c21 => exact hge.cells
 case c24 => rfl
 case c22 => simp [enC, ptC]
 rintro v L' rfl
 refine .an rfl (.sm rfl (.m rfl (.q (.as (v' := .bool (fitsE e)) (by exact congrArg Value.bool (by unfold fitsE; rw [hns, h10]; rcases hge with ⟨rfl, h2, -⟩ | ⟨rfl, h2, -⟩ <;> rw [h2] <;> rfl)) (.int rfl rfl rfl)) rfl (.a rfl (.an rfl (.ret ?_))))))
 exact .dn rfl rfl ⟨enB e, fun _ => rfl, rfl, rfl⟩
theorem lappend_spec (g x d : Nat) (δ : Dk) (ω : Wl) (Λ : Lg) (e : En) (p : HP) (he : EnX p e) (hI : WlI δ ω) (hΛ : LgI Λ) : Fn Tryz.prog 31 #[vptr g, .agg (enC e).toArray] [lgR g x Λ, wlR x d ω, dkR d δ, p] fun v L => v = vint (lgAppend ⟨δ, ω, Λ⟩ e).2 ∧ L = [lgR g x (lgAppend ⟨δ, ω, Λ⟩ e).1.Λ, wlR x d (lgAppend ⟨δ, ω, Λ⟩ e).1.ω, dkR d (lgAppend ⟨δ, ω, Λ⟩ e).1.δ, p] := by
 refine Fn.intro Tryz.func31 rfl rfl fun F W => ?_
 have hle := he.l.len
 have hfi := hI.fits
 have hhl := half_le hI.size
 refine .sr (.oq (.box rfl) ?_)
 rintro v L' ⟨b3, rfl, rfl⟩
 refine .a rfl (.nil (.ptCast (b := b3) (l' := enC e) (by repeat' constructor) (by exact rfl) (.then_n (.seq (.seq (.lgOpen (by repeat' constructor) fun ea ec za zc => (.region (.m rfl (.nf rfl fo_53_6 (.u (.ld rfl ag_4) (.nt (.condB rfl (fun h11 => ?_) (fun h11 => ?_)))))))))))))
 ·refine .sr (.an rfl (.rt ?_))
  have hr : lgAppend ⟨δ, ω, Λ⟩ e = (⟨δ, ω, Λ⟩, 2) := by unfold lgAppend; dsimp only; rw [if_pos h11]
  rw [hr]
  try dsimp only
  refine .lf (g := g) (x := x) Λ ?_
  exact .vv
 refine .lf (g := g) (x := x) Λ ?_
 refine .sk (.sr (.q (.loadAs (vs := enC e) rfl ag_75 (by repeat' constructor) (by simp [enC, ptC]) rfl) rfl (.oq (.c Tryz.func67 [_] (llaid_spec e p he)) ?_)))
 rintro v L' ⟨s1, hs1, rfl, rfl⟩
 refine .m rfl (.u (.extract rfl rfl) (.u (.extract rfl rfl) (.a rfl (.an rfl (.seq (.block (.sm rfl (.u (.not rfl) (.an rfl (.condB rfl (fun h17 => ?_) (fun h17 => ?_)))))))))))
 ·refine .sr (.an rfl (.ret (.blk_r (.then_r ?_))))
  have hr : lgAppend ⟨δ, ω, Λ⟩ e = (⟨δ, ω, Λ⟩, 1) := by unfold lgAppend; dsimp only; rw [if_neg (by rw [h11]; decide), if_pos (by simpa using h17)]
  rw [hr]
  try dsimp only
  exact .vv
 have hfit : fitsE e = true := by simpa using h17
 have hs1 := hs1 hfit
 subst hs1
 refine .seq (.draw [] [[0, 1, 2, 3, 4, 5]] mixed (by kernel_rfl) (.go [ptc b3 _ _, lgR g x Λ] (by repeat' constructor) (.kv rfl (.fieldAddr rfl fo_75_0) (.kv rfl (.ld rfl ag_3) (.mv rfl rfl (.m rfl (by kernel_rfl) (.c Tryz.func9 [_] (llast_spec g x Λ hΛ)) (by repeat' constructor) ?_))))))
 refine D.kv rfl (.int rfl rfl rfl) (.kv rfl (.assign rfl) (.pf (.condD rfl (fun h20 => ?_) (fun h20 => ?_))))
 ·refine .sr (.an rfl (.ret (.blk_r (.then_r ?_))))
  have hr : lgAppend ⟨δ, ω, Λ⟩ e = (⟨δ, ω, Λ⟩, 81) := by unfold lgAppend; dsimp only; rw [if_neg (by rw [h11]; decide), if_neg (by rw [hfit]; decide), if_pos h20]
  rw [hr]
  try dsimp only
  exact .vv
 refine .seq (.lgOpen (by repeat' constructor) fun ea ec za zc => (.region (.m rfl (.nf rfl fo_53_4 (.u (.ld rfl ag_39) (.q (.slen rfl Tryz.underlying39 rfl) rfl (.ui rfl rfl rfl (.m rfl (.dec (t := 33) rfl (fun h8_33 => ?_) (fun h8_33 => ?_))))))))))
 ·refine .kDT (t := 32) rfl h8_33 (.gk (.gk (.gk (.gk (.gk (.gk (.gk (.gk (.u (.pickT rfl rfl) (.a rfl (.nil (.lf (g := g) (x := x) Λ ?_))))))))))))
  refine .then_n (.condT rfl (.sr (.an rfl (.ret (.blk_r (.then_r ?_))))))
  have hr : lgAppend ⟨δ, ω, Λ⟩ e = (⟨δ, ω, Λ⟩, 83) := by unfold lgAppend; dsimp only; rw [if_neg (by rw [h11]; decide), if_neg (by rw [hfit]; decide), if_neg h20, if_pos (by first | exact .inl (by omega) | exact .inr h26)]
  rw [hr]
  try dsimp only
  exact .vv
 refine .kDF (t := 32) rfl h8_33 (.grun (t := 33) rfl rfl rfl (.m rfl (.grun (t := 33) rfl rfl rfl (.q (.strlen rfl Tryz.underlying9 rfl) rfl (.grun (t := 33) rfl rfl rfl (.m rfl (.grun (t := 33) rfl rfl rfl (.u (.nilp rfl) (.grun (t := 33) rfl rfl rfl (.u (.fieldAddr rfl fo_53_1) (.grun (t := 33) rfl rfl rfl (.u (.ld rfl ag_51) (.grun (t := 33) rfl rfl rfl (.cv Tryz.func68 [_] (wroom_spec x d ω δ hI.size (by omega)) ?_))))))))))))))
 refine .grun (t := 33) rfl rfl rfl (.ui rfl rfl rfl (.u (.pickF rfl rfl) (.a rfl (.nil (.lf (g := g) (x := x) Λ ?_)))))
 refine .then_n (.condD rfl (fun h26 => ?_) (fun h26 => ?_))
 ·refine .sr (.an rfl (.ret (.blk_r (.then_r ?_))))
  have hr : lgAppend ⟨δ, ω, Λ⟩ e = (⟨δ, ω, Λ⟩, 83) := by unfold lgAppend; dsimp only; rw [if_neg (by rw [h11]; decide), if_neg (by rw [hfit]; decide), if_neg h20, if_pos (by first | exact .inl (by omega) | exact .inr h26)]
  rw [hr]
  try dsimp only
  exact .vv
 refine .skip (.blk_n (.then_n (.seq (.lgOpen (by repeat' constructor) fun ea ec za zc => (.region (.m rfl (.m rfl (.nf rfl fo_53_1 (.u (.ld rfl ag_51) (.m rfl (.cv Tryz.func70 [_, _] (wappend_spec x d ω δ (enB e) hI (by omega)) ?_)))))))))))
 refine .lf (g := g) (x := x) Λ ?_
 refine .cv Tryz.func69 [_, _] (lmet_spec g x Λ _) ?_
 refine .an rfl (.seq (.sm rfl (.ui rfl rfl rfl (.nt (.condD rfl (fun h52 => ?_) (fun h52 => ?_))))))
 ·refine .region (.m rfl (.m rfl (.u (.fieldAddr rfl fo_75_0) (.u (.ld rfl ag_3) (.cv Tryz.func71 [_, _, _] (lkeep_spec g x _ (enB e) e.zx (hΛ.met _)) ?_)))))
  refine .nt (.sm rfl (.an rfl (.ret ?_)))
  have hr : lgAppend ⟨δ, ω, Λ⟩ e = (⟨(appendZ δ ω (enB e)).1, (appendZ δ ω (enB e)).2.1, (metL Λ (appendZ δ ω (enB e))).1.Λ.keep (enB e) e.zx⟩, 0) := by unfold lgAppend; dsimp only; rw [if_neg (by rw [h11]; decide), if_neg (by rw [hfit]; decide), if_neg h20, if_neg (by rintro (g | g); omega; exact h26 g), if_pos (show (metL Λ (appendZ δ ω (enB e))).2 = 0 from h52)]
  rw [hr]
  try dsimp only
  rw [h52]
  exact .vv
 refine .sk (.sm rfl (.an rfl (.ret ?_)))
 have hr : lgAppend ⟨δ, ω, Λ⟩ e = metL Λ (appendZ δ ω (enB e)) := by unfold lgAppend; dsimp only; rw [if_neg (by rw [h11]; decide), if_neg (by rw [hfit]; decide), if_neg h20, if_neg (by rintro (g | g); omega; exact h26 g), if_neg (show ¬ (metL Λ (appendZ δ ω (enB e))).2 = 0 from h52)]
 rw [hr]
 try dsimp only
 exact .vv
theorem lsync_spec (g x d : Nat) (δ : Dk) (ω : Wl) (Λ : Lg) (hI : WlI δ ω) : Fn Tryz.prog 34 #[vptr g] [lgR g x Λ, wlR x d ω, dkR d δ] fun v L => v = vint (lgSync ⟨δ, ω, Λ⟩).2 ∧ L = [lgR g x (lgSync ⟨δ, ω, Λ⟩).1.Λ, wlR x d (lgSync ⟨δ, ω, Λ⟩).1.ω, dkR d (lgSync ⟨δ, ω, Λ⟩).1.δ] := by
 refine Fn.intro Tryz.func34 rfl rfl fun F W => ?_
 refine .sr (.an rfl (.seq (.seq (.lgOpen (by repeat' constructor) fun ea ec za zc => (.region (.m rfl (.nf rfl fo_53_6 (.u (.ld rfl ag_4) (.nt (.condB rfl (fun h6 => ?_) (fun h6 => ?_)))))))))))
 ·refine .sr (.an rfl (.rt ?_))
  have hr : lgSync ⟨δ, ω, Λ⟩ = (⟨δ, ω, Λ⟩, 2) := by unfold lgSync; dsimp only; rw [if_pos h6]
  rw [hr]
  try dsimp only
  refine .lf (g := g) (x := x) Λ ?_
  exact .vv
 refine .sk (.sm rfl (.m rfl (.nf rfl fo_53_1 (.u (.ld rfl ag_51) (.cv Tryz.func73 [_] (wsync_spec x d ω δ hI) ?_)))))
 refine .lf (g := g) (x := x) Λ ?_
 refine .cv Tryz.func69 [_, _] (lmet_spec g x Λ _) ?_
 refine .an rfl (.ret ?_)
 have hr : lgSync ⟨δ, ω, Λ⟩ = metL Λ (syncZ δ ω) := by unfold lgSync; dsimp only; rw [if_neg (by rw [h6]; decide)]
 rw [hr]
 try dsimp only
 exact .vv
theorem lmetO_spec (g x : Nat) (Λ : Lg) (e : Int) (ea : Option Addr) (ec : Nat) (za : Option Addr) (zc : Nat) : Fn Tryz.prog 69 #[vptr g, vint e] [ptc g [vint Λ.acc, vint Λ.cur, vptr x, vint Λ.base, vstr Λ.snap, .slice ea Λ.ents.length ec, .slice za Λ.zxs.length zc, .bool Λ.doubt] 53, strR (.slice ea Λ.ents.length ec) Λ.ents, intR (.slice za Λ.zxs.length zc) Λ.zxs]
  fun v L => v = vint (metE e) ∧ L = [lgR g x (Λ.met e)] := by
 intro F w hs
 have hs' : St ([lgR g x Λ] ++ F) w := sep_imp (p := sep _) (fun _ hp => ⟨((ea, ec), (za, zc)), trivial, hp⟩) (sep_fold hs)
 exact lmet_spec g x Λ e F w hs'
theorem laccept_spec (g x d : Nat) (δ : Dk) (ω : Wl) (Λ : Lg) (n : Int) (hI : WlI δ ω) : Fn Tryz.prog 32 #[vptr g, vint n] [lgR g x Λ, wlR x d ω, dkR d δ] fun v L => v = vint (lgAccept ⟨δ, ω, Λ⟩ n).2 ∧ L = [lgR g x (lgAccept ⟨δ, ω, Λ⟩ n).1.Λ, wlR x d (lgAccept ⟨δ, ω, Λ⟩ n).1.ω, dkR d (lgAccept ⟨δ, ω, Λ⟩ n).1.δ] := by
 refine Fn.intro Tryz.func32 rfl rfl fun F W => ?_
 refine .lgOpen (by repeat' constructor) fun ea ec za zc => (.sr (.an rfl (.seq (.block (.sm rfl (.nf rfl fo_53_6 (.u (.ld rfl ag_4) (.an rfl (.condB rfl (fun h6 => ?_) (fun h6 => ?_))))))))))
 ·refine .sr (.an rfl (.ret (.blk_r (.then_r ?_))))
  have hr : lgAccept ⟨δ, ω, Λ⟩ n = (⟨δ, ω, Λ⟩, 2) := by unfold lgAccept; dsimp only; rw [if_pos h6]
  rw [hr]
  try dsimp only
  refine .lf (g := g) (x := x) Λ ?_
  exact .vv
 refine .sm rfl (.m rfl (.nf rfl fo_53_0 (.u (.fieldAddr rfl fo_50_0) (.u (.ld rfl ag_3) (.ui rfl rfl rfl (.m rfl (.dec (t := 19) rfl (fun h3_19 => ?_) (fun h3_19 => ?_))))))))
 ·refine .kDT (t := 18) rfl h3_19 (.gk (.gk (.u (.pickT rfl rfl) (.an rfl (.condT rfl (.sr (.an rfl (.ret (.blk_r (.then_r ?_))))))))))
  have hr : lgAccept ⟨δ, ω, Λ⟩ n = (⟨δ, ω, Λ⟩, 82) := by unfold lgAccept; dsimp only; rw [if_neg (by rw [h6]; decide), if_pos (by first | exact .inl h3_19 | exact .inr h11)]
  rw [hr]
  try dsimp only
  refine .lf (g := g) (x := x) Λ ?_
  exact .vv
 refine .kDF (t := 18) rfl h3_19 (.grun (t := 19) rfl rfl rfl (.m rfl (.grun (t := 19) rfl rfl rfl (.ui rfl rfl rfl (.u (.pickF rfl rfl) (.an rfl (.condD rfl (fun h11 => ?_) (fun h11 => ?_))))))))
 ·refine .sr (.an rfl (.ret (.blk_r (.then_r ?_))))
  have hr : lgAccept ⟨δ, ω, Λ⟩ n = (⟨δ, ω, Λ⟩, 82) := by unfold lgAccept; dsimp only; rw [if_neg (by rw [h6]; decide), if_pos (by first | exact .inl h3_19 | exact .inr h11)]
  rw [hr]
  try dsimp only
  refine .lf (g := g) (x := x) Λ ?_
  exact .vv
 refine .sm rfl (.m rfl (.nf rfl fo_53_0 (.u (.fieldAddr rfl fo_50_0) (.u (.ld rfl ag_3) (.ui rfl rfl rfl (.an rfl (.condD rfl (fun h23 => ?_) (fun h23 => ?_))))))))
 ·refine .sr (.an rfl (.ret (.blk_r (.then_r ?_))))
  have hr : lgAccept ⟨δ, ω, Λ⟩ n = (⟨δ, ω, Λ⟩, 0) := by unfold lgAccept; dsimp only; rw [if_neg (by rw [h6]; decide), if_neg (by rintro (g1 | g1); exact h3_19 g1; exact h11 g1), if_pos h23]
  rw [hr]
  try dsimp only
  refine .lf (g := g) (x := x) Λ ?_
  exact .vv
 refine .skip (.blk_n (.then_n (.seq (.draw [11, 12] [[0, 1, 2, 3, 4, 5, 6, 7, 8, 9, 10, 11], [12], [13]] mixed (by kernel_rfl) (.g0 (.k rfl (.move rfl) (.mv rfl rfl (.nf rfl rfl rfl fo_53_1 (.kv rfl (.ld rfl ag_51) (.mv rfl rfl (.mv rfl rfl (.nf rfl rfl rfl fo_53_0 (.kv rfl (.fieldAddr rfl fo_50_1) (.kv rfl (.ld rfl ag_3) (.hh rfl (.c Tryz.func72 [_, _, _] (wmark_spec x d ω δ n Λ.cur hI)) ?_)))))))))))))))
 rintro v L' ⟨rfl, rfl⟩
 refine D.ph (.g0 (.hh rfl (.c Tryz.func69 [_, _] (lmetO_spec g x Λ _ ea ec za zc)) ?_))
 rintro v L' ⟨rfl, rfl⟩
 refine D.ph (.g0 (.kv rfl (.assign rfl) (.pf (.seq (.sm rfl (.ui rfl rfl rfl (.nt (.condD rfl (fun h45 => ?_) (fun h45 => ?_)))))))))
 ·refine .lgOpen (by repeat' constructor) fun ea ec za zc => (.region (.m rfl (.m rfl (.nf rfl fo_53_0 (.u (.fieldAddr rfl fo_50_0) (.st rfl rfl rfl sz_3 ?_))))))
  refine .nt (.sm rfl (.an rfl (.ret ?_)))
  have hr : lgAccept ⟨δ, ω, Λ⟩ n = (⟨(setmZ δ ω n Λ.cur).1, (setmZ δ ω n Λ.cur).2.1, (metL Λ (setmZ δ ω n Λ.cur)).1.Λ.setAcc n⟩, 0) := by unfold lgAccept; dsimp only; rw [if_neg (by rw [h6]; decide), if_neg (by rintro (g1 | g1); exact h3_19 g1; exact h11 g1), if_neg h23, if_pos (show (metL Λ (setmZ δ ω n Λ.cur)).2 = 0 from h45)]
  rw [hr]
  try dsimp only
  rw [h45]
  refine .lf (g := g) (x := x) ((Λ.met (setmZ δ ω n Λ.cur).2.2).setAcc n) ?_
  exact .vv
 refine .sk (.sm rfl (.an rfl (.ret ?_)))
 have hr : lgAccept ⟨δ, ω, Λ⟩ n = metL Λ (setmZ δ ω n Λ.cur) := by unfold lgAccept; dsimp only; rw [if_neg (by rw [h6]; decide), if_neg (by rintro (g1 | g1); exact h3_19 g1; exact h11 g1), if_neg h23, if_neg (show ¬ (metL Λ (setmZ δ ω n Λ.cur)).2 = 0 from h45)]
 rw [hr]
 try dsimp only
 exact .vv
theorem ladopt_spec (g x d : Nat) (δ : Dk) (ω : Wl) (Λ : Lg) (n : Int) (hI : WlI δ ω) (hI1 : WlI (lgSync ⟨δ, ω, Λ⟩).1.δ (lgSync ⟨δ, ω, Λ⟩).1.ω) : Fn Tryz.prog 33 #[vptr g, vint n] [lgR g x Λ, wlR x d ω, dkR d δ] fun v L => v = vint (lgAdopt ⟨δ, ω, Λ⟩ n).2 ∧ L = [lgR g x (lgAdopt ⟨δ, ω, Λ⟩ n).1.Λ, wlR x d (lgAdopt ⟨δ, ω, Λ⟩ n).1.ω, dkR d (lgAdopt ⟨δ, ω, Λ⟩ n).1.δ] := by
 refine Fn.intro Tryz.func33 rfl rfl fun F W => ?_
 refine .lgOpen (by repeat' constructor) fun ea ec za zc => (.sr (.an rfl (.seq (.block (.sm rfl (.nf rfl fo_53_6 (.u (.ld rfl ag_4) (.an rfl (.condB rfl (fun h7 => ?_) (fun h7 => ?_))))))))))
 ·refine .sr (.an rfl (.ret (.blk_r (.then_r ?_))))
  have hr : lgAdopt ⟨δ, ω, Λ⟩ n = (⟨δ, ω, Λ⟩, 2) := by unfold lgAdopt; dsimp only; rw [if_pos h7]
  rw [hr]
  try dsimp only
  refine .lf (g := g) (x := x) Λ ?_
  exact .vv
 refine .sm rfl (.m rfl (.nf rfl fo_53_0 (.u (.fieldAddr rfl fo_50_1) (.u (.ld rfl ag_3) (.ui rfl rfl rfl (.m rfl (.dec (t := 20) rfl (fun h3_20 => ?_) (fun h3_20 => ?_))))))))
 ·refine .kDT (t := 19) rfl h3_20 (.gk (.gk (.gk (.gk (.gk (.gk (.gk (.u (.pickT rfl rfl) (.an rfl (.condT rfl (.sr (.an rfl (.ret (.blk_r (.then_r ?_)))))))))))))))
  have hr : lgAdopt ⟨δ, ω, Λ⟩ n = (⟨δ, ω, Λ⟩, 82) := by unfold lgAdopt; dsimp only; rw [if_neg (by rw [h7]; decide), if_pos (by first | exact .inl h3_20 | exact .inr h12)]
  rw [hr]
  try dsimp only
  refine .lf (g := g) (x := x) Λ ?_
  exact .vv
 refine .kDF (t := 19) rfl h3_20 (.grun (t := 20) rfl rfl rfl (.m rfl (.grun (t := 20) rfl rfl rfl (.m rfl (.grun (t := 20) rfl rfl rfl (.u (.nilp rfl) (.grun (t := 20) rfl rfl rfl (.u (.fieldAddr rfl fo_53_0) (.grun (t := 20) rfl rfl rfl (.u (.fieldAddr rfl fo_50_0) (.grun (t := 20) rfl rfl rfl (.u (.ld rfl ag_3) (.grun (t := 20) rfl rfl rfl (.ui rfl rfl rfl (.u (.pickF rfl rfl) (.an rfl (.condD rfl (fun h12 => ?_) (fun h12 => ?_))))))))))))))))))
 ·refine .sr (.an rfl (.ret (.blk_r (.then_r ?_))))
  have hr : lgAdopt ⟨δ, ω, Λ⟩ n = (⟨δ, ω, Λ⟩, 82) := by unfold lgAdopt; dsimp only; rw [if_neg (by rw [h7]; decide), if_pos (by first | exact .inl h3_20 | exact .inr h12)]
  rw [hr]
  try dsimp only
  refine .lf (g := g) (x := x) Λ ?_
  exact .vv
 refine .skip (.blk_n (.then_n (.seq (.seq (.lf (g := g) (x := x) Λ ?_)))))
 refine .region (.m rfl (.oq (.c Tryz.func34 [_] (lsync_spec g x d δ ω Λ hI)) ?_))
 rintro v L' ⟨rfl, rfl⟩; obtain ⟨⟨⟨δ1, ω1, Λ1⟩, e1⟩, hsy⟩ : ∃ r, lgSync ⟨δ, ω, Λ⟩ = r := ⟨_, rfl⟩; rw [hsy] at hI1 ⊢; dsimp only at hI1 ⊢
 refine .an rfl (.sm rfl (.ui rfl rfl rfl (.nt (.condN rfl (fun h32 => ?_) (fun h32 => ?_)))))
 ·refine .sm rfl (.an rfl (.rt ?_))
  have hr : lgAdopt ⟨δ, ω, Λ⟩ n = lgSync ⟨δ, ω, Λ⟩ := by unfold lgAdopt; dsimp only; rw [if_neg (by rw [h7]; decide), if_neg (by rintro (g1 | g1); exact h3_20 g1; exact h12 g1), if_pos (by rw [hsy]; exact h32)]
  rw [hr]
  try dsimp only
  rw [hsy]
  exact .vv
 refine .sk (.seq (.lgOpen (by repeat' constructor) fun ea ec za zc => (.draw [11, 12] [[0, 1, 2, 3, 4, 5, 6, 7, 8, 9, 10, 11], [12], [13]] mixed (by kernel_rfl) (.g0 (.k rfl (.move rfl) (.mv rfl rfl (.nf rfl rfl rfl fo_53_1 (.kv rfl (.ld rfl ag_51) (.mv rfl rfl (.nf rfl rfl rfl fo_53_0 (.kv rfl (.fieldAddr rfl fo_50_0) (.kv rfl (.ld rfl ag_3) (.mv rfl rfl (.hh rfl (.c Tryz.func72 [_, _, _] (wmark_spec x d ω1 δ1 Λ1.acc n hI1)) ?_))))))))))))))
 rintro v L' ⟨rfl, rfl⟩
 refine D.ph (.g0 (.hh rfl (.c Tryz.func69 [_, _] (lmetO_spec g x Λ1 _ ea ec za zc)) ?_))
 rintro v L' ⟨rfl, rfl⟩
 refine D.ph (.g0 (.kv rfl (.assign rfl) (.pf (.seq (.sm rfl (.ui rfl rfl rfl (.nt (.condD rfl (fun h48 => ?_) (fun h48 => ?_)))))))))
 ·refine .lgOpen (by repeat' constructor) fun ea ec za zc => (.region (.m rfl (.m rfl (.nf rfl fo_53_0 (.u (.fieldAddr rfl fo_50_1) (.st rfl rfl rfl sz_3 ?_))))))
  refine .nt (.sm rfl (.an rfl (.ret ?_)))
  have hr : lgAdopt ⟨δ, ω, Λ⟩ n = lgAdopt2 ⟨δ1, ω1, Λ1⟩ n := by unfold lgAdopt; dsimp only; rw [if_neg (by rw [h7]; decide), if_neg (by rintro (g1 | g1); exact h3_20 g1; exact h12 g1), if_neg (by rw [hsy]; exact fun g1 => g1 h32), hsy]
  rw [hr]
  have hr2 : lgAdopt2 ⟨δ1, ω1, Λ1⟩ n = (⟨(setmZ δ1 ω1 Λ1.acc n).1, (setmZ δ1 ω1 Λ1.acc n).2.1, (metL Λ1 (setmZ δ1 ω1 Λ1.acc n)).1.Λ.setCur n⟩, 0) := by unfold lgAdopt2; dsimp only; rw [if_pos (show (metL Λ1 (setmZ δ1 ω1 Λ1.acc n)).2 = 0 from h48)]
  rw [hr2, h48]
  dsimp only
  refine .lf (g := g) (x := x) ((Λ1.met (setmZ δ1 ω1 Λ1.acc n).2.2).setCur n) ?_
  exact .vv
 refine .sk (.sm rfl (.an rfl (.ret ?_)))
 have hr : lgAdopt ⟨δ, ω, Λ⟩ n = lgAdopt2 ⟨δ1, ω1, Λ1⟩ n := by unfold lgAdopt; dsimp only; rw [if_neg (by rw [h7]; decide), if_neg (by rintro (g1 | g1); exact h3_20 g1; exact h12 g1), if_neg (by rw [hsy]; exact fun g1 => g1 h32), hsy]
 rw [hr]
 have hr2 : lgAdopt2 ⟨δ1, ω1, Λ1⟩ n = metL Λ1 (setmZ δ1 ω1 Λ1.acc n) := by unfold lgAdopt2; dsimp only; rw [if_neg (show ¬ (metL Λ1 (setmZ δ1 ω1 Λ1.acc n)).2 = 0 from h48)]
 rw [hr2]
 try dsimp only
 exact .vv
theorem lbase_spec (g x : Nat) (Λ : Lg) : Fn Tryz.prog 30 #[vptr g] [lgR g x Λ] fun v L => v = vint Λ.base ∧ L = [lgR g x Λ] := by
 refine Fn.intro Tryz.func30 rfl rfl fun F W => ?_
 refine .lgOpen (by repeat' constructor) fun ea ec za zc => (.sr (.an rfl (.sm rfl (.nf rfl fo_53_2 (.u (.ld rfl ag_3) (.an rfl (.ret (.lf (g := g) (x := x) Λ ?_))))))))
 exact .vv
theorem lacc_spec (g x : Nat) (Λ : Lg) : Fn Tryz.prog 16 #[vptr g] [lgR g x Λ] fun v L => v = vint Λ.acc ∧ L = [lgR g x Λ] := by
 refine Fn.intro Tryz.func16 rfl rfl fun F W => ?_
 refine .lgOpen (by repeat' constructor) fun ea ec za zc => (.sr (.an rfl (.sm rfl (.nf rfl fo_50_0 (.u (.ld rfl ag_3) (.an rfl (.ret (.lf (g := g) (x := x) Λ ?_))))))))
 exact .vv
theorem lcur_spec (g x : Nat) (Λ : Lg) : Fn Tryz.prog 17 #[vptr g] [lgR g x Λ] fun v L => v = vint Λ.cur ∧ L = [lgR g x Λ] := by
 refine Fn.intro Tryz.func17 rfl rfl fun F W => ?_
 refine .lgOpen (by repeat' constructor) fun ea ec za zc => (.sr (.an rfl (.sm rfl (.nf rfl fo_50_1 (.u (.ld rfl ag_3) (.an rfl (.ret (.lf (g := g) (x := x) Λ ?_))))))))
 exact .vv
/- not in this seat: wrec2_spec -/
def ab : Bs := [97, 98]
section
variable {W : World} {n : Nat} {ds : List Deferred} {E : Env} {L R : List HP} {X : Act → World → Prop}
end
structure Al (δ : Dk) : Prop where
 dead : δ.dead = false
 left : δ.left = 0
theorem al_act {δ : Dk} (h : Al δ) : δ.act.2 = 0 ∧ Al δ.act.1 := by
 obtain ⟨h1, h2⟩ := h
 exact ⟨by simp [Dk.act, actE, h2], by simp [Dk.act, actD, h1, h2], by simp [Dk.act, actL, h2]⟩
theorem al_write {δ : Dk} (h : Al δ) {n : Int} {s : Bs} (hn : 0 ≤ n ∧ n < δ.now.length) (hs : s.length = 64) : (δ.write n s).2 = 0 ∧ Al (δ.write n s).1 ∧ (δ.write n s).1.now = δ.now.set n.toNat s := by
 have hh : δ.has n = true := by simp [Dk.has, hn.1, hn.2]
 have hp : Al (δ.put n s) := ⟨h.dead, h.left⟩
 have e : δ.write n s = (δ.put n s).act := by unfold Dk.write; rw [if_neg (by rw [h.dead]; decide), if_neg (by rw [hh]; simp [hs])]
 rw [e]
 exact ⟨(al_act hp).1, (al_act hp).2, rfl⟩
theorem al_sync {δ : Dk} (h : Al δ) : δ.sync.2 = 0 ∧ Al δ.sync.1 ∧ δ.sync.1.now = δ.now := by
 have e : δ.sync = ({ δ.act.1 with old := [] }, 0) := by unfold Dk.sync; rw [if_neg (by rw [h.dead]; decide), if_pos (al_act h).1]
 rw [e]
 exact ⟨rfl, ⟨(al_act h).2.dead, (al_act h).2.left⟩, rfl⟩
theorem lay_in {δ : Dk} {area : Int} {all : Bs} {i : Nat} (ha : 0 ≤ area ∧ area ≤ 1) (hn : 2 ≤ δ.now.length) (hl : (all.length : Int) ≤ 64 * halfZ δ) (hi : i * 64 < all.length) : 2 ≤ 2 + area * halfZ δ + i ∧ 2 + area * halfZ δ + i < δ.now.length := by
 have e : halfZ δ = ((δ.now.length : Int) - 2) / 2 := rfl
 generalize halfZ δ = k at *
 rcases (by omega : area = 0 ∨ area = 1) with rfl | rfl <;> omega
theorem al_lay : ∀ (f : Nat) (δ : Dk) (area : Int) (all : Bs) (i : Nat), Al δ → 0 ≤ area ∧ area ≤ 1 → 2 ≤ δ.now.length → (all.length : Int) ≤ 64 * halfZ δ → (layF f δ area all i).2 = 0 ∧ Al (layF f δ area all i).1 := by
 intro f
 induction f with
 | zero => intro δ area all i h _ _ _; exact ⟨rfl, h⟩
 | succ f ih =>
  intro δ area all i h ha hn hl
  simp only [layF]
  split
  ·rename_i hi
   have hr := lay_in ha hn hl hi
   obtain ⟨w1, w2, w3⟩ := al_write h (n := 2 + area * halfZ δ + i) (s := laySec all i) ⟨by omega, hr.2⟩ (laySec_len _ _)
   rw [if_neg (by rw [w1]; decide)]
   have hlen : (δ.write (2 + area * halfZ δ + i) (laySec all i)).1.now.length = δ.now.length := (write_keeps _ _ _).1
   exact ih _ _ _ _ w2 ha (by rw [hlen]; exact hn) (by rw [halfZ_of hlen]; exact hl)
  ·exact ⟨rfl, h⟩
theorem sec_len4 (m : Mk) : m.sec.length = 64 := by simp [Mk.sec, beB_len]
theorem al_next {δ : Dk} (h : Al δ) (hn : 2 ≤ δ.now.length) (m : Mk) : (nextZ δ m).2 = 0 ∧ Al (nextZ δ m).1 ∧ (nextZ δ m).1.now = δ.now.set (m.count % 2).toNat m.sec := by
 obtain ⟨w1, w2, w3⟩ := al_write h (n := m.count % 2) (s := m.sec) ⟨by omega, by omega⟩ (sec_len4 m)
 obtain ⟨s1, s2, s3⟩ := al_sync w2
 unfold nextZ
 rw [if_neg (by rw [w1]; decide), if_neg (by rw [s1]; decide)]
 exact ⟨rfl, s2, s3.trans w3⟩
theorem al_seal {δ : Dk} (h : Al δ) (hn : 2 ≤ δ.now.length) (ω : Wl) (area : Int) (l : List Bs) : ∃ δ', sealZ δ ω area l = (δ', { ω with recs := l, synced := l.length, area := area, count := ω.count + 1 }, 0) ∧ Al δ' ∧ δ'.now = δ.now.set ((ω.count + 1) % 2).toNat (ω.mark area l ω.a ω.b).sec ∧ δ'.acts ≤ δ.acts + 3 := by
 obtain ⟨s1, s2, s3⟩ := al_sync h
 have sk := sync_keeps δ
 obtain ⟨n1, n2, n3⟩ := al_next s2 (by rw [s3]; exact hn) (ω.mark area l ω.a ω.b)
 have nk := nextZ_keeps δ.sync.1 (ω.mark area l ω.a ω.b)
 refine ⟨(nextZ δ.sync.1 (ω.mark area l ω.a ω.b)).1, ?_, n2, by rw [n3, s3]; rfl, by omega⟩
 unfold sealZ
 rw [if_neg (by rw [s1]; decide), if_neg (by rw [n1]; decide)]
structure Well (δ : Dk) (ω : Wl) (N : Int) : Prop where
 al : Al δ
 doubt : ω.doubt = false
 size : 2 ≤ δ.now.length ∧ δ.now.length ≤ 32768
 acts : δ.acts ≤ N
 area : 0 ≤ ω.area ∧ ω.area ≤ 1
 count : 0 ≤ ω.count ∧ ω.count ≤ 4294967295
 synced : 0 ≤ ω.synced ∧ ω.synced ≤ ω.recs.length
 fits : ((laidZ ω.recs).length : Int) ≤ 64 * halfZ δ
theorem Well.more {δ : Dk} {ω : Wl} {N M : Int} (h : Well δ ω N) (hN : N ≤ M) : Well δ ω M := ⟨h.al, h.doubt, h.size, by have := h.acts; omega, h.area, h.count, h.synced, h.fits⟩
theorem layZ_keeps (δ : Dk) (area : Int) (all : Bs) (frm : Nat) : (layZ δ area all frm).1.now.length = δ.now.length ∧ (layZ δ area all frm).1.acts ≤ δ.acts + (all.length + 1) := by
 have := layF_keeps (all.length + 1) δ area all (frm / 64)
 exact ⟨this.1, by have := this.2; show (layF _ _ _ _ _).1.acts ≤ _; omega⟩
theorem laid_take_le (l : List Bs) (k : Nat) : (laidZ (l.take k)).length ≤ (laidZ l).length := laidZ_take_len l k
theorem well_append {δ : Dk} {ω : Wl} {N : Int} (h : Well δ ω N) (s : Bs) :
    Well (appendZ δ ω s).1 (appendZ δ ω s).2.1 (N + 2000000) ∧ (appendZ δ ω s).1.now.length = δ.now.length ∧
    ((s.length ≤ 4000 ∧ ((laidZ ω.recs).length : Int) + s.length + 6 ≤ 64 * halfZ δ ∧ (appendZ δ ω s).2 = ({ ω with recs := ω.recs ++ [s] }, 0)) ∨
     (s.length > 4000 ∧ appendZ δ ω s = (δ, ω, 33)) ∨ (s.length ≤ 4000 ∧ ¬ ((laidZ ω.recs).length : Int) + s.length + 6 ≤ 64 * halfZ δ ∧ appendZ δ ω s = (δ, ω, 30))) := by
  have hm := h.more (M := N + 2000000) (by omega)
  by_cases h1 : s.length > 4000
  · have e : appendZ δ ω s = (δ, ω, 33) := by unfold appendZ; rw [if_neg (by rw [h.doubt]; decide), if_pos h1]
    rw [e]; exact ⟨hm, rfl, .inr (.inl ⟨h1, rfl⟩)⟩
  by_cases h2 : ((laidZ ω.recs).length : Int) + s.length + 6 ≤ 64 * halfZ δ
  · have hl : (laidZ ω.recs ++ recZ s).length = (laidZ ω.recs).length + s.length + 6 := by rw [List.length_append, recZ_len]; omega
    have hh := half_le h.size
    obtain ⟨a1, a2⟩ := al_lay ((laidZ ω.recs ++ recZ s).length + 1) δ ω.area (laidZ ω.recs ++ recZ s) ((laidZ ω.recs).length / 64) h.al h.area h.size.1 (by omega)
    have ak := layZ_keeps δ ω.area (laidZ ω.recs ++ recZ s) (laidZ ω.recs).length
    have e : appendZ δ ω s = ((layZ δ ω.area (laidZ ω.recs ++ recZ s) (laidZ ω.recs).length).1, { ω with recs := ω.recs ++ [s] }, 0) := by
      unfold appendZ; rw [if_neg (by rw [h.doubt]; decide), if_neg h1, if_neg (fun g => g h2), if_neg (by show ¬ (layF _ _ _ _ _).2 ≠ 0; rw [a1]; decide)]
    rw [e]
    refine ⟨⟨a2, h.doubt, by rw [ak.1]; exact h.size, ?_, h.area, h.count, ?_, ?_⟩, ak.1, .inl ⟨by omega, h2, rfl⟩⟩
    · have := h.acts; have := ak.2; dsimp only; omega
    · have := h.synced; simp; omega
    · rw [halfZ_of ak.1]; show ((laidZ (ω.recs ++ [s])).length : Int) ≤ _
      rw [laidZ_append, show laidZ [s] = recZ s by simp [laidZ], hl]; omega
  · have e : appendZ δ ω s = (δ, ω, 30) := by unfold appendZ; rw [if_neg (by rw [h.doubt]; decide), if_neg h1, if_pos h2]
    rw [e]; exact ⟨hm, rfl, .inr (.inr ⟨by omega, h2, rfl⟩)⟩
theorem well_seal {δ : Dk} {ω : Wl} {N : Int} (h : Well δ ω N) (hc : ω.count ≠ 4294967295) {area : Int} (ha : 0 ≤ area ∧ area ≤ 1) {l : List Bs} (hl : ((laidZ l).length : Int) ≤ 64 * halfZ δ) {δ1 : Dk} (h1 : Al δ1) (h2 : δ1.now.length = δ.now.length) (h3 : δ1.acts ≤ N + 1900000) :
  (dbt (sealZ δ1 ω area l)).2 = ({ ω with recs := l, synced := l.length, area := area, count := ω.count + 1 }, 0) ∧ Well (dbt (sealZ δ1 ω area l)).1 { ω with recs := l, synced := l.length, area := area, count := ω.count + 1 } (N + 2000000) ∧ (dbt (sealZ δ1 ω area l)).1.now = δ1.now.set ((ω.count + 1) % 2).toNat (ω.mark area l ω.a ω.b).sec := by
 obtain ⟨δ', e, a1, a2, a3⟩ := al_seal h1 (by rw [h2]; exact h.size.1) ω area l
 rw [e]
 have e2 : dbt (δ', { ω with recs := l, synced := l.length, area := area, count := ω.count + 1 }, 0) = (δ', { ω with recs := l, synced := l.length, area := area, count := ω.count + 1 }, 0) := rfl
 rw [e2]
 have hlen : δ'.now.length = δ.now.length := by rw [a2, List.length_set, h2]
 have := h.count
 refine ⟨rfl, ⟨a1, h.doubt, by rw [hlen]; exact h.size, ?_, ha, ?_, ?_, ?_⟩, a2⟩
 ·dsimp only; omega
 ·dsimp only; omega
 ·dsimp only; omega
 ·dsimp only; rw [halfZ_of hlen]; exact hl
theorem new_al (n : Int) : Al (Dk.new n) := ⟨rfl, rfl⟩
theorem format_well {n : Int} (h : 16 ≤ n ∧ n ≤ 32768) : (formatZ (Dk.new n)).2 = some newW ∧ Well (formatZ (Dk.new n)).1 newW 3 ∧ (formatZ (Dk.new n)).1.now = ((Dk.new n).now.set 0 zs).set 1 mark1.sec := by
 have hl : (Dk.new n).now.length = n.toNat := by simp [Dk.new]
 obtain ⟨a1, a2, a3⟩ := al_write (new_al n) (n := 0) (s := zs) ⟨by omega, by omega⟩ rfl
 have e1 : (fmtZ (Dk.new n) 1) = (Dk.new n).write 0 zs := rfl
 have l1 : ((Dk.new n).write 0 zs).1.now.length = n.toNat := by rw [a3, List.length_set, hl]
 obtain ⟨b1, b2, b3⟩ := al_write a2 (n := 1) (s := mark1.sec) ⟨by omega, by omega⟩ (sec_len4 _)
 have l2 : (((Dk.new n).write 0 zs).1.write 1 mark1.sec).1.now.length = n.toNat := by rw [b3, List.length_set, l1]
 obtain ⟨c1, c2, c3⟩ := al_sync b2
 have e : formatZ (Dk.new n) = ((fmtZ (Dk.new n) 3).1, some newW) := by
  unfold formatZ
  rw [if_neg (by rw [e1, a1]; decide), if_neg (by show ¬ (((Dk.new n).write 0 zs).1.write 1 mark1.sec).2 ≠ 0; rw [b1]; decide), if_neg (by show ¬ ((((Dk.new n).write 0 zs).1.write 1 mark1.sec).1.sync).2 ≠ 0; rw [c1]; decide)]
 rw [e]
 have hk := fmtZ_keeps (Dk.new n) 3
 have h0 : (Dk.new n).acts = 0 := rfl
 have hn3 : (fmtZ (Dk.new n) 3).1.now = (((Dk.new n).write 0 zs).1.write 1 mark1.sec).1.now := c3
 have l3 : (fmtZ (Dk.new n) 3).1.now.length = n.toNat := by rw [hn3, l2]
 refine ⟨rfl, ⟨c2, rfl, by dsimp only; omega, by dsimp only; omega, ⟨by decide, by decide⟩, ⟨by decide, by decide⟩, ⟨by decide, by decide⟩, ?_⟩, ?_⟩
 ·show ((0 : Nat) : Int) ≤ 64 * halfZ (fmtZ (Dk.new n) 3).1
  unfold halfZ; omega
 ·show (fmtZ (Dk.new n) 3).1.now = _
  rw [hn3, b3, a3]; rfl
def cntS : Rn Nat := runP 0 (cntP 65536)
def headR : Rn (Int × Nat) := bindR numR fun b => bindR cntS fun n => retR (b, n)
def lhZ (s : Bs) : Option (Int × Nat) := match headR (some s) with
 | (q, some []) => some q
 | _ => none
theorem numR_back {n : Int} (h : I64 n) (r : Bs) : numR (some (numB n ++ r)) = (n, some r) := by
 unfold numR runP; dsimp only; rw [num_back h]
theorem cntS_back {n : Nat} (h : n ≤ 65536) (r : Bs) : cntS (some (cntB n ++ r)) = (n, some r) := by
 unfold cntS runP; dsimp only; rw [cnt_back h (by decide)]
theorem lh_back {base : Int} {n : Nat} (hb : I64 base) (hn : n ≤ 65536) : lhZ (headB base n) = some (base, n) := by
 have e : headR (some (headB base n)) = ((base, n), some []) := by
  unfold headR bindR retR headB
  rw [numR_back hb]; dsimp only
  have := cntS_back hn []
  rw [List.append_nil] at this
  rw [this]
 unfold lhZ; rw [e]
def snapZ (many : Nat) : Bs → List Bs → Option (Bs × List Bs)
 | sn, [] => if sn.length < many then none else some (sn, [])
 | sn, r :: t => if sn.length < many then (if r.length = min 4000 (many - sn.length) then snapZ many (sn ++ r) t else none) else some (sn, r :: t)
theorem snap_done {many : Nat} {sn : Bs} (h : ¬ sn.length < many) (l : List Bs) : snapZ many sn l = some (sn, l) := by
 cases l <;> (unfold snapZ; rw [if_neg h])
theorem snap_none {many : Nat} {sn : Bs} (h : sn.length < many) : snapZ many sn [] = none := by unfold snapZ; rw [if_pos h]
theorem snap_bad {many : Nat} {sn r : Bs} {t : List Bs} (h : sn.length < many) (hr : ¬ r.length = min 4000 (many - sn.length)) : snapZ many sn (r :: t) = none := by
 show (if _ then _ else _) = _; rw [if_pos h, if_neg hr]
theorem snap_step {many : Nat} {sn r : Bs} {t : List Bs} (h : sn.length < many) (hr : r.length = min 4000 (many - sn.length)) : snapZ many sn (r :: t) = snapZ many (sn ++ r) t := by
 show (if _ then _ else _) = _; rw [if_pos h, if_pos hr]
theorem snap_back (many : Nat) : ∀ (f : Nat) (t sn : Bs) (es : List Bs), t.length ≤ f → sn.length + t.length = many → snapZ many sn (chunkF f t ++ es) = some (sn ++ t, es)
 | 0, t, sn, es, h, hm => by
  have : t = [] := List.eq_nil_of_length_eq_zero (by omega)
  subst this
  rw [List.append_nil]; exact snap_done (by simp at hm; omega) es
 | f + 1, t, sn, es, h, hm => by
  unfold chunkF
  split
  ·rename_i ht; subst ht
   rw [List.append_nil]; exact snap_done (by simp at hm; omega) es
  ·rename_i ht
   have hp : 0 < t.length := List.length_pos_iff.2 ht
   rw [List.cons_append, snap_step (by omega) (by rw [List.length_take]; omega), snap_back many f _ _ es (by rw [List.length_drop]; omega) (by rw [List.length_append, List.length_take, List.length_drop]; omega), List.append_assoc, List.take_append_drop]
def entsZ : Lg → List Bs → Option Lg
  | Λ, [] => some Λ
  | Λ, s :: t => match getZ s with
    | none => none
    | some e => if e.zx ≤ lastZ Λ ∨ Λ.ents.length = 200 then none else entsZ (Λ.keep s e.zx) t
theorem ents_none {Λ : Lg} {s : Bs} {t : List Bs} (h : getZ s = none) : entsZ Λ (s :: t) = none := by
 show (match getZ s with | none => none | some e => _) = _; rw [h]
theorem ents_bad {Λ : Lg} {s : Bs} {t : List Bs} {e : En} (h : getZ s = some e) (hb : e.zx ≤ lastZ Λ ∨ Λ.ents.length = 200) : entsZ Λ (s :: t) = none := by
 show (match getZ s with | none => none | some e => _) = _; rw [h]; exact if_pos hb
theorem ents_step {Λ : Lg} {s : Bs} {t : List Bs} {e : En} (h : getZ s = some e) (hb : ¬ (e.zx ≤ lastZ Λ ∨ Λ.ents.length = 200)) : entsZ Λ (s :: t) = entsZ (Λ.keep s e.zx) t := by
 show (match getZ s with | none => none | some e => _) = _; rw [h]; exact if_neg hb
def restZ (a b base : Int) : Option (Bs × List Bs) → Option Lg
 | none => none
 | some (sn, u) => entsZ ⟨a, b, base, sn, [], [], false⟩ u
def lparseZ (a b : Int) : List Bs → Option Lg
  | [] => none
  | r :: t => match lhZ r with
    | none => none
    | some (base, n) => if base < 0 then none else restZ a b base (snapZ n [] t)
def openLZ (ω : Wl) : Option Lg := if ω.a > 1073741824 ∨ ω.b > ω.a then none else lparseZ ω.a ω.b ω.recs
/-! ### Rows: each record an entry, its numbers rising -/
def RowsI : Int → List Bs → List Int → Prop
 | _, [], [] => True
 | b, s :: t, z :: u => (∃ e, getZ s = some e ∧ e.zx = z) ∧ b < z ∧ I64 z ∧ RowsI z t u
 | _, _, _ => False
def lastF (b : Int) (zs : List Int) : Int := zs.getLast?.getD b
theorem lastF_cons (b z : Int) (u : List Int) : lastF b (z :: u) = lastF z u := by
 unfold lastF; rw [List.getLast?_cons]; rfl
theorem RowsI.len : ∀ {es : List Bs} {zs : List Int} {b : Int}, RowsI b es zs → zs.length = es.length
 | [], [], _, _ => rfl
 | _ :: _, _ :: _, _, h => congrArg (· + 1) (RowsI.len h.2.2.2)
 | [], _ :: _, _, h => h.elim
 | _ :: _, [], _, h => h.elim
theorem RowsI.keep {s : Bs} {z : Int} (hs : ∃ e, getZ s = some e ∧ e.zx = z) (hi : I64 z) : ∀ {es : List Bs} {zs : List Int} {b : Int}, RowsI b es zs → lastF b zs < z → RowsI b (es ++ [s]) (zs ++ [z])
 | [], [], _, _, hz => ⟨hs, hz, hi, trivial⟩
 | _ :: _, _ :: _, _, h, hz => ⟨h.1, h.2.1, h.2.2.1, RowsI.keep hs hi h.2.2.2 (by rw [lastF_cons] at hz; exact hz)⟩
 | [], _ :: _, _, h, _ => h.elim
 | _ :: _, [], _, h, _ => h.elim
theorem RowsI.take : ∀ {es : List Bs} {zs : List Int} {b : Int} (n : Nat), RowsI b es zs → RowsI b (es.take n) (zs.take n)
 | [], [], _, _, _ => by simp [RowsI]
 | _ :: _, _ :: _, _, 0, _ => trivial
 | _ :: _, _ :: _, _, n + 1, h => ⟨h.1, h.2.1, h.2.2.1, RowsI.take n h.2.2.2⟩
 | [], _ :: _, _, _, h => h.elim
 | _ :: _, [], _, _, h => h.elim
theorem RowsI.gt : ∀ {es : List Bs} {zs : List Int} {b : Int}, RowsI b es zs → ∀ z ∈ zs, b < z
 | [], [], _, _, z, hz => by cases hz
 | _ :: _, z0 :: _, _, h, z, hz => by
  rcases List.mem_cons.1 hz with rfl | hz
  ·exact h.2.1
  ·have := h.2.1; have := RowsI.gt h.2.2.2 z hz; omega
 | [], _ :: _, _, h, _, _ => h.elim
 | _ :: _, [], _, h, _, _ => h.elim
theorem RowsI.i64 : ∀ {es : List Bs} {zs : List Int} {b : Int}, RowsI b es zs → ∀ z ∈ zs, I64 z
 | [], [], _, _, z, hz => by cases hz
 | _ :: _, z0 :: _, _, h, z, hz => by
  rcases List.mem_cons.1 hz with rfl | hz
  ·exact h.2.2.1
  ·exact RowsI.i64 h.2.2.2 z hz
 | [], _ :: _, _, h, _, _ => h.elim
 | _ :: _, [], _, h, _, _ => h.elim
theorem RowsI.up : ∀ {es : List Bs} {zs : List Int} {b : Int}, RowsI b es zs → (b :: zs).Pairwise (· < ·)
 | [], [], _, _ => by simp
 | _ :: _, z0 :: u, b, h => List.pairwise_cons.2 ⟨fun z hz => RowsI.gt (es := _ :: _) (zs := z0 :: u) h z hz, RowsI.up h.2.2.2⟩
 | [], _ :: _, _, h => h.elim
 | _ :: _, [], _, h => h.elim
theorem ents_back : ∀ {es : List Bs} {zs : List Int} {Λ : Lg}, RowsI (lastZ Λ) es zs → Λ.ents.length + es.length ≤ 200 → entsZ Λ es = some ⟨Λ.acc, Λ.cur, Λ.base, Λ.snap, Λ.ents ++ es, Λ.zxs ++ zs, Λ.doubt⟩
 | [], [], Λ, _, _ => by rw [List.append_nil, List.append_nil]; rfl
 | s :: t, z :: u, Λ, h, hl => by
  obtain ⟨⟨e, he, hz⟩, h2, h3, h4⟩ := h
  rw [List.length_cons] at hl
  rw [ents_step he (by rw [hz]; omega)]
  have hk : lastZ (Λ.keep s e.zx) = z := by unfold lastZ Lg.keep; rw [hz]; simp
  rw [ents_back (zs := u) (by rw [hk]; exact h4) (by show (Λ.ents ++ [s]).length + _ ≤ _; rw [List.length_append, List.length_singleton]; omega)]
  unfold Lg.keep
  rw [hz]; simp
 | [], _ :: _, _, h, _ => h.elim
 | _ :: _, [], _, h, _ => h.elim
structure LgW (Λ : Lg) : Prop where
 few : Λ.ents.length ≤ 200
 each : ∀ s ∈ Λ.ents, s.length ≤ 4000
 base : 0 ≤ Λ.base ∧ Λ.base ≤ 9223372036854775807
 snap : Λ.snap.length ≤ 65536
 rows : RowsI Λ.base Λ.ents Λ.zxs
 eps : 0 ≤ Λ.cur ∧ Λ.cur ≤ Λ.acc ∧ Λ.acc ≤ 1073741824
theorem LgW.i {Λ : Lg} (h : LgW Λ) : LgI Λ := ⟨h.few, h.rows.len, fun s hs => by have := h.each s hs; omega, ⟨by have := h.base; omega, h.base.2⟩, h.rows.i64⟩
theorem lparse_back {Λ : Lg} (h : LgW Λ) (hd : Λ.doubt = false) : lparseZ Λ.acc Λ.cur (headL Λ.base Λ.snap ++ Λ.ents) = some Λ := by
 unfold headL lparseZ
 rw [List.cons_append]; dsimp only
 rw [lh_back ⟨by have := h.base; omega, h.base.2⟩ h.snap]; dsimp only
 rw [if_neg (by have := h.base; omega)]
 unfold chunkL
 rw [snap_back Λ.snap.length Λ.snap.length Λ.snap [] Λ.ents (Nat.le_refl _) (by simp)]
 show entsZ ⟨Λ.acc, Λ.cur, Λ.base, [] ++ Λ.snap, [], [], false⟩ Λ.ents = _
 rw [ents_back (zs := Λ.zxs) (Λ := ⟨Λ.acc, Λ.cur, Λ.base, [] ++ Λ.snap, [], [], false⟩) h.rows (by have := h.few; simpa using this)]
 rw [← hd]; simp
/-! ### Calls -/
def placeZ (Λ : Lg) (z : Int) : Option Nat := if z ∈ Λ.zxs then some (Λ.zxs.idxOf z + 1) else if z = Λ.base then some 0 else none
def lgCut2 (s : Ld) (n : Nat) : Ld × Int :=
 if (metL s.Λ (cutZ s.δ s.ω (((headL s.Λ.base s.Λ.snap).length + n : Nat) : Int))).2 = 0 then (⟨(cutZ s.δ s.ω (((headL s.Λ.base s.Λ.snap).length + n : Nat) : Int)).1, (cutZ s.δ s.ω (((headL s.Λ.base s.Λ.snap).length + n : Nat) : Int)).2.1, ⟨s.Λ.acc, s.Λ.cur, s.Λ.base, s.Λ.snap, s.Λ.ents.take n, s.Λ.zxs.take n, s.Λ.doubt⟩⟩, 0) else metL s.Λ (cutZ s.δ s.ω (((headL s.Λ.base s.Λ.snap).length + n : Nat) : Int))
def lgCut (s : Ld) (z : Int) : Ld × Int := if s.Λ.doubt = true then (s, 2) else match placeZ s.Λ z with
 | none => (s, 81)
 | some n => lgCut2 s n
def lgRenew (s : Ld) (base : Int) (snap : Bs) (es : List Bs) (zs : List Int) : Ld × Int :=
 if es.length > 200 then (s, 83) else if (metL s.Λ (renewZ s.δ s.ω (headL base snap ++ es))).2 = 0 then (⟨(renewZ s.δ s.ω (headL base snap ++ es)).1, (renewZ s.δ s.ω (headL base snap ++ es)).2.1, ⟨s.Λ.acc, s.Λ.cur, base, snap, es, zs, s.Λ.doubt⟩⟩, 0) else metL s.Λ (renewZ s.δ s.ω (headL base snap ++ es))
def Rises (b : Int) (zs : List Int) : Prop := ∀ j, j < zs.length → b < zs.getD j 0 ∧ (0 < j → zs.getD (j - 1) 0 < zs.getD j 0)
instance (b : Int) (zs : List Int) : Decidable (Rises b zs) := by unfold Rises; infer_instance
def lgInstall (s : Ld) (z : Int) (snap : Bs) (l : List En) : Ld × Int :=
 if s.Λ.doubt = true then (s, 2) else if z < 0 ∨ snap.length > 65536 then (s, 1) else if l.all fitsE = false then (s, 1) else if ¬ Rises z (l.map (·.zx)) then (s, 81) else lgRenew s z snap (l.map enB) (l.map (·.zx))
def lgF1 (δ : Dk) : Dk × Wl × Int := appendZ (formatZ δ).1 newW (headB 0 0)
def lgF2 (δ : Dk) : Dk × Wl × Int := syncZ (lgF1 δ).1 (lgF1 δ).2.1
def lgFormat (δ : Dk) : Dk × Option Wl := if (formatZ δ).2.isNone = true then ((formatZ δ).1, none) else if (lgF1 δ).2.2 ≠ 0 then ((lgF1 δ).1, none) else if (lgF2 δ).2.2 ≠ 0 then ((lgF2 δ).1, none) else ((lgF2 δ).1, some (lgF2 δ).2.1)
/-! ### On a disk that lives -/
structure LWell (s : Ld) (N : Int) : Prop where
 well : Well s.δ s.ω N
 w : LgW s.Λ
 live : s.Λ.doubt = false
 recs : s.ω.recs = headL s.Λ.base s.Λ.snap ++ s.Λ.ents
 a : s.ω.a = s.Λ.acc
 b : s.ω.b = s.Λ.cur
theorem lg0_W : LgW lg0 := ⟨by decide, (fun s hs => by cases hs), by decide, by decide, trivial, by decide⟩
theorem format_lwell {n : Int} (h : 16 ≤ n ∧ n ≤ 32768) : ∃ ω, (lgFormat (Dk.new n)).2 = some ω ∧ LWell ⟨(lgFormat (Dk.new n)).1, ω, lg0⟩ 4000003 ∧ (lgFormat (Dk.new n)).1.now.length = n.toNat ∧ Well (formatZ (Dk.new n)).1 newW 3 ∧ Well (lgF1 (Dk.new n)).1 (lgF1 (Dk.new n)).2.1 2000003 := by
 obtain ⟨f1, f2, f3⟩ := format_well h
 obtain ⟨δ1, hq⟩ : ∃ δ1, (formatZ (Dk.new n)).1 = δ1 := ⟨_, rfl⟩
 have hF1 : lgF1 (Dk.new n) = appendZ δ1 newW (headB 0 0) := by rw [← hq]; rfl
 rw [hq] at f2 f3
 have hnl : δ1.now.length = n.toNat := by rw [f3, List.length_set, List.length_set]; simp [Dk.new]
 obtain ⟨w1, w2, w3⟩ := well_append f2 (headB 0 0)
 have hl : (headB 0 0).length = 2 := by kernel_rfl
 have hh : 7 ≤ halfZ δ1 := by unfold halfZ; omega
 have h0 : (laidZ newW.recs).length = 0 := rfl
 rcases w3 with ⟨-, -, g3⟩ | ⟨g1, -⟩ | ⟨-, g2, -⟩
 rotate_left
 ·omega
 ·omega
 obtain ⟨⟨δ2, q2⟩, hq2⟩ : ∃ r, appendZ δ1 newW (headB 0 0) = r := ⟨_, rfl⟩
 rw [hq2] at w1 w2 g3 hF1
 dsimp only at w1 w2 g3
 subst g3
 dsimp only at w1
 have hs : syncZ δ2 { newW with recs := newW.recs ++ [headB 0 0] } = dbt (sealZ δ2 { newW with recs := newW.recs ++ [headB 0 0] } 0 [headB 0 0]) := by
  unfold syncZ
  rw [if_neg (by decide), if_neg (by show ¬ ((0 : Int) = ((1 : Nat) : Int)); decide), if_neg (by decide)]; rfl
 obtain ⟨e, w, k⟩ := well_seal w1 (by decide) (area := 0) (by decide) (l := [headB 0 0]) w1.fits w1.al rfl (by have := w1.acts; omega)
 have hF2 : lgF2 (Dk.new n) = dbt (sealZ δ2 { newW with recs := newW.recs ++ [headB 0 0] } 0 [headB 0 0]) := by unfold lgF2; rw [hF1]; exact hs
 have hfm : lgFormat (Dk.new n) = ((lgF2 (Dk.new n)).1, some (lgF2 (Dk.new n)).2.1) := by
  unfold lgFormat
  rw [f1, if_neg (by decide), if_neg (by rw [hF1]; exact fun g => g rfl), if_neg (by rw [hF2, e]; decide)]
 rw [hfm, hF2, hF1, hq]
 dsimp only
 exact ⟨_, rfl, ⟨by rw [e, show (4000003 : Int) = 3 + 2000000 + 2000000 by decide]; exact w, lg0_W, rfl, by rw [e]; rfl, by rw [e]; rfl, by rw [e]; rfl⟩, by rw [k, List.length_set, w2, hnl], f2, w1⟩
theorem clipI0_spec : Fn Tryz.prog 56 #[.slice none 0 0] [slR 3 1 (.slice none 0 0) 0 []] fun u L => u = .slice none 0 0 ∧ L = [slR 3 1 u 0 []] := by
 refine Fn.intro Tryz.func56 rfl rfl fun F W => ?_
 refine .sr (.an rfl (.sm rfl (.m rfl (.q (.slen rfl Tryz.underlying32 rfl) rfl (.m rfl (.q (.slen rfl Tryz.underlying32 rfl) rfl (.q (.clip (n := 0) rfl el_32 rfl rfl (Nat.le_refl _) (.inl rfl)) rfl (.an rfl (.ret ?_)))))))))
 exact .dn rfl rfl ⟨rfl, rfl⟩
theorem clipI1_spec (b n c : Nat) (hc : n ≤ c) (xs : List Value) : Fn Tryz.prog 56 #[.slice (some ⟨b, 0, none⟩) n c] [slR 3 1 (.slice (some ⟨b, 0, none⟩) n c) n xs] fun u L => u = .slice (some ⟨b, 0, none⟩) n n ∧ L = [slR 3 1 u n xs] := by
 refine Fn.intro Tryz.func56 rfl rfl fun F W => ?_
 refine .sr (.an rfl (.sm rfl (.m rfl (.q (.slen rfl Tryz.underlying32 rfl) rfl (.m rfl (.q (.slen rfl Tryz.underlying32 rfl) rfl (.q (.clip (n := n) rfl el_32 rfl rfl hc (.inr ⟨_, _, rfl⟩)) rfl (.an rfl (.ret (.slClip (by repeat' constructor) ?_))))))))))
 exact .dn rfl rfl ⟨rfl, rfl⟩
theorem clipI_spec (v : Value) (n : Nat) (xs : List Value) : Fn Tryz.prog 56 #[v] [slR 3 1 v n xs] fun u L => (∃ a c, u = .slice a n c) ∧ L = [slR 3 1 u n xs] := by
 intro F w hs
 obtain ⟨g1, -, hp⟩ := sep_head hs
 rcases hp with ⟨rfl, rfl, rfl⟩ | ⟨b, cap, rest, fr, rfl, -, -, -, h4, -⟩
 ·exact (clipI0_spec F w hs).mono fun e w' ⟨u, L, ⟨h1, h2⟩, h3⟩ => ⟨u, L, ⟨⟨_, _, h1⟩, h2⟩, h3⟩
 ·exact (clipI1_spec b n cap h4 xs F w hs).mono fun e w' ⟨u, L, ⟨h1, h2⟩, h3⟩ => ⟨u, L, ⟨⟨_, _, h1⟩, h2⟩, h3⟩
theorem hd00 : (headB 0 0).length = 2 := by kernel_rfl
theorem lformat_spec (d : Nat) (δ : Dk) (hA : δ.acts + 10 < 4611686018427387904) (hI : WlI (formatZ δ).1 newW) (hI1 : WlI (lgF1 δ).1 (lgF1 δ).2.1) : Fn Tryz.prog 48 #[vptr d] [dkR d δ] fun v L => ((lgFormat δ).2 = none ∧ v = .tuple #[.pointer none, vint 2] ∧ L = [dkR d (lgFormat δ).1]) ∨
    (∃ ω g x, (lgFormat δ).2 = some ω ∧ v = .tuple #[vptr g, vint 0] ∧ L = [lgR g x lg0, wlR x d ω, dkR d (lgFormat δ).1]) := by
 refine Fn.intro Tryz.func48 rfl rfl fun F W => ?_
 refine .sr (.a rfl (.an rfl (.seq (.sm rfl (.q (.ptreq rfl rfl Tryz.underlying24) rfl (.nt (.condF rfl (.sk (.sm rfl (.oq (.c Tryz.func85 [_] (format_spec d δ hA)) ?_))))))))))
 rintro v L' (⟨hf, rfl, rfl⟩ | ⟨hf, x, rfl, rfl⟩)
 ·refine .m rfl (.u (.extract rfl rfl) (.u (.extract rfl rfl) (.a rfl (.an rfl (.seq (.sm rfl (.q (.as (v' := .bool true) (by rfl) (.int rfl rfl rfl)) rfl (.m rfl (.gk (.gk (.gk (.gk (.gk (.gk (.u (.pickT rfl rfl) (.m rfl (.gk (.gk (.gk (.u (.pickT rfl rfl) (.nt (.condT rfl (.sr (.a rfl (.an rfl (.rt ?_))))))))))))))))))))))))))
  have hr : lgFormat δ = ((formatZ δ).1, none) := by unfold lgFormat; rw [hf]; rfl
  rw [hr]
  exact .dn rfl rfl (.inl ⟨rfl, rfl, rfl⟩)
 refine .m rfl (.u (.extract rfl rfl) (.u (.extract rfl rfl) (.a rfl (.an rfl (.seq (.sm rfl (.q (.as (v' := .bool false) (by rfl) (.int rfl rfl rfl)) rfl (.m rfl (.grun (t := 15) rfl rfl rfl (.m rfl (.grun (t := 15) rfl rfl rfl (.oq (.c Tryz.func86 [_, _] (lahead_spec 0 [] (by decide) (by decide))) ?_))))))))))))
 rintro v L' ⟨ba, ca, rfl, rfl⟩; rw [show headL 0 [] = [headB 0 0] from rfl]; dsimp only [List.length_cons, List.length_nil]
 refine .grun (t := 15) rfl rfl rfl (.q (.indexAddr rfl rfl el_39 (by omega)) rfl (.grun (t := 15) rfl rfl rfl (.q (.loadEl (p := strR (.slice (some ⟨ba, 0, none⟩) (0 + 1) ca) [headB 0 0]) (i := 0) (v := vstr (headB 0 0)) rfl ag_9 (by repeat' constructor) (fun h hp => slR_rd hp) rfl) rfl (.grun (t := 15) rfl rfl rfl (.oq (.c Tryz.func70 [_, _] (wappend_spec x d newW (formatZ δ).1 (headB 0 0) hI (by rw [hd00]; decide))) ?_)))))
 rintro v L' ⟨rfl, rfl⟩; rw [show appendZ (formatZ δ).1 newW (headB 0 0) = lgF1 δ from rfl]
 refine .grun (t := 15) rfl rfl rfl (.ui rfl rfl rfl (.u (.pickF rfl rfl) (.m rfl (.ndec (t := 23) rfl (fun h4_23 => ?_) (fun h4_23 => ?_)))))
 ·refine .kNT (t := 21) rfl h4_23 (.kNT (t := 22) rfl h4_23 (.gk (.gk (.gk (.u (.pickT rfl rfl) (.nt (.condT rfl (.sr (.a rfl (.an rfl (.rt ?_)))))))))))
  have hr : lgFormat δ = ((lgF1 δ).1, none) := by unfold lgFormat; rw [hf, if_neg (by decide),  if_pos h4_23]
  rw [hr]
  exact .dn rfl rfl (.inl ⟨rfl, rfl, rfl⟩)
 refine .kNF (t := 21) rfl h4_23 (.kNF (t := 22) rfl h4_23 (.grun (t := 23) rfl rfl rfl (.m rfl (.grun (t := 23) rfl rfl rfl (.oq (.c Tryz.func73 [_] (wsync_spec x d (lgF1 δ).2.1 (lgF1 δ).1 hI1)) ?_)))))
 rintro v L' ⟨rfl, rfl⟩; rw [show syncZ (lgF1 δ).1 (lgF1 δ).2.1 = lgF2 δ from rfl]
 refine .grun (t := 23) rfl rfl rfl (.ui rfl rfl rfl (.u (.pickF rfl rfl) (.nt (.condN rfl (fun h27 => ?_) (fun h27 => ?_)))))
 ·refine .sr (.a rfl (.an rfl (.rt ?_)))
  have hr : lgFormat δ = ((lgF2 δ).1, none) := by unfold lgFormat; rw [hf, if_neg (by decide), if_neg (fun g => g h4_23),  if_pos h27]
  rw [hr]
  exact .dn rfl rfl (.inl ⟨rfl, rfl, rfl⟩)
 refine .sk (.sm rfl (.q (.buildN (pl := [(0, 2), (2, 1), (3, 1), (4, 1), (5, 1), (6, 1), (7, 1)]) (us := [(1, _)]) (cells := [vint 0, vint 0, vptr x, vint 0, vstr [], .slice none 0 0, .slice none 0 0, .bool false]) Tryz.underlying53 (by kernel_rfl) ze_53 rfl rfl) rfl (.oq (.box rfl) ?_)))
 rintro v L' ⟨g, rfl, rfl⟩
 refine .a rfl (.a rfl (.nil (.ptCast (b := g) (l' := [vint 0, vint 0, vptr x, vint 0, vstr [], .slice none 0 0, .slice none 0 0, .bool false]) (by repeat' constructor) rfl (.then_n (.ret ?_)))))
 have hr : lgFormat δ = ((lgF2 δ).1, some (lgF2 δ).2.1) := by unfold lgFormat; rw [hf, if_neg (by decide), if_neg (fun g => g h4_23),  if_neg (fun g => g h27)]
 rw [hr]
 refine .add (slR_nil 9 1) (.add (slR_nil 3 1) (.lgFold (g := g) (x := x) (ea := none) (ec := 0) (za := none) (zc := 0) (es := []) (zs := []) lg0 (by repeat' constructor) rfl rfl rfl rfl rfl ?_))
 exact .dn rfl rfl (.inr ⟨_, _, _, rfl, rfl, rfl⟩)
theorem numR_i64 (st : Rs) : I64 (numR st).1 := by
 unfold numR runP
 split
 ·decide
 ·split
  ·rename_i x hx; exact (num_form hx).2
  ·decide
def cntX (st : Rs) : Nat × Rs := runP 0 (cntP 65536) st
theorem cntX_le (st : Rs) : (cntX st).1 ≤ 65536 := by
 unfold cntX runP
 split
 ·exact Nat.zero_le _
 ·split
  ·rename_i x hx; exact (cnt_form hx).2
  ·exact Nat.zero_le _
theorem lh_ok {s : Bs} (h : (cntX (numR (some s)).2).2 = some []) : lhZ s = some ((numR (some s)).1, (cntX (numR (some s)).2).1) := by
 have e : headR (some s) = (((numR (some s)).1, (cntX (numR (some s)).2).1), some []) := by rw [← h]; rfl
 unfold lhZ; rw [e]
theorem lh_bad {s : Bs} (h : ¬ (cntX (numR (some s)).2).2 = some []) : lhZ s = none := by
 unfold lhZ
 split
 ·rename_i q hq; exact absurd (show (headR (some s)).2 = some [] by rw [hq]) h
 ·rfl
theorem parse_cons {a b : Int} {l : List Bs} (h : 0 < l.length) : lparseZ a b l = match lhZ (l.getD 0 []) with
  | none => none
  | some (base, n) => if base < 0 then none else restZ a b base (snapZ n [] (l.drop 1)) := by
 cases l with
 | nil => simp at h
 | cons r t => rfl
theorem drop_cons {l : List Bs} {i : Nat} (h : i < l.length) : l.drop i = l.getD i [] :: l.drop (i + 1) := by
 rw [List.drop_eq_getElem_cons h]; simp [List.getD_eq_getElem?_getD, h]
/- not in this seat -/
/- not in this seat -/
theorem OpSpec.preImp {P : Program} {E : Env} {o : Oper} {p p' : HP} {R : List HP} {K : Value → List HP → Prop} (hi : ∀ h, p h → p' h) (h : OpSpec P o E (p' :: R) K) : OpSpec P o E (p :: R) K := by
 intro ρ w F ha hs
 exact h ρ w F ha (sep_imp hi hs)
theorem shr32 (z : Int) : vint (z.fdiv (2 ^ min (32 : Int).toNat IntKind.i64.bits)) = vint (z / 4294967296) := by
 show vint (z.fdiv 4294967296) = _
 rw [Int.fdiv_eq_ediv_of_nonneg _ (by decide)]
theorem mk_step {all : List Int} {j : Nat} (h : j < all.length) : (all.take (j + 1)).foldl markStep [] = markStep ((all.take j).foldl markStep []) (all.getD j 0) := by
 rw [List.take_succ_eq_append_getElem h, List.foldl_append]
 simp [List.getD_eq_getElem?_getD, h]
theorem mk_0 {out : List Int} {z : Int} (h : z = 0) : markStep out z = out := by unfold markStep; rw [if_pos h]
theorem mk_same {out : List Int} {z : Int} (h : ¬ z = 0) (h2 : out ≠ []) (h3 : out.getLastD 0 / 4294967296 = z / 4294967296) : markStep out z = out.dropLast ++ [z] := by unfold markStep; rw [if_neg h, if_pos ⟨h2, h3⟩]
theorem mk_new {out : List Int} {z : Int} (h : ¬ z = 0) (h2 : out = [] ∨ ¬ out.getLastD 0 / 4294967296 = z / 4294967296) : markStep out z = out ++ [z] := by
 unfold markStep; rw [if_neg h, if_neg]
 rintro ⟨g1, g2⟩; rcases h2 with h2 | h2
 ·exact g1 h2
 ·exact h2 g2
theorem set_last {out : List Int} {i : Nat} (h : i + 1 = out.length) (z : Int) : out.set i z = out.dropLast ++ [z] := by
 obtain ⟨l, x, rfl⟩ : ∃ l x, out = l ++ [x] := ⟨out.dropLast, out.getLast (by intro g; subst g; simp at h), (List.dropLast_concat_getLast _).symm⟩
 rw [List.length_append, List.length_singleton] at h
 obtain rfl : i = l.length := by omega
 simp
theorem lastD_at {out : List Int} {i : Nat} (h : i + 1 = out.length) : out.getLastD 0 = out.getD i 0 := by
 obtain ⟨l, x, rfl⟩ : ∃ l x, out = l ++ [x] := ⟨out.dropLast, out.getLast (by intro g; subst g; simp at h), (List.dropLast_concat_getLast _).symm⟩
 rw [List.length_append, List.length_singleton] at h
 obtain rfl : i = l.length := by omega
 simp [List.getD_eq_getElem?_getD]
theorem mk_len (out : List Int) (z : Int) : (markStep out z).length ≤ out.length + 1 := by
 unfold markStep
 split
 ·omega
 ·split
  ·rw [List.length_append, List.length_dropLast, List.length_singleton]; omega
  ·rw [List.length_append, List.length_singleton]; omega
theorem mk_lens (all : List Int) (j : Nat) (h : j ≤ all.length) : ((all.take j).foldl markStep []).length ≤ j := by
 induction j with
 | zero => simp
 | succ j ih =>
  rw [mk_step (by omega)]
  have := mk_len ((all.take j).foldl markStep []) (all.getD j 0)
  have := ih (by omega)
  omega
theorem lmarks_spec (g x : Nat) (Λ : Lg) (hΛ : LgI Λ) : Fn Tryz.prog 93 #[vptr g] [lgR g x Λ] fun v L => ∃ a c, v = .slice a (marksZ Λ).length c ∧ L = [lgR g x Λ, intR v (marksZ Λ)] := by
 refine Fn.intro Tryz.func93 rfl rfl fun F W => ?_
 refine .lgOpen (by repeat' constructor) fun ea ec za zc => ?_
 have h1 := hΛ.ents
 have h2 := hΛ.same
 refine .sr (.an rfl (.seq (.add (slR_nil 3 1) (.region (.an rfl (.seq (.seq (.draw [4, 9] [[0, 1, 2, 3, 5, 6, 7, 8, 11, 4, 9, 10]] mixed (by kernel_rfl) (.go [ptc g _ _] (by repeat' constructor) (.mv rfl rfl (.nf rfl rfl rfl fo_53_2 (.kv rfl (.ld rfl ag_3) (.k rfl (.move rfl) (.k rfl (.nilp rfl) (.k rfl (.fieldAddr rfl fo_53_5) (.k rfl (.ld rfl ag_32) (.k rfl (.move rfl) (.hh rfl (.buildSlice1 (vs := [_]) el_32 ze_3 rfl rfl rfl rfl rfl (by decide)) ?_))))))))))))))))))
 rintro v L' ⟨b4, rfl, rfl⟩
 refine D.hh rfl (.preImp (p := ptc b4 [vint Λ.base] 3) (p' := slR 3 1 (.slice (some ⟨b4, 0, none⟩) 1 1) 1 [vint Λ.base]) (fun h hp => slR_pt hp rfl) (.append (n := 1) (m := Λ.zxs.length) (xs := [vint Λ.base]) (ys := ints Λ.zxs) (p := intR (.slice za Λ.zxs.length zc) Λ.zxs) rfl rfl rfl el_32 (.inl ⟨_, Tryz.underlying32⟩) ze_3 rfl rfl ?hc14 ?hr15 ?hb16 (by decide))) ?_
 case hc14 => intro y hy; obtain ⟨z, -, rfl⟩ := List.mem_map.1 hy; rfl
 case hr15 => exact fun h hp => slR_rd hp
 case hb16 => omega
 rintro v L' ⟨⟨a9, c9, rfl⟩, rfl⟩
 refine D.kv rfl (.slen rfl Tryz.underlying32 rfl) (.ph (.fin (.slShape (v := .slice a9 _ c9) (by repeat' constructor) (by omega) fun b9 cc9 e0 mb9 _ => ?_)))
 simp only [Value.slice.injEq, true_and] at e0
 obtain ⟨rfl, rfl⟩ := e0
 have hall : (Λ.base :: Λ.zxs).length = 1 + Λ.zxs.length := by rw [List.length_cons]; omega
 refine .then_n (.block (.loopK (ι := Nat × Value × (List Int)) (fun q E => (18, vint q.1) :: (3, q.2.1) :: E) (fun q => [intR q.2.1 q.2.2]) (fun q => q.1 ≤ 1 + Λ.zxs.length ∧ (∃ a c, q.2.1 = .slice a q.2.2.length c) ∧ q.2.2 = (((Λ.base :: Λ.zxs).take q.1).foldl markStep [])) (fun q => 1 + Λ.zxs.length - q.1) (0, .slice none 0 0, []) (ts := [2, 16, 17]) (.cons rfl (.cons rfl (.cons rfl (.nil)))) (⟨Nat.zero_le _, ⟨none, 0, rfl⟩, rfl⟩) ⟨rfl, rfl, rfl, rfl, rfl, trivial⟩ (by repeat' constructor) ?_))
 rintro ⟨j, u, out⟩ ⟨hj, ⟨au, cu, hu⟩, ho⟩
 dsimp only
 dsimp only at hj hu ho
 subst hu
 have hol : out.length ≤ j := by rw [ho]; exact mk_lens _ _ (by omega)
 refine .sr (.ui rfl rfl rfl (.nt (.seq (.condD rfl (fun h19 => ?_) (fun h19 => ?_)))))
 ·refine .sk (.seq (.block (.sr (.q (.indexAddr rfl rfl el_32 (by omega)) rfl (.q (.loadEl (p := slR 3 1 (.slice (some ⟨b9, 0, none⟩) (1 + Λ.zxs.length) c9) (1 + Λ.zxs.length) ([vint Λ.base] ++ ints Λ.zxs)) (i := j * 1) (v := vint ((Λ.base :: Λ.zxs).getD j 0)) rfl ag_3 (by repeat' constructor) (fun h hp => slR_rd hp) (by have hjl : j < (Λ.base :: Λ.zxs).length := (by omega); rw [show [vint Λ.base] ++ ints Λ.zxs = ints (Λ.base :: Λ.zxs) from rfl]; simp only [ints, List.getElem?_map, Nat.mul_one, List.getElem?_eq_getElem hjl, List.getD_eq_getElem?_getD]; rfl)) rfl ?_)))))
  refine .an rfl (.sm rfl (.q (.slen rfl Tryz.underlying32 rfl) rfl (.an rfl (.block (.sm rfl (.ui rfl rfl rfl (.an rfl (.condD rfl (fun h28 => ?_) (fun h28 => ?_)))))))))
  ·refine .skip (.blk_n (.blk_n (.then_n (.region (.q (.add rfl rfl (by omega)) rfl (.m rfl (.nt ?_)))))))
   exact .rk ((j + 1, .slice au out.length cu, out)) (⟨by dsimp only; omega, ⟨_, _, rfl⟩, by dsimp only; rw [mk_step (by omega), ← ho, mk_0 h28]⟩) (by dsimp only; omega) ⟨rfl, rfl, rfl, rfl, rfl, trivial⟩
  refine .sm rfl (.ui rfl rfl rfl (.m rfl (.dec (t := 34) rfl (fun h8_34 => ?_) (fun h8_34 => ?_))))
  ·obtain ⟨i, hi⟩ : ∃ i, i + 1 = out.length := ⟨out.length - 1, by omega⟩
   refine .slShape (v := .slice au _ cu) (xs := ints out) (by repeat' constructor) (by omega) fun bu cu' e0 mbu _ => ?_
   simp only [Value.slice.injEq, true_and] at e0
   obtain ⟨rfl, rfl⟩ := e0
   refine .kDT (t := 33) rfl h8_34 (.grun (t := 34) rfl rfl rfl (.m rfl (.grun (t := 34) rfl rfl rfl (.m rfl (.grun (t := 34) rfl rfl rfl (.q (.as (v' := vint (i : Nat)) (by congr 1; omega) (.sub rfl rfl (by omega))) rfl (.grun (t := 34) rfl rfl rfl (.q (.indexAddr rfl rfl el_32 (by omega)) rfl (.grun (t := 34) rfl rfl rfl (.q (.loadEl (p := intR (.slice (some ⟨bu, 0, none⟩) out.length cu) out) (i := i * 1) (v := vint (out.getD i 0)) rfl ag_3 (by repeat' constructor) (fun h hp => slR_rd hp) (by have hil : i < out.length := (by omega); simp [ints, List.getD_eq_getElem?_getD, hil])) rfl ?_))))))))))
   refine .grun (t := 34) rfl rfl rfl (.q (.as (v' := vint (out.getD i 0 / 4294967296)) (by exact shr32 _) (.shr rfl rfl (by first | decide | omega))) rfl (.grun (t := 34) rfl rfl rfl (.m rfl (.grun (t := 34) rfl rfl rfl (.q (.as (v' := vint ((Λ.base :: Λ.zxs).getD j 0 / 4294967296)) (by exact shr32 _) (.shr rfl rfl (by first | decide | omega))) rfl (.grun (t := 34) rfl rfl rfl (.ui rfl rfl rfl (.u (.pickT rfl rfl) (.an rfl (.condD rfl (fun h31 => ?_) (fun h31 => ?_)))))))))))
   ·refine .region (.m rfl (.m rfl (.q (.as (v' := vint (i : Nat)) (by congr 1; omega) (.sub rfl rfl (by omega))) rfl (.m rfl (.q (.indexAddr rfl rfl el_32 (by omega)) rfl (.oq (.storeRd (sz := 1) (n := out.length) (c := cu) (j := i * 1) (xs := ints out) rfl rfl rfl sz_3 ?h138 ?h239) ?_))))))
    case h138 => simp
    case h239 => omega
    rintro v L' rfl
    refine .nil (.blk_n (.blk_n (.then_n (.region (.q (.add rfl rfl (by omega)) rfl (.m rfl (.nt (.slCast (T := 3) (sz := 1) (m' := (out.set i ((Λ.base :: Λ.zxs).getD j 0)).length) (xs' := ints (out.set i ((Λ.base :: Λ.zxs).getD j 0))) (by repeat' constructor) (by simp) (by simp [ints, List.map_set]) ?_))))))))
    exact .rk ((j + 1, .slice (some ⟨bu, 0, none⟩) out.length cu, out.set i ((Λ.base :: Λ.zxs).getD j 0))) (⟨by dsimp only; omega, ⟨some ⟨bu, 0, none⟩, cu, by simp⟩, by dsimp only; rw [mk_step (by omega), ← ho, mk_same h28 (by intro g; rw [g] at hi; simp at hi) (by rw [lastD_at hi]; exact h31), set_last hi]⟩) (by dsimp only; omega) ⟨rfl, rfl, rfl, rfl, rfl, trivial⟩
   refine .region (.m rfl (.m rfl (.oq (.buildSlice1 (vs := [_]) el_32 ze_3 rfl rfl rfl rfl rfl (by decide)) ?_)))
   rintro v L' ⟨b6, rfl, rfl⟩
   refine .oq (.append1 rfl rfl rfl el_32 ze_3 rfl rfl ?c45 ?c46 (Nat.le_refl _) ?c47 (by decide)) ?_
   case c45 => (first | (simp [isCell]; done) | (simp [isCell, setAll, Value.cells]; done))
   case c46 => rfl
   case c47 => omega
   rintro v L' ⟨⟨a6, c6, rfl⟩, rfl⟩
   refine .a rfl (.nil (.blk_n (.blk_n (.then_n (.region (.q (.add rfl rfl (by omega)) rfl (.m rfl (.nt (.slCast (T := 3) (sz := 1) (m' := (out ++ [(Λ.base :: Λ.zxs).getD j 0]).length) (xs' := ints (out ++ [(Λ.base :: Λ.zxs).getD j 0])) (by repeat' constructor) (by simp) (by simp [ints, Value.cells]) ?_)))))))))
   exact .rk ((j + 1, .slice a6 (out.length + 1) c6, out ++ [(Λ.base :: Λ.zxs).getD j 0])) (⟨by dsimp only; omega, ⟨a6, c6, by simp⟩, by dsimp only; rw [mk_step (by omega), ← ho, mk_new h28 (.inr (by rw [lastD_at hi]; exact h31))]⟩) (by dsimp only; omega) ⟨rfl, rfl, rfl, rfl, rfl, trivial⟩
  refine .kDF (t := 33) rfl h8_34 (.gk (.gk (.gk (.gk (.gk (.gk (.gk (.gk (.gk (.u (.pickF rfl rfl) (.an rfl (.condF rfl (.region (.m rfl (.m rfl (.oq (.buildSlice1 (vs := [_]) el_32 ze_3 rfl rfl rfl rfl rfl (by decide)) ?_))))))))))))))))
  rintro v L' ⟨b6, rfl, rfl⟩
  refine .oq (.append1 rfl rfl rfl el_32 ze_3 rfl rfl ?c55 ?c56 (Nat.le_refl _) ?c57 (by decide)) ?_
  case c55 => (first | (simp [isCell]; done) | (simp [isCell, setAll, Value.cells]; done))
  case c56 => rfl
  case c57 => omega
  rintro v L' ⟨⟨a6, c6, rfl⟩, rfl⟩
  refine .a rfl (.nil (.blk_n (.blk_n (.then_n (.region (.q (.add rfl rfl (by omega)) rfl (.m rfl (.nt (.slCast (T := 3) (sz := 1) (m' := (out ++ [(Λ.base :: Λ.zxs).getD j 0]).length) (xs' := ints (out ++ [(Λ.base :: Λ.zxs).getD j 0])) (by repeat' constructor) (by simp) (by simp [ints, Value.cells]) ?_)))))))))
  exact .rk ((j + 1, .slice a6 (out.length + 1) c6, out ++ [(Λ.base :: Λ.zxs).getD j 0])) (⟨by dsimp only; omega, ⟨a6, c6, by simp⟩, by dsimp only; rw [mk_step (by omega), ← ho, mk_new h28 (.inl (List.eq_nil_of_length_eq_zero (by omega)))]⟩) (by dsimp only; omega) ⟨rfl, rfl, rfl, rfl, rfl, trivial⟩
 have hje : j = 1 + Λ.zxs.length := by omega
 have hoz : out = marksZ Λ := by rw [ho, hje]; unfold marksZ; rw [List.take_of_length_le (by omega)]
 subst hoz
 refine .exit (.then_e (.then_e (.blk_e (.then_n (.sm rfl (.oq (.c Tryz.func56 [_] (clipI_spec _ _ _)) ?_))))))
 rintro v L' ⟨⟨ac, cc, rfl⟩, rfl⟩
 refine .an rfl (.ret (.lf (g := g) (x := x) (ea := ea) (ec := ec) (za := za) (zc := zc) (m := Λ.ents.length) (k := Λ.zxs.length) Λ ?_))
 exact .dn rfl rfl ⟨_, _, rfl, rfl⟩
theorem place_le {Λ : Lg} {z : Int} {n : Nat} (h : placeZ Λ z = some n) : n ≤ Λ.zxs.length ∧ (Λ.base :: Λ.zxs).getD n 0 = z := by
 unfold placeZ at h
 split at h
 ·rename_i hm
  cases h
  have := List.idxOf_lt_length_of_mem hm
  refine ⟨by omega, ?_⟩
  simp [List.getD_eq_getElem?_getD, this]
 ·split at h
  ·rename_i hb; cases h; exact ⟨Nat.zero_le _, hb.symm⟩
  ·cases h
theorem chunkF_nil : ∀ f, chunkF f [] = []
 | 0 => rfl
 | f + 1 => by unfold chunkF; rw [if_pos rfl]
theorem chunk_ar {k n : Nat} (h1 : k * 4000 ≤ n - 4000 + 3999) (g : 4000 < n) : (k + 1) * 4000 ≤ n + 3999 := by omega
theorem chunk_len : ∀ (f : Nat) (s : Bs), s.length ≤ f → (chunkF f s).length * 4000 ≤ s.length + 3999 ∧ ∀ x ∈ chunkF f s, x.length ≤ 4000
 | 0, s, h => by rw [show chunkF 0 s = [] from rfl]; exact ⟨by simp, fun x hx => by cases hx⟩
 | f + 1, s, h => by
  unfold chunkF
  split
  ·exact ⟨by simp, fun x hx => by cases hx⟩
  ·rename_i hs
   have hp : 0 < s.length := List.length_pos_iff.2 hs
   obtain ⟨h1, h2⟩ := chunk_len f (s.drop 4000) (by rw [List.length_drop]; omega)
   rw [List.length_drop] at h1
   refine ⟨?_, ?_⟩
   ·rw [List.length_cons]
    rcases Nat.lt_or_ge 4000 s.length with g | g
    ·exact chunk_ar h1 g
    ·rw [List.drop_eq_nil_of_le g, chunkF_nil f]; simp; omega
   ·intro x hx
    rcases List.mem_cons.1 hx with rfl | hx
    ·rw [List.length_take]; omega
    ·exact h2 x hx
theorem headL_len (base : Int) (snap : Bs) (h : snap.length ≤ 65536) : (headL base snap).length ≤ 18 := by
 unfold headL chunkL
 have := (chunk_len snap.length snap (Nat.le_refl _)).1
 rw [List.length_cons]; omega
theorem fits_got {e : En} (h : fitsE e = true) (hi : EnI e) : getZ (enB e) = some e.pl := by
 unfold fitsE at h
 cases hg : getZ (enB e) with
 | none => rw [hg] at h; simp at h
 | some q => rw [get_back hi hg]
theorem rises_rows : ∀ (l : List En) (b : Int), (∀ e ∈ l, EnI e) → l.all fitsE = true → Rises b (l.map (·.zx)) → RowsI b (l.map enB) (l.map (·.zx))
 | [], _, _, _, _ => trivial
 | e :: t, b, hi, hf, hr => by
  rw [List.all_cons, Bool.and_eq_true] at hf
  have h0 := hr 0 (by simp)
  refine ⟨⟨e.pl, fits_got hf.1 (hi e (List.mem_cons_self ..)), rfl⟩, h0.1, (hi e (List.mem_cons_self ..)).zx, rises_rows t e.zx (fun x hx => hi x (List.mem_cons_of_mem _ hx)) hf.2 ?_⟩
  intro j hj
  have h1 := hr (j + 1) (by simpa using hj)
  have hp : ∀ k, k < (t.map (·.zx)).length → e.zx < (t.map (·.zx)).getD k 0 := by
   intro k
   induction k with
   | zero => intro hk; have := (hr 1 (by simpa using hk)).2 (by decide); simpa using this
   | succ k ih =>
    intro hk
    have h2 := ih (by omega)
    have h3 := (hr (k + 2) (by simp at hk ⊢; omega)).2 (by omega)
    have h4 : ((e :: t).map (·.zx)).getD (k + 2 - 1) 0 = (t.map (·.zx)).getD k 0 := by simp
    have h5 : ((e :: t).map (·.zx)).getD (k + 2) 0 = (t.map (·.zx)).getD (k + 1) 0 := by simp
    rw [h4, h5] at h3; omega
  refine ⟨hp j hj, fun h0j => ?_⟩
  have h3 := h1.2 (by omega)
  have h4 : ((e :: t).map (·.zx)).getD (j + 1 - 1) 0 = (t.map (·.zx)).getD (j - 1) 0 := by
   obtain ⟨k, rfl⟩ : ∃ k, j = k + 1 := ⟨j - 1, by omega⟩
   simp
  have h5 : ((e :: t).map (·.zx)).getD (j + 1) 0 = (t.map (·.zx)).getD j 0 := by simp
  rw [h4, h5] at h3; exact h3
def i64 (x : Int) : Prop := -9223372036854775808 ≤ x ∧ x ≤ 9223372036854775807
theorem byteZ_nat (n : Int) : ((byteZ n).toNat : Int) = n % 256 := by
 unfold byteZ
 rw [UInt8.toNat_ofNat']
 omega
theorem beZ_beB : ∀ (k : Nat) (n : Int), 0 ≤ n → beZ (beB n k) 0 = n % 256 ^ k := by
 intro k
 induction k with
 | zero => intro n _; simp [beB, beZ]
 | succ k ih =>
  intro n hn
  have h1 := ih (n / 256) (by omega)
  rw [beB, beZ_append, h1]
  simp only [beZ]
  rw [byteZ_nat, Int.pow_succ, Int.mul_comm (256 ^ k) 256]
  have h2 : n / 256 % 256 ^ k * 256 + n % 256 = n % (256 * 256 ^ k) := by
   have hp : (0 : Int) < 256 ^ k := Int.pow_pos (by decide)
   generalize (256 : Int) ^ k = p at *
   have e1 := Int.emod_add_mul_ediv n (256 * p)
   have e2 := Int.emod_add_mul_ediv n 256
   have e3 := Int.emod_add_mul_ediv (n / 256) p
   have e4 : n / 256 / p = n / (256 * p) := Int.ediv_ediv_of_nonneg (by omega)
   rw [e4] at e3
   generalize n / (256 * p) = q at *
   have e5 : 256 * p * q = 256 * (p * q) := Int.mul_assoc _ _ _
   generalize p * q = r at *
   omega
  exact h2
theorem smallZ_beB {k : Nat} {n : Int} (h0 : 0 ≤ n) (h1 : n < 256 ^ k) (h2 : n ≤ 9223372036854775807) : smallZ (beB n k) = n := by
 unfold smallZ
 rw [beZ_beB k n h0, Int.emod_eq_of_lt h0 h1]
 exact i64w (by omega)
structure MkR (m : Mk) : Prop where
 count : 0 ≤ m.count ∧ m.count ≤ 4294967295
 area : 0 ≤ m.area ∧ m.area ≤ 1
 len : 0 ≤ m.len ∧ m.len ≤ 4294967295
 num : 0 ≤ m.num ∧ m.num ≤ 4294967295
 a : 0 ≤ m.a ∧ m.a ≤ 9223372036854775807
 b : 0 ≤ m.b ∧ m.b ≤ 9223372036854775807
theorem MkI.r {δ : Dk} {m : Mk} (h : MkI δ m) (hs : 2 ≤ δ.now.length ∧ δ.now.length ≤ 32768) : MkR m := by
 have := half_le hs
 obtain ⟨h1, h2, h3, h4, h5, h6⟩ := h
 exact ⟨by omega, h2, by omega, h4, h5, h6⟩
theorem sub_mid (p q r : Bs) {i j : Nat} (hi : i = p.length) (hj : j = p.length + q.length) : sub (p ++ q ++ r) i j = q := by
 subst hi; subst hj
 unfold sub
 rw [List.take_append_of_le_length (by simp), ← List.length_append, List.take_length, List.drop_left]
theorem parse_sec {m : Mk} (h : MkR m) : parseZ m.sec = m := by
 obtain ⟨h1, h2, h3, h4, h5, h6⟩ := h
 have e : (256 : Int) ^ 4 = 4294967296 ∧ (256 : Int) ^ 1 = 256 ∧ (256 : Int) ^ 8 = 18446744073709551616 := ⟨rfl, rfl, rfl⟩
 have a1 : sub m.sec 2 6 = beB m.count 4 := by
  rw [show m.sec = [87, 77] ++ beB m.count 4 ++ (beB m.area 1 ++ beB m.len 4 ++ beB m.num 4 ++ beB m.a 8 ++ beB m.b 8 ++ List.replicate 29 0 ++ beB m.count 4) by unfold Mk.sec; simp only [List.append_assoc]]
  exact sub_mid _ _ _ (by simp) (by simp [beB_len])
 have a2 : sub m.sec 6 7 = beB m.area 1 := by
  rw [show m.sec = ([87, 77] ++ beB m.count 4) ++ beB m.area 1 ++ (beB m.len 4 ++ beB m.num 4 ++ beB m.a 8 ++ beB m.b 8 ++ List.replicate 29 0 ++ beB m.count 4) by unfold Mk.sec; simp only [List.append_assoc]]
  exact sub_mid _ _ _ (by simp [beB_len]) (by simp [beB_len])
 have a3 : sub m.sec 7 11 = beB m.len 4 := by
  rw [show m.sec = ([87, 77] ++ beB m.count 4 ++ beB m.area 1) ++ beB m.len 4 ++ (beB m.num 4 ++ beB m.a 8 ++ beB m.b 8 ++ List.replicate 29 0 ++ beB m.count 4) by unfold Mk.sec; simp only [List.append_assoc]]
  exact sub_mid _ _ _ (by simp [beB_len]) (by simp [beB_len])
 have a4 : sub m.sec 11 15 = beB m.num 4 := by
  rw [show m.sec = ([87, 77] ++ beB m.count 4 ++ beB m.area 1 ++ beB m.len 4) ++ beB m.num 4 ++ (beB m.a 8 ++ beB m.b 8 ++ List.replicate 29 0 ++ beB m.count 4) by unfold Mk.sec; simp only [List.append_assoc]]
  exact sub_mid _ _ _ (by simp [beB_len]) (by simp [beB_len])
 have a5 : sub m.sec 15 23 = beB m.a 8 := by
  rw [show m.sec = ([87, 77] ++ beB m.count 4 ++ beB m.area 1 ++ beB m.len 4 ++ beB m.num 4) ++ beB m.a 8 ++ (beB m.b 8 ++ List.replicate 29 0 ++ beB m.count 4) by unfold Mk.sec; simp only [List.append_assoc]]
  exact sub_mid _ _ _ (by simp [beB_len]) (by simp [beB_len])
 have a6 : sub m.sec 23 31 = beB m.b 8 := by
  rw [show m.sec = ([87, 77] ++ beB m.count 4 ++ beB m.area 1 ++ beB m.len 4 ++ beB m.num 4 ++ beB m.a 8) ++ beB m.b 8 ++ (List.replicate 29 0 ++ beB m.count 4) by unfold Mk.sec; simp only [List.append_assoc]]
  exact sub_mid _ _ _ (by simp [beB_len]) (by simp [beB_len])
 unfold parseZ
 rw [a1, a2, a3, a4, a5, a6, smallZ_beB (by omega) (by omega) (by omega), smallZ_beB (by omega) (by omega) (by omega), smallZ_beB (by omega) (by omega) (by omega), smallZ_beB (by omega) (by omega) (by omega), smallZ_beB (by omega) (by omega) (by omega), smallZ_beB (by omega) (by omega) (by omega)]
theorem read_at {δ : Dk} (hd : δ.dead = false) {n : Int} (hn : 0 ≤ n ∧ n < δ.now.length) : δ.read n = (δ.now.getD n.toNat [], 0) := by
 have h2 : δ.has n = true := by simp [Dk.has, hn.1, hn.2]
 unfold Dk.read
 rw [hd, h2]; rfl
theorem found_sec {δ : Dk} (hd : δ.dead = false) (hs : 2 ≤ δ.now.length ∧ δ.now.length ≤ 32768) {m : Mk} (hm : MkI δ m) {n : Int} (hn : m.count % 2 = n) (hr : δ.now.getD n.toNat [] = m.sec) : foundZ δ n = some m := by
 have e := read_at hd (n := n) ⟨by omega, by omega⟩
 have hp := parse_sec (hm.r hs)
 obtain ⟨h1, h2, h3, h4, h5, h6⟩ := hm
 unfold foundZ
 rw [e, hr]
 dsimp only
 rw [if_neg (by decide), hp, if_neg]
 unfold badMk
 rintro (h | h | h | h | h | h | h)
 ·omega
 ·exact h hn
 ·omega
 ·omega
 ·omega
 ·omega
 ·exact h rfl
theorem part_laid : ∀ (l : List Bs) (f : Nat) (out : List Bs) (num : Int), (∀ s ∈ l, s.length ≤ 4000) → (laidZ l).length < f → num = out.length + l.length → partF f (laidZ l) out num = some (out ++ l) := by
 intro l
 induction l with
 | nil =>
  intro f out num _ hf hn
  obtain ⟨g, rfl⟩ : ∃ g, f = g + 1 := ⟨f - 1, by omega⟩
  simp only [partF]
  rw [if_pos (by simp [laidZ]), if_pos (by simpa using hn.symm)]; simp
 | cons s l ih =>
  intro f out num hl hf hn
  obtain ⟨g, rfl⟩ : ∃ g, f = g + 1 := ⟨f - 1, by omega⟩
  have hs := hl s List.mem_cons_self
  have e : laidZ (s :: l) = recZ s ++ laidZ l := by simp [laidZ]
  have hrl := recZ_len s
  have hlen : (laidZ (s :: l)).length = s.length + 6 + (laidZ l).length := by rw [e, List.length_append, hrl]
  have hcl : (s :: l).length = l.length + 1 := rfl
  have e2 : recZ s ++ laidZ l = beB s.length 2 ++ s ++ (beB (sumZ (headZ s)) 4 ++ laidZ l) := by simp only [recZ, headZ, List.append_assoc]
  have t2 : (laidZ (s :: l)).take 2 = beB s.length 2 := by
   rw [e, e2, List.append_assoc, List.take_append_of_le_length (by simp [beB_len])]
   exact List.take_of_length_le (by simp [beB_len])
  have hp2 : (256 : Int) ^ 2 = 65536 := rfl
  have hsm : smallZ ((laidZ (s :: l)).take 2) = s.length := by rw [t2]; exact smallZ_beB (by omega) (by omega) (by omega)
  simp only [partF]
  rw [hsm]
  have hne : laidZ (s :: l) ≠ [] := fun h => by rw [h] at hlen; simp at hlen; omega
  rw [if_neg hne, if_neg (by omega), if_neg (by omega)]
  have hsub : sub (laidZ (s :: l)) 2 ((s.length : Int).toNat + 2) = s := by
   rw [e, e2]; exact sub_mid _ _ _ (by simp [beB_len]) (by simp [beB_len]; omega)
  have htk : (laidZ (s :: l)).take ((s.length : Int).toNat + 6) = recZ s := by
   rw [e, show (s.length : Int).toNat + 6 = (recZ s).length by rw [hrl]; omega, List.take_left]
  have hdr : (laidZ (s :: l)).drop ((s.length : Int).toNat + 6) = laidZ l := by
   rw [e, show (s.length : Int).toNat + 6 = (recZ s).length by rw [hrl]; omega, List.drop_left]
  rw [hsub, htk, if_neg (fun h => h rfl), hdr, ih g (out ++ [s]) num (fun x hx => hl x (List.mem_cons_of_mem _ hx)) (by omega) (by simp; omega)]
  simp
theorem partZ_of {l : List Bs} (h : ∀ s ∈ l, s.length ≤ 4000) : partZ (laidZ l) l.length = some l := by
 have := part_laid l ((laidZ l).length + 1) [] l.length h (by omega) (by simp)
 simpa [partZ] using this
def chunk (L : Bs) (i : Nat) : Bs := (L.drop (i * 64)).take 64
def Area (δ : Dk) (area : Int) (L : Bs) : Prop := ∀ i : Nat, (i : Int) < halfZ δ → chunk L i <+: δ.now.getD (2 + area * halfZ δ + (i : Int)).toNat []
theorem chunk_pre {L M : Bs} (h : L <+: M) (i : Nat) : chunk L i <+: chunk M i := by
 obtain ⟨r, rfl⟩ := h
 unfold chunk
 rw [List.drop_append, List.take_append]
 exact List.prefix_append _ _
theorem Area.less {δ : Dk} {area : Int} {L M : Bs} (h : Area δ area M) (hp : L <+: M) : Area δ area L := fun i hi => (chunk_pre hp i).trans (h i hi)
theorem area_pre {δ : Dk} (hok : δ.Ok) (hn : 2 ≤ δ.now.length) {area : Int} (ha : 0 ≤ area ∧ area ≤ 1) {L : Bs} (hA : Area δ area L) : ∀ n : Nat, (n : Int) ≤ halfZ δ → L.take (64 * n) <+: areaZ δ area n := by
 intro n
 induction n with
 | zero => intro _; simp
 | succ n ih =>
  intro hn2
  have h1 := ih (by omega)
  have hl := areaZ_len hok hn ha n (by omega)
  rw [areaZ_succ]
  by_cases hc : 64 * n ≤ L.length
  ·have e1 : L.take (64 * n) = areaZ δ area n := List.IsPrefix.eq_of_length h1 (by rw [List.length_take, hl]; omega)
   have e2 : L.take (64 * (n + 1)) = L.take (64 * n) ++ chunk L n := by
    rw [show 64 * (n + 1) = 64 * n + 64 by omega, List.take_add, show 64 * n = n * 64 by omega]; rfl
   rw [e2, e1]
   obtain ⟨t, ht⟩ := hA n (by omega)
   exact ⟨t, by rw [List.append_assoc, ht]⟩
  ·rw [List.take_of_length_le (by omega)] at h1 ⊢
   exact h1.trans (List.prefix_append _ _)
theorem area_take {δ : Dk} (hok : δ.Ok) (hn : 2 ≤ δ.now.length) {area : Int} (ha : 0 ≤ area ∧ area ≤ 1) {L : Bs} (hl : (L.length : Int) ≤ 64 * halfZ δ) (hA : Area δ area L) : (areaZ δ area ((L.length + 63) / 64)).take L.length = L := by
 have h1 := area_pre hok hn ha hA ((L.length + 63) / 64) (by omega)
 rw [List.take_of_length_le (by omega)] at h1
 exact (List.prefix_iff_eq_take.1 h1).symm
def Wl.now (ω : Wl) : Mk := ⟨ω.count, ω.area, (laidZ (ω.recs.take ω.synced.toNat)).length, ω.synced, ω.a, ω.b⟩
def mkAt (δ : Dk) (c : Int) : Bs := δ.now.getD (c % 2).toNat []
def TailC (c : Int) (X : Bs) : Prop := X.length = 64 ∧ (X.drop 60 = beB (c - 1) 4 ∨ (sub X 2 6 = beB (c + 1) 4 ∧ X.drop 60 ≠ beB (c + 1) 4))
theorem sec_sub (m : Mk) : sub m.sec 2 6 = beB m.count 4 := by
 rw [show m.sec = [87, 77] ++ beB m.count 4 ++ (beB m.area 1 ++ beB m.len 4 ++ beB m.num 4 ++ beB m.a 8 ++ beB m.b 8 ++ List.replicate 29 0 ++ beB m.count 4) by unfold Mk.sec; simp only [List.append_assoc]]
 exact sub_mid _ _ _ (by simp) (by simp [beB_len])
theorem sec_drop (m : Mk) : m.sec.drop 60 = beB m.count 4 := by
 unfold Mk.sec
 rw [List.drop_left' (by simp [beB_len])]
theorem be4_inj {a b : Int} (ha : 0 ≤ a ∧ a ≤ 4294967295) (hb : 0 ≤ b ∧ b ≤ 4294967295) (h : beB a 4 = beB b 4) : a = b := by
 have e : (256 : Int) ^ 4 = 4294967296 := rfl
 have h1 := smallZ_beB (k := 4) ha.1 (by omega) (by omega)
 have h2 := smallZ_beB (k := 4) hb.1 (by omega) (by omega)
 rw [← h1, ← h2, h]
theorem tail_found {δ : Dk} {n c : Int} {X : Bs} (hok : δ.Ok) (hd : δ.dead = false) (hn : 0 ≤ n ∧ n < δ.now.length) (hX : δ.now.getD n.toNat [] = X) (hc : 1 ≤ c ∧ c ≤ 4294967295) (ht : TailC c X) : foundZ δ n = none ∨ ∃ k, foundZ δ n = some k ∧ k.count < c := by
 rcases h : foundZ δ n with _ | k
 ·exact .inl rfl
 ·obtain ⟨h1, -, h3, -⟩ := foundZ_some hok h
  have hk := h1.count
  rw [read_at hd hn] at h3
  have h4 : X = k.sec := hX.symm.trans h3
  subst h4
  rcases ht.2 with h5 | ⟨h5, h6⟩
  ·rw [sec_drop] at h5
   have := be4_inj ⟨by omega, by omega⟩ ⟨by omega, by omega⟩ h5
   exact .inr ⟨k, rfl, by omega⟩
  ·rw [sec_sub] at h5
   rw [sec_drop] at h6
   exact absurd h5 h6
structure Kp (δ : Dk) (ω : Wl) : Prop where
 cnt : 1 ≤ ω.count
 a : 0 ≤ ω.a ∧ ω.a ≤ 9223372036854775807
 b : 0 ≤ ω.b ∧ ω.b ≤ 9223372036854775807
 long : ∀ s ∈ ω.recs, s.length ≤ 4000
 this : mkAt δ ω.count = ω.now.sec
 other : TailC ω.count (mkAt δ (ω.count + 1))
 area : Area δ ω.area (laidZ ω.recs)
theorem laid_pre (l : List Bs) (k : Nat) : laidZ (l.take k) <+: laidZ l := ⟨laidZ (l.drop k), by rw [← laidZ_append, List.take_append_drop]⟩
theorem Kp.mkI {δ : Dk} {ω : Wl} {N : Int} (h : Kp δ ω) (hW : Well δ ω N) : MkI δ ω.now := by
 have h1 := laid_take_le ω.recs ω.synced.toNat
 have h2 := hW.fits
 have h3 := laidZ_many ω.recs
 have h4 := half_le hW.size
 have h5 := hW.synced
 exact ⟨⟨h.cnt, hW.count.2⟩, hW.area, ⟨by show (0 : Int) ≤ ((laidZ _).length : Nat); omega, by show ((laidZ _).length : Int) ≤ _; omega⟩, ⟨h5.1, by show ω.synced ≤ _; omega⟩, h.a, h.b⟩
theorem best_of {δ : Dk} (m : Mk) (h1 : foundZ δ (m.count % 2) = some m) (h2 : foundZ δ ((m.count + 1) % 2) = none ∨ ∃ k, foundZ δ ((m.count + 1) % 2) = some k ∧ k.count < m.count) : bestZ δ = some m := by
 unfold bestZ
 rcases (by omega : m.count % 2 = 0 ∧ (m.count + 1) % 2 = 1 ∨ m.count % 2 = 1 ∧ (m.count + 1) % 2 = 0) with ⟨e1, e2⟩ | ⟨e1, e2⟩ <;> rw [e1] at h1 <;> rw [e2] at h2 <;> rw [h1] <;> rcases h2 with h2 | ⟨k, h2, h3⟩ <;> rw [h2]
 ·dsimp only; rw [if_neg (by omega)]
 ·dsimp only; rw [if_pos (by omega)]
theorem opened {δ : Dk} {ω : Wl} {N : Int} (h : Kp δ ω) (hW : Well δ ω N) (hok : δ.Ok) : openZ δ = some ⟨ω.recs.take ω.synced.toNat, ω.synced, ω.area, ω.count, ω.a, ω.b, false⟩ := by
 have hm := h.mkI hW
 have hs := hW.synced
 have hsz := hW.size
 have f1 : foundZ δ (ω.now.count % 2) = some ω.now := found_sec hW.al.dead hW.size hm rfl h.this
 have f2 : foundZ δ ((ω.now.count + 1) % 2) = none ∨ ∃ k, foundZ δ ((ω.now.count + 1) % 2) = some k ∧ k.count < ω.now.count :=
  tail_found hok hW.al.dead ⟨by omega, by omega⟩ rfl ⟨h.cnt, hW.count.2⟩ h.other
 rw [openZ_some (best_of _ f1 f2)]
 unfold openB
 have hA : Area δ ω.area (laidZ (ω.recs.take ω.synced.toNat)) := h.area.less (laid_pre _ _)
 have hlen := laid_take_le ω.recs ω.synced.toNat
 have hfit := hW.fits
 have hb : bytesZ δ ω.now = laidZ (ω.recs.take ω.synced.toNat) := area_take hok hW.size.1 hW.area (by omega) hA
 have hn : (ω.recs.take ω.synced.toNat).length = ω.synced.toNat := by rw [List.length_take]; omega
 have hz : ω.now.num = ((ω.recs.take ω.synced.toNat).length : Int) := by rw [hn]; show ω.synced = _; omega
 rw [hb, hz, partZ_of (fun s hs => h.long s (List.mem_of_mem_take hs))]
 dsimp only
 rw [hn, show ((ω.synced.toNat : Nat) : Int) = ω.synced by omega]
 rfl
structure Rk where
 L : List (List UInt8)
 Old : List (List UInt8)
 Pend : List Bool
 N : Int
 At : Int
 Gone : Bool
structure Rk.Ok (ρ : Rk) : Prop where
 old : ρ.Old.length = ρ.L.length
 pend : ρ.Pend.length = ρ.L.length
 big : ρ.L.length ≤ 32768
 sec : ∀ s ∈ ρ.L, s.length = 64
 olds : ∀ s ∈ ρ.Old, s.length = 64
abbrev rkC (x : Nat) (vL vO vP : Value) (N At : Int) (Gone : Bool) : HP := ptc x [vL, vO, vP, vint N, vint At, .bool Gone] 118
def rkR (x : Nat) (ρ : Rk) : HP := fun h => ∃ v : Value × Value × Value, ρ.Ok ∧ sep [rkC x v.1 v.2.1 v.2.2 ρ.N ρ.At ρ.Gone, strR v.1 ρ.L, strR v.2.1 ρ.Old, boolR v.2.2 ρ.Pend] h
section
variable {W : World} {n : Nat} {ds : List Deferred} {E : Env} {L R : List HP} {X : Act → World → Prop}
theorem G.rkOpen {x : Nat} {ρ : Rk} (hL : Pick (rkR x ρ) L R) (h : ∀ vL vO vP, ρ.Ok → G W n ds E (rkC x vL vO vP ρ.N ρ.At ρ.Gone :: strR vL ρ.L :: strR vO ρ.Old :: boolR vP ρ.Pend :: R) X) : G W n ds E L X :=
 G.focus hL (G.open (q := fun v : Value × Value × Value => [rkC x v.1 v.2.1 v.2.2 ρ.N ρ.At ρ.Gone, strR v.1 ρ.L, strR v.2.1 ρ.Old, boolR v.2.2 ρ.Pend]) (φ := fun _ => ρ.Ok) (fun _ hp => hp) fun v hv => h v.1 v.2.1 v.2.2 hv)
theorem G.rkFold {x : Nat} {ρ : Rk} {l lL lO lP : List Value} {vL vO vP : Value} {nL nO nP : Nat} (hL : Picks [ptc x l 118, slR 9 1 vL nL lL, slR 9 1 vO nO lO, slR 4 1 vP nP lP] L R)
  (h1 : l = [vL, vO, vP, vint ρ.N, vint ρ.At, .bool ρ.Gone]) (h2 : nL = ρ.L.length ∧ lL = strs ρ.L) (h3 : nO = ρ.Old.length ∧ lO = strs ρ.Old) (h4 : nP = ρ.Pend.length ∧ lP = bools ρ.Pend) (hok : ρ.Ok)
  (h : G W n ds E (rkR x ρ :: R) X) : G W n ds E L X := by
 subst h1; obtain ⟨rfl, rfl⟩ := h2; obtain ⟨rfl, rfl⟩ := h3; obtain ⟨rfl, rfl⟩ := h4
 exact G.fold hL (fun _ hp => ⟨(vL, vO, vP), hok, hp⟩) h
end
def Rk.has (ρ : Rk) (n : Int) : Bool := decide (0 ≤ n) && decide (n < ρ.L.length)
def Rk.act (ρ : Rk) : Rk := { ρ with N := ρ.N + 1, Gone := if ρ.At > 0 ∧ ρ.N + 1 = ρ.At then true else ρ.Gone }
def Rk.write (ρ : Rk) (n : Int) (s : List UInt8) : Rk × Int :=
 if ρ.Gone then (ρ, 2) else if ρ.has n = false ∨ s.length ≠ 64 then (ρ, 20)
 else ({ ρ.act with L := ρ.L.set n.toNat s, Pend := ρ.Pend.set n.toNat true }, if ρ.act.Gone then 2 else 0)
def Rk.sync (ρ : Rk) : Rk × Int :=
 if ρ.Gone then (ρ, 2) else if ρ.act.Gone then (ρ.act, 2) else ({ ρ.act with Old := ρ.L, Pend := ρ.L.map fun _ => false }, 0)
def Rk.arm (ρ : Rk) (n : Int) : Rk × Int :=
 if ρ.Gone then (ρ, 2) else if n < 0 then (ρ, 1) else ({ ρ with At := if n > 0 ∧ n ≤ 4611686018427387904 then ρ.N + n else 0 }, 0)
def Rk.new (n : Nat) : Rk := ⟨List.replicate n zs, List.replicate n zs, List.replicate n false, 0, 0, false⟩
theorem zeros_spec : Fn Tryz.prog 84 #[] [] fun v L => v = vstr zs ∧ L = [] := by
 refine Fn.intro Tryz.func84 rfl rfl fun F W => ?_
 refine .sr (.an rfl (.sr (.oq (.make rfl rfl el_159 ze_5 rfl ⟨by simp, by simp; rfl⟩ ?c2) ?_)))
 case c2 => omega
 rintro v L' ⟨b1_0, rfl, rfl⟩
 refine .q (.bytesPt (cs := zs) rfl Tryz.underlying159 Tryz.underlying5 Tryz.underlying9 (by repeat' constructor) (by show (List.drop 0 (List.replicate (64 * 1) _)).take 64 = _; rw [List.drop_zero]; rfl) (by simp) (by decide)) rfl (.an rfl (.ret ?_))
 exact .vv
theorem ract_spec (x : Nat) (vL vO vP : Value) (N At : Int) (Gone : Bool) (hN : 0 ≤ N ∧ N < 4611686018427387904) : Fn Tryz.prog 192 #[vptr x] [rkC x vL vO vP N At Gone] fun v L => v = .bool (if At > 0 ∧ N + 1 = At then true else Gone) ∧ L = [rkC x vL vO vP (N + 1) At (if At > 0 ∧ N + 1 = At then true else Gone)] := by
 refine Fn.intro Tryz.func192 rfl rfl fun F W => ?_
 refine .sr (.an rfl (.sm rfl (.nf rfl fo_118_3 (.u (.ld rfl ag_3) (.q (.add rfl rfl (by omega)) rfl (.nf rfl fo_118_3 (.st rfl rfl rfl sz_3 ?_)))))))
 refine .nt (.seq (.seq (.draw [] [[0, 1, 2, 3, 4, 5, 6, 7, 8, 9, 10, 11, 12, 13, 14, 15]] mixed (by kernel_rfl) (.g0 (.mv rfl rfl (.nf rfl rfl rfl fo_118_4 (.kv rfl (.ld rfl ag_3) (.kv rfl (.int rfl rfl rfl) (.mv rfl rfl (.dec (t := 15) rfl (fun h2_15 => ?_) (fun h2_15 => ?_)))))))))))
 ·refine D.kDT (t := 14) rfl h2_15 (.gv rfl (.move rfl) (.gv rfl (.nilp rfl) (.gv rfl (.fieldAddr rfl fo_118_3) (.gv rfl (.ld rfl ag_3) (.gv rfl (.move rfl) (.gv rfl (.nilp rfl) (.gv rfl (.fieldAddr rfl fo_118_4) (.gv rfl (.ld rfl ag_3) (.gv rfl (.int rfl rfl rfl) (.kv rfl (.pickT rfl rfl) (.pf (.condD rfl (fun h25 => ?_) (fun h25 => ?_)))))))))))))
  ·refine .region (.m rfl (.nf rfl fo_118_5 (.st rfl rfl rfl sz_4 ?_)))
   refine .nt (.sm rfl (.nf rfl fo_118_5 (.u (.ld rfl ag_4) (.an rfl (.ret ?_)))))
   rw [if_pos ⟨by omega, by omega⟩]
   exact .vv
  refine .sk (.sm rfl (.nf rfl fo_118_5 (.u (.ld rfl ag_4) (.an rfl (.ret ?_)))))
  rw [if_neg (by omega)]
  exact .vv
 refine D.kDF (t := 14) rfl h2_15 (.gz rfl (.gz rfl (.gz rfl (.gz rfl (.gz rfl (.gz rfl (.gz rfl (.gz rfl (.gz rfl (.kv rfl (.pickF rfl rfl) (.pf (.condF rfl (.sk (.sm rfl (.nf rfl fo_118_5 (.u (.ld rfl ag_4) (.an rfl (.ret ?_))))))))))))))))))
 rw [if_neg (by omega)]
 exact .vv
theorem rwrite_spec (x : Nat) (ρ : Rk) (n : Int) (s : List UInt8) (hN : 0 ≤ ρ.N ∧ ρ.N < 4611686018427387904) : Fn Tryz.prog 140 #[vptr x, vint n, vstr s] [rkR x ρ] fun v L => v = vint (ρ.write n s).2 ∧ L = [rkR x (ρ.write n s).1] := by
 refine Fn.intro Tryz.func140 rfl rfl fun F W => ?_
 refine .rkOpen .here fun vL vO vP hok => (.slAny (v := vL) (by repeat' constructor) fun aL cL e lL => ?_)
 subst e
 refine .slAny (v := vP) (by repeat' constructor) fun aP cP e lP => ?_
 subst e
 refine .sr (.an rfl (.seq (.sm rfl (.nf rfl fo_118_5 (.u (.ld rfl ag_4) (.nt (.condB rfl (fun h11 => ?_) (fun h11 => ?_))))))))
 ·refine .sr (.an rfl (.rt ?_))
  have e : ρ.write n s = (ρ, 2) := by unfold Rk.write; simp only [h11, if_true]
  rw [e]
  refine .rkFold (ρ := ρ) (by repeat' constructor) rfl ⟨rfl, rfl⟩ ⟨rfl, rfl⟩ ⟨rfl, rfl⟩ hok ?_
  exact .vv
 refine .sk (.seq (.sm rfl (.ui rfl rfl rfl (.m rfl (.dec (t := 14) rfl (fun h3_14 => ?_) (fun h3_14 => ?_))))))
 ·refine .kDT (t := 13) rfl h3_14 (.gk (.gk (.gk (.gk (.gk (.gk (.gk (.u (.pickT rfl rfl) (.m rfl (.gk (.gk (.gk (.u (.pickT rfl rfl) (.nt (.condT rfl (.sr (.an rfl (.rt ?_))))))))))))))))))
  have e : ρ.write n s = (ρ, 20) := by unfold Rk.write; have hh : ρ.has n = false := (by simp [Rk.has]; omega); simp [h11, hh]
  rw [e]
  refine .rkFold (ρ := ρ) (by repeat' constructor) rfl ⟨rfl, rfl⟩ ⟨rfl, rfl⟩ ⟨rfl, rfl⟩ hok ?_
  exact .vv
 refine .kDF (t := 13) rfl h3_14 (.grun (t := 14) rfl rfl rfl (.m rfl (.grun (t := 14) rfl rfl rfl (.m rfl (.grun (t := 14) rfl rfl rfl (.u (.nilp rfl) (.grun (t := 14) rfl rfl rfl (.u (.fieldAddr rfl fo_118_0) (.grun (t := 14) rfl rfl rfl (.u (.ld rfl ag_39) (.grun (t := 14) rfl rfl rfl (.q (.slen rfl Tryz.underlying39 rfl) rfl (.grun (t := 14) rfl rfl rfl (.ui rfl rfl rfl (.u (.pickF rfl rfl) (.m rfl (.dec (t := 23) rfl (fun h3_23 => ?_) (fun h3_23 => ?_))))))))))))))))))
 ·refine .kDT (t := 21) rfl h3_23 (.kDT (t := 22) rfl h3_23 (.gk (.gk (.gk (.u (.pickT rfl rfl) (.nt (.condT rfl (.sr (.an rfl (.rt ?_))))))))))
  have e : ρ.write n s = (ρ, 20) := by unfold Rk.write; have hh : ρ.has n = false := (by simp [Rk.has]; omega); simp [h11, hh]
  rw [e]
  refine .rkFold (ρ := ρ) (by repeat' constructor) rfl ⟨rfl, rfl⟩ ⟨rfl, rfl⟩ ⟨rfl, rfl⟩ hok ?_
  exact .vv
 refine .kDF (t := 21) rfl h3_23 (.kDF (t := 22) rfl h3_23 (.grun (t := 23) rfl rfl rfl (.m rfl (.grun (t := 23) rfl rfl rfl (.q (.strlen rfl Tryz.underlying9 rfl) rfl (.grun (t := 23) rfl rfl rfl (.ui rfl rfl rfl (.u (.pickF rfl rfl) (.nt (.condN rfl (fun h27 => ?_) (fun h27 => ?_)))))))))))
 ·refine .sr (.an rfl (.rt ?_))
  have e : ρ.write n s = (ρ, 20) := by unfold Rk.write; have hs : s.length ≠ 64 := (by omega); simp [h11, hs]
  rw [e]
  refine .rkFold (ρ := ρ) (by repeat' constructor) rfl ⟨rfl, rfl⟩ ⟨rfl, rfl⟩ ⟨rfl, rfl⟩ hok ?_
  exact .vv
 obtain ⟨q0, q1, q2⟩ : 0 ≤ n ∧ n < ρ.L.length ∧ n.toNat < ρ.L.length := by omega
 have hh : ρ.has n = true := by simp [Rk.has]; omega
 refine .sk (.sm rfl (.oq (.c Tryz.func192 [_] (ract_spec _ _ _ _ _ _ _ ?hN26)) ?_))
 case hN26 => omega
 rintro v L' ⟨rfl, rfl⟩
 refine .an rfl (.seq (.slShape (v := .slice aL _ cL) (by repeat' constructor) (by omega) fun bL cL' e mL _ => ?_))
 simp only [Value.slice.injEq, true_and] at e
 obtain ⟨rfl, rfl⟩ := e
 refine .region (.m rfl (.nf rfl fo_118_0 (.u (.ld rfl ag_39) (.m rfl (.m rfl (.q (.indexAddr rfl rfl el_39 (by omega)) rfl (.oq (.storeEl (i := n.toNat * 1) rfl rfl rfl sz_9 ?hi36) ?_)))))))
 case hi36 => omega
 rintro v L' rfl
 refine .nt (.seq ?_)
 have hp := hok.pend
 refine .slShape (v := .slice aP _ cP) (by repeat' constructor) (by omega) fun bP cP' e mP _ => ?_
 simp only [Value.slice.injEq, true_and] at e
 obtain ⟨rfl, rfl⟩ := e
 refine .region (.m rfl (.nf rfl fo_118_2 (.u (.ld rfl ag_116) (.m rfl (.q (.indexAddr rfl rfl el_116 (by omega)) rfl (.oq (.storeEl (i := n.toNat * 1) rfl rfl rfl sz_4 ?hi44) ?_))))))
 case hi44 => omega
 rintro v L' rfl
 refine .nt (.seq (.sm rfl (.nt (.condB rfl (fun h43 => ?_) (fun h43 => ?_)))))
 ·refine .sr (.an rfl (.rt ?_))
  have e : ρ.write n s = ({ ρ.act with L := ρ.L.set n.toNat s, Pend := ρ.Pend.set n.toNat true }, if ρ.act.Gone then 2 else 0) := by unfold Rk.write; have hs : s.length = 64 := (by omega); simp [h11, hh, hs]
  rw [e]
  have hg : ρ.act.Gone = true := by simpa [Rk.act] using h43
  rw [hg]
  refine .rkFold (ρ := { ρ.act with L := ρ.L.set n.toNat s, Pend := ρ.Pend.set n.toNat true }) (by repeat' constructor) rfl ⟨by simp, by simp [List.map_set]⟩ ⟨rfl, rfl⟩ ⟨by simp, by simp [List.map_set]⟩ ⟨by simpa [Rk.act] using hok.old, by simpa using hok.pend, by simpa using hok.big, fun t ht => (List.mem_or_eq_of_mem_set ht).elim (hok.sec t) (fun h => by rw [h]; omega), hok.olds⟩ ?_
  exact .vv
 refine .sk (.sr (.an rfl (.ret ?_)))
 have e : ρ.write n s = ({ ρ.act with L := ρ.L.set n.toNat s, Pend := ρ.Pend.set n.toNat true }, if ρ.act.Gone then 2 else 0) := by unfold Rk.write; have hs : s.length = 64 := (by omega); simp [h11, hh, hs]
 rw [e]
 have hg : ρ.act.Gone = false := by simpa [Rk.act] using h43
 rw [hg]
 refine .rkFold (ρ := { ρ.act with L := ρ.L.set n.toNat s, Pend := ρ.Pend.set n.toNat true }) (by repeat' constructor) rfl ⟨by simp, by simp [List.map_set]⟩ ⟨rfl, rfl⟩ ⟨by simp, by simp [List.map_set]⟩ ⟨by simpa [Rk.act] using hok.old, by simpa using hok.pend, by simpa using hok.big, fun t ht => (List.mem_or_eq_of_mem_set ht).elim (hok.sec t) (fun h => by rw [h]; omega), hok.olds⟩ ?_
 exact .vv
/- not in this seat -/
theorem rarm_spec (x : Nat) (ρ : Rk) (n : Int) (hN : 0 ≤ ρ.N ∧ ρ.N < 4611686018427387904) (hn : n ≤ 9223372036854775807) : Fn Tryz.prog 24 #[vptr x, vint n] [rkR x ρ] fun v L => v = vint (ρ.arm n).2 ∧ L = [rkR x (ρ.arm n).1] := by
 refine Fn.intro Tryz.func24 rfl rfl fun F W => ?_
 refine .rkOpen .here fun vL vO vP hok => (.sr (.an rfl (.seq (.sm rfl (.nf rfl fo_118_5 (.u (.ld rfl ag_4) (.nt (.condB rfl (fun h8 => ?_) (fun h8 => ?_)))))))))
 ·refine .sr (.an rfl (.rt ?_))
  have e : ρ.arm n = (ρ, 2) := by unfold Rk.arm; simp only [h8, if_true]
  rw [e]
  refine .rkFold (ρ := ρ) (by repeat' constructor) rfl ⟨rfl, rfl⟩ ⟨rfl, rfl⟩ ⟨rfl, rfl⟩ ⟨hok.old, hok.pend, hok.big, hok.sec, hok.olds⟩ ?_
  exact .vv
 refine .sk (.seq (.sm rfl (.ui rfl rfl rfl (.nt (.condD rfl (fun h10 => ?_) (fun h10 => ?_))))))
 ·refine .sr (.an rfl (.rt ?_))
  have e : ρ.arm n = (ρ, 1) := by unfold Rk.arm; simp [h8, h10]
  rw [e]
  refine .rkFold (ρ := ρ) (by repeat' constructor) rfl ⟨rfl, rfl⟩ ⟨rfl, rfl⟩ ⟨rfl, rfl⟩ ⟨hok.old, hok.pend, hok.big, hok.sec, hok.olds⟩ ?_
  exact .vv
 refine .sk (.sm rfl (.nf rfl fo_118_4 (.st rfl rfl rfl sz_3 ?_)))
 refine .nt (.seq (.sm rfl (.ui rfl rfl rfl (.m rfl (.dec (t := 16) rfl (fun h6_16 => ?_) (fun h6_16 => ?_))))))
 ·refine .kDT (t := 15) rfl h6_16 (.grun (t := 16) rfl rfl rfl (.m rfl (.grun (t := 16) rfl rfl rfl (.ui rfl rfl rfl (.u (.pickT rfl rfl) (.nt (.condD rfl (fun h19 => ?_) (fun h19 => ?_))))))))
  ·refine .region (.m rfl (.m rfl (.nf rfl fo_118_3 (.u (.ld rfl ag_3) (.m rfl (.q (.add rfl rfl (by omega)) rfl (.nf rfl fo_118_4 (.st rfl rfl rfl sz_3 ?_))))))))
   refine .nt (.sr (.an rfl (.ret ?_)))
   have e : ρ.arm n = ({ ρ with At := ρ.N + n }, 0) := by unfold Rk.arm; have hq : n > 0 ∧ n ≤ 4611686018427387904 := (by omega); simp [h8, h10, hq]
   rw [e]
   refine .rkFold (ρ := { ρ with At := ρ.N + n }) (by repeat' constructor) rfl ⟨rfl, rfl⟩ ⟨rfl, rfl⟩ ⟨rfl, rfl⟩ ⟨hok.old, hok.pend, hok.big, hok.sec, hok.olds⟩ ?_
   exact .vv
  refine .sk (.sr (.an rfl (.ret ?_)))
  have e : ρ.arm n = ({ ρ with At := 0 }, 0) := by unfold Rk.arm; have hq : ¬ (n > 0 ∧ n ≤ 4611686018427387904) := (by omega); rw [if_neg (by rw [h8]; simp), if_neg h10, if_neg hq]
  rw [e]
  refine .rkFold (ρ := { ρ with At := 0 }) (by repeat' constructor) rfl ⟨rfl, rfl⟩ ⟨rfl, rfl⟩ ⟨rfl, rfl⟩ ⟨hok.old, hok.pend, hok.big, hok.sec, hok.olds⟩ ?_
  exact .vv
 refine .kDF (t := 15) rfl h6_16 (.gk (.gk (.u (.pickF rfl rfl) (.nt (.condF rfl (.sk (.sr (.an rfl (.ret ?_)))))))))
 have e : ρ.arm n = ({ ρ with At := 0 }, 0) := by unfold Rk.arm; have hq : ¬ (n > 0 ∧ n ≤ 4611686018427387904) := (by omega); rw [if_neg (by rw [h8]; simp), if_neg h10, if_neg hq]
 rw [e]
 refine .rkFold (ρ := { ρ with At := 0 }) (by repeat' constructor) rfl ⟨rfl, rfl⟩ ⟨rfl, rfl⟩ ⟨rfl, rfl⟩ ⟨hok.old, hok.pend, hok.big, hok.sec, hok.olds⟩ ?_
 exact .vv
theorem rsync_spec (x : Nat) (ρ : Rk) (hN : 0 ≤ ρ.N ∧ ρ.N < 4611686018427387904) : Fn Tryz.prog 142 #[vptr x] [rkR x ρ] fun v L => v = vint ρ.sync.2 ∧ L = [rkR x ρ.sync.1] := by
 refine Fn.intro Tryz.func142 rfl rfl fun F W => ?_
 refine .rkOpen .here fun vL vO vP hok => ?_
 have ho := hok.old
 have hp := hok.pend
 have hbg := hok.big
 refine .slAny (v := vL) (by repeat' constructor) fun aL cL e lL => ?_
 subst e
 refine .slAny (v := vO) (by repeat' constructor) fun aO cO e lO => ?_
 subst e
 refine .slAny (v := vP) (by repeat' constructor) fun aP cP e lP => ?_
 subst e
 refine .sr (.an rfl (.seq (.sm rfl (.nf rfl fo_118_5 (.u (.ld rfl ag_4) (.nt (.condB rfl (fun h8 => ?_) (fun h8 => ?_))))))))
 ·refine .sr (.an rfl (.rt ?_))
  have e : ρ.sync = (ρ, 2) := by unfold Rk.sync; simp only [h8, if_true]
  rw [e]
  refine .rkFold (ρ := ρ) (by repeat' constructor) rfl ⟨rfl, rfl⟩ ⟨rfl, rfl⟩ ⟨rfl, rfl⟩ hok ?_
  exact .vv
 refine .sk (.sm rfl (.oq (.c Tryz.func192 [_] (ract_spec _ _ _ _ _ _ _ ?hN8)) ?_))
 case hN8 => omega
 rintro v L' ⟨rfl, rfl⟩
 refine .an rfl (.seq (.sm rfl (.nt (.condB rfl (fun h11 => ?_) (fun h11 => ?_)))))
 ·refine .sr (.an rfl (.rt ?_))
  have e : ρ.sync = (ρ.act, 2) := by unfold Rk.sync; have hg : ρ.act.Gone = true := (by simpa [Rk.act] using h11); simp [h8, hg]
  rw [e]
  refine .rkFold (ρ := ρ.act) (by repeat' constructor) rfl ⟨rfl, rfl⟩ ⟨rfl, rfl⟩ ⟨rfl, rfl⟩ ⟨hok.old, hok.pend, hok.big, hok.sec, hok.olds⟩ ?_
  exact .vv
 refine .sk (.seq (.sr (.an rfl (.block ?_))))
 have hg : ρ.act.Gone = false := by simpa [Rk.act] using h11
 refine .loop (F := F) (ι := Nat) (fun i => [(0, vptr x), (4, vint i)]) (fun i => [rkC x (.slice aL ρ.L.length cL) (.slice aO ρ.Old.length cO) (.slice aP ρ.Pend.length cP) (ρ.N + 1) ρ.At ρ.act.Gone, strR (.slice aL ρ.L.length cL) ρ.L, slR 9 1 (.slice aO ρ.Old.length cO) ρ.Old.length ((strs ρ.L).take i ++ (strs ρ.Old).drop i), slR 4 1 (.slice aP ρ.Pend.length cP) ρ.Pend.length ((bools (ρ.L.map fun _ => false)).take i ++ (bools ρ.Pend).drop i)]) (fun i => i ≤ ρ.L.length) (fun i => ρ.L.length - i) 0 (Nat.zero_le _) ⟨rfl, rfl, trivial⟩ (by repeat' constructor) (by repeat' constructor) ?_
 intro i hi
 refine .seq (.sm rfl (.m rfl (.nf rfl fo_118_0 (.u (.ld rfl ag_39) (.q (.slen rfl Tryz.underlying39 rfl) rfl (.ui rfl rfl rfl (.nt (.condD rfl (fun h18 => ?_) (fun h18 => ?_)))))))))
 ·have hi2 : i < ρ.L.length := by omega
  refine .sk (.seq (.block (.seq (.slShape (v := .slice aL _ cL) (by repeat' constructor) (by omega) fun bL cL' e mL _ => ?_))))
  simp only [Value.slice.injEq, true_and] at e
  obtain ⟨rfl, rfl⟩ := e
  refine .slShape (v := .slice aO _ cO) (by repeat' constructor) (by omega) fun bO cO' e mO _ => ?_
  simp only [Value.slice.injEq, true_and] at e
  obtain ⟨rfl, rfl⟩ := e
  refine .draw [13] [[0, 1, 2, 3, 4, 5, 6, 7, 8, 9, 10, 11, 12, 13]] mixed (by kernel_rfl) (.g0 (.mv rfl rfl (.nf rfl rfl rfl fo_118_1 (.kv rfl (.ld rfl ag_39) (.mv rfl rfl (.mv rfl rfl (.nf rfl rfl rfl fo_118_0 (.kv rfl (.ld rfl ag_39) (.mv rfl rfl (.kv rfl (.indexAddr rfl rfl el_39 (by omega)) (.kv rfl (.loadSl (v := vstr ρ.L[i]) (i := i * 1) rfl ag_9 (by repeat' constructor) (by simp [hi2])) (.kv rfl (.indexAddr rfl rfl el_39 (by omega)) (.hh rfl (.storeEl (i := i * 1) rfl rfl rfl sz_9 ?hi33) ?_)))))))))))))
  case hi33 => omega
  rintro v L' rfl
  refine D.pf (.slShape (v := .slice aP _ cP) (by repeat' constructor) (by omega) fun bP cP' e mP _ => ?_)
  simp only [Value.slice.injEq, true_and] at e
  obtain ⟨rfl, rfl⟩ := e
  refine .region (.m rfl (.nf rfl fo_118_2 (.u (.ld rfl ag_116) (.m rfl (.q (.indexAddr rfl rfl el_116 (by omega)) rfl (.oq (.storeEl (i := i * 1) rfl rfl rfl sz_4 ?hi41) ?_))))))
  case hi41 => omega
  rintro v L' rfl
  refine .nil (.blk_n (.then_n ?_))
  have e1 : ((strs ρ.L).take i ++ (strs ρ.Old).drop i).set (i * 1) (vstr ρ.L[i]) = (strs ρ.L).take (i + 1) ++ (strs ρ.Old).drop (i + 1) := by have := set_take_drop (l := strs ρ.L) (m := strs ρ.Old) (i := i) (by simpa using hi2) (by simpa using ho); rw [Nat.mul_one, ← this]; simp
  have e2 : ((bools (ρ.L.map fun _ => false)).take i ++ (bools ρ.Pend).drop i).set (i * 1) (.bool false) = (bools (ρ.L.map fun _ => false)).take (i + 1) ++ (bools ρ.Pend).drop (i + 1) := by have := set_take_drop (l := bools (ρ.L.map fun _ => false)) (m := bools ρ.Pend) (i := i) (by simpa using hi2) (by simpa using hp); rw [Nat.mul_one, ← this]; simp
  rw [e1, e2]
  refine .region (.m rfl (.q (.add rfl rfl (by omega)) rfl (.an rfl (.round (i + 1) (by omega) (by omega) ⟨rfl, rfl, trivial⟩ (by repeat' constructor) (by repeat' constructor)))))
 have hi2 : i = ρ.L.length := by omega
 subst hi2
 rw [List.take_of_length_le (by simp), List.take_of_length_le (by simp), List.drop_eq_nil_of_le (by simp; omega), List.drop_eq_nil_of_le (by simp; omega), List.append_nil, List.append_nil]
 refine .exit (.then_e (.then_e (.blk_e (.then_n (.sr (.an rfl (.ret ?_)))))))
 have e : ρ.sync = ({ ρ.act with Old := ρ.L, Pend := ρ.L.map fun _ => false }, 0) := by unfold Rk.sync; simp [h8, hg]
 rw [e]
 refine .rkFold (ρ := { ρ.act with Old := ρ.L, Pend := ρ.L.map fun _ => false }) (by repeat' constructor) rfl ⟨rfl, rfl⟩ ⟨ho, rfl⟩ ⟨by simpa using hp, rfl⟩ ⟨rfl, by simp [Rk.act], hok.big, hok.sec, hok.sec⟩ ?_
 exact .vv
theorem rnew_spec (n : Int) : Fn Tryz.prog 47 #[vint n] [] fun v L => ((n < 16 ∨ 32768 < n) ∧ v = .tuple #[.pointer none, vint 1] ∧ L = []) ∨ ((16 ≤ n ∧ n ≤ 32768) ∧ ∃ x, v = .tuple #[vptr x, vint 0] ∧ L = [rkR x (Rk.new n.toNat)]) := by
 refine Fn.intro Tryz.func47 rfl rfl fun F W => ?_
 refine .sr (.a rfl (.an rfl (.seq (.sm rfl (.ui rfl rfl rfl (.m rfl (.dec (t := 8) rfl (fun h1_8 => ?_) (fun h1_8 => ?_))))))))
 ·refine .kDT (t := 7) rfl h1_8 (.gk (.gk (.u (.pickT rfl rfl) (.nt (.condT rfl (.sr (.a rfl (.an rfl (.rt ?_)))))))))
  exact .dn rfl rfl (.inl ⟨by omega, rfl, rfl⟩)
 refine .kDF (t := 7) rfl h1_8 (.grun (t := 8) rfl rfl rfl (.m rfl (.grun (t := 8) rfl rfl rfl (.ui rfl rfl rfl (.u (.pickF rfl rfl) (.nt (.condD rfl (fun h11 => ?_) (fun h11 => ?_))))))))
 ·refine .sr (.a rfl (.an rfl (.rt ?_)))
  exact .dn rfl rfl (.inl ⟨by omega, rfl, rfl⟩)
 obtain ⟨hn1, hn2⟩ : 16 ≤ n ∧ n ≤ 32768 := by omega
 refine .sk (.sm rfl (.oq (.make rfl rfl el_116 ze_4 rfl ⟨by simp, by simp; rfl⟩ ?c13) ?_))
 case c13 => omega
 rintro v L' ⟨bP, rfl, rfl⟩
 refine .q (.build (us := [(2, _)]) fl_118 ze_118 rfl rfl (by simp [isCell])) rfl (.oq (.box rfl) ?_)
 rintro v L' ⟨x, rfl, rfl⟩
 refine .an rfl (.seq (.sr (.an rfl (.block (.add (slR_nil 9 1) (.add (slR_nil 9 1) (.fold (p := boolR (.slice (some ⟨bP, 0, none⟩) n.toNat n.toNat) (List.replicate n.toNat false)) (.cons (p := ptc bP _ _) (by repeat' constructor) .nil) (fun h hp => by have := sep_pt hp; simpa [boolR, bools] using slR_pt (n := n.toNat) (sz := 1) this (by simp)) (.loop (F := F) (ι := Nat × Value × Value) (fun i => [(0, vint n), (4, vptr x), (5, vint i.1)]) (fun i => [rkC x i.2.1 i.2.2 (.slice (some ⟨bP, 0, none⟩) n.toNat n.toNat) 0 0 false, slR 9 1 i.2.1 i.1 (List.replicate i.1 (vstr zs)), slR 9 1 i.2.2 i.1 (List.replicate i.1 (vstr zs)), boolR (.slice (some ⟨bP, 0, none⟩) n.toNat n.toNat) (List.replicate n.toNat false)]) (fun i => i.1 ≤ n.toNat) (fun i => n.toNat - i.1) (0, .slice none 0 0, .slice none 0 0) (Nat.zero_le _) ⟨rfl, rfl, rfl, trivial⟩ (by repeat' constructor) (by repeat' constructor) ?_))))))))
 rintro ⟨i, vL, vO⟩ hi
 dsimp only at hi ⊢
 refine .seq (.sm rfl (.m rfl (.ui rfl rfl rfl (.nt (.condD rfl (fun h18 => ?_) (fun h18 => ?_))))))
 ·refine .sk (.seq (.block (.seq (.draw [5, 6, 7, 10] [[0, 1, 2, 3, 4, 5, 6, 7], [8, 9, 10]] mixed (by kernel_rfl) (.go [ptc x _ _] (by repeat' constructor) (.k rfl (.move rfl) (.k rfl (.move rfl) (.k rfl (.nilp rfl) (.k rfl (.fieldAddr rfl fo_118_0) (.k rfl (.ld rfl ag_39) (.hh rfl (.c Tryz.func84 [] (zeros_spec)) ?_)))))))))))
  rintro v L' ⟨rfl, rfl⟩
  refine D.hh rfl (.buildSlice1 (vs := [_]) el_39 ze_9 rfl rfl rfl rfl rfl (by decide)) ?_
  rintro v L' ⟨b7_6, rfl, rfl⟩
  refine D.hh rfl (.append1 rfl rfl rfl el_39 ze_9 rfl rfl ?c32 ?c33 (Nat.le_refl _) ?c34 (by decide)) ?_
  case c32 => (first | (simp [isCell]; done) | (simp [isCell, setAll, Value.cells]; done))
  case c33 => rfl
  case c34 => omega
  rintro v L' ⟨⟨a7_7, c7_7, rfl⟩, rfl⟩
  refine D.ph (.g0 (.nf rfl rfl rfl fo_118_0 (.hh rfl (.store rfl rfl rfl sz_39 ?c39 (nfz0 _ _)) ?_)))
  case c39 => first | decide | (simp; omega) | simp
  rintro v L' rfl
  refine D.pf (.draw [5, 6, 7, 10] [[0, 1, 2, 3, 4, 5, 6, 7], [8, 9, 10]] mixed (by kernel_rfl) (.go [ptc x _ _] (by repeat' constructor) (.k rfl (.move rfl) (.k rfl (.move rfl) (.k rfl (.nilp rfl) (.k rfl (.fieldAddr rfl fo_118_1) (.k rfl (.ld rfl ag_39) (.hh rfl (.c Tryz.func84 [] (zeros_spec)) ?_))))))))
  rintro v L' ⟨rfl, rfl⟩
  refine D.hh rfl (.buildSlice1 (vs := [_]) el_39 ze_9 rfl rfl rfl rfl rfl (by decide)) ?_
  rintro v L' ⟨b8_6, rfl, rfl⟩
  refine D.hh rfl (.append1 rfl rfl rfl el_39 ze_9 rfl rfl ?c51 ?c52 (Nat.le_refl _) ?c53 (by decide)) ?_
  case c51 => (first | (simp [isCell]; done) | (simp [isCell, setAll, Value.cells]; done))
  case c52 => rfl
  case c53 => omega
  rintro v L' ⟨⟨a8_7, c8_7, rfl⟩, rfl⟩
  refine D.ph (.g0 (.nf rfl rfl rfl fo_118_1 (.hh rfl (.store rfl rfl rfl sz_39 ?c58 (nfz0 _ _)) ?_)))
  case c58 => first | decide | (simp; omega) | simp
  rintro v L' rfl
  refine D.ph (.fin (.blk_n (.then_n ?_)))
  rw [← List.replicate_succ']
  refine .region (.m rfl (.q (.add rfl rfl (by omega)) rfl (.an rfl (.round (i + 1, Value.slice a7_7 (i + 1) c7_7, Value.slice a8_7 (i + 1) c8_7) (by dsimp only; omega) (by dsimp only; omega) ⟨rfl, rfl, rfl, trivial⟩ (by repeat' constructor) (by repeat' constructor)))))
 have hi2 : i = n.toNat := by omega
 subst hi2
 refine .rkFold (ρ := Rk.new n.toNat) (by repeat' constructor) rfl ⟨by simp [Rk.new], by simp [Rk.new]⟩ ⟨by simp [Rk.new], by simp [Rk.new]⟩ ⟨by simp [Rk.new], by simp [Rk.new]⟩ ⟨by simp [Rk.new], by simp [Rk.new], by simp [Rk.new]; omega, by simp [Rk.new, zs_len], by simp [Rk.new, zs_len]⟩ (.exit (.then_e (.then_e (.blk_e (.then_n (.sm rfl (.a rfl (.an rfl (.ret ?_)))))))))
 exact .dn rfl rfl (.inr ⟨⟨hn1, hn2⟩, x, rfl, rfl⟩)
/- not in this seat -/
/- not in this seat -/
end Go.Proofs.YteebpmkkdlabpaaGreat
/-
 DERIVED: THE SHELF's CONTRACTS AT THIS DUMP, IN PLAIN WORDS (tools/lay-plain.mjs out of 'YteebpmkkdlabpaaGreatLay.lean', which tools/lay-shelf.mjs wrote): THE SAME DECLARATIONS UNDER THE SAME NAMES: 'import', 'namespace', 'open', 'def', 'theorem' AND NOTHING ELSE: no command of the shelf's: FOR A HAND-IN. Each laying: the table of numbers ('.._ren') and one theorem, a field a fact of the dump's own or the kernel's comparison; each contract: ONE APPLICATION.
-/
namespace Go.Proofs
open Go.Shelf
def Tryz.sortA_ren : Go.Shelf.Ren := ⟨fun | 5 => 51 | 8 => 92 | 7 => 91 | 19 => 160 | 20 => 161 | 10 => 151 | 11 => 152 | 12 => 153 | 13 => 154 | 14 => 155 | 15 => 156 | 16 => 157 | 17 => 158 | 18 => 159 | 30 => 197 | 31 => 198 | 32 => 199 | 33 => 200 | 34 => 201 | 35 => 202 | 40 => 225 | n => n, fun | 23 => 32 | 25 => 3 | 3 => 3 | 32 => 146 | 22 => 32 | 0 => 0 | 44 => 200 | 46 => 202 | 4 => 4 | 36 => 192 | 35 => 191 | 41 => 197 | 5 => 5 | 9 => 9 | 53 => 233 | 57 => 219 | 63 => 262 | 64 => 263 | n => n, fun | n => n⟩
theorem Tryz.sortA : Go.Proofs.SlLaysM.n5 Tryz.prog Tryz.sortA_ren := {
 mixed := by kernel_rfl
 f5 := ⟨Tryz.f51.name, by decide, Tryz.func51.trans (congrArg some (by kernel_rfl))⟩
 f7 := ⟨Tryz.f91.name, by decide, Tryz.func91.trans (congrArg some (by kernel_rfl))⟩
 f8 := Tryz.func92.trans (congrArg some (by kernel_rfl))
 f10 := ⟨Tryz.f151.name, by decide, Tryz.func151.trans (congrArg some (by kernel_rfl))⟩
 f11 := ⟨Tryz.f152.name, by decide, Tryz.func152.trans (congrArg some (by kernel_rfl))⟩
 f12 := ⟨Tryz.f153.name, by decide, Tryz.func153.trans (congrArg some (by kernel_rfl))⟩
 f13 := ⟨Tryz.f154.name, by decide, Tryz.func154.trans (congrArg some (by kernel_rfl))⟩
 f14 := ⟨Tryz.f155.name, by decide, Tryz.func155.trans (congrArg some (by kernel_rfl))⟩
 f15 := ⟨Tryz.f156.name, by decide, Tryz.func156.trans (congrArg some (by kernel_rfl))⟩
 f16 := ⟨Tryz.f157.name, by decide, Tryz.func157.trans (congrArg some (by kernel_rfl))⟩
 f17 := ⟨Tryz.f158.name, by decide, Tryz.func158.trans (congrArg some (by kernel_rfl))⟩
 f18 := ⟨Tryz.f159.name, by decide, Tryz.func159.trans (congrArg some (by kernel_rfl))⟩
 f19 := Tryz.func160.trans (congrArg some (by kernel_rfl))
 f20 := Tryz.func161.trans (congrArg some (by kernel_rfl))
 f30 := ⟨Tryz.f197.name, by decide, Tryz.func197.trans (congrArg some (by kernel_rfl))⟩
 f31 := Tryz.func198.trans (congrArg some (by kernel_rfl))
 f32 := Tryz.func199.trans (congrArg some (by kernel_rfl))
 f33 := ⟨Tryz.f200.name, by decide, Tryz.func200.trans (congrArg some (by kernel_rfl))⟩
 f34 := ⟨Tryz.f201.name, by decide, Tryz.func201.trans (congrArg some (by kernel_rfl))⟩
 f35 := ⟨Tryz.f202.name, by decide, Tryz.func202.trans (congrArg some (by kernel_rfl))⟩
 f40 := ⟨Tryz.f225.name, by decide, Tryz.func225.trans (congrArg some (by kernel_rfl))⟩
 t0 := Tryz.underlying0
 a0 := Tryz.isAgg0
 z0 := Tryz.sizeOf0
 v0 := Tryz.zeroValue0
 t3 := Tryz.underlying3
 a3 := Tryz.isAgg3
 z3 := Tryz.sizeOf3
 v3 := Tryz.zeroValue3
 t4 := Tryz.underlying4
 a4 := Tryz.isAgg4
 z4 := Tryz.sizeOf4
 v4 := Tryz.zeroValue4
 t5 := Tryz.underlying5
 a5 := Tryz.isAgg5
 z5 := Tryz.sizeOf5
 v5 := Tryz.zeroValue5
 t9 := Tryz.underlying9
 a9 := Tryz.isAgg9
 z9 := Tryz.sizeOf9
 v9 := Tryz.zeroValue9
 t22 := Tryz.underlying32
 a22 := Tryz.isAgg32
 z22 := Tryz.sizeOf32
 v22 := Tryz.zeroValue32
 t23 := Tryz.underlying32
 a23 := Tryz.isAgg32
 z23 := Tryz.sizeOf32
 v23 := Tryz.zeroValue32
 t25 := Tryz.underlying3
 a25 := Tryz.isAgg3
 z25 := Tryz.sizeOf3
 v25 := Tryz.zeroValue3
 t32 := Tryz.underlying146
 a32 := Tryz.isAgg146
 z32 := Tryz.sizeOf146
 v32 := Tryz.zeroValue146
 t35 := Tryz.underlying191
 a35 := Tryz.isAgg191
 z35 := Tryz.sizeOf191
 v35 := Tryz.zeroValue191
 t36 := Tryz.underlying192
 a36 := Tryz.isAgg192
 z36 := Tryz.sizeOf192
 v36 := Tryz.zeroValue192
 t41 := Tryz.underlying197
 a41 := Tryz.isAgg197
 z41 := Tryz.sizeOf197
 v41 := Tryz.zeroValue197
 t44 := Tryz.underlying200
 a44 := Tryz.isAgg200
 z44 := Tryz.sizeOf200
 v44 := Tryz.zeroValue200
 t46 := Tryz.underlying202
 a46 := Tryz.isAgg202
 z46 := Tryz.sizeOf202
 v46 := Tryz.zeroValue202
 t53 := Tryz.underlying233
 a53 := Tryz.isAgg233
 z53 := Tryz.sizeOf233
 v53 := Tryz.zeroValue233
 t57 := Tryz.underlying219
 a57 := Tryz.isAgg219
 z57 := Tryz.sizeOf219
 v57 := Tryz.zeroValue219
 t63 := Tryz.underlying262
 a63 := Tryz.isAgg262
 z63 := Tryz.sizeOf262
 v63 := Tryz.zeroValue262
 t64 := Tryz.underlying263
 a64 := Tryz.isAgg263
 z64 := Tryz.sizeOf263
 v64 := Tryz.zeroValue263 }
end Go.Proofs
namespace Go.Proofs.YteebpmkkdlabpaaGreat
open Go Go.RowKit Go.Maps Go.Sort Go.Shelf
def sortI (l : List Int) : List Int := l.mergeSort (fun x y => decide (x ≤ y))
open Go Go.Sort
theorem sortI_perm (l : List Int) : (sortI l).Perm l := List.mergeSort_perm _ _
theorem sortI_length (l : List Int) : (sortI l).length = l.length := (sortI_perm l).length_eq
theorem sortI_mem {l : List Int} {x : Int} : x ∈ sortI l ↔ x ∈ l := (sortI_perm l).mem_iff
theorem sort_fn {P : Program} {ρ : Go.Shelf.Ren} (LM : SlLaysM.n5 P ρ) (e : TypeId) (v : Value) (n : Nat) (xs : List Int) (hn : n < 4611686018427387904) :
  Fn P (ρ.f 5) #[v] [slR e 1 v n (xs.map vint)] fun u L => u = .tuple #[] ∧ L = [slR e 1 v n ((sortI xs).map vint)] := by
 intro F w hs
 have hs' : St ((fun h => ∃ y : List Value × (Nat × Nat) × (Option (Nat × Nat)), (y.2.2 = none ∧ v = .slice none 0 0 ∧ n = 0 ∧ xs = []) ∨ (∃ b cap, y.2.2 = some (b, cap) ∧ v = .slice (some ⟨b, 0, none⟩) n cap ∧ h b = some (.cells (List.toArray (xs.map vint ++ y.1)) e y.2.1) ∧ xs.length = n ∧ cap ≤ xs.length + y.1.length ∧ n ≤ cap ∧ nfz y.2.1 0 cap)) :: F) w := by
  refine sep_imp (fun h hp => ?_) hs
  rcases hp with ⟨h1, h2, h3⟩ | ⟨b, cap, rest, fr, h1, h2, h3, h4, h5, h6⟩
  ·exact ⟨([], (0, 0), none), .inl ⟨rfl, h1, h2, by simpa using h3⟩⟩
  ·exact ⟨(rest, fr, some (b, cap)), .inr ⟨b, cap, rfl, h1, h2, by simpa using h3, by simpa using h4, h5, by simpa using h6⟩⟩
 obtain ⟨⟨rest, fr, o⟩, h1, h2, hd, a1, a2, hp, hF⟩ := sep_ex hs'
 rcases hp with ⟨-, rfl, rfl, rfl⟩ | ⟨b, cap, -, rfl, p1, p2, p3, p4, p5⟩
 ·refine (AnyM.slices_Sort_int_none LM none 0 w).mono ?_
  rintro e w' ⟨rfl, rfl⟩
  refine ⟨_, _, ⟨rfl, rfl⟩, rfl, ?_, .refl _⟩
  have e : sortI [] = [] := List.eq_nil_of_length_eq_zero (List.mergeSort_perm _ _).length_eq
  rw [e]; exact hs
 ·subst p2
  have hb := a1 _ _ p1
  have hlt : b < w.heap.size := by
   rcases Nat.lt_or_ge b w.heap.size with h | h
   ·exact h
   ·simp [Array.getElem?_eq_none h] at hb
  have hH : Holds (Value.int .i64) w b 0 xs.toArray := by
   intro j hj
   have hj' : j < xs.length := by simpa using hj
   have hb' : w.heap[b]? = some (.cells (xs.map vint ++ rest).toArray e fr) := hb
   refine ⟨?_, ?_⟩
   ·simp only [World.cell?, hb', Nat.zero_add, Option.isSome_none, Bool.false_eq_true, if_false]
    rw [List.getElem?_toArray, List.getElem?_append_left (by simpa using hj')]
    simp [hj']
   ·have := p5 j (by omega) (by dsimp only at p3 p4 ⊢; omega)
    simp only [World.frozen?, hb', Nat.zero_add]
    simpa using this
  refine (AnyM.slices_Sort_int LM b 0 cap xs w hH hlt hn).mono ?_
  rintro en w' ⟨rfl, k, os, rfl⟩
  refine ⟨_, _, ⟨rfl, rfl⟩, rfl, ?_, ?_⟩
  ·have h2b : h2 b = none := (hd b).resolve_left (by rw [p1]; simp)
   have hsz : (sortI xs).length = xs.length := by rw [show (sortI xs).length = xs.length from (List.mergeSort_perm _ _).length_eq]
   have hnew : (grow (putRow (Value.int .i64) (Sort.ahead w k) b 0 (sortI xs).toArray) os).heap[b]? = some (.cells (putCells (Value.int .i64) 0 (sortI xs).toArray (xs.map vint ++ rest).toArray) e fr) := heap_sortedI _ hb
   have hrow : (putCells (Value.int .i64) 0 (sortI xs).toArray (xs.map vint ++ rest).toArray) = ((sortI xs).map vint ++ rest).toArray := by
    apply Array.ext_getElem?
    intro j
    simp only [putCells, Array.getElem?_mapIdx, List.getElem?_toArray, Nat.zero_le, true_and, Nat.zero_add, Nat.sub_zero, List.size_toArray]
    by_cases hj : j < xs.length
    ·rw [List.getElem?_append_left (by simpa using hj), List.getElem?_append_left (by simpa [hsz] using hj)]
     simp [hj, hsz]
    ·rw [List.getElem?_append_right (by simp; omega), List.getElem?_append_right (by simp [hsz]; omega)]
     simp [hj, hsz]
   refine ⟨fun c => if c = b then some (.cells ((sortI xs).map vint ++ rest).toArray e fr) else none, h2, fun c => ?_, fun c o e => ?_, fun c o hc => ?_, ?_, hF⟩
   ·by_cases e : c = b
    ·exact .inr (e ▸ h2b)
    ·exact .inl (if_neg e)
   ·by_cases hc : c = b
    ·subst hc; simp at e; subst e; rw [← hrow]; exact hnew
    ·simp [hc] at e
   ·have hcb : c ≠ b := by rintro rfl; rw [h2b] at hc; cases hc
    have hold := a2 _ _ hc
    have hclt : c < w.heap.size := by
     rcases Nat.lt_or_ge c w.heap.size with h | h
     ·exact h
     ·simp [Array.getElem?_eq_none h] at hold
    have := (grownBy_sortedI (w := w) (g := b) (n := k) (os := os) (sortI xs).toArray).block c hclt (fun e => hcb (by simpa using e))
    show (grow (putRow (Value.int .i64) (Sort.ahead w k) b 0 (sortI xs).toArray) os).heap[c]? = _
    rw [this]; exact hold
   ·exact .inr ⟨b, cap, rest, fr, rfl, if_pos rfl, by simp [hsz], by simpa [hsz] using p3, p4, by simpa using p5⟩
  ·refine ⟨rfl, rfl, rfl, ?_⟩
   show w.heap.size ≤ ((putRow (Value.int .i64) (Sort.ahead w k) b 0 _).heap ++ os).size
   simp [putRow, mapBlock, Sort.ahead]
open Go Go.RowKit
theorem Dk.new_ok {n : Int} (h : n.toNat ≤ 32768) : (Dk.new n).Ok :=
 ⟨by simp [Dk.new, zs_len], by simp [Dk.new], by simp [Dk.new], by simpa [Dk.new] using h, by simp [Dk.new], by simp [Dk.new]⟩
theorem bys_zs : bys zs = List.replicate 64 (Value.int .u8 0) := by rw [bys, zs, List.map_replicate]; rfl
theorem secsC_new (n : Nat) : secsC (List.replicate n zs) = List.replicate (n * 64) (Value.int .u8 0) := by
 induction n with
 | zero => rfl
 | succ n ih =>
  have : secsC (List.replicate (n + 1) zs) = bys zs ++ secsC (List.replicate n zs) := by simp [secsC, List.replicate_succ]
  rw [this, ih, bys_zs, List.replicate_append_replicate]
  congr 1; omega
section
variable {P : Program} {E : Env} {L R : List HP} {ty kt et : TypeId} {K β : Type} [DecidableEq K] {kv : K → Value} {enc : β → Value}
end
/- not in this seat: keysD_spec -/
/- not in this seat: sortedD_spec -/
theorem alook_append_none {β : Type} {m m2 : List (Int × β)} {k : Int} (h : alook m k = none) : alook (m ++ m2) k = alook m2 k := by
 induction m with
 | nil => rfl
 | cons x m ih =>
  obtain ⟨a, c⟩ := x
  by_cases hk : k = a
  ·subst hk; simp [alook] at h
  ·simp only [alook, hk, if_false] at h
   simp only [List.cons_append, alook, hk, if_false]
   exact ih h
theorem alook_append_other {β : Type} {m : List (Int × β)} {k n : Int} {v : β} (h : k ≠ n) : alook (m ++ [(n, v)]) k = alook m k := by
 induction m with
 | nil => simp [alook, h]
 | cons x m ih =>
  obtain ⟨a, c⟩ := x
  simp only [List.cons_append, alook, ih]
def tx (l : List (List UInt8)) (n : Int) : List UInt8 := l.getD n.toNat []
def Dk.calm (δ : Dk) : Dk := { δ with left := 0 }
theorem dbt_err (r : Dk × Wl × Int) : (dbt r).2.2 = r.2.2 ∧ (dbt r).1 = r.1 := by unfold dbt; split <;> exact ⟨rfl, rfl⟩
structure Dur (δ δ0 : Dk) (area : Int) (L : Bs) : Prop where
 len : δ.now.length = δ0.now.length
 mark : ∀ k : Nat, k < 2 → δ.now.getD k [] = δ0.now.getD k []
 marks : ∀ k : Nat, k < 2 → alook δ.old (k : Int) = none
 here : Area δ area L
 olds : ∀ i : Nat, (i : Int) < halfZ δ → ∀ o, alook δ.old (2 + area * halfZ δ + (i : Int)) = some o → chunk L i <+: o
structure Lv (δ : Dk) (ω : Wl) (N : Int) : Prop where
 dead : δ.dead = false
 well : Well δ.calm ω N
 kp : Kp δ ω
 dur : Dur δ δ ω.area (laidZ (ω.recs.take ω.synced.toNat))
theorem back {σ : Dk} {ω : Wl} {N : Int} (hd : Al σ) (ho : σ.old = []) (hdb : ω.doubt = false) (hfull : ω.synced = ω.recs.length) (size : 2 ≤ σ.now.length ∧ σ.now.length ≤ 32768) (acts : σ.acts ≤ N) (area : 0 ≤ ω.area ∧ ω.area ≤ 1) (count : 1 ≤ ω.count ∧ ω.count ≤ 4294967295)
  (ha : 0 ≤ ω.a ∧ ω.a ≤ 9223372036854775807) (hb : 0 ≤ ω.b ∧ ω.b ≤ 9223372036854775807) (hl : ∀ s ∈ ω.recs, s.length ≤ 4000) (fits : ((laidZ ω.recs).length : Int) ≤ 64 * halfZ σ)
  (this : mkAt σ ω.count = ω.now.sec) (other : TailC ω.count (mkAt σ (ω.count + 1))) (hA : Area σ ω.area (laidZ ω.recs)) (hok : σ.Ok) : Lv σ ω N ∧ openZ σ = some ω := by
 have hk : Kp σ ω := ⟨count.1, ha, hb, hl, this, other, hA⟩
 have hw : Well σ ω N := ⟨hd, hdb, size, acts, area, ⟨by omega, count.2⟩, ⟨by omega, by omega⟩, fits⟩
 have hc : σ.calm = σ := by
  obtain ⟨n, o, a, l, d⟩ := σ
  have : l = 0 := hd.left
  subst this; rfl
 refine ⟨⟨hd.dead, by rw [hc]; exact hw, hk, ⟨rfl, fun _ _ => rfl, fun k _ => by rw [ho]; rfl, hA.less (laid_pre _ _), fun i _ o h => by rw [ho] at h; cases h⟩⟩, ?_⟩
 rw [opened hk hw hok]
 obtain ⟨r, sy, ar, ct, x, y, db⟩ := ω
 dsimp only at hfull hdb ⊢
 subst hdb
 rw [hfull, Int.toNat_natCast, List.take_length]
def endL (Λ : Lg) (f : Lg → Lg) (r : Dk × Wl × Int) : Ld × Int := if (metL Λ r).2 = 0 then (⟨r.1, r.2.1, f (metL Λ r).1.Λ⟩, 0) else metL Λ r
def cutL (Λ : Lg) (n : Nat) : Lg := ⟨Λ.acc, Λ.cur, Λ.base, Λ.snap, Λ.ents.take n, Λ.zxs.take n, Λ.doubt⟩
theorem cut_end (ω : Wl) (Λ : Lg) (n : Nat) (δ' : Dk) : lgCut2 ⟨δ', ω, Λ⟩ n = endL Λ (fun _ => cutL Λ n) (cutZ δ' ω (((headL Λ.base Λ.snap).length + n : Nat) : Int)) := rfl
def newL (Λ : Lg) (base : Int) (snap : Bs) (es : List Bs) (zs : List Int) : Lg := ⟨Λ.acc, Λ.cur, base, snap, es, zs, Λ.doubt⟩
theorem ren_end (ω : Wl) (Λ : Lg) {base : Int} {snap : Bs} {es : List Bs} {zs : List Int} (h : ¬ es.length > 200) (δ' : Dk) : lgRenew ⟨δ', ω, Λ⟩ base snap es zs = endL Λ (fun _ => newL Λ base snap es zs) (renewZ δ' ω (headL base snap ++ es)) := by
 unfold lgRenew; rw [if_neg h]; rfl
/-! ### What lasts -/
theorem LgW.cut {Λ : Lg} (h : LgW Λ) (k : Nat) (d : Bool) : LgW ⟨Λ.acc, Λ.cur, Λ.base, Λ.snap, Λ.ents.take k, Λ.zxs.take k, d⟩ :=
 ⟨by have := h.few; show (Λ.ents.take k).length ≤ 200; rw [List.length_take]; omega, fun x hx => h.each x (List.mem_of_mem_take hx), h.base, h.snap, h.rows.take k, h.eps⟩
def anyP : HP := fun _ => True
theorem lgFormat_some {δ : Dk} {ω : Wl} (h : (lgFormat δ).2 = some ω) : ω = (lgF2 δ).2.1 := by
 unfold lgFormat at h
 split at h
 ·cases h
 split at h
 ·cases h
 split at h
 ·cases h
 ·cases h; rfl
theorem numB_len {z : Int} (hz : I64 z) : (numB z).length ≤ 10 := sev_len10 (zig_lt hz)
/- not in this seat -/
/- not in this seat -/
theorem new_spec (n : Int) : Fn Tryz.prog 46 #[vint n] [] fun v L => ((n < 16 ∨ 32768 < n) ∧ v = .tuple #[.pointer none, vint 1] ∧ L = []) ∨ ((16 ≤ n ∧ n ≤ 32768) ∧ ∃ x, v = .tuple #[vptr x, vint 0] ∧ L = [dkR x (Dk.new n)]) := by
 refine Fn.intro Tryz.func46 rfl rfl fun F W => ?_
 refine .sr (.a rfl (.an rfl (.seq (.sm rfl (.ui rfl rfl rfl (.m rfl (.dec (t := 6) rfl (fun h1_6 => ?_) (fun h1_6 => ?_))))))))
 ·refine .kDT (t := 5) rfl h1_6 (.gk (.gk (.u (.pickT rfl rfl) (.nt (.condT rfl (.sr (.a rfl (.an rfl (.rt ?_)))))))))
  exact .dn rfl rfl (.inl ⟨by omega, rfl, rfl⟩)
 refine .kDF (t := 5) rfl h1_6 (.grun (t := 6) rfl rfl rfl (.m rfl (.grun (t := 6) rfl rfl rfl (.ui rfl rfl rfl (.u (.pickF rfl rfl) (.nt (.condD rfl (fun h9 => ?_) (fun h9 => ?_))))))))
 ·refine .sr (.a rfl (.an rfl (.rt ?_)))
  exact .dn rfl rfl (.inl ⟨by omega, rfl, rfl⟩)
 obtain ⟨hn1, hn2⟩ : 16 ≤ n ∧ n ≤ 32768 := by omega
 refine .sk (.sm rfl (.oq (.make rfl rfl el_112 ze_223 rfl ⟨by simp, by simp; rfl⟩ ?c13) ?_))
 case c13 => omega
 rintro v L' ⟨nb, rfl, rfl⟩
 refine .oq (.makeMap Tryz.underlying113) ?_
 rintro v L' ⟨ob, rfl, rfl⟩
 refine .q (.build (us := [(0, _), (1, _)]) fl_115 ze_115 rfl rfl (by simp [isCell])) rfl (.oq (.box rfl) ?_)
 rintro v L' ⟨x, rfl, rfl⟩
 refine .a rfl (.an rfl (.ret (.fold (p := mapR ob []) (.cons (p := pt ob (.map #[] 0)) (by repeat' constructor) .nil) (fun h hp => mapR_new (sep_pt hp)) (.dkFold (nb := nb) (ob := ob) (δ := Dk.new n) (by repeat' constructor) (by simp [Dk.new]; rfl) (secsC_new _).symm rfl (Dk.new_ok (by omega)) ?_))))
 exact .dn rfl rfl (.inr ⟨⟨hn1, hn2⟩, x, rfl, rfl⟩)
/- not in this seat -/
theorem fm_cell {α : Type} {f : α → List Value} {sz k : Nat} {l : List α} {i : Nat} (hf : ∀ x ∈ l, (f x).length = sz) (hi : i < l.length) (hk : k < sz) : (l.flatMap f)[i * sz + k]? = (f l[i])[k]? := by
 have h := flatMap_at hf hi
 rw [← h, List.getElem?_take, if_pos hk, List.getElem?_drop]
theorem en_cell {l : List En} {i k : Nat} (hi : i < l.length) (hk : k < 11) : (l.flatMap enC)[i * 11 + k]? = (enC l[i])[k]? := fm_cell (f := enC) (sz := 11) (fun _ _ => rfl) hi hk
def wantF : List Int → List Int
 | [] => []
 | [z] => [z]
 | z :: y :: t => if y / 4294967296 = z / 4294967296 then wantF (y :: t) else z :: wantF (y :: t)
theorem marks_fold : ∀ (t : List Int) (out : List Int) (z : Int), (∀ y ∈ t, y ≠ 0) → t.foldl markStep (out ++ [z]) = out ++ wantF (z :: t)
 | [], out, z, _ => rfl
 | y :: t, out, z, h => by
  rw [List.foldl_cons]
  by_cases g : y / 4294967296 = z / 4294967296
  ·rw [mk_same (h y (List.mem_cons_self ..)) (by simp) (by rw [List.getLastD_concat]; exact g.symm), List.dropLast_concat, marks_fold t out y (fun x hx => h x (List.mem_cons_of_mem _ hx))]
   show _ = out ++ (if _ then _ else _); rw [if_pos g]
  ·rw [mk_new (h y (List.mem_cons_self ..)) (.inr (by rw [List.getLastD_concat]; exact fun q => g q.symm)), marks_fold t (out ++ [z]) y (fun x hx => h x (List.mem_cons_of_mem _ hx))]
   show _ = out ++ (if _ then _ else _); rw [if_neg g, List.append_assoc]; rfl
theorem marks_want {Λ : Lg} (hb : Λ.base = 0) (h : ∀ z ∈ Λ.zxs, 0 < z) : marksZ Λ = wantF Λ.zxs := by
 unfold marksZ
 rw [hb, List.foldl_cons, mk_0 rfl]
 cases hz : Λ.zxs with
 | nil => rfl
 | cons z t =>
  rw [hz] at h
  have h0 := h z (List.mem_cons_self ..)
  rw [List.foldl_cons, mk_new (by omega) (.inl rfl), marks_fold t [] z (fun y hy => by have := h y (List.mem_cons_of_mem _ hy); omega), List.nil_append]
theorem want_step {zs : List Int} {i : Nat} (h : i < zs.length) : wantF (zs.drop i) = (if i + 1 = zs.length ∨ ¬ zs.getD (i + 1) 0 / 4294967296 = zs.getD i 0 / 4294967296 then [zs.getD i 0] else []) ++ wantF (zs.drop (i + 1)) := by
 rw [List.drop_eq_getElem_cons h]
 have e : zs.getD i 0 = zs[i] := by simp [List.getD_eq_getElem?_getD, h]
 rw [e]
 rcases Nat.lt_or_ge (i + 1) zs.length with g | g
 ·have e2 : zs.getD (i + 1) 0 = zs[i + 1] := by simp [List.getD_eq_getElem?_getD, g]
  rw [e2, List.drop_eq_getElem_cons g]
  show (if zs[i + 1] / 4294967296 = zs[i] / 4294967296 then _ else _) = _
  by_cases q : zs[i + 1] / 4294967296 = zs[i] / 4294967296
  ·rw [if_pos q, if_neg (by rintro (g1 | g1); omega; exact g1 q)]; rfl
  ·rw [if_neg q, if_pos (.inr q)]; rfl
 ·rw [if_pos (.inl (by omega)), List.drop_eq_nil_of_le (by omega)]; rfl
theorem pos_at {Λ : Lg} (h : LgW Λ) {i : Nat} (hi : i < Λ.zxs.length) : Λ.base < Λ.zxs.getD i 0 := by
 have := h.rows.gt (Λ.zxs[i]) (List.getElem_mem hi)
 simpa [List.getD_eq_getElem?_getD, hi] using this
section
variable {P : Program} {ops : Array Oper} {n : Nat} {RO : List HP} {H : List Nat} {Fin : EF → List HP → Prop}
variable {j : Nat} {S : List Nat} {E : Env} {RW : List HP} {op : Op} {ty : TypeId} {pos : String} {aft : Array Edge}
end
theorem cloneI_spec (v : Value) (n : Nat) (xs : List Value) (p : HP) (hr : ∀ h : Hp, p h → rdS 1 h v n xs) (hc : ∀ y ∈ xs, isCell y = true) (hb : n ≤ 4294967296) : Fn Tryz.prog 126 #[v] [p] fun u L => (∃ a c, u = .slice a n c) ∧ L = [slR 3 1 u n xs, p] := by
 refine Fn.intro Tryz.func126 rfl rfl fun F W => ?_
 refine .rdAny (p := p) hr (by repeat' constructor) fun aa ca e hlen => ?_
 subst e
 refine .sr (.an rfl (.seq (.sm rfl ?_)))
 rcases aa with _ | aa
 ·refine .q (.sleq rfl rfl Tryz.underlying32) rfl (.nt (.condT rfl (.sr (.an rfl (.rt (.nilEmpty (p := p) hr (by repeat' constructor) fun e1 e2 => ?_))))))
  subst e1; subst e2
  refine .add (slR_nil 3 1) ?_
  exact .dn rfl rfl ⟨⟨_, _, rfl⟩, rfl⟩
 refine .q (.sleq rfl rfl Tryz.underlying32) rfl (.nt (.condF rfl (.sk (.sr (.oq (.buildSlice1 (vs := []) el_32 ze_3 rfl rfl rfl rfl rfl (by decide)) ?_)))))
 rintro v L' ⟨b0, rfl, rfl⟩
 refine .m rfl (.slMake (n := 0) (c := 0) (xs := []) (b := b0) (by repeat' constructor) (Nat.le_refl _) (Nat.zero_le _) rfl (.oq (.append (n := 0) (m := n) (xs := []) (ys := xs) (p := p) rfl rfl rfl el_32 (.inl ⟨_, Tryz.underlying32⟩) ze_3 rfl rfl ?hc9 ?hr10 ?hb11 (by decide)) ?_))
 case hc9 => exact hc
 case hr10 => exact hr
 case hb11 => omega
 rintro v L' ⟨⟨a1, c1, rfl⟩, rfl⟩; rw [Nat.zero_add, List.nil_append]
 refine .an rfl (.ret ?_)
 exact .dn rfl rfl ⟨⟨_, _, rfl⟩, rfl⟩
theorem snan_spec (a : Int) : Fn Tryz.prog 228 #[vint a] [] fun v L => v = .bool false ∧ L = [] := by
 refine Fn.intro Tryz.func228 rfl rfl fun F W => ?_
 refine .sr (.an rfl (.sm rfl (.m rfl (.q (.as (v' := .bool false) (by simp) (.int rfl rfl rfl)) rfl (.an rfl (.ret ?_))))))
 exact .vv
theorem cnan_spec (a : Int) : Fn Tryz.prog 202 #[vint a] [] fun v L => v = .bool false ∧ L = [] := by
 refine Fn.intro Tryz.func202 rfl rfl fun F W => ?_
 refine .sr (.an rfl (.sm rfl (.m rfl (.q (.as (v' := .bool false) (by simp) (.int rfl rfl rfl)) rfl (.an rfl (.ret ?_))))))
 exact .vv
theorem less_spec (a b : Int) : Fn Tryz.prog 157 #[vint a, vint b] [] fun v L => v = .bool (decide (a < b)) ∧ L = [] := by
 refine Fn.intro Tryz.func157 rfl rfl fun F W => ?_
 refine .sr (.an rfl (.sm rfl (.cv Tryz.func202 [_] (cnan_spec a) ?_)))
 refine .m rfl (.gk (.gk (.gk (.u (.pickF rfl rfl) (.m rfl (.grun (t := 12) rfl rfl rfl (.m rfl (.grun (t := 12) rfl rfl rfl (.m rfl (.grun (t := 12) rfl rfl rfl (.ui rfl rfl rfl (.u (.pickF rfl rfl) (.an rfl (.ret ?_))))))))))))))
 exact .vv
theorem bs_in {zs : List Int} {z : Int} {i : Nat} (hs : zs.Pairwise (· < ·)) (hi : i < zs.length) (h : zs.getD i 0 = z) : z ∈ zs ∧ i = zs.idxOf z := by
 have e : zs[i] = z := by simpa [List.getD_eq_getElem?_getD, hi] using h
 have hn : zs.Nodup := hs.imp (fun h => by omega)
 refine ⟨e ▸ List.getElem_mem hi, ?_⟩
 have hl := List.idxOf_lt_length_of_mem (e ▸ List.getElem_mem hi : z ∈ zs)
 have h1 : zs[zs.idxOf z] = z := List.getElem_idxOf hl
 exact (List.getElem_inj hn).1 (e.trans h1.symm)
theorem bs_out {zs : List Int} {z : Int} {i : Nat} (hs : zs.Pairwise (· < ·)) (h1 : ∀ k, k < i → zs.getD k 0 < z) (h2 : ∀ k, i ≤ k → k < zs.length → z ≤ zs.getD k 0) (h : ¬ (i < zs.length ∧ zs.getD i 0 = z)) : ¬ z ∈ zs := by
 intro hm
 obtain ⟨k, hk, hz⟩ := List.mem_iff_getElem.1 hm
 have e : zs.getD k 0 = z := by simpa [List.getD_eq_getElem?_getD, hk] using hz
 rcases Nat.lt_or_ge k i with g | g
 ·have := h1 k g; omega
 ·have hi : i < zs.length := by omega
  have h3 := h2 i (Nat.le_refl _) hi
  rcases Nat.eq_or_lt_of_le g with g | g
  ·subst g; exact h ⟨hi, e⟩
  ·have := List.pairwise_iff_getElem.1 hs i k hi hk g
   have e1 : zs.getD i 0 = zs[i] := by simp [List.getD_eq_getElem?_getD, hi]
   exact h ⟨hi, by omega⟩
theorem half_conv (a b : Nat) (h : a + b ≤ 8589934592) : Value.int .i64 (IntKind.i64.wrap ((IntKind.u64.wrap ((a : Int) + b)).fdiv (2 ^ min (1 : Int).toNat IntKind.u64.bits))) = vint (((a + b) / 2 : Nat) : Int) := by
 have e1 : IntKind.u64.wrap ((a : Int) + b) = ((a + b : Nat) : Int) := by
  simp [IntKind.wrap, IntKind.bits, IntKind.signed]; omega
 rw [e1]
 have e2 : ((a + b : Nat) : Int).fdiv (2 ^ min (1 : Int).toNat IntKind.u64.bits) = (((a + b) / 2 : Nat) : Int) := by
  show ((a + b : Nat) : Int).fdiv 2 = _
  rw [Int.fdiv_eq_ediv_of_nonneg _ (by decide)]; omega
 rw [e2]
 have e3 : IntKind.i64.wrap (((a + b) / 2 : Nat) : Int) = (((a + b) / 2 : Nat) : Int) := by
  rw [wrap64]; omega
 rw [e3]
theorem up_at {zs : List Int} (hs : zs.Pairwise (· < ·)) {a b : Nat} (h : a < b) (hb : b < zs.length) : zs.getD a 0 < zs.getD b 0 := by
 have := List.pairwise_iff_getElem.1 hs a b (by omega) hb h
 simpa [List.getD_eq_getElem?_getD, hb, show a < zs.length by omega] using this
theorem up_lt {zs : List Int} (hs : zs.Pairwise (· < ·)) {a b : Nat} {z : Int} (hb : b < zs.length) (h : a < b) (hz : zs.getD b 0 < z) : zs.getD a 0 < z := by
 have := up_at hs h hb; omega
theorem up_ge {zs : List Int} (hs : zs.Pairwise (· < ·)) {a b : Nat} {z : Int} (h : b ≤ a) (ha : a < zs.length) (hz : ¬ zs.getD b 0 < z) : z ≤ zs.getD a 0 := by
 rcases Nat.eq_or_lt_of_le h with g | g
 ·subst g; omega
 ·have := up_at hs g ha; omega
theorem bsearch_spec (va : Value) (zs : List Int) (z : Int) (p : HP) (hr : ∀ h : Hp, p h → rdS 1 h va zs.length (ints zs)) (hs : zs.Pairwise (· < ·)) (hl : zs.length ≤ 4294967296) : Fn Tryz.prog 204 #[va, vint z] [p] fun v L => (∃ i : Nat, v = .tuple #[vint i, .bool (decide (z ∈ zs))] ∧ (z ∈ zs → i = zs.idxOf z)) ∧ L = [p] := by
 refine Fn.intro Tryz.func204 rfl rfl fun F W => ?_
 refine .rdAny (p := p) hr (by repeat' constructor) fun aa ca e0 _ => ?_
 subst e0
 refine .sr (.a rfl (.an rfl (.sm rfl (.q (.slen rfl Tryz.underlying32 rfl) rfl (.an rfl (.sm rfl (.a rfl (.an rfl (.seq (.block (.loopK (ι := Nat × Nat) (fun q E => (7, vint q.1) :: (8, vint q.2) :: E) (fun q => []) (fun q => q.1 ≤ q.2 ∧ q.2 ≤ zs.length ∧ (∀ k, k < q.1 → zs.getD k 0 < z) ∧ ∀ k, q.2 ≤ k → k < zs.length → z ≤ zs.getD k 0) (fun q => q.2 - q.1) (0, zs.length) (ts := [0, 1, 4, 5, 6]) (.cons rfl (.cons rfl (.cons rfl (.cons rfl (.cons rfl (.nil)))))) (⟨Nat.zero_le _, Nat.le_refl _, fun k hk => absurd hk (Nat.not_lt_zero k), fun k h1 h2 => absurd h2 (Nat.not_lt.2 h1)⟩) ⟨rfl, rfl, rfl, rfl, rfl, rfl, rfl, trivial⟩ (by repeat' constructor) ?_)))))))))))
 rintro ⟨i, j⟩ ⟨hij, hj, hlo, hhi⟩
 dsimp only
 dsimp only at hij hj hlo hhi
 refine .seq (.sm rfl (.m rfl (.ui rfl rfl rfl (.nt (.condD rfl (fun h15 => ?_) (fun h15 => ?_))))))
 ·have hm : (i + j) / 2 < zs.length := by omega
  refine .rdShape (p := p) hr (by repeat' constructor) (by omega) fun ba oa e => ?_
  subst e
  refine .sk (.block (.sm rfl (.m rfl (.q (.add rfl rfl (by omega)) rfl (.q (.conv rfl Tryz.underlying3 Tryz.underlying146) rfl (.q (.shr rfl rfl (by first | decide | omega)) rfl (.q (.as (v' := vint (((i + j) / 2 : Nat) : Int)) (by exact half_conv i j (by omega)) (.conv rfl Tryz.underlying146 Tryz.underlying3)) rfl (.an rfl (.sm rfl (.m rfl (.q (.indexAddr rfl rfl el_32 (by omega)) rfl (.q (.loadEl (p := p) (i := ((i + j) / 2) * 1) (v := vint (zs.getD ((i + j) / 2) 0)) rfl ag_3 (by repeat' constructor) hr (by have hil : (i + j) / 2 < zs.length := (by omega); simp [ints, List.getD_eq_getElem?_getD, hil])) rfl ?_))))))))))))
  refine .m rfl (.cv Tryz.func157 [_, _] (less_spec _ z) ?_)
  refine .nt (.condD rfl (fun h27 => ?_) (fun h27 => ?_))
  ·refine .region (.m rfl (.q (.add rfl rfl (by omega)) rfl (.a rfl (.nil (.blk_n (.then_n ?_))))))
   exact .rk (((i + j) / 2 + 1, j)) (⟨by dsimp only; omega, hj, fun k hk => by rcases Nat.lt_or_ge k ((i + j) / 2) with g | g; exact up_lt hs (by omega) g h27; obtain rfl : k = (i + j) / 2 := (by dsimp only at hk; omega); exact h27, hhi⟩) (by dsimp only; omega) ⟨rfl, rfl, rfl, rfl, rfl, rfl, rfl, trivial⟩
  refine .region (.m rfl (.a rfl (.nil (.blk_n (.then_n ?_)))))
  exact .rk ((i, (i + j) / 2)) (⟨by dsimp only; omega, by dsimp only; omega, hlo, fun k h1 h2 => up_ge hs h1 h2 h27⟩) (by dsimp only; omega) ⟨rfl, rfl, rfl, rfl, rfl, rfl, rfl, trivial⟩
 refine .exit (.then_e (.then_e (.blk_e (.then_n (.sm rfl (.m rfl (.m rfl (.ui rfl rfl rfl (.m rfl (.dec (t := 35) rfl (fun h8_35 => ?_) (fun h8_35 => ?_)))))))))))
 ·refine .rdShape (p := p) hr (by repeat' constructor) (by omega) fun ba oa e => ?_
  subst e
  refine .kDT (t := 34) rfl h8_35 (.grun (t := 35) rfl rfl rfl (.m rfl (.grun (t := 35) rfl rfl rfl (.m rfl (.grun (t := 35) rfl rfl rfl (.q (.indexAddr rfl rfl el_32 (by omega)) rfl (.grun (t := 35) rfl rfl rfl (.q (.loadEl (p := p) (i := (i) * 1) (v := vint (zs.getD (i) 0)) rfl ag_3 (by repeat' constructor) hr (by have hil : i < zs.length := (by omega); simp [ints, List.getD_eq_getElem?_getD, hil])) rfl ?_))))))))
  refine .grun (t := 35) rfl rfl rfl (.m rfl (.grun (t := 35) rfl rfl rfl (.ui rfl rfl rfl (.grun (t := 35) rfl rfl rfl (.m rfl (.dec (t := 42) rfl (fun h8_42 => ?_) (fun h8_42 => ?_)))))))
  ·refine .kDT (t := 41) rfl h8_42 (.gk (.gk (.gk (.gk (.gk (.gk (.gskipU (t := 48) rfl rfl rfl (.gskipU (t := 48) rfl rfl rfl (.gk (.grun (t := 35) rfl rfl rfl (.u (.pickT rfl rfl) (.u (.pickT rfl rfl) (.a rfl (.an rfl (.ret ?_)))))))))))))))
   have hji : j = i := by omega
   subst hji
   exact .dn rfl rfl ⟨⟨_, by rw [decide_eq_true (bs_in hs (by omega) h8_42).1], fun _ => (bs_in hs (by omega) h8_42).2⟩, rfl⟩
  refine .kDF (t := 41) rfl h8_42 (.grun (t := 42) rfl rfl rfl (.m rfl (.grun (t := 42) rfl rfl rfl (.m rfl (.grun (t := 42) rfl rfl rfl (.q (.indexAddr rfl rfl el_32 (by omega)) rfl (.grun (t := 42) rfl rfl rfl (.q (.loadEl (p := p) (i := (i) * 1) (v := vint (zs.getD (i) 0)) rfl ag_3 (by repeat' constructor) hr (by have hil : i < zs.length := (by omega); simp [ints, List.getD_eq_getElem?_getD, hil])) rfl ?_))))))))
  refine .grun (t := 42) rfl rfl rfl (.cv Tryz.func228 [_] (snan_spec _) ?_)
  refine .grun (t := 42) rfl rfl rfl (.m rfl (.gk (.gk (.grun (t := 42) rfl rfl rfl (.u (.pickF rfl rfl) (.grun (t := 35) rfl rfl rfl (.u (.pickF rfl rfl) (.u (.pickT rfl rfl) (.a rfl (.an rfl (.ret ?_)))))))))))
  have hji : j = i := by omega
  subst hji
  exact .dn rfl rfl ⟨⟨_, by rw [decide_eq_false (bs_out hs hlo hhi (fun g => h8_42 g.2))], fun h => absurd h (bs_out hs hlo hhi (fun g => h8_42 g.2))⟩, rfl⟩
 refine .kDF (t := 34) rfl h8_35 (.gk (.gk (.gk (.gk (.gk (.gk (.gk (.gskipU (t := 42) rfl rfl rfl (.gskipU (t := 42) rfl rfl rfl (.gskipU (t := 42) rfl rfl rfl (.gskipU (t := 42) rfl rfl rfl (.gskipU (t := 42) rfl rfl rfl (.gskipU (t := 42) rfl rfl rfl (.gskipU (t := 48) rfl rfl rfl (.gskipU (t := 48) rfl rfl rfl (.gskipU (t := 42) rfl rfl rfl (.gk (.u (.pickF rfl rfl) (.a rfl (.an rfl (.ret ?_)))))))))))))))))))))
 have hji : j = i := by omega
 subst hji
 exact .dn rfl rfl ⟨⟨_, by rw [decide_eq_false (bs_out hs hlo hhi (fun g => by omega))], fun h => absurd h (bs_out hs hlo hhi (fun g => by omega))⟩, rfl⟩
theorem lupto_spec (g x : Nat) (Λ : Lg) (z : Int) (hΛ : LgI Λ) (hs : Λ.zxs.Pairwise (· < ·)) : Fn Tryz.prog 163 #[vptr g, vint z] [lgR g x Λ] fun v L => v = .tuple #[vint ((placeZ Λ z).getD 0 : Nat), .bool (placeZ Λ z).isSome] ∧ L = [lgR g x Λ] := by
 refine Fn.intro Tryz.func163 rfl rfl fun F W => ?_
 refine .lgOpen (by repeat' constructor) fun ea ec za zc => ?_
 have h1 := hΛ.ents
 have h2 := hΛ.same
 refine .sr (.a rfl (.an rfl (.sm rfl (.nf rfl fo_53_5 (.u (.ld rfl ag_32) (.m rfl (.oq (.call Tryz.func204 rfl rfl (vs := [_, _]) rfl (bsearch_spec _ Λ.zxs z (intR (.slice za Λ.zxs.length zc) Λ.zxs) (fun h hp => slR_rd hp) hs (by omega))) ?_)))))))
 rintro v L' ⟨⟨i, rfl, hix⟩, rfl⟩
 refine .m rfl (.u (.extract rfl rfl) (.u (.extract rfl rfl) (.a rfl (.an rfl (.seq (.sm rfl (.nt (.condD rfl (fun h17 => ?_) (fun h17 => ?_)))))))))
 ·have hil := List.idxOf_lt_length_of_mem h17
  have hi := hix h17
  refine .sm rfl (.q (.add rfl rfl (by omega)) rfl (.a rfl (.an rfl (.rt (.lf (g := g) (x := x) (ea := ea) (ec := ec) (za := za) (zc := zc) (m := Λ.ents.length) (k := Λ.zxs.length) Λ ?_)))))
  have hp : placeZ Λ z = some (Λ.zxs.idxOf z + 1) := by unfold placeZ; rw [if_pos h17]
  rw [hp, hi]
  exact .dn rfl rfl ⟨by simp, rfl⟩
 refine .sk (.seq (.draw [] [[0, 1, 2, 3, 4, 5, 6, 7]] mixed (by kernel_rfl) (.g0 (.mv rfl rfl (.mv rfl rfl (.nf rfl rfl rfl fo_53_2 (.kv rfl (.ld rfl ag_3) (.kv rfl (.int rfl rfl rfl) (.kv rfl (.assign rfl) (.kv rfl (.assign rfl) (.pf (.ret (.lf (g := g) (x := x) (ea := ea) (ec := ec) (za := za) (zc := zc) (m := Λ.ents.length) (k := Λ.zxs.length) Λ ?_)))))))))))))
 have hp : placeZ Λ z = if z = Λ.base then some 0 else none := by unfold placeZ; rw [if_neg h17]
 rw [hp]
 exact .dn rfl rfl ⟨by by_cases hz : z = Λ.base <;> simp [hz], rfl⟩
theorem lmetC_spec (g x : Nat) (Λ : Lg) (e : Int) (ea : Option Addr) (ec : Nat) (za : Option Addr) (zc : Nat) : Fn Tryz.prog 69 #[vptr g, vint e] [ptc g [vint Λ.acc, vint Λ.cur, vptr x, vint Λ.base, vstr Λ.snap, .slice ea Λ.ents.length ec, .slice za Λ.zxs.length zc, .bool Λ.doubt] 53] fun v L => v = vint (metE e) ∧ L = [ptc g [vint Λ.acc, vint Λ.cur, vptr x, vint Λ.base, vstr Λ.snap, .slice ea Λ.ents.length ec, .slice za Λ.zxs.length zc, .bool (Λ.met e).doubt] 53] := by
 refine Fn.intro Tryz.func69 rfl rfl fun F W => ?_
 refine .sr (.an rfl (.seq (.sm rfl (.nt (.block (.sr (.ui rfl rfl rfl (.an rfl (.condD rfl (fun h6 => ?_) (fun h6 => ?_))))))))))
 ·refine .region (.m rfl (.nf rfl fo_53_6 (.st rfl rfl rfl sz_4 ?_)))
  refine .nil (.blk_n (.then_n (.sm rfl (.an rfl (.ret ?_)))))
  have hm : (Λ.met e).doubt = true := by unfold Lg.met; rw [if_pos h6]
  have he : metE e = e := by unfold metE; rw [if_neg (by omega)]
  rw [hm, he]
  exact .vv
 refine .seq (.sr (.ui rfl rfl rfl (.an rfl (.dec (t := 11) rfl (fun h11 => ?_) (fun h11 => ?_)))))
 ·refine .condT rfl (.sk (.condT rfl (.sr (.an rfl (.ret (.blk_r (.then_r ?_)))))))
  have hm : (Λ.met e).doubt = Λ.doubt := by unfold Lg.met; rw [if_neg h6]
  have he : metE e = 83 := by unfold metE; rw [if_pos (by omega)]
  rw [hm, he]
  exact .vv
 refine .condF rfl (.region (.ui rfl rfl rfl (.an rfl (.dec (t := 11) rfl (fun h11 => ?_) (fun h11 => ?_)))))
 ·refine .condT rfl (.sr (.an rfl (.ret (.blk_r (.then_r ?_)))))
  have hm : (Λ.met e).doubt = Λ.doubt := by unfold Lg.met; rw [if_neg h6]
  have he : metE e = 83 := by unfold metE; rw [if_pos (by omega)]
  rw [hm, he]
  exact .vv
 refine .condF rfl (.skip (.blk_n (.then_n (.sm rfl (.an rfl (.ret ?_))))))
 have hm : (Λ.met e).doubt = Λ.doubt := by unfold Lg.met; rw [if_neg h6]
 have he : metE e = e := by unfold metE; rw [if_neg (by omega)]
 rw [hm, he]
 exact .vv
theorem met_acc {Λ : Lg} {e : Int} : (Λ.met e).acc = Λ.acc := by unfold Lg.met; split <;> rfl
theorem met_cur {Λ : Lg} {e : Int} : (Λ.met e).cur = Λ.cur := by unfold Lg.met; split <;> rfl
theorem met_base {Λ : Lg} {e : Int} : (Λ.met e).base = Λ.base := by unfold Lg.met; split <;> rfl
theorem met_snap {Λ : Lg} {e : Int} : (Λ.met e).snap = Λ.snap := by unfold Lg.met; split <;> rfl
theorem met_ents {Λ : Lg} {e : Int} : (Λ.met e).ents = Λ.ents := by unfold Lg.met; split <;> rfl
theorem met_zxs {Λ : Lg} {e : Int} : (Λ.met e).zxs = Λ.zxs := by unfold Lg.met; split <;> rfl
theorem doubt_of {Λ : Lg} {e : Int} (h : metE e = 0) : (Λ.met e).doubt = Λ.doubt := by
 unfold Lg.met
 rw [if_neg]
 intro g; rw [g] at h; exact absurd h (by decide)
theorem lcut_spec (g x d : Nat) (δ : Dk) (ω : Wl) (Λ : Lg) (z : Int) (hI : WlI δ ω) (hΛ : LgI Λ) (hs : Λ.zxs.Pairwise (· < ·)) (hsn : Λ.snap.length ≤ 65536) : Fn Tryz.prog 95 #[vptr g, vint z] [lgR g x Λ, wlR x d ω, dkR d δ] fun v L => v = vint (lgCut ⟨δ, ω, Λ⟩ z).2 ∧ L = [lgR g x (lgCut ⟨δ, ω, Λ⟩ z).1.Λ, wlR x d (lgCut ⟨δ, ω, Λ⟩ z).1.ω, dkR d (lgCut ⟨δ, ω, Λ⟩ z).1.δ] := by
 refine Fn.intro Tryz.func95 rfl rfl fun F W => ?_
 refine .lgOpen (by repeat' constructor) fun ea ec za zc => ?_
 have h1 := hΛ.ents
 have h2 := hΛ.same
 have h0 := headL_len Λ.base Λ.snap hsn
 refine .sr (.an rfl (.seq (.sm rfl (.nf rfl fo_53_6 (.u (.ld rfl ag_4) (.nt (.condB rfl (fun h11 => ?_) (fun h11 => ?_))))))))
 ·refine .sr (.an rfl (.rt ?_))
  have hr : lgCut ⟨δ, ω, Λ⟩ z = (⟨δ, ω, Λ⟩, 2) := by unfold lgCut; dsimp only; rw [if_pos h11]
  rw [hr]
  try dsimp only
  refine .lf (g := g) (x := x) Λ ?_
  exact .vv
 refine .sk (.seq (.lf (g := g) (x := x) Λ ?_))
 refine .region (.m rfl (.m rfl (.cv Tryz.func163 [_, _] (lupto_spec g x Λ z hΛ hs) ?_)))
 refine .m rfl (.u (.extract rfl rfl) (.u (.extract rfl rfl) (.a rfl (.an rfl (.seq (.sr ?_))))))
 rcases hpl : placeZ Λ z with _ | n
 ·refine .m rfl (.u (.not rfl) (.nt (.condT rfl (.sr (.an rfl (.rt ?_))))))
  have hr : lgCut ⟨δ, ω, Λ⟩ z = (⟨δ, ω, Λ⟩, 81) := by unfold lgCut; dsimp only; rw [if_neg (by rw [h11]; decide), hpl]
  rw [hr]
  try dsimp only
  exact .vv
 simp only [Option.getD_some]
 have hpe := (place_le hpl).1
 refine .m rfl (.u (.not rfl) (.nt (.condF rfl (.sk (.seq (.lgOpen (by repeat' constructor) fun ea ec za zc => (.slAddr (a := ea) (c := ec) (by repeat' constructor) fun hcap1 hadea => (.slAddr (a := za) (c := zc) (by repeat' constructor) fun hcap2 hadza => (.draw [13, 17, 18] [[0, 1, 2, 3, 4, 5, 6, 7, 8, 9, 10, 11, 12, 15, 13, 14, 16, 17], [18], [19]] mixed (by kernel_rfl) (.go [ptc g _ _] (by repeat' constructor) (.k rfl (.move rfl) (.k rfl (.move rfl) (.k rfl (.nilp rfl) (.k rfl (.fieldAddr rfl fo_53_1) (.k rfl (.ld rfl ag_51) (.mv rfl rfl (.nf rfl rfl rfl fo_53_2 (.kv rfl (.ld rfl ag_3) (.mv rfl rfl (.nf rfl rfl rfl fo_53_3 (.kv rfl (.ld rfl ag_9) (.k rfl (.move rfl) (.hh rfl (.c Tryz.func86 [_, _] (lahead_spec Λ.base Λ.snap hΛ.base (by omega))) ?_)))))))))))))))))))))))
 rintro v L' ⟨bh, ch, rfl, rfl⟩
 refine D.kv rfl (.slen rfl Tryz.underlying39 rfl) (.kv rfl (.as (v' := vint (((headL Λ.base Λ.snap).length + n : Nat) : Int)) (by simp) (.add rfl rfl (by omega))) (.hh rfl (.c Tryz.func164 [_, _] (wcut_spec x d ω δ (((headL Λ.base Λ.snap).length + n : Nat) : Int) hI)) ?_))
 rintro v L' ⟨rfl, rfl⟩
 refine D.ph (.g0 (.hh rfl (.c Tryz.func69 [_, _] (lmetC_spec g x Λ _ ea ec za zc)) ?_))
 rintro v L' ⟨rfl, rfl⟩
 refine D.ph (.g0 (.kv rfl (.assign rfl) (.pf (.seq (.sm rfl (.ui rfl rfl rfl (.nt (.condD rfl (fun h40 => ?_) (fun h40 => ?_)))))))))
 ·refine .draw [16, 19] [[0, 1, 2, 3, 4, 5, 6, 7, 8, 9, 10, 11, 12, 13, 14, 15, 16], [17, 18, 19]] mixed (by kernel_rfl) (.g0 (.mv rfl rfl (.k rfl (.move rfl) (.mv rfl rfl (.nf rfl rfl rfl fo_53_4 (.kv rfl (.ld rfl ag_39) (.mv rfl rfl (.kv rfl (.to (v' := .slice ea n ec) (.slTo (j := (n : Int)) rfl el_39 rfl (by omega) hadea) (by rw [Int.toNat_natCast])) (.mv rfl rfl (.nf rfl rfl rfl fo_53_5 (.kv rfl (.ld rfl ag_32) (.k rfl (.move rfl) (.k rfl (.to (v' := .slice za n zc) (.slTo (j := (n : Int)) rfl el_32 rfl (by omega) hadza) (by rw [Int.toNat_natCast])) (.nf rfl rfl rfl fo_53_4 (.hh rfl (.store rfl rfl rfl sz_39 ?c52 (nfz0 _ _)) ?_)))))))))))))))
  case c52 => first | decide | (simp; omega) | simp
  rintro v L' rfl
  refine D.ph (.g0 (.nf rfl rfl rfl fo_53_5 (.hh rfl (.store rfl rfl rfl sz_32 ?c57 (nfz0 _ _)) ?_)))
  case c57 => first | decide | (simp; omega) | simp
  rintro v L' rfl
  refine D.pf (.sm rfl (.an rfl (.ret ?_)))
  have hr : lgCut ⟨δ, ω, Λ⟩ z = lgCut2 ⟨δ, ω, Λ⟩ n := by unfold lgCut; dsimp only; rw [if_neg (by rw [h11]; decide), hpl]
  rw [hr]
  have hr2 : lgCut2 ⟨δ, ω, Λ⟩ n = (⟨(cutZ δ ω (((headL Λ.base Λ.snap).length + n : Nat) : Int)).1, (cutZ δ ω (((headL Λ.base Λ.snap).length + n : Nat) : Int)).2.1, ⟨Λ.acc, Λ.cur, Λ.base, Λ.snap, Λ.ents.take n, Λ.zxs.take n, Λ.doubt⟩⟩, 0) := by unfold lgCut2; dsimp only; rw [if_pos (show (metL Λ (cutZ δ ω (((headL Λ.base Λ.snap).length + n : Nat) : Int))).2 = 0 from h40)]
  rw [hr2, h40]
  try dsimp only
  refine .slTo (a := ea) (c := ec) (m := Λ.ents.length) (k := n) (by omega) (by repeat' constructor) (.slTo (a := za) (c := zc) (m := Λ.zxs.length) (k := n) (by omega) (by repeat' constructor) ?_)
  have hmd : (Λ.met (cutZ δ ω (((headL Λ.base Λ.snap).length + n : Nat) : Int)).2.2).doubt = Λ.doubt := by unfold Lg.met; rw [if_neg (fun g2 => by rw [g2] at h40; exact absurd h40 (by decide))]
  rw [hmd]
  refine .lgFold (g := g) (x := x) (ea := ea) (ec := ec) (za := za) (zc := zc) (m := n) (k := n) (⟨Λ.acc, Λ.cur, Λ.base, Λ.snap, Λ.ents.take n, Λ.zxs.take n, Λ.doubt⟩ : Lg) (by repeat' constructor) rfl (by simp; omega) (by simp; omega) (by simp [strs, List.map_take]) (by simp [ints, List.map_take]) ?_
  exact .vv
 refine .sk (.sm rfl (.an rfl (.ret ?_)))
 have hr : lgCut ⟨δ, ω, Λ⟩ z = lgCut2 ⟨δ, ω, Λ⟩ n := by unfold lgCut; dsimp only; rw [if_neg (by rw [h11]; decide), hpl]
 rw [hr]
 have hr2 : lgCut2 ⟨δ, ω, Λ⟩ n = metL Λ (cutZ δ ω (((headL Λ.base Λ.snap).length + n : Nat) : Int)) := by unfold lgCut2; dsimp only; rw [if_neg (show ¬ (metL Λ (cutZ δ ω (((headL Λ.base Λ.snap).length + n : Nat) : Int))).2 = 0 from h40)]
 rw [hr2]
 try dsimp only
 refine .lgFold (g := g) (x := x) (ea := ea) (ec := ec) (za := za) (zc := zc) (m := Λ.ents.length) (k := Λ.zxs.length) (Λ.met (cutZ δ ω (((headL Λ.base Λ.snap).length + n : Nat) : Int)).2.2) (by repeat' constructor) (by rw [met_acc, met_cur, met_base, met_snap]) (by rw [met_ents]) (by rw [met_zxs]) (by rw [met_ents]) (by rw [met_zxs]) ?_
 exact .vv
def lgNR (b : Nat) (base : Int) (snap : Bs) (es : List Bs) (zs : List Int) : HP := fun h => ∃ y : (Option Addr × Nat) × (Option Addr × Nat), True ∧ sep [ptc b [vint 0, vint 0, .pointer none, vint base, vstr snap, .slice y.1.1 es.length y.1.2, .slice y.2.1 zs.length y.2.2, .bool false] 53,
 strR (.slice y.1.1 es.length y.1.2) es, intR (.slice y.2.1 zs.length y.2.2) zs] h
section
variable {W : World} {n : Nat} {ds : List Deferred} {E : Env} {L R : List HP} {X : Act → World → Prop}
theorem G.lgNOpen {b : Nat} {base : Int} {snap : Bs} {es : List Bs} {zs : List Int} (hL : Pick (lgNR b base snap es zs) L R) (h : ∀ ea ec za zc, G W n ds E (ptc b [vint 0, vint 0, .pointer none, vint base, vstr snap, .slice ea es.length ec, .slice za zs.length zc, .bool false] 53 :: strR (.slice ea es.length ec) es :: intR (.slice za zs.length zc) zs :: R) X) : G W n ds E L X :=
 G.focus hL (G.open (q := fun y : (Option Addr × Nat) × (Option Addr × Nat) => [ptc b [vint 0, vint 0, .pointer none, vint base, vstr snap, .slice y.1.1 es.length y.1.2, .slice y.2.1 zs.length y.2.2, .bool false] 53, strR (.slice y.1.1 es.length y.1.2) es, intR (.slice y.2.1 zs.length y.2.2) zs]) (φ := fun _ => True) (fun _ hp => hp) fun y _ => h y.1.1 y.1.2 y.2.1 y.2.2)
theorem G.lgNFold {b : Nat} (base : Int) (snap : Bs) (es : List Bs) (zs : List Int) {l xs ys : List Value} {ea za : Option Addr} {ec zc m k : Nat} (hL : Picks [ptc b l 53, slR 9 1 (.slice ea m ec) m xs, slR 3 1 (.slice za k zc) k ys] L R)
  (hl : l = [vint 0, vint 0, .pointer none, vint base, vstr snap, .slice ea m ec, .slice za k zc, .bool false]) (hm : m = es.length) (hk : k = zs.length) (he : xs = strs es) (hz : ys = ints zs) (h : G W n ds E (lgNR b base snap es zs :: R) X) : G W n ds E L X := by
 subst hl; subst hm; subst hk; subst he; subst hz
 exact G.fold hL (fun _ hp => ⟨((ea, ec), (za, zc)), trivial, hp⟩) h
end
theorem recZ_len' (s : Bs) : (recZ s).length = s.length + 6 := by rw [recZ_len]
theorem laid_few : ∀ {l : List Bs}, (∀ s ∈ l, s.length ≤ 4000) → (laidZ l).length ≤ l.length * 4006
 | [], _ => by simp [laidZ]
 | s :: l, h => by
  have h1 := laid_few (l := l) (fun x hx => h x (List.mem_cons_of_mem _ hx))
  have h2 := h s (List.mem_cons_self ..)
  have e : laidZ (s :: l) = recZ s ++ laidZ l := by simp [laidZ]
  rw [e, List.length_append, recZ_len', List.length_cons]
  omega
theorem renew_bound {base : Int} {snap : Bs} {es : List Bs} (hs : snap.length ≤ 65536) (he : es.length ≤ 200) (h : ((headL base snap ++ es).any fun s => decide (s.length > 4000)) = false) : (laidZ (headL base snap ++ es)).length ≤ 3000000 := by
 have h1 := headL_len base snap hs
 have h2 := laid_few (l := headL base snap ++ es) (fun s hs => by
  have := List.any_eq_false.1 h s hs
  simpa using this)
 rw [List.length_append] at h2
 omega
theorem renew_bad {s : Ld} {base : Int} {snap : Bs} {es : List Bs} {zs : List Int} (h : (lgRenew s base snap es zs).2 ≠ 0) : ∃ e, (lgRenew s base snap es zs).1.Λ = s.Λ.met e := by
 unfold lgRenew at h ⊢
 split
 ·exact ⟨0, rfl⟩
 ·rename_i g
  rw [if_neg g] at h
  split
  ·rename_i g2; rw [if_pos g2] at h; exact absurd rfl h
  ·exact ⟨_, rfl⟩
theorem lrenew_spec (g x d : Nat) (δ : Dk) (ω : Wl) (Λ : Lg) (base : Int) (snap : Bs) (ve vz : Value) (es : List Bs) (zs : List Int) (ea : Option Addr) (ec : Nat) (za : Option Addr) (zc : Nat) (p : HP) (hI : WlI δ ω) (hb : I64 base) (hsn : snap.length ≤ 65536) (hre : ∀ h : Hp, p h → rdS 1 h ve es.length (strs es)) (hrz : ∀ h : Hp, p h → rdS 1 h vz zs.length (ints zs)) (hel : es.length ≤ 4294967296) (hzl : zs.length = es.length) :
    Fn Tryz.prog 162 #[vptr g, .agg [vint 0, vint 0, .pointer none, vint base, vstr snap, ve, vz, .bool false].toArray] [ptc g [vint Λ.acc, vint Λ.cur, vptr x, vint Λ.base, vstr Λ.snap, .slice ea Λ.ents.length ec, .slice za Λ.zxs.length zc, .bool Λ.doubt] 53, wlR x d ω, dkR d δ, p] fun v L => v = vint (lgRenew ⟨δ, ω, Λ⟩ base snap es zs).2 ∧ (((lgRenew ⟨δ, ω, Λ⟩ base snap es zs).2 = 0 ∧ L = [lgR g x (lgRenew ⟨δ, ω, Λ⟩ base snap es zs).1.Λ, wlR x d (lgRenew ⟨δ, ω, Λ⟩ base snap es zs).1.ω, dkR d (lgRenew ⟨δ, ω, Λ⟩ base snap es zs).1.δ, p]) ∨ ((lgRenew ⟨δ, ω, Λ⟩ base snap es zs).2 ≠ 0 ∧ L = [ptc g [vint Λ.acc, vint Λ.cur, vptr x, vint Λ.base, vstr Λ.snap, .slice ea Λ.ents.length ec, .slice za Λ.zxs.length zc, .bool (lgRenew ⟨δ, ω, Λ⟩ base snap es zs).1.Λ.doubt] 53, wlR x d (lgRenew ⟨δ, ω, Λ⟩ base snap es zs).1.ω, dkR d (lgRenew ⟨δ, ω, Λ⟩ base snap es zs).1.δ, p])) := by
 refine Fn.intro Tryz.func162 rfl rfl fun F W => ?_
 refine .rdAny (p := p) hre (by repeat' constructor) fun ae ce e _ => ?_
 subst e
 refine .rdAny (p := p) hrz (by repeat' constructor) fun az cz e _ => ?_
 subst e
 have h0 := headL_len base snap hsn
 refine .sr (.oq (.box rfl) ?_)
 rintro v L' ⟨b3, rfl, rfl⟩
 refine .a rfl (.nil (.ptCast (b := b3) (l' := [vint 0, vint 0, .pointer none, vint base, vstr snap, .slice ae es.length ce, .slice az zs.length cz, .bool false]) (by repeat' constructor) rfl (.then_n (.seq (.sr (.u (.fieldAddr rfl fo_53_4) (.u (.ld rfl ag_39) (.q (.slen rfl Tryz.underlying39 rfl) rfl (.ui rfl rfl rfl (.nt (.condD rfl (fun h9 => ?_) (fun h9 => ?_))))))))))))
 ·refine .sr (.an rfl (.rt ?_))
  have hr : lgRenew ⟨δ, ω, Λ⟩ base snap es zs = (⟨δ, ω, Λ⟩, 83) := by unfold lgRenew; rw [if_pos (by omega)]
  rw [hr]
  exact .dn rfl rfl ⟨rfl, .inr ⟨show (83 : Int) ≠ 0 by decide, rfl⟩⟩
 refine .sk (.seq (.draw [9, 12, 13, 14] [[0, 1, 2, 3, 4, 5, 6, 7, 8, 10, 11, 9, 12, 13], [14], [15]] mixed (by kernel_rfl) (.go [ptc b3 _ _, ptc g _ _] (by repeat' constructor) (.k rfl (.move rfl) (.k rfl (.move rfl) (.k rfl (.nilp rfl) (.k rfl (.fieldAddr rfl fo_53_1) (.k rfl (.ld rfl ag_51) (.kv rfl (.fieldAddr rfl fo_53_2) (.kv rfl (.ld rfl ag_3) (.kv rfl (.fieldAddr rfl fo_53_3) (.kv rfl (.ld rfl ag_9) (.k rfl (.fieldAddr rfl fo_53_4) (.k rfl (.ld rfl ag_39) (.hh rfl (.c Tryz.func86 [_, _] (lahead_spec base snap hb (by omega))) ?_)))))))))))))))
 rintro v L' ⟨bh, ch, rfl, rfl⟩
 refine D.hh rfl (.append (n := (headL base snap).length) (m := es.length) (xs := strs (headL base snap)) (ys := strs es) (p := p) rfl rfl rfl el_39 (.inl ⟨_, Tryz.underlying39⟩) ze_9 rfl rfl ?hc22 hre ?hb23 (by decide)) ?_
 case hc22 => intro y hy; obtain ⟨z, -, rfl⟩ := List.mem_map.1 hy; rfl
 case hb23 => omega
 rintro v L' ⟨⟨a12, c12, rfl⟩, rfl⟩
 refine D.hh rfl (.c Tryz.func203 [_, _] (wrenew2_spec x d ω δ (.slice a12 ((headL base snap).length + es.length) c12) (headL base snap ++ es) (slR 9 1 (.slice a12 ((headL base snap).length + es.length) c12) ((headL base snap).length + es.length) (strs (headL base snap) ++ strs es)) hI ?hr26 ?hln27 ?hlb28)) ?_
 case hr26 => exact fun h hp => (by rw [List.length_append, show strs (headL base snap ++ es) = strs (headL base snap) ++ strs es from List.map_append]; exact slR_rd hp)
 case hln27 => rw [List.length_append]; omega
 case hlb28 => exact renew_bound hsn (by omega)
 rintro v L' ⟨rfl, rfl⟩
 refine D.ph (.g0 (.hh rfl (.c Tryz.func69 [_, _] (lmetC_spec g x Λ _ ea ec za zc)) ?_))
 rintro v L' ⟨rfl, rfl⟩
 refine D.ph (.g0 (.kv rfl (.assign rfl) (.pf (.seq (.sm rfl (.ui rfl rfl rfl (.nt (.condD rfl (fun h26 => ?_) (fun h26 => ?_)))))))))
 ·refine .draw [10, 13, 16, 19, 22, 25] [[0, 1, 2, 3, 4, 5, 6, 7, 8, 9, 11, 12, 10, 13, 14, 15, 16, 17, 18, 19, 20, 21, 22], [23, 24, 25]] mixed (by kernel_rfl) (.go [ptc b3 _ _] (by repeat' constructor) (.k rfl (.move rfl) (.k rfl (.move rfl) (.k rfl (.move rfl) (.k rfl (.move rfl) (.k rfl (.fieldAddr rfl fo_53_2) (.k rfl (.ld rfl ag_3) (.k rfl (.fieldAddr rfl fo_53_3) (.k rfl (.ld rfl ag_9) (.kv rfl (.fieldAddr rfl fo_53_4) (.kv rfl (.ld rfl ag_39) (.k rfl (.fieldAddr rfl fo_53_5) (.k rfl (.ld rfl ag_32) (.hh rfl (.c Tryz.func180 [_] (cloneT_spec _ es.length (strs es) p hre ?hc46 ?hb47)) ?_))))))))))))))
  case hc46 => intro y hy; obtain ⟨z, -, rfl⟩ := List.mem_map.1 hy; rfl
  case hb47 => omega
  rintro v L' ⟨⟨a10, c10, rfl⟩, rfl⟩
  refine D.hh rfl (.c Tryz.func126 [_] (cloneI_spec _ zs.length (ints zs) p hrz ?hc50 ?hb51)) ?_
  case hc50 => intro y hy; obtain ⟨z, -, rfl⟩ := List.mem_map.1 hy; rfl
  case hb51 => omega
  rintro v L' ⟨⟨a13, c13, rfl⟩, rfl⟩
  refine D.nf rfl rfl rfl fo_53_2 (.hh rfl (.store rfl rfl rfl sz_3 ?c56 (nfz0 _ _)) ?_)
  case c56 => first | decide | (simp; omega) | simp
  rintro v L' rfl
  refine D.nf rfl rfl rfl fo_53_3 (.hh rfl (.store rfl rfl rfl sz_9 ?c61 (nfz0 _ _)) ?_)
  case c61 => first | decide | (simp; omega) | simp
  rintro v L' rfl
  refine D.nf rfl rfl rfl fo_53_4 (.hh rfl (.store rfl rfl rfl sz_39 ?c66 (nfz0 _ _)) ?_)
  case c66 => first | decide | (simp; omega) | simp
  rintro v L' rfl
  refine D.ph (.g0 (.nf rfl rfl rfl fo_53_5 (.hh rfl (.store rfl rfl rfl sz_32 ?c71 (nfz0 _ _)) ?_)))
  case c71 => first | decide | (simp; omega) | simp
  rintro v L' rfl
  refine D.pf (.sm rfl (.an rfl (.ret ?_)))
  have hr : lgRenew ⟨δ, ω, Λ⟩ base snap es zs = (⟨(renewZ δ ω (headL base snap ++ es)).1, (renewZ δ ω (headL base snap ++ es)).2.1, ⟨Λ.acc, Λ.cur, base, snap, es, zs, Λ.doubt⟩⟩, 0) := by unfold lgRenew; dsimp only; rw [if_neg (by omega), if_pos (show (metL Λ (renewZ δ ω (headL base snap ++ es))).2 = 0 from h26)]
  rw [hr, h26]
  dsimp only
  rw [doubt_of h26]
  refine .lgFold (g := g) (x := x) (ea := a10) (ec := c10) (za := a13) (zc := c13) (m := es.length) (k := zs.length) (⟨Λ.acc, Λ.cur, base, snap, es, zs, Λ.doubt⟩ : Lg) (by repeat' constructor) rfl rfl rfl rfl rfl ?_
  exact .dn rfl rfl ⟨rfl, .inl ⟨rfl, rfl⟩⟩
 refine .sk (.sm rfl (.an rfl (.ret ?_)))
 have hr : lgRenew ⟨δ, ω, Λ⟩ base snap es zs = metL Λ (renewZ δ ω (headL base snap ++ es)) := by unfold lgRenew; dsimp only; rw [if_neg (by omega), if_neg (show ¬ (metL Λ (renewZ δ ω (headL base snap ++ es))).2 = 0 from h26)]
 rw [hr]
 exact .dn rfl rfl ⟨rfl, .inr ⟨h26, rfl⟩⟩
theorem sep_hd {p : HP} {h : Hp} (hp : sep [p] h) : ∀ {sz n : Nat} {v : Value} {ys : List Value}, (∀ h, p h → rdS sz h v n ys) → rdS sz h v n ys := by
 obtain ⟨g1, g2, -, le1, le2, q1, q2⟩ := hp
 intro sz n v ys hr
 exact rdS_mono (hr _ q1) le1
/- not in this seat -/
theorem lkeepN_spec (b : Nat) (base : Int) (snap : Bs) (es : List Bs) (zs : List Int) (s : Bs) (z : Int) (hl : es.length ≤ 4294967296) (hm : zs.length ≤ 4294967296) : Fn Tryz.prog 71 #[vptr b, vstr s, vint z] [lgNR b base snap es zs] fun v L => v = .tuple #[] ∧ L = [lgNR b base snap (es ++ [s]) (zs ++ [z])] := by
 refine Fn.intro Tryz.func71 rfl rfl fun F W => ?_
 refine .lgNOpen (by repeat' constructor) fun ea ec za zc => (.sm rfl (.m rfl (.nf rfl fo_53_4 (.u (.ld rfl ag_39) (.m rfl (.oq (.buildSlice1 (vs := [_]) el_39 ze_9 rfl rfl rfl rfl rfl (by decide)) ?_))))))
 rintro v L' ⟨b0, rfl, rfl⟩
 refine .oq (.append1 rfl rfl rfl el_39 ze_9 rfl rfl ?c9 ?c10 (Nat.le_refl _) ?c11 (by decide)) ?_
 case c9 => (first | (simp [isCell]; done) | (simp [isCell, setAll, Value.cells]; done))
 case c10 => rfl
 case c11 => omega
 rintro v L' ⟨⟨a0, c0, rfl⟩, rfl⟩
 refine .nf rfl fo_53_4 (.st rfl rfl rfl sz_39 ?_)
 refine .nt (.region (.m rfl (.m rfl (.nf rfl fo_53_5 (.u (.ld rfl ag_32) (.m rfl (.oq (.buildSlice1 (vs := [_]) el_32 ze_3 rfl rfl rfl rfl rfl (by decide)) ?_)))))))
 rintro v L' ⟨b1, rfl, rfl⟩
 refine .oq (.append1 rfl rfl rfl el_32 ze_3 rfl rfl ?c27 ?c28 (Nat.le_refl _) ?c29 (by decide)) ?_
 case c27 => (first | (simp [isCell]; done) | (simp [isCell, setAll, Value.cells]; done))
 case c28 => rfl
 case c29 => omega
 rintro v L' ⟨⟨a1, c1, rfl⟩, rfl⟩
 refine .nf rfl fo_53_5 (.st rfl rfl rfl sz_32 ?_)
 refine .nil (.done_n (.lgNFold (b := b) base snap (es ++ [s]) (zs ++ [z]) (by repeat' constructor) rfl (by simp) (by simp) (by simp [strs, Value.cells]) (by simp [ints, Value.cells]) ?_))
 exact .vv
theorem ints_at' {zs : List Int} {i : Nat} (h : i < zs.length) : (ints zs)[i * 1]? = some (vint (zs.getD i 0)) := by
 rw [Nat.mul_one]; simp [ints, List.getD_eq_getElem?_getD, h]
theorem all_fits_bad {l : List En} {j : Nat} (h : j < l.length) (hf : fitsE l[j] = false) : l.all fitsE = false := by
 rw [List.all_eq_false]; exact ⟨l[j], List.getElem_mem h, by rw [hf]; decide⟩
theorem all_fits {l : List En} (h : ∀ j (hj : j < l.length), fitsE l[j] = true) : l.all fitsE = true := by
 rw [List.all_eq_true]; intro e he
 obtain ⟨j, hj, rfl⟩ := List.mem_iff_getElem.1 he
 exact h j hj
theorem take_map {β : Type} {f : En → β} {l : List En} {j : Nat} (h : j < l.length) : (l.take j).map f ++ [f l[j]] = (l.take (j + 1)).map f := by
 rw [List.take_succ_eq_append_getElem h, List.map_append]; rfl
theorem linstall_spec (g x d : Nat) (δ : Dk) (ω : Wl) (Λ : Lg) (z : Int) (snap : Bs) (va : Value) (l : List En) (p : HP) (hI : WlI δ ω) (hz : I64 z) (hcells : ∀ h : Hp, p h → rdS 11 h va l.length (l.flatMap enC)) (hll : l.length ≤ 1073741824) (hx : ∀ e ∈ l, EnX p e) : Fn Tryz.prog 94 #[vptr g, vint z, vstr snap, va] [lgR g x Λ, wlR x d ω, dkR d δ, p] fun v L => v = vint (lgInstall ⟨δ, ω, Λ⟩ z snap l).2 ∧ L = [lgR g x (lgInstall ⟨δ, ω, Λ⟩ z snap l).1.Λ, wlR x d (lgInstall ⟨δ, ω, Λ⟩ z snap l).1.ω, dkR d (lgInstall ⟨δ, ω, Λ⟩ z snap l).1.δ, p] := by
 refine Fn.intro Tryz.func94 rfl rfl fun F W => ?_
 refine .lgOpen (by repeat' constructor) fun ea ec za zc => (.rdAny (p := p) hcells (by repeat' constructor) fun a0 c0 e _ => ?_)
 subst e
 refine .sr (.an rfl (.seq (.block (.sm rfl (.nf rfl fo_53_6 (.u (.ld rfl ag_4) (.an rfl (.condB rfl (fun h16 => ?_) (fun h16 => ?_)))))))))
 ·refine .sr (.an rfl (.ret (.blk_r (.then_r ?_))))
  have hr : lgInstall ⟨δ, ω, Λ⟩ z snap l = (⟨δ, ω, Λ⟩, 2) := by unfold lgInstall; dsimp only; rw [if_pos h16]
  rw [hr]
  try dsimp only
  refine .lf (g := g) (x := x) Λ ?_
  exact .vv
 refine .sm rfl (.ui rfl rfl rfl (.m rfl (.dec (t := 24) rfl (fun h3_24 => ?_) (fun h3_24 => ?_))))
 ·refine .kDT (t := 23) rfl h3_24 (.gk (.gk (.gk (.u (.pickT rfl rfl) (.an rfl (.condT rfl (.sr (.an rfl (.ret (.blk_r (.then_r ?_)))))))))))
  have hr : lgInstall ⟨δ, ω, Λ⟩ z snap l = (⟨δ, ω, Λ⟩, 1) := by unfold lgInstall; dsimp only; rw [if_neg (by rw [h16]; decide), if_pos (by first | exact .inl h3_24 | exact .inr (by omega))]
  rw [hr]
  try dsimp only
  refine .lf (g := g) (x := x) (ea := ea) (ec := ec) (za := za) (zc := zc) (m := Λ.ents.length) (k := Λ.zxs.length) Λ ?_
  exact .vv
 refine .kDF (t := 23) rfl h3_24 (.grun (t := 24) rfl rfl rfl (.m rfl (.grun (t := 24) rfl rfl rfl (.q (.strlen rfl Tryz.underlying9 rfl) rfl (.grun (t := 24) rfl rfl rfl (.ui rfl rfl rfl (.u (.pickF rfl rfl) (.an rfl (.condD rfl (fun h21 => ?_) (fun h21 => ?_))))))))))
 ·refine .sr (.an rfl (.ret (.blk_r (.then_r ?_))))
  have hr : lgInstall ⟨δ, ω, Λ⟩ z snap l = (⟨δ, ω, Λ⟩, 1) := by unfold lgInstall; dsimp only; rw [if_neg (by rw [h16]; decide), if_pos (by first | exact .inl h3_24 | exact .inr (by omega))]
  rw [hr]
  try dsimp only
  refine .lf (g := g) (x := x) (ea := ea) (ec := ec) (za := za) (zc := zc) (m := Λ.ents.length) (k := Λ.zxs.length) Λ ?_
  exact .vv
 refine .skip (.blk_n (.then_n (.sm rfl (.m rfl (.q (.buildN (pl := [(0, 2), (2, 1), (3, 1), (4, 1), (5, 1), (6, 1), (7, 1)]) (us := [(2, _), (3, _)]) (cells := [vint 0, vint 0, .pointer none, vint z, vstr snap, .slice none 0 0, .slice none 0 0, .bool false]) Tryz.underlying53 (by kernel_rfl) ze_53 rfl rfl) rfl (.oq (.allocA ze_53) ?_))))))
 rintro v L' ⟨b9, rfl, rfl⟩
 refine .oq (.storeA rfl rfl ?c20 sz_53 ?c23 ?c21 (nfz0 _ _)) ?_
 case c20 => simp [isCell]
 case c23 => rfl
 case c21 => simp
 rintro v L' rfl
 refine .nil (.ptCast (b := b9) (l' := [vint 0, vint 0, .pointer none, vint z, vstr snap, .slice none 0 0, .slice none 0 0, .bool false]) (by repeat' constructor) rfl (.add (slR_nil 9 1) (.add (slR_nil 3 1) (.lgNFold (b := b9) (ea := none) (ec := 0) (za := none) (zc := 0) (m := 0) (k := 0) (xs := []) (ys := []) z snap ((l.take 0).map enB) ((l.take 0).map (·.zx)) (by repeat' constructor) rfl rfl rfl rfl rfl (.then_n (.seq (.sm rfl (.q (.slen rfl Tryz.underlying33 rfl) rfl (.m rfl (.nt (.block (.loopK (ι := Nat) (fun q E => (34, vint q) :: E) (fun q => [lgNR b9 z snap ((l.take q).map enB) ((l.take q).map (·.zx))]) (fun q => q ≤ l.length ∧ ∀ i (hi : i < q) (hl : i < l.length), fitsE l[i] = true) (fun q => l.length - q) (0) (ts := [0, 1, 9, 32, 33]) (.cons rfl (.cons rfl (.cons rfl (.cons rfl (.cons rfl (.nil)))))) (⟨Nat.zero_le _, fun i hi => by omega⟩) ⟨rfl, rfl, rfl, rfl, rfl, rfl, trivial⟩ (by repeat' constructor) ?_))))))))))))
 rintro j ⟨hj, hft⟩
 refine .sr (.ui rfl rfl rfl (.nt (.seq (.condD rfl (fun h35 => ?_) (fun h35 => ?_)))))
 ·have hj2 : j < l.length := by omega
  refine .rdShape (p := p) hcells (by repeat' constructor) (by omega) fun ba oa e => ?_
  subst e
  have hX := hx _ (List.getElem_mem hj2)
  refine .sk (.seq (.block (.sr (.q (.indexAddr rfl rfl el_33 (by omega)) rfl (.q (.loadRdA (sz := 11) (j := j * 11) (k := 11) (p := p) (vs := enC l[j]) rfl ag_75 (by repeat' constructor) hcells (by simp) (by omega) (by omega) (flatMap_at (f := enC) (sz := 11) (fun _ _ => rfl) hj2)) rfl (.oq (.allocA ze_75) ?_))))))
  rintro v L' ⟨b11, rfl, rfl⟩
  refine .oq (.storeA rfl rfl ?c33 sz_75 ?c36 ?c34 (nfz0 _ _)) ?_
  case c33 => exact hX.l.cells
  case c36 => rfl
  case c34 => simp [enC, ptC]
  rintro v L' rfl
  refine .nil (.ptCast (b := b11) (l' := enC l[j]) (by repeat' constructor) (by exact rfl) (.then_n (.sr (.q (.loadAs (vs := enC l[j]) rfl ag_75 (by repeat' constructor) (by simp [enC, ptC]) rfl) rfl (.oq (.c Tryz.func67 [_] (llaid_spec l[j] p hX)) ?_)))))
  rintro v L' ⟨s1, hs1, rfl, rfl⟩
  refine .m rfl (.u (.extract rfl rfl) (.u (.extract rfl rfl) (.a rfl (.an rfl (.seq (.sm rfl (.u (.not rfl) (.nt (.condB rfl (fun h44 => ?_) (fun h44 => ?_))))))))))
  ·refine .sr (.an rfl (.rt (.blk_r (.then_r (.then_r (.blk_r (.then_r ?_)))))))
   have hr : lgInstall ⟨δ, ω, Λ⟩ z snap l = (⟨δ, ω, Λ⟩, 1) := by unfold lgInstall; dsimp only; rw [if_neg (by rw [h16]; decide), if_neg (by rintro (g1 | g1); exact h3_24 g1; omega), if_pos (all_fits_bad hj2 (by simpa using h44))]
   rw [hr]
   try dsimp only
   refine .lf (g := g) (x := x) (ea := ea) (ec := ec) (za := za) (zc := zc) (m := Λ.ents.length) (k := Λ.zxs.length) Λ ?_
   exact .vv
  have hfj : fitsE l[j] = true := by simpa using h44
  have hse := hs1 hfj
  subst hse
  refine .sk (.region (.m rfl (.u (.fieldAddr rfl fo_75_0) (.u (.ld rfl ag_3) (.oq (.c Tryz.func71 [_, _, _] (lkeepN_spec b9 z snap ((l.take j).map enB) ((l.take j).map (·.zx)) (enB l[j]) l[j].zx ?h147 ?h248)) ?_)))))
  case h147 => rw [List.length_map, List.length_take]; omega
  case h248 => rw [List.length_map, List.length_take]; omega
  rintro v L' ⟨rfl, rfl⟩; rw [take_map hj2, take_map hj2]
  refine .nil (.blk_n (.then_n (.region (.q (.add rfl rfl (by omega)) rfl (.m rfl (.nt ?_))))))
  exact .rk (j + 1) (⟨by omega, fun i hi hl2 => by rcases Nat.lt_or_ge i j with g1 | g1; exact hft i g1 hl2; obtain rfl : i = j := (by omega); exact hfj⟩) (by omega) ⟨rfl, rfl, rfl, rfl, rfl, rfl, trivial⟩
 have hje : j = l.length := by omega
 subst hje
 rw [List.take_length]
 have hall := all_fits (fun i hi => hft i hi hi)
 refine .lgNOpen (by repeat' constructor) fun na nc nz nd => ?_
 have hzl : (l.map (·.zx)).length = l.length := List.length_map _
 refine .exit (.then_e (.then_e (.blk_e (.then_n (.seq (.sr (.u (.fieldAddr rfl fo_53_5) (.u (.ld rfl ag_32) (.q (.slen rfl Tryz.underlying32 rfl) rfl (.m rfl (.nt (.block (.loopK (ι := Nat) (fun q E => (53, vint q) :: E) (fun q => []) (fun q => q ≤ (l.map (·.zx)).length ∧ ∀ k, k < q → z < ((l.map (·.zx))).getD k 0 ∧ (0 < k → ((l.map (·.zx))).getD (k - 1) 0 < ((l.map (·.zx))).getD k 0)) (fun q => (l.map (·.zx)).length - q) (0) (ts := [0, 1, 9, 51, 52]) (.cons rfl (.cons rfl (.cons rfl (.cons rfl (.cons rfl (.nil)))))) (⟨Nat.zero_le _, fun k hk => by omega⟩) ⟨rfl, rfl, rfl, rfl, rfl, rfl, trivial⟩ (by repeat' constructor) ?_)))))))))))))
 rintro i ⟨hi, hgood⟩
 refine .sr (.ui rfl rfl rfl (.nt (.seq (.condD rfl (fun h54 => ?_) (fun h54 => ?_)))))
 ·refine .slShape (v := .slice nz _ nd) (xs := ints (l.map (·.zx))) (by repeat' constructor) (by omega) fun bn cq e0 mq _ => ?_
  simp only [Value.slice.injEq, true_and] at e0
  obtain ⟨rfl, rfl⟩ := e0
  refine .sk (.seq (.block (.sm rfl (.q (.indexAddr rfl rfl el_32 (by omega)) rfl (.q (.loadEl (p := intR (.slice (some ⟨bn, 0, none⟩) (l.map (·.zx)).length nd) (l.map (·.zx))) (i := (i) * 1) (v := vint (((l.map (·.zx))).getD (i) 0)) rfl ag_3 (by repeat' constructor) (fun h hp => slR_rd hp) (ints_at' (by omega))) rfl (.a rfl (.an rfl (.sm rfl (.m rfl (.ui rfl rfl rfl (.m rfl (.dec (t := 61) rfl (fun h17_61 => ?_) (fun h17_61 => ?_)))))))))))))
  ·refine .kDT (t := 60) rfl h17_61 (.gk (.gk (.gk (.gskipU (t := 64) rfl rfl rfl (.gskipU (t := 64) rfl rfl rfl (.gskipU (t := 64) rfl rfl rfl (.gskipU (t := 64) rfl rfl rfl (.gskipU (t := 64) rfl rfl rfl (.gskipU (t := 64) rfl rfl rfl (.gskipU (t := 64) rfl rfl rfl (.gskipU (t := 64) rfl rfl rfl (.gk (.u (.pickT rfl rfl) (.nt (.condT rfl (.sr (.an rfl (.ret (.blk_r (.then_r (.then_r (.blk_r (.then_r ?_)))))))))))))))))))))))
   have hr : lgInstall ⟨δ, ω, Λ⟩ z snap l = (⟨δ, ω, Λ⟩, 81) := by unfold lgInstall; dsimp only; rw [if_neg (by rw [h16]; decide), if_neg (by rintro (g1 | g1); exact h3_24 g1; omega), if_neg (by rw [hall]; decide), if_pos (fun hR => by have hRi := hR i (by omega); exact absurd hRi.1 (by omega))]
   rw [hr]
   try dsimp only
   refine .lf (g := g) (x := x) (ea := ea) (ec := ec) (za := za) (zc := zc) (m := Λ.ents.length) (k := Λ.zxs.length) Λ ?_
   exact .vv
  refine .kDF (t := 60) rfl h17_61 (.grun (t := 61) rfl rfl rfl (.m rfl (.grun (t := 61) rfl rfl rfl (.ui rfl rfl rfl (.grun (t := 61) rfl rfl rfl (.m rfl (.dec (t := 64) rfl (fun h17_64 => ?_) (fun h17_64 => ?_))))))))
  ·refine .kDT (t := 63) rfl h17_64 (.grun (t := 64) rfl rfl rfl (.m rfl (.grun (t := 64) rfl rfl rfl (.u (.fieldAddr rfl fo_53_5) (.grun (t := 64) rfl rfl rfl (.u (.ld rfl ag_32) (.grun (t := 64) rfl rfl rfl (.m rfl (.grun (t := 64) rfl rfl rfl (.q (.as (v' := vint ((i - 1 : Nat) : Int)) (by congr 1; omega) (.sub rfl rfl (by omega))) rfl (.grun (t := 64) rfl rfl rfl (.q (.indexAddr rfl rfl el_32 (by omega)) rfl (.grun (t := 64) rfl rfl rfl (.q (.loadEl (p := intR (.slice (some ⟨bn, 0, none⟩) (l.map (·.zx)).length nd) (l.map (·.zx))) (i := (i - 1) * 1) (v := vint (((l.map (·.zx))).getD (i - 1) 0)) rfl ag_3 (by repeat' constructor) (fun h hp => slR_rd hp) (ints_at' (by omega))) rfl (.grun (t := 64) rfl rfl rfl (.ui rfl rfl rfl (.grun (t := 61) rfl rfl rfl (.u (.pickT rfl rfl) (.u (.pickF rfl rfl) (.nt ?_))))))))))))))))))))
   refine .condD rfl (fun h74 => ?_) (fun h74 => ?_)
   ·refine .sr (.an rfl (.ret (.blk_r (.then_r (.then_r (.blk_r (.then_r ?_)))))))
    have hr : lgInstall ⟨δ, ω, Λ⟩ z snap l = (⟨δ, ω, Λ⟩, 81) := by unfold lgInstall; dsimp only; rw [if_neg (by rw [h16]; decide), if_neg (by rintro (g1 | g1); exact h3_24 g1; omega), if_neg (by rw [hall]; decide), if_pos (fun hR => by have hRi := hR i (by omega); have := hRi.2 (by omega); omega)]
    rw [hr]
    try dsimp only
    refine .lf (g := g) (x := x) (ea := ea) (ec := ec) (za := za) (zc := zc) (m := Λ.ents.length) (k := Λ.zxs.length) Λ ?_
    exact .vv
   refine .skip (.blk_n (.then_n (.region (.q (.add rfl rfl (by omega)) rfl (.m rfl (.nt ?_))))))
   exact .rk (i + 1) (⟨by omega, fun k hk => by rcases Nat.lt_or_ge k i with g1 | g1; exact hgood k g1; obtain rfl : k = i := (by omega); exact ⟨by omega, fun h0k => by first | omega | exact absurd h0k (by omega)⟩⟩) (by omega) ⟨rfl, rfl, rfl, rfl, rfl, rfl, trivial⟩
  refine .kDF (t := 63) rfl h17_64 (.gk (.gk (.gk (.gk (.gk (.gk (.gk (.gk (.grun (t := 61) rfl rfl rfl (.u (.pickF rfl rfl) (.u (.pickF rfl rfl) (.nt (.condF rfl (.skip (.blk_n (.then_n (.region (.q (.add rfl rfl (by omega)) rfl (.m rfl (.nt ?_))))))))))))))))))))
  exact .rk (i + 1) (⟨by omega, fun k hk => by rcases Nat.lt_or_ge k i with g1 | g1; exact hgood k g1; obtain rfl : k = i := (by omega); exact ⟨by omega, fun h0k => by first | omega | exact absurd h0k (by omega)⟩⟩) (by omega) ⟨rfl, rfl, rfl, rfl, rfl, rfl, trivial⟩
 have hR : Rises z (l.map (·.zx)) := fun k hk => hgood k (by omega)
 refine .fold (p := sep [strR (.slice na (l.map enB).length nc) (l.map enB), intR (.slice nz (l.map (·.zx)).length nd) (l.map (·.zx))]) (q := [strR (.slice na (l.map enB).length nc) (l.map enB), intR (.slice nz (l.map (·.zx)).length nd) (l.map (·.zx))]) (by repeat' constructor) (fun _ hp => hp) (.exit (.then_e (.then_e (.blk_e (.then_n (.sm rfl (.q (.loadAs (vs := [vint 0, vint 0, .pointer none, vint z, vstr snap, .slice na (l.map enB).length nc, .slice nz (l.map (·.zx)).length nd, .bool false]) rfl ag_53 (by repeat' constructor) (by simp) rfl) rfl ?_)))))))
 have hsp := lrenew_spec g x d δ ω Λ z snap (.slice na (l.map enB).length nc) (.slice nz (l.map (·.zx)).length nd) (l.map enB) (l.map (·.zx)) ea ec za zc (sep [strR (.slice na (l.map enB).length nc) (l.map enB), intR (.slice nz (l.map (·.zx)).length nd) (l.map (·.zx))]) hI hz (by omega) (fun h hp => (by obtain ⟨g1, g2, -, le1, le2, q1, q2⟩ := hp; exact rdS_mono (slR_rd q1) le1)) (fun h hp => (by obtain ⟨g1, g2, -, le1, le2, q1, q2⟩ := hp; exact rdS_mono (sep_hd q2 (fun _ q => slR_rd q)) le2)) (by rw [List.length_map]; omega) (by rw [List.length_map, List.length_map])
 refine .oq (.c Tryz.func162 [_, _] (hsp)) ?_
 rintro v L' ⟨rfl, ⟨hf0, rfl⟩ | ⟨hf1, rfl⟩⟩
 ·refine .an rfl (.ret ?_)
  have hr : lgInstall ⟨δ, ω, Λ⟩ z snap l = lgRenew ⟨δ, ω, Λ⟩ z snap (l.map enB) (l.map (·.zx)) := by unfold lgInstall; dsimp only; rw [if_neg (by rw [h16]; decide), if_neg (by rintro (g1 | g1); exact h3_24 g1; omega), if_neg (by rw [hall]; decide), if_neg (fun g => g hR)]
  rw [hr]
  exact .vv
 refine .an rfl (.ret ?_)
 have hr : lgInstall ⟨δ, ω, Λ⟩ z snap l = lgRenew ⟨δ, ω, Λ⟩ z snap (l.map enB) (l.map (·.zx)) := by unfold lgInstall; dsimp only; rw [if_neg (by rw [h16]; decide), if_neg (by rintro (g1 | g1); exact h3_24 g1; omega), if_neg (by rw [hall]; decide), if_neg (fun g => g hR)]
 rw [hr]
 obtain ⟨e9, he9⟩ := renew_bad hf1
 rw [he9]
 dsimp only
 refine .lgFold (g := g) (x := x) (ea := ea) (ec := ec) (za := za) (zc := zc) (m := Λ.ents.length) (k := Λ.zxs.length) (Λ.met e9) (by repeat' constructor) (by rw [met_acc, met_cur, met_base, met_snap]) (by rw [met_ents]) (by rw [met_zxs]) (by rw [met_ents]) (by rw [met_zxs]) ?_
 exact .vv
/- not in this seat -/
/- not in this seat -/
theorem sealP_nil {δ : Dk} {ω : Wl} {ar : Int} {l : List Bs} (h : (sealZ δ ω ar l).2.2 = 0) : dbt (sealZ δ ω ar l) = ((sealZ δ ω ar l).1, { ω with recs := l, synced := l.length, area := ar, count := ω.count + 1 }, 0) := by
 have e : (sealZ δ ω ar l).2.1 = { ω with recs := l, synced := l.length, area := ar, count := ω.count + 1 } := by
  unfold sealZ at h ⊢
  split
  ·rename_i h1; rw [if_pos h1] at h; exact absurd h (by show ¬ (2 : Int) = 0; decide)
  ·rename_i h1
   rw [if_neg h1] at h
   split
   ·rename_i h2; rw [if_pos h2] at h; exact absurd h (by show ¬ (2 : Int) = 0; decide)
   ·rfl
 unfold dbt
 rw [if_neg (by rw [h]; decide)]
 exact Prod.ext rfl (Prod.ext e h)
theorem renewP_ok {δ : Dk} {ω : Wl} {l : List Bs} (h : (renewZ δ ω l).2.2 = 0) : (renewZ δ ω l).2.1.recs = l ∧ (renewZ δ ω l).2.1.a = ω.a ∧ (renewZ δ ω l).2.1.b = ω.b ∧ ∀ s ∈ l, s.length ≤ 4000 := by
 unfold renewZ at h ⊢
 split
 ·rename_i g; rw [if_pos g] at h; exact absurd h (by show ¬ (34 : Int) = 0; decide)
 rename_i g1
 rw [if_neg g1] at h
 split
 ·rename_i g; rw [if_pos g] at h; exact absurd h (by show ¬ (33 : Int) = 0; decide)
 rename_i g2
 rw [if_neg g2] at h
 have h4 : ∀ s ∈ l, s.length ≤ 4000 := fun s hs => by
  have := List.any_eq_false.1 (by simpa using g2 : (l.any fun s => decide (s.length > 4000)) = false) s hs
  simpa using this
 split
 ·rename_i g; rw [if_pos g] at h; exact absurd h (by show ¬ (30 : Int) = 0; decide)
 rename_i g3
 rw [if_neg g3] at h
 split
 ·rename_i g; rw [if_pos g] at h; exact absurd h (by show ¬ (30 : Int) = 0; decide)
 rename_i g4
 rw [if_neg g4] at h
 split
 ·rename_i g; rw [if_pos g, (dbt_err _).1] at h; exact absurd h g
 rename_i g5
 rw [if_neg g5, (dbt_err _).1] at h
 rw [sealP_nil h]
 exact ⟨rfl, rfl, rfl, h4⟩
theorem metP_0 {e : Int} (h : metE e = 0) : e = 0 := by unfold metE at h; split at h <;> omega
structure WK (δ : Dk) (ω : Wl) (N : Int) : Prop where
 size : 2 ≤ δ.now.length ∧ δ.now.length ≤ 32768
 acts : δ.acts ≤ N
 area : 0 ≤ ω.area ∧ ω.area ≤ 1
 count : 0 ≤ ω.count ∧ ω.count ≤ 4294967295
 synced : 0 ≤ ω.synced ∧ ω.synced ≤ ω.recs.length
 fits : ((laidZ ω.recs).length : Int) ≤ 64 * halfZ δ
theorem WK.i {δ : Dk} {ω : Wl} {N : Int} (h : WK δ ω N) (hN : N + 10000000 < 4611686018427387904) : WlI δ ω := ⟨h.size, by have := h.acts; omega, h.area, h.count, h.synced, h.fits⟩
theorem WK.mv {δ δ' : Dk} {ω : Wl} {N M : Int} (h : WK δ ω N) (hl : δ'.now.length = δ.now.length) (ha : δ'.acts ≤ M) : WK δ' ω M := ⟨by rw [hl]; exact h.size, ha, h.area, h.count, h.synced, by rw [halfZ_of hl]; exact h.fits⟩
theorem WK.more {δ : Dk} {ω : Wl} {N M : Int} (h : WK δ ω N) (hN : N ≤ M) : WK δ ω M := h.mv rfl (by have := h.acts; omega)
theorem WK.recs {δ : Dk} {ω : Wl} {N : Int} (h : WK δ ω N) {l : List Bs} {sy ar c a b : Int} {db : Bool} (hs : 0 ≤ sy ∧ sy ≤ l.length) (ha : 0 ≤ ar ∧ ar ≤ 1) (hc : 0 ≤ c ∧ c ≤ 4294967295) (hf : ((laidZ l).length : Int) ≤ 64 * halfZ δ) : WK δ ⟨l, sy, ar, c, a, b, db⟩ N := ⟨h.size, h.acts, ha, hc, hs, hf⟩
theorem wk_dbt {r : Dk × Wl × Int} {N : Int} (h : WK r.1 r.2.1 N) : WK (dbt r).1 (dbt r).2.1 N ∧ (dbt r).2.1.a = r.2.1.a ∧ (dbt r).2.1.b = r.2.1.b := by
 unfold dbt
 split
 ·exact ⟨⟨h.size, h.acts, h.area, h.count, h.synced, h.fits⟩, rfl, rfl⟩
 ·exact ⟨h, rfl, rfl⟩
theorem wk_seal {δ : Dk} {ω : Wl} {N : Int} (h : WK δ ω N) {ar : Int} {l : List Bs} (hc : ω.count ≠ 4294967295) (ha : 0 ≤ ar ∧ ar ≤ 1) (hf : ((laidZ l).length : Int) ≤ 64 * halfZ δ) : WK (sealZ δ ω ar l).1 (sealZ δ ω ar l).2.1 (N + 4) ∧ (sealZ δ ω ar l).2.1.a = ω.a ∧ (sealZ δ ω ar l).2.1.b = ω.b := by
 have hk := sync_keeps δ
 have hn := nextZ_keeps δ.sync.1 (ω.mark ar l ω.a ω.b)
 have h0 := h.acts
 have hct := h.count
 have hl : (nextZ δ.sync.1 (ω.mark ar l ω.a ω.b)).1.now.length = δ.now.length := by rw [hn.1, hk.1]
 unfold sealZ
 split
 ·exact ⟨h.mv (by rw [hk.1]) (by dsimp only; omega), rfl, rfl⟩
 split
 ·exact ⟨h.mv hl (by dsimp only; omega), rfl, rfl⟩
 ·refine ⟨(WK.recs (h.mv hl (M := N + 4) (by omega)) ⟨by omega, Int.le_refl _⟩ ha ⟨by omega, by omega⟩ (by rw [halfZ_of hl]; exact hf)), rfl, rfl⟩
theorem wk_append {δ : Dk} {ω : Wl} {N : Int} (h : WK δ ω N) (s : Bs) : WK (appendZ δ ω s).1 (appendZ δ ω s).2.1 (N + 2000000) ∧ ((appendZ δ ω s).2.1.a = ω.a ∧ (appendZ δ ω s).2.1.b = ω.b) ∧ ((appendZ δ ω s).2.2 = 0 → s.length ≤ 4000) := by
 have hk := layZ_keeps δ ω.area (laidZ ω.recs ++ recZ s) (laidZ ω.recs).length
 have h0 := h.acts
 have hh := half_le h.size
 have hm := h.more (M := N + 2000000) (by omega)
 unfold appendZ
 split
 ·exact ⟨hm, ⟨rfl, rfl⟩, fun g => absurd (show (34 : Int) = 0 from g) (by decide)⟩
 split
 ·exact ⟨hm, ⟨rfl, rfl⟩, fun g => absurd (show (33 : Int) = 0 from g) (by decide)⟩
 split
 ·exact ⟨hm, ⟨rfl, rfl⟩, fun g => absurd (show (30 : Int) = 0 from g) (by decide)⟩
 rename_i h1 h2 h3
 have hal : (laidZ ω.recs ++ recZ s).length = (laidZ ω.recs).length + s.length + 6 := by rw [List.length_append, recZ_len]; omega
 have hM : WK (layZ δ ω.area (laidZ ω.recs ++ recZ s) (laidZ ω.recs).length).1 ω (N + 2000000) := h.mv hk.1 (by omega)
 split
 ·obtain ⟨q1, q2, q3⟩ := wk_dbt (r := ((layZ δ ω.area (laidZ ω.recs ++ recZ s) (laidZ ω.recs).length).1, ω, (layZ δ ω.area (laidZ ω.recs ++ recZ s) (laidZ ω.recs).length).2)) hM
  exact ⟨q1, ⟨q2, q3⟩, fun _ => by omega⟩
 ·refine ⟨WK.recs hM ⟨h.synced.1, by have := h.synced.2; rw [List.length_append, List.length_singleton]; omega⟩ h.area h.count ?_, ⟨rfl, rfl⟩, fun _ => by omega⟩
  rw [halfZ_of hk.1, laidZ_append, List.length_append, show laidZ [s] = recZ s by simp [laidZ], recZ_len]; omega
theorem wk_sync {δ : Dk} {ω : Wl} {N : Int} (h : WK δ ω N) : WK (syncZ δ ω).1 (syncZ δ ω).2.1 (N + 2000000) ∧ (syncZ δ ω).2.1.a = ω.a ∧ (syncZ δ ω).2.1.b = ω.b := by
 have hm := h.more (M := N + 2000000) (by omega)
 unfold syncZ
 split
 ·exact ⟨hm, rfl, rfl⟩
 split
 ·exact ⟨hm, rfl, rfl⟩
 split
 ·exact ⟨hm, rfl, rfl⟩
 rename_i h1 h2 h3
 obtain ⟨s1, s2, s3⟩ := wk_seal h (ar := ω.area) (l := ω.recs) h3 h.area h.fits
 obtain ⟨q1, q2, q3⟩ := wk_dbt (s1.more (M := N + 2000000) (by omega))
 exact ⟨q1, q2.trans s2, q3.trans s3⟩
theorem wk_cut {δ : Dk} {ω : Wl} {N : Int} (h : WK δ ω N) (n : Int) : WK (cutZ δ ω n).1 (cutZ δ ω n).2.1 (N + 2000000) ∧ (cutZ δ ω n).2.1.a = ω.a ∧ (cutZ δ ω n).2.1.b = ω.b := by
 have hm := h.more (M := N + 2000000) (by omega)
 unfold cutZ
 split
 ·exact ⟨hm, rfl, rfl⟩
 split
 ·exact ⟨hm, rfl, rfl⟩
 split
 ·exact ⟨hm, rfl, rfl⟩
 rename_i h1 h2 h3
 obtain ⟨s1, s2, s3⟩ := wk_seal h (ar := ω.area) (l := ω.recs.take n.toNat) h3 h.area (by have := laidZ_take_len ω.recs n.toNat; have := h.fits; omega)
 obtain ⟨q1, q2, q3⟩ := wk_dbt (s1.more (M := N + 2000000) (by omega))
 exact ⟨q1, q2.trans s2, q3.trans s3⟩
theorem wk_renew {δ : Dk} {ω : Wl} {N : Int} (h : WK δ ω N) (l : List Bs) : WK (renewZ δ ω l).1 (renewZ δ ω l).2.1 (N + 2000000) ∧ (renewZ δ ω l).2.1.a = ω.a ∧ (renewZ δ ω l).2.1.b = ω.b := by
 have hm := h.more (M := N + 2000000) (by omega)
 have hk := layZ_keeps δ (1 - ω.area) (laidZ l) 0
 have h0 := h.acts
 have hh := half_le h.size
 unfold renewZ
 split
 ·exact ⟨hm, rfl, rfl⟩
 split
 ·exact ⟨hm, rfl, rfl⟩
 split
 ·exact ⟨hm, rfl, rfl⟩
 split
 ·exact ⟨hm, rfl, rfl⟩
 rename_i h1 h2 h3 h4
 have hM : WK (layZ δ (1 - ω.area) (laidZ l) 0).1 ω (N + 1500000) := h.mv hk.1 (by omega)
 split
 ·obtain ⟨q1, q2, q3⟩ := wk_dbt (r := ((layZ δ (1 - ω.area) (laidZ l) 0).1, ω, (layZ δ (1 - ω.area) (laidZ l) 0).2)) (hM.more (M := N + 2000000) (by omega))
  exact ⟨q1, q2, q3⟩
 ·have har := h.area
  obtain ⟨s1, s2, s3⟩ := wk_seal hM (ar := 1 - ω.area) (l := l) (fun g => h3 (.inr g)) (by omega) (by rw [halfZ_of hk.1]; omega)
  obtain ⟨q1, q2, q3⟩ := wk_dbt (s1.more (M := N + 2000000) (by omega))
  exact ⟨q1, q2.trans s2, q3.trans s3⟩
theorem wk_setm {δ : Dk} {ω : Wl} {N : Int} (h : WK δ ω N) (a b : Int) : WK (setmZ δ ω a b).1 (setmZ δ ω a b).2.1 (N + 2000000) ∧ ((setmZ δ ω a b).2.2 = 0 → (setmZ δ ω a b).2.1.a = a ∧ (setmZ δ ω a b).2.1.b = b) ∧ ((setmZ δ ω a b).2.2 ≠ 0 → (setmZ δ ω a b).2.1.a = ω.a ∧ (setmZ δ ω a b).2.1.b = ω.b) := by
 have hm := h.more (M := N + 2000000) (by omega)
 have hk := nextZ_keeps δ (ω.mark ω.area (ω.recs.take ω.synced.toNat) a b)
 have h0 := h.acts
 unfold setmZ
 split
 ·exact ⟨hm, fun g => absurd (show (34 : Int) = 0 from g) (by decide), fun _ => ⟨rfl, rfl⟩⟩
 split
 ·exact ⟨hm, fun g => absurd (show (1 : Int) = 0 from g) (by decide), fun _ => ⟨rfl, rfl⟩⟩
 split
 ·exact ⟨hm, fun g => absurd (show (30 : Int) = 0 from g) (by decide), fun _ => ⟨rfl, rfl⟩⟩
 rename_i h1 h2 h3
 have hM : WK (nextZ δ (ω.mark ω.area (ω.recs.take ω.synced.toNat) a b)).1 ω (N + 2000000) := h.mv hk.1 (by omega)
 split
 ·rename_i h4
  obtain ⟨q1, q2, q3⟩ := wk_dbt (r := ((nextZ δ (ω.mark ω.area (ω.recs.take ω.synced.toNat) a b)).1, ω, (nextZ δ (ω.mark ω.area (ω.recs.take ω.synced.toNat) a b)).2)) hM
  exact ⟨q1, fun g => by rw [(dbt_err _).1] at g; exact absurd g h4, fun _ => ⟨q2, q3⟩⟩
 ·have hct := h.count
  exact ⟨WK.recs hM h.synced h.area ⟨by omega, by omega⟩ (by rw [halfZ_of hk.1]; exact h.fits), fun _ => ⟨rfl, rfl⟩, fun g => absurd rfl g⟩
structure LPs (s : Ld) (N : Int) : Prop where
 wk : WK s.δ s.ω N
 w : LgW s.Λ
 a : s.ω.a = s.Λ.acc
 b : s.ω.b = s.Λ.cur
theorem LPs.more {s : Ld} {N M : Int} (h : LPs s N) (hN : N ≤ M) : LPs s M := ⟨h.wk.more hN, h.w, h.a, h.b⟩
theorem LgW.met {Λ : Lg} (h : LgW Λ) (e : Int) : LgW (Λ.met e) := by
 unfold Lg.met
 split
 ·exact ⟨h.few, h.each, h.base, h.snap, h.rows, h.eps⟩
 ·exact h
theorem LPs.hab {s : Ld} {N : Int} (h : LPs s N) : (0 ≤ s.ω.a ∧ s.ω.a ≤ 9223372036854775807) ∧ (0 ≤ s.ω.b ∧ s.ω.b ≤ 9223372036854775807) := by
 have := h.w.eps
 rw [h.a, h.b]; omega
theorem lps_end {s : Ld} {N M : Int} {f : Lg → Lg} {r : Dk × Wl × Int} (h : LPs s N) (hr : WK r.1 r.2.1 M) (h0 : r.2.2 = 0 → LgW (f s.Λ) ∧ r.2.1.a = (f s.Λ).acc ∧ r.2.1.b = (f s.Λ).cur) (h1 : r.2.2 ≠ 0 → r.2.1.a = s.ω.a ∧ r.2.1.b = s.ω.b) : LPs (endL s.Λ f r).1 M := by
 unfold endL
 split
 ·rename_i g
  have e0 := metP_0 g
  obtain ⟨q1, q2, q3⟩ := h0 e0
  have hm : s.Λ.met r.2.2 = s.Λ := by rw [e0]; rfl
  exact ⟨hr, by show LgW (f (s.Λ.met r.2.2)); rw [hm]; exact q1, by show r.2.1.a = (f (s.Λ.met r.2.2)).acc; rw [hm]; exact q2, by show r.2.1.b = (f (s.Λ.met r.2.2)).cur; rw [hm]; exact q3⟩
 ·rename_i g
  have e0 : r.2.2 ≠ 0 := fun e => g (by show metE r.2.2 = 0; rw [e]; rfl)
  obtain ⟨q2, q3⟩ := h1 e0
  exact ⟨hr, h.w.met _, by show r.2.1.a = (s.Λ.met r.2.2).acc; rw [met_acc, q2]; exact h.a, by show r.2.1.b = (s.Λ.met r.2.2).cur; rw [met_cur, q3]; exact h.b⟩
theorem lps_append {s : Ld} {N : Int} (h : LPs s N) {e : En} (he : EnI e) : LPs (lgAppend s e).1 (N + 2000000) := by
 have hm := h.more (M := N + 2000000) (by omega)
 obtain ⟨q1, ⟨q2, q3⟩, q4⟩ := wk_append h.wk (enB e)
 unfold lgAppend
 split
 ·exact hm
 split
 ·exact hm
 split
 ·exact hm
 split
 ·exact hm
 rename_i h1 h2 h3 h4
 refine lps_end (f := fun L => L.keep (enB e) e.zx) h q1 (fun e0 => ⟨?_, by rw [q2]; exact h.a, by rw [q3]; exact h.b⟩) (fun _ => ⟨q2, q3⟩)
 have hf : fitsE e = true := by simpa using h2
 have hfew := h.w.few
 refine ⟨?_, fun x hx => ?_, h.w.base, h.w.snap, h.w.rows.keep ⟨e.pl, fits_got hf he, rfl⟩ he.zx (show lastF s.Λ.base s.Λ.zxs < e.zx from Int.not_le.1 h3), h.w.eps⟩
 ·show (s.Λ.ents ++ [enB e]).length ≤ 200; rw [List.length_append, List.length_singleton]; omega
 ·rcases List.mem_append.1 (show x ∈ s.Λ.ents ++ [enB e] from hx) with hx | hx
  ·exact h.w.each x hx
  ·rw [List.mem_singleton] at hx; subst hx; exact q4 e0
theorem lps_sync {s : Ld} {N : Int} (h : LPs s N) : LPs (lgSync s).1 (N + 2000000) := by
 obtain ⟨q1, q2, q3⟩ := wk_sync h.wk
 unfold lgSync
 split
 ·exact h.more (by omega)
 ·exact ⟨q1, h.w.met _, by show _ = (s.Λ.met _).acc; rw [met_acc, ← h.a]; exact q2, by show _ = (s.Λ.met _).cur; rw [met_cur, ← h.b]; exact q3⟩
theorem lps_accept {s : Ld} {N : Int} (h : LPs s N) (n : Int) : LPs (lgAccept s n).1 (N + 2000000) := by
 have hm := h.more (M := N + 2000000) (by omega)
 have he := h.w.eps
 obtain ⟨q1, q2, q3⟩ := wk_setm h.wk n s.Λ.cur
 unfold lgAccept
 split
 ·exact hm
 split
 ·exact hm
 split
 ·exact hm
 rename_i h1 h2 h3
 exact lps_end (f := fun L => L.setAcc n) h q1 (fun e0 => ⟨⟨h.w.few, h.w.each, h.w.base, h.w.snap, h.w.rows, ⟨he.1, by show s.Λ.cur ≤ n; omega, by show n ≤ _; omega⟩⟩, (q2 e0).1, (q2 e0).2⟩) q3
theorem lps_adopt2 {s : Ld} {N : Int} (h : LPs s N) (n : Int) (hn : 0 ≤ n ∧ n ≤ s.Λ.acc) : LPs (lgAdopt2 s n).1 (N + 2000000) := by
 have he := h.w.eps
 obtain ⟨q1, q2, q3⟩ := wk_setm h.wk s.Λ.acc n
 exact lps_end (f := fun L => L.setCur n) h q1 (fun e0 => ⟨⟨h.w.few, h.w.each, h.w.base, h.w.snap, h.w.rows, ⟨hn.1, hn.2, he.2.2⟩⟩, (q2 e0).1, (q2 e0).2⟩) q3
theorem lps_adopt {s : Ld} {N : Int} (h : LPs s N) (n : Int) : LPs (lgAdopt s n).1 (N + 4000000) := by
 have hm := h.more (M := N + 4000000) (by omega)
 have hs := lps_sync h
 have he := h.w.eps
 unfold lgAdopt
 split
 ·exact hm
 split
 ·exact hm
 split
 ·exact hs.more (by omega)
 rename_i h1 h2 h3
 have hq : (lgSync s).1.Λ.acc = s.Λ.acc := by
  unfold lgSync
  split
  ·rfl
  ·exact met_acc ..
 exact (lps_adopt2 hs n ⟨by omega, by rw [hq]; omega⟩).more (by omega)
theorem lps_cut {s : Ld} {N : Int} (h : LPs s N) (z : Int) : LPs (lgCut s z).1 (N + 2000000) := by
 have hm := h.more (M := N + 2000000) (by omega)
 unfold lgCut
 split
 ·exact hm
 split
 ·exact hm
 ·rename_i n hn
  obtain ⟨q1, q2, q3⟩ := wk_cut h.wk (((headL s.Λ.base s.Λ.snap).length + n : Nat) : Int)
  exact lps_end (f := fun _ => cutL s.Λ n) h q1 (fun _ => ⟨h.w.cut n _, q2.trans h.a, q3.trans h.b⟩) (fun _ => ⟨q2, q3⟩)
theorem lps_renew {s : Ld} {N : Int} (h : LPs s N) {base : Int} {snap : Bs} {es : List Bs} {zs : List Int} (hb : 0 ≤ base ∧ base ≤ 9223372036854775807) (hs : snap.length ≤ 65536) (hr : RowsI base es zs) : LPs (lgRenew s base snap es zs).1 (N + 2000000) := by
 have hm := h.more (M := N + 2000000) (by omega)
 obtain ⟨q1, q2, q3⟩ := wk_renew h.wk (headL base snap ++ es)
 unfold lgRenew
 split
 ·exact hm
 rename_i h1
 exact lps_end (f := fun _ => newL s.Λ base snap es zs) h q1 (fun e0 => ⟨⟨by show es.length ≤ 200; omega, fun x hx => (renewP_ok e0).2.2.2 x (List.mem_append_right _ hx), hb, hs, hr, h.w.eps⟩, q2.trans h.a, q3.trans h.b⟩) (fun _ => ⟨q2, q3⟩)
theorem lps_install {s : Ld} {N : Int} (h : LPs s N) {z : Int} (hz : z ≤ 9223372036854775807) (snap : Bs) {l : List En} (hi : ∀ e ∈ l, EnI e) : LPs (lgInstall s z snap l).1 (N + 2000000) := by
 have hm := h.more (M := N + 2000000) (by omega)
 unfold lgInstall
 split
 ·exact hm
 split
 ·exact hm
 split
 ·exact hm
 split
 ·exact hm
 rename_i h0 h1 h2 h3
 exact lps_renew h (by omega) (by omega) (rises_rows l z hi (by simpa using h2) (by simpa using h3))
theorem newW_k {δ : Dk} (hs : 2 ≤ δ.now.length ∧ δ.now.length ≤ 32768) {N : Int} (ha : δ.acts ≤ N) : WK (formatZ δ).1 newW (N + 100) := by
 have hk : (formatZ δ).1.now.length = δ.now.length ∧ (formatZ δ).1.acts ≤ δ.acts + 100 := by
  unfold formatZ
  repeat' split
  all_goals first
   | exact ⟨(fmtZ_keeps δ 3).1, by have := (fmtZ_keeps δ 3).2; dsimp only; omega⟩
   | exact ⟨(fmtZ_keeps δ 2).1, by have := (fmtZ_keeps δ 2).2; dsimp only; omega⟩
   | exact ⟨(fmtZ_keeps δ 1).1, by have := (fmtZ_keeps δ 1).2; dsimp only; omega⟩
   | exact ⟨(fmtZ_keeps δ 0).1, by have := (fmtZ_keeps δ 0).2; dsimp only; omega⟩
 have hh := half_le (δ := (formatZ δ).1) (by rw [hk.1]; exact hs)
 exact ⟨by rw [hk.1]; exact hs, by omega, ⟨by decide, by decide⟩, ⟨by decide, by decide⟩, ⟨by decide, by decide⟩, by show (0 : Int) ≤ _; omega⟩
theorem format_k {δ : Dk} (hs : 2 ≤ δ.now.length ∧ δ.now.length ≤ 32768) {N : Int} (ha : δ.acts ≤ N) : WK (lgF1 δ).1 (lgF1 δ).2.1 (N + 2000100) ∧ ((lgF1 δ).2.1.a = 0 ∧ (lgF1 δ).2.1.b = 0) ∧ (∀ ω, (lgFormat δ).2 = some ω → LPs ⟨(lgFormat δ).1, ω, lg0⟩ (N + 5000000)) ∧ (2 ≤ (lgFormat δ).1.now.length ∧ (lgFormat δ).1.now.length ≤ 32768) ∧ (lgFormat δ).1.acts ≤ N + 5000000 := by
 have h0 := newW_k hs ha
 obtain ⟨q1, ⟨q2, q3⟩, -⟩ := wk_append h0 (headB 0 0)
 have q1 : WK (lgF1 δ).1 (lgF1 δ).2.1 (N + 2000100) := q1.more (by omega)
 have q2 : (lgF1 δ).2.1.a = 0 := q2
 have q3 : (lgF1 δ).2.1.b = 0 := q3
 obtain ⟨r1, r2, r3⟩ := wk_sync q1
 have r1 : WK (lgF2 δ).1 (lgF2 δ).2.1 (N + 5000000) := WK.more r1 (by omega)
 have r2 : (lgF2 δ).2.1.a = 0 := r2.trans q2
 have r3 : (lgF2 δ).2.1.b = 0 := r3.trans q3
 have hW : LgW lg0 := ⟨Nat.zero_le _, fun s hs => (by cases hs), ⟨by decide, by decide⟩, Nat.zero_le _, trivial, ⟨by decide, by decide, by decide⟩⟩
 refine ⟨q1, ⟨q2, q3⟩, ?_⟩
 unfold lgFormat
 split
 ·exact ⟨fun ω h => (by cases h), h0.size, by have := h0.acts; dsimp only; omega⟩
 split
 ·exact ⟨fun ω h => (by cases h), q1.size, by have := q1.acts; dsimp only; omega⟩
 split
 ·exact ⟨fun ω h => (by cases h), r1.size, r1.acts⟩
 ·exact ⟨fun ω h => by cases h; exact ⟨r1, hW, r2, r3⟩, r1.size, r1.acts⟩
open Go Go.Sort
abbrev compI (l : List Int) : List Int := Lib.compact l
theorem compact_fn {P : Program} {ρ : Go.Shelf.Ren} (LM : Lays2.n20 P ρ) (e : TypeId) (v : Value) (n : Nat) (xs : List Int) (hn : n < 4611686018427387904) :
  Fn P (ρ.f 20) #[v] [slR e 1 v n (xs.map vint)] fun u L => (∃ a c, u = .slice a (compI xs).length c) ∧ L = [slR e 1 u (compI xs).length ((compI xs).map vint)] := by
 intro F w hs
 have hs' : St ((fun h => ∃ y : List Value × (Nat × Nat) × (Option (Nat × Nat)), (y.2.2 = none ∧ v = .slice none 0 0 ∧ n = 0 ∧ xs = []) ∨ (∃ b cap, y.2.2 = some (b, cap) ∧ v = .slice (some ⟨b, 0, none⟩) n cap ∧ h b = some (.cells (List.toArray (xs.map vint ++ y.1)) e y.2.1) ∧ xs.length = n ∧ cap ≤ xs.length + y.1.length ∧ n ≤ cap ∧ nfz y.2.1 0 cap)) :: F) w := by
  refine sep_imp (fun h hp => ?_) hs
  rcases hp with ⟨h1, h2, h3⟩ | ⟨b, cap, rest, fr, h1, h2, h3, h4, h5, h6⟩
  ·exact ⟨([], (0, 0), none), .inl ⟨rfl, h1, h2, by simpa using h3⟩⟩
  ·exact ⟨(rest, fr, some (b, cap)), .inr ⟨b, cap, rfl, h1, h2, by simpa using h3, by simpa using h4, h5, by simpa using h6⟩⟩
 obtain ⟨⟨rest, fr, o⟩, h1, h2, hd, a1, a2, hp, hF⟩ := sep_ex hs'
 rcases hp with ⟨-, rfl, rfl, rfl⟩ | ⟨b, cap, -, rfl, p1, p2, p3, p4, p5⟩
 ·refine (Any.slices_Compact_int_empty LM none 0 w).mono ?_
  rintro en w' ⟨rfl, rfl⟩
  have e0 : compI [] = [] := rfl
  exact ⟨_, _, ⟨⟨none, 0, by rw [e0]; rfl⟩, by rw [e0]; rfl⟩, rfl, hs, .refl _⟩
 ·subst p2
  have hb := a1 _ _ p1
  have hH : Holds (Value.int .i64) w b 0 xs.toArray := by
   intro j hj
   have hj' : j < xs.length := by simpa using hj
   have hb' : w.heap[b]? = some (.cells (xs.map vint ++ rest).toArray e fr) := hb
   refine ⟨?_, ?_⟩
   ·simp only [World.cell?, hb', Nat.zero_add, Option.isSome_none, Bool.false_eq_true, if_false]
    rw [List.getElem?_toArray, List.getElem?_append_left (by simpa using hj')]
    simp [hj']
   ·have := p5 j (by omega) (by dsimp only at p3 p4 ⊢; omega)
    simp only [World.frozen?, hb', Nat.zero_add]
    simpa using this
  refine (Any.slices_Compact_int LM b 0 cap xs w hH (by omega) p4).mono ?_
  rintro en w' ⟨rfl, k, rfl⟩
  have hle := Lib.compact_length_le xs
  generalize hcs : Lib.compact xs = cs at hle
  have hcl : (cs ++ List.replicate (xs.length - cs.length) 0).length = xs.length := by rw [List.length_append, List.length_replicate]; omega
  refine ⟨_, _, ⟨⟨_, _, by unfold compI; rw [hcs]⟩, rfl⟩, rfl, ?_, ?_⟩
  ·have h2b : h2 b = none := (hd b).resolve_left (by rw [p1]; simp)
   have hnew : (putRow (Value.int .i64) (Sort.ahead w k) b 0 (cs ++ List.replicate (xs.length - cs.length) 0).toArray).heap[b]? = some (.cells (putCells (Value.int .i64) 0 (cs ++ List.replicate (xs.length - cs.length) 0).toArray (xs.map vint ++ rest).toArray) e fr) := by
    have hb2 : w.heap[b]? = some (.cells (xs.map vint ++ rest).toArray e fr) := hb
    simp [putRow, mapBlock, Sort.ahead, Array.getElem?_modify, hb2, onCells]
   have hrow : (putCells (Value.int .i64) 0 (cs ++ List.replicate (xs.length - cs.length) 0).toArray (xs.map vint ++ rest).toArray) = (cs.map vint ++ ((List.replicate (xs.length - cs.length) (0 : Int)).map vint ++ rest)).toArray := by
    rw [← List.append_assoc, ← List.map_append]
    generalize cs ++ List.replicate (xs.length - cs.length) 0 = ts at hcl
    apply Array.ext_getElem?
    intro j
    simp only [putCells, Array.getElem?_mapIdx, List.getElem?_toArray, Nat.zero_le, true_and, Nat.zero_add, Nat.sub_zero, List.size_toArray]
    by_cases hj : j < xs.length
    ·rw [List.getElem?_append_left (by simpa using hj), List.getElem?_append_left (by simpa [hcl] using hj)]
     simp [hj, hcl]
    ·rw [List.getElem?_append_right (by simp; omega), List.getElem?_append_right (by simp [hcl]; omega)]
     simp [hj, hcl]
   refine ⟨fun c => if c = b then some (.cells (cs.map vint ++ ((List.replicate (xs.length - cs.length) (0 : Int)).map vint ++ rest)).toArray e fr) else none, h2, fun c => ?_, fun c o e => ?_, fun c o hc => ?_, ?_, hF⟩
   ·by_cases e : c = b
    ·exact .inr (e ▸ h2b)
    ·exact .inl (if_neg e)
   ·by_cases hc : c = b
    ·subst hc
     dsimp only at e
     rw [if_pos rfl] at e
     obtain rfl := Option.some.inj e
     rw [← hrow]; exact hnew
    ·simp [hc] at e
   ·have hcb : c ≠ b := by rintro rfl; rw [h2b] at hc; cases hc
    have hold := a2 _ _ hc
    show (putRow (Value.int .i64) (Sort.ahead w k) b 0 _).heap[c]? = _
    have hold2 : w.heap[c]? = some o := hold
    simp [putRow, mapBlock, Sort.ahead, Array.getElem?_modify, Ne.symm hcb, hold2]
   ·unfold compI; rw [hcs]
    refine .inr ⟨b, cap, _, fr, rfl, if_pos rfl, by simp, ?_, by omega, by simpa using p5⟩
    simp at p3 ⊢; omega
  ·refine ⟨rfl, rfl, rfl, ?_⟩
   show w.heap.size ≤ (putRow (Value.int .i64) (Sort.ahead w k) b 0 _).heap.size
   simp [putRow, mapBlock, Sort.ahead]
structure Fw where
 ld : Int
 ph : Int
 ep : Int
 com : Int
 sil : Int
 heard : List Int
structure Ms where
 kind : Int
 ep : Int
 zx : Int
 nu : Int
 ses : Int
 mv : Value
 data : Bs
 ev : Value
 ents : List En
 q0 : Value
 q1 : Value
 q2 : Value
 q3 : Value
 q4 : Value
 q5 : Value
 q6 : Value
 q7 : Value
 q8 : Value
 q9 : Value
 q10 : Value
def msC (m : Ms) : List Value := [vint m.kind, vint m.ep, vint m.zx, vint m.nu, vint m.ses, m.mv, vstr m.data, m.ev, m.q0, m.q1, m.q2, m.q3, m.q4, m.q5, m.q6, m.q7, m.q8, m.q9, m.q10]
structure MsA (p : HP) (m : Ms) : Prop where
 kind : I64 m.kind
 ep : I64 m.ep
 zx : I64 m.zx
 nu : I64 m.nu
 cells : ∀ v ∈ msC m, isCell v = true
 data : m.data.length ≤ 1048576
 l : ∀ h : Hp, p h → rdS 11 h m.ev m.ents.length (m.ents.flatMap enC)
 len : m.ents.length ≤ 1048576
 x : ∀ e ∈ m.ents, EnX p e
structure Mo where
 kind : Int
 ep : Int
 zx : Int
 nu : Int
 marks : List Int
def moC (m : Mo) (mv : Value) : List Value := [vint m.kind, vint m.ep, vint m.zx, vint m.nu, vint 0, mv, vstr [], .slice none 0 0, vint 0, vint 0, vstr [], vstr [], .slice none 0 0, vint 0, vint 0, .bool false, .slice none 0 0, .slice none 0 0, .slice none 0 0]
abbrev outT (v : Value) (ld : Int) (m : Mo) (mv : Value) : HP := slR 94 20 v 1 (vint ld :: moC m mv)
def outR (v : Value) (ld : Int) : Option Mo → HP
 | none => fun _ => v = .slice none 0 0
 | some m => fun h => ∃ mv : Value, True ∧ sep [outT v ld m mv, intR mv m.marks] h
def onN : Option Mo → Nat
 | none => 0
 | some _ => 1
def fwR (f g : Nat) (F : Fw) : HP := fun h => ∃ y : Option Addr × Nat, True ∧ sep [ptc f [vint F.ld, vptr g, vint F.ph, vint F.ep, vint F.com, vint F.sil, .slice y.1 F.heard.length y.2] 104, intR (.slice y.1 F.heard.length y.2) F.heard] h
section
variable {W : World} {n : Nat} {ds : List Deferred} {E : Env} {L R : List HP} {X : Act → World → Prop}
theorem G.rdBoth {p : HP} {sz m : Nat} {v : Value} {ys : List Value} (hr : ∀ h : Hp, p h → rdS sz h v m ys) (hL : Pick p L R)
  (h : ∀ a c, v = .slice a m c → (0 < m → ∃ b off, a = some ⟨b, off, none⟩) → G W n ds E L X) : G W n ds E L X := by
 intro a w he hk hs
 obtain ⟨h1, -, hp⟩ := sep_head (hs.pick hL)
 rcases hr _ hp with ⟨rfl, rfl, ad, c, rfl⟩ | ⟨b, off, cap, l, T, fr, hv, -⟩
 ·exact h _ _ rfl (fun h0 => absurd h0 (by omega)) a w he hk hs
 ·exact h _ _ hv (fun _ => ⟨_, _, rfl⟩) a w he hk hs
theorem G.fwOpen {f g : Nat} {F : Fw} (hL : Pick (fwR f g F) L R) (h : ∀ ha hc, G W n ds E (ptc f [vint F.ld, vptr g, vint F.ph, vint F.ep, vint F.com, vint F.sil, .slice ha F.heard.length hc] 104 :: intR (.slice ha F.heard.length hc) F.heard :: R) X) : G W n ds E L X :=
 G.focus hL (G.open (q := fun y : Option Addr × Nat => [ptc f [vint F.ld, vptr g, vint F.ph, vint F.ep, vint F.com, vint F.sil, .slice y.1 F.heard.length y.2] 104, intR (.slice y.1 F.heard.length y.2) F.heard]) (φ := fun _ => True) (fun _ hp => hp) fun y _ => h y.1 y.2)
theorem G.fwFold {f g : Nat} (F : Fw) {l hs : List Value} {ha : Option Addr} {hc m : Nat} (hL : Picks [ptc f l 104, slR 3 1 (.slice ha m hc) m hs] L R) (hl : l = [vint F.ld, vptr g, vint F.ph, vint F.ep, vint F.com, vint F.sil, .slice ha m hc]) (hm : m = F.heard.length) (hh : hs = ints F.heard) (h : G W n ds E (fwR f g F :: R) X) : G W n ds E L X := by
 subst hl; subst hm; subst hh
 exact G.fold hL (fun _ hp => ⟨(ha, hc), trivial, hp⟩) h
theorem G.outFold (m : Mo) {v mv : Value} {ld : Int} {l zs : List Value} {k : Nat} (hL : Picks [slR 94 20 v 1 l, slR 3 1 mv k zs] L R) (hl : l = vint ld :: moC m mv) (hk : k = m.marks.length) (hz : zs = ints m.marks) (h : G W n ds E (outR v ld (some m) :: R) X) : G W n ds E L X := by
 subst hl; subst hk; subst hz
 exact G.fold hL (fun _ hp => ⟨mv, trivial, hp⟩) h
theorem G.outNone (ld : Int) (h : G W n ds E (outR (.slice none 0 0) ld none :: L) X) : G W n ds E L X := G.add (fun _ => rfl) h
theorem G.outOpen {v : Value} {ld : Int} {m : Mo} (hL : Pick (outR v ld (some m)) L R) (h : ∀ mv, G W n ds E (outT v ld m mv :: intR mv m.marks :: R) X) : G W n ds E L X :=
 G.focus hL (G.open (q := fun mv : Value => [outT v ld m mv, intR mv m.marks]) (φ := fun _ => True) (fun _ hp => hp) fun mv _ => h mv)
end
def Fw.lose (F : Fw) : Fw := ⟨F.ld, 4, F.ep, F.com, F.sil, F.heard⟩
def Fw.go (F : Fw) (ph ep : Int) : Fw := ⟨F.ld, ph, ep, F.com, F.sil, F.heard⟩
def Fw.toPh (F : Fw) (ph : Int) : Fw := ⟨F.ld, ph, F.ep, F.com, F.sil, F.heard⟩
def Fw.hush (F : Fw) (s : Int) : Fw := ⟨F.ld, F.ph, F.ep, F.com, s, F.heard⟩
def Fw.comm (F : Fw) (z : Int) : Fw := ⟨F.ld, F.ph, F.ep, max F.com z, F.sil, F.heard⟩
def Fw.hear (F : Fw) (l : List Int) : Fw := ⟨F.ld, F.ph, F.ep, F.com, F.sil, l⟩
def takeZ : List En → Ld → Ld × Int
 | [], s => lgSync s
 | e :: l, s => if (lgAppend s e).2 ≠ 0 then lgAppend s e else takeZ l (lgAppend s e).1
abbrev Fz := Fw × Ld × Option Mo
def accF (F : Fw) (s : Ld) (m : Ms) : Fz :=
 if F.ph > 1 ∨ m.ep < max 1 s.Λ.acc ∨ m.ep > 1073741824 then (F.lose, s, none)
 else if m.ep > s.Λ.acc then
  (if (lgAccept s m.ep).2 ≠ 0 then (F.lose, (lgAccept s m.ep).1, none) else (F.go 1 m.ep, (lgAccept s m.ep).1, some ⟨3, m.ep, 0, (lgAccept s m.ep).1.Λ.cur, marksZ (lgAccept s m.ep).1.Λ⟩))
 else (F.go 1 m.ep, s, some ⟨3, m.ep, 0, -1, marksZ s.Λ⟩)
def cutTake (s : Ld) (z : Int) (l : List En) : Ld × Int := if (lgCut s z).2 ≠ 0 then lgCut s z else takeZ l (lgCut s z).1
def histF (s : Ld) (m : Ms) : Ld × Int := if m.nu = 1 then lgInstall s m.zx m.data m.ents else cutTake s m.zx m.ents
def synF2 (F : Fw) (r : Ld × Int) : Fz := if r.2 ≠ 0 then (F.lose, r.1, none) else if (lgAdopt r.1 F.ep).2 ≠ 0 then (F.lose, (lgAdopt r.1 F.ep).1, none) else (F.toPh 2, (lgAdopt r.1 F.ep).1, some ⟨5, F.ep, 0, 0, []⟩)
def synF (F : Fw) (s : Ld) (m : Ms) : Fz := if F.ph ≠ 1 ∨ m.ep ≠ F.ep then (F.lose, s, none) else synF2 F (histF s m)
def ent0 (l : List En) : Int := (l.map (·.zx)).getD 0 0
def proF (F : Fw) (s : Ld) (m : Ms) : Fz :=
 if ¬ (F.ph = 2 ∨ F.ph = 3) ∨ m.ents.length ≠ 1 ∨ (ent0 m.ents).tdiv 4294967296 ≠ F.ep then (F.lose, s, none)
 else if (takeZ m.ents s).2 ≠ 0 then (F.lose, (takeZ m.ents s).1, none) else (F, (takeZ m.ents s).1, some ⟨8, 0, ent0 m.ents, 0, []⟩)
def pingF1 (F : Fw) (s : Ld) (m : Ms) : Fw := if F.ph = 3 ∧ m.zx ≤ lastZ s.Λ then F.comm m.zx else F
def pingF (F : Fw) (s : Ld) (m : Ms) : Fz := if F.ph < 2 then (F, s, none) else ((pingF1 F s m).hear [], s, some ⟨11, 0, 0, 0, F.heard⟩)
def comF (F : Fw) (s : Ld) (m : Ms) : Fz := if F.ph ≠ 3 ∨ m.zx > lastZ s.Λ then (F.lose, s, none) else (F.comm m.zx, s, none)
def upF (F : Fw) (s : Ld) (m : Ms) : Fz := if F.ph ≠ 2 then (F.lose, s, none) else comF (F.toPh 3) s m
def hearF1 (F : Fw) (s : Ld) (m : Ms) : Fz :=
 if m.kind = 2 then accF F s m else if m.kind = 4 then synF F s m else if m.kind = 7 then proF F s m else if m.kind = 10 then pingF F s m
 else if m.kind = 6 then upF F s m else if m.kind = 9 then comF F s m else (F, s, none)
def hearF (F : Fw) (s : Ld) (m : Ms) : Fz := if F.ph = 4 then (F, s, none) else hearF1 (F.hush 0) s m
def startF (F : Fw) (s : Ld) : Option Mo := if F.ph = 4 then none else some ⟨1, s.Λ.acc, 0, 0, []⟩
def tickF (F : Fw) (s : Ld) (l : List Int) : Fw × Option Mo :=
 if F.ph = 4 then (F, none) else if F.sil + 1 = 8 then ((F.hush 8).lose, none)
 else (((F.hush (F.sil + 1)).hear (Lib.compact (sortI (F.heard ++ l)))), if F.ph = 0 ∧ (F.sil + 1) % 2 = 0 then some ⟨1, s.Λ.acc, 0, 0, []⟩ else none)
structure FwI (F : Fw) (K : Nat) : Prop where
 sil : F.ph = 4 ∨ (0 ≤ F.sil ∧ F.sil ≤ 7)
 heard : F.heard.length ≤ K
theorem met_all (Λ : Lg) (e : Int) : (Λ.met e).acc = Λ.acc ∧ (Λ.met e).cur = Λ.cur ∧ lastZ (Λ.met e) = lastZ Λ := by
 unfold Lg.met
 split <;> exact ⟨rfl, rfl, rfl⟩
theorem keep_last (Λ : Lg) (s : Bs) (z : Int) : lastZ (Λ.keep s z) = z := by
 unfold lastZ Lg.keep
 simp
abbrev SameE (s : Ld) (r : Ld × Int) : Prop := r.1.Λ.acc = s.Λ.acc ∧ r.1.Λ.cur = s.Λ.cur
theorem fapp_ac (s : Ld) (e : En) : SameE s (lgAppend s e) ∧ ((lgAppend s e).2 ≠ 0 → lastZ (lgAppend s e).1.Λ = lastZ s.Λ) ∧ ((lgAppend s e).2 = 0 → lastZ (lgAppend s e).1.Λ = e.zx ∧ lastZ s.Λ < e.zx) := by
 unfold lgAppend
 split
 ·exact ⟨⟨rfl, rfl⟩, fun _ => rfl, fun h => absurd (show (2 : Int) = 0 from h) (by decide)⟩
 split
 ·exact ⟨⟨rfl, rfl⟩, fun _ => rfl, fun h => absurd (show (1 : Int) = 0 from h) (by decide)⟩
 split
 ·exact ⟨⟨rfl, rfl⟩, fun _ => rfl, fun h => absurd (show (81 : Int) = 0 from h) (by decide)⟩
 split
 ·exact ⟨⟨rfl, rfl⟩, fun _ => rfl, fun h => absurd (show (83 : Int) = 0 from h) (by decide)⟩
 rename_i h1 h2 h3 h4
 have hm := met_all s.Λ (appendZ s.δ s.ω (enB e)).2.2
 split
 ·exact ⟨⟨hm.1, hm.2.1⟩, fun h => absurd rfl h, fun _ => ⟨keep_last _ _ _, Int.not_le.1 h3⟩⟩
 ·rename_i h5
  exact ⟨⟨hm.1, hm.2.1⟩, fun _ => hm.2.2, fun h => absurd h h5⟩
theorem fsync_ac (s : Ld) : SameE s (lgSync s) ∧ lastZ (lgSync s).1.Λ = lastZ s.Λ := by
 have hm := met_all s.Λ (syncZ s.δ s.ω).2.2
 unfold lgSync
 split
 ·exact ⟨⟨rfl, rfl⟩, rfl⟩
 ·exact ⟨⟨hm.1, hm.2.1⟩, hm.2.2⟩
theorem fcut_ac (s : Ld) (z : Int) : SameE s (lgCut s z) := by
 unfold lgCut
 split
 ·exact ⟨rfl, rfl⟩
 split
 ·exact ⟨rfl, rfl⟩
 ·rename_i n hn
  exact ⟨by rw [cut_end]; unfold endL; split; rfl; exact (met_all s.Λ _).1, by rw [cut_end]; unfold endL; split; rfl; exact (met_all s.Λ _).2.1⟩
theorem frenew_ac (s : Ld) (b : Int) (sn : Bs) (es : List Bs) (zs : List Int) : SameE s (lgRenew s b sn es zs) := by
 by_cases h : es.length > 200
 ·unfold lgRenew; rw [if_pos h]; exact ⟨rfl, rfl⟩
 ·obtain ⟨δ, ω, Λ⟩ := s
  rw [ren_end _ _ h]
  have hm := met_all Λ (renewZ δ ω (headL b sn ++ es)).2.2
  unfold endL
  split
  ·exact ⟨rfl, rfl⟩
  ·exact ⟨hm.1, hm.2.1⟩
theorem finstall_ac (s : Ld) (z : Int) (sn : Bs) (l : List En) : SameE s (lgInstall s z sn l) := by
 unfold lgInstall
 repeat' split
 all_goals first
  | exact ⟨rfl, rfl⟩
  | exact frenew_ac _ _ _ _ _
theorem ftake_ac : ∀ (l : List En) (s : Ld), SameE s (takeZ l s)
 | [], s => (fsync_ac s).1
 | e :: l, s => by
  have h1 := (fapp_ac s e).1
  unfold takeZ
  split
  ·exact h1
  ·have h2 := ftake_ac l (lgAppend s e).1
   exact ⟨h2.1.trans h1.1, h2.2.trans h1.2⟩
theorem take_one (s : Ld) (e : En) : ((takeZ [e] s).2 = 0 → lastZ (takeZ [e] s).1.Λ = e.zx ∧ lastZ s.Λ < e.zx) ∧ (lastZ (takeZ [e] s).1.Λ = lastZ s.Λ ∨ lastZ (takeZ [e] s).1.Λ = e.zx) := by
 obtain ⟨-, h2, h3⟩ := fapp_ac s e
 unfold takeZ
 split
 ·rename_i h; exact ⟨fun g => absurd g h, .inl (h2 h)⟩
 ·rename_i h
  have h0 : (lgAppend s e).2 = 0 := by omega
  have hs := (fsync_ac (lgAppend s e).1).2
  unfold takeZ
  rw [hs]
  exact ⟨fun _ => h3 h0, .inr (h3 h0).1⟩
theorem faccept_ac (s : Ld) (n : Int) : s.Λ.acc ≤ (lgAccept s n).1.Λ.acc ∧ (lgAccept s n).1.Λ.cur = s.Λ.cur := by
 have hm := met_all s.Λ (setmZ s.δ s.ω n s.Λ.cur).2.2
 unfold lgAccept
 split
 ·exact ⟨Int.le_refl _, rfl⟩
 split
 ·exact ⟨Int.le_refl _, rfl⟩
 split
 ·exact ⟨Int.le_refl _, rfl⟩
 rename_i h1 h2 h3
 split
 ·exact ⟨by show s.Λ.acc ≤ n; omega, hm.2.1⟩
 ·exact ⟨by show s.Λ.acc ≤ (s.Λ.met _).acc; rw [hm.1]; exact Int.le_refl _, hm.2.1⟩
theorem fadopt_ac (s : Ld) (n : Int) : (lgAdopt s n).1.Λ.acc = s.Λ.acc ∧ ((lgAdopt s n).2 = 0 → (lgAdopt s n).1.Λ.cur = n) := by
 have hs := (fsync_ac s).1.1
 unfold lgAdopt
 split
 ·exact ⟨rfl, fun h => absurd (show (2 : Int) = 0 from h) (by decide)⟩
 split
 ·exact ⟨rfl, fun h => absurd (show (82 : Int) = 0 from h) (by decide)⟩
 split
 ·rename_i h; exact ⟨hs, fun g => absurd g h⟩
 rw [← hs]
 generalize (lgSync s).1 = t
 have hm := met_all t.Λ (setmZ t.δ t.ω t.Λ.acc n).2.2
 unfold lgAdopt2
 split
 ·exact ⟨hm.1, fun _ => rfl⟩
 ·rename_i h; exact ⟨hm.1, fun g => absurd g h⟩
theorem lps_take {p : HP} : ∀ (l : List En) (s : Ld) (N : Int), LPs s N → (∀ e ∈ l, EnX p e) → LPs (takeZ l s).1 (N + 2000000 + l.length * 2000000)
 | [], s, N, h, _ => (lps_sync h).more (by simp)
 | e :: l, s, N, h, hx => by
  have h1 := lps_append h (hx e (List.mem_cons_self ..)).l.w.i
  unfold takeZ
  split
  ·exact h1.more (by rw [List.length_cons]; omega)
  ·exact (lps_take l _ _ h1 fun e he => hx e (List.mem_cons_of_mem _ he)).more (by rw [List.length_cons]; omega)
theorem lps_hist {p : HP} {s : Ld} {N : Int} (h : LPs s N) {m : Ms} (hm : MsA p m) : LPs (histF s m).1 (N + 2500000000000) := by
 have hl := hm.len
 unfold histF
 split
 ·exact (lps_install h hm.zx.2 _ fun e he => (hm.x e he).l.w.i).more (by omega)
 ·unfold cutTake
  have hc := lps_cut h m.zx
  split
  ·exact hc.more (by omega)
  ·exact (lps_take (p := p) m.ents _ _ hc hm.x).more (by omega)
theorem fhist_ac (s : Ld) (m : Ms) : SameE s (histF s m) := by
 unfold histF
 split
 ·exact finstall_ac _ _ _ _
 ·unfold cutTake
  have hc := fcut_ac s m.zx
  split
  ·exact hc
  ·have ht := ftake_ac m.ents (lgCut s m.zx).1
   exact ⟨ht.1.trans hc.1, ht.2.trans hc.2⟩
structure FwK (F : Fw) (s : Ld) (N : Int) (K : Nat) : Prop where
 l : LPs s N
 i : FwI F K
 cur : F.ph = 2 ∨ F.ph = 3 → s.Λ.cur = F.ep
 up : F.ph = 3 → F.com ≤ lastZ s.Λ
 zero : F.ph ≠ 3 → F.ph ≠ 4 → F.com = 0
theorem last_nonneg {Λ : Lg} (h : LgW Λ) : 0 ≤ lastZ Λ := by
 have hb := h.base.1
 unfold lastZ
 rcases hg : Λ.zxs.getLast? with _ | z
 ·exact hb
 ·have := h.rows.gt z (List.mem_of_getLast? hg)
  show 0 ≤ z
  omega
structure FwP (F : Fw) (s : Ld) (r : Fz) (N : Int) (K : Nat) : Prop where
 k : FwK r.1 r.2.1 (N + 3000000000000) K
 com : F.com ≤ r.1.com
 acc : s.Λ.acc ≤ r.2.1.Λ.acc
theorem lose_K {F : Fw} {t : Ld} {N : Int} {K : Nat} (hl : LPs t N) (hh : F.heard.length ≤ K) : FwK F.lose t N K :=
 ⟨hl, ⟨.inl rfl, hh⟩, fun h => by rcases h with h | h <;> exact absurd (show (4 : Int) = _ from h) (by decide), fun h => absurd (show (4 : Int) = _ from h) (by decide), fun _ h => absurd rfl h⟩
theorem lose_P {F : Fw} {s t : Ld} {N : Int} {K : Nat} (hl : LPs t (N + 3000000000000)) (hh : F.heard.length ≤ K) (ha : s.Λ.acc ≤ t.Λ.acc) : FwP F s (F.lose, t, none) N K := ⟨lose_K hl hh, Int.le_refl _, ha⟩
theorem acc_P {F : Fw} {s : Ld} {N : Int} {K : Nat} (hk : FwK F s N K) (h4 : 0 ≤ F.sil ∧ F.sil ≤ 7) (m : Ms) : FwP F s (accF F s m) N K := by
 have hs := hk.l.more (M := N + 3000000000000) (by omega)
 have hl := (lps_accept hk.l m.ep).more (M := N + 3000000000000) (by omega)
 have ha := faccept_ac s m.ep
 have hh := hk.i.heard
 have hgo : F.ph ≤ 1 → ∀ (t : Ld), LPs t (N + 3000000000000) → FwK (F.go 1 m.ep) t (N + 3000000000000) K := fun hp t ht => ⟨ht, ⟨.inr h4, hh⟩, fun h => by rcases h with h | h <;> exact absurd (show (1 : Int) = _ from h) (by decide), fun h => absurd (show (1 : Int) = _ from h) (by decide), fun _ _ => hk.zero (by omega) (by omega)⟩
 unfold accF
 split
 ·exact lose_P hs hh (Int.le_refl _)
 rename_i g0
 have hgo := hgo (by omega)
 split
 ·split
  ·exact lose_P hl hh ha.1
  ·exact ⟨hgo _ hl, Int.le_refl _, ha.1⟩
 ·exact ⟨hgo _ hs, Int.le_refl _, Int.le_refl _⟩
theorem syn_P {p : HP} {F : Fw} {s : Ld} {N : Int} {K : Nat} (hk : FwK F s N K) (h4 : 0 ≤ F.sil ∧ F.sil ≤ 7) {m : Ms} (hm : MsA p m) : FwP F s (synF F s m) N K := by
 have hs := hk.l.more (M := N + 3000000000000) (by omega)
 have h1 := lps_hist hk.l hm
 have h2 := (lps_adopt h1 F.ep).more (M := N + 3000000000000) (by omega)
 have ha := fhist_ac s m
 have hb := fadopt_ac (histF s m).1 F.ep
 have hh := hk.i.heard
 unfold synF
 split
 ·exact lose_P hs hh (Int.le_refl _)
 rename_i g0
 unfold synF2
 split
 ·exact lose_P (h1.more (by omega)) hh (by rw [ha.1]; exact Int.le_refl _)
 split
 ·exact lose_P h2 hh (by rw [hb.1, ha.1]; exact Int.le_refl _)
 ·rename_i g
  refine ⟨⟨h2, ⟨.inr h4, hh⟩, fun _ => hb.2 (by omega), fun h => absurd (show (2 : Int) = _ from h) (by decide), fun _ _ => hk.zero (by omega) (by omega)⟩, Int.le_refl _, ?_⟩
  show s.Λ.acc ≤ (lgAdopt (histF s m).1 F.ep).1.Λ.acc
  rw [hb.1, ha.1]; exact Int.le_refl _
theorem one_ent {l : List En} (h : ¬ l.length ≠ 1) : ∃ e, l = [e] := by
 match l, h with
 | [e], _ => exact ⟨e, rfl⟩
 | [], h => exact absurd (by decide) h
 | _ :: _ :: _, h => exact absurd (by simp) h
theorem pro_P {p : HP} {F : Fw} {s : Ld} {N : Int} {K : Nat} (hk : FwK F s N K) {m : Ms} (hm : MsA p m) : FwP F s (proF F s m) N K ∧ (lastZ (proF F s m).2.1.Λ ≠ lastZ s.Λ → (lastZ (proF F s m).2.1.Λ).tdiv 4294967296 = (proF F s m).2.1.Λ.cur) := by
 have hs := hk.l.more (M := N + 3000000000000) (by omega)
 have hlen := hm.len
 have h1 := (lps_take m.ents _ _ hk.l hm.x).more (M := N + 3000000000000) (by omega)
 have ha := ftake_ac m.ents s
 have hh := hk.i.heard
 unfold proF
 split
 ·exact ⟨lose_P hs hh (Int.le_refl _), fun h => absurd rfl h⟩
 rename_i g
 obtain ⟨e, he⟩ := one_ent (fun h => g (.inr (.inl h)))
 have hph : F.ph = 2 ∨ F.ph = 3 := by
  rcases Decidable.em (F.ph = 2 ∨ F.ph = 3) with h | h
  ·exact h
  ·exact absurd (.inl h) g
 have hep : (ent0 m.ents).tdiv 4294967296 = F.ep := by
  rcases Decidable.em ((ent0 m.ents).tdiv 4294967296 = F.ep) with h | h
  ·exact h
  ·exact absurd (.inr (.inr h)) g
 have hcur := hk.cur hph
 rw [he] at hep h1 ha ⊢
 obtain ⟨q1, q2⟩ := take_one s e
 have hz : ent0 [e] = e.zx := rfl
 rw [hz] at hep
 have hpro : lastZ (takeZ [e] s).1.Λ ≠ lastZ s.Λ → (lastZ (takeZ [e] s).1.Λ).tdiv 4294967296 = (takeZ [e] s).1.Λ.cur := fun h => by
  rw [ha.2, hcur]
  rcases q2 with q2 | q2
  ·exact absurd q2 h
  ·rw [q2]; exact hep
 split
 ·exact ⟨lose_P h1 hh (by rw [ha.1]; exact Int.le_refl _), hpro⟩
 ·rename_i g2
  have h0 : (takeZ [e] s).2 = 0 := by omega
  refine ⟨⟨⟨h1, hk.i, fun h => by rw [ha.2]; exact hcur, fun h => ?_, hk.zero⟩, Int.le_refl _, ?_⟩, hpro⟩
  ·have := hk.up h
   have := q1 h0
   show F.com ≤ lastZ (takeZ [e] s).1.Λ
   omega
  ·show s.Λ.acc ≤ (takeZ [e] s).1.Λ.acc
   rw [ha.1]; exact Int.le_refl _
theorem ping_P {F : Fw} {s : Ld} {N : Int} {K : Nat} (hk : FwK F s N K) (h4 : 0 ≤ F.sil ∧ F.sil ≤ 7) (m : Ms) : FwP F s (pingF F s m) N K := by
 have hs := hk.l.more (M := N + 3000000000000) (by omega)
 unfold pingF
 split
 ·exact ⟨⟨hs, hk.i, hk.cur, hk.up, hk.zero⟩, Int.le_refl _, Int.le_refl _⟩
 unfold pingF1
 split
 ·rename_i g1 g2
  refine ⟨⟨hs, ⟨.inr h4, Nat.zero_le _⟩, hk.cur, fun h => ?_, fun h => absurd g2.1 h⟩, ?_, Int.le_refl _⟩
  ·have := hk.up h
   show max F.com m.zx ≤ lastZ s.Λ
   omega
  ·show F.com ≤ max F.com m.zx
   omega
 ·exact ⟨⟨hs, ⟨.inr h4, Nat.zero_le _⟩, hk.cur, hk.up, hk.zero⟩, Int.le_refl _, Int.le_refl _⟩
theorem com_P {F : Fw} {s : Ld} {N : Int} {K : Nat} (hk : FwK F s N K) (h4 : 0 ≤ F.sil ∧ F.sil ≤ 7) (m : Ms) : FwP F s (comF F s m) N K := by
 have hs := hk.l.more (M := N + 3000000000000) (by omega)
 unfold comF
 split
 ·exact lose_P hs hk.i.heard (Int.le_refl _)
 ·rename_i g
  have hph : F.ph = 3 := by omega
  refine ⟨⟨hs, ⟨.inr h4, hk.i.heard⟩, hk.cur, fun h => ?_, fun h => absurd hph h⟩, ?_, Int.le_refl _⟩
  ·have := hk.up hph
   show max F.com m.zx ≤ lastZ s.Λ
   omega
  ·show F.com ≤ max F.com m.zx
   omega
theorem up_P {F : Fw} {s : Ld} {N : Int} {K : Nat} (hk : FwK F s N K) (h4 : 0 ≤ F.sil ∧ F.sil ≤ 7) (m : Ms) : FwP F s (upF F s m) N K := by
 have hs := hk.l.more (M := N + 3000000000000) (by omega)
 unfold upF
 split
 ·exact lose_P hs hk.i.heard (Int.le_refl _)
 ·rename_i g
  have hph : F.ph = 2 := by omega
  have hc := hk.zero (by omega) (by omega)
  have hl := last_nonneg hk.l.w
  have hk' : FwK (F.toPh 3) s N K := ⟨hk.l, ⟨.inr h4, hk.i.heard⟩, fun _ => hk.cur (.inl hph), fun _ => by show F.com ≤ lastZ s.Λ; omega, fun h => absurd rfl h⟩
  have := com_P hk' h4 m
  exact ⟨this.k, this.com, this.acc⟩
theorem hush_K {F : Fw} {s : Ld} {N : Int} {K : Nat} (hk : FwK F s N K) {z : Int} (hz : 0 ≤ z ∧ z ≤ 7) : FwK (F.hush z) s N K := ⟨hk.l, ⟨.inr hz, hk.i.heard⟩, hk.cur, hk.up, hk.zero⟩
theorem hear1_P {p : HP} {F : Fw} {s : Ld} {N : Int} {K : Nat} (hk : FwK F s N K) (h4 : 0 ≤ F.sil ∧ F.sil ≤ 7) {m : Ms} (hm : MsA p m) : FwP F s (hearF1 F s m) N K ∧ (m.kind = 7 → lastZ (hearF1 F s m).2.1.Λ ≠ lastZ s.Λ → (lastZ (hearF1 F s m).2.1.Λ).tdiv 4294967296 = (hearF1 F s m).2.1.Λ.cur) := by
 have hs := hk.l.more (M := N + 3000000000000) (by omega)
 unfold hearF1
 split
 ·exact ⟨acc_P hk h4 m, fun h => by omega⟩
 split
 ·exact ⟨syn_P hk h4 hm, fun h => by omega⟩
 split
 ·exact ⟨(pro_P hk hm).1, fun _ => (pro_P hk hm).2⟩
 split
 ·exact ⟨ping_P hk h4 m, fun h => by omega⟩
 split
 ·exact ⟨up_P hk h4 m, fun h => by omega⟩
 split
 ·exact ⟨com_P hk h4 m, fun h => by omega⟩
 ·exact ⟨⟨⟨hs, hk.i, hk.cur, hk.up, hk.zero⟩, Int.le_refl _, Int.le_refl _⟩, fun _ h => absurd rfl h⟩
theorem hear_P {p : HP} {F : Fw} {s : Ld} {N : Int} {K : Nat} (hk : FwK F s N K) {m : Ms} (hm : MsA p m) : FwP F s (hearF F s m) N K ∧ (m.kind = 7 → lastZ (hearF F s m).2.1.Λ ≠ lastZ s.Λ → (lastZ (hearF F s m).2.1.Λ).tdiv 4294967296 = (hearF F s m).2.1.Λ.cur) := by
 have hs := hk.l.more (M := N + 3000000000000) (by omega)
 unfold hearF
 split
 ·exact ⟨⟨⟨hs, hk.i, hk.cur, hk.up, hk.zero⟩, Int.le_refl _, Int.le_refl _⟩, fun _ h => absurd rfl h⟩
 ·have := hear1_P (hush_K hk (z := 0) (by omega)) (by show 0 ≤ (0 : Int) ∧ (0 : Int) ≤ 7; omega) hm
  exact ⟨⟨this.1.k, this.1.com, this.1.acc⟩, this.2⟩
theorem tick_K {F : Fw} {s : Ld} {N : Int} {K : Nat} (hk : FwK F s N K) (l : List Int) : FwK (tickF F s l).1 s N (K + l.length) ∧ (tickF F s l).1.com = F.com := by
 have hh := hk.i.heard
 unfold tickF
 split
 ·exact ⟨⟨hk.l, ⟨hk.i.sil, by dsimp only; omega⟩, hk.cur, hk.up, hk.zero⟩, rfl⟩
 split
 ·exact ⟨lose_K hk.l (by show F.heard.length ≤ _; omega), rfl⟩
 ·rename_i g1 g2
  have h7 := hk.i.sil
  refine ⟨⟨hk.l, ⟨.inr ?_, ?_⟩, hk.cur, hk.up, hk.zero⟩, rfl⟩
  ·show 0 ≤ F.sil + 1 ∧ F.sil + 1 ≤ 7
   omega
  ·have h1 := Lib.compact_length_le (sortI (F.heard ++ l))
   rw [sortI_length, List.length_append] at h1
   show (Lib.compact (sortI (F.heard ++ l))).length ≤ _
   omega
abbrev pd (l : List Bool) (n : Nat) : Bool := l.getD n false
abbrev ox (l : List (List UInt8)) (n : Nat) : List UInt8 := l.getD n []
structure Rel (δ : Dk) (ρ : Rk) : Prop where
 ok : δ.Ok
 rok : ρ.Ok
 L : ρ.L = δ.now
 dead : δ.dead = ρ.Gone
 acts : δ.acts = ρ.N
 pend : ∀ n : Nat, pd ρ.Pend n = (alook δ.old (n : Int)).isSome
 old : ∀ n : Nat, n < δ.now.length → ox ρ.Old n = (alook δ.old (n : Int)).getD (ox δ.now n)
 arm : (δ.left = 0 ∧ (ρ.At = 0 ∨ δ.dead = true)) ∨ (0 < δ.left ∧ ρ.At = ρ.N + δ.left ∧ δ.dead = false) ∨ (ρ.At = 0 ∧ 4611686018427387904 < δ.left + ρ.N ∧ δ.dead = false)
theorem sortI_sorted (l : List Int) : (sortI l).Pairwise (· ≤ ·) := by
 have := List.pairwise_mergeSort (le := fun x y : Int => decide (x ≤ y)) (fun a b c h1 h2 => by simp only [decide_eq_true_eq] at *; omega) (fun a b => by simp only [Bool.or_eq_true, decide_eq_true_eq]; omega) l
 exact this.imp (fun h => by simpa using h)
theorem Rel.new (n : Nat) (hn : n ≤ 32768) : Rel (Dk.new n) (Rk.new n) := by
 have hrok : (Rk.new n).Ok := ⟨by simp [Rk.new], by simp [Rk.new], by simp [Rk.new]; omega, by simp [Rk.new, zs_len], by simp [Rk.new, zs_len]⟩
 refine ⟨Dk.new_ok (by simpa using hn), hrok, by simp [Rk.new, Dk.new], rfl, rfl, fun m => ?_, fun m hm => ?_, .inl ⟨rfl, .inl rfl⟩⟩
 ·simp only [pd, Rk.new, Dk.new, alook, Option.isSome_none, List.getD_eq_getElem?_getD, List.getElem?_replicate]
  split <;> rfl
 ·simp [Rk.new, Dk.new, alook]
theorem getD_set {α : Type} {l : List α} {i j : Nat} {a d : α} (hi : i < l.length) : (l.set i a).getD j d = if j = i then a else l.getD j d := by
 simp only [List.getD_eq_getElem?_getD, List.getElem?_set]
 by_cases h : i = j
 ·subst h; simp [hi]
 ·rw [if_neg h, if_neg (by omega)]
theorem Rel.has {δ : Dk} {ρ : Rk} (h : Rel δ ρ) (n : Int) : ρ.has n = δ.has n := by simp [Dk.has, Rk.has, h.L]
theorem Rel.act {δ : Dk} {ρ : Rk} (h : Rel δ ρ) (hd : δ.dead = false) (hN : ρ.N < 4611686018427387904) :
  δ.act.1.dead = ρ.act.Gone ∧ δ.act.2 = (if ρ.act.Gone then 2 else 0) ∧ δ.act.1.acts = ρ.act.N ∧
   ((δ.act.1.left = 0 ∧ (ρ.act.At = 0 ∨ δ.act.1.dead = true)) ∨ (0 < δ.act.1.left ∧ ρ.act.At = ρ.act.N + δ.act.1.left ∧ δ.act.1.dead = false) ∨ (ρ.act.At = 0 ∧ 4611686018427387904 < δ.act.1.left + ρ.act.N ∧ δ.act.1.dead = false)) := by
 have hg : ρ.Gone = false := by rw [← h.dead, hd]
 have ha := h.acts
 have h0 := h.ok.acts0
 have fin : ∀ (e l : Int) (d g : Bool), Go.Proofs.YteebpmkkdlabpaaGreat.actE δ.left = e → actL δ.left = l → actD δ.left δ.dead = d → (if ρ.At > 0 ∧ ρ.N + 1 = ρ.At then true else ρ.Gone) = g →
   (d = g ∧ e = (if g then 2 else 0) ∧ ((l = 0 ∧ (ρ.At = 0 ∨ d = true)) ∨ (0 < l ∧ ρ.At = ρ.N + 1 + l ∧ d = false) ∨ (ρ.At = 0 ∧ 4611686018427387904 < l + (ρ.N + 1) ∧ d = false))) →
   δ.act.1.dead = ρ.act.Gone ∧ δ.act.2 = (if ρ.act.Gone then 2 else 0) ∧ δ.act.1.acts = ρ.act.N ∧
   ((δ.act.1.left = 0 ∧ (ρ.act.At = 0 ∨ δ.act.1.dead = true)) ∨ (0 < δ.act.1.left ∧ ρ.act.At = ρ.act.N + δ.act.1.left ∧ δ.act.1.dead = false) ∨ (ρ.act.At = 0 ∧ 4611686018427387904 < δ.act.1.left + ρ.act.N ∧ δ.act.1.dead = false)) := by
  intro e l d g h1 h2 h3 h4 ⟨k1, k2, k3⟩
  simp only [Dk.act, Rk.act, h1, h2, h3, h4, ha]
  exact ⟨k1, k2, trivial, k3⟩
 rcases h.arm with ⟨h1, h2 | h2⟩ | ⟨h1, h2, -⟩ | ⟨h1, h2, -⟩
 ·exact fin 0 0 false false (by simp [Go.Proofs.YteebpmkkdlabpaaGreat.actE, h1]) (by simp [actL, h1]) (by simp [actD, h1, hd]) (by simp [h2, hg]) ⟨rfl, rfl, .inl ⟨rfl, .inl h2⟩⟩
 ·rw [hd] at h2; cases h2
 ·by_cases h3 : δ.left - 1 > 0
  ·exact fin 0 (δ.left - 1) false false (by unfold Go.Proofs.YteebpmkkdlabpaaGreat.actE; rw [if_neg (by omega), if_pos h3]) (by unfold actL; rw [if_neg (by omega)]) (by unfold actD; rw [if_neg (by omega), if_pos h3, hd]) (by rw [if_neg (by omega), hg]) ⟨rfl, rfl, .inr (.inl ⟨by omega, by omega, rfl⟩)⟩
  ·exact fin 2 (δ.left - 1) true true (by unfold Go.Proofs.YteebpmkkdlabpaaGreat.actE; rw [if_neg (by omega), if_neg h3]) (by unfold actL; rw [if_neg (by omega)]) (by unfold actD; rw [if_neg (by omega), if_neg h3]) (by rw [if_pos ⟨by omega, by omega⟩]) ⟨rfl, rfl, .inl ⟨by omega, .inr rfl⟩⟩
 ·have h3 : δ.left - 1 > 0 := by omega
  exact fin 0 (δ.left - 1) false false (by unfold Go.Proofs.YteebpmkkdlabpaaGreat.actE; rw [if_neg (by omega), if_pos h3]) (by unfold actL; rw [if_neg (by omega)]) (by unfold actD; rw [if_neg (by omega), if_pos h3, hd]) (by rw [if_neg (by omega), hg]) ⟨rfl, rfl, .inr (.inr ⟨h1, by omega, rfl⟩)⟩
theorem alook_asetR {β : Type} {m : List (Int × β)} {k : Int} {v : β} (h : alook m k = none) (x : Int) : alook (aset m k v) x = if x = k then some v else alook m x := by
 rw [aset_none h]
 by_cases hx : x = k
 ·subst hx; rw [alook_append_none h, if_pos rfl]; simp [alook]
 ·rw [alook_append_other hx, if_neg hx]
theorem Rel.write {δ : Dk} {ρ : Rk} (h : Rel δ ρ) (hN : ρ.N < 4611686018427387904) (n : Int) (s : List UInt8) : (δ.write n s).2 = (ρ.write n s).2 ∧ Rel (δ.write n s).1 (ρ.write n s).1 := by
 unfold Dk.write Rk.write
 rw [← h.dead, h.has]
 by_cases hd : δ.dead = true
 ·rw [if_pos hd, if_pos hd]; exact ⟨rfl, h⟩
 ·rw [if_neg hd, if_neg hd]
  by_cases hb : δ.has n = false ∨ s.length ≠ 64
  ·rw [if_pos hb, if_pos hb]; exact ⟨rfl, h⟩
  ·rw [if_neg hb, if_neg hb]
   have hh : δ.has n = true := by
    cases e : δ.has n with
    | true => rfl
    | false => exact absurd (.inl e) hb
   have hs : s.length = 64 := by
    rcases Nat.decEq s.length 64 with e | e
    ·exact absurd (.inr e) hb
    ·exact e
   obtain ⟨q0, q1, q2⟩ := has_lt hh
   have hd' : δ.dead = false := by simpa using hd
   obtain ⟨a1, a2, a3, a4⟩ := h.act hd' hN
   have hop := (h.ok.putOk hh hs).acted
   have hL := h.L
   have hp := h.rok.pend
   refine ⟨a2, hop, ?_, ?_, a1, a3, fun m => ?_, fun m hm => ?_, a4⟩
   ·refine ⟨by simp [h.rok.old, Rk.act], by simp [hp, Rk.act], by simp; exact h.rok.big, fun t ht => ?_, h.rok.olds⟩
    rcases List.mem_or_eq_of_mem_set ht with ht | rfl
    ·exact h.rok.sec t ht
    ·exact hs
   ·show ρ.L.set n.toNat s = δ.now.set n.toNat s
    rw [hL]
   ·show pd (ρ.Pend.set n.toNat true) m = (alook (δ.put n s).old (m : Int)).isSome
    rw [pd, getD_set (by rw [hp, hL]; exact q2)]
    simp only [Dk.put]
    rcases e : alook δ.old n with _ | o
    ·simp only [Option.isSome_none, Bool.false_eq_true, if_false]
     rw [alook_asetR e]
     by_cases hm : m = n.toNat
     ·rw [if_pos hm, if_pos (by omega)]; rfl
     ·rw [if_neg hm, if_neg (by omega)]; exact h.pend m
    ·simp only [Option.isSome_some, if_true]
     by_cases hm : m = n.toNat
     ·rw [if_pos hm, show (m : Int) = n by omega, e]; rfl
     ·rw [if_neg hm]; exact h.pend m
   ·have hm' : m < δ.now.length := by simpa [Dk.act, Dk.put] using hm
    have ho := h.old m hm'
    show ox ρ.Old m = (alook (δ.put n s).old (m : Int)).getD (ox (δ.now.set n.toNat s) m)
    rw [ho, ox, ox, getD_set q2]
    simp only [Dk.put]
    rcases e : alook δ.old n with _ | o
    ·simp only [Option.isSome_none, Bool.false_eq_true, if_false]
     rw [alook_asetR e]
     by_cases hmn : m = n.toNat
     ·have : (m : Int) = n := by omega
      rw [if_pos this, this, e, hmn]; rfl
     ·rw [if_neg (by omega : ¬ (m : Int) = n), if_neg hmn]
    ·simp only [Option.isSome_some, if_true]
     by_cases hmn : m = n.toNat
     ·rw [show (m : Int) = n by omega, e]; rfl
     ·rw [if_neg hmn]
theorem Rel.sync {δ : Dk} {ρ : Rk} (h : Rel δ ρ) (hN : ρ.N < 4611686018427387904) : δ.sync.2 = ρ.sync.2 ∧ Rel δ.sync.1 ρ.sync.1 := by
 unfold Dk.sync Rk.sync
 rw [← h.dead]
 by_cases hd : δ.dead = true
 ·rw [if_pos hd, if_pos hd]; exact ⟨rfl, h⟩
 ·rw [if_neg hd, if_neg hd]
  have hd' : δ.dead = false := by simpa using hd
  obtain ⟨a1, a2, a3, a4⟩ := h.act hd' hN
  rw [a2]
  by_cases hg : ρ.act.Gone = true
  ·rw [if_pos hg, if_pos hg, if_neg (by decide)]
   exact ⟨rfl, h.ok.acted, ⟨h.rok.old, h.rok.pend, h.rok.big, h.rok.sec, h.rok.olds⟩, h.L, a1, a3, h.pend, h.old, a4⟩
  ·rw [if_neg hg, if_neg hg, if_pos rfl]
   refine ⟨rfl, h.ok.acted.cleared, ⟨rfl, by simp [Rk.act], h.rok.big, h.rok.sec, h.rok.sec⟩, h.L, a1, a3, fun m => ?_, fun m hm => ?_, a4⟩
   ·simp only [pd, alook, Option.isSome_none, List.getD_eq_getElem?_getD, List.getElem?_map]
    cases ρ.L[m]? <;> rfl
   ·show ox ρ.L m = _
    rw [h.L]; rfl
theorem Rel.arms {δ : Dk} {ρ : Rk} (h : Rel δ ρ) (n : Int) (hn : n ≤ 9223372036854775807) : (δ.arm n).2 = (ρ.arm n).2 ∧ Rel (δ.arm n).1 (ρ.arm n).1 := by
 unfold Dk.arm Rk.arm
 rw [← h.dead]
 by_cases hd : δ.dead = true
 ·rw [if_pos hd, if_pos hd]; exact ⟨rfl, h⟩
 ·rw [if_neg hd, if_neg hd]
  by_cases h0 : n < 0
  ·rw [if_pos h0, if_pos h0]; exact ⟨rfl, h⟩
  ·rw [if_neg h0, if_neg h0]
   have hd' : δ.dead = false := by simpa using hd
   have hN0 : 0 ≤ ρ.N := by rw [← h.acts]; exact h.ok.acts0
   refine ⟨rfl, ⟨h.ok.sec, h.ok.olds, h.ok.nodup, h.ok.big, h.ok.acts0, by simp; omega⟩, ⟨h.rok.old, h.rok.pend, h.rok.big, h.rok.sec, h.rok.olds⟩, h.L, rfl, h.acts, h.pend, h.old, ?_⟩
   show (n = 0 ∧ ((if n > 0 ∧ n ≤ 4611686018427387904 then ρ.N + n else 0) = 0 ∨ δ.dead = true)) ∨ (0 < n ∧ (if n > 0 ∧ n ≤ 4611686018427387904 then ρ.N + n else 0) = ρ.N + n ∧ δ.dead = false) ∨ ((if n > 0 ∧ n ≤ 4611686018427387904 then ρ.N + n else 0) = 0 ∧ 4611686018427387904 < n + ρ.N ∧ δ.dead = false)
   by_cases h1 : n > 0 ∧ n ≤ 4611686018427387904
   ·rw [if_pos h1]; exact .inr (.inl ⟨h1.1, rfl, hd'⟩)
   ·rw [if_neg h1]
    by_cases h2 : n = 0
    ·exact .inl ⟨h2, .inl rfl⟩
    ·exact .inr (.inr ⟨rfl, by omega, hd'⟩)
/-! ### Numbers -/
/-! ### A right mark -/
/-! ### Steps -/
/-! ### A log of the document's -/
def rlR (y x : Nat) (ω : Wl) : HP := fun h => ∃ v : Value, sep [ptc y [vptr x, v, vint ω.synced, vint ω.area, vint ω.count, vint ω.a, vint ω.b, .bool ω.doubt] 185, strR v ω.recs] h
section
variable {W : World} {n : Nat} {ds : List Deferred} {E : Env} {L R : List HP} {X : Act → World → Prop}
theorem G.rlOpen {y x : Nat} {ω : Wl} (hL : Pick (rlR y x ω) L R) (h : ∀ v, G W n ds E (ptc y [vptr x, v, vint ω.synced, vint ω.area, vint ω.count, vint ω.a, vint ω.b, .bool ω.doubt] 185 :: strR v ω.recs :: R) X) : G W n ds E L X :=
 G.focus hL (G.open (q := fun v : Value => [ptc y [vptr x, v, vint ω.synced, vint ω.area, vint ω.count, vint ω.a, vint ω.b, .bool ω.doubt] 185, strR v ω.recs]) (φ := fun _ => True) (fun _ ⟨v, hv⟩ => ⟨v, trivial, hv⟩) fun v _ => h v)
theorem G.rlFold {y x m : Nat} {ω : Wl} {v : Value} {l ys : List Value} (hL : Picks [ptc y l 185, slR 9 1 v m ys] L R) (h0 : l = [vptr x, v, vint ω.synced, vint ω.area, vint ω.count, vint ω.a, vint ω.b, .bool ω.doubt]) (h1 : m = ω.recs.length) (h2 : ys = strs ω.recs)
  (h : G W n ds E (rlR y x ω :: R) X) : G W n ds E L X := by
 subst h0; subst h1; subst h2
 exact G.fold hL (fun _ hp => ⟨v, hp⟩) h
theorem G.rl {y x m : Nat} {ω : Wl} {v : Value} {l ys : List Value} (h : G W n ds E (rlR y x ω :: R) X) (hL : Picks [ptc y l 185, slR 9 1 v m ys] L R := by repeat' constructor) (h0 : l = [vptr x, v, vint ω.synced, vint ω.area, vint ω.count, vint ω.a, vint ω.b, .bool ω.doubt] := by exact rfl) (h1 : m = ω.recs.length := by first | rfl | simp) (h2 : ys = strs ω.recs := by first | rfl | simp [strs]) : G W n ds E L X := G.rlFold hL h0 h1 h2 h
end
/-! ### Two disks that are the same -/
/- not in this seat -/
def nthZ (n : Int) : Nat → Int
 | 0 => n
 | j + 1 => nthZ n j / 256
theorem nthZ_pow (n : Int) (j : Nat) : nthZ n j = n / 256 ^ j := by
 induction j with
 | zero => rw [nthZ, Int.pow_zero, Int.ediv_one]
 | succ j ih => rw [nthZ, ih, Int.ediv_ediv_of_nonneg (Int.le_of_lt (Int.pow_pos (by decide))), Int.pow_succ]
theorem rbig_le {n : Int} (h : 0 ≤ n ∧ n ≤ 9223372036854775807) (j : Nat) : 0 ≤ nthZ n j ∧ nthZ n j ≤ 9223372036854775807 := by
 rw [nthZ_pow]
 have hp : (0 : Int) < 256 ^ j := Int.pow_pos (by decide)
 exact ⟨Int.ediv_nonneg h.1 (Int.le_of_lt hp), Int.le_trans (Int.ediv_le_self _ h.1) h.2⟩
def dnZ (k : Int) : Nat → Int
 | 0 => k - 1
 | j + 1 => dnZ k j - 1
theorem dnZ_eq (k : Int) (j : Nat) : dnZ k j = k - 1 - j := by
 induction j with
 | zero => rw [dnZ]; omega
 | succ j ih => rw [dnZ, ih]; omega
theorem u8_mod (x : Int) : Value.int .u8 (IntKind.u8.wrap (x % 256)) = vbyte (byteZ x) := by
 rw [vbyteZ]; congr 1; show x % 256 % 256 = x % 256; omega
theorem rbig_spec (n : Int) (k : Nat) (h0 : 0 ≤ n ∧ n ≤ 9223372036854775807) (hk : k ≤ 8) : Fn Tryz.prog 193 #[vint n, vint k] [] fun v L => v = vstr (beB n k) ∧ L = [] := by
 refine Fn.intro Tryz.func193 rfl rfl fun F W => ?_
 refine .sr (.an rfl (.sm rfl (.oq (.make rfl rfl el_159 ze_5 rfl ⟨by simp, by simp; rfl⟩ ?c3) ?_)))
 case c3 => omega
 rintro v L' ⟨bz, rfl, rfl⟩
 refine .a rfl (.nil ?_)
 simp only [Int.toNat_natCast, Nat.mul_one]
 refine .ptCast (b := bz) (l' := fillB (List.replicate k zB) 0 n k 0) (by repeat' constructor) (fillB_0 _ _ _ _).symm (.then_n (.seq (.sm rfl (.q (.sub rfl rfl (by omega)) rfl (.an rfl (.block (.loopK (ι := Nat) (fun q E => (6, vint (dnZ k q)) :: (0, vint (nthZ n q)) :: E) (fun q => [ptc bz (fillB (List.replicate k zB) 0 n k q) 5]) (fun q => q ≤ k) (fun q => k - q) (0) (ts := [4, 5]) (.cons rfl (.cons rfl (.nil))) (Nat.zero_le _) ⟨rfl, rfl, rfl, rfl, trivial⟩ (by repeat' constructor) ?_)))))))
 rintro j hj
 have hdn := dnZ_eq (k : Int) j
 refine .seq (.sm rfl (.ui rfl rfl rfl (.nt (.condD rfl (fun h12 => ?_) (fun h12 => ?_)))))
 ·have hj2 : j < k := by omega
  have hq := rbig_le h0 j
  have hfl := fillB_len (l := List.replicate k zB) (off := 0) (n := n) (k := k) (i := j) (by omega) (by simp)
  rw [List.length_replicate] at hfl
  refine .sk (.seq (.block (.sm rfl (.m rfl (.m rfl (.q (.remE rfl rfl hq.1 (by decide)) rfl (.q (.as (v' := vbyte (byteZ (n / 256 ^ j))) (by rw [← nthZ_pow]; exact u8_mod _) (.conv rfl Tryz.underlying3 Tryz.underlying5)) rfl (.q (.indexAddr rfl rfl el_159 (by omega)) rfl (.oq (.store rfl rfl rfl sz_5 ?c16 (nfz0 _ _)) ?_)))))))))
  case c16 => omega
  rintro v L' rfl
  refine .nt (.region (.m rfl (.q (.to (v' := vint (nthZ n (j + 1))) (.quoE rfl rfl hq (by decide)) rfl) rfl (.a rfl (.nil (.blk_n (.then_n (.region (.m rfl (.q (.sub rfl rfl (by omega)) rfl (.an rfl ?_)))))))))))
  rw [show 0 + (dnZ (k : Int) j).toNat * 1 = 0 + (k - 1 - j) by omega, fillB_step hj2 (by simp)]
  exact .rk (j + 1) (by omega) (by omega) ⟨rfl, rfl, rfl, rfl, trivial⟩
 obtain rfl : j = k := by omega
 refine .ptCast (b := bz) (l' := bysL (beB n j)) (by repeat' constructor) (by rw [fillB_k]; exact spl_all (by simp [bysL_len, beB_len])) (.exit (.then_e (.then_e (.blk_e (.then_n (.sm rfl (.q (.bytesPt (cs := beB n j) rfl Tryz.underlying159 Tryz.underlying5 Tryz.underlying9 (by repeat' constructor) (by rw [List.drop_zero]; exact List.take_of_length_le (by rw [bysL_len, beB_len]; omega)) (by rw [bysL_len, beB_len]; omega) (by omega)) rfl (.an rfl (.ret ?_)))))))))
 exact .vv
theorem rrecord_spec (s : Bs) (hs : s.length ≤ 2147483648) : Fn Tryz.prog 147 #[vstr s] [] fun v L => v = vstr (recZ s) ∧ L = [] := by
 refine Fn.intro Tryz.func147 rfl rfl fun F W => ?_
 have hsum := sumZ_range (headZ s)
 have hh : (headZ s).length = s.length + 2 := by simp [headZ, beB_len]; omega
 have hb2 := beB_len 2 (s.length : Int)
 have hb4 := beB_len 4 (sumZ (headZ s))
 have hap : (beB (s.length : Int) 2 ++ s).length = s.length + 2 := hh
 refine .sr (.an rfl (.sm rfl (.q (.strlen rfl Tryz.underlying9 rfl) rfl (.cv Tryz.func193 [_, _] (rbig_spec s.length 2 (by omega) (by decide)) ?_))))
 refine .m rfl (.q (.concat rfl rfl (by omega)) rfl (.an rfl (.sm rfl (.m rfl (.cv Tryz.func194 [_] (rsum_spec (headZ s) (by omega)) ?_)))))
 refine .q (.as (v' := vint (sumZ (headZ s))) (by rw [i64w (by omega)]) (.conv rfl Tryz.underlying200 Tryz.underlying3)) rfl (.cv Tryz.func193 [_, _] (rbig_spec (sumZ (headZ s)) 4 (by omega) (by decide)) ?_)
 refine .q (.concat rfl rfl (by omega)) rfl (.an rfl (.ret ?_))
 exact .vv
/- not in this seat -/
theorem rsize_spec (va : Value) (l : List Bs) (p : HP) (hp : ∀ h : Hp, p h → rdS 1 h va l.length (strs l)) (hll : (laidZ l).length ≤ 4000000000000) : Fn Tryz.prog 143 #[va] [p] fun v L => v = vint (laidZ l).length ∧ L = [p] := by
 refine Fn.intro Tryz.func143 rfl rfl fun F W => ?_
 have hlm := laidZ_many l
 refine .rdAny (p := p) hp (by repeat' constructor) fun aa ca e _ => ?_
 subst e
 refine .sr (.an rfl (.sr (.an rfl (.seq (.sr (.an rfl (.block (.loopK (ι := Nat) (fun q E => (4, vint q) :: (3, vint (laidZ (l.take q)).length) :: E) (fun q => []) (fun q => q ≤ l.length) (fun q => l.length - q) (0) (ts := [0, 2]) (.cons rfl (.cons rfl (.nil))) (Nat.zero_le _) ⟨rfl, rfl, rfl, rfl, trivial⟩ (by repeat' constructor) ?_))))))))
 rintro i hi
 refine .seq (.sm rfl (.m rfl (.q (.slen rfl Tryz.underlying39 rfl) rfl (.ui rfl rfl rfl (.nt (.condD rfl (fun h8 => ?_) (fun h8 => ?_)))))))
 ·have hi2 : i < l.length := by omega
  refine .rdShape (p := p) hp (by repeat' constructor) (by omega) fun ba oa e => ?_
  subst e
  have hts := laidZ_take_len l (i + 1)
  have hsu : (laidZ (l.take (i + 1))).length = (laidZ (l.take i)).length + l[i].length + 6 := by rw [laidZ_succ hi2, List.length_append, recZ_len]; omega
  refine .sk (.seq (.block (.region (.m rfl (.m rfl (.m rfl (.q (.indexAddr rfl rfl el_39 (by omega)) rfl (.q (.loadRd (sz := 1) (j := i) (p := p) (v := vstr l[i]) rfl ag_9 (by repeat' constructor) hp (by simp) (by simp [hi2])) rfl (.q (.strlen rfl Tryz.underlying9 rfl) rfl (.q (.add rfl rfl (by omega)) rfl (.q (.as (v' := vint (laidZ (l.take (i + 1))).length) (by rw [hsu]; exact congrArg (Value.int .i64) (by omega)) (.add rfl rfl (by omega))) rfl (.a rfl (.nil (.blk_n (.then_n (.region (.m rfl (.q (.add rfl rfl (by omega)) rfl (.an rfl ?_)))))))))))))))))))
  exact .rk (i + 1) (by omega) (by omega) ⟨rfl, rfl, rfl, rfl, trivial⟩
 refine .exit (.then_e (.then_e (.blk_e (.then_n (.sm rfl (.an rfl (.ret ?_)))))))
 exact .dn rfl rfl ⟨by have hi3 : i = l.length := (by omega); rw [hi3, List.take_length], rfl⟩
/- not in this seat -/
/- not in this seat -/
def dsR (x : Nat) (δ : Dk) : HP := fun h => ∃ ρ : Rk, (Rel δ ρ ∧ 0 ≤ ρ.N) ∧ sep [rkR x ρ] h
section
variable {P : Program} {W : World} {n : Nat} {ds : List Deferred} {E : Env} {L R : List HP} {X : Act → World → Prop}
theorem G.dsOpen {x : Nat} {δ : Dk} (hL : Pick (dsR x δ) L R) (h : ∀ ρ, Rel δ ρ → 0 ≤ ρ.N → G W n ds E (rkR x ρ :: R) X) : G W n ds E L X :=
 G.focus hL (G.open (q := fun ρ : Rk => [rkR x ρ]) (φ := fun ρ => Rel δ ρ ∧ 0 ≤ ρ.N) (fun _ hp => hp) fun ρ hr => h ρ hr.1 hr.2)
theorem G.dsFold {x : Nat} {δ : Dk} {ρ : Rk} (hL : Picks [rkR x ρ] L R) (hr : Rel δ ρ) (hn : 0 ≤ ρ.N) (h : G W n ds E (dsR x δ :: R) X) : G W n ds E L X :=
 G.fold hL (fun _ hp => ⟨ρ, ⟨hr, hn⟩, hp⟩) h
theorem Fn.dsUp {f : FuncId} {args : Array Value} {x : Nat} {δ δ' : Dk} {u : Value} (h : ∀ ρ, Rel δ ρ → 0 ≤ ρ.N → Fn P f args [rkR x ρ] fun v L => ∃ ρ', (Rel δ' ρ' ∧ 0 ≤ ρ'.N) ∧ v = u ∧ L = [rkR x ρ']) :
  Fn P f args [dsR x δ] fun v L => v = u ∧ L = [dsR x δ'] := by
 intro F w hs
 obtain ⟨h1, h2, hd, a1, a2, ⟨ρ, ⟨hr, hn⟩, hp⟩, hF⟩ := hs
 have hs' : St ([rkR x ρ] ++ F) w := sep_flat ⟨h1, h2, hd, a1, a2, hp, hF⟩
 refine (h ρ hr hn F w hs').mono ?_
 rintro e w' ⟨v, L, ⟨ρ', h3, rfl, rfl⟩, he, hs2, hk⟩
 refine ⟨_, _, ⟨rfl, rfl⟩, he, sep_imp (fun hh hq => ⟨ρ', h3, hh, fun _ => none, fun _ => .inr rfl, fun _ _ e => e, fun _ _ e => (by cases e), hq, trivial⟩) hs2, hk⟩
end
theorem rk_write_N (ρ : Rk) (n : Int) (s : Bs) (h : 0 ≤ ρ.N) : 0 ≤ (ρ.write n s).1.N := by
 unfold Rk.write
 split
 ·exact h
 ·split
  ·exact h
  ·show 0 ≤ ρ.N + 1; omega
theorem rk_sync_N (ρ : Rk) (h : 0 ≤ ρ.N) : 0 ≤ ρ.sync.1.N := by
 unfold Rk.sync
 split
 ·exact h
 ·split
  ·show 0 ≤ ρ.N + 1; omega
  ·show 0 ≤ ρ.N + 1; omega
theorem dswrite_spec (x : Nat) (δ : Dk) (n : Int) (s : Bs) (hA : δ.acts < 4611686018427387904) : Fn Tryz.prog 140 #[vptr x, vint n, vstr s] [dsR x δ] fun v L => v = vint (δ.write n s).2 ∧ L = [dsR x (δ.write n s).1] :=
 Fn.dsUp fun ρ hr hn => (rwrite_spec x ρ n s ⟨hn, by rw [← hr.acts]; exact hA⟩).mono fun v L ⟨h1, h2⟩ => by
  obtain ⟨q1, q2⟩ := hr.write (by rw [← hr.acts]; exact hA) n s
  exact ⟨_, ⟨q2, rk_write_N ρ n s hn⟩, by rw [h1, q1], h2⟩
theorem dssync_spec (x : Nat) (δ : Dk) (hA : δ.acts < 4611686018427387904) : Fn Tryz.prog 142 #[vptr x] [dsR x δ] fun v L => v = vint δ.sync.2 ∧ L = [dsR x δ.sync.1] :=
 Fn.dsUp fun ρ hr hn => (rsync_spec x ρ ⟨hn, by rw [← hr.acts]; exact hA⟩).mono fun v L ⟨h1, h2⟩ => by
  obtain ⟨q1, q2⟩ := hr.sync (by rw [← hr.acts]; exact hA)
  exact ⟨_, ⟨q2, rk_sync_N ρ hn⟩, by rw [h1, q1], h2⟩
abbrev lc (y x : Nat) (vr : Value) (sy ar ct a b : Int) (db : Bool) : HP := ptc y [vptr x, vr, vint sy, vint ar, vint ct, vint a, vint b, .bool db] 185
theorem laySec_eq (all : Bs) (i : Nat) (h : i * 64 < all.length) : ((all.take (min ((i + 1) * 64) all.length)).drop (i * 64)) ++ List.replicate (64 - ((all.take (min ((i + 1) * 64) all.length)).drop (i * 64)).length) 0 = laySec all i := by
 unfold laySec
 have e : (all.take (min ((i + 1) * 64) all.length)).drop (i * 64) = (all.drop (i * 64)).take 64 := by
  rw [List.drop_take]
  rcases Nat.le_total ((i + 1) * 64) all.length with g | g
  ·rw [Nat.min_eq_left g, show (i + 1) * 64 - i * 64 = 64 by omega]
  ·rw [Nat.min_eq_right g, List.take_of_length_le (by rw [List.length_drop]; exact Nat.le_refl _), List.take_of_length_le (by rw [List.length_drop]; omega)]
 rw [e]
 try rfl
theorem rall_spec (va : Value) (l : List Bs) (p : HP) (hp : ∀ h : Hp, p h → rdS 1 h va l.length (strs l)) (hll : (laidZ l).length ≤ 2100000000) : Fn Tryz.prog 146 #[va] [p] fun v L => v = vstr (laidZ l) ∧ L = [p] := by
 refine Fn.intro Tryz.func146 rfl rfl fun F W => ?_
 have hlm := laidZ_many l
 refine .rdAny (p := p) hp (by repeat' constructor) fun aa ca e _ => ?_
 subst e
 refine .sr (.an rfl (.sr (.an rfl (.seq (.sr (.an rfl (.block (.loopK (ι := Nat) (fun q E => (4, vint q) :: (3, vstr (laidZ (l.take q))) :: E) (fun q => []) (fun q => q ≤ l.length) (fun q => l.length - q) (0) (ts := [0, 2]) (.cons rfl (.cons rfl (.nil))) (Nat.zero_le _) ⟨rfl, rfl, rfl, rfl, trivial⟩ (by repeat' constructor) ?_))))))))
 rintro i hi
 refine .seq (.sm rfl (.m rfl (.q (.slen rfl Tryz.underlying39 rfl) rfl (.ui rfl rfl rfl (.nt (.condD rfl (fun h8 => ?_) (fun h8 => ?_)))))))
 ·have hi2 : i < l.length := by omega
  refine .rdShape (p := p) hp (by repeat' constructor) (by omega) fun ba oa e => ?_
  subst e
  have hts := laidZ_take_len l (i + 1)
  have hsu := laidZ_succ hi2
  have hsl : (laidZ (l.take (i + 1))).length = (laidZ (l.take i)).length + l[i].length + 6 := by rw [hsu, List.length_append, recZ_len]; omega
  refine .sk (.seq (.block (.region (.m rfl (.m rfl (.m rfl (.q (.indexAddr rfl rfl el_39 (by omega)) rfl (.q (.loadRd (sz := 1) (j := i) (p := p) (v := vstr l[i]) rfl ag_9 (by repeat' constructor) hp (by simp) (by simp [hi2])) rfl (.cv Tryz.func147 [_] (rrecord_spec l[i] (by omega)) ?_)))))))))
  refine .q (.as (v' := vstr (laidZ (l.take (i + 1)))) (by rw [hsu]) (.concat rfl rfl (by rw [recZ_len]; omega))) rfl (.a rfl (.nil (.blk_n (.then_n (.region (.m rfl (.q (.add rfl rfl (by omega)) rfl (.an rfl ?_))))))))
  exact .rk (i + 1) (by omega) (by omega) ⟨rfl, rfl, rfl, rfl, trivial⟩
 refine .exit (.then_e (.then_e (.blk_e (.then_n (.sm rfl (.an rfl (.ret ?_)))))))
 exact .dn rfl rfl ⟨by have hi3 : i = l.length := (by omega); rw [hi3, List.take_length], rfl⟩
theorem rmark4_spec (c ar a b : Int) (va : Value) (l : List Bs) (p : HP) (hp : ∀ h : Hp, p h → rdS 1 h va l.length (strs l)) (hll : (laidZ l).length ≤ 2100000000) (hc : 0 ≤ c ∧ c ≤ 4294967296) (har : 0 ≤ ar ∧ ar ≤ 1) (ha : 0 ≤ a ∧ a ≤ 9223372036854775807) (hb : 0 ≤ b ∧ b ≤ 9223372036854775807) : Fn Tryz.prog 141 #[vint c, vint ar, va, vint a, vint b] [p] fun v L => v = vstr (⟨c, ar, (laidZ l).length, l.length, a, b⟩ : Mk).sec ∧ L = [p] := by
 refine Fn.intro Tryz.func141 rfl rfl fun F W => ?_
 have hlm := laidZ_many l
 have e4 := beB_len 4
 have e1 := beB_len 1
 have e8 := beB_len 8
 refine .rdAny (p := p) hp (by repeat' constructor) fun aa ca e _ => ?_
 subst e
 refine .sr (.an rfl (.sm rfl (.cv Tryz.func193 [_, _] (rbig_spec c 4 (by omega) (by decide)) ?_)))
 refine .q (.concat rfl rfl (by simp only [List.length_append, beB_len, List.length_cons, List.length_nil]; omega)) rfl (.m rfl (.cv Tryz.func193 [_, _] (rbig_spec ar 1 (by omega) (by decide)) ?_))
 refine .q (.concat rfl rfl (by simp only [List.length_append, beB_len, List.length_cons, List.length_nil]; omega)) rfl (.m rfl (.oq (.call Tryz.func143 rfl rfl (vs := [_]) rfl (rsize_spec _ l p hp (by omega))) ?_))
 rintro v L' ⟨rfl, rfl⟩
 refine .cv Tryz.func193 [_, _] (rbig_spec ((laidZ l).length : Nat) 4 (by omega) (by decide)) ?_
 refine .q (.concat rfl rfl (by simp only [List.length_append, beB_len, List.length_cons, List.length_nil]; omega)) rfl (.m rfl (.q (.slen rfl Tryz.underlying39 rfl) rfl (.cv Tryz.func193 [_, _] (rbig_spec (l.length : Nat) 4 (by omega) (by decide)) ?_)))
 refine .q (.concat rfl rfl (by simp only [List.length_append, beB_len, List.length_cons, List.length_nil]; omega)) rfl (.m rfl (.cv Tryz.func193 [_, _] (rbig_spec a 8 (by omega) (by decide)) ?_))
 refine .q (.concat rfl rfl (by simp only [List.length_append, beB_len, List.length_cons, List.length_nil]; omega)) rfl (.m rfl (.cv Tryz.func193 [_, _] (rbig_spec b 8 (by omega) (by decide)) ?_))
 refine .q (.concat rfl rfl (by simp only [List.length_append, beB_len, List.length_cons, List.length_nil]; omega)) rfl (.an rfl (.seq (.draw [1] [[0, 4, 5, 1, 2, 3], [6, 7]] mixed (by kernel_rfl) (.g0 (.k rfl (.move rfl) (.k rfl (.move rfl) (.m rfl (by kernel_rfl) (.c Tryz.func193 [_, _] (rbig_spec c 4 (by omega) (by decide))) (by repeat' constructor) ?_)))))))
 refine D.hh rfl (.make rfl rfl el_159 ze_5 rfl ⟨by simp, by simp; rfl⟩ ?c32) ?_
 case c32 => omega
 rintro v L' ⟨bz, rfl, rfl⟩
 refine D.kv rfl (.bytesPt (cs := List.replicate 29 0) rfl Tryz.underlying159 Tryz.underlying5 Tryz.underlying9 (by repeat' constructor) (by first | (simp [List.map_replicate]; done) | (simp [List.map_replicate]; rfl)) (by simp) (by decide)) (.kv rfl (.concat rfl rfl (by simp only [List.length_append, beB_len, List.length_cons, List.length_nil, List.length_replicate]; omega)) (.ph (.g0 (.kv rfl (.concat rfl rfl (by simp only [List.length_append, beB_len, List.length_cons, List.length_nil, List.length_replicate]; omega)) (.kv rfl (.assign rfl) (.pf (.ret ?_)))))))
 exact .vv
theorem rdead_spec (y x : Nat) (vr : Value) (sy ar ct a b : Int) (db : Bool) : Fn Tryz.prog 148 #[vptr y] [lc y x vr sy ar ct a b db] fun v L => v = vint 2 ∧ L = [lc y x vr sy ar ct a b true] := by
 refine Fn.intro Tryz.func148 rfl rfl fun F W => ?_
 refine .sr (.an rfl (.sm rfl (.nf rfl fo_185_7 (.st rfl rfl rfl sz_4 ?_))))
 refine .nt (.sr (.an rfl (.ret ?_)))
 exact .vv
theorem dshalf_spec (x : Nat) (δ : Dk) (hn : 2 ≤ δ.now.length ∧ δ.now.length ≤ 32768) : Fn Tryz.prog 144 #[vptr x] [dsR x δ] fun v L => v = vint (halfZ δ) ∧ L = [dsR x δ] := by
 refine Fn.intro Tryz.func144 rfl rfl fun F W => ?_
 refine .dsOpen (by repeat' constructor) fun ρ hr hN => (.rkOpen (by repeat' constructor) fun vL vO vP hok => (.slAny (v := vL) (by repeat' constructor) fun aL cL e _ => ?_))
 subst e
 have hL := hr.L
 have hLl : ρ.L.length = δ.now.length := by rw [hL]
 refine .sr (.an rfl (.sm rfl (.nf rfl fo_118_0 (.u (.ld rfl ag_39) (.q (.slen rfl Tryz.underlying39 rfl) rfl (.q (.sub rfl rfl (by omega)) rfl (.q (.quoE rfl rfl (by omega) (by decide)) rfl (.an rfl (.ret (.rkFold (ρ := ρ) (by repeat' constructor) rfl ⟨rfl, rfl⟩ ⟨rfl, rfl⟩ ⟨rfl, rfl⟩ hok (.dsFold (δ := δ) (by repeat' constructor) hr hN ?_)))))))))))
 exact .dn rfl rfl ⟨by unfold halfZ; rw [← hLl], rfl⟩
theorem lay_go {f : Nat} {δ : Dk} {area : Int} {all : Bs} {i : Nat} (h : i * 64 < all.length) : layF (f + 1) δ area all i = if (δ.write (2 + area * halfZ δ + i) (laySec all i)).2 ≠ 0 then ((δ.write (2 + area * halfZ δ + i) (laySec all i)).1, 2) else layF f (δ.write (2 + area * halfZ δ + i) (laySec all i)).1 area all (i + 1) := by
 show (if i * 64 < all.length then _ else _) = _
 rw [if_pos h]
theorem area_mul {area h : Int} (ha : 0 ≤ area ∧ area ≤ 1) (hh : 0 ≤ h ∧ h ≤ 16383) : 0 ≤ area * h ∧ area * h ≤ 16383 := by
 rcases (show area = 0 ∨ area = 1 by omega) with rfl | rfl
 ·omega
 ·omega
theorem rlays_spec (x : Nat) (area : Int) (s : Bs) (frm : Nat) (δ : Dk) (hn0 : 2 ≤ δ.now.length ∧ δ.now.length ≤ 32768) (har : 0 ≤ area ∧ area ≤ 1) (hs : s.length ≤ 4000000) (hf : frm ≤ 4000000) (hA : δ.acts + 9000000 < 4611686018427387904) : Fn Tryz.prog 145 #[vptr x, vint area, vstr s, vint frm] [dsR x δ] fun v L => ∃ e, (e = 0 ↔ (layZ δ area s frm).2 = 0) ∧ v = vint e ∧ L = [dsR x (layZ δ area s frm).1] := by
 refine Fn.intro Tryz.func145 rfl rfl fun F W => ?_
 refine .sr (.an rfl (.seq (.sm rfl (.q (.to (v' := vint ((frm / 64 : Nat) : Int)) (.quoE rfl rfl (by omega) (by decide)) (by rfl)) rfl (.an rfl (.block (.loopK (ι := Nat × Nat × Dk) (fun q E => (9, vint q.1) :: E) (fun q => [dsR x q.2.2]) (fun q => layF q.2.1 q.2.2 area s q.1 = layZ δ area s frm ∧ s.length + 1 ≤ q.2.1 + q.1 ∧ q.1 ≤ 4000001 + frm ∧ q.2.2.now.length = δ.now.length ∧ q.2.2.acts ≤ δ.acts + q.1) (fun q => s.length - q.1) (frm / 64, s.length + 1, δ) (ts := [0, 1, 2]) (.cons rfl (.cons rfl (.cons rfl (.nil)))) (⟨rfl, by dsimp only; omega, by dsimp only; omega, rfl, by dsimp only; omega⟩) ⟨rfl, rfl, rfl, rfl, trivial⟩ (by repeat' constructor) ?_)))))))
 rintro ⟨i, f, σ⟩ ⟨hl, hfu, hib, hnl, hac⟩
 dsimp only
 dsimp only at hl hfu hib hnl hac
 refine .seq (.sm rfl (.q (.as (v' := vint ((i * 64 : Nat) : Int)) (by first | rfl | (congr 1; omega)) (.mul rfl rfl (by omega))) rfl (.m rfl (.q (.strlen rfl Tryz.underlying9 rfl) rfl (.ui rfl rfl rfl (.nt (.condD rfl (fun h18 => ?_) (fun h18 => ?_))))))))
 ·obtain ⟨f', rfl⟩ : ∃ f', f = f' + 1 := ⟨f - 1, by omega⟩
  have hn : 2 ≤ σ.now.length ∧ σ.now.length ≤ 32768 := by omega
  have hhl := half_le hn
  have ham := area_mul har hhl
  refine .sk (.seq (.block (.sm rfl (.m rfl (.q (.as (v' := vint ((i * 64 : Nat) : Int)) (by first | rfl | (congr 1; omega)) (.mul rfl rfl (by omega))) rfl (.m rfl (.q (.add rfl rfl (by omega)) rfl (.q (.mul rfl rfl (by omega)) rfl (.m rfl (.q (.strlen rfl Tryz.underlying9 rfl) rfl (.q (.as (v' := vint ((min ((i + 1) * 64) s.length : Nat) : Int)) (by first | rfl | (congr 1; omega)) (.min2 rfl rfl)) rfl (.q (.to (v' := vstr ((s.take (min ((i + 1) * 64) s.length)).drop (i * 64))) (.strMid rfl rfl rfl Tryz.underlying9 (by omega)) (by rfl)) rfl (.an rfl (.seq ?_))))))))))))))
  have hlay := laySec_eq s i (by omega)
  obtain ⟨t, ht⟩ : ∃ t, (s.take (min ((i + 1) * 64) s.length)).drop (i * 64) = t := ⟨_, rfl⟩
  rw [ht] at hlay ⊢
  have htl : t.length ≤ 64 := by rw [← ht, List.length_drop, List.length_take]; omega
  refine .region (.m rfl (.m rfl (.q (.strlen rfl Tryz.underlying9 rfl) rfl (.q (.as (v' := vint ((64 - t.length : Nat) : Int)) (by first | rfl | (congr 1; omega)) (.sub rfl rfl (by omega))) rfl (.oq (.make rfl rfl el_159 ze_5 rfl ⟨by simp, by simp; rfl⟩ ?c21) ?_)))))
  case c21 => omega
  rintro v L' ⟨bz, rfl, rfl⟩
  refine .q (.bytesPt (cs := List.replicate (64 - t.length) 0) rfl Tryz.underlying159 Tryz.underlying5 Tryz.underlying9 (by repeat' constructor) (by first | (simp [List.map_replicate]; done) | (simp [List.map_replicate]; rfl)) (by simp) (by omega)) rfl (.q (.as (v' := vstr (laySec s i)) (by exact congrArg vstr hlay) (.concat rfl rfl (by rw [List.length_replicate]; omega))) rfl (.an rfl (.sm rfl (.m rfl (.m rfl (.cv Tryz.func144 [_] (dshalf_spec x σ hn) ?_))))))
  refine .q (.mul rfl rfl (by omega)) rfl (.q (.add rfl rfl (by omega)) rfl (.m rfl (.q (.add rfl rfl (by omega)) rfl (.m rfl (.cv Tryz.func140 [_, _, _] (dswrite_spec x σ (2 + area * halfZ σ + i) (laySec s i) (by omega)) ?_)))))
  refine .an rfl (.sm rfl (.ui rfl rfl rfl (.nt (.condN rfl (fun h49 => ?_) (fun h49 => ?_)))))
  ·refine .sm rfl (.an rfl (.ret (.blk_r (.then_r (.then_r (.blk_r (.then_r ?_)))))))
   exact .dn rfl rfl ⟨_, by rw [← hl, lay_go (by omega), if_pos h49]; exact ⟨fun g => absurd g h49, fun g => absurd g (by show ¬ (2 : Int) = 0; decide)⟩, rfl, by rw [← hl, lay_go (by omega), if_pos h49]⟩
  refine .skip (.blk_n (.then_n (.region (.m rfl (.q (.add rfl rfl (by omega)) rfl (.an rfl ?_))))))
  have hwk := write_keeps σ (2 + area * halfZ σ + i) (laySec s i)
  exact .rk ((i + 1, f', (σ.write (2 + area * halfZ σ + i) (laySec s i)).1)) (⟨by dsimp only; rw [← hl, lay_go (by omega), if_neg (by simpa using h49)], by dsimp only; omega, by dsimp only; omega, by dsimp only; omega, by dsimp only; omega⟩) (by dsimp only; omega) ⟨rfl, rfl, rfl, rfl, trivial⟩
 refine .exit (.then_e (.then_e (.blk_e (.then_n (.sr (.an rfl (.ret ?_)))))))
 have hend := layF_end (f := f) (δ := σ) (area := area) (all := s) (i := i) (by omega)
 rw [hl] at hend
 exact .dn rfl rfl ⟨0, by rw [hend], rfl, by rw [hend]⟩
theorem rputs_spec (y x : Nat) (vr : Value) (sy ar ct a b : Int) (db : Bool) (area a2 b2 : Int) (va : Value) (l : List Bs) (δ : Dk) (p : HP) (hp : ∀ h : Hp, p h → rdS 1 h va l.length (strs l)) (hll : (laidZ l).length ≤ 2100000000) (hc : 0 ≤ ct ∧ ct < 4294967295) (har : 0 ≤ area ∧ area ≤ 1) (ha : 0 ≤ a2 ∧ a2 ≤ 9223372036854775807) (hb : 0 ≤ b2 ∧ b2 ≤ 9223372036854775807) (hA : δ.acts < 4611686018427387904) : Fn Tryz.prog 196 #[vptr y, vint area, va, vint a2, vint b2] [lc y x vr sy ar ct a b db, dsR x δ, p] fun v L => v = vint (δ.write ((⟨ct + 1, area, (laidZ l).length, l.length, a2, b2⟩ : Mk).count % 2) (⟨ct + 1, area, (laidZ l).length, l.length, a2, b2⟩ : Mk).sec).2 ∧ L = [lc y x vr sy ar ct a b db, dsR x (δ.write ((⟨ct + 1, area, (laidZ l).length, l.length, a2, b2⟩ : Mk).count % 2) (⟨ct + 1, area, (laidZ l).length, l.length, a2, b2⟩ : Mk).sec).1, p] := by
 refine Fn.intro Tryz.func196 rfl rfl fun F W => ?_
 refine .sr (.an rfl (.sm rfl (.nf rfl fo_185_4 (.u (.ld rfl ag_3) (.q (.add rfl rfl (by omega)) rfl (.an rfl (.seq (.draw [12] [[0, 1, 2, 3, 4, 5, 6, 7, 8, 9, 10, 11, 12], [13]] mixed (by kernel_rfl) (.go [lc y x vr sy ar ct a b db, p] (by repeat' constructor) (.mv rfl rfl (.nf rfl rfl rfl fo_185_0 (.kv rfl (.ld rfl ag_26) (.mv rfl rfl (.kv rfl (.remE rfl rfl (by omega) (by decide)) (.mv rfl rfl (.mv rfl rfl (.mv rfl rfl (.mv rfl rfl (.mv rfl rfl (.m rfl (by kernel_rfl) (.c Tryz.func141 [_, _, _, _, _] (rmark4_spec (ct + 1) area a2 b2 va l p hp hll (by omega) har ha hb)) (by repeat' constructor) ?_))))))))))))))))))))
 refine D.hh rfl (.c Tryz.func140 [_, _, _] (dswrite_spec x δ ((ct + 1) % 2) (⟨ct + 1, area, (laidZ l).length, l.length, a2, b2⟩ : Mk).sec hA)) ?_
 rintro v L' ⟨rfl, rfl⟩
 refine D.ph (.g0 (.kv rfl (.assign rfl) (.pf (.ret ?_))))
 exact .vv
theorem seal_s1 {δ : Dk} {ω : Wl} {area : Int} {l : List Bs} (h : ¬ δ.sync.2 = 0) : sealZ δ ω area l = (δ.sync.1, ω, 2) := by unfold sealZ; rw [if_pos h]
theorem seal_s2 {δ : Dk} {ω : Wl} {area : Int} {l : List Bs} (h : δ.sync.2 = 0) (h2 : ¬ (δ.sync.1.write ((ω.mark area l ω.a ω.b).count % 2) (ω.mark area l ω.a ω.b).sec).2 = 0) : sealZ δ ω area l = ((δ.sync.1.write ((ω.mark area l ω.a ω.b).count % 2) (ω.mark area l ω.a ω.b).sec).1, ω, 2) := by
 have e : nextZ δ.sync.1 (ω.mark area l ω.a ω.b) = ((δ.sync.1.write ((ω.mark area l ω.a ω.b).count % 2) (ω.mark area l ω.a ω.b).sec).1, 2) := by unfold nextZ; rw [if_pos h2]
 unfold sealZ; rw [if_neg (fun g => g h), e, if_pos (by show ¬ (2 : Int) = 0; decide)]
theorem seal_s3 {δ : Dk} {ω : Wl} {area : Int} {l : List Bs} (h : δ.sync.2 = 0) (h2 : (δ.sync.1.write ((ω.mark area l ω.a ω.b).count % 2) (ω.mark area l ω.a ω.b).sec).2 = 0) (h3 : ¬ (δ.sync.1.write ((ω.mark area l ω.a ω.b).count % 2) (ω.mark area l ω.a ω.b).sec).1.sync.2 = 0) : sealZ δ ω area l = ((δ.sync.1.write ((ω.mark area l ω.a ω.b).count % 2) (ω.mark area l ω.a ω.b).sec).1.sync.1, ω, 2) := by
 have e : nextZ δ.sync.1 (ω.mark area l ω.a ω.b) = ((δ.sync.1.write ((ω.mark area l ω.a ω.b).count % 2) (ω.mark area l ω.a ω.b).sec).1.sync.1, 2) := by unfold nextZ; rw [if_neg (fun g => g h2), if_pos h3]
 unfold sealZ; rw [if_neg (fun g => g h), e, if_pos (by show ¬ (2 : Int) = 0; decide)]
theorem seal_s4 {δ : Dk} {ω : Wl} {area : Int} {l : List Bs} (h : δ.sync.2 = 0) (h2 : (δ.sync.1.write ((ω.mark area l ω.a ω.b).count % 2) (ω.mark area l ω.a ω.b).sec).2 = 0) (h3 : (δ.sync.1.write ((ω.mark area l ω.a ω.b).count % 2) (ω.mark area l ω.a ω.b).sec).1.sync.2 = 0) : sealZ δ ω area l = ((δ.sync.1.write ((ω.mark area l ω.a ω.b).count % 2) (ω.mark area l ω.a ω.b).sec).1.sync.1, { ω with recs := l, synced := l.length, area := area, count := ω.count + 1 }, 0) := by
 have e : nextZ δ.sync.1 (ω.mark area l ω.a ω.b) = ((δ.sync.1.write ((ω.mark area l ω.a ω.b).count % 2) (ω.mark area l ω.a ω.b).sec).1.sync.1, 0) := by unfold nextZ; rw [if_neg (fun g => g h2), if_neg (fun g => g h3)]
 unfold sealZ; rw [if_neg (fun g => g h), e, if_neg (fun g => g rfl)]
theorem rseals_spec (y x : Nat) (vr : Value) (ω : Wl) (area : Int) (va : Value) (l : List Bs) (δ : Dk) (p : HP) (hp : ∀ h : Hp, p h → rdS 1 h va l.length (strs l)) (hll : (laidZ l).length ≤ 2100000000) (hc : 0 ≤ ω.count ∧ ω.count < 4294967295) (har : 0 ≤ area ∧ area ≤ 1) (ha : 0 ≤ ω.a ∧ ω.a ≤ 9223372036854775807) (hb : 0 ≤ ω.b ∧ ω.b ≤ 9223372036854775807) (hA : δ.acts + 10 < 4611686018427387904) : Fn Tryz.prog 150 #[vptr y, vint area, va] [lc y x (vr) (ω.synced) (ω.area) (ω.count) (ω.a) (ω.b) (ω.doubt), dsR x δ, p] fun v L => ((sealZ δ ω area l).2.2 = 2 ∧ v = vint 2 ∧ L = [lc y x (vr) (ω.synced) (ω.area) (ω.count) (ω.a) (ω.b) (true), dsR x (sealZ δ ω area l).1, p]) ∨ ((sealZ δ ω area l).2.2 = 0 ∧ v = vint 0 ∧ ∃ a9 c9, L = [lc y x (.slice a9 l.length c9) ((l.length : Nat)) (area) (ω.count + 1) (ω.a) (ω.b) (ω.doubt), dsR x (sealZ δ ω area l).1, p, strR (.slice a9 l.length c9) l]) := by
 refine Fn.intro Tryz.func150 rfl rfl fun F W => ?_
 have hlm := laidZ_many l
 have hk1 := sync_keeps δ
 have hk2 := write_keeps δ.sync.1 ((ω.mark area l ω.a ω.b).count % 2) (ω.mark area l ω.a ω.b).sec
 refine .rdAny (p := p) hp (by repeat' constructor) fun aa ca e _ => ?_
 subst e
 refine .sr (.an rfl (.seq (.seq (.draw [4, 18, 26] [[0, 1, 2, 3, 4], [5, 6, 7, 8, 9, 10, 11, 12, 13, 14, 15, 16, 17, 18], [19, 20, 21, 22, 23, 24, 25, 26], [27, 28]] mixed (by kernel_rfl) (.g0 (.mv rfl rfl (.nf rfl rfl rfl fo_185_0 (.kv rfl (.ld rfl ag_26) (.hh rfl (.c Tryz.func142 [_] (dssync_spec x δ (by omega))) ?_)))))))))
 rintro v L' ⟨rfl, rfl⟩
 refine D.ph (.g0 (.kv rfl (.int rfl rfl rfl) (.mv rfl rfl (.ndec (t := 13) rfl (fun h1_13 => ?_) (fun h1_13 => ?_)))))
 ·refine D.kNT (t := 12) rfl h1_13 (.gz rfl (.gz rfl (.gz rfl (.gz rfl (.gz rfl (.gz rfl (.gz rfl (.gz rfl (.gz rfl (.gz rfl (.gz rfl (.gz rfl (.ph (.g0 (.gz rfl (.kv rfl (.pickT rfl rfl) (.mv rfl rfl (.gz rfl (.gz rfl (.gz rfl (.gz rfl (.gz rfl (.ph (.g0 (.gz rfl (.kv rfl (.pickT rfl rfl) (.pf (.condT rfl (.sm rfl (.cv Tryz.func148 [_] (rdead_spec y x vr ω.synced ω.area ω.count ω.a ω.b ω.doubt) ?_))))))))))))))))))))))))))))))
  refine .an rfl (.rt ?_)
  have hr := seal_s1 (ω := ω) (area := area) (l := l) h1_13
  rw [hr]
  exact .dn rfl rfl (.inl ⟨rfl, rfl, rfl⟩)
 refine D.kNF (t := 12) rfl h1_13 (.gv rfl (.move rfl) (.gv rfl (.move rfl) (.gv rfl (.move rfl) (.gv rfl (.move rfl) (.gv rfl (.nilp rfl) (.gv rfl (.fieldAddr rfl fo_185_5) (.gv rfl (.ld rfl ag_3) (.gv rfl (.move rfl) (.gv rfl (.nilp rfl) (.gv rfl (.fieldAddr rfl fo_185_6) (.gv rfl (.ld rfl ag_3) (.gh (t := 13) rfl rfl rfl (by kernel_rfl) (.call Tryz.func196 rfl rfl (vs := [_, _, _, _, _]) rfl (rputs_spec y x vr ω.synced ω.area ω.count ω.a ω.b ω.doubt area ω.a ω.b _ l δ.sync.1 p hp hll hc har ha hb (by omega))) (by repeat' constructor) ?_))))))))))))
 rintro v L' ⟨rfl, rfl⟩
 refine D.ph (.g0 (.gv rfl (.int rfl rfl rfl) (.kv rfl (.pickF rfl rfl) (.mv rfl rfl (.ndec (t := 28) rfl (fun h1_28 => ?_) (fun h1_28 => ?_))))))
 ·refine D.kNT (t := 26) rfl h1_28 (.kNT (t := 27) rfl h1_28 (.gz rfl (.gz rfl (.gz rfl (.gz rfl (.gz rfl (.ph (.g0 (.gz rfl (.kv rfl (.pickT rfl rfl) (.pf (.condT rfl (.sm rfl (.cv Tryz.func148 [_] (rdead_spec y x vr ω.synced ω.area ω.count ω.a ω.b ω.doubt) ?_))))))))))))))
  refine .an rfl (.rt ?_)
  have hr := seal_s2 (area := area) (l := l) (ω := ω) h1_13 h1_28
  rw [hr]
  exact .dn rfl rfl (.inl ⟨rfl, rfl, rfl⟩)
 refine D.kNF (t := 26) rfl h1_28 (.kNF (t := 27) rfl h1_28 (.gv rfl (.move rfl) (.gv rfl (.nilp rfl) (.gv rfl (.fieldAddr rfl fo_185_0) (.gv rfl (.ld rfl ag_26) (.gh (t := 28) rfl rfl rfl (by kernel_rfl) (.c Tryz.func142 [_] (dssync_spec x (δ.sync.1.write ((ω.mark area l ω.a ω.b).count % 2) (ω.mark area l ω.a ω.b).sec).1 (by omega))) (by repeat' constructor) ?_))))))
 rintro v L' ⟨rfl, rfl⟩
 refine D.ph (.g0 (.gv rfl (.int rfl rfl rfl) (.kv rfl (.pickF rfl rfl) (.pf (.condN rfl (fun h35 => ?_) (fun h35 => ?_))))))
 ·refine .sm rfl (.cv Tryz.func148 [_] (rdead_spec y x vr ω.synced ω.area ω.count ω.a ω.b ω.doubt) ?_)
  refine .an rfl (.rt ?_)
  have hr := seal_s3 (area := area) (l := l) (ω := ω) h1_13 h1_28 h35
  rw [hr]
  exact .dn rfl rfl (.inl ⟨rfl, rfl, rfl⟩)
 refine .sk (.sm rfl (.nf rfl fo_185_4 (.u (.ld rfl ag_3) (.q (.add rfl rfl (by omega)) rfl (.nf rfl fo_185_4 (.st rfl rfl rfl sz_3 ?_))))))
 refine .nt (.sm rfl (.m rfl (.nf rfl fo_185_3 (.st rfl rfl rfl sz_3 ?_))))
 refine .nt (.seq (.add (slR_nil 9 1) (.region (.m rfl (.m rfl (.oq (.append (n := 0) (m := l.length) (ys := strs l) (p := p) rfl rfl rfl el_39 (.inl ⟨_, Tryz.underlying39⟩) ze_9 rfl rfl ?hc61 ?hr62 ?hb63 (by decide)) ?_))))))
 case hc61 => exact strs_cell _
 case hr62 => exact hp
 case hb63 => omega
 rintro v L' ⟨⟨a8, c8, rfl⟩, rfl⟩; rw [Nat.zero_add, List.nil_append]
 refine .nf rfl fo_185_1 (.st rfl rfl rfl sz_39 ?_)
 refine .nt (.sm rfl (.m rfl (.q (.slen rfl Tryz.underlying39 rfl) rfl (.nf rfl fo_185_2 (.st rfl rfl rfl sz_3 ?_)))))
 refine .nt (.sr (.an rfl (.ret ?_)))
 have hr := seal_s4 (area := area) (l := l) (ω := ω) h1_13 h1_28 h35
 rw [hr]
 exact .dn rfl rfl (.inr ⟨rfl, rfl, a8, c8, rfl⟩)
end Go.Proofs.YteebpmkkdlabpaaGreat
