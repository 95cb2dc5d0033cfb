/- Own work, some of it printed by program, texts that were built one by one: a part of the proof of followPlays.proved. -/
import Derived.Test.YteebpmkkdlabpaaGreatCFPlaysP2
import Derived.Test.YteebpmkkdlabpaaGreatCFPlaysP3
import Derived.Test.YteebpmkkdlabpaaGreatCFPlaysP0
import Derived.Test.YteebpmkkdlabpaaGreatRows
import Derived.WalkKit
import Derived.ProofKit
import Derived.OpenShut
import Derived.JoinedCond
import Derived.Carry
import Derived.Deep.Grids
import Derived.Handed
import Derived.Deep.Strs
set_option maxRecDepth 100000
namespace Go.Proofs.YteebpmkkdlabpaaGreat
open Go
theorem moC_cells (m : Mo) {mv : Value} (h : isCell mv = true) : ∀ v ∈ moC m mv, isCell v = true := by
 intro v hv
 simp only [moC, List.mem_cons, List.not_mem_nil, or_false] at hv
 rcases hv with h1 | h1 | h1 | h1 | h1 | h1 | h1 | h1 | h1 | h1 | h1 | h1 | h1 | h1 | h1 | h1 | h1 | h1 | h1 <;> subst h1 <;> first | rfl | exact h
theorem fill_out (ld : Int) (s0 s1 s2 s3 s4 s5 s6 s7 s8 s9 s10 s11 s12 s13 s14 s15 s16 s17 s18 : Value) : Instr.fill (fun i => [(0, 1), (1, 19)].toArray[i]?) ([.int .i64 0, .int .i64 0, .int .i64 0, .int .i64 0, .int .i64 0, .int .i64 0, .slice none 0 0, .string (bs []), .slice none 0 0, .int .i64 0, .int .i64 0, .string (bs []), .string (bs []), .slice none 0 0, .int .i64 0, .int .i64 0, .bool false, .slice none 0 0, .slice none 0 0, .slice none 0 0] : List Value).toArray [(0, vint ld), (1, .agg ([s0, s1, s2, s3, s4, s5, s6, s7, s8, s9, s10, s11, s12, s13, s14, s15, s16, s17, s18] : List Value).toArray)] = some ((vint ld :: [s0, s1, s2, s3, s4, s5, s6, s7, s8, s9, s10, s11, s12, s13, s14, s15, s16, s17, s18] : List Value).toArray) := by kernel_rfl
theorem say_spec (f g : Nat) (Φ : Fw) (m : Mo) (mv : Value) (hmv : isCell mv = true) : Fn Tryz.prog 57 #[vptr f, .agg (moC m mv).toArray] [fwR f g Φ] fun v L => ∃ b, v = .slice (some ⟨b, 0, none⟩) 1 1 ∧ L = [outT v Φ.ld m mv, fwR f g Φ] := by
 refine Fn.intro Tryz.func57 rfl rfl fun F W => ?_
 refine .fwOpen (f := f) (by repeat' constructor) fun ha hc => (.sr (.oq (.box rfl) ?_))
 rintro v L' ⟨b3, rfl, rfl⟩
 refine .a rfl (.nil (.ptCast (b := b3) (l' := moC m mv) (by repeat' constructor) (by exact rfl) (.then_n (.seq (.draw [6] [[0, 1, 2, 3, 4, 5, 6], [7]] mixed (by kernel_rfl) (.g0 (.mv rfl rfl (.nf rfl rfl rfl fo_104_0 (.kv rfl (.ld rfl ag_3) (.kv rfl (.loadAs (vs := moC m mv) rfl ag_41 (by repeat' constructor) (by simp [moC]) rfl) (.kv rfl (.to (v' := .agg (vint Φ.ld :: moC m mv).toArray) (.buildN (pl := [(0, 1), (1, 19)]) (us := [(0, vint Φ.ld), (1, .agg (moC m mv).toArray)]) (cells := vint Φ.ld :: moC m mv) Tryz.underlying94 (by kernel_rfl) ze_94 rfl (fill_out _ _ _ _ _ _ _ _ _ _ _ _ _ _ _ _ _ _ _ _)) rfl) (.hh rfl (.buildSlice (vs := [_]) el_45 ze_94 rfl rfl rfl rfl (by first | (simp [Value.cells]; done) | (intro v hv; simp only [List.mem_cons, List.not_mem_nil, or_false] at hv; (repeat (first | (subst hv; rfl) | (rcases hv with hv | hv; (subst hv; rfl)))))) (by decide)) ?_))))))))))))
 rintro v L' ⟨b6, rfl, rfl⟩
 refine D.ph (.g0 (.kv rfl (.assign rfl) (.pf (.ret (.fwFold (f := f) (g := g) (ha := ha) (hc := hc) (m := Φ.heard.length) Φ (by repeat' constructor) (by exact rfl) (by exact rfl) (by exact rfl) (.ptCast (b := b6) (l' := vint Φ.ld :: moC m mv) (by repeat' constructor) (by simp [Value.cells, moC]) (.fold (p := outT (.slice (some ⟨b6, 0, none⟩) 1 1) Φ.ld m mv) (.cons (p := ptc b6 _ _) (by repeat' constructor) .nil) (fun h hp => slR_pt (n := 1) (sz := 20) (sep_pt hp) rfl) ?_)))))))
 exact .dn rfl rfl ⟨b6, rfl, rfl⟩
theorem sayO_spec (f g : Nat) (Φ : Fw) (m : Mo) (mv : Value) (hmv : isCell mv = true) (ha : Option Addr) (hc : Nat) : Fn Tryz.prog 57 #[vptr f, .agg (moC m mv).toArray] [ptc f [vint Φ.ld, vptr g, vint Φ.ph, vint Φ.ep, vint Φ.com, vint Φ.sil, .slice ha Φ.heard.length hc] 104, intR (.slice ha Φ.heard.length hc) Φ.heard] fun v L => ∃ b, v = .slice (some ⟨b, 0, none⟩) 1 1 ∧ L = [outT v Φ.ld m mv, fwR f g Φ] := by
 intro F w hs
 have hs' : St ([fwR f g Φ] ++ F) w := sep_imp (p := sep [ptc f [vint Φ.ld, vptr g, vint Φ.ph, vint Φ.ep, vint Φ.com, vint Φ.sil, .slice ha Φ.heard.length hc] 104, intR (.slice ha Φ.heard.length hc) Φ.heard]) (fun _ hp => ⟨(ha, hc), trivial, hp⟩) (sep_fold (L1 := [ptc f [vint Φ.ld, vptr g, vint Φ.ph, vint Φ.ep, vint Φ.com, vint Φ.sil, .slice ha Φ.heard.length hc] 104, intR (.slice ha Φ.heard.length hc) Φ.heard]) hs)
 exact say_spec f g Φ m mv hmv F w hs'
theorem lose_spec (f g : Nat) (Φ : Fw) : Fn Tryz.prog 50 #[vptr f] [fwR f g Φ] fun v L => v = .slice none 0 0 ∧ L = [fwR f g Φ.lose] := by
 refine Fn.intro Tryz.func50 rfl rfl fun F W => ?_
 refine .fwOpen (f := f) (by repeat' constructor) fun ha hc => (.sr (.an rfl (.sm rfl (.nf rfl fo_104_2 (.st rfl rfl rfl sz_3 ?_)))))
 refine .nt (.sr (.an rfl (.ret (.fwFold (f := f) (g := g) (ha := ha) (hc := hc) (m := Φ.heard.length) Φ.lose (by repeat' constructor) (by exact rfl) (by exact rfl) (by exact rfl) ?_))))
 exact .vv
theorem fcom_spec (f g : Nat) (Φ : Fw) : Fn Tryz.prog 14 #[vptr f] [fwR f g Φ] fun v L => v = vint Φ.com ∧ L = [fwR f g Φ] := by
 refine Fn.intro Tryz.func14 rfl rfl fun F W => ?_
 refine .fwOpen (f := f) (by repeat' constructor) fun ha hc => (.sr (.an rfl (.sm rfl (.nf rfl fo_104_4 (.u (.ld rfl ag_3) (.an rfl (.ret (.fwFold (f := f) (g := g) (ha := ha) (hc := hc) (m := Φ.heard.length) Φ (by repeat' constructor) (by exact rfl) (by exact rfl) (by exact rfl) ?_))))))))
 exact .vv
theorem fup_spec (f g : Nat) (Φ : Fw) : Fn Tryz.prog 15 #[vptr f] [fwR f g Φ] fun v L => v = .bool (decide (Φ.ph = 3)) ∧ L = [fwR f g Φ] := by
 refine Fn.intro Tryz.func15 rfl rfl fun F W => ?_
 refine .fwOpen (f := f) (by repeat' constructor) fun ha hc => (.sr (.an rfl (.sm rfl (.nf rfl fo_104_2 (.u (.ld rfl ag_3) (.ui rfl rfl rfl (.an rfl (.ret (.fwFold (f := f) (g := g) (ha := ha) (hc := hc) (m := Φ.heard.length) Φ (by repeat' constructor) (by exact rfl) (by exact rfl) (by exact rfl) ?_)))))))))
 exact .vv
theorem flost_spec (f g : Nat) (Φ : Fw) : Fn Tryz.prog 10 #[vptr f] [fwR f g Φ] fun v L => v = .bool (decide (Φ.ph = 4)) ∧ L = [fwR f g Φ] := by
 refine Fn.intro Tryz.func10 rfl rfl fun F W => ?_
 refine .fwOpen (f := f) (by repeat' constructor) fun ha hc => (.sr (.an rfl (.sm rfl (.nf rfl fo_104_2 (.u (.ld rfl ag_3) (.ui rfl rfl rfl (.an rfl (.ret (.fwFold (f := f) (g := g) (ha := ha) (hc := hc) (m := Φ.heard.length) Φ (by repeat' constructor) (by exact rfl) (by exact rfl) (by exact rfl) ?_)))))))))
 exact .vv
theorem fnew_spec (ld : Int) (g : Nat) : Fn Tryz.prog 8 #[vint ld, vptr g] [] fun v L => ∃ f, v = vptr f ∧ L = [fwR f g ⟨ld, 0, 0, 0, 0, []⟩] := by
 refine Fn.intro Tryz.func8 rfl rfl fun F W => ?_
 refine .sr (.an rfl (.sm rfl (.m rfl (.q (.build (us := [(0, _), (1, _)]) fl_104 ze_104 rfl rfl (by simp [isCell])) rfl (.oq (.box rfl) ?_)))))
 rintro v L' ⟨f, rfl, rfl⟩
 refine .an rfl (.ret (.add (slR_nil 3 1) (.fwFold (f := f) (g := g) (ha := none) (hc := 0) (m := 0) (hs := []) ⟨ld, 0, 0, 0, 0, []⟩ (by repeat' constructor) (by exact rfl) (by exact rfl) (by exact rfl) ?_)))
 exact .dn rfl rfl ⟨f, rfl, rfl⟩
theorem fstart_spec (f g x : Nat) (Φ : Fw) (δ : Dk) (ω : Wl) (Λ : Lg) : Fn Tryz.prog 21 #[vptr f] [fwR f g Φ, lgR g x Λ] fun v L => ∃ a c, v = .slice a (onN (startF Φ ⟨δ, ω, Λ⟩)) c ∧ L = [fwR f g Φ, lgR g x Λ, outR v Φ.ld (startF Φ ⟨δ, ω, Λ⟩)] := by
 refine Fn.intro Tryz.func21 rfl rfl fun F W => ?_
 refine .fwOpen (f := f) (by repeat' constructor) fun ha hc => (.sr (.an rfl (.seq (.sm rfl (.nf rfl fo_104_2 (.u (.ld rfl ag_3) (.ui rfl rfl rfl (.nt (.condD rfl (fun h7 => ?_) (fun h7 => ?_))))))))))
 ·refine .sr (.an rfl (.rt ?_))
  have hr : startF Φ ⟨δ, ω, Λ⟩ = none := by unfold startF; rw [if_pos h7]
  rw [hr]
  refine .fwFold (f := f) (g := g) (ha := ha) (hc := hc) (m := Φ.heard.length) Φ (by repeat' constructor) (by exact rfl) (by exact rfl) (by exact rfl) (.outNone Φ.ld ?_)
  exact .dn rfl rfl ⟨_, _, rfl, rfl⟩
 refine .sk (.sm rfl (.m rfl (.nf rfl fo_104_1 (.u (.ld rfl ag_25) (.nf rfl fo_53_0 (.cv Tryz.func16 [_] (lacc_spec g x Λ) ?_))))))
 refine .q (.to (v' := .agg (moC ⟨1, Λ.acc, 0, 0, []⟩ (.slice none 0 0)).toArray) (.buildN (pl := [(0, 1), (1, 1), (2, 1), (3, 1), (4, 1), (5, 1), (6, 1), (7, 1), (8, 10), (18, 1)]) (us := [(0, _), (1, _)]) (cells := moC ⟨1, Λ.acc, 0, 0, []⟩ (.slice none 0 0)) Tryz.underlying41 (by kernel_rfl) ze_41 rfl rfl) rfl) rfl (.fwFold (f := f) (g := g) (ha := ha) (hc := hc) (m := Φ.heard.length) Φ (by repeat' constructor) (by exact rfl) (by exact rfl) (by exact rfl) (.add (slR_nil 3 1) (.oq (.c Tryz.func57 [_, _] (say_spec f g (Φ) ⟨1, Λ.acc, 0, 0, []⟩ (.slice none 0 0) rfl)) ?_)))
 rintro v L' ⟨bs, rfl, rfl⟩
 refine .an rfl (.ret ?_)
 have hr : startF Φ ⟨δ, ω, Λ⟩ = some ⟨1, Λ.acc, 0, 0, []⟩ := by unfold startF; rw [if_neg h7]
 rw [hr]
 refine .outFold (v := .slice (some ⟨bs, 0, none⟩) 1 1) (mv := .slice none 0 0) (k := 0) ⟨1, Λ.acc, 0, 0, []⟩ (by repeat' constructor) (by exact rfl) (by exact rfl) (by exact rfl) ?_
 exact .dn rfl rfl ⟨_, _, rfl, rfl⟩
def TakenTo (es : List En) (s0 : Ld) (i : Nat) (s : Ld) : Prop := takeZ es s0 = takeZ (es.drop i) s
theorem taken_step {es : List En} {s0 s : Ld} {i : Nat} (h : TakenTo es s0 i s) (hi : i < es.length) (h0 : (lgAppend s es[i]).2 = 0) : TakenTo es s0 (i + 1) (lgAppend s es[i]).1 := by
 unfold TakenTo at h ⊢
 rw [h, List.drop_eq_getElem_cons hi]
 show (if _ then _ else _) = _
 rw [if_neg (fun g => g h0)]
theorem taken_bad {es : List En} {s0 s : Ld} {i : Nat} (h : TakenTo es s0 i s) (hi : i < es.length) (h0 : (lgAppend s es[i]).2 ≠ 0) : takeZ es s0 = lgAppend s es[i] := by
 unfold TakenTo at h
 rw [h, List.drop_eq_getElem_cons hi]
 show (if _ then _ else _) = _
 rw [if_pos h0]
theorem taken_end {es : List En} {s0 s : Ld} {i : Nat} (h : TakenTo es s0 i s) (hi : ¬ i < es.length) : takeZ es s0 = lgSync s := by
 unfold TakenTo at h
 rw [h, List.drop_eq_nil_of_le (by omega)]
 rfl
theorem ftake_spec (f g x d : Nat) (Φ : Fw) (δ : Dk) (ω : Wl) (Λ : Lg) (va : Value) (es : List En) (p : HP) (N : Int) (hP : LPs ⟨δ, ω, Λ⟩ N) (hN : N + 10000000 + 2000000 * (es.length : Int) < 4611686018427387904) (hcells : ∀ h : Hp, p h → rdS 11 h va es.length (es.flatMap enC)) (hel : es.length ≤ 1048576) (hx : ∀ e ∈ es, EnX p e) : Fn Tryz.prog 96 #[vptr f, va] [fwR f g Φ, lgR g x Λ, wlR x d ω, dkR d δ, p] fun v L => v = .bool (decide ((takeZ es ⟨δ, ω, Λ⟩).2 = 0)) ∧ L = [fwR f g Φ, lgR g x (takeZ es ⟨δ, ω, Λ⟩).1.Λ, wlR x d (takeZ es ⟨δ, ω, Λ⟩).1.ω, dkR d (takeZ es ⟨δ, ω, Λ⟩).1.δ, p] := by
 refine Fn.intro Tryz.func96 rfl rfl fun F W => ?_
 refine .rdAny (p := p) hcells (by repeat' constructor) fun aa ca e _ => ?_
 subst e
 refine .fwOpen (f := f) (by repeat' constructor) fun ha hc => (.sr (.an rfl (.seq (.sm rfl (.q (.slen rfl Tryz.underlying33 rfl) rfl (.m rfl (.nt (.block (.loopK (ι := Nat × Ld) (fun q E => (9, vint q.1) :: E) (fun q => [lgR g x (q.2).Λ, wlR x d (q.2).ω, dkR d (q.2).δ]) (fun q => q.1 ≤ es.length ∧ TakenTo es ⟨δ, ω, Λ⟩ q.1 q.2 ∧ LPs q.2 (N + q.1 * 2000000)) (fun q => es.length - q.1) (0, ⟨δ, ω, Λ⟩) (ts := [0, 7, 8]) (.cons rfl (.cons rfl (.cons rfl (.nil)))) (⟨Nat.zero_le _, rfl, hP.more (by dsimp only; omega)⟩) ⟨rfl, rfl, rfl, rfl, trivial⟩ (by repeat' constructor) ?_)))))))))
 rintro ⟨i, s⟩ ⟨hi, ht, hL⟩
 dsimp only
 dsimp only at hi ht hL
 refine .sr (.ui rfl rfl rfl (.nt (.seq (.condD rfl (fun h10 => ?_) (fun h10 => ?_)))))
 ·have hi2 : i < es.length := by omega
  have hxe := hx _ (List.getElem_mem hi2)
  have hwi := hL.wk.i (by omega)
  have hli := hL.w.i
  refine .rdShape (p := p) hcells (by repeat' constructor) (by omega) fun ba oa e => ?_
  subst e
  refine .sk (.seq (.block (.sr (.q (.indexAddr rfl rfl el_33 (by omega)) rfl (.q (.loadRdA (sz := 11) (j := i * 11) (k := 11) (p := p) (vs := enC es[i]) rfl ag_75 (by repeat' constructor) hcells (by simp [enC, ptC]) (by omega) (by omega) (flatMap_at (f := enC) (sz := 11) (fun _ _ => rfl) hi2)) rfl (.oq (.allocA ze_75) ?_))))))
  rintro v L' ⟨b6, rfl, rfl⟩
  refine .oq (.storeA rfl rfl ?c10 sz_75 ?c13 ?c11 (nfz0 _ _)) ?_
  case c10 => exact hxe.l.cells
  case c13 => rfl
  case c11 => simp [enC, ptC]
  rintro v L' rfl
  refine .nil (.ptCast (b := b6) (l' := enC es[i]) (by repeat' constructor) (by exact rfl) (.then_n (.seq (.draw [5] [[0, 1, 2, 3, 4, 5], [6]] mixed (by kernel_rfl) (.g0 (.mv rfl rfl (.nf rfl rfl rfl fo_104_1 (.kv rfl (.ld rfl ag_25) (.kv rfl (.loadAs (vs := enC es[i]) rfl ag_75 (by repeat' constructor) (by simp [enC, ptC]) rfl) (.hh rfl (.c Tryz.func31 [_, _] (lappend_spec g x d s.δ s.ω s.Λ es[i] p hxe hwi hli)) ?_))))))))))
  rintro v L' ⟨rfl, rfl⟩; obtain ⟨r, hr⟩ : ∃ r, lgAppend s es[i] = r := ⟨_, rfl⟩; rw [show lgAppend ⟨s.δ, s.ω, s.Λ⟩ es[i] = r from hr]
  refine D.ph (.g0 (.kv rfl (.int rfl rfl rfl) (.pf (.condN rfl (fun h19 => ?_) (fun h19 => ?_)))))
  ·refine .sr (.an rfl (.ret (.blk_r (.then_r (.then_r (.blk_r (.then_r (.fwFold (f := f) (g := g) (ha := ha) (hc := hc) (m := Φ.heard.length) Φ (by repeat' constructor) (by exact rfl) (by exact rfl) (by exact rfl) ?_))))))))
   have hz : takeZ es ⟨δ, ω, Λ⟩ = r := (taken_bad ht hi2 (by rw [hr]; exact h19)).trans hr
   rw [hz]
   exact .dn rfl rfl ⟨by rw [decide_eq_false h19], rfl⟩
  rw [← hr]
  refine .skip (.blk_n (.then_n (.region (.q (.add rfl rfl (by omega)) rfl (.m rfl (.nt ?_))))))
  exact .rk ((i + 1, (lgAppend s es[i]).1)) (⟨by dsimp only; omega, taken_step ht hi2 (by rw [hr]; exact h19), (lps_append hL hxe.l.w.i).more (by dsimp only; omega)⟩) (by dsimp only; omega) ⟨rfl, rfl, rfl, rfl, trivial⟩
 have hwi := hL.wk.i (by omega)
 refine .exit (.then_e (.then_e (.blk_e (.then_n (.sm rfl (.nf rfl fo_104_1 (.u (.ld rfl ag_25) (.oq (.c Tryz.func34 [_] (lsync_spec g x d s.δ s.ω s.Λ hwi)) ?_))))))))
 rintro v L' ⟨rfl, rfl⟩; rw [show lgSync ⟨s.δ, s.ω, s.Λ⟩ = lgSync s from rfl]
 refine .ui rfl rfl rfl (.an rfl (.ret (.fwFold (f := f) (g := g) (ha := ha) (hc := hc) (m := Φ.heard.length) Φ (by repeat' constructor) (by exact rfl) (by exact rfl) (by exact rfl) ?_)))
 have hz : takeZ es ⟨δ, ω, Λ⟩ = lgSync s := taken_end ht (by omega)
 rw [hz]
 exact .vv
theorem ftakeO_spec (f g x d : Nat) (Φ : Fw) (δ : Dk) (ω : Wl) (Λ : Lg) (va : Value) (es : List En) (p : HP) (N : Int) (hP : LPs ⟨δ, ω, Λ⟩ N) (hN : N + 10000000 + 2000000 * (es.length : Int) < 4611686018427387904) (hcells : ∀ h : Hp, p h → rdS 11 h va es.length (es.flatMap enC)) (hel : es.length ≤ 1048576) (hx : ∀ e ∈ es, EnX p e) (ha : Option Addr) (hc : Nat) : Fn Tryz.prog 96 #[vptr f, va] [ptc f [vint Φ.ld, vptr g, vint Φ.ph, vint Φ.ep, vint Φ.com, vint Φ.sil, .slice ha Φ.heard.length hc] 104, intR (.slice ha Φ.heard.length hc) Φ.heard, lgR g x Λ, wlR x d ω, dkR d δ, p] fun v L => v = .bool (decide ((takeZ es ⟨δ, ω, Λ⟩).2 = 0)) ∧ L = [fwR f g Φ, lgR g x (takeZ es ⟨δ, ω, Λ⟩).1.Λ, wlR x d (takeZ es ⟨δ, ω, Λ⟩).1.ω, dkR d (takeZ es ⟨δ, ω, Λ⟩).1.δ, p] := by
 intro F w hs
 have hs' : St ([fwR f g Φ, lgR g x Λ, wlR x d ω, dkR d δ, p] ++ F) w := sep_imp (p := sep [ptc f [vint Φ.ld, vptr g, vint Φ.ph, vint Φ.ep, vint Φ.com, vint Φ.sil, .slice ha Φ.heard.length hc] 104, intR (.slice ha Φ.heard.length hc) Φ.heard]) (fun _ hp => ⟨(ha, hc), trivial, hp⟩) (sep_fold (L1 := [ptc f [vint Φ.ld, vptr g, vint Φ.ph, vint Φ.ep, vint Φ.com, vint Φ.sil, .slice ha Φ.heard.length hc] 104, intR (.slice ha Φ.heard.length hc) Φ.heard]) hs)
 exact ftake_spec f g x d Φ δ ω Λ va es p N hP hN hcells hel hx F w hs'
theorem faccept_spec (f g x d : Nat) (Φ : Fw) (δ : Dk) (ω : Wl) (Λ : Lg) (m : Ms) (p : HP) (N : Int) (hP : LPs ⟨δ, ω, Λ⟩ N) (hN : N + 10000000 < 4611686018427387904) : Fn Tryz.prog 53 #[vptr f, .agg (msC m).toArray] [fwR f g Φ, lgR g x Λ, wlR x d ω, dkR d δ, p] fun v L => ∃ a c, v = .slice a (onN (accF Φ ⟨δ, ω, Λ⟩ m).2.2) c ∧ L = [fwR f g (accF Φ ⟨δ, ω, Λ⟩ m).1, lgR g x (accF Φ ⟨δ, ω, Λ⟩ m).2.1.Λ, wlR x d (accF Φ ⟨δ, ω, Λ⟩ m).2.1.ω, dkR d (accF Φ ⟨δ, ω, Λ⟩ m).2.1.δ, outR v Φ.ld (accF Φ ⟨δ, ω, Λ⟩ m).2.2, p] := by
 refine Fn.intro Tryz.func53 rfl rfl fun F W => ?_
 have hwi := hP.wk.i hN
 have hli := hP.w.i
 have hlr := (lps_accept hP m.ep).w.i
 refine .fwOpen (f := f) (by repeat' constructor) fun ha hc => (.sr (.oq (.box rfl) ?_))
 rintro v L' ⟨b3, rfl, rfl⟩
 refine .a rfl (.nil (.ptCast (b := b3) (l' := msC m) (by repeat' constructor) (by exact rfl) (.then_n (.seq (.seq (.draw [] [[0, 1, 2, 3, 4, 5, 6, 7, 8, 9, 10, 11, 12, 13, 14, 15, 16, 17, 18, 19, 20, 21, 22]] mixed (by kernel_rfl) (.go [ptc f _ _, ptc b3 _ _, lgR g x Λ] (by repeat' constructor) (.mv rfl rfl (.nf rfl rfl rfl fo_104_2 (.kv rfl (.ld rfl ag_3) (.kv rfl (.int rfl rfl rfl) (.mv rfl rfl (.dec (t := 11) rfl (fun h1_11 => ?_) (fun h1_11 => ?_))))))))))))))
 ·refine D.kDT (t := 10) rfl h1_11 (.gz rfl (.gz rfl (.gz rfl (.gz rfl (.gz rfl (.gz rfl (.gz rfl (.gz rfl (.gz rfl (.gz rfl (.gz rfl (.kv rfl (.pickT rfl rfl) (.mv rfl rfl (.gz rfl (.gz rfl (.gz rfl (.kv rfl (.pickT rfl rfl) (.pf (.condT rfl (.seq (.fwFold (f := f) (g := g) (ha := ha) (hc := hc) (m := Φ.heard.length) Φ (by repeat' constructor) (by exact rfl) (by exact rfl) (by exact rfl) (.region (.m rfl (.cv Tryz.func50 [_] (lose_spec f g (Φ)) ?_))))))))))))))))))))))))
  refine .an rfl (.rt ?_)
  have hr : accF Φ ⟨δ, ω, Λ⟩ m = (Φ.lose, ⟨δ, ω, Λ⟩, none) := by unfold accF; (try dsimp only); rw [if_pos (by first | exact .inl h1_11 | exact .inr (.inl h1_24) | exact .inr (.inr h28))]
  rw [hr]
  try dsimp only
  refine .outNone Φ.ld ?_
  exact .dn rfl rfl ⟨_, _, rfl, rfl⟩
 refine D.kDF (t := 10) rfl h1_11 (.gv rfl (.fieldAddr rfl fo_41_1) (.gv rfl (.ld rfl ag_3) (.gv rfl (.move rfl) (.gv rfl (.nilp rfl) (.gv rfl (.fieldAddr rfl fo_104_1) (.gv rfl (.ld rfl ag_25) (.gv rfl (.nilp rfl) (.gv rfl (.fieldAddr rfl fo_53_0) (.gm (t := 11) rfl rfl rfl (by kernel_rfl) (.c Tryz.func16 [_] (lacc_spec g x Λ)) (by repeat' constructor) ?_)))))))))
 refine D.gv rfl (.max2 rfl rfl) (.gv rfl (.int rfl rfl rfl) (.kv rfl (.pickF rfl rfl) (.mv rfl rfl (.dec (t := 24) rfl (fun h1_24 => ?_) (fun h1_24 => ?_)))))
 ·refine D.kDT (t := 22) rfl h1_24 (.kDT (t := 23) rfl h1_24 (.gz rfl (.gz rfl (.gz rfl (.kv rfl (.pickT rfl rfl) (.pf (.condT rfl (.seq (.fwFold (f := f) (g := g) (ha := ha) (hc := hc) (m := Φ.heard.length) Φ (by repeat' constructor) (by exact rfl) (by exact rfl) (by exact rfl) (.region (.m rfl (.cv Tryz.func50 [_] (lose_spec f g (Φ)) ?_))))))))))))
  refine .an rfl (.rt ?_)
  have hr : accF Φ ⟨δ, ω, Λ⟩ m = (Φ.lose, ⟨δ, ω, Λ⟩, none) := by unfold accF; (try dsimp only); rw [if_pos (by first | exact .inl h1_11 | exact .inr (.inl h1_24) | exact .inr (.inr h28))]
  rw [hr]
  try dsimp only
  refine .outNone Φ.ld ?_
  exact .dn rfl rfl ⟨_, _, rfl, rfl⟩
 refine D.kDF (t := 22) rfl h1_24 (.kDF (t := 23) rfl h1_24 (.gv rfl (.fieldAddr rfl fo_41_1) (.gv rfl (.ld rfl ag_3) (.gv rfl (.int rfl rfl rfl) (.kv rfl (.pickF rfl rfl) (.pf (.condD rfl (fun h28 => ?_) (fun h28 => ?_))))))))
 ·refine .seq (.fwFold (f := f) (g := g) (ha := ha) (hc := hc) (m := Φ.heard.length) Φ (by repeat' constructor) (by exact rfl) (by exact rfl) (by exact rfl) (.region (.m rfl (.cv Tryz.func50 [_] (lose_spec f g (Φ)) ?_))))
  refine .an rfl (.rt ?_)
  have hr : accF Φ ⟨δ, ω, Λ⟩ m = (Φ.lose, ⟨δ, ω, Λ⟩, none) := by unfold accF; (try dsimp only); rw [if_pos (by first | exact .inl h1_11 | exact .inr (.inl h1_24) | exact .inr (.inr h28))]
  rw [hr]
  try dsimp only
  refine .outNone Φ.ld ?_
  exact .dn rfl rfl ⟨_, _, rfl, rfl⟩
 refine .sk (.sr (.an rfl (.seq (.seq (.draw [] [[0, 1, 2, 3, 4, 5, 6, 7, 8, 9]] mixed (by kernel_rfl) (.go [ptc f _ _, ptc b3 _ _, lgR g x Λ] (by repeat' constructor) (.kv rfl (.fieldAddr rfl fo_41_1) (.kv rfl (.ld rfl ag_3) (.mv rfl rfl (.nf rfl rfl rfl fo_104_1 (.kv rfl (.ld rfl ag_25) (.nf rfl rfl rfl fo_53_0 (.m rfl (by kernel_rfl) (.c Tryz.func16 [_] (lacc_spec g x Λ)) (by repeat' constructor) ?_)))))))))))))
 refine D.kv rfl (.int rfl rfl rfl) (.pf (.condD rfl (fun h40 => ?_) (fun h40 => ?_)))
 ·refine .seq (.seq (.draw [6] [[0, 1, 2, 3, 4, 5, 6], [7]] mixed (by kernel_rfl) (.g0 (.mv rfl rfl (.nf rfl rfl rfl fo_104_1 (.kv rfl (.ld rfl ag_25) (.kv rfl (.fieldAddr rfl fo_41_1) (.kv rfl (.ld rfl ag_3) (.hh rfl (.c Tryz.func32 [_, _] (laccept_spec g x d δ ω Λ m.ep hwi)) ?_)))))))))
  rintro v L' ⟨rfl, rfl⟩; obtain ⟨r, hA⟩ : ∃ r, (lgAccept ⟨δ, ω, Λ⟩ m.ep) = r := ⟨_, rfl⟩; rw [hA] at hlr ⊢
  refine D.ph (.g0 (.kv rfl (.int rfl rfl rfl) (.pf (.condN rfl (fun h48 => ?_) (fun h48 => ?_)))))
  ·refine .seq (.fwFold (f := f) (g := g) (ha := ha) (hc := hc) (m := Φ.heard.length) Φ (by repeat' constructor) (by exact rfl) (by exact rfl) (by exact rfl) (.region (.m rfl (.cv Tryz.func50 [_] (lose_spec f g (Φ)) ?_))))
   refine .an rfl (.rt (.then_r ?_))
   have hr : accF Φ ⟨δ, ω, Λ⟩ m = (Φ.lose, r.1, none) := by unfold accF; (try dsimp only); rw [if_neg (by rintro (g1 | g1 | g1); exact h1_11 g1; exact h1_24 g1; exact h28 g1), if_pos h40, hA, if_pos h48]
   rw [hr]
   try dsimp only
   refine .outNone Φ.ld ?_
   exact .dn rfl rfl ⟨_, _, rfl, rfl⟩
  refine .sk (.region (.m rfl (.nf rfl fo_104_1 (.u (.ld rfl ag_25) (.nf rfl fo_53_0 (.cv Tryz.func17 [_] (lcur_spec g x r.1.Λ) ?_))))))
  refine .an rfl (.seq (.draw [6, 9] [[0, 1, 2, 3, 4, 5, 6], [7, 8, 9]] mixed (by kernel_rfl) (.go [ptc b3 _ _] (by repeat' constructor) (.mv rfl rfl (.k rfl (.move rfl) (.k rfl (.fieldAddr rfl fo_41_1) (.k rfl (.ld rfl ag_3) (.nf rfl rfl rfl fo_104_2 (.hh rfl (.store rfl rfl rfl sz_3 ?c74 (nfz0 _ _)) ?_)))))))))
  case c74 => first | decide | (simp; omega) | simp
  rintro v L' rfl
  refine D.ph (.g0 (.nf rfl rfl rfl fo_104_3 (.hh rfl (.store rfl rfl rfl sz_3 ?c79 (nfz0 _ _)) ?_)))
  case c79 => first | decide | (simp; omega) | simp
  rintro v L' rfl
  refine D.ph (.fin (.fwFold (f := f) (g := g) (ha := ha) (hc := hc) (m := Φ.heard.length) (Φ.go 1 m.ep) (by repeat' constructor) (by exact rfl) (by exact rfl) (by exact rfl) (.fwOpen (f := f) (by repeat' constructor) fun ha hc => (.then_n (.seq (.draw [10, 12] [[0, 1, 2, 3, 4, 5, 6, 7, 8, 9, 10, 11], [12], [13]] mixed (by kernel_rfl) (.go [ptc f _ _] (by repeat' constructor) (.k rfl (.move rfl) (.k rfl (.move rfl) (.k rfl (.nilp rfl) (.k rfl (.fieldAddr rfl fo_104_3) (.k rfl (.ld rfl ag_3) (.k rfl (.move rfl) (.mv rfl rfl (.nf rfl rfl rfl fo_104_1 (.kv rfl (.ld rfl ag_25) (.hh rfl (.c Tryz.func93 [_] (lmarks_spec g x r.1.Λ hlr)) ?_)))))))))))))))))
  rintro v L' ⟨am, cm, rfl, rfl⟩
  refine D.kv rfl (.to (v' := .agg (moC ⟨3, m.ep, 0, r.1.Λ.cur, marksZ r.1.Λ⟩ (.slice am (marksZ r.1.Λ).length cm)).toArray) (.buildN (pl := [(0, 1), (1, 1), (2, 1), (3, 1), (4, 1), (5, 1), (6, 1), (7, 1), (8, 10), (18, 1)]) (us := [(0, _), (1, _), (3, _), (5, _)]) (cells := moC ⟨3, m.ep, 0, r.1.Λ.cur, marksZ r.1.Λ⟩ (.slice am (marksZ r.1.Λ).length cm)) Tryz.underlying41 (by kernel_rfl) ze_41 rfl rfl) rfl) (.ph (.g0 (.hh rfl (.c Tryz.func57 [_, _] (sayO_spec f g (Φ.go 1 m.ep) ⟨3, m.ep, 0, r.1.Λ.cur, marksZ r.1.Λ⟩ (.slice am (marksZ r.1.Λ).length cm) rfl ha hc)) ?_)))
  rintro v L' ⟨bs, rfl, rfl⟩
  refine D.ph (.g0 (.kv rfl (.assign rfl) (.pf (.ret ?_))))
  have hr : accF Φ ⟨δ, ω, Λ⟩ m = (Φ.go 1 m.ep, r.1, some ⟨3, m.ep, 0, r.1.Λ.cur, marksZ r.1.Λ⟩) := by unfold accF; (try dsimp only); rw [if_neg (by rintro (g1 | g1 | g1); exact h1_11 g1; exact h1_24 g1; exact h28 g1), if_pos h40, hA, if_neg (fun g1 => g1 h48)]
  rw [hr]
  try dsimp only
  refine .outFold (v := .slice (some ⟨bs, 0, none⟩) 1 1) (mv := .slice am _ cm) (k := _) ⟨3, m.ep, 0, r.1.Λ.cur, marksZ r.1.Λ⟩ (by repeat' constructor) (by exact rfl) (by exact rfl) (by exact rfl) ?_
  exact .dn rfl rfl ⟨_, _, rfl, rfl⟩
 refine .sk (.seq (.draw [6, 9] [[0, 1, 2, 3, 4, 5, 6], [7, 8, 9]] mixed (by kernel_rfl) (.go [ptc b3 _ _] (by repeat' constructor) (.mv rfl rfl (.k rfl (.move rfl) (.k rfl (.fieldAddr rfl fo_41_1) (.k rfl (.ld rfl ag_3) (.nf rfl rfl rfl fo_104_2 (.hh rfl (.store rfl rfl rfl sz_3 ?c102 (nfz0 _ _)) ?_)))))))))
 case c102 => first | decide | (simp; omega) | simp
 rintro v L' rfl
 refine D.ph (.g0 (.nf rfl rfl rfl fo_104_3 (.hh rfl (.store rfl rfl rfl sz_3 ?c107 (nfz0 _ _)) ?_)))
 case c107 => first | decide | (simp; omega) | simp
 rintro v L' rfl
 refine D.ph (.fin (.fwFold (f := f) (g := g) (ha := ha) (hc := hc) (m := Φ.heard.length) (Φ.go 1 m.ep) (by repeat' constructor) (by exact rfl) (by exact rfl) (by exact rfl) (.fwOpen (f := f) (by repeat' constructor) fun ha hc => (.then_n (.seq (.draw [10, 12] [[0, 1, 2, 3, 4, 5, 6, 7, 8, 9, 10, 11], [12], [13]] mixed (by kernel_rfl) (.go [ptc f _ _] (by repeat' constructor) (.k rfl (.move rfl) (.k rfl (.move rfl) (.k rfl (.nilp rfl) (.k rfl (.fieldAddr rfl fo_104_3) (.k rfl (.ld rfl ag_3) (.k rfl (.move rfl) (.mv rfl rfl (.nf rfl rfl rfl fo_104_1 (.kv rfl (.ld rfl ag_25) (.hh rfl (.c Tryz.func93 [_] (lmarks_spec g x Λ hli)) ?_)))))))))))))))))
 rintro v L' ⟨am, cm, rfl, rfl⟩
 refine D.kv rfl (.to (v' := .agg (moC ⟨3, m.ep, 0, -1, marksZ Λ⟩ (.slice am (marksZ Λ).length cm)).toArray) (.buildN (pl := [(0, 1), (1, 1), (2, 1), (3, 1), (4, 1), (5, 1), (6, 1), (7, 1), (8, 10), (18, 1)]) (us := [(0, _), (1, _), (3, _), (5, _)]) (cells := moC ⟨3, m.ep, 0, -1, marksZ Λ⟩ (.slice am (marksZ Λ).length cm)) Tryz.underlying41 (by kernel_rfl) ze_41 rfl rfl) rfl) (.ph (.g0 (.hh rfl (.c Tryz.func57 [_, _] (sayO_spec f g (Φ.go 1 m.ep) ⟨3, m.ep, 0, -1, marksZ Λ⟩ (.slice am (marksZ Λ).length cm) rfl ha hc)) ?_)))
 rintro v L' ⟨bs, rfl, rfl⟩
 refine D.ph (.g0 (.kv rfl (.assign rfl) (.pf (.ret ?_))))
 have hr : accF Φ ⟨δ, ω, Λ⟩ m = (Φ.go 1 m.ep, ⟨δ, ω, Λ⟩, some ⟨3, m.ep, 0, -1, marksZ Λ⟩) := by unfold accF; (try dsimp only); rw [if_neg (by rintro (g1 | g1 | g1); exact h1_11 g1; exact h1_24 g1; exact h28 g1), if_neg h40]
 rw [hr]
 try dsimp only
 refine .outFold (v := .slice (some ⟨bs, 0, none⟩) 1 1) (mv := .slice am _ cm) (k := _) ⟨3, m.ep, 0, -1, marksZ Λ⟩ (by repeat' constructor) (by exact rfl) (by exact rfl) (by exact rfl) ?_
 exact .dn rfl rfl ⟨_, _, rfl, rfl⟩
theorem fsync_spec (f g x d : Nat) (Φ : Fw) (δ : Dk) (ω : Wl) (Λ : Lg) (m : Ms) (p : HP) (N : Int) (hm : MsA p m) (hP : LPs ⟨δ, ω, Λ⟩ N) (hN : N + 3000000000000 < 4611686018427387904) : Fn Tryz.prog 54 #[vptr f, .agg (msC m).toArray] [fwR f g Φ, lgR g x Λ, wlR x d ω, dkR d δ, p] fun v L => ∃ a c, v = .slice a (onN (synF Φ ⟨δ, ω, Λ⟩ m).2.2) c ∧ L = [fwR f g (synF Φ ⟨δ, ω, Λ⟩ m).1, lgR g x (synF Φ ⟨δ, ω, Λ⟩ m).2.1.Λ, wlR x d (synF Φ ⟨δ, ω, Λ⟩ m).2.1.ω, dkR d (synF Φ ⟨δ, ω, Λ⟩ m).2.1.δ, outR v Φ.ld (synF Φ ⟨δ, ω, Λ⟩ m).2.2, p] := by
 refine Fn.intro Tryz.func54 rfl rfl fun F W => ?_
 have hml := hm.len
 have hwi := hP.wk.i (by omega)
 have hli := hP.w.i
 have hup : Λ.zxs.Pairwise (· < ·) := (List.pairwise_cons.1 hP.w.rows.up).2
 have hsn : Λ.snap.length ≤ 65536 := hP.w.snap
 have hPc := lps_cut hP m.zx
 have hPh := lps_hist hP hm
 refine .fwOpen (f := f) (by repeat' constructor) fun ha hc => (.sr (.oq (.box rfl) ?_))
 rintro v L' ⟨b3, rfl, rfl⟩
 refine .a rfl (.nil (.ptCast (b := b3) (l' := msC m) (by repeat' constructor) (by exact rfl) (.then_n (.seq (.seq (.draw [] [[0, 1, 2, 3, 4, 5, 6, 7, 8, 9, 10, 11, 12, 13]] mixed (by kernel_rfl) (.g0 (.mv rfl rfl (.nf rfl rfl rfl fo_104_2 (.kv rfl (.ld rfl ag_3) (.kv rfl (.int rfl rfl rfl) (.mv rfl rfl (.ndec (t := 11) rfl (fun h1_11 => ?_) (fun h1_11 => ?_))))))))))))))
 ·refine D.kNT (t := 10) rfl h1_11 (.gz rfl (.gz rfl (.gz rfl (.gz rfl (.gz rfl (.gz rfl (.gz rfl (.kv rfl (.pickT rfl rfl) (.pf (.condT rfl (.seq (.fwFold (f := f) (g := g) (ha := ha) (hc := hc) (m := Φ.heard.length) Φ (by repeat' constructor) (by exact rfl) (by exact rfl) (by exact rfl) (.region (.m rfl (.cv Tryz.func50 [_] (lose_spec f g (Φ)) ?_)))))))))))))))
  refine .an rfl (.rt ?_)
  have hr : synF Φ ⟨δ, ω, Λ⟩ m = (Φ.lose, ⟨δ, ω, Λ⟩, none) := by unfold synF; (try dsimp only); rw [if_pos (by first | exact .inl h1_11 | exact .inr h19)]
  rw [hr]
  try dsimp only
  refine .outNone Φ.ld ?_
  exact .dn rfl rfl ⟨_, _, rfl, rfl⟩
 refine D.kNF (t := 10) rfl h1_11 (.gv rfl (.fieldAddr rfl fo_41_1) (.gv rfl (.ld rfl ag_3) (.gv rfl (.move rfl) (.gv rfl (.nilp rfl) (.gv rfl (.fieldAddr rfl fo_104_3) (.gv rfl (.ld rfl ag_3) (.gv rfl (.int rfl rfl rfl) (.kv rfl (.pickF rfl rfl) (.pf (.condN rfl (fun h19 => ?_) (fun h19 => ?_)))))))))))
 ·refine .seq (.fwFold (f := f) (g := g) (ha := ha) (hc := hc) (m := Φ.heard.length) Φ (by repeat' constructor) (by exact rfl) (by exact rfl) (by exact rfl) (.region (.m rfl (.cv Tryz.func50 [_] (lose_spec f g (Φ)) ?_))))
  refine .an rfl (.rt ?_)
  have hr : synF Φ ⟨δ, ω, Λ⟩ m = (Φ.lose, ⟨δ, ω, Λ⟩, none) := by unfold synF; (try dsimp only); rw [if_pos (by first | exact .inl h1_11 | exact .inr h19)]
  rw [hr]
  try dsimp only
  refine .outNone Φ.ld ?_
  exact .dn rfl rfl ⟨_, _, rfl, rfl⟩
 refine .sk (.sr (.an rfl (.seq (.joinK (ι := Unit) (fun q E => (5, .bool (decide ((histF ⟨δ, ω, Λ⟩ m).2 = 0))) :: E) (fun q => [lgR g x ((histF ⟨δ, ω, Λ⟩ m).1).Λ, wlR x d ((histF ⟨δ, ω, Λ⟩ m).1).ω, dkR d ((histF ⟨δ, ω, Λ⟩ m).1).δ, p, fwR f g Φ]) (fun q => True) (pre := [lgR g x Λ, wlR x d ω, dkR d δ, p, ptc f [vint Φ.ld, vptr g, vint Φ.ph, vint Φ.ep, vint Φ.com, vint Φ.sil, .slice ha Φ.heard.length hc] 104, intR (.slice ha Φ.heard.length hc) Φ.heard]) (ts := [0, 4]) (.cons rfl (.cons rfl (.nil))) (by repeat' constructor) ?_ ?_))))
 ·refine .sr (.u (.fieldAddr rfl fo_41_3) (.u (.ld rfl ag_3) (.ui rfl rfl rfl (.nt (.condD rfl (fun h24 => ?_) (fun h24 => ?_))))))
  ·refine .draw [10] [[0, 1, 2, 3, 4, 5, 6, 7, 8, 9, 10], [11, 12]] mixed (by kernel_rfl) (.g0 (.mv rfl rfl (.nf rfl rfl rfl fo_104_1 (.kv rfl (.ld rfl ag_25) (.kv rfl (.fieldAddr rfl fo_41_2) (.kv rfl (.ld rfl ag_3) (.kv rfl (.fieldAddr rfl fo_41_6) (.kv rfl (.ld rfl ag_9) (.kv rfl (.fieldAddr rfl fo_41_7) (.kv rfl (.ld rfl ag_33) (.hh rfl (.c Tryz.func94 [_, _, _, _] (linstall_spec g x d δ ω Λ m.zx m.data m.ev m.ents p hwi hm.zx hm.l (by omega) hm.x)) ?_)))))))))))
   rintro v L' ⟨rfl, rfl⟩
   refine D.ph (.g0 (.kv rfl (.int rfl rfl rfl) (.kv rfl (.assign rfl) (.pf ?_))))
   have hz : (histF ⟨δ, ω, Λ⟩ m) = lgInstall ⟨δ, ω, Λ⟩ m.zx m.data m.ents := by unfold histF; rw [if_pos h24]
   rw [hz]
   refine .fwFold (f := f) (g := g) (ha := ha) (hc := hc) (m := Φ.heard.length) Φ (by repeat' constructor) (by exact rfl) (by exact rfl) (by exact rfl) ?_
   exact .mk (()) (trivial) ⟨rfl, rfl, rfl, trivial⟩
  refine .draw [6, 12] [[0, 1, 2, 3, 4, 5, 6], [7, 8, 9, 10, 11, 12], [13, 14]] mixed (by kernel_rfl) (.g0 (.mv rfl rfl (.nf rfl rfl rfl fo_104_1 (.kv rfl (.ld rfl ag_25) (.kv rfl (.fieldAddr rfl fo_41_2) (.kv rfl (.ld rfl ag_3) (.hh rfl (.c Tryz.func95 [_, _] (lcut_spec g x d δ ω Λ m.zx hwi hli hup hsn)) ?_)))))))
  rintro v L' ⟨rfl, rfl⟩
  refine D.ph (.g0 (.kv rfl (.int rfl rfl rfl) (.mv rfl rfl (.dec (t := 45) rfl (fun h6_45 => ?_) (fun h6_45 => ?_)))))
  ·refine D.kDT (t := 44) rfl h6_45 (.gv rfl (.move rfl) (.gv rfl (.fieldAddr rfl fo_41_7) (.gv rfl (.ld rfl ag_33) (.gh (t := 45) rfl rfl rfl (by kernel_rfl) (.c Tryz.func96 [_, _] (ftakeO_spec f g x d Φ (lgCut ⟨δ, ω, Λ⟩ m.zx).1.δ (lgCut ⟨δ, ω, Λ⟩ m.zx).1.ω (lgCut ⟨δ, ω, Λ⟩ m.zx).1.Λ m.ev m.ents p (N + 2000000) hPc (by omega) hm.l hm.len hm.x ha hc)) (by repeat' constructor) ?_))))
   rintro v L' ⟨rfl, rfl⟩
   refine D.ph (.g0 (.kv rfl (.pickT rfl rfl) (.kv rfl (.assign rfl) (.pf ?_))))
   have hz : (histF ⟨δ, ω, Λ⟩ m) = cutTake ⟨δ, ω, Λ⟩ m.zx m.ents := by unfold histF; rw [if_neg h24]
   rw [hz]
   have hy : cutTake ⟨δ, ω, Λ⟩ m.zx m.ents = takeZ m.ents (lgCut ⟨δ, ω, Λ⟩ m.zx).1 := by unfold cutTake; rw [if_neg (fun g1 => g1 h6_45)]
   rw [hy]
   exact .mk (()) (trivial) ⟨rfl, rfl, rfl, trivial⟩
  refine D.kDF (t := 44) rfl h6_45 (.gz rfl (.gz rfl (.gz rfl (.gz rfl (.ph (.g0 (.kv rfl (.pickF rfl rfl) (.kv rfl (.assign rfl) (.pf ?_)))))))))
  have hz : (histF ⟨δ, ω, Λ⟩ m) = cutTake ⟨δ, ω, Λ⟩ m.zx m.ents := by unfold histF; rw [if_neg h24]
  rw [hz]
  have hy : cutTake ⟨δ, ω, Λ⟩ m.zx m.ents = lgCut ⟨δ, ω, Λ⟩ m.zx := by unfold cutTake; rw [if_pos h6_45]
  rw [hy, decide_eq_false h6_45]
  refine .fwFold (f := f) (g := g) (ha := ha) (hc := hc) (m := Φ.heard.length) Φ (by repeat' constructor) (by exact rfl) (by exact rfl) (by exact rfl) ?_
  exact .mk (()) (trivial) ⟨rfl, rfl, rfl, trivial⟩
 rintro _u _
 obtain ⟨r, hH⟩ : ∃ r, (histF ⟨δ, ω, Λ⟩ m) = r := ⟨_, rfl⟩
 rw [hH] at hPh ⊢
 have hwh := hPh.wk.i (by omega)
 have hws := (lps_sync hPh).wk.i (by omega)
 refine .fwOpen (f := f) (by repeat' constructor) fun ha hc => (.seq (.seq (.draw [11] [[0, 1, 2, 3, 4, 5, 6, 7, 8, 9, 10, 11], [12, 13]] mixed (by kernel_rfl) (.g0 (.mv rfl rfl (.kv rfl (.not rfl) (.mv rfl rfl (.ndec (t := 53) rfl (fun h7_53 => ?_) (fun h7_53 => ?_)))))))))
 ·refine D.kNT (t := 52) rfl h7_53 (.gz rfl (.gz rfl (.gz rfl (.gz rfl (.gz rfl (.gz rfl (.gz rfl (.gz rfl (.gz rfl (.ph (.g0 (.gz rfl (.kv rfl (.pickT rfl rfl) (.pf (.condT rfl (.seq (.fwFold (f := f) (g := g) (ha := ha) (hc := hc) (m := Φ.heard.length) Φ (by repeat' constructor) (by exact rfl) (by exact rfl) (by exact rfl) (.region (.m rfl (.cv Tryz.func50 [_] (lose_spec f g (Φ)) ?_))))))))))))))))))))
  refine .an rfl (.rt ?_)
  have hr : synF Φ ⟨δ, ω, Λ⟩ m = synF2 Φ r := by unfold synF; rw [if_neg (by rintro (g1 | g1); exact g1 h1_11; exact g1 h19), hH]
  rw [hr]
  have hr : synF2 Φ r = (Φ.lose, r.1, none) := by unfold synF2; (try dsimp only); rw [if_pos h7_53]
  rw [hr]
  try dsimp only
  refine .outNone Φ.ld ?_
  exact .dn rfl rfl ⟨_, _, rfl, rfl⟩
 refine D.kNF (t := 52) rfl h7_53 (.gv rfl (.move rfl) (.gv rfl (.nilp rfl) (.gv rfl (.fieldAddr rfl fo_104_1) (.gv rfl (.ld rfl ag_25) (.gv rfl (.move rfl) (.gv rfl (.nilp rfl) (.gv rfl (.fieldAddr rfl fo_104_3) (.gv rfl (.ld rfl ag_3) (.gh (t := 53) rfl rfl rfl (by kernel_rfl) (.c Tryz.func33 [_, _] (ladopt_spec g x d r.1.δ r.1.ω r.1.Λ Φ.ep hwh hws)) (by repeat' constructor) ?_)))))))))
 rintro v L' ⟨rfl, rfl⟩; obtain ⟨a, hA⟩ : ∃ a, lgAdopt r.1 Φ.ep = a := ⟨_, rfl⟩; rw [show lgAdopt ⟨r.1.δ, r.1.ω, r.1.Λ⟩ Φ.ep = a from hA]
 refine D.ph (.g0 (.gv rfl (.int rfl rfl rfl) (.kv rfl (.pickF rfl rfl) (.pf (.condN rfl (fun h64 => ?_) (fun h64 => ?_))))))
 ·refine .seq (.fwFold (f := f) (g := g) (ha := ha) (hc := hc) (m := Φ.heard.length) Φ (by repeat' constructor) (by exact rfl) (by exact rfl) (by exact rfl) (.region (.m rfl (.cv Tryz.func50 [_] (lose_spec f g (Φ)) ?_))))
  refine .an rfl (.rt ?_)
  have hr : synF Φ ⟨δ, ω, Λ⟩ m = synF2 Φ r := by unfold synF; rw [if_neg (by rintro (g1 | g1); exact g1 h1_11; exact g1 h19), hH]
  rw [hr]
  have hr : synF2 Φ r = (Φ.lose, a.1, none) := by unfold synF2; (try dsimp only); rw [if_neg (fun g1 => g1 h7_53), hA, if_pos h64]
  rw [hr]
  try dsimp only
  refine .outNone Φ.ld ?_
  exact .dn rfl rfl ⟨_, _, rfl, rfl⟩
 refine .sk (.sm rfl (.nf rfl fo_104_2 (.st rfl rfl rfl sz_3 ?_)))
 refine .nt (.sm rfl (.m rfl (.nf rfl fo_104_3 (.u (.ld rfl ag_3) (.q (.to (v' := .agg (moC ⟨5, Φ.ep, 0, 0, []⟩ (.slice none 0 0)).toArray) (.buildN (pl := [(0, 1), (1, 1), (2, 1), (3, 1), (4, 1), (5, 1), (6, 1), (7, 1), (8, 10), (18, 1)]) (us := [(0, _), (1, _)]) (cells := moC ⟨5, Φ.ep, 0, 0, []⟩ (.slice none 0 0)) Tryz.underlying41 (by kernel_rfl) ze_41 rfl rfl) rfl) rfl (.fwFold (f := f) (g := g) (ha := ha) (hc := hc) (m := Φ.heard.length) (Φ.toPh 2) (by repeat' constructor) (by exact rfl) (by exact rfl) (by exact rfl) (.add (slR_nil 3 1) (.oq (.c Tryz.func57 [_, _] (say_spec f g (Φ.toPh 2) ⟨5, Φ.ep, 0, 0, []⟩ (.slice none 0 0) rfl)) ?_))))))))
 rintro v L' ⟨bs, rfl, rfl⟩
 refine .an rfl (.ret ?_)
 have hr : synF Φ ⟨δ, ω, Λ⟩ m = synF2 Φ r := by unfold synF; rw [if_neg (by rintro (g1 | g1); exact g1 h1_11; exact g1 h19), hH]
 rw [hr]
 have hr : synF2 Φ r = (Φ.toPh 2, a.1, some ⟨5, Φ.ep, 0, 0, []⟩) := by unfold synF2; (try dsimp only); rw [if_neg (fun g1 => g1 h7_53), hA, if_neg (fun g1 => g1 h64)]
 rw [hr]
 try dsimp only
 refine .outFold (v := .slice (some ⟨bs, 0, none⟩) 1 1) (mv := .slice none 0 0) (k := 0) ⟨5, Φ.ep, 0, 0, []⟩ (by repeat' constructor) (by exact rfl) (by exact rfl) (by exact rfl) ?_
 exact .dn rfl rfl ⟨_, _, rfl, rfl⟩
theorem ent0_at {l : List En} (h : l.length = 1) : (l.flatMap enC)[0]? = some (vint (ent0 l)) := by
 obtain ⟨e, rfl⟩ := one_ent (fun g => g h)
 rfl
theorem ent0_i64 {p : HP} {l : List En} (h : ∀ e ∈ l, EnX p e) : I64 (ent0 l) := by
 match l, h with
 | [], _ => exact ⟨by decide, by decide⟩
 | e :: l, h => exact (h e (List.mem_cons_self ..)).l.w.i.zx
theorem tdiv_i64 {a : Int} (h : I64 a) : -9223372036854775808 ≤ a.tdiv 4294967296 ∧ a.tdiv 4294967296 ≤ 9223372036854775807 := by
 obtain ⟨h1, h2⟩ := h
 rcases Int.le_total 0 a with h3 | h3
 ·rw [Int.tdiv_eq_ediv_of_nonneg h3]; omega
 ·obtain ⟨b, rfl⟩ : ∃ b, a = -b := ⟨-a, by omega⟩
  rw [Int.neg_tdiv, Int.tdiv_eq_ediv_of_nonneg (by omega)]; omega
theorem fpropose_spec (f g x d : Nat) (Φ : Fw) (δ : Dk) (ω : Wl) (Λ : Lg) (m : Ms) (p : HP) (N : Int) (hm : MsA p m) (hP : LPs ⟨δ, ω, Λ⟩ N) (hN : N + 3000000000000 < 4611686018427387904) : Fn Tryz.prog 55 #[vptr f, .agg (msC m).toArray] [fwR f g Φ, lgR g x Λ, wlR x d ω, dkR d δ, p] fun v L => ∃ a c, v = .slice a (onN (proF Φ ⟨δ, ω, Λ⟩ m).2.2) c ∧ L = [fwR f g (proF Φ ⟨δ, ω, Λ⟩ m).1, lgR g x (proF Φ ⟨δ, ω, Λ⟩ m).2.1.Λ, wlR x d (proF Φ ⟨δ, ω, Λ⟩ m).2.1.ω, dkR d (proF Φ ⟨δ, ω, Λ⟩ m).2.1.δ, outR v Φ.ld (proF Φ ⟨δ, ω, Λ⟩ m).2.2, p] := by
 refine Fn.intro Tryz.func55 rfl rfl fun F W => ?_
 have hml := hm.len
 have hz0 := ent0_i64 hm.x
 refine .rdBoth (p := p) hm.l (by repeat' constructor) fun aa ca hev hA => ?_
 have hev2 : ∀ h : Hp, p h → rdS 11 h (.slice aa m.ents.length ca) m.ents.length (m.ents.flatMap enC) := hev ▸ hm.l
 refine .fwOpen (f := f) (by repeat' constructor) fun ha hc => (.sr (.oq (.box rfl) ?_))
 rintro v L' ⟨b3, rfl, rfl⟩
 refine .a rfl (.nil (.ptCast (b := b3) (l' := msC m) (by repeat' constructor) (by exact rfl) (.then_n (.seq (.seq (.draw [35] [[0, 1, 2, 3, 4, 5, 6, 7, 8, 9, 10, 11, 12, 13, 14, 15, 16, 17, 18, 19, 20, 21, 22, 23, 24, 25, 26, 27, 28, 29, 30, 31, 32, 33, 34, 35], [36, 37]] mixed (by kernel_rfl) (.g0 (.mv rfl rfl (.nf rfl rfl rfl fo_104_2 (.kv rfl (.ld rfl ag_3) (.kv rfl (.int rfl rfl rfl) (.mv rfl rfl (.ndec (t := 10) rfl (fun h1_10 => ?_) (fun h1_10 => ?_))))))))))))))
 ·refine D.kNT (t := 9) rfl h1_10 (.gv rfl (.move rfl) (.gv rfl (.nilp rfl) (.gv rfl (.fieldAddr rfl fo_104_2) (.gv rfl (.ld rfl ag_3) (.gv rfl (.int rfl rfl rfl) (.kv rfl (.pickT rfl rfl) (.mv rfl rfl (.ndec (t := 17) rfl (fun h1_17 => ?_) (fun h1_17 => ?_)))))))))
  ·refine D.kNT (t := 15) rfl h1_17 (.kNT (t := 16) rfl h1_17 (.gz rfl (.gz rfl (.gz rfl (.gz rfl (.kv rfl (.pickT rfl rfl) (.mv rfl rfl (.gz rfl (.gz rfl (.gz rfl (.gz rfl (.gz rfl (.gz rfl (.gz rfl (.gz rfl (.gz rfl (.gz rfl (.gz rfl (.kv rfl (.pickT rfl rfl) (.mv rfl rfl (.gz rfl (.gz rfl (.gz rfl (.gz rfl (.ph (.g0 (.gz rfl (.kv rfl (.pickT rfl rfl) (.pf (.condT rfl (.seq (.fwFold (f := f) (g := g) (ha := ha) (hc := hc) (m := Φ.heard.length) Φ (by repeat' constructor) (by exact rfl) (by exact rfl) (by exact rfl) (.region (.m rfl (.cv Tryz.func50 [_] (lose_spec f g (Φ)) ?_)))))))))))))))))))))))))))))))))))
   refine .an rfl (.rt ?_)
   have hr : proF Φ ⟨δ, ω, Λ⟩ m = (Φ.lose, ⟨δ, ω, Λ⟩, none) := by unfold proF; (try dsimp only); rw [if_pos (by first | exact .inl (by rintro (g1 | g1); exact h1_10 g1; exact h1_17 g1) | exact .inr (.inl (by omega)) | exact .inr (.inr h1_36))]
   rw [hr]
   try dsimp only
   refine .outNone Φ.ld ?_
   exact .dn rfl rfl ⟨_, _, rfl, rfl⟩
  refine D.kNF (t := 15) rfl h1_17 (.kNF (t := 16) rfl h1_17 (.gv rfl (.fieldAddr rfl fo_41_7) (.gv rfl (.to (v' := .slice aa m.ents.length ca) (.load rfl ag_33 (by repeat' constructor) rfl) hev) (.gv rfl (.slen rfl Tryz.underlying33 rfl) (.gv rfl (.int rfl rfl rfl) (.kv rfl (.pickF rfl rfl) (.mv rfl rfl (.ndec (t := 23) rfl (fun h1_23 => ?_) (fun h1_23 => ?_)))))))))
  ·refine D.kNT (t := 21) rfl h1_23 (.kNT (t := 22) rfl h1_23 (.gz rfl (.gz rfl (.gz rfl (.gz rfl (.gz rfl (.gz rfl (.gz rfl (.gz rfl (.gz rfl (.gz rfl (.gz rfl (.kv rfl (.pickT rfl rfl) (.mv rfl rfl (.gz rfl (.gz rfl (.gz rfl (.gz rfl (.ph (.g0 (.gz rfl (.kv rfl (.pickT rfl rfl) (.pf (.condT rfl (.seq (.fwFold (f := f) (g := g) (ha := ha) (hc := hc) (m := Φ.heard.length) Φ (by repeat' constructor) (by exact rfl) (by exact rfl) (by exact rfl) (.region (.m rfl (.cv Tryz.func50 [_] (lose_spec f g (Φ)) ?_)))))))))))))))))))))))))))))
   refine .an rfl (.rt ?_)
   have hr : proF Φ ⟨δ, ω, Λ⟩ m = (Φ.lose, ⟨δ, ω, Λ⟩, none) := by unfold proF; (try dsimp only); rw [if_pos (by first | exact .inl (by rintro (g1 | g1); exact h1_10 g1; exact h1_17 g1) | exact .inr (.inl (by omega)) | exact .inr (.inr h1_36))]
   rw [hr]
   try dsimp only
   refine .outNone Φ.ld ?_
   exact .dn rfl rfl ⟨_, _, rfl, rfl⟩
  obtain ⟨ba, oa, rfl⟩ := hA (by omega)
  refine D.kNF (t := 21) rfl h1_23 (.kNF (t := 22) rfl h1_23 (.gv rfl (.fieldAddr rfl fo_41_7) (.gv rfl (.to (v' := .slice (some ⟨ba, oa, none⟩) m.ents.length ca) (.load rfl ag_33 (by repeat' constructor) rfl) hev) (.gv rfl (.indexAddr rfl rfl el_33 (by omega)) (.gv rfl (.fieldAddr rfl fo_75_0) (.gv rfl (.loadRd (sz := 11) (j := 0) (p := p) (v := vint (ent0 m.ents)) rfl ag_3 (by repeat' constructor) hev2 (by omega) (ent0_at (by omega))) (.gv rfl (.quo rfl rfl (by decide) (tdiv_i64 hz0)) (.gv rfl (.move rfl) (.gv rfl (.nilp rfl) (.gv rfl (.fieldAddr rfl fo_104_3) (.gv rfl (.ld rfl ag_3) (.gv rfl (.int rfl rfl rfl) (.kv rfl (.pickF rfl rfl) (.mv rfl rfl (.ndec (t := 36) rfl (fun h1_36 => ?_) (fun h1_36 => ?_))))))))))))))))
  ·refine D.kNT (t := 34) rfl h1_36 (.kNT (t := 35) rfl h1_36 (.gz rfl (.gz rfl (.gz rfl (.gz rfl (.ph (.g0 (.gz rfl (.kv rfl (.pickT rfl rfl) (.pf (.condT rfl (.seq (.fwFold (f := f) (g := g) (ha := ha) (hc := hc) (m := Φ.heard.length) Φ (by repeat' constructor) (by exact rfl) (by exact rfl) (by exact rfl) (.region (.m rfl (.cv Tryz.func50 [_] (lose_spec f g (Φ)) ?_))))))))))))))))
   refine .an rfl (.rt ?_)
   have hr : proF Φ ⟨δ, ω, Λ⟩ m = (Φ.lose, ⟨δ, ω, Λ⟩, none) := by unfold proF; (try dsimp only); rw [if_pos (by first | exact .inl (by rintro (g1 | g1); exact h1_10 g1; exact h1_17 g1) | exact .inr (.inl (by omega)) | exact .inr (.inr h1_36))]
   rw [hr]
   try dsimp only
   refine .outNone Φ.ld ?_
   exact .dn rfl rfl ⟨_, _, rfl, rfl⟩
  refine D.kNF (t := 34) rfl h1_36 (.kNF (t := 35) rfl h1_36 (.gv rfl (.move rfl) (.gv rfl (.fieldAddr rfl fo_41_7) (.gv rfl (.to (v' := .slice (some ⟨ba, oa, none⟩) m.ents.length ca) (.load rfl ag_33 (by repeat' constructor) rfl) hev) (.gh (t := 36) rfl rfl rfl (by kernel_rfl) (.c Tryz.func96 [_, _] (ftakeO_spec f g x d Φ δ ω Λ (.slice (some ⟨ba, oa, none⟩) m.ents.length ca) m.ents p N hP (by omega) hev2 hm.len hm.x ha hc)) (by repeat' constructor) ?_)))))
  rintro v L' ⟨rfl, rfl⟩; obtain ⟨r, hT⟩ : ∃ r, (takeZ m.ents ⟨δ, ω, Λ⟩) = r := ⟨_, rfl⟩; rw [hT]
  refine D.ph (.g0 (.gv rfl (.not rfl) (.kv rfl (.pickF rfl rfl) (.pf (.condB rfl (fun h42 => ?_) (fun h42 => ?_))))))
  ·refine .sm rfl (.cv Tryz.func50 [_] (lose_spec f g (Φ)) ?_)
   refine .an rfl (.rt ?_)
   have hr : proF Φ ⟨δ, ω, Λ⟩ m = (Φ.lose, r.1, none) := by unfold proF; (try dsimp only); rw [if_neg (by rintro (g1 | g1 | g1); exact g1 (by first | exact .inl h1_10 | exact .inr h1_17); exact g1 (by omega); exact g1 h1_36), hT, if_pos (by simpa using h42)]
   rw [hr]
   try dsimp only
   refine .outNone Φ.ld ?_
   exact .dn rfl rfl ⟨_, _, rfl, rfl⟩
  refine .sk (.sm rfl (.u (.fieldAddr rfl fo_41_7) (.q (.to (v' := .slice (some ⟨ba, oa, none⟩) m.ents.length ca) (.load rfl ag_33 (by repeat' constructor) rfl) hev) rfl (.q (.indexAddr rfl rfl el_33 (by omega)) rfl (.u (.fieldAddr rfl fo_75_0) (.q (.loadRd (sz := 11) (j := 0) (p := p) (v := vint (ent0 m.ents)) rfl ag_3 (by repeat' constructor) hev2 (by omega) (ent0_at (by omega))) rfl (.q (.to (v' := .agg (moC ⟨8, 0, ent0 m.ents, 0, []⟩ (.slice none 0 0)).toArray) (.buildN (pl := [(0, 1), (1, 1), (2, 1), (3, 1), (4, 1), (5, 1), (6, 1), (7, 1), (8, 10), (18, 1)]) (us := [(0, _), (2, _)]) (cells := moC ⟨8, 0, ent0 m.ents, 0, []⟩ (.slice none 0 0)) Tryz.underlying41 (by kernel_rfl) ze_41 rfl rfl) rfl) rfl (.add (slR_nil 3 1) (.oq (.c Tryz.func57 [_, _] (say_spec f g (Φ) ⟨8, 0, ent0 m.ents, 0, []⟩ (.slice none 0 0) rfl)) ?_)))))))))
  rintro v L' ⟨bs, rfl, rfl⟩
  refine .an rfl (.ret ?_)
  have hr : proF Φ ⟨δ, ω, Λ⟩ m = (Φ, r.1, some ⟨8, 0, ent0 m.ents, 0, []⟩) := by unfold proF; (try dsimp only); rw [if_neg (by rintro (g1 | g1 | g1); exact g1 (by first | exact .inl h1_10 | exact .inr h1_17); exact g1 (by omega); exact g1 h1_36), hT, if_neg (fun g1 => g1 (by simpa using h42))]
  rw [hr]
  try dsimp only
  refine .outFold (v := .slice (some ⟨bs, 0, none⟩) 1 1) (mv := .slice none 0 0) (k := 0) ⟨8, 0, ent0 m.ents, 0, []⟩ (by repeat' constructor) (by exact rfl) (by exact rfl) (by exact rfl) ?_
  exact .dn rfl rfl ⟨_, _, rfl, rfl⟩
 refine D.kNF (t := 9) rfl h1_10 (.gz rfl (.gz rfl (.gz rfl (.gz rfl (.gz rfl (.kv rfl (.pickF rfl rfl) (.mv rfl rfl (.gv rfl (.fieldAddr rfl fo_41_7) (.gv rfl (.to (v' := .slice aa m.ents.length ca) (.load rfl ag_33 (by repeat' constructor) rfl) hev) (.gv rfl (.slen rfl Tryz.underlying33 rfl) (.gv rfl (.int rfl rfl rfl) (.kv rfl (.pickF rfl rfl) (.mv rfl rfl (.ndec (t := 23) rfl (fun h1_23 => ?_) (fun h1_23 => ?_)))))))))))))))
 ·refine D.kNT (t := 21) rfl h1_23 (.kNT (t := 22) rfl h1_23 (.gz rfl (.gz rfl (.gz rfl (.gz rfl (.gz rfl (.gz rfl (.gz rfl (.gz rfl (.gz rfl (.gz rfl (.gz rfl (.kv rfl (.pickT rfl rfl) (.mv rfl rfl (.gz rfl (.gz rfl (.gz rfl (.gz rfl (.ph (.g0 (.gz rfl (.kv rfl (.pickT rfl rfl) (.pf (.condT rfl (.seq (.fwFold (f := f) (g := g) (ha := ha) (hc := hc) (m := Φ.heard.length) Φ (by repeat' constructor) (by exact rfl) (by exact rfl) (by exact rfl) (.region (.m rfl (.cv Tryz.func50 [_] (lose_spec f g (Φ)) ?_)))))))))))))))))))))))))))))
  refine .an rfl (.rt ?_)
  have hr : proF Φ ⟨δ, ω, Λ⟩ m = (Φ.lose, ⟨δ, ω, Λ⟩, none) := by unfold proF; (try dsimp only); rw [if_pos (by first | exact .inl (by rintro (g1 | g1); exact h1_10 g1; exact h1_17 g1) | exact .inr (.inl (by omega)) | exact .inr (.inr h1_36))]
  rw [hr]
  try dsimp only
  refine .outNone Φ.ld ?_
  exact .dn rfl rfl ⟨_, _, rfl, rfl⟩
 obtain ⟨ba, oa, rfl⟩ := hA (by omega)
 refine D.kNF (t := 21) rfl h1_23 (.kNF (t := 22) rfl h1_23 (.gv rfl (.fieldAddr rfl fo_41_7) (.gv rfl (.to (v' := .slice (some ⟨ba, oa, none⟩) m.ents.length ca) (.load rfl ag_33 (by repeat' constructor) rfl) hev) (.gv rfl (.indexAddr rfl rfl el_33 (by omega)) (.gv rfl (.fieldAddr rfl fo_75_0) (.gv rfl (.loadRd (sz := 11) (j := 0) (p := p) (v := vint (ent0 m.ents)) rfl ag_3 (by repeat' constructor) hev2 (by omega) (ent0_at (by omega))) (.gv rfl (.quo rfl rfl (by decide) (tdiv_i64 hz0)) (.gv rfl (.move rfl) (.gv rfl (.nilp rfl) (.gv rfl (.fieldAddr rfl fo_104_3) (.gv rfl (.ld rfl ag_3) (.gv rfl (.int rfl rfl rfl) (.kv rfl (.pickF rfl rfl) (.mv rfl rfl (.ndec (t := 36) rfl (fun h1_36 => ?_) (fun h1_36 => ?_))))))))))))))))
 ·refine D.kNT (t := 34) rfl h1_36 (.kNT (t := 35) rfl h1_36 (.gz rfl (.gz rfl (.gz rfl (.gz rfl (.ph (.g0 (.gz rfl (.kv rfl (.pickT rfl rfl) (.pf (.condT rfl (.seq (.fwFold (f := f) (g := g) (ha := ha) (hc := hc) (m := Φ.heard.length) Φ (by repeat' constructor) (by exact rfl) (by exact rfl) (by exact rfl) (.region (.m rfl (.cv Tryz.func50 [_] (lose_spec f g (Φ)) ?_))))))))))))))))
  refine .an rfl (.rt ?_)
  have hr : proF Φ ⟨δ, ω, Λ⟩ m = (Φ.lose, ⟨δ, ω, Λ⟩, none) := by unfold proF; (try dsimp only); rw [if_pos (by first | exact .inl (by rintro (g1 | g1); exact h1_10 g1; exact h1_17 g1) | exact .inr (.inl (by omega)) | exact .inr (.inr h1_36))]
  rw [hr]
  try dsimp only
  refine .outNone Φ.ld ?_
  exact .dn rfl rfl ⟨_, _, rfl, rfl⟩
 refine D.kNF (t := 34) rfl h1_36 (.kNF (t := 35) rfl h1_36 (.gv rfl (.move rfl) (.gv rfl (.fieldAddr rfl fo_41_7) (.gv rfl (.to (v' := .slice (some ⟨ba, oa, none⟩) m.ents.length ca) (.load rfl ag_33 (by repeat' constructor) rfl) hev) (.gh (t := 36) rfl rfl rfl (by kernel_rfl) (.c Tryz.func96 [_, _] (ftakeO_spec f g x d Φ δ ω Λ (.slice (some ⟨ba, oa, none⟩) m.ents.length ca) m.ents p N hP (by omega) hev2 hm.len hm.x ha hc)) (by repeat' constructor) ?_)))))
 rintro v L' ⟨rfl, rfl⟩; obtain ⟨r, hT⟩ : ∃ r, (takeZ m.ents ⟨δ, ω, Λ⟩) = r := ⟨_, rfl⟩; rw [hT]
 refine D.ph (.g0 (.gv rfl (.not rfl) (.kv rfl (.pickF rfl rfl) (.pf (.condB rfl (fun h42 => ?_) (fun h42 => ?_))))))
 ·refine .sm rfl (.cv Tryz.func50 [_] (lose_spec f g (Φ)) ?_)
  refine .an rfl (.rt ?_)
  have hr : proF Φ ⟨δ, ω, Λ⟩ m = (Φ.lose, r.1, none) := by unfold proF; (try dsimp only); rw [if_neg (by rintro (g1 | g1 | g1); exact g1 (by first | exact .inl h1_10 | exact .inr h1_17); exact g1 (by omega); exact g1 h1_36), hT, if_pos (by simpa using h42)]
  rw [hr]
  try dsimp only
  refine .outNone Φ.ld ?_
  exact .dn rfl rfl ⟨_, _, rfl, rfl⟩
 refine .sk (.sm rfl (.u (.fieldAddr rfl fo_41_7) (.q (.to (v' := .slice (some ⟨ba, oa, none⟩) m.ents.length ca) (.load rfl ag_33 (by repeat' constructor) rfl) hev) rfl (.q (.indexAddr rfl rfl el_33 (by omega)) rfl (.u (.fieldAddr rfl fo_75_0) (.q (.loadRd (sz := 11) (j := 0) (p := p) (v := vint (ent0 m.ents)) rfl ag_3 (by repeat' constructor) hev2 (by omega) (ent0_at (by omega))) rfl (.q (.to (v' := .agg (moC ⟨8, 0, ent0 m.ents, 0, []⟩ (.slice none 0 0)).toArray) (.buildN (pl := [(0, 1), (1, 1), (2, 1), (3, 1), (4, 1), (5, 1), (6, 1), (7, 1), (8, 10), (18, 1)]) (us := [(0, _), (2, _)]) (cells := moC ⟨8, 0, ent0 m.ents, 0, []⟩ (.slice none 0 0)) Tryz.underlying41 (by kernel_rfl) ze_41 rfl rfl) rfl) rfl (.add (slR_nil 3 1) (.oq (.c Tryz.func57 [_, _] (say_spec f g (Φ) ⟨8, 0, ent0 m.ents, 0, []⟩ (.slice none 0 0) rfl)) ?_)))))))))
 rintro v L' ⟨bs, rfl, rfl⟩
 refine .an rfl (.ret ?_)
 have hr : proF Φ ⟨δ, ω, Λ⟩ m = (Φ, r.1, some ⟨8, 0, ent0 m.ents, 0, []⟩) := by unfold proF; (try dsimp only); rw [if_neg (by rintro (g1 | g1 | g1); exact g1 (by first | exact .inl h1_10 | exact .inr h1_17); exact g1 (by omega); exact g1 h1_36), hT, if_neg (fun g1 => g1 (by simpa using h42))]
 rw [hr]
 try dsimp only
 refine .outFold (v := .slice (some ⟨bs, 0, none⟩) 1 1) (mv := .slice none 0 0) (k := 0) ⟨8, 0, ent0 m.ents, 0, []⟩ (by repeat' constructor) (by exact rfl) (by exact rfl) (by exact rfl) ?_
 exact .dn rfl rfl ⟨_, _, rfl, rfl⟩
theorem fhear_spec (f g x d : Nat) (Φ : Fw) (δ : Dk) (ω : Wl) (Λ : Lg) (m : Ms) (p : HP) (N : Int) (hm : MsA p m) (hP : LPs ⟨δ, ω, Λ⟩ N) (hN : N + 3000000000000 < 4611686018427387904) : Fn Tryz.prog 13 #[vptr f, .agg (msC m).toArray] [fwR f g Φ, lgR g x Λ, wlR x d ω, dkR d δ, p] fun v L => ∃ a c, v = .slice a (onN (hearF Φ ⟨δ, ω, Λ⟩ m).2.2) c ∧ L = [fwR f g (hearF Φ ⟨δ, ω, Λ⟩ m).1, lgR g x (hearF Φ ⟨δ, ω, Λ⟩ m).2.1.Λ, wlR x d (hearF Φ ⟨δ, ω, Λ⟩ m).2.1.ω, dkR d (hearF Φ ⟨δ, ω, Λ⟩ m).2.1.δ, outR v Φ.ld (hearF Φ ⟨δ, ω, Λ⟩ m).2.2, p] := by
 refine Fn.intro Tryz.func13 rfl rfl fun F W => ?_
 have hli := hP.w.i
 refine .fwOpen (f := f) (by repeat' constructor) fun ha hc => (.sr (.oq (.box rfl) ?_))
 rintro v L' ⟨b3, rfl, rfl⟩
 refine .a rfl (.nil (.ptCast (b := b3) (l' := msC m) (by repeat' constructor) (by exact rfl) (.then_n (.seq (.sm rfl (.nf rfl fo_104_2 (.u (.ld rfl ag_3) (.ui rfl rfl rfl (.nt (.condD rfl (fun h10 => ?_) (fun h10 => ?_)))))))))))
 ·refine .sr (.an rfl (.rt ?_))
  have hr : hearF Φ ⟨δ, ω, Λ⟩ m = (Φ, ⟨δ, ω, Λ⟩, none) := by unfold hearF; rw [if_pos h10]
  rw [hr]
  refine .fwFold (f := f) (g := g) (ha := ha) (hc := hc) (m := Φ.heard.length) Φ (by repeat' constructor) (by exact rfl) (by exact rfl) (by exact rfl) (.outNone Φ.ld ?_)
  exact .dn rfl rfl ⟨_, _, rfl, rfl⟩
 refine .sk (.sm rfl (.nf rfl fo_104_5 (.st rfl rfl rfl sz_3 ?_)))
 refine .nil (.fwFold (f := f) (g := g) (ha := ha) (hc := hc) (m := Φ.heard.length) (Φ.hush 0) (by repeat' constructor) (by exact rfl) (by exact rfl) (by exact rfl) ?_)
 obtain ⟨Q, hG⟩ : ∃ Q, Φ.hush 0 = Q := ⟨_, rfl⟩
 have hld : Q.ld = Φ.ld := by rw [← hG]; rfl
 rw [hG]
 refine .then_n (.seq (.sr (.u (.fieldAddr rfl fo_41_0) (.u (.ld rfl ag_3) (.nt (.block (.seq (.block (.seq (.block (.seq (.block (.seq (.block (.seq (.block (.seq (.block (.seq (.seq (.sr (.ui rfl rfl rfl (.an rfl (.condD rfl (fun h16 => ?_) (fun h16 => ?_)))))))))))))))))))))))))
 ·refine .exit (.then_e (.then_e (.blk_e (.then_n (.seq (.sm rfl (.q (.loadAs (vs := msC m) rfl ag_41 (by repeat' constructor) (by simp [msC]) rfl) rfl (.oq (.c Tryz.func53 [_, _] (faccept_spec f g x d Q δ ω Λ m p N hP (by omega))) ?_))))))))
  rintro v L' ⟨av, cv, rfl, rfl⟩
  refine .an rfl (.rt (.blk_r (.then_r (.blk_r (.then_r (.blk_r (.then_r (.blk_r (.then_r (.blk_r (.then_r (.blk_r (.then_r ?_)))))))))))))
  have hr : hearF Φ ⟨δ, ω, Λ⟩ m = accF Q ⟨δ, ω, Λ⟩ m := by unfold hearF; rw [if_neg h10, hG]; unfold hearF1; rw [if_pos h16]
  rw [hr, ← hld]
  exact .dn rfl rfl ⟨_, _, rfl, rfl⟩
 refine .sk (.seq (.sr (.ui rfl rfl rfl (.an rfl (.condD rfl (fun h18 => ?_) (fun h18 => ?_))))))
 ·refine .exit (.then_e (.then_e (.blk_o rfl (.then_e (.blk_e (.then_n (.seq (.sm rfl (.q (.loadAs (vs := msC m) rfl ag_41 (by repeat' constructor) (by simp [msC]) rfl) rfl (.oq (.c Tryz.func54 [_, _] (fsync_spec f g x d Q δ ω Λ m p N hm hP (by omega))) ?_))))))))))
  rintro v L' ⟨av, cv, rfl, rfl⟩
  refine .an rfl (.rt (.blk_r (.then_r (.blk_r (.then_r (.blk_r (.then_r (.blk_r (.then_r (.blk_r (.then_r ?_)))))))))))
  have hr : hearF Φ ⟨δ, ω, Λ⟩ m = synF Q ⟨δ, ω, Λ⟩ m := by unfold hearF; rw [if_neg h10, hG]; unfold hearF1; rw [if_neg h16, if_pos h18]
  rw [hr, ← hld]
  exact .dn rfl rfl ⟨_, _, rfl, rfl⟩
 refine .sk (.seq (.sr (.ui rfl rfl rfl (.an rfl (.condD rfl (fun h20 => ?_) (fun h20 => ?_))))))
 ·refine .exit (.then_e (.then_e (.blk_o rfl (.then_e (.blk_o rfl (.then_e (.blk_e (.then_n (.seq (.sm rfl (.q (.loadAs (vs := msC m) rfl ag_41 (by repeat' constructor) (by simp [msC]) rfl) rfl (.oq (.c Tryz.func55 [_, _] (fpropose_spec f g x d Q δ ω Λ m p N hm hP (by omega))) ?_))))))))))))
  rintro v L' ⟨av, cv, rfl, rfl⟩
  refine .an rfl (.rt (.blk_r (.then_r (.blk_r (.then_r (.blk_r (.then_r (.blk_r (.then_r ?_)))))))))
  have hr : hearF Φ ⟨δ, ω, Λ⟩ m = proF Q ⟨δ, ω, Λ⟩ m := by unfold hearF; rw [if_neg h10, hG]; unfold hearF1; rw [if_neg h16, if_neg h18, if_pos h20]
  rw [hr, ← hld]
  exact .dn rfl rfl ⟨_, _, rfl, rfl⟩
 refine .sk (.seq (.sr (.ui rfl rfl rfl (.an rfl (.condD rfl (fun h22 => ?_) (fun h22 => ?_))))))
 ·refine .exit (.then_e (.then_e (.blk_o rfl (.then_e (.blk_o rfl (.then_e (.blk_o rfl (.then_e (.blk_e (.then_n (.seq (.seq (.seq (.fwOpen (f := f) (by repeat' constructor) fun ha hc => (.region (.m rfl (.nf rfl fo_104_2 (.u (.ld rfl ag_3) (.ui rfl rfl rfl (.nt (.condD rfl (fun h41 => ?_) (fun h41 => ?_))))))))))))))))))))))
  ·refine .sr (.an rfl (.rt (.then_r (.blk_r (.then_r (.blk_r (.then_r (.blk_r (.then_r ?_)))))))))
   have hr : hearF Φ ⟨δ, ω, Λ⟩ m = pingF Q ⟨δ, ω, Λ⟩ m := by unfold hearF; rw [if_neg h10, hG]; unfold hearF1; rw [if_neg h16, if_neg h18, if_neg h20, if_pos h22]
   rw [hr, ← hld]
   have hr : pingF Q ⟨δ, ω, Λ⟩ m = (Q, ⟨δ, ω, Λ⟩, none) := by unfold pingF; (try dsimp only); rw [if_pos h41]
   rw [hr]
   try dsimp only
   refine .fwFold (f := f) (g := g) (ha := ha) (hc := hc) (m := Q.heard.length) Q (by repeat' constructor) (by exact rfl) (by exact rfl) (by exact rfl) (.outNone Q.ld ?_)
   exact .dn rfl rfl ⟨_, _, rfl, rfl⟩
  refine .sk (.seq (.seq (.draw [] [[0, 1, 2, 3, 4, 5, 6, 7, 8, 9, 10, 11, 12, 13, 14]] mixed (by kernel_rfl) (.go [ptc f _ _, ptc b3 _ _, lgR g x Λ] (by repeat' constructor) (.mv rfl rfl (.nf rfl rfl rfl fo_104_2 (.kv rfl (.ld rfl ag_3) (.kv rfl (.int rfl rfl rfl) (.mv rfl rfl (.dec (t := 47) rfl (fun h16_47 => ?_) (fun h16_47 => ?_)))))))))))
  ·refine D.kDT (t := 46) rfl h16_47 (.gv rfl (.fieldAddr rfl fo_41_2) (.gv rfl (.ld rfl ag_3) (.gv rfl (.move rfl) (.gv rfl (.nilp rfl) (.gv rfl (.fieldAddr rfl fo_104_1) (.gv rfl (.ld rfl ag_25) (.gm (t := 47) rfl rfl rfl (by kernel_rfl) (.c Tryz.func9 [_] (llast_spec g x Λ hli)) (by repeat' constructor) ?_)))))))
   refine D.gv rfl (.int rfl rfl rfl) (.kv rfl (.pickT rfl rfl) (.pf (.condD rfl (fun h56 => ?_) (fun h56 => ?_))))
   ·refine .draw [10] [[0, 1, 2, 3, 4, 5, 6, 7, 8, 9, 10]] mixed (by kernel_rfl) (.g0 (.mv rfl rfl (.mv rfl rfl (.nf rfl rfl rfl fo_104_4 (.kv rfl (.ld rfl ag_3) (.kv rfl (.fieldAddr rfl fo_41_2) (.kv rfl (.ld rfl ag_3) (.kv rfl (.max2 rfl rfl) (.nf rfl rfl rfl fo_104_4 (.hh rfl (.store rfl rfl rfl sz_3 ?c64 (nfz0 _ _)) ?_))))))))))
    case c64 => first | decide | (simp; omega) | simp
    rintro v L' rfl
    refine D.pf (.sm rfl (.nf rfl fo_104_6 (.u (.ld rfl ag_32) (.oq (.c Tryz.func56 [_] (clipI_spec _ _ _)) ?_))))
    rintro v L' ⟨⟨ac, cc, rfl⟩, rfl⟩
    refine .an rfl (.sm rfl (.nf rfl fo_104_6 (.st rfl rfl rfl sz_32 ?_)))
    refine .nt (.sm rfl (.m rfl (.q (.to (v' := .agg (moC ⟨11, 0, 0, 0, Q.heard⟩ (.slice ac Q.heard.length cc)).toArray) (.buildN (pl := [(0, 1), (1, 1), (2, 1), (3, 1), (4, 1), (5, 1), (6, 1), (7, 1), (8, 10), (18, 1)]) (us := [(0, _), (5, _)]) (cells := moC ⟨11, 0, 0, 0, Q.heard⟩ (.slice ac Q.heard.length cc)) Tryz.underlying41 (by kernel_rfl) ze_41 rfl rfl) rfl) rfl (.add (slR_nil 3 1) (.fwFold (f := f) (g := g) (ha := none) (hc := 0) (m := 0) (hs := []) ((Q.comm m.zx).hear []) (by repeat' constructor) (by exact rfl) (by exact rfl) (by exact rfl) (.oq (.c Tryz.func57 [_, _] (say_spec f g ((Q.comm m.zx).hear []) ⟨11, 0, 0, 0, Q.heard⟩ (.slice ac Q.heard.length cc) rfl)) ?_))))))
    rintro v L' ⟨bs, rfl, rfl⟩
    refine .an rfl (.rt (.blk_r (.then_r (.blk_r (.then_r (.blk_r (.then_r ?_)))))))
    have hr : hearF Φ ⟨δ, ω, Λ⟩ m = pingF Q ⟨δ, ω, Λ⟩ m := by unfold hearF; rw [if_neg h10, hG]; unfold hearF1; rw [if_neg h16, if_neg h18, if_neg h20, if_pos h22]
    rw [hr, ← hld]
    have h1 : pingF1 Q ⟨δ, ω, Λ⟩ m = (Q.comm m.zx) := by unfold pingF1; dsimp only; rw [if_pos ⟨h16_47, h56⟩]
    have hr : pingF Q ⟨δ, ω, Λ⟩ m = ((Q.comm m.zx).hear [], ⟨δ, ω, Λ⟩, some ⟨11, 0, 0, 0, Q.heard⟩) := by unfold pingF; (try dsimp only); rw [if_neg h41, h1]
    rw [hr]
    try dsimp only
    refine .outFold (v := .slice (some ⟨bs, 0, none⟩) 1 1) (mv := .slice ac _ cc) (k := _) ⟨11, 0, 0, 0, Q.heard⟩ (by repeat' constructor) (by exact rfl) (by exact rfl) (by exact rfl) ?_
    exact .dn rfl rfl ⟨_, _, rfl, rfl⟩
   refine .sk (.sm rfl (.nf rfl fo_104_6 (.u (.ld rfl ag_32) (.oq (.c Tryz.func56 [_] (clipI_spec _ _ _)) ?_))))
   rintro v L' ⟨⟨ac, cc, rfl⟩, rfl⟩
   refine .an rfl (.sm rfl (.nf rfl fo_104_6 (.st rfl rfl rfl sz_32 ?_)))
   refine .nt (.sm rfl (.m rfl (.q (.to (v' := .agg (moC ⟨11, 0, 0, 0, Q.heard⟩ (.slice ac Q.heard.length cc)).toArray) (.buildN (pl := [(0, 1), (1, 1), (2, 1), (3, 1), (4, 1), (5, 1), (6, 1), (7, 1), (8, 10), (18, 1)]) (us := [(0, _), (5, _)]) (cells := moC ⟨11, 0, 0, 0, Q.heard⟩ (.slice ac Q.heard.length cc)) Tryz.underlying41 (by kernel_rfl) ze_41 rfl rfl) rfl) rfl (.add (slR_nil 3 1) (.fwFold (f := f) (g := g) (ha := none) (hc := 0) (m := 0) (hs := []) (Q.hear []) (by repeat' constructor) (by exact rfl) (by exact rfl) (by exact rfl) (.oq (.c Tryz.func57 [_, _] (say_spec f g (Q.hear []) ⟨11, 0, 0, 0, Q.heard⟩ (.slice ac Q.heard.length cc) rfl)) ?_))))))
   rintro v L' ⟨bs, rfl, rfl⟩
   refine .an rfl (.rt (.blk_r (.then_r (.blk_r (.then_r (.blk_r (.then_r ?_)))))))
   have hr : hearF Φ ⟨δ, ω, Λ⟩ m = pingF Q ⟨δ, ω, Λ⟩ m := by unfold hearF; rw [if_neg h10, hG]; unfold hearF1; rw [if_neg h16, if_neg h18, if_neg h20, if_pos h22]
   rw [hr, ← hld]
   have h1 : pingF1 Q ⟨δ, ω, Λ⟩ m = Q := by unfold pingF1; dsimp only; rw [if_neg (fun g1 => by first | exact h16_47 g1.1 | exact h56 g1.2)]
   have hr : pingF Q ⟨δ, ω, Λ⟩ m = (Q.hear [], ⟨δ, ω, Λ⟩, some ⟨11, 0, 0, 0, Q.heard⟩) := by unfold pingF; (try dsimp only); rw [if_neg h41, h1]
   rw [hr]
   try dsimp only
   refine .outFold (v := .slice (some ⟨bs, 0, none⟩) 1 1) (mv := .slice ac _ cc) (k := _) ⟨11, 0, 0, 0, Q.heard⟩ (by repeat' constructor) (by exact rfl) (by exact rfl) (by exact rfl) ?_
   exact .dn rfl rfl ⟨_, _, rfl, rfl⟩
  refine D.kDF (t := 46) rfl h16_47 (.gz rfl (.gz rfl (.gz rfl (.gz rfl (.gz rfl (.gz rfl (.gz rfl (.gz rfl (.kv rfl (.pickF rfl rfl) (.pf (.condF rfl (.sk (.sm rfl (.nf rfl fo_104_6 (.u (.ld rfl ag_32) (.oq (.c Tryz.func56 [_] (clipI_spec _ _ _)) ?_))))))))))))))))
  rintro v L' ⟨⟨ac, cc, rfl⟩, rfl⟩
  refine .an rfl (.sm rfl (.nf rfl fo_104_6 (.st rfl rfl rfl sz_32 ?_)))
  refine .nt (.sm rfl (.m rfl (.q (.to (v' := .agg (moC ⟨11, 0, 0, 0, Q.heard⟩ (.slice ac Q.heard.length cc)).toArray) (.buildN (pl := [(0, 1), (1, 1), (2, 1), (3, 1), (4, 1), (5, 1), (6, 1), (7, 1), (8, 10), (18, 1)]) (us := [(0, _), (5, _)]) (cells := moC ⟨11, 0, 0, 0, Q.heard⟩ (.slice ac Q.heard.length cc)) Tryz.underlying41 (by kernel_rfl) ze_41 rfl rfl) rfl) rfl (.add (slR_nil 3 1) (.fwFold (f := f) (g := g) (ha := none) (hc := 0) (m := 0) (hs := []) (Q.hear []) (by repeat' constructor) (by exact rfl) (by exact rfl) (by exact rfl) (.oq (.c Tryz.func57 [_, _] (say_spec f g (Q.hear []) ⟨11, 0, 0, 0, Q.heard⟩ (.slice ac Q.heard.length cc) rfl)) ?_))))))
  rintro v L' ⟨bs, rfl, rfl⟩
  refine .an rfl (.rt (.blk_r (.then_r (.blk_r (.then_r (.blk_r (.then_r ?_)))))))
  have hr : hearF Φ ⟨δ, ω, Λ⟩ m = pingF Q ⟨δ, ω, Λ⟩ m := by unfold hearF; rw [if_neg h10, hG]; unfold hearF1; rw [if_neg h16, if_neg h18, if_neg h20, if_pos h22]
  rw [hr, ← hld]
  have h1 : pingF1 Q ⟨δ, ω, Λ⟩ m = Q := by unfold pingF1; dsimp only; rw [if_neg (fun g1 => by first | exact h16_47 g1.1 | exact h56 g1.2)]
  have hr : pingF Q ⟨δ, ω, Λ⟩ m = (Q.hear [], ⟨δ, ω, Λ⟩, some ⟨11, 0, 0, 0, Q.heard⟩) := by unfold pingF; (try dsimp only); rw [if_neg h41, h1]
  rw [hr]
  try dsimp only
  refine .outFold (v := .slice (some ⟨bs, 0, none⟩) 1 1) (mv := .slice ac _ cc) (k := _) ⟨11, 0, 0, 0, Q.heard⟩ (by repeat' constructor) (by exact rfl) (by exact rfl) (by exact rfl) ?_
  exact .dn rfl rfl ⟨_, _, rfl, rfl⟩
 refine .sk (.seq (.sr (.ui rfl rfl rfl (.an rfl (.condD rfl (fun h24 => ?_) (fun h24 => ?_))))))
 ·refine .exit (.then_e (.then_e (.blk_o rfl (.then_e (.blk_o rfl (.then_e (.blk_o rfl (.then_e (.blk_o rfl (.then_e (.blk_e (.then_n (.seq (.seq (.fwOpen (f := f) (by repeat' constructor) fun ha hc => (.region (.m rfl (.nf rfl fo_104_2 (.u (.ld rfl ag_3) (.ui rfl rfl rfl (.nt (.condN rfl (fun h83 => ?_) (fun h83 => ?_)))))))))))))))))))))))
  ·refine .seq (.fwFold (f := f) (g := g) (ha := ha) (hc := hc) (m := Q.heard.length) Q (by repeat' constructor) (by exact rfl) (by exact rfl) (by exact rfl) (.region (.m rfl (.cv Tryz.func50 [_] (lose_spec f g (Q)) ?_))))
   refine .an rfl (.rt (.blk_r (.then_r (.blk_r (.then_r ?_)))))
   have hr : hearF Φ ⟨δ, ω, Λ⟩ m = upF Q ⟨δ, ω, Λ⟩ m := by unfold hearF; rw [if_neg h10, hG]; unfold hearF1; rw [if_neg h16, if_neg h18, if_neg h20, if_neg h22, if_pos h24]
   rw [hr, ← hld]
   have hr : upF Q ⟨δ, ω, Λ⟩ m = (Q.lose, ⟨δ, ω, Λ⟩, none) := by unfold upF; (try dsimp only); rw [if_pos h83]
   rw [hr]
   try dsimp only
   refine .outNone Q.ld ?_
   exact .dn rfl rfl ⟨_, _, rfl, rfl⟩
  refine .sk (.region (.m rfl (.nf rfl fo_104_2 (.st rfl rfl rfl sz_3 ?_))))
  refine .nil (.blk_n (.then_n (.seq (.seq (.seq (.draw [] [[0, 1, 2, 3, 4, 5, 6, 7, 8, 9, 10, 11, 12, 13, 14]] mixed (by kernel_rfl) (.go [ptc f _ _, ptc b3 _ _, lgR g x Λ] (by repeat' constructor) (.mv rfl rfl (.nf rfl rfl rfl fo_104_2 (.kv rfl (.ld rfl ag_3) (.kv rfl (.as (v' := .bool false) (by rfl) (.int rfl rfl rfl)) (.mv rfl rfl (.gv rfl (.fieldAddr rfl fo_41_2) (.gv rfl (.ld rfl ag_3) (.gv rfl (.move rfl) (.gv rfl (.nilp rfl) (.gv rfl (.fieldAddr rfl fo_104_1) (.gv rfl (.ld rfl ag_25) (.gm (t := 94) rfl rfl rfl (by kernel_rfl) (.c Tryz.func9 [_] (llast_spec g x Λ hli)) (by repeat' constructor) ?_)))))))))))))))))))
  refine D.gv rfl (.int rfl rfl rfl) (.kv rfl (.pickF rfl rfl) (.pf (.condD rfl (fun h103 => ?_) (fun h103 => ?_))))
  ·refine .seq (.fwFold (f := f) (g := g) (ha := ha) (hc := hc) (m := Q.heard.length) (Q.toPh 3) (by repeat' constructor) (by exact rfl) (by exact rfl) (by exact rfl) (.region (.m rfl (.cv Tryz.func50 [_] (lose_spec f g (Q.toPh 3)) ?_))))
   refine .an rfl (.rt (.then_r (.blk_r (.then_r ?_))))
   have hr : hearF Φ ⟨δ, ω, Λ⟩ m = upF Q ⟨δ, ω, Λ⟩ m := by unfold hearF; rw [if_neg h10, hG]; unfold hearF1; rw [if_neg h16, if_neg h18, if_neg h20, if_neg h22, if_pos h24]
   rw [hr, ← hld]
   have hu : upF Q ⟨δ, ω, Λ⟩ m = comF (Q.toPh 3) ⟨δ, ω, Λ⟩ m := by unfold upF; rw [if_neg (fun g1 => g1 h83)]
   rw [hu]
   have hr : comF (Q.toPh 3) ⟨δ, ω, Λ⟩ m = ((Q.toPh 3).lose, ⟨δ, ω, Λ⟩, none) := by unfold comF; (try dsimp only); rw [if_pos (by first | exact .inl h24_94 | exact .inr h103)]
   rw [hr]
   try dsimp only
   refine .outNone Q.ld ?_
   exact .dn rfl rfl ⟨_, _, rfl, rfl⟩
  refine .sk (.draw [10] [[0, 1, 2, 3, 4, 5, 6, 7, 8, 9, 10]] mixed (by kernel_rfl) (.g0 (.mv rfl rfl (.mv rfl rfl (.nf rfl rfl rfl fo_104_4 (.kv rfl (.ld rfl ag_3) (.kv rfl (.fieldAddr rfl fo_41_2) (.kv rfl (.ld rfl ag_3) (.kv rfl (.max2 rfl rfl) (.nf rfl rfl rfl fo_104_4 (.hh rfl (.store rfl rfl rfl sz_3 ?c158 (nfz0 _ _)) ?_)))))))))))
  case c158 => first | decide | (simp; omega) | simp
  rintro v L' rfl
  refine D.ph (.fin (.fwFold (f := f) (g := g) (ha := ha) (hc := hc) (m := Q.heard.length) ((Q.toPh 3).comm m.zx) (by repeat' constructor) (by exact rfl) (by exact rfl) (by exact rfl) (.then_n (.exit (.blk_e (.then_n (.sr (.an rfl (.ret ?_)))))))))
  have hr : hearF Φ ⟨δ, ω, Λ⟩ m = upF Q ⟨δ, ω, Λ⟩ m := by unfold hearF; rw [if_neg h10, hG]; unfold hearF1; rw [if_neg h16, if_neg h18, if_neg h20, if_neg h22, if_pos h24]
  rw [hr, ← hld]
  have hu : upF Q ⟨δ, ω, Λ⟩ m = comF (Q.toPh 3) ⟨δ, ω, Λ⟩ m := by unfold upF; rw [if_neg (fun g1 => g1 h83)]
  rw [hu]
  have hr : comF (Q.toPh 3) ⟨δ, ω, Λ⟩ m = ((Q.toPh 3).comm m.zx, ⟨δ, ω, Λ⟩, none) := by unfold comF; (try dsimp only); rw [if_neg (by rintro (g1 | g1); exact g1 rfl; exact h103 g1)]
  rw [hr]
  try dsimp only
  refine .outNone Q.ld ?_
  exact .dn rfl rfl ⟨_, _, rfl, rfl⟩
 refine .sk (.sr (.ui rfl rfl rfl (.an rfl (.condD rfl (fun h26 => ?_) (fun h26 => ?_)))))
 ·refine .exit (.then_e (.blk_o rfl (.then_e (.blk_o rfl (.then_e (.blk_o rfl (.then_e (.blk_o rfl (.then_e (.blk_o rfl (.then_e (.blk_e (.then_n (.seq (.seq (.seq (.fwOpen (f := f) (by repeat' constructor) fun ha hc => (.draw [] [[0, 1, 2, 3, 4, 5, 6, 7, 8, 9, 10, 11, 12, 13, 14]] mixed (by kernel_rfl) (.go [ptc f _ _, ptc b3 _ _, lgR g x Λ] (by repeat' constructor) (.mv rfl rfl (.nf rfl rfl rfl fo_104_2 (.kv rfl (.ld rfl ag_3) (.kv rfl (.int rfl rfl rfl) (.mv rfl rfl (.ndec (t := 94) rfl (fun h24_94 => ?_) (fun h24_94 => ?_))))))))))))))))))))))))))
  ·refine D.kNT (t := 93) rfl h24_94 (.gz rfl (.gz rfl (.gz rfl (.gz rfl (.gz rfl (.gz rfl (.gz rfl (.gz rfl (.kv rfl (.pickT rfl rfl) (.pf (.condT rfl (.seq (.fwFold (f := f) (g := g) (ha := ha) (hc := hc) (m := Q.heard.length) (Q) (by repeat' constructor) (by exact rfl) (by exact rfl) (by exact rfl) (.region (.m rfl (.cv Tryz.func50 [_] (lose_spec f g (Q)) ?_))))))))))))))))
   refine .an rfl (.rt (.then_r (.blk_r (.then_r ?_))))
   have hr : hearF Φ ⟨δ, ω, Λ⟩ m = comF Q ⟨δ, ω, Λ⟩ m := by unfold hearF; rw [if_neg h10, hG]; unfold hearF1; rw [if_neg h16, if_neg h18, if_neg h20, if_neg h22, if_neg h24, if_pos h26]
   rw [hr, ← hld]
   have hr : comF (Q) ⟨δ, ω, Λ⟩ m = (Q.lose, ⟨δ, ω, Λ⟩, none) := by unfold comF; (try dsimp only); rw [if_pos (by first | exact .inl h24_94 | exact .inr h103)]
   rw [hr]
   try dsimp only
   refine .outNone Q.ld ?_
   exact .dn rfl rfl ⟨_, _, rfl, rfl⟩
  refine D.kNF (t := 93) rfl h24_94 (.gv rfl (.fieldAddr rfl fo_41_2) (.gv rfl (.ld rfl ag_3) (.gv rfl (.move rfl) (.gv rfl (.nilp rfl) (.gv rfl (.fieldAddr rfl fo_104_1) (.gv rfl (.ld rfl ag_25) (.gm (t := 94) rfl rfl rfl (by kernel_rfl) (.c Tryz.func9 [_] (llast_spec g x Λ hli)) (by repeat' constructor) ?_)))))))
  refine D.gv rfl (.int rfl rfl rfl) (.kv rfl (.pickF rfl rfl) (.pf (.condD rfl (fun h103 => ?_) (fun h103 => ?_))))
  ·refine .seq (.fwFold (f := f) (g := g) (ha := ha) (hc := hc) (m := Q.heard.length) (Q) (by repeat' constructor) (by exact rfl) (by exact rfl) (by exact rfl) (.region (.m rfl (.cv Tryz.func50 [_] (lose_spec f g (Q)) ?_))))
   refine .an rfl (.rt (.then_r (.blk_r (.then_r ?_))))
   have hr : hearF Φ ⟨δ, ω, Λ⟩ m = comF Q ⟨δ, ω, Λ⟩ m := by unfold hearF; rw [if_neg h10, hG]; unfold hearF1; rw [if_neg h16, if_neg h18, if_neg h20, if_neg h22, if_neg h24, if_pos h26]
   rw [hr, ← hld]
   have hr : comF (Q) ⟨δ, ω, Λ⟩ m = (Q.lose, ⟨δ, ω, Λ⟩, none) := by unfold comF; (try dsimp only); rw [if_pos (by first | exact .inl h24_94 | exact .inr h103)]
   rw [hr]
   try dsimp only
   refine .outNone Q.ld ?_
   exact .dn rfl rfl ⟨_, _, rfl, rfl⟩
  refine .sk (.draw [10] [[0, 1, 2, 3, 4, 5, 6, 7, 8, 9, 10]] mixed (by kernel_rfl) (.g0 (.mv rfl rfl (.mv rfl rfl (.nf rfl rfl rfl fo_104_4 (.kv rfl (.ld rfl ag_3) (.kv rfl (.fieldAddr rfl fo_41_2) (.kv rfl (.ld rfl ag_3) (.kv rfl (.max2 rfl rfl) (.nf rfl rfl rfl fo_104_4 (.hh rfl (.store rfl rfl rfl sz_3 ?c194 (nfz0 _ _)) ?_)))))))))))
  case c194 => first | decide | (simp; omega) | simp
  rintro v L' rfl
  refine D.ph (.fin (.fwFold (f := f) (g := g) (ha := ha) (hc := hc) (m := Q.heard.length) ((Q).comm m.zx) (by repeat' constructor) (by exact rfl) (by exact rfl) (by exact rfl) (.then_n (.exit (.blk_e (.then_n (.sr (.an rfl (.ret ?_)))))))))
  have hr : hearF Φ ⟨δ, ω, Λ⟩ m = comF Q ⟨δ, ω, Λ⟩ m := by unfold hearF; rw [if_neg h10, hG]; unfold hearF1; rw [if_neg h16, if_neg h18, if_neg h20, if_neg h22, if_neg h24, if_pos h26]
  rw [hr, ← hld]
  have hr : comF (Q) ⟨δ, ω, Λ⟩ m = (Q.comm m.zx, ⟨δ, ω, Λ⟩, none) := by unfold comF; (try dsimp only); rw [if_neg (by rintro (g1 | g1); exact g1 h24_94; exact h103 g1)]
  rw [hr]
  try dsimp only
  refine .outNone Q.ld ?_
  exact .dn rfl rfl ⟨_, _, rfl, rfl⟩
 refine .sk (.exit (.blk_o rfl (.then_e (.blk_o rfl (.then_e (.blk_o rfl (.then_e (.blk_o rfl (.then_e (.blk_o rfl (.then_e (.blk_o rfl (.then_e (.blk_e (.then_n (.sr (.an rfl (.ret ?_))))))))))))))))))
 have hr : hearF Φ ⟨δ, ω, Λ⟩ m = (Q, ⟨δ, ω, Λ⟩, none) := by unfold hearF; rw [if_neg h10, hG]; unfold hearF1; rw [if_neg h16, if_neg h18, if_neg h20, if_neg h22, if_neg h24, if_neg h26]
 rw [hr, ← hld]
 refine .outNone Q.ld ?_
 exact .dn rfl rfl ⟨_, _, rfl, rfl⟩
theorem sortI_spec (v : Value) (n : Nat) (xs : List Int) (hn : n < 4611686018427387904) : Fn Tryz.prog 51 #[v] [slR 3 1 v n (ints xs)] fun u L => u = .tuple #[] ∧ L = [slR 3 1 v n (ints (sortI xs))] :=
 sort_fn Tryz.sortA 3 v n xs hn
theorem compI_spec (v : Value) (n : Nat) (xs : List Int) (hn : n < 4611686018427387904) : Fn Tryz.prog 52 #[v] [slR 3 1 v n (ints xs)] fun u L => (∃ a c, u = .slice a (compI xs).length c) ∧ L = [slR 3 1 u (compI xs).length (ints (compI xs))] :=
 compact_fn Tryz.compactA 3 v n xs hn
theorem ftick_spec (f g x : Nat) (Φ : Fw) (δ : Dk) (ω : Wl) (Λ : Lg) (v1 : Value) (l : List Int) (p : HP) (K : Nat) (hF : FwI Φ K) (hK : K + l.length ≤ 1000000000) (hl : ∀ h : Hp, p h → rdS 1 h v1 l.length (ints l)) : Fn Tryz.prog 12 #[vptr f, v1] [fwR f g Φ, lgR g x Λ, p] fun v L => ∃ a c, v = .slice a (onN (tickF Φ ⟨δ, ω, Λ⟩ l).2) c ∧ L = [fwR f g (tickF Φ ⟨δ, ω, Λ⟩ l).1, lgR g x Λ, outR v Φ.ld (tickF Φ ⟨δ, ω, Λ⟩ l).2, p] := by
 refine Fn.intro Tryz.func12 rfl rfl fun F W => ?_
 have hsil := hF.sil
 refine .fwOpen (f := f) (by repeat' constructor) fun ha hc => ?_
 have hheard := hF.heard
 refine .sr (.an rfl (.seq (.sm rfl (.nf rfl fo_104_2 (.u (.ld rfl ag_3) (.ui rfl rfl rfl (.nt (.condD rfl (fun h9 => ?_) (fun h9 => ?_)))))))))
 ·refine .sr (.an rfl (.rt ?_))
  have hr : tickF Φ ⟨δ, ω, Λ⟩ l = (Φ, none) := by unfold tickF; rw [if_pos h9]
  rw [hr]
  refine .fwFold (f := f) (g := g) (ha := ha) (hc := hc) (m := Φ.heard.length) Φ (by repeat' constructor) (by exact rfl) (by exact rfl) (by exact rfl) (.outNone Φ.ld ?_)
  exact .dn rfl rfl ⟨_, _, rfl, rfl⟩
 refine .sk (.seq (.sm rfl (.nf rfl fo_104_5 (.u (.ld rfl ag_3) (.q (.add rfl rfl (by rcases hsil with h | h; exact absurd h h9; omega)) rfl (.nf rfl fo_104_5 (.st rfl rfl rfl sz_3 ?_)))))))
 refine .nt (.sm rfl (.nf rfl fo_104_5 (.u (.ld rfl ag_3) (.ui rfl rfl rfl (.nt (.condD rfl (fun h21 => ?_) (fun h21 => ?_)))))))
 ·refine .seq (.fwFold (f := f) (g := g) (ha := ha) (hc := hc) (m := Φ.heard.length) (Φ.hush (Φ.sil + 1)) (by repeat' constructor) (by exact rfl) (by exact rfl) (by exact rfl) (.region (.m rfl (.cv Tryz.func50 [_] (lose_spec f g ((Φ.hush (Φ.sil + 1)))) ?_))))
  refine .an rfl (.rt ?_)
  have hr : tickF Φ ⟨δ, ω, Λ⟩ l = ((Φ.hush (Φ.sil + 1)).lose, none) := by unfold tickF; rw [if_neg h9, if_pos h21, h21]
  rw [hr]
  refine .outNone Φ.ld ?_
  exact .dn rfl rfl ⟨_, _, rfl, rfl⟩
 refine .sk (.sm rfl (.m rfl (.nf rfl fo_104_6 (.u (.ld rfl ag_32) (.m rfl (.oq (.append (n := Φ.heard.length) (m := l.length) (ys := ints l) (p := p) rfl rfl rfl el_32 (.inl ⟨_, Tryz.underlying32⟩) ze_3 rfl rfl ?hc32 ?hr33 ?hb34 (by decide)) ?_))))))
 case hc32 => intro y hy; obtain ⟨c, -, rfl⟩ := List.mem_map.1 hy; rfl
 case hr33 => exact hl
 case hb34 => omega
 rintro v L' ⟨⟨a6, c6, rfl⟩, rfl⟩
 refine .nf rfl fo_104_6 (.st rfl rfl rfl sz_32 ?_)
 refine .nil ?_
 rw [show ints Φ.heard ++ ints l = ints (Φ.heard ++ l) by simp [ints]]
 refine .then_n (.sm rfl (.nf rfl fo_104_6 (.u (.ld rfl ag_32) (.oq (.call Tryz.func51 rfl rfl (vs := [_]) rfl (sortI_spec _ (Φ.heard.length + l.length) (Φ.heard ++ l) (by omega))) ?_))))
 rintro v L' ⟨rfl, rfl⟩
 refine .nt (.sm rfl (.m rfl (.nf rfl fo_104_6 (.u (.ld rfl ag_32) (.oq (.call Tryz.func52 rfl rfl (vs := [_]) rfl (compI_spec _ (Φ.heard.length + l.length) (sortI (Φ.heard ++ l)) (by omega))) ?_)))))
 rintro v L' ⟨⟨a8, c8, rfl⟩, rfl⟩
 refine .nf rfl fo_104_6 (.st rfl rfl rfl sz_32 ?_)
 refine .nt (.seq (.sm rfl (.nf rfl fo_104_2 (.u (.ld rfl ag_3) (.ui rfl rfl rfl (.m rfl (.dec (t := 51) rfl (fun h9_51 => ?_) (fun h9_51 => ?_))))))))
 ·refine .kDT (t := 50) rfl h9_51 (.grun (t := 51) rfl rfl rfl (.m rfl (.grun (t := 51) rfl rfl rfl (.u (.nilp rfl) (.grun (t := 51) rfl rfl rfl (.u (.fieldAddr rfl fo_104_5) (.grun (t := 51) rfl rfl rfl (.u (.ld rfl ag_3) (.grun (t := 51) rfl rfl rfl (.q (.remE rfl rfl (by rcases hsil with h | h; exact absurd h h9; omega) (by rcases hsil with h | h; exact absurd h h9; omega)) rfl (.grun (t := 51) rfl rfl rfl (.ui rfl rfl rfl (.u (.pickT rfl rfl) (.nt (.condD rfl (fun h58 => ?_) (fun h58 => ?_))))))))))))))))
  ·refine .seq (.fwFold (f := f) (g := g) (ha := a8) (hc := c8) (m := _) ((Φ.hush (Φ.sil + 1)).hear (compI (sortI (Φ.heard ++ l)))) (by repeat' constructor) (by exact rfl) (by exact rfl) (by exact rfl) (.region (.m rfl (.oq (.c Tryz.func21 [_] (fstart_spec f g x ((Φ.hush (Φ.sil + 1)).hear (compI (sortI (Φ.heard ++ l)))) δ ω Λ)) ?_))))
   rintro v L' ⟨av, cv, rfl, rfl⟩
   refine .an rfl (.rt ?_)
   have hr : tickF Φ ⟨δ, ω, Λ⟩ l = (((Φ.hush (Φ.sil + 1)).hear (compI (sortI (Φ.heard ++ l)))), some ⟨1, Λ.acc, 0, 0, []⟩) := by unfold tickF; rw [if_neg h9, if_neg h21, if_pos ⟨h9_51, h58⟩]
   rw [hr]
   rw [show startF ((Φ.hush (Φ.sil + 1)).hear (compI (sortI (Φ.heard ++ l)))) ⟨δ, ω, Λ⟩ = some ⟨1, Λ.acc, 0, 0, []⟩ from if_neg h9]
   exact .dn rfl rfl ⟨_, _, rfl, rfl⟩
  refine .sk (.sr (.an rfl (.ret ?_)))
  have hr : tickF Φ ⟨δ, ω, Λ⟩ l = (((Φ.hush (Φ.sil + 1)).hear (compI (sortI (Φ.heard ++ l)))), none) := by unfold tickF; rw [if_neg h9, if_neg h21, if_neg (fun g1 => by first | exact h9_51 g1.1 | exact h58 g1.2)]
  rw [hr]
  refine .fwFold (f := f) (g := g) (ha := a8) (hc := c8) (m := _) ((Φ.hush (Φ.sil + 1)).hear (compI (sortI (Φ.heard ++ l)))) (by repeat' constructor) (by exact rfl) (by exact rfl) (by exact rfl) (.outNone Φ.ld ?_)
  exact .dn rfl rfl ⟨_, _, rfl, rfl⟩
 refine .kDF (t := 50) rfl h9_51 (.gk (.gk (.gk (.gk (.gk (.gk (.u (.pickF rfl rfl) (.nt (.condF rfl (.sk (.sr (.an rfl (.ret ?_)))))))))))))
 have hr : tickF Φ ⟨δ, ω, Λ⟩ l = (((Φ.hush (Φ.sil + 1)).hear (compI (sortI (Φ.heard ++ l)))), none) := by unfold tickF; rw [if_neg h9, if_neg h21, if_neg (fun g1 => by first | exact h9_51 g1.1 | exact h58 g1.2)]
 rw [hr]
 refine .fwFold (f := f) (g := g) (ha := a8) (hc := c8) (m := _) ((Φ.hush (Φ.sil + 1)).hear (compI (sortI (Φ.heard ++ l)))) (by repeat' constructor) (by exact rfl) (by exact rfl) (by exact rfl) (.outNone Φ.ld ?_)
 exact .dn rfl rfl ⟨_, _, rfl, rfl⟩
theorem rsay_spec (f y : Nat) (Φ : Fw) (m : Mo) (mv : Value) (hmv : isCell mv = true) : Fn Tryz.prog 102 #[vptr f, .agg (moC m mv).toArray] [frR f y Φ] fun v L => ∃ b, v = .slice (some ⟨b, 0, none⟩) 1 1 ∧ L = [outT v Φ.ld m mv, frR f y Φ] := by
 refine Fn.intro Tryz.func102 rfl rfl fun F W => ?_
 refine .frOpen (f := f) (by repeat' constructor) fun ha hc => (.sr (.oq (.box rfl) ?_))
 rintro v L' ⟨b3, rfl, rfl⟩
 refine .a rfl (.nil (.ptCast (b := b3) (l' := moC m mv) (by repeat' constructor) (by exact rfl) (.then_n (.seq (.draw [6] [[0, 1, 2, 3, 4, 5, 6], [7]] mixed (by kernel_rfl) (.g0 (.mv rfl rfl (.nf rfl rfl rfl fo_109_0 (.kv rfl (.ld rfl ag_3) (.kv rfl (.loadAs (vs := moC m mv) rfl ag_41 (by repeat' constructor) (by simp [moC]) rfl) (.kv rfl (.to (v' := .agg (vint Φ.ld :: moC m mv).toArray) (.buildN (pl := [(0, 1), (1, 19)]) (us := [(0, vint Φ.ld), (1, .agg (moC m mv).toArray)]) (cells := vint Φ.ld :: moC m mv) Tryz.underlying94 (by kernel_rfl) ze_94 rfl (fill_out _ _ _ _ _ _ _ _ _ _ _ _ _ _ _ _ _ _ _ _)) rfl) (.hh rfl (.buildSlice (vs := [_]) el_45 ze_94 rfl rfl rfl rfl (by first | (simp [Value.cells]; done) | (intro v hv; simp only [List.mem_cons, List.not_mem_nil, or_false] at hv; (repeat (first | (subst hv; rfl) | (rcases hv with hv | hv; (subst hv; rfl)))))) (by decide)) ?_))))))))))))
 rintro v L' ⟨b6, rfl, rfl⟩
 refine D.ph (.g0 (.kv rfl (.assign rfl) (.pf (.ret (.frFold (f := f) (y := y) (ha := ha) (hc := hc) (m := Φ.heard.length) Φ (by repeat' constructor) (by exact rfl) (by exact rfl) (by exact rfl) (.ptCast (b := b6) (l' := vint Φ.ld :: moC m mv) (by repeat' constructor) (by simp [Value.cells, moC]) (.fold (p := outT (.slice (some ⟨b6, 0, none⟩) 1 1) Φ.ld m mv) (.cons (p := ptc b6 _ _) (by repeat' constructor) .nil) (fun h hp => slR_pt (n := 1) (sz := 20) (sep_pt hp) rfl) ?_)))))))
 exact .dn rfl rfl ⟨b6, rfl, rfl⟩
theorem rsayO_spec (f y : Nat) (Φ : Fw) (m : Mo) (mv : Value) (hmv : isCell mv = true) (ha : Option Addr) (hc : Nat) : Fn Tryz.prog 102 #[vptr f, .agg (moC m mv).toArray] [ptc f [vint Φ.ld, vptr y, vint Φ.ph, vint Φ.ep, vint Φ.com, vint Φ.sil, .slice ha Φ.heard.length hc] 109, intR (.slice ha Φ.heard.length hc) Φ.heard] fun v L => ∃ b, v = .slice (some ⟨b, 0, none⟩) 1 1 ∧ L = [outT v Φ.ld m mv, frR f y Φ] := by
 intro F w hs
 have hs' : St ([frR f y Φ] ++ F) w := sep_imp (p := sep [ptc f [vint Φ.ld, vptr y, vint Φ.ph, vint Φ.ep, vint Φ.com, vint Φ.sil, .slice ha Φ.heard.length hc] 109, intR (.slice ha Φ.heard.length hc) Φ.heard]) (fun _ hp => ⟨(ha, hc), trivial, hp⟩) (sep_fold (L1 := [ptc f [vint Φ.ld, vptr y, vint Φ.ph, vint Φ.ep, vint Φ.com, vint Φ.sil, .slice ha Φ.heard.length hc] 109, intR (.slice ha Φ.heard.length hc) Φ.heard]) hs)
 exact rsay_spec f y Φ m mv hmv F w hs'
theorem rlose_spec (f y : Nat) (Φ : Fw) : Fn Tryz.prog 59 #[vptr f] [frR f y Φ] fun v L => v = .slice none 0 0 ∧ L = [frR f y Φ.lose] := by
 refine Fn.intro Tryz.func59 rfl rfl fun F W => ?_
 refine .frOpen (f := f) (by repeat' constructor) fun ha hc => (.sr (.an rfl (.sm rfl (.nf rfl fo_109_2 (.st rfl rfl rfl sz_3 ?_)))))
 refine .nt (.sr (.an rfl (.ret (.frFold (f := f) (y := y) (ha := ha) (hc := hc) (m := Φ.heard.length) Φ.lose (by repeat' constructor) (by exact rfl) (by exact rfl) (by exact rfl) ?_))))
 exact .vv
theorem rcom_spec (f y : Nat) (Φ : Fw) : Fn Tryz.prog 26 #[vptr f] [frR f y Φ] fun v L => v = vint Φ.com ∧ L = [frR f y Φ] := by
 refine Fn.intro Tryz.func26 rfl rfl fun F W => ?_
 refine .frOpen (f := f) (by repeat' constructor) fun ha hc => (.sr (.an rfl (.sm rfl (.nf rfl fo_109_4 (.u (.ld rfl ag_3) (.an rfl (.ret (.frFold (f := f) (y := y) (ha := ha) (hc := hc) (m := Φ.heard.length) Φ (by repeat' constructor) (by exact rfl) (by exact rfl) (by exact rfl) ?_))))))))
 exact .vv
theorem rup_spec (f y : Nat) (Φ : Fw) : Fn Tryz.prog 27 #[vptr f] [frR f y Φ] fun v L => v = .bool (decide (Φ.ph = 3)) ∧ L = [frR f y Φ] := by
 refine Fn.intro Tryz.func27 rfl rfl fun F W => ?_
 refine .frOpen (f := f) (by repeat' constructor) fun ha hc => (.sr (.an rfl (.sm rfl (.nf rfl fo_109_2 (.u (.ld rfl ag_3) (.ui rfl rfl rfl (.an rfl (.ret (.frFold (f := f) (y := y) (ha := ha) (hc := hc) (m := Φ.heard.length) Φ (by repeat' constructor) (by exact rfl) (by exact rfl) (by exact rfl) ?_)))))))))
 exact .vv
theorem rlost_spec (f y : Nat) (Φ : Fw) : Fn Tryz.prog 28 #[vptr f] [frR f y Φ] fun v L => v = .bool (decide (Φ.ph = 4)) ∧ L = [frR f y Φ] := by
 refine Fn.intro Tryz.func28 rfl rfl fun F W => ?_
 refine .frOpen (f := f) (by repeat' constructor) fun ha hc => (.sr (.an rfl (.sm rfl (.nf rfl fo_109_2 (.u (.ld rfl ag_3) (.ui rfl rfl rfl (.an rfl (.ret (.frFold (f := f) (y := y) (ha := ha) (hc := hc) (m := Φ.heard.length) Φ (by repeat' constructor) (by exact rfl) (by exact rfl) (by exact rfl) ?_)))))))))
 exact .vv
theorem rfnew_spec (ld : Int) (y : Nat) : Fn Tryz.prog 18 #[vint ld, vptr y] [] fun v L => ∃ f, v = vptr f ∧ L = [frR f y ⟨ld, 0, 0, 0, 0, []⟩] := by
 refine Fn.intro Tryz.func18 rfl rfl fun F W => ?_
 refine .sr (.an rfl (.sm rfl (.m rfl (.q (.build (us := [(0, _), (1, _)]) fl_109 ze_109 rfl rfl (by simp [isCell])) rfl (.oq (.box rfl) ?_)))))
 rintro v L' ⟨f, rfl, rfl⟩
 refine .an rfl (.ret (.add (slR_nil 3 1) (.frFold (f := f) (y := y) (ha := none) (hc := 0) (m := 0) (hs := []) ⟨ld, 0, 0, 0, 0, []⟩ (by repeat' constructor) (by exact rfl) (by exact rfl) (by exact rfl) ?_)))
 exact .dn rfl rfl ⟨f, rfl, rfl⟩
theorem rinfo_spec (f y w : Nat) (Φ : Fw) (Λ : Lg) : Fn Tryz.prog 61 #[vptr f] [frR f y Φ, rgR y w Λ] fun v L => ∃ a c, v = .slice a (onN (some (⟨1, Λ.acc, 0, 0, []⟩ : Mo))) c ∧ L = [frR f y Φ, rgR y w Λ, outR v Φ.ld (some ⟨1, Λ.acc, 0, 0, []⟩)] := by
 refine Fn.intro Tryz.func61 rfl rfl fun F W => ?_
 refine .frOpen (f := f) (by repeat' constructor) fun ha hc => (.rgOpen (y := y) (by repeat' constructor) fun a c es hE => (.sr (.an rfl (.sm rfl (.m rfl (.nf rfl fo_109_1 (.u (.ld rfl ag_27) (.nf rfl fo_64_4 (.u (.ld rfl ag_3) (.q (.to (v' := .agg (moC ⟨1, Λ.acc, 0, 0, []⟩ (.slice none 0 0)).toArray) (.buildN (pl := [(0, 1), (1, 1), (2, 1), (3, 1), (4, 1), (5, 1), (6, 1), (7, 1), (8, 10), (18, 1)]) (us := [(0, _), (1, _)]) (cells := moC ⟨1, Λ.acc, 0, 0, []⟩ (.slice none 0 0)) Tryz.underlying41 (by kernel_rfl) ze_41 rfl rfl) rfl) rfl (.frFold (f := f) (y := y) (ha := ha) (hc := hc) (m := Φ.heard.length) Φ (by repeat' constructor) (by exact rfl) (by exact rfl) (by exact rfl) (.rg (y := y) (w := w) (Λ) (a) (c) (es) (hE) ?_))))))))))))
 refine .add (slR_nil 3 1) (.oq (.c Tryz.func102 [_, _] (rsay_spec f y (Φ) ⟨1, Λ.acc, 0, 0, []⟩ (.slice none 0 0) rfl)) ?_)
 rintro v L' ⟨bs, rfl, rfl⟩
 refine .an rfl (.ret (.outFold (v := .slice (some ⟨bs, 0, none⟩) 1 1) (mv := .slice none 0 0) (k := 0) ⟨1, Λ.acc, 0, 0, []⟩ (by repeat' constructor) (by exact rfl) (by exact rfl) (by exact rfl) ?_))
 exact .dn rfl rfl ⟨_, _, rfl, rfl⟩
theorem rstart_spec (f y w : Nat) (Φ : Fw) (δ : Dk) (ω : Wl) (Λ : Lg) : Fn Tryz.prog 22 #[vptr f] [frR f y Φ, rgR y w Λ] fun v L => ∃ a c, v = .slice a (onN (startF Φ ⟨δ, ω, Λ⟩)) c ∧ L = [frR f y Φ, rgR y w Λ, outR v Φ.ld (startF Φ ⟨δ, ω, Λ⟩)] := by
 refine Fn.intro Tryz.func22 rfl rfl fun F W => ?_
 refine .frOpen (f := f) (by repeat' constructor) fun ha hc => (.sr (.an rfl (.seq (.sm rfl (.nf rfl fo_109_2 (.u (.ld rfl ag_3) (.ui rfl rfl rfl (.nt (.condD rfl (fun h7 => ?_) (fun h7 => ?_))))))))))
 ·refine .sr (.an rfl (.rt ?_))
  have hr : startF Φ ⟨δ, ω, Λ⟩ = none := by unfold startF; rw [if_pos h7]
  rw [hr]
  refine .frFold (f := f) (y := y) (ha := ha) (hc := hc) (m := Φ.heard.length) Φ (by repeat' constructor) (by exact rfl) (by exact rfl) (by exact rfl) (.outNone Φ.ld ?_)
  exact .dn rfl rfl ⟨_, _, rfl, rfl⟩
 refine .sk (.seq (.frFold (f := f) (y := y) (ha := ha) (hc := hc) (m := Φ.heard.length) Φ (by repeat' constructor) (by exact rfl) (by exact rfl) (by exact rfl) (.region (.m rfl (.oq (.c Tryz.func61 [_] (rinfo_spec f y w Φ Λ)) ?_)))))
 rintro v L' ⟨av, cv, rfl, rfl⟩
 refine .an rfl (.ret ?_)
 have hr : startF Φ ⟨δ, ω, Λ⟩ = some ⟨1, Λ.acc, 0, 0, []⟩ := by unfold startF; rw [if_neg h7]
 rw [hr]
 exact .dn rfl rfl ⟨_, _, rfl, rfl⟩
theorem repochs_spec (f y w x : Nat) (Φ : Fw) (δ : Dk) (ω : Wl) (Λ : Lg) (m : Ms) (p : HP) (N : Int) (hP : LPs ⟨δ, ω, Λ⟩ N) (hN : N + 10000000 < 4611686018427387904) : Fn Tryz.prog 62 #[vptr f, .agg (msC m).toArray] [frR f y Φ, rgR y w Λ, rlR w x ω, dsR x δ, p] fun v L => ∃ a c, v = .slice a (onN (accF Φ ⟨δ, ω, Λ⟩ m).2.2) c ∧ L = [frR f y (accF Φ ⟨δ, ω, Λ⟩ m).1, rgR y w (accF Φ ⟨δ, ω, Λ⟩ m).2.1.Λ, rlR w x (accF Φ ⟨δ, ω, Λ⟩ m).2.1.ω, dsR x (accF Φ ⟨δ, ω, Λ⟩ m).2.1.δ, outR v Φ.ld (accF Φ ⟨δ, ω, Λ⟩ m).2.2, p] := by
 refine Fn.intro Tryz.func62 rfl rfl fun F W => ?_
 have hwi := hP.wk.i hN
 have hW := hP.w
 have heps : 0 ≤ Λ.cur ∧ Λ.cur ≤ Λ.acc ∧ Λ.acc ≤ 1073741824 := hP.w.eps
 have hlr := (lps_accept hP m.ep).w
 refine .frOpen (f := f) (by repeat' constructor) fun ha hc => (.rgOpen (y := y) (by repeat' constructor) fun a c es hE => (.sr (.oq (.box rfl) ?_)))
 rintro v L' ⟨b3, rfl, rfl⟩
 refine .a rfl (.nil (.ptCast (b := b3) (l' := msC m) (by repeat' constructor) (by exact rfl) (.then_n (.seq (.seq (.draw [] [[0, 1, 2, 3, 4, 5, 6, 7, 8, 9, 10, 11, 12, 13, 14, 15, 16, 17, 18, 19, 20, 21, 22, 23, 24, 25, 26]] mixed (by kernel_rfl) (.g0 (.mv rfl rfl (.nf rfl rfl rfl fo_109_2 (.kv rfl (.ld rfl ag_3) (.kv rfl (.int rfl rfl rfl) (.mv rfl rfl (.dec (t := 12) rfl (fun h1_12 => ?_) (fun h1_12 => ?_))))))))))))))
 ·refine D.kDT (t := 11) rfl h1_12 (.gz rfl (.gz rfl (.gz rfl (.gz rfl (.gz rfl (.gz rfl (.gz rfl (.gz rfl (.gz rfl (.gz rfl (.kv rfl (.pickT rfl rfl) (.mv rfl rfl (.gz rfl (.gz rfl (.gz rfl (.kv rfl (.pickT rfl rfl) (.mv rfl rfl (.gz rfl (.gz rfl (.gz rfl (.kv rfl (.pickT rfl rfl) (.pf (.condT rfl (.seq (.frFold (f := f) (y := y) (ha := ha) (hc := hc) (m := Φ.heard.length) Φ (by repeat' constructor) (by exact rfl) (by exact rfl) (by exact rfl) (.rg (y := y) (w := w) (Λ) (a) (c) (es) (hE) ?_))))))))))))))))))))))))))
  refine .region (.m rfl (.cv Tryz.func59 [_] (rlose_spec f y (Φ)) ?_))
  refine .an rfl (.rt ?_)
  have hr : accF Φ ⟨δ, ω, Λ⟩ m = (Φ.lose, ⟨δ, ω, Λ⟩, none) := by unfold accF; (try dsimp only); rw [if_pos (by first | exact .inl h1_12 | exact .inr (.inl (by omega)) | exact .inr (.inr (by omega)))]
  rw [hr]
  try dsimp only
  refine .outNone Φ.ld ?_
  exact .dn rfl rfl ⟨_, _, rfl, rfl⟩
 refine D.kDF (t := 11) rfl h1_12 (.gv rfl (.fieldAddr rfl fo_41_1) (.gv rfl (.ld rfl ag_3) (.gv rfl (.move rfl) (.gv rfl (.nilp rfl) (.gv rfl (.fieldAddr rfl fo_109_1) (.gv rfl (.ld rfl ag_27) (.gv rfl (.nilp rfl) (.gv rfl (.fieldAddr rfl fo_64_4) (.gv rfl (.ld rfl ag_3) (.gv rfl (.int rfl rfl rfl) (.kv rfl (.pickF rfl rfl) (.mv rfl rfl (.dec (t := 24) rfl (fun h1_24 => ?_) (fun h1_24 => ?_))))))))))))))
 ·refine D.kDT (t := 22) rfl h1_24 (.kDT (t := 23) rfl h1_24 (.gz rfl (.gz rfl (.gz rfl (.kv rfl (.pickT rfl rfl) (.mv rfl rfl (.gz rfl (.gz rfl (.gz rfl (.kv rfl (.pickT rfl rfl) (.pf (.condT rfl (.seq (.frFold (f := f) (y := y) (ha := ha) (hc := hc) (m := Φ.heard.length) Φ (by repeat' constructor) (by exact rfl) (by exact rfl) (by exact rfl) (.rg (y := y) (w := w) (Λ) (a) (c) (es) (hE) ?_)))))))))))))))
  refine .region (.m rfl (.cv Tryz.func59 [_] (rlose_spec f y (Φ)) ?_))
  refine .an rfl (.rt ?_)
  have hr : accF Φ ⟨δ, ω, Λ⟩ m = (Φ.lose, ⟨δ, ω, Λ⟩, none) := by unfold accF; (try dsimp only); rw [if_pos (by first | exact .inl h1_12 | exact .inr (.inl (by omega)) | exact .inr (.inr (by omega)))]
  rw [hr]
  try dsimp only
  refine .outNone Φ.ld ?_
  exact .dn rfl rfl ⟨_, _, rfl, rfl⟩
 refine D.kDF (t := 22) rfl h1_24 (.kDF (t := 23) rfl h1_24 (.gv rfl (.fieldAddr rfl fo_41_1) (.gv rfl (.ld rfl ag_3) (.gv rfl (.int rfl rfl rfl) (.kv rfl (.pickF rfl rfl) (.mv rfl rfl (.dec (t := 29) rfl (fun h1_29 => ?_) (fun h1_29 => ?_))))))))
 ·refine D.kDT (t := 27) rfl h1_29 (.kDT (t := 28) rfl h1_29 (.gz rfl (.gz rfl (.gz rfl (.kv rfl (.pickT rfl rfl) (.pf (.condT rfl (.seq (.frFold (f := f) (y := y) (ha := ha) (hc := hc) (m := Φ.heard.length) Φ (by repeat' constructor) (by exact rfl) (by exact rfl) (by exact rfl) (.rg (y := y) (w := w) (Λ) (a) (c) (es) (hE) ?_))))))))))
  refine .region (.m rfl (.cv Tryz.func59 [_] (rlose_spec f y (Φ)) ?_))
  refine .an rfl (.rt ?_)
  have hr : accF Φ ⟨δ, ω, Λ⟩ m = (Φ.lose, ⟨δ, ω, Λ⟩, none) := by unfold accF; (try dsimp only); rw [if_pos (by first | exact .inl h1_12 | exact .inr (.inl (by omega)) | exact .inr (.inr (by omega)))]
  rw [hr]
  try dsimp only
  refine .outNone Φ.ld ?_
  exact .dn rfl rfl ⟨_, _, rfl, rfl⟩
 refine D.kDF (t := 27) rfl h1_29 (.kDF (t := 28) rfl h1_29 (.gv rfl (.fieldAddr rfl fo_41_1) (.gv rfl (.ld rfl ag_3) (.gv rfl (.int rfl rfl rfl) (.kv rfl (.pickF rfl rfl) (.pf (.condD rfl (fun h33 => ?_) (fun h33 => ?_))))))))
 ·refine .seq (.frFold (f := f) (y := y) (ha := ha) (hc := hc) (m := Φ.heard.length) Φ (by repeat' constructor) (by exact rfl) (by exact rfl) (by exact rfl) (.rg (y := y) (w := w) (Λ) (a) (c) (es) (hE) ?_))
  refine .region (.m rfl (.cv Tryz.func59 [_] (rlose_spec f y (Φ)) ?_))
  refine .an rfl (.rt ?_)
  have hr : accF Φ ⟨δ, ω, Λ⟩ m = (Φ.lose, ⟨δ, ω, Λ⟩, none) := by unfold accF; (try dsimp only); rw [if_pos (by first | exact .inl h1_12 | exact .inr (.inl (by omega)) | exact .inr (.inr (by omega)))]
  rw [hr]
  try dsimp only
  refine .outNone Φ.ld ?_
  exact .dn rfl rfl ⟨_, _, rfl, rfl⟩
 refine .sk (.sr (.an rfl (.seq (.seq (.draw [] [[0, 1, 2, 3, 4, 5, 6, 7, 8, 9]] mixed (by kernel_rfl) (.g0 (.kv rfl (.fieldAddr rfl fo_41_1) (.kv rfl (.ld rfl ag_3) (.mv rfl rfl (.nf rfl rfl rfl fo_109_1 (.kv rfl (.ld rfl ag_27) (.nf rfl rfl rfl fo_64_4 (.kv rfl (.ld rfl ag_3) (.kv rfl (.int rfl rfl rfl) (.pf (.condD rfl (fun h45 => ?_) (fun h45 => ?_)))))))))))))))))
 ·refine .rg (y := y) (w := w) (Λ) (a) (c) (es) (hE) ?_
  refine .seq (.draw [6] [[0, 1, 2, 3, 4, 5, 6], [7]] mixed (by kernel_rfl) (.g0 (.mv rfl rfl (.nf rfl rfl rfl fo_109_1 (.kv rfl (.ld rfl ag_27) (.kv rfl (.fieldAddr rfl fo_41_1) (.kv rfl (.ld rfl ag_3) (.hh rfl (.c Tryz.func103 [_, _] (r9accept_spec y w x δ ω Λ m.ep hwi (by omega))) ?_))))))))
  rintro v L' ⟨rfl, rfl⟩; obtain ⟨r, hA⟩ : ∃ r, (lgAccept ⟨δ, ω, Λ⟩ m.ep) = r := ⟨_, rfl⟩; rw [hA] at hlr ⊢
  refine D.ph (.g0 (.kv rfl (.assign rfl) (.pf (.seq (.sm rfl (.ui rfl rfl rfl (.nt (.condN rfl (fun h54 => ?_) (fun h54 => ?_)))))))))
  ·refine .seq (.frFold (f := f) (y := y) (ha := ha) (hc := hc) (m := Φ.heard.length) Φ (by repeat' constructor) (by exact rfl) (by exact rfl) (by exact rfl) (.region (.m rfl (.cv Tryz.func59 [_] (rlose_spec f y (Φ)) ?_))))
   refine .an rfl (.rt (.then_r ?_))
   have hr : accF Φ ⟨δ, ω, Λ⟩ m = (Φ.lose, r.1, none) := by unfold accF; (try dsimp only); rw [if_neg (by rintro (g1 | g1 | g1); exact h1_12 g1; omega; omega), if_pos h45, hA, if_pos h54]
   rw [hr]
   try dsimp only
   refine .outNone Φ.ld ?_
   exact .dn rfl rfl ⟨_, _, rfl, rfl⟩
  refine .sk (.rgOpen (y := y) (by repeat' constructor) fun a c es hE => (.region (.m rfl (.nf rfl fo_109_1 (.u (.ld rfl ag_27) (.nf rfl fo_64_5 (.u (.ld rfl ag_3) (.an rfl (.sm rfl (.nf rfl fo_109_2 (.st rfl rfl rfl sz_3 ?_)))))))))))
  refine .nt (.sm rfl (.u (.fieldAddr rfl fo_41_1) (.u (.ld rfl ag_3) (.nf rfl fo_109_3 (.st rfl rfl rfl sz_3 ?_)))))
  refine .nil (.frFold (f := f) (y := y) (ha := ha) (hc := hc) (m := Φ.heard.length) (Φ.go 1 m.ep) (by repeat' constructor) (by exact rfl) (by exact rfl) (by exact rfl) (.frOpen (f := f) (by repeat' constructor) fun ha hc => (.then_n (.seq (.draw [10, 12] [[0, 1, 2, 3, 4, 5, 6, 7, 8, 9, 10, 11], [12], [13]] mixed (by kernel_rfl) (.go [ptc f _ _] (by repeat' constructor) (.k rfl (.move rfl) (.k rfl (.move rfl) (.k rfl (.nilp rfl) (.k rfl (.fieldAddr rfl fo_109_3) (.k rfl (.ld rfl ag_3) (.k rfl (.move rfl) (.mv rfl rfl (.nf rfl rfl rfl fo_109_1 (.kv rfl (.ld rfl ag_27) (.hh rfl (.c Tryz.func104 [_] (r9marks_spec y w r.1.Λ a c es hE hlr)) ?_))))))))))))))))
  rintro v L' ⟨am, cm, rfl, rfl⟩
  refine D.kv rfl (.to (v' := .agg (moC ⟨3, m.ep, 0, r.1.Λ.cur, marksZ r.1.Λ⟩ (.slice am (marksZ r.1.Λ).length cm)).toArray) (.buildN (pl := [(0, 1), (1, 1), (2, 1), (3, 1), (4, 1), (5, 1), (6, 1), (7, 1), (8, 10), (18, 1)]) (us := [(0, _), (1, _), (3, _), (5, _)]) (cells := moC ⟨3, m.ep, 0, r.1.Λ.cur, marksZ r.1.Λ⟩ (.slice am (marksZ r.1.Λ).length cm)) Tryz.underlying41 (by kernel_rfl) ze_41 rfl rfl) rfl) (.ph (.g0 (.hh rfl (.c Tryz.func102 [_, _] (rsayO_spec f y (Φ.go 1 m.ep) ⟨3, m.ep, 0, r.1.Λ.cur, marksZ r.1.Λ⟩ (.slice am (marksZ r.1.Λ).length cm) rfl ha hc)) ?_)))
  rintro v L' ⟨bs, rfl, rfl⟩
  refine D.ph (.g0 (.kv rfl (.assign rfl) (.pf (.ret ?_))))
  have hr : accF Φ ⟨δ, ω, Λ⟩ m = (Φ.go 1 m.ep, r.1, some ⟨3, m.ep, 0, r.1.Λ.cur, marksZ r.1.Λ⟩) := by unfold accF; (try dsimp only); rw [if_neg (by rintro (g1 | g1 | g1); exact h1_12 g1; omega; omega), if_pos h45, hA, if_neg (fun g1 => g1 h54)]
  rw [hr]
  try dsimp only
  refine .rg (y := y) (w := w) (r.1.Λ) (a) (c) (es) (hE) ?_
  refine .outFold (v := .slice (some ⟨bs, 0, none⟩) 1 1) (mv := .slice am _ cm) (k := _) ⟨3, m.ep, 0, r.1.Λ.cur, marksZ r.1.Λ⟩ (by repeat' constructor) (by exact rfl) (by exact rfl) (by exact rfl) ?_
  exact .dn rfl rfl ⟨_, _, rfl, rfl⟩
 refine .sk (.sm rfl (.nf rfl fo_109_2 (.st rfl rfl rfl sz_3 ?_)))
 refine .nt (.sm rfl (.u (.fieldAddr rfl fo_41_1) (.u (.ld rfl ag_3) (.nf rfl fo_109_3 (.st rfl rfl rfl sz_3 ?_)))))
 refine .nil (.frFold (f := f) (y := y) (ha := ha) (hc := hc) (m := Φ.heard.length) (Φ.go 1 m.ep) (by repeat' constructor) (by exact rfl) (by exact rfl) (by exact rfl) (.frOpen (f := f) (by repeat' constructor) fun ha hc => (.then_n (.seq (.draw [10, 12] [[0, 1, 2, 3, 4, 5, 6, 7, 8, 9, 10, 11], [12], [13]] mixed (by kernel_rfl) (.go [ptc f _ _] (by repeat' constructor) (.k rfl (.move rfl) (.k rfl (.move rfl) (.k rfl (.nilp rfl) (.k rfl (.fieldAddr rfl fo_109_3) (.k rfl (.ld rfl ag_3) (.k rfl (.move rfl) (.mv rfl rfl (.nf rfl rfl rfl fo_109_1 (.kv rfl (.ld rfl ag_27) (.hh rfl (.c Tryz.func104 [_] (r9marks_spec y w Λ a c es hE hW)) ?_))))))))))))))))
 rintro v L' ⟨am, cm, rfl, rfl⟩
 refine D.kv rfl (.to (v' := .agg (moC ⟨3, m.ep, 0, -1, marksZ Λ⟩ (.slice am (marksZ Λ).length cm)).toArray) (.buildN (pl := [(0, 1), (1, 1), (2, 1), (3, 1), (4, 1), (5, 1), (6, 1), (7, 1), (8, 10), (18, 1)]) (us := [(0, _), (1, _), (3, _), (5, _)]) (cells := moC ⟨3, m.ep, 0, -1, marksZ Λ⟩ (.slice am (marksZ Λ).length cm)) Tryz.underlying41 (by kernel_rfl) ze_41 rfl rfl) rfl) (.ph (.g0 (.hh rfl (.c Tryz.func102 [_, _] (rsayO_spec f y (Φ.go 1 m.ep) ⟨3, m.ep, 0, -1, marksZ Λ⟩ (.slice am (marksZ Λ).length cm) rfl ha hc)) ?_)))
 rintro v L' ⟨bs, rfl, rfl⟩
 refine D.ph (.g0 (.kv rfl (.assign rfl) (.pf (.ret ?_))))
 have hr : accF Φ ⟨δ, ω, Λ⟩ m = (Φ.go 1 m.ep, ⟨δ, ω, Λ⟩, some ⟨3, m.ep, 0, -1, marksZ Λ⟩) := by unfold accF; (try dsimp only); rw [if_neg (by rintro (g1 | g1 | g1); exact h1_12 g1; omega; omega), if_neg h45]
 rw [hr]
 try dsimp only
 refine .rg (y := y) (w := w) (Λ) (a) (c) (es) (hE) ?_
 refine .outFold (v := .slice (some ⟨bs, 0, none⟩) 1 1) (mv := .slice am _ cm) (k := _) ⟨3, m.ep, 0, -1, marksZ Λ⟩ (by repeat' constructor) (by exact rfl) (by exact rfl) (by exact rfl) ?_
 exact .dn rfl rfl ⟨_, _, rfl, rfl⟩
def RunTo (es : List En) (c : Ld × Int) (i : Nat) (s : Ld × Int) : Prop := (if c.2 ≠ 0 then c else takeZ es c.1) = (if s.2 ≠ 0 then s else takeZ (es.drop i) s.1)
theorem run_step {es : List En} {c s : Ld × Int} {i : Nat} (h : RunTo es c i s) (hi : i < es.length) (h0 : s.2 = 0) : RunTo es c (i + 1) (lgAppend s.1 es[i]) := by
 unfold RunTo at h ⊢
 rw [h, if_neg (fun g => g h0), List.drop_eq_getElem_cons hi]
 rfl
theorem run_bad {es : List En} {c s : Ld × Int} {i : Nat} (h : RunTo es c i s) (h0 : s.2 ≠ 0) : (if c.2 ≠ 0 then c else takeZ es c.1) = s := by
 unfold RunTo at h
 rw [h, if_pos h0]
theorem run_end {es : List En} {c s : Ld × Int} {i : Nat} (h : RunTo es c i s) (h0 : s.2 = 0) (hi : ¬ i < es.length) : (if c.2 ≠ 0 then c else takeZ es c.1) = lgSync s.1 := by
 unfold RunTo at h
 rw [h, if_neg (fun g => g h0), List.drop_eq_nil_of_le (by omega)]
 rfl
theorem take_one_eq (s : Ld) (e : En) : takeZ [e] s = if (lgAppend s e).2 ≠ 0 then lgAppend s e else lgSync (lgAppend s e).1 := rfl
theorem rhist_spec (f y w x : Nat) (Φ : Fw) (δ : Dk) (ω : Wl) (Λ : Lg) (m : Ms) (p : HP) (N : Int) (hm : MsA p m) (hP : LPs ⟨δ, ω, Λ⟩ N) (hN : N + 3000000000000 < 4611686018427387904) : Fn Tryz.prog 105 #[vptr f, .agg (msC m).toArray] [frR f y Φ, rgR y w Λ, rlR w x ω, dsR x δ, p] fun v L => v = vint (histF ⟨δ, ω, Λ⟩ m).2 ∧ L = [frR f y Φ, rgR y w (histF ⟨δ, ω, Λ⟩ m).1.Λ, rlR w x (histF ⟨δ, ω, Λ⟩ m).1.ω, dsR x (histF ⟨δ, ω, Λ⟩ m).1.δ, p] := by
 refine Fn.intro Tryz.func105 rfl rfl fun F W => ?_
 have hml := hm.len
 have hwi := hP.wk.i (by omega)
 have hW := hP.w
 have hab := hP.hab
 refine .rdBoth (p := p) hm.l (by repeat' constructor) fun aa ca hev hA => ?_
 have hev2 : ∀ h : Hp, p h → rdS 11 h (.slice aa m.ents.length ca) m.ents.length (m.ents.flatMap enC) := hev ▸ hm.l
 refine .frOpen (f := f) (by repeat' constructor) fun ha hc => ?_
 have hPc := lps_cut hP m.zx
 refine .sr (.oq (.box rfl) ?_)
 rintro v L' ⟨b3, rfl, rfl⟩
 refine .a rfl (.nil (.ptCast (b := b3) (l' := msC m) (by repeat' constructor) (by exact rfl) (.then_n (.seq (.sr (.u (.fieldAddr rfl fo_41_3) (.u (.ld rfl ag_3) (.ui rfl rfl rfl (.nt (.condD rfl (fun h9 => ?_) (fun h9 => ?_)))))))))))
 ·refine .seq (.draw [10] [[0, 1, 2, 3, 4, 5, 6, 7, 8, 9, 10], [11]] mixed (by kernel_rfl) (.g0 (.mv rfl rfl (.nf rfl rfl rfl fo_109_1 (.kv rfl (.ld rfl ag_27) (.kv rfl (.fieldAddr rfl fo_41_2) (.kv rfl (.ld rfl ag_3) (.kv rfl (.fieldAddr rfl fo_41_6) (.kv rfl (.ld rfl ag_9) (.kv rfl (.fieldAddr rfl fo_41_7) (.kv rfl (.ld rfl ag_33) (.hh rfl (.c Tryz.func169 [_, _, _, _] (r9install_spec y w x δ ω Λ m.zx m.data m.ev m.ents p hwi hab hW hP.a hP.b hm.zx hm.l (by omega) hm.x)) ?_))))))))))))
  rintro v L' ⟨rfl, rfl⟩
  refine D.ph (.g0 (.kv rfl (.assign rfl) (.pf (.rt ?_))))
  have hr : (histF ⟨δ, ω, Λ⟩ m) = lgInstall ⟨δ, ω, Λ⟩ m.zx m.data m.ents := by unfold histF; rw [if_pos h9]
  rw [hr]
  refine .frFold (f := f) (y := y) (ha := ha) (hc := hc) (m := Φ.heard.length) Φ (by repeat' constructor) (by exact rfl) (by exact rfl) (by exact rfl) ?_
  exact .vv
 refine .sk (.seq (.draw [6] [[0, 1, 2, 3, 4, 5, 6], [7]] mixed (by kernel_rfl) (.g0 (.mv rfl rfl (.nf rfl rfl rfl fo_109_1 (.kv rfl (.ld rfl ag_27) (.kv rfl (.fieldAddr rfl fo_41_2) (.kv rfl (.ld rfl ag_3) (.hh rfl (.c Tryz.func170 [_, _] (r9cut_spec y w x δ ω Λ m.zx hwi hab ⟨by have : 0 ≤ Λ.base := hW.base.1; omega, hW.base.2⟩ hW.snap hW.few)) ?_)))))))))
 rintro v L' ⟨rfl, rfl⟩
 refine D.ph (.g0 (.kv rfl (.assign rfl) (.pf (.seq (.sr (.an rfl (.block (.loopK (ι := Nat × (Ld × Int)) (fun q E => (6, vint q.1) :: (5, vint q.2.2) :: E) (fun q => [rgR y w (q.2.1).Λ, rlR w x (q.2.1).ω, dsR x (q.2.1).δ]) (fun q => q.1 ≤ m.ents.length ∧ RunTo m.ents (lgCut ⟨δ, ω, Λ⟩ m.zx) q.1 q.2 ∧ LPs q.2.1 (N + 2000000 + q.1 * 2000000)) (fun q => m.ents.length - q.1) (0, (lgCut ⟨δ, ω, Λ⟩ m.zx)) (ts := [0, 3, 4]) (.cons rfl (.cons rfl (.cons rfl (.nil)))) (⟨Nat.zero_le _, rfl, hPc.more (by dsimp only; omega)⟩) ⟨rfl, rfl, rfl, rfl, rfl, trivial⟩ (by repeat' constructor) ?_))))))))
 rintro ⟨i, s⟩ ⟨hi, hR, hL⟩
 dsimp only
 dsimp only at hi hR hL
 refine .seq (.sm rfl (.u (.fieldAddr rfl fo_41_7) (.q (.to (v' := .slice aa m.ents.length ca) (.load rfl ag_33 (by repeat' constructor) rfl) hev) rfl (.q (.slen rfl Tryz.underlying33 rfl) rfl (.ui rfl rfl rfl (.m rfl (.dec (t := 33) rfl (fun h5_33 => ?_) (fun h5_33 => ?_))))))))
 ·refine .kDT (t := 32) rfl h5_33 (.grun (t := 33) rfl rfl rfl (.m rfl (.grun (t := 33) rfl rfl rfl (.ui rfl rfl rfl (.u (.pickT rfl rfl) (.nt (.condD rfl (fun h36 => ?_) (fun h36 => ?_))))))))
  ·have hi2 : i < m.ents.length := by omega
   obtain ⟨ba, oa, rfl⟩ := hA (by omega)
   have hxe := hm.x _ (List.getElem_mem hi2)
   refine .sk (.seq (.block (.draw [9] [[0, 1, 2, 3, 4, 5, 6, 7, 8, 9], [10]] mixed (by kernel_rfl) (.g0 (.mv rfl rfl (.nf rfl rfl rfl fo_109_1 (.kv rfl (.ld rfl ag_27) (.kv rfl (.fieldAddr rfl fo_41_7) (.kv rfl (.to (v' := .slice (some ⟨ba, oa, none⟩) m.ents.length ca) (.load rfl ag_33 (by repeat' constructor) rfl) hev) (.mv rfl rfl (.kv rfl (.indexAddr rfl rfl el_33 (by omega)) (.kv rfl (.loadRdA (sz := 11) (j := i * 11) (k := 11) (p := p) (vs := enC m.ents[i]) rfl ag_75 (by repeat' constructor) hev2 (by simp) (by omega) (by omega) (flatMap_at (f := enC) (sz := 11) (fun _ _ => rfl) hi2)) (.hh rfl (.c Tryz.func107 [_, _] (r9append_spec y w x s.1.δ s.1.ω s.1.Λ m.ents[i] p hxe hxe.l.w.i.zx (hL.wk.i (by omega)) hL.w.few)) ?_)))))))))))))
   rintro v L' ⟨rfl, rfl⟩; rw [show lgAppend ⟨s.1.δ, s.1.ω, s.1.Λ⟩ m.ents[i] = lgAppend s.1 m.ents[i] from rfl]
   refine D.ph (.g0 (.kv rfl (.assign rfl) (.ph (.fin (.blk_n (.then_n (.region (.m rfl (.q (.add rfl rfl (by omega)) rfl (.an rfl ?_))))))))))
   exact .rk ((i + 1, lgAppend s.1 m.ents[i])) (⟨by dsimp only; omega, run_step hR hi2 h36, (lps_append hL hxe.l.w.i).more (by dsimp only; omega)⟩) (by dsimp only; omega) ⟨rfl, rfl, rfl, rfl, rfl, trivial⟩
  refine .exit (.then_e (.then_e (.blk_e (.then_n (.seq (.sm rfl (.ui rfl rfl rfl (.nt (.condD rfl (fun h50 => ?_) (fun h50 => ?_))))))))))
  ·refine .region (.m rfl (.nf rfl fo_109_1 (.u (.ld rfl ag_27) (.oq (.c Tryz.func108 [_] (r9sync_spec y w x s.1.δ s.1.ω s.1.Λ (hL.wk.i (by omega)) hL.hab)) ?_))))
   rintro v L' ⟨rfl, rfl⟩; rw [show lgSync ⟨s.1.δ, s.1.ω, s.1.Λ⟩ = lgSync s.1 from rfl]
   refine .an rfl (.sm rfl (.an rfl (.ret ?_)))
   have hr : (histF ⟨δ, ω, Λ⟩ m) = cutTake ⟨δ, ω, Λ⟩ m.zx m.ents := by unfold histF; rw [if_neg h9]
   rw [hr]
   unfold cutTake
   refine .frFold (f := f) (y := y) (ha := ha) (hc := hc) (m := Φ.heard.length) Φ (by repeat' constructor) (by exact rfl) (by exact rfl) (by exact rfl) ?_
   rw [run_end hR h50 (by first | exact h5_33 | (intro g1; exact h36 h50) | omega)]
   exact .vv
  refine .sk (.sm rfl (.an rfl (.ret ?_)))
  have hr : (histF ⟨δ, ω, Λ⟩ m) = cutTake ⟨δ, ω, Λ⟩ m.zx m.ents := by unfold histF; rw [if_neg h9]
  rw [hr]
  unfold cutTake
  refine .frFold (f := f) (y := y) (ha := ha) (hc := hc) (m := Φ.heard.length) Φ (by repeat' constructor) (by exact rfl) (by exact rfl) (by exact rfl) ?_
  rw [run_bad hR h50]
  exact .vv
 refine .kDF (t := 32) rfl h5_33 (.gk (.gk (.u (.pickF rfl rfl) (.nt (.condF rfl (.exit (.then_e (.then_e (.blk_e (.then_n (.seq (.sm rfl (.ui rfl rfl rfl (.nt (.condD rfl (fun h50 => ?_) (fun h50 => ?_))))))))))))))))
 ·refine .region (.m rfl (.nf rfl fo_109_1 (.u (.ld rfl ag_27) (.oq (.c Tryz.func108 [_] (r9sync_spec y w x s.1.δ s.1.ω s.1.Λ (hL.wk.i (by omega)) hL.hab)) ?_))))
  rintro v L' ⟨rfl, rfl⟩; rw [show lgSync ⟨s.1.δ, s.1.ω, s.1.Λ⟩ = lgSync s.1 from rfl]
  refine .an rfl (.sm rfl (.an rfl (.ret ?_)))
  have hr : (histF ⟨δ, ω, Λ⟩ m) = cutTake ⟨δ, ω, Λ⟩ m.zx m.ents := by unfold histF; rw [if_neg h9]
  rw [hr]
  unfold cutTake
  refine .frFold (f := f) (y := y) (ha := ha) (hc := hc) (m := Φ.heard.length) Φ (by repeat' constructor) (by exact rfl) (by exact rfl) (by exact rfl) ?_
  rw [run_end hR h50 (by first | exact h5_33 | (intro g1; exact h36 h50) | omega)]
  exact .vv
 refine .sk (.sm rfl (.an rfl (.ret ?_)))
 have hr : (histF ⟨δ, ω, Λ⟩ m) = cutTake ⟨δ, ω, Λ⟩ m.zx m.ents := by unfold histF; rw [if_neg h9]
 rw [hr]
 unfold cutTake
 refine .frFold (f := f) (y := y) (ha := ha) (hc := hc) (m := Φ.heard.length) Φ (by repeat' constructor) (by exact rfl) (by exact rfl) (by exact rfl) ?_
 rw [run_bad hR h50]
 exact .vv
theorem rsyncs_spec (f y w x : Nat) (Φ : Fw) (δ : Dk) (ω : Wl) (Λ : Lg) (m : Ms) (p : HP) (N : Int) (hm : MsA p m) (hP : LPs ⟨δ, ω, Λ⟩ N) (hN : N + 3000000000000 < 4611686018427387904) : Fn Tryz.prog 63 #[vptr f, .agg (msC m).toArray] [frR f y Φ, rgR y w Λ, rlR w x ω, dsR x δ, p] fun v L => ∃ a c, v = .slice a (onN (synF Φ ⟨δ, ω, Λ⟩ m).2.2) c ∧ L = [frR f y (synF Φ ⟨δ, ω, Λ⟩ m).1, rgR y w (synF Φ ⟨δ, ω, Λ⟩ m).2.1.Λ, rlR w x (synF Φ ⟨δ, ω, Λ⟩ m).2.1.ω, dsR x (synF Φ ⟨δ, ω, Λ⟩ m).2.1.δ, outR v Φ.ld (synF Φ ⟨δ, ω, Λ⟩ m).2.2, p] := by
 refine Fn.intro Tryz.func63 rfl rfl fun F W => ?_
 have hPh := lps_hist hP hm
 refine .frOpen (f := f) (by repeat' constructor) fun ha hc => (.sr (.oq (.box rfl) ?_))
 rintro v L' ⟨b3, rfl, rfl⟩
 refine .a rfl (.nil (.ptCast (b := b3) (l' := msC m) (by repeat' constructor) (by exact rfl) (.then_n (.seq (.seq (.draw [] [[0, 1, 2, 3, 4, 5, 6, 7, 8, 9, 10, 11, 12, 13]] mixed (by kernel_rfl) (.g0 (.mv rfl rfl (.nf rfl rfl rfl fo_109_2 (.kv rfl (.ld rfl ag_3) (.kv rfl (.int rfl rfl rfl) (.mv rfl rfl (.ndec (t := 11) rfl (fun h1_11 => ?_) (fun h1_11 => ?_))))))))))))))
 ·refine D.kNT (t := 10) rfl h1_11 (.gz rfl (.gz rfl (.gz rfl (.gz rfl (.gz rfl (.gz rfl (.gz rfl (.kv rfl (.pickT rfl rfl) (.pf (.condT rfl (.seq (.frFold (f := f) (y := y) (ha := ha) (hc := hc) (m := Φ.heard.length) Φ (by repeat' constructor) (by exact rfl) (by exact rfl) (by exact rfl) (.region (.m rfl (.cv Tryz.func59 [_] (rlose_spec f y (Φ)) ?_)))))))))))))))
  refine .an rfl (.rt ?_)
  have hr : synF Φ ⟨δ, ω, Λ⟩ m = (Φ.lose, ⟨δ, ω, Λ⟩, none) := by unfold synF; (try dsimp only); rw [if_pos (by first | exact .inl h1_11 | exact .inr h19)]
  rw [hr]
  try dsimp only
  refine .outNone Φ.ld ?_
  exact .dn rfl rfl ⟨_, _, rfl, rfl⟩
 refine D.kNF (t := 10) rfl h1_11 (.gv rfl (.fieldAddr rfl fo_41_1) (.gv rfl (.ld rfl ag_3) (.gv rfl (.move rfl) (.gv rfl (.nilp rfl) (.gv rfl (.fieldAddr rfl fo_109_3) (.gv rfl (.ld rfl ag_3) (.gv rfl (.int rfl rfl rfl) (.kv rfl (.pickF rfl rfl) (.pf (.condN rfl (fun h19 => ?_) (fun h19 => ?_)))))))))))
 ·refine .seq (.frFold (f := f) (y := y) (ha := ha) (hc := hc) (m := Φ.heard.length) Φ (by repeat' constructor) (by exact rfl) (by exact rfl) (by exact rfl) (.region (.m rfl (.cv Tryz.func59 [_] (rlose_spec f y (Φ)) ?_))))
  refine .an rfl (.rt ?_)
  have hr : synF Φ ⟨δ, ω, Λ⟩ m = (Φ.lose, ⟨δ, ω, Λ⟩, none) := by unfold synF; (try dsimp only); rw [if_pos (by first | exact .inl h1_11 | exact .inr h19)]
  rw [hr]
  try dsimp only
  refine .outNone Φ.ld ?_
  exact .dn rfl rfl ⟨_, _, rfl, rfl⟩
 refine .sk (.sm rfl (.q (.loadAs (vs := msC m) rfl ag_41 (by repeat' constructor) (by simp [msC]) rfl) rfl (.frFold (f := f) (y := y) (ha := ha) (hc := hc) (m := Φ.heard.length) Φ (by repeat' constructor) (by exact rfl) (by exact rfl) (by exact rfl) (.oq (.c Tryz.func105 [_, _] (rhist_spec f y w x Φ δ ω Λ m p N hm hP hN)) ?_))))
 rintro v L' ⟨rfl, rfl⟩; obtain ⟨r, hH⟩ : ∃ r, (histF ⟨δ, ω, Λ⟩ m) = r := ⟨_, rfl⟩; rw [hH] at hPh ⊢
 refine .an rfl (.seq (.sm rfl (.ui rfl rfl rfl (.nt (.condD rfl (fun h26 => ?_) (fun h26 => ?_))))))
 ·have hwh := hPh.wk.i (by omega)
  have hws := (lps_sync hPh).wk.i (by omega)
  have heps := hPh.w.eps
  refine .frOpen (f := f) (by repeat' constructor) fun ha hc => (.draw [8] [[0, 1, 2, 3, 4, 5, 6, 7, 8], [9]] mixed (by kernel_rfl) (.g0 (.mv rfl rfl (.nf rfl rfl rfl fo_109_1 (.kv rfl (.ld rfl ag_27) (.mv rfl rfl (.nf rfl rfl rfl fo_109_3 (.kv rfl (.ld rfl ag_3) (.hh rfl (.c Tryz.func106 [_, _] (r9adopt_spec y w x r.1.δ r.1.ω r.1.Λ Φ.ep hwh hPh.hab hws (by omega))) ?_)))))))))
  rintro v L' ⟨rfl, rfl⟩; obtain ⟨a, hA⟩ : ∃ a, lgAdopt r.1 Φ.ep = a := ⟨_, rfl⟩; rw [show lgAdopt ⟨r.1.δ, r.1.ω, r.1.Λ⟩ Φ.ep = a from hA]
  refine D.ph (.g0 (.kv rfl (.assign rfl) (.pf (.seq (.sm rfl (.ui rfl rfl rfl (.nt (.condN rfl (fun h37 => ?_) (fun h37 => ?_)))))))))
  ·refine .seq (.frFold (f := f) (y := y) (ha := ha) (hc := hc) (m := Φ.heard.length) Φ (by repeat' constructor) (by exact rfl) (by exact rfl) (by exact rfl) (.region (.m rfl (.cv Tryz.func59 [_] (rlose_spec f y (Φ)) ?_))))
   refine .an rfl (.rt ?_)
   have hr : synF Φ ⟨δ, ω, Λ⟩ m = synF2 Φ r := by unfold synF; rw [if_neg (by rintro (g1 | g1); exact g1 h1_11; exact g1 h19), hH]
   rw [hr]
   have hr : synF2 Φ r = (Φ.lose, a.1, none) := by unfold synF2; (try dsimp only); rw [if_neg (fun g1 => g1 h26), hA, if_pos h37]
   rw [hr]
   try dsimp only
   refine .outNone Φ.ld ?_
   exact .dn rfl rfl ⟨_, _, rfl, rfl⟩
  refine .sk (.sm rfl (.nf rfl fo_109_2 (.st rfl rfl rfl sz_3 ?_)))
  refine .nt (.sm rfl (.m rfl (.nf rfl fo_109_3 (.u (.ld rfl ag_3) (.q (.to (v' := .agg (moC ⟨5, Φ.ep, 0, 0, []⟩ (.slice none 0 0)).toArray) (.buildN (pl := [(0, 1), (1, 1), (2, 1), (3, 1), (4, 1), (5, 1), (6, 1), (7, 1), (8, 10), (18, 1)]) (us := [(0, _), (1, _)]) (cells := moC ⟨5, Φ.ep, 0, 0, []⟩ (.slice none 0 0)) Tryz.underlying41 (by kernel_rfl) ze_41 rfl rfl) rfl) rfl (.frFold (f := f) (y := y) (ha := ha) (hc := hc) (m := Φ.heard.length) (Φ.toPh 2) (by repeat' constructor) (by exact rfl) (by exact rfl) (by exact rfl) (.add (slR_nil 3 1) (.oq (.c Tryz.func102 [_, _] (rsay_spec f y (Φ.toPh 2) ⟨5, Φ.ep, 0, 0, []⟩ (.slice none 0 0) rfl)) ?_))))))))
  rintro v L' ⟨bs, rfl, rfl⟩
  refine .an rfl (.ret ?_)
  have hr : synF Φ ⟨δ, ω, Λ⟩ m = synF2 Φ r := by unfold synF; rw [if_neg (by rintro (g1 | g1); exact g1 h1_11; exact g1 h19), hH]
  rw [hr]
  have hr : synF2 Φ r = (Φ.toPh 2, a.1, some ⟨5, Φ.ep, 0, 0, []⟩) := by unfold synF2; (try dsimp only); rw [if_neg (fun g1 => g1 h26), hA, if_neg (fun g1 => g1 h37)]
  rw [hr]
  try dsimp only
  refine .outFold (v := .slice (some ⟨bs, 0, none⟩) 1 1) (mv := .slice none 0 0) (k := 0) ⟨5, Φ.ep, 0, 0, []⟩ (by repeat' constructor) (by exact rfl) (by exact rfl) (by exact rfl) ?_
  exact .dn rfl rfl ⟨_, _, rfl, rfl⟩
 refine .sk (.seq (.sm rfl (.q (.as (v' := .bool true) (by rw [decide_eq_false h26]; rfl) (.int rfl rfl rfl)) rfl (.nt (.condT rfl (.sm rfl (.cv Tryz.func59 [_] (rlose_spec f y (Φ)) ?_)))))))
 refine .an rfl (.rt ?_)
 have hr : synF Φ ⟨δ, ω, Λ⟩ m = synF2 Φ r := by unfold synF; rw [if_neg (by rintro (g1 | g1); exact g1 h1_11; exact g1 h19), hH]
 rw [hr]
 have hr : synF2 Φ r = (Φ.lose, r.1, none) := by unfold synF2; (try dsimp only); rw [if_pos h26]
 rw [hr]
 try dsimp only
 refine .outNone Φ.ld ?_
 exact .dn rfl rfl ⟨_, _, rfl, rfl⟩
theorem rcommits_spec (f y w x : Nat) (Φ : Fw) (δ : Dk) (ω : Wl) (Λ : Lg) (m : Ms) (p : HP) : Fn Tryz.prog 64 #[vptr f, .agg (msC m).toArray] [frR f y Φ, rgR y w Λ, rlR w x ω, dsR x δ, p] fun v L => ∃ a c, v = .slice a (onN ((if m.kind = 6 then upF Φ ⟨δ, ω, Λ⟩ m else comF Φ ⟨δ, ω, Λ⟩ m)).2.2) c ∧ L = [frR f y ((if m.kind = 6 then upF Φ ⟨δ, ω, Λ⟩ m else comF Φ ⟨δ, ω, Λ⟩ m)).1, rgR y w ((if m.kind = 6 then upF Φ ⟨δ, ω, Λ⟩ m else comF Φ ⟨δ, ω, Λ⟩ m)).2.1.Λ, rlR w x ((if m.kind = 6 then upF Φ ⟨δ, ω, Λ⟩ m else comF Φ ⟨δ, ω, Λ⟩ m)).2.1.ω, dsR x ((if m.kind = 6 then upF Φ ⟨δ, ω, Λ⟩ m else comF Φ ⟨δ, ω, Λ⟩ m)).2.1.δ, outR v Φ.ld ((if m.kind = 6 then upF Φ ⟨δ, ω, Λ⟩ m else comF Φ ⟨δ, ω, Λ⟩ m)).2.2, p] := by
 refine Fn.intro Tryz.func64 rfl rfl fun F W => ?_
 refine .frOpen (f := f) (by repeat' constructor) fun ha hc => (.rgOpen (y := y) (by repeat' constructor) fun a c es hE => (.sr (.oq (.box rfl) ?_)))
 rintro v L' ⟨b3, rfl, rfl⟩
 refine .a rfl (.nil (.ptCast (b := b3) (l' := msC m) (by repeat' constructor) (by exact rfl) (.then_n (.sr (.an rfl (.seq (.sr (.u (.fieldAddr rfl fo_41_0) (.u (.ld rfl ag_3) (.ui rfl rfl rfl (.nt (.condD rfl (fun h8 => ?_) (fun h8 => ?_)))))))))))))
 ·refine .region (.an rfl (.seq (.seq (.draw [] [[0, 1, 2, 3, 4, 5, 6, 7, 8, 9, 10, 11, 12, 13, 14, 15]] mixed (by kernel_rfl) (.go [ptc f _ _, ptc b3 _ _, gc9 y w Λ.base Λ.snap (.slice a es.length c) Λ.acc Λ.cur Λ.doubt, es9 (.slice a es.length c) es] (by repeat' constructor) (.mv rfl rfl (.nf rfl rfl rfl fo_109_2 (.kv rfl (.ld rfl ag_3) (.mv rfl rfl (.kv rfl (.int rfl rfl rfl) (.mv rfl rfl (.ndec (t := 15) rfl (fun h4_15 => ?_) (fun h4_15 => ?_)))))))))))))
  ·refine D.kNT (t := 14) rfl h4_15 (.gz rfl (.gz rfl (.gz rfl (.gz rfl (.gz rfl (.gz rfl (.gz rfl (.gz rfl (.kv rfl (.pickT rfl rfl) (.pf (.condT rfl (.seq (.frFold (f := f) (y := y) (ha := ha) (hc := hc) (m := Φ.heard.length) Φ (by repeat' constructor) (by exact rfl) (by exact rfl) (by exact rfl) (.rg (y := y) (w := w) (Λ) (a) (c) (es) (hE) ?_))))))))))))))
   refine .region (.m rfl (.cv Tryz.func59 [_] (rlose_spec f y (Φ)) ?_))
   refine .an rfl (.rt ?_)
   rw [if_pos h8]
   have hr : upF Φ ⟨δ, ω, Λ⟩ m = (Φ.lose, ⟨δ, ω, Λ⟩, none) := by unfold upF; (try dsimp only); rw [if_pos h4_15]
   rw [hr]
   try dsimp only
   refine .outNone Φ.ld ?_
   exact .dn rfl rfl ⟨_, _, rfl, rfl⟩
  refine D.kNF (t := 14) rfl h4_15 (.gv rfl (.fieldAddr rfl fo_41_2) (.gv rfl (.ld rfl ag_3) (.gv rfl (.move rfl) (.gv rfl (.nilp rfl) (.gv rfl (.fieldAddr rfl fo_109_1) (.gv rfl (.ld rfl ag_27) (.gm (t := 15) rfl rfl rfl (by kernel_rfl) (.c Tryz.func29 [_] (r9last_spec y w Λ.base Λ.snap a c Λ.acc Λ.cur Λ.doubt es hE.n)) (by repeat' constructor) ?_)))))))
  rw [hE.lastF]
  refine D.gv rfl (.int rfl rfl rfl) (.kv rfl (.pickF rfl rfl) (.pf (.condD rfl (fun h24 => ?_) (fun h24 => ?_))))
  ·refine .seq (.frFold (f := f) (y := y) (ha := ha) (hc := hc) (m := Φ.heard.length) Φ (by repeat' constructor) (by exact rfl) (by exact rfl) (by exact rfl) (.rg (y := y) (w := w) (Λ) (a) (c) (es) (hE) ?_))
   refine .region (.m rfl (.cv Tryz.func59 [_] (rlose_spec f y (Φ)) ?_))
   refine .an rfl (.rt ?_)
   rw [if_pos h8]
   have hu : upF Φ ⟨δ, ω, Λ⟩ m = comF (Φ.toPh 3) ⟨δ, ω, Λ⟩ m := by unfold upF; rw [if_neg (fun g1 => g1 h4_15)]
   rw [hu]
   have hr : comF (Φ.toPh 3) ⟨δ, ω, Λ⟩ m = ((Φ.toPh 3).lose, ⟨δ, ω, Λ⟩, none) := by unfold comF; (try dsimp only); rw [if_pos (.inr h24)]
   rw [hr]
   try dsimp only
   rw [show (Φ.toPh 3).lose = Φ.lose from rfl]
   refine .outNone Φ.ld ?_
   exact .dn rfl rfl ⟨_, _, rfl, rfl⟩
  refine .sk (.seq (.draw [10] [[0, 1, 2, 3, 4, 5, 6, 7, 8, 9, 10]] mixed (by kernel_rfl) (.g0 (.mv rfl rfl (.mv rfl rfl (.nf rfl rfl rfl fo_109_4 (.kv rfl (.ld rfl ag_3) (.kv rfl (.fieldAddr rfl fo_41_2) (.kv rfl (.ld rfl ag_3) (.kv rfl (.max2 rfl rfl) (.nf rfl rfl rfl fo_109_4 (.hh rfl (.store rfl rfl rfl sz_3 ?c40 (nfz0 _ _)) ?_))))))))))))
  case c40 => first | decide | (simp; omega) | simp
  rintro v L' rfl
  refine D.pf (.sm rfl (.nf rfl fo_109_2 (.st rfl rfl rfl sz_3 ?_)))
  refine .nt (.sr (.an rfl (.ret ?_)))
  rw [if_pos h8]
  have hu : upF Φ ⟨δ, ω, Λ⟩ m = comF (Φ.toPh 3) ⟨δ, ω, Λ⟩ m := by unfold upF; rw [if_neg (fun g1 => g1 h4_15)]
  rw [hu]
  have hr : comF (Φ.toPh 3) ⟨δ, ω, Λ⟩ m = ((Φ.toPh 3).comm m.zx, ⟨δ, ω, Λ⟩, none) := by unfold comF; (try dsimp only); rw [if_neg (by rintro (g1 | g1); exact g1 rfl; exact h24 g1)]
  rw [hr]
  try dsimp only
  refine .rg (y := y) (w := w) (Λ) (a) (c) (es) (hE) ?_
  refine .frFold (f := f) (y := y) (ha := ha) (hc := hc) (m := Φ.heard.length) ((Φ.toPh 3).comm m.zx) (by repeat' constructor) (by exact rfl) (by exact rfl) (by exact rfl) (.outNone Φ.ld ?_)
  exact .dn rfl rfl ⟨_, _, rfl, rfl⟩
 refine .sk (.seq (.seq (.draw [] [[0, 1, 2, 3, 4, 5, 6, 7, 8, 9, 10, 11, 12, 13, 14, 15]] mixed (by kernel_rfl) (.go [ptc f _ _, ptc b3 _ _, gc9 y w Λ.base Λ.snap (.slice a es.length c) Λ.acc Λ.cur Λ.doubt, es9 (.slice a es.length c) es] (by repeat' constructor) (.mv rfl rfl (.nf rfl rfl rfl fo_109_2 (.kv rfl (.ld rfl ag_3) (.mv rfl rfl (.kv rfl (.int rfl rfl rfl) (.mv rfl rfl (.ndec (t := 15) rfl (fun h4_15 => ?_) (fun h4_15 => ?_))))))))))))
 ·refine D.kNT (t := 14) rfl h4_15 (.gz rfl (.gz rfl (.gz rfl (.gz rfl (.gz rfl (.gz rfl (.gz rfl (.gz rfl (.kv rfl (.pickT rfl rfl) (.pf (.condT rfl (.seq (.frFold (f := f) (y := y) (ha := ha) (hc := hc) (m := Φ.heard.length) Φ (by repeat' constructor) (by exact rfl) (by exact rfl) (by exact rfl) (.rg (y := y) (w := w) (Λ) (a) (c) (es) (hE) ?_))))))))))))))
  refine .region (.m rfl (.cv Tryz.func59 [_] (rlose_spec f y (Φ)) ?_))
  refine .an rfl (.rt ?_)
  rw [if_neg h8]
  have hr : comF Φ ⟨δ, ω, Λ⟩ m = (Φ.lose, ⟨δ, ω, Λ⟩, none) := by unfold comF; (try dsimp only); rw [if_pos (by first | exact .inl h4_15 | exact .inr h24)]
  rw [hr]
  try dsimp only
  refine .outNone Φ.ld ?_
  exact .dn rfl rfl ⟨_, _, rfl, rfl⟩
 refine D.kNF (t := 14) rfl h4_15 (.gv rfl (.fieldAddr rfl fo_41_2) (.gv rfl (.ld rfl ag_3) (.gv rfl (.move rfl) (.gv rfl (.nilp rfl) (.gv rfl (.fieldAddr rfl fo_109_1) (.gv rfl (.ld rfl ag_27) (.gm (t := 15) rfl rfl rfl (by kernel_rfl) (.c Tryz.func29 [_] (r9last_spec y w Λ.base Λ.snap a c Λ.acc Λ.cur Λ.doubt es hE.n)) (by repeat' constructor) ?_)))))))
 rw [hE.lastF]
 refine D.gv rfl (.int rfl rfl rfl) (.kv rfl (.pickF rfl rfl) (.pf (.condD rfl (fun h24 => ?_) (fun h24 => ?_))))
 ·refine .seq (.frFold (f := f) (y := y) (ha := ha) (hc := hc) (m := Φ.heard.length) Φ (by repeat' constructor) (by exact rfl) (by exact rfl) (by exact rfl) (.rg (y := y) (w := w) (Λ) (a) (c) (es) (hE) ?_))
  refine .region (.m rfl (.cv Tryz.func59 [_] (rlose_spec f y (Φ)) ?_))
  refine .an rfl (.rt ?_)
  rw [if_neg h8]
  have hr : comF Φ ⟨δ, ω, Λ⟩ m = (Φ.lose, ⟨δ, ω, Λ⟩, none) := by unfold comF; (try dsimp only); rw [if_pos (by first | exact .inl h4_15 | exact .inr h24)]
  rw [hr]
  try dsimp only
  refine .outNone Φ.ld ?_
  exact .dn rfl rfl ⟨_, _, rfl, rfl⟩
 refine .sk (.seq (.draw [10] [[0, 1, 2, 3, 4, 5, 6, 7, 8, 9, 10]] mixed (by kernel_rfl) (.g0 (.mv rfl rfl (.mv rfl rfl (.nf rfl rfl rfl fo_109_4 (.kv rfl (.ld rfl ag_3) (.kv rfl (.fieldAddr rfl fo_41_2) (.kv rfl (.ld rfl ag_3) (.kv rfl (.max2 rfl rfl) (.nf rfl rfl rfl fo_109_4 (.hh rfl (.store rfl rfl rfl sz_3 ?c81 (nfz0 _ _)) ?_))))))))))))
 case c81 => first | decide | (simp; omega) | simp
 rintro v L' rfl
 refine D.pf (.sm rfl (.nf rfl fo_109_2 (.st rfl rfl rfl sz_3 ?_)))
 refine .nt (.sr (.an rfl (.ret ?_)))
 rw [if_neg h8]
 have hr : comF Φ ⟨δ, ω, Λ⟩ m = ((Φ.toPh 3).comm m.zx, ⟨δ, ω, Λ⟩, none) := by unfold comF; (try dsimp only); rw [if_neg (by rintro (g1 | g1); exact g1 h4_15; exact h24 g1), show Φ.comm m.zx = (Φ.toPh 3).comm m.zx by unfold Fw.comm Fw.toPh; rw [h4_15]]
 rw [hr]
 try dsimp only
 refine .rg (y := y) (w := w) (Λ) (a) (c) (es) (hE) ?_
 refine .frFold (f := f) (y := y) (ha := ha) (hc := hc) (m := Φ.heard.length) ((Φ.toPh 3).comm m.zx) (by repeat' constructor) (by exact rfl) (by exact rfl) (by exact rfl) (.outNone Φ.ld ?_)
 exact .dn rfl rfl ⟨_, _, rfl, rfl⟩
theorem rproposed_spec (f y w x : Nat) (Φ : Fw) (δ : Dk) (ω : Wl) (Λ : Lg) (m : Ms) (p : HP) (N : Int) (hm : MsA p m) (hP : LPs ⟨δ, ω, Λ⟩ N) (hN : N + 3000000000000 < 4611686018427387904) : Fn Tryz.prog 65 #[vptr f, .agg (msC m).toArray] [frR f y Φ, rgR y w Λ, rlR w x ω, dsR x δ, p] fun v L => ∃ a c, v = .slice a (onN (proF Φ ⟨δ, ω, Λ⟩ m).2.2) c ∧ L = [frR f y (proF Φ ⟨δ, ω, Λ⟩ m).1, rgR y w (proF Φ ⟨δ, ω, Λ⟩ m).2.1.Λ, rlR w x (proF Φ ⟨δ, ω, Λ⟩ m).2.1.ω, dsR x (proF Φ ⟨δ, ω, Λ⟩ m).2.1.δ, outR v Φ.ld (proF Φ ⟨δ, ω, Λ⟩ m).2.2, p] := by
 refine Fn.intro Tryz.func65 rfl rfl fun F W => ?_
 have hml := hm.len
 have hwi := hP.wk.i (by omega)
 have hW := hP.w
 have hab := hP.hab
 refine .rdBoth (p := p) hm.l (by repeat' constructor) fun aa ca hev hA => ?_
 have hev2 : ∀ h : Hp, p h → rdS 11 h (.slice aa m.ents.length ca) m.ents.length (m.ents.flatMap enC) := hev ▸ hm.l
 refine .frOpen (f := f) (by repeat' constructor) fun ha hc => ?_
 have hz0 := ent0_i64 hm.x
 refine .sr (.oq (.box rfl) ?_)
 rintro v L' ⟨b3, rfl, rfl⟩
 refine .a rfl (.nil (.ptCast (b := b3) (l' := msC m) (by repeat' constructor) (by exact rfl) (.then_n (.seq (.seq (.draw [] [[0, 1, 2, 3, 4, 5, 6, 7, 8, 9, 10, 11, 12, 13, 14, 15, 16, 17, 18, 19, 20, 21, 22, 23, 24, 25, 26, 27, 28, 29, 30]] mixed (by kernel_rfl) (.g0 (.mv rfl rfl (.nf rfl rfl rfl fo_109_2 (.kv rfl (.ld rfl ag_3) (.kv rfl (.int rfl rfl rfl) (.mv rfl rfl (.ndec (t := 11) rfl (fun h1_11 => ?_) (fun h1_11 => ?_))))))))))))))
 ·refine D.kNT (t := 10) rfl h1_11 (.gv rfl (.move rfl) (.gv rfl (.nilp rfl) (.gv rfl (.fieldAddr rfl fo_109_2) (.gv rfl (.ld rfl ag_3) (.gv rfl (.int rfl rfl rfl) (.kv rfl (.pickT rfl rfl) (.mv rfl rfl (.ndec (t := 18) rfl (fun h1_18 => ?_) (fun h1_18 => ?_)))))))))
  ·refine D.kNT (t := 16) rfl h1_18 (.kNT (t := 17) rfl h1_18 (.gz rfl (.gz rfl (.gz rfl (.gz rfl (.kv rfl (.pickT rfl rfl) (.mv rfl rfl (.gz rfl (.gz rfl (.gz rfl (.gz rfl (.gz rfl (.gz rfl (.gz rfl (.gz rfl (.gz rfl (.gz rfl (.gz rfl (.kv rfl (.pickT rfl rfl) (.pf (.condT rfl (.seq (.frFold (f := f) (y := y) (ha := ha) (hc := hc) (m := Φ.heard.length) Φ (by repeat' constructor) (by exact rfl) (by exact rfl) (by exact rfl) (.region (.m rfl (.cv Tryz.func59 [_] (rlose_spec f y (Φ)) ?_))))))))))))))))))))))))))
   refine .an rfl (.rt ?_)
   have hr : proF Φ ⟨δ, ω, Λ⟩ m = (Φ.lose, ⟨δ, ω, Λ⟩, none) := by unfold proF; (try dsimp only); rw [if_pos (by first | exact .inl (by rintro (g1 | g1); exact h1_11 g1; exact h1_18 g1) | exact .inr (.inl (by omega)) | exact .inr (.inr h36))]
   rw [hr]
   try dsimp only
   refine .outNone Φ.ld ?_
   exact .dn rfl rfl ⟨_, _, rfl, rfl⟩
  refine D.kNF (t := 16) rfl h1_18 (.kNF (t := 17) rfl h1_18 (.gv rfl (.fieldAddr rfl fo_41_7) (.gv rfl (.to (v' := .slice aa m.ents.length ca) (.load rfl ag_33 (by repeat' constructor) rfl) hev) (.gv rfl (.slen rfl Tryz.underlying33 rfl) (.gv rfl (.int rfl rfl rfl) (.kv rfl (.pickF rfl rfl) (.mv rfl rfl (.ndec (t := 24) rfl (fun h1_24 => ?_) (fun h1_24 => ?_)))))))))
  ·refine D.kNT (t := 22) rfl h1_24 (.kNT (t := 23) rfl h1_24 (.gz rfl (.gz rfl (.gz rfl (.gz rfl (.gz rfl (.gz rfl (.gz rfl (.gz rfl (.gz rfl (.gz rfl (.gz rfl (.kv rfl (.pickT rfl rfl) (.pf (.condT rfl (.seq (.frFold (f := f) (y := y) (ha := ha) (hc := hc) (m := Φ.heard.length) Φ (by repeat' constructor) (by exact rfl) (by exact rfl) (by exact rfl) (.region (.m rfl (.cv Tryz.func59 [_] (rlose_spec f y (Φ)) ?_))))))))))))))))))))
   refine .an rfl (.rt ?_)
   have hr : proF Φ ⟨δ, ω, Λ⟩ m = (Φ.lose, ⟨δ, ω, Λ⟩, none) := by unfold proF; (try dsimp only); rw [if_pos (by first | exact .inl (by rintro (g1 | g1); exact h1_11 g1; exact h1_18 g1) | exact .inr (.inl (by omega)) | exact .inr (.inr h36))]
   rw [hr]
   try dsimp only
   refine .outNone Φ.ld ?_
   exact .dn rfl rfl ⟨_, _, rfl, rfl⟩
  obtain ⟨ba, oa, rfl⟩ := hA (by omega)
  refine D.kNF (t := 22) rfl h1_24 (.kNF (t := 23) rfl h1_24 (.gv rfl (.fieldAddr rfl fo_41_7) (.gv rfl (.to (v' := .slice (some ⟨ba, oa, none⟩) m.ents.length ca) (.load rfl ag_33 (by repeat' constructor) rfl) hev) (.gv rfl (.indexAddr rfl rfl el_33 (by omega)) (.gv rfl (.fieldAddr rfl fo_75_0) (.gv rfl (.loadRd (sz := 11) (j := 0) (p := p) (v := vint (ent0 m.ents)) rfl ag_3 (by repeat' constructor) hev2 (by omega) (ent0_at (by omega))) (.gv rfl (.quo rfl rfl (by decide) (tdiv_i64 hz0)) (.gv rfl (.move rfl) (.gv rfl (.nilp rfl) (.gv rfl (.fieldAddr rfl fo_109_3) (.gv rfl (.ld rfl ag_3) (.gv rfl (.int rfl rfl rfl) (.kv rfl (.pickF rfl rfl) (.pf (.condN rfl (fun h36 => ?_) (fun h36 => ?_))))))))))))))))
  ·refine .seq (.frFold (f := f) (y := y) (ha := ha) (hc := hc) (m := Φ.heard.length) Φ (by repeat' constructor) (by exact rfl) (by exact rfl) (by exact rfl) (.region (.m rfl (.cv Tryz.func59 [_] (rlose_spec f y (Φ)) ?_))))
   refine .an rfl (.rt ?_)
   have hr : proF Φ ⟨δ, ω, Λ⟩ m = (Φ.lose, ⟨δ, ω, Λ⟩, none) := by unfold proF; (try dsimp only); rw [if_pos (by first | exact .inl (by rintro (g1 | g1); exact h1_11 g1; exact h1_18 g1) | exact .inr (.inl (by omega)) | exact .inr (.inr h36))]
   rw [hr]
   try dsimp only
   refine .outNone Φ.ld ?_
   exact .dn rfl rfl ⟨_, _, rfl, rfl⟩
  refine .sk (.seq ?_)
  obtain ⟨e0, he0⟩ := one_ent (l := m.ents) (by omega)
  have hx0 := hm.x e0 (by rw [he0]; exact List.mem_singleton_self _)
  have hP1 := lps_append hP hx0.l.w.i
  refine .draw [8] [[0, 1, 2, 3, 4, 5, 6, 7, 8], [9]] mixed (by kernel_rfl) (.g0 (.mv rfl rfl (.nf rfl rfl rfl fo_109_1 (.kv rfl (.ld rfl ag_27) (.kv rfl (.fieldAddr rfl fo_41_7) (.kv rfl (.to (v' := .slice (some ⟨ba, oa, none⟩) m.ents.length ca) (.load rfl ag_33 (by repeat' constructor) rfl) hev) (.kv rfl (.indexAddr rfl rfl el_33 (by omega)) (.kv rfl (.loadRdA (sz := 11) (j := 0) (k := 11) (p := p) (vs := enC e0) rfl ag_75 (by repeat' constructor) hev2 (by simp) (by omega) (by omega) (by rw [he0]; rfl)) (.hh rfl (.c Tryz.func107 [_, _] (r9append_spec y w x δ ω Λ e0 p hx0 hx0.l.w.i.zx hwi hW.few)) ?_)))))))))
  rintro v L' ⟨rfl, rfl⟩; obtain ⟨r, hT⟩ : ∃ r, lgAppend ⟨δ, ω, Λ⟩ e0 = r := ⟨_, rfl⟩; rw [hT] at hP1 ⊢
  refine D.ph (.g0 (.kv rfl (.assign rfl) (.pf (.seq (.sm rfl (.ui rfl rfl rfl (.nt (.condD rfl (fun h49 => ?_) (fun h49 => ?_)))))))))
  ·refine .region (.m rfl (.nf rfl fo_109_1 (.u (.ld rfl ag_27) (.oq (.c Tryz.func108 [_] (r9sync_spec y w x r.1.δ r.1.ω r.1.Λ (hP1.wk.i (by omega)) hP1.hab)) ?_))))
   rintro v L' ⟨rfl, rfl⟩; obtain ⟨t, hU⟩ : ∃ t, lgSync r.1 = t := ⟨_, rfl⟩; rw [show lgSync ⟨r.1.δ, r.1.ω, r.1.Λ⟩ = t from hU]
   refine .an rfl (.seq (.sm rfl (.ui rfl rfl rfl (.nt (.condN rfl (fun h56 => ?_) (fun h56 => ?_))))))
   ·refine .seq (.frFold (f := f) (y := y) (ha := ha) (hc := hc) (m := Φ.heard.length) Φ (by repeat' constructor) (by exact rfl) (by exact rfl) (by exact rfl) (.region (.m rfl (.cv Tryz.func59 [_] (rlose_spec f y (Φ)) ?_))))
    refine .an rfl (.rt ?_)
    have ht : takeZ m.ents ⟨δ, ω, Λ⟩ = t := by rw [he0, take_one_eq, hT, if_neg (fun g1 => g1 h49), hU]
    have hr : proF Φ ⟨δ, ω, Λ⟩ m = (Φ.lose, t.1, none) := by unfold proF; (try dsimp only); rw [if_neg (by rintro (g1 | g1 | g1); exact g1 (by first | exact .inl h1_11 | exact .inr h1_18); exact g1 (by omega); exact g1 h36), ht, if_pos h56]
    rw [hr]
    try dsimp only
    refine .outNone Φ.ld ?_
    exact .dn rfl rfl ⟨_, _, rfl, rfl⟩
   refine .sk (.sm rfl (.u (.fieldAddr rfl fo_41_7) (.q (.to (v' := .slice (some ⟨ba, oa, none⟩) m.ents.length ca) (.load rfl ag_33 (by repeat' constructor) rfl) hev) rfl (.q (.indexAddr rfl rfl el_33 (by omega)) rfl (.u (.fieldAddr rfl fo_75_0) (.q (.loadRd (sz := 11) (j := 0) (p := p) (v := vint (ent0 m.ents)) rfl ag_3 (by repeat' constructor) hev2 (by omega) (ent0_at (by omega))) rfl (.q (.to (v' := .agg (moC ⟨8, 0, ent0 m.ents, 0, []⟩ (.slice none 0 0)).toArray) (.buildN (pl := [(0, 1), (1, 1), (2, 1), (3, 1), (4, 1), (5, 1), (6, 1), (7, 1), (8, 10), (18, 1)]) (us := [(0, _), (2, _)]) (cells := moC ⟨8, 0, ent0 m.ents, 0, []⟩ (.slice none 0 0)) Tryz.underlying41 (by kernel_rfl) ze_41 rfl rfl) rfl) rfl (.frFold (f := f) (y := y) (ha := ha) (hc := hc) (m := Φ.heard.length) Φ (by repeat' constructor) (by exact rfl) (by exact rfl) (by exact rfl) ?_))))))))
   refine .add (slR_nil 3 1) (.oq (.c Tryz.func102 [_, _] (rsay_spec f y (Φ) ⟨8, 0, ent0 m.ents, 0, []⟩ (.slice none 0 0) rfl)) ?_)
   rintro v L' ⟨bs, rfl, rfl⟩
   refine .an rfl (.ret ?_)
   have ht : takeZ m.ents ⟨δ, ω, Λ⟩ = t := by rw [he0, take_one_eq, hT, if_neg (fun g1 => g1 h49), hU]
   have hr : proF Φ ⟨δ, ω, Λ⟩ m = (Φ, t.1, some ⟨8, 0, ent0 m.ents, 0, []⟩) := by unfold proF; (try dsimp only); rw [if_neg (by rintro (g1 | g1 | g1); exact g1 (by first | exact .inl h1_11 | exact .inr h1_18); exact g1 (by omega); exact g1 h36), ht, if_neg (fun g1 => g1 h56)]
   rw [hr]
   try dsimp only
   refine .outFold (v := .slice (some ⟨bs, 0, none⟩) 1 1) (mv := .slice none 0 0) (k := 0) ⟨8, 0, ent0 m.ents, 0, []⟩ (by repeat' constructor) (by exact rfl) (by exact rfl) (by exact rfl) ?_
   exact .dn rfl rfl ⟨_, _, rfl, rfl⟩
  refine .sk (.seq (.sm rfl (.q (.as (v' := .bool true) (by rw [decide_eq_false h49]; rfl) (.int rfl rfl rfl)) rfl (.nt (.condT rfl (.seq (.frFold (f := f) (y := y) (ha := ha) (hc := hc) (m := Φ.heard.length) Φ (by repeat' constructor) (by exact rfl) (by exact rfl) (by exact rfl) (.region (.m rfl (.cv Tryz.func59 [_] (rlose_spec f y (Φ)) ?_))))))))))
  refine .an rfl (.rt ?_)
  have ht : takeZ m.ents ⟨δ, ω, Λ⟩ = r := by rw [he0, take_one_eq, hT, if_pos h49]
  have hr : proF Φ ⟨δ, ω, Λ⟩ m = (Φ.lose, r.1, none) := by unfold proF; (try dsimp only); rw [if_neg (by rintro (g1 | g1 | g1); exact g1 (by first | exact .inl h1_11 | exact .inr h1_18); exact g1 (by omega); exact g1 h36), ht, if_pos h49]
  rw [hr]
  try dsimp only
  refine .outNone Φ.ld ?_
  exact .dn rfl rfl ⟨_, _, rfl, rfl⟩
 refine D.kNF (t := 10) rfl h1_11 (.gz rfl (.gz rfl (.gz rfl (.gz rfl (.gz rfl (.kv rfl (.pickF rfl rfl) (.mv rfl rfl (.gv rfl (.fieldAddr rfl fo_41_7) (.gv rfl (.to (v' := .slice aa m.ents.length ca) (.load rfl ag_33 (by repeat' constructor) rfl) hev) (.gv rfl (.slen rfl Tryz.underlying33 rfl) (.gv rfl (.int rfl rfl rfl) (.kv rfl (.pickF rfl rfl) (.mv rfl rfl (.ndec (t := 24) rfl (fun h1_24 => ?_) (fun h1_24 => ?_)))))))))))))))
 ·refine D.kNT (t := 22) rfl h1_24 (.kNT (t := 23) rfl h1_24 (.gz rfl (.gz rfl (.gz rfl (.gz rfl (.gz rfl (.gz rfl (.gz rfl (.gz rfl (.gz rfl (.gz rfl (.gz rfl (.kv rfl (.pickT rfl rfl) (.pf (.condT rfl (.seq (.frFold (f := f) (y := y) (ha := ha) (hc := hc) (m := Φ.heard.length) Φ (by repeat' constructor) (by exact rfl) (by exact rfl) (by exact rfl) (.region (.m rfl (.cv Tryz.func59 [_] (rlose_spec f y (Φ)) ?_))))))))))))))))))))
  refine .an rfl (.rt ?_)
  have hr : proF Φ ⟨δ, ω, Λ⟩ m = (Φ.lose, ⟨δ, ω, Λ⟩, none) := by unfold proF; (try dsimp only); rw [if_pos (by first | exact .inl (by rintro (g1 | g1); exact h1_11 g1; exact h1_18 g1) | exact .inr (.inl (by omega)) | exact .inr (.inr h36))]
  rw [hr]
  try dsimp only
  refine .outNone Φ.ld ?_
  exact .dn rfl rfl ⟨_, _, rfl, rfl⟩
 obtain ⟨ba, oa, rfl⟩ := hA (by omega)
 refine D.kNF (t := 22) rfl h1_24 (.kNF (t := 23) rfl h1_24 (.gv rfl (.fieldAddr rfl fo_41_7) (.gv rfl (.to (v' := .slice (some ⟨ba, oa, none⟩) m.ents.length ca) (.load rfl ag_33 (by repeat' constructor) rfl) hev) (.gv rfl (.indexAddr rfl rfl el_33 (by omega)) (.gv rfl (.fieldAddr rfl fo_75_0) (.gv rfl (.loadRd (sz := 11) (j := 0) (p := p) (v := vint (ent0 m.ents)) rfl ag_3 (by repeat' constructor) hev2 (by omega) (ent0_at (by omega))) (.gv rfl (.quo rfl rfl (by decide) (tdiv_i64 hz0)) (.gv rfl (.move rfl) (.gv rfl (.nilp rfl) (.gv rfl (.fieldAddr rfl fo_109_3) (.gv rfl (.ld rfl ag_3) (.gv rfl (.int rfl rfl rfl) (.kv rfl (.pickF rfl rfl) (.pf (.condN rfl (fun h36 => ?_) (fun h36 => ?_))))))))))))))))
 ·refine .seq (.frFold (f := f) (y := y) (ha := ha) (hc := hc) (m := Φ.heard.length) Φ (by repeat' constructor) (by exact rfl) (by exact rfl) (by exact rfl) (.region (.m rfl (.cv Tryz.func59 [_] (rlose_spec f y (Φ)) ?_))))
  refine .an rfl (.rt ?_)
  have hr : proF Φ ⟨δ, ω, Λ⟩ m = (Φ.lose, ⟨δ, ω, Λ⟩, none) := by unfold proF; (try dsimp only); rw [if_pos (by first | exact .inl (by rintro (g1 | g1); exact h1_11 g1; exact h1_18 g1) | exact .inr (.inl (by omega)) | exact .inr (.inr h36))]
  rw [hr]
  try dsimp only
  refine .outNone Φ.ld ?_
  exact .dn rfl rfl ⟨_, _, rfl, rfl⟩
 refine .sk (.seq ?_)
 obtain ⟨e0, he0⟩ := one_ent (l := m.ents) (by omega)
 have hx0 := hm.x e0 (by rw [he0]; exact List.mem_singleton_self _)
 have hP1 := lps_append hP hx0.l.w.i
 refine .draw [8] [[0, 1, 2, 3, 4, 5, 6, 7, 8], [9]] mixed (by kernel_rfl) (.g0 (.mv rfl rfl (.nf rfl rfl rfl fo_109_1 (.kv rfl (.ld rfl ag_27) (.kv rfl (.fieldAddr rfl fo_41_7) (.kv rfl (.to (v' := .slice (some ⟨ba, oa, none⟩) m.ents.length ca) (.load rfl ag_33 (by repeat' constructor) rfl) hev) (.kv rfl (.indexAddr rfl rfl el_33 (by omega)) (.kv rfl (.loadRdA (sz := 11) (j := 0) (k := 11) (p := p) (vs := enC e0) rfl ag_75 (by repeat' constructor) hev2 (by simp) (by omega) (by omega) (by rw [he0]; rfl)) (.hh rfl (.c Tryz.func107 [_, _] (r9append_spec y w x δ ω Λ e0 p hx0 hx0.l.w.i.zx hwi hW.few)) ?_)))))))))
 rintro v L' ⟨rfl, rfl⟩; obtain ⟨r, hT⟩ : ∃ r, lgAppend ⟨δ, ω, Λ⟩ e0 = r := ⟨_, rfl⟩; rw [hT] at hP1 ⊢
 refine D.ph (.g0 (.kv rfl (.assign rfl) (.pf (.seq (.sm rfl (.ui rfl rfl rfl (.nt (.condD rfl (fun h49 => ?_) (fun h49 => ?_)))))))))
 ·refine .region (.m rfl (.nf rfl fo_109_1 (.u (.ld rfl ag_27) (.oq (.c Tryz.func108 [_] (r9sync_spec y w x r.1.δ r.1.ω r.1.Λ (hP1.wk.i (by omega)) hP1.hab)) ?_))))
  rintro v L' ⟨rfl, rfl⟩; obtain ⟨t, hU⟩ : ∃ t, lgSync r.1 = t := ⟨_, rfl⟩; rw [show lgSync ⟨r.1.δ, r.1.ω, r.1.Λ⟩ = t from hU]
  refine .an rfl (.seq (.sm rfl (.ui rfl rfl rfl (.nt (.condN rfl (fun h56 => ?_) (fun h56 => ?_))))))
  ·refine .seq (.frFold (f := f) (y := y) (ha := ha) (hc := hc) (m := Φ.heard.length) Φ (by repeat' constructor) (by exact rfl) (by exact rfl) (by exact rfl) (.region (.m rfl (.cv Tryz.func59 [_] (rlose_spec f y (Φ)) ?_))))
   refine .an rfl (.rt ?_)
   have ht : takeZ m.ents ⟨δ, ω, Λ⟩ = t := by rw [he0, take_one_eq, hT, if_neg (fun g1 => g1 h49), hU]
   have hr : proF Φ ⟨δ, ω, Λ⟩ m = (Φ.lose, t.1, none) := by unfold proF; (try dsimp only); rw [if_neg (by rintro (g1 | g1 | g1); exact g1 (by first | exact .inl h1_11 | exact .inr h1_18); exact g1 (by omega); exact g1 h36), ht, if_pos h56]
   rw [hr]
   try dsimp only
   refine .outNone Φ.ld ?_
   exact .dn rfl rfl ⟨_, _, rfl, rfl⟩
  refine .sk (.sm rfl (.u (.fieldAddr rfl fo_41_7) (.q (.to (v' := .slice (some ⟨ba, oa, none⟩) m.ents.length ca) (.load rfl ag_33 (by repeat' constructor) rfl) hev) rfl (.q (.indexAddr rfl rfl el_33 (by omega)) rfl (.u (.fieldAddr rfl fo_75_0) (.q (.loadRd (sz := 11) (j := 0) (p := p) (v := vint (ent0 m.ents)) rfl ag_3 (by repeat' constructor) hev2 (by omega) (ent0_at (by omega))) rfl (.q (.to (v' := .agg (moC ⟨8, 0, ent0 m.ents, 0, []⟩ (.slice none 0 0)).toArray) (.buildN (pl := [(0, 1), (1, 1), (2, 1), (3, 1), (4, 1), (5, 1), (6, 1), (7, 1), (8, 10), (18, 1)]) (us := [(0, _), (2, _)]) (cells := moC ⟨8, 0, ent0 m.ents, 0, []⟩ (.slice none 0 0)) Tryz.underlying41 (by kernel_rfl) ze_41 rfl rfl) rfl) rfl (.frFold (f := f) (y := y) (ha := ha) (hc := hc) (m := Φ.heard.length) Φ (by repeat' constructor) (by exact rfl) (by exact rfl) (by exact rfl) ?_))))))))
  refine .add (slR_nil 3 1) (.oq (.c Tryz.func102 [_, _] (rsay_spec f y (Φ) ⟨8, 0, ent0 m.ents, 0, []⟩ (.slice none 0 0) rfl)) ?_)
  rintro v L' ⟨bs, rfl, rfl⟩
  refine .an rfl (.ret ?_)
  have ht : takeZ m.ents ⟨δ, ω, Λ⟩ = t := by rw [he0, take_one_eq, hT, if_neg (fun g1 => g1 h49), hU]
  have hr : proF Φ ⟨δ, ω, Λ⟩ m = (Φ, t.1, some ⟨8, 0, ent0 m.ents, 0, []⟩) := by unfold proF; (try dsimp only); rw [if_neg (by rintro (g1 | g1 | g1); exact g1 (by first | exact .inl h1_11 | exact .inr h1_18); exact g1 (by omega); exact g1 h36), ht, if_neg (fun g1 => g1 h56)]
  rw [hr]
  try dsimp only
  refine .outFold (v := .slice (some ⟨bs, 0, none⟩) 1 1) (mv := .slice none 0 0) (k := 0) ⟨8, 0, ent0 m.ents, 0, []⟩ (by repeat' constructor) (by exact rfl) (by exact rfl) (by exact rfl) ?_
  exact .dn rfl rfl ⟨_, _, rfl, rfl⟩
 refine .sk (.seq (.sm rfl (.q (.as (v' := .bool true) (by rw [decide_eq_false h49]; rfl) (.int rfl rfl rfl)) rfl (.nt (.condT rfl (.seq (.frFold (f := f) (y := y) (ha := ha) (hc := hc) (m := Φ.heard.length) Φ (by repeat' constructor) (by exact rfl) (by exact rfl) (by exact rfl) (.region (.m rfl (.cv Tryz.func59 [_] (rlose_spec f y (Φ)) ?_))))))))))
 refine .an rfl (.rt ?_)
 have ht : takeZ m.ents ⟨δ, ω, Λ⟩ = r := by rw [he0, take_one_eq, hT, if_pos h49]
 have hr : proF Φ ⟨δ, ω, Λ⟩ m = (Φ.lose, r.1, none) := by unfold proF; (try dsimp only); rw [if_neg (by rintro (g1 | g1 | g1); exact g1 (by first | exact .inl h1_11 | exact .inr h1_18); exact g1 (by omega); exact g1 h36), ht, if_pos h49]
 rw [hr]
 try dsimp only
 refine .outNone Φ.ld ?_
 exact .dn rfl rfl ⟨_, _, rfl, rfl⟩
theorem rpinged_spec (f y w x : Nat) (Φ : Fw) (δ : Dk) (ω : Wl) (Λ : Lg) (m : Ms) (p : HP) : Fn Tryz.prog 66 #[vptr f, .agg (msC m).toArray] [frR f y Φ, rgR y w Λ, rlR w x ω, dsR x δ, p] fun v L => ∃ a c, v = .slice a (onN (pingF Φ ⟨δ, ω, Λ⟩ m).2.2) c ∧ L = [frR f y (pingF Φ ⟨δ, ω, Λ⟩ m).1, rgR y w (pingF Φ ⟨δ, ω, Λ⟩ m).2.1.Λ, rlR w x (pingF Φ ⟨δ, ω, Λ⟩ m).2.1.ω, dsR x (pingF Φ ⟨δ, ω, Λ⟩ m).2.1.δ, outR v Φ.ld (pingF Φ ⟨δ, ω, Λ⟩ m).2.2, p] := by
 refine Fn.intro Tryz.func66 rfl rfl fun F W => ?_
 refine .frOpen (f := f) (by repeat' constructor) fun ha hc => (.rgOpen (y := y) (by repeat' constructor) fun a c es hE => (.sr (.oq (.box rfl) ?_)))
 rintro v L' ⟨b3, rfl, rfl⟩
 refine .a rfl (.nil (.ptCast (b := b3) (l' := msC m) (by repeat' constructor) (by exact rfl) (.then_n (.seq (.sm rfl (.nf rfl fo_109_2 (.u (.ld rfl ag_3) (.ui rfl rfl rfl (.nt (.condD rfl (fun h10 => ?_) (fun h10 => ?_)))))))))))
 ·refine .sr (.an rfl (.rt ?_))
  have hr : pingF Φ ⟨δ, ω, Λ⟩ m = (Φ, ⟨δ, ω, Λ⟩, none) := by unfold pingF; (try dsimp only); rw [if_pos h10]
  rw [hr]
  try dsimp only
  refine .frFold (f := f) (y := y) (ha := ha) (hc := hc) (m := Φ.heard.length) Φ (by repeat' constructor) (by exact rfl) (by exact rfl) (by exact rfl) (.rg (y := y) (w := w) (Λ) (a) (c) (es) (hE) ?_)
  refine .outNone Φ.ld ?_
  exact .dn rfl rfl ⟨_, _, rfl, rfl⟩
 refine .sk (.seq (.seq (.draw [] [[0, 1, 2, 3, 4, 5, 6, 7, 8, 9, 10, 11, 12, 13, 14]] mixed (by kernel_rfl) (.go [ptc f _ _, ptc b3 _ _, gc9 y w Λ.base Λ.snap (.slice a es.length c) Λ.acc Λ.cur Λ.doubt, es9 (.slice a es.length c) es] (by repeat' constructor) (.mv rfl rfl (.nf rfl rfl rfl fo_109_2 (.kv rfl (.ld rfl ag_3) (.kv rfl (.int rfl rfl rfl) (.mv rfl rfl (.dec (t := 16) rfl (fun h3_16 => ?_) (fun h3_16 => ?_)))))))))))
 ·refine D.kDT (t := 15) rfl h3_16 (.gv rfl (.fieldAddr rfl fo_41_2) (.gv rfl (.ld rfl ag_3) (.gv rfl (.move rfl) (.gv rfl (.nilp rfl) (.gv rfl (.fieldAddr rfl fo_109_1) (.gv rfl (.ld rfl ag_27) (.gm (t := 16) rfl rfl rfl (by kernel_rfl) (.c Tryz.func29 [_] (r9last_spec y w Λ.base Λ.snap a c Λ.acc Λ.cur Λ.doubt es hE.n)) (by repeat' constructor) ?_)))))))
  rw [hE.lastF]
  refine D.gv rfl (.int rfl rfl rfl) (.kv rfl (.pickT rfl rfl) (.pf (.condD rfl (fun h25 => ?_) (fun h25 => ?_))))
  ·refine .draw [10] [[0, 1, 2, 3, 4, 5, 6, 7, 8, 9, 10]] mixed (by kernel_rfl) (.g0 (.mv rfl rfl (.mv rfl rfl (.nf rfl rfl rfl fo_109_4 (.kv rfl (.ld rfl ag_3) (.kv rfl (.fieldAddr rfl fo_41_2) (.kv rfl (.ld rfl ag_3) (.kv rfl (.max2 rfl rfl) (.nf rfl rfl rfl fo_109_4 (.hh rfl (.store rfl rfl rfl sz_3 ?c34 (nfz0 _ _)) ?_))))))))))
   case c34 => first | decide | (simp; omega) | simp
   rintro v L' rfl
   refine D.pf (.sm rfl (.nf rfl fo_109_6 (.u (.ld rfl ag_32) (.an rfl (.sm rfl (.nf rfl fo_109_6 (.st rfl rfl rfl sz_32 ?_)))))))
   refine .nt (.sm rfl (.m rfl (.q (.to (v' := .agg (moC ⟨11, 0, 0, 0, Φ.heard⟩ (.slice ha Φ.heard.length hc)).toArray) (.buildN (pl := [(0, 1), (1, 1), (2, 1), (3, 1), (4, 1), (5, 1), (6, 1), (7, 1), (8, 10), (18, 1)]) (us := [(0, _), (5, _)]) (cells := moC ⟨11, 0, 0, 0, Φ.heard⟩ (.slice ha Φ.heard.length hc)) Tryz.underlying41 (by kernel_rfl) ze_41 rfl rfl) rfl) rfl (.rg (y := y) (w := w) (Λ) (a) (c) (es) (hE) ?_))))
   refine .add (slR_nil 3 1) (.frFold (f := f) (y := y) (ha := none) (hc := 0) (m := 0) (hs := []) ((Φ.comm m.zx).hear []) (by repeat' constructor) (by exact rfl) (by exact rfl) (by exact rfl) (.oq (.c Tryz.func102 [_, _] (rsay_spec f y ((Φ.comm m.zx).hear []) ⟨11, 0, 0, 0, Φ.heard⟩ (.slice ha Φ.heard.length hc) rfl)) ?_))
   rintro v L' ⟨bs, rfl, rfl⟩
   refine .an rfl (.ret ?_)
   have h1 : pingF1 Φ ⟨δ, ω, Λ⟩ m = (Φ.comm m.zx) := by unfold pingF1; dsimp only; rw [if_pos ⟨h3_16, h25⟩]
   have hr : pingF Φ ⟨δ, ω, Λ⟩ m = ((Φ.comm m.zx).hear [], ⟨δ, ω, Λ⟩, some ⟨11, 0, 0, 0, Φ.heard⟩) := by unfold pingF; (try dsimp only); rw [if_neg h10, h1]
   rw [hr]
   try dsimp only
   refine .outFold (v := .slice (some ⟨bs, 0, none⟩) 1 1) (mv := .slice ha _ hc) (k := _) ⟨11, 0, 0, 0, Φ.heard⟩ (by repeat' constructor) (by exact rfl) (by exact rfl) (by exact rfl) ?_
   exact .dn rfl rfl ⟨_, _, rfl, rfl⟩
  refine .sk (.sm rfl (.nf rfl fo_109_6 (.u (.ld rfl ag_32) (.an rfl (.sm rfl (.nf rfl fo_109_6 (.st rfl rfl rfl sz_32 ?_)))))))
  refine .nt (.sm rfl (.m rfl (.q (.to (v' := .agg (moC ⟨11, 0, 0, 0, Φ.heard⟩ (.slice ha Φ.heard.length hc)).toArray) (.buildN (pl := [(0, 1), (1, 1), (2, 1), (3, 1), (4, 1), (5, 1), (6, 1), (7, 1), (8, 10), (18, 1)]) (us := [(0, _), (5, _)]) (cells := moC ⟨11, 0, 0, 0, Φ.heard⟩ (.slice ha Φ.heard.length hc)) Tryz.underlying41 (by kernel_rfl) ze_41 rfl rfl) rfl) rfl (.rg (y := y) (w := w) (Λ) (a) (c) (es) (hE) ?_))))
  refine .add (slR_nil 3 1) (.frFold (f := f) (y := y) (ha := none) (hc := 0) (m := 0) (hs := []) (Φ.hear []) (by repeat' constructor) (by exact rfl) (by exact rfl) (by exact rfl) (.oq (.c Tryz.func102 [_, _] (rsay_spec f y (Φ.hear []) ⟨11, 0, 0, 0, Φ.heard⟩ (.slice ha Φ.heard.length hc) rfl)) ?_))
  rintro v L' ⟨bs, rfl, rfl⟩
  refine .an rfl (.ret ?_)
  have h1 : pingF1 Φ ⟨δ, ω, Λ⟩ m = Φ := by unfold pingF1; dsimp only; rw [if_neg (fun g1 => by first | exact h3_16 g1.1 | exact h25 g1.2)]
  have hr : pingF Φ ⟨δ, ω, Λ⟩ m = (Φ.hear [], ⟨δ, ω, Λ⟩, some ⟨11, 0, 0, 0, Φ.heard⟩) := by unfold pingF; (try dsimp only); rw [if_neg h10, h1]
  rw [hr]
  try dsimp only
  refine .outFold (v := .slice (some ⟨bs, 0, none⟩) 1 1) (mv := .slice ha _ hc) (k := _) ⟨11, 0, 0, 0, Φ.heard⟩ (by repeat' constructor) (by exact rfl) (by exact rfl) (by exact rfl) ?_
  exact .dn rfl rfl ⟨_, _, rfl, rfl⟩
 refine D.kDF (t := 15) rfl h3_16 (.gz rfl (.gz rfl (.gz rfl (.gz rfl (.gz rfl (.gz rfl (.gz rfl (.gz rfl (.kv rfl (.pickF rfl rfl) (.pf (.condF rfl (.sk (.sm rfl (.nf rfl fo_109_6 (.u (.ld rfl ag_32) (.an rfl (.sm rfl (.nf rfl fo_109_6 (.st rfl rfl rfl sz_32 ?_)))))))))))))))))))
 refine .nt (.sm rfl (.m rfl (.q (.to (v' := .agg (moC ⟨11, 0, 0, 0, Φ.heard⟩ (.slice ha Φ.heard.length hc)).toArray) (.buildN (pl := [(0, 1), (1, 1), (2, 1), (3, 1), (4, 1), (5, 1), (6, 1), (7, 1), (8, 10), (18, 1)]) (us := [(0, _), (5, _)]) (cells := moC ⟨11, 0, 0, 0, Φ.heard⟩ (.slice ha Φ.heard.length hc)) Tryz.underlying41 (by kernel_rfl) ze_41 rfl rfl) rfl) rfl (.rg (y := y) (w := w) (Λ) (a) (c) (es) (hE) ?_))))
 refine .add (slR_nil 3 1) (.frFold (f := f) (y := y) (ha := none) (hc := 0) (m := 0) (hs := []) (Φ.hear []) (by repeat' constructor) (by exact rfl) (by exact rfl) (by exact rfl) (.oq (.c Tryz.func102 [_, _] (rsay_spec f y (Φ.hear []) ⟨11, 0, 0, 0, Φ.heard⟩ (.slice ha Φ.heard.length hc) rfl)) ?_))
 rintro v L' ⟨bs, rfl, rfl⟩
 refine .an rfl (.ret ?_)
 have h1 : pingF1 Φ ⟨δ, ω, Λ⟩ m = Φ := by unfold pingF1; dsimp only; rw [if_neg (fun g1 => by first | exact h3_16 g1.1 | exact h25 g1.2)]
 have hr : pingF Φ ⟨δ, ω, Λ⟩ m = (Φ.hear [], ⟨δ, ω, Λ⟩, some ⟨11, 0, 0, 0, Φ.heard⟩) := by unfold pingF; (try dsimp only); rw [if_neg h10, h1]
 rw [hr]
 try dsimp only
 refine .outFold (v := .slice (some ⟨bs, 0, none⟩) 1 1) (mv := .slice ha _ hc) (k := _) ⟨11, 0, 0, 0, Φ.heard⟩ (by repeat' constructor) (by exact rfl) (by exact rfl) (by exact rfl) ?_
 exact .dn rfl rfl ⟨_, _, rfl, rfl⟩
theorem rhear_spec (f y w x : Nat) (Φ : Fw) (δ : Dk) (ω : Wl) (Λ : Lg) (m : Ms) (p : HP) (N : Int) (hm : MsA p m) (hP : LPs ⟨δ, ω, Λ⟩ N) (hN : N + 3000000000000 < 4611686018427387904) : Fn Tryz.prog 25 #[vptr f, .agg (msC m).toArray] [frR f y Φ, rgR y w Λ, rlR w x ω, dsR x δ, p] fun v L => ∃ a c, v = .slice a (onN (hearF Φ ⟨δ, ω, Λ⟩ m).2.2) c ∧ L = [frR f y (hearF Φ ⟨δ, ω, Λ⟩ m).1, rgR y w (hearF Φ ⟨δ, ω, Λ⟩ m).2.1.Λ, rlR w x (hearF Φ ⟨δ, ω, Λ⟩ m).2.1.ω, dsR x (hearF Φ ⟨δ, ω, Λ⟩ m).2.1.δ, outR v Φ.ld (hearF Φ ⟨δ, ω, Λ⟩ m).2.2, p] := by
 refine Fn.intro Tryz.func25 rfl rfl fun F W => ?_
 refine .frOpen (f := f) (by repeat' constructor) fun ha hc => (.sr (.oq (.box rfl) ?_))
 rintro v L' ⟨b3, rfl, rfl⟩
 refine .a rfl (.nil (.ptCast (b := b3) (l' := msC m) (by repeat' constructor) (by exact rfl) (.then_n (.seq (.sm rfl (.nf rfl fo_109_2 (.u (.ld rfl ag_3) (.ui rfl rfl rfl (.nt (.condD rfl (fun h9 => ?_) (fun h9 => ?_)))))))))))
 ·refine .sr (.an rfl (.rt ?_))
  have hr : hearF Φ ⟨δ, ω, Λ⟩ m = (Φ, ⟨δ, ω, Λ⟩, none) := by unfold hearF; rw [if_pos h9]
  rw [hr]
  refine .frFold (f := f) (y := y) (ha := ha) (hc := hc) (m := Φ.heard.length) Φ (by repeat' constructor) (by exact rfl) (by exact rfl) (by exact rfl) (.outNone Φ.ld ?_)
  exact .dn rfl rfl ⟨_, _, rfl, rfl⟩
 refine .sk (.sm rfl (.nf rfl fo_109_5 (.st rfl rfl rfl sz_3 ?_)))
 refine .nil (.frFold (f := f) (y := y) (ha := ha) (hc := hc) (m := Φ.heard.length) (Φ.hush 0) (by repeat' constructor) (by exact rfl) (by exact rfl) (by exact rfl) ?_)
 obtain ⟨Q, hG⟩ : ∃ Q, Φ.hush 0 = Q := ⟨_, rfl⟩
 have hld : Q.ld = Φ.ld := by rw [← hG]; rfl
 rw [hG]
 refine .then_n (.seq (.sr (.u (.fieldAddr rfl fo_41_0) (.u (.ld rfl ag_3) (.nt (.block (.sr (.ui rfl rfl rfl (.an rfl (.condD rfl (fun h15 => ?_) (fun h15 => ?_)))))))))))
 ·refine .sm rfl (.q (.loadAs (vs := msC m) rfl ag_41 (by repeat' constructor) (by simp [msC]) rfl) rfl (.oq (.c Tryz.func62 [_, _] (repochs_spec f y w x Q δ ω Λ m p N hP (by omega))) ?_))
  rintro v L' ⟨av, cv, rfl, rfl⟩
  refine .an rfl (.ret (.blk_r (.then_r ?_)))
  have hkd : m.kind = 2 := h15
  have hr : hearF Φ ⟨δ, ω, Λ⟩ m = accF Q ⟨δ, ω, Λ⟩ m := by unfold hearF; rw [if_neg h9, hG]; unfold hearF1; rw [if_pos hkd]
  rw [hr, ← hld]
  exact .dn rfl rfl ⟨_, _, rfl, rfl⟩
 refine .sr (.ui rfl rfl rfl (.an rfl (.condD rfl (fun h20 => ?_) (fun h20 => ?_))))
 ·refine .sm rfl (.q (.loadAs (vs := msC m) rfl ag_41 (by repeat' constructor) (by simp [msC]) rfl) rfl (.oq (.c Tryz.func63 [_, _] (rsyncs_spec f y w x Q δ ω Λ m p N hm hP hN)) ?_))
  rintro v L' ⟨av, cv, rfl, rfl⟩
  refine .an rfl (.ret (.blk_r (.then_r ?_)))
  have hkd : m.kind = 4 := h20
  have hr : hearF Φ ⟨δ, ω, Λ⟩ m = synF Q ⟨δ, ω, Λ⟩ m := by unfold hearF; rw [if_neg h9, hG]; unfold hearF1; rw [if_neg (by omega), if_pos hkd]
  rw [hr, ← hld]
  exact .dn rfl rfl ⟨_, _, rfl, rfl⟩
 refine .seq (.sr (.ui rfl rfl rfl (.an rfl (.dec (t := 25) rfl (fun h25 => ?_) (fun h25 => ?_)))))
 ·refine .condT rfl (.sk (.condT rfl (.sm rfl (.q (.loadAs (vs := msC m) rfl ag_41 (by repeat' constructor) (by simp [msC]) rfl) rfl (.oq (.c Tryz.func64 [_, _] (rcommits_spec f y w x Q δ ω Λ m p)) ?_)))))
  rintro v L' ⟨av, cv, rfl, rfl⟩
  refine .an rfl (.ret (.blk_r (.then_r ?_)))
  have hkd : m.kind = 6 := h25
  have hr : hearF Φ ⟨δ, ω, Λ⟩ m = upF Q ⟨δ, ω, Λ⟩ m := by unfold hearF; rw [if_neg h9, hG]; unfold hearF1; rw [if_neg (by omega), if_neg (by omega), if_neg (by omega), if_neg (by omega), if_pos hkd]
  rw [hr, ← hld]
  rw [if_pos hkd]
  exact .dn rfl rfl ⟨_, _, rfl, rfl⟩
 refine .condF rfl ?_
 have h25a := h25
 refine .region (.ui rfl rfl rfl (.an rfl (.dec (t := 25) rfl (fun h25 => ?_) (fun h25 => ?_))))
 ·refine .condT rfl (.sm rfl (.q (.loadAs (vs := msC m) rfl ag_41 (by repeat' constructor) (by simp [msC]) rfl) rfl (.oq (.c Tryz.func64 [_, _] (rcommits_spec f y w x Q δ ω Λ m p)) ?_)))
  rintro v L' ⟨av, cv, rfl, rfl⟩
  refine .an rfl (.ret (.blk_r (.then_r ?_)))
  have hkd : m.kind = 9 := h25
  have hr : hearF Φ ⟨δ, ω, Λ⟩ m = comF Q ⟨δ, ω, Λ⟩ m := by unfold hearF; rw [if_neg h9, hG]; unfold hearF1; rw [if_neg (by omega), if_neg (by omega), if_neg (by omega), if_neg (by omega), if_neg (by omega), if_pos hkd]
  rw [hr, ← hld]
  rw [if_neg (show ¬ m.kind = 6 by omega)]
  exact .dn rfl rfl ⟨_, _, rfl, rfl⟩
 refine .condF rfl (.sr (.ui rfl rfl rfl (.an rfl (.condD rfl (fun h31 => ?_) (fun h31 => ?_)))))
 ·refine .sm rfl (.q (.loadAs (vs := msC m) rfl ag_41 (by repeat' constructor) (by simp [msC]) rfl) rfl (.oq (.c Tryz.func65 [_, _] (rproposed_spec f y w x Q δ ω Λ m p N hm hP hN)) ?_))
  rintro v L' ⟨av, cv, rfl, rfl⟩
  refine .an rfl (.ret (.blk_r (.then_r ?_)))
  have hkd : m.kind = 7 := h31
  have hr : hearF Φ ⟨δ, ω, Λ⟩ m = proF Q ⟨δ, ω, Λ⟩ m := by unfold hearF; rw [if_neg h9, hG]; unfold hearF1; rw [if_neg (by omega), if_neg (by omega), if_pos hkd]
  rw [hr, ← hld]
  exact .dn rfl rfl ⟨_, _, rfl, rfl⟩
 refine .sr (.ui rfl rfl rfl (.an rfl (.condD rfl (fun h36 => ?_) (fun h36 => ?_))))
 ·refine .sm rfl (.q (.loadAs (vs := msC m) rfl ag_41 (by repeat' constructor) (by simp [msC]) rfl) rfl (.oq (.c Tryz.func66 [_, _] (rpinged_spec f y w x Q δ ω Λ m p)) ?_))
  rintro v L' ⟨av, cv, rfl, rfl⟩
  refine .an rfl (.ret (.blk_r (.then_r ?_)))
  have hkd : m.kind = 10 := h36
  have hr : hearF Φ ⟨δ, ω, Λ⟩ m = pingF Q ⟨δ, ω, Λ⟩ m := by unfold hearF; rw [if_neg h9, hG]; unfold hearF1; rw [if_neg (by omega), if_neg (by omega), if_neg (by omega), if_pos hkd]
  rw [hr, ← hld]
  exact .dn rfl rfl ⟨_, _, rfl, rfl⟩
 refine .skip (.blk_n (.then_n (.sr (.an rfl (.ret ?_)))))
 have hr : hearF Φ ⟨δ, ω, Λ⟩ m = (Q, ⟨δ, ω, Λ⟩, none) := by unfold hearF; rw [if_neg h9, hG]; unfold hearF1; rw [if_neg h15, if_neg h20, if_neg h31, if_neg h36, if_neg h25a, if_neg h25]
 rw [hr, ← hld]
 refine .outNone Q.ld ?_
 exact .dn rfl rfl ⟨_, _, rfl, rfl⟩
def PutTo (xs : List Int) (n : Int) (i : Nat) (b : Bool) (ws : List Int) : Prop := if b = true then insL n xs = ws ++ xs.drop i else ((∀ x ∈ xs.take i, x ≤ n) ∧ ws = xs.take i)
theorem put_in {xs ws : List Int} {n : Int} {i : Nat} (h : PutTo xs n i false ws) (hi : i < xs.length) (hn : xs[i] > n) : PutTo xs n (i + 1) true ((ws ++ [n]) ++ [xs[i]]) := by
 obtain ⟨h1, h2⟩ : (∀ x ∈ xs.take i, x ≤ n) ∧ ws = xs.take i := by simpa [PutTo] using h
 unfold PutTo
 rw [if_pos rfl]
 have e : xs = xs.take i ++ xs[i] :: xs.drop (i + 1) := by rw [← List.drop_eq_getElem_cons hi, List.take_append_drop]
 rw [show insL n xs = insL n (xs.take i ++ xs[i] :: xs.drop (i + 1)) by rw [← e], ins_app h1, ins_gt hn, h2]; simp
theorem put_more {xs ws : List Int} {n : Int} {i : Nat} {b : Bool} (h : PutTo xs n i b ws) (hi : i < xs.length) (hn : b = true ∨ ¬ xs[i] > n) : PutTo xs n (i + 1) b (ws ++ [xs[i]]) := by
 cases b with
 | true =>
  have h1 : insL n xs = ws ++ xs.drop i := by simpa [PutTo] using h
  unfold PutTo
  rw [if_pos rfl, h1, List.drop_eq_getElem_cons hi]; simp
 | false =>
  obtain ⟨h1, h2⟩ : (∀ x ∈ xs.take i, x ≤ n) ∧ ws = xs.take i := by simpa [PutTo] using h
  have h3 : ¬ xs[i] > n := by rcases hn with g | g; cases g; exact g
  unfold PutTo
  rw [if_neg (by decide)]
  refine ⟨fun x hx => ?_, by rw [h2, List.take_succ_eq_append_getElem hi]⟩
  rw [List.take_succ_eq_append_getElem hi, List.mem_append, List.mem_singleton] at hx
  rcases hx with hx | rfl
  ·exact h1 x hx
  ·omega
theorem put_out {xs ws : List Int} {n : Int} {i : Nat} {b : Bool} (h : PutTo xs n i b ws) (hi : ¬ i < xs.length) : insL n xs = if b = true then ws else ws ++ [n] := by
 cases b with
 | true =>
  have h1 : insL n xs = ws ++ xs.drop i := by simpa [PutTo] using h
  rw [h1, List.drop_eq_nil_of_le (by omega), if_pos rfl, List.append_nil]
 | false =>
  obtain ⟨h1, h2⟩ : (∀ x ∈ xs.take i, x ≤ n) ∧ ws = xs.take i := by simpa [PutTo] using h
  have e : xs.take i = xs := List.take_of_length_le (by omega)
  rw [e] at h1 h2
  have := ins_app (b := []) h1
  rw [List.append_nil] at this
  rw [this, if_neg (by decide), h2]; rfl
theorem put_ws {xs ws : List Int} {n : Int} {i : Nat} {b : Bool} (h : PutTo xs n i b ws) (hi : i ≤ xs.length) : ws.length ≤ i + 1 := by
 cases b with
 | true =>
  have h1 : insL n xs = ws ++ xs.drop i := by simpa [PutTo] using h
  have h2 := congrArg List.length h1
  rw [ins_len, List.length_append, List.length_drop] at h2
  omega
 | false =>
  obtain ⟨h1, h2⟩ : (∀ x ∈ xs.take i, x ≤ n) ∧ ws = xs.take i := by simpa [PutTo] using h
  rw [h2, List.length_take]; omega
theorem rput_spec (v0 : Value) (xs : List Int) (n : Int) (hx : xs.length ≤ 2000000000) : Fn Tryz.prog 60 #[v0, vint n] [intR v0 xs] fun u L => (∃ a c, u = .slice a (putL xs n).length c) ∧ L = [intR u (putL xs n)] := by
 refine Fn.intro Tryz.func60 rfl rfl fun F W => ?_
 refine .slAny (v := v0) (by repeat' constructor) fun a0 c0 e hl => ?_
 subst e
 refine .sr (.an rfl (.sr (.an rfl (.sr (.an rfl (.seq (.sr (.an rfl (.block (.add (slR_nil 3 1) (.loopK (ι := Nat × Bool × Value × (List Int)) (fun q E => (7, vint q.1) :: (6, .bool q.2.1) :: (5, q.2.2.1) :: E) (fun q => [intR q.2.2.1 q.2.2.2]) (fun q => q.1 ≤ xs.length ∧ n ∉ xs.take q.1 ∧ PutTo xs n q.1 q.2.1 q.2.2.2 ∧ ∃ a c, q.2.2.1 = .slice a q.2.2.2.length c) (fun q => xs.length - q.1) (0, false, .slice none 0 0, []) (ts := [0, 1]) (.cons rfl (.cons rfl (.nil))) (⟨Nat.zero_le _, by simp, by simp [PutTo], none, 0, rfl⟩) ⟨rfl, rfl, rfl, rfl, rfl, trivial⟩ (by repeat' constructor) ?_)))))))))))
 rintro ⟨i, b, u, ws⟩ ⟨hi, hno, hT, au, cu, hu⟩
 dsimp only
 dsimp only at hi hno hT hu
 subst hu
 have hwl : ws.length ≤ i + 1 := put_ws hT hi
 refine .seq (.sm rfl (.m rfl (.q (.slen rfl Tryz.underlying32 rfl) rfl (.ui rfl rfl rfl (.nt (.condD rfl (fun h11 => ?_) (fun h11 => ?_)))))))
 ·have hi2 : i < xs.length := by omega
  refine .slShape (T := 3) (sz := 1) (v := .slice a0 xs.length c0) (xs := ints xs) (by repeat' constructor) (by omega) fun b0 c0' e0 mb0 _ => ?_
  simp only [Value.slice.injEq, true_and] at e0
  obtain ⟨rfl, rfl⟩ := e0
  refine .sk (.seq (.block (.seq (.sm rfl (.m rfl (.q (.indexAddr rfl rfl el_32 (by omega)) rfl (.q (.loadEl (p := intR (.slice (some ⟨b0, 0, none⟩) xs.length c0) xs) (i := i * 1) (v := vint xs[i]) rfl ag_3 (by repeat' constructor) (fun h hp => slR_rd hp) (by simp [hi2])) rfl (.m rfl (.ui rfl rfl rfl (.nt (.condD rfl (fun h19 => ?_) (fun h19 => ?_))))))))))))
  ·refine .sm rfl (.an rfl (.rt (.blk_r (.then_r (.then_r (.blk_r (.then_r ?_)))))))
   have hin : n ∈ xs := by rw [← h19]; exact List.getElem_mem hi2
   have hr : putL xs n = xs := by unfold putL; rw [if_pos hin]
   rw [hr]
   exact .dn rfl rfl ⟨⟨_, _, rfl⟩, rfl⟩
  have hno2 : n ∉ xs.take (i + 1) := by rw [List.take_succ_eq_append_getElem hi2, List.mem_append, List.mem_singleton]; rintro (g1 | g1); exact hno g1; exact h19 g1.symm
  refine .sk (.seq (.sm rfl (.m rfl (.q (.indexAddr rfl rfl el_32 (by omega)) rfl (.q (.loadEl (p := intR (.slice (some ⟨b0, 0, none⟩) xs.length c0) xs) (i := i * 1) (v := vint xs[i]) rfl ag_3 (by repeat' constructor) (fun h hp => slR_rd hp) (by simp [hi2])) rfl (.m rfl (.ui rfl rfl rfl (.m rfl (.dec (t := 27) rfl (fun h8_27 => ?_) (fun h8_27 => ?_))))))))))
  ·refine .kDT (t := 26) rfl h8_27 (.grun (t := 27) rfl rfl rfl (.m rfl (.grun (t := 27) rfl rfl rfl (.u (.not rfl) (.u (.pickT rfl rfl) (.nt (.condB rfl (fun h30 => ?_) (fun h30 => ?_))))))))
   ·obtain rfl : b = false := by simpa using h30
    refine .sm rfl (.m rfl (.oq (.buildSlice1 (vs := [_]) el_32 ze_3 rfl rfl rfl rfl rfl (by decide)) ?_))
    rintro v L' ⟨b9, rfl, rfl⟩
    refine .oq (.append1 rfl rfl rfl el_32 ze_3 rfl rfl ?c28 ?c29 (Nat.le_refl _) ?c30 (by decide)) ?_
    case c28 => (first | (simp [isCell]; done) | (simp [isCell, setAll, Value.cells]; done))
    case c29 => rfl
    case c30 => omega
    rintro v L' ⟨⟨a9, c9, rfl⟩, rfl⟩
    refine .an rfl (.region (.an rfl (.region (.m rfl (.m rfl (.m rfl (.q (.indexAddr rfl rfl el_32 (by omega)) rfl (.q (.loadEl (p := intR (.slice (some ⟨b0, 0, none⟩) xs.length c0) xs) (i := i * 1) (v := vint xs[i]) rfl ag_3 (by repeat' constructor) (fun h hp => slR_rd hp) (by simp [hi2])) rfl (.oq (.buildSlice1 (vs := [_]) el_32 ze_3 rfl rfl rfl rfl rfl (by decide)) ?_)))))))))
    rintro v L' ⟨b11, rfl, rfl⟩
    refine .oq (.append1 rfl rfl rfl el_32 ze_3 rfl rfl ?c40 ?c41 (Nat.le_refl _) ?c42 (by decide)) ?_
    case c40 => (first | (simp [isCell]; done) | (simp [isCell, setAll, Value.cells]; done))
    case c41 => rfl
    case c42 => omega
    rintro v L' ⟨⟨a11, c11, rfl⟩, rfl⟩
    refine .a rfl (.nil (.blk_n (.then_n (.region (.m rfl (.q (.add rfl rfl (by omega)) rfl (.an rfl (.slCast (T := 3) (sz := 1) (m' := ((ws ++ [n]) ++ [xs[i]]).length) (xs' := ints ((ws ++ [n]) ++ [xs[i]])) (by repeat' constructor) (by simp) (by simp [ints, Value.cells]) ?_))))))))
    exact .rk ((i + 1, true, .slice a11 (ws.length + 1 + 1) c11, (ws ++ [n]) ++ [xs[i]])) (⟨by dsimp only; omega, hno2, put_in hT hi2 h8_27, a11, c11, by dsimp only; simp⟩) (by dsimp only; omega) ⟨rfl, rfl, rfl, rfl, rfl, trivial⟩
   refine .sk (.region (.m rfl (.m rfl (.m rfl (.q (.indexAddr rfl rfl el_32 (by omega)) rfl (.q (.loadEl (p := intR (.slice (some ⟨b0, 0, none⟩) xs.length c0) xs) (i := i * 1) (v := vint xs[i]) rfl ag_3 (by repeat' constructor) (fun h hp => slR_rd hp) (by simp [hi2])) rfl (.oq (.buildSlice1 (vs := [_]) el_32 ze_3 rfl rfl rfl rfl rfl (by decide)) ?_)))))))
   rintro v L' ⟨b11, rfl, rfl⟩
   refine .oq (.append1 rfl rfl rfl el_32 ze_3 rfl rfl ?c54 ?c55 (Nat.le_refl _) ?c56 (by decide)) ?_
   case c54 => (first | (simp [isCell]; done) | (simp [isCell, setAll, Value.cells]; done))
   case c55 => rfl
   case c56 => omega
   rintro v L' ⟨⟨a11, c11, rfl⟩, rfl⟩
   refine .a rfl (.nil (.blk_n (.then_n (.region (.m rfl (.q (.add rfl rfl (by omega)) rfl (.an rfl (.slCast (T := 3) (sz := 1) (m' := (ws ++ [xs[i]]).length) (xs' := ints (ws ++ [xs[i]])) (by repeat' constructor) (by simp) (by simp [ints, Value.cells]) ?_))))))))
   exact .rk ((i + 1, b, .slice a11 (ws.length + 1) c11, ws ++ [xs[i]])) (⟨by dsimp only; omega, hno2, put_more hT hi2 (.inl (by simpa using h30)), a11, c11, by dsimp only; simp⟩) (by dsimp only; omega) ⟨rfl, rfl, rfl, rfl, rfl, trivial⟩
  refine .kDF (t := 26) rfl h8_27 (.gk (.gk (.u (.pickF rfl rfl) (.nt (.condF rfl (.sk (.region (.m rfl (.m rfl (.m rfl (.q (.indexAddr rfl rfl el_32 (by omega)) rfl (.q (.loadEl (p := intR (.slice (some ⟨b0, 0, none⟩) xs.length c0) xs) (i := i * 1) (v := vint xs[i]) rfl ag_3 (by repeat' constructor) (fun h hp => slR_rd hp) (by simp [hi2])) rfl (.oq (.buildSlice1 (vs := [_]) el_32 ze_3 rfl rfl rfl rfl rfl (by decide)) ?_)))))))))))))
  rintro v L' ⟨b11, rfl, rfl⟩
  refine .oq (.append1 rfl rfl rfl el_32 ze_3 rfl rfl ?c69 ?c70 (Nat.le_refl _) ?c71 (by decide)) ?_
  case c69 => (first | (simp [isCell]; done) | (simp [isCell, setAll, Value.cells]; done))
  case c70 => rfl
  case c71 => omega
  rintro v L' ⟨⟨a11, c11, rfl⟩, rfl⟩
  refine .a rfl (.nil (.blk_n (.then_n (.region (.m rfl (.q (.add rfl rfl (by omega)) rfl (.an rfl (.slCast (T := 3) (sz := 1) (m' := (ws ++ [xs[i]]).length) (xs' := ints (ws ++ [xs[i]])) (by repeat' constructor) (by simp) (by simp [ints, Value.cells]) ?_))))))))
  exact .rk ((i + 1, b, .slice a11 (ws.length + 1) c11, ws ++ [xs[i]])) (⟨by dsimp only; omega, hno2, put_more hT hi2 (.inr h8_27), a11, c11, by dsimp only; simp⟩) (by dsimp only; omega) ⟨rfl, rfl, rfl, rfl, rfl, trivial⟩
 refine .exit (.then_e (.then_e (.blk_e (.then_n (.seq (.sm rfl (.u (.not rfl) (.nt (.condB rfl (fun h43 => ?_) (fun h43 => ?_))))))))))
 ·refine .region (.m rfl (.m rfl (.oq (.buildSlice1 (vs := [_]) el_32 ze_3 rfl rfl rfl rfl rfl (by decide)) ?_)))
  rintro v L' ⟨b13, rfl, rfl⟩
  refine .oq (.append1 rfl rfl rfl el_32 ze_3 rfl rfl ?c82 ?c83 (Nat.le_refl _) ?c84 (by decide)) ?_
  case c82 => (first | (simp [isCell]; done) | (simp [isCell, setAll, Value.cells]; done))
  case c83 => rfl
  case c84 => omega
  rintro v L' ⟨⟨a13, c13, rfl⟩, rfl⟩
  refine .an rfl (.sm rfl (.an rfl (.ret ?_)))
  have hie : i = xs.length := by omega
  have hr : putL xs n = insL n xs := by unfold putL; rw [if_neg (by rw [hie, List.take_length] at hno; exact hno)]
  have hb : b = false := by simpa using h43
  have hq : insL n xs = ws ++ [n] := by rw [put_out hT (by omega), if_neg (by rw [hb]; decide)]
  rw [hr, hq]
  refine .slCast (T := 3) (sz := 1) (m' := (ws ++ [n]).length) (xs' := ints (ws ++ [n])) (by repeat' constructor) (by simp) (by simp [ints, Value.cells]) ?_
  exact .dn rfl rfl ⟨⟨a13, c13, by simp⟩, rfl⟩
 refine .sk (.sm rfl (.an rfl (.ret ?_)))
 have hie : i = xs.length := by omega
 have hr : putL xs n = insL n xs := by unfold putL; rw [if_neg (by rw [hie, List.take_length] at hno; exact hno)]
 have hb : b = true := by simpa using h43
 have hq : insL n xs = ws := by rw [put_out hT (by omega), if_pos hb]
 rw [hr, hq]
 exact .dn rfl rfl ⟨⟨_, _, rfl⟩, rfl⟩
theorem rtick_spec (f y w : Nat) (Φ : Fw) (δ : Dk) (ω : Wl) (Λ : Lg) (v1 : Value) (l : List Int) (p : HP) (K : Nat) (hF : FwI Φ K) (hup : Φ.heard.Pairwise (· < ·)) (hK : K + l.length ≤ 900000000) (hl : ∀ h : Hp, p h → rdS 1 h v1 l.length (ints l)) : Fn Tryz.prog 20 #[vptr f, v1] [frR f y Φ, rgR y w Λ, p] fun v L => ∃ a c, v = .slice a (onN (tickF Φ ⟨δ, ω, Λ⟩ l).2) c ∧ L = [frR f y (tickF Φ ⟨δ, ω, Λ⟩ l).1, rgR y w Λ, outR v Φ.ld (tickF Φ ⟨δ, ω, Λ⟩ l).2, p] := by
 refine Fn.intro Tryz.func20 rfl rfl fun F W => ?_
 have hsil := hF.sil
 have hheard := hF.heard
 have hcp : hearL Φ.heard l = Lib.compact (sortI (Φ.heard ++ l)) := hear_comp hup l
 refine .rdBoth (p := p) hl (by repeat' constructor) fun a1 c1 hv1 hA1 => ?_
 subst hv1
 refine .frOpen (f := f) (by repeat' constructor) fun ha hc => (.sr (.an rfl (.seq (.sm rfl (.nf rfl fo_109_2 (.u (.ld rfl ag_3) (.ui rfl rfl rfl (.nt (.condD rfl (fun h10 => ?_) (fun h10 => ?_))))))))))
 ·refine .sr (.an rfl (.rt ?_))
  have hr : tickF Φ ⟨δ, ω, Λ⟩ l = (Φ, none) := by unfold tickF; rw [if_pos h10]
  rw [hr]
  refine .frFold (f := f) (y := y) (ha := ha) (hc := hc) (m := Φ.heard.length) Φ (by repeat' constructor) (by exact rfl) (by exact rfl) (by exact rfl) (.outNone Φ.ld ?_)
  exact .dn rfl rfl ⟨_, _, rfl, rfl⟩
 refine .sk (.sm rfl (.nf rfl fo_109_5 (.u (.ld rfl ag_3) (.q (.add rfl rfl (by rcases hsil with h | h; exact absurd h h10; omega)) rfl (.nf rfl fo_109_5 (.st rfl rfl rfl sz_3 ?_))))))
 refine .nt (.seq (.sm rfl (.nf rfl fo_109_5 (.u (.ld rfl ag_3) (.ui rfl rfl rfl (.nt (.condD rfl (fun h22 => ?_) (fun h22 => ?_))))))))
 ·refine .seq (.frFold (f := f) (y := y) (ha := ha) (hc := hc) (m := Φ.heard.length) (Φ.hush (Φ.sil + 1)) (by repeat' constructor) (by exact rfl) (by exact rfl) (by exact rfl) (.region (.m rfl (.cv Tryz.func59 [_] (rlose_spec f y ((Φ.hush (Φ.sil + 1)))) ?_))))
  refine .an rfl (.rt ?_)
  have hr : tickF Φ ⟨δ, ω, Λ⟩ l = ((Φ.hush (Φ.sil + 1)).lose, none) := by unfold tickF; rw [if_neg h10, if_pos h22, h22]
  rw [hr]
  refine .outNone Φ.ld ?_
  exact .dn rfl rfl ⟨_, _, rfl, rfl⟩
 refine .sk (.seq (.sr (.an rfl (.block (.loopK (ι := Nat × (Option Addr) × Nat) (fun q E => (5, vint q.1) :: E) (fun q => [ptc f [vint Φ.ld, vptr y, vint Φ.ph, vint Φ.ep, vint Φ.com, vint (Φ.sil + 1), .slice q.2.1 (hearL Φ.heard (l.take q.1)).length q.2.2] 109, intR (.slice q.2.1 (hearL Φ.heard (l.take q.1)).length q.2.2) (hearL Φ.heard (l.take q.1))]) (fun q => q.1 ≤ l.length) (fun q => l.length - q.1) (0, ha, hc) (ts := [0, 1, 4]) (.cons rfl (.cons rfl (.cons rfl (.nil)))) (Nat.zero_le _) ⟨rfl, rfl, rfl, rfl, trivial⟩ (by repeat' constructor) ?_)))))
 rintro ⟨i, ha, hc⟩ hi
 dsimp only
 dsimp only at hi
 have hhl : (hearL Φ.heard (l.take i)).length ≤ K + 1000000000 := by have := (hear_all (l.take i) Φ.heard hup).2.1; rw [List.length_take] at this; omega
 refine .seq (.sm rfl (.m rfl (.q (.slen rfl Tryz.underlying32 rfl) rfl (.ui rfl rfl rfl (.nt (.condD rfl (fun h28 => ?_) (fun h28 => ?_)))))))
 ·have hi2 : i < l.length := by omega
  obtain ⟨b1, o1, rfl⟩ := hA1 (by omega)
  refine .sk (.seq (.block (.draw [9, 12] [[0, 1, 2, 3, 4, 5, 6, 7, 8, 9], [10, 11, 12]] mixed (by kernel_rfl) (.go [p] (by repeat' constructor) (.k rfl (.move rfl) (.mv rfl rfl (.nf rfl rfl rfl fo_109_6 (.kv rfl (.ld rfl ag_32) (.mv rfl rfl (.mv rfl rfl (.kv rfl (.indexAddr rfl rfl el_32 (by omega)) (.kv rfl (.loadEl (p := p) (i := i * 1) (v := vint l[i]) rfl ag_3 (by repeat' constructor) hl (by simp [hi2])) (.hh rfl (.c Tryz.func60 [_, _] (rput_spec (.slice ha (hearL Φ.heard (l.take i)).length hc) (hearL Φ.heard (l.take i)) l[i] (by omega))) ?_)))))))))))))
  rintro v L' ⟨⟨a9, c9, rfl⟩, rfl⟩
  refine D.ph (.g0 (.nf rfl rfl rfl fo_109_6 (.hh rfl (.store rfl rfl rfl sz_32 ?c44 (nfz0 _ _)) ?_)))
  case c44 => first | decide | (simp; omega) | simp
  rintro v L' rfl
  refine D.ph (.fin (.blk_n (.then_n (.region (.m rfl (.q (.add rfl rfl (by omega)) rfl (.an rfl ?_)))))))
  rw [← hear_step Φ.heard l hi2]
  exact .rk ((i + 1, a9, c9)) (by dsimp only; omega) (by dsimp only; omega) ⟨rfl, rfl, rfl, rfl, trivial⟩
 have hie : i = l.length := by omega
 rw [hie, List.take_length]
 refine .exit (.then_e (.then_e (.blk_e (.then_n (.seq (.sm rfl (.nf rfl fo_109_2 (.u (.ld rfl ag_3) (.ui rfl rfl rfl (.m rfl (.dec (t := 48) rfl (fun h10_48 => ?_) (fun h10_48 => ?_))))))))))))
 ·refine .kDT (t := 47) rfl h10_48 (.grun (t := 48) rfl rfl rfl (.m rfl (.grun (t := 48) rfl rfl rfl (.u (.nilp rfl) (.grun (t := 48) rfl rfl rfl (.u (.fieldAddr rfl fo_109_5) (.grun (t := 48) rfl rfl rfl (.u (.ld rfl ag_3) (.grun (t := 48) rfl rfl rfl (.q (.remE rfl rfl (by rcases hsil with h | h; exact absurd h h10; omega) (by rcases hsil with h | h; exact absurd h h10; omega)) rfl (.grun (t := 48) rfl rfl rfl (.ui rfl rfl rfl (.u (.pickT rfl rfl) (.nt (.condD rfl (fun h55 => ?_) (fun h55 => ?_))))))))))))))))
  ·refine .seq (.frFold (f := f) (y := y) (ha := ha) (hc := hc) (m := _) ((Φ.hush (Φ.sil + 1)).hear (hearL Φ.heard l)) (by repeat' constructor) (by exact rfl) (by exact rfl) (by exact rfl) (.region (.m rfl (.oq (.c Tryz.func61 [_] (rinfo_spec f y w ((Φ.hush (Φ.sil + 1)).hear (hearL Φ.heard l)) Λ)) ?_))))
   rintro v L' ⟨av, cv, rfl, rfl⟩
   refine .an rfl (.rt ?_)
   have hr : tickF Φ ⟨δ, ω, Λ⟩ l = (((Φ.hush (Φ.sil + 1)).hear (hearL Φ.heard l)), some ⟨1, Λ.acc, 0, 0, []⟩) := by unfold tickF; rw [if_neg h10, if_neg h22, ← hcp, if_pos ⟨h10_48, h55⟩]
   rw [hr]
   exact .dn rfl rfl ⟨_, _, rfl, rfl⟩
  refine .sk (.sr (.an rfl (.ret ?_)))
  have hr : tickF Φ ⟨δ, ω, Λ⟩ l = (((Φ.hush (Φ.sil + 1)).hear (hearL Φ.heard l)), none) := by unfold tickF; rw [if_neg h10, if_neg h22, ← hcp, if_neg (fun g1 => by first | exact h10_48 g1.1 | exact h55 g1.2)]
  rw [hr]
  refine .frFold (f := f) (y := y) (ha := ha) (hc := hc) (m := _) ((Φ.hush (Φ.sil + 1)).hear (hearL Φ.heard l)) (by repeat' constructor) (by exact rfl) (by exact rfl) (by exact rfl) (.outNone Φ.ld ?_)
  exact .dn rfl rfl ⟨_, _, rfl, rfl⟩
 refine .kDF (t := 47) rfl h10_48 (.gk (.gk (.gk (.gk (.gk (.gk (.u (.pickF rfl rfl) (.nt (.condF rfl (.sk (.sr (.an rfl (.ret ?_)))))))))))))
 have hr : tickF Φ ⟨δ, ω, Λ⟩ l = (((Φ.hush (Φ.sil + 1)).hear (hearL Φ.heard l)), none) := by unfold tickF; rw [if_neg h10, if_neg h22, ← hcp, if_neg (fun g1 => by first | exact h10_48 g1.1 | exact h55 g1.2)]
 rw [hr]
 refine .frFold (f := f) (y := y) (ha := ha) (hc := hc) (m := _) ((Φ.hush (Φ.sil + 1)).hear (hearL Φ.heard l)) (by repeat' constructor) (by exact rfl) (by exact rfl) (by exact rfl) (.outNone Φ.ld ?_)
 exact .dn rfl rfl ⟨_, _, rfl, rfl⟩
theorem G.doneT5 {P : Program} {fn : Func} {post : Value → List HP → Prop} {F : List HP} {W : World} {n : Nat} {E : Env} {L L' R : List HP} {v0 v1 v2 v3 v4 : Value} {t0 t1 t2 t3 t4 : Nat}
  (hl : fn.results = #[.tmp t0, .tmp t1, .tmp t2, .tmp t3, .tmp t4]) (h0 : look E t0 = some v0) (h1 : look E t1 = some v1) (h2 : look E t2 = some v2) (h3 : look E t3 = some v3) (h4 : look E t4 = some v4) (hp : post (.tuple #[v0, v1, v2, v3, v4]) L') (hL : Picks L' L R) (hF : Suff F R) : G W n [] E L (FnQ P fn post F W .ret) := by
 intro a w he hk hs
 have hg : ∀ t u, look E t = some u → a.tmps.getD t undef = u := fun t u hu => by simp [he.slots t u hu]
 have hr : (results fn a.tmps).run P w = .ok (.tuple #[v0, v1, v2, v3, v4]) w := by
  simp [results, hl, ← hg _ _ h0, ← hg _ _ h1, ← hg _ _ h2, ← hg _ _ h3, ← hg _ _ h4]
 exact ⟨he.defers, _, hr, _, L', hp, rfl, hF.st (hs.picks hL), hk⟩
structure St18 where
 what : Int
 n : Int
 hv : Value
 heard : List Int
 m : Ms
def st18C (o : St18) : List Value := [vint o.what, vint o.n, o.hv] ++ msC o.m
structure St18A (p : HP) (o : St18) : Prop where
 what : I64 o.what
 n : I64 o.n
 hd : ∀ h : Hp, p h → rdS 1 h o.hv o.heard.length (ints o.heard)
 hds : ∀ z ∈ o.heard, I64 z
 len : o.heard.length ≤ 1048576
 m : MsA p o.m
 hc : isCell o.hv = true
structure Sts18 (p : HP) (v : Value) (xs : List St18) : Prop where
 cells : ∀ h : Hp, p h → rdS 22 h v xs.length (xs.flatMap st18C)
 len : xs.length ≤ 1048576
 each : ∀ o ∈ xs, St18A p o
theorem st18_cells {p : HP} {o : St18} (h : St18A p o) : ∀ v ∈ st18C o, isCell v = true := by
 intro v hv
 unfold st18C at hv
 rcases List.mem_append.1 hv with hv | hv
 ·simp at hv
  rcases hv with rfl | rfl | rfl
  ·rfl
  ·rfl
  ·exact h.hc
 ·exact h.m.cells v hv
theorem st18_at {xs : List St18} {i : Nat} (h : i < xs.length) : ((xs.flatMap st18C).drop (i * 22)).take 22 = st18C xs[i] := flatMap_at (f := st18C) (sz := 22) (fun _ _ => rfl) h
/-! ### The first example -/
def ms0 (k e : Int) : Ms := ⟨k, e, 0, 0, 0, nilV, [], nilV, [], vint 0, vint 0, vstr [], vstr [], nilV, vint 0, vint 0, .bool false, nilV, nilV, nilV⟩
theorem ms0_A {k e : Int} (hk : I64 k) (he : I64 e) : MsA anyP (ms0 k e) :=
 ⟨hk, he, by show I64 0; decide, by show I64 0; decide, by intro v hv; simp only [msC, ms0, List.mem_cons, List.not_mem_nil, or_false] at hv; rcases hv with h | h | h | h | h | h | h | h | h | h | h | h | h | h | h | h | h | h | h <;> subst h <;> rfl, Nat.zero_le _, fun h _ => .inl ⟨rfl, rfl, _, _, rfl⟩, Nat.zero_le _, fun e he => by cases he⟩
def fa0 : Ld := ⟨(lgFormat (Dk.new 512)).1, (lgF2 (Dk.new 512)).2.1, lg0⟩
def ff0 (ld : Int) : Fw := ⟨ld, 0, 0, 0, 0, []⟩
def fr1 : Fz := hearF (ff0 2) fa0 (ms0 2 3)
def fr2 : Fz := hearF fr1.1 fr1.2.1 (ms0 4 3)
def fr3 : Fz := hearF fr2.1 fr2.2.1 (ms0 6 0)
theorem fr_ok : (fr1.2.2.map (·.kind), fr2.2.2.map (·.kind), fr3.1.ph) = (some 3, some 5, 3) := by kernel_rfl
theorem fr_one : (∃ m, fr1.2.2 = some m ∧ m.kind = 3) ∧ (∃ m, fr2.2.2 = some m ∧ m.kind = 5) ∧ fr3.1.ph = 3 := by
 have h := fr_ok
 simp only [Prod.mk.injEq, Option.map_eq_some_iff] at h
 obtain ⟨⟨a, h1, h2⟩, ⟨b, h3, h4⟩, h5⟩ := h
 exact ⟨⟨a, h1, h2⟩, ⟨b, h3, h4⟩, h5⟩
theorem new_len (n : Int) : (Dk.new n).now.length = n.toNat := by simp [Dk.new]
theorem fa0_K (ld : Int) : (∃ ω, (lgFormat (Dk.new 512)).2 = some ω) ∧ FwK (ff0 ld) fa0 6000000 0 := by
 obtain ⟨ω, h1, -⟩ := format_lwell (n := 512) (by decide)
 have hnl : (Dk.new 512).now.length = 512 := new_len 512
 obtain ⟨-, -, h3, -⟩ := format_k (δ := Dk.new 512) (by rw [hnl]; decide) (N := 0) (Int.le_refl 0)
 have h4 := h3 ω h1
 rw [lgFormat_some h1] at h4
 exact ⟨⟨ω, h1⟩, ⟨LPs.more (show LPs fa0 (0 + 5000000) from h4) (by decide), ⟨.inr (show (0 : Int) ≤ 0 ∧ (0 : Int) ≤ 7 by decide), Nat.zero_le _⟩, fun h => by rcases h with h | h <;> exact absurd (show (0 : Int) = _ from h) (by decide), fun h => absurd (show (0 : Int) = _ from h) (by decide), fun _ _ => rfl⟩⟩
theorem fr_K : FwK fr1.1 fr1.2.1 (6000000 + 3000000000000) 0 ∧ FwK fr2.1 fr2.2.1 (6000000 + 3000000000000 + 3000000000000) 0 := by
 have h1 := (hear_P (fa0_K 2).2 (ms0_A (k := 2) (e := 3) (by decide) (by decide))).1.k
 exact ⟨h1, (hear_P h1 (ms0_A (k := 4) (e := 3) (by decide) (by decide))).1.k⟩
theorem pick18_spec  (c n : Int) (hc : -9223372036854775808 ≤ c ∧ c ≤ 9223372036854775807) (hn : 0 < n) : Fn Tryz.prog 11 #[vint c, vint n] [] fun v L => v = vint (pickZ c n) ∧ L = [] := by
 refine Fn.intro Tryz.func11 rfl rfl fun F W => ?_
 refine .sr (.an rfl (.seq (.sm rfl (.ui rfl rfl rfl (.nt (.condD rfl (fun h6 => ?_) (fun h6 => ?_)))))))
 ·refine .region (.m rfl (.q (.add rfl rfl (by omega)) rfl (.q (.neg rfl (by omega)) rfl (.an rfl (.sm rfl (.m rfl (.q (.remE rfl rfl (by omega) (by omega)) rfl (.an rfl (.ret ?_)))))))))
  have e : pickZ c n = (-(c + 1)) % n := by unfold pickZ; rw [if_pos h6]
  rw [e]
  exact .vv
 refine .sk (.sm rfl (.m rfl (.q (.remE rfl rfl (by omega) (by omega)) rfl (.an rfl (.ret ?_)))))
 have e : pickZ c n = (c) % n := by unfold pickZ; rw [if_neg h6]
 rw [e]
 exact .vv
theorem ledgers_spec : Fn Tryz.prog 7 #[] [] fun v L => ∃ d g x xr y w, v = .tuple #[vptr d, vptr g, vptr xr, vptr y, .bool true] ∧ L = [lgR g x lg0, wlR x d fa0.ω, dkR d fa0.δ, rgR y w lg0, rlR w xr fa0.ω, dsR xr fa0.δ] := by
 refine Fn.intro Tryz.func7 rfl rfl fun F W => ?_
 have hnl : (Dk.new 512).now.length = 512 := new_len 512
 have hs : 2 ≤ (Dk.new 512).now.length ∧ (Dk.new 512).now.length ≤ 32768 := by rw [hnl]; decide
 have hac : (Dk.new 512).acts = 0 := rfl
 have hrn : Rel (Dk.new 512) (Rk.new 512) := Rel.new 512 (by decide)
 obtain ⟨ωf, hf0⟩ := (fa0_K 0).1
 obtain ⟨hf1, ⟨hf2a, hf2b⟩, hf3, hf4, hf5⟩ := format_k (N := 0) hs (by omega)
 have hw0 := newW_k (N := 0) hs (by omega)
 have hfo := hf0
 obtain rfl := lgFormat_some hf0
 refine .sr (.a rfl (.a rfl (.a rfl (.a rfl (.an rfl (.sr (.oq (.c Tryz.func46 [_] (new_spec 512)) ?_)))))))
 rintro v L' (⟨h, -, -⟩ | ⟨-, d, rfl, rfl⟩); · omega
 refine .m rfl (.u (.extract rfl rfl) (.u (.extract rfl rfl) (.a rfl (.an rfl (.sr (.oq (.c Tryz.func47 [_] (rnew_spec 512)) ?_))))))
 rintro v L' (⟨h, -, -⟩ | ⟨-, xr, rfl, rfl⟩); · omega
 refine .m rfl (.u (.extract rfl rfl) (.u (.extract rfl rfl) (.a rfl (.a rfl (.nil (.dsFold (x := xr) (δ := (Dk.new 512)) (by repeat' constructor) hrn (by show (0 : Int) ≤ 0; decide) (.then_n (.seq (.sm rfl (.q (.as (v' := .bool false) (by rfl) (.ptreq rfl rfl Tryz.underlying24)) rfl (.m rfl (.grun (t := 21) rfl rfl rfl (.m rfl (.grun (t := 21) rfl rfl rfl (.q (.as (v' := .bool false) (by rfl) (.int rfl rfl rfl)) rfl (.u (.pickF rfl rfl) (.m rfl (.grun (t := 25) rfl rfl rfl (.m rfl (.grun (t := 25) rfl rfl rfl (.q (.as (v' := .bool false) (by rfl) (.int rfl rfl rfl)) rfl (.u (.pickF rfl rfl) (.nt (.condF rfl (.sk (.sm rfl (.oq (.c Tryz.func48 [_] (lformat_spec d (Dk.new 512) (by decide) (hw0.i (by decide)) (hf1.i (by decide)))) ?_)))))))))))))))))))))))))))
 rintro v L' (⟨h, -, -⟩ | ⟨ω1, g, x, hw1, rfl, rfl⟩); · rw [hfo] at h; cases h
 rw [hfo] at hw1; cases hw1
 refine .m rfl (.u (.extract rfl rfl) (.u (.extract rfl rfl) (.a rfl (.an rfl (.sm rfl (.oq (.c Tryz.func49 [_] (r9format_spec xr (Dk.new 512) (by decide) (hw0.i (by decide)) (hf1.i (by decide)) (by rw [hf2a, hf2b]; decide))) ?_))))))
 rintro v L' (⟨h, -, -⟩ | ⟨ω1, y, w, hw1, rfl, rfl⟩); · rw [hfo] at h; cases h
 rw [hfo] at hw1; cases hw1
 refine .m rfl (.u (.extract rfl rfl) (.u (.extract rfl rfl) (.a rfl (.an rfl (.sm rfl (.m rfl (.m rfl (.m rfl (.m rfl (.q (.as (v' := .bool true) (by rfl) (.ptrne rfl rfl Tryz.underlying25)) rfl (.m rfl (.grun (t := 45) rfl rfl rfl (.m rfl (.grun (t := 45) rfl rfl rfl (.q (.as (v' := .bool true) (by rfl) (.int rfl rfl rfl)) rfl (.u (.pickT rfl rfl) (.m rfl (.grun (t := 49) rfl rfl rfl (.m rfl (.grun (t := 49) rfl rfl rfl (.q (.as (v' := .bool true) (by rfl) (.int rfl rfl rfl)) rfl (.u (.pickT rfl rfl) (.a rfl (.a rfl (.a rfl (.a rfl (.an rfl (.ret ?_))))))))))))))))))))))))))))
 exact .doneT5 rfl rfl rfl rfl rfl rfl ⟨d, g, x, xr, y, w, rfl, rfl⟩ (by repeat' constructor) (by repeat' constructor)
theorem awake18_spec : Fn Tryz.prog 6 #[] [] fun v L => v = .bool true ∧ L = [] := by
 refine Fn.intro Tryz.func6 rfl rfl fun F W => ?_
 obtain ⟨hk1, hk2⟩ := fr_K
 have hk0 := (fa0_K 2).2
 obtain ⟨⟨m1, hm1, hq1⟩, ⟨m2, hm2, hq2⟩, hq3⟩ := fr_one
 have hl2 : fr1.1.ld = 2 := by kernel_rfl
 refine .add (p := anyP) (fun _ => trivial) (.sr (.an rfl (.sr (.oq (.c Tryz.func7 [] (ledgers_spec)) ?_))))
 rintro v L' ⟨d, g, x, xr, y, w, rfl, rfl⟩; rw [show (lg0 : Lg) = fa0.Λ from rfl]
 refine .m rfl (.u (.extract rfl rfl) (.u (.extract rfl rfl) (.u (.extract rfl rfl) (.u (.extract rfl rfl) (.u (.extract rfl rfl) (.a rfl (.a rfl (.a rfl (.a rfl (.an rfl (.seq (.sm rfl (.q (.as (v' := .bool false) (by rfl) (.not rfl)) rfl (.nt (.condF rfl (.sk (.sm rfl (.oq (.c Tryz.func8 [_, _] (fnew_spec 2 g)) ?_))))))))))))))))))
 rintro v L' ⟨f, rfl, rfl⟩; rw [show (⟨2, 0, 0, 0, 0, []⟩ : Fw) = ff0 2 from rfl]
 refine .an rfl (.seq (.sm rfl (.q (.as (v' := .bool false) (by rfl) (.ptreq rfl rfl Tryz.underlying30)) rfl (.nt (.condF rfl (.sk (.sm rfl (.q (.to (v' := .agg (msC (ms0 2 3)).toArray) (.buildN (pl := [(0, 1), (1, 1), (2, 1), (3, 1), (4, 1), (5, 1), (6, 1), (7, 1), (8, 10), (18, 1)]) (us := [(0, _), (1, _)]) (cells := msC (ms0 2 3)) Tryz.underlying41 (by kernel_rfl) ze_41 rfl rfl) rfl) rfl (.oq (.call Tryz.func13 rfl rfl (vs := [_, _]) rfl (fhear_spec f g x d (ff0 2) fa0.δ fa0.ω fa0.Λ (ms0 2 3) anyP _ (ms0_A (by decide) (by decide)) hk0.l (by decide))) ?_)))))))))
 rintro v L' ⟨a1, c1, rfl, rfl⟩; rw [show hearF (ff0 2) ⟨fa0.δ, fa0.ω, fa0.Λ⟩ (ms0 2 3) = fr1 from rfl]
 refine .a rfl (.nil ?_)
 rw [hm1, show onN (some m1) = 1 from rfl, show (ff0 2).ld = 2 from rfl]
 refine .then_n (.sm rfl (.q (.to (v' := .agg (msC (ms0 4 3)).toArray) (.buildN (pl := [(0, 1), (1, 1), (2, 1), (3, 1), (4, 1), (5, 1), (6, 1), (7, 1), (8, 10), (18, 1)]) (us := [(0, _), (1, _)]) (cells := msC (ms0 4 3)) Tryz.underlying41 (by kernel_rfl) ze_41 rfl rfl) rfl) rfl (.oq (.call Tryz.func13 rfl rfl (vs := [_, _]) rfl (fhear_spec f g x d fr1.1 fr1.2.1.δ fr1.2.1.ω fr1.2.1.Λ (ms0 4 3) anyP _ (ms0_A (by decide) (by decide)) hk1.l (by decide))) ?_)))
 rintro v L' ⟨a2, c2, rfl, rfl⟩; rw [show hearF fr1.1 ⟨fr1.2.1.δ, fr1.2.1.ω, fr1.2.1.Λ⟩ (ms0 4 3) = fr2 from rfl]
 refine .a rfl (.nil ?_)
 rw [hm2, show onN (some m2) = 1 from rfl]
 refine .then_n (.sm rfl (.q (.to (v' := .agg (msC (ms0 6 0)).toArray) (.buildN (pl := [(0, 1), (1, 1), (2, 1), (3, 1), (4, 1), (5, 1), (6, 1), (7, 1), (8, 10), (18, 1)]) (us := [(0, _)]) (cells := msC (ms0 6 0)) Tryz.underlying41 (by kernel_rfl) ze_41 rfl rfl) rfl) rfl (.oq (.call Tryz.func13 rfl rfl (vs := [_, _]) rfl (fhear_spec f g x d fr2.1 fr2.2.1.δ fr2.2.1.ω fr2.2.1.Λ (ms0 6 0) anyP _ (ms0_A (by decide) (by decide)) hk2.l (by decide))) ?_)))
 rintro v L' ⟨a3, c3, rfl, rfl⟩; rw [show hearF fr2.1 ⟨fr2.2.1.δ, fr2.2.1.ω, fr2.2.1.Λ⟩ (ms0 6 0) = fr3 from rfl]
 refine .nt (.seq (.outOpen (v := .slice a1 1 c1) (ld := 2) (m := m1) (by repeat' constructor) fun mv1 => (.slShape (T := 94) (sz := 20) (v := .slice a1 1 c1) (by repeat' constructor) (by decide) fun b1 c1' e0 mb1 _ => ?_)))
 simp only [Value.slice.injEq, true_and] at e0
 obtain ⟨rfl, rfl⟩ := e0
 refine .outOpen (v := .slice a2 1 c2) (ld := fr1.1.ld) (m := m2) (by repeat' constructor) fun mv2 => (.slShape (T := 94) (sz := 20) (v := .slice a2 1 c2) (by repeat' constructor) (by decide) fun b2 c2' e0 mb2 _ => ?_)
 simp only [Value.slice.injEq, true_and] at e0
 obtain ⟨rfl, rfl⟩ := e0
 refine .region (.m rfl (.q (.slen rfl Tryz.underlying45 rfl) rfl (.q (.as (v' := .bool true) (by rfl) (.int rfl rfl rfl)) rfl (.m rfl (.grun (t := 34) rfl rfl rfl (.m rfl (.grun (t := 34) rfl rfl rfl (.q (.indexAddr rfl rfl el_45 (by omega)) rfl (.grun (t := 34) rfl rfl rfl (.u (.fieldAddr rfl fo_94_1) (.grun (t := 34) rfl rfl rfl (.u (.fieldAddr rfl fo_41_0) (.grun (t := 34) rfl rfl rfl (.q (.loadRd (sz := 20) (j := 0 * 20 + 1) (p := outT (.slice (some ⟨b1, 0, none⟩) 1 c1) 2 m1 mv1) (v := vint m1.kind) rfl ag_3 (by repeat' constructor) (fun h hp => slR_rd hp) (by omega) rfl) rfl (.grun (t := 34) rfl rfl rfl (.q (.as (v' := .bool true) (by exact congrArg Value.bool (decide_eq_true hq1)) (.int rfl rfl rfl)) rfl (.u (.pickT rfl rfl) (.m rfl (.grun (t := 42) rfl rfl rfl (.m rfl (.grun (t := 42) rfl rfl rfl (.q (.indexAddr rfl rfl el_45 (by omega)) rfl (.grun (t := 42) rfl rfl rfl (.u (.fieldAddr rfl fo_94_0) (.grun (t := 42) rfl rfl rfl ?_)))))))))))))))))))))))))
 refine .q (.loadRd (sz := 20) (j := 0) (p := outT (.slice (some ⟨b1, 0, none⟩) 1 c1) 2 m1 mv1) (v := vint 2) rfl ag_3 (by repeat' constructor) (fun h hp => slR_rd hp) (by omega) rfl) rfl (.grun (t := 42) rfl rfl rfl (.q (.as (v' := .bool true) (by rfl) (.int rfl rfl rfl)) rfl (.u (.pickT rfl rfl) (.m rfl (.grun (t := 49) rfl rfl rfl (.m rfl (.grun (t := 49) rfl rfl rfl (.q (.slen rfl Tryz.underlying45 rfl) rfl (.grun (t := 49) rfl rfl rfl (.q (.as (v' := .bool true) (by rfl) (.int rfl rfl rfl)) rfl (.u (.pickT rfl rfl) (.m rfl (.grun (t := 54) rfl rfl rfl (.m rfl (.grun (t := 54) rfl rfl rfl (.q (.indexAddr rfl rfl el_45 (by omega)) rfl (.grun (t := 54) rfl rfl rfl (.u (.fieldAddr rfl fo_94_1) (.grun (t := 54) rfl rfl rfl (.u (.fieldAddr rfl fo_41_0) (.grun (t := 54) rfl rfl rfl (.q (.loadRd (sz := 20) (j := 0 * 20 + 1) (p := outT (.slice (some ⟨b2, 0, none⟩) 1 c2) fr1.1.ld m2 mv2) (v := vint m2.kind) rfl ag_3 (by repeat' constructor) (fun h hp => slR_rd hp) (by omega) rfl) rfl ?_))))))))))))))))))))))
 refine .grun (t := 54) rfl rfl rfl (.q (.as (v' := .bool true) (by exact congrArg Value.bool (decide_eq_true hq2)) (.int rfl rfl rfl)) rfl (.u (.pickT rfl rfl) (.m rfl (.grun (t := 62) rfl rfl rfl (.m rfl (.grun (t := 62) rfl rfl rfl (.oq (.c Tryz.func15 [_] (fup_spec f g fr3.1)) ?_)))))))
 rintro v L' ⟨rfl, rfl⟩; rw [decide_eq_true hq3]
 refine .u (.pickT rfl rfl) (.an rfl (.ret ?_))
 exact .vv
theorem rk_arm_N9 (ρ : Rk) (n : Int) (h : 0 ≤ ρ.N) : 0 ≤ (ρ.arm n).1.N := by
 unfold Rk.arm
 repeat' split
 all_goals exact h
theorem dsarm_spec (x : Nat) (δ : Dk) (n : Int) (hA : δ.acts < 4611686018427387904) (hn : n ≤ 9223372036854775807) : Fn Tryz.prog 24 #[vptr x, vint n] [dsR x δ] fun v L => v = vint (δ.arm n).2 ∧ L = [dsR x (δ.arm n).1] :=
 Fn.dsUp fun ρ hr hN => (rarm_spec x ρ n ⟨hN, by rw [← hr.acts]; exact hA⟩ hn).mono fun v L ⟨h1, h2⟩ => by
  obtain ⟨q1, q2⟩ := hr.arms n hn
  exact ⟨_, ⟨q2, rk_arm_N9 ρ n hN⟩, by rw [h1, q1], h2⟩
theorem arm_k (δ : Dk) (n : Int) : (δ.arm n).1.now.length = δ.now.length ∧ (δ.arm n).1.acts = δ.acts := by
 unfold Dk.arm
 repeat' split
 all_goals exact ⟨rfl, rfl⟩
structure MoI (m : Mo) : Prop where
 kind : I64 m.kind
 ep : I64 m.ep
 zx : I64 m.zx
 nu : I64 m.nu
 marks : ∀ z ∈ m.marks, I64 z
 len : m.marks.length ≤ 2000000000
def OkO (o : Option Mo) : Prop := ∀ m, o = some m → MoI m
theorem MoI.of {k e z n : Int} {l : List Int} (h1 : I64 k) (h2 : I64 e) (h3 : I64 z) (h4 : I64 n) (h5 : ∀ z ∈ l, I64 z) (h6 : l.length ≤ 2000000000) : MoI ⟨k, e, z, n, l⟩ := ⟨h1, h2, h3, h4, h5, h6⟩
theorem i64_nil : ∀ z ∈ ([] : List Int), I64 z := fun z hz => by cases hz
theorem OkO.none : OkO none := fun _ h => by cases h
theorem OkO.some {m : Mo} (h : MoI m) : OkO (some m) := fun _ e => by cases e; exact h
theorem mark_step {out : List Int} {z : Int} {P : Int → Prop} (h : ∀ x ∈ out, P x) (hz : P z) : (∀ x ∈ markStep out z, P x) ∧ (markStep out z).length ≤ out.length + 1 := by
 unfold markStep
 split
 ·exact ⟨h, by omega⟩
 split
 ·refine ⟨fun x hx => ?_, by rw [List.length_append, List.length_dropLast, List.length_singleton]; omega⟩
  rcases List.mem_append.1 hx with hx | hx
  ·exact h x ((List.dropLast_sublist _).subset hx)
  ·rw [List.mem_singleton.1 hx]; exact hz
 ·refine ⟨fun x hx => ?_, by simp⟩
  rcases List.mem_append.1 hx with hx | hx
  ·exact h x hx
  ·rw [List.mem_singleton.1 hx]; exact hz
theorem mark_all {P : Int → Prop} : ∀ (l out : List Int), (∀ x ∈ out, P x) → (∀ x ∈ l, P x) → (∀ x ∈ l.foldl markStep out, P x) ∧ (l.foldl markStep out).length ≤ out.length + l.length
 | [], out, h, _ => ⟨h, by simp⟩
 | z :: l, out, h, hl => by
  obtain ⟨h1, h2⟩ := mark_step h (hl z (List.mem_cons_self ..))
  obtain ⟨h3, h4⟩ := mark_all l _ h1 fun x hx => hl x (List.mem_cons_of_mem _ hx)
  exact ⟨h3, by show (l.foldl markStep (markStep out z)).length ≤ _; rw [List.length_cons]; omega⟩
theorem marks_I64 {Λ : Lg} (h : LgW Λ) : (∀ z ∈ marksZ Λ, I64 z) ∧ (marksZ Λ).length ≤ 2000000000 := by
 have hb := h.base
 have hl := h.rows.len
 have hf := h.few
 obtain ⟨h1, h2⟩ := mark_all (P := I64) (Λ.base :: Λ.zxs) [] (fun x hx => by cases hx) (fun x hx => by
  rcases List.mem_cons.1 hx with rfl | hx
  ·exact ⟨by omega, hb.2⟩
  ·exact h.rows.i64 x hx)
 exact ⟨h1, by show ((Λ.base :: Λ.zxs).foldl markStep []).length ≤ _; rw [List.length_nil, List.length_cons] at h2; omega⟩
structure FwS (Φ : Fw) : Prop where
 up : Φ.heard.Pairwise (· < ·)
 each : ∀ z ∈ Φ.heard, I64 z
 ep : I64 Φ.ep
theorem i64_0 : I64 0 := ⟨by decide, by decide⟩
theorem eps_I64 {Λ : Lg} (h : LgW Λ) : I64 Λ.acc ∧ I64 Λ.cur := by
 have := h.eps
 exact ⟨⟨by omega, by omega⟩, ⟨by omega, by omega⟩⟩
theorem hear_S {p : HP} {Φ : Fw} {s : Ld} {N : Int} (h : FwS Φ) (hl : LPs s N) (hn : Φ.heard.length ≤ 2000000000) {m : Ms} (hm : MsA p m) : FwS (hearF Φ s m).1 ∧ OkO (hearF Φ s m).2.2 := by
 refine ⟨⟨hear_up h.up, ?_, ?_⟩, ?_⟩
 ·have key : ∀ (Ψ : Fw), (∀ z ∈ Ψ.heard, I64 z) → ∀ z ∈ (hearF1 Ψ s m).1.heard, I64 z := by
   intro Ψ g
   unfold hearF1 accF synF synF2 proF pingF pingF1 upF comF
   repeat' split
   all_goals first
    | exact g
    | (intro z hz; cases hz)
  unfold hearF
  split
  ·exact h.each
  ·exact key _ h.each
 ·have key : ∀ (Ψ : Fw), I64 Ψ.ep → I64 (hearF1 Ψ s m).1.ep := by
   intro Ψ g
   unfold hearF1 accF synF synF2 proF pingF pingF1 upF comF
   repeat' split
   all_goals first
    | exact g
    | exact hm.ep
  unfold hearF
  split
  ·exact h.ep
  ·exact key _ h.ep
 ·have hA := marks_I64 (lps_accept hl m.ep).w
  have hB := marks_I64 hl.w
  have hC := (eps_I64 (lps_accept hl m.ep).w).2
  have hz := ent0_i64 hm.x
  have key : ∀ (Ψ : Fw), I64 Ψ.ep → (∀ z ∈ Ψ.heard, I64 z) → Ψ.heard.length ≤ 2000000000 → OkO (hearF1 Ψ s m).2.2 := by
   intro Ψ g1 g2 g3
   unfold hearF1 accF synF synF2 proF pingF pingF1 upF comF
   repeat' split
   all_goals first
    | exact OkO.none
    | exact OkO.some (MoI.of (k := 3) (by decide) hm.ep i64_0 hC hA.1 hA.2)
    | exact OkO.some (MoI.of (k := 3) (n := -1) (by decide) hm.ep i64_0 (by decide) hB.1 hB.2)
    | exact OkO.some (MoI.of (k := 5) (by decide) g1 i64_0 i64_0 i64_nil (Nat.zero_le _))
    | exact OkO.some (MoI.of (k := 8) (by decide) i64_0 hz i64_0 i64_nil (Nat.zero_le _))
    | exact OkO.some (MoI.of (k := 11) (by decide) i64_0 i64_0 i64_0 g2 g3)
  unfold hearF
  split
  ·exact OkO.none
  ·exact key _ h.ep h.each hn
theorem start_S {Φ : Fw} {s : Ld} {N : Int} (hl : LPs s N) : OkO (startF Φ s) := by
 unfold startF
 split
 ·exact OkO.none
 ·exact OkO.some (MoI.of (k := 1) (by decide) (eps_I64 hl.w).1 i64_0 i64_0 i64_nil (Nat.zero_le _))
theorem tick_S {Φ : Fw} {s : Ld} {N : Int} (h : FwS Φ) (hl : LPs s N) {l : List Int} (hi : ∀ z ∈ l, I64 z) : FwS (tickF Φ s l).1 ∧ OkO (tickF Φ s l).2 := by
  refine ⟨⟨tick_up h.up, ?_, ?_⟩, ?_⟩
  · unfold tickF
    repeat' split
    all_goals first
      | exact h.each
      | (intro z hz
         have hz : z ∈ compI (sortI (Φ.heard ++ l)) := hz
         rw [compF_mem, sortI_mem, List.mem_append] at hz
         rcases hz with hz | hz
         · exact h.each z hz
         · exact hi z hz)
  · unfold tickF
    repeat' split
    all_goals exact h.ep
  · unfold tickF
    repeat' split
    all_goals first
      | exact OkO.none
      | exact OkO.some (MoI.of (k := 1) (by decide) (eps_I64 hl.w).1 i64_0 i64_0 i64_nil (Nat.zero_le _))
def stepG (Φ : Fw) (s : Ld) (o : St18) : Fz :=
 if pickZ o.what 8 = 0 then ((tickF Φ s o.heard).1, s, (tickF Φ s o.heard).2) else if pickZ o.what 8 = 1 then (Φ, s, startF Φ s)
 else if pickZ o.what 8 = 2 then (Φ, ⟨(s.δ.arm (pickZ o.n 40)).1, s.ω, s.Λ⟩, none) else hearF Φ s o.m
theorem LPs.mv9 {δ δ' : Dk} {ω : Wl} {Λ : Lg} {N M : Int} (h : LPs ⟨δ, ω, Λ⟩ N) (hl : δ'.now.length = δ.now.length) (ha : δ'.acts ≤ M) : LPs ⟨δ', ω, Λ⟩ M := ⟨h.wk.mv hl ha, h.w, h.a, h.b⟩
theorem stepG_K {p : HP} {Φ : Fw} {s : Ld} {N : Int} {K : Nat} (hk : FwK Φ s N K) (hS : FwS Φ) (hK : K ≤ 2000000000) {o : St18} (ho : St18A p o) : FwK (stepG Φ s o).1 (stepG Φ s o).2.1 (N + 3000000000000) (K + 1048576) ∧ FwS (stepG Φ s o).1 := by
 have hl := ho.len
 have hh := ho.hds
 have hs := hk.l.more (M := N + 3000000000000) (by omega)
 unfold stepG
 split
 ·have ht := tick_K hk o.heard
  exact ⟨⟨hs, ⟨ht.1.i.sil, by have := ht.1.i.heard; dsimp only; omega⟩, ht.1.cur, ht.1.up, ht.1.zero⟩, (tick_S hS hk.l hh).1⟩
 split
 ·exact ⟨⟨hs, ⟨hk.i.sil, by have := hk.i.heard; dsimp only; omega⟩, hk.cur, hk.up, hk.zero⟩, hS⟩
 split
 ·have ha := arm_k s.δ (pickZ o.n 40)
  exact ⟨⟨hk.l.mv9 ha.1 (by rw [ha.2]; have := hk.l.wk.acts; omega), ⟨hk.i.sil, by have := hk.i.heard; dsimp only; omega⟩, hk.cur, hk.up, hk.zero⟩, hS⟩
 ·obtain ⟨h1, -⟩ := hear_P hk ho.m
  exact ⟨⟨h1.k.l, ⟨h1.k.i.sil, by have := h1.k.i.heard; omega⟩, h1.k.cur, h1.k.up, h1.k.zero⟩, (hear_S hS hk.l (by have := hk.i.heard; omega) ho.m).1⟩
def opB0 : Bs := [(0 : Int), 0].flatMap numB ++ txtB [] ++ txtB [] ++ aclB [] ++ [(0 : Int), 0].flatMap numB ++ [0]
def reqB0 : Bs := opB0 ++ cntB 0 ++ cntB 0
def reqZ : List Value := [vint 0, vint 0, vstr [], vstr [], .slice none 0 0, vint 0, vint 0, .bool false, .slice none 0 0, .slice none 0 0]
def msB (m : Mo) : Bs := [m.kind, m.ep, m.zx, m.nu, 0].flatMap numB ++ cntB m.marks.length ++ m.marks.flatMap numB ++ txtB [] ++ cntB 0 ++ reqB0 ++ cntB 0
theorem lenB0 : (txtB []).length ≤ 10 ∧ (aclB []).length ≤ 10 ∧ ([(0 : Int), 0].flatMap numB).length ≤ 20 ∧ (cntB 0).length ≤ 10 := by
 have h : ((txtB []).length, (aclB []).length, ([(0 : Int), 0].flatMap numB).length, (cntB 0).length) = (1, 1, 2, 1) := by kernel_rfl
 simp only [Prod.mk.injEq] at h
 omega
theorem rd_nil (sz : Nat) (h : Hp) : rdS sz h (.slice none 0 0) 0 [] := .inl ⟨rfl, rfl, _, _, rfl⟩
theorem r1flag_spec : Fn Tryz.prog 206 #[.bool false] [] fun v L => v = vstr [0] ∧ L = [] := by
 refine Fn.intro Tryz.func206 rfl rfl fun F W => ?_
 refine .sr (.an rfl (.seq (.sm rfl (.nt (.condF rfl (.sk (.sr (.an rfl (.ret ?_)))))))))
 exact .vv
theorem r2op0_spec : Fn Tryz.prog 166 #[.agg reqZ.toArray] [] fun v L => v = vstr opB0 ∧ L = [] := by
 refine Fn.intro Tryz.func166 rfl rfl fun F W => ?_
 obtain ⟨l1, l2, l3, l4⟩ := lenB0
 refine .add (p := anyP) (fun _ => trivial) (.sr (.oq (.box rfl) ?_))
 rintro v L' ⟨b1, rfl, rfl⟩
 refine .a rfl (.nil (.ptCast (b := b1) (l' := reqZ) (by repeat' constructor) (by exact rfl) (.then_n (.seq (.draw [4, 5, 22, 23] [[0, 1, 2, 3, 6, 7, 10, 11, 14, 15, 18, 19, 20, 21, 25, 26, 4, 5, 8, 9, 12, 13, 16, 17, 22, 23, 24, 27], [28, 29]] mixed (by kernel_rfl) (.go [ptc b1 _ _, anyP] (by repeat' constructor) (.k rfl (.fieldAddr rfl fo_38_0) (.k rfl (.ld rfl ag_3) (.k rfl (.fieldAddr rfl fo_38_1) (.k rfl (.ld rfl ag_3) (.k rfl (.fieldAddr rfl fo_38_2) (.k rfl (.ld rfl ag_9) (.k rfl (.fieldAddr rfl fo_38_3) (.k rfl (.ld rfl ag_9) (.k rfl (.fieldAddr rfl fo_38_4) (.k rfl (.ld rfl ag_34) (.k rfl (.fieldAddr rfl fo_38_5) (.k rfl (.ld rfl ag_3) (.k rfl (.fieldAddr rfl fo_38_6) (.k rfl (.ld rfl ag_3) (.k rfl (.fieldAddr rfl fo_38_7) (.k rfl (.ld rfl ag_4) (.h2 (k := 22) rfl rfl (by kernel_rfl) rfl (.buildSlice1 (vs := [_, _]) el_32 ze_3 rfl rfl rfl rfl rfl (by decide)) (by repeat' constructor) (.buildSlice1 (vs := [_, _]) el_32 ze_3 rfl rfl rfl rfl rfl (by decide)) (by repeat' constructor) ?_ ?_)))))))))))))))))))))))
 ·rintro v L' ⟨b2, rfl, rfl⟩
  refine D.h2 (k := 22) rfl rfl (by kernel_rfl) rfl (.call Tryz.func97 rfl rfl (vs := [_]) rfl (r2nums_spec _ ([0, 0] : List Int) (ptc b2 (ints ([0, 0] : List Int)) 3) (fun h hp => slR_rd (slR_pt hp rfl)) (fun n hn => by simp only [List.mem_cons, List.not_mem_nil, or_false] at hn; rcases hn with rfl | rfl <;> exact i64_0) (by simp))) (by repeat' constructor) (.buildSlice1 (vs := [_, _]) el_32 ze_3 rfl rfl rfl rfl rfl (by decide)) (by repeat' constructor) ?_ ?_
  ·rintro v L' ⟨rfl, rfl⟩
   refine D.m rfl (by kernel_rfl) (.c Tryz.func99 [_] (r1txt_spec [] (Nat.zero_le _))) (by repeat' constructor) ?_
   refine D.k rfl (.concat rfl rfl (by (try simp only [List.length_append, List.length_singleton]); omega)) (.m rfl (by kernel_rfl) (.c Tryz.func99 [_] (r1txt_spec [] (Nat.zero_le _))) (by repeat' constructor) ?_)
   refine D.k rfl (.concat rfl rfl (by (try simp only [List.length_append, List.length_singleton]); omega)) (.m rfl (by kernel_rfl) (.call Tryz.func205 rfl rfl (vs := [_]) rfl (r2acls_spec (.slice none 0 0) [] anyP (fun h _ => rd_nil 2 h) (fun a ha => by cases ha) (by omega) (Nat.zero_le _))) (by repeat' constructor) ?_)
   refine D.k rfl (.concat rfl rfl (by (try simp only [List.length_append, List.length_singleton]); omega)) (.hh rfl (.buildSlice1 (vs := [_, _]) el_32 ze_3 rfl rfl rfl rfl rfl (by decide)) ?_)
   rintro v L' ⟨b3, rfl, rfl⟩
   refine D.hh rfl (.call Tryz.func97 rfl rfl (vs := [_]) rfl (r2nums_spec _ ([0, 0] : List Int) (ptc b3 (ints ([0, 0] : List Int)) 3) (fun h hp => slR_rd (slR_pt hp rfl)) (fun n hn => by simp only [List.mem_cons, List.not_mem_nil, or_false] at hn; rcases hn with rfl | rfl <;> exact i64_0) (by simp))) ?_
   rintro v L' ⟨rfl, rfl⟩
   refine D.kv rfl (.concat rfl rfl (by (try simp only [List.length_append, List.length_singleton]); omega)) (.m rfl (by kernel_rfl) (.c Tryz.func206 [_] (r1flag_spec)) (by repeat' constructor) ?_)
   refine D.ph (.g0 (.kv rfl (.concat rfl rfl (by (try simp only [List.length_append, List.length_singleton]); omega)) (.kv rfl (.assign rfl) (.pf (.ret ?_)))))
   exact .vv
  rintro v L' ⟨b3, rfl, rfl⟩
  refine D.hh rfl (.call Tryz.func97 rfl rfl (vs := [_]) rfl (r2nums_spec _ ([0, 0] : List Int) (ptc b2 (ints ([0, 0] : List Int)) 3) (fun h hp => slR_rd (slR_pt hp rfl)) (fun n hn => by simp only [List.mem_cons, List.not_mem_nil, or_false] at hn; rcases hn with rfl | rfl <;> exact i64_0) (by simp))) ?_
  rintro v L' ⟨rfl, rfl⟩
  refine D.m rfl (by kernel_rfl) (.c Tryz.func99 [_] (r1txt_spec [] (Nat.zero_le _))) (by repeat' constructor) ?_
  refine D.k rfl (.concat rfl rfl (by (try simp only [List.length_append, List.length_singleton]); omega)) (.m rfl (by kernel_rfl) (.c Tryz.func99 [_] (r1txt_spec [] (Nat.zero_le _))) (by repeat' constructor) ?_)
  refine D.k rfl (.concat rfl rfl (by (try simp only [List.length_append, List.length_singleton]); omega)) (.m rfl (by kernel_rfl) (.call Tryz.func205 rfl rfl (vs := [_]) rfl (r2acls_spec (.slice none 0 0) [] anyP (fun h _ => rd_nil 2 h) (fun a ha => by cases ha) (by omega) (Nat.zero_le _))) (by repeat' constructor) ?_)
  refine D.k rfl (.concat rfl rfl (by (try simp only [List.length_append, List.length_singleton]); omega)) (.hh rfl (.call Tryz.func97 rfl rfl (vs := [_]) rfl (r2nums_spec _ ([0, 0] : List Int) (ptc b3 (ints ([0, 0] : List Int)) 3) (fun h hp => slR_rd (slR_pt hp rfl)) (fun n hn => by simp only [List.mem_cons, List.not_mem_nil, or_false] at hn; rcases hn with rfl | rfl <;> exact i64_0) (by simp))) ?_)
  rintro v L' ⟨rfl, rfl⟩
  refine D.kv rfl (.concat rfl rfl (by (try simp only [List.length_append, List.length_singleton]); omega)) (.m rfl (by kernel_rfl) (.c Tryz.func206 [_] (r1flag_spec)) (by repeat' constructor) ?_)
  refine D.ph (.g0 (.kv rfl (.concat rfl rfl (by (try simp only [List.length_append, List.length_singleton]); omega)) (.kv rfl (.assign rfl) (.pf (.ret ?_)))))
  exact .vv
 rintro v L' ⟨b3, rfl, rfl⟩
 refine D.hh rfl (.buildSlice1 (vs := [_, _]) el_32 ze_3 rfl rfl rfl rfl rfl (by decide)) ?_
 rintro v L' ⟨b2, rfl, rfl⟩
 refine D.hh rfl (.call Tryz.func97 rfl rfl (vs := [_]) rfl (r2nums_spec _ ([0, 0] : List Int) (ptc b2 (ints ([0, 0] : List Int)) 3) (fun h hp => slR_rd (slR_pt hp rfl)) (fun n hn => by simp only [List.mem_cons, List.not_mem_nil, or_false] at hn; rcases hn with rfl | rfl <;> exact i64_0) (by simp))) ?_
 rintro v L' ⟨rfl, rfl⟩
 refine D.m rfl (by kernel_rfl) (.c Tryz.func99 [_] (r1txt_spec [] (Nat.zero_le _))) (by repeat' constructor) ?_
 refine D.k rfl (.concat rfl rfl (by (try simp only [List.length_append, List.length_singleton]); omega)) (.m rfl (by kernel_rfl) (.c Tryz.func99 [_] (r1txt_spec [] (Nat.zero_le _))) (by repeat' constructor) ?_)
 refine D.k rfl (.concat rfl rfl (by (try simp only [List.length_append, List.length_singleton]); omega)) (.m rfl (by kernel_rfl) (.call Tryz.func205 rfl rfl (vs := [_]) rfl (r2acls_spec (.slice none 0 0) [] anyP (fun h _ => rd_nil 2 h) (fun a ha => by cases ha) (by omega) (Nat.zero_le _))) (by repeat' constructor) ?_)
 refine D.k rfl (.concat rfl rfl (by (try simp only [List.length_append, List.length_singleton]); omega)) (.hh rfl (.call Tryz.func97 rfl rfl (vs := [_]) rfl (r2nums_spec _ ([0, 0] : List Int) (ptc b3 (ints ([0, 0] : List Int)) 3) (fun h hp => slR_rd (slR_pt hp rfl)) (fun n hn => by simp only [List.mem_cons, List.not_mem_nil, or_false] at hn; rcases hn with rfl | rfl <;> exact i64_0) (by simp))) ?_)
 rintro v L' ⟨rfl, rfl⟩
 refine D.kv rfl (.concat rfl rfl (by (try simp only [List.length_append, List.length_singleton]); omega)) (.m rfl (by kernel_rfl) (.c Tryz.func206 [_] (r1flag_spec)) (by repeat' constructor) ?_)
 refine D.ph (.g0 (.kv rfl (.concat rfl rfl (by (try simp only [List.length_append, List.length_singleton]); omega)) (.kv rfl (.assign rfl) (.pf (.ret ?_)))))
 exact .vv
theorem r2texts0_spec : Fn Tryz.prog 101 #[.slice none 0 0] [] fun v L => v = vstr (cntB 0) ∧ L = [] := by
 refine Fn.intro Tryz.func101 rfl rfl fun F W => ?_
 refine .sr (.an rfl (.sm rfl (.q (.slen rfl Tryz.underlying39 rfl) rfl (.cv Tryz.func98 [_] (r1cnt_spec 0 (Nat.zero_le _)) ?_))))
 refine .an rfl (.seq (.sr (.an rfl (.block (.loopK (ι := Unit) (fun q E => (3, vstr (cntB 0)) :: (4, vint 0) :: E) (fun q => []) (fun q => True) (fun q => 0) (()) (ts := [0, 2]) (.cons rfl (.cons rfl (.nil))) (trivial) ⟨rfl, rfl, rfl, rfl, trivial⟩ (by repeat' constructor) ?_)))))
 rintro _u -
 refine .seq (.sm rfl (.m rfl (.q (.slen rfl Tryz.underlying39 rfl) rfl (.q (.as (v' := .bool false) (by rfl) (.int rfl rfl rfl)) rfl (.nt (.condF rfl (.exit (.then_e (.then_e (.blk_e (.then_n (.sm rfl (.an rfl (.ret ?_))))))))))))))
 exact .vv
theorem r2preq0_spec : Fn Tryz.prog 100 #[.agg reqZ.toArray] [] fun v L => v = vstr reqB0 ∧ L = [] := by
 refine Fn.intro Tryz.func100 rfl rfl fun F W => ?_
 obtain ⟨l1, l2, l3, l4⟩ := lenB0
 have lop : opB0.length ≤ 200 := by unfold opB0; simp only [List.length_append, List.length_cons, List.length_nil]; omega
 refine .sr (.oq (.box rfl) ?_)
 rintro v L' ⟨b1, rfl, rfl⟩
 refine .a rfl (.nil (.ptCast (b := b1) (l' := reqZ) (by repeat' constructor) (by exact rfl) (.then_n (.seq (.draw [] [[0, 1, 2, 3, 4, 5, 6, 7]] mixed (by kernel_rfl) (.go [ptc b1 _ _] (by repeat' constructor) (.kv rfl (.loadAs (vs := reqZ) rfl ag_38 (by repeat' constructor) (by simp [reqZ]) rfl) (.m rfl (by kernel_rfl) (.c Tryz.func166 [_] (r2op0_spec)) (by repeat' constructor) ?_))))))))
 refine D.kv rfl (.fieldAddr rfl fo_38_8) (.kv rfl (.ld rfl ag_35) (.kv rfl (.slen rfl Tryz.underlying35 rfl) (.m rfl (by kernel_rfl) (.c Tryz.func98 [_] (r1cnt_spec 0 (Nat.zero_le _))) (by repeat' constructor) ?_)))
 refine D.kv rfl (.concat rfl rfl (by omega)) (.kv rfl (.assign rfl) (.pf (.seq (.sr (.an rfl (.block (.loopK (ι := Unit) (fun q E => (3, vstr (opB0 ++ cntB 0)) :: (4, vint 0) :: E) (fun q => []) (fun q => True) (fun q => 0) (()) (ts := [1, 2]) (.cons rfl (.cons rfl (.nil))) (trivial) ⟨rfl, rfl, rfl, rfl, trivial⟩ (by repeat' constructor) ?_)))))))
 rintro _u -
 refine .seq (.sm rfl (.u (.fieldAddr rfl fo_38_8) (.u (.ld rfl ag_35) (.q (.slen rfl Tryz.underlying35 rfl) rfl (.q (.as (v' := .bool false) (by rfl) (.int rfl rfl rfl)) rfl (.nt (.condF rfl (.exit (.then_e (.then_e (.blk_e (.then_n (.sm rfl (.u (.fieldAddr rfl fo_38_9) (.u (.ld rfl ag_36) (.q (.slen rfl Tryz.underlying36 rfl) rfl (.cv Tryz.func98 [_] (r1cnt_spec 0 (Nat.zero_le _)) ?_)))))))))))))))))
 refine .q (.concat rfl rfl (by (try simp only [List.length_append, List.length_singleton]); omega)) rfl (.an rfl (.seq (.sr (.an rfl (.block (.loopK (ι := Unit) (fun q E => (3, vstr reqB0) :: (5, vint 0) :: E) (fun q => []) (fun q => True) (fun q => 0) (()) (ts := [1, 2]) (.cons rfl (.cons rfl (.nil))) (trivial) ⟨rfl, rfl, rfl, rfl, trivial⟩ (by repeat' constructor) ?_))))))
 rintro _u -
 refine .seq (.sm rfl (.u (.fieldAddr rfl fo_38_9) (.u (.ld rfl ag_36) (.q (.slen rfl Tryz.underlying36 rfl) rfl (.q (.as (v' := .bool false) (by rfl) (.int rfl rfl rfl)) rfl (.nt (.condF rfl (.exit (.then_e (.then_e (.blk_e (.then_n (.sm rfl (.an rfl (.ret ?_)))))))))))))))
 exact .vv
theorem cnt_len10 {n : Nat} (h : n ≤ 2147483648) : (cntB n).length ≤ 10 := sev_len10 (by unfold U64; omega)
theorem r2pmsg_spec (m : Mo) (mv : Value) (p : HP) (hI : MoI m) (hmv : ∀ h : Hp, p h → rdS 1 h mv m.marks.length (ints m.marks)) : Fn Tryz.prog 58 #[.agg (moC m mv).toArray] [p] fun v L => v = vstr (msB m) ∧ L = [p] := by
 refine Fn.intro Tryz.func58 rfl rfl fun F W => ?_
 obtain ⟨l1, l2, l3, l4⟩ := lenB0
 have hml := hI.len
 have lrq : reqB0.length ≤ 300 := by unfold reqB0 opB0; simp only [List.length_append, List.length_cons, List.length_nil]; omega
 have h5 : (([m.kind, m.ep, m.zx, m.nu, 0] : List Int).flatMap numB).length ≤ 50 := nums_len (fun n hn => by simp only [List.mem_cons, List.not_mem_nil, or_false] at hn; rcases hn with rfl | rfl | rfl | rfl | rfl; exact hI.kind; exact hI.ep; exact hI.zx; exact hI.nu; exact i64_0)
 have hmn := nums_len hI.marks
 have hcl := cnt_len10 (n := m.marks.length) (by omega)
 refine .rdAny (p := p) hmv (by repeat' constructor) fun aa ca e _ => ?_
 subst e
 refine .sr (.oq (.box rfl) ?_)
 rintro v L' ⟨b1, rfl, rfl⟩
 refine .a rfl (.nil (.ptCast (b := b1) (l' := moC m (.slice aa m.marks.length ca)) (by repeat' constructor) (by exact rfl) (.then_n (.seq (.draw [10, 11] [[0, 1, 2, 3, 4, 5, 6, 7, 8, 9, 12, 13, 14, 17, 18, 21, 22, 25, 26, 27, 10, 11, 15, 16, 19, 20, 23, 24, 28], [29, 30]] mixed (by kernel_rfl) (.go [ptc b1 _ _, p] (by repeat' constructor) (.kv rfl (.fieldAddr rfl fo_41_0) (.kv rfl (.ld rfl ag_3) (.kv rfl (.fieldAddr rfl fo_41_1) (.kv rfl (.ld rfl ag_3) (.kv rfl (.fieldAddr rfl fo_41_2) (.kv rfl (.ld rfl ag_3) (.kv rfl (.fieldAddr rfl fo_41_3) (.kv rfl (.ld rfl ag_3) (.kv rfl (.fieldAddr rfl fo_41_4) (.kv rfl (.ld rfl ag_3) (.k rfl (.fieldAddr rfl fo_41_5) (.k rfl (.ld rfl ag_32) (.k rfl (.slen rfl Tryz.underlying32 rfl) (.k rfl (.fieldAddr rfl fo_41_5) (.k rfl (.ld rfl ag_32) (.k rfl (.fieldAddr rfl fo_41_6) (.k rfl (.ld rfl ag_9) (.k rfl (.fieldAddr rfl fo_41_7) (.k rfl (.ld rfl ag_33) (.k rfl (.slen rfl Tryz.underlying33 rfl) (.hh rfl (.buildSlice1 (vs := [_, _, _, _, _]) el_32 ze_3 rfl rfl rfl rfl rfl (by decide)) ?_)))))))))))))))))))))))))))
 rintro v L' ⟨b2, rfl, rfl⟩
 refine D.hh rfl (.call Tryz.func97 rfl rfl (vs := [_]) rfl (r2nums_spec _ ([m.kind, m.ep, m.zx, m.nu, 0] : List Int) (ptc b2 (ints ([m.kind, m.ep, m.zx, m.nu, 0] : List Int)) 3) (fun h hp => slR_rd (slR_pt hp rfl)) (fun n hn => by simp only [List.mem_cons, List.not_mem_nil, or_false] at hn; rcases hn with rfl | rfl | rfl | rfl | rfl; exact hI.kind; exact hI.ep; exact hI.zx; exact hI.nu; exact i64_0) (by simp))) ?_
 rintro v L' ⟨rfl, rfl⟩
 refine D.m rfl (by kernel_rfl) (.c Tryz.func98 [_] (r1cnt_spec m.marks.length (by omega))) (by repeat' constructor) ?_
 refine D.kv rfl (.concat rfl rfl (by (try simp only [List.length_append]); omega)) (.m rfl (by kernel_rfl) (.call Tryz.func97 rfl rfl (vs := [_]) rfl (r2nums_spec _ m.marks p hmv hI.marks (by omega))) (by repeat' constructor) ?_)
 refine D.kv rfl (.concat rfl rfl (by (try simp only [List.length_append]); omega)) (.m rfl (by kernel_rfl) (.c Tryz.func99 [_] (r1txt_spec [] (Nat.zero_le _))) (by repeat' constructor) ?_)
 refine D.kv rfl (.concat rfl rfl (by (try simp only [List.length_append]); omega)) (.m rfl (by kernel_rfl) (.c Tryz.func98 [_] (r1cnt_spec 0 (Nat.zero_le _))) (by repeat' constructor) ?_)
 refine D.ph (.g0 (.kv rfl (.concat rfl rfl (by (try simp only [List.length_append]); omega)) (.kv rfl (.assign rfl) (.pf (.seq (.sr (.an rfl (.block (.loopK (ι := Unit) (fun q E => (3, vstr (([m.kind, m.ep, m.zx, m.nu, 0] : List Int).flatMap numB ++ cntB m.marks.length ++ m.marks.flatMap numB ++ txtB [] ++ cntB 0)) :: (4, vint 0) :: E) (fun q => []) (fun q => True) (fun q => 0) (()) (ts := [1, 2]) (.cons rfl (.cons rfl (.nil))) (trivial) ⟨rfl, rfl, rfl, rfl, trivial⟩ (by repeat' constructor) ?_)))))))))
 rintro _u -
 refine .seq (.sm rfl (.u (.fieldAddr rfl fo_41_7) (.u (.ld rfl ag_33) (.q (.slen rfl Tryz.underlying33 rfl) rfl (.q (.as (v' := .bool false) (by rfl) (.int rfl rfl rfl)) rfl (.nt (.condF rfl (.exit (.then_e (.then_e (.blk_e (.then_n (.seq (.draw [] [[0, 1, 2, 3, 4, 5, 6, 7, 8, 9]] mixed (by kernel_rfl) (.go [ptc b1 _ _] (by repeat' constructor) (.mv rfl rfl (.kv rfl (.fieldAddr rfl fo_41_8) (.kv rfl (.loadAs (vs := reqZ) rfl ag_38 (by repeat' constructor) (by simp [moC]) rfl) (.m rfl (by kernel_rfl) (.c Tryz.func100 [_] (r2preq0_spec)) (by repeat' constructor) ?_)))))))))))))))))))
 refine D.kv rfl (.concat rfl rfl (by (try simp only [List.length_append]); omega)) (.kv rfl (.fieldAddr rfl fo_41_9) (.kv rfl (.ld rfl ag_39) (.m rfl (by kernel_rfl) (.c Tryz.func101 [_] (r2texts0_spec)) (by repeat' constructor) ?_)))
 refine D.kv rfl (.concat rfl rfl (by (try simp only [List.length_append]); omega)) (.kv rfl (.assign rfl) (.pf (.ret ?_)))
 exact .vv
theorem outs0_spec (ld : Int) (a1 a2 : Option Addr) (c1 c2 : Nat) : Fn Tryz.prog 19 #[.slice a1 0 c1, .slice a2 0 c2] [outR (.slice a1 0 c1) ld none, outR (.slice a2 0 c2) ld none] fun v L => v = .bool true ∧ L = [] := by
 refine Fn.intro Tryz.func19 rfl rfl fun F W => ?_
 refine .sr (.an rfl (.seq (.sm rfl (.q (.slen rfl Tryz.underlying45 rfl) rfl (.m rfl (.q (.slen rfl Tryz.underlying45 rfl) rfl (.q (.as (v' := .bool false) (by rfl) (.int rfl rfl rfl)) rfl (.nt (.condF rfl (.sk (.seq (.sr (.an rfl (.block (.loopK (ι := Unit) (fun q E => (5, vint 0) :: E) (fun q => []) (fun q => True) (fun q => 0) (()) (ts := [0, 1]) (.cons rfl (.cons rfl (.nil))) (trivial) ⟨rfl, rfl, rfl, trivial⟩ (by repeat' constructor) ?_)))))))))))))))
 rintro _u -
 refine .seq (.sm rfl (.m rfl (.q (.slen rfl Tryz.underlying45 rfl) rfl (.q (.as (v' := .bool false) (by rfl) (.int rfl rfl rfl)) rfl (.nt (.condF rfl (.exit (.then_e (.then_e (.blk_e (.then_n (.sr (.an rfl (.ret ?_))))))))))))))
 exact .vv
theorem outs1_spec (ld : Int) (m : Mo) (hI : MoI m) (a1 a2 : Option Addr) (c1 c2 : Nat) : Fn Tryz.prog 19 #[.slice a1 1 c1, .slice a2 1 c2] [outR (.slice a1 1 c1) ld (some m), outR (.slice a2 1 c2) ld (some m)] fun v L => v = .bool true ∧ L = [] := by
 refine Fn.intro Tryz.func19 rfl rfl fun F W => ?_
 refine .outOpen (v := .slice a1 1 c1) (ld := ld) (m := m) (by repeat' constructor) fun mv1 => (.slShape (T := 94) (sz := 20) (v := .slice a1 1 c1) (by repeat' constructor) (by decide) fun b1 c1' e0 mb1 _ => ?_)
 simp only [Value.slice.injEq, true_and] at e0
 obtain ⟨rfl, rfl⟩ := e0
 refine .outOpen (v := .slice a2 1 c2) (ld := ld) (m := m) (by repeat' constructor) fun mv2 => (.slShape (T := 94) (sz := 20) (v := .slice a2 1 c2) (by repeat' constructor) (by decide) fun b2 c2' e0 mb2 _ => ?_)
 simp only [Value.slice.injEq, true_and] at e0
 obtain ⟨rfl, rfl⟩ := e0
 refine .sr (.an rfl (.seq (.sm rfl (.q (.slen rfl Tryz.underlying45 rfl) rfl (.m rfl (.q (.slen rfl Tryz.underlying45 rfl) rfl (.q (.as (v' := .bool false) (by rfl) (.int rfl rfl rfl)) rfl (.nt (.condF rfl (.sk (.seq (.sr (.an rfl (.block (.loopK (ι := Nat) (fun q E => (5, vint q) :: E) (fun q => []) (fun q => q ≤ 1) (fun q => 1 - q) (0) (ts := [0, 1]) (.cons rfl (.cons rfl (.nil))) (Nat.zero_le _) ⟨rfl, rfl, rfl, trivial⟩ (by repeat' constructor) ?_)))))))))))))))
 rintro i hi
 refine .seq (.sm rfl (.m rfl (.q (.slen rfl Tryz.underlying45 rfl) rfl (.ui rfl rfl rfl (.nt (.condD rfl (fun h14 => ?_) (fun h14 => ?_)))))))
 ·obtain rfl : i = 0 := by omega
  refine .sk (.seq (.block (.seq (.draw [] [[0, 1, 2, 3, 4, 5, 6, 7, 8, 9, 10, 11, 12, 13, 14, 15, 16, 17, 18, 19, 20, 21, 22, 23, 24, 25]] mixed (by kernel_rfl) (.go [outT (.slice (some ⟨b1, 0, none⟩) 1 c1) ld m mv1, outT (.slice (some ⟨b2, 0, none⟩) 1 c2) ld m mv2, intR mv1 m.marks, intR mv2 m.marks] (by repeat' constructor) (.mv rfl rfl (.mv rfl rfl (.kv rfl (.indexAddr rfl rfl el_45 (by omega)) (.kv rfl (.fieldAddr rfl fo_94_0) (.kv rfl (.loadRd (sz := 20) (j := 0 * 20) (p := outT (.slice (some ⟨b1, 0, none⟩) 1 c1) ld m mv1) (v := vint ld) rfl ag_3 (by repeat' constructor) (fun h hp => slR_rd hp) (by omega) rfl) (.mv rfl rfl (.mv rfl rfl (.kv rfl (.indexAddr rfl rfl el_45 (by omega)) (.kv rfl (.fieldAddr rfl fo_94_0) (.kv rfl (.loadRd (sz := 20) (j := 0 * 20) (p := outT (.slice (some ⟨b2, 0, none⟩) 1 c2) ld m mv2) (v := vint ld) rfl ag_3 (by repeat' constructor) (fun h hp => slR_rd hp) (by omega) rfl) (.kv rfl (.as (v' := .bool false) (by simp) (.int rfl rfl rfl)) ?_))))))))))))))))
  refine D.mv rfl rfl (.gv rfl (.move rfl) (.gv rfl (.move rfl) (.gv rfl (.indexAddr rfl rfl el_45 (by omega)) (.gv rfl (.fieldAddr rfl fo_94_1) (.gv rfl (.loadRdA (sz := 20) (j := 0 * 20 + 1) (k := 19) (p := outT (.slice (some ⟨b1, 0, none⟩) 1 c1) ld m mv1) (vs := moC m mv1) rfl ag_41 (by repeat' constructor) (fun h hp => slR_rd hp) (by simp [moC]) (by omega) (by simp [moC]) rfl) (.gm (t := 28) rfl rfl rfl (by kernel_rfl) (.c Tryz.func58 [_] (r2pmsg_spec m mv1 (intR mv1 m.marks) hI (fun h hp => slR_rd hp))) (by repeat' constructor) ?_))))))
  refine D.gv rfl (.move rfl) (.gv rfl (.move rfl) (.gv rfl (.indexAddr rfl rfl el_45 (by omega)) (.gv rfl (.fieldAddr rfl fo_94_1) (.gv rfl (.loadRdA (sz := 20) (j := 0 * 20 + 1) (k := 19) (p := outT (.slice (some ⟨b2, 0, none⟩) 1 c2) ld m mv2) (vs := moC m mv2) rfl ag_41 (by repeat' constructor) (fun h hp => slR_rd hp) (by simp [moC]) (by omega) (by simp [moC]) rfl) (.gm (t := 28) rfl rfl rfl (by kernel_rfl) (.c Tryz.func58 [_] (r2pmsg_spec m mv2 (intR mv2 m.marks) hI (fun h hp => slR_rd hp))) (by repeat' constructor) ?_)))))
  refine D.gv rfl (.as (v' := .bool false) (by simp) (.strne rfl rfl)) (.kv rfl (.pickF rfl rfl) (.pf (.condF rfl (.skip (.blk_n (.then_n (.region (.m rfl (.q (.add rfl rfl (by omega)) rfl (.an rfl ?_))))))))))
  exact .rk (0 + 1) (by omega) (by omega) ⟨rfl, rfl, rfl, trivial⟩
 refine .exit (.then_e (.then_e (.blk_e (.then_n (.sr (.an rfl (.ret ?_)))))))
 exact .vv
theorem outs_spec (ld : Int) (o : Option Mo) (hI : OkO o) (a1 a2 : Option Addr) (c1 c2 : Nat) : Fn Tryz.prog 19 #[.slice a1 (onN o) c1, .slice a2 (onN o) c2] [outR (.slice a1 (onN o) c1) ld o, outR (.slice a2 (onN o) c2) ld o] fun v L => v = .bool true ∧ L = [] := by
 cases o with
 | none => exact outs0_spec ld a1 a2 c1 c2
 | some m => exact outs1_spec ld m (hI m rfl) a1 a2 c1 c2
theorem followPlays_spec (ld : Int) (v1 : Value) (xs : List St18) (p : HP) (hx : Sts18 p v1 xs) : Fn Tryz.prog 4 #[vint ld, v1] [p] fun v L => v = .bool true ∧ L = [p] := by
 refine Fn.intro Tryz.func4 rfl rfl fun F W => ?_
 have hcells := hx.cells
 have hel := hx.len
 refine .rdAny (p := p) hcells (by repeat' constructor) fun a0 c0 e _ => ?_
 subst e
 have hk0 := (fa0_K ld).2
 refine .sr (.an rfl (.sr (.cv Tryz.func6 [] (awake18_spec) ?_)))
 refine .an rfl (.sr (.oq (.c Tryz.func7 [] (ledgers_spec)) ?_))
 rintro v L' ⟨d, g, x, xr, y, w, rfl, rfl⟩; rw [show (lg0 : Lg) = fa0.Λ from rfl]
 refine .m rfl (.u (.extract rfl rfl) (.u (.extract rfl rfl) (.u (.extract rfl rfl) (.u (.extract rfl rfl) (.u (.extract rfl rfl) (.a rfl (.a rfl (.a rfl (.a rfl (.an rfl (.seq (.sm rfl (.u (.not rfl) (.m rfl (.grun (t := 26) rfl rfl rfl (.m rfl (.grun (t := 26) rfl rfl rfl (.u (.not rfl) (.u (.pickF rfl rfl) (.nt (.condF rfl (.sk (.sm rfl (.m rfl (.oq (.c Tryz.func8 [_, _] (fnew_spec ld g)) ?_)))))))))))))))))))))))))
 rintro v L' ⟨f, rfl, rfl⟩; rw [show (⟨ld, 0, 0, 0, 0, []⟩ : Fw) = ff0 ld from rfl]
 refine .an rfl (.sm rfl (.m rfl (.oq (.c Tryz.func18 [_, _] (rfnew_spec ld y)) ?_)))
 rintro v L' ⟨r, rfl, rfl⟩; rw [show (⟨ld, 0, 0, 0, 0, []⟩ : Fw) = ff0 ld from rfl]
 refine .an rfl (.seq (.sm rfl (.q (.as (v' := .bool false) (by rfl) (.ptreq rfl rfl Tryz.underlying30)) rfl (.nt (.condF rfl (.sk (.seq (.sr (.an rfl (.block (.loopK (ι := Nat × Fw × Ld) (fun q E => (13, vint q.1) :: E) (fun q => [fwR f g (q.2.1), lgR g x (q.2.2).Λ, wlR x d (q.2.2).ω, dkR d (q.2.2).δ, frR r y (q.2.1), rgR y w (q.2.2).Λ, rlR w xr (q.2.2).ω, dsR xr (q.2.2).δ]) (fun q => q.1 ≤ xs.length ∧ q.1 ≤ 200 ∧ FwK q.2.1 q.2.2 (6000000 + (q.1 : Int) * 3000000000000) (q.1 * 1048576) ∧ FwS q.2.1) (fun q => xs.length - q.1) (0, ff0 ld, fa0) (ts := [1, 6, 7, 8, 9, 11, 12]) (.cons rfl (.cons rfl (.cons rfl (.cons rfl (.cons rfl (.cons rfl (.cons rfl (.nil)))))))) (⟨Nat.zero_le _, Nat.zero_le _, ⟨hk0.l.more (by dsimp only; omega), ⟨hk0.i.sil, Nat.zero_le _⟩, hk0.cur, hk0.up, hk0.zero⟩, ⟨List.Pairwise.nil, i64_nil, i64_0⟩⟩) ⟨rfl, rfl, rfl, rfl, rfl, rfl, rfl, rfl, trivial⟩ (by repeat' constructor) ?_)))))))))))
 rintro ⟨i, Φ, s⟩ ⟨hi, hi1, hK, hS⟩
 dsimp only
 dsimp only at hi hi1 hK hS
 refine .seq (.sm rfl (.m rfl (.q (.slen rfl Tryz.underlying22 rfl) rfl (.ui rfl rfl rfl (.m rfl (.dec (t := 42) rfl (fun h10_42 => ?_) (fun h10_42 => ?_)))))))
 ·refine .kDT (t := 41) rfl h10_42 (.grun (t := 42) rfl rfl rfl (.m rfl (.grun (t := 42) rfl rfl rfl (.ui rfl rfl rfl (.u (.pickT rfl rfl) (.nt (.condD rfl (fun h45 => ?_) (fun h45 => ?_))))))))
  ·have hi2 : i < xs.length := by omega
   refine .rdShape (p := p) hcells (by repeat' constructor) (by omega) fun ba oa e => ?_
   subst e
   have ho := hx.each _ (List.getElem_mem hi2)
   have hN := stepG_K hK hS (by omega) ho
   have hli := hK.l.w.i
   have hhl := ho.len
   have hhe := hK.i.heard
   have hpk := pickZ_range xs[i].n (n := 40) (by decide)
   have hac := hK.l.wk.acts
   refine .sk (.seq (.block (.sm rfl (.m rfl (.q (.indexAddr rfl rfl el_22 (by omega)) rfl (.q (.loadRdA (sz := 22) (j := i * 22) (k := 22) (p := p) (vs := st18C xs[i]) rfl ag_43 (by repeat' constructor) hcells (by simp [st18C, msC]) (by omega) (by omega) (st18_at hi2)) rfl (.oq (.allocA ze_43) ?_)))))))
   rintro v L' ⟨bo, rfl, rfl⟩
   refine .oq (.storeA rfl rfl ?c33 sz_43 ?c36 ?c34 (nfz0 _ _)) ?_
   case c33 => exact st18_cells ho
   case c36 => rfl
   case c34 => simp [st18C, msC]
   rintro v L' rfl
   refine .nil (.ptCast (b := bo) (l' := st18C xs[i]) (by repeat' constructor) (by exact rfl) (.then_n (.sr (.an rfl (.seq (.joinK (ι := Unit) (fun q E => (15, .bool true) :: E) (fun q => [fwR f g ((stepG Φ s xs[i]).1), lgR g x ((stepG Φ s xs[i]).2.1).Λ, wlR x d ((stepG Φ s xs[i]).2.1).ω, dkR d ((stepG Φ s xs[i]).2.1).δ, frR r y ((stepG Φ s xs[i]).1), rgR y w ((stepG Φ s xs[i]).2.1).Λ, rlR w xr ((stepG Φ s xs[i]).2.1).ω, dsR xr ((stepG Φ s xs[i]).2.1).δ, p]) (fun q => True) (pre := [fwR f g (Φ), lgR g x (s).Λ, wlR x d (s).ω, dkR d (s).δ, frR r y (Φ), rgR y w (s).Λ, rlR w xr (s).ω, dsR xr (s).δ, p, ptc bo (st18C xs[i]) 43]) (ts := [1, 6, 7, 8, 9, 11, 12, 13, 14, 38, 39, 40, 41, 42, 43, 44, 45, 48, 49, 50, 51]) (.cons rfl (.cons rfl (.cons rfl (.cons rfl (.cons rfl (.cons rfl (.cons rfl (.cons rfl (.cons rfl (.cons rfl (.cons rfl (.cons rfl (.cons rfl (.cons rfl (.cons rfl (.cons rfl (.cons rfl (.cons rfl (.cons rfl (.cons rfl (.cons rfl (.nil)))))))))))))))))))))) (by repeat' constructor) ?_ ?_))))))
   ·refine .sr (.u (.fieldAddr rfl fo_43_0) (.u (.ld rfl ag_3) (.cv Tryz.func11 [_, _] (pick18_spec xs[i].what 8 ho.what (by decide)) ?_)))
    refine .nt (.block (.sr (.ui rfl rfl rfl (.an rfl (.condD rfl (fun h64 => ?_) (fun h64 => ?_))))))
    ·refine .draw [3, 7, 8] [[0, 1, 2, 4, 5, 6, 3], [7], [8], [9]] mixed (by kernel_rfl) (.go [ptc bo _ _] (by repeat' constructor) (.mv rfl rfl (.kv rfl (.fieldAddr rfl fo_43_2) (.kv rfl (.ld rfl ag_32) (.k rfl (.move rfl) (.k rfl (.fieldAddr rfl fo_43_2) (.k rfl (.ld rfl ag_32) (.hh rfl (.call Tryz.func12 rfl rfl (vs := [_, _]) rfl (ftick_spec f g x Φ s.δ s.ω s.Λ xs[i].hv xs[i].heard p _ hK.i (by omega) ho.hd)) ?_))))))))
     rintro v L' ⟨a1, c1, rfl, rfl⟩; rw [show tickF Φ ⟨s.δ, s.ω, s.Λ⟩ xs[i].heard = tickF Φ s xs[i].heard from rfl]
     refine D.ph (.g0 (.hh rfl (.call Tryz.func20 rfl rfl (vs := [_, _]) rfl (rtick_spec r y w Φ s.δ s.ω s.Λ xs[i].hv xs[i].heard p _ hK.i hS.up (by omega) ho.hd)) ?_))
     rintro v L' ⟨a2, c2, rfl, rfl⟩; rw [show tickF Φ ⟨s.δ, s.ω, s.Λ⟩ xs[i].heard = tickF Φ s xs[i].heard from rfl]
     refine D.ph (.g0 (.hh rfl (.c Tryz.func19 [_, _] (outs_spec Φ.ld (tickF Φ s xs[i].heard).2 (tick_S hS hK.l ho.hds).2 a1 a2 c1 c2)) ?_))
     rintro v L' ⟨rfl, rfl⟩
     refine D.ph (.g0 (.kv rfl (.assign rfl) (.ph (.fin (.blk_n (.then_n ?_))))))
     have hz : (stepG Φ s xs[i]) = ((tickF Φ s xs[i].heard).1, s, (tickF Φ s xs[i].heard).2) := by unfold stepG; rw [if_pos h64]
     rw [hz]
     exact .mk (()) (trivial) ⟨rfl, rfl, rfl, rfl, rfl, rfl, rfl, rfl, rfl, rfl, rfl, rfl, rfl, rfl, rfl, rfl, rfl, rfl, rfl, rfl, rfl, rfl, trivial⟩
    refine .sr (.ui rfl rfl rfl (.an rfl (.condD rfl (fun h75 => ?_) (fun h75 => ?_))))
    ·refine .region (.m rfl (.oq (.c Tryz.func21 [_] (fstart_spec f g x Φ s.δ s.ω s.Λ)) ?_))
     rintro v L' ⟨a1, c1, rfl, rfl⟩; rw [show startF Φ ⟨s.δ, s.ω, s.Λ⟩ = startF Φ s from rfl]
     refine .m rfl (.oq (.c Tryz.func22 [_] (rstart_spec r y w Φ s.δ s.ω s.Λ)) ?_)
     rintro v L' ⟨a2, c2, rfl, rfl⟩; rw [show startF Φ ⟨s.δ, s.ω, s.Λ⟩ = startF Φ s from rfl]
     refine .cv Tryz.func19 [_, _] (outs_spec Φ.ld (startF Φ s) (start_S hK.l) a1 a2 c1 c2) ?_
     refine .a rfl (.nil (.blk_n (.then_n ?_)))
     have hz : (stepG Φ s xs[i]) = (Φ, s, startF Φ s) := by unfold stepG; rw [if_neg h64, if_pos h75]
     rw [hz]
     exact .mk (()) (trivial) ⟨rfl, rfl, rfl, rfl, rfl, rfl, rfl, rfl, rfl, rfl, rfl, rfl, rfl, rfl, rfl, rfl, rfl, rfl, rfl, rfl, rfl, rfl, trivial⟩
    refine .sr (.ui rfl rfl rfl (.an rfl (.condD rfl (fun h82 => ?_) (fun h82 => ?_))))
    ·refine .draw [4, 9] [[0, 1, 2, 3, 5, 6, 7, 4, 8], [9], [10, 11]] mixed (by kernel_rfl) (.go [ptc bo _ _] (by repeat' constructor) (.mv rfl rfl (.kv rfl (.fieldAddr rfl fo_43_1) (.kv rfl (.ld rfl ag_3) (.m rfl (by kernel_rfl) (.c Tryz.func11 [_, _] (pick18_spec xs[i].n 40 ho.n (by decide))) (by repeat' constructor) ?_)))))
     refine D.k rfl (.move rfl) (.k rfl (.fieldAddr rfl fo_43_1) (.k rfl (.ld rfl ag_3) (.hh rfl (.c Tryz.func23 [_, _] (arm_spec d s.δ (pickZ xs[i].n 40) (by omega))) ?_)))
     rintro v L' ⟨rfl, rfl⟩
     refine D.m rfl (by kernel_rfl) (.c Tryz.func11 [_, _] (pick18_spec xs[i].n 40 ho.n (by decide))) (by repeat' constructor) ?_
     refine D.ph (.g0 (.hh rfl (.c Tryz.func24 [_, _] (dsarm_spec xr s.δ (pickZ xs[i].n 40) (by omega) (by omega))) ?_))
     rintro v L' ⟨rfl, rfl⟩
     refine D.ph (.g0 (.kv rfl (.as (v' := .bool true) (by simp) (.int rfl rfl rfl)) (.kv rfl (.assign rfl) (.ph (.fin (.blk_n (.then_n ?_)))))))
     have hz : (stepG Φ s xs[i]) = (Φ, ⟨(s.δ.arm (pickZ xs[i].n 40)).1, s.ω, s.Λ⟩, none) := by unfold stepG; rw [if_neg h64, if_neg h75, if_pos h82]
     rw [hz]
     exact .mk (()) (trivial) ⟨rfl, rfl, rfl, rfl, rfl, rfl, rfl, rfl, rfl, rfl, rfl, rfl, rfl, rfl, rfl, rfl, rfl, rfl, rfl, rfl, rfl, rfl, trivial⟩
    refine .draw [3, 7, 8] [[0, 1, 2, 4, 5, 6, 3], [7], [8], [9]] mixed (by kernel_rfl) (.go [ptc bo _ _] (by repeat' constructor) (.mv rfl rfl (.kv rfl (.fieldAddr rfl fo_43_3) (.kv rfl (.loadAs (vs := msC xs[i].m) rfl ag_41 (by repeat' constructor) (by simp [st18C, msC]) rfl) (.k rfl (.move rfl) (.k rfl (.fieldAddr rfl fo_43_3) (.k rfl (.loadAs (vs := msC xs[i].m) rfl ag_41 (by repeat' constructor) (by simp [st18C, msC]) rfl) (.hh rfl (.c Tryz.func13 [_, _] (fhear_spec f g x d Φ s.δ s.ω s.Λ xs[i].m p (6000000 + (i : Int) * 3000000000000) ho.m hK.l (by omega))) ?_))))))))
    rintro v L' ⟨a1, c1, rfl, rfl⟩; rw [show hearF Φ ⟨s.δ, s.ω, s.Λ⟩ xs[i].m = hearF Φ s xs[i].m from rfl]
    refine D.ph (.g0 (.hh rfl (.c Tryz.func25 [_, _] (rhear_spec r y w xr Φ s.δ s.ω s.Λ xs[i].m p (6000000 + (i : Int) * 3000000000000) ho.m hK.l (by omega))) ?_))
    rintro v L' ⟨a2, c2, rfl, rfl⟩; rw [show hearF Φ ⟨s.δ, s.ω, s.Λ⟩ xs[i].m = hearF Φ s xs[i].m from rfl]
    refine D.ph (.g0 (.hh rfl (.c Tryz.func19 [_, _] (outs_spec Φ.ld (hearF Φ s xs[i].m).2.2 (hear_S hS hK.l (by omega) ho.m).2 a1 a2 c1 c2)) ?_))
    rintro v L' ⟨rfl, rfl⟩
    refine D.ph (.g0 (.kv rfl (.assign rfl) (.ph (.fin (.blk_n (.then_n ?_))))))
    have hz : (stepG Φ s xs[i]) = hearF Φ s xs[i].m := by unfold stepG; rw [if_neg h64, if_neg h75, if_neg h82]
    rw [hz]
    exact .mk (()) (trivial) ⟨rfl, rfl, rfl, rfl, rfl, rfl, rfl, rfl, rfl, rfl, rfl, rfl, rfl, rfl, rfl, rfl, rfl, rfl, rfl, rfl, rfl, rfl, trivial⟩
   rintro _u _
   obtain ⟨u, hu⟩ : ∃ u, (stepG Φ s xs[i]) = u := ⟨_, rfl⟩
   rw [hu] at hN ⊢
   have hli2 := hN.1.l.w.i
   refine .seq (.sm rfl (.u (.not rfl) (.m rfl (.grun (t := 97) rfl rfl rfl (.m rfl (.grun (t := 97) rfl rfl rfl (.cv Tryz.func14 [_] (fcom_spec f g u.1) ?_)))))))
   refine .grun (t := 97) rfl rfl rfl (.m rfl (.grun (t := 97) rfl rfl rfl (.cv Tryz.func26 [_] (rcom_spec r y u.1) ?_)))
   refine .grun (t := 97) rfl rfl rfl (.q (.as (v' := .bool false) (by simp) (.int rfl rfl rfl)) rfl (.u (.pickF rfl rfl) (.m rfl (.grun (t := 104) rfl rfl rfl (.m rfl (.grun (t := 104) rfl rfl rfl (.cv Tryz.func15 [_] (fup_spec f g u.1) ?_)))))))
   refine .grun (t := 104) rfl rfl rfl (.m rfl (.grun (t := 104) rfl rfl rfl (.cv Tryz.func27 [_] (rup_spec r y u.1) ?_)))
   refine .grun (t := 104) rfl rfl rfl (.q (.as (v' := .bool false) (by simp) (.boolne rfl rfl Tryz.underlying4)) rfl (.u (.pickF rfl rfl) (.m rfl (.grun (t := 111) rfl rfl rfl (.m rfl (.grun (t := 111) rfl rfl rfl (.cv Tryz.func10 [_] (flost_spec f g u.1) ?_)))))))
   refine .grun (t := 111) rfl rfl rfl (.m rfl (.grun (t := 111) rfl rfl rfl (.cv Tryz.func28 [_] (rlost_spec r y u.1) ?_)))
   refine .grun (t := 111) rfl rfl rfl (.q (.as (v' := .bool false) (by simp) (.boolne rfl rfl Tryz.underlying4)) rfl (.u (.pickF rfl rfl) (.nt (.condF rfl (.sk (.seq (.rgOpen (y := y) (by repeat' constructor) fun a c es hE => (.draw [] [[0, 1, 2, 3, 4, 5, 6, 7, 8, 9, 10, 11, 12, 13, 14, 15, 16, 17, 18, 19, 20, 21, 22, 23, 24, 25, 26, 27, 28, 29, 30, 31, 32, 33, 34, 35]] mixed (by kernel_rfl) (.go [lgR g x u.2.1.Λ, gc9 y w u.2.1.Λ.base u.2.1.Λ.snap (.slice a es.length c) u.2.1.Λ.acc u.2.1.Λ.cur u.2.1.Λ.doubt, es9 (.slice a es.length c) es] (by repeat' constructor) (.mv rfl rfl (.m rfl (by kernel_rfl) (.c Tryz.func9 [_] (llast_spec g x u.2.1.Λ hli2)) (by repeat' constructor) ?_)))))))))))
   refine D.mv rfl rfl (.m rfl (by kernel_rfl) (.c Tryz.func29 [_] (r9last_spec y w u.2.1.Λ.base u.2.1.Λ.snap a c u.2.1.Λ.acc u.2.1.Λ.cur u.2.1.Λ.doubt es hE.n)) (by repeat' constructor) ?_)
   rw [hE.lastF]
   refine D.kv rfl (.as (v' := .bool false) (by simp) (.int rfl rfl rfl)) (.mv rfl rfl (.gv rfl (.move rfl) (.gv rfl (.nilp rfl) (.gv rfl (.fieldAddr rfl fo_53_0) (.gm (t := 123) rfl rfl rfl (by kernel_rfl) (.c Tryz.func16 [_] (lacc_spec g x u.2.1.Λ)) (by repeat' constructor) ?_)))))
   refine D.gv rfl (.move rfl) (.gv rfl (.nilp rfl) (.gv rfl (.fieldAddr rfl fo_64_4) (.gv rfl (.ld rfl ag_3) (.gv rfl (.as (v' := .bool false) (by simp) (.int rfl rfl rfl)) (.kv rfl (.pickF rfl rfl) (.mv rfl rfl (.gv rfl (.move rfl) (.gv rfl (.nilp rfl) (.gv rfl (.fieldAddr rfl fo_53_0) (.gm (t := 134) rfl rfl rfl (by kernel_rfl) (.c Tryz.func17 [_] (lcur_spec g x u.2.1.Λ)) (by repeat' constructor) ?_))))))))))
   refine D.gv rfl (.move rfl) (.gv rfl (.nilp rfl) (.gv rfl (.fieldAddr rfl fo_64_5) (.gv rfl (.ld rfl ag_3) (.gv rfl (.as (v' := .bool false) (by simp) (.int rfl rfl rfl)) (.kv rfl (.pickF rfl rfl) (.mv rfl rfl (.gv rfl (.move rfl) (.gm (t := 145) rfl rfl rfl (by kernel_rfl) (.c Tryz.func30 [_] (lbase_spec g x u.2.1.Λ)) (by repeat' constructor) ?_))))))))
   refine D.gv rfl (.move rfl) (.gv rfl (.nilp rfl) (.gv rfl (.fieldAddr rfl fo_64_1) (.gv rfl (.ld rfl ag_3) (.gv rfl (.as (v' := .bool false) (by simp) (.int rfl rfl rfl)) (.kv rfl (.pickF rfl rfl) (.ph (.fin (.rg (y := y) (w := w) (u.2.1.Λ) a c es hE ?_))))))))
   refine .then_n (.condF rfl (.skip (.blk_n (.then_n (.region (.m rfl (.q (.add rfl rfl (by omega)) rfl (.an rfl ?_))))))))
   exact .rk ((i + 1, u.1, u.2.1)) (⟨by dsimp only; omega, by dsimp only; omega, ⟨hN.1.l.more (by dsimp only; omega), ⟨hN.1.i.sil, by have := hN.1.i.heard; dsimp only; omega⟩, hN.1.cur, hN.1.up, hN.1.zero⟩, hN.2⟩) (by dsimp only; omega) ⟨rfl, rfl, rfl, rfl, rfl, rfl, rfl, rfl, trivial⟩
  refine .exit (.then_e (.then_e (.blk_e (.then_n (.sr (.an rfl (.ret ?_)))))))
  exact .vv
 refine .kDF (t := 41) rfl h10_42 (.gk (.gk (.u (.pickF rfl rfl) (.nt (.condF rfl (.exit (.then_e (.then_e (.blk_e (.then_n (.sr (.an rfl (.ret ?_)))))))))))))
 exact .vv
open Go Go.ChangeShapes Go.WideShapes Go.ChangeAt Go.RowKit
section
variable {H : Type} {enc : TypeId × Value → H} {P : Program} {W W' : World}
theorem trodAll_old (hl : laidOutB P = true) (hb : Below W.heap.size W W') (sp : Nat → Bool) : ∀ (ts : List TypeId) (vs : List Value) (ds : List (DataW H)) (p : List MemPlace), (∀ t ∈ ts, P.readableRec t = true ∧ t < P.types.size) →
  DataW.TrodAll enc P W 0 (fun _ => true) true ts vs ds p → (∀ x ∈ p, x.block < W.heap.size) → (∀ x ∈ p, sp x.block = true) → DataW.TrodAll enc P W' 0 sp true ts vs ds p
 | [], vs, ds, p, _, h, _, _ => by
  obtain ⟨rfl, rfl, rfl⟩ := trodAll_nil h
  exact h
 | t :: ts, vs, ds, p, hr, h, hlt, hsp => by
  obtain ⟨v, vs1, d, ds1, a, b, rfl, rfl, rfl, h1, h2⟩ := trodAll_cons h
  have r := hr t (by simp)
  refine ⟨a, b, WideElems.Trod_stays hl r.1 r.2 h1 (fun x hx => hb.same (hlt x (by simp [hx]))) (fun x hx => hsp x (by simp [hx])), ?_, rfl⟩
  exact trodAll_old hl hb sp ts vs1 ds1 b (fun t ht => hr t (by simp [ht])) h2 (fun x hx => hlt x (by simp [hx])) (fun x hx => hsp x (by simp [hx]))
theorem settled {fn : Func} {s : ChangeSpec} {apart fresh handsOn again : Bool} {args : Array Value} {ds gs : List (DataW H)} {before : List MemPlace} {tb : TypeId}
  (hW : DataW.Whole enc P fn.params.toList s.vars apart W args.toList ds gs before) (hvars : s.vars = []) (hspec : ∀ gs', gs' = [] → s.fn H (ds ++ gs') = { results := [.lit (.bool true)], args := ds })
  (hres : fn.resultTypes = #[tb]) (htb : P.underlying tb = some .bool) (hl : laidOutB P = true) (hr : ∀ t ∈ fn.params.toList, P.readableRec t = true ∧ t < P.types.size) (hb : Below W.heap.size W W') :
  s.post enc P fn apart fresh handsOn again W args (.bool true) W' := by
 have hW' := hW
 have hlt := hW.lt
 obtain ⟨p, q, hA, hV, rfl, hfz, hnd⟩ := hW
 rw [hvars] at hV
 obtain ⟨rfl, rfl⟩ := trodVars_none hV
 have hs := hspec [] rfl
 have hargs : ∀ sp : Nat → Bool, (∀ x ∈ p, sp x.block = true) → DataW.TrodAll enc P W' 0 sp true fn.params.toList args.toList ds p := fun sp hsp =>
  trodAll_old hl hb sp _ _ _ _ hr hA (fun x hx => hlt x (by simp [hx])) hsp
 have hbool : ∀ (b : Nat) (sp : Nat → Bool) (hd : Bool), DataW.TrodAll enc P W' b sp hd fn.resultTypes.toList ((Value.bool true).resultList fn.resultTypes.size) [.lit (.bool true)] [] := by
  intro b sp hd
  rw [hres]
  exact trodAll_cons_mk (shut_bool htb _) trodAll_mk0
 refine ⟨ds, [], p ++ [], [], p, [], hW', ?_, ?_, ?_, hb.frame _, fun _ => ⟨ok_one hres rfl (okWide_bool_mk htb _), [.lit (.bool true)] ++ ds, [], p, ⟨p, [], ?_, ?_, by simp, ?_, ?_⟩, ?_⟩⟩
 ·rw [hs]; exact hbool _ _ _
 ·rw [hs]; exact hargs _ (fun x hx => by simpa using hlt x (by simp [hx]))
 ·rw [hs, hvars]; exact hV
 ·exact trodAll_append (hargs _ (fun _ _ => rfl)) (hbool _ _ _)
 ·rw [hvars]; exact hV
 ·intro b off hp
  rw [hb.frozen (p := ⟨b, off, none⟩) (hlt (.cell b off) (by simp [hp]))]
  exact hfz b off (by simp [hp])
 ·intro ha
  have := hnd ha
  simpa using this
 ·intro x hx _
  simp [hx]
theorem old_calls {f : FuncId} {args : Array Value} (h : Fn P f args [Old W] fun v L => v = .bool true ∧ L = [Old W]) :
  Calls P f args W fun e W' => e = .returned (.bool true) ∧ Below W.heap.size W W' := by
 have h0 : St [Old W] W := ⟨fun b => W.heap[b]?, fun _ => none, fun _ => .inr rfl, fun b o h => h, fun b o h => (by cases h), fun b hb => rfl, trivial⟩
 refine (h [] W h0).mono ?_
 rintro e W' ⟨v, L, ⟨rfl, rfl⟩, rfl, hs, hk⟩
 refine ⟨rfl, hk.os, hk.tape, hk.output, hk.size, fun k hk' => ?_⟩
 obtain ⟨h1, a1, hp⟩ := sep_head hs
 have e1 := hp k hk'
 have : ∃ o, W.heap[k]? = some o := ⟨_, Array.getElem?_eq_getElem hk'⟩
 obtain ⟨o, ho⟩ := this
 rw [ho] at e1 ⊢
 exact a1 _ _ e1
theorem old_rd {a : Addr} {len cap : Nat} {V : Nat → Value} (hc : ∀ i, i < len → W.cell? (a.add i) = some (V i)) (hle : len ≤ cap) : ∀ h : Hp, Old W h → rdS 1 h (.slice (some a) len cap) len ((List.range len).map V) := by
 intro h hold
 rcases Nat.eq_zero_or_pos len with rfl | hpos
 ·exact .inl ⟨rfl, rfl, some a, cap, rfl⟩
 ·obtain ⟨b, off, spot⟩ := a
  have h0 := hc 0 hpos
  have e0 : (⟨b, off, spot⟩ : Addr).add 0 = ⟨b, off, spot⟩ := by simp [Addr.add]
  rw [e0] at h0
  simp only [World.cell?] at h0
  rcases hw : W.heap[b]? with _ | o
  ·rw [hw] at h0; cases h0
  ·cases o with
   | cells c T fr =>
    rw [hw] at h0
    dsimp only at h0
    split at h0
    ·cases h0
    ·rename_i hsp
     have hspot : spot = none := by simpa using hsp
     subst hspot
     have hc' : ∀ i, i < len → c[off + i]? = some (V i) := by
      intro i hi
      have := hc i hi
      have e1 : (⟨b, off, none⟩ : Addr).add i = ⟨b, off + i, none⟩ := by
       simp only [Addr.add]; split
       ·rename_i h0; simp [h0]
       ·rfl
      rw [e1] at this
      simp only [World.cell?, hw] at this
      simpa using this
     have hlt : b < W.heap.size := by
      rcases Nat.lt_or_ge b W.heap.size with h' | h'
      ·exact h'
      ·rw [Array.getElem?_eq_none h'] at hw; cases hw
     have hlen : off + len ≤ c.size := by
      have := hc' (len - 1) (by omega)
      rcases Nat.lt_or_ge (off + (len - 1)) c.size with h' | h'
      ·omega
      ·rw [Array.getElem?_eq_none h'] at this; cases this
     refine .inr ⟨b, off, cap, c.toList, T, fr, rfl, by rw [hold b hlt, hw], ?_, by simpa using hlen, hle⟩
     apply List.ext_getElem?
     intro i
     rw [Nat.mul_one, List.getElem?_take, List.getElem?_map, List.getElem?_drop]
     split
     ·rename_i hi
      rw [List.getElem?_range hi]
      simpa using hc' i hi
     ·rename_i hi
      rw [List.getElem?_eq_none (by simpa using hi)]; rfl
   | _ => rw [hw] at h0; cases h0
theorem arg_int {t : TypeId} {r : Reach} {b0 : Nat} {v : Value} {d : DataW H} {ps : List MemPlace} (ht : P.underlying t = some (.int .i64)) (hval : Value.okWide P W r b0 t v)
  (h : DataW.Trod enc P W 0 (fun _ => true) true t v d ps) : ∃ n : Int, v = vint n ∧ d = .lit (.int .i64 n) ∧ -9223372036854775808 ≤ n ∧ n ≤ 9223372036854775807 := by
 obtain ⟨n, rfl, rfl, rfl, hwf⟩ := open_int ht hval h
 exact ⟨n, rfl, rfl, bounds_i64 hwf⟩
end
open Go Go.ChangeShapes Go.WideShapes Go.ChangeAt Go.RowKit
section
variable {H : Type} {enc : TypeId × Value → H} {P : Program} {W : World}
theorem string_vstr (s : ByteArray) : Value.string s = vstr s.data.toList := by cases s; rfl
end
open Go Go.ChangeShapes Go.WideShapes Go.ChangeAt Go.RowKit
section
variable {H : Type} {enc : TypeId × Value → H} {P : Program} {W : World}
theorem flat_at {α : Type} {sz : Nat} (f : Nat → List α) : ∀ n, (∀ i, i < n → (f i).length = sz) → ∀ j, j < n * sz → ((List.range n).flatMap f)[j]? = (f (j / sz))[j % sz]? ∧ ((List.range n).flatMap f).length = n * sz := by
 intro n
 induction n with
 | zero => intro _ j hj; omega
 | succ n ih =>
  intro hf j hj
  have hn := hf n (by omega)
  have hlen : ((List.range n).flatMap f).length = n * sz := by
   rcases Nat.eq_zero_or_pos (n * sz) with h0 | h0
   ·rcases Nat.eq_zero_or_pos n with h1 | h1
    ·subst h1; simp
    ·have : sz = 0 := by
      rcases Nat.eq_zero_or_pos sz with h2 | h2
      ·exact h2
      ·have := Nat.mul_pos h1 h2; omega
     subst this; omega
   ·exact (ih (fun i hi => hf i (by omega)) 0 h0).2
  have e : (List.range (n + 1)).flatMap f = (List.range n).flatMap f ++ f n := by simp [List.range_succ]
  have hm : (n + 1) * sz = n * sz + sz := by rw [Nat.add_mul, Nat.one_mul]
  rw [e]
  refine ⟨?_, by rw [List.length_append, hlen, hn, hm]⟩
  rcases Nat.lt_or_ge j (n * sz) with h | h
  ·rw [List.getElem?_append_left (by omega)]
   exact (ih (fun i hi => hf i (by omega)) j h).1
  ·rw [List.getElem?_append_right (by omega), hlen]
   have hs : 0 < sz := by omega
   have h1 : j / sz = n := by
    have : j < (n + 1) * sz := hj
    have a := Nat.div_lt_of_lt_mul (show j < sz * (n + 1) by rw [Nat.mul_comm]; exact this)
    have b := (Nat.le_div_iff_mul_le hs).2 h
    omega
   have h2 : j % sz = j - n * sz := by
    have := Nat.div_add_mod j sz
    rw [h1, Nat.mul_comm] at this; omega
   rw [h1, h2]
theorem rdS_regroup {sz n c c1 : Nat} {a : Option Addr} {ys : List Value} {h : Hp} (hr : rdS 1 h (.slice a (n * sz) c1) (n * sz) ys) (hc : n ≤ c) (hs : 0 < sz) : rdS sz h (.slice a n c) n ys := by
 rcases hr with ⟨h1, h2, -⟩ | ⟨b, off, cap, l, T, fr, hv, hb, h1, h2, h3⟩
 ·have : n = 0 := by
   rcases Nat.eq_zero_or_pos n with h0 | h0
   ·exact h0
   ·have := Nat.mul_pos h0 hs; omega
  subst this
  exact .inl ⟨rfl, h2, a, c, rfl⟩
 ·simp only [Value.slice.injEq] at hv
  obtain ⟨rfl, -, -⟩ := hv
  exact .inr ⟨b, off, c, l, T, fr, rfl, hb, by rw [← h1, Nat.mul_one], by rw [Nat.mul_one] at h2; exact h2, hc⟩
abbrev Reads (enc : TypeId × Value → H) (P : Program) (W : World) (fuel : Nat) (t : TypeId) (cs : List Value) (x : DataW H × List MemPlace) : Prop := DataW.trod enc P W 0 (fun _ => true) true fuel t cs = some x
theorem dec_int {t : TypeId} {fuel : Nat} {cs : List Value} {x : DataW H × List MemPlace} (ht : P.underlying t = some (.int .i64)) (h : Reads enc P W fuel t cs x) : ∃ n : Int, cs = [vint n] ∧ -9223372036854775808 ≤ n ∧ n ≤ 9223372036854775807 := by
 obtain ⟨n, rfl, -, hwf⟩ := DataW.trod_int ht h
 exact ⟨n, rfl, bounds_i64 hwf⟩
theorem dec_bool {t : TypeId} {fuel : Nat} {cs : List Value} {x : DataW H × List MemPlace} (ht : P.underlying t = some .bool) (h : Reads enc P W fuel t cs x) : ∃ b : Bool, cs = [.bool b] := by
 obtain ⟨b, rfl, -⟩ := DataW.trod_bool ht h
 exact ⟨b, rfl⟩
end
open Go Go.ChangeShapes Go.WideShapes Go.ChangeAt Go.RowKit
theorem bulk_pos {H : Type} (d : DataW H) : 1 ≤ Rows.uptoBulk d := by
 cases d with
 | lit l => cases l <;> simp [Rows.uptoBulk]
 | _ => simp [Rows.uptoBulk]
theorem bulk_part {H : Type} {d : DataW H} : ∀ {l : List (DataW H)}, d ∈ l → Rows.uptoBulk d ≤ Rows.uptoBulkAll l
 | x :: l, h => by
  unfold Rows.uptoBulkAll
  rcases List.mem_cons.1 h with rfl | h
  ·omega
  ·have := bulk_part h; omega
theorem bulk_count {H : Type} : ∀ l : List (DataW H), l.length ≤ Rows.uptoBulkAll l
 | [] => by simp
 | x :: l => by
  have h1 := bulk_pos x
  have h2 := bulk_count l
  unfold Rows.uptoBulkAll
  rw [List.length_cons]; omega
theorem bulk_sum {H : Type} : ∀ l : List (DataW H), (l.map Rows.uptoBulk).sum ≤ Rows.uptoBulkAll l
 | [] => by simp
 | x :: l => by
  have h2 := bulk_sum l
  unfold Rows.uptoBulkAll
  rw [List.map_cons, List.sum_cons]; omega
theorem bulk_small {H : Type} {l : List (DataW H)} (h : Rows.uptoSmall H l = true) {d : DataW H} (hd : d ∈ l) : Rows.uptoBulk d ≤ 1048576 :=
 Nat.le_trans (bulk_part hd) (of_decide_eq_true h)
instance : Inhabited Value := ⟨.bool false⟩
section
variable {H : Type} {enc : TypeId × Value → H} {P : Program} {W : World} {N : Nat}
theorem dec_int' {t : TypeId} {fuel : Nat} {cs : List Value} {x : DataW H × List MemPlace} (ht : P.underlying t = some (.int .i64)) (h : Reads enc P W fuel t cs x) : ∃ n : Int, cs = [vint n] ∧ (-9223372036854775808 ≤ n ∧ n ≤ 9223372036854775807) := by
 obtain ⟨n, h1, h2⟩ := dec_int ht h; exact ⟨n, h1, h2⟩
theorem dec_sliceV {Z : Type} [Inhabited Z] (toC : Z → List Value) (Q : Z → Prop) {t e : TypeId} {sz : Nat} {fuel : Nat} {cs : List Value} {x : DataW H × List MemPlace} (ht : P.underlying t = some (.slice e)) (hc : P.cellsOf e = sz) (hs : 0 < sz)
  (hdec : ∀ (n : Nat) (cs : List Value) (y : DataW H × List MemPlace), Reads enc P W n e cs y → Rows.uptoBulk y.1 ≤ N → ∃ z, cs = toC z ∧ Q z) (h : Reads enc P W fuel t cs x) (hb : Rows.uptoBulk x.1 ≤ N + 1) :
  ∃ z : Value × List Z, cs = [z.1] ∧ (∀ h : Hp, Old W h → rdS sz h z.1 z.2.length (z.2.flatMap toC)) ∧ z.2.length ≤ N ∧ ∀ y ∈ z.2, Q y := by
 subst hc
 rcases Go.Deep.open_slice ht h with ⟨rfl, rfl⟩ | ⟨a, len, cap, m, n, Dd, Pl, rfl, -, hl, hm, hmm, rfl, hx⟩
 ·exact ⟨(_, []), rfl, fun h _ => .inl ⟨rfl, rfl, none, 0, rfl⟩, by simp, by simp⟩
 ·simp only [if_true] at hmm
  subst hmm
  have hbl : len ≤ N := by
   have := bulk_count ((List.range len).map Dd)
   simp only [Rows.uptoBulk] at hb
   rw [List.length_map, List.length_range] at this
   omega
  have hbe : ∀ i, i < len → Rows.uptoBulk (Dd i) ≤ N := fun i hi => by
   have := bulk_part (d := Dd i) (l := (List.range len).map Dd) (List.mem_map_of_mem (by simpa using hi))
   simp only [Rows.uptoBulk] at hb
   omega
  obtain ⟨Zf, hZ⟩ := Go.Deep.choose_lt (α := Z) (p := fun i z => W.cells? 0 (a.add (i * P.cellsOf e)) (P.cellsOf e) = some (toC z) ∧ Q z) (n := len) (fun i hi => by
   obtain ⟨cs', h1, h2⟩ := hx i (by omega)
   obtain ⟨z, rfl, h3⟩ := hdec _ _ _ h2 (hbe i hi)
   exact ⟨z, h1, h3⟩)
  have hlenf : ∀ i, i < len → (toC (Zf i)).length = P.cellsOf e := fun i hi => (World.cells?_some (hZ i hi).1).2.1
  have hflat := flat_at (fun i => toC (Zf i)) len hlenf
  refine ⟨(_, (List.range len).map Zf), rfl, ?_, ?_, ?_⟩
  ·intro h hold
   dsimp only
   rw [List.length_map, List.length_range]
   refine rdS_regroup (c1 := len * P.cellsOf e) ?_ hl hs
   have e1 : ((List.range len).map Zf).flatMap toC = (List.range (len * P.cellsOf e)).map (fun j => ((List.range len).flatMap fun i => toC (Zf i)).getD j (.bool false)) := by
    rw [List.flatMap_map]
    apply List.ext_getElem?
    intro j
    rcases Nat.lt_or_ge j (len * P.cellsOf e) with hj | hj
    ·rw [List.getElem?_map, List.getElem?_range hj]
     have := (hflat j hj).2
     have hjl : j < ((List.range len).flatMap fun i => toC (Zf i)).length := by omega
     simp only [Option.map_some, List.getD_eq_getElem?_getD, List.getElem?_eq_getElem hjl, Option.getD_some]
    ·have : ((List.range len).flatMap fun i => toC (Zf i)).length = len * P.cellsOf e := by
      rcases Nat.eq_zero_or_pos (len * P.cellsOf e) with h0 | h0
      ·have : len = 0 := by
        rcases Nat.eq_zero_or_pos len with h1 | h1
        ·exact h1
        ·have := Nat.mul_pos h1 hs; omega
       subst this; simp
      ·exact (hflat 0 h0).2
     rw [List.getElem?_eq_none (by omega), List.getElem?_eq_none (by simpa using hj)]
   rw [e1]
   refine old_rd (W := W) (fun j hj => ?_) (Nat.le_refl _) h hold
   have hi : j / P.cellsOf e < len := Nat.div_lt_of_lt_mul (by rw [Nat.mul_comm]; exact hj)
   have hcell := (World.cells?_some (hZ (j / P.cellsOf e) hi).1).2.2 (j % P.cellsOf e) (Nat.mod_lt _ hs)
   rw [Addr.add_add, Nat.mul_comm, Nat.div_add_mod] at hcell
   rw [hcell]
   obtain ⟨f1, f2⟩ := hflat j hj
   rw [List.getD_eq_getElem?_getD, f1]
   have : j % P.cellsOf e < (toC (Zf (j / P.cellsOf e))).length := by rw [hlenf _ hi]; exact Nat.mod_lt _ hs
   simp [this]
  ·dsimp only; rw [List.length_map, List.length_range]; exact hbl
  ·intro z hz
   obtain ⟨i, hi, rfl⟩ := List.mem_map.1 hz
   exact (hZ i (by simpa using hi)).2
theorem dec_sliceQV {Z : Type} [Inhabited Z] (toC : Z → List Value) (Q : Nat → Z → Prop) {t e : TypeId} {sz : Nat} {fuel : Nat} {cs : List Value} {x : DataW H × List MemPlace} (ht : P.underlying t = some (.slice e)) (hc : P.cellsOf e = sz) (hs : 0 < sz)
  (hdec : ∀ (n : Nat) (cs : List Value) (y : DataW H × List MemPlace), Reads enc P W n e cs y → ∃ z, cs = toC z ∧ Q (Rows.uptoBulk y.1) z) (h : Reads enc P W fuel t cs x) (hb : Rows.uptoBulk x.1 ≤ N + 1) :
  ∃ (z : Value × List Z) (ws : List Nat), cs = [z.1] ∧ (∀ h : Hp, Old W h → rdS sz h z.1 z.2.length (z.2.flatMap toC)) ∧ z.2.length ≤ N ∧ ws.length = z.2.length ∧ ws.sum ≤ N ∧ (∀ w ∈ ws, 1 ≤ w) ∧ ∀ i (h1 : i < z.2.length) (h2 : i < ws.length), Q ws[i] z.2[i] := by
 subst hc
 rcases Go.Deep.open_slice ht h with ⟨rfl, rfl⟩ | ⟨a, len, cap, m, n, Dd, Pl, rfl, -, hl, hm, hmm, rfl, hx⟩
 ·exact ⟨(_, []), [], rfl, fun h _ => .inl ⟨rfl, rfl, none, 0, rfl⟩, by simp, rfl, by simp, (fun _ h => by cases h), (fun i h1 _ => by simp at h1)⟩
 ·simp only [if_true] at hmm
  subst hmm
  have hbl : len ≤ N := by
   have := bulk_count ((List.range len).map Dd)
   simp only [Rows.uptoBulk] at hb
   rw [List.length_map, List.length_range] at this
   omega
  have hall : ((List.range len).map fun i => Rows.uptoBulk (Dd i)).sum ≤ N := by
   have := bulk_sum ((List.range len).map Dd)
   rw [List.map_map] at this
   simp only [Rows.uptoBulk] at hb
   have e : ((List.range len).map fun i => Rows.uptoBulk (Dd i)) = (List.range len).map (Rows.uptoBulk ∘ Dd) := rfl
   rw [e]; omega
  obtain ⟨Zf, hZ⟩ := Go.Deep.choose_lt (α := Z) (p := fun i z => W.cells? 0 (a.add (i * P.cellsOf e)) (P.cellsOf e) = some (toC z) ∧ Q (Rows.uptoBulk (Dd i)) z) (n := len) (fun i hi => by
   obtain ⟨cs', h1, h2⟩ := hx i (by omega)
   obtain ⟨z, rfl, h3⟩ := hdec _ _ _ h2
   exact ⟨z, h1, h3⟩)
  have hlenf : ∀ i, i < len → (toC (Zf i)).length = P.cellsOf e := fun i hi => (World.cells?_some (hZ i hi).1).2.1
  have hflat := flat_at (fun i => toC (Zf i)) len hlenf
  refine ⟨(_, (List.range len).map Zf), (List.range len).map fun i => Rows.uptoBulk (Dd i), rfl, ?_, ?_, by simp, hall, ?_, ?_⟩
  ·intro h hold
   dsimp only
   rw [List.length_map, List.length_range]
   refine rdS_regroup (c1 := len * P.cellsOf e) ?_ hl hs
   have e1 : ((List.range len).map Zf).flatMap toC = (List.range (len * P.cellsOf e)).map (fun j => ((List.range len).flatMap fun i => toC (Zf i)).getD j (.bool false)) := by
    rw [List.flatMap_map]
    apply List.ext_getElem?
    intro j
    rcases Nat.lt_or_ge j (len * P.cellsOf e) with hj | hj
    ·rw [List.getElem?_map, List.getElem?_range hj]
     have := (hflat j hj).2
     have hjl : j < ((List.range len).flatMap fun i => toC (Zf i)).length := by omega
     simp only [Option.map_some, List.getD_eq_getElem?_getD, List.getElem?_eq_getElem hjl, Option.getD_some]
    ·have : ((List.range len).flatMap fun i => toC (Zf i)).length = len * P.cellsOf e := by
      rcases Nat.eq_zero_or_pos (len * P.cellsOf e) with h0 | h0
      ·have : len = 0 := by
        rcases Nat.eq_zero_or_pos len with h1 | h1
        ·exact h1
        ·have := Nat.mul_pos h1 hs; omega
       subst this; simp
      ·exact (hflat 0 h0).2
     rw [List.getElem?_eq_none (by omega), List.getElem?_eq_none (by simpa using hj)]
   rw [e1]
   refine old_rd (W := W) (fun j hj => ?_) (Nat.le_refl _) h hold
   have hi : j / P.cellsOf e < len := Nat.div_lt_of_lt_mul (by rw [Nat.mul_comm]; exact hj)
   have hcell := (World.cells?_some (hZ (j / P.cellsOf e) hi).1).2.2 (j % P.cellsOf e) (Nat.mod_lt _ hs)
   rw [Addr.add_add, Nat.mul_comm, Nat.div_add_mod] at hcell
   rw [hcell]
   obtain ⟨f1, f2⟩ := hflat j hj
   rw [List.getD_eq_getElem?_getD, f1]
   have : j % P.cellsOf e < (toC (Zf (j / P.cellsOf e))).length := by rw [hlenf _ hi]; exact Nat.mod_lt _ hs
   simp [this]
  ·dsimp only; rw [List.length_map, List.length_range]; exact hbl
  ·intro w hw
   obtain ⟨i, -, rfl⟩ := List.mem_map.1 hw
   exact bulk_pos _
  ·intro i h1 h2
   simp only [List.getElem_map, List.getElem_range]
   exact (hZ i (by simpa using h1)).2
/-! ### With weights: what is read weighs no more than its bulk -/
theorem dec_strW {t : TypeId} {fuel : Nat} {cs : List Value} {x : DataW H × List MemPlace} (ht : P.underlying t = some .string) (h : Reads enc P W fuel t cs x) : ∃ s : List UInt8, cs = [vstr s] ∧ s.length + 1 ≤ Rows.uptoBulk x.1 := by
 obtain ⟨s, rfl, rfl, -⟩ := DataW.trod_string ht h
 exact ⟨s.data.toList, by rw [string_vstr], by simp [Rows.uptoBulk]⟩
theorem dec_intW {t : TypeId} {fuel : Nat} {cs : List Value} {x : DataW H × List MemPlace} (ht : P.underlying t = some (.int .i64)) (h : Reads enc P W fuel t cs x) : ∃ n : Int, cs = [vint n] ∧ (-9223372036854775808 ≤ n ∧ n ≤ 9223372036854775807) ∧ 1 ≤ Rows.uptoBulk x.1 := by
 obtain ⟨n, h1, h2⟩ := dec_int' ht h; exact ⟨n, h1, h2, bulk_pos _⟩
theorem slice_shape {t e : TypeId} {fuel : Nat} {v : Value} {x : DataW H × List MemPlace} (ht : P.underlying t = some (.slice e)) (h : Reads enc P W fuel t [v] x) : ∃ a n c, v = .slice a n c := by
 rcases Go.Deep.open_slice ht h with ⟨hv, -⟩ | ⟨a, len, cap, m, n, Dd, Pl, hv, -⟩
 ·rw [List.cons.injEq] at hv; rw [hv.1]; exact ⟨_, _, _, rfl⟩
 ·rw [List.cons.injEq] at hv; rw [hv.1]; exact ⟨_, _, _, rfl⟩
theorem sum_le {Z : Type} {m : Z → Nat} : ∀ {l : List Z} {ws : List Nat}, ws.length = l.length → (∀ i (h1 : i < l.length) (h2 : i < ws.length), m l[i] ≤ ws[i]) → (l.map m).sum ≤ ws.sum
 | [], _, _, _ => by simp
 | z :: l, [], h, _ => by simp at h
 | z :: l, w :: ws, h, hq => by
  have h0 := hq 0 (by simp) (by simp)
  have h1 := sum_le (l := l) (ws := ws) (m := m) (by simpa using h) (fun i h1 h2 => hq (i + 1) (by simpa using h1) (by simpa using h2))
  rw [List.map_cons, List.sum_cons, List.sum_cons]
  have h0' : m z ≤ w := h0
  omega
theorem dec_sliceW {Z : Type} [Inhabited Z] (toC : Z → List Value) (Q : Z → Prop) (m : Z → Nat) {t e : TypeId} {sz : Nat} {fuel : Nat} {cs : List Value} {x : DataW H × List MemPlace} (ht : P.underlying t = some (.slice e)) (hc : P.cellsOf e = sz) (hs : 0 < sz)
  (hdec : ∀ (n : Nat) (cs : List Value) (y : DataW H × List MemPlace), Reads enc P W n e cs y → ∃ z, cs = toC z ∧ Q z ∧ m z ≤ Rows.uptoBulk y.1) (h : Reads enc P W fuel t cs x) :
  ∃ z : Value × List Z, cs = [z.1] ∧ (∀ h : Hp, Old W h → rdS sz h z.1 z.2.length (z.2.flatMap toC)) ∧ (∀ y ∈ z.2, Q y) ∧ z.2.length + 1 ≤ Rows.uptoBulk x.1 ∧ 1 + (z.2.map m).sum ≤ Rows.uptoBulk x.1 := by
 have hp := bulk_pos x.1
 obtain ⟨z, ws, h1, h2, h3, h4, h5, -, h7⟩ := dec_sliceQV (N := Rows.uptoBulk x.1 - 1) toC (fun B z => Q z ∧ m z ≤ B) ht hc hs hdec h (by omega)
 refine ⟨z, h1, h2, fun y hy => ?_, by omega, ?_⟩
 ·obtain ⟨i, hi, rfl⟩ := List.mem_iff_getElem.1 hy
  exact (h7 i hi (by omega)).1
 ·have := sum_le (m := m) h4 (fun i g1 g2 => (h7 i g1 g2).2)
  omega
theorem rd_shape {sz n : Nat} {v : Value} {ys : List Value} (hr : ∀ h : Hp, Old W h → rdS sz h v n ys) : ∃ a c, v = .slice a n c := by
 have h := hr (fun b => if b < W.heap.size then W.heap[b]? else none) (fun b hb => if_pos hb)
 rcases h with ⟨rfl, -, a, c, rfl⟩ | ⟨b, off, cap, l, T, fr, rfl, -⟩
 ·exact ⟨_, _, rfl⟩
 ·exact ⟨_, _, rfl⟩
end
open Go Go.ChangeShapes Go.WideShapes Go.ChangeAt Go.RowKit
def mAc (a : Ac) : Nat := 3 + a.2.length
def mPt (y : Pt) : Nat := 9 + y.path.length + y.data.length + (y.acl.map mAc).sum
def mEn (e : En) : Nat := mPt e.x + (e.subs.map mPt).sum
structure PtQ (p : HP) (y : Pt) : Prop where
 kind : I64 y.kind
 own : I64 y.own
 num : I64 y.num
 err : I64 y.err
 acl : ∀ h : Hp, p h → rdS 2 h y.aclV y.acl.length (y.acl.flatMap acC)
 ash : ∃ a n c, y.aclV = .slice a n c
 ssh : ∃ a n c, y.subsV = .slice a n c
 each : ∀ a ∈ y.acl, I64 a.1
structure EnQ (p : HP) (e : En) : Prop where
 zx : I64 e.zx
 ses : I64 e.ses
 xid : I64 e.xid
 x : PtQ p e.x
 subs : ∀ h : Hp, p h → rdS 8 h e.x.subsV e.subs.length (e.subs.flatMap ptC)
 each : ∀ y ∈ e.subs, PtQ p y
theorem sum_mem {α : Type} {m : α → Nat} : ∀ {l : List α} {x : α}, x ∈ l → m x ≤ (l.map m).sum
 | y :: l, x, h => by
  rw [List.map_cons, List.sum_cons]
  rcases List.mem_cons.1 h with rfl | h
  ·omega
  ·have := sum_mem (m := m) h; omega
theorem sum_many {α : Type} {m : α → Nat} (hm : ∀ x, 1 ≤ m x) : ∀ l : List α, l.length ≤ (l.map m).sum
 | [] => by simp
 | y :: l => by have := sum_many hm l; have := hm y; rw [List.map_cons, List.sum_cons, List.length_cons]; omega
theorem fm_weigh {α : Type} {f : α → Bs} {m : α → Nat} : ∀ {l : List α}, (∀ x ∈ l, (f x).length ≤ 20 * m x) → (l.flatMap f).length ≤ 20 * (l.map m).sum
 | [], _ => by simp
 | y :: l, h => by
  have h1 := h y (List.mem_cons_self ..)
  have h2 := fm_weigh (l := l) (m := m) (f := f) (fun x hx => h x (List.mem_cons_of_mem _ hx))
  rw [List.flatMap_cons, List.length_append, List.map_cons, List.sum_cons]; omega
theorem cntB_len {n : Nat} (h : n < U64) : (cntB n).length ≤ 10 := sev_len10 h
theorem acB_weigh {a : Ac} (h : AcI a) : (acB a).length ≤ 20 * mAc a := by
 have h1 := numB_len h.n
 have h2 := cntB_len h.s
 unfold acB txtB mAc
 rw [List.length_append, List.length_append]; omega
theorem PtQ.i {p : HP} {y : Pt} (h : PtQ p y) (hm : mPt y ≤ 1048576) : PtI y := by
 unfold mPt at hm
 have hl := sum_many (m := mAc) (fun a => by unfold mAc; omega) y.acl
 have hu : (1048576 : Nat) < U64 := by decide
 refine ⟨h.kind, h.own, h.num, h.err, by omega, by omega, by omega, fun a ha => ⟨h.each a ha, ?_⟩⟩
 have h1 := sum_mem (m := mAc) ha
 have h2 : mAc a = 3 + a.2.length := rfl
 omega
theorem ptB_weigh {p : HP} {y : Pt} (h : PtQ p y) (hm : mPt y ≤ 1048576) : (ptB y).length ≤ 20 * mPt y := by
 have hi := h.i hm
 have h1 := numB_len h.kind
 have h2 := cntB_len hi.path
 have h3 := cntB_len hi.data
 have h4 := cntB_len hi.many
 have h5 := numB_len h.own
 have h6 := numB_len h.num
 have h7 := numB_len h.err
 have h8 := fm_weigh (f := acB) (m := mAc) (l := y.acl) (fun a ha => acB_weigh (hi.acl a ha))
 rw [ptB_len]
 unfold aclB mPt
 rw [List.length_append]
 simp only [List.flatMap_cons, List.flatMap_nil, List.length_append, List.length_nil]
 omega
theorem EnQ.X {p : HP} {e : En} (h : EnQ p e) (hm : mEn e ≤ 1048576) : EnX p e := by
 unfold mEn at hm
 have hx : mPt e.x ≤ 1048576 := by omega
 have hs : ∀ y ∈ e.subs, mPt y ≤ 1048576 := fun y hy => by have := sum_mem (m := mPt) hy; omega
 have hl := sum_many (m := mPt) (fun a => by unfold mPt; omega) e.subs
 have hu : (1048576 : Nat) < U64 := by decide
 have hal : ∀ y : Pt, mPt y ≤ 1048576 → y.acl.length ≤ 1048576 := fun y hy => by
  have := sum_many (m := mAc) (fun a => by unfold mAc; omega) y.acl
  unfold mPt at hy; omega
 have hc : ∀ y, PtQ p y → isCell y.aclV = true ∧ isCell y.subsV = true := fun y hy => by
  obtain ⟨a, n, c, g⟩ := hy.ash
  obtain ⟨a', n', c', g'⟩ := hy.ssh
  rw [g, g']; exact ⟨rfl, rfl⟩
 refine ⟨⟨⟨⟨h.zx, h.ses, h.xid, h.x.i hx, by omega, fun y hy => (h.each y hy).i (hs y hy)⟩, h.x.acl, h.subs, fun y hy => (h.each y hy).acl⟩, ?_, ⟨by omega, hal _ hx, fun y hy => hal y (hs y hy)⟩, hc _ h.x, fun y hy => hc y (h.each y hy)⟩, fun y hy => (h.each y hy).ssh⟩
 have h1 := numB_len h.zx
 have h2 := numB_len h.ses
 have h3 := numB_len h.xid
 have h4 := ptB_weigh h.x hx
 have h5 := fm_weigh (f := ptB) (m := mPt) (l := e.subs) (fun y hy => ptB_weigh (h.each y hy) (hs y hy))
 have h6 := cntB_len (n := e.subs.length) (by omega)
 rw [enB_len]
 unfold subsB
 rw [List.length_append]
 simp only [List.flatMap_cons, List.flatMap_nil, List.length_append, List.length_nil]
 omega
instance : Inhabited Pt := ⟨pt0⟩
instance : Inhabited En := ⟨en0⟩
theorem decAc {H : Type} {enc : TypeId × Value → H} {W : World} (n : Nat) (cs : List Value) (y : DataW H × List MemPlace) (h : Reads enc Tryz.prog W n 258 cs y) : ∃ a : Ac, cs = acC a ∧ I64 a.1 ∧ mAc a ≤ Rows.uptoBulk y.1 := by
 obtain ⟨xs, m, -, rfl, hlen, hxs, hf⟩ := DataW.trod_struct Tryz.underlying258 h
 rw [show Tryz.prog.cellsOf 258 = 2 by kernel_rfl] at hlen
 obtain ⟨a0, a1, rfl⟩ : ∃ a0 a1, cs = [a0, a1] := by
  match cs, hlen with
  | [a0, a1], _ => exact ⟨a0, a1, rfl⟩
 obtain ⟨y0, y1, rfl⟩ : ∃ y0 y1, xs = [y0, y1] := by
  match xs, hxs with
  | [y0, y1], _ => exact ⟨y0, y1, rfl⟩
 try simp only [Rows.uptoBulk, Rows.uptoBulkAll, List.map_cons, List.map_nil]
 have g0 : Reads enc Tryz.prog W m 3 (([a0, a1] : List Value).drop 0 |>.take (Tryz.prog.cellsOf 3)) y0 := hf 0 _ rfl
 rw [show Tryz.prog.cellsOf 3 = 1 by kernel_rfl] at g0
 have p0 := bulk_pos y0.1
 obtain ⟨z0, e0, q0, r0⟩ := dec_intW Tryz.underlying3 g0
 try simp at e0
 have g1 : Reads enc Tryz.prog W m 9 (([a0, a1] : List Value).drop 1 |>.take (Tryz.prog.cellsOf 9)) y1 := hf 1 _ rfl
 rw [show Tryz.prog.cellsOf 9 = 1 by kernel_rfl] at g1
 have p1 := bulk_pos y1.1
 obtain ⟨z1, e1, r1⟩ := dec_strW Tryz.underlying9 g1
 try simp at e1
 subst e0
 subst e1
 exact ⟨(z0, z1), rfl, q0, by unfold mAc; dsimp only; omega⟩
theorem decPt {H : Type} {enc : TypeId × Value → H} {W : World} (n : Nat) (cs : List Value) (y : DataW H × List MemPlace) (h : Reads enc Tryz.prog W n 73 cs y) : ∃ y0 : Pt, cs = ptC y0 ∧ PtQ (Old W) y0 ∧ mPt y0 ≤ Rows.uptoBulk y.1 := by
 obtain ⟨xs, m, -, rfl, hlen, hxs, hf⟩ := DataW.trod_struct Tryz.underlying73 h
 rw [show Tryz.prog.cellsOf 73 = 8 by kernel_rfl] at hlen
 obtain ⟨a0, a1, a2, a3, a4, a5, a6, a7, rfl⟩ : ∃ a0 a1 a2 a3 a4 a5 a6 a7, cs = [a0, a1, a2, a3, a4, a5, a6, a7] := by
  match cs, hlen with
  | [a0, a1, a2, a3, a4, a5, a6, a7], _ => exact ⟨a0, a1, a2, a3, a4, a5, a6, a7, rfl⟩
 obtain ⟨y0, y1, y2, y3, y4, y5, y6, y7, rfl⟩ : ∃ y0 y1 y2 y3 y4 y5 y6 y7, xs = [y0, y1, y2, y3, y4, y5, y6, y7] := by
  match xs, hxs with
  | [y0, y1, y2, y3, y4, y5, y6, y7], _ => exact ⟨y0, y1, y2, y3, y4, y5, y6, y7, rfl⟩
 try simp only [Rows.uptoBulk, Rows.uptoBulkAll, List.map_cons, List.map_nil]
 have g0 : Reads enc Tryz.prog W m 3 (([a0, a1, a2, a3, a4, a5, a6, a7] : List Value).drop 0 |>.take (Tryz.prog.cellsOf 3)) y0 := hf 0 _ rfl
 rw [show Tryz.prog.cellsOf 3 = 1 by kernel_rfl] at g0
 have p0 := bulk_pos y0.1
 obtain ⟨z0, e0, q0, r0⟩ := dec_intW Tryz.underlying3 g0
 try simp at e0
 have g1 : Reads enc Tryz.prog W m 9 (([a0, a1, a2, a3, a4, a5, a6, a7] : List Value).drop 1 |>.take (Tryz.prog.cellsOf 9)) y1 := hf 1 _ rfl
 rw [show Tryz.prog.cellsOf 9 = 1 by kernel_rfl] at g1
 have p1 := bulk_pos y1.1
 obtain ⟨z1, e1, r1⟩ := dec_strW Tryz.underlying9 g1
 try simp at e1
 have g2 : Reads enc Tryz.prog W m 9 (([a0, a1, a2, a3, a4, a5, a6, a7] : List Value).drop 2 |>.take (Tryz.prog.cellsOf 9)) y2 := hf 2 _ rfl
 rw [show Tryz.prog.cellsOf 9 = 1 by kernel_rfl] at g2
 have p2 := bulk_pos y2.1
 obtain ⟨z2, e2, r2⟩ := dec_strW Tryz.underlying9 g2
 try simp at e2
 have g3 : Reads enc Tryz.prog W m 34 (([a0, a1, a2, a3, a4, a5, a6, a7] : List Value).drop 3 |>.take (Tryz.prog.cellsOf 34)) y3 := hf 3 _ rfl
 rw [show Tryz.prog.cellsOf 34 = 1 by kernel_rfl] at g3
 have p3 := bulk_pos y3.1
 obtain ⟨⟨v3, l3⟩, e3, k3, q3, c3, r3⟩ := dec_sliceW acC (fun a => I64 a.1) mAc Tryz.underlying34 (show Tryz.prog.cellsOf 258 = 2 by kernel_rfl) (by decide) (fun n cs y h => decAc n cs y h) g3
 dsimp only at e3 k3 q3 c3 r3
 obtain ⟨sa3, sc3, hs3⟩ := rd_shape k3
 have sh3 : ∃ a n c, v3 = .slice a n c := ⟨_, _, _, hs3⟩
 try simp at e3
 have g4 : Reads enc Tryz.prog W m 3 (([a0, a1, a2, a3, a4, a5, a6, a7] : List Value).drop 4 |>.take (Tryz.prog.cellsOf 3)) y4 := hf 4 _ rfl
 rw [show Tryz.prog.cellsOf 3 = 1 by kernel_rfl] at g4
 have p4 := bulk_pos y4.1
 obtain ⟨z4, e4, q4, r4⟩ := dec_intW Tryz.underlying3 g4
 try simp at e4
 have g5 : Reads enc Tryz.prog W m 3 (([a0, a1, a2, a3, a4, a5, a6, a7] : List Value).drop 5 |>.take (Tryz.prog.cellsOf 3)) y5 := hf 5 _ rfl
 rw [show Tryz.prog.cellsOf 3 = 1 by kernel_rfl] at g5
 have p5 := bulk_pos y5.1
 obtain ⟨z5, e5, q5, r5⟩ := dec_intW Tryz.underlying3 g5
 try simp at e5
 have g6 : Reads enc Tryz.prog W m 60 (([a0, a1, a2, a3, a4, a5, a6, a7] : List Value).drop 6 |>.take (Tryz.prog.cellsOf 60)) y6 := hf 6 _ rfl
 rw [show Tryz.prog.cellsOf 60 = 1 by kernel_rfl] at g6
 have p6 := bulk_pos y6.1
 obtain ⟨z6, e6, q6, r6⟩ := dec_intW Tryz.underlying60 g6
 try simp at e6
 have g7 : Reads enc Tryz.prog W m 71 (([a0, a1, a2, a3, a4, a5, a6, a7] : List Value).drop 7 |>.take (Tryz.prog.cellsOf 71)) y7 := hf 7 _ rfl
 rw [show Tryz.prog.cellsOf 71 = 1 by kernel_rfl] at g7
 have p7 := bulk_pos y7.1
 obtain ⟨z7, e7, s7⟩ : ∃ z : Value, a7 = z ∧ ∃ a n c, z = .slice a n c := ⟨_, rfl, slice_shape Tryz.underlying71 g7⟩
 try simp at e7
 subst e0
 subst e1
 subst e2
 subst e3
 subst e4
 subst e5
 subst e6
 subst e7
 exact ⟨⟨z0, z1, z2, a3, l3, z4, z5, z6, a7⟩, rfl, ⟨q0, q4, q5, q6, k3, sh3, s7, q3⟩, by unfold mPt; dsimp only; omega⟩
theorem decPtD {H : Type} {enc : TypeId × Value → H} {W : World} (n : Nat) (cs : List Value) (y : DataW H × List MemPlace) (h : Reads enc Tryz.prog W n 73 cs y) : ∃ (y0 : Pt) (l : List Pt), cs = ptC y0 ∧ PtQ (Old W) y0 ∧ (∀ h : Hp, Old W h → rdS 8 h y0.subsV l.length (l.flatMap ptC)) ∧ (∀ q ∈ l, PtQ (Old W) q) ∧ mPt y0 + (l.map mPt).sum ≤ Rows.uptoBulk y.1 := by
 obtain ⟨xs, m, -, rfl, hlen, hxs, hf⟩ := DataW.trod_struct Tryz.underlying73 h
 rw [show Tryz.prog.cellsOf 73 = 8 by kernel_rfl] at hlen
 obtain ⟨a0, a1, a2, a3, a4, a5, a6, a7, rfl⟩ : ∃ a0 a1 a2 a3 a4 a5 a6 a7, cs = [a0, a1, a2, a3, a4, a5, a6, a7] := by
  match cs, hlen with
  | [a0, a1, a2, a3, a4, a5, a6, a7], _ => exact ⟨a0, a1, a2, a3, a4, a5, a6, a7, rfl⟩
 obtain ⟨y0, y1, y2, y3, y4, y5, y6, y7, rfl⟩ : ∃ y0 y1 y2 y3 y4 y5 y6 y7, xs = [y0, y1, y2, y3, y4, y5, y6, y7] := by
  match xs, hxs with
  | [y0, y1, y2, y3, y4, y5, y6, y7], _ => exact ⟨y0, y1, y2, y3, y4, y5, y6, y7, rfl⟩
 try simp only [Rows.uptoBulk, Rows.uptoBulkAll, List.map_cons, List.map_nil]
 have g0 : Reads enc Tryz.prog W m 3 (([a0, a1, a2, a3, a4, a5, a6, a7] : List Value).drop 0 |>.take (Tryz.prog.cellsOf 3)) y0 := hf 0 _ rfl
 rw [show Tryz.prog.cellsOf 3 = 1 by kernel_rfl] at g0
 have p0 := bulk_pos y0.1
 obtain ⟨z0, e0, q0, r0⟩ := dec_intW Tryz.underlying3 g0
 try simp at e0
 have g1 : Reads enc Tryz.prog W m 9 (([a0, a1, a2, a3, a4, a5, a6, a7] : List Value).drop 1 |>.take (Tryz.prog.cellsOf 9)) y1 := hf 1 _ rfl
 rw [show Tryz.prog.cellsOf 9 = 1 by kernel_rfl] at g1
 have p1 := bulk_pos y1.1
 obtain ⟨z1, e1, r1⟩ := dec_strW Tryz.underlying9 g1
 try simp at e1
 have g2 : Reads enc Tryz.prog W m 9 (([a0, a1, a2, a3, a4, a5, a6, a7] : List Value).drop 2 |>.take (Tryz.prog.cellsOf 9)) y2 := hf 2 _ rfl
 rw [show Tryz.prog.cellsOf 9 = 1 by kernel_rfl] at g2
 have p2 := bulk_pos y2.1
 obtain ⟨z2, e2, r2⟩ := dec_strW Tryz.underlying9 g2
 try simp at e2
 have g3 : Reads enc Tryz.prog W m 34 (([a0, a1, a2, a3, a4, a5, a6, a7] : List Value).drop 3 |>.take (Tryz.prog.cellsOf 34)) y3 := hf 3 _ rfl
 rw [show Tryz.prog.cellsOf 34 = 1 by kernel_rfl] at g3
 have p3 := bulk_pos y3.1
 obtain ⟨⟨v3, l3⟩, e3, k3, q3, c3, r3⟩ := dec_sliceW acC (fun a => I64 a.1) mAc Tryz.underlying34 (show Tryz.prog.cellsOf 258 = 2 by kernel_rfl) (by decide) (fun n cs y h => decAc n cs y h) g3
 dsimp only at e3 k3 q3 c3 r3
 obtain ⟨sa3, sc3, hs3⟩ := rd_shape k3
 have sh3 : ∃ a n c, v3 = .slice a n c := ⟨_, _, _, hs3⟩
 try simp at e3
 have g4 : Reads enc Tryz.prog W m 3 (([a0, a1, a2, a3, a4, a5, a6, a7] : List Value).drop 4 |>.take (Tryz.prog.cellsOf 3)) y4 := hf 4 _ rfl
 rw [show Tryz.prog.cellsOf 3 = 1 by kernel_rfl] at g4
 have p4 := bulk_pos y4.1
 obtain ⟨z4, e4, q4, r4⟩ := dec_intW Tryz.underlying3 g4
 try simp at e4
 have g5 : Reads enc Tryz.prog W m 3 (([a0, a1, a2, a3, a4, a5, a6, a7] : List Value).drop 5 |>.take (Tryz.prog.cellsOf 3)) y5 := hf 5 _ rfl
 rw [show Tryz.prog.cellsOf 3 = 1 by kernel_rfl] at g5
 have p5 := bulk_pos y5.1
 obtain ⟨z5, e5, q5, r5⟩ := dec_intW Tryz.underlying3 g5
 try simp at e5
 have g6 : Reads enc Tryz.prog W m 60 (([a0, a1, a2, a3, a4, a5, a6, a7] : List Value).drop 6 |>.take (Tryz.prog.cellsOf 60)) y6 := hf 6 _ rfl
 rw [show Tryz.prog.cellsOf 60 = 1 by kernel_rfl] at g6
 have p6 := bulk_pos y6.1
 obtain ⟨z6, e6, q6, r6⟩ := dec_intW Tryz.underlying60 g6
 try simp at e6
 have g7 : Reads enc Tryz.prog W m 71 (([a0, a1, a2, a3, a4, a5, a6, a7] : List Value).drop 7 |>.take (Tryz.prog.cellsOf 71)) y7 := hf 7 _ rfl
 rw [show Tryz.prog.cellsOf 71 = 1 by kernel_rfl] at g7
 have p7 := bulk_pos y7.1
 obtain ⟨⟨v7, l7⟩, e7, k7, q7, c7, r7⟩ := dec_sliceW ptC (fun q => PtQ (Old W) q) mPt Tryz.underlying71 (show Tryz.prog.cellsOf 73 = 8 by kernel_rfl) (by decide) (fun n cs y h => decPt n cs y h) g7
 dsimp only at e7 k7 q7 c7 r7
 obtain ⟨sa7, sc7, hs7⟩ := rd_shape k7
 have sh7 : ∃ a n c, v7 = .slice a n c := ⟨_, _, _, hs7⟩
 try simp at e7
 subst e0
 subst e1
 subst e2
 subst e3
 subst e4
 subst e5
 subst e6
 subst e7
 exact ⟨⟨z0, z1, z2, a3, l3, z4, z5, z6, a7⟩, l7, rfl, ⟨q0, q4, q5, q6, k3, sh3, sh7, q3⟩, k7, q7, by unfold mPt; dsimp only; unfold mPt at r7; omega⟩
theorem decEn {H : Type} {enc : TypeId × Value → H} {W : World} (n : Nat) (cs : List Value) (y : DataW H × List MemPlace) (h : Reads enc Tryz.prog W n 75 cs y) : ∃ e : En, cs = enC e ∧ EnQ (Old W) e ∧ mEn e ≤ Rows.uptoBulk y.1 := by
 obtain ⟨xs, m, -, rfl, hlen, hxs, hf⟩ := DataW.trod_struct Tryz.underlying75 h
 rw [show Tryz.prog.cellsOf 75 = 11 by kernel_rfl] at hlen
 obtain ⟨a0, a1, a2, a3, a4, a5, a6, a7, a8, a9, a10, rfl⟩ : ∃ a0 a1 a2 a3 a4 a5 a6 a7 a8 a9 a10, cs = [a0, a1, a2, a3, a4, a5, a6, a7, a8, a9, a10] := by
  match cs, hlen with
  | [a0, a1, a2, a3, a4, a5, a6, a7, a8, a9, a10], _ => exact ⟨a0, a1, a2, a3, a4, a5, a6, a7, a8, a9, a10, rfl⟩
 obtain ⟨y0, y1, y2, y3, rfl⟩ : ∃ y0 y1 y2 y3, xs = [y0, y1, y2, y3] := by
  match xs, hxs with
  | [y0, y1, y2, y3], _ => exact ⟨y0, y1, y2, y3, rfl⟩
 try simp only [Rows.uptoBulk, Rows.uptoBulkAll, List.map_cons, List.map_nil]
 have g0 : Reads enc Tryz.prog W m 3 (([a0, a1, a2, a3, a4, a5, a6, a7, a8, a9, a10] : List Value).drop 0 |>.take (Tryz.prog.cellsOf 3)) y0 := hf 0 _ rfl
 rw [show Tryz.prog.cellsOf 3 = 1 by kernel_rfl] at g0
 have p0 := bulk_pos y0.1
 obtain ⟨z0, e0, q0, r0⟩ := dec_intW Tryz.underlying3 g0
 try simp at e0
 have g1 : Reads enc Tryz.prog W m 3 (([a0, a1, a2, a3, a4, a5, a6, a7, a8, a9, a10] : List Value).drop 1 |>.take (Tryz.prog.cellsOf 3)) y1 := hf 1 _ rfl
 rw [show Tryz.prog.cellsOf 3 = 1 by kernel_rfl] at g1
 have p1 := bulk_pos y1.1
 obtain ⟨z1, e1, q1, r1⟩ := dec_intW Tryz.underlying3 g1
 try simp at e1
 have g2 : Reads enc Tryz.prog W m 3 (([a0, a1, a2, a3, a4, a5, a6, a7, a8, a9, a10] : List Value).drop 2 |>.take (Tryz.prog.cellsOf 3)) y2 := hf 2 _ rfl
 rw [show Tryz.prog.cellsOf 3 = 1 by kernel_rfl] at g2
 have p2 := bulk_pos y2.1
 obtain ⟨z2, e2, q2, r2⟩ := dec_intW Tryz.underlying3 g2
 try simp at e2
 have g3 : Reads enc Tryz.prog W m 73 (([a0, a1, a2, a3, a4, a5, a6, a7, a8, a9, a10] : List Value).drop 3 |>.take (Tryz.prog.cellsOf 73)) y3 := hf 3 _ rfl
 rw [show Tryz.prog.cellsOf 73 = 8 by kernel_rfl] at g3
 have p3 := bulk_pos y3.1
 obtain ⟨z3, l3, e3, q3, k3, s3, r3⟩ := decPtD _ _ _ g3
 try simp [ptC, enC] at e3
 subst e0
 subst e1
 subst e2
 obtain ⟨rfl, rfl, rfl, rfl, rfl, rfl, rfl, rfl⟩ := e3
 exact ⟨⟨z0, z1, z2, z3, l3⟩, rfl, ⟨q0, q1, q2, q3, k3, s3⟩, by unfold mEn; dsimp only; omega⟩
end Go.Proofs.YteebpmkkdlabpaaGreat
