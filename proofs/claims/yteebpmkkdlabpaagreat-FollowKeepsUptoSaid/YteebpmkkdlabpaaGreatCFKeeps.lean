/- Own work: followKeeps.proved: the given second form, from the walk in the other texts, for arguments of bounded bulk. -/
import Derived.Test.YteebpmkkdlabpaaGreatCFKeepsP2
import Derived.Test.YteebpmkkdlabpaaGreatCFKeepsP1
import Derived.Test.YteebpmkkdlabpaaGreatCFKeepsP0
import Derived.Test.YteebpmkkdlabpaaGreatRows
import Derived.WalkKit
import Derived.ProofKit
import Derived.OpenShut
import Derived.JoinedCond
import Derived.Carry
import Derived.Deep.Grids
import Derived.Handed
import Derived.Deep.Strs
set_option maxRecDepth 100000
namespace Go.Proofs.YteebpmkkdlabpaaGreat
open Go
theorem moC_cells (m : Mo) {mv : Value} (h : isCell mv = true) : ∀ v ∈ moC m mv, isCell v = true := by
 intro v hv
 simp only [moC, List.mem_cons, List.not_mem_nil, or_false] at hv
 rcases hv with h1 | h1 | h1 | h1 | h1 | h1 | h1 | h1 | h1 | h1 | h1 | h1 | h1 | h1 | h1 | h1 | h1 | h1 | h1 <;> subst h1 <;> first | rfl | exact h
theorem fill_out (ld : Int) (s0 s1 s2 s3 s4 s5 s6 s7 s8 s9 s10 s11 s12 s13 s14 s15 s16 s17 s18 : Value) : Instr.fill (fun i => [(0, 1), (1, 19)].toArray[i]?) ([.int .i64 0, .int .i64 0, .int .i64 0, .int .i64 0, .int .i64 0, .int .i64 0, .slice none 0 0, .string (bs []), .slice none 0 0, .int .i64 0, .int .i64 0, .string (bs []), .string (bs []), .slice none 0 0, .int .i64 0, .int .i64 0, .bool false, .slice none 0 0, .slice none 0 0, .slice none 0 0] : List Value).toArray [(0, vint ld), (1, .agg ([s0, s1, s2, s3, s4, s5, s6, s7, s8, s9, s10, s11, s12, s13, s14, s15, s16, s17, s18] : List Value).toArray)] = some ((vint ld :: [s0, s1, s2, s3, s4, s5, s6, s7, s8, s9, s10, s11, s12, s13, s14, s15, s16, s17, s18] : List Value).toArray) := by kernel_rfl
theorem say_spec (f g : Nat) (Φ : Fw) (m : Mo) (mv : Value) (hmv : isCell mv = true) : Fn Tryz.prog 57 #[vptr f, .agg (moC m mv).toArray] [fwR f g Φ] fun v L => ∃ b, v = .slice (some ⟨b, 0, none⟩) 1 1 ∧ L = [outT v Φ.ld m mv, fwR f g Φ] := by
 refine Fn.intro Tryz.func57 rfl rfl fun F W => ?_
 refine .fwOpen (f := f) (by repeat' constructor) fun ha hc => (.sr (.oq (.box rfl) ?_))
 rintro v L' ⟨b3, rfl, rfl⟩
 refine .a rfl (.nil (.ptCast (b := b3) (l' := moC m mv) (by repeat' constructor) (by exact rfl) (.then_n (.seq (.draw [6] [[0, 1, 2, 3, 4, 5, 6], [7]] mixed (by kernel_rfl) (.g0 (.mv rfl rfl (.nf rfl rfl rfl fo_104_0 (.kv rfl (.ld rfl ag_3) (.kv rfl (.loadAs (vs := moC m mv) rfl ag_41 (by repeat' constructor) (by simp [moC]) rfl) (.kv rfl (.to (v' := .agg (vint Φ.ld :: moC m mv).toArray) (.buildN (pl := [(0, 1), (1, 19)]) (us := [(0, vint Φ.ld), (1, .agg (moC m mv).toArray)]) (cells := vint Φ.ld :: moC m mv) Tryz.underlying94 (by kernel_rfl) ze_94 rfl (fill_out _ _ _ _ _ _ _ _ _ _ _ _ _ _ _ _ _ _ _ _)) rfl) (.hh rfl (.buildSlice (vs := [_]) el_45 ze_94 rfl rfl rfl rfl (by first | (simp [Value.cells]; done) | (intro v hv; simp only [List.mem_cons, List.not_mem_nil, or_false] at hv; (repeat (first | (subst hv; rfl) | (rcases hv with hv | hv; (subst hv; rfl)))))) (by decide)) ?_))))))))))))
 rintro v L' ⟨b6, rfl, rfl⟩
 refine D.ph (.g0 (.kv rfl (.assign rfl) (.pf (.ret (.fwFold (f := f) (g := g) (ha := ha) (hc := hc) (m := Φ.heard.length) Φ (by repeat' constructor) (by exact rfl) (by exact rfl) (by exact rfl) (.ptCast (b := b6) (l' := vint Φ.ld :: moC m mv) (by repeat' constructor) (by simp [Value.cells, moC]) (.fold (p := outT (.slice (some ⟨b6, 0, none⟩) 1 1) Φ.ld m mv) (.cons (p := ptc b6 _ _) (by repeat' constructor) .nil) (fun h hp => slR_pt (n := 1) (sz := 20) (sep_pt hp) rfl) ?_)))))))
 exact .dn rfl rfl ⟨b6, rfl, rfl⟩
theorem sayO_spec (f g : Nat) (Φ : Fw) (m : Mo) (mv : Value) (hmv : isCell mv = true) (ha : Option Addr) (hc : Nat) : Fn Tryz.prog 57 #[vptr f, .agg (moC m mv).toArray] [ptc f [vint Φ.ld, vptr g, vint Φ.ph, vint Φ.ep, vint Φ.com, vint Φ.sil, .slice ha Φ.heard.length hc] 104, intR (.slice ha Φ.heard.length hc) Φ.heard] fun v L => ∃ b, v = .slice (some ⟨b, 0, none⟩) 1 1 ∧ L = [outT v Φ.ld m mv, fwR f g Φ] := by
 intro F w hs
 have hs' : St ([fwR f g Φ] ++ F) w := sep_imp (p := sep [ptc f [vint Φ.ld, vptr g, vint Φ.ph, vint Φ.ep, vint Φ.com, vint Φ.sil, .slice ha Φ.heard.length hc] 104, intR (.slice ha Φ.heard.length hc) Φ.heard]) (fun _ hp => ⟨(ha, hc), trivial, hp⟩) (sep_fold (L1 := [ptc f [vint Φ.ld, vptr g, vint Φ.ph, vint Φ.ep, vint Φ.com, vint Φ.sil, .slice ha Φ.heard.length hc] 104, intR (.slice ha Φ.heard.length hc) Φ.heard]) hs)
 exact say_spec f g Φ m mv hmv F w hs'
theorem lose_spec (f g : Nat) (Φ : Fw) : Fn Tryz.prog 50 #[vptr f] [fwR f g Φ] fun v L => v = .slice none 0 0 ∧ L = [fwR f g Φ.lose] := by
 refine Fn.intro Tryz.func50 rfl rfl fun F W => ?_
 refine .fwOpen (f := f) (by repeat' constructor) fun ha hc => (.sr (.an rfl (.sm rfl (.nf rfl fo_104_2 (.st rfl rfl rfl sz_3 ?_)))))
 refine .nt (.sr (.an rfl (.ret (.fwFold (f := f) (g := g) (ha := ha) (hc := hc) (m := Φ.heard.length) Φ.lose (by repeat' constructor) (by exact rfl) (by exact rfl) (by exact rfl) ?_))))
 exact .vv
theorem fcom_spec (f g : Nat) (Φ : Fw) : Fn Tryz.prog 14 #[vptr f] [fwR f g Φ] fun v L => v = vint Φ.com ∧ L = [fwR f g Φ] := by
 refine Fn.intro Tryz.func14 rfl rfl fun F W => ?_
 refine .fwOpen (f := f) (by repeat' constructor) fun ha hc => (.sr (.an rfl (.sm rfl (.nf rfl fo_104_4 (.u (.ld rfl ag_3) (.an rfl (.ret (.fwFold (f := f) (g := g) (ha := ha) (hc := hc) (m := Φ.heard.length) Φ (by repeat' constructor) (by exact rfl) (by exact rfl) (by exact rfl) ?_))))))))
 exact .vv
theorem fup_spec (f g : Nat) (Φ : Fw) : Fn Tryz.prog 15 #[vptr f] [fwR f g Φ] fun v L => v = .bool (decide (Φ.ph = 3)) ∧ L = [fwR f g Φ] := by
 refine Fn.intro Tryz.func15 rfl rfl fun F W => ?_
 refine .fwOpen (f := f) (by repeat' constructor) fun ha hc => (.sr (.an rfl (.sm rfl (.nf rfl fo_104_2 (.u (.ld rfl ag_3) (.ui rfl rfl rfl (.an rfl (.ret (.fwFold (f := f) (g := g) (ha := ha) (hc := hc) (m := Φ.heard.length) Φ (by repeat' constructor) (by exact rfl) (by exact rfl) (by exact rfl) ?_)))))))))
 exact .vv
theorem flost_spec (f g : Nat) (Φ : Fw) : Fn Tryz.prog 10 #[vptr f] [fwR f g Φ] fun v L => v = .bool (decide (Φ.ph = 4)) ∧ L = [fwR f g Φ] := by
 refine Fn.intro Tryz.func10 rfl rfl fun F W => ?_
 refine .fwOpen (f := f) (by repeat' constructor) fun ha hc => (.sr (.an rfl (.sm rfl (.nf rfl fo_104_2 (.u (.ld rfl ag_3) (.ui rfl rfl rfl (.an rfl (.ret (.fwFold (f := f) (g := g) (ha := ha) (hc := hc) (m := Φ.heard.length) Φ (by repeat' constructor) (by exact rfl) (by exact rfl) (by exact rfl) ?_)))))))))
 exact .vv
theorem fnew_spec (ld : Int) (g : Nat) : Fn Tryz.prog 8 #[vint ld, vptr g] [] fun v L => ∃ f, v = vptr f ∧ L = [fwR f g ⟨ld, 0, 0, 0, 0, []⟩] := by
 refine Fn.intro Tryz.func8 rfl rfl fun F W => ?_
 refine .sr (.an rfl (.sm rfl (.m rfl (.q (.build (us := [(0, _), (1, _)]) fl_104 ze_104 rfl rfl (by simp [isCell])) rfl (.oq (.box rfl) ?_)))))
 rintro v L' ⟨f, rfl, rfl⟩
 refine .an rfl (.ret (.add (slR_nil 3 1) (.fwFold (f := f) (g := g) (ha := none) (hc := 0) (m := 0) (hs := []) ⟨ld, 0, 0, 0, 0, []⟩ (by repeat' constructor) (by exact rfl) (by exact rfl) (by exact rfl) ?_)))
 exact .dn rfl rfl ⟨f, rfl, rfl⟩
theorem fstart_spec (f g x : Nat) (Φ : Fw) (δ : Dk) (ω : Wl) (Λ : Lg) : Fn Tryz.prog 21 #[vptr f] [fwR f g Φ, lgR g x Λ] fun v L => ∃ a c, v = .slice a (onN (startF Φ ⟨δ, ω, Λ⟩)) c ∧ L = [fwR f g Φ, lgR g x Λ, outR v Φ.ld (startF Φ ⟨δ, ω, Λ⟩)] := by
 refine Fn.intro Tryz.func21 rfl rfl fun F W => ?_
 refine .fwOpen (f := f) (by repeat' constructor) fun ha hc => (.sr (.an rfl (.seq (.sm rfl (.nf rfl fo_104_2 (.u (.ld rfl ag_3) (.ui rfl rfl rfl (.nt (.condD rfl (fun h7 => ?_) (fun h7 => ?_))))))))))
 ·refine .sr (.an rfl (.rt ?_))
  have hr : startF Φ ⟨δ, ω, Λ⟩ = none := by unfold startF; rw [if_pos h7]
  rw [hr]
  refine .fwFold (f := f) (g := g) (ha := ha) (hc := hc) (m := Φ.heard.length) Φ (by repeat' constructor) (by exact rfl) (by exact rfl) (by exact rfl) (.outNone Φ.ld ?_)
  exact .dn rfl rfl ⟨_, _, rfl, rfl⟩
 refine .sk (.sm rfl (.m rfl (.nf rfl fo_104_1 (.u (.ld rfl ag_25) (.nf rfl fo_53_0 (.cv Tryz.func16 [_] (lacc_spec g x Λ) ?_))))))
 refine .q (.to (v' := .agg (moC ⟨1, Λ.acc, 0, 0, []⟩ (.slice none 0 0)).toArray) (.buildN (pl := [(0, 1), (1, 1), (2, 1), (3, 1), (4, 1), (5, 1), (6, 1), (7, 1), (8, 10), (18, 1)]) (us := [(0, _), (1, _)]) (cells := moC ⟨1, Λ.acc, 0, 0, []⟩ (.slice none 0 0)) Tryz.underlying41 (by kernel_rfl) ze_41 rfl rfl) rfl) rfl (.fwFold (f := f) (g := g) (ha := ha) (hc := hc) (m := Φ.heard.length) Φ (by repeat' constructor) (by exact rfl) (by exact rfl) (by exact rfl) (.add (slR_nil 3 1) (.oq (.c Tryz.func57 [_, _] (say_spec f g (Φ) ⟨1, Λ.acc, 0, 0, []⟩ (.slice none 0 0) rfl)) ?_)))
 rintro v L' ⟨bs, rfl, rfl⟩
 refine .an rfl (.ret ?_)
 have hr : startF Φ ⟨δ, ω, Λ⟩ = some ⟨1, Λ.acc, 0, 0, []⟩ := by unfold startF; rw [if_neg h7]
 rw [hr]
 refine .outFold (v := .slice (some ⟨bs, 0, none⟩) 1 1) (mv := .slice none 0 0) (k := 0) ⟨1, Λ.acc, 0, 0, []⟩ (by repeat' constructor) (by exact rfl) (by exact rfl) (by exact rfl) ?_
 exact .dn rfl rfl ⟨_, _, rfl, rfl⟩
def TakenTo (es : List En) (s0 : Ld) (i : Nat) (s : Ld) : Prop := takeZ es s0 = takeZ (es.drop i) s
theorem taken_step {es : List En} {s0 s : Ld} {i : Nat} (h : TakenTo es s0 i s) (hi : i < es.length) (h0 : (lgAppend s es[i]).2 = 0) : TakenTo es s0 (i + 1) (lgAppend s es[i]).1 := by
 unfold TakenTo at h ⊢
 rw [h, List.drop_eq_getElem_cons hi]
 show (if _ then _ else _) = _
 rw [if_neg (fun g => g h0)]
theorem taken_bad {es : List En} {s0 s : Ld} {i : Nat} (h : TakenTo es s0 i s) (hi : i < es.length) (h0 : (lgAppend s es[i]).2 ≠ 0) : takeZ es s0 = lgAppend s es[i] := by
 unfold TakenTo at h
 rw [h, List.drop_eq_getElem_cons hi]
 show (if _ then _ else _) = _
 rw [if_pos h0]
theorem taken_end {es : List En} {s0 s : Ld} {i : Nat} (h : TakenTo es s0 i s) (hi : ¬ i < es.length) : takeZ es s0 = lgSync s := by
 unfold TakenTo at h
 rw [h, List.drop_eq_nil_of_le (by omega)]
 rfl
theorem ftake_spec (f g x d : Nat) (Φ : Fw) (δ : Dk) (ω : Wl) (Λ : Lg) (va : Value) (es : List En) (p : HP) (N : Int) (hP : LPs ⟨δ, ω, Λ⟩ N) (hN : N + 10000000 + 2000000 * (es.length : Int) < 4611686018427387904) (hcells : ∀ h : Hp, p h → rdS 11 h va es.length (es.flatMap enC)) (hel : es.length ≤ 1048576) (hx : ∀ e ∈ es, EnX p e) : Fn Tryz.prog 96 #[vptr f, va] [fwR f g Φ, lgR g x Λ, wlR x d ω, dkR d δ, p] fun v L => v = .bool (decide ((takeZ es ⟨δ, ω, Λ⟩).2 = 0)) ∧ L = [fwR f g Φ, lgR g x (takeZ es ⟨δ, ω, Λ⟩).1.Λ, wlR x d (takeZ es ⟨δ, ω, Λ⟩).1.ω, dkR d (takeZ es ⟨δ, ω, Λ⟩).1.δ, p] := by
 refine Fn.intro Tryz.func96 rfl rfl fun F W => ?_
 refine .rdAny (p := p) hcells (by repeat' constructor) fun aa ca e _ => ?_
 subst e
 refine .fwOpen (f := f) (by repeat' constructor) fun ha hc => (.sr (.an rfl (.seq (.sm rfl (.q (.slen rfl Tryz.underlying33 rfl) rfl (.m rfl (.nt (.block (.loopK (ι := Nat × Ld) (fun q E => (9, vint q.1) :: E) (fun q => [lgR g x (q.2).Λ, wlR x d (q.2).ω, dkR d (q.2).δ]) (fun q => q.1 ≤ es.length ∧ TakenTo es ⟨δ, ω, Λ⟩ q.1 q.2 ∧ LPs q.2 (N + q.1 * 2000000)) (fun q => es.length - q.1) (0, ⟨δ, ω, Λ⟩) (ts := [0, 7, 8]) (.cons rfl (.cons rfl (.cons rfl (.nil)))) (⟨Nat.zero_le _, rfl, hP.more (by dsimp only; omega)⟩) ⟨rfl, rfl, rfl, rfl, trivial⟩ (by repeat' constructor) ?_)))))))))
 rintro ⟨i, s⟩ ⟨hi, ht, hL⟩
 dsimp only
 dsimp only at hi ht hL
 refine .sr (.ui rfl rfl rfl (.nt (.seq (.condD rfl (fun h10 => ?_) (fun h10 => ?_)))))
 ·have hi2 : i < es.length := by omega
  have hxe := hx _ (List.getElem_mem hi2)
  have hwi := hL.wk.i (by omega)
  have hli := hL.w.i
  refine .rdShape (p := p) hcells (by repeat' constructor) (by omega) fun ba oa e => ?_
  subst e
  refine .sk (.seq (.block (.sr (.q (.indexAddr rfl rfl el_33 (by omega)) rfl (.q (.loadRdA (sz := 11) (j := i * 11) (k := 11) (p := p) (vs := enC es[i]) rfl ag_75 (by repeat' constructor) hcells (by simp [enC, ptC]) (by omega) (by omega) (flatMap_at (f := enC) (sz := 11) (fun _ _ => rfl) hi2)) rfl (.oq (.allocA ze_75) ?_))))))
  rintro v L' ⟨b6, rfl, rfl⟩
  refine .oq (.storeA rfl rfl ?c10 sz_75 ?c13 ?c11 (nfz0 _ _)) ?_
  case c10 => exact hxe.l.cells
  case c13 => rfl
  case c11 => simp [enC, ptC]
  rintro v L' rfl
  refine .nil (.ptCast (b := b6) (l' := enC es[i]) (by repeat' constructor) (by exact rfl) (.then_n (.seq (.draw [5] [[0, 1, 2, 3, 4, 5], [6]] mixed (by kernel_rfl) (.g0 (.mv rfl rfl (.nf rfl rfl rfl fo_104_1 (.kv rfl (.ld rfl ag_25) (.kv rfl (.loadAs (vs := enC es[i]) rfl ag_75 (by repeat' constructor) (by simp [enC, ptC]) rfl) (.hh rfl (.c Tryz.func31 [_, _] (lappend_spec g x d s.δ s.ω s.Λ es[i] p hxe hwi hli)) ?_))))))))))
  rintro v L' ⟨rfl, rfl⟩; obtain ⟨r, hr⟩ : ∃ r, lgAppend s es[i] = r := ⟨_, rfl⟩; rw [show lgAppend ⟨s.δ, s.ω, s.Λ⟩ es[i] = r from hr]
  refine D.ph (.g0 (.kv rfl (.int rfl rfl rfl) (.pf (.condN rfl (fun h19 => ?_) (fun h19 => ?_)))))
  ·refine .sr (.an rfl (.ret (.blk_r (.then_r (.then_r (.blk_r (.then_r (.fwFold (f := f) (g := g) (ha := ha) (hc := hc) (m := Φ.heard.length) Φ (by repeat' constructor) (by exact rfl) (by exact rfl) (by exact rfl) ?_))))))))
   have hz : takeZ es ⟨δ, ω, Λ⟩ = r := (taken_bad ht hi2 (by rw [hr]; exact h19)).trans hr
   rw [hz]
   exact .dn rfl rfl ⟨by rw [decide_eq_false h19], rfl⟩
  rw [← hr]
  refine .skip (.blk_n (.then_n (.region (.q (.add rfl rfl (by omega)) rfl (.m rfl (.nt ?_))))))
  exact .rk ((i + 1, (lgAppend s es[i]).1)) (⟨by dsimp only; omega, taken_step ht hi2 (by rw [hr]; exact h19), (lps_append hL hxe.l.w.i).more (by dsimp only; omega)⟩) (by dsimp only; omega) ⟨rfl, rfl, rfl, rfl, trivial⟩
 have hwi := hL.wk.i (by omega)
 refine .exit (.then_e (.then_e (.blk_e (.then_n (.sm rfl (.nf rfl fo_104_1 (.u (.ld rfl ag_25) (.oq (.c Tryz.func34 [_] (lsync_spec g x d s.δ s.ω s.Λ hwi)) ?_))))))))
 rintro v L' ⟨rfl, rfl⟩; rw [show lgSync ⟨s.δ, s.ω, s.Λ⟩ = lgSync s from rfl]
 refine .ui rfl rfl rfl (.an rfl (.ret (.fwFold (f := f) (g := g) (ha := ha) (hc := hc) (m := Φ.heard.length) Φ (by repeat' constructor) (by exact rfl) (by exact rfl) (by exact rfl) ?_)))
 have hz : takeZ es ⟨δ, ω, Λ⟩ = lgSync s := taken_end ht (by omega)
 rw [hz]
 exact .vv
theorem ftakeO_spec (f g x d : Nat) (Φ : Fw) (δ : Dk) (ω : Wl) (Λ : Lg) (va : Value) (es : List En) (p : HP) (N : Int) (hP : LPs ⟨δ, ω, Λ⟩ N) (hN : N + 10000000 + 2000000 * (es.length : Int) < 4611686018427387904) (hcells : ∀ h : Hp, p h → rdS 11 h va es.length (es.flatMap enC)) (hel : es.length ≤ 1048576) (hx : ∀ e ∈ es, EnX p e) (ha : Option Addr) (hc : Nat) : Fn Tryz.prog 96 #[vptr f, va] [ptc f [vint Φ.ld, vptr g, vint Φ.ph, vint Φ.ep, vint Φ.com, vint Φ.sil, .slice ha Φ.heard.length hc] 104, intR (.slice ha Φ.heard.length hc) Φ.heard, lgR g x Λ, wlR x d ω, dkR d δ, p] fun v L => v = .bool (decide ((takeZ es ⟨δ, ω, Λ⟩).2 = 0)) ∧ L = [fwR f g Φ, lgR g x (takeZ es ⟨δ, ω, Λ⟩).1.Λ, wlR x d (takeZ es ⟨δ, ω, Λ⟩).1.ω, dkR d (takeZ es ⟨δ, ω, Λ⟩).1.δ, p] := by
 intro F w hs
 have hs' : St ([fwR f g Φ, lgR g x Λ, wlR x d ω, dkR d δ, p] ++ F) w := sep_imp (p := sep [ptc f [vint Φ.ld, vptr g, vint Φ.ph, vint Φ.ep, vint Φ.com, vint Φ.sil, .slice ha Φ.heard.length hc] 104, intR (.slice ha Φ.heard.length hc) Φ.heard]) (fun _ hp => ⟨(ha, hc), trivial, hp⟩) (sep_fold (L1 := [ptc f [vint Φ.ld, vptr g, vint Φ.ph, vint Φ.ep, vint Φ.com, vint Φ.sil, .slice ha Φ.heard.length hc] 104, intR (.slice ha Φ.heard.length hc) Φ.heard]) hs)
 exact ftake_spec f g x d Φ δ ω Λ va es p N hP hN hcells hel hx F w hs'
theorem faccept_spec (f g x d : Nat) (Φ : Fw) (δ : Dk) (ω : Wl) (Λ : Lg) (m : Ms) (p : HP) (N : Int) (hP : LPs ⟨δ, ω, Λ⟩ N) (hN : N + 10000000 < 4611686018427387904) : Fn Tryz.prog 53 #[vptr f, .agg (msC m).toArray] [fwR f g Φ, lgR g x Λ, wlR x d ω, dkR d δ, p] fun v L => ∃ a c, v = .slice a (onN (accF Φ ⟨δ, ω, Λ⟩ m).2.2) c ∧ L = [fwR f g (accF Φ ⟨δ, ω, Λ⟩ m).1, lgR g x (accF Φ ⟨δ, ω, Λ⟩ m).2.1.Λ, wlR x d (accF Φ ⟨δ, ω, Λ⟩ m).2.1.ω, dkR d (accF Φ ⟨δ, ω, Λ⟩ m).2.1.δ, outR v Φ.ld (accF Φ ⟨δ, ω, Λ⟩ m).2.2, p] := by
 refine Fn.intro Tryz.func53 rfl rfl fun F W => ?_
 have hwi := hP.wk.i hN
 have hli := hP.w.i
 have hlr := (lps_accept hP m.ep).w.i
 refine .fwOpen (f := f) (by repeat' constructor) fun ha hc => (.sr (.oq (.box rfl) ?_))
 rintro v L' ⟨b3, rfl, rfl⟩
 refine .a rfl (.nil (.ptCast (b := b3) (l' := msC m) (by repeat' constructor) (by exact rfl) (.then_n (.seq (.seq (.draw [] [[0, 1, 2, 3, 4, 5, 6, 7, 8, 9, 10, 11, 12, 13, 14, 15, 16, 17, 18, 19, 20, 21, 22]] mixed (by kernel_rfl) (.go [ptc f _ _, ptc b3 _ _, lgR g x Λ] (by repeat' constructor) (.mv rfl rfl (.nf rfl rfl rfl fo_104_2 (.kv rfl (.ld rfl ag_3) (.kv rfl (.int rfl rfl rfl) (.mv rfl rfl (.dec (t := 11) rfl (fun h1_11 => ?_) (fun h1_11 => ?_))))))))))))))
 ·refine D.kDT (t := 10) rfl h1_11 (.gz rfl (.gz rfl (.gz rfl (.gz rfl (.gz rfl (.gz rfl (.gz rfl (.gz rfl (.gz rfl (.gz rfl (.gz rfl (.kv rfl (.pickT rfl rfl) (.mv rfl rfl (.gz rfl (.gz rfl (.gz rfl (.kv rfl (.pickT rfl rfl) (.pf (.condT rfl (.seq (.fwFold (f := f) (g := g) (ha := ha) (hc := hc) (m := Φ.heard.length) Φ (by repeat' constructor) (by exact rfl) (by exact rfl) (by exact rfl) (.region (.m rfl (.cv Tryz.func50 [_] (lose_spec f g (Φ)) ?_))))))))))))))))))))))))
  refine .an rfl (.rt ?_)
  have hr : accF Φ ⟨δ, ω, Λ⟩ m = (Φ.lose, ⟨δ, ω, Λ⟩, none) := by unfold accF; (try dsimp only); rw [if_pos (by first | exact .inl h1_11 | exact .inr (.inl h1_24) | exact .inr (.inr h28))]
  rw [hr]
  try dsimp only
  refine .outNone Φ.ld ?_
  exact .dn rfl rfl ⟨_, _, rfl, rfl⟩
 refine D.kDF (t := 10) rfl h1_11 (.gv rfl (.fieldAddr rfl fo_41_1) (.gv rfl (.ld rfl ag_3) (.gv rfl (.move rfl) (.gv rfl (.nilp rfl) (.gv rfl (.fieldAddr rfl fo_104_1) (.gv rfl (.ld rfl ag_25) (.gv rfl (.nilp rfl) (.gv rfl (.fieldAddr rfl fo_53_0) (.gm (t := 11) rfl rfl rfl (by kernel_rfl) (.c Tryz.func16 [_] (lacc_spec g x Λ)) (by repeat' constructor) ?_)))))))))
 refine D.gv rfl (.max2 rfl rfl) (.gv rfl (.int rfl rfl rfl) (.kv rfl (.pickF rfl rfl) (.mv rfl rfl (.dec (t := 24) rfl (fun h1_24 => ?_) (fun h1_24 => ?_)))))
 ·refine D.kDT (t := 22) rfl h1_24 (.kDT (t := 23) rfl h1_24 (.gz rfl (.gz rfl (.gz rfl (.kv rfl (.pickT rfl rfl) (.pf (.condT rfl (.seq (.fwFold (f := f) (g := g) (ha := ha) (hc := hc) (m := Φ.heard.length) Φ (by repeat' constructor) (by exact rfl) (by exact rfl) (by exact rfl) (.region (.m rfl (.cv Tryz.func50 [_] (lose_spec f g (Φ)) ?_))))))))))))
  refine .an rfl (.rt ?_)
  have hr : accF Φ ⟨δ, ω, Λ⟩ m = (Φ.lose, ⟨δ, ω, Λ⟩, none) := by unfold accF; (try dsimp only); rw [if_pos (by first | exact .inl h1_11 | exact .inr (.inl h1_24) | exact .inr (.inr h28))]
  rw [hr]
  try dsimp only
  refine .outNone Φ.ld ?_
  exact .dn rfl rfl ⟨_, _, rfl, rfl⟩
 refine D.kDF (t := 22) rfl h1_24 (.kDF (t := 23) rfl h1_24 (.gv rfl (.fieldAddr rfl fo_41_1) (.gv rfl (.ld rfl ag_3) (.gv rfl (.int rfl rfl rfl) (.kv rfl (.pickF rfl rfl) (.pf (.condD rfl (fun h28 => ?_) (fun h28 => ?_))))))))
 ·refine .seq (.fwFold (f := f) (g := g) (ha := ha) (hc := hc) (m := Φ.heard.length) Φ (by repeat' constructor) (by exact rfl) (by exact rfl) (by exact rfl) (.region (.m rfl (.cv Tryz.func50 [_] (lose_spec f g (Φ)) ?_))))
  refine .an rfl (.rt ?_)
  have hr : accF Φ ⟨δ, ω, Λ⟩ m = (Φ.lose, ⟨δ, ω, Λ⟩, none) := by unfold accF; (try dsimp only); rw [if_pos (by first | exact .inl h1_11 | exact .inr (.inl h1_24) | exact .inr (.inr h28))]
  rw [hr]
  try dsimp only
  refine .outNone Φ.ld ?_
  exact .dn rfl rfl ⟨_, _, rfl, rfl⟩
 refine .sk (.sr (.an rfl (.seq (.seq (.draw [] [[0, 1, 2, 3, 4, 5, 6, 7, 8, 9]] mixed (by kernel_rfl) (.go [ptc f _ _, ptc b3 _ _, lgR g x Λ] (by repeat' constructor) (.kv rfl (.fieldAddr rfl fo_41_1) (.kv rfl (.ld rfl ag_3) (.mv rfl rfl (.nf rfl rfl rfl fo_104_1 (.kv rfl (.ld rfl ag_25) (.nf rfl rfl rfl fo_53_0 (.m rfl (by kernel_rfl) (.c Tryz.func16 [_] (lacc_spec g x Λ)) (by repeat' constructor) ?_)))))))))))))
 refine D.kv rfl (.int rfl rfl rfl) (.pf (.condD rfl (fun h40 => ?_) (fun h40 => ?_)))
 ·refine .seq (.seq (.draw [6] [[0, 1, 2, 3, 4, 5, 6], [7]] mixed (by kernel_rfl) (.g0 (.mv rfl rfl (.nf rfl rfl rfl fo_104_1 (.kv rfl (.ld rfl ag_25) (.kv rfl (.fieldAddr rfl fo_41_1) (.kv rfl (.ld rfl ag_3) (.hh rfl (.c Tryz.func32 [_, _] (laccept_spec g x d δ ω Λ m.ep hwi)) ?_)))))))))
  rintro v L' ⟨rfl, rfl⟩; obtain ⟨r, hA⟩ : ∃ r, (lgAccept ⟨δ, ω, Λ⟩ m.ep) = r := ⟨_, rfl⟩; rw [hA] at hlr ⊢
  refine D.ph (.g0 (.kv rfl (.int rfl rfl rfl) (.pf (.condN rfl (fun h48 => ?_) (fun h48 => ?_)))))
  ·refine .seq (.fwFold (f := f) (g := g) (ha := ha) (hc := hc) (m := Φ.heard.length) Φ (by repeat' constructor) (by exact rfl) (by exact rfl) (by exact rfl) (.region (.m rfl (.cv Tryz.func50 [_] (lose_spec f g (Φ)) ?_))))
   refine .an rfl (.rt (.then_r ?_))
   have hr : accF Φ ⟨δ, ω, Λ⟩ m = (Φ.lose, r.1, none) := by unfold accF; (try dsimp only); rw [if_neg (by rintro (g1 | g1 | g1); exact h1_11 g1; exact h1_24 g1; exact h28 g1), if_pos h40, hA, if_pos h48]
   rw [hr]
   try dsimp only
   refine .outNone Φ.ld ?_
   exact .dn rfl rfl ⟨_, _, rfl, rfl⟩
  refine .sk (.region (.m rfl (.nf rfl fo_104_1 (.u (.ld rfl ag_25) (.nf rfl fo_53_0 (.cv Tryz.func17 [_] (lcur_spec g x r.1.Λ) ?_))))))
  refine .an rfl (.seq (.draw [6, 9] [[0, 1, 2, 3, 4, 5, 6], [7, 8, 9]] mixed (by kernel_rfl) (.go [ptc b3 _ _] (by repeat' constructor) (.mv rfl rfl (.k rfl (.move rfl) (.k rfl (.fieldAddr rfl fo_41_1) (.k rfl (.ld rfl ag_3) (.nf rfl rfl rfl fo_104_2 (.hh rfl (.store rfl rfl rfl sz_3 ?c74 (nfz0 _ _)) ?_)))))))))
  case c74 => first | decide | (simp; omega) | simp
  rintro v L' rfl
  refine D.ph (.g0 (.nf rfl rfl rfl fo_104_3 (.hh rfl (.store rfl rfl rfl sz_3 ?c79 (nfz0 _ _)) ?_)))
  case c79 => first | decide | (simp; omega) | simp
  rintro v L' rfl
  refine D.ph (.fin (.fwFold (f := f) (g := g) (ha := ha) (hc := hc) (m := Φ.heard.length) (Φ.go 1 m.ep) (by repeat' constructor) (by exact rfl) (by exact rfl) (by exact rfl) (.fwOpen (f := f) (by repeat' constructor) fun ha hc => (.then_n (.seq (.draw [10, 12] [[0, 1, 2, 3, 4, 5, 6, 7, 8, 9, 10, 11], [12], [13]] mixed (by kernel_rfl) (.go [ptc f _ _] (by repeat' constructor) (.k rfl (.move rfl) (.k rfl (.move rfl) (.k rfl (.nilp rfl) (.k rfl (.fieldAddr rfl fo_104_3) (.k rfl (.ld rfl ag_3) (.k rfl (.move rfl) (.mv rfl rfl (.nf rfl rfl rfl fo_104_1 (.kv rfl (.ld rfl ag_25) (.hh rfl (.c Tryz.func93 [_] (lmarks_spec g x r.1.Λ hlr)) ?_)))))))))))))))))
  rintro v L' ⟨am, cm, rfl, rfl⟩
  refine D.kv rfl (.to (v' := .agg (moC ⟨3, m.ep, 0, r.1.Λ.cur, marksZ r.1.Λ⟩ (.slice am (marksZ r.1.Λ).length cm)).toArray) (.buildN (pl := [(0, 1), (1, 1), (2, 1), (3, 1), (4, 1), (5, 1), (6, 1), (7, 1), (8, 10), (18, 1)]) (us := [(0, _), (1, _), (3, _), (5, _)]) (cells := moC ⟨3, m.ep, 0, r.1.Λ.cur, marksZ r.1.Λ⟩ (.slice am (marksZ r.1.Λ).length cm)) Tryz.underlying41 (by kernel_rfl) ze_41 rfl rfl) rfl) (.ph (.g0 (.hh rfl (.c Tryz.func57 [_, _] (sayO_spec f g (Φ.go 1 m.ep) ⟨3, m.ep, 0, r.1.Λ.cur, marksZ r.1.Λ⟩ (.slice am (marksZ r.1.Λ).length cm) rfl ha hc)) ?_)))
  rintro v L' ⟨bs, rfl, rfl⟩
  refine D.ph (.g0 (.kv rfl (.assign rfl) (.pf (.ret ?_))))
  have hr : accF Φ ⟨δ, ω, Λ⟩ m = (Φ.go 1 m.ep, r.1, some ⟨3, m.ep, 0, r.1.Λ.cur, marksZ r.1.Λ⟩) := by unfold accF; (try dsimp only); rw [if_neg (by rintro (g1 | g1 | g1); exact h1_11 g1; exact h1_24 g1; exact h28 g1), if_pos h40, hA, if_neg (fun g1 => g1 h48)]
  rw [hr]
  try dsimp only
  refine .outFold (v := .slice (some ⟨bs, 0, none⟩) 1 1) (mv := .slice am _ cm) (k := _) ⟨3, m.ep, 0, r.1.Λ.cur, marksZ r.1.Λ⟩ (by repeat' constructor) (by exact rfl) (by exact rfl) (by exact rfl) ?_
  exact .dn rfl rfl ⟨_, _, rfl, rfl⟩
 refine .sk (.seq (.draw [6, 9] [[0, 1, 2, 3, 4, 5, 6], [7, 8, 9]] mixed (by kernel_rfl) (.go [ptc b3 _ _] (by repeat' constructor) (.mv rfl rfl (.k rfl (.move rfl) (.k rfl (.fieldAddr rfl fo_41_1) (.k rfl (.ld rfl ag_3) (.nf rfl rfl rfl fo_104_2 (.hh rfl (.store rfl rfl rfl sz_3 ?c102 (nfz0 _ _)) ?_)))))))))
 case c102 => first | decide | (simp; omega) | simp
 rintro v L' rfl
 refine D.ph (.g0 (.nf rfl rfl rfl fo_104_3 (.hh rfl (.store rfl rfl rfl sz_3 ?c107 (nfz0 _ _)) ?_)))
 case c107 => first | decide | (simp; omega) | simp
 rintro v L' rfl
 refine D.ph (.fin (.fwFold (f := f) (g := g) (ha := ha) (hc := hc) (m := Φ.heard.length) (Φ.go 1 m.ep) (by repeat' constructor) (by exact rfl) (by exact rfl) (by exact rfl) (.fwOpen (f := f) (by repeat' constructor) fun ha hc => (.then_n (.seq (.draw [10, 12] [[0, 1, 2, 3, 4, 5, 6, 7, 8, 9, 10, 11], [12], [13]] mixed (by kernel_rfl) (.go [ptc f _ _] (by repeat' constructor) (.k rfl (.move rfl) (.k rfl (.move rfl) (.k rfl (.nilp rfl) (.k rfl (.fieldAddr rfl fo_104_3) (.k rfl (.ld rfl ag_3) (.k rfl (.move rfl) (.mv rfl rfl (.nf rfl rfl rfl fo_104_1 (.kv rfl (.ld rfl ag_25) (.hh rfl (.c Tryz.func93 [_] (lmarks_spec g x Λ hli)) ?_)))))))))))))))))
 rintro v L' ⟨am, cm, rfl, rfl⟩
 refine D.kv rfl (.to (v' := .agg (moC ⟨3, m.ep, 0, -1, marksZ Λ⟩ (.slice am (marksZ Λ).length cm)).toArray) (.buildN (pl := [(0, 1), (1, 1), (2, 1), (3, 1), (4, 1), (5, 1), (6, 1), (7, 1), (8, 10), (18, 1)]) (us := [(0, _), (1, _), (3, _), (5, _)]) (cells := moC ⟨3, m.ep, 0, -1, marksZ Λ⟩ (.slice am (marksZ Λ).length cm)) Tryz.underlying41 (by kernel_rfl) ze_41 rfl rfl) rfl) (.ph (.g0 (.hh rfl (.c Tryz.func57 [_, _] (sayO_spec f g (Φ.go 1 m.ep) ⟨3, m.ep, 0, -1, marksZ Λ⟩ (.slice am (marksZ Λ).length cm) rfl ha hc)) ?_)))
 rintro v L' ⟨bs, rfl, rfl⟩
 refine D.ph (.g0 (.kv rfl (.assign rfl) (.pf (.ret ?_))))
 have hr : accF Φ ⟨δ, ω, Λ⟩ m = (Φ.go 1 m.ep, ⟨δ, ω, Λ⟩, some ⟨3, m.ep, 0, -1, marksZ Λ⟩) := by unfold accF; (try dsimp only); rw [if_neg (by rintro (g1 | g1 | g1); exact h1_11 g1; exact h1_24 g1; exact h28 g1), if_neg h40]
 rw [hr]
 try dsimp only
 refine .outFold (v := .slice (some ⟨bs, 0, none⟩) 1 1) (mv := .slice am _ cm) (k := _) ⟨3, m.ep, 0, -1, marksZ Λ⟩ (by repeat' constructor) (by exact rfl) (by exact rfl) (by exact rfl) ?_
 exact .dn rfl rfl ⟨_, _, rfl, rfl⟩
theorem fsync_spec (f g x d : Nat) (Φ : Fw) (δ : Dk) (ω : Wl) (Λ : Lg) (m : Ms) (p : HP) (N : Int) (hm : MsA p m) (hP : LPs ⟨δ, ω, Λ⟩ N) (hN : N + 3000000000000 < 4611686018427387904) : Fn Tryz.prog 54 #[vptr f, .agg (msC m).toArray] [fwR f g Φ, lgR g x Λ, wlR x d ω, dkR d δ, p] fun v L => ∃ a c, v = .slice a (onN (synF Φ ⟨δ, ω, Λ⟩ m).2.2) c ∧ L = [fwR f g (synF Φ ⟨δ, ω, Λ⟩ m).1, lgR g x (synF Φ ⟨δ, ω, Λ⟩ m).2.1.Λ, wlR x d (synF Φ ⟨δ, ω, Λ⟩ m).2.1.ω, dkR d (synF Φ ⟨δ, ω, Λ⟩ m).2.1.δ, outR v Φ.ld (synF Φ ⟨δ, ω, Λ⟩ m).2.2, p] := by
 refine Fn.intro Tryz.func54 rfl rfl fun F W => ?_
 have hml := hm.len
 have hwi := hP.wk.i (by omega)
 have hli := hP.w.i
 have hup : Λ.zxs.Pairwise (· < ·) := (List.pairwise_cons.1 hP.w.rows.up).2
 have hsn : Λ.snap.length ≤ 65536 := hP.w.snap
 have hPc := lps_cut hP m.zx
 have hPh := lps_hist hP hm
 refine .fwOpen (f := f) (by repeat' constructor) fun ha hc => (.sr (.oq (.box rfl) ?_))
 rintro v L' ⟨b3, rfl, rfl⟩
 refine .a rfl (.nil (.ptCast (b := b3) (l' := msC m) (by repeat' constructor) (by exact rfl) (.then_n (.seq (.seq (.draw [] [[0, 1, 2, 3, 4, 5, 6, 7, 8, 9, 10, 11, 12, 13]] mixed (by kernel_rfl) (.g0 (.mv rfl rfl (.nf rfl rfl rfl fo_104_2 (.kv rfl (.ld rfl ag_3) (.kv rfl (.int rfl rfl rfl) (.mv rfl rfl (.ndec (t := 11) rfl (fun h1_11 => ?_) (fun h1_11 => ?_))))))))))))))
 ·refine D.kNT (t := 10) rfl h1_11 (.gz rfl (.gz rfl (.gz rfl (.gz rfl (.gz rfl (.gz rfl (.gz rfl (.kv rfl (.pickT rfl rfl) (.pf (.condT rfl (.seq (.fwFold (f := f) (g := g) (ha := ha) (hc := hc) (m := Φ.heard.length) Φ (by repeat' constructor) (by exact rfl) (by exact rfl) (by exact rfl) (.region (.m rfl (.cv Tryz.func50 [_] (lose_spec f g (Φ)) ?_)))))))))))))))
  refine .an rfl (.rt ?_)
  have hr : synF Φ ⟨δ, ω, Λ⟩ m = (Φ.lose, ⟨δ, ω, Λ⟩, none) := by unfold synF; (try dsimp only); rw [if_pos (by first | exact .inl h1_11 | exact .inr h19)]
  rw [hr]
  try dsimp only
  refine .outNone Φ.ld ?_
  exact .dn rfl rfl ⟨_, _, rfl, rfl⟩
 refine D.kNF (t := 10) rfl h1_11 (.gv rfl (.fieldAddr rfl fo_41_1) (.gv rfl (.ld rfl ag_3) (.gv rfl (.move rfl) (.gv rfl (.nilp rfl) (.gv rfl (.fieldAddr rfl fo_104_3) (.gv rfl (.ld rfl ag_3) (.gv rfl (.int rfl rfl rfl) (.kv rfl (.pickF rfl rfl) (.pf (.condN rfl (fun h19 => ?_) (fun h19 => ?_)))))))))))
 ·refine .seq (.fwFold (f := f) (g := g) (ha := ha) (hc := hc) (m := Φ.heard.length) Φ (by repeat' constructor) (by exact rfl) (by exact rfl) (by exact rfl) (.region (.m rfl (.cv Tryz.func50 [_] (lose_spec f g (Φ)) ?_))))
  refine .an rfl (.rt ?_)
  have hr : synF Φ ⟨δ, ω, Λ⟩ m = (Φ.lose, ⟨δ, ω, Λ⟩, none) := by unfold synF; (try dsimp only); rw [if_pos (by first | exact .inl h1_11 | exact .inr h19)]
  rw [hr]
  try dsimp only
  refine .outNone Φ.ld ?_
  exact .dn rfl rfl ⟨_, _, rfl, rfl⟩
 refine .sk (.sr (.an rfl (.seq (.joinK (ι := Unit) (fun q E => (5, .bool (decide ((histF ⟨δ, ω, Λ⟩ m).2 = 0))) :: E) (fun q => [lgR g x ((histF ⟨δ, ω, Λ⟩ m).1).Λ, wlR x d ((histF ⟨δ, ω, Λ⟩ m).1).ω, dkR d ((histF ⟨δ, ω, Λ⟩ m).1).δ, p, fwR f g Φ]) (fun q => True) (pre := [lgR g x Λ, wlR x d ω, dkR d δ, p, ptc f [vint Φ.ld, vptr g, vint Φ.ph, vint Φ.ep, vint Φ.com, vint Φ.sil, .slice ha Φ.heard.length hc] 104, intR (.slice ha Φ.heard.length hc) Φ.heard]) (ts := [0, 4]) (.cons rfl (.cons rfl (.nil))) (by repeat' constructor) ?_ ?_))))
 ·refine .sr (.u (.fieldAddr rfl fo_41_3) (.u (.ld rfl ag_3) (.ui rfl rfl rfl (.nt (.condD rfl (fun h24 => ?_) (fun h24 => ?_))))))
  ·refine .draw [10] [[0, 1, 2, 3, 4, 5, 6, 7, 8, 9, 10], [11, 12]] mixed (by kernel_rfl) (.g0 (.mv rfl rfl (.nf rfl rfl rfl fo_104_1 (.kv rfl (.ld rfl ag_25) (.kv rfl (.fieldAddr rfl fo_41_2) (.kv rfl (.ld rfl ag_3) (.kv rfl (.fieldAddr rfl fo_41_6) (.kv rfl (.ld rfl ag_9) (.kv rfl (.fieldAddr rfl fo_41_7) (.kv rfl (.ld rfl ag_33) (.hh rfl (.c Tryz.func94 [_, _, _, _] (linstall_spec g x d δ ω Λ m.zx m.data m.ev m.ents p hwi hm.zx hm.l (by omega) hm.x)) ?_)))))))))))
   rintro v L' ⟨rfl, rfl⟩
   refine D.ph (.g0 (.kv rfl (.int rfl rfl rfl) (.kv rfl (.assign rfl) (.pf ?_))))
   have hz : (histF ⟨δ, ω, Λ⟩ m) = lgInstall ⟨δ, ω, Λ⟩ m.zx m.data m.ents := by unfold histF; rw [if_pos h24]
   rw [hz]
   refine .fwFold (f := f) (g := g) (ha := ha) (hc := hc) (m := Φ.heard.length) Φ (by repeat' constructor) (by exact rfl) (by exact rfl) (by exact rfl) ?_
   exact .mk (()) (trivial) ⟨rfl, rfl, rfl, trivial⟩
  refine .draw [6, 12] [[0, 1, 2, 3, 4, 5, 6], [7, 8, 9, 10, 11, 12], [13, 14]] mixed (by kernel_rfl) (.g0 (.mv rfl rfl (.nf rfl rfl rfl fo_104_1 (.kv rfl (.ld rfl ag_25) (.kv rfl (.fieldAddr rfl fo_41_2) (.kv rfl (.ld rfl ag_3) (.hh rfl (.c Tryz.func95 [_, _] (lcut_spec g x d δ ω Λ m.zx hwi hli hup hsn)) ?_)))))))
  rintro v L' ⟨rfl, rfl⟩
  refine D.ph (.g0 (.kv rfl (.int rfl rfl rfl) (.mv rfl rfl (.dec (t := 45) rfl (fun h6_45 => ?_) (fun h6_45 => ?_)))))
  ·refine D.kDT (t := 44) rfl h6_45 (.gv rfl (.move rfl) (.gv rfl (.fieldAddr rfl fo_41_7) (.gv rfl (.ld rfl ag_33) (.gh (t := 45) rfl rfl rfl (by kernel_rfl) (.c Tryz.func96 [_, _] (ftakeO_spec f g x d Φ (lgCut ⟨δ, ω, Λ⟩ m.zx).1.δ (lgCut ⟨δ, ω, Λ⟩ m.zx).1.ω (lgCut ⟨δ, ω, Λ⟩ m.zx).1.Λ m.ev m.ents p (N + 2000000) hPc (by omega) hm.l hm.len hm.x ha hc)) (by repeat' constructor) ?_))))
   rintro v L' ⟨rfl, rfl⟩
   refine D.ph (.g0 (.kv rfl (.pickT rfl rfl) (.kv rfl (.assign rfl) (.pf ?_))))
   have hz : (histF ⟨δ, ω, Λ⟩ m) = cutTake ⟨δ, ω, Λ⟩ m.zx m.ents := by unfold histF; rw [if_neg h24]
   rw [hz]
   have hy : cutTake ⟨δ, ω, Λ⟩ m.zx m.ents = takeZ m.ents (lgCut ⟨δ, ω, Λ⟩ m.zx).1 := by unfold cutTake; rw [if_neg (fun g1 => g1 h6_45)]
   rw [hy]
   exact .mk (()) (trivial) ⟨rfl, rfl, rfl, trivial⟩
  refine D.kDF (t := 44) rfl h6_45 (.gz rfl (.gz rfl (.gz rfl (.gz rfl (.ph (.g0 (.kv rfl (.pickF rfl rfl) (.kv rfl (.assign rfl) (.pf ?_)))))))))
  have hz : (histF ⟨δ, ω, Λ⟩ m) = cutTake ⟨δ, ω, Λ⟩ m.zx m.ents := by unfold histF; rw [if_neg h24]
  rw [hz]
  have hy : cutTake ⟨δ, ω, Λ⟩ m.zx m.ents = lgCut ⟨δ, ω, Λ⟩ m.zx := by unfold cutTake; rw [if_pos h6_45]
  rw [hy, decide_eq_false h6_45]
  refine .fwFold (f := f) (g := g) (ha := ha) (hc := hc) (m := Φ.heard.length) Φ (by repeat' constructor) (by exact rfl) (by exact rfl) (by exact rfl) ?_
  exact .mk (()) (trivial) ⟨rfl, rfl, rfl, trivial⟩
 rintro _u _
 obtain ⟨r, hH⟩ : ∃ r, (histF ⟨δ, ω, Λ⟩ m) = r := ⟨_, rfl⟩
 rw [hH] at hPh ⊢
 have hwh := hPh.wk.i (by omega)
 have hws := (lps_sync hPh).wk.i (by omega)
 refine .fwOpen (f := f) (by repeat' constructor) fun ha hc => (.seq (.seq (.draw [11] [[0, 1, 2, 3, 4, 5, 6, 7, 8, 9, 10, 11], [12, 13]] mixed (by kernel_rfl) (.g0 (.mv rfl rfl (.kv rfl (.not rfl) (.mv rfl rfl (.ndec (t := 53) rfl (fun h7_53 => ?_) (fun h7_53 => ?_)))))))))
 ·refine D.kNT (t := 52) rfl h7_53 (.gz rfl (.gz rfl (.gz rfl (.gz rfl (.gz rfl (.gz rfl (.gz rfl (.gz rfl (.gz rfl (.ph (.g0 (.gz rfl (.kv rfl (.pickT rfl rfl) (.pf (.condT rfl (.seq (.fwFold (f := f) (g := g) (ha := ha) (hc := hc) (m := Φ.heard.length) Φ (by repeat' constructor) (by exact rfl) (by exact rfl) (by exact rfl) (.region (.m rfl (.cv Tryz.func50 [_] (lose_spec f g (Φ)) ?_))))))))))))))))))))
  refine .an rfl (.rt ?_)
  have hr : synF Φ ⟨δ, ω, Λ⟩ m = synF2 Φ r := by unfold synF; rw [if_neg (by rintro (g1 | g1); exact g1 h1_11; exact g1 h19), hH]
  rw [hr]
  have hr : synF2 Φ r = (Φ.lose, r.1, none) := by unfold synF2; (try dsimp only); rw [if_pos h7_53]
  rw [hr]
  try dsimp only
  refine .outNone Φ.ld ?_
  exact .dn rfl rfl ⟨_, _, rfl, rfl⟩
 refine D.kNF (t := 52) rfl h7_53 (.gv rfl (.move rfl) (.gv rfl (.nilp rfl) (.gv rfl (.fieldAddr rfl fo_104_1) (.gv rfl (.ld rfl ag_25) (.gv rfl (.move rfl) (.gv rfl (.nilp rfl) (.gv rfl (.fieldAddr rfl fo_104_3) (.gv rfl (.ld rfl ag_3) (.gh (t := 53) rfl rfl rfl (by kernel_rfl) (.c Tryz.func33 [_, _] (ladopt_spec g x d r.1.δ r.1.ω r.1.Λ Φ.ep hwh hws)) (by repeat' constructor) ?_)))))))))
 rintro v L' ⟨rfl, rfl⟩; obtain ⟨a, hA⟩ : ∃ a, lgAdopt r.1 Φ.ep = a := ⟨_, rfl⟩; rw [show lgAdopt ⟨r.1.δ, r.1.ω, r.1.Λ⟩ Φ.ep = a from hA]
 refine D.ph (.g0 (.gv rfl (.int rfl rfl rfl) (.kv rfl (.pickF rfl rfl) (.pf (.condN rfl (fun h64 => ?_) (fun h64 => ?_))))))
 ·refine .seq (.fwFold (f := f) (g := g) (ha := ha) (hc := hc) (m := Φ.heard.length) Φ (by repeat' constructor) (by exact rfl) (by exact rfl) (by exact rfl) (.region (.m rfl (.cv Tryz.func50 [_] (lose_spec f g (Φ)) ?_))))
  refine .an rfl (.rt ?_)
  have hr : synF Φ ⟨δ, ω, Λ⟩ m = synF2 Φ r := by unfold synF; rw [if_neg (by rintro (g1 | g1); exact g1 h1_11; exact g1 h19), hH]
  rw [hr]
  have hr : synF2 Φ r = (Φ.lose, a.1, none) := by unfold synF2; (try dsimp only); rw [if_neg (fun g1 => g1 h7_53), hA, if_pos h64]
  rw [hr]
  try dsimp only
  refine .outNone Φ.ld ?_
  exact .dn rfl rfl ⟨_, _, rfl, rfl⟩
 refine .sk (.sm rfl (.nf rfl fo_104_2 (.st rfl rfl rfl sz_3 ?_)))
 refine .nt (.sm rfl (.m rfl (.nf rfl fo_104_3 (.u (.ld rfl ag_3) (.q (.to (v' := .agg (moC ⟨5, Φ.ep, 0, 0, []⟩ (.slice none 0 0)).toArray) (.buildN (pl := [(0, 1), (1, 1), (2, 1), (3, 1), (4, 1), (5, 1), (6, 1), (7, 1), (8, 10), (18, 1)]) (us := [(0, _), (1, _)]) (cells := moC ⟨5, Φ.ep, 0, 0, []⟩ (.slice none 0 0)) Tryz.underlying41 (by kernel_rfl) ze_41 rfl rfl) rfl) rfl (.fwFold (f := f) (g := g) (ha := ha) (hc := hc) (m := Φ.heard.length) (Φ.toPh 2) (by repeat' constructor) (by exact rfl) (by exact rfl) (by exact rfl) (.add (slR_nil 3 1) (.oq (.c Tryz.func57 [_, _] (say_spec f g (Φ.toPh 2) ⟨5, Φ.ep, 0, 0, []⟩ (.slice none 0 0) rfl)) ?_))))))))
 rintro v L' ⟨bs, rfl, rfl⟩
 refine .an rfl (.ret ?_)
 have hr : synF Φ ⟨δ, ω, Λ⟩ m = synF2 Φ r := by unfold synF; rw [if_neg (by rintro (g1 | g1); exact g1 h1_11; exact g1 h19), hH]
 rw [hr]
 have hr : synF2 Φ r = (Φ.toPh 2, a.1, some ⟨5, Φ.ep, 0, 0, []⟩) := by unfold synF2; (try dsimp only); rw [if_neg (fun g1 => g1 h7_53), hA, if_neg (fun g1 => g1 h64)]
 rw [hr]
 try dsimp only
 refine .outFold (v := .slice (some ⟨bs, 0, none⟩) 1 1) (mv := .slice none 0 0) (k := 0) ⟨5, Φ.ep, 0, 0, []⟩ (by repeat' constructor) (by exact rfl) (by exact rfl) (by exact rfl) ?_
 exact .dn rfl rfl ⟨_, _, rfl, rfl⟩
theorem ent0_at {l : List En} (h : l.length = 1) : (l.flatMap enC)[0]? = some (vint (ent0 l)) := by
 obtain ⟨e, rfl⟩ := one_ent (fun g => g h)
 rfl
theorem ent0_i64 {p : HP} {l : List En} (h : ∀ e ∈ l, EnX p e) : I64 (ent0 l) := by
 match l, h with
 | [], _ => exact ⟨by decide, by decide⟩
 | e :: l, h => exact (h e (List.mem_cons_self ..)).l.w.i.zx
theorem tdiv_i64 {a : Int} (h : I64 a) : -9223372036854775808 ≤ a.tdiv 4294967296 ∧ a.tdiv 4294967296 ≤ 9223372036854775807 := by
 obtain ⟨h1, h2⟩ := h
 rcases Int.le_total 0 a with h3 | h3
 ·rw [Int.tdiv_eq_ediv_of_nonneg h3]; omega
 ·obtain ⟨b, rfl⟩ : ∃ b, a = -b := ⟨-a, by omega⟩
  rw [Int.neg_tdiv, Int.tdiv_eq_ediv_of_nonneg (by omega)]; omega
theorem fpropose_spec (f g x d : Nat) (Φ : Fw) (δ : Dk) (ω : Wl) (Λ : Lg) (m : Ms) (p : HP) (N : Int) (hm : MsA p m) (hP : LPs ⟨δ, ω, Λ⟩ N) (hN : N + 3000000000000 < 4611686018427387904) : Fn Tryz.prog 55 #[vptr f, .agg (msC m).toArray] [fwR f g Φ, lgR g x Λ, wlR x d ω, dkR d δ, p] fun v L => ∃ a c, v = .slice a (onN (proF Φ ⟨δ, ω, Λ⟩ m).2.2) c ∧ L = [fwR f g (proF Φ ⟨δ, ω, Λ⟩ m).1, lgR g x (proF Φ ⟨δ, ω, Λ⟩ m).2.1.Λ, wlR x d (proF Φ ⟨δ, ω, Λ⟩ m).2.1.ω, dkR d (proF Φ ⟨δ, ω, Λ⟩ m).2.1.δ, outR v Φ.ld (proF Φ ⟨δ, ω, Λ⟩ m).2.2, p] := by
 refine Fn.intro Tryz.func55 rfl rfl fun F W => ?_
 have hml := hm.len
 have hz0 := ent0_i64 hm.x
 refine .rdBoth (p := p) hm.l (by repeat' constructor) fun aa ca hev hA => ?_
 have hev2 : ∀ h : Hp, p h → rdS 11 h (.slice aa m.ents.length ca) m.ents.length (m.ents.flatMap enC) := hev ▸ hm.l
 refine .fwOpen (f := f) (by repeat' constructor) fun ha hc => (.sr (.oq (.box rfl) ?_))
 rintro v L' ⟨b3, rfl, rfl⟩
 refine .a rfl (.nil (.ptCast (b := b3) (l' := msC m) (by repeat' constructor) (by exact rfl) (.then_n (.seq (.seq (.draw [35] [[0, 1, 2, 3, 4, 5, 6, 7, 8, 9, 10, 11, 12, 13, 14, 15, 16, 17, 18, 19, 20, 21, 22, 23, 24, 25, 26, 27, 28, 29, 30, 31, 32, 33, 34, 35], [36, 37]] mixed (by kernel_rfl) (.g0 (.mv rfl rfl (.nf rfl rfl rfl fo_104_2 (.kv rfl (.ld rfl ag_3) (.kv rfl (.int rfl rfl rfl) (.mv rfl rfl (.ndec (t := 10) rfl (fun h1_10 => ?_) (fun h1_10 => ?_))))))))))))))
 ·refine D.kNT (t := 9) rfl h1_10 (.gv rfl (.move rfl) (.gv rfl (.nilp rfl) (.gv rfl (.fieldAddr rfl fo_104_2) (.gv rfl (.ld rfl ag_3) (.gv rfl (.int rfl rfl rfl) (.kv rfl (.pickT rfl rfl) (.mv rfl rfl (.ndec (t := 17) rfl (fun h1_17 => ?_) (fun h1_17 => ?_)))))))))
  ·refine D.kNT (t := 15) rfl h1_17 (.kNT (t := 16) rfl h1_17 (.gz rfl (.gz rfl (.gz rfl (.gz rfl (.kv rfl (.pickT rfl rfl) (.mv rfl rfl (.gz rfl (.gz rfl (.gz rfl (.gz rfl (.gz rfl (.gz rfl (.gz rfl (.gz rfl (.gz rfl (.gz rfl (.gz rfl (.kv rfl (.pickT rfl rfl) (.mv rfl rfl (.gz rfl (.gz rfl (.gz rfl (.gz rfl (.ph (.g0 (.gz rfl (.kv rfl (.pickT rfl rfl) (.pf (.condT rfl (.seq (.fwFold (f := f) (g := g) (ha := ha) (hc := hc) (m := Φ.heard.length) Φ (by repeat' constructor) (by exact rfl) (by exact rfl) (by exact rfl) (.region (.m rfl (.cv Tryz.func50 [_] (lose_spec f g (Φ)) ?_)))))))))))))))))))))))))))))))))))
   refine .an rfl (.rt ?_)
   have hr : proF Φ ⟨δ, ω, Λ⟩ m = (Φ.lose, ⟨δ, ω, Λ⟩, none) := by unfold proF; (try dsimp only); rw [if_pos (by first | exact .inl (by rintro (g1 | g1); exact h1_10 g1; exact h1_17 g1) | exact .inr (.inl (by omega)) | exact .inr (.inr h1_36))]
   rw [hr]
   try dsimp only
   refine .outNone Φ.ld ?_
   exact .dn rfl rfl ⟨_, _, rfl, rfl⟩
  refine D.kNF (t := 15) rfl h1_17 (.kNF (t := 16) rfl h1_17 (.gv rfl (.fieldAddr rfl fo_41_7) (.gv rfl (.to (v' := .slice aa m.ents.length ca) (.load rfl ag_33 (by repeat' constructor) rfl) hev) (.gv rfl (.slen rfl Tryz.underlying33 rfl) (.gv rfl (.int rfl rfl rfl) (.kv rfl (.pickF rfl rfl) (.mv rfl rfl (.ndec (t := 23) rfl (fun h1_23 => ?_) (fun h1_23 => ?_)))))))))
  ·refine D.kNT (t := 21) rfl h1_23 (.kNT (t := 22) rfl h1_23 (.gz rfl (.gz rfl (.gz rfl (.gz rfl (.gz rfl (.gz rfl (.gz rfl (.gz rfl (.gz rfl (.gz rfl (.gz rfl (.kv rfl (.pickT rfl rfl) (.mv rfl rfl (.gz rfl (.gz rfl (.gz rfl (.gz rfl (.ph (.g0 (.gz rfl (.kv rfl (.pickT rfl rfl) (.pf (.condT rfl (.seq (.fwFold (f := f) (g := g) (ha := ha) (hc := hc) (m := Φ.heard.length) Φ (by repeat' constructor) (by exact rfl) (by exact rfl) (by exact rfl) (.region (.m rfl (.cv Tryz.func50 [_] (lose_spec f g (Φ)) ?_)))))))))))))))))))))))))))))
   refine .an rfl (.rt ?_)
   have hr : proF Φ ⟨δ, ω, Λ⟩ m = (Φ.lose, ⟨δ, ω, Λ⟩, none) := by unfold proF; (try dsimp only); rw [if_pos (by first | exact .inl (by rintro (g1 | g1); exact h1_10 g1; exact h1_17 g1) | exact .inr (.inl (by omega)) | exact .inr (.inr h1_36))]
   rw [hr]
   try dsimp only
   refine .outNone Φ.ld ?_
   exact .dn rfl rfl ⟨_, _, rfl, rfl⟩
  obtain ⟨ba, oa, rfl⟩ := hA (by omega)
  refine D.kNF (t := 21) rfl h1_23 (.kNF (t := 22) rfl h1_23 (.gv rfl (.fieldAddr rfl fo_41_7) (.gv rfl (.to (v' := .slice (some ⟨ba, oa, none⟩) m.ents.length ca) (.load rfl ag_33 (by repeat' constructor) rfl) hev) (.gv rfl (.indexAddr rfl rfl el_33 (by omega)) (.gv rfl (.fieldAddr rfl fo_75_0) (.gv rfl (.loadRd (sz := 11) (j := 0) (p := p) (v := vint (ent0 m.ents)) rfl ag_3 (by repeat' constructor) hev2 (by omega) (ent0_at (by omega))) (.gv rfl (.quo rfl rfl (by decide) (tdiv_i64 hz0)) (.gv rfl (.move rfl) (.gv rfl (.nilp rfl) (.gv rfl (.fieldAddr rfl fo_104_3) (.gv rfl (.ld rfl ag_3) (.gv rfl (.int rfl rfl rfl) (.kv rfl (.pickF rfl rfl) (.mv rfl rfl (.ndec (t := 36) rfl (fun h1_36 => ?_) (fun h1_36 => ?_))))))))))))))))
  ·refine D.kNT (t := 34) rfl h1_36 (.kNT (t := 35) rfl h1_36 (.gz rfl (.gz rfl (.gz rfl (.gz rfl (.ph (.g0 (.gz rfl (.kv rfl (.pickT rfl rfl) (.pf (.condT rfl (.seq (.fwFold (f := f) (g := g) (ha := ha) (hc := hc) (m := Φ.heard.length) Φ (by repeat' constructor) (by exact rfl) (by exact rfl) (by exact rfl) (.region (.m rfl (.cv Tryz.func50 [_] (lose_spec f g (Φ)) ?_))))))))))))))))
   refine .an rfl (.rt ?_)
   have hr : proF Φ ⟨δ, ω, Λ⟩ m = (Φ.lose, ⟨δ, ω, Λ⟩, none) := by unfold proF; (try dsimp only); rw [if_pos (by first | exact .inl (by rintro (g1 | g1); exact h1_10 g1; exact h1_17 g1) | exact .inr (.inl (by omega)) | exact .inr (.inr h1_36))]
   rw [hr]
   try dsimp only
   refine .outNone Φ.ld ?_
   exact .dn rfl rfl ⟨_, _, rfl, rfl⟩
  refine D.kNF (t := 34) rfl h1_36 (.kNF (t := 35) rfl h1_36 (.gv rfl (.move rfl) (.gv rfl (.fieldAddr rfl fo_41_7) (.gv rfl (.to (v' := .slice (some ⟨ba, oa, none⟩) m.ents.length ca) (.load rfl ag_33 (by repeat' constructor) rfl) hev) (.gh (t := 36) rfl rfl rfl (by kernel_rfl) (.c Tryz.func96 [_, _] (ftakeO_spec f g x d Φ δ ω Λ (.slice (some ⟨ba, oa, none⟩) m.ents.length ca) m.ents p N hP (by omega) hev2 hm.len hm.x ha hc)) (by repeat' constructor) ?_)))))
  rintro v L' ⟨rfl, rfl⟩; obtain ⟨r, hT⟩ : ∃ r, (takeZ m.ents ⟨δ, ω, Λ⟩) = r := ⟨_, rfl⟩; rw [hT]
  refine D.ph (.g0 (.gv rfl (.not rfl) (.kv rfl (.pickF rfl rfl) (.pf (.condB rfl (fun h42 => ?_) (fun h42 => ?_))))))
  ·refine .sm rfl (.cv Tryz.func50 [_] (lose_spec f g (Φ)) ?_)
   refine .an rfl (.rt ?_)
   have hr : proF Φ ⟨δ, ω, Λ⟩ m = (Φ.lose, r.1, none) := by unfold proF; (try dsimp only); rw [if_neg (by rintro (g1 | g1 | g1); exact g1 (by first | exact .inl h1_10 | exact .inr h1_17); exact g1 (by omega); exact g1 h1_36), hT, if_pos (by simpa using h42)]
   rw [hr]
   try dsimp only
   refine .outNone Φ.ld ?_
   exact .dn rfl rfl ⟨_, _, rfl, rfl⟩
  refine .sk (.sm rfl (.u (.fieldAddr rfl fo_41_7) (.q (.to (v' := .slice (some ⟨ba, oa, none⟩) m.ents.length ca) (.load rfl ag_33 (by repeat' constructor) rfl) hev) rfl (.q (.indexAddr rfl rfl el_33 (by omega)) rfl (.u (.fieldAddr rfl fo_75_0) (.q (.loadRd (sz := 11) (j := 0) (p := p) (v := vint (ent0 m.ents)) rfl ag_3 (by repeat' constructor) hev2 (by omega) (ent0_at (by omega))) rfl (.q (.to (v' := .agg (moC ⟨8, 0, ent0 m.ents, 0, []⟩ (.slice none 0 0)).toArray) (.buildN (pl := [(0, 1), (1, 1), (2, 1), (3, 1), (4, 1), (5, 1), (6, 1), (7, 1), (8, 10), (18, 1)]) (us := [(0, _), (2, _)]) (cells := moC ⟨8, 0, ent0 m.ents, 0, []⟩ (.slice none 0 0)) Tryz.underlying41 (by kernel_rfl) ze_41 rfl rfl) rfl) rfl (.add (slR_nil 3 1) (.oq (.c Tryz.func57 [_, _] (say_spec f g (Φ) ⟨8, 0, ent0 m.ents, 0, []⟩ (.slice none 0 0) rfl)) ?_)))))))))
  rintro v L' ⟨bs, rfl, rfl⟩
  refine .an rfl (.ret ?_)
  have hr : proF Φ ⟨δ, ω, Λ⟩ m = (Φ, r.1, some ⟨8, 0, ent0 m.ents, 0, []⟩) := by unfold proF; (try dsimp only); rw [if_neg (by rintro (g1 | g1 | g1); exact g1 (by first | exact .inl h1_10 | exact .inr h1_17); exact g1 (by omega); exact g1 h1_36), hT, if_neg (fun g1 => g1 (by simpa using h42))]
  rw [hr]
  try dsimp only
  refine .outFold (v := .slice (some ⟨bs, 0, none⟩) 1 1) (mv := .slice none 0 0) (k := 0) ⟨8, 0, ent0 m.ents, 0, []⟩ (by repeat' constructor) (by exact rfl) (by exact rfl) (by exact rfl) ?_
  exact .dn rfl rfl ⟨_, _, rfl, rfl⟩
 refine D.kNF (t := 9) rfl h1_10 (.gz rfl (.gz rfl (.gz rfl (.gz rfl (.gz rfl (.kv rfl (.pickF rfl rfl) (.mv rfl rfl (.gv rfl (.fieldAddr rfl fo_41_7) (.gv rfl (.to (v' := .slice aa m.ents.length ca) (.load rfl ag_33 (by repeat' constructor) rfl) hev) (.gv rfl (.slen rfl Tryz.underlying33 rfl) (.gv rfl (.int rfl rfl rfl) (.kv rfl (.pickF rfl rfl) (.mv rfl rfl (.ndec (t := 23) rfl (fun h1_23 => ?_) (fun h1_23 => ?_)))))))))))))))
 ·refine D.kNT (t := 21) rfl h1_23 (.kNT (t := 22) rfl h1_23 (.gz rfl (.gz rfl (.gz rfl (.gz rfl (.gz rfl (.gz rfl (.gz rfl (.gz rfl (.gz rfl (.gz rfl (.gz rfl (.kv rfl (.pickT rfl rfl) (.mv rfl rfl (.gz rfl (.gz rfl (.gz rfl (.gz rfl (.ph (.g0 (.gz rfl (.kv rfl (.pickT rfl rfl) (.pf (.condT rfl (.seq (.fwFold (f := f) (g := g) (ha := ha) (hc := hc) (m := Φ.heard.length) Φ (by repeat' constructor) (by exact rfl) (by exact rfl) (by exact rfl) (.region (.m rfl (.cv Tryz.func50 [_] (lose_spec f g (Φ)) ?_)))))))))))))))))))))))))))))
  refine .an rfl (.rt ?_)
  have hr : proF Φ ⟨δ, ω, Λ⟩ m = (Φ.lose, ⟨δ, ω, Λ⟩, none) := by unfold proF; (try dsimp only); rw [if_pos (by first | exact .inl (by rintro (g1 | g1); exact h1_10 g1; exact h1_17 g1) | exact .inr (.inl (by omega)) | exact .inr (.inr h1_36))]
  rw [hr]
  try dsimp only
  refine .outNone Φ.ld ?_
  exact .dn rfl rfl ⟨_, _, rfl, rfl⟩
 obtain ⟨ba, oa, rfl⟩ := hA (by omega)
 refine D.kNF (t := 21) rfl h1_23 (.kNF (t := 22) rfl h1_23 (.gv rfl (.fieldAddr rfl fo_41_7) (.gv rfl (.to (v' := .slice (some ⟨ba, oa, none⟩) m.ents.length ca) (.load rfl ag_33 (by repeat' constructor) rfl) hev) (.gv rfl (.indexAddr rfl rfl el_33 (by omega)) (.gv rfl (.fieldAddr rfl fo_75_0) (.gv rfl (.loadRd (sz := 11) (j := 0) (p := p) (v := vint (ent0 m.ents)) rfl ag_3 (by repeat' constructor) hev2 (by omega) (ent0_at (by omega))) (.gv rfl (.quo rfl rfl (by decide) (tdiv_i64 hz0)) (.gv rfl (.move rfl) (.gv rfl (.nilp rfl) (.gv rfl (.fieldAddr rfl fo_104_3) (.gv rfl (.ld rfl ag_3) (.gv rfl (.int rfl rfl rfl) (.kv rfl (.pickF rfl rfl) (.mv rfl rfl (.ndec (t := 36) rfl (fun h1_36 => ?_) (fun h1_36 => ?_))))))))))))))))
 ·refine D.kNT (t := 34) rfl h1_36 (.kNT (t := 35) rfl h1_36 (.gz rfl (.gz rfl (.gz rfl (.gz rfl (.ph (.g0 (.gz rfl (.kv rfl (.pickT rfl rfl) (.pf (.condT rfl (.seq (.fwFold (f := f) (g := g) (ha := ha) (hc := hc) (m := Φ.heard.length) Φ (by repeat' constructor) (by exact rfl) (by exact rfl) (by exact rfl) (.region (.m rfl (.cv Tryz.func50 [_] (lose_spec f g (Φ)) ?_))))))))))))))))
  refine .an rfl (.rt ?_)
  have hr : proF Φ ⟨δ, ω, Λ⟩ m = (Φ.lose, ⟨δ, ω, Λ⟩, none) := by unfold proF; (try dsimp only); rw [if_pos (by first | exact .inl (by rintro (g1 | g1); exact h1_10 g1; exact h1_17 g1) | exact .inr (.inl (by omega)) | exact .inr (.inr h1_36))]
  rw [hr]
  try dsimp only
  refine .outNone Φ.ld ?_
  exact .dn rfl rfl ⟨_, _, rfl, rfl⟩
 refine D.kNF (t := 34) rfl h1_36 (.kNF (t := 35) rfl h1_36 (.gv rfl (.move rfl) (.gv rfl (.fieldAddr rfl fo_41_7) (.gv rfl (.to (v' := .slice (some ⟨ba, oa, none⟩) m.ents.length ca) (.load rfl ag_33 (by repeat' constructor) rfl) hev) (.gh (t := 36) rfl rfl rfl (by kernel_rfl) (.c Tryz.func96 [_, _] (ftakeO_spec f g x d Φ δ ω Λ (.slice (some ⟨ba, oa, none⟩) m.ents.length ca) m.ents p N hP (by omega) hev2 hm.len hm.x ha hc)) (by repeat' constructor) ?_)))))
 rintro v L' ⟨rfl, rfl⟩; obtain ⟨r, hT⟩ : ∃ r, (takeZ m.ents ⟨δ, ω, Λ⟩) = r := ⟨_, rfl⟩; rw [hT]
 refine D.ph (.g0 (.gv rfl (.not rfl) (.kv rfl (.pickF rfl rfl) (.pf (.condB rfl (fun h42 => ?_) (fun h42 => ?_))))))
 ·refine .sm rfl (.cv Tryz.func50 [_] (lose_spec f g (Φ)) ?_)
  refine .an rfl (.rt ?_)
  have hr : proF Φ ⟨δ, ω, Λ⟩ m = (Φ.lose, r.1, none) := by unfold proF; (try dsimp only); rw [if_neg (by rintro (g1 | g1 | g1); exact g1 (by first | exact .inl h1_10 | exact .inr h1_17); exact g1 (by omega); exact g1 h1_36), hT, if_pos (by simpa using h42)]
  rw [hr]
  try dsimp only
  refine .outNone Φ.ld ?_
  exact .dn rfl rfl ⟨_, _, rfl, rfl⟩
 refine .sk (.sm rfl (.u (.fieldAddr rfl fo_41_7) (.q (.to (v' := .slice (some ⟨ba, oa, none⟩) m.ents.length ca) (.load rfl ag_33 (by repeat' constructor) rfl) hev) rfl (.q (.indexAddr rfl rfl el_33 (by omega)) rfl (.u (.fieldAddr rfl fo_75_0) (.q (.loadRd (sz := 11) (j := 0) (p := p) (v := vint (ent0 m.ents)) rfl ag_3 (by repeat' constructor) hev2 (by omega) (ent0_at (by omega))) rfl (.q (.to (v' := .agg (moC ⟨8, 0, ent0 m.ents, 0, []⟩ (.slice none 0 0)).toArray) (.buildN (pl := [(0, 1), (1, 1), (2, 1), (3, 1), (4, 1), (5, 1), (6, 1), (7, 1), (8, 10), (18, 1)]) (us := [(0, _), (2, _)]) (cells := moC ⟨8, 0, ent0 m.ents, 0, []⟩ (.slice none 0 0)) Tryz.underlying41 (by kernel_rfl) ze_41 rfl rfl) rfl) rfl (.add (slR_nil 3 1) (.oq (.c Tryz.func57 [_, _] (say_spec f g (Φ) ⟨8, 0, ent0 m.ents, 0, []⟩ (.slice none 0 0) rfl)) ?_)))))))))
 rintro v L' ⟨bs, rfl, rfl⟩
 refine .an rfl (.ret ?_)
 have hr : proF Φ ⟨δ, ω, Λ⟩ m = (Φ, r.1, some ⟨8, 0, ent0 m.ents, 0, []⟩) := by unfold proF; (try dsimp only); rw [if_neg (by rintro (g1 | g1 | g1); exact g1 (by first | exact .inl h1_10 | exact .inr h1_17); exact g1 (by omega); exact g1 h1_36), hT, if_neg (fun g1 => g1 (by simpa using h42))]
 rw [hr]
 try dsimp only
 refine .outFold (v := .slice (some ⟨bs, 0, none⟩) 1 1) (mv := .slice none 0 0) (k := 0) ⟨8, 0, ent0 m.ents, 0, []⟩ (by repeat' constructor) (by exact rfl) (by exact rfl) (by exact rfl) ?_
 exact .dn rfl rfl ⟨_, _, rfl, rfl⟩
theorem fhear_spec (f g x d : Nat) (Φ : Fw) (δ : Dk) (ω : Wl) (Λ : Lg) (m : Ms) (p : HP) (N : Int) (hm : MsA p m) (hP : LPs ⟨δ, ω, Λ⟩ N) (hN : N + 3000000000000 < 4611686018427387904) : Fn Tryz.prog 13 #[vptr f, .agg (msC m).toArray] [fwR f g Φ, lgR g x Λ, wlR x d ω, dkR d δ, p] fun v L => ∃ a c, v = .slice a (onN (hearF Φ ⟨δ, ω, Λ⟩ m).2.2) c ∧ L = [fwR f g (hearF Φ ⟨δ, ω, Λ⟩ m).1, lgR g x (hearF Φ ⟨δ, ω, Λ⟩ m).2.1.Λ, wlR x d (hearF Φ ⟨δ, ω, Λ⟩ m).2.1.ω, dkR d (hearF Φ ⟨δ, ω, Λ⟩ m).2.1.δ, outR v Φ.ld (hearF Φ ⟨δ, ω, Λ⟩ m).2.2, p] := by
 refine Fn.intro Tryz.func13 rfl rfl fun F W => ?_
 have hli := hP.w.i
 refine .fwOpen (f := f) (by repeat' constructor) fun ha hc => (.sr (.oq (.box rfl) ?_))
 rintro v L' ⟨b3, rfl, rfl⟩
 refine .a rfl (.nil (.ptCast (b := b3) (l' := msC m) (by repeat' constructor) (by exact rfl) (.then_n (.seq (.sm rfl (.nf rfl fo_104_2 (.u (.ld rfl ag_3) (.ui rfl rfl rfl (.nt (.condD rfl (fun h10 => ?_) (fun h10 => ?_)))))))))))
 ·refine .sr (.an rfl (.rt ?_))
  have hr : hearF Φ ⟨δ, ω, Λ⟩ m = (Φ, ⟨δ, ω, Λ⟩, none) := by unfold hearF; rw [if_pos h10]
  rw [hr]
  refine .fwFold (f := f) (g := g) (ha := ha) (hc := hc) (m := Φ.heard.length) Φ (by repeat' constructor) (by exact rfl) (by exact rfl) (by exact rfl) (.outNone Φ.ld ?_)
  exact .dn rfl rfl ⟨_, _, rfl, rfl⟩
 refine .sk (.sm rfl (.nf rfl fo_104_5 (.st rfl rfl rfl sz_3 ?_)))
 refine .nil (.fwFold (f := f) (g := g) (ha := ha) (hc := hc) (m := Φ.heard.length) (Φ.hush 0) (by repeat' constructor) (by exact rfl) (by exact rfl) (by exact rfl) ?_)
 obtain ⟨Q, hG⟩ : ∃ Q, Φ.hush 0 = Q := ⟨_, rfl⟩
 have hld : Q.ld = Φ.ld := by rw [← hG]; rfl
 rw [hG]
 refine .then_n (.seq (.sr (.u (.fieldAddr rfl fo_41_0) (.u (.ld rfl ag_3) (.nt (.block (.seq (.block (.seq (.block (.seq (.block (.seq (.block (.seq (.block (.seq (.block (.seq (.seq (.sr (.ui rfl rfl rfl (.an rfl (.condD rfl (fun h16 => ?_) (fun h16 => ?_)))))))))))))))))))))))))
 ·refine .exit (.then_e (.then_e (.blk_e (.then_n (.seq (.sm rfl (.q (.loadAs (vs := msC m) rfl ag_41 (by repeat' constructor) (by simp [msC]) rfl) rfl (.oq (.c Tryz.func53 [_, _] (faccept_spec f g x d Q δ ω Λ m p N hP (by omega))) ?_))))))))
  rintro v L' ⟨av, cv, rfl, rfl⟩
  refine .an rfl (.rt (.blk_r (.then_r (.blk_r (.then_r (.blk_r (.then_r (.blk_r (.then_r (.blk_r (.then_r (.blk_r (.then_r ?_)))))))))))))
  have hr : hearF Φ ⟨δ, ω, Λ⟩ m = accF Q ⟨δ, ω, Λ⟩ m := by unfold hearF; rw [if_neg h10, hG]; unfold hearF1; rw [if_pos h16]
  rw [hr, ← hld]
  exact .dn rfl rfl ⟨_, _, rfl, rfl⟩
 refine .sk (.seq (.sr (.ui rfl rfl rfl (.an rfl (.condD rfl (fun h18 => ?_) (fun h18 => ?_))))))
 ·refine .exit (.then_e (.then_e (.blk_o rfl (.then_e (.blk_e (.then_n (.seq (.sm rfl (.q (.loadAs (vs := msC m) rfl ag_41 (by repeat' constructor) (by simp [msC]) rfl) rfl (.oq (.c Tryz.func54 [_, _] (fsync_spec f g x d Q δ ω Λ m p N hm hP (by omega))) ?_))))))))))
  rintro v L' ⟨av, cv, rfl, rfl⟩
  refine .an rfl (.rt (.blk_r (.then_r (.blk_r (.then_r (.blk_r (.then_r (.blk_r (.then_r (.blk_r (.then_r ?_)))))))))))
  have hr : hearF Φ ⟨δ, ω, Λ⟩ m = synF Q ⟨δ, ω, Λ⟩ m := by unfold hearF; rw [if_neg h10, hG]; unfold hearF1; rw [if_neg h16, if_pos h18]
  rw [hr, ← hld]
  exact .dn rfl rfl ⟨_, _, rfl, rfl⟩
 refine .sk (.seq (.sr (.ui rfl rfl rfl (.an rfl (.condD rfl (fun h20 => ?_) (fun h20 => ?_))))))
 ·refine .exit (.then_e (.then_e (.blk_o rfl (.then_e (.blk_o rfl (.then_e (.blk_e (.then_n (.seq (.sm rfl (.q (.loadAs (vs := msC m) rfl ag_41 (by repeat' constructor) (by simp [msC]) rfl) rfl (.oq (.c Tryz.func55 [_, _] (fpropose_spec f g x d Q δ ω Λ m p N hm hP (by omega))) ?_))))))))))))
  rintro v L' ⟨av, cv, rfl, rfl⟩
  refine .an rfl (.rt (.blk_r (.then_r (.blk_r (.then_r (.blk_r (.then_r (.blk_r (.then_r ?_)))))))))
  have hr : hearF Φ ⟨δ, ω, Λ⟩ m = proF Q ⟨δ, ω, Λ⟩ m := by unfold hearF; rw [if_neg h10, hG]; unfold hearF1; rw [if_neg h16, if_neg h18, if_pos h20]
  rw [hr, ← hld]
  exact .dn rfl rfl ⟨_, _, rfl, rfl⟩
 refine .sk (.seq (.sr (.ui rfl rfl rfl (.an rfl (.condD rfl (fun h22 => ?_) (fun h22 => ?_))))))
 ·refine .exit (.then_e (.then_e (.blk_o rfl (.then_e (.blk_o rfl (.then_e (.blk_o rfl (.then_e (.blk_e (.then_n (.seq (.seq (.seq (.fwOpen (f := f) (by repeat' constructor) fun ha hc => (.region (.m rfl (.nf rfl fo_104_2 (.u (.ld rfl ag_3) (.ui rfl rfl rfl (.nt (.condD rfl (fun h41 => ?_) (fun h41 => ?_))))))))))))))))))))))
  ·refine .sr (.an rfl (.rt (.then_r (.blk_r (.then_r (.blk_r (.then_r (.blk_r (.then_r ?_)))))))))
   have hr : hearF Φ ⟨δ, ω, Λ⟩ m = pingF Q ⟨δ, ω, Λ⟩ m := by unfold hearF; rw [if_neg h10, hG]; unfold hearF1; rw [if_neg h16, if_neg h18, if_neg h20, if_pos h22]
   rw [hr, ← hld]
   have hr : pingF Q ⟨δ, ω, Λ⟩ m = (Q, ⟨δ, ω, Λ⟩, none) := by unfold pingF; (try dsimp only); rw [if_pos h41]
   rw [hr]
   try dsimp only
   refine .fwFold (f := f) (g := g) (ha := ha) (hc := hc) (m := Q.heard.length) Q (by repeat' constructor) (by exact rfl) (by exact rfl) (by exact rfl) (.outNone Q.ld ?_)
   exact .dn rfl rfl ⟨_, _, rfl, rfl⟩
  refine .sk (.seq (.seq (.draw [] [[0, 1, 2, 3, 4, 5, 6, 7, 8, 9, 10, 11, 12, 13, 14]] mixed (by kernel_rfl) (.go [ptc f _ _, ptc b3 _ _, lgR g x Λ] (by repeat' constructor) (.mv rfl rfl (.nf rfl rfl rfl fo_104_2 (.kv rfl (.ld rfl ag_3) (.kv rfl (.int rfl rfl rfl) (.mv rfl rfl (.dec (t := 47) rfl (fun h16_47 => ?_) (fun h16_47 => ?_)))))))))))
  ·refine D.kDT (t := 46) rfl h16_47 (.gv rfl (.fieldAddr rfl fo_41_2) (.gv rfl (.ld rfl ag_3) (.gv rfl (.move rfl) (.gv rfl (.nilp rfl) (.gv rfl (.fieldAddr rfl fo_104_1) (.gv rfl (.ld rfl ag_25) (.gm (t := 47) rfl rfl rfl (by kernel_rfl) (.c Tryz.func9 [_] (llast_spec g x Λ hli)) (by repeat' constructor) ?_)))))))
   refine D.gv rfl (.int rfl rfl rfl) (.kv rfl (.pickT rfl rfl) (.pf (.condD rfl (fun h56 => ?_) (fun h56 => ?_))))
   ·refine .draw [10] [[0, 1, 2, 3, 4, 5, 6, 7, 8, 9, 10]] mixed (by kernel_rfl) (.g0 (.mv rfl rfl (.mv rfl rfl (.nf rfl rfl rfl fo_104_4 (.kv rfl (.ld rfl ag_3) (.kv rfl (.fieldAddr rfl fo_41_2) (.kv rfl (.ld rfl ag_3) (.kv rfl (.max2 rfl rfl) (.nf rfl rfl rfl fo_104_4 (.hh rfl (.store rfl rfl rfl sz_3 ?c64 (nfz0 _ _)) ?_))))))))))
    case c64 => first | decide | (simp; omega) | simp
    rintro v L' rfl
    refine D.pf (.sm rfl (.nf rfl fo_104_6 (.u (.ld rfl ag_32) (.oq (.c Tryz.func56 [_] (clipI_spec _ _ _)) ?_))))
    rintro v L' ⟨⟨ac, cc, rfl⟩, rfl⟩
    refine .an rfl (.sm rfl (.nf rfl fo_104_6 (.st rfl rfl rfl sz_32 ?_)))
    refine .nt (.sm rfl (.m rfl (.q (.to (v' := .agg (moC ⟨11, 0, 0, 0, Q.heard⟩ (.slice ac Q.heard.length cc)).toArray) (.buildN (pl := [(0, 1), (1, 1), (2, 1), (3, 1), (4, 1), (5, 1), (6, 1), (7, 1), (8, 10), (18, 1)]) (us := [(0, _), (5, _)]) (cells := moC ⟨11, 0, 0, 0, Q.heard⟩ (.slice ac Q.heard.length cc)) Tryz.underlying41 (by kernel_rfl) ze_41 rfl rfl) rfl) rfl (.add (slR_nil 3 1) (.fwFold (f := f) (g := g) (ha := none) (hc := 0) (m := 0) (hs := []) ((Q.comm m.zx).hear []) (by repeat' constructor) (by exact rfl) (by exact rfl) (by exact rfl) (.oq (.c Tryz.func57 [_, _] (say_spec f g ((Q.comm m.zx).hear []) ⟨11, 0, 0, 0, Q.heard⟩ (.slice ac Q.heard.length cc) rfl)) ?_))))))
    rintro v L' ⟨bs, rfl, rfl⟩
    refine .an rfl (.rt (.blk_r (.then_r (.blk_r (.then_r (.blk_r (.then_r ?_)))))))
    have hr : hearF Φ ⟨δ, ω, Λ⟩ m = pingF Q ⟨δ, ω, Λ⟩ m := by unfold hearF; rw [if_neg h10, hG]; unfold hearF1; rw [if_neg h16, if_neg h18, if_neg h20, if_pos h22]
    rw [hr, ← hld]
    have h1 : pingF1 Q ⟨δ, ω, Λ⟩ m = (Q.comm m.zx) := by unfold pingF1; dsimp only; rw [if_pos ⟨h16_47, h56⟩]
    have hr : pingF Q ⟨δ, ω, Λ⟩ m = ((Q.comm m.zx).hear [], ⟨δ, ω, Λ⟩, some ⟨11, 0, 0, 0, Q.heard⟩) := by unfold pingF; (try dsimp only); rw [if_neg h41, h1]
    rw [hr]
    try dsimp only
    refine .outFold (v := .slice (some ⟨bs, 0, none⟩) 1 1) (mv := .slice ac _ cc) (k := _) ⟨11, 0, 0, 0, Q.heard⟩ (by repeat' constructor) (by exact rfl) (by exact rfl) (by exact rfl) ?_
    exact .dn rfl rfl ⟨_, _, rfl, rfl⟩
   refine .sk (.sm rfl (.nf rfl fo_104_6 (.u (.ld rfl ag_32) (.oq (.c Tryz.func56 [_] (clipI_spec _ _ _)) ?_))))
   rintro v L' ⟨⟨ac, cc, rfl⟩, rfl⟩
   refine .an rfl (.sm rfl (.nf rfl fo_104_6 (.st rfl rfl rfl sz_32 ?_)))
   refine .nt (.sm rfl (.m rfl (.q (.to (v' := .agg (moC ⟨11, 0, 0, 0, Q.heard⟩ (.slice ac Q.heard.length cc)).toArray) (.buildN (pl := [(0, 1), (1, 1), (2, 1), (3, 1), (4, 1), (5, 1), (6, 1), (7, 1), (8, 10), (18, 1)]) (us := [(0, _), (5, _)]) (cells := moC ⟨11, 0, 0, 0, Q.heard⟩ (.slice ac Q.heard.length cc)) Tryz.underlying41 (by kernel_rfl) ze_41 rfl rfl) rfl) rfl (.add (slR_nil 3 1) (.fwFold (f := f) (g := g) (ha := none) (hc := 0) (m := 0) (hs := []) (Q.hear []) (by repeat' constructor) (by exact rfl) (by exact rfl) (by exact rfl) (.oq (.c Tryz.func57 [_, _] (say_spec f g (Q.hear []) ⟨11, 0, 0, 0, Q.heard⟩ (.slice ac Q.heard.length cc) rfl)) ?_))))))
   rintro v L' ⟨bs, rfl, rfl⟩
   refine .an rfl (.rt (.blk_r (.then_r (.blk_r (.then_r (.blk_r (.then_r ?_)))))))
   have hr : hearF Φ ⟨δ, ω, Λ⟩ m = pingF Q ⟨δ, ω, Λ⟩ m := by unfold hearF; rw [if_neg h10, hG]; unfold hearF1; rw [if_neg h16, if_neg h18, if_neg h20, if_pos h22]
   rw [hr, ← hld]
   have h1 : pingF1 Q ⟨δ, ω, Λ⟩ m = Q := by unfold pingF1; dsimp only; rw [if_neg (fun g1 => by first | exact h16_47 g1.1 | exact h56 g1.2)]
   have hr : pingF Q ⟨δ, ω, Λ⟩ m = (Q.hear [], ⟨δ, ω, Λ⟩, some ⟨11, 0, 0, 0, Q.heard⟩) := by unfold pingF; (try dsimp only); rw [if_neg h41, h1]
   rw [hr]
   try dsimp only
   refine .outFold (v := .slice (some ⟨bs, 0, none⟩) 1 1) (mv := .slice ac _ cc) (k := _) ⟨11, 0, 0, 0, Q.heard⟩ (by repeat' constructor) (by exact rfl) (by exact rfl) (by exact rfl) ?_
   exact .dn rfl rfl ⟨_, _, rfl, rfl⟩
  refine D.kDF (t := 46) rfl h16_47 (.gz rfl (.gz rfl (.gz rfl (.gz rfl (.gz rfl (.gz rfl (.gz rfl (.gz rfl (.kv rfl (.pickF rfl rfl) (.pf (.condF rfl (.sk (.sm rfl (.nf rfl fo_104_6 (.u (.ld rfl ag_32) (.oq (.c Tryz.func56 [_] (clipI_spec _ _ _)) ?_))))))))))))))))
  rintro v L' ⟨⟨ac, cc, rfl⟩, rfl⟩
  refine .an rfl (.sm rfl (.nf rfl fo_104_6 (.st rfl rfl rfl sz_32 ?_)))
  refine .nt (.sm rfl (.m rfl (.q (.to (v' := .agg (moC ⟨11, 0, 0, 0, Q.heard⟩ (.slice ac Q.heard.length cc)).toArray) (.buildN (pl := [(0, 1), (1, 1), (2, 1), (3, 1), (4, 1), (5, 1), (6, 1), (7, 1), (8, 10), (18, 1)]) (us := [(0, _), (5, _)]) (cells := moC ⟨11, 0, 0, 0, Q.heard⟩ (.slice ac Q.heard.length cc)) Tryz.underlying41 (by kernel_rfl) ze_41 rfl rfl) rfl) rfl (.add (slR_nil 3 1) (.fwFold (f := f) (g := g) (ha := none) (hc := 0) (m := 0) (hs := []) (Q.hear []) (by repeat' constructor) (by exact rfl) (by exact rfl) (by exact rfl) (.oq (.c Tryz.func57 [_, _] (say_spec f g (Q.hear []) ⟨11, 0, 0, 0, Q.heard⟩ (.slice ac Q.heard.length cc) rfl)) ?_))))))
  rintro v L' ⟨bs, rfl, rfl⟩
  refine .an rfl (.rt (.blk_r (.then_r (.blk_r (.then_r (.blk_r (.then_r ?_)))))))
  have hr : hearF Φ ⟨δ, ω, Λ⟩ m = pingF Q ⟨δ, ω, Λ⟩ m := by unfold hearF; rw [if_neg h10, hG]; unfold hearF1; rw [if_neg h16, if_neg h18, if_neg h20, if_pos h22]
  rw [hr, ← hld]
  have h1 : pingF1 Q ⟨δ, ω, Λ⟩ m = Q := by unfold pingF1; dsimp only; rw [if_neg (fun g1 => by first | exact h16_47 g1.1 | exact h56 g1.2)]
  have hr : pingF Q ⟨δ, ω, Λ⟩ m = (Q.hear [], ⟨δ, ω, Λ⟩, some ⟨11, 0, 0, 0, Q.heard⟩) := by unfold pingF; (try dsimp only); rw [if_neg h41, h1]
  rw [hr]
  try dsimp only
  refine .outFold (v := .slice (some ⟨bs, 0, none⟩) 1 1) (mv := .slice ac _ cc) (k := _) ⟨11, 0, 0, 0, Q.heard⟩ (by repeat' constructor) (by exact rfl) (by exact rfl) (by exact rfl) ?_
  exact .dn rfl rfl ⟨_, _, rfl, rfl⟩
 refine .sk (.seq (.sr (.ui rfl rfl rfl (.an rfl (.condD rfl (fun h24 => ?_) (fun h24 => ?_))))))
 ·refine .exit (.then_e (.then_e (.blk_o rfl (.then_e (.blk_o rfl (.then_e (.blk_o rfl (.then_e (.blk_o rfl (.then_e (.blk_e (.then_n (.seq (.seq (.fwOpen (f := f) (by repeat' constructor) fun ha hc => (.region (.m rfl (.nf rfl fo_104_2 (.u (.ld rfl ag_3) (.ui rfl rfl rfl (.nt (.condN rfl (fun h83 => ?_) (fun h83 => ?_)))))))))))))))))))))))
  ·refine .seq (.fwFold (f := f) (g := g) (ha := ha) (hc := hc) (m := Q.heard.length) Q (by repeat' constructor) (by exact rfl) (by exact rfl) (by exact rfl) (.region (.m rfl (.cv Tryz.func50 [_] (lose_spec f g (Q)) ?_))))
   refine .an rfl (.rt (.blk_r (.then_r (.blk_r (.then_r ?_)))))
   have hr : hearF Φ ⟨δ, ω, Λ⟩ m = upF Q ⟨δ, ω, Λ⟩ m := by unfold hearF; rw [if_neg h10, hG]; unfold hearF1; rw [if_neg h16, if_neg h18, if_neg h20, if_neg h22, if_pos h24]
   rw [hr, ← hld]
   have hr : upF Q ⟨δ, ω, Λ⟩ m = (Q.lose, ⟨δ, ω, Λ⟩, none) := by unfold upF; (try dsimp only); rw [if_pos h83]
   rw [hr]
   try dsimp only
   refine .outNone Q.ld ?_
   exact .dn rfl rfl ⟨_, _, rfl, rfl⟩
  refine .sk (.region (.m rfl (.nf rfl fo_104_2 (.st rfl rfl rfl sz_3 ?_))))
  refine .nil (.blk_n (.then_n (.seq (.seq (.seq (.draw [] [[0, 1, 2, 3, 4, 5, 6, 7, 8, 9, 10, 11, 12, 13, 14]] mixed (by kernel_rfl) (.go [ptc f _ _, ptc b3 _ _, lgR g x Λ] (by repeat' constructor) (.mv rfl rfl (.nf rfl rfl rfl fo_104_2 (.kv rfl (.ld rfl ag_3) (.kv rfl (.as (v' := .bool false) (by rfl) (.int rfl rfl rfl)) (.mv rfl rfl (.gv rfl (.fieldAddr rfl fo_41_2) (.gv rfl (.ld rfl ag_3) (.gv rfl (.move rfl) (.gv rfl (.nilp rfl) (.gv rfl (.fieldAddr rfl fo_104_1) (.gv rfl (.ld rfl ag_25) (.gm (t := 94) rfl rfl rfl (by kernel_rfl) (.c Tryz.func9 [_] (llast_spec g x Λ hli)) (by repeat' constructor) ?_)))))))))))))))))))
  refine D.gv rfl (.int rfl rfl rfl) (.kv rfl (.pickF rfl rfl) (.pf (.condD rfl (fun h103 => ?_) (fun h103 => ?_))))
  ·refine .seq (.fwFold (f := f) (g := g) (ha := ha) (hc := hc) (m := Q.heard.length) (Q.toPh 3) (by repeat' constructor) (by exact rfl) (by exact rfl) (by exact rfl) (.region (.m rfl (.cv Tryz.func50 [_] (lose_spec f g (Q.toPh 3)) ?_))))
   refine .an rfl (.rt (.then_r (.blk_r (.then_r ?_))))
   have hr : hearF Φ ⟨δ, ω, Λ⟩ m = upF Q ⟨δ, ω, Λ⟩ m := by unfold hearF; rw [if_neg h10, hG]; unfold hearF1; rw [if_neg h16, if_neg h18, if_neg h20, if_neg h22, if_pos h24]
   rw [hr, ← hld]
   have hu : upF Q ⟨δ, ω, Λ⟩ m = comF (Q.toPh 3) ⟨δ, ω, Λ⟩ m := by unfold upF; rw [if_neg (fun g1 => g1 h83)]
   rw [hu]
   have hr : comF (Q.toPh 3) ⟨δ, ω, Λ⟩ m = ((Q.toPh 3).lose, ⟨δ, ω, Λ⟩, none) := by unfold comF; (try dsimp only); rw [if_pos (by first | exact .inl h24_94 | exact .inr h103)]
   rw [hr]
   try dsimp only
   refine .outNone Q.ld ?_
   exact .dn rfl rfl ⟨_, _, rfl, rfl⟩
  refine .sk (.draw [10] [[0, 1, 2, 3, 4, 5, 6, 7, 8, 9, 10]] mixed (by kernel_rfl) (.g0 (.mv rfl rfl (.mv rfl rfl (.nf rfl rfl rfl fo_104_4 (.kv rfl (.ld rfl ag_3) (.kv rfl (.fieldAddr rfl fo_41_2) (.kv rfl (.ld rfl ag_3) (.kv rfl (.max2 rfl rfl) (.nf rfl rfl rfl fo_104_4 (.hh rfl (.store rfl rfl rfl sz_3 ?c158 (nfz0 _ _)) ?_)))))))))))
  case c158 => first | decide | (simp; omega) | simp
  rintro v L' rfl
  refine D.ph (.fin (.fwFold (f := f) (g := g) (ha := ha) (hc := hc) (m := Q.heard.length) ((Q.toPh 3).comm m.zx) (by repeat' constructor) (by exact rfl) (by exact rfl) (by exact rfl) (.then_n (.exit (.blk_e (.then_n (.sr (.an rfl (.ret ?_)))))))))
  have hr : hearF Φ ⟨δ, ω, Λ⟩ m = upF Q ⟨δ, ω, Λ⟩ m := by unfold hearF; rw [if_neg h10, hG]; unfold hearF1; rw [if_neg h16, if_neg h18, if_neg h20, if_neg h22, if_pos h24]
  rw [hr, ← hld]
  have hu : upF Q ⟨δ, ω, Λ⟩ m = comF (Q.toPh 3) ⟨δ, ω, Λ⟩ m := by unfold upF; rw [if_neg (fun g1 => g1 h83)]
  rw [hu]
  have hr : comF (Q.toPh 3) ⟨δ, ω, Λ⟩ m = ((Q.toPh 3).comm m.zx, ⟨δ, ω, Λ⟩, none) := by unfold comF; (try dsimp only); rw [if_neg (by rintro (g1 | g1); exact g1 rfl; exact h103 g1)]
  rw [hr]
  try dsimp only
  refine .outNone Q.ld ?_
  exact .dn rfl rfl ⟨_, _, rfl, rfl⟩
 refine .sk (.sr (.ui rfl rfl rfl (.an rfl (.condD rfl (fun h26 => ?_) (fun h26 => ?_)))))
 ·refine .exit (.then_e (.blk_o rfl (.then_e (.blk_o rfl (.then_e (.blk_o rfl (.then_e (.blk_o rfl (.then_e (.blk_o rfl (.then_e (.blk_e (.then_n (.seq (.seq (.seq (.fwOpen (f := f) (by repeat' constructor) fun ha hc => (.draw [] [[0, 1, 2, 3, 4, 5, 6, 7, 8, 9, 10, 11, 12, 13, 14]] mixed (by kernel_rfl) (.go [ptc f _ _, ptc b3 _ _, lgR g x Λ] (by repeat' constructor) (.mv rfl rfl (.nf rfl rfl rfl fo_104_2 (.kv rfl (.ld rfl ag_3) (.kv rfl (.int rfl rfl rfl) (.mv rfl rfl (.ndec (t := 94) rfl (fun h24_94 => ?_) (fun h24_94 => ?_))))))))))))))))))))))))))
  ·refine D.kNT (t := 93) rfl h24_94 (.gz rfl (.gz rfl (.gz rfl (.gz rfl (.gz rfl (.gz rfl (.gz rfl (.gz rfl (.kv rfl (.pickT rfl rfl) (.pf (.condT rfl (.seq (.fwFold (f := f) (g := g) (ha := ha) (hc := hc) (m := Q.heard.length) (Q) (by repeat' constructor) (by exact rfl) (by exact rfl) (by exact rfl) (.region (.m rfl (.cv Tryz.func50 [_] (lose_spec f g (Q)) ?_))))))))))))))))
   refine .an rfl (.rt (.then_r (.blk_r (.then_r ?_))))
   have hr : hearF Φ ⟨δ, ω, Λ⟩ m = comF Q ⟨δ, ω, Λ⟩ m := by unfold hearF; rw [if_neg h10, hG]; unfold hearF1; rw [if_neg h16, if_neg h18, if_neg h20, if_neg h22, if_neg h24, if_pos h26]
   rw [hr, ← hld]
   have hr : comF (Q) ⟨δ, ω, Λ⟩ m = (Q.lose, ⟨δ, ω, Λ⟩, none) := by unfold comF; (try dsimp only); rw [if_pos (by first | exact .inl h24_94 | exact .inr h103)]
   rw [hr]
   try dsimp only
   refine .outNone Q.ld ?_
   exact .dn rfl rfl ⟨_, _, rfl, rfl⟩
  refine D.kNF (t := 93) rfl h24_94 (.gv rfl (.fieldAddr rfl fo_41_2) (.gv rfl (.ld rfl ag_3) (.gv rfl (.move rfl) (.gv rfl (.nilp rfl) (.gv rfl (.fieldAddr rfl fo_104_1) (.gv rfl (.ld rfl ag_25) (.gm (t := 94) rfl rfl rfl (by kernel_rfl) (.c Tryz.func9 [_] (llast_spec g x Λ hli)) (by repeat' constructor) ?_)))))))
  refine D.gv rfl (.int rfl rfl rfl) (.kv rfl (.pickF rfl rfl) (.pf (.condD rfl (fun h103 => ?_) (fun h103 => ?_))))
  ·refine .seq (.fwFold (f := f) (g := g) (ha := ha) (hc := hc) (m := Q.heard.length) (Q) (by repeat' constructor) (by exact rfl) (by exact rfl) (by exact rfl) (.region (.m rfl (.cv Tryz.func50 [_] (lose_spec f g (Q)) ?_))))
   refine .an rfl (.rt (.then_r (.blk_r (.then_r ?_))))
   have hr : hearF Φ ⟨δ, ω, Λ⟩ m = comF Q ⟨δ, ω, Λ⟩ m := by unfold hearF; rw [if_neg h10, hG]; unfold hearF1; rw [if_neg h16, if_neg h18, if_neg h20, if_neg h22, if_neg h24, if_pos h26]
   rw [hr, ← hld]
   have hr : comF (Q) ⟨δ, ω, Λ⟩ m = (Q.lose, ⟨δ, ω, Λ⟩, none) := by unfold comF; (try dsimp only); rw [if_pos (by first | exact .inl h24_94 | exact .inr h103)]
   rw [hr]
   try dsimp only
   refine .outNone Q.ld ?_
   exact .dn rfl rfl ⟨_, _, rfl, rfl⟩
  refine .sk (.draw [10] [[0, 1, 2, 3, 4, 5, 6, 7, 8, 9, 10]] mixed (by kernel_rfl) (.g0 (.mv rfl rfl (.mv rfl rfl (.nf rfl rfl rfl fo_104_4 (.kv rfl (.ld rfl ag_3) (.kv rfl (.fieldAddr rfl fo_41_2) (.kv rfl (.ld rfl ag_3) (.kv rfl (.max2 rfl rfl) (.nf rfl rfl rfl fo_104_4 (.hh rfl (.store rfl rfl rfl sz_3 ?c194 (nfz0 _ _)) ?_)))))))))))
  case c194 => first | decide | (simp; omega) | simp
  rintro v L' rfl
  refine D.ph (.fin (.fwFold (f := f) (g := g) (ha := ha) (hc := hc) (m := Q.heard.length) ((Q).comm m.zx) (by repeat' constructor) (by exact rfl) (by exact rfl) (by exact rfl) (.then_n (.exit (.blk_e (.then_n (.sr (.an rfl (.ret ?_)))))))))
  have hr : hearF Φ ⟨δ, ω, Λ⟩ m = comF Q ⟨δ, ω, Λ⟩ m := by unfold hearF; rw [if_neg h10, hG]; unfold hearF1; rw [if_neg h16, if_neg h18, if_neg h20, if_neg h22, if_neg h24, if_pos h26]
  rw [hr, ← hld]
  have hr : comF (Q) ⟨δ, ω, Λ⟩ m = (Q.comm m.zx, ⟨δ, ω, Λ⟩, none) := by unfold comF; (try dsimp only); rw [if_neg (by rintro (g1 | g1); exact g1 h24_94; exact h103 g1)]
  rw [hr]
  try dsimp only
  refine .outNone Q.ld ?_
  exact .dn rfl rfl ⟨_, _, rfl, rfl⟩
 refine .sk (.exit (.blk_o rfl (.then_e (.blk_o rfl (.then_e (.blk_o rfl (.then_e (.blk_o rfl (.then_e (.blk_o rfl (.then_e (.blk_o rfl (.then_e (.blk_e (.then_n (.sr (.an rfl (.ret ?_))))))))))))))))))
 have hr : hearF Φ ⟨δ, ω, Λ⟩ m = (Q, ⟨δ, ω, Λ⟩, none) := by unfold hearF; rw [if_neg h10, hG]; unfold hearF1; rw [if_neg h16, if_neg h18, if_neg h20, if_neg h22, if_neg h24, if_neg h26]
 rw [hr, ← hld]
 refine .outNone Q.ld ?_
 exact .dn rfl rfl ⟨_, _, rfl, rfl⟩
theorem sortI_spec (v : Value) (n : Nat) (xs : List Int) (hn : n < 4611686018427387904) : Fn Tryz.prog 51 #[v] [slR 3 1 v n (ints xs)] fun u L => u = .tuple #[] ∧ L = [slR 3 1 v n (ints (sortI xs))] :=
 sort_fn Tryz.sortA 3 v n xs hn
theorem compI_spec (v : Value) (n : Nat) (xs : List Int) (hn : n < 4611686018427387904) : Fn Tryz.prog 52 #[v] [slR 3 1 v n (ints xs)] fun u L => (∃ a c, u = .slice a (compI xs).length c) ∧ L = [slR 3 1 u (compI xs).length (ints (compI xs))] :=
 compact_fn Tryz.compactA 3 v n xs hn
theorem ftick_spec (f g x : Nat) (Φ : Fw) (δ : Dk) (ω : Wl) (Λ : Lg) (v1 : Value) (l : List Int) (p : HP) (K : Nat) (hF : FwI Φ K) (hK : K + l.length ≤ 1000000000) (hl : ∀ h : Hp, p h → rdS 1 h v1 l.length (ints l)) : Fn Tryz.prog 12 #[vptr f, v1] [fwR f g Φ, lgR g x Λ, p] fun v L => ∃ a c, v = .slice a (onN (tickF Φ ⟨δ, ω, Λ⟩ l).2) c ∧ L = [fwR f g (tickF Φ ⟨δ, ω, Λ⟩ l).1, lgR g x Λ, outR v Φ.ld (tickF Φ ⟨δ, ω, Λ⟩ l).2, p] := by
 refine Fn.intro Tryz.func12 rfl rfl fun F W => ?_
 have hsil := hF.sil
 refine .fwOpen (f := f) (by repeat' constructor) fun ha hc => ?_
 have hheard := hF.heard
 refine .sr (.an rfl (.seq (.sm rfl (.nf rfl fo_104_2 (.u (.ld rfl ag_3) (.ui rfl rfl rfl (.nt (.condD rfl (fun h9 => ?_) (fun h9 => ?_)))))))))
 ·refine .sr (.an rfl (.rt ?_))
  have hr : tickF Φ ⟨δ, ω, Λ⟩ l = (Φ, none) := by unfold tickF; rw [if_pos h9]
  rw [hr]
  refine .fwFold (f := f) (g := g) (ha := ha) (hc := hc) (m := Φ.heard.length) Φ (by repeat' constructor) (by exact rfl) (by exact rfl) (by exact rfl) (.outNone Φ.ld ?_)
  exact .dn rfl rfl ⟨_, _, rfl, rfl⟩
 refine .sk (.seq (.sm rfl (.nf rfl fo_104_5 (.u (.ld rfl ag_3) (.q (.add rfl rfl (by rcases hsil with h | h; exact absurd h h9; omega)) rfl (.nf rfl fo_104_5 (.st rfl rfl rfl sz_3 ?_)))))))
 refine .nt (.sm rfl (.nf rfl fo_104_5 (.u (.ld rfl ag_3) (.ui rfl rfl rfl (.nt (.condD rfl (fun h21 => ?_) (fun h21 => ?_)))))))
 ·refine .seq (.fwFold (f := f) (g := g) (ha := ha) (hc := hc) (m := Φ.heard.length) (Φ.hush (Φ.sil + 1)) (by repeat' constructor) (by exact rfl) (by exact rfl) (by exact rfl) (.region (.m rfl (.cv Tryz.func50 [_] (lose_spec f g ((Φ.hush (Φ.sil + 1)))) ?_))))
  refine .an rfl (.rt ?_)
  have hr : tickF Φ ⟨δ, ω, Λ⟩ l = ((Φ.hush (Φ.sil + 1)).lose, none) := by unfold tickF; rw [if_neg h9, if_pos h21, h21]
  rw [hr]
  refine .outNone Φ.ld ?_
  exact .dn rfl rfl ⟨_, _, rfl, rfl⟩
 refine .sk (.sm rfl (.m rfl (.nf rfl fo_104_6 (.u (.ld rfl ag_32) (.m rfl (.oq (.append (n := Φ.heard.length) (m := l.length) (ys := ints l) (p := p) rfl rfl rfl el_32 (.inl ⟨_, Tryz.underlying32⟩) ze_3 rfl rfl ?hc32 ?hr33 ?hb34 (by decide)) ?_))))))
 case hc32 => intro y hy; obtain ⟨c, -, rfl⟩ := List.mem_map.1 hy; rfl
 case hr33 => exact hl
 case hb34 => omega
 rintro v L' ⟨⟨a6, c6, rfl⟩, rfl⟩
 refine .nf rfl fo_104_6 (.st rfl rfl rfl sz_32 ?_)
 refine .nil ?_
 rw [show ints Φ.heard ++ ints l = ints (Φ.heard ++ l) by simp [ints]]
 refine .then_n (.sm rfl (.nf rfl fo_104_6 (.u (.ld rfl ag_32) (.oq (.call Tryz.func51 rfl rfl (vs := [_]) rfl (sortI_spec _ (Φ.heard.length + l.length) (Φ.heard ++ l) (by omega))) ?_))))
 rintro v L' ⟨rfl, rfl⟩
 refine .nt (.sm rfl (.m rfl (.nf rfl fo_104_6 (.u (.ld rfl ag_32) (.oq (.call Tryz.func52 rfl rfl (vs := [_]) rfl (compI_spec _ (Φ.heard.length + l.length) (sortI (Φ.heard ++ l)) (by omega))) ?_)))))
 rintro v L' ⟨⟨a8, c8, rfl⟩, rfl⟩
 refine .nf rfl fo_104_6 (.st rfl rfl rfl sz_32 ?_)
 refine .nt (.seq (.sm rfl (.nf rfl fo_104_2 (.u (.ld rfl ag_3) (.ui rfl rfl rfl (.m rfl (.dec (t := 51) rfl (fun h9_51 => ?_) (fun h9_51 => ?_))))))))
 ·refine .kDT (t := 50) rfl h9_51 (.grun (t := 51) rfl rfl rfl (.m rfl (.grun (t := 51) rfl rfl rfl (.u (.nilp rfl) (.grun (t := 51) rfl rfl rfl (.u (.fieldAddr rfl fo_104_5) (.grun (t := 51) rfl rfl rfl (.u (.ld rfl ag_3) (.grun (t := 51) rfl rfl rfl (.q (.remE rfl rfl (by rcases hsil with h | h; exact absurd h h9; omega) (by rcases hsil with h | h; exact absurd h h9; omega)) rfl (.grun (t := 51) rfl rfl rfl (.ui rfl rfl rfl (.u (.pickT rfl rfl) (.nt (.condD rfl (fun h58 => ?_) (fun h58 => ?_))))))))))))))))
  ·refine .seq (.fwFold (f := f) (g := g) (ha := a8) (hc := c8) (m := _) ((Φ.hush (Φ.sil + 1)).hear (compI (sortI (Φ.heard ++ l)))) (by repeat' constructor) (by exact rfl) (by exact rfl) (by exact rfl) (.region (.m rfl (.oq (.c Tryz.func21 [_] (fstart_spec f g x ((Φ.hush (Φ.sil + 1)).hear (compI (sortI (Φ.heard ++ l)))) δ ω Λ)) ?_))))
   rintro v L' ⟨av, cv, rfl, rfl⟩
   refine .an rfl (.rt ?_)
   have hr : tickF Φ ⟨δ, ω, Λ⟩ l = (((Φ.hush (Φ.sil + 1)).hear (compI (sortI (Φ.heard ++ l)))), some ⟨1, Λ.acc, 0, 0, []⟩) := by unfold tickF; rw [if_neg h9, if_neg h21, if_pos ⟨h9_51, h58⟩]
   rw [hr]
   rw [show startF ((Φ.hush (Φ.sil + 1)).hear (compI (sortI (Φ.heard ++ l)))) ⟨δ, ω, Λ⟩ = some ⟨1, Λ.acc, 0, 0, []⟩ from if_neg h9]
   exact .dn rfl rfl ⟨_, _, rfl, rfl⟩
  refine .sk (.sr (.an rfl (.ret ?_)))
  have hr : tickF Φ ⟨δ, ω, Λ⟩ l = (((Φ.hush (Φ.sil + 1)).hear (compI (sortI (Φ.heard ++ l)))), none) := by unfold tickF; rw [if_neg h9, if_neg h21, if_neg (fun g1 => by first | exact h9_51 g1.1 | exact h58 g1.2)]
  rw [hr]
  refine .fwFold (f := f) (g := g) (ha := a8) (hc := c8) (m := _) ((Φ.hush (Φ.sil + 1)).hear (compI (sortI (Φ.heard ++ l)))) (by repeat' constructor) (by exact rfl) (by exact rfl) (by exact rfl) (.outNone Φ.ld ?_)
  exact .dn rfl rfl ⟨_, _, rfl, rfl⟩
 refine .kDF (t := 50) rfl h9_51 (.gk (.gk (.gk (.gk (.gk (.gk (.u (.pickF rfl rfl) (.nt (.condF rfl (.sk (.sr (.an rfl (.ret ?_)))))))))))))
 have hr : tickF Φ ⟨δ, ω, Λ⟩ l = (((Φ.hush (Φ.sil + 1)).hear (compI (sortI (Φ.heard ++ l)))), none) := by unfold tickF; rw [if_neg h9, if_neg h21, if_neg (fun g1 => by first | exact h9_51 g1.1 | exact h58 g1.2)]
 rw [hr]
 refine .fwFold (f := f) (g := g) (ha := a8) (hc := c8) (m := _) ((Φ.hush (Φ.sil + 1)).hear (compI (sortI (Φ.heard ++ l)))) (by repeat' constructor) (by exact rfl) (by exact rfl) (by exact rfl) (.outNone Φ.ld ?_)
 exact .dn rfl rfl ⟨_, _, rfl, rfl⟩
abbrev pd (l : List Bool) (n : Nat) : Bool := l.getD n false
abbrev ox (l : List (List UInt8)) (n : Nat) : List UInt8 := l.getD n []
structure Rel (δ : Dk) (ρ : Rk) : Prop where
 ok : δ.Ok
 rok : ρ.Ok
 L : ρ.L = δ.now
 dead : δ.dead = ρ.Gone
 acts : δ.acts = ρ.N
 pend : ∀ n : Nat, pd ρ.Pend n = (alook δ.old (n : Int)).isSome
 old : ∀ n : Nat, n < δ.now.length → ox ρ.Old n = (alook δ.old (n : Int)).getD (ox δ.now n)
 arm : (δ.left = 0 ∧ (ρ.At = 0 ∨ δ.dead = true)) ∨ (0 < δ.left ∧ ρ.At = ρ.N + δ.left ∧ δ.dead = false) ∨ (ρ.At = 0 ∧ 4611686018427387904 < δ.left + ρ.N ∧ δ.dead = false)
theorem Rel.new (n : Nat) (hn : n ≤ 32768) : Rel (Dk.new n) (Rk.new n) := by
 have hrok : (Rk.new n).Ok := ⟨by simp [Rk.new], by simp [Rk.new], by simp [Rk.new]; omega, by simp [Rk.new, zs_len], by simp [Rk.new, zs_len]⟩
 refine ⟨Dk.new_ok (by simpa using hn), hrok, by simp [Rk.new, Dk.new], rfl, rfl, fun m => ?_, fun m hm => ?_, .inl ⟨rfl, .inl rfl⟩⟩
 ·simp only [pd, Rk.new, Dk.new, alook, Option.isSome_none, List.getD_eq_getElem?_getD, List.getElem?_replicate]
  split <;> rfl
 ·simp [Rk.new, Dk.new, alook]
theorem getD_set {α : Type} {l : List α} {i j : Nat} {a d : α} (hi : i < l.length) : (l.set i a).getD j d = if j = i then a else l.getD j d := by
 simp only [List.getD_eq_getElem?_getD, List.getElem?_set]
 by_cases h : i = j
 ·subst h; simp [hi]
 ·rw [if_neg h, if_neg (by omega)]
theorem Rel.has {δ : Dk} {ρ : Rk} (h : Rel δ ρ) (n : Int) : ρ.has n = δ.has n := by simp [Dk.has, Rk.has, h.L]
theorem Rel.act {δ : Dk} {ρ : Rk} (h : Rel δ ρ) (hd : δ.dead = false) (hN : ρ.N < 4611686018427387904) :
  δ.act.1.dead = ρ.act.Gone ∧ δ.act.2 = (if ρ.act.Gone then 2 else 0) ∧ δ.act.1.acts = ρ.act.N ∧
   ((δ.act.1.left = 0 ∧ (ρ.act.At = 0 ∨ δ.act.1.dead = true)) ∨ (0 < δ.act.1.left ∧ ρ.act.At = ρ.act.N + δ.act.1.left ∧ δ.act.1.dead = false) ∨ (ρ.act.At = 0 ∧ 4611686018427387904 < δ.act.1.left + ρ.act.N ∧ δ.act.1.dead = false)) := by
 have hg : ρ.Gone = false := by rw [← h.dead, hd]
 have ha := h.acts
 have h0 := h.ok.acts0
 have fin : ∀ (e l : Int) (d g : Bool), Go.Proofs.YteebpmkkdlabpaaGreat.actE δ.left = e → actL δ.left = l → actD δ.left δ.dead = d → (if ρ.At > 0 ∧ ρ.N + 1 = ρ.At then true else ρ.Gone) = g →
   (d = g ∧ e = (if g then 2 else 0) ∧ ((l = 0 ∧ (ρ.At = 0 ∨ d = true)) ∨ (0 < l ∧ ρ.At = ρ.N + 1 + l ∧ d = false) ∨ (ρ.At = 0 ∧ 4611686018427387904 < l + (ρ.N + 1) ∧ d = false))) →
   δ.act.1.dead = ρ.act.Gone ∧ δ.act.2 = (if ρ.act.Gone then 2 else 0) ∧ δ.act.1.acts = ρ.act.N ∧
   ((δ.act.1.left = 0 ∧ (ρ.act.At = 0 ∨ δ.act.1.dead = true)) ∨ (0 < δ.act.1.left ∧ ρ.act.At = ρ.act.N + δ.act.1.left ∧ δ.act.1.dead = false) ∨ (ρ.act.At = 0 ∧ 4611686018427387904 < δ.act.1.left + ρ.act.N ∧ δ.act.1.dead = false)) := by
  intro e l d g h1 h2 h3 h4 ⟨k1, k2, k3⟩
  simp only [Dk.act, Rk.act, h1, h2, h3, h4, ha]
  exact ⟨k1, k2, trivial, k3⟩
 rcases h.arm with ⟨h1, h2 | h2⟩ | ⟨h1, h2, -⟩ | ⟨h1, h2, -⟩
 ·exact fin 0 0 false false (by simp [Go.Proofs.YteebpmkkdlabpaaGreat.actE, h1]) (by simp [actL, h1]) (by simp [actD, h1, hd]) (by simp [h2, hg]) ⟨rfl, rfl, .inl ⟨rfl, .inl h2⟩⟩
 ·rw [hd] at h2; cases h2
 ·by_cases h3 : δ.left - 1 > 0
  ·exact fin 0 (δ.left - 1) false false (by unfold Go.Proofs.YteebpmkkdlabpaaGreat.actE; rw [if_neg (by omega), if_pos h3]) (by unfold actL; rw [if_neg (by omega)]) (by unfold actD; rw [if_neg (by omega), if_pos h3, hd]) (by rw [if_neg (by omega), hg]) ⟨rfl, rfl, .inr (.inl ⟨by omega, by omega, rfl⟩)⟩
  ·exact fin 2 (δ.left - 1) true true (by unfold Go.Proofs.YteebpmkkdlabpaaGreat.actE; rw [if_neg (by omega), if_neg h3]) (by unfold actL; rw [if_neg (by omega)]) (by unfold actD; rw [if_neg (by omega), if_neg h3]) (by rw [if_pos ⟨by omega, by omega⟩]) ⟨rfl, rfl, .inl ⟨by omega, .inr rfl⟩⟩
 ·have h3 : δ.left - 1 > 0 := by omega
  exact fin 0 (δ.left - 1) false false (by unfold Go.Proofs.YteebpmkkdlabpaaGreat.actE; rw [if_neg (by omega), if_pos h3]) (by unfold actL; rw [if_neg (by omega)]) (by unfold actD; rw [if_neg (by omega), if_pos h3, hd]) (by rw [if_neg (by omega), hg]) ⟨rfl, rfl, .inr (.inr ⟨h1, by omega, rfl⟩)⟩
theorem alook_asetR {β : Type} {m : List (Int × β)} {k : Int} {v : β} (h : alook m k = none) (x : Int) : alook (aset m k v) x = if x = k then some v else alook m x := by
 rw [aset_none h]
 by_cases hx : x = k
 ·subst hx; rw [alook_append_none h, if_pos rfl]; simp [alook]
 ·rw [alook_append_other hx, if_neg hx]
theorem Rel.write {δ : Dk} {ρ : Rk} (h : Rel δ ρ) (hN : ρ.N < 4611686018427387904) (n : Int) (s : List UInt8) : (δ.write n s).2 = (ρ.write n s).2 ∧ Rel (δ.write n s).1 (ρ.write n s).1 := by
 unfold Dk.write Rk.write
 rw [← h.dead, h.has]
 by_cases hd : δ.dead = true
 ·rw [if_pos hd, if_pos hd]; exact ⟨rfl, h⟩
 ·rw [if_neg hd, if_neg hd]
  by_cases hb : δ.has n = false ∨ s.length ≠ 64
  ·rw [if_pos hb, if_pos hb]; exact ⟨rfl, h⟩
  ·rw [if_neg hb, if_neg hb]
   have hh : δ.has n = true := by
    cases e : δ.has n with
    | true => rfl
    | false => exact absurd (.inl e) hb
   have hs : s.length = 64 := by
    rcases Nat.decEq s.length 64 with e | e
    ·exact absurd (.inr e) hb
    ·exact e
   obtain ⟨q0, q1, q2⟩ := has_lt hh
   have hd' : δ.dead = false := by simpa using hd
   obtain ⟨a1, a2, a3, a4⟩ := h.act hd' hN
   have hop := (h.ok.putOk hh hs).acted
   have hL := h.L
   have hp := h.rok.pend
   refine ⟨a2, hop, ?_, ?_, a1, a3, fun m => ?_, fun m hm => ?_, a4⟩
   ·refine ⟨by simp [h.rok.old, Rk.act], by simp [hp, Rk.act], by simp; exact h.rok.big, fun t ht => ?_, h.rok.olds⟩
    rcases List.mem_or_eq_of_mem_set ht with ht | rfl
    ·exact h.rok.sec t ht
    ·exact hs
   ·show ρ.L.set n.toNat s = δ.now.set n.toNat s
    rw [hL]
   ·show pd (ρ.Pend.set n.toNat true) m = (alook (δ.put n s).old (m : Int)).isSome
    rw [pd, getD_set (by rw [hp, hL]; exact q2)]
    simp only [Dk.put]
    rcases e : alook δ.old n with _ | o
    ·simp only [Option.isSome_none, Bool.false_eq_true, if_false]
     rw [alook_asetR e]
     by_cases hm : m = n.toNat
     ·rw [if_pos hm, if_pos (by omega)]; rfl
     ·rw [if_neg hm, if_neg (by omega)]; exact h.pend m
    ·simp only [Option.isSome_some, if_true]
     by_cases hm : m = n.toNat
     ·rw [if_pos hm, show (m : Int) = n by omega, e]; rfl
     ·rw [if_neg hm]; exact h.pend m
   ·have hm' : m < δ.now.length := by simpa [Dk.act, Dk.put] using hm
    have ho := h.old m hm'
    show ox ρ.Old m = (alook (δ.put n s).old (m : Int)).getD (ox (δ.now.set n.toNat s) m)
    rw [ho, ox, ox, getD_set q2]
    simp only [Dk.put]
    rcases e : alook δ.old n with _ | o
    ·simp only [Option.isSome_none, Bool.false_eq_true, if_false]
     rw [alook_asetR e]
     by_cases hmn : m = n.toNat
     ·have : (m : Int) = n := by omega
      rw [if_pos this, this, e, hmn]; rfl
     ·rw [if_neg (by omega : ¬ (m : Int) = n), if_neg hmn]
    ·simp only [Option.isSome_some, if_true]
     by_cases hmn : m = n.toNat
     ·rw [show (m : Int) = n by omega, e]; rfl
     ·rw [if_neg hmn]
theorem Rel.sync {δ : Dk} {ρ : Rk} (h : Rel δ ρ) (hN : ρ.N < 4611686018427387904) : δ.sync.2 = ρ.sync.2 ∧ Rel δ.sync.1 ρ.sync.1 := by
 unfold Dk.sync Rk.sync
 rw [← h.dead]
 by_cases hd : δ.dead = true
 ·rw [if_pos hd, if_pos hd]; exact ⟨rfl, h⟩
 ·rw [if_neg hd, if_neg hd]
  have hd' : δ.dead = false := by simpa using hd
  obtain ⟨a1, a2, a3, a4⟩ := h.act hd' hN
  rw [a2]
  by_cases hg : ρ.act.Gone = true
  ·rw [if_pos hg, if_pos hg, if_neg (by decide)]
   exact ⟨rfl, h.ok.acted, ⟨h.rok.old, h.rok.pend, h.rok.big, h.rok.sec, h.rok.olds⟩, h.L, a1, a3, h.pend, h.old, a4⟩
  ·rw [if_neg hg, if_neg hg, if_pos rfl]
   refine ⟨rfl, h.ok.acted.cleared, ⟨rfl, by simp [Rk.act], h.rok.big, h.rok.sec, h.rok.sec⟩, h.L, a1, a3, fun m => ?_, fun m hm => ?_, a4⟩
   ·simp only [pd, alook, Option.isSome_none, List.getD_eq_getElem?_getD, List.getElem?_map]
    cases ρ.L[m]? <;> rfl
   ·show ox ρ.L m = _
    rw [h.L]; rfl
/-! ### Numbers -/
/-! ### A right mark -/
/-! ### Steps -/
/-! ### A log of the document's -/
def rlR (y x : Nat) (ω : Wl) : HP := fun h => ∃ v : Value, sep [ptc y [vptr x, v, vint ω.synced, vint ω.area, vint ω.count, vint ω.a, vint ω.b, .bool ω.doubt] 185, strR v ω.recs] h
section
variable {W : World} {n : Nat} {ds : List Deferred} {E : Env} {L R : List HP} {X : Act → World → Prop}
theorem G.rlOpen {y x : Nat} {ω : Wl} (hL : Pick (rlR y x ω) L R) (h : ∀ v, G W n ds E (ptc y [vptr x, v, vint ω.synced, vint ω.area, vint ω.count, vint ω.a, vint ω.b, .bool ω.doubt] 185 :: strR v ω.recs :: R) X) : G W n ds E L X :=
 G.focus hL (G.open (q := fun v : Value => [ptc y [vptr x, v, vint ω.synced, vint ω.area, vint ω.count, vint ω.a, vint ω.b, .bool ω.doubt] 185, strR v ω.recs]) (φ := fun _ => True) (fun _ ⟨v, hv⟩ => ⟨v, trivial, hv⟩) fun v _ => h v)
theorem G.rlFold {y x m : Nat} {ω : Wl} {v : Value} {l ys : List Value} (hL : Picks [ptc y l 185, slR 9 1 v m ys] L R) (h0 : l = [vptr x, v, vint ω.synced, vint ω.area, vint ω.count, vint ω.a, vint ω.b, .bool ω.doubt]) (h1 : m = ω.recs.length) (h2 : ys = strs ω.recs)
  (h : G W n ds E (rlR y x ω :: R) X) : G W n ds E L X := by
 subst h0; subst h1; subst h2
 exact G.fold hL (fun _ hp => ⟨v, hp⟩) h
theorem G.rl {y x m : Nat} {ω : Wl} {v : Value} {l ys : List Value} (h : G W n ds E (rlR y x ω :: R) X) (hL : Picks [ptc y l 185, slR 9 1 v m ys] L R := by repeat' constructor) (h0 : l = [vptr x, v, vint ω.synced, vint ω.area, vint ω.count, vint ω.a, vint ω.b, .bool ω.doubt] := by exact rfl) (h1 : m = ω.recs.length := by first | rfl | simp) (h2 : ys = strs ω.recs := by first | rfl | simp [strs]) : G W n ds E L X := G.rlFold hL h0 h1 h2 h
end
/-! ### Two disks that are the same -/
/- not in this seat -/
def nthZ (n : Int) : Nat → Int
 | 0 => n
 | j + 1 => nthZ n j / 256
theorem nthZ_pow (n : Int) (j : Nat) : nthZ n j = n / 256 ^ j := by
 induction j with
 | zero => rw [nthZ, Int.pow_zero, Int.ediv_one]
 | succ j ih => rw [nthZ, ih, Int.ediv_ediv_of_nonneg (Int.le_of_lt (Int.pow_pos (by decide))), Int.pow_succ]
theorem rbig_le {n : Int} (h : 0 ≤ n ∧ n ≤ 9223372036854775807) (j : Nat) : 0 ≤ nthZ n j ∧ nthZ n j ≤ 9223372036854775807 := by
 rw [nthZ_pow]
 have hp : (0 : Int) < 256 ^ j := Int.pow_pos (by decide)
 exact ⟨Int.ediv_nonneg h.1 (Int.le_of_lt hp), Int.le_trans (Int.ediv_le_self _ h.1) h.2⟩
def dnZ (k : Int) : Nat → Int
 | 0 => k - 1
 | j + 1 => dnZ k j - 1
theorem dnZ_eq (k : Int) (j : Nat) : dnZ k j = k - 1 - j := by
 induction j with
 | zero => rw [dnZ]; omega
 | succ j ih => rw [dnZ, ih]; omega
theorem u8_mod (x : Int) : Value.int .u8 (IntKind.u8.wrap (x % 256)) = vbyte (byteZ x) := by
 rw [vbyteZ]; congr 1; show x % 256 % 256 = x % 256; omega
theorem rbig_spec (n : Int) (k : Nat) (h0 : 0 ≤ n ∧ n ≤ 9223372036854775807) (hk : k ≤ 8) : Fn Tryz.prog 193 #[vint n, vint k] [] fun v L => v = vstr (beB n k) ∧ L = [] := by
 refine Fn.intro Tryz.func193 rfl rfl fun F W => ?_
 refine .sr (.an rfl (.sm rfl (.oq (.make rfl rfl el_159 ze_5 rfl ⟨by simp, by simp; rfl⟩ ?c3) ?_)))
 case c3 => omega
 rintro v L' ⟨bz, rfl, rfl⟩
 refine .a rfl (.nil ?_)
 simp only [Int.toNat_natCast, Nat.mul_one]
 refine .ptCast (b := bz) (l' := fillB (List.replicate k zB) 0 n k 0) (by repeat' constructor) (fillB_0 _ _ _ _).symm (.then_n (.seq (.sm rfl (.q (.sub rfl rfl (by omega)) rfl (.an rfl (.block (.loopK (ι := Nat) (fun q E => (6, vint (dnZ k q)) :: (0, vint (nthZ n q)) :: E) (fun q => [ptc bz (fillB (List.replicate k zB) 0 n k q) 5]) (fun q => q ≤ k) (fun q => k - q) (0) (ts := [4, 5]) (.cons rfl (.cons rfl (.nil))) (Nat.zero_le _) ⟨rfl, rfl, rfl, rfl, trivial⟩ (by repeat' constructor) ?_)))))))
 rintro j hj
 have hdn := dnZ_eq (k : Int) j
 refine .seq (.sm rfl (.ui rfl rfl rfl (.nt (.condD rfl (fun h12 => ?_) (fun h12 => ?_)))))
 ·have hj2 : j < k := by omega
  have hq := rbig_le h0 j
  have hfl := fillB_len (l := List.replicate k zB) (off := 0) (n := n) (k := k) (i := j) (by omega) (by simp)
  rw [List.length_replicate] at hfl
  refine .sk (.seq (.block (.sm rfl (.m rfl (.m rfl (.q (.remE rfl rfl hq.1 (by decide)) rfl (.q (.as (v' := vbyte (byteZ (n / 256 ^ j))) (by rw [← nthZ_pow]; exact u8_mod _) (.conv rfl Tryz.underlying3 Tryz.underlying5)) rfl (.q (.indexAddr rfl rfl el_159 (by omega)) rfl (.oq (.store rfl rfl rfl sz_5 ?c16 (nfz0 _ _)) ?_)))))))))
  case c16 => omega
  rintro v L' rfl
  refine .nt (.region (.m rfl (.q (.to (v' := vint (nthZ n (j + 1))) (.quoE rfl rfl hq (by decide)) rfl) rfl (.a rfl (.nil (.blk_n (.then_n (.region (.m rfl (.q (.sub rfl rfl (by omega)) rfl (.an rfl ?_)))))))))))
  rw [show 0 + (dnZ (k : Int) j).toNat * 1 = 0 + (k - 1 - j) by omega, fillB_step hj2 (by simp)]
  exact .rk (j + 1) (by omega) (by omega) ⟨rfl, rfl, rfl, rfl, trivial⟩
 obtain rfl : j = k := by omega
 refine .ptCast (b := bz) (l' := bysL (beB n j)) (by repeat' constructor) (by rw [fillB_k]; exact spl_all (by simp [bysL_len, beB_len])) (.exit (.then_e (.then_e (.blk_e (.then_n (.sm rfl (.q (.bytesPt (cs := beB n j) rfl Tryz.underlying159 Tryz.underlying5 Tryz.underlying9 (by repeat' constructor) (by rw [List.drop_zero]; exact List.take_of_length_le (by rw [bysL_len, beB_len]; omega)) (by rw [bysL_len, beB_len]; omega) (by omega)) rfl (.an rfl (.ret ?_)))))))))
 exact .vv
theorem rrecord_spec (s : Bs) (hs : s.length ≤ 2147483648) : Fn Tryz.prog 147 #[vstr s] [] fun v L => v = vstr (recZ s) ∧ L = [] := by
 refine Fn.intro Tryz.func147 rfl rfl fun F W => ?_
 have hsum := sumZ_range (headZ s)
 have hh : (headZ s).length = s.length + 2 := by simp [headZ, beB_len]; omega
 have hb2 := beB_len 2 (s.length : Int)
 have hb4 := beB_len 4 (sumZ (headZ s))
 have hap : (beB (s.length : Int) 2 ++ s).length = s.length + 2 := hh
 refine .sr (.an rfl (.sm rfl (.q (.strlen rfl Tryz.underlying9 rfl) rfl (.cv Tryz.func193 [_, _] (rbig_spec s.length 2 (by omega) (by decide)) ?_))))
 refine .m rfl (.q (.concat rfl rfl (by omega)) rfl (.an rfl (.sm rfl (.m rfl (.cv Tryz.func194 [_] (rsum_spec (headZ s) (by omega)) ?_)))))
 refine .q (.as (v' := vint (sumZ (headZ s))) (by rw [i64w (by omega)]) (.conv rfl Tryz.underlying200 Tryz.underlying3)) rfl (.cv Tryz.func193 [_, _] (rbig_spec (sumZ (headZ s)) 4 (by omega) (by decide)) ?_)
 refine .q (.concat rfl rfl (by omega)) rfl (.an rfl (.ret ?_))
 exact .vv
/- not in this seat -/
theorem rsize_spec (va : Value) (l : List Bs) (p : HP) (hp : ∀ h : Hp, p h → rdS 1 h va l.length (strs l)) (hll : (laidZ l).length ≤ 4000000000000) : Fn Tryz.prog 143 #[va] [p] fun v L => v = vint (laidZ l).length ∧ L = [p] := by
 refine Fn.intro Tryz.func143 rfl rfl fun F W => ?_
 have hlm := laidZ_many l
 refine .rdAny (p := p) hp (by repeat' constructor) fun aa ca e _ => ?_
 subst e
 refine .sr (.an rfl (.sr (.an rfl (.seq (.sr (.an rfl (.block (.loopK (ι := Nat) (fun q E => (4, vint q) :: (3, vint (laidZ (l.take q)).length) :: E) (fun q => []) (fun q => q ≤ l.length) (fun q => l.length - q) (0) (ts := [0, 2]) (.cons rfl (.cons rfl (.nil))) (Nat.zero_le _) ⟨rfl, rfl, rfl, rfl, trivial⟩ (by repeat' constructor) ?_))))))))
 rintro i hi
 refine .seq (.sm rfl (.m rfl (.q (.slen rfl Tryz.underlying39 rfl) rfl (.ui rfl rfl rfl (.nt (.condD rfl (fun h8 => ?_) (fun h8 => ?_)))))))
 ·have hi2 : i < l.length := by omega
  refine .rdShape (p := p) hp (by repeat' constructor) (by omega) fun ba oa e => ?_
  subst e
  have hts := laidZ_take_len l (i + 1)
  have hsu : (laidZ (l.take (i + 1))).length = (laidZ (l.take i)).length + l[i].length + 6 := by rw [laidZ_succ hi2, List.length_append, recZ_len]; omega
  refine .sk (.seq (.block (.region (.m rfl (.m rfl (.m rfl (.q (.indexAddr rfl rfl el_39 (by omega)) rfl (.q (.loadRd (sz := 1) (j := i) (p := p) (v := vstr l[i]) rfl ag_9 (by repeat' constructor) hp (by simp) (by simp [hi2])) rfl (.q (.strlen rfl Tryz.underlying9 rfl) rfl (.q (.add rfl rfl (by omega)) rfl (.q (.as (v' := vint (laidZ (l.take (i + 1))).length) (by rw [hsu]; exact congrArg (Value.int .i64) (by omega)) (.add rfl rfl (by omega))) rfl (.a rfl (.nil (.blk_n (.then_n (.region (.m rfl (.q (.add rfl rfl (by omega)) rfl (.an rfl ?_)))))))))))))))))))
  exact .rk (i + 1) (by omega) (by omega) ⟨rfl, rfl, rfl, rfl, trivial⟩
 refine .exit (.then_e (.then_e (.blk_e (.then_n (.sm rfl (.an rfl (.ret ?_)))))))
 exact .dn rfl rfl ⟨by have hi3 : i = l.length := (by omega); rw [hi3, List.take_length], rfl⟩
/- not in this seat -/
/- not in this seat -/
def dsR (x : Nat) (δ : Dk) : HP := fun h => ∃ ρ : Rk, (Rel δ ρ ∧ 0 ≤ ρ.N) ∧ sep [rkR x ρ] h
section
variable {P : Program} {W : World} {n : Nat} {ds : List Deferred} {E : Env} {L R : List HP} {X : Act → World → Prop}
theorem G.dsOpen {x : Nat} {δ : Dk} (hL : Pick (dsR x δ) L R) (h : ∀ ρ, Rel δ ρ → 0 ≤ ρ.N → G W n ds E (rkR x ρ :: R) X) : G W n ds E L X :=
 G.focus hL (G.open (q := fun ρ : Rk => [rkR x ρ]) (φ := fun ρ => Rel δ ρ ∧ 0 ≤ ρ.N) (fun _ hp => hp) fun ρ hr => h ρ hr.1 hr.2)
theorem G.dsFold {x : Nat} {δ : Dk} {ρ : Rk} (hL : Picks [rkR x ρ] L R) (hr : Rel δ ρ) (hn : 0 ≤ ρ.N) (h : G W n ds E (dsR x δ :: R) X) : G W n ds E L X :=
 G.fold hL (fun _ hp => ⟨ρ, ⟨hr, hn⟩, hp⟩) h
theorem Fn.dsUp {f : FuncId} {args : Array Value} {x : Nat} {δ δ' : Dk} {u : Value} (h : ∀ ρ, Rel δ ρ → 0 ≤ ρ.N → Fn P f args [rkR x ρ] fun v L => ∃ ρ', (Rel δ' ρ' ∧ 0 ≤ ρ'.N) ∧ v = u ∧ L = [rkR x ρ']) :
  Fn P f args [dsR x δ] fun v L => v = u ∧ L = [dsR x δ'] := by
 intro F w hs
 obtain ⟨h1, h2, hd, a1, a2, ⟨ρ, ⟨hr, hn⟩, hp⟩, hF⟩ := hs
 have hs' : St ([rkR x ρ] ++ F) w := sep_flat ⟨h1, h2, hd, a1, a2, hp, hF⟩
 refine (h ρ hr hn F w hs').mono ?_
 rintro e w' ⟨v, L, ⟨ρ', h3, rfl, rfl⟩, he, hs2, hk⟩
 refine ⟨_, _, ⟨rfl, rfl⟩, he, sep_imp (fun hh hq => ⟨ρ', h3, hh, fun _ => none, fun _ => .inr rfl, fun _ _ e => e, fun _ _ e => (by cases e), hq, trivial⟩) hs2, hk⟩
end
theorem rk_write_N (ρ : Rk) (n : Int) (s : Bs) (h : 0 ≤ ρ.N) : 0 ≤ (ρ.write n s).1.N := by
 unfold Rk.write
 split
 ·exact h
 ·split
  ·exact h
  ·show 0 ≤ ρ.N + 1; omega
theorem rk_sync_N (ρ : Rk) (h : 0 ≤ ρ.N) : 0 ≤ ρ.sync.1.N := by
 unfold Rk.sync
 split
 ·exact h
 ·split
  ·show 0 ≤ ρ.N + 1; omega
  ·show 0 ≤ ρ.N + 1; omega
theorem dswrite_spec (x : Nat) (δ : Dk) (n : Int) (s : Bs) (hA : δ.acts < 4611686018427387904) : Fn Tryz.prog 140 #[vptr x, vint n, vstr s] [dsR x δ] fun v L => v = vint (δ.write n s).2 ∧ L = [dsR x (δ.write n s).1] :=
 Fn.dsUp fun ρ hr hn => (rwrite_spec x ρ n s ⟨hn, by rw [← hr.acts]; exact hA⟩).mono fun v L ⟨h1, h2⟩ => by
  obtain ⟨q1, q2⟩ := hr.write (by rw [← hr.acts]; exact hA) n s
  exact ⟨_, ⟨q2, rk_write_N ρ n s hn⟩, by rw [h1, q1], h2⟩
theorem dssync_spec (x : Nat) (δ : Dk) (hA : δ.acts < 4611686018427387904) : Fn Tryz.prog 142 #[vptr x] [dsR x δ] fun v L => v = vint δ.sync.2 ∧ L = [dsR x δ.sync.1] :=
 Fn.dsUp fun ρ hr hn => (rsync_spec x ρ ⟨hn, by rw [← hr.acts]; exact hA⟩).mono fun v L ⟨h1, h2⟩ => by
  obtain ⟨q1, q2⟩ := hr.sync (by rw [← hr.acts]; exact hA)
  exact ⟨_, ⟨q2, rk_sync_N ρ hn⟩, by rw [h1, q1], h2⟩
abbrev lc (y x : Nat) (vr : Value) (sy ar ct a b : Int) (db : Bool) : HP := ptc y [vptr x, vr, vint sy, vint ar, vint ct, vint a, vint b, .bool db] 185
theorem laySec_eq (all : Bs) (i : Nat) (h : i * 64 < all.length) : ((all.take (min ((i + 1) * 64) all.length)).drop (i * 64)) ++ List.replicate (64 - ((all.take (min ((i + 1) * 64) all.length)).drop (i * 64)).length) 0 = laySec all i := by
 unfold laySec
 have e : (all.take (min ((i + 1) * 64) all.length)).drop (i * 64) = (all.drop (i * 64)).take 64 := by
  rw [List.drop_take]
  rcases Nat.le_total ((i + 1) * 64) all.length with g | g
  ·rw [Nat.min_eq_left g, show (i + 1) * 64 - i * 64 = 64 by omega]
  ·rw [Nat.min_eq_right g, List.take_of_length_le (by rw [List.length_drop]; exact Nat.le_refl _), List.take_of_length_le (by rw [List.length_drop]; omega)]
 rw [e]
 try rfl
theorem rall_spec (va : Value) (l : List Bs) (p : HP) (hp : ∀ h : Hp, p h → rdS 1 h va l.length (strs l)) (hll : (laidZ l).length ≤ 2100000000) : Fn Tryz.prog 146 #[va] [p] fun v L => v = vstr (laidZ l) ∧ L = [p] := by
 refine Fn.intro Tryz.func146 rfl rfl fun F W => ?_
 have hlm := laidZ_many l
 refine .rdAny (p := p) hp (by repeat' constructor) fun aa ca e _ => ?_
 subst e
 refine .sr (.an rfl (.sr (.an rfl (.seq (.sr (.an rfl (.block (.loopK (ι := Nat) (fun q E => (4, vint q) :: (3, vstr (laidZ (l.take q))) :: E) (fun q => []) (fun q => q ≤ l.length) (fun q => l.length - q) (0) (ts := [0, 2]) (.cons rfl (.cons rfl (.nil))) (Nat.zero_le _) ⟨rfl, rfl, rfl, rfl, trivial⟩ (by repeat' constructor) ?_))))))))
 rintro i hi
 refine .seq (.sm rfl (.m rfl (.q (.slen rfl Tryz.underlying39 rfl) rfl (.ui rfl rfl rfl (.nt (.condD rfl (fun h8 => ?_) (fun h8 => ?_)))))))
 ·have hi2 : i < l.length := by omega
  refine .rdShape (p := p) hp (by repeat' constructor) (by omega) fun ba oa e => ?_
  subst e
  have hts := laidZ_take_len l (i + 1)
  have hsu := laidZ_succ hi2
  have hsl : (laidZ (l.take (i + 1))).length = (laidZ (l.take i)).length + l[i].length + 6 := by rw [hsu, List.length_append, recZ_len]; omega
  refine .sk (.seq (.block (.region (.m rfl (.m rfl (.m rfl (.q (.indexAddr rfl rfl el_39 (by omega)) rfl (.q (.loadRd (sz := 1) (j := i) (p := p) (v := vstr l[i]) rfl ag_9 (by repeat' constructor) hp (by simp) (by simp [hi2])) rfl (.cv Tryz.func147 [_] (rrecord_spec l[i] (by omega)) ?_)))))))))
  refine .q (.as (v' := vstr (laidZ (l.take (i + 1)))) (by rw [hsu]) (.concat rfl rfl (by rw [recZ_len]; omega))) rfl (.a rfl (.nil (.blk_n (.then_n (.region (.m rfl (.q (.add rfl rfl (by omega)) rfl (.an rfl ?_))))))))
  exact .rk (i + 1) (by omega) (by omega) ⟨rfl, rfl, rfl, rfl, trivial⟩
 refine .exit (.then_e (.then_e (.blk_e (.then_n (.sm rfl (.an rfl (.ret ?_)))))))
 exact .dn rfl rfl ⟨by have hi3 : i = l.length := (by omega); rw [hi3, List.take_length], rfl⟩
theorem rmark4_spec (c ar a b : Int) (va : Value) (l : List Bs) (p : HP) (hp : ∀ h : Hp, p h → rdS 1 h va l.length (strs l)) (hll : (laidZ l).length ≤ 2100000000) (hc : 0 ≤ c ∧ c ≤ 4294967296) (har : 0 ≤ ar ∧ ar ≤ 1) (ha : 0 ≤ a ∧ a ≤ 9223372036854775807) (hb : 0 ≤ b ∧ b ≤ 9223372036854775807) : Fn Tryz.prog 141 #[vint c, vint ar, va, vint a, vint b] [p] fun v L => v = vstr (⟨c, ar, (laidZ l).length, l.length, a, b⟩ : Mk).sec ∧ L = [p] := by
 refine Fn.intro Tryz.func141 rfl rfl fun F W => ?_
 have hlm := laidZ_many l
 have e4 := beB_len 4
 have e1 := beB_len 1
 have e8 := beB_len 8
 refine .rdAny (p := p) hp (by repeat' constructor) fun aa ca e _ => ?_
 subst e
 refine .sr (.an rfl (.sm rfl (.cv Tryz.func193 [_, _] (rbig_spec c 4 (by omega) (by decide)) ?_)))
 refine .q (.concat rfl rfl (by simp only [List.length_append, beB_len, List.length_cons, List.length_nil]; omega)) rfl (.m rfl (.cv Tryz.func193 [_, _] (rbig_spec ar 1 (by omega) (by decide)) ?_))
 refine .q (.concat rfl rfl (by simp only [List.length_append, beB_len, List.length_cons, List.length_nil]; omega)) rfl (.m rfl (.oq (.call Tryz.func143 rfl rfl (vs := [_]) rfl (rsize_spec _ l p hp (by omega))) ?_))
 rintro v L' ⟨rfl, rfl⟩
 refine .cv Tryz.func193 [_, _] (rbig_spec ((laidZ l).length : Nat) 4 (by omega) (by decide)) ?_
 refine .q (.concat rfl rfl (by simp only [List.length_append, beB_len, List.length_cons, List.length_nil]; omega)) rfl (.m rfl (.q (.slen rfl Tryz.underlying39 rfl) rfl (.cv Tryz.func193 [_, _] (rbig_spec (l.length : Nat) 4 (by omega) (by decide)) ?_)))
 refine .q (.concat rfl rfl (by simp only [List.length_append, beB_len, List.length_cons, List.length_nil]; omega)) rfl (.m rfl (.cv Tryz.func193 [_, _] (rbig_spec a 8 (by omega) (by decide)) ?_))
 refine .q (.concat rfl rfl (by simp only [List.length_append, beB_len, List.length_cons, List.length_nil]; omega)) rfl (.m rfl (.cv Tryz.func193 [_, _] (rbig_spec b 8 (by omega) (by decide)) ?_))
 refine .q (.concat rfl rfl (by simp only [List.length_append, beB_len, List.length_cons, List.length_nil]; omega)) rfl (.an rfl (.seq (.draw [1] [[0, 4, 5, 1, 2, 3], [6, 7]] mixed (by kernel_rfl) (.g0 (.k rfl (.move rfl) (.k rfl (.move rfl) (.m rfl (by kernel_rfl) (.c Tryz.func193 [_, _] (rbig_spec c 4 (by omega) (by decide))) (by repeat' constructor) ?_)))))))
 refine D.hh rfl (.make rfl rfl el_159 ze_5 rfl ⟨by simp, by simp; rfl⟩ ?c32) ?_
 case c32 => omega
 rintro v L' ⟨bz, rfl, rfl⟩
 refine D.kv rfl (.bytesPt (cs := List.replicate 29 0) rfl Tryz.underlying159 Tryz.underlying5 Tryz.underlying9 (by repeat' constructor) (by first | (simp [List.map_replicate]; done) | (simp [List.map_replicate]; rfl)) (by simp) (by decide)) (.kv rfl (.concat rfl rfl (by simp only [List.length_append, beB_len, List.length_cons, List.length_nil, List.length_replicate]; omega)) (.ph (.g0 (.kv rfl (.concat rfl rfl (by simp only [List.length_append, beB_len, List.length_cons, List.length_nil, List.length_replicate]; omega)) (.kv rfl (.assign rfl) (.pf (.ret ?_)))))))
 exact .vv
theorem rdead_spec (y x : Nat) (vr : Value) (sy ar ct a b : Int) (db : Bool) : Fn Tryz.prog 148 #[vptr y] [lc y x vr sy ar ct a b db] fun v L => v = vint 2 ∧ L = [lc y x vr sy ar ct a b true] := by
 refine Fn.intro Tryz.func148 rfl rfl fun F W => ?_
 refine .sr (.an rfl (.sm rfl (.nf rfl fo_185_7 (.st rfl rfl rfl sz_4 ?_))))
 refine .nt (.sr (.an rfl (.ret ?_)))
 exact .vv
theorem dshalf_spec (x : Nat) (δ : Dk) (hn : 2 ≤ δ.now.length ∧ δ.now.length ≤ 32768) : Fn Tryz.prog 144 #[vptr x] [dsR x δ] fun v L => v = vint (halfZ δ) ∧ L = [dsR x δ] := by
 refine Fn.intro Tryz.func144 rfl rfl fun F W => ?_
 refine .dsOpen (by repeat' constructor) fun ρ hr hN => (.rkOpen (by repeat' constructor) fun vL vO vP hok => (.slAny (v := vL) (by repeat' constructor) fun aL cL e _ => ?_))
 subst e
 have hL := hr.L
 have hLl : ρ.L.length = δ.now.length := by rw [hL]
 refine .sr (.an rfl (.sm rfl (.nf rfl fo_118_0 (.u (.ld rfl ag_39) (.q (.slen rfl Tryz.underlying39 rfl) rfl (.q (.sub rfl rfl (by omega)) rfl (.q (.quoE rfl rfl (by omega) (by decide)) rfl (.an rfl (.ret (.rkFold (ρ := ρ) (by repeat' constructor) rfl ⟨rfl, rfl⟩ ⟨rfl, rfl⟩ ⟨rfl, rfl⟩ hok (.dsFold (δ := δ) (by repeat' constructor) hr hN ?_)))))))))))
 exact .dn rfl rfl ⟨by unfold halfZ; rw [← hLl], rfl⟩
theorem lay_go {f : Nat} {δ : Dk} {area : Int} {all : Bs} {i : Nat} (h : i * 64 < all.length) : layF (f + 1) δ area all i = if (δ.write (2 + area * halfZ δ + i) (laySec all i)).2 ≠ 0 then ((δ.write (2 + area * halfZ δ + i) (laySec all i)).1, 2) else layF f (δ.write (2 + area * halfZ δ + i) (laySec all i)).1 area all (i + 1) := by
 show (if i * 64 < all.length then _ else _) = _
 rw [if_pos h]
theorem area_mul {area h : Int} (ha : 0 ≤ area ∧ area ≤ 1) (hh : 0 ≤ h ∧ h ≤ 16383) : 0 ≤ area * h ∧ area * h ≤ 16383 := by
 rcases (show area = 0 ∨ area = 1 by omega) with rfl | rfl
 ·omega
 ·omega
theorem rlays_spec (x : Nat) (area : Int) (s : Bs) (frm : Nat) (δ : Dk) (hn0 : 2 ≤ δ.now.length ∧ δ.now.length ≤ 32768) (har : 0 ≤ area ∧ area ≤ 1) (hs : s.length ≤ 4000000) (hf : frm ≤ 4000000) (hA : δ.acts + 9000000 < 4611686018427387904) : Fn Tryz.prog 145 #[vptr x, vint area, vstr s, vint frm] [dsR x δ] fun v L => ∃ e, (e = 0 ↔ (layZ δ area s frm).2 = 0) ∧ v = vint e ∧ L = [dsR x (layZ δ area s frm).1] := by
 refine Fn.intro Tryz.func145 rfl rfl fun F W => ?_
 refine .sr (.an rfl (.seq (.sm rfl (.q (.to (v' := vint ((frm / 64 : Nat) : Int)) (.quoE rfl rfl (by omega) (by decide)) (by rfl)) rfl (.an rfl (.block (.loopK (ι := Nat × Nat × Dk) (fun q E => (9, vint q.1) :: E) (fun q => [dsR x q.2.2]) (fun q => layF q.2.1 q.2.2 area s q.1 = layZ δ area s frm ∧ s.length + 1 ≤ q.2.1 + q.1 ∧ q.1 ≤ 4000001 + frm ∧ q.2.2.now.length = δ.now.length ∧ q.2.2.acts ≤ δ.acts + q.1) (fun q => s.length - q.1) (frm / 64, s.length + 1, δ) (ts := [0, 1, 2]) (.cons rfl (.cons rfl (.cons rfl (.nil)))) (⟨rfl, by dsimp only; omega, by dsimp only; omega, rfl, by dsimp only; omega⟩) ⟨rfl, rfl, rfl, rfl, trivial⟩ (by repeat' constructor) ?_)))))))
 rintro ⟨i, f, σ⟩ ⟨hl, hfu, hib, hnl, hac⟩
 dsimp only
 dsimp only at hl hfu hib hnl hac
 refine .seq (.sm rfl (.q (.as (v' := vint ((i * 64 : Nat) : Int)) (by first | rfl | (congr 1; omega)) (.mul rfl rfl (by omega))) rfl (.m rfl (.q (.strlen rfl Tryz.underlying9 rfl) rfl (.ui rfl rfl rfl (.nt (.condD rfl (fun h18 => ?_) (fun h18 => ?_))))))))
 ·obtain ⟨f', rfl⟩ : ∃ f', f = f' + 1 := ⟨f - 1, by omega⟩
  have hn : 2 ≤ σ.now.length ∧ σ.now.length ≤ 32768 := by omega
  have hhl := half_le hn
  have ham := area_mul har hhl
  refine .sk (.seq (.block (.sm rfl (.m rfl (.q (.as (v' := vint ((i * 64 : Nat) : Int)) (by first | rfl | (congr 1; omega)) (.mul rfl rfl (by omega))) rfl (.m rfl (.q (.add rfl rfl (by omega)) rfl (.q (.mul rfl rfl (by omega)) rfl (.m rfl (.q (.strlen rfl Tryz.underlying9 rfl) rfl (.q (.as (v' := vint ((min ((i + 1) * 64) s.length : Nat) : Int)) (by first | rfl | (congr 1; omega)) (.min2 rfl rfl)) rfl (.q (.to (v' := vstr ((s.take (min ((i + 1) * 64) s.length)).drop (i * 64))) (.strMid rfl rfl rfl Tryz.underlying9 (by omega)) (by rfl)) rfl (.an rfl (.seq ?_))))))))))))))
  have hlay := laySec_eq s i (by omega)
  obtain ⟨t, ht⟩ : ∃ t, (s.take (min ((i + 1) * 64) s.length)).drop (i * 64) = t := ⟨_, rfl⟩
  rw [ht] at hlay ⊢
  have htl : t.length ≤ 64 := by rw [← ht, List.length_drop, List.length_take]; omega
  refine .region (.m rfl (.m rfl (.q (.strlen rfl Tryz.underlying9 rfl) rfl (.q (.as (v' := vint ((64 - t.length : Nat) : Int)) (by first | rfl | (congr 1; omega)) (.sub rfl rfl (by omega))) rfl (.oq (.make rfl rfl el_159 ze_5 rfl ⟨by simp, by simp; rfl⟩ ?c21) ?_)))))
  case c21 => omega
  rintro v L' ⟨bz, rfl, rfl⟩
  refine .q (.bytesPt (cs := List.replicate (64 - t.length) 0) rfl Tryz.underlying159 Tryz.underlying5 Tryz.underlying9 (by repeat' constructor) (by first | (simp [List.map_replicate]; done) | (simp [List.map_replicate]; rfl)) (by simp) (by omega)) rfl (.q (.as (v' := vstr (laySec s i)) (by exact congrArg vstr hlay) (.concat rfl rfl (by rw [List.length_replicate]; omega))) rfl (.an rfl (.sm rfl (.m rfl (.m rfl (.cv Tryz.func144 [_] (dshalf_spec x σ hn) ?_))))))
  refine .q (.mul rfl rfl (by omega)) rfl (.q (.add rfl rfl (by omega)) rfl (.m rfl (.q (.add rfl rfl (by omega)) rfl (.m rfl (.cv Tryz.func140 [_, _, _] (dswrite_spec x σ (2 + area * halfZ σ + i) (laySec s i) (by omega)) ?_)))))
  refine .an rfl (.sm rfl (.ui rfl rfl rfl (.nt (.condN rfl (fun h49 => ?_) (fun h49 => ?_)))))
  ·refine .sm rfl (.an rfl (.ret (.blk_r (.then_r (.then_r (.blk_r (.then_r ?_)))))))
   exact .dn rfl rfl ⟨_, by rw [← hl, lay_go (by omega), if_pos h49]; exact ⟨fun g => absurd g h49, fun g => absurd g (by show ¬ (2 : Int) = 0; decide)⟩, rfl, by rw [← hl, lay_go (by omega), if_pos h49]⟩
  refine .skip (.blk_n (.then_n (.region (.m rfl (.q (.add rfl rfl (by omega)) rfl (.an rfl ?_))))))
  have hwk := write_keeps σ (2 + area * halfZ σ + i) (laySec s i)
  exact .rk ((i + 1, f', (σ.write (2 + area * halfZ σ + i) (laySec s i)).1)) (⟨by dsimp only; rw [← hl, lay_go (by omega), if_neg (by simpa using h49)], by dsimp only; omega, by dsimp only; omega, by dsimp only; omega, by dsimp only; omega⟩) (by dsimp only; omega) ⟨rfl, rfl, rfl, rfl, trivial⟩
 refine .exit (.then_e (.then_e (.blk_e (.then_n (.sr (.an rfl (.ret ?_)))))))
 have hend := layF_end (f := f) (δ := σ) (area := area) (all := s) (i := i) (by omega)
 rw [hl] at hend
 exact .dn rfl rfl ⟨0, by rw [hend], rfl, by rw [hend]⟩
theorem rputs_spec (y x : Nat) (vr : Value) (sy ar ct a b : Int) (db : Bool) (area a2 b2 : Int) (va : Value) (l : List Bs) (δ : Dk) (p : HP) (hp : ∀ h : Hp, p h → rdS 1 h va l.length (strs l)) (hll : (laidZ l).length ≤ 2100000000) (hc : 0 ≤ ct ∧ ct < 4294967295) (har : 0 ≤ area ∧ area ≤ 1) (ha : 0 ≤ a2 ∧ a2 ≤ 9223372036854775807) (hb : 0 ≤ b2 ∧ b2 ≤ 9223372036854775807) (hA : δ.acts < 4611686018427387904) : Fn Tryz.prog 196 #[vptr y, vint area, va, vint a2, vint b2] [lc y x vr sy ar ct a b db, dsR x δ, p] fun v L => v = vint (δ.write ((⟨ct + 1, area, (laidZ l).length, l.length, a2, b2⟩ : Mk).count % 2) (⟨ct + 1, area, (laidZ l).length, l.length, a2, b2⟩ : Mk).sec).2 ∧ L = [lc y x vr sy ar ct a b db, dsR x (δ.write ((⟨ct + 1, area, (laidZ l).length, l.length, a2, b2⟩ : Mk).count % 2) (⟨ct + 1, area, (laidZ l).length, l.length, a2, b2⟩ : Mk).sec).1, p] := by
 refine Fn.intro Tryz.func196 rfl rfl fun F W => ?_
 refine .sr (.an rfl (.sm rfl (.nf rfl fo_185_4 (.u (.ld rfl ag_3) (.q (.add rfl rfl (by omega)) rfl (.an rfl (.seq (.draw [12] [[0, 1, 2, 3, 4, 5, 6, 7, 8, 9, 10, 11, 12], [13]] mixed (by kernel_rfl) (.go [lc y x vr sy ar ct a b db, p] (by repeat' constructor) (.mv rfl rfl (.nf rfl rfl rfl fo_185_0 (.kv rfl (.ld rfl ag_26) (.mv rfl rfl (.kv rfl (.remE rfl rfl (by omega) (by decide)) (.mv rfl rfl (.mv rfl rfl (.mv rfl rfl (.mv rfl rfl (.mv rfl rfl (.m rfl (by kernel_rfl) (.c Tryz.func141 [_, _, _, _, _] (rmark4_spec (ct + 1) area a2 b2 va l p hp hll (by omega) har ha hb)) (by repeat' constructor) ?_))))))))))))))))))))
 refine D.hh rfl (.c Tryz.func140 [_, _, _] (dswrite_spec x δ ((ct + 1) % 2) (⟨ct + 1, area, (laidZ l).length, l.length, a2, b2⟩ : Mk).sec hA)) ?_
 rintro v L' ⟨rfl, rfl⟩
 refine D.ph (.g0 (.kv rfl (.assign rfl) (.pf (.ret ?_))))
 exact .vv
theorem seal_s1 {δ : Dk} {ω : Wl} {area : Int} {l : List Bs} (h : ¬ δ.sync.2 = 0) : sealZ δ ω area l = (δ.sync.1, ω, 2) := by unfold sealZ; rw [if_pos h]
theorem seal_s2 {δ : Dk} {ω : Wl} {area : Int} {l : List Bs} (h : δ.sync.2 = 0) (h2 : ¬ (δ.sync.1.write ((ω.mark area l ω.a ω.b).count % 2) (ω.mark area l ω.a ω.b).sec).2 = 0) : sealZ δ ω area l = ((δ.sync.1.write ((ω.mark area l ω.a ω.b).count % 2) (ω.mark area l ω.a ω.b).sec).1, ω, 2) := by
 have e : nextZ δ.sync.1 (ω.mark area l ω.a ω.b) = ((δ.sync.1.write ((ω.mark area l ω.a ω.b).count % 2) (ω.mark area l ω.a ω.b).sec).1, 2) := by unfold nextZ; rw [if_pos h2]
 unfold sealZ; rw [if_neg (fun g => g h), e, if_pos (by show ¬ (2 : Int) = 0; decide)]
theorem seal_s3 {δ : Dk} {ω : Wl} {area : Int} {l : List Bs} (h : δ.sync.2 = 0) (h2 : (δ.sync.1.write ((ω.mark area l ω.a ω.b).count % 2) (ω.mark area l ω.a ω.b).sec).2 = 0) (h3 : ¬ (δ.sync.1.write ((ω.mark area l ω.a ω.b).count % 2) (ω.mark area l ω.a ω.b).sec).1.sync.2 = 0) : sealZ δ ω area l = ((δ.sync.1.write ((ω.mark area l ω.a ω.b).count % 2) (ω.mark area l ω.a ω.b).sec).1.sync.1, ω, 2) := by
 have e : nextZ δ.sync.1 (ω.mark area l ω.a ω.b) = ((δ.sync.1.write ((ω.mark area l ω.a ω.b).count % 2) (ω.mark area l ω.a ω.b).sec).1.sync.1, 2) := by unfold nextZ; rw [if_neg (fun g => g h2), if_pos h3]
 unfold sealZ; rw [if_neg (fun g => g h), e, if_pos (by show ¬ (2 : Int) = 0; decide)]
theorem seal_s4 {δ : Dk} {ω : Wl} {area : Int} {l : List Bs} (h : δ.sync.2 = 0) (h2 : (δ.sync.1.write ((ω.mark area l ω.a ω.b).count % 2) (ω.mark area l ω.a ω.b).sec).2 = 0) (h3 : (δ.sync.1.write ((ω.mark area l ω.a ω.b).count % 2) (ω.mark area l ω.a ω.b).sec).1.sync.2 = 0) : sealZ δ ω area l = ((δ.sync.1.write ((ω.mark area l ω.a ω.b).count % 2) (ω.mark area l ω.a ω.b).sec).1.sync.1, { ω with recs := l, synced := l.length, area := area, count := ω.count + 1 }, 0) := by
 have e : nextZ δ.sync.1 (ω.mark area l ω.a ω.b) = ((δ.sync.1.write ((ω.mark area l ω.a ω.b).count % 2) (ω.mark area l ω.a ω.b).sec).1.sync.1, 0) := by unfold nextZ; rw [if_neg (fun g => g h2), if_neg (fun g => g h3)]
 unfold sealZ; rw [if_neg (fun g => g h), e, if_neg (fun g => g rfl)]
theorem rseals_spec (y x : Nat) (vr : Value) (ω : Wl) (area : Int) (va : Value) (l : List Bs) (δ : Dk) (p : HP) (hp : ∀ h : Hp, p h → rdS 1 h va l.length (strs l)) (hll : (laidZ l).length ≤ 2100000000) (hc : 0 ≤ ω.count ∧ ω.count < 4294967295) (har : 0 ≤ area ∧ area ≤ 1) (ha : 0 ≤ ω.a ∧ ω.a ≤ 9223372036854775807) (hb : 0 ≤ ω.b ∧ ω.b ≤ 9223372036854775807) (hA : δ.acts + 10 < 4611686018427387904) : Fn Tryz.prog 150 #[vptr y, vint area, va] [lc y x (vr) (ω.synced) (ω.area) (ω.count) (ω.a) (ω.b) (ω.doubt), dsR x δ, p] fun v L => ((sealZ δ ω area l).2.2 = 2 ∧ v = vint 2 ∧ L = [lc y x (vr) (ω.synced) (ω.area) (ω.count) (ω.a) (ω.b) (true), dsR x (sealZ δ ω area l).1, p]) ∨ ((sealZ δ ω area l).2.2 = 0 ∧ v = vint 0 ∧ ∃ a9 c9, L = [lc y x (.slice a9 l.length c9) ((l.length : Nat)) (area) (ω.count + 1) (ω.a) (ω.b) (ω.doubt), dsR x (sealZ δ ω area l).1, p, strR (.slice a9 l.length c9) l]) := by
 refine Fn.intro Tryz.func150 rfl rfl fun F W => ?_
 have hlm := laidZ_many l
 have hk1 := sync_keeps δ
 have hk2 := write_keeps δ.sync.1 ((ω.mark area l ω.a ω.b).count % 2) (ω.mark area l ω.a ω.b).sec
 refine .rdAny (p := p) hp (by repeat' constructor) fun aa ca e _ => ?_
 subst e
 refine .sr (.an rfl (.seq (.seq (.draw [4, 18, 26] [[0, 1, 2, 3, 4], [5, 6, 7, 8, 9, 10, 11, 12, 13, 14, 15, 16, 17, 18], [19, 20, 21, 22, 23, 24, 25, 26], [27, 28]] mixed (by kernel_rfl) (.g0 (.mv rfl rfl (.nf rfl rfl rfl fo_185_0 (.kv rfl (.ld rfl ag_26) (.hh rfl (.c Tryz.func142 [_] (dssync_spec x δ (by omega))) ?_)))))))))
 rintro v L' ⟨rfl, rfl⟩
 refine D.ph (.g0 (.kv rfl (.int rfl rfl rfl) (.mv rfl rfl (.ndec (t := 13) rfl (fun h1_13 => ?_) (fun h1_13 => ?_)))))
 ·refine D.kNT (t := 12) rfl h1_13 (.gz rfl (.gz rfl (.gz rfl (.gz rfl (.gz rfl (.gz rfl (.gz rfl (.gz rfl (.gz rfl (.gz rfl (.gz rfl (.gz rfl (.ph (.g0 (.gz rfl (.kv rfl (.pickT rfl rfl) (.mv rfl rfl (.gz rfl (.gz rfl (.gz rfl (.gz rfl (.gz rfl (.ph (.g0 (.gz rfl (.kv rfl (.pickT rfl rfl) (.pf (.condT rfl (.sm rfl (.cv Tryz.func148 [_] (rdead_spec y x vr ω.synced ω.area ω.count ω.a ω.b ω.doubt) ?_))))))))))))))))))))))))))))))
  refine .an rfl (.rt ?_)
  have hr := seal_s1 (ω := ω) (area := area) (l := l) h1_13
  rw [hr]
  exact .dn rfl rfl (.inl ⟨rfl, rfl, rfl⟩)
 refine D.kNF (t := 12) rfl h1_13 (.gv rfl (.move rfl) (.gv rfl (.move rfl) (.gv rfl (.move rfl) (.gv rfl (.move rfl) (.gv rfl (.nilp rfl) (.gv rfl (.fieldAddr rfl fo_185_5) (.gv rfl (.ld rfl ag_3) (.gv rfl (.move rfl) (.gv rfl (.nilp rfl) (.gv rfl (.fieldAddr rfl fo_185_6) (.gv rfl (.ld rfl ag_3) (.gh (t := 13) rfl rfl rfl (by kernel_rfl) (.call Tryz.func196 rfl rfl (vs := [_, _, _, _, _]) rfl (rputs_spec y x vr ω.synced ω.area ω.count ω.a ω.b ω.doubt area ω.a ω.b _ l δ.sync.1 p hp hll hc har ha hb (by omega))) (by repeat' constructor) ?_))))))))))))
 rintro v L' ⟨rfl, rfl⟩
 refine D.ph (.g0 (.gv rfl (.int rfl rfl rfl) (.kv rfl (.pickF rfl rfl) (.mv rfl rfl (.ndec (t := 28) rfl (fun h1_28 => ?_) (fun h1_28 => ?_))))))
 ·refine D.kNT (t := 26) rfl h1_28 (.kNT (t := 27) rfl h1_28 (.gz rfl (.gz rfl (.gz rfl (.gz rfl (.gz rfl (.ph (.g0 (.gz rfl (.kv rfl (.pickT rfl rfl) (.pf (.condT rfl (.sm rfl (.cv Tryz.func148 [_] (rdead_spec y x vr ω.synced ω.area ω.count ω.a ω.b ω.doubt) ?_))))))))))))))
  refine .an rfl (.rt ?_)
  have hr := seal_s2 (area := area) (l := l) (ω := ω) h1_13 h1_28
  rw [hr]
  exact .dn rfl rfl (.inl ⟨rfl, rfl, rfl⟩)
 refine D.kNF (t := 26) rfl h1_28 (.kNF (t := 27) rfl h1_28 (.gv rfl (.move rfl) (.gv rfl (.nilp rfl) (.gv rfl (.fieldAddr rfl fo_185_0) (.gv rfl (.ld rfl ag_26) (.gh (t := 28) rfl rfl rfl (by kernel_rfl) (.c Tryz.func142 [_] (dssync_spec x (δ.sync.1.write ((ω.mark area l ω.a ω.b).count % 2) (ω.mark area l ω.a ω.b).sec).1 (by omega))) (by repeat' constructor) ?_))))))
 rintro v L' ⟨rfl, rfl⟩
 refine D.ph (.g0 (.gv rfl (.int rfl rfl rfl) (.kv rfl (.pickF rfl rfl) (.pf (.condN rfl (fun h35 => ?_) (fun h35 => ?_))))))
 ·refine .sm rfl (.cv Tryz.func148 [_] (rdead_spec y x vr ω.synced ω.area ω.count ω.a ω.b ω.doubt) ?_)
  refine .an rfl (.rt ?_)
  have hr := seal_s3 (area := area) (l := l) (ω := ω) h1_13 h1_28 h35
  rw [hr]
  exact .dn rfl rfl (.inl ⟨rfl, rfl, rfl⟩)
 refine .sk (.sm rfl (.nf rfl fo_185_4 (.u (.ld rfl ag_3) (.q (.add rfl rfl (by omega)) rfl (.nf rfl fo_185_4 (.st rfl rfl rfl sz_3 ?_))))))
 refine .nt (.sm rfl (.m rfl (.nf rfl fo_185_3 (.st rfl rfl rfl sz_3 ?_))))
 refine .nt (.seq (.add (slR_nil 9 1) (.region (.m rfl (.m rfl (.oq (.append (n := 0) (m := l.length) (ys := strs l) (p := p) rfl rfl rfl el_39 (.inl ⟨_, Tryz.underlying39⟩) ze_9 rfl rfl ?hc61 ?hr62 ?hb63 (by decide)) ?_))))))
 case hc61 => exact strs_cell _
 case hr62 => exact hp
 case hb63 => omega
 rintro v L' ⟨⟨a8, c8, rfl⟩, rfl⟩; rw [Nat.zero_add, List.nil_append]
 refine .nf rfl fo_185_1 (.st rfl rfl rfl sz_39 ?_)
 refine .nt (.sm rfl (.m rfl (.q (.slen rfl Tryz.underlying39 rfl) rfl (.nf rfl fo_185_2 (.st rfl rfl rfl sz_3 ?_)))))
 refine .nt (.sr (.an rfl (.ret ?_)))
 have hr := seal_s4 (area := area) (l := l) (ω := ω) h1_13 h1_28 h35
 rw [hr]
 exact .dn rfl rfl (.inr ⟨rfl, rfl, a8, c8, rfl⟩)
theorem sealX_two {δ : Dk} {ω : Wl} {ar : Int} {l : List Bs} (h : (sealZ δ ω ar l).2.2 = 2) : dbt (sealZ δ ω ar l) = ((sealZ δ ω ar l).1, { ω with doubt := true }, 2) := by
 have e : (sealZ δ ω ar l).2.1 = ω := by
  unfold sealZ at h ⊢
  split
  ·rfl
  ·rename_i h1
   rw [if_neg h1] at h
   split
   ·rfl
   ·rename_i h2; rw [if_neg h2] at h; exact absurd h (by show ¬ (0 : Int) = 2; decide)
 unfold dbt
 rw [if_pos h, e, h]
theorem sealX_nil {δ : Dk} {ω : Wl} {ar : Int} {l : List Bs} (h : (sealZ δ ω ar l).2.2 = 0) : dbt (sealZ δ ω ar l) = ((sealZ δ ω ar l).1, { ω with recs := l, synced := l.length, area := ar, count := ω.count + 1 }, 0) := by
 have e : (sealZ δ ω ar l).2.1 = { ω with recs := l, synced := l.length, area := ar, count := ω.count + 1 } := by
  unfold sealZ at h ⊢
  split
  ·rename_i h1; rw [if_pos h1] at h; exact absurd h (by show ¬ (2 : Int) = 0; decide)
  ·rename_i h1
   rw [if_neg h1] at h
   split
   ·rename_i h2; rw [if_pos h2] at h; exact absurd h (by show ¬ (2 : Int) = 0; decide)
   ·rfl
 unfold dbt
 rw [if_neg (by rw [h]; decide)]
 exact Prod.ext rfl (Prod.ext e h)
theorem layX_two {δ : Dk} {ω : Wl} {ar : Int} {s : Bs} {k : Nat} (h : ¬ (layZ δ ar s k).2 = 0) : dbt ((layZ δ ar s k).1, ω, (layZ δ ar s k).2) = ((layZ δ ar s k).1, { ω with doubt := true }, 2) := by
 have e := (layZ_err δ ar s k).resolve_left h
 unfold dbt; rw [e]; rfl
theorem rappend_spec (y x : Nat) (ω : Wl) (δ : Dk) (s : Bs) (hI : WlI δ ω) (hsl : s.length ≤ 2147483648) : Fn Tryz.prog 88 #[vptr y, vstr s] [rlR y x ω, dsR x δ] fun v L => v = vint (appendZ δ ω s).2.2 ∧ L = [rlR y x (appendZ δ ω s).2.1, dsR x (appendZ δ ω s).1] := by
 refine Fn.intro Tryz.func88 rfl rfl fun F W => ?_
 refine .rlOpen (ω := ω) (by repeat' constructor) fun vr => (.slAny (v := vr) (by repeat' constructor) fun arr crr e hsl => ?_)
 subst e
 refine .slAddr (by repeat' constructor) fun hcap hra => ?_
 have hfi := hI.fits
 have hn := hI.size
 have hhl := half_le hI.size
 have hlm := laidZ_many ω.recs
 have hac := hI.acts
 have hct := hI.count
 have har := hI.area
 have hsy := hI.synced
 refine .sr (.an rfl (.seq (.sm rfl (.nf rfl fo_185_7 (.u (.ld rfl ag_4) (.nt (.condB rfl (fun h9 => ?_) (fun h9 => ?_))))))))
 ·refine .sr (.an rfl (.rt ?_))
  have hr : appendZ δ ω s = (δ, ω, 34) := by unfold appendZ; rw [if_pos h9]
  rw [hr]
  refine .rl (y := y) (x := x) (ω := ω) (v := (.slice arr ω.recs.length crr)) ?_
  exact .vv
 refine .sk (.seq (.sm rfl (.q (.strlen rfl Tryz.underlying9 rfl) rfl (.ui rfl rfl rfl (.nt (.condD rfl (fun h12 => ?_) (fun h12 => ?_)))))))
 ·refine .sr (.an rfl (.rt ?_))
  have hr : appendZ δ ω s = (δ, ω, 33) := by unfold appendZ; rw [if_neg (by rw [h9]; decide), if_pos (by omega)]
  rw [hr]
  refine .rl (y := y) (x := x) (ω := ω) (v := (.slice arr ω.recs.length crr)) ?_
  exact .vv
 refine .sk (.sm rfl (.nf rfl fo_185_1 (.u (.ld rfl ag_39) (.oq (.call Tryz.func143 rfl rfl (vs := [_]) rfl (rsize_spec _ ω.recs (strR (.slice arr ω.recs.length crr) ω.recs) (fun h hp => slR_rd hp) (by omega))) ?_))))
 rintro v L' ⟨rfl, rfl⟩
 refine .an rfl (.seq (.sm rfl (.m rfl (.q (.strlen rfl Tryz.underlying9 rfl) rfl (.q (.add rfl rfl (by omega)) rfl (.q (.add rfl rfl (by omega)) rfl (.m rfl (.nf rfl fo_185_0 (.u (.ld rfl ag_26) (.cv Tryz.func144 [_] (dshalf_spec x δ hn) ?_))))))))))
 refine .q (.mul rfl rfl (by omega)) rfl (.ui rfl rfl rfl (.nt (.condD rfl (fun h29 => ?_) (fun h29 => ?_))))
 ·refine .sr (.an rfl (.rt ?_))
  have hr : appendZ δ ω s = (δ, ω, 30) := by unfold appendZ; rw [if_neg (by rw [h9]; decide), if_neg (by omega), if_pos (by omega)]
  rw [hr]
  refine .rl (y := y) (x := x) (ω := ω) (v := (.slice arr ω.recs.length crr)) ?_
  exact .vv
 have hrl : (laidZ ω.recs ++ recZ s).length = (laidZ ω.recs).length + s.length + 6 := by rw [List.length_append, recZ_len]; omega
 refine .sk (.seq (.seq (.draw [17] [[0, 1, 2, 3, 4, 5, 6, 7, 8, 9, 10, 11, 12, 13, 14, 15, 16, 17], [18]] mixed (by kernel_rfl) (.go [lc y x ((.slice arr ω.recs.length crr)) (ω.synced) (ω.area) (ω.count) (ω.a) (ω.b) (ω.doubt), strR (.slice arr ω.recs.length crr) ω.recs] (by repeat' constructor) (.mv rfl rfl (.nf rfl rfl rfl fo_185_0 (.kv rfl (.ld rfl ag_26) (.mv rfl rfl (.nf rfl rfl rfl fo_185_3 (.kv rfl (.ld rfl ag_3) (.mv rfl rfl (.nf rfl rfl rfl fo_185_1 (.kv rfl (.ld rfl ag_39) (.m rfl (by kernel_rfl) (.call Tryz.func146 rfl rfl (vs := [_]) rfl (rall_spec _ ω.recs (strR (.slice arr ω.recs.length crr) ω.recs) (fun h hp => slR_rd hp) (by omega))) (by repeat' constructor) ?_))))))))))))))
 refine D.mv rfl rfl (.m rfl (by kernel_rfl) (.c Tryz.func147 [_] (rrecord_spec s (by omega))) (by repeat' constructor) ?_)
 refine D.kv rfl (.concat rfl rfl (by rw [recZ_len]; omega)) (.mv rfl rfl (.hh rfl (.c Tryz.func145 [_, _, _, _] (rlays_spec x ω.area (laidZ ω.recs ++ recZ s) (laidZ ω.recs).length δ hn har (by omega) (by omega) (by omega))) ?_))
 rintro v L' ⟨e1, he1, rfl, rfl⟩
 refine D.ph (.g0 (.kv rfl (.int rfl rfl rfl) (.pf (.condN rfl (fun h48 => ?_) (fun h48 => ?_)))))
 ·refine .sm rfl (.cv Tryz.func148 [_] (rdead_spec y x _ _ _ _ _ _ _) ?_)
  refine .an rfl (.rt ?_)
  have hl2 : ¬ (layZ δ ω.area (laidZ ω.recs ++ recZ s) (laidZ ω.recs).length).2 = 0 := fun g => h48 (he1.2 g)
  have hr : appendZ δ ω s = ((layZ δ ω.area (laidZ ω.recs ++ recZ s) (laidZ ω.recs).length).1, { ω with doubt := true }, 2) := by unfold appendZ; rw [if_neg (by rw [h9]; decide), if_neg (by omega), if_neg (by omega), if_pos hl2, layX_two hl2]
  rw [hr]
  refine .rl (y := y) (x := x) (ω := { ω with doubt := true }) (v := (.slice arr ω.recs.length crr)) ?_
  exact .vv
 refine .sk (.sm rfl (.m rfl (.nf rfl fo_185_1 (.u (.ld rfl ag_39) (.m rfl (.oq (.buildSlice1 (vs := [_]) el_39 ze_9 rfl rfl rfl rfl rfl (by decide)) ?_))))))
 rintro v L' ⟨b10, rfl, rfl⟩
 refine .oq (.append1 rfl rfl rfl el_39 ze_9 rfl rfl ?c62 ?c63 (Nat.le_refl _) ?c64 (by decide)) ?_
 case c62 => (first | (simp [isCell]; done) | (simp [isCell, setAll, Value.cells]; done))
 case c63 => rfl
 case c64 => omega
 rintro v L' ⟨⟨a10, c10, rfl⟩, rfl⟩
 refine .nf rfl fo_185_1 (.st rfl rfl rfl sz_39 ?_)
 refine .nt (.sr (.an rfl (.ret ?_)))
 have hl2 : (layZ δ ω.area (laidZ ω.recs ++ recZ s) (laidZ ω.recs).length).2 = 0 := he1.1 h48
 have hr : appendZ δ ω s = ((layZ δ ω.area (laidZ ω.recs ++ recZ s) (laidZ ω.recs).length).1, { ω with recs := ω.recs ++ [s] }, 0) := by unfold appendZ; rw [if_neg (by rw [h9]; decide), if_neg (by omega), if_neg (by omega), if_neg (fun g => g hl2)]
 rw [hr]
 refine .rl (y := y) (x := x) (ω := { ω with recs := ω.recs ++ [s] }) (v := .slice a10 (ω.recs.length + 1) c10) ?_
 exact .vv
theorem rlsync_spec (y x : Nat) (ω : Wl) (δ : Dk) (hI : WlI δ ω) (hab : (0 ≤ ω.a ∧ ω.a ≤ 9223372036854775807) ∧ (0 ≤ ω.b ∧ ω.b ≤ 9223372036854775807)) : Fn Tryz.prog 90 #[vptr y] [rlR y x ω, dsR x δ] fun v L => v = vint (syncZ δ ω).2.2 ∧ L = [rlR y x (syncZ δ ω).2.1, dsR x (syncZ δ ω).1] := by
 refine Fn.intro Tryz.func90 rfl rfl fun F W => ?_
 refine .rlOpen (ω := ω) (by repeat' constructor) fun vr => (.slAny (v := vr) (by repeat' constructor) fun arr crr e hsl => ?_)
 subst e
 refine .slAddr (by repeat' constructor) fun hcap hra => ?_
 have hfi := hI.fits
 have hn := hI.size
 have hhl := half_le hI.size
 have hlm := laidZ_many ω.recs
 have hac := hI.acts
 have hct := hI.count
 have har := hI.area
 have hsy := hI.synced
 refine .sr (.an rfl (.seq (.sm rfl (.nf rfl fo_185_7 (.u (.ld rfl ag_4) (.nt (.condB rfl (fun h6 => ?_) (fun h6 => ?_))))))))
 ·refine .sr (.an rfl (.rt ?_))
  have hr : syncZ δ ω = (δ, ω, 34) := by unfold syncZ; rw [if_pos h6]
  rw [hr]
  refine .rl (y := y) (x := x) (ω := ω) (v := (.slice arr ω.recs.length crr)) ?_
  exact .vv
 refine .sk (.seq (.seq (.draw [] [[0, 1, 2, 3, 4, 5, 6, 7, 8, 9]] mixed (by kernel_rfl) (.g0 (.mv rfl rfl (.nf rfl rfl rfl fo_185_2 (.kv rfl (.ld rfl ag_3) (.mv rfl rfl (.nf rfl rfl rfl fo_185_1 (.kv rfl (.ld rfl ag_39) (.kv rfl (.slen rfl Tryz.underlying39 rfl) (.kv rfl (.int rfl rfl rfl) (.pf (.condD rfl (fun h16 => ?_) (fun h16 => ?_)))))))))))))))
 ·refine .sr (.an rfl (.rt ?_))
  have hr : syncZ δ ω = (δ, ω, 0) := by unfold syncZ; rw [if_neg (by rw [h6]; decide), if_pos (by omega)]
  rw [hr]
  refine .rl (y := y) (x := x) (ω := ω) (v := (.slice arr ω.recs.length crr)) ?_
  exact .vv
 refine .sk (.seq (.sm rfl (.nf rfl fo_185_4 (.u (.ld rfl ag_3) (.ui rfl rfl rfl (.nt (.condD rfl (fun h21 => ?_) (fun h21 => ?_))))))))
 ·refine .sr (.an rfl (.rt ?_))
  have hr : syncZ δ ω = (δ, ω, 30) := by unfold syncZ; rw [if_neg (by rw [h6]; decide), if_neg (by omega), if_pos (by omega)]
  rw [hr]
  refine .rl (y := y) (x := x) (ω := ω) (v := (.slice arr ω.recs.length crr)) ?_
  exact .vv
 refine .sk (.seq (.draw [9] [[0, 1, 2, 3, 4, 5, 6, 7, 8, 9], [10]] mixed (by kernel_rfl) (.g0 (.mv rfl rfl (.mv rfl rfl (.nf rfl rfl rfl fo_185_3 (.kv rfl (.ld rfl ag_3) (.mv rfl rfl (.nf rfl rfl rfl fo_185_1 (.kv rfl (.ld rfl ag_39) (.hh rfl (.c Tryz.func150 [_, _, _] (rseals_spec y x (.slice arr ω.recs.length crr) ω ω.area (.slice arr ω.recs.length crr) ω.recs δ (strR (.slice arr ω.recs.length crr) ω.recs) (fun h hp => slR_rd hp) (by omega) ⟨hct.1, by omega⟩ (by omega) hab.1 hab.2 (by omega))) ?_)))))))))))
 rintro v L' (⟨hs, rfl, rfl⟩ | ⟨hs, rfl, a9, c9, rfl⟩)
 ·refine D.ph (.g0 (.kv rfl (.assign rfl) (.pf (.ret ?_))))
  have hr : syncZ δ ω = ((sealZ δ ω ω.area ω.recs).1, { ω with doubt := true }, 2) := by unfold syncZ; rw [if_neg (by rw [h6]; decide), if_neg (by omega), if_neg (by omega), sealX_two hs]
  rw [hr]
  refine .rl (y := y) (x := x) (ω := { ω with doubt := true }) (v := (.slice arr ω.recs.length crr)) ?_
  exact .vv
 refine D.ph (.g0 (.kv rfl (.assign rfl) (.pf (.ret ?_))))
 have hr : syncZ δ ω = ((sealZ δ ω ω.area ω.recs).1, { ω with recs := ω.recs, synced := ω.recs.length, area := ω.area, count := ω.count + 1 }, 0) := by unfold syncZ; rw [if_neg (by rw [h6]; decide), if_neg (by omega), if_neg (by omega), sealX_nil hs]
 rw [hr]
 refine .rl (y := y) (x := x) (ω := { ω with recs := ω.recs, synced := ω.recs.length, area := ω.area, count := ω.count + 1 }) (v := .slice a9 ω.recs.length c9) ?_
 exact .vv
section
variable {P : Program} {W : World} {n : Nat} {ds : List Deferred} {E : Env} {L R : List HP} {X : Act → World → Prop}
end
section
variable {P : Program} {E : Env} {L : List HP} {ty : TypeId}
end
section
variable {P : Program} {E : Env} {L : List HP} {ty : TypeId}
theorem Quiet.quoU {t t' : TypeId} {x y : Operand} {a b : Int} (hx : ev E x = some (.int .u64 a)) (hy : ev E y = some (.int .u64 b)) (h0 : 0 ≤ a ∧ a < 18446744073709551616) (hb : 0 < b) :
  Quiet P ⟨none, .binOp .quo t x y t', ty, "", #[], none⟩ E L (.int .u64 (a / b)) := by
 intro ρ w ha _
 have e : a.tdiv b = a / b := Int.tdiv_eq_ediv_of_nonneg h0.1
 have h1 : a / b ≤ a := Int.ediv_le_self b h0.1
 have h2 : 0 ≤ a / b := Int.ediv_nonneg h0.1 (by omega)
 have hw : IntKind.u64.wrap (a / b) = a / b := by rw [u64wrap]; omega
 simp [execOp, ha x _ hx, ha y _ hy, eqGuard, binOp, Op.intDiv, Bind.bind, Sem.bind, Pure.pure, Sem.run, show b ≠ 0 by omega, e, hw]
theorem Quiet.remU {t t' : TypeId} {x y : Operand} {a b : Int} (hx : ev E x = some (.int .u64 a)) (hy : ev E y = some (.int .u64 b)) (h0 : 0 ≤ a) (hb : 0 < b) :
  Quiet P ⟨none, .binOp .rem t x y t', ty, "", #[], none⟩ E L (.int .u64 (a % b)) := by
 intro ρ w ha _
 have e : a.tmod b = a % b := Int.tmod_eq_emod_of_nonneg h0
 simp [execOp, ha x _ hx, ha y _ hy, eqGuard, binOp, Op.intDiv, Bind.bind, Sem.bind, Pure.pure, Sem.run, show b ≠ 0 by omega, e]
end
theorem r1zig_spec (n : Int) (hn : I64 n) : Fn Tryz.prog 195 #[vint n] [] fun v L => v = .int .u64 (zigZ n : Nat) ∧ L = [] := by
 refine Fn.intro Tryz.func195 rfl rfl fun F W => ?_
 refine .sr (.an rfl (.seq (.sm rfl (.ui rfl rfl rfl (.nt (.condD rfl (fun h4 => ?_) (fun h4 => ?_)))))))
 ·refine .sm rfl (.q (.conv rfl Tryz.underlying3 Tryz.underlying202) rfl (.q (.as (v' := .int .u64 (zigZ n : Nat)) (by exact congrArg (Value.int .u64) (by rw [u64wrap, u64wrap]; unfold zigZ; rw [if_pos (by omega)]; omega)) (.int rfl rfl rfl)) rfl (.an rfl (.rt ?_))))
  exact .vv
 refine .sk (.sm rfl (.q (.add rfl rfl (by omega)) rfl (.q (.neg rfl (by omega)) rfl (.q (.conv rfl Tryz.underlying3 Tryz.underlying202) rfl (.ui rfl rfl rfl (.q (.as (v' := .int .u64 (zigZ n : Nat)) (by exact congrArg (Value.int .u64) (by rw [u64wrap, u64wrap, u64wrap]; unfold zigZ; rw [if_neg (by omega)]; omega)) (.int rfl rfl rfl)) rfl (.an rfl (.ret ?_))))))))
 exact .vv
theorem sev_step' {u : Nat} (h : 128 ≤ u) (bs : Bs) : bs ++ [UInt8.ofNat (u % 128 + 128)] ++ sevZ (u / 128) = bs ++ sevZ u := by
 rw [sevZ.eq_1 u, if_neg (by omega), List.append_assoc]; rfl
theorem sev_last' {u : Nat} (h : ¬ 128 ≤ u) : [UInt8.ofNat u] = sevZ u := by
 rw [sevZ.eq_1 u, if_pos (by omega)]
theorem u8_of {u : Nat} (h : u < 256) : Value.int .u8 (IntKind.u8.wrap (u : Int)) = vbyte (UInt8.ofNat u) := by
 have e : IntKind.u8.wrap (u : Int) = (u : Int) := by simp [IntKind.wrap, IntKind.bits, IntKind.signed]; omega
 rw [e]; show Value.int .u8 (u : Int) = .int .u8 ((UInt8.ofNat u).toNat : Int)
 rw [u8_ofNat h]
theorem r1sev_spec (u0 : Nat) (hu : u0 < U64) : Fn Tryz.prog 165 #[.int .u64 u0] [] fun v L => v = vstr (sevZ u0) ∧ L = [] := by
 refine Fn.intro Tryz.func165 rfl rfl fun F W => ?_
 have hs10 := sev_len10 hu
 have h64 : U64 = 18446744073709551616 := rfl
 refine .sr (.an rfl (.seq (.add (slR_nil 5 1) (.region (.an rfl (.seq (.block (.loopK (ι := Nat × Value × Bs) (fun q E => (0, .int .u64 q.1) :: (3, q.2.1) :: E) (fun q => [bytR q.2.1 q.2.2]) (fun q => q.1 ≤ u0 ∧ (∃ a c, q.2.1 = .slice a q.2.2.length c) ∧ q.2.2 ++ sevZ q.1 = sevZ u0) (fun q => q.1) (u0, .slice none 0 0, []) (ts := [2]) (.cons rfl (.nil)) (⟨Nat.le_refl _, ⟨none, 0, rfl⟩, rfl⟩) ⟨rfl, rfl, rfl, trivial⟩ (by repeat' constructor) ?_))))))))
 rintro ⟨u, v, b⟩ ⟨hu0, ⟨av, cv, hv⟩, heq⟩
 dsimp only
 dsimp only at hu0 hv heq
 subst hv
 have hbl := congrArg List.length heq
 rw [List.length_append] at hbl
 have hsl := sev_len u
 refine .seq (.sm rfl (.ui rfl rfl rfl (.nt (.condD rfl (fun h5 => ?_) (fun h5 => ?_)))))
 ·refine .sk (.block (.sm rfl (.m rfl (.q (.to (v' := .int .u64 ((u % 128 : Nat) : Int)) (.remU rfl rfl (by omega) (by decide)) (by rfl)) rfl (.ui rfl rfl rfl (.q (.as (v' := vbyte (UInt8.ofNat (u % 128 + 128))) (by rw [u64wrap, show (((u % 128 : Nat) : Int) + 128) % 18446744073709551616 = ((u % 128 + 128 : Nat) : Int) by omega]; exact u8_of (by omega)) (.conv rfl Tryz.underlying202 Tryz.underlying5)) rfl (.oq (.buildSlice1 (vs := [_]) el_159 ze_5 rfl rfl rfl rfl rfl (by decide)) ?_)))))))
  rintro v L' ⟨b3, rfl, rfl⟩
  refine .oq (.append1 rfl rfl rfl el_159 ze_5 rfl rfl ?c12 ?c13 (Nat.le_refl _) ?c14 (by decide)) ?_
  case c12 => (first | (simp [isCell]; done) | (simp [isCell, setAll, Value.cells]; done))
  case c13 => rfl
  case c14 => omega
  rintro v L' ⟨⟨a3, c3, rfl⟩, rfl⟩
  refine .an rfl (.region (.m rfl (.q (.to (v' := .int .u64 ((u / 128 : Nat) : Int)) (.quoU rfl rfl (by omega) (by decide)) (by rfl)) rfl (.a rfl (.nil (.blk_n (.then_n (.slCast (T := 5) (sz := 1) (m' := (b ++ [(UInt8.ofNat (u % 128 + 128))]).length) (xs' := bysL (b ++ [(UInt8.ofNat (u % 128 + 128))])) (by repeat' constructor) (by simp) (by simp [bysL, Value.cells]) ?_))))))))
  exact .rk ((u / 128, .slice a3 (b.length + 1) c3, b ++ [(UInt8.ofNat (u % 128 + 128))])) (⟨by dsimp only; omega, ⟨a3, c3, by simp⟩, by dsimp only; rw [sev_step' (by omega)]; exact heq⟩) (by dsimp only; omega) ⟨rfl, rfl, rfl, trivial⟩
 refine .exit (.then_e (.then_e (.blk_e (.then_n (.sm rfl (.m rfl (.q (.as (v' := vbyte (UInt8.ofNat u)) (by exact u8_of (by omega)) (.conv rfl Tryz.underlying202 Tryz.underlying5)) rfl (.oq (.buildSlice1 (vs := [_]) el_159 ze_5 rfl rfl rfl rfl rfl (by decide)) ?_))))))))
 rintro v L' ⟨b5, rfl, rfl⟩
 refine .oq (.append1 rfl rfl rfl el_159 ze_5 rfl rfl ?c24 ?c25 (Nat.le_refl _) ?c26 (by decide)) ?_
 case c24 => (first | (simp [isCell]; done) | (simp [isCell, setAll, Value.cells]; done))
 case c25 => rfl
 case c26 => omega
 rintro v L' ⟨⟨a5, c5, rfl⟩, rfl⟩
 refine .an rfl (.seq (.slCast (T := 5) (sz := 1) (m' := (b ++ [(UInt8.ofNat u)]).length) (xs' := bysL (b ++ [(UInt8.ofNat u)])) (by repeat' constructor) (by simp) (by simp [bysL, Value.cells]) ?_))
 have hfin : b ++ [(UInt8.ofNat u)] = sevZ u0 := by rw [sev_last' (by omega)]; exact heq
 refine .region (.m rfl (.q (.bytesBy (cs := b ++ [(UInt8.ofNat u)]) (n := b.length + 1) (p := slR 5 1 (.slice a5 (b.length + 1) c5) (b ++ [(UInt8.ofNat u)]).length (bysL (b ++ [(UInt8.ofNat u)]))) rfl Tryz.underlying159 Tryz.underlying5 Tryz.underlying9 (fun h hp => by rw [show b.length + 1 = (b ++ [(UInt8.ofNat u)]).length by simp] at hp ⊢; exact slR_rd hp) (by repeat' constructor)) rfl (.an rfl (.ret ?_))))
 rw [hfin]
 exact .vv
theorem r1num_spec (n : Int) (hn : I64 n) : Fn Tryz.prog 149 #[vint n] [] fun v L => v = vstr (numB n) ∧ L = [] := by
 refine Fn.intro Tryz.func149 rfl rfl fun F W => ?_
 refine .sr (.an rfl (.sm rfl (.cv Tryz.func195 [_] (r1zig_spec n hn) ?_)))
 refine .cv Tryz.func165 [_] (r1sev_spec (zigZ n) (zig_lt hn)) ?_
 refine .an rfl (.ret ?_)
 exact .vv
theorem r1cnt_spec (n : Nat) (hn : n ≤ 70368744177664) : Fn Tryz.prog 98 #[vint n] [] fun v L => v = vstr (cntB n) ∧ L = [] := by
 refine Fn.intro Tryz.func98 rfl rfl fun F W => ?_
 have hz : n < U64 := by unfold U64; omega
 refine .sr (.an rfl (.sm rfl (.u (.max2 rfl rfl) (.q (.as (v' := .int .u64 (n : Nat)) (by exact congrArg (Value.int .u64) (by rw [u64wrap]; omega)) (.conv rfl Tryz.underlying3 Tryz.underlying202)) rfl (.cv Tryz.func165 [_] (r1sev_spec n hz) ?_)))))
 refine .an rfl (.ret ?_)
 exact .vv
def AcG (a : Ac) : Prop := I64 a.1 ∧ a.2.length ≤ 4096
structure PtG (y : Pt) : Prop where
 kind : I64 y.kind
 own : I64 y.own
 num : I64 y.num
 err : I64 y.err
 path : y.path.length ≤ 4096
 data : y.data.length ≤ 4096
 many : y.acl.length ≤ 256
 acl : ∀ a ∈ y.acl, AcG a
structure EnG (e : En) : Prop where
 zx : I64 e.zx
 ses : I64 e.ses
 xid : I64 e.xid
 x : PtG e.x
 many : e.subs.length ≤ 256
 subs : ∀ y ∈ e.subs, PtG y
section
variable {W : World} {n : Nat} {ds : List Deferred} {E : Env} {L R : List HP} {X : Act → World → Prop}
end
structure EsOf (es : List En) (Λ : Lg) : Prop where
 b : es.map enB = Λ.ents
 z : es.map (·.zx) = Λ.zxs
 n : es.length ≤ 1048576
 k : ∀ e ∈ es, EnK e ∧ EnG e
abbrev gc9 (y w : Nat) (base : Int) (snap : Bs) (sl : Value) (acc cur : Int) (db : Bool) : HP := ptc y [vptr w, vint base, vstr snap, sl, vint acc, vint cur, .bool db] 64
abbrev es9 (sl : Value) (es : List En) : HP := slR 75 11 sl es.length (es.flatMap enC)
def rgR (y w : Nat) (Λ : Lg) : HP := fun h => ∃ q : (Option Addr × Nat) × List En, EsOf q.2 Λ ∧ sep [gc9 y w Λ.base Λ.snap (.slice q.1.1 q.2.length q.1.2) Λ.acc Λ.cur Λ.doubt, es9 (.slice q.1.1 q.2.length q.1.2) q.2, bigR entR q.2] h
section
variable {W : World} {n : Nat} {ds : List Deferred} {E : Env} {L R : List HP} {X : Act → World → Prop}
theorem G.rgFold {y w : Nat} {l xs : List Value} {sl : Value} {m : Nat} (Λ : Lg) (a : Option Addr) (c : Nat) (es : List En) (hL : Picks [ptc y l 64, slR 75 11 sl m xs, bigR entR es] L R) (hE : EsOf es Λ)
  (h1 : l = [vptr w, vint Λ.base, vstr Λ.snap, .slice a es.length c, vint Λ.acc, vint Λ.cur, .bool Λ.doubt]) (h2 : sl = .slice a es.length c) (h3 : m = es.length) (h4 : xs = es.flatMap enC) (h : G W n ds E (rgR y w Λ :: R) X) : G W n ds E L X := by
 subst h1; subst h2; subst h3; subst h4
 exact G.fold hL (fun _ hp => ⟨((a, c), es), hE, hp⟩) h
theorem G.rg {y w : Nat} {l xs : List Value} {sl : Value} {m : Nat} (Λ : Lg) (a : Option Addr) (c : Nat) (es : List En) (hE : EsOf es Λ) (h : G W n ds E (rgR y w Λ :: R) X) (hL : Picks [ptc y l 64, slR 75 11 sl m xs, bigR entR es] L R := by repeat' constructor) (h1 : l = [vptr w, vint Λ.base, vstr Λ.snap, .slice a es.length c, vint Λ.acc, vint Λ.cur, .bool Λ.doubt] := by exact rfl) (h2 : sl = .slice a es.length c := by exact rfl) (h3 : m = es.length := by exact rfl) (h4 : xs = es.flatMap enC := by exact rfl) : G W n ds E L X := G.rgFold Λ a c es hL hE h1 h2 h3 h4 h
end
theorem EsOf.nil {Λ : Lg} (h : Λ.ents = []) (hz : Λ.zxs = []) : EsOf [] Λ := ⟨h.symm, hz.symm, Nat.zero_le _, fun _ h => by cases h⟩
theorem r9head_spec (base : Int) (snap : Bs) (hb : I64 base) (hs : snap.length ≤ 2147483648) : Fn Tryz.prog 89 #[vint base, vstr snap] [] fun v L => ∃ b c, v = .slice (some ⟨b, 0, none⟩) (headL base snap).length c ∧ L = [strR v (headL base snap)] := by
 refine Fn.intro Tryz.func89 rfl rfl fun F W => ?_
 have hz : (numB base).length ≤ 10 := sev_len10 (zig_lt hb)
 have hc10 : (cntB snap.length).length ≤ 10 := sev_len10 (by unfold U64; omega)
 refine .sr (.an rfl (.sm rfl (.cv Tryz.func149 [_] (r1num_spec base hb) ?_)))
 refine .m rfl (.q (.strlen rfl Tryz.underlying9 rfl) rfl (.cv Tryz.func98 [_] (r1cnt_spec snap.length (by omega)) ?_))
 refine .q (.concat rfl rfl (by omega)) rfl (.oq (.buildSlice1 (vs := [_]) el_39 ze_9 rfl rfl rfl rfl rfl (by decide)) ?_)
 rintro v L' ⟨b4, rfl, rfl⟩
 refine .a rfl (.nil (.slMake (b := b4) (n := 1) (c := 1) (xs := strs [headB base snap.length]) (by repeat' constructor) (by decide) (by simp) rfl (.then_n (.seq (.block (.loopK (ι := Bs × Value × (List Bs)) (fun q E => (1, vstr q.1) :: (5, q.2.1) :: E) (fun q => [strR q.2.1 q.2.2]) (fun q => q.2.2 ++ chunkL q.1 = headL base snap ∧ q.2.2.length + q.1.length ≤ 1 + snap.length ∧ ∃ b c, q.2.1 = .slice (some ⟨b, 0, none⟩) q.2.2.length c) (fun q => q.1.length) (snap, .slice (some ⟨b4, 0, none⟩) 1 1, [headB base snap.length]) (ts := [4]) (.cons rfl (.nil)) (⟨rfl, by dsimp only [List.length_cons, List.length_nil]; omega, b4, 1, rfl⟩) ⟨rfl, rfl, rfl, trivial⟩ (by repeat' constructor) ?_))))))
 rintro ⟨t, u, l⟩ ⟨hl, hlt, bu, cu, hu⟩
 dsimp only
 dsimp only at hl hlt hu
 subst hu
 refine .seq (.sm rfl (.u (.strne rfl rfl) (.nt (.condN rfl (fun h15 => ?_) (fun h15 => ?_)))))
 ·have ht : 0 < t.length := List.length_pos_iff.2 (by simpa using h15)
  refine .sk (.block (.sm rfl (.q (.strlen rfl Tryz.underlying9 rfl) rfl (.q (.as (v' := vint ((min 4000 t.length : Nat) : Int)) (by congr 1; omega) (.min2 rfl rfl)) rfl (.an rfl (.sm rfl (.m rfl (.m rfl (.q (.to (v' := vstr (t.take 4000)) (.strTo rfl rfl Tryz.underlying9 (by omega)) (by simp only [Int.toNat_natCast, take_min])) rfl (.oq (.buildSlice1 (vs := [_]) el_39 ze_9 rfl rfl rfl rfl rfl (by decide)) ?_))))))))))
  rintro v L' ⟨b8, rfl, rfl⟩
  refine .oq (.shaped1 (k := l.length + 1) ?hk22 (.append1 rfl rfl rfl el_39 ze_9 rfl rfl ?h123 ?h224 (Nat.le_refl _) ?h325 (by decide))) ?_
  case hk22 => omega
  case h123 => (first | (simp [isCell]; done) | (simp [isCell, setAll, Value.cells]; done))
  case h224 => rfl
  case h325 => omega
  rintro v L' ⟨b7, c7, rfl, rfl⟩
  refine .an rfl (.region (.m rfl (.m rfl (.q (.to (v' := vstr (t.drop 4000)) (.strFrom rfl rfl Tryz.underlying9 (by omega)) (by simp only [Int.toNat_natCast, drop_min])) rfl (.a rfl (.nil (.blk_n (.then_n (.slCast (T := 9) (sz := 1) (m' := (l ++ [t.take 4000]).length) (xs' := strs (l ++ [t.take 4000])) (by repeat' constructor) (by simp) (by simp [strs, Value.cells]) ?_)))))))))
  exact .rk ((t.drop 4000, .slice (some ⟨b7, 0, none⟩) (l.length + 1) c7, l ++ [t.take 4000])) (⟨by dsimp only; rw [List.append_assoc, List.singleton_append, ← chunk_cons h15]; exact hl, by dsimp only; rw [List.length_append, List.length_drop, List.length_singleton]; omega, b7, c7, by simp⟩) (by dsimp only; rw [List.length_drop]; omega) ⟨rfl, rfl, rfl, trivial⟩
 have ht : t = [] := by simpa using h15
 subst ht
 rw [chunk_nil', List.append_nil] at hl
 subst hl
 refine .exit (.then_e (.then_e (.blk_e (.then_n (.sm rfl (.an rfl (.ret ?_)))))))
 exact .dn rfl rfl ⟨_, _, rfl, rfl⟩
theorem r4format_spec (x : Nat) (δ : Dk) (hA : δ.acts + 10 < 4611686018427387904) : Fn Tryz.prog 87 #[vptr x] [dsR x δ] fun v L => ((formatZ δ).2 = none ∧ v = .tuple #[.pointer none, vint 2] ∧ L = [dsR x (formatZ δ).1]) ∨
    ((formatZ δ).2 = some newW ∧ ∃ w, v = .tuple #[vptr w, vint 0] ∧ L = [dsR x (formatZ δ).1, rlR w x newW]) := by
 refine Fn.intro Tryz.func87 rfl rfl fun F W => ?_
 have k1 := write_keeps δ 0 zs
 have k2 := write_keeps (δ.write 0 zs).1 1 mark1.sec
 refine .sr (.a rfl (.an rfl (.seq (.sm rfl (.q (.ptreq rfl rfl Tryz.underlying26) rfl (.nt (.condF rfl (.sk (.seq (.seq (.add (slR_nil 9 1) (.region (.m rfl (.cv Tryz.func84 [] (zeros_spec) ?_))))))))))))))
 refine .cv Tryz.func140 [_, _, _] (dswrite_spec x δ 0 zs (by omega)) ?_
 refine .ui rfl rfl rfl (.m rfl (.ndec (t := 10) rfl (fun h3_10 => ?_) (fun h3_10 => ?_)))
 ·refine .kNT (t := 9) rfl h3_10 (.gk (.gk (.gk (.gk (.u (.pickT rfl rfl) (.m rfl (.gk (.gk (.gk (.u (.pickT rfl rfl) (.nt (.condT rfl (.sr (.a rfl (.an rfl (.rt ?_))))))))))))))))
  have hF : formatZ δ = ((fmtZ δ 1).1, none) := by unfold formatZ; rw [if_pos (show (fmtZ δ 1).2 ≠ 0 from h3_10)]
  rw [hF]
  exact .dn rfl rfl (.inl ⟨rfl, rfl, rfl⟩)
 refine .kNF (t := 9) rfl h3_10 (.grun (t := 10) rfl rfl rfl (.m rfl (.grun (t := 10) rfl rfl rfl (.oq (.c Tryz.func141 [_, _, _, _, _] (rmark4_spec 1 0 0 0 (.slice none 0 0) [] (strR (.slice none 0 0) []) (fun h hp => slR_rd hp) (by decide) (by decide) (by decide) (by decide) (by decide))) ?_))))
 rintro v L' ⟨rfl, rfl⟩; rw [show (⟨1, 0, ((laidZ []).length : Nat), (([] : List Bs).length : Nat), 0, 0⟩ : Mk) = mark1 from rfl]
 refine .grun (t := 10) rfl rfl rfl (.cv Tryz.func140 [_, _, _] (dswrite_spec x (δ.write 0 zs).1 1 mark1.sec (by omega)) ?_)
 refine .grun (t := 10) rfl rfl rfl (.ui rfl rfl rfl (.u (.pickF rfl rfl) (.m rfl (.ndec (t := 16) rfl (fun h3_16 => ?_) (fun h3_16 => ?_)))))
 ·refine .kNT (t := 14) rfl h3_16 (.kNT (t := 15) rfl h3_16 (.gk (.gk (.gk (.u (.pickT rfl rfl) (.nt (.condT rfl (.sr (.a rfl (.an rfl (.rt ?_)))))))))))
  have hF : formatZ δ = ((fmtZ δ 2).1, none) := by unfold formatZ; rw [if_neg (fun g => g (show (fmtZ δ 1).2 = 0 from h3_10)), if_pos (show (fmtZ δ 2).2 ≠ 0 from h3_16)]
  rw [hF]
  exact .dn rfl rfl (.inl ⟨rfl, rfl, rfl⟩)
 refine .kNF (t := 14) rfl h3_16 (.kNF (t := 15) rfl h3_16 (.grun (t := 16) rfl rfl rfl (.m rfl (.grun (t := 16) rfl rfl rfl (.cv Tryz.func142 [_] (dssync_spec x ((δ.write 0 zs).1.write 1 mark1.sec).1 (by omega)) ?_)))))
 refine .grun (t := 16) rfl rfl rfl (.ui rfl rfl rfl (.u (.pickF rfl rfl) (.nt (.condN rfl (fun h20 => ?_) (fun h20 => ?_)))))
 ·refine .sr (.a rfl (.an rfl (.rt ?_)))
  have hF : formatZ δ = ((fmtZ δ 3).1, none) := by unfold formatZ; rw [if_neg (fun g => g (show (fmtZ δ 1).2 = 0 from h3_10)), if_neg (fun g => g (show (fmtZ δ 2).2 = 0 from h3_16)), if_pos (show (fmtZ δ 3).2 ≠ 0 from h20)]
  rw [hF]
  exact .dn rfl rfl (.inl ⟨rfl, rfl, rfl⟩)
 refine .sk (.sm rfl (.q (.to (v' := .agg [vptr x, .slice none 0 0, vint 0, vint 0, vint 1, vint 0, vint 0, .bool false].toArray) (.build (us := [(0, _), (4, _)]) fl_185 ze_185 rfl rfl (by simp [isCell])) rfl) rfl (.oq (.box rfl) ?_)))
 rintro v L' ⟨w, rfl, rfl⟩
 refine .a rfl (.an rfl (.ret ?_))
 have hF : formatZ δ = ((fmtZ δ 3).1, some newW) := by unfold formatZ; rw [if_neg (fun g => g (show (fmtZ δ 1).2 = 0 from h3_10)), if_neg (fun g => g (show (fmtZ δ 2).2 = 0 from h3_16)), if_neg (fun g => g (show (fmtZ δ 3).2 = 0 from h20))]
 rw [hF]
 refine .rlFold (y := w) (x := x) (ω := newW) (v := .slice none 0 0) (by repeat' constructor) rfl rfl rfl ?_
 exact .dn rfl rfl (.inr ⟨rfl, w, rfl, rfl⟩)
/- not in this seat -/
/- not in this seat: r4open_spec -/
theorem r9format_spec (x : Nat) (δ : Dk) (hA : δ.acts + 10 < 4611686018427387904) (hI : WlI (formatZ δ).1 newW) (hI1 : WlI (lgF1 δ).1 (lgF1 δ).2.1) (hab : (0 ≤ (lgF1 δ).2.1.a ∧ (lgF1 δ).2.1.a ≤ 9223372036854775807) ∧ (0 ≤ (lgF1 δ).2.1.b ∧ (lgF1 δ).2.1.b ≤ 9223372036854775807)) : Fn Tryz.prog 49 #[vptr x] [dsR x δ] fun v L => ((lgFormat δ).2 = none ∧ v = .tuple #[.pointer none, vint 2] ∧ L = [dsR x (lgFormat δ).1]) ∨
    (∃ ω y w, (lgFormat δ).2 = some ω ∧ v = .tuple #[vptr y, vint 0] ∧ L = [rgR y w lg0, rlR w x ω, dsR x (lgFormat δ).1]) := by
 refine Fn.intro Tryz.func49 rfl rfl fun F W => ?_
 refine .sr (.a rfl (.an rfl (.seq (.sm rfl (.q (.ptreq rfl rfl Tryz.underlying26) rfl (.nt (.condF rfl (.sk (.sm rfl (.oq (.c Tryz.func87 [_] (r4format_spec x δ hA)) ?_))))))))))
 rintro v L' (⟨hf, rfl, rfl⟩ | ⟨hf, w, rfl, rfl⟩)
 ·refine .m rfl (.u (.extract rfl rfl) (.u (.extract rfl rfl) (.a rfl (.an rfl (.seq (.sm rfl (.q (.as (v' := .bool true) (by rfl) (.int rfl rfl rfl)) rfl (.m rfl (.gk (.gk (.gk (.gk (.gk (.gk (.u (.pickT rfl rfl) (.m rfl (.gk (.gk (.gk (.u (.pickT rfl rfl) (.nt (.condT rfl (.sr (.a rfl (.an rfl (.rt ?_))))))))))))))))))))))))))
  have hr : lgFormat δ = ((formatZ δ).1, none) := by unfold lgFormat; rw [ if_pos (by rw [hf]; rfl)]
  rw [hr]
  exact .dn rfl rfl (.inl ⟨rfl, rfl, rfl⟩)
 refine .m rfl (.u (.extract rfl rfl) (.u (.extract rfl rfl) (.a rfl (.an rfl (.seq (.sm rfl (.q (.as (v' := .bool false) (by rfl) (.int rfl rfl rfl)) rfl (.m rfl (.grun (t := 15) rfl rfl rfl (.m rfl (.grun (t := 15) rfl rfl rfl (.oq (.c Tryz.func89 [_, _] (r9head_spec 0 [] (by decide) (by decide))) ?_))))))))))))
 rintro v L' ⟨ba, ca, rfl, rfl⟩; rw [show headL 0 [] = [headB 0 0] from rfl]; dsimp only [List.length_cons, List.length_nil]
 refine .grun (t := 15) rfl rfl rfl (.q (.indexAddr rfl rfl el_39 (by omega)) rfl (.grun (t := 15) rfl rfl rfl (.q (.loadEl (p := strR (.slice (some ⟨ba, 0, none⟩) (0 + 1) ca) [headB 0 0]) (i := 0) (v := vstr (headB 0 0)) rfl ag_9 (by repeat' constructor) (fun h hp => slR_rd hp) rfl) rfl (.grun (t := 15) rfl rfl rfl (.oq (.c Tryz.func88 [_, _] (rappend_spec w x newW (formatZ δ).1 (headB 0 0) hI (by rw [hd00]; decide))) ?_)))))
 rintro v L' ⟨rfl, rfl⟩; rw [show appendZ (formatZ δ).1 newW (headB 0 0) = lgF1 δ from rfl]
 refine .grun (t := 15) rfl rfl rfl (.ui rfl rfl rfl (.u (.pickF rfl rfl) (.m rfl (.ndec (t := 23) rfl (fun h4_23 => ?_) (fun h4_23 => ?_)))))
 ·refine .kNT (t := 21) rfl h4_23 (.kNT (t := 22) rfl h4_23 (.gk (.gk (.gk (.u (.pickT rfl rfl) (.nt (.condT rfl (.sr (.a rfl (.an rfl (.rt ?_)))))))))))
  have hr : lgFormat δ = ((lgF1 δ).1, none) := by unfold lgFormat; rw [if_neg (by rw [hf]; decide),  if_pos h4_23]
  rw [hr]
  exact .dn rfl rfl (.inl ⟨rfl, rfl, rfl⟩)
 refine .kNF (t := 21) rfl h4_23 (.kNF (t := 22) rfl h4_23 (.grun (t := 23) rfl rfl rfl (.m rfl (.grun (t := 23) rfl rfl rfl (.oq (.c Tryz.func90 [_] (rlsync_spec w x (lgF1 δ).2.1 (lgF1 δ).1 hI1 hab)) ?_)))))
 rintro v L' ⟨rfl, rfl⟩; rw [show syncZ (lgF1 δ).1 (lgF1 δ).2.1 = lgF2 δ from rfl]
 refine .grun (t := 23) rfl rfl rfl (.ui rfl rfl rfl (.u (.pickF rfl rfl) (.nt (.condN rfl (fun h27 => ?_) (fun h27 => ?_)))))
 ·refine .sr (.a rfl (.an rfl (.rt ?_)))
  have hr : lgFormat δ = ((lgF2 δ).1, none) := by unfold lgFormat; rw [if_neg (by rw [hf]; decide), if_neg (fun g => g h4_23),  if_pos h27]
  rw [hr]
  exact .dn rfl rfl (.inl ⟨rfl, rfl, rfl⟩)
 refine .sk (.sm rfl (.q (.to (v' := .agg [vptr w, vint 0, vstr [], .slice none 0 0, vint 0, vint 0, .bool false].toArray) (.build (us := [(0, _)]) fl_64 ze_64 rfl rfl (by simp [isCell])) rfl) rfl (.oq (.box rfl) ?_)))
 rintro v L' ⟨y, rfl, rfl⟩
 refine .a rfl (.an rfl (.ret ?_))
 have hr : lgFormat δ = ((lgF2 δ).1, some (lgF2 δ).2.1) := by unfold lgFormat; rw [if_neg (by rw [hf]; decide), if_neg (fun g => g h4_23),  if_neg (fun g => g h27)]
 rw [hr]
 refine .add (slR_nil 75 11) (.add (p := bigR entR []) (fun h => big_nil h) (.rg (y := y) (w := w) lg0 none 0 [] (EsOf.nil rfl rfl) ?_))
 exact .dn rfl rfl (.inr ⟨_, y, w, rfl, rfl, rfl⟩)
theorem pick18_spec  (c n : Int) (hc : -9223372036854775808 ≤ c ∧ c ≤ 9223372036854775807) (hn : 0 < n) : Fn Tryz.prog 11 #[vint c, vint n] [] fun v L => v = vint (pickZ c n) ∧ L = [] := by
 refine Fn.intro Tryz.func11 rfl rfl fun F W => ?_
 refine .sr (.an rfl (.seq (.sm rfl (.ui rfl rfl rfl (.nt (.condD rfl (fun h6 => ?_) (fun h6 => ?_)))))))
 ·refine .region (.m rfl (.q (.add rfl rfl (by omega)) rfl (.q (.neg rfl (by omega)) rfl (.an rfl (.sm rfl (.m rfl (.q (.remE rfl rfl (by omega) (by omega)) rfl (.an rfl (.ret ?_)))))))))
  have e : pickZ c n = (-(c + 1)) % n := by unfold pickZ; rw [if_pos h6]
  rw [e]
  exact .vv
 refine .sk (.sm rfl (.m rfl (.q (.remE rfl rfl (by omega) (by omega)) rfl (.an rfl (.ret ?_)))))
 have e : pickZ c n = (c) % n := by unfold pickZ; rw [if_neg h6]
 rw [e]
 exact .vv
theorem ledgers_spec : Fn Tryz.prog 7 #[] [] fun v L => ∃ d g x xr y w, v = .tuple #[vptr d, vptr g, vptr xr, vptr y, .bool true] ∧ L = [lgR g x lg0, wlR x d fa0.ω, dkR d fa0.δ, rgR y w lg0, rlR w xr fa0.ω, dsR xr fa0.δ] := by
 refine Fn.intro Tryz.func7 rfl rfl fun F W => ?_
 have hnl : (Dk.new 512).now.length = 512 := new_len 512
 have hs : 2 ≤ (Dk.new 512).now.length ∧ (Dk.new 512).now.length ≤ 32768 := by rw [hnl]; decide
 have hac : (Dk.new 512).acts = 0 := rfl
 have hrn : Rel (Dk.new 512) (Rk.new 512) := Rel.new 512 (by decide)
 obtain ⟨ωf, hf0⟩ := (fa0_K 0).1
 obtain ⟨hf1, ⟨hf2a, hf2b⟩, hf3, hf4, hf5⟩ := format_k (N := 0) hs (by omega)
 have hw0 := newW_k (N := 0) hs (by omega)
 have hfo := hf0
 obtain rfl := lgFormat_some hf0
 refine .sr (.a rfl (.a rfl (.a rfl (.a rfl (.an rfl (.sr (.oq (.c Tryz.func46 [_] (new_spec 512)) ?_)))))))
 rintro v L' (⟨h, -, -⟩ | ⟨-, d, rfl, rfl⟩); · omega
 refine .m rfl (.u (.extract rfl rfl) (.u (.extract rfl rfl) (.a rfl (.an rfl (.sr (.oq (.c Tryz.func47 [_] (rnew_spec 512)) ?_))))))
 rintro v L' (⟨h, -, -⟩ | ⟨-, xr, rfl, rfl⟩); · omega
 refine .m rfl (.u (.extract rfl rfl) (.u (.extract rfl rfl) (.a rfl (.a rfl (.nil (.dsFold (x := xr) (δ := (Dk.new 512)) (by repeat' constructor) hrn (by show (0 : Int) ≤ 0; decide) (.then_n (.seq (.sm rfl (.q (.as (v' := .bool false) (by rfl) (.ptreq rfl rfl Tryz.underlying24)) rfl (.m rfl (.grun (t := 21) rfl rfl rfl (.m rfl (.grun (t := 21) rfl rfl rfl (.q (.as (v' := .bool false) (by rfl) (.int rfl rfl rfl)) rfl (.u (.pickF rfl rfl) (.m rfl (.grun (t := 25) rfl rfl rfl (.m rfl (.grun (t := 25) rfl rfl rfl (.q (.as (v' := .bool false) (by rfl) (.int rfl rfl rfl)) rfl (.u (.pickF rfl rfl) (.nt (.condF rfl (.sk (.sm rfl (.oq (.c Tryz.func48 [_] (lformat_spec d (Dk.new 512) (by decide) (hw0.i (by decide)) (hf1.i (by decide)))) ?_)))))))))))))))))))))))))))
 rintro v L' (⟨h, -, -⟩ | ⟨ω1, g, x, hw1, rfl, rfl⟩); · rw [hfo] at h; cases h
 rw [hfo] at hw1; cases hw1
 refine .m rfl (.u (.extract rfl rfl) (.u (.extract rfl rfl) (.a rfl (.an rfl (.sm rfl (.oq (.c Tryz.func49 [_] (r9format_spec xr (Dk.new 512) (by decide) (hw0.i (by decide)) (hf1.i (by decide)) (by rw [hf2a, hf2b]; decide))) ?_))))))
 rintro v L' (⟨h, -, -⟩ | ⟨ω1, y, w, hw1, rfl, rfl⟩); · rw [hfo] at h; cases h
 rw [hfo] at hw1; cases hw1
 refine .m rfl (.u (.extract rfl rfl) (.u (.extract rfl rfl) (.a rfl (.an rfl (.sm rfl (.m rfl (.m rfl (.m rfl (.m rfl (.q (.as (v' := .bool true) (by rfl) (.ptrne rfl rfl Tryz.underlying25)) rfl (.m rfl (.grun (t := 45) rfl rfl rfl (.m rfl (.grun (t := 45) rfl rfl rfl (.q (.as (v' := .bool true) (by rfl) (.int rfl rfl rfl)) rfl (.u (.pickT rfl rfl) (.m rfl (.grun (t := 49) rfl rfl rfl (.m rfl (.grun (t := 49) rfl rfl rfl (.q (.as (v' := .bool true) (by rfl) (.int rfl rfl rfl)) rfl (.u (.pickT rfl rfl) (.a rfl (.a rfl (.a rfl (.a rfl (.an rfl (.ret ?_))))))))))))))))))))))))))))
 exact .doneT5 rfl rfl rfl rfl rfl rfl ⟨d, g, x, xr, y, w, rfl, rfl⟩ (by repeat' constructor) (by repeat' constructor)
theorem awake18_spec : Fn Tryz.prog 6 #[] [] fun v L => v = .bool true ∧ L = [] := by
 refine Fn.intro Tryz.func6 rfl rfl fun F W => ?_
 obtain ⟨hk1, hk2⟩ := fr_K
 have hk0 := (fa0_K 2).2
 obtain ⟨⟨m1, hm1, hq1⟩, ⟨m2, hm2, hq2⟩, hq3⟩ := fr_one
 have hl2 : fr1.1.ld = 2 := by kernel_rfl
 refine .add (p := anyP) (fun _ => trivial) (.sr (.an rfl (.sr (.oq (.c Tryz.func7 [] (ledgers_spec)) ?_))))
 rintro v L' ⟨d, g, x, xr, y, w, rfl, rfl⟩; rw [show (lg0 : Lg) = fa0.Λ from rfl]
 refine .m rfl (.u (.extract rfl rfl) (.u (.extract rfl rfl) (.u (.extract rfl rfl) (.u (.extract rfl rfl) (.u (.extract rfl rfl) (.a rfl (.a rfl (.a rfl (.a rfl (.an rfl (.seq (.sm rfl (.q (.as (v' := .bool false) (by rfl) (.not rfl)) rfl (.nt (.condF rfl (.sk (.sm rfl (.oq (.c Tryz.func8 [_, _] (fnew_spec 2 g)) ?_))))))))))))))))))
 rintro v L' ⟨f, rfl, rfl⟩; rw [show (⟨2, 0, 0, 0, 0, []⟩ : Fw) = ff0 2 from rfl]
 refine .an rfl (.seq (.sm rfl (.q (.as (v' := .bool false) (by rfl) (.ptreq rfl rfl Tryz.underlying30)) rfl (.nt (.condF rfl (.sk (.sm rfl (.q (.to (v' := .agg (msC (ms0 2 3)).toArray) (.buildN (pl := [(0, 1), (1, 1), (2, 1), (3, 1), (4, 1), (5, 1), (6, 1), (7, 1), (8, 10), (18, 1)]) (us := [(0, _), (1, _)]) (cells := msC (ms0 2 3)) Tryz.underlying41 (by kernel_rfl) ze_41 rfl rfl) rfl) rfl (.oq (.call Tryz.func13 rfl rfl (vs := [_, _]) rfl (fhear_spec f g x d (ff0 2) fa0.δ fa0.ω fa0.Λ (ms0 2 3) anyP _ (ms0_A (by decide) (by decide)) hk0.l (by decide))) ?_)))))))))
 rintro v L' ⟨a1, c1, rfl, rfl⟩; rw [show hearF (ff0 2) ⟨fa0.δ, fa0.ω, fa0.Λ⟩ (ms0 2 3) = fr1 from rfl]
 refine .a rfl (.nil ?_)
 rw [hm1, show onN (some m1) = 1 from rfl, show (ff0 2).ld = 2 from rfl]
 refine .then_n (.sm rfl (.q (.to (v' := .agg (msC (ms0 4 3)).toArray) (.buildN (pl := [(0, 1), (1, 1), (2, 1), (3, 1), (4, 1), (5, 1), (6, 1), (7, 1), (8, 10), (18, 1)]) (us := [(0, _), (1, _)]) (cells := msC (ms0 4 3)) Tryz.underlying41 (by kernel_rfl) ze_41 rfl rfl) rfl) rfl (.oq (.call Tryz.func13 rfl rfl (vs := [_, _]) rfl (fhear_spec f g x d fr1.1 fr1.2.1.δ fr1.2.1.ω fr1.2.1.Λ (ms0 4 3) anyP _ (ms0_A (by decide) (by decide)) hk1.l (by decide))) ?_)))
 rintro v L' ⟨a2, c2, rfl, rfl⟩; rw [show hearF fr1.1 ⟨fr1.2.1.δ, fr1.2.1.ω, fr1.2.1.Λ⟩ (ms0 4 3) = fr2 from rfl]
 refine .a rfl (.nil ?_)
 rw [hm2, show onN (some m2) = 1 from rfl]
 refine .then_n (.sm rfl (.q (.to (v' := .agg (msC (ms0 6 0)).toArray) (.buildN (pl := [(0, 1), (1, 1), (2, 1), (3, 1), (4, 1), (5, 1), (6, 1), (7, 1), (8, 10), (18, 1)]) (us := [(0, _)]) (cells := msC (ms0 6 0)) Tryz.underlying41 (by kernel_rfl) ze_41 rfl rfl) rfl) rfl (.oq (.call Tryz.func13 rfl rfl (vs := [_, _]) rfl (fhear_spec f g x d fr2.1 fr2.2.1.δ fr2.2.1.ω fr2.2.1.Λ (ms0 6 0) anyP _ (ms0_A (by decide) (by decide)) hk2.l (by decide))) ?_)))
 rintro v L' ⟨a3, c3, rfl, rfl⟩; rw [show hearF fr2.1 ⟨fr2.2.1.δ, fr2.2.1.ω, fr2.2.1.Λ⟩ (ms0 6 0) = fr3 from rfl]
 refine .nt (.seq (.outOpen (v := .slice a1 1 c1) (ld := 2) (m := m1) (by repeat' constructor) fun mv1 => (.slShape (T := 94) (sz := 20) (v := .slice a1 1 c1) (by repeat' constructor) (by decide) fun b1 c1' e0 mb1 _ => ?_)))
 simp only [Value.slice.injEq, true_and] at e0
 obtain ⟨rfl, rfl⟩ := e0
 refine .outOpen (v := .slice a2 1 c2) (ld := fr1.1.ld) (m := m2) (by repeat' constructor) fun mv2 => (.slShape (T := 94) (sz := 20) (v := .slice a2 1 c2) (by repeat' constructor) (by decide) fun b2 c2' e0 mb2 _ => ?_)
 simp only [Value.slice.injEq, true_and] at e0
 obtain ⟨rfl, rfl⟩ := e0
 refine .region (.m rfl (.q (.slen rfl Tryz.underlying45 rfl) rfl (.q (.as (v' := .bool true) (by rfl) (.int rfl rfl rfl)) rfl (.m rfl (.grun (t := 34) rfl rfl rfl (.m rfl (.grun (t := 34) rfl rfl rfl (.q (.indexAddr rfl rfl el_45 (by omega)) rfl (.grun (t := 34) rfl rfl rfl (.u (.fieldAddr rfl fo_94_1) (.grun (t := 34) rfl rfl rfl (.u (.fieldAddr rfl fo_41_0) (.grun (t := 34) rfl rfl rfl (.q (.loadRd (sz := 20) (j := 0 * 20 + 1) (p := outT (.slice (some ⟨b1, 0, none⟩) 1 c1) 2 m1 mv1) (v := vint m1.kind) rfl ag_3 (by repeat' constructor) (fun h hp => slR_rd hp) (by omega) rfl) rfl (.grun (t := 34) rfl rfl rfl (.q (.as (v' := .bool true) (by exact congrArg Value.bool (decide_eq_true hq1)) (.int rfl rfl rfl)) rfl (.u (.pickT rfl rfl) (.m rfl (.grun (t := 42) rfl rfl rfl (.m rfl (.grun (t := 42) rfl rfl rfl (.q (.indexAddr rfl rfl el_45 (by omega)) rfl (.grun (t := 42) rfl rfl rfl (.u (.fieldAddr rfl fo_94_0) (.grun (t := 42) rfl rfl rfl ?_)))))))))))))))))))))))))
 refine .q (.loadRd (sz := 20) (j := 0) (p := outT (.slice (some ⟨b1, 0, none⟩) 1 c1) 2 m1 mv1) (v := vint 2) rfl ag_3 (by repeat' constructor) (fun h hp => slR_rd hp) (by omega) rfl) rfl (.grun (t := 42) rfl rfl rfl (.q (.as (v' := .bool true) (by rfl) (.int rfl rfl rfl)) rfl (.u (.pickT rfl rfl) (.m rfl (.grun (t := 49) rfl rfl rfl (.m rfl (.grun (t := 49) rfl rfl rfl (.q (.slen rfl Tryz.underlying45 rfl) rfl (.grun (t := 49) rfl rfl rfl (.q (.as (v' := .bool true) (by rfl) (.int rfl rfl rfl)) rfl (.u (.pickT rfl rfl) (.m rfl (.grun (t := 54) rfl rfl rfl (.m rfl (.grun (t := 54) rfl rfl rfl (.q (.indexAddr rfl rfl el_45 (by omega)) rfl (.grun (t := 54) rfl rfl rfl (.u (.fieldAddr rfl fo_94_1) (.grun (t := 54) rfl rfl rfl (.u (.fieldAddr rfl fo_41_0) (.grun (t := 54) rfl rfl rfl (.q (.loadRd (sz := 20) (j := 0 * 20 + 1) (p := outT (.slice (some ⟨b2, 0, none⟩) 1 c2) fr1.1.ld m2 mv2) (v := vint m2.kind) rfl ag_3 (by repeat' constructor) (fun h hp => slR_rd hp) (by omega) rfl) rfl ?_))))))))))))))))))))))
 refine .grun (t := 54) rfl rfl rfl (.q (.as (v' := .bool true) (by exact congrArg Value.bool (decide_eq_true hq2)) (.int rfl rfl rfl)) rfl (.u (.pickT rfl rfl) (.m rfl (.grun (t := 62) rfl rfl rfl (.m rfl (.grun (t := 62) rfl rfl rfl (.oq (.c Tryz.func15 [_] (fup_spec f g fr3.1)) ?_)))))))
 rintro v L' ⟨rfl, rfl⟩; rw [decide_eq_true hq3]
 refine .u (.pickT rfl rfl) (.an rfl (.ret ?_))
 exact .vv
theorem last_i64 {Λ : Lg} (h : LgW Λ) : I64 (lastZ Λ) := by
 have hb := h.base
 unfold lastZ
 rcases hg : Λ.zxs.getLast? with _ | z
 ·exact ⟨by show _ ≤ Λ.base; omega, hb.2⟩
 ·exact h.rows.i64 z (List.mem_of_getLast? hg)
theorem followKeeps_spec (v0 : Value) (xs : List St18) (p : HP) (hx : Sts18 p v0 xs) : Fn Tryz.prog 3 #[v0] [p] fun v L => v = .bool true ∧ L = [p] := by
 refine Fn.intro Tryz.func3 rfl rfl fun F W => ?_
 have hcells := hx.cells
 have hel := hx.len
 refine .rdAny (p := p) hcells (by repeat' constructor) fun a0 c0 e _ => ?_
 subst e
 have hk0 := (fa0_K 2).2
 refine .sr (.an rfl (.sr (.cv Tryz.func6 [] (awake18_spec) ?_)))
 refine .an rfl (.sr (.oq (.c Tryz.func7 [] (ledgers_spec)) ?_))
 rintro v L' ⟨d, g, x, xr, y, w, rfl, rfl⟩; rw [show (lg0 : Lg) = fa0.Λ from rfl]
 refine .m rfl (.u (.extract rfl rfl) (.u (.extract rfl rfl) (.u (.extract rfl rfl) (.u (.extract rfl rfl) (.u (.extract rfl rfl) (.a rfl (.a rfl (.a rfl (.a rfl (.an rfl (.seq (.sm rfl (.u (.not rfl) (.m rfl (.grun (t := 27) rfl rfl rfl (.m rfl (.grun (t := 27) rfl rfl rfl (.u (.not rfl) (.u (.pickF rfl rfl) (.nt (.condF rfl (.sk (.sm rfl (.oq (.c Tryz.func8 [_, _] (fnew_spec 2 g)) ?_))))))))))))))))))))))))
 rintro v L' ⟨f, rfl, rfl⟩; rw [show (⟨2, 0, 0, 0, 0, []⟩ : Fw) = ff0 2 from rfl]
 refine .an rfl (.seq (.sm rfl (.q (.as (v' := .bool false) (by rfl) (.ptreq rfl rfl Tryz.underlying30)) rfl (.nt (.condF rfl (.sk (.sr (.an rfl (.sr (.an rfl (.seq (.sr (.an rfl (.block (.loopK (ι := Nat × Fw × Ld) (fun q E => (12, vint q.1) :: (10, vint q.2.1.com) :: (11, vint q.2.2.Λ.acc) :: E) (fun q => [fwR f g q.2.1, lgR g x q.2.2.Λ, wlR x d q.2.2.ω, dkR d q.2.2.δ]) (fun q => q.1 ≤ xs.length ∧ q.1 ≤ 200 ∧ FwK q.2.1 q.2.2 (6000000 + (q.1 : Int) * 3000000000000) (q.1 * 1048576)) (fun q => xs.length - q.1) (0, ff0 2, fa0) (ts := [0, 5, 9]) (.cons rfl (.cons rfl (.cons rfl (.nil)))) (⟨Nat.zero_le _, Nat.zero_le _, ⟨hk0.l.more (by dsimp only; omega), ⟨hk0.i.sil, Nat.zero_le _⟩, hk0.cur, hk0.up, hk0.zero⟩⟩) ⟨rfl, rfl, rfl, rfl, rfl, rfl, trivial⟩ (by repeat' constructor) ?_)))))))))))))))
 rintro ⟨i, Φ, s⟩ ⟨hi, hi1, hK⟩
 dsimp only
 dsimp only at hi hi1 hK
 refine .seq (.sm rfl (.m rfl (.q (.slen rfl Tryz.underlying22 rfl) rfl (.ui rfl rfl rfl (.m rfl (.dec (t := 39) rfl (fun h11_39 => ?_) (fun h11_39 => ?_)))))))
 ·refine .kDT (t := 38) rfl h11_39 (.grun (t := 39) rfl rfl rfl (.m rfl (.grun (t := 39) rfl rfl rfl (.ui rfl rfl rfl (.u (.pickT rfl rfl) (.nt (.condD rfl (fun h42 => ?_) (fun h42 => ?_))))))))
  ·have hi2 : i < xs.length := by omega
   refine .rdShape (p := p) hcells (by repeat' constructor) (by omega) fun ba oa e => ?_
   subst e
   have ho := hx.each _ (List.getElem_mem hi2)
   have hS := step_P hK ho
   have hli := hK.l.w.i
   have hhl := ho.len
   have hhe := hK.i.heard
   refine .sk (.seq (.block (.sm rfl (.m rfl (.q (.indexAddr rfl rfl el_22 (by omega)) rfl (.q (.loadRdA (sz := 22) (j := i * 22) (k := 22) (p := p) (vs := st18C xs[i]) rfl ag_43 (by repeat' constructor) hcells (by simp [st18C, msC]) (by omega) (by omega) (st18_at hi2)) rfl (.oq (.allocA ze_43) ?_)))))))
   rintro v L' ⟨bo, rfl, rfl⟩
   refine .oq (.storeA rfl rfl ?c31 sz_43 ?c34 ?c32 (nfz0 _ _)) ?_
   case c31 => exact st18_cells ho
   case c34 => rfl
   case c32 => simp [st18C, msC]
   rintro v L' rfl
   refine .nil (.ptCast (b := bo) (l' := st18C xs[i]) (by repeat' constructor) (by exact rfl) (.then_n (.sm rfl (.cv Tryz.func9 [_] (llast_spec g x s.Λ hli) ?_))))
   refine .an rfl (.sm rfl (.cv Tryz.func10 [_] (flost_spec f g Φ) ?_))
   refine .an rfl (.sr (.an rfl (.seq (.joinK (ι := (Option Addr) × Nat) (fun q E => (16, .slice q.1 (onN (stepF Φ s xs[i]).2.2) q.2) :: E) (fun q => [fwR f g ((stepF Φ s xs[i])).1, lgR g x ((stepF Φ s xs[i])).2.1.Λ, wlR x d ((stepF Φ s xs[i])).2.1.ω, dkR d ((stepF Φ s xs[i])).2.1.δ, p]) (fun q => True) (pre := [fwR f g Φ, lgR g x s.Λ, wlR x d s.ω, dkR d s.δ, p]) (ts := [0, 5, 9, 10, 11, 12, 13, 14, 15, 35, 36, 37, 38, 39, 40, 41, 42, 45, 46, 47, 48, 49, 50, 51, 52]) (.cons rfl (.cons rfl (.cons rfl (.cons rfl (.cons rfl (.cons rfl (.cons rfl (.cons rfl (.cons rfl (.cons rfl (.cons rfl (.cons rfl (.cons rfl (.cons rfl (.cons rfl (.cons rfl (.cons rfl (.cons rfl (.cons rfl (.cons rfl (.cons rfl (.cons rfl (.cons rfl (.cons rfl (.cons rfl (.nil)))))))))))))))))))))))))) (by repeat' constructor) ?_ ?_))))
   ·refine .sr (.u (.fieldAddr rfl fo_43_0) (.u (.ld rfl ag_3) (.cv Tryz.func11 [_, _] (pick18_spec xs[i].what 8 ho.what (by decide)) ?_)))
    refine .ui rfl rfl rfl (.nt (.condD rfl (fun h56 => ?_) (fun h56 => ?_)))
    ·refine .region (.m rfl (.u (.fieldAddr rfl fo_43_2) (.u (.ld rfl ag_32) (.oq (.call Tryz.func12 rfl rfl (vs := [_, _]) rfl (ftick_spec f g x Φ s.δ s.ω s.Λ xs[i].hv xs[i].heard p _ hK.i (by omega) ho.hd)) ?_))))
     rintro v L' ⟨av, cv, rfl, rfl⟩; rw [show tickF Φ ⟨s.δ, s.ω, s.Λ⟩ xs[i].heard = tickF Φ s xs[i].heard from rfl]
     refine .an rfl ?_
     have hz : (stepF Φ s xs[i]) = ((tickF Φ s xs[i].heard).1, s, (tickF Φ s xs[i].heard).2) := by unfold stepF; rw [if_pos h56]
     rw [hz]
     exact .mk ((av, cv)) (trivial) ⟨rfl, rfl, rfl, rfl, rfl, rfl, rfl, rfl, rfl, rfl, rfl, rfl, rfl, rfl, rfl, rfl, rfl, rfl, rfl, rfl, rfl, rfl, rfl, rfl, rfl, rfl, trivial⟩
    refine .region (.m rfl (.u (.fieldAddr rfl fo_43_3) (.q (.loadAs (vs := msC xs[i].m) rfl ag_41 (by repeat' constructor) (by simp [st18C, msC]) rfl) rfl (.oq (.c Tryz.func13 [_, _] (fhear_spec f g x d Φ s.δ s.ω s.Λ xs[i].m p (6000000 + (i : Int) * 3000000000000) ho.m hK.l (by omega))) ?_))))
    rintro v L' ⟨av, cv, rfl, rfl⟩; rw [show hearF Φ ⟨s.δ, s.ω, s.Λ⟩ xs[i].m = hearF Φ s xs[i].m from rfl]
    refine .an rfl ?_
    have hz : (stepF Φ s xs[i]) = hearF Φ s xs[i].m := by unfold stepF; rw [if_neg h56]
    rw [hz]
    exact .mk ((av, cv)) (trivial) ⟨rfl, rfl, rfl, rfl, rfl, rfl, rfl, rfl, rfl, rfl, rfl, rfl, rfl, rfl, rfl, rfl, rfl, rfl, rfl, rfl, rfl, rfl, rfl, rfl, rfl, rfl, trivial⟩
   rintro ⟨ao, co⟩ _
   dsimp only
   obtain ⟨r, hr⟩ : ∃ r, (stepF Φ s xs[i]) = r := ⟨_, rfl⟩
   rw [hr] at hS ⊢
   have hli2 := hS.p.k.l.w.i
   have heps := hS.p.k.l.w.eps
   have hlz := last_i64 hS.p.k.l.w
   refine .seq (.sm rfl (.m rfl (.dec (t := 66) rfl (fun h20_66 => ?_) (fun h20_66 => ?_))))
   ·refine .kDT (t := 65) rfl h20_66 (.grun (t := 66) rfl rfl rfl (.m rfl (.grun (t := 66) rfl rfl rfl (.q (.slen rfl Tryz.underlying45 rfl) rfl (.grun (t := 66) rfl rfl rfl (.q (.as (v' := .bool false) (by exact congrArg Value.bool (decide_eq_false (by have := (hS.lost h20_66).1; omega))) (.int rfl rfl rfl)) rfl (.grun (t := 66) rfl rfl rfl (.m rfl (.grun (t := 70) rfl rfl rfl (.m rfl (.grun (t := 70) rfl rfl rfl (.cv Tryz.func9 [_] (llast_spec g x r.2.1.Λ hli2) ?_))))))))))))
    refine .grun (t := 70) rfl rfl rfl (.m rfl (.grun (t := 70) rfl rfl rfl (.q (.as (v' := .bool false) (by rw [decide_eq_true (hS.lost h20_66).2.1]; rfl) (.int rfl rfl rfl)) rfl (.grun (t := 66) rfl rfl rfl (.u (.pickF rfl rfl) (.grun (t := 66) rfl rfl rfl (.m rfl (.grun (t := 76) rfl rfl rfl (.m rfl (.grun (t := 76) rfl rfl rfl (.cv Tryz.func10 [_] (flost_spec f g r.1) ?_)))))))))))
    refine .grun (t := 76) rfl rfl rfl (.q (.as (v' := .bool false) (by rw [decide_eq_true (hS.lost h20_66).2.2]; rfl) (.not rfl)) rfl (.grun (t := 66) rfl rfl rfl (.u (.pickF rfl rfl) (.u (.pickT rfl rfl) (.nt (.condF rfl (.sk (.seq (.seq (.draw [] [[0, 1, 2, 3, 4, 5, 6, 7, 8, 9, 10, 11, 12, 13, 14, 15, 16, 17, 18, 19, 20, 21, 22, 23, 24, 25, 26, 27, 28, 29, 30, 31, 32, 33]] mixed (by kernel_rfl) (.go [fwR f g r.1, lgR g x r.2.1.Λ] (by repeat' constructor) (.mv rfl rfl (.m rfl (by kernel_rfl) (.c Tryz.func14 [_] (fcom_spec f g r.1)) (by repeat' constructor) ?_)))))))))))))
    refine D.mv rfl rfl (.kv rfl (.as (v' := .bool false) (by exact congrArg Value.bool (decide_eq_false (Int.not_lt.2 hS.p.com))) (.int rfl rfl rfl)) (.mv rfl rfl (.gv rfl (.move rfl) (.gm (t := 86) rfl rfl rfl (by kernel_rfl) (.c Tryz.func15 [_] (fup_spec f g r.1)) (by repeat' constructor) ?_))))
    refine D.gv rfl (.move rfl) (.dec (t := 89) rfl (fun h22_89 => ?_) (fun h22_89 => ?_))
    ·refine D.kDT (t := 88) rfl h22_89 (.gv rfl (.move rfl) (.gm (t := 89) rfl rfl rfl (by kernel_rfl) (.c Tryz.func14 [_] (fcom_spec f g r.1)) (by repeat' constructor) ?_))
     refine D.gv rfl (.move rfl) (.gm (t := 89) rfl rfl rfl (by kernel_rfl) (.c Tryz.func9 [_] (llast_spec g x r.2.1.Λ hli2)) (by repeat' constructor) ?_)
     refine D.gv rfl (.as (v' := .bool false) (by exact congrArg Value.bool (decide_eq_false (Int.not_lt.2 (hS.p.k.up h22_89)))) (.int rfl rfl rfl)) (.gv rfl (.pickT rfl rfl) (.kv rfl (.pickF rfl rfl) (.mv rfl rfl (.gv rfl (.move rfl) (.gv rfl (.nilp rfl) (.gv rfl (.fieldAddr rfl fo_53_0) (.gm (t := 97) rfl rfl rfl (by kernel_rfl) (.c Tryz.func16 [_] (lacc_spec g x r.2.1.Λ)) (by repeat' constructor) ?_)))))))
     refine D.gv rfl (.move rfl) (.gv rfl (.as (v' := .bool false) (by exact congrArg Value.bool (decide_eq_false (Int.not_lt.2 hS.p.acc))) (.int rfl rfl rfl)) (.kv rfl (.pickF rfl rfl) (.mv rfl rfl (.gv rfl (.move rfl) (.gv rfl (.nilp rfl) (.gv rfl (.fieldAddr rfl fo_53_0) (.gm (t := 105) rfl rfl rfl (by kernel_rfl) (.c Tryz.func17 [_] (lcur_spec g x r.2.1.Λ)) (by repeat' constructor) ?_)))))))
     refine D.gv rfl (.move rfl) (.gv rfl (.nilp rfl) (.gv rfl (.fieldAddr rfl fo_53_0) (.gm (t := 105) rfl rfl rfl (by kernel_rfl) (.c Tryz.func16 [_] (lacc_spec g x r.2.1.Λ)) (by repeat' constructor) ?_)))
     refine D.gv rfl (.as (v' := .bool false) (by exact congrArg Value.bool (decide_eq_false (Int.not_lt.2 heps.2.1))) (.int rfl rfl rfl)) (.kv rfl (.pickF rfl rfl) (.pf (.condF rfl (.sk (.seq (.seq (.draw [] [[0, 1, 2, 3, 4, 5, 6, 7, 8, 9, 10, 11, 12, 13, 14, 15, 16, 17, 18, 19, 20, 21, 22, 23, 24, 25]] mixed (by kernel_rfl) (.go [ptc bo _ _, lgR g x r.2.1.Λ] (by repeat' constructor) (.kv rfl (.fieldAddr rfl fo_43_0) (.kv rfl (.ld rfl ag_3) (.m rfl (by kernel_rfl) (.c Tryz.func11 [_, _] (pick18_spec xs[i].what 8 ho.what (by decide))) (by repeat' constructor) ?_)))))))))))
     refine D.kv rfl (.int rfl rfl rfl) (.mv rfl rfl (.ndec (t := 120) rfl (fun h24_120 => ?_) (fun h24_120 => ?_)))
     ·refine D.kNT (t := 119) rfl h24_120 (.gv rfl (.fieldAddr rfl fo_43_3) (.gv rfl (.fieldAddr rfl fo_41_0) (.gv rfl (.ld rfl ag_3) (.gv rfl (.int rfl rfl rfl) (.kv rfl (.pickT rfl rfl) (.mv rfl rfl (.dec (t := 126) rfl (fun h24_126 => ?_) (fun h24_126 => ?_))))))))
      ·refine D.kDT (t := 124) rfl h24_126 (.kDT (t := 125) rfl h24_126 (.gv rfl (.move rfl) (.gm (t := 126) rfl rfl rfl (by kernel_rfl) (.c Tryz.func9 [_] (llast_spec g x r.2.1.Λ hli2)) (by repeat' constructor) ?_)))
       refine D.gv rfl (.move rfl) (.gv rfl (.int rfl rfl rfl) (.kv rfl (.pickT rfl rfl) (.mv rfl rfl (.ndec (t := 132) rfl (fun h24_132 => ?_) (fun h24_132 => ?_)))))
       ·refine D.kNT (t := 130) rfl h24_132 (.kNT (t := 131) rfl h24_132 (.gv rfl (.move rfl) (.gm (t := 132) rfl rfl rfl (by kernel_rfl) (.c Tryz.func9 [_] (llast_spec g x r.2.1.Λ hli2)) (by repeat' constructor) ?_)))
        refine D.gv rfl (.quo rfl rfl (by decide) (tdiv_i64 hlz)) (.gv rfl (.move rfl) (.gv rfl (.nilp rfl) (.gv rfl (.fieldAddr rfl fo_53_0) (.gm (t := 132) rfl rfl rfl (by kernel_rfl) (.c Tryz.func17 [_] (lcur_spec g x r.2.1.Λ)) (by repeat' constructor) ?_))))
        refine D.gv rfl (.as (v' := .bool false) (by rw [decide_eq_true (hS.pro h24_120 h24_126 h24_132)]; rfl) (.int rfl rfl rfl)) (.kv rfl (.pickT rfl rfl) (.pf (.condF rfl (.sk (.sm rfl (.cv Tryz.func14 [_] (fcom_spec f g r.1) ?_))))))
        refine .an rfl (.region (.m rfl (.nf rfl fo_53_0 (.cv Tryz.func16 [_] (lacc_spec g x r.2.1.Λ) ?_))))
        refine .a rfl (.nil (.blk_n (.then_n (.region (.m rfl (.q (.add rfl rfl (by omega)) rfl (.an rfl ?_)))))))
        exact .rk ((i + 1, r.1, r.2.1)) (⟨by dsimp only; omega, by dsimp only; omega, ⟨hS.p.k.l.more (by dsimp only; omega), ⟨hS.p.k.i.sil, by have := hS.p.k.i.heard; dsimp only; omega⟩, hS.p.k.cur, hS.p.k.up, hS.p.k.zero⟩⟩) (by dsimp only; omega) ⟨rfl, rfl, rfl, rfl, rfl, rfl, trivial⟩
       refine D.kNF (t := 130) rfl h24_132 (.kNF (t := 131) rfl h24_132 (.gz rfl (.gz rfl (.gz rfl (.gz rfl (.gz rfl (.gz rfl (.gz rfl (.gz rfl (.kv rfl (.pickF rfl rfl) (.pf (.condF rfl (.sk (.sm rfl (.cv Tryz.func14 [_] (fcom_spec f g r.1) ?_)))))))))))))))
       refine .an rfl (.region (.m rfl (.nf rfl fo_53_0 (.cv Tryz.func16 [_] (lacc_spec g x r.2.1.Λ) ?_))))
       refine .a rfl (.nil (.blk_n (.then_n (.region (.m rfl (.q (.add rfl rfl (by omega)) rfl (.an rfl ?_)))))))
       exact .rk ((i + 1, r.1, r.2.1)) (⟨by dsimp only; omega, by dsimp only; omega, ⟨hS.p.k.l.more (by dsimp only; omega), ⟨hS.p.k.i.sil, by have := hS.p.k.i.heard; dsimp only; omega⟩, hS.p.k.cur, hS.p.k.up, hS.p.k.zero⟩⟩) (by dsimp only; omega) ⟨rfl, rfl, rfl, rfl, rfl, rfl, trivial⟩
      refine D.kDF (t := 124) rfl h24_126 (.kDF (t := 125) rfl h24_126 (.gz rfl (.gz rfl (.gz rfl (.gz rfl (.kv rfl (.pickF rfl rfl) (.mv rfl rfl (.gz rfl (.gz rfl (.gz rfl (.gz rfl (.gz rfl (.gz rfl (.gz rfl (.gz rfl (.kv rfl (.pickF rfl rfl) (.pf (.condF rfl (.sk (.sm rfl (.cv Tryz.func14 [_] (fcom_spec f g r.1) ?_)))))))))))))))))))))
      refine .an rfl (.region (.m rfl (.nf rfl fo_53_0 (.cv Tryz.func16 [_] (lacc_spec g x r.2.1.Λ) ?_))))
      refine .a rfl (.nil (.blk_n (.then_n (.region (.m rfl (.q (.add rfl rfl (by omega)) rfl (.an rfl ?_)))))))
      exact .rk ((i + 1, r.1, r.2.1)) (⟨by dsimp only; omega, by dsimp only; omega, ⟨hS.p.k.l.more (by dsimp only; omega), ⟨hS.p.k.i.sil, by have := hS.p.k.i.heard; dsimp only; omega⟩, hS.p.k.cur, hS.p.k.up, hS.p.k.zero⟩⟩) (by dsimp only; omega) ⟨rfl, rfl, rfl, rfl, rfl, rfl, trivial⟩
     refine D.kNF (t := 119) rfl h24_120 (.gz rfl (.gz rfl (.gz rfl (.gz rfl (.kv rfl (.pickF rfl rfl) (.mv rfl rfl (.gz rfl (.gz rfl (.gz rfl (.gz rfl (.kv rfl (.pickF rfl rfl) (.mv rfl rfl (.gz rfl (.gz rfl (.gz rfl (.gz rfl (.gz rfl (.gz rfl (.gz rfl (.gz rfl (.kv rfl (.pickF rfl rfl) (.pf (.condF rfl (.sk (.sm rfl (.cv Tryz.func14 [_] (fcom_spec f g r.1) ?_))))))))))))))))))))))))))
     refine .an rfl (.region (.m rfl (.nf rfl fo_53_0 (.cv Tryz.func16 [_] (lacc_spec g x r.2.1.Λ) ?_))))
     refine .a rfl (.nil (.blk_n (.then_n (.region (.m rfl (.q (.add rfl rfl (by omega)) rfl (.an rfl ?_)))))))
     exact .rk ((i + 1, r.1, r.2.1)) (⟨by dsimp only; omega, by dsimp only; omega, ⟨hS.p.k.l.more (by dsimp only; omega), ⟨hS.p.k.i.sil, by have := hS.p.k.i.heard; dsimp only; omega⟩, hS.p.k.cur, hS.p.k.up, hS.p.k.zero⟩⟩) (by dsimp only; omega) ⟨rfl, rfl, rfl, rfl, rfl, rfl, trivial⟩
    refine D.kDF (t := 88) rfl h22_89 (.gz rfl (.gz rfl (.gz rfl (.gz rfl (.gz rfl (.gv rfl (.pickF rfl rfl) (.kv rfl (.pickF rfl rfl) (.mv rfl rfl (.gv rfl (.move rfl) (.gv rfl (.nilp rfl) (.gv rfl (.fieldAddr rfl fo_53_0) (.gm (t := 97) rfl rfl rfl (by kernel_rfl) (.c Tryz.func16 [_] (lacc_spec g x r.2.1.Λ)) (by repeat' constructor) ?_))))))))))))
    refine D.gv rfl (.move rfl) (.gv rfl (.as (v' := .bool false) (by exact congrArg Value.bool (decide_eq_false (Int.not_lt.2 hS.p.acc))) (.int rfl rfl rfl)) (.kv rfl (.pickF rfl rfl) (.mv rfl rfl (.gv rfl (.move rfl) (.gv rfl (.nilp rfl) (.gv rfl (.fieldAddr rfl fo_53_0) (.gm (t := 105) rfl rfl rfl (by kernel_rfl) (.c Tryz.func17 [_] (lcur_spec g x r.2.1.Λ)) (by repeat' constructor) ?_)))))))
    refine D.gv rfl (.move rfl) (.gv rfl (.nilp rfl) (.gv rfl (.fieldAddr rfl fo_53_0) (.gm (t := 105) rfl rfl rfl (by kernel_rfl) (.c Tryz.func16 [_] (lacc_spec g x r.2.1.Λ)) (by repeat' constructor) ?_)))
    refine D.gv rfl (.as (v' := .bool false) (by exact congrArg Value.bool (decide_eq_false (Int.not_lt.2 heps.2.1))) (.int rfl rfl rfl)) (.kv rfl (.pickF rfl rfl) (.pf (.condF rfl (.sk (.seq (.seq (.draw [] [[0, 1, 2, 3, 4, 5, 6, 7, 8, 9, 10, 11, 12, 13, 14, 15, 16, 17, 18, 19, 20, 21, 22, 23, 24, 25]] mixed (by kernel_rfl) (.go [ptc bo _ _, lgR g x r.2.1.Λ] (by repeat' constructor) (.kv rfl (.fieldAddr rfl fo_43_0) (.kv rfl (.ld rfl ag_3) (.m rfl (by kernel_rfl) (.c Tryz.func11 [_, _] (pick18_spec xs[i].what 8 ho.what (by decide))) (by repeat' constructor) ?_)))))))))))
    refine D.kv rfl (.int rfl rfl rfl) (.mv rfl rfl (.ndec (t := 120) rfl (fun h24_120 => ?_) (fun h24_120 => ?_)))
    ·refine D.kNT (t := 119) rfl h24_120 (.gv rfl (.fieldAddr rfl fo_43_3) (.gv rfl (.fieldAddr rfl fo_41_0) (.gv rfl (.ld rfl ag_3) (.gv rfl (.int rfl rfl rfl) (.kv rfl (.pickT rfl rfl) (.mv rfl rfl (.dec (t := 126) rfl (fun h24_126 => ?_) (fun h24_126 => ?_))))))))
     ·refine D.kDT (t := 124) rfl h24_126 (.kDT (t := 125) rfl h24_126 (.gv rfl (.move rfl) (.gm (t := 126) rfl rfl rfl (by kernel_rfl) (.c Tryz.func9 [_] (llast_spec g x r.2.1.Λ hli2)) (by repeat' constructor) ?_)))
      refine D.gv rfl (.move rfl) (.gv rfl (.int rfl rfl rfl) (.kv rfl (.pickT rfl rfl) (.mv rfl rfl (.ndec (t := 132) rfl (fun h24_132 => ?_) (fun h24_132 => ?_)))))
      ·refine D.kNT (t := 130) rfl h24_132 (.kNT (t := 131) rfl h24_132 (.gv rfl (.move rfl) (.gm (t := 132) rfl rfl rfl (by kernel_rfl) (.c Tryz.func9 [_] (llast_spec g x r.2.1.Λ hli2)) (by repeat' constructor) ?_)))
       refine D.gv rfl (.quo rfl rfl (by decide) (tdiv_i64 hlz)) (.gv rfl (.move rfl) (.gv rfl (.nilp rfl) (.gv rfl (.fieldAddr rfl fo_53_0) (.gm (t := 132) rfl rfl rfl (by kernel_rfl) (.c Tryz.func17 [_] (lcur_spec g x r.2.1.Λ)) (by repeat' constructor) ?_))))
       refine D.gv rfl (.as (v' := .bool false) (by rw [decide_eq_true (hS.pro h24_120 h24_126 h24_132)]; rfl) (.int rfl rfl rfl)) (.kv rfl (.pickT rfl rfl) (.pf (.condF rfl (.sk (.sm rfl (.cv Tryz.func14 [_] (fcom_spec f g r.1) ?_))))))
       refine .an rfl (.region (.m rfl (.nf rfl fo_53_0 (.cv Tryz.func16 [_] (lacc_spec g x r.2.1.Λ) ?_))))
       refine .a rfl (.nil (.blk_n (.then_n (.region (.m rfl (.q (.add rfl rfl (by omega)) rfl (.an rfl ?_)))))))
       exact .rk ((i + 1, r.1, r.2.1)) (⟨by dsimp only; omega, by dsimp only; omega, ⟨hS.p.k.l.more (by dsimp only; omega), ⟨hS.p.k.i.sil, by have := hS.p.k.i.heard; dsimp only; omega⟩, hS.p.k.cur, hS.p.k.up, hS.p.k.zero⟩⟩) (by dsimp only; omega) ⟨rfl, rfl, rfl, rfl, rfl, rfl, trivial⟩
      refine D.kNF (t := 130) rfl h24_132 (.kNF (t := 131) rfl h24_132 (.gz rfl (.gz rfl (.gz rfl (.gz rfl (.gz rfl (.gz rfl (.gz rfl (.gz rfl (.kv rfl (.pickF rfl rfl) (.pf (.condF rfl (.sk (.sm rfl (.cv Tryz.func14 [_] (fcom_spec f g r.1) ?_)))))))))))))))
      refine .an rfl (.region (.m rfl (.nf rfl fo_53_0 (.cv Tryz.func16 [_] (lacc_spec g x r.2.1.Λ) ?_))))
      refine .a rfl (.nil (.blk_n (.then_n (.region (.m rfl (.q (.add rfl rfl (by omega)) rfl (.an rfl ?_)))))))
      exact .rk ((i + 1, r.1, r.2.1)) (⟨by dsimp only; omega, by dsimp only; omega, ⟨hS.p.k.l.more (by dsimp only; omega), ⟨hS.p.k.i.sil, by have := hS.p.k.i.heard; dsimp only; omega⟩, hS.p.k.cur, hS.p.k.up, hS.p.k.zero⟩⟩) (by dsimp only; omega) ⟨rfl, rfl, rfl, rfl, rfl, rfl, trivial⟩
     refine D.kDF (t := 124) rfl h24_126 (.kDF (t := 125) rfl h24_126 (.gz rfl (.gz rfl (.gz rfl (.gz rfl (.kv rfl (.pickF rfl rfl) (.mv rfl rfl (.gz rfl (.gz rfl (.gz rfl (.gz rfl (.gz rfl (.gz rfl (.gz rfl (.gz rfl (.kv rfl (.pickF rfl rfl) (.pf (.condF rfl (.sk (.sm rfl (.cv Tryz.func14 [_] (fcom_spec f g r.1) ?_)))))))))))))))))))))
     refine .an rfl (.region (.m rfl (.nf rfl fo_53_0 (.cv Tryz.func16 [_] (lacc_spec g x r.2.1.Λ) ?_))))
     refine .a rfl (.nil (.blk_n (.then_n (.region (.m rfl (.q (.add rfl rfl (by omega)) rfl (.an rfl ?_)))))))
     exact .rk ((i + 1, r.1, r.2.1)) (⟨by dsimp only; omega, by dsimp only; omega, ⟨hS.p.k.l.more (by dsimp only; omega), ⟨hS.p.k.i.sil, by have := hS.p.k.i.heard; dsimp only; omega⟩, hS.p.k.cur, hS.p.k.up, hS.p.k.zero⟩⟩) (by dsimp only; omega) ⟨rfl, rfl, rfl, rfl, rfl, rfl, trivial⟩
    refine D.kNF (t := 119) rfl h24_120 (.gz rfl (.gz rfl (.gz rfl (.gz rfl (.kv rfl (.pickF rfl rfl) (.mv rfl rfl (.gz rfl (.gz rfl (.gz rfl (.gz rfl (.kv rfl (.pickF rfl rfl) (.mv rfl rfl (.gz rfl (.gz rfl (.gz rfl (.gz rfl (.gz rfl (.gz rfl (.gz rfl (.gz rfl (.kv rfl (.pickF rfl rfl) (.pf (.condF rfl (.sk (.sm rfl (.cv Tryz.func14 [_] (fcom_spec f g r.1) ?_))))))))))))))))))))))))))
    refine .an rfl (.region (.m rfl (.nf rfl fo_53_0 (.cv Tryz.func16 [_] (lacc_spec g x r.2.1.Λ) ?_))))
    refine .a rfl (.nil (.blk_n (.then_n (.region (.m rfl (.q (.add rfl rfl (by omega)) rfl (.an rfl ?_)))))))
    exact .rk ((i + 1, r.1, r.2.1)) (⟨by dsimp only; omega, by dsimp only; omega, ⟨hS.p.k.l.more (by dsimp only; omega), ⟨hS.p.k.i.sil, by have := hS.p.k.i.heard; dsimp only; omega⟩, hS.p.k.cur, hS.p.k.up, hS.p.k.zero⟩⟩) (by dsimp only; omega) ⟨rfl, rfl, rfl, rfl, rfl, rfl, trivial⟩
   refine .kDF (t := 65) rfl h20_66 (.gk (.gk (.gk (.gk (.gskipU (t := 70) rfl rfl rfl (.gskipU (t := 70) rfl rfl rfl (.gskipU (t := 70) rfl rfl rfl (.gskipU (t := 70) rfl rfl rfl (.gk (.gk (.gskipU (t := 76) rfl rfl rfl (.gskipU (t := 76) rfl rfl rfl (.gskipU (t := 76) rfl rfl rfl (.gk (.u (.pickF rfl rfl) (.nt (.condF rfl (.sk (.seq (.seq (.draw [] [[0, 1, 2, 3, 4, 5, 6, 7, 8, 9, 10, 11, 12, 13, 14, 15, 16, 17, 18, 19, 20, 21, 22, 23, 24, 25, 26, 27, 28, 29, 30, 31, 32, 33]] mixed (by kernel_rfl) (.go [fwR f g r.1, lgR g x r.2.1.Λ] (by repeat' constructor) (.mv rfl rfl (.m rfl (by kernel_rfl) (.c Tryz.func14 [_] (fcom_spec f g r.1)) (by repeat' constructor) ?_))))))))))))))))))))))))
   refine D.mv rfl rfl (.kv rfl (.as (v' := .bool false) (by exact congrArg Value.bool (decide_eq_false (Int.not_lt.2 hS.p.com))) (.int rfl rfl rfl)) (.mv rfl rfl (.gv rfl (.move rfl) (.gm (t := 86) rfl rfl rfl (by kernel_rfl) (.c Tryz.func15 [_] (fup_spec f g r.1)) (by repeat' constructor) ?_))))
   refine D.gv rfl (.move rfl) (.dec (t := 89) rfl (fun h22_89 => ?_) (fun h22_89 => ?_))
   ·refine D.kDT (t := 88) rfl h22_89 (.gv rfl (.move rfl) (.gm (t := 89) rfl rfl rfl (by kernel_rfl) (.c Tryz.func14 [_] (fcom_spec f g r.1)) (by repeat' constructor) ?_))
    refine D.gv rfl (.move rfl) (.gm (t := 89) rfl rfl rfl (by kernel_rfl) (.c Tryz.func9 [_] (llast_spec g x r.2.1.Λ hli2)) (by repeat' constructor) ?_)
    refine D.gv rfl (.as (v' := .bool false) (by exact congrArg Value.bool (decide_eq_false (Int.not_lt.2 (hS.p.k.up h22_89)))) (.int rfl rfl rfl)) (.gv rfl (.pickT rfl rfl) (.kv rfl (.pickF rfl rfl) (.mv rfl rfl (.gv rfl (.move rfl) (.gv rfl (.nilp rfl) (.gv rfl (.fieldAddr rfl fo_53_0) (.gm (t := 97) rfl rfl rfl (by kernel_rfl) (.c Tryz.func16 [_] (lacc_spec g x r.2.1.Λ)) (by repeat' constructor) ?_)))))))
    refine D.gv rfl (.move rfl) (.gv rfl (.as (v' := .bool false) (by exact congrArg Value.bool (decide_eq_false (Int.not_lt.2 hS.p.acc))) (.int rfl rfl rfl)) (.kv rfl (.pickF rfl rfl) (.mv rfl rfl (.gv rfl (.move rfl) (.gv rfl (.nilp rfl) (.gv rfl (.fieldAddr rfl fo_53_0) (.gm (t := 105) rfl rfl rfl (by kernel_rfl) (.c Tryz.func17 [_] (lcur_spec g x r.2.1.Λ)) (by repeat' constructor) ?_)))))))
    refine D.gv rfl (.move rfl) (.gv rfl (.nilp rfl) (.gv rfl (.fieldAddr rfl fo_53_0) (.gm (t := 105) rfl rfl rfl (by kernel_rfl) (.c Tryz.func16 [_] (lacc_spec g x r.2.1.Λ)) (by repeat' constructor) ?_)))
    refine D.gv rfl (.as (v' := .bool false) (by exact congrArg Value.bool (decide_eq_false (Int.not_lt.2 heps.2.1))) (.int rfl rfl rfl)) (.kv rfl (.pickF rfl rfl) (.pf (.condF rfl (.sk (.seq (.seq (.draw [] [[0, 1, 2, 3, 4, 5, 6, 7, 8, 9, 10, 11, 12, 13, 14, 15, 16, 17, 18, 19, 20, 21, 22, 23, 24, 25]] mixed (by kernel_rfl) (.go [ptc bo _ _, lgR g x r.2.1.Λ] (by repeat' constructor) (.kv rfl (.fieldAddr rfl fo_43_0) (.kv rfl (.ld rfl ag_3) (.m rfl (by kernel_rfl) (.c Tryz.func11 [_, _] (pick18_spec xs[i].what 8 ho.what (by decide))) (by repeat' constructor) ?_)))))))))))
    refine D.kv rfl (.int rfl rfl rfl) (.mv rfl rfl (.ndec (t := 120) rfl (fun h24_120 => ?_) (fun h24_120 => ?_)))
    ·refine D.kNT (t := 119) rfl h24_120 (.gv rfl (.fieldAddr rfl fo_43_3) (.gv rfl (.fieldAddr rfl fo_41_0) (.gv rfl (.ld rfl ag_3) (.gv rfl (.int rfl rfl rfl) (.kv rfl (.pickT rfl rfl) (.mv rfl rfl (.dec (t := 126) rfl (fun h24_126 => ?_) (fun h24_126 => ?_))))))))
     ·refine D.kDT (t := 124) rfl h24_126 (.kDT (t := 125) rfl h24_126 (.gv rfl (.move rfl) (.gm (t := 126) rfl rfl rfl (by kernel_rfl) (.c Tryz.func9 [_] (llast_spec g x r.2.1.Λ hli2)) (by repeat' constructor) ?_)))
      refine D.gv rfl (.move rfl) (.gv rfl (.int rfl rfl rfl) (.kv rfl (.pickT rfl rfl) (.mv rfl rfl (.ndec (t := 132) rfl (fun h24_132 => ?_) (fun h24_132 => ?_)))))
      ·refine D.kNT (t := 130) rfl h24_132 (.kNT (t := 131) rfl h24_132 (.gv rfl (.move rfl) (.gm (t := 132) rfl rfl rfl (by kernel_rfl) (.c Tryz.func9 [_] (llast_spec g x r.2.1.Λ hli2)) (by repeat' constructor) ?_)))
       refine D.gv rfl (.quo rfl rfl (by decide) (tdiv_i64 hlz)) (.gv rfl (.move rfl) (.gv rfl (.nilp rfl) (.gv rfl (.fieldAddr rfl fo_53_0) (.gm (t := 132) rfl rfl rfl (by kernel_rfl) (.c Tryz.func17 [_] (lcur_spec g x r.2.1.Λ)) (by repeat' constructor) ?_))))
       refine D.gv rfl (.as (v' := .bool false) (by rw [decide_eq_true (hS.pro h24_120 h24_126 h24_132)]; rfl) (.int rfl rfl rfl)) (.kv rfl (.pickT rfl rfl) (.pf (.condF rfl (.sk (.sm rfl (.cv Tryz.func14 [_] (fcom_spec f g r.1) ?_))))))
       refine .an rfl (.region (.m rfl (.nf rfl fo_53_0 (.cv Tryz.func16 [_] (lacc_spec g x r.2.1.Λ) ?_))))
       refine .a rfl (.nil (.blk_n (.then_n (.region (.m rfl (.q (.add rfl rfl (by omega)) rfl (.an rfl ?_)))))))
       exact .rk ((i + 1, r.1, r.2.1)) (⟨by dsimp only; omega, by dsimp only; omega, ⟨hS.p.k.l.more (by dsimp only; omega), ⟨hS.p.k.i.sil, by have := hS.p.k.i.heard; dsimp only; omega⟩, hS.p.k.cur, hS.p.k.up, hS.p.k.zero⟩⟩) (by dsimp only; omega) ⟨rfl, rfl, rfl, rfl, rfl, rfl, trivial⟩
      refine D.kNF (t := 130) rfl h24_132 (.kNF (t := 131) rfl h24_132 (.gz rfl (.gz rfl (.gz rfl (.gz rfl (.gz rfl (.gz rfl (.gz rfl (.gz rfl (.kv rfl (.pickF rfl rfl) (.pf (.condF rfl (.sk (.sm rfl (.cv Tryz.func14 [_] (fcom_spec f g r.1) ?_)))))))))))))))
      refine .an rfl (.region (.m rfl (.nf rfl fo_53_0 (.cv Tryz.func16 [_] (lacc_spec g x r.2.1.Λ) ?_))))
      refine .a rfl (.nil (.blk_n (.then_n (.region (.m rfl (.q (.add rfl rfl (by omega)) rfl (.an rfl ?_)))))))
      exact .rk ((i + 1, r.1, r.2.1)) (⟨by dsimp only; omega, by dsimp only; omega, ⟨hS.p.k.l.more (by dsimp only; omega), ⟨hS.p.k.i.sil, by have := hS.p.k.i.heard; dsimp only; omega⟩, hS.p.k.cur, hS.p.k.up, hS.p.k.zero⟩⟩) (by dsimp only; omega) ⟨rfl, rfl, rfl, rfl, rfl, rfl, trivial⟩
     refine D.kDF (t := 124) rfl h24_126 (.kDF (t := 125) rfl h24_126 (.gz rfl (.gz rfl (.gz rfl (.gz rfl (.kv rfl (.pickF rfl rfl) (.mv rfl rfl (.gz rfl (.gz rfl (.gz rfl (.gz rfl (.gz rfl (.gz rfl (.gz rfl (.gz rfl (.kv rfl (.pickF rfl rfl) (.pf (.condF rfl (.sk (.sm rfl (.cv Tryz.func14 [_] (fcom_spec f g r.1) ?_)))))))))))))))))))))
     refine .an rfl (.region (.m rfl (.nf rfl fo_53_0 (.cv Tryz.func16 [_] (lacc_spec g x r.2.1.Λ) ?_))))
     refine .a rfl (.nil (.blk_n (.then_n (.region (.m rfl (.q (.add rfl rfl (by omega)) rfl (.an rfl ?_)))))))
     exact .rk ((i + 1, r.1, r.2.1)) (⟨by dsimp only; omega, by dsimp only; omega, ⟨hS.p.k.l.more (by dsimp only; omega), ⟨hS.p.k.i.sil, by have := hS.p.k.i.heard; dsimp only; omega⟩, hS.p.k.cur, hS.p.k.up, hS.p.k.zero⟩⟩) (by dsimp only; omega) ⟨rfl, rfl, rfl, rfl, rfl, rfl, trivial⟩
    refine D.kNF (t := 119) rfl h24_120 (.gz rfl (.gz rfl (.gz rfl (.gz rfl (.kv rfl (.pickF rfl rfl) (.mv rfl rfl (.gz rfl (.gz rfl (.gz rfl (.gz rfl (.kv rfl (.pickF rfl rfl) (.mv rfl rfl (.gz rfl (.gz rfl (.gz rfl (.gz rfl (.gz rfl (.gz rfl (.gz rfl (.gz rfl (.kv rfl (.pickF rfl rfl) (.pf (.condF rfl (.sk (.sm rfl (.cv Tryz.func14 [_] (fcom_spec f g r.1) ?_))))))))))))))))))))))))))
    refine .an rfl (.region (.m rfl (.nf rfl fo_53_0 (.cv Tryz.func16 [_] (lacc_spec g x r.2.1.Λ) ?_))))
    refine .a rfl (.nil (.blk_n (.then_n (.region (.m rfl (.q (.add rfl rfl (by omega)) rfl (.an rfl ?_)))))))
    exact .rk ((i + 1, r.1, r.2.1)) (⟨by dsimp only; omega, by dsimp only; omega, ⟨hS.p.k.l.more (by dsimp only; omega), ⟨hS.p.k.i.sil, by have := hS.p.k.i.heard; dsimp only; omega⟩, hS.p.k.cur, hS.p.k.up, hS.p.k.zero⟩⟩) (by dsimp only; omega) ⟨rfl, rfl, rfl, rfl, rfl, rfl, trivial⟩
   refine D.kDF (t := 88) rfl h22_89 (.gz rfl (.gz rfl (.gz rfl (.gz rfl (.gz rfl (.gv rfl (.pickF rfl rfl) (.kv rfl (.pickF rfl rfl) (.mv rfl rfl (.gv rfl (.move rfl) (.gv rfl (.nilp rfl) (.gv rfl (.fieldAddr rfl fo_53_0) (.gm (t := 97) rfl rfl rfl (by kernel_rfl) (.c Tryz.func16 [_] (lacc_spec g x r.2.1.Λ)) (by repeat' constructor) ?_))))))))))))
   refine D.gv rfl (.move rfl) (.gv rfl (.as (v' := .bool false) (by exact congrArg Value.bool (decide_eq_false (Int.not_lt.2 hS.p.acc))) (.int rfl rfl rfl)) (.kv rfl (.pickF rfl rfl) (.mv rfl rfl (.gv rfl (.move rfl) (.gv rfl (.nilp rfl) (.gv rfl (.fieldAddr rfl fo_53_0) (.gm (t := 105) rfl rfl rfl (by kernel_rfl) (.c Tryz.func17 [_] (lcur_spec g x r.2.1.Λ)) (by repeat' constructor) ?_)))))))
   refine D.gv rfl (.move rfl) (.gv rfl (.nilp rfl) (.gv rfl (.fieldAddr rfl fo_53_0) (.gm (t := 105) rfl rfl rfl (by kernel_rfl) (.c Tryz.func16 [_] (lacc_spec g x r.2.1.Λ)) (by repeat' constructor) ?_)))
   refine D.gv rfl (.as (v' := .bool false) (by exact congrArg Value.bool (decide_eq_false (Int.not_lt.2 heps.2.1))) (.int rfl rfl rfl)) (.kv rfl (.pickF rfl rfl) (.pf (.condF rfl (.sk (.seq (.seq (.draw [] [[0, 1, 2, 3, 4, 5, 6, 7, 8, 9, 10, 11, 12, 13, 14, 15, 16, 17, 18, 19, 20, 21, 22, 23, 24, 25]] mixed (by kernel_rfl) (.go [ptc bo _ _, lgR g x r.2.1.Λ] (by repeat' constructor) (.kv rfl (.fieldAddr rfl fo_43_0) (.kv rfl (.ld rfl ag_3) (.m rfl (by kernel_rfl) (.c Tryz.func11 [_, _] (pick18_spec xs[i].what 8 ho.what (by decide))) (by repeat' constructor) ?_)))))))))))
   refine D.kv rfl (.int rfl rfl rfl) (.mv rfl rfl (.ndec (t := 120) rfl (fun h24_120 => ?_) (fun h24_120 => ?_)))
   ·refine D.kNT (t := 119) rfl h24_120 (.gv rfl (.fieldAddr rfl fo_43_3) (.gv rfl (.fieldAddr rfl fo_41_0) (.gv rfl (.ld rfl ag_3) (.gv rfl (.int rfl rfl rfl) (.kv rfl (.pickT rfl rfl) (.mv rfl rfl (.dec (t := 126) rfl (fun h24_126 => ?_) (fun h24_126 => ?_))))))))
    ·refine D.kDT (t := 124) rfl h24_126 (.kDT (t := 125) rfl h24_126 (.gv rfl (.move rfl) (.gm (t := 126) rfl rfl rfl (by kernel_rfl) (.c Tryz.func9 [_] (llast_spec g x r.2.1.Λ hli2)) (by repeat' constructor) ?_)))
     refine D.gv rfl (.move rfl) (.gv rfl (.int rfl rfl rfl) (.kv rfl (.pickT rfl rfl) (.mv rfl rfl (.ndec (t := 132) rfl (fun h24_132 => ?_) (fun h24_132 => ?_)))))
     ·refine D.kNT (t := 130) rfl h24_132 (.kNT (t := 131) rfl h24_132 (.gv rfl (.move rfl) (.gm (t := 132) rfl rfl rfl (by kernel_rfl) (.c Tryz.func9 [_] (llast_spec g x r.2.1.Λ hli2)) (by repeat' constructor) ?_)))
      refine D.gv rfl (.quo rfl rfl (by decide) (tdiv_i64 hlz)) (.gv rfl (.move rfl) (.gv rfl (.nilp rfl) (.gv rfl (.fieldAddr rfl fo_53_0) (.gm (t := 132) rfl rfl rfl (by kernel_rfl) (.c Tryz.func17 [_] (lcur_spec g x r.2.1.Λ)) (by repeat' constructor) ?_))))
      refine D.gv rfl (.as (v' := .bool false) (by rw [decide_eq_true (hS.pro h24_120 h24_126 h24_132)]; rfl) (.int rfl rfl rfl)) (.kv rfl (.pickT rfl rfl) (.pf (.condF rfl (.sk (.sm rfl (.cv Tryz.func14 [_] (fcom_spec f g r.1) ?_))))))
      refine .an rfl (.region (.m rfl (.nf rfl fo_53_0 (.cv Tryz.func16 [_] (lacc_spec g x r.2.1.Λ) ?_))))
      refine .a rfl (.nil (.blk_n (.then_n (.region (.m rfl (.q (.add rfl rfl (by omega)) rfl (.an rfl ?_)))))))
      exact .rk ((i + 1, r.1, r.2.1)) (⟨by dsimp only; omega, by dsimp only; omega, ⟨hS.p.k.l.more (by dsimp only; omega), ⟨hS.p.k.i.sil, by have := hS.p.k.i.heard; dsimp only; omega⟩, hS.p.k.cur, hS.p.k.up, hS.p.k.zero⟩⟩) (by dsimp only; omega) ⟨rfl, rfl, rfl, rfl, rfl, rfl, trivial⟩
     refine D.kNF (t := 130) rfl h24_132 (.kNF (t := 131) rfl h24_132 (.gz rfl (.gz rfl (.gz rfl (.gz rfl (.gz rfl (.gz rfl (.gz rfl (.gz rfl (.kv rfl (.pickF rfl rfl) (.pf (.condF rfl (.sk (.sm rfl (.cv Tryz.func14 [_] (fcom_spec f g r.1) ?_)))))))))))))))
     refine .an rfl (.region (.m rfl (.nf rfl fo_53_0 (.cv Tryz.func16 [_] (lacc_spec g x r.2.1.Λ) ?_))))
     refine .a rfl (.nil (.blk_n (.then_n (.region (.m rfl (.q (.add rfl rfl (by omega)) rfl (.an rfl ?_)))))))
     exact .rk ((i + 1, r.1, r.2.1)) (⟨by dsimp only; omega, by dsimp only; omega, ⟨hS.p.k.l.more (by dsimp only; omega), ⟨hS.p.k.i.sil, by have := hS.p.k.i.heard; dsimp only; omega⟩, hS.p.k.cur, hS.p.k.up, hS.p.k.zero⟩⟩) (by dsimp only; omega) ⟨rfl, rfl, rfl, rfl, rfl, rfl, trivial⟩
    refine D.kDF (t := 124) rfl h24_126 (.kDF (t := 125) rfl h24_126 (.gz rfl (.gz rfl (.gz rfl (.gz rfl (.kv rfl (.pickF rfl rfl) (.mv rfl rfl (.gz rfl (.gz rfl (.gz rfl (.gz rfl (.gz rfl (.gz rfl (.gz rfl (.gz rfl (.kv rfl (.pickF rfl rfl) (.pf (.condF rfl (.sk (.sm rfl (.cv Tryz.func14 [_] (fcom_spec f g r.1) ?_)))))))))))))))))))))
    refine .an rfl (.region (.m rfl (.nf rfl fo_53_0 (.cv Tryz.func16 [_] (lacc_spec g x r.2.1.Λ) ?_))))
    refine .a rfl (.nil (.blk_n (.then_n (.region (.m rfl (.q (.add rfl rfl (by omega)) rfl (.an rfl ?_)))))))
    exact .rk ((i + 1, r.1, r.2.1)) (⟨by dsimp only; omega, by dsimp only; omega, ⟨hS.p.k.l.more (by dsimp only; omega), ⟨hS.p.k.i.sil, by have := hS.p.k.i.heard; dsimp only; omega⟩, hS.p.k.cur, hS.p.k.up, hS.p.k.zero⟩⟩) (by dsimp only; omega) ⟨rfl, rfl, rfl, rfl, rfl, rfl, trivial⟩
   refine D.kNF (t := 119) rfl h24_120 (.gz rfl (.gz rfl (.gz rfl (.gz rfl (.kv rfl (.pickF rfl rfl) (.mv rfl rfl (.gz rfl (.gz rfl (.gz rfl (.gz rfl (.kv rfl (.pickF rfl rfl) (.mv rfl rfl (.gz rfl (.gz rfl (.gz rfl (.gz rfl (.gz rfl (.gz rfl (.gz rfl (.gz rfl (.kv rfl (.pickF rfl rfl) (.pf (.condF rfl (.sk (.sm rfl (.cv Tryz.func14 [_] (fcom_spec f g r.1) ?_))))))))))))))))))))))))))
   refine .an rfl (.region (.m rfl (.nf rfl fo_53_0 (.cv Tryz.func16 [_] (lacc_spec g x r.2.1.Λ) ?_))))
   refine .a rfl (.nil (.blk_n (.then_n (.region (.m rfl (.q (.add rfl rfl (by omega)) rfl (.an rfl ?_)))))))
   exact .rk ((i + 1, r.1, r.2.1)) (⟨by dsimp only; omega, by dsimp only; omega, ⟨hS.p.k.l.more (by dsimp only; omega), ⟨hS.p.k.i.sil, by have := hS.p.k.i.heard; dsimp only; omega⟩, hS.p.k.cur, hS.p.k.up, hS.p.k.zero⟩⟩) (by dsimp only; omega) ⟨rfl, rfl, rfl, rfl, rfl, rfl, trivial⟩
  refine .exit (.then_e (.then_e (.blk_e (.then_n (.sr (.an rfl (.ret ?_)))))))
  exact .vv
 refine .kDF (t := 38) rfl h11_39 (.gk (.gk (.u (.pickF rfl rfl) (.nt (.condF rfl (.exit (.then_e (.then_e (.blk_e (.then_n (.sr (.an rfl (.ret ?_)))))))))))))
 exact .vv
open Go Go.ChangeShapes Go.WideShapes Go.ChangeAt Go.RowKit
section
variable {H : Type} {enc : TypeId × Value → H} {P : Program} {W W' : World}
theorem trodAll_old (hl : laidOutB P = true) (hb : Below W.heap.size W W') (sp : Nat → Bool) : ∀ (ts : List TypeId) (vs : List Value) (ds : List (DataW H)) (p : List MemPlace), (∀ t ∈ ts, P.readableRec t = true ∧ t < P.types.size) →
  DataW.TrodAll enc P W 0 (fun _ => true) true ts vs ds p → (∀ x ∈ p, x.block < W.heap.size) → (∀ x ∈ p, sp x.block = true) → DataW.TrodAll enc P W' 0 sp true ts vs ds p
 | [], vs, ds, p, _, h, _, _ => by
  obtain ⟨rfl, rfl, rfl⟩ := trodAll_nil h
  exact h
 | t :: ts, vs, ds, p, hr, h, hlt, hsp => by
  obtain ⟨v, vs1, d, ds1, a, b, rfl, rfl, rfl, h1, h2⟩ := trodAll_cons h
  have r := hr t (by simp)
  refine ⟨a, b, WideElems.Trod_stays hl r.1 r.2 h1 (fun x hx => hb.same (hlt x (by simp [hx]))) (fun x hx => hsp x (by simp [hx])), ?_, rfl⟩
  exact trodAll_old hl hb sp ts vs1 ds1 b (fun t ht => hr t (by simp [ht])) h2 (fun x hx => hlt x (by simp [hx])) (fun x hx => hsp x (by simp [hx]))
theorem settled {fn : Func} {s : ChangeSpec} {apart fresh handsOn again : Bool} {args : Array Value} {ds gs : List (DataW H)} {before : List MemPlace} {tb : TypeId}
  (hW : DataW.Whole enc P fn.params.toList s.vars apart W args.toList ds gs before) (hvars : s.vars = []) (hspec : ∀ gs', gs' = [] → s.fn H (ds ++ gs') = { results := [.lit (.bool true)], args := ds })
  (hres : fn.resultTypes = #[tb]) (htb : P.underlying tb = some .bool) (hl : laidOutB P = true) (hr : ∀ t ∈ fn.params.toList, P.readableRec t = true ∧ t < P.types.size) (hb : Below W.heap.size W W') :
  s.post enc P fn apart fresh handsOn again W args (.bool true) W' := by
 have hW' := hW
 have hlt := hW.lt
 obtain ⟨p, q, hA, hV, rfl, hfz, hnd⟩ := hW
 rw [hvars] at hV
 obtain ⟨rfl, rfl⟩ := trodVars_none hV
 have hs := hspec [] rfl
 have hargs : ∀ sp : Nat → Bool, (∀ x ∈ p, sp x.block = true) → DataW.TrodAll enc P W' 0 sp true fn.params.toList args.toList ds p := fun sp hsp =>
  trodAll_old hl hb sp _ _ _ _ hr hA (fun x hx => hlt x (by simp [hx])) hsp
 have hbool : ∀ (b : Nat) (sp : Nat → Bool) (hd : Bool), DataW.TrodAll enc P W' b sp hd fn.resultTypes.toList ((Value.bool true).resultList fn.resultTypes.size) [.lit (.bool true)] [] := by
  intro b sp hd
  rw [hres]
  exact trodAll_cons_mk (shut_bool htb _) trodAll_mk0
 refine ⟨ds, [], p ++ [], [], p, [], hW', ?_, ?_, ?_, hb.frame _, fun _ => ⟨ok_one hres rfl (okWide_bool_mk htb _), [.lit (.bool true)] ++ ds, [], p, ⟨p, [], ?_, ?_, by simp, ?_, ?_⟩, ?_⟩⟩
 ·rw [hs]; exact hbool _ _ _
 ·rw [hs]; exact hargs _ (fun x hx => by simpa using hlt x (by simp [hx]))
 ·rw [hs, hvars]; exact hV
 ·exact trodAll_append (hargs _ (fun _ _ => rfl)) (hbool _ _ _)
 ·rw [hvars]; exact hV
 ·intro b off hp
  rw [hb.frozen (p := ⟨b, off, none⟩) (hlt (.cell b off) (by simp [hp]))]
  exact hfz b off (by simp [hp])
 ·intro ha
  have := hnd ha
  simpa using this
 ·intro x hx _
  simp [hx]
theorem old_calls {f : FuncId} {args : Array Value} (h : Fn P f args [Old W] fun v L => v = .bool true ∧ L = [Old W]) :
  Calls P f args W fun e W' => e = .returned (.bool true) ∧ Below W.heap.size W W' := by
 have h0 : St [Old W] W := ⟨fun b => W.heap[b]?, fun _ => none, fun _ => .inr rfl, fun b o h => h, fun b o h => (by cases h), fun b hb => rfl, trivial⟩
 refine (h [] W h0).mono ?_
 rintro e W' ⟨v, L, ⟨rfl, rfl⟩, rfl, hs, hk⟩
 refine ⟨rfl, hk.os, hk.tape, hk.output, hk.size, fun k hk' => ?_⟩
 obtain ⟨h1, a1, hp⟩ := sep_head hs
 have e1 := hp k hk'
 have : ∃ o, W.heap[k]? = some o := ⟨_, Array.getElem?_eq_getElem hk'⟩
 obtain ⟨o, ho⟩ := this
 rw [ho] at e1 ⊢
 exact a1 _ _ e1
theorem old_rd {a : Addr} {len cap : Nat} {V : Nat → Value} (hc : ∀ i, i < len → W.cell? (a.add i) = some (V i)) (hle : len ≤ cap) : ∀ h : Hp, Old W h → rdS 1 h (.slice (some a) len cap) len ((List.range len).map V) := by
 intro h hold
 rcases Nat.eq_zero_or_pos len with rfl | hpos
 ·exact .inl ⟨rfl, rfl, some a, cap, rfl⟩
 ·obtain ⟨b, off, spot⟩ := a
  have h0 := hc 0 hpos
  have e0 : (⟨b, off, spot⟩ : Addr).add 0 = ⟨b, off, spot⟩ := by simp [Addr.add]
  rw [e0] at h0
  simp only [World.cell?] at h0
  rcases hw : W.heap[b]? with _ | o
  ·rw [hw] at h0; cases h0
  ·cases o with
   | cells c T fr =>
    rw [hw] at h0
    dsimp only at h0
    split at h0
    ·cases h0
    ·rename_i hsp
     have hspot : spot = none := by simpa using hsp
     subst hspot
     have hc' : ∀ i, i < len → c[off + i]? = some (V i) := by
      intro i hi
      have := hc i hi
      have e1 : (⟨b, off, none⟩ : Addr).add i = ⟨b, off + i, none⟩ := by
       simp only [Addr.add]; split
       ·rename_i h0; simp [h0]
       ·rfl
      rw [e1] at this
      simp only [World.cell?, hw] at this
      simpa using this
     have hlt : b < W.heap.size := by
      rcases Nat.lt_or_ge b W.heap.size with h' | h'
      ·exact h'
      ·rw [Array.getElem?_eq_none h'] at hw; cases hw
     have hlen : off + len ≤ c.size := by
      have := hc' (len - 1) (by omega)
      rcases Nat.lt_or_ge (off + (len - 1)) c.size with h' | h'
      ·omega
      ·rw [Array.getElem?_eq_none h'] at this; cases this
     refine .inr ⟨b, off, cap, c.toList, T, fr, rfl, by rw [hold b hlt, hw], ?_, by simpa using hlen, hle⟩
     apply List.ext_getElem?
     intro i
     rw [Nat.mul_one, List.getElem?_take, List.getElem?_map, List.getElem?_drop]
     split
     ·rename_i hi
      rw [List.getElem?_range hi]
      simpa using hc' i hi
     ·rename_i hi
      rw [List.getElem?_eq_none (by simpa using hi)]; rfl
   | _ => rw [hw] at h0; cases h0
end
open Go Go.ChangeShapes Go.WideShapes Go.ChangeAt Go.RowKit
section
variable {H : Type} {enc : TypeId × Value → H} {P : Program} {W : World}
theorem string_vstr (s : ByteArray) : Value.string s = vstr s.data.toList := by cases s; rfl
end
open Go Go.ChangeShapes Go.WideShapes Go.ChangeAt Go.RowKit
section
variable {H : Type} {enc : TypeId × Value → H} {P : Program} {W : World}
theorem flat_at {α : Type} {sz : Nat} (f : Nat → List α) : ∀ n, (∀ i, i < n → (f i).length = sz) → ∀ j, j < n * sz → ((List.range n).flatMap f)[j]? = (f (j / sz))[j % sz]? ∧ ((List.range n).flatMap f).length = n * sz := by
 intro n
 induction n with
 | zero => intro _ j hj; omega
 | succ n ih =>
  intro hf j hj
  have hn := hf n (by omega)
  have hlen : ((List.range n).flatMap f).length = n * sz := by
   rcases Nat.eq_zero_or_pos (n * sz) with h0 | h0
   ·rcases Nat.eq_zero_or_pos n with h1 | h1
    ·subst h1; simp
    ·have : sz = 0 := by
      rcases Nat.eq_zero_or_pos sz with h2 | h2
      ·exact h2
      ·have := Nat.mul_pos h1 h2; omega
     subst this; omega
   ·exact (ih (fun i hi => hf i (by omega)) 0 h0).2
  have e : (List.range (n + 1)).flatMap f = (List.range n).flatMap f ++ f n := by simp [List.range_succ]
  have hm : (n + 1) * sz = n * sz + sz := by rw [Nat.add_mul, Nat.one_mul]
  rw [e]
  refine ⟨?_, by rw [List.length_append, hlen, hn, hm]⟩
  rcases Nat.lt_or_ge j (n * sz) with h | h
  ·rw [List.getElem?_append_left (by omega)]
   exact (ih (fun i hi => hf i (by omega)) j h).1
  ·rw [List.getElem?_append_right (by omega), hlen]
   have hs : 0 < sz := by omega
   have h1 : j / sz = n := by
    have : j < (n + 1) * sz := hj
    have a := Nat.div_lt_of_lt_mul (show j < sz * (n + 1) by rw [Nat.mul_comm]; exact this)
    have b := (Nat.le_div_iff_mul_le hs).2 h
    omega
   have h2 : j % sz = j - n * sz := by
    have := Nat.div_add_mod j sz
    rw [h1, Nat.mul_comm] at this; omega
   rw [h1, h2]
theorem rdS_regroup {sz n c c1 : Nat} {a : Option Addr} {ys : List Value} {h : Hp} (hr : rdS 1 h (.slice a (n * sz) c1) (n * sz) ys) (hc : n ≤ c) (hs : 0 < sz) : rdS sz h (.slice a n c) n ys := by
 rcases hr with ⟨h1, h2, -⟩ | ⟨b, off, cap, l, T, fr, hv, hb, h1, h2, h3⟩
 ·have : n = 0 := by
   rcases Nat.eq_zero_or_pos n with h0 | h0
   ·exact h0
   ·have := Nat.mul_pos h0 hs; omega
  subst this
  exact .inl ⟨rfl, h2, a, c, rfl⟩
 ·simp only [Value.slice.injEq] at hv
  obtain ⟨rfl, -, -⟩ := hv
  exact .inr ⟨b, off, c, l, T, fr, rfl, hb, by rw [← h1, Nat.mul_one], by rw [Nat.mul_one] at h2; exact h2, hc⟩
abbrev Reads (enc : TypeId × Value → H) (P : Program) (W : World) (fuel : Nat) (t : TypeId) (cs : List Value) (x : DataW H × List MemPlace) : Prop := DataW.trod enc P W 0 (fun _ => true) true fuel t cs = some x
theorem dec_int {t : TypeId} {fuel : Nat} {cs : List Value} {x : DataW H × List MemPlace} (ht : P.underlying t = some (.int .i64)) (h : Reads enc P W fuel t cs x) : ∃ n : Int, cs = [vint n] ∧ -9223372036854775808 ≤ n ∧ n ≤ 9223372036854775807 := by
 obtain ⟨n, rfl, -, hwf⟩ := DataW.trod_int ht h
 exact ⟨n, rfl, bounds_i64 hwf⟩
theorem dec_bool {t : TypeId} {fuel : Nat} {cs : List Value} {x : DataW H × List MemPlace} (ht : P.underlying t = some .bool) (h : Reads enc P W fuel t cs x) : ∃ b : Bool, cs = [.bool b] := by
 obtain ⟨b, rfl, -⟩ := DataW.trod_bool ht h
 exact ⟨b, rfl⟩
end
open Go Go.ChangeShapes Go.WideShapes Go.ChangeAt Go.RowKit
theorem bulk_pos {H : Type} (d : DataW H) : 1 ≤ Rows.uptoBulk d := by
 cases d with
 | lit l => cases l <;> simp [Rows.uptoBulk]
 | _ => simp [Rows.uptoBulk]
theorem bulk_part {H : Type} {d : DataW H} : ∀ {l : List (DataW H)}, d ∈ l → Rows.uptoBulk d ≤ Rows.uptoBulkAll l
 | x :: l, h => by
  unfold Rows.uptoBulkAll
  rcases List.mem_cons.1 h with rfl | h
  ·omega
  ·have := bulk_part h; omega
theorem bulk_count {H : Type} : ∀ l : List (DataW H), l.length ≤ Rows.uptoBulkAll l
 | [] => by simp
 | x :: l => by
  have h1 := bulk_pos x
  have h2 := bulk_count l
  unfold Rows.uptoBulkAll
  rw [List.length_cons]; omega
theorem bulk_sum {H : Type} : ∀ l : List (DataW H), (l.map Rows.uptoBulk).sum ≤ Rows.uptoBulkAll l
 | [] => by simp
 | x :: l => by
  have h2 := bulk_sum l
  unfold Rows.uptoBulkAll
  rw [List.map_cons, List.sum_cons]; omega
theorem bulk_small {H : Type} {l : List (DataW H)} (h : Rows.uptoSmall H l = true) {d : DataW H} (hd : d ∈ l) : Rows.uptoBulk d ≤ 1048576 :=
 Nat.le_trans (bulk_part hd) (of_decide_eq_true h)
instance : Inhabited Value := ⟨.bool false⟩
section
variable {H : Type} {enc : TypeId × Value → H} {P : Program} {W : World} {N : Nat}
theorem dec_int' {t : TypeId} {fuel : Nat} {cs : List Value} {x : DataW H × List MemPlace} (ht : P.underlying t = some (.int .i64)) (h : Reads enc P W fuel t cs x) : ∃ n : Int, cs = [vint n] ∧ (-9223372036854775808 ≤ n ∧ n ≤ 9223372036854775807) := by
 obtain ⟨n, h1, h2⟩ := dec_int ht h; exact ⟨n, h1, h2⟩
theorem dec_sliceV {Z : Type} [Inhabited Z] (toC : Z → List Value) (Q : Z → Prop) {t e : TypeId} {sz : Nat} {fuel : Nat} {cs : List Value} {x : DataW H × List MemPlace} (ht : P.underlying t = some (.slice e)) (hc : P.cellsOf e = sz) (hs : 0 < sz)
  (hdec : ∀ (n : Nat) (cs : List Value) (y : DataW H × List MemPlace), Reads enc P W n e cs y → Rows.uptoBulk y.1 ≤ N → ∃ z, cs = toC z ∧ Q z) (h : Reads enc P W fuel t cs x) (hb : Rows.uptoBulk x.1 ≤ N + 1) :
  ∃ z : Value × List Z, cs = [z.1] ∧ (∀ h : Hp, Old W h → rdS sz h z.1 z.2.length (z.2.flatMap toC)) ∧ z.2.length ≤ N ∧ ∀ y ∈ z.2, Q y := by
 subst hc
 rcases Go.Deep.open_slice ht h with ⟨rfl, rfl⟩ | ⟨a, len, cap, m, n, Dd, Pl, rfl, -, hl, hm, hmm, rfl, hx⟩
 ·exact ⟨(_, []), rfl, fun h _ => .inl ⟨rfl, rfl, none, 0, rfl⟩, by simp, by simp⟩
 ·simp only [if_true] at hmm
  subst hmm
  have hbl : len ≤ N := by
   have := bulk_count ((List.range len).map Dd)
   simp only [Rows.uptoBulk] at hb
   rw [List.length_map, List.length_range] at this
   omega
  have hbe : ∀ i, i < len → Rows.uptoBulk (Dd i) ≤ N := fun i hi => by
   have := bulk_part (d := Dd i) (l := (List.range len).map Dd) (List.mem_map_of_mem (by simpa using hi))
   simp only [Rows.uptoBulk] at hb
   omega
  obtain ⟨Zf, hZ⟩ := Go.Deep.choose_lt (α := Z) (p := fun i z => W.cells? 0 (a.add (i * P.cellsOf e)) (P.cellsOf e) = some (toC z) ∧ Q z) (n := len) (fun i hi => by
   obtain ⟨cs', h1, h2⟩ := hx i (by omega)
   obtain ⟨z, rfl, h3⟩ := hdec _ _ _ h2 (hbe i hi)
   exact ⟨z, h1, h3⟩)
  have hlenf : ∀ i, i < len → (toC (Zf i)).length = P.cellsOf e := fun i hi => (World.cells?_some (hZ i hi).1).2.1
  have hflat := flat_at (fun i => toC (Zf i)) len hlenf
  refine ⟨(_, (List.range len).map Zf), rfl, ?_, ?_, ?_⟩
  ·intro h hold
   dsimp only
   rw [List.length_map, List.length_range]
   refine rdS_regroup (c1 := len * P.cellsOf e) ?_ hl hs
   have e1 : ((List.range len).map Zf).flatMap toC = (List.range (len * P.cellsOf e)).map (fun j => ((List.range len).flatMap fun i => toC (Zf i)).getD j (.bool false)) := by
    rw [List.flatMap_map]
    apply List.ext_getElem?
    intro j
    rcases Nat.lt_or_ge j (len * P.cellsOf e) with hj | hj
    ·rw [List.getElem?_map, List.getElem?_range hj]
     have := (hflat j hj).2
     have hjl : j < ((List.range len).flatMap fun i => toC (Zf i)).length := by omega
     simp only [Option.map_some, List.getD_eq_getElem?_getD, List.getElem?_eq_getElem hjl, Option.getD_some]
    ·have : ((List.range len).flatMap fun i => toC (Zf i)).length = len * P.cellsOf e := by
      rcases Nat.eq_zero_or_pos (len * P.cellsOf e) with h0 | h0
      ·have : len = 0 := by
        rcases Nat.eq_zero_or_pos len with h1 | h1
        ·exact h1
        ·have := Nat.mul_pos h1 hs; omega
       subst this; simp
      ·exact (hflat 0 h0).2
     rw [List.getElem?_eq_none (by omega), List.getElem?_eq_none (by simpa using hj)]
   rw [e1]
   refine old_rd (W := W) (fun j hj => ?_) (Nat.le_refl _) h hold
   have hi : j / P.cellsOf e < len := Nat.div_lt_of_lt_mul (by rw [Nat.mul_comm]; exact hj)
   have hcell := (World.cells?_some (hZ (j / P.cellsOf e) hi).1).2.2 (j % P.cellsOf e) (Nat.mod_lt _ hs)
   rw [Addr.add_add, Nat.mul_comm, Nat.div_add_mod] at hcell
   rw [hcell]
   obtain ⟨f1, f2⟩ := hflat j hj
   rw [List.getD_eq_getElem?_getD, f1]
   have : j % P.cellsOf e < (toC (Zf (j / P.cellsOf e))).length := by rw [hlenf _ hi]; exact Nat.mod_lt _ hs
   simp [this]
  ·dsimp only; rw [List.length_map, List.length_range]; exact hbl
  ·intro z hz
   obtain ⟨i, hi, rfl⟩ := List.mem_map.1 hz
   exact (hZ i (by simpa using hi)).2
theorem dec_sliceQV {Z : Type} [Inhabited Z] (toC : Z → List Value) (Q : Nat → Z → Prop) {t e : TypeId} {sz : Nat} {fuel : Nat} {cs : List Value} {x : DataW H × List MemPlace} (ht : P.underlying t = some (.slice e)) (hc : P.cellsOf e = sz) (hs : 0 < sz)
  (hdec : ∀ (n : Nat) (cs : List Value) (y : DataW H × List MemPlace), Reads enc P W n e cs y → ∃ z, cs = toC z ∧ Q (Rows.uptoBulk y.1) z) (h : Reads enc P W fuel t cs x) (hb : Rows.uptoBulk x.1 ≤ N + 1) :
  ∃ (z : Value × List Z) (ws : List Nat), cs = [z.1] ∧ (∀ h : Hp, Old W h → rdS sz h z.1 z.2.length (z.2.flatMap toC)) ∧ z.2.length ≤ N ∧ ws.length = z.2.length ∧ ws.sum ≤ N ∧ (∀ w ∈ ws, 1 ≤ w) ∧ ∀ i (h1 : i < z.2.length) (h2 : i < ws.length), Q ws[i] z.2[i] := by
 subst hc
 rcases Go.Deep.open_slice ht h with ⟨rfl, rfl⟩ | ⟨a, len, cap, m, n, Dd, Pl, rfl, -, hl, hm, hmm, rfl, hx⟩
 ·exact ⟨(_, []), [], rfl, fun h _ => .inl ⟨rfl, rfl, none, 0, rfl⟩, by simp, rfl, by simp, (fun _ h => by cases h), (fun i h1 _ => by simp at h1)⟩
 ·simp only [if_true] at hmm
  subst hmm
  have hbl : len ≤ N := by
   have := bulk_count ((List.range len).map Dd)
   simp only [Rows.uptoBulk] at hb
   rw [List.length_map, List.length_range] at this
   omega
  have hall : ((List.range len).map fun i => Rows.uptoBulk (Dd i)).sum ≤ N := by
   have := bulk_sum ((List.range len).map Dd)
   rw [List.map_map] at this
   simp only [Rows.uptoBulk] at hb
   have e : ((List.range len).map fun i => Rows.uptoBulk (Dd i)) = (List.range len).map (Rows.uptoBulk ∘ Dd) := rfl
   rw [e]; omega
  obtain ⟨Zf, hZ⟩ := Go.Deep.choose_lt (α := Z) (p := fun i z => W.cells? 0 (a.add (i * P.cellsOf e)) (P.cellsOf e) = some (toC z) ∧ Q (Rows.uptoBulk (Dd i)) z) (n := len) (fun i hi => by
   obtain ⟨cs', h1, h2⟩ := hx i (by omega)
   obtain ⟨z, rfl, h3⟩ := hdec _ _ _ h2
   exact ⟨z, h1, h3⟩)
  have hlenf : ∀ i, i < len → (toC (Zf i)).length = P.cellsOf e := fun i hi => (World.cells?_some (hZ i hi).1).2.1
  have hflat := flat_at (fun i => toC (Zf i)) len hlenf
  refine ⟨(_, (List.range len).map Zf), (List.range len).map fun i => Rows.uptoBulk (Dd i), rfl, ?_, ?_, by simp, hall, ?_, ?_⟩
  ·intro h hold
   dsimp only
   rw [List.length_map, List.length_range]
   refine rdS_regroup (c1 := len * P.cellsOf e) ?_ hl hs
   have e1 : ((List.range len).map Zf).flatMap toC = (List.range (len * P.cellsOf e)).map (fun j => ((List.range len).flatMap fun i => toC (Zf i)).getD j (.bool false)) := by
    rw [List.flatMap_map]
    apply List.ext_getElem?
    intro j
    rcases Nat.lt_or_ge j (len * P.cellsOf e) with hj | hj
    ·rw [List.getElem?_map, List.getElem?_range hj]
     have := (hflat j hj).2
     have hjl : j < ((List.range len).flatMap fun i => toC (Zf i)).length := by omega
     simp only [Option.map_some, List.getD_eq_getElem?_getD, List.getElem?_eq_getElem hjl, Option.getD_some]
    ·have : ((List.range len).flatMap fun i => toC (Zf i)).length = len * P.cellsOf e := by
      rcases Nat.eq_zero_or_pos (len * P.cellsOf e) with h0 | h0
      ·have : len = 0 := by
        rcases Nat.eq_zero_or_pos len with h1 | h1
        ·exact h1
        ·have := Nat.mul_pos h1 hs; omega
       subst this; simp
      ·exact (hflat 0 h0).2
     rw [List.getElem?_eq_none (by omega), List.getElem?_eq_none (by simpa using hj)]
   rw [e1]
   refine old_rd (W := W) (fun j hj => ?_) (Nat.le_refl _) h hold
   have hi : j / P.cellsOf e < len := Nat.div_lt_of_lt_mul (by rw [Nat.mul_comm]; exact hj)
   have hcell := (World.cells?_some (hZ (j / P.cellsOf e) hi).1).2.2 (j % P.cellsOf e) (Nat.mod_lt _ hs)
   rw [Addr.add_add, Nat.mul_comm, Nat.div_add_mod] at hcell
   rw [hcell]
   obtain ⟨f1, f2⟩ := hflat j hj
   rw [List.getD_eq_getElem?_getD, f1]
   have : j % P.cellsOf e < (toC (Zf (j / P.cellsOf e))).length := by rw [hlenf _ hi]; exact Nat.mod_lt _ hs
   simp [this]
  ·dsimp only; rw [List.length_map, List.length_range]; exact hbl
  ·intro w hw
   obtain ⟨i, -, rfl⟩ := List.mem_map.1 hw
   exact bulk_pos _
  ·intro i h1 h2
   simp only [List.getElem_map, List.getElem_range]
   exact (hZ i (by simpa using h1)).2
/-! ### With weights: what is read weighs no more than its bulk -/
theorem dec_strW {t : TypeId} {fuel : Nat} {cs : List Value} {x : DataW H × List MemPlace} (ht : P.underlying t = some .string) (h : Reads enc P W fuel t cs x) : ∃ s : List UInt8, cs = [vstr s] ∧ s.length + 1 ≤ Rows.uptoBulk x.1 := by
 obtain ⟨s, rfl, rfl, -⟩ := DataW.trod_string ht h
 exact ⟨s.data.toList, by rw [string_vstr], by simp [Rows.uptoBulk]⟩
theorem dec_intW {t : TypeId} {fuel : Nat} {cs : List Value} {x : DataW H × List MemPlace} (ht : P.underlying t = some (.int .i64)) (h : Reads enc P W fuel t cs x) : ∃ n : Int, cs = [vint n] ∧ (-9223372036854775808 ≤ n ∧ n ≤ 9223372036854775807) ∧ 1 ≤ Rows.uptoBulk x.1 := by
 obtain ⟨n, h1, h2⟩ := dec_int' ht h; exact ⟨n, h1, h2, bulk_pos _⟩
theorem slice_shape {t e : TypeId} {fuel : Nat} {v : Value} {x : DataW H × List MemPlace} (ht : P.underlying t = some (.slice e)) (h : Reads enc P W fuel t [v] x) : ∃ a n c, v = .slice a n c := by
 rcases Go.Deep.open_slice ht h with ⟨hv, -⟩ | ⟨a, len, cap, m, n, Dd, Pl, hv, -⟩
 ·rw [List.cons.injEq] at hv; rw [hv.1]; exact ⟨_, _, _, rfl⟩
 ·rw [List.cons.injEq] at hv; rw [hv.1]; exact ⟨_, _, _, rfl⟩
theorem sum_le {Z : Type} {m : Z → Nat} : ∀ {l : List Z} {ws : List Nat}, ws.length = l.length → (∀ i (h1 : i < l.length) (h2 : i < ws.length), m l[i] ≤ ws[i]) → (l.map m).sum ≤ ws.sum
 | [], _, _, _ => by simp
 | z :: l, [], h, _ => by simp at h
 | z :: l, w :: ws, h, hq => by
  have h0 := hq 0 (by simp) (by simp)
  have h1 := sum_le (l := l) (ws := ws) (m := m) (by simpa using h) (fun i h1 h2 => hq (i + 1) (by simpa using h1) (by simpa using h2))
  rw [List.map_cons, List.sum_cons, List.sum_cons]
  have h0' : m z ≤ w := h0
  omega
theorem dec_sliceW {Z : Type} [Inhabited Z] (toC : Z → List Value) (Q : Z → Prop) (m : Z → Nat) {t e : TypeId} {sz : Nat} {fuel : Nat} {cs : List Value} {x : DataW H × List MemPlace} (ht : P.underlying t = some (.slice e)) (hc : P.cellsOf e = sz) (hs : 0 < sz)
  (hdec : ∀ (n : Nat) (cs : List Value) (y : DataW H × List MemPlace), Reads enc P W n e cs y → ∃ z, cs = toC z ∧ Q z ∧ m z ≤ Rows.uptoBulk y.1) (h : Reads enc P W fuel t cs x) :
  ∃ z : Value × List Z, cs = [z.1] ∧ (∀ h : Hp, Old W h → rdS sz h z.1 z.2.length (z.2.flatMap toC)) ∧ (∀ y ∈ z.2, Q y) ∧ z.2.length + 1 ≤ Rows.uptoBulk x.1 ∧ 1 + (z.2.map m).sum ≤ Rows.uptoBulk x.1 := by
 have hp := bulk_pos x.1
 obtain ⟨z, ws, h1, h2, h3, h4, h5, -, h7⟩ := dec_sliceQV (N := Rows.uptoBulk x.1 - 1) toC (fun B z => Q z ∧ m z ≤ B) ht hc hs hdec h (by omega)
 refine ⟨z, h1, h2, fun y hy => ?_, by omega, ?_⟩
 ·obtain ⟨i, hi, rfl⟩ := List.mem_iff_getElem.1 hy
  exact (h7 i hi (by omega)).1
 ·have := sum_le (m := m) h4 (fun i g1 g2 => (h7 i g1 g2).2)
  omega
theorem rd_shape {sz n : Nat} {v : Value} {ys : List Value} (hr : ∀ h : Hp, Old W h → rdS sz h v n ys) : ∃ a c, v = .slice a n c := by
 have h := hr (fun b => if b < W.heap.size then W.heap[b]? else none) (fun b hb => if_pos hb)
 rcases h with ⟨rfl, -, a, c, rfl⟩ | ⟨b, off, cap, l, T, fr, rfl, -⟩
 ·exact ⟨_, _, rfl⟩
 ·exact ⟨_, _, rfl⟩
end
open Go Go.ChangeShapes Go.WideShapes Go.ChangeAt Go.RowKit
def mAc (a : Ac) : Nat := 3 + a.2.length
def mPt (y : Pt) : Nat := 9 + y.path.length + y.data.length + (y.acl.map mAc).sum
def mEn (e : En) : Nat := mPt e.x + (e.subs.map mPt).sum
structure PtQ (p : HP) (y : Pt) : Prop where
 kind : I64 y.kind
 own : I64 y.own
 num : I64 y.num
 err : I64 y.err
 acl : ∀ h : Hp, p h → rdS 2 h y.aclV y.acl.length (y.acl.flatMap acC)
 ash : ∃ a n c, y.aclV = .slice a n c
 ssh : ∃ a n c, y.subsV = .slice a n c
 each : ∀ a ∈ y.acl, I64 a.1
structure EnQ (p : HP) (e : En) : Prop where
 zx : I64 e.zx
 ses : I64 e.ses
 xid : I64 e.xid
 x : PtQ p e.x
 subs : ∀ h : Hp, p h → rdS 8 h e.x.subsV e.subs.length (e.subs.flatMap ptC)
 each : ∀ y ∈ e.subs, PtQ p y
theorem sum_mem {α : Type} {m : α → Nat} : ∀ {l : List α} {x : α}, x ∈ l → m x ≤ (l.map m).sum
 | y :: l, x, h => by
  rw [List.map_cons, List.sum_cons]
  rcases List.mem_cons.1 h with rfl | h
  ·omega
  ·have := sum_mem (m := m) h; omega
theorem sum_many {α : Type} {m : α → Nat} (hm : ∀ x, 1 ≤ m x) : ∀ l : List α, l.length ≤ (l.map m).sum
 | [] => by simp
 | y :: l => by have := sum_many hm l; have := hm y; rw [List.map_cons, List.sum_cons, List.length_cons]; omega
theorem fm_weigh {α : Type} {f : α → Bs} {m : α → Nat} : ∀ {l : List α}, (∀ x ∈ l, (f x).length ≤ 20 * m x) → (l.flatMap f).length ≤ 20 * (l.map m).sum
 | [], _ => by simp
 | y :: l, h => by
  have h1 := h y (List.mem_cons_self ..)
  have h2 := fm_weigh (l := l) (m := m) (f := f) (fun x hx => h x (List.mem_cons_of_mem _ hx))
  rw [List.flatMap_cons, List.length_append, List.map_cons, List.sum_cons]; omega
theorem cntB_len {n : Nat} (h : n < U64) : (cntB n).length ≤ 10 := sev_len10 h
theorem acB_weigh {a : Ac} (h : AcI a) : (acB a).length ≤ 20 * mAc a := by
 have h1 := numB_len h.n
 have h2 := cntB_len h.s
 unfold acB txtB mAc
 rw [List.length_append, List.length_append]; omega
theorem PtQ.i {p : HP} {y : Pt} (h : PtQ p y) (hm : mPt y ≤ 1048576) : PtI y := by
 unfold mPt at hm
 have hl := sum_many (m := mAc) (fun a => by unfold mAc; omega) y.acl
 have hu : (1048576 : Nat) < U64 := by decide
 refine ⟨h.kind, h.own, h.num, h.err, by omega, by omega, by omega, fun a ha => ⟨h.each a ha, ?_⟩⟩
 have h1 := sum_mem (m := mAc) ha
 have h2 : mAc a = 3 + a.2.length := rfl
 omega
theorem ptB_weigh {p : HP} {y : Pt} (h : PtQ p y) (hm : mPt y ≤ 1048576) : (ptB y).length ≤ 20 * mPt y := by
 have hi := h.i hm
 have h1 := numB_len h.kind
 have h2 := cntB_len hi.path
 have h3 := cntB_len hi.data
 have h4 := cntB_len hi.many
 have h5 := numB_len h.own
 have h6 := numB_len h.num
 have h7 := numB_len h.err
 have h8 := fm_weigh (f := acB) (m := mAc) (l := y.acl) (fun a ha => acB_weigh (hi.acl a ha))
 rw [ptB_len]
 unfold aclB mPt
 rw [List.length_append]
 simp only [List.flatMap_cons, List.flatMap_nil, List.length_append, List.length_nil]
 omega
theorem EnQ.X {p : HP} {e : En} (h : EnQ p e) (hm : mEn e ≤ 1048576) : EnX p e := by
 unfold mEn at hm
 have hx : mPt e.x ≤ 1048576 := by omega
 have hs : ∀ y ∈ e.subs, mPt y ≤ 1048576 := fun y hy => by have := sum_mem (m := mPt) hy; omega
 have hl := sum_many (m := mPt) (fun a => by unfold mPt; omega) e.subs
 have hu : (1048576 : Nat) < U64 := by decide
 have hal : ∀ y : Pt, mPt y ≤ 1048576 → y.acl.length ≤ 1048576 := fun y hy => by
  have := sum_many (m := mAc) (fun a => by unfold mAc; omega) y.acl
  unfold mPt at hy; omega
 have hc : ∀ y, PtQ p y → isCell y.aclV = true ∧ isCell y.subsV = true := fun y hy => by
  obtain ⟨a, n, c, g⟩ := hy.ash
  obtain ⟨a', n', c', g'⟩ := hy.ssh
  rw [g, g']; exact ⟨rfl, rfl⟩
 refine ⟨⟨⟨⟨h.zx, h.ses, h.xid, h.x.i hx, by omega, fun y hy => (h.each y hy).i (hs y hy)⟩, h.x.acl, h.subs, fun y hy => (h.each y hy).acl⟩, ?_, ⟨by omega, hal _ hx, fun y hy => hal y (hs y hy)⟩, hc _ h.x, fun y hy => hc y (h.each y hy)⟩, fun y hy => (h.each y hy).ssh⟩
 have h1 := numB_len h.zx
 have h2 := numB_len h.ses
 have h3 := numB_len h.xid
 have h4 := ptB_weigh h.x hx
 have h5 := fm_weigh (f := ptB) (m := mPt) (l := e.subs) (fun y hy => ptB_weigh (h.each y hy) (hs y hy))
 have h6 := cntB_len (n := e.subs.length) (by omega)
 rw [enB_len]
 unfold subsB
 rw [List.length_append]
 simp only [List.flatMap_cons, List.flatMap_nil, List.length_append, List.length_nil]
 omega
instance : Inhabited Pt := ⟨pt0⟩
instance : Inhabited En := ⟨en0⟩
theorem decAc {H : Type} {enc : TypeId × Value → H} {W : World} (n : Nat) (cs : List Value) (y : DataW H × List MemPlace) (h : Reads enc Tryz.prog W n 258 cs y) : ∃ a : Ac, cs = acC a ∧ I64 a.1 ∧ mAc a ≤ Rows.uptoBulk y.1 := by
 obtain ⟨xs, m, -, rfl, hlen, hxs, hf⟩ := DataW.trod_struct Tryz.underlying258 h
 rw [show Tryz.prog.cellsOf 258 = 2 by kernel_rfl] at hlen
 obtain ⟨a0, a1, rfl⟩ : ∃ a0 a1, cs = [a0, a1] := by
  match cs, hlen with
  | [a0, a1], _ => exact ⟨a0, a1, rfl⟩
 obtain ⟨y0, y1, rfl⟩ : ∃ y0 y1, xs = [y0, y1] := by
  match xs, hxs with
  | [y0, y1], _ => exact ⟨y0, y1, rfl⟩
 try simp only [Rows.uptoBulk, Rows.uptoBulkAll, List.map_cons, List.map_nil]
 have g0 : Reads enc Tryz.prog W m 3 (([a0, a1] : List Value).drop 0 |>.take (Tryz.prog.cellsOf 3)) y0 := hf 0 _ rfl
 rw [show Tryz.prog.cellsOf 3 = 1 by kernel_rfl] at g0
 have p0 := bulk_pos y0.1
 obtain ⟨z0, e0, q0, r0⟩ := dec_intW Tryz.underlying3 g0
 try simp at e0
 have g1 : Reads enc Tryz.prog W m 9 (([a0, a1] : List Value).drop 1 |>.take (Tryz.prog.cellsOf 9)) y1 := hf 1 _ rfl
 rw [show Tryz.prog.cellsOf 9 = 1 by kernel_rfl] at g1
 have p1 := bulk_pos y1.1
 obtain ⟨z1, e1, r1⟩ := dec_strW Tryz.underlying9 g1
 try simp at e1
 subst e0
 subst e1
 exact ⟨(z0, z1), rfl, q0, by unfold mAc; dsimp only; omega⟩
theorem decPt {H : Type} {enc : TypeId × Value → H} {W : World} (n : Nat) (cs : List Value) (y : DataW H × List MemPlace) (h : Reads enc Tryz.prog W n 73 cs y) : ∃ y0 : Pt, cs = ptC y0 ∧ PtQ (Old W) y0 ∧ mPt y0 ≤ Rows.uptoBulk y.1 := by
 obtain ⟨xs, m, -, rfl, hlen, hxs, hf⟩ := DataW.trod_struct Tryz.underlying73 h
 rw [show Tryz.prog.cellsOf 73 = 8 by kernel_rfl] at hlen
 obtain ⟨a0, a1, a2, a3, a4, a5, a6, a7, rfl⟩ : ∃ a0 a1 a2 a3 a4 a5 a6 a7, cs = [a0, a1, a2, a3, a4, a5, a6, a7] := by
  match cs, hlen with
  | [a0, a1, a2, a3, a4, a5, a6, a7], _ => exact ⟨a0, a1, a2, a3, a4, a5, a6, a7, rfl⟩
 obtain ⟨y0, y1, y2, y3, y4, y5, y6, y7, rfl⟩ : ∃ y0 y1 y2 y3 y4 y5 y6 y7, xs = [y0, y1, y2, y3, y4, y5, y6, y7] := by
  match xs, hxs with
  | [y0, y1, y2, y3, y4, y5, y6, y7], _ => exact ⟨y0, y1, y2, y3, y4, y5, y6, y7, rfl⟩
 try simp only [Rows.uptoBulk, Rows.uptoBulkAll, List.map_cons, List.map_nil]
 have g0 : Reads enc Tryz.prog W m 3 (([a0, a1, a2, a3, a4, a5, a6, a7] : List Value).drop 0 |>.take (Tryz.prog.cellsOf 3)) y0 := hf 0 _ rfl
 rw [show Tryz.prog.cellsOf 3 = 1 by kernel_rfl] at g0
 have p0 := bulk_pos y0.1
 obtain ⟨z0, e0, q0, r0⟩ := dec_intW Tryz.underlying3 g0
 try simp at e0
 have g1 : Reads enc Tryz.prog W m 9 (([a0, a1, a2, a3, a4, a5, a6, a7] : List Value).drop 1 |>.take (Tryz.prog.cellsOf 9)) y1 := hf 1 _ rfl
 rw [show Tryz.prog.cellsOf 9 = 1 by kernel_rfl] at g1
 have p1 := bulk_pos y1.1
 obtain ⟨z1, e1, r1⟩ := dec_strW Tryz.underlying9 g1
 try simp at e1
 have g2 : Reads enc Tryz.prog W m 9 (([a0, a1, a2, a3, a4, a5, a6, a7] : List Value).drop 2 |>.take (Tryz.prog.cellsOf 9)) y2 := hf 2 _ rfl
 rw [show Tryz.prog.cellsOf 9 = 1 by kernel_rfl] at g2
 have p2 := bulk_pos y2.1
 obtain ⟨z2, e2, r2⟩ := dec_strW Tryz.underlying9 g2
 try simp at e2
 have g3 : Reads enc Tryz.prog W m 34 (([a0, a1, a2, a3, a4, a5, a6, a7] : List Value).drop 3 |>.take (Tryz.prog.cellsOf 34)) y3 := hf 3 _ rfl
 rw [show Tryz.prog.cellsOf 34 = 1 by kernel_rfl] at g3
 have p3 := bulk_pos y3.1
 obtain ⟨⟨v3, l3⟩, e3, k3, q3, c3, r3⟩ := dec_sliceW acC (fun a => I64 a.1) mAc Tryz.underlying34 (show Tryz.prog.cellsOf 258 = 2 by kernel_rfl) (by decide) (fun n cs y h => decAc n cs y h) g3
 dsimp only at e3 k3 q3 c3 r3
 obtain ⟨sa3, sc3, hs3⟩ := rd_shape k3
 have sh3 : ∃ a n c, v3 = .slice a n c := ⟨_, _, _, hs3⟩
 try simp at e3
 have g4 : Reads enc Tryz.prog W m 3 (([a0, a1, a2, a3, a4, a5, a6, a7] : List Value).drop 4 |>.take (Tryz.prog.cellsOf 3)) y4 := hf 4 _ rfl
 rw [show Tryz.prog.cellsOf 3 = 1 by kernel_rfl] at g4
 have p4 := bulk_pos y4.1
 obtain ⟨z4, e4, q4, r4⟩ := dec_intW Tryz.underlying3 g4
 try simp at e4
 have g5 : Reads enc Tryz.prog W m 3 (([a0, a1, a2, a3, a4, a5, a6, a7] : List Value).drop 5 |>.take (Tryz.prog.cellsOf 3)) y5 := hf 5 _ rfl
 rw [show Tryz.prog.cellsOf 3 = 1 by kernel_rfl] at g5
 have p5 := bulk_pos y5.1
 obtain ⟨z5, e5, q5, r5⟩ := dec_intW Tryz.underlying3 g5
 try simp at e5
 have g6 : Reads enc Tryz.prog W m 60 (([a0, a1, a2, a3, a4, a5, a6, a7] : List Value).drop 6 |>.take (Tryz.prog.cellsOf 60)) y6 := hf 6 _ rfl
 rw [show Tryz.prog.cellsOf 60 = 1 by kernel_rfl] at g6
 have p6 := bulk_pos y6.1
 obtain ⟨z6, e6, q6, r6⟩ := dec_intW Tryz.underlying60 g6
 try simp at e6
 have g7 : Reads enc Tryz.prog W m 71 (([a0, a1, a2, a3, a4, a5, a6, a7] : List Value).drop 7 |>.take (Tryz.prog.cellsOf 71)) y7 := hf 7 _ rfl
 rw [show Tryz.prog.cellsOf 71 = 1 by kernel_rfl] at g7
 have p7 := bulk_pos y7.1
 obtain ⟨z7, e7, s7⟩ : ∃ z : Value, a7 = z ∧ ∃ a n c, z = .slice a n c := ⟨_, rfl, slice_shape Tryz.underlying71 g7⟩
 try simp at e7
 subst e0
 subst e1
 subst e2
 subst e3
 subst e4
 subst e5
 subst e6
 subst e7
 exact ⟨⟨z0, z1, z2, a3, l3, z4, z5, z6, a7⟩, rfl, ⟨q0, q4, q5, q6, k3, sh3, s7, q3⟩, by unfold mPt; dsimp only; omega⟩
theorem decPtD {H : Type} {enc : TypeId × Value → H} {W : World} (n : Nat) (cs : List Value) (y : DataW H × List MemPlace) (h : Reads enc Tryz.prog W n 73 cs y) : ∃ (y0 : Pt) (l : List Pt), cs = ptC y0 ∧ PtQ (Old W) y0 ∧ (∀ h : Hp, Old W h → rdS 8 h y0.subsV l.length (l.flatMap ptC)) ∧ (∀ q ∈ l, PtQ (Old W) q) ∧ mPt y0 + (l.map mPt).sum ≤ Rows.uptoBulk y.1 := by
 obtain ⟨xs, m, -, rfl, hlen, hxs, hf⟩ := DataW.trod_struct Tryz.underlying73 h
 rw [show Tryz.prog.cellsOf 73 = 8 by kernel_rfl] at hlen
 obtain ⟨a0, a1, a2, a3, a4, a5, a6, a7, rfl⟩ : ∃ a0 a1 a2 a3 a4 a5 a6 a7, cs = [a0, a1, a2, a3, a4, a5, a6, a7] := by
  match cs, hlen with
  | [a0, a1, a2, a3, a4, a5, a6, a7], _ => exact ⟨a0, a1, a2, a3, a4, a5, a6, a7, rfl⟩
 obtain ⟨y0, y1, y2, y3, y4, y5, y6, y7, rfl⟩ : ∃ y0 y1 y2 y3 y4 y5 y6 y7, xs = [y0, y1, y2, y3, y4, y5, y6, y7] := by
  match xs, hxs with
  | [y0, y1, y2, y3, y4, y5, y6, y7], _ => exact ⟨y0, y1, y2, y3, y4, y5, y6, y7, rfl⟩
 try simp only [Rows.uptoBulk, Rows.uptoBulkAll, List.map_cons, List.map_nil]
 have g0 : Reads enc Tryz.prog W m 3 (([a0, a1, a2, a3, a4, a5, a6, a7] : List Value).drop 0 |>.take (Tryz.prog.cellsOf 3)) y0 := hf 0 _ rfl
 rw [show Tryz.prog.cellsOf 3 = 1 by kernel_rfl] at g0
 have p0 := bulk_pos y0.1
 obtain ⟨z0, e0, q0, r0⟩ := dec_intW Tryz.underlying3 g0
 try simp at e0
 have g1 : Reads enc Tryz.prog W m 9 (([a0, a1, a2, a3, a4, a5, a6, a7] : List Value).drop 1 |>.take (Tryz.prog.cellsOf 9)) y1 := hf 1 _ rfl
 rw [show Tryz.prog.cellsOf 9 = 1 by kernel_rfl] at g1
 have p1 := bulk_pos y1.1
 obtain ⟨z1, e1, r1⟩ := dec_strW Tryz.underlying9 g1
 try simp at e1
 have g2 : Reads enc Tryz.prog W m 9 (([a0, a1, a2, a3, a4, a5, a6, a7] : List Value).drop 2 |>.take (Tryz.prog.cellsOf 9)) y2 := hf 2 _ rfl
 rw [show Tryz.prog.cellsOf 9 = 1 by kernel_rfl] at g2
 have p2 := bulk_pos y2.1
 obtain ⟨z2, e2, r2⟩ := dec_strW Tryz.underlying9 g2
 try simp at e2
 have g3 : Reads enc Tryz.prog W m 34 (([a0, a1, a2, a3, a4, a5, a6, a7] : List Value).drop 3 |>.take (Tryz.prog.cellsOf 34)) y3 := hf 3 _ rfl
 rw [show Tryz.prog.cellsOf 34 = 1 by kernel_rfl] at g3
 have p3 := bulk_pos y3.1
 obtain ⟨⟨v3, l3⟩, e3, k3, q3, c3, r3⟩ := dec_sliceW acC (fun a => I64 a.1) mAc Tryz.underlying34 (show Tryz.prog.cellsOf 258 = 2 by kernel_rfl) (by decide) (fun n cs y h => decAc n cs y h) g3
 dsimp only at e3 k3 q3 c3 r3
 obtain ⟨sa3, sc3, hs3⟩ := rd_shape k3
 have sh3 : ∃ a n c, v3 = .slice a n c := ⟨_, _, _, hs3⟩
 try simp at e3
 have g4 : Reads enc Tryz.prog W m 3 (([a0, a1, a2, a3, a4, a5, a6, a7] : List Value).drop 4 |>.take (Tryz.prog.cellsOf 3)) y4 := hf 4 _ rfl
 rw [show Tryz.prog.cellsOf 3 = 1 by kernel_rfl] at g4
 have p4 := bulk_pos y4.1
 obtain ⟨z4, e4, q4, r4⟩ := dec_intW Tryz.underlying3 g4
 try simp at e4
 have g5 : Reads enc Tryz.prog W m 3 (([a0, a1, a2, a3, a4, a5, a6, a7] : List Value).drop 5 |>.take (Tryz.prog.cellsOf 3)) y5 := hf 5 _ rfl
 rw [show Tryz.prog.cellsOf 3 = 1 by kernel_rfl] at g5
 have p5 := bulk_pos y5.1
 obtain ⟨z5, e5, q5, r5⟩ := dec_intW Tryz.underlying3 g5
 try simp at e5
 have g6 : Reads enc Tryz.prog W m 60 (([a0, a1, a2, a3, a4, a5, a6, a7] : List Value).drop 6 |>.take (Tryz.prog.cellsOf 60)) y6 := hf 6 _ rfl
 rw [show Tryz.prog.cellsOf 60 = 1 by kernel_rfl] at g6
 have p6 := bulk_pos y6.1
 obtain ⟨z6, e6, q6, r6⟩ := dec_intW Tryz.underlying60 g6
 try simp at e6
 have g7 : Reads enc Tryz.prog W m 71 (([a0, a1, a2, a3, a4, a5, a6, a7] : List Value).drop 7 |>.take (Tryz.prog.cellsOf 71)) y7 := hf 7 _ rfl
 rw [show Tryz.prog.cellsOf 71 = 1 by kernel_rfl] at g7
 have p7 := bulk_pos y7.1
 obtain ⟨⟨v7, l7⟩, e7, k7, q7, c7, r7⟩ := dec_sliceW ptC (fun q => PtQ (Old W) q) mPt Tryz.underlying71 (show Tryz.prog.cellsOf 73 = 8 by kernel_rfl) (by decide) (fun n cs y h => decPt n cs y h) g7
 dsimp only at e7 k7 q7 c7 r7
 obtain ⟨sa7, sc7, hs7⟩ := rd_shape k7
 have sh7 : ∃ a n c, v7 = .slice a n c := ⟨_, _, _, hs7⟩
 try simp at e7
 subst e0
 subst e1
 subst e2
 subst e3
 subst e4
 subst e5
 subst e6
 subst e7
 exact ⟨⟨z0, z1, z2, a3, l3, z4, z5, z6, a7⟩, l7, rfl, ⟨q0, q4, q5, q6, k3, sh3, sh7, q3⟩, k7, q7, by unfold mPt; dsimp only; unfold mPt at r7; omega⟩
theorem decEn {H : Type} {enc : TypeId × Value → H} {W : World} (n : Nat) (cs : List Value) (y : DataW H × List MemPlace) (h : Reads enc Tryz.prog W n 75 cs y) : ∃ e : En, cs = enC e ∧ EnQ (Old W) e ∧ mEn e ≤ Rows.uptoBulk y.1 := by
 obtain ⟨xs, m, -, rfl, hlen, hxs, hf⟩ := DataW.trod_struct Tryz.underlying75 h
 rw [show Tryz.prog.cellsOf 75 = 11 by kernel_rfl] at hlen
 obtain ⟨a0, a1, a2, a3, a4, a5, a6, a7, a8, a9, a10, rfl⟩ : ∃ a0 a1 a2 a3 a4 a5 a6 a7 a8 a9 a10, cs = [a0, a1, a2, a3, a4, a5, a6, a7, a8, a9, a10] := by
  match cs, hlen with
  | [a0, a1, a2, a3, a4, a5, a6, a7, a8, a9, a10], _ => exact ⟨a0, a1, a2, a3, a4, a5, a6, a7, a8, a9, a10, rfl⟩
 obtain ⟨y0, y1, y2, y3, rfl⟩ : ∃ y0 y1 y2 y3, xs = [y0, y1, y2, y3] := by
  match xs, hxs with
  | [y0, y1, y2, y3], _ => exact ⟨y0, y1, y2, y3, rfl⟩
 try simp only [Rows.uptoBulk, Rows.uptoBulkAll, List.map_cons, List.map_nil]
 have g0 : Reads enc Tryz.prog W m 3 (([a0, a1, a2, a3, a4, a5, a6, a7, a8, a9, a10] : List Value).drop 0 |>.take (Tryz.prog.cellsOf 3)) y0 := hf 0 _ rfl
 rw [show Tryz.prog.cellsOf 3 = 1 by kernel_rfl] at g0
 have p0 := bulk_pos y0.1
 obtain ⟨z0, e0, q0, r0⟩ := dec_intW Tryz.underlying3 g0
 try simp at e0
 have g1 : Reads enc Tryz.prog W m 3 (([a0, a1, a2, a3, a4, a5, a6, a7, a8, a9, a10] : List Value).drop 1 |>.take (Tryz.prog.cellsOf 3)) y1 := hf 1 _ rfl
 rw [show Tryz.prog.cellsOf 3 = 1 by kernel_rfl] at g1
 have p1 := bulk_pos y1.1
 obtain ⟨z1, e1, q1, r1⟩ := dec_intW Tryz.underlying3 g1
 try simp at e1
 have g2 : Reads enc Tryz.prog W m 3 (([a0, a1, a2, a3, a4, a5, a6, a7, a8, a9, a10] : List Value).drop 2 |>.take (Tryz.prog.cellsOf 3)) y2 := hf 2 _ rfl
 rw [show Tryz.prog.cellsOf 3 = 1 by kernel_rfl] at g2
 have p2 := bulk_pos y2.1
 obtain ⟨z2, e2, q2, r2⟩ := dec_intW Tryz.underlying3 g2
 try simp at e2
 have g3 : Reads enc Tryz.prog W m 73 (([a0, a1, a2, a3, a4, a5, a6, a7, a8, a9, a10] : List Value).drop 3 |>.take (Tryz.prog.cellsOf 73)) y3 := hf 3 _ rfl
 rw [show Tryz.prog.cellsOf 73 = 8 by kernel_rfl] at g3
 have p3 := bulk_pos y3.1
 obtain ⟨z3, l3, e3, q3, k3, s3, r3⟩ := decPtD _ _ _ g3
 try simp [ptC, enC] at e3
 subst e0
 subst e1
 subst e2
 obtain ⟨rfl, rfl, rfl, rfl, rfl, rfl, rfl, rfl⟩ := e3
 exact ⟨⟨z0, z1, z2, z3, l3⟩, rfl, ⟨q0, q1, q2, q3, k3, s3⟩, by unfold mEn; dsimp only; omega⟩
open Go Go.ChangeShapes Go.WideShapes Go.ChangeAt Go.RowKit
theorem fm_ints (l : List Int) : (l.flatMap fun z => [vint z]) = ints l := by
 induction l with
 | nil => rfl
 | cons z l ih => rw [List.flatMap_cons, ih]; rfl
instance : Inhabited Ms := ⟨ms0 0 0⟩
instance : Inhabited St18 := ⟨⟨0, 0, nilV, [], ms0 0 0⟩⟩
theorem decReq {H : Type} {enc : TypeId × Value → H} {W : World} (n : Nat) (cs : List Value) (y : DataW H × List MemPlace) (h : Reads enc Tryz.prog W n 38 cs y) : ∃ q0 q1 q2 q3 q4 q5 q6 q7 q8 q9 : Value, cs = [q0, q1, q2, q3, q4, q5, q6, q7, q8, q9] ∧ ∀ v ∈ ([q0, q1, q2, q3, q4, q5, q6, q7, q8, q9] : List Value), isCell v = true := by
 obtain ⟨xs, m, -, rfl, hlen, hxs, hf⟩ := DataW.trod_struct Tryz.underlying38 h
 rw [show Tryz.prog.cellsOf 38 = 10 by kernel_rfl] at hlen
 obtain ⟨a0, a1, a2, a3, a4, a5, a6, a7, a8, a9, rfl⟩ : ∃ a0 a1 a2 a3 a4 a5 a6 a7 a8 a9, cs = [a0, a1, a2, a3, a4, a5, a6, a7, a8, a9] := by
  match cs, hlen with
  | [a0, a1, a2, a3, a4, a5, a6, a7, a8, a9], _ => exact ⟨a0, a1, a2, a3, a4, a5, a6, a7, a8, a9, rfl⟩
 obtain ⟨y0, y1, y2, y3, y4, y5, y6, y7, y8, y9, rfl⟩ : ∃ y0 y1 y2 y3 y4 y5 y6 y7 y8 y9, xs = [y0, y1, y2, y3, y4, y5, y6, y7, y8, y9] := by
  match xs, hxs with
  | [y0, y1, y2, y3, y4, y5, y6, y7, y8, y9], _ => exact ⟨y0, y1, y2, y3, y4, y5, y6, y7, y8, y9, rfl⟩
 try simp only [Rows.uptoBulk, Rows.uptoBulkAll, List.map_cons, List.map_nil]
 have g0 : Reads enc Tryz.prog W m 3 (([a0, a1, a2, a3, a4, a5, a6, a7, a8, a9] : List Value).drop 0 |>.take (Tryz.prog.cellsOf 3)) y0 := hf 0 _ rfl
 rw [show Tryz.prog.cellsOf 3 = 1 by kernel_rfl] at g0
 have p0 := bulk_pos y0.1
 obtain ⟨z0, e0, q0, r0⟩ := dec_intW Tryz.underlying3 g0
 try simp at e0
 have g1 : Reads enc Tryz.prog W m 3 (([a0, a1, a2, a3, a4, a5, a6, a7, a8, a9] : List Value).drop 1 |>.take (Tryz.prog.cellsOf 3)) y1 := hf 1 _ rfl
 rw [show Tryz.prog.cellsOf 3 = 1 by kernel_rfl] at g1
 have p1 := bulk_pos y1.1
 obtain ⟨z1, e1, q1, r1⟩ := dec_intW Tryz.underlying3 g1
 try simp at e1
 have g2 : Reads enc Tryz.prog W m 9 (([a0, a1, a2, a3, a4, a5, a6, a7, a8, a9] : List Value).drop 2 |>.take (Tryz.prog.cellsOf 9)) y2 := hf 2 _ rfl
 rw [show Tryz.prog.cellsOf 9 = 1 by kernel_rfl] at g2
 have p2 := bulk_pos y2.1
 obtain ⟨z2, e2, r2⟩ := dec_strW Tryz.underlying9 g2
 try simp at e2
 have g3 : Reads enc Tryz.prog W m 9 (([a0, a1, a2, a3, a4, a5, a6, a7, a8, a9] : List Value).drop 3 |>.take (Tryz.prog.cellsOf 9)) y3 := hf 3 _ rfl
 rw [show Tryz.prog.cellsOf 9 = 1 by kernel_rfl] at g3
 have p3 := bulk_pos y3.1
 obtain ⟨z3, e3, r3⟩ := dec_strW Tryz.underlying9 g3
 try simp at e3
 have g4 : Reads enc Tryz.prog W m 34 (([a0, a1, a2, a3, a4, a5, a6, a7, a8, a9] : List Value).drop 4 |>.take (Tryz.prog.cellsOf 34)) y4 := hf 4 _ rfl
 rw [show Tryz.prog.cellsOf 34 = 1 by kernel_rfl] at g4
 have p4 := bulk_pos y4.1
 obtain ⟨z4, e4, s4⟩ : ∃ z : Value, a4 = z ∧ ∃ a n c, z = .slice a n c := ⟨_, rfl, slice_shape Tryz.underlying34 g4⟩
 have ck4 : isCell z4 = true := by obtain ⟨sa, sn, sc, hs⟩ := s4; rw [hs]; rfl
 try simp at e4
 have g5 : Reads enc Tryz.prog W m 3 (([a0, a1, a2, a3, a4, a5, a6, a7, a8, a9] : List Value).drop 5 |>.take (Tryz.prog.cellsOf 3)) y5 := hf 5 _ rfl
 rw [show Tryz.prog.cellsOf 3 = 1 by kernel_rfl] at g5
 have p5 := bulk_pos y5.1
 obtain ⟨z5, e5, q5, r5⟩ := dec_intW Tryz.underlying3 g5
 try simp at e5
 have g6 : Reads enc Tryz.prog W m 3 (([a0, a1, a2, a3, a4, a5, a6, a7, a8, a9] : List Value).drop 6 |>.take (Tryz.prog.cellsOf 3)) y6 := hf 6 _ rfl
 rw [show Tryz.prog.cellsOf 3 = 1 by kernel_rfl] at g6
 have p6 := bulk_pos y6.1
 obtain ⟨z6, e6, q6, r6⟩ := dec_intW Tryz.underlying3 g6
 try simp at e6
 have g7 : Reads enc Tryz.prog W m 4 (([a0, a1, a2, a3, a4, a5, a6, a7, a8, a9] : List Value).drop 7 |>.take (Tryz.prog.cellsOf 4)) y7 := hf 7 _ rfl
 rw [show Tryz.prog.cellsOf 4 = 1 by kernel_rfl] at g7
 have p7 := bulk_pos y7.1
 obtain ⟨z7, e7⟩ := dec_bool Tryz.underlying4 g7
 try simp at e7
 have g8 : Reads enc Tryz.prog W m 35 (([a0, a1, a2, a3, a4, a5, a6, a7, a8, a9] : List Value).drop 8 |>.take (Tryz.prog.cellsOf 35)) y8 := hf 8 _ rfl
 rw [show Tryz.prog.cellsOf 35 = 1 by kernel_rfl] at g8
 have p8 := bulk_pos y8.1
 obtain ⟨z8, e8, s8⟩ : ∃ z : Value, a8 = z ∧ ∃ a n c, z = .slice a n c := ⟨_, rfl, slice_shape Tryz.underlying35 g8⟩
 have ck8 : isCell z8 = true := by obtain ⟨sa, sn, sc, hs⟩ := s8; rw [hs]; rfl
 try simp at e8
 have g9 : Reads enc Tryz.prog W m 36 (([a0, a1, a2, a3, a4, a5, a6, a7, a8, a9] : List Value).drop 9 |>.take (Tryz.prog.cellsOf 36)) y9 := hf 9 _ rfl
 rw [show Tryz.prog.cellsOf 36 = 1 by kernel_rfl] at g9
 have p9 := bulk_pos y9.1
 obtain ⟨z9, e9, s9⟩ : ∃ z : Value, a9 = z ∧ ∃ a n c, z = .slice a n c := ⟨_, rfl, slice_shape Tryz.underlying36 g9⟩
 have ck9 : isCell z9 = true := by obtain ⟨sa, sn, sc, hs⟩ := s9; rw [hs]; rfl
 try simp at e9
 subst e0
 subst e1
 subst e2
 subst e3
 subst e4
 subst e5
 subst e6
 subst e7
 subst e8
 subst e9
 exact ⟨_, _, _, _, _, _, _, _, _, _, rfl, by intro v hv; simp only [List.mem_cons, List.not_mem_nil, or_false] at hv; rcases hv with h | h | h | h | h | h | h | h | h | h <;> subst h <;> first | rfl | assumption⟩
theorem decMs {H : Type} {enc : TypeId × Value → H} {W : World} (n : Nat) (cs : List Value) (y : DataW H × List MemPlace) (h : Reads enc Tryz.prog W n 41 cs y) : ∃ m : Ms, cs = msC m ∧ (Rows.uptoBulk y.1 ≤ 1048576 → MsA (Old W) m) := by
 obtain ⟨xs, m, -, rfl, hlen, hxs, hf⟩ := DataW.trod_struct Tryz.underlying41 h
 rw [show Tryz.prog.cellsOf 41 = 19 by kernel_rfl] at hlen
 obtain ⟨a0, a1, a2, a3, a4, a5, a6, a7, a8, a9, a10, a11, a12, a13, a14, a15, a16, a17, a18, rfl⟩ : ∃ a0 a1 a2 a3 a4 a5 a6 a7 a8 a9 a10 a11 a12 a13 a14 a15 a16 a17 a18, cs = [a0, a1, a2, a3, a4, a5, a6, a7, a8, a9, a10, a11, a12, a13, a14, a15, a16, a17, a18] := by
  match cs, hlen with
  | [a0, a1, a2, a3, a4, a5, a6, a7, a8, a9, a10, a11, a12, a13, a14, a15, a16, a17, a18], _ => exact ⟨a0, a1, a2, a3, a4, a5, a6, a7, a8, a9, a10, a11, a12, a13, a14, a15, a16, a17, a18, rfl⟩
 obtain ⟨y0, y1, y2, y3, y4, y5, y6, y7, y8, y9, rfl⟩ : ∃ y0 y1 y2 y3 y4 y5 y6 y7 y8 y9, xs = [y0, y1, y2, y3, y4, y5, y6, y7, y8, y9] := by
  match xs, hxs with
  | [y0, y1, y2, y3, y4, y5, y6, y7, y8, y9], _ => exact ⟨y0, y1, y2, y3, y4, y5, y6, y7, y8, y9, rfl⟩
 try simp only [Rows.uptoBulk, Rows.uptoBulkAll, List.map_cons, List.map_nil]
 have g0 : Reads enc Tryz.prog W m 3 (([a0, a1, a2, a3, a4, a5, a6, a7, a8, a9, a10, a11, a12, a13, a14, a15, a16, a17, a18] : List Value).drop 0 |>.take (Tryz.prog.cellsOf 3)) y0 := hf 0 _ rfl
 rw [show Tryz.prog.cellsOf 3 = 1 by kernel_rfl] at g0
 have p0 := bulk_pos y0.1
 obtain ⟨z0, e0, q0, r0⟩ := dec_intW Tryz.underlying3 g0
 try simp at e0
 have g1 : Reads enc Tryz.prog W m 3 (([a0, a1, a2, a3, a4, a5, a6, a7, a8, a9, a10, a11, a12, a13, a14, a15, a16, a17, a18] : List Value).drop 1 |>.take (Tryz.prog.cellsOf 3)) y1 := hf 1 _ rfl
 rw [show Tryz.prog.cellsOf 3 = 1 by kernel_rfl] at g1
 have p1 := bulk_pos y1.1
 obtain ⟨z1, e1, q1, r1⟩ := dec_intW Tryz.underlying3 g1
 try simp at e1
 have g2 : Reads enc Tryz.prog W m 3 (([a0, a1, a2, a3, a4, a5, a6, a7, a8, a9, a10, a11, a12, a13, a14, a15, a16, a17, a18] : List Value).drop 2 |>.take (Tryz.prog.cellsOf 3)) y2 := hf 2 _ rfl
 rw [show Tryz.prog.cellsOf 3 = 1 by kernel_rfl] at g2
 have p2 := bulk_pos y2.1
 obtain ⟨z2, e2, q2, r2⟩ := dec_intW Tryz.underlying3 g2
 try simp at e2
 have g3 : Reads enc Tryz.prog W m 3 (([a0, a1, a2, a3, a4, a5, a6, a7, a8, a9, a10, a11, a12, a13, a14, a15, a16, a17, a18] : List Value).drop 3 |>.take (Tryz.prog.cellsOf 3)) y3 := hf 3 _ rfl
 rw [show Tryz.prog.cellsOf 3 = 1 by kernel_rfl] at g3
 have p3 := bulk_pos y3.1
 obtain ⟨z3, e3, q3, r3⟩ := dec_intW Tryz.underlying3 g3
 try simp at e3
 have g4 : Reads enc Tryz.prog W m 3 (([a0, a1, a2, a3, a4, a5, a6, a7, a8, a9, a10, a11, a12, a13, a14, a15, a16, a17, a18] : List Value).drop 4 |>.take (Tryz.prog.cellsOf 3)) y4 := hf 4 _ rfl
 rw [show Tryz.prog.cellsOf 3 = 1 by kernel_rfl] at g4
 have p4 := bulk_pos y4.1
 obtain ⟨z4, e4, q4, r4⟩ := dec_intW Tryz.underlying3 g4
 try simp at e4
 have g5 : Reads enc Tryz.prog W m 32 (([a0, a1, a2, a3, a4, a5, a6, a7, a8, a9, a10, a11, a12, a13, a14, a15, a16, a17, a18] : List Value).drop 5 |>.take (Tryz.prog.cellsOf 32)) y5 := hf 5 _ rfl
 rw [show Tryz.prog.cellsOf 32 = 1 by kernel_rfl] at g5
 have p5 := bulk_pos y5.1
 obtain ⟨z5, e5, s5⟩ : ∃ z : Value, a5 = z ∧ ∃ a n c, z = .slice a n c := ⟨_, rfl, slice_shape Tryz.underlying32 g5⟩
 have ck5 : isCell z5 = true := by obtain ⟨sa, sn, sc, hs⟩ := s5; rw [hs]; rfl
 try simp at e5
 have g6 : Reads enc Tryz.prog W m 9 (([a0, a1, a2, a3, a4, a5, a6, a7, a8, a9, a10, a11, a12, a13, a14, a15, a16, a17, a18] : List Value).drop 6 |>.take (Tryz.prog.cellsOf 9)) y6 := hf 6 _ rfl
 rw [show Tryz.prog.cellsOf 9 = 1 by kernel_rfl] at g6
 have p6 := bulk_pos y6.1
 obtain ⟨z6, e6, r6⟩ := dec_strW Tryz.underlying9 g6
 try simp at e6
 have g7 : Reads enc Tryz.prog W m 33 (([a0, a1, a2, a3, a4, a5, a6, a7, a8, a9, a10, a11, a12, a13, a14, a15, a16, a17, a18] : List Value).drop 7 |>.take (Tryz.prog.cellsOf 33)) y7 := hf 7 _ rfl
 rw [show Tryz.prog.cellsOf 33 = 1 by kernel_rfl] at g7
 have p7 := bulk_pos y7.1
 obtain ⟨⟨v7, l7⟩, e7, k7, q7, c7, r7⟩ := dec_sliceW enC (fun e => EnQ (Old W) e) mEn Tryz.underlying33 (show Tryz.prog.cellsOf 75 = 11 by kernel_rfl) (by decide) (fun n cs y h => decEn n cs y h) g7
 dsimp only at e7 k7 q7 c7 r7
 have ck7 : isCell v7 = true := by obtain ⟨sa, sc, hs⟩ := rd_shape k7; rw [hs]; rfl
 try simp at e7
 have g8 : Reads enc Tryz.prog W m 38 (([a0, a1, a2, a3, a4, a5, a6, a7, a8, a9, a10, a11, a12, a13, a14, a15, a16, a17, a18] : List Value).drop 8 |>.take (Tryz.prog.cellsOf 38)) y8 := hf 8 _ rfl
 rw [show Tryz.prog.cellsOf 38 = 10 by kernel_rfl] at g8
 have p8 := bulk_pos y8.1
 obtain ⟨u0, u1, u2, u3, u4, u5, u6, u7, u8, u9, e8, ck8⟩ := decReq _ _ _ g8
 try simp [ptC, enC] at e8
 have g9 : Reads enc Tryz.prog W m 39 (([a0, a1, a2, a3, a4, a5, a6, a7, a8, a9, a10, a11, a12, a13, a14, a15, a16, a17, a18] : List Value).drop 18 |>.take (Tryz.prog.cellsOf 39)) y9 := hf 9 _ rfl
 rw [show Tryz.prog.cellsOf 39 = 1 by kernel_rfl] at g9
 have p9 := bulk_pos y9.1
 obtain ⟨z9, e9, s9⟩ : ∃ z : Value, a18 = z ∧ ∃ a n c, z = .slice a n c := ⟨_, rfl, slice_shape Tryz.underlying39 g9⟩
 have ck9 : isCell z9 = true := by obtain ⟨sa, sn, sc, hs⟩ := s9; rw [hs]; rfl
 try simp at e9
 subst e0
 subst e1
 subst e2
 subst e3
 subst e4
 subst e5
 subst e6
 subst e7
 obtain ⟨rfl, rfl, rfl, rfl, rfl, rfl, rfl, rfl, rfl, rfl⟩ := e8
 subst e9
 exact ⟨⟨z0, z1, z2, z3, z4, a5, z6, a7, l7, a8, a9, a10, a11, a12, a13, a14, a15, a16, a17, a18⟩, rfl, fun hb => ⟨q0, q1, q2, q3, by intro v hv; simp only [msC, List.mem_cons, List.not_mem_nil, or_false] at hv; rcases hv with h | h | h | h | h | h | h | h | h | h | h | h | h | h | h | h | h | h | h <;> subst h <;> first | rfl | assumption | exact ck8 _ (by simp), by dsimp only; omega, k7, by dsimp only; omega, fun e he => (q7 e he).X (by have := sum_mem (m := mEn) (l := l7) he; omega)⟩⟩
theorem decSt {H : Type} {enc : TypeId × Value → H} {W : World} (n : Nat) (cs : List Value) (y : DataW H × List MemPlace) (h : Reads enc Tryz.prog W n 43 cs y) : ∃ o : St18, cs = st18C o ∧ (Rows.uptoBulk y.1 ≤ 1048576 → St18A (Old W) o) := by
 obtain ⟨xs, m, -, rfl, hlen, hxs, hf⟩ := DataW.trod_struct Tryz.underlying43 h
 rw [show Tryz.prog.cellsOf 43 = 22 by kernel_rfl] at hlen
 obtain ⟨a0, a1, a2, a3, a4, a5, a6, a7, a8, a9, a10, a11, a12, a13, a14, a15, a16, a17, a18, a19, a20, a21, rfl⟩ : ∃ a0 a1 a2 a3 a4 a5 a6 a7 a8 a9 a10 a11 a12 a13 a14 a15 a16 a17 a18 a19 a20 a21, cs = [a0, a1, a2, a3, a4, a5, a6, a7, a8, a9, a10, a11, a12, a13, a14, a15, a16, a17, a18, a19, a20, a21] := by
  match cs, hlen with
  | [a0, a1, a2, a3, a4, a5, a6, a7, a8, a9, a10, a11, a12, a13, a14, a15, a16, a17, a18, a19, a20, a21], _ => exact ⟨a0, a1, a2, a3, a4, a5, a6, a7, a8, a9, a10, a11, a12, a13, a14, a15, a16, a17, a18, a19, a20, a21, rfl⟩
 obtain ⟨y0, y1, y2, y3, rfl⟩ : ∃ y0 y1 y2 y3, xs = [y0, y1, y2, y3] := by
  match xs, hxs with
  | [y0, y1, y2, y3], _ => exact ⟨y0, y1, y2, y3, rfl⟩
 try simp only [Rows.uptoBulk, Rows.uptoBulkAll, List.map_cons, List.map_nil]
 have g0 : Reads enc Tryz.prog W m 3 (([a0, a1, a2, a3, a4, a5, a6, a7, a8, a9, a10, a11, a12, a13, a14, a15, a16, a17, a18, a19, a20, a21] : List Value).drop 0 |>.take (Tryz.prog.cellsOf 3)) y0 := hf 0 _ rfl
 rw [show Tryz.prog.cellsOf 3 = 1 by kernel_rfl] at g0
 have p0 := bulk_pos y0.1
 obtain ⟨z0, e0, q0, r0⟩ := dec_intW Tryz.underlying3 g0
 try simp at e0
 have g1 : Reads enc Tryz.prog W m 3 (([a0, a1, a2, a3, a4, a5, a6, a7, a8, a9, a10, a11, a12, a13, a14, a15, a16, a17, a18, a19, a20, a21] : List Value).drop 1 |>.take (Tryz.prog.cellsOf 3)) y1 := hf 1 _ rfl
 rw [show Tryz.prog.cellsOf 3 = 1 by kernel_rfl] at g1
 have p1 := bulk_pos y1.1
 obtain ⟨z1, e1, q1, r1⟩ := dec_intW Tryz.underlying3 g1
 try simp at e1
 have g2 : Reads enc Tryz.prog W m 32 (([a0, a1, a2, a3, a4, a5, a6, a7, a8, a9, a10, a11, a12, a13, a14, a15, a16, a17, a18, a19, a20, a21] : List Value).drop 2 |>.take (Tryz.prog.cellsOf 32)) y2 := hf 2 _ rfl
 rw [show Tryz.prog.cellsOf 32 = 1 by kernel_rfl] at g2
 have p2 := bulk_pos y2.1
 obtain ⟨⟨v2, l2⟩, e2, k2, q2, c2, r2⟩ := dec_sliceW (fun z => [vint z]) (fun z => I64 z) (fun _ => 1) Tryz.underlying32 (show Tryz.prog.cellsOf 3 = 1 by kernel_rfl) (by decide) (fun n cs y h => dec_intW Tryz.underlying3 h) g2
 dsimp only at e2 k2 q2 c2 r2
 have ck2 : isCell v2 = true := by obtain ⟨sa, sc, hs⟩ := rd_shape k2; rw [hs]; rfl
 try simp at e2
 have g3 : Reads enc Tryz.prog W m 41 (([a0, a1, a2, a3, a4, a5, a6, a7, a8, a9, a10, a11, a12, a13, a14, a15, a16, a17, a18, a19, a20, a21] : List Value).drop 3 |>.take (Tryz.prog.cellsOf 41)) y3 := hf 3 _ rfl
 rw [show Tryz.prog.cellsOf 41 = 19 by kernel_rfl] at g3
 have p3 := bulk_pos y3.1
 obtain ⟨m3, e3, q3⟩ := decMs _ _ _ g3
 try simp [ptC, enC, msC] at e3
 subst e0
 subst e1
 subst e2
 obtain ⟨rfl, rfl, rfl, rfl, rfl, rfl, rfl, rfl, rfl, rfl, rfl, rfl, rfl, rfl, rfl, rfl, rfl, rfl, rfl⟩ := e3
 exact ⟨⟨z0, z1, a2, l2, m3⟩, rfl, fun hb => ⟨q0, q1, fun h hp => by rw [← fm_ints]; exact k2 h hp, by dsimp only; omega, q3 (by omega), ck2⟩⟩
theorem sum_at {l : List Nat} {i : Nat} (h : i < l.length) : l[i] ≤ l.sum := by
 have := sum_mem (m := id) (l := l) (List.getElem_mem h)
 simpa using this
theorem dec_sts18 {H : Type} {enc : TypeId × Value → H} {W : World} {fuel : Nat} {cs : List Value} {x : DataW H × List MemPlace} (h : Reads enc Tryz.prog W fuel 22 cs x) (hb : Rows.uptoBulk x.1 ≤ 1048576) : ∃ (v : Value) (xs : List St18), cs = [v] ∧ Sts18 (Old W) v xs := by
 obtain ⟨⟨v, xs⟩, ws, h1, h2, h3, h4, h5, -, h7⟩ := dec_sliceQV (N := 1048576) st18C (fun B o => B ≤ 1048576 → St18A (Old W) o) Tryz.underlying22 (show Tryz.prog.cellsOf 43 = 22 by kernel_rfl) (by decide) (fun n cs y h => decSt n cs y h) h (by omega)
 dsimp only at h1 h2 h3 h4 h7
 refine ⟨v, xs, h1, h2, h3, fun o ho => ?_⟩
 obtain ⟨i, hi, rfl⟩ := List.mem_iff_getElem.1 ho
 have hw : i < ws.length := by omega
 exact h7 i hi hw (Nat.le_trans (sum_at hw) h5)
end Go.Proofs.YteebpmkkdlabpaaGreat
namespace Go.Proofs.YteebpmkkdlabpaaGreat.followKeeps
open Go Go.ChangeShapes Go.WideShapes Go.ChangeAt Go.RowKit
theorem own : ownKnob Tryz.prog.godebug = none := by kernel_rfl
theorem laid : laidOutB Tryz.prog = true := by kernel_rfl
theorem readable : ∀ t ∈ Tryz.f3.params.toList, Tryz.prog.readableRec t = true ∧ t < Tryz.prog.types.size := by
 have h : (Tryz.f3.params.toList.all fun t => Tryz.prog.readableRec t && decide (t < Tryz.prog.types.size)) = true := by kernel_rfl
 intro t ht
 simpa using List.all_eq_true.1 h t ht
theorem contract (H : Type) (enc : TypeId × Value → H) (W : World) (base : Nat) (args : Array Value) (ds gs : List (DataW H)) (before : List MemPlace)
  (hval : ∀ (j : Nat) t v, Tryz.f3.params[j]? = some t → args[j]? = some v → Value.okWide Tryz.prog W .any base t v)
  (hW : DataW.Whole enc Tryz.prog Tryz.f3.params.toList Rows.followKeepsSpec.vars false W args.toList ds gs before) (hk : Rows.uptoSmall H (ds ++ gs) = true) :
  Calls Tryz.prog 3 args W fun e W' => ∃ v, e = .returned v ∧ Rows.followKeepsSpec.post enc Tryz.prog Tryz.f3 false true false false W args v W' := by
 have hW' := hW
 obtain ⟨p, q, hA, hV, rfl, hfz, hnd⟩ := hW
 obtain ⟨rfl, -⟩ := trodVars_none hV
 rw [List.append_nil] at hk
 have hpar : Tryz.f3.params = #[22] := Tryz.params3
 rw [hpar] at hval
 have hA' := hA
 rw [hpar] at hA'
 obtain ⟨v0, vs0, d0, ds0, p0, r0, ha0, rfl, rfl, h0, t0⟩ := trodAll_cons hA'
 obtain ⟨hv, rfl, rfl⟩ := trodAll_nil t0
 obtain rfl : args = #[v0] := by
  have e : args.toList = [v0] := by rw [ha0, hv]
  cases args; simp_all
 have b0 := bulk_small hk (d := d0) (by simp)
 obtain ⟨ad0, nn0, cp0, rfl⟩ := okWide_slice Tryz.underlying22 (hval 0 _ _ rfl rfl)
 obtain ⟨fu0, g0⟩ := h0
 obtain ⟨v0, xs0, e0, q0⟩ := dec_sts18 g0 b0
 simp [Value.cells] at e0
 subst e0
 refine (old_calls (followKeeps_spec _ xs0 (Old W) q0)).mono fun e W' ⟨he, hb⟩ => ⟨_, he, ?_⟩
 exact settled hW' rfl (fun gs' h => by subst h; rfl) rfl Tryz.underlying4 laid readable hb
theorem lifted (os : Os) (started : os.Started) (H : Type) (enc : TypeId × Value → H) (F : Stop.Interp) :
  ReturnsInHanded {} Tryz.checked os 3 .any ((Rows.OpenSpec.upto Rows.followKeepsSpec).pre6 enc Tryz.prog Tryz.f3 Rows.followKeepsUptoRow.domain false) (((Rows.OpenSpec.upto Rows.followKeepsSpec).at F).post enc Tryz.prog Tryz.f3 false true false false) := by
 refine returnsInHanded_of_cond (C := Tryz.checked) (s := Rows.OpenSpec.upto Rows.followKeepsSpec) (k := Rows.uptoSmall) rfl own started (by kernel_rfl) Tryz.func3
  (OpenSpec.witness (enc := enc) (C := Tryz.checked) (s := Rows.OpenSpec.upto Rows.followKeepsSpec) (k := Rows.uptoSmall) rfl false ⟨#[], #[.slice none 0 0], []⟩ 8 (by kernel_rfl) (by kernel_rfl) (by kernel_rfl)
   (x := ([.nil], [], [])) (by kernel_rfl) rfl (by kernel_rfl)) ?_
 intro W base args ds gs before hval hW _ hk _
 exact contract H enc W base args ds gs before hval hW hk
theorem proved : Rows.FollowKeepsUptoSaid :=
 OpenClaim.holds_of_cond 3 Tryz.f3 rfl rfl rfl rfl rfl rfl rfl ⟨rfl, rfl, rfl, rfl, rfl⟩ rfl rfl rfl rfl rfl (by kernel_rfl) Tryz.func3 (by kernel_rfl)
  (of_decide_eq_true (by kernel_rfl)) (by unfold Func.isWrapper; first | (rw [if_pos (by decide +kernel)]; kernel_rfl) | (rw [if_neg (by decide +kernel)]; exact ⟨rfl, rfl⟩))
  (fun os started H enc _ F => lifted os started H enc F)
end Go.Proofs.YteebpmkkdlabpaaGreat.followKeeps
