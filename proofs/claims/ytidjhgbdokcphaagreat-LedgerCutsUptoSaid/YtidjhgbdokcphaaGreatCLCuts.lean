/- Own work, some of it printed by program, texts that were built one by one and are laid one behind the other here: a ledger on a disk that may die: what its calls do, and what lies behind a crash: plain. | three operations that are ready in a region that draws its order. | package ledger: Cut, Install, Compact: walked. | parts of slices; a ledger that is being made. | package ledger: renew, Compact, Install: walked. | scripts of law 09: plain. | LedgerMarks: walked. | a formatted ledger, and what opens behind a crash: plain. | what a ledger tells, in memory: plain. | same, told, equal: walked. | pick, text, does; LedgerEpochs: walked. | scripts on a disk that lives; how marks are counted: plain. | LedgerCuts: plain. | LedgerCuts: walked. | from what a call is given to the atoms of SlCore, and back to what a statement asks. | strings and rows of strings as arguments. | nested arguments decoded: slices of structs, and what the row says of their weight. | arguments of a bounded bulk (the second form's bound), decoded. | arguments of law 09, decoded with their weights. | scripts of law 09, decoded. | ledgerCuts: the walk, brought to the given second form and its card. -/
import Derived.Test.YtidjhgbdokcphaaGreatCLCutsP3
import Derived.Test.YtidjhgbdokcphaaGreatCLCutsP0
import Derived.Test.YtidjhgbdokcphaaGreatRows
import Derived.WalkKit
import Derived.ProofKit
import Derived.OpenShut
import Derived.JoinedCond
import Derived.Carry
import Derived.Deep.Grids
import Derived.Handed
import Derived.Deep.Strs
set_option linter.unusedSimpArgs false
set_option linter.unusedVariables false
/- Own work: a ledger on a disk that may die: what its calls do, and what lies behind a crash: plain. -/

namespace Go.Proofs.YtidjhgbdokcphaaGreat
open Go

def Ld.calm (s : Ld) : Ld := ⟨s.δ.calm, s.ω, s.Λ⟩
theorem metE_two {e : Int} : metE e = 2 ↔ e = 2 := by unfold metE; split <;> omega
/-- A call's end: the log's answer, and what becomes of the ledger. -/
def endL (Λ : Lg) (f : Lg → Lg) (r : Dk × Wl × Int) : Ld × Int := if (metL Λ r).2 = 0 then (⟨r.1, r.2.1, f (metL Λ r).1.Λ⟩, 0) else metL Λ r
theorem endL_calm (Λ : Lg) (f : Lg → Lg) (r : Dk × Wl × Int) : endL Λ f (r.1.calm, r.2) = ((endL Λ f r).1.calm, (endL Λ f r).2) := by
  unfold endL
  by_cases h : metE r.2.2 = 0
  · rw [if_pos (show (metL Λ (r.1.calm, r.2)).2 = 0 from h), if_pos (show (metL Λ r).2 = 0 from h)]; rfl
  · rw [if_neg (show ¬ (metL Λ (r.1.calm, r.2)).2 = 0 from h), if_neg (show ¬ (metL Λ r).2 = 0 from h)]; rfl
theorem endL_err (Λ : Lg) (f : Lg → Lg) (r : Dk × Wl × Int) : (endL Λ f r).2 = metE r.2.2 ∧ (endL Λ f r).1.δ = r.1 ∧ (endL Λ f r).1.ω = r.2.1 := by
  unfold endL
  by_cases h : metE r.2.2 = 0
  · rw [if_pos (show (metL Λ r).2 = 0 from h)]; exact ⟨h.symm, rfl, rfl⟩
  · rw [if_neg (show ¬ (metL Λ r).2 = 0 from h)]; exact ⟨rfl, rfl, rfl⟩
theorem endL_ne {Λ : Lg} {f : Lg → Lg} {r : Dk × Wl × Int} (h : (endL Λ f r).2 ≠ 2) : r.2.2 ≠ 2 := by
  intro g; rw [(endL_err Λ f r).1, g] at h; exact h rfl
theorem app_end (δ : Dk) (ω : Wl) (Λ : Lg) (e : En) : (∃ z, (∀ δ', halfZ δ' = halfZ δ → lgAppend ⟨δ', ω, Λ⟩ e = (⟨δ', ω, Λ⟩, z)) ∧ z ≠ 0 ∧ (z = 2 → Λ.doubt = true)) ∨ (∀ δ', halfZ δ' = halfZ δ → lgAppend ⟨δ', ω, Λ⟩ e = endL Λ (fun L => L.keep (enB e) e.zx) (appendZ δ' ω (enB e))) := by
  by_cases h1 : Λ.doubt = true
  · exact .inl ⟨2, fun δ' _ => by unfold lgAppend; rw [if_pos h1], by decide, fun _ => h1⟩
  by_cases h2 : fitsE e = false
  · exact .inl ⟨1, fun δ' _ => by unfold lgAppend; rw [if_neg h1, if_pos h2], by decide, fun g => absurd g (by decide)⟩
  by_cases h3 : e.zx ≤ lastZ Λ
  · exact .inl ⟨81, fun δ' _ => by unfold lgAppend; rw [if_neg h1, if_neg h2, if_pos h3], by decide, fun g => absurd g (by decide)⟩
  by_cases h4 : Λ.ents.length = 200 ∨ ((enB e).length : Int) > roomZ δ ω
  · exact .inl ⟨83, fun δ' hh => by unfold lgAppend; rw [if_neg h1, if_neg h2, if_neg h3, if_pos (by show Λ.ents.length = 200 ∨ ((enB e).length : Int) > roomZ δ' ω; rw [show roomZ δ' ω = roomZ δ ω by unfold roomZ; rw [hh]]; exact h4)], by decide, fun g => absurd g (by decide)⟩
  · exact .inr fun δ' hh => by unfold lgAppend; rw [if_neg h1, if_neg h2, if_neg h3, if_neg (by show ¬ (Λ.ents.length = 200 ∨ ((enB e).length : Int) > roomZ δ' ω); rw [show roomZ δ' ω = roomZ δ ω by unfold roomZ; rw [hh]]; exact h4)]; rfl
theorem sync_end (ω : Wl) (Λ : Lg) (h1 : Λ.doubt = false) (δ' : Dk) : lgSync ⟨δ', ω, Λ⟩ = endL Λ id (syncZ δ' ω) := by
  unfold lgSync; rw [if_neg (by rw [h1]; decide)]
  unfold endL
  by_cases h : metE (syncZ δ' ω).2.2 = 0
  · rw [if_pos (show (metL Λ (syncZ δ' ω)).2 = 0 from h), ← h]; rfl
  · rw [if_neg (show ¬ (metL Λ (syncZ δ' ω)).2 = 0 from h)]
def cutL (Λ : Lg) (n : Nat) : Lg := ⟨Λ.acc, Λ.cur, Λ.base, Λ.snap, Λ.ents.take n, Λ.zxs.take n, Λ.doubt⟩
theorem cut_end (ω : Wl) (Λ : Lg) (n : Nat) (δ' : Dk) : lgCut2 ⟨δ', ω, Λ⟩ n = endL Λ (fun _ => cutL Λ n) (cutZ δ' ω (((headL Λ.base Λ.snap).length + n : Nat) : Int)) := rfl
def newL (Λ : Lg) (base : Int) (snap : Bs) (es : List Bs) (zs : List Int) : Lg := ⟨Λ.acc, Λ.cur, base, snap, es, zs, Λ.doubt⟩
/-! ### What lasts -/
def Ld.kept (s : Ld) : Nat := (s.ω.synced - (headL s.Λ.base s.Λ.snap).length).toNat
def Ld.syn (s : Ld) : Lg := ⟨s.Λ.acc, s.Λ.cur, s.Λ.base, s.Λ.snap, s.Λ.ents.take s.kept, s.Λ.zxs.take s.kept, false⟩
structure LLv (s : Ld) (N : Int) : Prop where
  lv : Lv s.δ s.ω N
  lw : LWell s.calm N
  head : ((headL s.Λ.base s.Λ.snap).length : Int) ≤ s.ω.synced
theorem LLv.more {s : Ld} {N M : Int} (h : LLv s N) (hN : N ≤ M) : LLv s M := ⟨h.lv.more hN, h.lw.more hN, h.head⟩
theorem LgW.cut {Λ : Lg} (h : LgW Λ) (k : Nat) (d : Bool) : LgW ⟨Λ.acc, Λ.cur, Λ.base, Λ.snap, Λ.ents.take k, Λ.zxs.take k, d⟩ :=
  ⟨by have := h.few; show (Λ.ents.take k).length ≤ 200; rw [List.length_take]; omega, fun x hx => h.each x (List.mem_of_mem_take hx), h.base, h.snap, h.rows.take k, h.eps⟩
theorem syn_W {s : Ld} {N : Int} (h : LLv s N) : LgW s.syn := h.lw.w.cut s.kept false
theorem syn_rows {s : Ld} {N : Int} (h : LLv s N) : s.ω.recs.take s.ω.synced.toNat = headL s.syn.base s.syn.snap ++ s.syn.ents := by
  have hr : s.ω.recs = headL s.Λ.base s.Λ.snap ++ s.Λ.ents := h.lw.recs
  have := h.head
  rw [hr, List.take_append, List.take_of_length_le (by omega)]
  unfold Ld.syn Ld.kept; dsimp only
  congr 2; omega
theorem syn_full {s : Ld} {N : Int} (h : LLv s N) (hs : s.ω.synced = s.ω.recs.length) : s.syn = s.Λ := by
  have hr : s.ω.recs = headL s.Λ.base s.Λ.snap ++ s.Λ.ents := h.lw.recs
  have hl := h.lw.w.rows.len
  have hk : s.kept = s.Λ.ents.length := by unfold Ld.kept; rw [hs, hr, List.length_append]; omega
  have hd : s.Λ.doubt = false := h.lw.live
  unfold Ld.syn
  rw [hk, List.take_of_length_le (Nat.le_refl _), List.take_of_length_le (show s.Λ.zxs.length ≤ _ by rw [show s.Λ.zxs.length = s.Λ.ents.length from hl]; exact Nat.le_refl _), ← hd]
theorem sameZ_eq {ω : Wl} {l : List Bs} {a b : Int} (h : sameZ ω (l, a, b) = true) (hd : ω.doubt = false) : ω.recs = l ∧ ω.a = a ∧ ω.b = b ∧ ω.synced = ω.recs.length := by
  unfold sameZ tl at h
  rw [hd] at h
  simp only [Bool.and_eq_true, decide_eq_true_eq, Bool.false_eq_true, if_false] at h
  exact ⟨h.1.1.1.symm, h.1.1.2.symm, h.1.2.symm, h.2⟩
/-- A log that was opened, with a ledger's records: it is that ledger's. -/
structure Back (σ : Dk) (N : Int) (Λ' : Lg) : Prop where
  open_ : ∃ ω', openZ σ = some ω' ∧ openLZ ω' = some Λ' ∧ LLv ⟨σ, ω', Λ'⟩ N ∧ ω'.synced = ω'.recs.length
theorem open_of {σ : Dk} {ω' : Wl} {N : Int} {Λ' : Lg} (hL : Lv σ ω' N) (ho : openZ σ = some ω') (hs : sameZ ω' (headL Λ'.base Λ'.snap ++ Λ'.ents, Λ'.acc, Λ'.cur) = true) (hw : LgW Λ') (hd : Λ'.doubt = false) : Back σ N Λ' := by
  obtain ⟨h1, h2, h3, h4⟩ := sameZ_eq hs hL.well.doubt
  refine ⟨ω', ho, ?_, ⟨hL, ⟨hL.well, hw, hd, h1, h2, h3⟩, ?_⟩, h4⟩
  · unfold openLZ
    have := hw.eps
    rw [if_neg (by rw [h2, h3]; omega), h1, h2, h3]
    exact lparse_back hw hd
  · show ((headL Λ'.base Λ'.snap).length : Int) ≤ ω'.synced
    rw [h4, h1, List.length_append]; omega
theorem told_syn {s : Ld} {N : Int} (h : LLv s N) : toldZ s.ω false = headL s.syn.base s.syn.snap ++ s.syn.ents := by
  rw [← syn_rows h]
  unfold toldZ tl
  rw [show s.ω.doubt = false from h.lw.well.doubt]; rfl
theorem back_syn {s : Ld} {N M : Int} (h : LLv s N) {σ : Dk} {ω' : Wl} (hL : Lv σ ω' M) (ho : openZ σ = some ω') (hs : sameZ ω' (toldZ s.ω false, s.ω.a, s.ω.b) = true) : Back σ M s.syn := by
  rw [told_syn h, show s.ω.a = s.syn.acc from h.lw.a, show s.ω.b = s.syn.cur from h.lw.b] at hs
  exact open_of hL ho hs (syn_W h) rfl
/-- What a call leaves, and what lies behind a crash where it died. -/
structure LRes (s : Ld) (N : Int) (r : Ld × Int) (rc : Ld × Int) (Q : Lg → Prop) : Prop where
  live : r.2 ≠ 2 → LLv r.1 (N + 4000000) ∧ rc = (r.1.calm, r.2)
  dead : r.2 = 2 → r.1.δ.Ok → ∀ how, ∃ Λ', Back (r.1.δ.crash how) (N + 4000000) Λ' ∧ (Λ' = s.syn ∨ Q Λ')
theorem LRes.same {s : Ld} {N : Int} (h : LLv s N) {e : Int} (he : e = 2 → s.Λ.doubt = true) {rc : Ld × Int} (hr : rc = (s.calm, e)) {Q : Lg → Prop} : LRes s N (s, e) rc Q :=
  ⟨fun _ => ⟨h.more (by omega), hr⟩, fun g => by have h1 := he g; have h2 : s.Λ.doubt = false := h.lw.live; rw [h1] at h2; cases h2⟩
theorem Back.more {σ : Dk} {N M : Int} {Λ' : Lg} (h : Back σ N Λ') (hN : N ≤ M) : Back σ M Λ' := by
  obtain ⟨ω', h1, h2, h3, h4⟩ := h.open_
  exact ⟨ω', h1, h2, h3.more hN, h4⟩
/-- From a log's call to the ledger's. -/
theorem res_end {δ : Dk} {ω : Wl} {Λ : Lg} {N : Int} {f : Lg → Lg} {r rc : Dk × Wl × Int} {B : Sta × Bool} {k : Int} {Q : Lg → Prop} (h : LLv ⟨δ, ω, Λ⟩ N) (hR : Res δ ω N r B k) (hc : r.2.2 ≠ 2 → rc = (r.1.calm, r.2))
    (hw : r.2.2 ≠ 2 → LWell (endL Λ f rc).1 (N + 4000000)) (hh : r.2.2 ≠ 2 → ((headL (endL Λ f r).1.Λ.base (endL Λ f r).1.Λ.snap).length : Int) ≤ r.2.1.synced)
    (hB : B.2 = true → ∃ Λ', Q Λ' ∧ LgW Λ' ∧ Λ'.doubt = false ∧ B.1 = (headL Λ'.base Λ'.snap ++ Λ'.ents, Λ'.acc, Λ'.cur)) : LRes ⟨δ, ω, Λ⟩ N (endL Λ f r) (endL Λ f rc) Q := by
  obtain ⟨e1, e2, e3⟩ := endL_err Λ f r
  refine ⟨fun g => ?_, fun g hok how => ?_⟩
  · have g' := endL_ne g
    have hcc : endL Λ f rc = ((endL Λ f r).1.calm, (endL Λ f r).2) := by rw [hc g']; exact endL_calm Λ f r
    refine ⟨⟨?_, ?_, ?_⟩, hcc⟩
    · rw [e2, e3]; exact (hR.live g').more (by omega)
    · have := hw g'; rw [hcc] at this; exact this
    · rw [e3]; exact hh g'
  · have g' : r.2.2 = 2 := by rw [e1] at g; exact metE_two.1 g
    rw [e2] at hok ⊢
    obtain ⟨ω', w1, w2, w3⟩ := hR.dead g' hok how
    rcases w3 with w3 | ⟨b1, w3⟩
    · exact ⟨_, (back_syn h w1 w2 w3).more (by omega), .inl rfl⟩
    · obtain ⟨Λ', q1, q2, q3, q4⟩ := hB b1
      rw [q4] at w3
      exact ⟨Λ', (open_of w1 w2 w3 q2 q3).more (by omega), .inr q1⟩
theorem append_syn (δ : Dk) (ω : Wl) (s : Bs) : (appendZ δ ω s).2.1.synced = ω.synced := by
  unfold appendZ
  repeat' split
  all_goals first | rfl | (unfold dbt; split <;> rfl)
theorem endL_base {Λ : Lg} {f : Lg → Lg} (hf : ∀ L : Lg, (f L).base = L.base ∧ (f L).snap = L.snap) (r : Dk × Wl × Int) : (endL Λ f r).1.Λ.base = Λ.base ∧ (endL Λ f r).1.Λ.snap = Λ.snap := by
  have hm : ∀ e, (Λ.met e).base = Λ.base ∧ (Λ.met e).snap = Λ.snap := fun e => by unfold Lg.met; split <;> exact ⟨rfl, rfl⟩
  unfold endL
  split
  · exact ⟨(hf _).1.trans (hm _).1, (hf _).2.trans (hm _).2⟩
  · exact hm _
theorem lr_append {s : Ld} {N : Int} (h : LLv s N) {e : En} (he : EnI e) : LRes s N (lgAppend s e) (lgAppend s.calm e) (fun _ => False) := by
  obtain ⟨δ, ω, Λ⟩ := s
  have hk := (lk_append h.lw he).well
  rcases app_end δ ω Λ e with ⟨z, h1, h2, h3⟩ | h1
  · show LRes _ N (lgAppend ⟨δ, ω, Λ⟩ e) (lgAppend ⟨δ.calm, ω, Λ⟩ e) _
    rw [h1 δ rfl, h1 δ.calm rfl]
    exact LRes.same h h3 rfl
  · show LRes _ N (lgAppend ⟨δ, ω, Λ⟩ e) (lgAppend ⟨δ.calm, ω, Λ⟩ e) _
    have hk' : LWell (lgAppend ⟨δ.calm, ω, Λ⟩ e).1 (N + 4000000) := hk
    rw [h1 δ.calm rfl] at hk'
    rw [h1 δ rfl, h1 δ.calm rfl]
    refine res_end h (append_res h.lv (enB e) (B := ([], 0, 0))) (fun g => calm_append h.lv.dead h.lw.well.doubt g) (fun _ => hk') (fun _ => ?_) (fun g => by cases g)
    rw [append_syn, (endL_base (f := (fun L => L.keep (enB e) e.zx)) (fun L => ⟨rfl, rfl⟩) _).1, (endL_base (f := (fun L => L.keep (enB e) e.zx)) (fun L => ⟨rfl, rfl⟩) _).2]
    exact h.head
theorem lr_sync {s : Ld} {N : Int} (h : LLv s N) : LRes s N (lgSync s) (lgSync s.calm) (fun L => L = s.Λ) := by
  obtain ⟨δ, ω, Λ⟩ := s
  have hd : Λ.doubt = false := h.lw.live
  have hr : ω.recs = headL Λ.base Λ.snap ++ Λ.ents := h.lw.recs
  obtain ⟨k1, -, k3, k4, k5⟩ := lk_sync h.lw
  have hk' : LWell (lgSync ⟨δ.calm, ω, Λ⟩).1 (N + 2000000) := k1
  show LRes _ N (lgSync ⟨δ, ω, Λ⟩) (lgSync ⟨δ.calm, ω, Λ⟩) _
  rw [sync_end ω Λ hd δ.calm] at hk'
  rw [sync_end ω Λ hd, sync_end ω Λ hd]
  refine res_end (k := 2) h (sync_res h.lv) (fun g => calm_syncZ h.lv.dead h.lw.well.doubt g) (fun _ => hk'.more (by omega)) (fun g => ?_) (fun _ => ⟨Λ, rfl, h.lw.w, hd, ?_⟩)
  · rw [(endL_base (f := id) (fun L => ⟨rfl, rfl⟩) _).1, (endL_base (f := id) (fun L => ⟨rfl, rfl⟩) _).2]
    have hh : ((headL Λ.base Λ.snap).length : Int) ≤ ω.synced := h.head
    unfold syncZ at g ⊢
    rw [if_neg (by rw [show ω.doubt = false from h.lw.well.doubt]; decide)] at g ⊢
    split
    · exact hh
    · rename_i h1
      rw [if_neg h1] at g
      split
      · exact hh
      · rename_i h2
        rw [if_neg h2] at g
        rw [seal_live g]
        show _ ≤ ((ω.recs.length : Nat) : Int)
        rw [hr, List.length_append]; omega
  · show (toldZ ω true, ω.a, ω.b) = _
    rw [show toldZ ω true = ω.recs by unfold toldZ tl; rw [show ω.doubt = false from h.lw.well.doubt]; rfl, hr, show ω.a = Λ.acc from h.lw.a, show ω.b = Λ.cur from h.lw.b]
theorem LRes.mono {s : Ld} {N : Int} {r rc : Ld × Int} {Q Q' : Lg → Prop} (h : LRes s N r rc Q) (hQ : ∀ L, Q L → Q' L) : LRes s N r rc Q' :=
  ⟨h.live, fun g hok how => by obtain ⟨Λ', h1, h2⟩ := h.dead g hok how; exact ⟨Λ', h1, h2.imp id (hQ _)⟩⟩
theorem LRes.more {s : Ld} {N M : Int} {r rc : Ld × Int} {Q : Lg → Prop} (h : LRes s N r rc Q) (hN : N ≤ M) : LRes s M r rc Q :=
  ⟨fun g => ⟨(h.live g).1.more (by omega), (h.live g).2⟩, fun g hok how => by obtain ⟨Λ', h1, h2⟩ := h.dead g hok how; exact ⟨Λ', h1.more (by omega), h2⟩⟩
theorem lr_cut2 {s : Ld} {N : Int} (h : LLv s N) {n : Nat} (hn : n ≤ s.Λ.ents.length) : LRes s N (lgCut2 s n) (lgCut2 s.calm n) (fun L => L = cutL s.Λ n) := by
  obtain ⟨δ, ω, Λ⟩ := s
  have hk := (lk_cut2 h.lw (n := n) hn).1.well
  have hk' : LWell (lgCut2 ⟨δ.calm, ω, Λ⟩ n).1 (N + 4000000) := hk
  have hr : ω.recs = headL Λ.base Λ.snap ++ Λ.ents := h.lw.recs
  have hdb : ω.doubt = false := h.lw.well.doubt
  have hd : Λ.doubt = false := h.lw.live
  have hn' : n ≤ Λ.ents.length := hn
  have hb : ∀ r, (endL Λ (fun _ => cutL Λ n) r).1.Λ.base = Λ.base ∧ (endL Λ (fun _ => cutL Λ n) r).1.Λ.snap = Λ.snap := fun r => by
    have hm : ∀ e, (Λ.met e).base = Λ.base ∧ (Λ.met e).snap = Λ.snap := fun e => by unfold Lg.met; split <;> exact ⟨rfl, rfl⟩
    unfold endL; split
    · exact ⟨rfl, rfl⟩
    · exact hm _
  show LRes _ N (lgCut2 ⟨δ, ω, Λ⟩ n) (lgCut2 ⟨δ.calm, ω, Λ⟩ n) _
  rw [cut_end] at hk'
  rw [cut_end, cut_end]
  refine res_end (k := 3) h (cut_res h.lv _) (fun g => calm_cutZ h.lv.dead hdb g) (fun _ => hk') (fun g => ?_) (fun _ => ⟨cutL Λ n, rfl, ?_, hd, ?_⟩)
  · rw [(hb _).1, (hb _).2]
    have hh : ((headL Λ.base Λ.snap).length : Int) ≤ ω.synced := h.head
    unfold cutZ at g ⊢
    rw [if_neg (by rw [hdb]; decide), if_neg (by rw [hr, List.length_append]; omega)] at g ⊢
    split
    · exact hh
    · rename_i h2
      rw [if_neg h2] at g
      rw [seal_live g]
      show _ ≤ (((ω.recs.take _).length : Nat) : Int)
      rw [List.length_take, hr, List.length_append]; omega
  · exact h.lw.w.cut n Λ.doubt
  · rw [if_neg (by unfold tl; rw [hdb]; simp only [Bool.false_eq_true, if_false]; rw [hr, List.length_append]; omega)]
    show ((tl ω).take _, ω.a, ω.b) = _
    rw [show tl ω = ω.recs by unfold tl; rw [hdb]; rfl, Int.toNat_natCast, hr, List.take_append, List.take_of_length_le (by omega), show ω.a = Λ.acc from h.lw.a, show ω.b = Λ.cur from h.lw.b]
    unfold cutL; dsimp only; congr 2; congr 1; omega
end Go.Proofs.YtidjhgbdokcphaaGreat

/- Own work: three operations that are ready in a region that draws its order. -/

namespace Go.Proofs.YtidjhgbdokcphaaGreat
open Go
section
variable {P : Program} {ops : Array Oper} {n : Nat} {RO : List HP} {H : List Nat} {Fin : EF → List HP → Prop}
variable {j : Nat} {S : List Nat} {E : Env} {RW : List HP} {op : Op} {ty : TypeId} {pos : String} {aft : Array Edge}
def only3B (ops : Array Oper) (j k l : Nat) (S : List Nat) : Bool := readyB ops (j :: S) j && readyB ops (j :: S) k && readyB ops (j :: S) l && !Nat.beq k j && !Nat.beq l j && !Nat.beq l k && S.all fun i => Nat.beq i j || Nat.beq i k || Nat.beq i l || !readyB ops (j :: S) i
theorem D.h3 {k l : Nat} {dd dk dl : Option Nat} {op' op2 : Op} {ty' ty2 : TypeId} {pos' pos2 : String} {aft' aft2 : Array Edge} {pre F pre' F' pre2 F2 : List HP} {K K' K2 : Value → List HP → Prop} {S2 S3 : List Nat} (hi : ops[j]? = some ⟨dd, op, ty, pos, aft, none⟩) (hk : ops[k]? = some ⟨dk, op', ty', pos', aft', none⟩) (hl : ops[l]? = some ⟨dl, op2, ty2, pos2, aft2, none⟩)
    (hc : (only3B ops j k l S && H.contains j && H.contains k && H.contains l && dstOk dd n && dstOk dk n && dstOk dl n) = true) (hS2 : (j :: S).erase k = S2) (hS3 : (j :: S).erase l = S3) (hp : OpSpec P ⟨none, op, ty, "", #[], none⟩ E pre K) (hL : Picks pre RW F) (hp' : OpSpec P ⟨none, op', ty', "", #[], none⟩ E pre' K') (hL' : Picks pre' RW F') (hp2 : OpSpec P ⟨none, op2, ty2, "", #[], none⟩ E pre2 K2) (hL2 : Picks pre2 RW F2)
    (h : ∀ v L', K v L' → D P ops n RO H Fin S (look (putE dd v E)) (L' ++ F)) (h' : ∀ v L', K' v L' → D P ops n RO H Fin S2 (look (putE dk v E)) (L' ++ F')) (h2 : ∀ v L', K2 v L' → D P ops n RO H Fin S3 (look (putE dl v E)) (L' ++ F2)) : D P ops n RO H Fin (j :: S) (look E) RW := by
  simp only [Bool.and_eq_true, only3B] at hc
  obtain ⟨⟨⟨⟨⟨⟨⟨⟨⟨⟨⟨⟨c1, c2⟩, c3⟩, c4⟩, c5⟩, c6⟩, c7⟩, d1⟩, d2⟩, d3⟩, d4⟩, d5⟩, d6⟩ := hc
  have hkj : k ≠ j := by rintro rfl; simp at c4
  have hlj : l ≠ j := by rintro rfl; simp at c5
  have hlk : l ≠ k := by rintro rfl; simp at c6
  have only : ∀ i, i ∈ j :: S → readyB ops (j :: S) i = true → i = j ∨ i = k ∨ i = l := by
    intro i hi hr
    rcases List.mem_cons.1 hi with rfl | hi
    · exact .inl rfl
    · have := List.all_eq_true.1 c7 i hi
      rw [hr] at this
      simp at this
      rcases this with (h | h) | h
      · exact .inl h
      · exact .inr (.inl h)
      · exact .inr (.inr h)
  refine .heavy (fun i => if i = j then ⟨dd, op, ty, pos, aft, none⟩ else if i = k then ⟨dk, op', ty', pos', aft', none⟩ else ⟨dl, op2, ty2, pos2, aft2, none⟩) (fun i => if i = j then pre else if i = k then pre' else pre2) (fun i => if i = j then F else if i = k then F' else F2) (fun i => if i = j then K else if i = k then K' else K2) ⟨j, by simp, c1⟩ ?_ ?_
  · intro i hi' hr
    rcases only i hi' hr with rfl | rfl | rfl
    · simp only [if_true]
      exact ⟨d1, hi, .inl rfl, d4, hL, SpecR.own hp⟩
    · simp only [if_neg hkj, if_true]
      exact ⟨d2, hk, .inl rfl, d5, hL', SpecR.own hp'⟩
    · simp only [if_neg hlj, if_neg hlk]
      exact ⟨d3, hl, .inl rfl, d6, hL2, SpecR.own hp2⟩
  · intro i hi' hr v L' hv
    rcases only i hi' hr with rfl | rfl | rfl
    · simp only [if_true] at hv ⊢
      have := h v L' hv
      rw [look_putE] at this
      simpa using this
    · simp only [if_neg hkj, if_true] at hv ⊢
      have := h' v L' hv
      rw [look_putE] at this
      rw [hS2]
      exact this
    · simp only [if_neg hlj, if_neg hlk] at hv ⊢
      have := h2 v L' hv
      rw [look_putE] at this
      rw [hS3]
      exact this
end
end Go.Proofs.YtidjhgbdokcphaaGreat

/- Own work, by program: package ledger: Cut, Install, Compact: walked. -/
namespace Go.Proofs.YtidjhgbdokcphaaGreat
open Go
set_option maxRecDepth 100000 in
theorem snan_spec (a : Int) : Fn Tryz.prog 175 #[vint a] [] fun v L => v = .bool false ∧ L = [] := by
 refine Fn.intro (vs := [vint a]) Tryz.func175 rfl rfl ?_
 intro F W
 refine G.seq (G.region (G.q (Quiet.assign rfl) rfl (G.nil (G.then_n (G.seq (G.region (G.q (Quiet.move rfl) rfl (G.q (Quiet.move rfl) rfl ?_))))))))
 refine G.q (Quiet.as (v' := .bool false) (by simp) (Quiet.int rfl rfl rfl)) rfl ?_
 refine G.q (Quiet.assign rfl) rfl (G.nil (G.then_n (G.ret ?_)))
 exact G.done (l := [.tmp 2]) rfl rfl ⟨rfl, rfl⟩ (by (repeat' constructor)) (by (repeat' constructor))

set_option maxRecDepth 100000 in
theorem cnan_spec (a : Int) : Fn Tryz.prog 201 #[vint a] [] fun v L => v = .bool false ∧ L = [] := by
 refine Fn.intro (vs := [vint a]) Tryz.func201 rfl rfl ?_
 intro F W
 refine G.seq (G.region (G.q (Quiet.assign rfl) rfl (G.nil (G.then_n (G.seq (G.region (G.q (Quiet.move rfl) rfl (G.q (Quiet.move rfl) rfl ?_))))))))
 refine G.q (Quiet.as (v' := .bool false) (by simp) (Quiet.int rfl rfl rfl)) rfl ?_
 refine G.q (Quiet.assign rfl) rfl (G.nil (G.then_n (G.ret ?_)))
 exact G.done (l := [.tmp 2]) rfl rfl ⟨rfl, rfl⟩ (by (repeat' constructor)) (by (repeat' constructor))

set_option maxRecDepth 100000 in
theorem less_spec (a b : Int) : Fn Tryz.prog 174 #[vint a, vint b] [] fun v L => v = .bool (decide (a < b)) ∧ L = [] := by
 refine Fn.intro (vs := [vint a, vint b]) Tryz.func174 rfl rfl ?_
 intro F W
 refine G.seq (G.region (G.q (Quiet.assign rfl) rfl (G.nil (G.then_n (G.seq (G.region (G.q (Quiet.move rfl) rfl ?_)))))))
 refine G.op (OpSpec.call Tryz.func201 rfl rfl (vs := [_]) rfl (cnan_spec a)) (by (repeat' constructor)) rfl ?nx3
 rintro v L' ⟨rfl, rfl⟩
 refine G.q (Quiet.move rfl) rfl (G.gskip (t := 7) rfl rfl rfl rfl (G.gskip (t := 7) rfl rfl rfl rfl (G.gskip (t := 7) rfl rfl rfl rfl (G.q (Quiet.pickF rfl rfl) rfl (G.q (Quiet.move rfl) rfl (G.grun (t := 12) rfl rfl rfl (G.q (Quiet.move rfl) rfl (G.grun (t := 12) rfl rfl rfl (G.q (Quiet.move rfl) rfl (G.grun (t := 12) rfl rfl rfl (G.q (Quiet.int rfl rfl rfl) rfl (G.q (Quiet.pickF rfl rfl) rfl (G.q (Quiet.assign rfl) rfl (G.nil (G.then_n (G.ret ?_))))))))))))))))
 exact G.done (l := [.tmp 4]) rfl rfl ⟨rfl, rfl⟩ (by (repeat' constructor)) (by (repeat' constructor))

theorem bs_in {zs : List Int} {z : Int} {i : Nat} (hs : zs.Pairwise (· < ·)) (hi : i < zs.length) (h : zs.getD i 0 = z) : z ∈ zs ∧ i = zs.idxOf z := by
  have e : zs[i] = z := by simpa [List.getD_eq_getElem?_getD, hi] using h
  have hn : zs.Nodup := hs.imp (fun h => by omega)
  refine ⟨e ▸ List.getElem_mem hi, ?_⟩
  have hl := List.idxOf_lt_length_of_mem (e ▸ List.getElem_mem hi : z ∈ zs)
  have h1 : zs[zs.idxOf z] = z := List.getElem_idxOf hl
  exact (List.getElem_inj hn).1 (e.trans h1.symm)
theorem bs_out {zs : List Int} {z : Int} {i : Nat} (hs : zs.Pairwise (· < ·)) (h1 : ∀ k, k < i → zs.getD k 0 < z) (h2 : ∀ k, i ≤ k → k < zs.length → z ≤ zs.getD k 0) (h : ¬ (i < zs.length ∧ zs.getD i 0 = z)) : ¬ z ∈ zs := by
  intro hm
  obtain ⟨k, hk, hz⟩ := List.mem_iff_getElem.1 hm
  have e : zs.getD k 0 = z := by simpa [List.getD_eq_getElem?_getD, hk] using hz
  rcases Nat.lt_or_ge k i with g | g
  · have := h1 k g; omega
  · have hi : i < zs.length := by omega
    have h3 := h2 i (Nat.le_refl _) hi
    rcases Nat.eq_or_lt_of_le g with g | g
    · subst g; exact h ⟨hi, e⟩
    · have := List.pairwise_iff_getElem.1 hs i k hi hk g
      have e1 : zs.getD i 0 = zs[i] := by simp [List.getD_eq_getElem?_getD, hi]
      exact h ⟨hi, by omega⟩
theorem half_conv (a b : Nat) (h : a + b ≤ 8589934592) : Value.int .i64 (IntKind.i64.wrap ((IntKind.u64.wrap ((a : Int) + b)).fdiv (2 ^ min (1 : Int).toNat IntKind.u64.bits))) = vint (((a + b) / 2 : Nat) : Int) := by
  have e1 : IntKind.u64.wrap ((a : Int) + b) = ((a + b : Nat) : Int) := by
    simp [IntKind.wrap, IntKind.bits, IntKind.signed]; omega
  rw [e1]
  have e2 : ((a + b : Nat) : Int).fdiv (2 ^ min (1 : Int).toNat IntKind.u64.bits) = (((a + b) / 2 : Nat) : Int) := by
    show ((a + b : Nat) : Int).fdiv 2 = _
    rw [Int.fdiv_eq_ediv_of_nonneg _ (by decide)]; omega
  rw [e2]
  have e3 : IntKind.i64.wrap (((a + b) / 2 : Nat) : Int) = (((a + b) / 2 : Nat) : Int) := by
    rw [wrap64]; omega
  rw [e3]
theorem up_at {zs : List Int} (hs : zs.Pairwise (· < ·)) {a b : Nat} (h : a < b) (hb : b < zs.length) : zs.getD a 0 < zs.getD b 0 := by
  have := List.pairwise_iff_getElem.1 hs a b (by omega) hb h
  simpa [List.getD_eq_getElem?_getD, hb, show a < zs.length by omega] using this
theorem up_lt {zs : List Int} (hs : zs.Pairwise (· < ·)) {a b : Nat} {z : Int} (hb : b < zs.length) (h : a < b) (hz : zs.getD b 0 < z) : zs.getD a 0 < z := by
  have := up_at hs h hb; omega
theorem up_ge {zs : List Int} (hs : zs.Pairwise (· < ·)) {a b : Nat} {z : Int} (h : b ≤ a) (ha : a < zs.length) (hz : ¬ zs.getD b 0 < z) : z ≤ zs.getD a 0 := by
  rcases Nat.eq_or_lt_of_le h with g | g
  · subst g; omega
  · have := up_at hs g ha; omega
set_option maxRecDepth 100000 in
theorem bsearch_spec (va : Value) (zs : List Int) (z : Int) (p : HP) (hr : ∀ h : Hp, p h → rdS 1 h va zs.length (ints zs)) (hs : zs.Pairwise (· < ·)) (hl : zs.length ≤ 4294967296) : Fn Tryz.prog 133 #[va, vint z] [p] fun v L => (∃ i : Nat, v = .tuple #[vint i, .bool (decide (z ∈ zs))] ∧ (z ∈ zs → i = zs.idxOf z)) ∧ L = [p] := by
 refine Fn.intro (vs := [va, vint z]) Tryz.func133 rfl rfl ?_
 intro F W
 refine G.rdAny (p := p) hr (by (repeat' constructor)) fun aa ca e0 _ => ?_
 subst e0
 refine G.seq (G.region (G.q (Quiet.assign rfl) rfl (G.q (Quiet.assign rfl) rfl (G.nil (G.then_n (G.seq (G.region (G.q (Quiet.move rfl) rfl (G.q (Quiet.slen rfl Tryz.underlying31 rfl) rfl (G.q (Quiet.assign rfl) rfl (G.nil (G.then_n (G.seq (G.region (G.q (Quiet.move rfl) rfl (G.q (Quiet.assign rfl) rfl (G.q (Quiet.assign rfl) rfl (G.nil (G.then_n (G.seq (G.block ?_)))))))))))))))))))))
 refine G.loopK (ι := Nat × Nat) (fun q E => (7, vint q.1) :: (8, vint q.2) :: E) (fun q => []) (fun q => q.1 ≤ q.2 ∧ q.2 ≤ zs.length ∧ (∀ k, k < q.1 → zs.getD k 0 < z) ∧ ∀ k, q.2 ≤ k → k < zs.length → z ≤ zs.getD k 0) (fun q => q.2 - q.1) (0, zs.length) (ts := [0, 1, 4, 5, 6]) (.cons rfl (.cons rfl (.cons rfl (.cons rfl (.cons rfl (.nil)))))) (⟨Nat.zero_le _, Nat.le_refl _, fun k hk => absurd hk (Nat.not_lt_zero k), fun k h1 h2 => absurd h2 (Nat.not_lt.2 h1)⟩) ⟨rfl, rfl, rfl, rfl, rfl, rfl, rfl, trivial⟩ (by (repeat' constructor)) ?_
 rintro ⟨i, j⟩ ⟨hij, hj, hlo, hhi⟩
 dsimp only
 dsimp only at hij hj hlo hhi
 refine G.seq (G.seq (G.region (G.q (Quiet.move rfl) rfl (G.q (Quiet.move rfl) rfl (G.q (Quiet.int rfl rfl rfl) rfl (G.nil (G.then_n ?_)))))))
 refine G.condD rfl (fun h15 => ?_) (fun h15 => ?_)
 ·have hm : (i + j) / 2 < zs.length := by omega
  refine G.rdShape (p := p) hr (by (repeat' constructor)) (by omega) fun ba oa e => ?_
  subst e
  refine G.skip (G.then_n (G.block (G.seq (G.region (G.q (Quiet.move rfl) rfl (G.q (Quiet.move rfl) rfl ?_))))))
  refine G.q (Quiet.add rfl rfl (by omega)) rfl ?_
  refine G.q (Quiet.conv rfl Tryz.underlying3 Tryz.underlying39) rfl ?_
  refine G.q (Quiet.shr rfl rfl (by first | decide | omega)) rfl ?_
  refine G.q (Quiet.as (v' := vint (((i + j) / 2 : Nat) : Int)) (by exact half_conv i j (by omega)) (Quiet.conv rfl Tryz.underlying39 Tryz.underlying3)) rfl ?_
  refine G.q (Quiet.assign rfl) rfl (G.nil (G.then_n (G.seq (G.region (G.q (Quiet.move rfl) rfl (G.q (Quiet.move rfl) rfl ?_))))))
  refine G.q (Quiet.indexAddr rfl rfl el_31 (by omega)) rfl ?_
  refine G.q (Quiet.loadEl (p := p) (i := ((i + j) / 2) * 1) (v := vint (zs.getD ((i + j) / 2) 0)) rfl ag_3 (by (repeat' constructor)) hr (by have hil : (i + j) / 2 < zs.length := (by omega); simp [ints, List.getD_eq_getElem?_getD, hil])) rfl ?_
  refine G.q (Quiet.move rfl) rfl ?_
  refine G.op (OpSpec.call Tryz.func174 rfl rfl (vs := [_, _]) rfl (less_spec _ z)) (by (repeat' constructor)) rfl ?nx19
  rintro v L' ⟨rfl, rfl⟩
  refine G.nil (G.then_n ?_)
  refine G.condD rfl (fun h27 => ?_) (fun h27 => ?_)
  ·refine G.region (G.q (Quiet.move rfl) rfl ?_)
   refine G.q (Quiet.add rfl rfl (by omega)) rfl ?_
   refine G.q (Quiet.assign rfl) rfl (G.nil (G.blk_n (G.then_n ?_)))
   exact G.roundK (((i + j) / 2 + 1, j)) (⟨by dsimp only; omega, hj, fun k hk => by rcases Nat.lt_or_ge k ((i + j) / 2) with g | g; exact up_lt hs (by omega) g h27; obtain rfl : k = (i + j) / 2 := (by dsimp only at hk; omega); exact h27, hhi⟩) (by dsimp only; omega) ⟨rfl, rfl, rfl, rfl, rfl, rfl, rfl, trivial⟩ (by (repeat' constructor)) (by ((repeat (apply Have.cons; (repeat (first | exact Pick.here | apply Pick.there)))); apply Have.base; repeat' constructor))
  ·refine G.region (G.q (Quiet.move rfl) rfl (G.q (Quiet.assign rfl) rfl (G.nil (G.blk_n (G.then_n ?_)))))
   exact G.roundK ((i, (i + j) / 2)) (⟨by dsimp only; omega, by dsimp only; omega, hlo, fun k h1 h2 => up_ge hs h1 h2 h27⟩) (by dsimp only; omega) ⟨rfl, rfl, rfl, rfl, rfl, rfl, rfl, trivial⟩ (by (repeat' constructor)) (by ((repeat (apply Have.cons; (repeat (first | exact Pick.here | apply Pick.there)))); apply Have.base; repeat' constructor))
 ·refine G.exit (G.then_e (G.then_e (G.blk_e (G.then_n (G.seq (G.region (G.q (Quiet.move rfl) rfl (G.q (Quiet.move rfl) rfl (G.q (Quiet.move rfl) rfl (G.q (Quiet.int rfl rfl rfl) rfl (G.q (Quiet.move rfl) rfl ?_)))))))))))
  refine G.dec (t := 35) rfl (fun h8_35 => ?_) (fun h8_35 => ?_)
  ·refine G.rdShape (p := p) hr (by (repeat' constructor)) (by omega) fun ba oa e => ?_
   subst e
   refine G.kDT (t := 34) rfl h8_35 (G.grun (t := 35) rfl rfl rfl (G.q (Quiet.move rfl) rfl (G.grun (t := 35) rfl rfl rfl (G.q (Quiet.move rfl) rfl (G.grun (t := 35) rfl rfl rfl ?_)))))
   refine G.q (Quiet.indexAddr rfl rfl el_31 (by omega)) rfl ?_
   refine G.grun (t := 35) rfl rfl rfl ?_
   refine G.q (Quiet.loadEl (p := p) (i := (i) * 1) (v := vint (zs.getD (i) 0)) rfl ag_3 (by (repeat' constructor)) hr (by have hil : i < zs.length := (by omega); simp [ints, List.getD_eq_getElem?_getD, hil])) rfl ?_
   refine G.grun (t := 35) rfl rfl rfl (G.q (Quiet.move rfl) rfl (G.grun (t := 35) rfl rfl rfl (G.q (Quiet.int rfl rfl rfl) rfl (G.grun (t := 35) rfl rfl rfl (G.q (Quiet.move rfl) rfl ?_)))))
   refine G.dec (t := 42) rfl (fun h8_42 => ?_) (fun h8_42 => ?_)
   ·refine G.kDT (t := 41) rfl h8_42 (G.gskip (t := 42) rfl rfl rfl rfl (G.gskip (t := 42) rfl rfl rfl rfl (G.gskip (t := 42) rfl rfl rfl rfl (G.gskip (t := 42) rfl rfl rfl rfl (G.gskip (t := 42) rfl rfl rfl rfl (G.gskip (t := 42) rfl rfl rfl rfl (G.gskipU (t := 48) rfl rfl rfl (G.gskipU (t := 48) rfl rfl rfl (G.gskip (t := 42) rfl rfl rfl rfl (G.grun (t := 35) rfl rfl rfl (G.q (Quiet.pickT rfl rfl) rfl (G.q (Quiet.pickT rfl rfl) rfl (G.q (Quiet.assign rfl) rfl (G.q (Quiet.assign rfl) rfl (G.nil (G.then_n (G.ret ?_)))))))))))))))))
    have hji : j = i := by omega
    subst hji
    exact G.done (l := [.tmp 4, .tmp 5]) rfl rfl ⟨⟨_, by rw [decide_eq_true (bs_in hs (by omega) h8_42).1], fun _ => (bs_in hs (by omega) h8_42).2⟩, rfl⟩ (by (repeat' constructor)) (by (repeat' constructor))
   ·refine G.kDF (t := 41) rfl h8_42 (G.grun (t := 42) rfl rfl rfl (G.q (Quiet.move rfl) rfl (G.grun (t := 42) rfl rfl rfl (G.q (Quiet.move rfl) rfl (G.grun (t := 42) rfl rfl rfl ?_)))))
    refine G.q (Quiet.indexAddr rfl rfl el_31 (by omega)) rfl ?_
    refine G.grun (t := 42) rfl rfl rfl ?_
    refine G.q (Quiet.loadEl (p := p) (i := (i) * 1) (v := vint (zs.getD (i) 0)) rfl ag_3 (by (repeat' constructor)) hr (by have hil : i < zs.length := (by omega); simp [ints, List.getD_eq_getElem?_getD, hil])) rfl ?_
    refine G.grun (t := 42) rfl rfl rfl ?_
    refine G.op (OpSpec.call Tryz.func175 rfl rfl (vs := [_]) rfl (snan_spec _)) (by (repeat' constructor)) rfl ?nx37
    rintro v L' ⟨rfl, rfl⟩
    refine G.grun (t := 42) rfl rfl rfl (G.q (Quiet.move rfl) rfl (G.gskip (t := 48) rfl rfl rfl rfl (G.gskip (t := 48) rfl rfl rfl rfl (G.grun (t := 42) rfl rfl rfl (G.q (Quiet.pickF rfl rfl) rfl (G.grun (t := 35) rfl rfl rfl (G.q (Quiet.pickF rfl rfl) rfl (G.q (Quiet.pickT rfl rfl) rfl (G.q (Quiet.assign rfl) rfl (G.q (Quiet.assign rfl) rfl (G.nil (G.then_n (G.ret ?_)))))))))))))
    have hji : j = i := by omega
    subst hji
    exact G.done (l := [.tmp 4, .tmp 5]) rfl rfl ⟨⟨_, by rw [decide_eq_false (bs_out hs hlo hhi (fun g => h8_42 g.2))], fun h => absurd h (bs_out hs hlo hhi (fun g => h8_42 g.2))⟩, rfl⟩ (by (repeat' constructor)) (by (repeat' constructor))
  ·refine G.kDF (t := 34) rfl h8_35 (G.gskip (t := 35) rfl rfl rfl rfl (G.gskip (t := 35) rfl rfl rfl rfl (G.gskip (t := 35) rfl rfl rfl rfl (G.gskip (t := 35) rfl rfl rfl rfl (G.gskip (t := 35) rfl rfl rfl rfl (G.gskip (t := 35) rfl rfl rfl rfl (G.gskip (t := 35) rfl rfl rfl rfl (G.gskipU (t := 42) rfl rfl rfl (G.gskipU (t := 42) rfl rfl rfl (G.gskipU (t := 42) rfl rfl rfl (G.gskipU (t := 42) rfl rfl rfl (G.gskipU (t := 42) rfl rfl rfl (G.gskipU (t := 42) rfl rfl rfl (G.gskipU (t := 48) rfl rfl rfl (G.gskipU (t := 48) rfl rfl rfl (G.gskipU (t := 42) rfl rfl rfl (G.gskip (t := 35) rfl rfl rfl rfl (G.q (Quiet.pickF rfl rfl) rfl (G.q (Quiet.assign rfl) rfl (G.q (Quiet.assign rfl) rfl (G.nil (G.then_n (G.ret ?_)))))))))))))))))))))))
   have hji : j = i := by omega
   subst hji
   exact G.done (l := [.tmp 4, .tmp 5]) rfl rfl ⟨⟨_, by rw [decide_eq_false (bs_out hs hlo hhi (fun g => by omega))], fun h => absurd h (bs_out hs hlo hhi (fun g => by omega))⟩, rfl⟩ (by (repeat' constructor)) (by (repeat' constructor))

set_option maxRecDepth 100000 in
theorem lupto_spec (g x : Nat) (Λ : Lg) (z : Int) (hΛ : LgI Λ) (hs : Λ.zxs.Pairwise (· < ·)) : Fn Tryz.prog 74 #[vptr g, vint z] [lgR g x Λ] fun v L => v = .tuple #[vint ((placeZ Λ z).getD 0 : Nat), .bool (placeZ Λ z).isSome] ∧ L = [lgR g x Λ] := by
 refine Fn.intro (vs := [vptr g, vint z]) Tryz.func74 rfl rfl ?_
 intro F W
 refine G.lgOpen (by (repeat' constructor)) fun ea ec za zc => ?_
 have h1 := hΛ.ents
 have h2 := hΛ.same
 refine G.seq (G.region (G.q (Quiet.assign rfl) rfl (G.q (Quiet.assign rfl) rfl (G.nil (G.then_n (G.seq (G.region (G.q (Quiet.move rfl) rfl (G.q (Quiet.nilp rfl) rfl (G.q (Quiet.fieldAddr rfl fo_79_5) rfl ?_))))))))))
 refine G.q (Quiet.load rfl ag_31 (by (repeat' constructor)) (rfl)) rfl ?_
 refine G.q (Quiet.move rfl) rfl ?_
 refine G.op (OpSpec.call Tryz.func133 rfl rfl (vs := [_, _]) rfl (bsearch_spec _ Λ.zxs z (intR (.slice za Λ.zxs.length zc) Λ.zxs) (fun h hp => slR_rd hp) hs (by omega))) (by (repeat' constructor)) rfl ?nx8
 rintro v L' ⟨⟨i, rfl, hix⟩, rfl⟩
 refine G.q (Quiet.move rfl) rfl (G.q (Quiet.extract rfl rfl) rfl (G.q (Quiet.extract rfl rfl) rfl (G.q (Quiet.assign rfl) rfl (G.q (Quiet.assign rfl) rfl (G.nil (G.then_n (G.seq (G.seq (G.region (G.q (Quiet.move rfl) rfl (G.nil (G.then_n ?_))))))))))))
 refine G.condD rfl (fun h17 => ?_) (fun h17 => ?_)
 ·have hil := List.idxOf_lt_length_of_mem h17
  have hi := hix h17
  refine G.seq (G.region (G.q (Quiet.move rfl) rfl ?_))
  refine G.q (Quiet.add rfl rfl (by omega)) rfl ?_
  refine G.q (Quiet.assign rfl) rfl (G.q (Quiet.assign rfl) rfl (G.nil (G.then_n (G.ret (G.then_r ?_)))))
  refine G.lgFold (g := g) (x := x) (ea := ea) (ec := ec) (za := za) (zc := zc) (m := Λ.ents.length) (k := Λ.zxs.length) Λ (by (repeat' constructor)) (by exact rfl) (by first | rfl | simp [Lg.keep]) (by first | rfl | simp [Lg.keep]) (by first | rfl | simp [Lg.keep]) (by first | rfl | simp [Lg.keep]) ?_
  have hp : placeZ Λ z = some (Λ.zxs.idxOf z + 1) := by unfold placeZ; rw [if_pos h17]
  rw [hp, hi]
  exact G.done (l := [.tmp 4, .tmp 5]) rfl rfl ⟨by simp, rfl⟩ (by (repeat' constructor)) (by (repeat' constructor))
 ·refine G.skip (G.then_n (G.seq ?_))
  refine G.draw [] [[0, 1, 2, 3, 4, 5, 6, 7]] mixed (by kernel_rfl) ?_
  refine Phases.go [] (by (repeat' constructor)) ?_
  refine D.qw [5, 7] rfl (by kernel_rfl) (Quiet.move rfl) ?_
  refine D.qw [2, 3, 4, 5, 7] rfl (by kernel_rfl) (Quiet.move rfl) ?_
  refine D.qw [3, 4, 5, 7] rfl (by kernel_rfl) (Quiet.nilp rfl) ?_
  refine D.qw [4, 5, 7] rfl (by kernel_rfl) (Quiet.fieldAddr rfl fo_79_2) ?_
  refine D.qw [5, 7] rfl (by kernel_rfl) (Quiet.load rfl ag_3 (by (repeat' constructor)) (rfl)) ?_
  refine D.qw [7] rfl (by kernel_rfl) (Quiet.int rfl rfl rfl) ?_
  refine D.qw [7] rfl (by kernel_rfl) (Quiet.assign rfl) ?_
  refine D.qw [] rfl (by kernel_rfl) (Quiet.assign rfl) ?_
  refine D.ph (Phases.fin (G.then_n (G.ret ?_)))
  refine G.lgFold (g := g) (x := x) (ea := ea) (ec := ec) (za := za) (zc := zc) (m := Λ.ents.length) (k := Λ.zxs.length) Λ (by (repeat' constructor)) (by exact rfl) (by first | rfl | simp [Lg.keep]) (by first | rfl | simp [Lg.keep]) (by first | rfl | simp [Lg.keep]) (by first | rfl | simp [Lg.keep]) ?_
  have hp : placeZ Λ z = if z = Λ.base then some 0 else none := by unfold placeZ; rw [if_neg h17]
  rw [hp]
  exact G.done (l := [.tmp 4, .tmp 5]) rfl rfl ⟨by by_cases hz : z = Λ.base <;> simp [hz], rfl⟩ (by (repeat' constructor)) (by (repeat' constructor))

set_option maxRecDepth 100000 in
theorem lmetC_spec (g x : Nat) (Λ : Lg) (e : Int) (ea : Option Addr) (ec : Nat) (za : Option Addr) (zc : Nat) : Fn Tryz.prog 50 #[vptr g, vint e] [ptc g [vint Λ.acc, vint Λ.cur, vptr x, vint Λ.base, vstr Λ.snap, .slice ea Λ.ents.length ec, .slice za Λ.zxs.length zc, .bool Λ.doubt] 79] fun v L => v = vint (metE e) ∧ L = [ptc g [vint Λ.acc, vint Λ.cur, vptr x, vint Λ.base, vstr Λ.snap, .slice ea Λ.ents.length ec, .slice za Λ.zxs.length zc, .bool (Λ.met e).doubt] 79] := by
 refine Fn.intro (vs := [vptr g, vint e]) Tryz.func50 rfl rfl ?_
 intro F W
 refine G.seq (G.region (G.q (Quiet.assign rfl) rfl (G.nil (G.then_n (G.seq (G.seq (G.region (G.q (Quiet.move rfl) rfl (G.nil (G.then_n (G.block (G.seq (G.region (G.q (Quiet.int rfl rfl rfl) rfl (G.q (Quiet.assign rfl) rfl (G.nil (G.then_n ?_)))))))))))))))))
 refine G.condD rfl (fun h6 => ?_) (fun h6 => ?_)
 ·refine G.region (G.q (Quiet.move rfl) rfl (G.q (Quiet.nilp rfl) rfl (G.q (Quiet.fieldAddr rfl fo_79_6) rfl ?_)))
  refine G.op (OpSpec.store rfl rfl rfl sz_4 ?c7 ?c8) (by (repeat' constructor)) rfl ?nx9
  case c7 => first | decide | (simp; omega) | simp
  case c8 => exact nfz0 _ _
  rintro v L' rfl
  refine G.nil (G.blk_n (G.then_n (G.seq (G.region (G.q (Quiet.move rfl) rfl (G.q (Quiet.assign rfl) rfl (G.nil (G.then_n (G.ret ?_)))))))))
  have hm : (Λ.met e).doubt = true := by unfold Lg.met; rw [if_pos h6]
  have he : metE e = e := by unfold metE; rw [if_neg (by omega)]
  rw [hm, he]
  exact G.done (l := [.tmp 4]) rfl rfl ⟨rfl, rfl⟩ (by (repeat' constructor)) (by (repeat' constructor))
 ·refine G.seq (G.seq (G.region (G.q (Quiet.int rfl rfl rfl) rfl (G.q (Quiet.assign rfl) rfl (G.nil (G.then_n ?_))))))
  refine G.dec (t := 11) rfl (fun h11 => ?_) (fun h11 => ?_)
  ·refine G.condT rfl (G.skip (G.then_n (G.condT rfl (G.seq (G.region (G.q (Quiet.assign rfl) rfl (G.nil (G.then_n (G.ret (G.blk_r (G.then_r ?_)))))))))))
   have hm : (Λ.met e).doubt = Λ.doubt := by unfold Lg.met; rw [if_neg h6]
   have he : metE e = 83 := by unfold metE; rw [if_pos (by omega)]
   rw [hm, he]
   exact G.done (l := [.tmp 4]) rfl rfl ⟨rfl, rfl⟩ (by (repeat' constructor)) (by (repeat' constructor))
  ·refine G.condF rfl (G.region (G.q (Quiet.int rfl rfl rfl) rfl (G.q (Quiet.assign rfl) rfl (G.nil (G.then_n ?_)))))
   refine G.dec (t := 11) rfl (fun h11 => ?_) (fun h11 => ?_)
   ·refine G.condT rfl (G.seq (G.region (G.q (Quiet.assign rfl) rfl (G.nil (G.then_n (G.ret (G.blk_r (G.then_r ?_))))))))
    have hm : (Λ.met e).doubt = Λ.doubt := by unfold Lg.met; rw [if_neg h6]
    have he : metE e = 83 := by unfold metE; rw [if_pos (by omega)]
    rw [hm, he]
    exact G.done (l := [.tmp 4]) rfl rfl ⟨rfl, rfl⟩ (by (repeat' constructor)) (by (repeat' constructor))
   ·refine G.condF rfl (G.skip (G.blk_n (G.then_n (G.seq (G.region (G.q (Quiet.move rfl) rfl (G.q (Quiet.assign rfl) rfl (G.nil (G.then_n (G.ret ?_))))))))))
    have hm : (Λ.met e).doubt = Λ.doubt := by unfold Lg.met; rw [if_neg h6]
    have he : metE e = e := by unfold metE; rw [if_neg (by omega)]
    rw [hm, he]
    exact G.done (l := [.tmp 4]) rfl rfl ⟨rfl, rfl⟩ (by (repeat' constructor)) (by (repeat' constructor))

theorem met_acc {Λ : Lg} {e : Int} : (Λ.met e).acc = Λ.acc := by unfold Lg.met; split <;> rfl
theorem met_cur {Λ : Lg} {e : Int} : (Λ.met e).cur = Λ.cur := by unfold Lg.met; split <;> rfl
theorem met_base {Λ : Lg} {e : Int} : (Λ.met e).base = Λ.base := by unfold Lg.met; split <;> rfl
theorem met_snap {Λ : Lg} {e : Int} : (Λ.met e).snap = Λ.snap := by unfold Lg.met; split <;> rfl
theorem met_ents {Λ : Lg} {e : Int} : (Λ.met e).ents = Λ.ents := by unfold Lg.met; split <;> rfl
theorem met_zxs {Λ : Lg} {e : Int} : (Λ.met e).zxs = Λ.zxs := by unfold Lg.met; split <;> rfl
set_option maxRecDepth 100000 in
theorem lcut_spec (g x d : Nat) (δ : Dk) (ω : Wl) (Λ : Lg) (z : Int) (hI : WlI δ ω) (hΛ : LgI Λ) (hs : Λ.zxs.Pairwise (· < ·)) (hsn : Λ.snap.length ≤ 65536) : Fn Tryz.prog 27 #[vptr g, vint z] [lgR g x Λ, wlR x d ω, dkR d δ] fun v L => v = vint (lgCut ⟨δ, ω, Λ⟩ z).2 ∧ L = [lgR g x (lgCut ⟨δ, ω, Λ⟩ z).1.Λ, wlR x d (lgCut ⟨δ, ω, Λ⟩ z).1.ω, dkR d (lgCut ⟨δ, ω, Λ⟩ z).1.δ] := by
 refine Fn.intro (vs := [vptr g, vint z]) Tryz.func27 rfl rfl ?_
 intro F W
 refine G.lgOpen (by (repeat' constructor)) fun ea ec za zc => ?_
 have h1 := hΛ.ents
 have h2 := hΛ.same
 have h0 := headL_len Λ.base Λ.snap hsn
 refine G.seq (G.region (G.q (Quiet.assign rfl) rfl (G.nil (G.then_n (G.seq (G.seq (G.region (G.q (Quiet.move rfl) rfl (G.q (Quiet.nilp rfl) rfl (G.q (Quiet.fieldAddr rfl fo_79_6) rfl ?_))))))))))
 refine G.q (Quiet.load rfl ag_4 (by (repeat' constructor)) (rfl)) rfl ?_
 refine G.nil (G.then_n ?_)
 refine G.condB rfl (fun h11 => ?_) (fun h11 => ?_)
 ·refine G.seq (G.region (G.q (Quiet.assign rfl) rfl (G.nil (G.then_n (G.ret (G.then_r ?_))))))
  have hr : lgCut ⟨δ, ω, Λ⟩ z = (⟨δ, ω, Λ⟩, 2) := by unfold lgCut; dsimp only; rw [if_pos h11]
  rw [hr]
  try dsimp only
  refine G.lgFold (g := g) (x := x) Λ (by (repeat' constructor)) (by exact rfl) (by first | rfl | simp [Lg.keep]) (by first | rfl | simp [Lg.keep]) (by first | rfl | simp [Lg.keep]) (by first | rfl | simp [Lg.keep]) ?_
  exact G.done (l := [.tmp 4]) rfl rfl ⟨rfl, rfl⟩ (by (repeat' constructor)) (by (repeat' constructor))
 ·refine G.skip (G.then_n (G.seq ?_))
  refine G.lgFold (g := g) (x := x) Λ (by (repeat' constructor)) (by exact rfl) (by first | rfl | simp [Lg.keep]) (by first | rfl | simp [Lg.keep]) (by first | rfl | simp [Lg.keep]) (by first | rfl | simp [Lg.keep]) ?_
  refine G.region (G.q (Quiet.move rfl) rfl (G.q (Quiet.move rfl) rfl ?_))
  refine G.op (OpSpec.call Tryz.func74 rfl rfl (vs := [_, _]) rfl (lupto_spec g x Λ z hΛ hs)) (by (repeat' constructor)) rfl ?nx9
  rintro v L' ⟨rfl, rfl⟩
  refine G.q (Quiet.move rfl) rfl (G.q (Quiet.extract rfl rfl) rfl (G.q (Quiet.extract rfl rfl) rfl (G.q (Quiet.assign rfl) rfl (G.q (Quiet.assign rfl) rfl (G.nil (G.then_n (G.seq (G.seq (G.region ?_)))))))))
  rcases hpl : placeZ Λ z with _ | n
  ·refine G.q (Quiet.move rfl) rfl (G.q (Quiet.not rfl) rfl (G.nil (G.then_n (G.condT rfl (G.seq (G.region (G.q (Quiet.assign rfl) rfl (G.nil (G.then_n (G.ret (G.then_r ?_)))))))))))
   have hr : lgCut ⟨δ, ω, Λ⟩ z = (⟨δ, ω, Λ⟩, 81) := by unfold lgCut; dsimp only; rw [if_neg (by rw [h11]; decide), hpl]
   rw [hr]
   try dsimp only
   exact G.done (l := [.tmp 4]) rfl rfl ⟨rfl, rfl⟩ (by (repeat' constructor)) (by (repeat' constructor))
  ·simp only [Option.getD_some]
   have hpe := (place_le hpl).1
   refine G.q (Quiet.move rfl) rfl (G.q (Quiet.not rfl) rfl (G.nil (G.then_n (G.condF rfl (G.skip (G.then_n (G.seq ?_)))))))
   refine G.lgOpen (by (repeat' constructor)) fun ea ec za zc => ?_
   refine G.slAddr (a := ea) (c := ec) (by (repeat' constructor)) fun hcap1 hadea => ?_
   refine G.slAddr (a := za) (c := zc) (by (repeat' constructor)) fun hcap2 hadza => ?_
   refine G.draw [4, 8, 12, 13, 17, 18] [[0, 1, 2, 3, 5, 6, 7, 9, 10, 11, 15, 8, 12, 13, 14, 16, 4, 17], [18], [19]] mixed (by kernel_rfl) ?_
   refine Phases.go [] (by (repeat' constructor)) ?_
   refine D.q rfl (by kernel_rfl) (Quiet.move rfl) ?_
   refine D.q rfl (by kernel_rfl) (Quiet.move rfl) ?_
   refine D.q rfl (by kernel_rfl) (Quiet.nilp rfl) ?_
   refine D.q rfl (by kernel_rfl) (Quiet.fieldAddr rfl fo_79_1) ?_
   refine D.q rfl (by kernel_rfl) (Quiet.move rfl) ?_
   refine D.q rfl (by kernel_rfl) (Quiet.nilp rfl) ?_
   refine D.q rfl (by kernel_rfl) (Quiet.fieldAddr rfl fo_79_2) ?_
   refine D.q rfl (by kernel_rfl) (Quiet.move rfl) ?_
   refine D.q rfl (by kernel_rfl) (Quiet.nilp rfl) ?_
   refine D.q rfl (by kernel_rfl) (Quiet.fieldAddr rfl fo_79_3) ?_
   refine D.q rfl (by kernel_rfl) (Quiet.move rfl) ?_
   refine D.h3 (k := 12) (l := 4) rfl rfl rfl (by kernel_rfl) rfl rfl (Quiet.spec (L := [ptc g [vint Λ.acc, vint Λ.cur, vptr x, vint Λ.base, vstr Λ.snap, .slice ea Λ.ents.length ec, .slice za Λ.zxs.length zc, .bool Λ.doubt] 79]) (Quiet.load rfl ag_3 (by (repeat' constructor)) rfl)) (by (repeat' constructor)) (Quiet.spec (L := [ptc g [vint Λ.acc, vint Λ.cur, vptr x, vint Λ.base, vstr Λ.snap, .slice ea Λ.ents.length ec, .slice za Λ.zxs.length zc, .bool Λ.doubt] 79]) (Quiet.load rfl ag_9 (by (repeat' constructor)) rfl)) (by (repeat' constructor)) (Quiet.spec (L := [ptc g [vint Λ.acc, vint Λ.cur, vptr x, vint Λ.base, vstr Λ.snap, .slice ea Λ.ents.length ec, .slice za Λ.zxs.length zc, .bool Λ.doubt] 79]) (Quiet.load rfl ag_77 (by (repeat' constructor)) rfl)) (by (repeat' constructor)) ?nx26 ?nx27 ?nx28
   ·rintro v L' ⟨rfl, rfl⟩
    refine D.h2 (k := 4) rfl rfl (by kernel_rfl) rfl (Quiet.spec (L := [ptc g [vint Λ.acc, vint Λ.cur, vptr x, vint Λ.base, vstr Λ.snap, .slice ea Λ.ents.length ec, .slice za Λ.zxs.length zc, .bool Λ.doubt] 79]) (Quiet.load rfl ag_9 (by (repeat' constructor)) rfl)) (by (repeat' constructor)) (Quiet.spec (L := [ptc g [vint Λ.acc, vint Λ.cur, vptr x, vint Λ.base, vstr Λ.snap, .slice ea Λ.ents.length ec, .slice za Λ.zxs.length zc, .bool Λ.doubt] 79]) (Quiet.load rfl ag_77 (by (repeat' constructor)) rfl)) (by (repeat' constructor)) ?nx30 ?nx31
    ·rintro v L' ⟨rfl, rfl⟩
     refine D.h2 (k := 4) rfl rfl (by kernel_rfl) rfl (OpSpec.call Tryz.func46 rfl rfl (vs := [_, _]) rfl (lahead_spec Λ.base Λ.snap hΛ.base (by omega))) (by (repeat' constructor)) (Quiet.spec (L := [ptc g [vint Λ.acc, vint Λ.cur, vptr x, vint Λ.base, vstr Λ.snap, .slice ea Λ.ents.length ec, .slice za Λ.zxs.length zc, .bool Λ.doubt] 79]) (Quiet.load rfl ag_77 (by (repeat' constructor)) rfl)) (by (repeat' constructor)) ?nx33 ?nx34
     ·rintro v L' ⟨bh, ch, rfl, rfl⟩
      refine D.q rfl (by kernel_rfl) (Quiet.slen rfl Tryz.underlying46 rfl) ?_
      refine D.q rfl (by kernel_rfl) (Quiet.as (v' := vint (((headL Λ.base Λ.snap).length + n : Nat) : Int)) (by simp) (Quiet.add rfl rfl (by omega))) ?_
      refine D.h rfl (by kernel_rfl) (Quiet.spec (L := [ptc g [vint Λ.acc, vint Λ.cur, vptr x, vint Λ.base, vstr Λ.snap, .slice ea Λ.ents.length ec, .slice za Λ.zxs.length zc, .bool Λ.doubt] 79]) (Quiet.load rfl ag_77 (by (repeat' constructor)) rfl)) (by (repeat' constructor)) ?nx38
      rintro v L' ⟨rfl, rfl⟩
      refine D.h rfl (by kernel_rfl) (OpSpec.call Tryz.func75 rfl rfl (vs := [_, _]) rfl (wcut_spec x d ω δ (((headL Λ.base Λ.snap).length + n : Nat) : Int) hI)) (by (repeat' constructor)) ?nx40
      rintro v L' ⟨rfl, rfl⟩
      refine D.ph ?_
      refine Phases.go [] (by (repeat' constructor)) ?_
      refine D.h rfl (by kernel_rfl) (OpSpec.call Tryz.func50 rfl rfl (vs := [_, _]) rfl (lmetC_spec g x Λ _ ea ec za zc)) (by (repeat' constructor)) ?nx42
      rintro v L' ⟨rfl, rfl⟩
      refine D.ph ?_
      refine Phases.go [] (by (repeat' constructor)) ?_
      refine D.qw [] rfl (by kernel_rfl) (Quiet.assign rfl) ?_
      refine D.ph (Phases.fin (G.then_n (G.seq (G.seq (G.region (G.q (Quiet.move rfl) rfl (G.q (Quiet.int rfl rfl rfl) rfl (G.nil (G.then_n ?_)))))))))
      refine G.condD rfl (fun h40 => ?_) (fun h40 => ?_)
      ·refine G.draw [16, 19] [[0, 1, 2, 3, 4, 5, 6, 7, 8, 9, 10, 11, 12, 13, 14, 15, 16], [17, 18, 19]] mixed (by kernel_rfl) ?_
       refine Phases.go [] (by (repeat' constructor)) ?_
       refine D.qw [14, 15, 16] rfl (by kernel_rfl) (Quiet.move rfl) ?_
       refine D.q rfl (by kernel_rfl) (Quiet.move rfl) ?_
       refine D.qw [3, 4, 5, 7, 14, 15, 16] rfl (by kernel_rfl) (Quiet.move rfl) ?_
       refine D.qw [4, 5, 7, 14, 15, 16] rfl (by kernel_rfl) (Quiet.nilp rfl) ?_
       refine D.qw [5, 7, 14, 15, 16] rfl (by kernel_rfl) (Quiet.fieldAddr rfl fo_79_4) ?_
       refine D.qw [7, 14, 15, 16] rfl (by kernel_rfl) (Quiet.load rfl ag_46 (by (repeat' constructor)) (rfl)) ?_
       refine D.qw [7, 14, 15, 16] rfl (by kernel_rfl) (Quiet.move rfl) ?_
       refine D.qw [14, 15, 16] rfl (by kernel_rfl) (Quiet.to (v' := .slice ea n ec) (Quiet.slTo (j := (n : Int)) rfl el_46 rfl (by omega) hadea) (by rw [Int.toNat_natCast])) ?_
       refine D.qw [9, 10, 11, 13, 14, 15, 16] rfl (by kernel_rfl) (Quiet.move rfl) ?_
       refine D.qw [10, 11, 13, 14, 15, 16] rfl (by kernel_rfl) (Quiet.nilp rfl) ?_
       refine D.qw [11, 13, 14, 15, 16] rfl (by kernel_rfl) (Quiet.fieldAddr rfl fo_79_5) ?_
       refine D.qw [13, 14, 15, 16] rfl (by kernel_rfl) (Quiet.load rfl ag_31 (by (repeat' constructor)) (rfl)) ?_
       refine D.q rfl (by kernel_rfl) (Quiet.move rfl) ?_
       refine D.q rfl (by kernel_rfl) (Quiet.to (v' := .slice za n zc) (Quiet.slTo (j := (n : Int)) rfl el_31 rfl (by omega) hadza) (by rw [Int.toNat_natCast])) ?_
       refine D.qw [15, 16] rfl (by kernel_rfl) (Quiet.nilp rfl) ?_
       refine D.qw [16] rfl (by kernel_rfl) (Quiet.fieldAddr rfl fo_79_4) ?_
       refine D.h rfl (by kernel_rfl) (OpSpec.store rfl rfl rfl sz_46 ?c59 ?c60) (by (repeat' constructor)) ?nx61
       case c59 => first | decide | (simp; omega) | simp
       case c60 => exact nfz0 _ _
       rintro v L' rfl
       refine D.ph ?_
       refine Phases.go [] (by (repeat' constructor)) ?_
       refine D.qw [18, 19] rfl (by kernel_rfl) (Quiet.nilp rfl) ?_
       refine D.qw [19] rfl (by kernel_rfl) (Quiet.fieldAddr rfl fo_79_5) ?_
       refine D.h rfl (by kernel_rfl) (OpSpec.store rfl rfl rfl sz_31 ?c64 ?c65) (by (repeat' constructor)) ?nx66
       case c64 => first | decide | (simp; omega) | simp
       case c65 => exact nfz0 _ _
       rintro v L' rfl
       refine D.ph (Phases.fin (G.then_n (G.seq (G.region (G.q (Quiet.move rfl) rfl (G.q (Quiet.assign rfl) rfl (G.nil (G.then_n (G.ret ?_)))))))))
       have hr : lgCut ⟨δ, ω, Λ⟩ z = lgCut2 ⟨δ, ω, Λ⟩ n := by unfold lgCut; dsimp only; rw [if_neg (by rw [h11]; decide), hpl]
       rw [hr]
       have hr2 : lgCut2 ⟨δ, ω, Λ⟩ n = (⟨(cutZ δ ω (((headL Λ.base Λ.snap).length + n : Nat) : Int)).1, (cutZ δ ω (((headL Λ.base Λ.snap).length + n : Nat) : Int)).2.1, ⟨Λ.acc, Λ.cur, Λ.base, Λ.snap, Λ.ents.take n, Λ.zxs.take n, Λ.doubt⟩⟩, 0) := by unfold lgCut2; dsimp only; rw [if_pos (show (metL Λ (cutZ δ ω (((headL Λ.base Λ.snap).length + n : Nat) : Int))).2 = 0 from h40)]
       rw [hr2, h40]
       try dsimp only
       refine G.slTo (a := ea) (c := ec) (m := Λ.ents.length) (k := n) (by omega) (by (repeat' constructor)) ?_
       refine G.slTo (a := za) (c := zc) (m := Λ.zxs.length) (k := n) (by omega) (by (repeat' constructor)) ?_
       have hmd : (Λ.met (cutZ δ ω (((headL Λ.base Λ.snap).length + n : Nat) : Int)).2.2).doubt = Λ.doubt := by unfold Lg.met; rw [if_neg (fun g2 => by rw [g2] at h40; exact absurd h40 (by decide))]
       rw [hmd]
       refine G.lgFold (g := g) (x := x) (ea := ea) (ec := ec) (za := za) (zc := zc) (m := n) (k := n) (⟨Λ.acc, Λ.cur, Λ.base, Λ.snap, Λ.ents.take n, Λ.zxs.take n, Λ.doubt⟩ : Lg) (by (repeat' constructor)) rfl (by simp; omega) (by simp; omega) (by simp [strs, List.map_take]) (by simp [ints, List.map_take]) ?_
       exact G.done (l := [.tmp 4]) rfl rfl ⟨rfl, rfl⟩ (by (repeat' constructor)) (by (repeat' constructor))
      ·refine G.skip (G.then_n (G.seq (G.region (G.q (Quiet.move rfl) rfl (G.q (Quiet.assign rfl) rfl (G.nil (G.then_n (G.ret ?_))))))))
       have hr : lgCut ⟨δ, ω, Λ⟩ z = lgCut2 ⟨δ, ω, Λ⟩ n := by unfold lgCut; dsimp only; rw [if_neg (by rw [h11]; decide), hpl]
       rw [hr]
       have hr2 : lgCut2 ⟨δ, ω, Λ⟩ n = metL Λ (cutZ δ ω (((headL Λ.base Λ.snap).length + n : Nat) : Int)) := by unfold lgCut2; dsimp only; rw [if_neg (show ¬ (metL Λ (cutZ δ ω (((headL Λ.base Λ.snap).length + n : Nat) : Int))).2 = 0 from h40)]
       rw [hr2]
       try dsimp only
       refine G.lgFold (g := g) (x := x) (ea := ea) (ec := ec) (za := za) (zc := zc) (m := Λ.ents.length) (k := Λ.zxs.length) (Λ.met (cutZ δ ω (((headL Λ.base Λ.snap).length + n : Nat) : Int)).2.2) (by (repeat' constructor)) (by rw [met_acc, met_cur, met_base, met_snap]) (by rw [met_ents]) (by rw [met_zxs]) (by rw [met_ents]) (by rw [met_zxs]) ?_
       exact G.done (l := [.tmp 4]) rfl rfl ⟨rfl, rfl⟩ (by (repeat' constructor)) (by (repeat' constructor))
     ·rintro v L' ⟨rfl, rfl⟩
      refine D.h rfl (by kernel_rfl) (OpSpec.call Tryz.func46 rfl rfl (vs := [_, _]) rfl (lahead_spec Λ.base Λ.snap hΛ.base (by omega))) (by (repeat' constructor)) ?nx68
      rintro v L' ⟨bh, ch, rfl, rfl⟩
      refine D.qw [16, 17] rfl (by kernel_rfl) (Quiet.slen rfl Tryz.underlying46 rfl) ?_
      refine D.qw [17] rfl (by kernel_rfl) (Quiet.as (v' := vint (((headL Λ.base Λ.snap).length + n : Nat) : Int)) (by simp) (Quiet.add rfl rfl (by omega))) ?_
      refine D.h rfl (by kernel_rfl) (OpSpec.call Tryz.func75 rfl rfl (vs := [_, _]) rfl (wcut_spec x d ω δ (((headL Λ.base Λ.snap).length + n : Nat) : Int) hI)) (by (repeat' constructor)) ?nx72
      rintro v L' ⟨rfl, rfl⟩
      refine D.ph ?_
      refine Phases.go [] (by (repeat' constructor)) ?_
      refine D.h rfl (by kernel_rfl) (OpSpec.call Tryz.func50 rfl rfl (vs := [_, _]) rfl (lmetC_spec g x Λ _ ea ec za zc)) (by (repeat' constructor)) ?nx74
      rintro v L' ⟨rfl, rfl⟩
      refine D.ph ?_
      refine Phases.go [] (by (repeat' constructor)) ?_
      refine D.qw [] rfl (by kernel_rfl) (Quiet.assign rfl) ?_
      refine D.ph (Phases.fin (G.then_n (G.seq (G.seq (G.region (G.q (Quiet.move rfl) rfl (G.q (Quiet.int rfl rfl rfl) rfl (G.nil (G.then_n ?_)))))))))
      refine G.condD rfl (fun h40 => ?_) (fun h40 => ?_)
      ·refine G.draw [16, 19] [[0, 1, 2, 3, 4, 5, 6, 7, 8, 9, 10, 11, 12, 13, 14, 15, 16], [17, 18, 19]] mixed (by kernel_rfl) ?_
       refine Phases.go [] (by (repeat' constructor)) ?_
       refine D.qw [14, 15, 16] rfl (by kernel_rfl) (Quiet.move rfl) ?_
       refine D.q rfl (by kernel_rfl) (Quiet.move rfl) ?_
       refine D.qw [3, 4, 5, 7, 14, 15, 16] rfl (by kernel_rfl) (Quiet.move rfl) ?_
       refine D.qw [4, 5, 7, 14, 15, 16] rfl (by kernel_rfl) (Quiet.nilp rfl) ?_
       refine D.qw [5, 7, 14, 15, 16] rfl (by kernel_rfl) (Quiet.fieldAddr rfl fo_79_4) ?_
       refine D.qw [7, 14, 15, 16] rfl (by kernel_rfl) (Quiet.load rfl ag_46 (by (repeat' constructor)) (rfl)) ?_
       refine D.qw [7, 14, 15, 16] rfl (by kernel_rfl) (Quiet.move rfl) ?_
       refine D.qw [14, 15, 16] rfl (by kernel_rfl) (Quiet.to (v' := .slice ea n ec) (Quiet.slTo (j := (n : Int)) rfl el_46 rfl (by omega) hadea) (by rw [Int.toNat_natCast])) ?_
       refine D.qw [9, 10, 11, 13, 14, 15, 16] rfl (by kernel_rfl) (Quiet.move rfl) ?_
       refine D.qw [10, 11, 13, 14, 15, 16] rfl (by kernel_rfl) (Quiet.nilp rfl) ?_
       refine D.qw [11, 13, 14, 15, 16] rfl (by kernel_rfl) (Quiet.fieldAddr rfl fo_79_5) ?_
       refine D.qw [13, 14, 15, 16] rfl (by kernel_rfl) (Quiet.load rfl ag_31 (by (repeat' constructor)) (rfl)) ?_
       refine D.q rfl (by kernel_rfl) (Quiet.move rfl) ?_
       refine D.q rfl (by kernel_rfl) (Quiet.to (v' := .slice za n zc) (Quiet.slTo (j := (n : Int)) rfl el_31 rfl (by omega) hadza) (by rw [Int.toNat_natCast])) ?_
       refine D.qw [15, 16] rfl (by kernel_rfl) (Quiet.nilp rfl) ?_
       refine D.qw [16] rfl (by kernel_rfl) (Quiet.fieldAddr rfl fo_79_4) ?_
       refine D.h rfl (by kernel_rfl) (OpSpec.store rfl rfl rfl sz_46 ?c91 ?c92) (by (repeat' constructor)) ?nx93
       case c91 => first | decide | (simp; omega) | simp
       case c92 => exact nfz0 _ _
       rintro v L' rfl
       refine D.ph ?_
       refine Phases.go [] (by (repeat' constructor)) ?_
       refine D.qw [18, 19] rfl (by kernel_rfl) (Quiet.nilp rfl) ?_
       refine D.qw [19] rfl (by kernel_rfl) (Quiet.fieldAddr rfl fo_79_5) ?_
       refine D.h rfl (by kernel_rfl) (OpSpec.store rfl rfl rfl sz_31 ?c96 ?c97) (by (repeat' constructor)) ?nx98
       case c96 => first | decide | (simp; omega) | simp
       case c97 => exact nfz0 _ _
       rintro v L' rfl
       refine D.ph (Phases.fin (G.then_n (G.seq (G.region (G.q (Quiet.move rfl) rfl (G.q (Quiet.assign rfl) rfl (G.nil (G.then_n (G.ret ?_)))))))))
       have hr : lgCut ⟨δ, ω, Λ⟩ z = lgCut2 ⟨δ, ω, Λ⟩ n := by unfold lgCut; dsimp only; rw [if_neg (by rw [h11]; decide), hpl]
       rw [hr]
       have hr2 : lgCut2 ⟨δ, ω, Λ⟩ n = (⟨(cutZ δ ω (((headL Λ.base Λ.snap).length + n : Nat) : Int)).1, (cutZ δ ω (((headL Λ.base Λ.snap).length + n : Nat) : Int)).2.1, ⟨Λ.acc, Λ.cur, Λ.base, Λ.snap, Λ.ents.take n, Λ.zxs.take n, Λ.doubt⟩⟩, 0) := by unfold lgCut2; dsimp only; rw [if_pos (show (metL Λ (cutZ δ ω (((headL Λ.base Λ.snap).length + n : Nat) : Int))).2 = 0 from h40)]
       rw [hr2, h40]
       try dsimp only
       refine G.slTo (a := ea) (c := ec) (m := Λ.ents.length) (k := n) (by omega) (by (repeat' constructor)) ?_
       refine G.slTo (a := za) (c := zc) (m := Λ.zxs.length) (k := n) (by omega) (by (repeat' constructor)) ?_
       have hmd : (Λ.met (cutZ δ ω (((headL Λ.base Λ.snap).length + n : Nat) : Int)).2.2).doubt = Λ.doubt := by unfold Lg.met; rw [if_neg (fun g2 => by rw [g2] at h40; exact absurd h40 (by decide))]
       rw [hmd]
       refine G.lgFold (g := g) (x := x) (ea := ea) (ec := ec) (za := za) (zc := zc) (m := n) (k := n) (⟨Λ.acc, Λ.cur, Λ.base, Λ.snap, Λ.ents.take n, Λ.zxs.take n, Λ.doubt⟩ : Lg) (by (repeat' constructor)) rfl (by simp; omega) (by simp; omega) (by simp [strs, List.map_take]) (by simp [ints, List.map_take]) ?_
       exact G.done (l := [.tmp 4]) rfl rfl ⟨rfl, rfl⟩ (by (repeat' constructor)) (by (repeat' constructor))
      ·refine G.skip (G.then_n (G.seq (G.region (G.q (Quiet.move rfl) rfl (G.q (Quiet.assign rfl) rfl (G.nil (G.then_n (G.ret ?_))))))))
       have hr : lgCut ⟨δ, ω, Λ⟩ z = lgCut2 ⟨δ, ω, Λ⟩ n := by unfold lgCut; dsimp only; rw [if_neg (by rw [h11]; decide), hpl]
       rw [hr]
       have hr2 : lgCut2 ⟨δ, ω, Λ⟩ n = metL Λ (cutZ δ ω (((headL Λ.base Λ.snap).length + n : Nat) : Int)) := by unfold lgCut2; dsimp only; rw [if_neg (show ¬ (metL Λ (cutZ δ ω (((headL Λ.base Λ.snap).length + n : Nat) : Int))).2 = 0 from h40)]
       rw [hr2]
       try dsimp only
       refine G.lgFold (g := g) (x := x) (ea := ea) (ec := ec) (za := za) (zc := zc) (m := Λ.ents.length) (k := Λ.zxs.length) (Λ.met (cutZ δ ω (((headL Λ.base Λ.snap).length + n : Nat) : Int)).2.2) (by (repeat' constructor)) (by rw [met_acc, met_cur, met_base, met_snap]) (by rw [met_ents]) (by rw [met_zxs]) (by rw [met_ents]) (by rw [met_zxs]) ?_
       exact G.done (l := [.tmp 4]) rfl rfl ⟨rfl, rfl⟩ (by (repeat' constructor)) (by (repeat' constructor))
    ·rintro v L' ⟨rfl, rfl⟩
     refine D.h rfl (by kernel_rfl) (Quiet.spec (L := [ptc g [vint Λ.acc, vint Λ.cur, vptr x, vint Λ.base, vstr Λ.snap, .slice ea Λ.ents.length ec, .slice za Λ.zxs.length zc, .bool Λ.doubt] 79]) (Quiet.load rfl ag_9 (by (repeat' constructor)) rfl)) (by (repeat' constructor)) ?nx100
     rintro v L' ⟨rfl, rfl⟩
     refine D.h rfl (by kernel_rfl) (OpSpec.call Tryz.func46 rfl rfl (vs := [_, _]) rfl (lahead_spec Λ.base Λ.snap hΛ.base (by omega))) (by (repeat' constructor)) ?nx102
     rintro v L' ⟨bh, ch, rfl, rfl⟩
     refine D.qw [16, 17] rfl (by kernel_rfl) (Quiet.slen rfl Tryz.underlying46 rfl) ?_
     refine D.qw [17] rfl (by kernel_rfl) (Quiet.as (v' := vint (((headL Λ.base Λ.snap).length + n : Nat) : Int)) (by simp) (Quiet.add rfl rfl (by omega))) ?_
     refine D.h rfl (by kernel_rfl) (OpSpec.call Tryz.func75 rfl rfl (vs := [_, _]) rfl (wcut_spec x d ω δ (((headL Λ.base Λ.snap).length + n : Nat) : Int) hI)) (by (repeat' constructor)) ?nx106
     rintro v L' ⟨rfl, rfl⟩
     refine D.ph ?_
     refine Phases.go [] (by (repeat' constructor)) ?_
     refine D.h rfl (by kernel_rfl) (OpSpec.call Tryz.func50 rfl rfl (vs := [_, _]) rfl (lmetC_spec g x Λ _ ea ec za zc)) (by (repeat' constructor)) ?nx108
     rintro v L' ⟨rfl, rfl⟩
     refine D.ph ?_
     refine Phases.go [] (by (repeat' constructor)) ?_
     refine D.qw [] rfl (by kernel_rfl) (Quiet.assign rfl) ?_
     refine D.ph (Phases.fin (G.then_n (G.seq (G.seq (G.region (G.q (Quiet.move rfl) rfl (G.q (Quiet.int rfl rfl rfl) rfl (G.nil (G.then_n ?_)))))))))
     refine G.condD rfl (fun h40 => ?_) (fun h40 => ?_)
     ·refine G.draw [16, 19] [[0, 1, 2, 3, 4, 5, 6, 7, 8, 9, 10, 11, 12, 13, 14, 15, 16], [17, 18, 19]] mixed (by kernel_rfl) ?_
      refine Phases.go [] (by (repeat' constructor)) ?_
      refine D.qw [14, 15, 16] rfl (by kernel_rfl) (Quiet.move rfl) ?_
      refine D.q rfl (by kernel_rfl) (Quiet.move rfl) ?_
      refine D.qw [3, 4, 5, 7, 14, 15, 16] rfl (by kernel_rfl) (Quiet.move rfl) ?_
      refine D.qw [4, 5, 7, 14, 15, 16] rfl (by kernel_rfl) (Quiet.nilp rfl) ?_
      refine D.qw [5, 7, 14, 15, 16] rfl (by kernel_rfl) (Quiet.fieldAddr rfl fo_79_4) ?_
      refine D.qw [7, 14, 15, 16] rfl (by kernel_rfl) (Quiet.load rfl ag_46 (by (repeat' constructor)) (rfl)) ?_
      refine D.qw [7, 14, 15, 16] rfl (by kernel_rfl) (Quiet.move rfl) ?_
      refine D.qw [14, 15, 16] rfl (by kernel_rfl) (Quiet.to (v' := .slice ea n ec) (Quiet.slTo (j := (n : Int)) rfl el_46 rfl (by omega) hadea) (by rw [Int.toNat_natCast])) ?_
      refine D.qw [9, 10, 11, 13, 14, 15, 16] rfl (by kernel_rfl) (Quiet.move rfl) ?_
      refine D.qw [10, 11, 13, 14, 15, 16] rfl (by kernel_rfl) (Quiet.nilp rfl) ?_
      refine D.qw [11, 13, 14, 15, 16] rfl (by kernel_rfl) (Quiet.fieldAddr rfl fo_79_5) ?_
      refine D.qw [13, 14, 15, 16] rfl (by kernel_rfl) (Quiet.load rfl ag_31 (by (repeat' constructor)) (rfl)) ?_
      refine D.q rfl (by kernel_rfl) (Quiet.move rfl) ?_
      refine D.q rfl (by kernel_rfl) (Quiet.to (v' := .slice za n zc) (Quiet.slTo (j := (n : Int)) rfl el_31 rfl (by omega) hadza) (by rw [Int.toNat_natCast])) ?_
      refine D.qw [15, 16] rfl (by kernel_rfl) (Quiet.nilp rfl) ?_
      refine D.qw [16] rfl (by kernel_rfl) (Quiet.fieldAddr rfl fo_79_4) ?_
      refine D.h rfl (by kernel_rfl) (OpSpec.store rfl rfl rfl sz_46 ?c125 ?c126) (by (repeat' constructor)) ?nx127
      case c125 => first | decide | (simp; omega) | simp
      case c126 => exact nfz0 _ _
      rintro v L' rfl
      refine D.ph ?_
      refine Phases.go [] (by (repeat' constructor)) ?_
      refine D.qw [18, 19] rfl (by kernel_rfl) (Quiet.nilp rfl) ?_
      refine D.qw [19] rfl (by kernel_rfl) (Quiet.fieldAddr rfl fo_79_5) ?_
      refine D.h rfl (by kernel_rfl) (OpSpec.store rfl rfl rfl sz_31 ?c130 ?c131) (by (repeat' constructor)) ?nx132
      case c130 => first | decide | (simp; omega) | simp
      case c131 => exact nfz0 _ _
      rintro v L' rfl
      refine D.ph (Phases.fin (G.then_n (G.seq (G.region (G.q (Quiet.move rfl) rfl (G.q (Quiet.assign rfl) rfl (G.nil (G.then_n (G.ret ?_)))))))))
      have hr : lgCut ⟨δ, ω, Λ⟩ z = lgCut2 ⟨δ, ω, Λ⟩ n := by unfold lgCut; dsimp only; rw [if_neg (by rw [h11]; decide), hpl]
      rw [hr]
      have hr2 : lgCut2 ⟨δ, ω, Λ⟩ n = (⟨(cutZ δ ω (((headL Λ.base Λ.snap).length + n : Nat) : Int)).1, (cutZ δ ω (((headL Λ.base Λ.snap).length + n : Nat) : Int)).2.1, ⟨Λ.acc, Λ.cur, Λ.base, Λ.snap, Λ.ents.take n, Λ.zxs.take n, Λ.doubt⟩⟩, 0) := by unfold lgCut2; dsimp only; rw [if_pos (show (metL Λ (cutZ δ ω (((headL Λ.base Λ.snap).length + n : Nat) : Int))).2 = 0 from h40)]
      rw [hr2, h40]
      try dsimp only
      refine G.slTo (a := ea) (c := ec) (m := Λ.ents.length) (k := n) (by omega) (by (repeat' constructor)) ?_
      refine G.slTo (a := za) (c := zc) (m := Λ.zxs.length) (k := n) (by omega) (by (repeat' constructor)) ?_
      have hmd : (Λ.met (cutZ δ ω (((headL Λ.base Λ.snap).length + n : Nat) : Int)).2.2).doubt = Λ.doubt := by unfold Lg.met; rw [if_neg (fun g2 => by rw [g2] at h40; exact absurd h40 (by decide))]
      rw [hmd]
      refine G.lgFold (g := g) (x := x) (ea := ea) (ec := ec) (za := za) (zc := zc) (m := n) (k := n) (⟨Λ.acc, Λ.cur, Λ.base, Λ.snap, Λ.ents.take n, Λ.zxs.take n, Λ.doubt⟩ : Lg) (by (repeat' constructor)) rfl (by simp; omega) (by simp; omega) (by simp [strs, List.map_take]) (by simp [ints, List.map_take]) ?_
      exact G.done (l := [.tmp 4]) rfl rfl ⟨rfl, rfl⟩ (by (repeat' constructor)) (by (repeat' constructor))
     ·refine G.skip (G.then_n (G.seq (G.region (G.q (Quiet.move rfl) rfl (G.q (Quiet.assign rfl) rfl (G.nil (G.then_n (G.ret ?_))))))))
      have hr : lgCut ⟨δ, ω, Λ⟩ z = lgCut2 ⟨δ, ω, Λ⟩ n := by unfold lgCut; dsimp only; rw [if_neg (by rw [h11]; decide), hpl]
      rw [hr]
      have hr2 : lgCut2 ⟨δ, ω, Λ⟩ n = metL Λ (cutZ δ ω (((headL Λ.base Λ.snap).length + n : Nat) : Int)) := by unfold lgCut2; dsimp only; rw [if_neg (show ¬ (metL Λ (cutZ δ ω (((headL Λ.base Λ.snap).length + n : Nat) : Int))).2 = 0 from h40)]
      rw [hr2]
      try dsimp only
      refine G.lgFold (g := g) (x := x) (ea := ea) (ec := ec) (za := za) (zc := zc) (m := Λ.ents.length) (k := Λ.zxs.length) (Λ.met (cutZ δ ω (((headL Λ.base Λ.snap).length + n : Nat) : Int)).2.2) (by (repeat' constructor)) (by rw [met_acc, met_cur, met_base, met_snap]) (by rw [met_ents]) (by rw [met_zxs]) (by rw [met_ents]) (by rw [met_zxs]) ?_
      exact G.done (l := [.tmp 4]) rfl rfl ⟨rfl, rfl⟩ (by (repeat' constructor)) (by (repeat' constructor))
   ·rintro v L' ⟨rfl, rfl⟩
    refine D.h2 (k := 4) rfl rfl (by kernel_rfl) rfl (Quiet.spec (L := [ptc g [vint Λ.acc, vint Λ.cur, vptr x, vint Λ.base, vstr Λ.snap, .slice ea Λ.ents.length ec, .slice za Λ.zxs.length zc, .bool Λ.doubt] 79]) (Quiet.load rfl ag_3 (by (repeat' constructor)) rfl)) (by (repeat' constructor)) (Quiet.spec (L := [ptc g [vint Λ.acc, vint Λ.cur, vptr x, vint Λ.base, vstr Λ.snap, .slice ea Λ.ents.length ec, .slice za Λ.zxs.length zc, .bool Λ.doubt] 79]) (Quiet.load rfl ag_77 (by (repeat' constructor)) rfl)) (by (repeat' constructor)) ?nx134 ?nx135
    ·rintro v L' ⟨rfl, rfl⟩
     refine D.h2 (k := 4) rfl rfl (by kernel_rfl) rfl (OpSpec.call Tryz.func46 rfl rfl (vs := [_, _]) rfl (lahead_spec Λ.base Λ.snap hΛ.base (by omega))) (by (repeat' constructor)) (Quiet.spec (L := [ptc g [vint Λ.acc, vint Λ.cur, vptr x, vint Λ.base, vstr Λ.snap, .slice ea Λ.ents.length ec, .slice za Λ.zxs.length zc, .bool Λ.doubt] 79]) (Quiet.load rfl ag_77 (by (repeat' constructor)) rfl)) (by (repeat' constructor)) ?nx137 ?nx138
     ·rintro v L' ⟨bh, ch, rfl, rfl⟩
      refine D.q rfl (by kernel_rfl) (Quiet.slen rfl Tryz.underlying46 rfl) ?_
      refine D.q rfl (by kernel_rfl) (Quiet.as (v' := vint (((headL Λ.base Λ.snap).length + n : Nat) : Int)) (by simp) (Quiet.add rfl rfl (by omega))) ?_
      refine D.h rfl (by kernel_rfl) (Quiet.spec (L := [ptc g [vint Λ.acc, vint Λ.cur, vptr x, vint Λ.base, vstr Λ.snap, .slice ea Λ.ents.length ec, .slice za Λ.zxs.length zc, .bool Λ.doubt] 79]) (Quiet.load rfl ag_77 (by (repeat' constructor)) rfl)) (by (repeat' constructor)) ?nx142
      rintro v L' ⟨rfl, rfl⟩
      refine D.h rfl (by kernel_rfl) (OpSpec.call Tryz.func75 rfl rfl (vs := [_, _]) rfl (wcut_spec x d ω δ (((headL Λ.base Λ.snap).length + n : Nat) : Int) hI)) (by (repeat' constructor)) ?nx144
      rintro v L' ⟨rfl, rfl⟩
      refine D.ph ?_
      refine Phases.go [] (by (repeat' constructor)) ?_
      refine D.h rfl (by kernel_rfl) (OpSpec.call Tryz.func50 rfl rfl (vs := [_, _]) rfl (lmetC_spec g x Λ _ ea ec za zc)) (by (repeat' constructor)) ?nx146
      rintro v L' ⟨rfl, rfl⟩
      refine D.ph ?_
      refine Phases.go [] (by (repeat' constructor)) ?_
      refine D.qw [] rfl (by kernel_rfl) (Quiet.assign rfl) ?_
      refine D.ph (Phases.fin (G.then_n (G.seq (G.seq (G.region (G.q (Quiet.move rfl) rfl (G.q (Quiet.int rfl rfl rfl) rfl (G.nil (G.then_n ?_)))))))))
      refine G.condD rfl (fun h40 => ?_) (fun h40 => ?_)
      ·refine G.draw [16, 19] [[0, 1, 2, 3, 4, 5, 6, 7, 8, 9, 10, 11, 12, 13, 14, 15, 16], [17, 18, 19]] mixed (by kernel_rfl) ?_
       refine Phases.go [] (by (repeat' constructor)) ?_
       refine D.qw [14, 15, 16] rfl (by kernel_rfl) (Quiet.move rfl) ?_
       refine D.q rfl (by kernel_rfl) (Quiet.move rfl) ?_
       refine D.qw [3, 4, 5, 7, 14, 15, 16] rfl (by kernel_rfl) (Quiet.move rfl) ?_
       refine D.qw [4, 5, 7, 14, 15, 16] rfl (by kernel_rfl) (Quiet.nilp rfl) ?_
       refine D.qw [5, 7, 14, 15, 16] rfl (by kernel_rfl) (Quiet.fieldAddr rfl fo_79_4) ?_
       refine D.qw [7, 14, 15, 16] rfl (by kernel_rfl) (Quiet.load rfl ag_46 (by (repeat' constructor)) (rfl)) ?_
       refine D.qw [7, 14, 15, 16] rfl (by kernel_rfl) (Quiet.move rfl) ?_
       refine D.qw [14, 15, 16] rfl (by kernel_rfl) (Quiet.to (v' := .slice ea n ec) (Quiet.slTo (j := (n : Int)) rfl el_46 rfl (by omega) hadea) (by rw [Int.toNat_natCast])) ?_
       refine D.qw [9, 10, 11, 13, 14, 15, 16] rfl (by kernel_rfl) (Quiet.move rfl) ?_
       refine D.qw [10, 11, 13, 14, 15, 16] rfl (by kernel_rfl) (Quiet.nilp rfl) ?_
       refine D.qw [11, 13, 14, 15, 16] rfl (by kernel_rfl) (Quiet.fieldAddr rfl fo_79_5) ?_
       refine D.qw [13, 14, 15, 16] rfl (by kernel_rfl) (Quiet.load rfl ag_31 (by (repeat' constructor)) (rfl)) ?_
       refine D.q rfl (by kernel_rfl) (Quiet.move rfl) ?_
       refine D.q rfl (by kernel_rfl) (Quiet.to (v' := .slice za n zc) (Quiet.slTo (j := (n : Int)) rfl el_31 rfl (by omega) hadza) (by rw [Int.toNat_natCast])) ?_
       refine D.qw [15, 16] rfl (by kernel_rfl) (Quiet.nilp rfl) ?_
       refine D.qw [16] rfl (by kernel_rfl) (Quiet.fieldAddr rfl fo_79_4) ?_
       refine D.h rfl (by kernel_rfl) (OpSpec.store rfl rfl rfl sz_46 ?c163 ?c164) (by (repeat' constructor)) ?nx165
       case c163 => first | decide | (simp; omega) | simp
       case c164 => exact nfz0 _ _
       rintro v L' rfl
       refine D.ph ?_
       refine Phases.go [] (by (repeat' constructor)) ?_
       refine D.qw [18, 19] rfl (by kernel_rfl) (Quiet.nilp rfl) ?_
       refine D.qw [19] rfl (by kernel_rfl) (Quiet.fieldAddr rfl fo_79_5) ?_
       refine D.h rfl (by kernel_rfl) (OpSpec.store rfl rfl rfl sz_31 ?c168 ?c169) (by (repeat' constructor)) ?nx170
       case c168 => first | decide | (simp; omega) | simp
       case c169 => exact nfz0 _ _
       rintro v L' rfl
       refine D.ph (Phases.fin (G.then_n (G.seq (G.region (G.q (Quiet.move rfl) rfl (G.q (Quiet.assign rfl) rfl (G.nil (G.then_n (G.ret ?_)))))))))
       have hr : lgCut ⟨δ, ω, Λ⟩ z = lgCut2 ⟨δ, ω, Λ⟩ n := by unfold lgCut; dsimp only; rw [if_neg (by rw [h11]; decide), hpl]
       rw [hr]
       have hr2 : lgCut2 ⟨δ, ω, Λ⟩ n = (⟨(cutZ δ ω (((headL Λ.base Λ.snap).length + n : Nat) : Int)).1, (cutZ δ ω (((headL Λ.base Λ.snap).length + n : Nat) : Int)).2.1, ⟨Λ.acc, Λ.cur, Λ.base, Λ.snap, Λ.ents.take n, Λ.zxs.take n, Λ.doubt⟩⟩, 0) := by unfold lgCut2; dsimp only; rw [if_pos (show (metL Λ (cutZ δ ω (((headL Λ.base Λ.snap).length + n : Nat) : Int))).2 = 0 from h40)]
       rw [hr2, h40]
       try dsimp only
       refine G.slTo (a := ea) (c := ec) (m := Λ.ents.length) (k := n) (by omega) (by (repeat' constructor)) ?_
       refine G.slTo (a := za) (c := zc) (m := Λ.zxs.length) (k := n) (by omega) (by (repeat' constructor)) ?_
       have hmd : (Λ.met (cutZ δ ω (((headL Λ.base Λ.snap).length + n : Nat) : Int)).2.2).doubt = Λ.doubt := by unfold Lg.met; rw [if_neg (fun g2 => by rw [g2] at h40; exact absurd h40 (by decide))]
       rw [hmd]
       refine G.lgFold (g := g) (x := x) (ea := ea) (ec := ec) (za := za) (zc := zc) (m := n) (k := n) (⟨Λ.acc, Λ.cur, Λ.base, Λ.snap, Λ.ents.take n, Λ.zxs.take n, Λ.doubt⟩ : Lg) (by (repeat' constructor)) rfl (by simp; omega) (by simp; omega) (by simp [strs, List.map_take]) (by simp [ints, List.map_take]) ?_
       exact G.done (l := [.tmp 4]) rfl rfl ⟨rfl, rfl⟩ (by (repeat' constructor)) (by (repeat' constructor))
      ·refine G.skip (G.then_n (G.seq (G.region (G.q (Quiet.move rfl) rfl (G.q (Quiet.assign rfl) rfl (G.nil (G.then_n (G.ret ?_))))))))
       have hr : lgCut ⟨δ, ω, Λ⟩ z = lgCut2 ⟨δ, ω, Λ⟩ n := by unfold lgCut; dsimp only; rw [if_neg (by rw [h11]; decide), hpl]
       rw [hr]
       have hr2 : lgCut2 ⟨δ, ω, Λ⟩ n = metL Λ (cutZ δ ω (((headL Λ.base Λ.snap).length + n : Nat) : Int)) := by unfold lgCut2; dsimp only; rw [if_neg (show ¬ (metL Λ (cutZ δ ω (((headL Λ.base Λ.snap).length + n : Nat) : Int))).2 = 0 from h40)]
       rw [hr2]
       try dsimp only
       refine G.lgFold (g := g) (x := x) (ea := ea) (ec := ec) (za := za) (zc := zc) (m := Λ.ents.length) (k := Λ.zxs.length) (Λ.met (cutZ δ ω (((headL Λ.base Λ.snap).length + n : Nat) : Int)).2.2) (by (repeat' constructor)) (by rw [met_acc, met_cur, met_base, met_snap]) (by rw [met_ents]) (by rw [met_zxs]) (by rw [met_ents]) (by rw [met_zxs]) ?_
       exact G.done (l := [.tmp 4]) rfl rfl ⟨rfl, rfl⟩ (by (repeat' constructor)) (by (repeat' constructor))
     ·rintro v L' ⟨rfl, rfl⟩
      refine D.h rfl (by kernel_rfl) (OpSpec.call Tryz.func46 rfl rfl (vs := [_, _]) rfl (lahead_spec Λ.base Λ.snap hΛ.base (by omega))) (by (repeat' constructor)) ?nx172
      rintro v L' ⟨bh, ch, rfl, rfl⟩
      refine D.qw [16, 17] rfl (by kernel_rfl) (Quiet.slen rfl Tryz.underlying46 rfl) ?_
      refine D.qw [17] rfl (by kernel_rfl) (Quiet.as (v' := vint (((headL Λ.base Λ.snap).length + n : Nat) : Int)) (by simp) (Quiet.add rfl rfl (by omega))) ?_
      refine D.h rfl (by kernel_rfl) (OpSpec.call Tryz.func75 rfl rfl (vs := [_, _]) rfl (wcut_spec x d ω δ (((headL Λ.base Λ.snap).length + n : Nat) : Int) hI)) (by (repeat' constructor)) ?nx176
      rintro v L' ⟨rfl, rfl⟩
      refine D.ph ?_
      refine Phases.go [] (by (repeat' constructor)) ?_
      refine D.h rfl (by kernel_rfl) (OpSpec.call Tryz.func50 rfl rfl (vs := [_, _]) rfl (lmetC_spec g x Λ _ ea ec za zc)) (by (repeat' constructor)) ?nx178
      rintro v L' ⟨rfl, rfl⟩
      refine D.ph ?_
      refine Phases.go [] (by (repeat' constructor)) ?_
      refine D.qw [] rfl (by kernel_rfl) (Quiet.assign rfl) ?_
      refine D.ph (Phases.fin (G.then_n (G.seq (G.seq (G.region (G.q (Quiet.move rfl) rfl (G.q (Quiet.int rfl rfl rfl) rfl (G.nil (G.then_n ?_)))))))))
      refine G.condD rfl (fun h40 => ?_) (fun h40 => ?_)
      ·refine G.draw [16, 19] [[0, 1, 2, 3, 4, 5, 6, 7, 8, 9, 10, 11, 12, 13, 14, 15, 16], [17, 18, 19]] mixed (by kernel_rfl) ?_
       refine Phases.go [] (by (repeat' constructor)) ?_
       refine D.qw [14, 15, 16] rfl (by kernel_rfl) (Quiet.move rfl) ?_
       refine D.q rfl (by kernel_rfl) (Quiet.move rfl) ?_
       refine D.qw [3, 4, 5, 7, 14, 15, 16] rfl (by kernel_rfl) (Quiet.move rfl) ?_
       refine D.qw [4, 5, 7, 14, 15, 16] rfl (by kernel_rfl) (Quiet.nilp rfl) ?_
       refine D.qw [5, 7, 14, 15, 16] rfl (by kernel_rfl) (Quiet.fieldAddr rfl fo_79_4) ?_
       refine D.qw [7, 14, 15, 16] rfl (by kernel_rfl) (Quiet.load rfl ag_46 (by (repeat' constructor)) (rfl)) ?_
       refine D.qw [7, 14, 15, 16] rfl (by kernel_rfl) (Quiet.move rfl) ?_
       refine D.qw [14, 15, 16] rfl (by kernel_rfl) (Quiet.to (v' := .slice ea n ec) (Quiet.slTo (j := (n : Int)) rfl el_46 rfl (by omega) hadea) (by rw [Int.toNat_natCast])) ?_
       refine D.qw [9, 10, 11, 13, 14, 15, 16] rfl (by kernel_rfl) (Quiet.move rfl) ?_
       refine D.qw [10, 11, 13, 14, 15, 16] rfl (by kernel_rfl) (Quiet.nilp rfl) ?_
       refine D.qw [11, 13, 14, 15, 16] rfl (by kernel_rfl) (Quiet.fieldAddr rfl fo_79_5) ?_
       refine D.qw [13, 14, 15, 16] rfl (by kernel_rfl) (Quiet.load rfl ag_31 (by (repeat' constructor)) (rfl)) ?_
       refine D.q rfl (by kernel_rfl) (Quiet.move rfl) ?_
       refine D.q rfl (by kernel_rfl) (Quiet.to (v' := .slice za n zc) (Quiet.slTo (j := (n : Int)) rfl el_31 rfl (by omega) hadza) (by rw [Int.toNat_natCast])) ?_
       refine D.qw [15, 16] rfl (by kernel_rfl) (Quiet.nilp rfl) ?_
       refine D.qw [16] rfl (by kernel_rfl) (Quiet.fieldAddr rfl fo_79_4) ?_
       refine D.h rfl (by kernel_rfl) (OpSpec.store rfl rfl rfl sz_46 ?c195 ?c196) (by (repeat' constructor)) ?nx197
       case c195 => first | decide | (simp; omega) | simp
       case c196 => exact nfz0 _ _
       rintro v L' rfl
       refine D.ph ?_
       refine Phases.go [] (by (repeat' constructor)) ?_
       refine D.qw [18, 19] rfl (by kernel_rfl) (Quiet.nilp rfl) ?_
       refine D.qw [19] rfl (by kernel_rfl) (Quiet.fieldAddr rfl fo_79_5) ?_
       refine D.h rfl (by kernel_rfl) (OpSpec.store rfl rfl rfl sz_31 ?c200 ?c201) (by (repeat' constructor)) ?nx202
       case c200 => first | decide | (simp; omega) | simp
       case c201 => exact nfz0 _ _
       rintro v L' rfl
       refine D.ph (Phases.fin (G.then_n (G.seq (G.region (G.q (Quiet.move rfl) rfl (G.q (Quiet.assign rfl) rfl (G.nil (G.then_n (G.ret ?_)))))))))
       have hr : lgCut ⟨δ, ω, Λ⟩ z = lgCut2 ⟨δ, ω, Λ⟩ n := by unfold lgCut; dsimp only; rw [if_neg (by rw [h11]; decide), hpl]
       rw [hr]
       have hr2 : lgCut2 ⟨δ, ω, Λ⟩ n = (⟨(cutZ δ ω (((headL Λ.base Λ.snap).length + n : Nat) : Int)).1, (cutZ δ ω (((headL Λ.base Λ.snap).length + n : Nat) : Int)).2.1, ⟨Λ.acc, Λ.cur, Λ.base, Λ.snap, Λ.ents.take n, Λ.zxs.take n, Λ.doubt⟩⟩, 0) := by unfold lgCut2; dsimp only; rw [if_pos (show (metL Λ (cutZ δ ω (((headL Λ.base Λ.snap).length + n : Nat) : Int))).2 = 0 from h40)]
       rw [hr2, h40]
       try dsimp only
       refine G.slTo (a := ea) (c := ec) (m := Λ.ents.length) (k := n) (by omega) (by (repeat' constructor)) ?_
       refine G.slTo (a := za) (c := zc) (m := Λ.zxs.length) (k := n) (by omega) (by (repeat' constructor)) ?_
       have hmd : (Λ.met (cutZ δ ω (((headL Λ.base Λ.snap).length + n : Nat) : Int)).2.2).doubt = Λ.doubt := by unfold Lg.met; rw [if_neg (fun g2 => by rw [g2] at h40; exact absurd h40 (by decide))]
       rw [hmd]
       refine G.lgFold (g := g) (x := x) (ea := ea) (ec := ec) (za := za) (zc := zc) (m := n) (k := n) (⟨Λ.acc, Λ.cur, Λ.base, Λ.snap, Λ.ents.take n, Λ.zxs.take n, Λ.doubt⟩ : Lg) (by (repeat' constructor)) rfl (by simp; omega) (by simp; omega) (by simp [strs, List.map_take]) (by simp [ints, List.map_take]) ?_
       exact G.done (l := [.tmp 4]) rfl rfl ⟨rfl, rfl⟩ (by (repeat' constructor)) (by (repeat' constructor))
      ·refine G.skip (G.then_n (G.seq (G.region (G.q (Quiet.move rfl) rfl (G.q (Quiet.assign rfl) rfl (G.nil (G.then_n (G.ret ?_))))))))
       have hr : lgCut ⟨δ, ω, Λ⟩ z = lgCut2 ⟨δ, ω, Λ⟩ n := by unfold lgCut; dsimp only; rw [if_neg (by rw [h11]; decide), hpl]
       rw [hr]
       have hr2 : lgCut2 ⟨δ, ω, Λ⟩ n = metL Λ (cutZ δ ω (((headL Λ.base Λ.snap).length + n : Nat) : Int)) := by unfold lgCut2; dsimp only; rw [if_neg (show ¬ (metL Λ (cutZ δ ω (((headL Λ.base Λ.snap).length + n : Nat) : Int))).2 = 0 from h40)]
       rw [hr2]
       try dsimp only
       refine G.lgFold (g := g) (x := x) (ea := ea) (ec := ec) (za := za) (zc := zc) (m := Λ.ents.length) (k := Λ.zxs.length) (Λ.met (cutZ δ ω (((headL Λ.base Λ.snap).length + n : Nat) : Int)).2.2) (by (repeat' constructor)) (by rw [met_acc, met_cur, met_base, met_snap]) (by rw [met_ents]) (by rw [met_zxs]) (by rw [met_ents]) (by rw [met_zxs]) ?_
       exact G.done (l := [.tmp 4]) rfl rfl ⟨rfl, rfl⟩ (by (repeat' constructor)) (by (repeat' constructor))
    ·rintro v L' ⟨rfl, rfl⟩
     refine D.h rfl (by kernel_rfl) (Quiet.spec (L := [ptc g [vint Λ.acc, vint Λ.cur, vptr x, vint Λ.base, vstr Λ.snap, .slice ea Λ.ents.length ec, .slice za Λ.zxs.length zc, .bool Λ.doubt] 79]) (Quiet.load rfl ag_3 (by (repeat' constructor)) rfl)) (by (repeat' constructor)) ?nx204
     rintro v L' ⟨rfl, rfl⟩
     refine D.h rfl (by kernel_rfl) (OpSpec.call Tryz.func46 rfl rfl (vs := [_, _]) rfl (lahead_spec Λ.base Λ.snap hΛ.base (by omega))) (by (repeat' constructor)) ?nx206
     rintro v L' ⟨bh, ch, rfl, rfl⟩
     refine D.qw [16, 17] rfl (by kernel_rfl) (Quiet.slen rfl Tryz.underlying46 rfl) ?_
     refine D.qw [17] rfl (by kernel_rfl) (Quiet.as (v' := vint (((headL Λ.base Λ.snap).length + n : Nat) : Int)) (by simp) (Quiet.add rfl rfl (by omega))) ?_
     refine D.h rfl (by kernel_rfl) (OpSpec.call Tryz.func75 rfl rfl (vs := [_, _]) rfl (wcut_spec x d ω δ (((headL Λ.base Λ.snap).length + n : Nat) : Int) hI)) (by (repeat' constructor)) ?nx210
     rintro v L' ⟨rfl, rfl⟩
     refine D.ph ?_
     refine Phases.go [] (by (repeat' constructor)) ?_
     refine D.h rfl (by kernel_rfl) (OpSpec.call Tryz.func50 rfl rfl (vs := [_, _]) rfl (lmetC_spec g x Λ _ ea ec za zc)) (by (repeat' constructor)) ?nx212
     rintro v L' ⟨rfl, rfl⟩
     refine D.ph ?_
     refine Phases.go [] (by (repeat' constructor)) ?_
     refine D.qw [] rfl (by kernel_rfl) (Quiet.assign rfl) ?_
     refine D.ph (Phases.fin (G.then_n (G.seq (G.seq (G.region (G.q (Quiet.move rfl) rfl (G.q (Quiet.int rfl rfl rfl) rfl (G.nil (G.then_n ?_)))))))))
     refine G.condD rfl (fun h40 => ?_) (fun h40 => ?_)
     ·refine G.draw [16, 19] [[0, 1, 2, 3, 4, 5, 6, 7, 8, 9, 10, 11, 12, 13, 14, 15, 16], [17, 18, 19]] mixed (by kernel_rfl) ?_
      refine Phases.go [] (by (repeat' constructor)) ?_
      refine D.qw [14, 15, 16] rfl (by kernel_rfl) (Quiet.move rfl) ?_
      refine D.q rfl (by kernel_rfl) (Quiet.move rfl) ?_
      refine D.qw [3, 4, 5, 7, 14, 15, 16] rfl (by kernel_rfl) (Quiet.move rfl) ?_
      refine D.qw [4, 5, 7, 14, 15, 16] rfl (by kernel_rfl) (Quiet.nilp rfl) ?_
      refine D.qw [5, 7, 14, 15, 16] rfl (by kernel_rfl) (Quiet.fieldAddr rfl fo_79_4) ?_
      refine D.qw [7, 14, 15, 16] rfl (by kernel_rfl) (Quiet.load rfl ag_46 (by (repeat' constructor)) (rfl)) ?_
      refine D.qw [7, 14, 15, 16] rfl (by kernel_rfl) (Quiet.move rfl) ?_
      refine D.qw [14, 15, 16] rfl (by kernel_rfl) (Quiet.to (v' := .slice ea n ec) (Quiet.slTo (j := (n : Int)) rfl el_46 rfl (by omega) hadea) (by rw [Int.toNat_natCast])) ?_
      refine D.qw [9, 10, 11, 13, 14, 15, 16] rfl (by kernel_rfl) (Quiet.move rfl) ?_
      refine D.qw [10, 11, 13, 14, 15, 16] rfl (by kernel_rfl) (Quiet.nilp rfl) ?_
      refine D.qw [11, 13, 14, 15, 16] rfl (by kernel_rfl) (Quiet.fieldAddr rfl fo_79_5) ?_
      refine D.qw [13, 14, 15, 16] rfl (by kernel_rfl) (Quiet.load rfl ag_31 (by (repeat' constructor)) (rfl)) ?_
      refine D.q rfl (by kernel_rfl) (Quiet.move rfl) ?_
      refine D.q rfl (by kernel_rfl) (Quiet.to (v' := .slice za n zc) (Quiet.slTo (j := (n : Int)) rfl el_31 rfl (by omega) hadza) (by rw [Int.toNat_natCast])) ?_
      refine D.qw [15, 16] rfl (by kernel_rfl) (Quiet.nilp rfl) ?_
      refine D.qw [16] rfl (by kernel_rfl) (Quiet.fieldAddr rfl fo_79_4) ?_
      refine D.h rfl (by kernel_rfl) (OpSpec.store rfl rfl rfl sz_46 ?c229 ?c230) (by (repeat' constructor)) ?nx231
      case c229 => first | decide | (simp; omega) | simp
      case c230 => exact nfz0 _ _
      rintro v L' rfl
      refine D.ph ?_
      refine Phases.go [] (by (repeat' constructor)) ?_
      refine D.qw [18, 19] rfl (by kernel_rfl) (Quiet.nilp rfl) ?_
      refine D.qw [19] rfl (by kernel_rfl) (Quiet.fieldAddr rfl fo_79_5) ?_
      refine D.h rfl (by kernel_rfl) (OpSpec.store rfl rfl rfl sz_31 ?c234 ?c235) (by (repeat' constructor)) ?nx236
      case c234 => first | decide | (simp; omega) | simp
      case c235 => exact nfz0 _ _
      rintro v L' rfl
      refine D.ph (Phases.fin (G.then_n (G.seq (G.region (G.q (Quiet.move rfl) rfl (G.q (Quiet.assign rfl) rfl (G.nil (G.then_n (G.ret ?_)))))))))
      have hr : lgCut ⟨δ, ω, Λ⟩ z = lgCut2 ⟨δ, ω, Λ⟩ n := by unfold lgCut; dsimp only; rw [if_neg (by rw [h11]; decide), hpl]
      rw [hr]
      have hr2 : lgCut2 ⟨δ, ω, Λ⟩ n = (⟨(cutZ δ ω (((headL Λ.base Λ.snap).length + n : Nat) : Int)).1, (cutZ δ ω (((headL Λ.base Λ.snap).length + n : Nat) : Int)).2.1, ⟨Λ.acc, Λ.cur, Λ.base, Λ.snap, Λ.ents.take n, Λ.zxs.take n, Λ.doubt⟩⟩, 0) := by unfold lgCut2; dsimp only; rw [if_pos (show (metL Λ (cutZ δ ω (((headL Λ.base Λ.snap).length + n : Nat) : Int))).2 = 0 from h40)]
      rw [hr2, h40]
      try dsimp only
      refine G.slTo (a := ea) (c := ec) (m := Λ.ents.length) (k := n) (by omega) (by (repeat' constructor)) ?_
      refine G.slTo (a := za) (c := zc) (m := Λ.zxs.length) (k := n) (by omega) (by (repeat' constructor)) ?_
      have hmd : (Λ.met (cutZ δ ω (((headL Λ.base Λ.snap).length + n : Nat) : Int)).2.2).doubt = Λ.doubt := by unfold Lg.met; rw [if_neg (fun g2 => by rw [g2] at h40; exact absurd h40 (by decide))]
      rw [hmd]
      refine G.lgFold (g := g) (x := x) (ea := ea) (ec := ec) (za := za) (zc := zc) (m := n) (k := n) (⟨Λ.acc, Λ.cur, Λ.base, Λ.snap, Λ.ents.take n, Λ.zxs.take n, Λ.doubt⟩ : Lg) (by (repeat' constructor)) rfl (by simp; omega) (by simp; omega) (by simp [strs, List.map_take]) (by simp [ints, List.map_take]) ?_
      exact G.done (l := [.tmp 4]) rfl rfl ⟨rfl, rfl⟩ (by (repeat' constructor)) (by (repeat' constructor))
     ·refine G.skip (G.then_n (G.seq (G.region (G.q (Quiet.move rfl) rfl (G.q (Quiet.assign rfl) rfl (G.nil (G.then_n (G.ret ?_))))))))
      have hr : lgCut ⟨δ, ω, Λ⟩ z = lgCut2 ⟨δ, ω, Λ⟩ n := by unfold lgCut; dsimp only; rw [if_neg (by rw [h11]; decide), hpl]
      rw [hr]
      have hr2 : lgCut2 ⟨δ, ω, Λ⟩ n = metL Λ (cutZ δ ω (((headL Λ.base Λ.snap).length + n : Nat) : Int)) := by unfold lgCut2; dsimp only; rw [if_neg (show ¬ (metL Λ (cutZ δ ω (((headL Λ.base Λ.snap).length + n : Nat) : Int))).2 = 0 from h40)]
      rw [hr2]
      try dsimp only
      refine G.lgFold (g := g) (x := x) (ea := ea) (ec := ec) (za := za) (zc := zc) (m := Λ.ents.length) (k := Λ.zxs.length) (Λ.met (cutZ δ ω (((headL Λ.base Λ.snap).length + n : Nat) : Int)).2.2) (by (repeat' constructor)) (by rw [met_acc, met_cur, met_base, met_snap]) (by rw [met_ents]) (by rw [met_zxs]) (by rw [met_ents]) (by rw [met_zxs]) ?_
      exact G.done (l := [.tmp 4]) rfl rfl ⟨rfl, rfl⟩ (by (repeat' constructor)) (by (repeat' constructor))
   ·rintro v L' ⟨rfl, rfl⟩
    refine D.h2 (k := 12) rfl rfl (by kernel_rfl) rfl (Quiet.spec (L := [ptc g [vint Λ.acc, vint Λ.cur, vptr x, vint Λ.base, vstr Λ.snap, .slice ea Λ.ents.length ec, .slice za Λ.zxs.length zc, .bool Λ.doubt] 79]) (Quiet.load rfl ag_3 (by (repeat' constructor)) rfl)) (by (repeat' constructor)) (Quiet.spec (L := [ptc g [vint Λ.acc, vint Λ.cur, vptr x, vint Λ.base, vstr Λ.snap, .slice ea Λ.ents.length ec, .slice za Λ.zxs.length zc, .bool Λ.doubt] 79]) (Quiet.load rfl ag_9 (by (repeat' constructor)) rfl)) (by (repeat' constructor)) ?nx238 ?nx239
    ·rintro v L' ⟨rfl, rfl⟩
     refine D.h rfl (by kernel_rfl) (Quiet.spec (L := [ptc g [vint Λ.acc, vint Λ.cur, vptr x, vint Λ.base, vstr Λ.snap, .slice ea Λ.ents.length ec, .slice za Λ.zxs.length zc, .bool Λ.doubt] 79]) (Quiet.load rfl ag_9 (by (repeat' constructor)) rfl)) (by (repeat' constructor)) ?nx241
     rintro v L' ⟨rfl, rfl⟩
     refine D.h rfl (by kernel_rfl) (OpSpec.call Tryz.func46 rfl rfl (vs := [_, _]) rfl (lahead_spec Λ.base Λ.snap hΛ.base (by omega))) (by (repeat' constructor)) ?nx243
     rintro v L' ⟨bh, ch, rfl, rfl⟩
     refine D.qw [16, 17] rfl (by kernel_rfl) (Quiet.slen rfl Tryz.underlying46 rfl) ?_
     refine D.qw [17] rfl (by kernel_rfl) (Quiet.as (v' := vint (((headL Λ.base Λ.snap).length + n : Nat) : Int)) (by simp) (Quiet.add rfl rfl (by omega))) ?_
     refine D.h rfl (by kernel_rfl) (OpSpec.call Tryz.func75 rfl rfl (vs := [_, _]) rfl (wcut_spec x d ω δ (((headL Λ.base Λ.snap).length + n : Nat) : Int) hI)) (by (repeat' constructor)) ?nx247
     rintro v L' ⟨rfl, rfl⟩
     refine D.ph ?_
     refine Phases.go [] (by (repeat' constructor)) ?_
     refine D.h rfl (by kernel_rfl) (OpSpec.call Tryz.func50 rfl rfl (vs := [_, _]) rfl (lmetC_spec g x Λ _ ea ec za zc)) (by (repeat' constructor)) ?nx249
     rintro v L' ⟨rfl, rfl⟩
     refine D.ph ?_
     refine Phases.go [] (by (repeat' constructor)) ?_
     refine D.qw [] rfl (by kernel_rfl) (Quiet.assign rfl) ?_
     refine D.ph (Phases.fin (G.then_n (G.seq (G.seq (G.region (G.q (Quiet.move rfl) rfl (G.q (Quiet.int rfl rfl rfl) rfl (G.nil (G.then_n ?_)))))))))
     refine G.condD rfl (fun h40 => ?_) (fun h40 => ?_)
     ·refine G.draw [16, 19] [[0, 1, 2, 3, 4, 5, 6, 7, 8, 9, 10, 11, 12, 13, 14, 15, 16], [17, 18, 19]] mixed (by kernel_rfl) ?_
      refine Phases.go [] (by (repeat' constructor)) ?_
      refine D.qw [14, 15, 16] rfl (by kernel_rfl) (Quiet.move rfl) ?_
      refine D.q rfl (by kernel_rfl) (Quiet.move rfl) ?_
      refine D.qw [3, 4, 5, 7, 14, 15, 16] rfl (by kernel_rfl) (Quiet.move rfl) ?_
      refine D.qw [4, 5, 7, 14, 15, 16] rfl (by kernel_rfl) (Quiet.nilp rfl) ?_
      refine D.qw [5, 7, 14, 15, 16] rfl (by kernel_rfl) (Quiet.fieldAddr rfl fo_79_4) ?_
      refine D.qw [7, 14, 15, 16] rfl (by kernel_rfl) (Quiet.load rfl ag_46 (by (repeat' constructor)) (rfl)) ?_
      refine D.qw [7, 14, 15, 16] rfl (by kernel_rfl) (Quiet.move rfl) ?_
      refine D.qw [14, 15, 16] rfl (by kernel_rfl) (Quiet.to (v' := .slice ea n ec) (Quiet.slTo (j := (n : Int)) rfl el_46 rfl (by omega) hadea) (by rw [Int.toNat_natCast])) ?_
      refine D.qw [9, 10, 11, 13, 14, 15, 16] rfl (by kernel_rfl) (Quiet.move rfl) ?_
      refine D.qw [10, 11, 13, 14, 15, 16] rfl (by kernel_rfl) (Quiet.nilp rfl) ?_
      refine D.qw [11, 13, 14, 15, 16] rfl (by kernel_rfl) (Quiet.fieldAddr rfl fo_79_5) ?_
      refine D.qw [13, 14, 15, 16] rfl (by kernel_rfl) (Quiet.load rfl ag_31 (by (repeat' constructor)) (rfl)) ?_
      refine D.q rfl (by kernel_rfl) (Quiet.move rfl) ?_
      refine D.q rfl (by kernel_rfl) (Quiet.to (v' := .slice za n zc) (Quiet.slTo (j := (n : Int)) rfl el_31 rfl (by omega) hadza) (by rw [Int.toNat_natCast])) ?_
      refine D.qw [15, 16] rfl (by kernel_rfl) (Quiet.nilp rfl) ?_
      refine D.qw [16] rfl (by kernel_rfl) (Quiet.fieldAddr rfl fo_79_4) ?_
      refine D.h rfl (by kernel_rfl) (OpSpec.store rfl rfl rfl sz_46 ?c266 ?c267) (by (repeat' constructor)) ?nx268
      case c266 => first | decide | (simp; omega) | simp
      case c267 => exact nfz0 _ _
      rintro v L' rfl
      refine D.ph ?_
      refine Phases.go [] (by (repeat' constructor)) ?_
      refine D.qw [18, 19] rfl (by kernel_rfl) (Quiet.nilp rfl) ?_
      refine D.qw [19] rfl (by kernel_rfl) (Quiet.fieldAddr rfl fo_79_5) ?_
      refine D.h rfl (by kernel_rfl) (OpSpec.store rfl rfl rfl sz_31 ?c271 ?c272) (by (repeat' constructor)) ?nx273
      case c271 => first | decide | (simp; omega) | simp
      case c272 => exact nfz0 _ _
      rintro v L' rfl
      refine D.ph (Phases.fin (G.then_n (G.seq (G.region (G.q (Quiet.move rfl) rfl (G.q (Quiet.assign rfl) rfl (G.nil (G.then_n (G.ret ?_)))))))))
      have hr : lgCut ⟨δ, ω, Λ⟩ z = lgCut2 ⟨δ, ω, Λ⟩ n := by unfold lgCut; dsimp only; rw [if_neg (by rw [h11]; decide), hpl]
      rw [hr]
      have hr2 : lgCut2 ⟨δ, ω, Λ⟩ n = (⟨(cutZ δ ω (((headL Λ.base Λ.snap).length + n : Nat) : Int)).1, (cutZ δ ω (((headL Λ.base Λ.snap).length + n : Nat) : Int)).2.1, ⟨Λ.acc, Λ.cur, Λ.base, Λ.snap, Λ.ents.take n, Λ.zxs.take n, Λ.doubt⟩⟩, 0) := by unfold lgCut2; dsimp only; rw [if_pos (show (metL Λ (cutZ δ ω (((headL Λ.base Λ.snap).length + n : Nat) : Int))).2 = 0 from h40)]
      rw [hr2, h40]
      try dsimp only
      refine G.slTo (a := ea) (c := ec) (m := Λ.ents.length) (k := n) (by omega) (by (repeat' constructor)) ?_
      refine G.slTo (a := za) (c := zc) (m := Λ.zxs.length) (k := n) (by omega) (by (repeat' constructor)) ?_
      have hmd : (Λ.met (cutZ δ ω (((headL Λ.base Λ.snap).length + n : Nat) : Int)).2.2).doubt = Λ.doubt := by unfold Lg.met; rw [if_neg (fun g2 => by rw [g2] at h40; exact absurd h40 (by decide))]
      rw [hmd]
      refine G.lgFold (g := g) (x := x) (ea := ea) (ec := ec) (za := za) (zc := zc) (m := n) (k := n) (⟨Λ.acc, Λ.cur, Λ.base, Λ.snap, Λ.ents.take n, Λ.zxs.take n, Λ.doubt⟩ : Lg) (by (repeat' constructor)) rfl (by simp; omega) (by simp; omega) (by simp [strs, List.map_take]) (by simp [ints, List.map_take]) ?_
      exact G.done (l := [.tmp 4]) rfl rfl ⟨rfl, rfl⟩ (by (repeat' constructor)) (by (repeat' constructor))
     ·refine G.skip (G.then_n (G.seq (G.region (G.q (Quiet.move rfl) rfl (G.q (Quiet.assign rfl) rfl (G.nil (G.then_n (G.ret ?_))))))))
      have hr : lgCut ⟨δ, ω, Λ⟩ z = lgCut2 ⟨δ, ω, Λ⟩ n := by unfold lgCut; dsimp only; rw [if_neg (by rw [h11]; decide), hpl]
      rw [hr]
      have hr2 : lgCut2 ⟨δ, ω, Λ⟩ n = metL Λ (cutZ δ ω (((headL Λ.base Λ.snap).length + n : Nat) : Int)) := by unfold lgCut2; dsimp only; rw [if_neg (show ¬ (metL Λ (cutZ δ ω (((headL Λ.base Λ.snap).length + n : Nat) : Int))).2 = 0 from h40)]
      rw [hr2]
      try dsimp only
      refine G.lgFold (g := g) (x := x) (ea := ea) (ec := ec) (za := za) (zc := zc) (m := Λ.ents.length) (k := Λ.zxs.length) (Λ.met (cutZ δ ω (((headL Λ.base Λ.snap).length + n : Nat) : Int)).2.2) (by (repeat' constructor)) (by rw [met_acc, met_cur, met_base, met_snap]) (by rw [met_ents]) (by rw [met_zxs]) (by rw [met_ents]) (by rw [met_zxs]) ?_
      exact G.done (l := [.tmp 4]) rfl rfl ⟨rfl, rfl⟩ (by (repeat' constructor)) (by (repeat' constructor))
    ·rintro v L' ⟨rfl, rfl⟩
     refine D.h rfl (by kernel_rfl) (Quiet.spec (L := [ptc g [vint Λ.acc, vint Λ.cur, vptr x, vint Λ.base, vstr Λ.snap, .slice ea Λ.ents.length ec, .slice za Λ.zxs.length zc, .bool Λ.doubt] 79]) (Quiet.load rfl ag_3 (by (repeat' constructor)) rfl)) (by (repeat' constructor)) ?nx275
     rintro v L' ⟨rfl, rfl⟩
     refine D.h rfl (by kernel_rfl) (OpSpec.call Tryz.func46 rfl rfl (vs := [_, _]) rfl (lahead_spec Λ.base Λ.snap hΛ.base (by omega))) (by (repeat' constructor)) ?nx277
     rintro v L' ⟨bh, ch, rfl, rfl⟩
     refine D.qw [16, 17] rfl (by kernel_rfl) (Quiet.slen rfl Tryz.underlying46 rfl) ?_
     refine D.qw [17] rfl (by kernel_rfl) (Quiet.as (v' := vint (((headL Λ.base Λ.snap).length + n : Nat) : Int)) (by simp) (Quiet.add rfl rfl (by omega))) ?_
     refine D.h rfl (by kernel_rfl) (OpSpec.call Tryz.func75 rfl rfl (vs := [_, _]) rfl (wcut_spec x d ω δ (((headL Λ.base Λ.snap).length + n : Nat) : Int) hI)) (by (repeat' constructor)) ?nx281
     rintro v L' ⟨rfl, rfl⟩
     refine D.ph ?_
     refine Phases.go [] (by (repeat' constructor)) ?_
     refine D.h rfl (by kernel_rfl) (OpSpec.call Tryz.func50 rfl rfl (vs := [_, _]) rfl (lmetC_spec g x Λ _ ea ec za zc)) (by (repeat' constructor)) ?nx283
     rintro v L' ⟨rfl, rfl⟩
     refine D.ph ?_
     refine Phases.go [] (by (repeat' constructor)) ?_
     refine D.qw [] rfl (by kernel_rfl) (Quiet.assign rfl) ?_
     refine D.ph (Phases.fin (G.then_n (G.seq (G.seq (G.region (G.q (Quiet.move rfl) rfl (G.q (Quiet.int rfl rfl rfl) rfl (G.nil (G.then_n ?_)))))))))
     refine G.condD rfl (fun h40 => ?_) (fun h40 => ?_)
     ·refine G.draw [16, 19] [[0, 1, 2, 3, 4, 5, 6, 7, 8, 9, 10, 11, 12, 13, 14, 15, 16], [17, 18, 19]] mixed (by kernel_rfl) ?_
      refine Phases.go [] (by (repeat' constructor)) ?_
      refine D.qw [14, 15, 16] rfl (by kernel_rfl) (Quiet.move rfl) ?_
      refine D.q rfl (by kernel_rfl) (Quiet.move rfl) ?_
      refine D.qw [3, 4, 5, 7, 14, 15, 16] rfl (by kernel_rfl) (Quiet.move rfl) ?_
      refine D.qw [4, 5, 7, 14, 15, 16] rfl (by kernel_rfl) (Quiet.nilp rfl) ?_
      refine D.qw [5, 7, 14, 15, 16] rfl (by kernel_rfl) (Quiet.fieldAddr rfl fo_79_4) ?_
      refine D.qw [7, 14, 15, 16] rfl (by kernel_rfl) (Quiet.load rfl ag_46 (by (repeat' constructor)) (rfl)) ?_
      refine D.qw [7, 14, 15, 16] rfl (by kernel_rfl) (Quiet.move rfl) ?_
      refine D.qw [14, 15, 16] rfl (by kernel_rfl) (Quiet.to (v' := .slice ea n ec) (Quiet.slTo (j := (n : Int)) rfl el_46 rfl (by omega) hadea) (by rw [Int.toNat_natCast])) ?_
      refine D.qw [9, 10, 11, 13, 14, 15, 16] rfl (by kernel_rfl) (Quiet.move rfl) ?_
      refine D.qw [10, 11, 13, 14, 15, 16] rfl (by kernel_rfl) (Quiet.nilp rfl) ?_
      refine D.qw [11, 13, 14, 15, 16] rfl (by kernel_rfl) (Quiet.fieldAddr rfl fo_79_5) ?_
      refine D.qw [13, 14, 15, 16] rfl (by kernel_rfl) (Quiet.load rfl ag_31 (by (repeat' constructor)) (rfl)) ?_
      refine D.q rfl (by kernel_rfl) (Quiet.move rfl) ?_
      refine D.q rfl (by kernel_rfl) (Quiet.to (v' := .slice za n zc) (Quiet.slTo (j := (n : Int)) rfl el_31 rfl (by omega) hadza) (by rw [Int.toNat_natCast])) ?_
      refine D.qw [15, 16] rfl (by kernel_rfl) (Quiet.nilp rfl) ?_
      refine D.qw [16] rfl (by kernel_rfl) (Quiet.fieldAddr rfl fo_79_4) ?_
      refine D.h rfl (by kernel_rfl) (OpSpec.store rfl rfl rfl sz_46 ?c300 ?c301) (by (repeat' constructor)) ?nx302
      case c300 => first | decide | (simp; omega) | simp
      case c301 => exact nfz0 _ _
      rintro v L' rfl
      refine D.ph ?_
      refine Phases.go [] (by (repeat' constructor)) ?_
      refine D.qw [18, 19] rfl (by kernel_rfl) (Quiet.nilp rfl) ?_
      refine D.qw [19] rfl (by kernel_rfl) (Quiet.fieldAddr rfl fo_79_5) ?_
      refine D.h rfl (by kernel_rfl) (OpSpec.store rfl rfl rfl sz_31 ?c305 ?c306) (by (repeat' constructor)) ?nx307
      case c305 => first | decide | (simp; omega) | simp
      case c306 => exact nfz0 _ _
      rintro v L' rfl
      refine D.ph (Phases.fin (G.then_n (G.seq (G.region (G.q (Quiet.move rfl) rfl (G.q (Quiet.assign rfl) rfl (G.nil (G.then_n (G.ret ?_)))))))))
      have hr : lgCut ⟨δ, ω, Λ⟩ z = lgCut2 ⟨δ, ω, Λ⟩ n := by unfold lgCut; dsimp only; rw [if_neg (by rw [h11]; decide), hpl]
      rw [hr]
      have hr2 : lgCut2 ⟨δ, ω, Λ⟩ n = (⟨(cutZ δ ω (((headL Λ.base Λ.snap).length + n : Nat) : Int)).1, (cutZ δ ω (((headL Λ.base Λ.snap).length + n : Nat) : Int)).2.1, ⟨Λ.acc, Λ.cur, Λ.base, Λ.snap, Λ.ents.take n, Λ.zxs.take n, Λ.doubt⟩⟩, 0) := by unfold lgCut2; dsimp only; rw [if_pos (show (metL Λ (cutZ δ ω (((headL Λ.base Λ.snap).length + n : Nat) : Int))).2 = 0 from h40)]
      rw [hr2, h40]
      try dsimp only
      refine G.slTo (a := ea) (c := ec) (m := Λ.ents.length) (k := n) (by omega) (by (repeat' constructor)) ?_
      refine G.slTo (a := za) (c := zc) (m := Λ.zxs.length) (k := n) (by omega) (by (repeat' constructor)) ?_
      have hmd : (Λ.met (cutZ δ ω (((headL Λ.base Λ.snap).length + n : Nat) : Int)).2.2).doubt = Λ.doubt := by unfold Lg.met; rw [if_neg (fun g2 => by rw [g2] at h40; exact absurd h40 (by decide))]
      rw [hmd]
      refine G.lgFold (g := g) (x := x) (ea := ea) (ec := ec) (za := za) (zc := zc) (m := n) (k := n) (⟨Λ.acc, Λ.cur, Λ.base, Λ.snap, Λ.ents.take n, Λ.zxs.take n, Λ.doubt⟩ : Lg) (by (repeat' constructor)) rfl (by simp; omega) (by simp; omega) (by simp [strs, List.map_take]) (by simp [ints, List.map_take]) ?_
      exact G.done (l := [.tmp 4]) rfl rfl ⟨rfl, rfl⟩ (by (repeat' constructor)) (by (repeat' constructor))
     ·refine G.skip (G.then_n (G.seq (G.region (G.q (Quiet.move rfl) rfl (G.q (Quiet.assign rfl) rfl (G.nil (G.then_n (G.ret ?_))))))))
      have hr : lgCut ⟨δ, ω, Λ⟩ z = lgCut2 ⟨δ, ω, Λ⟩ n := by unfold lgCut; dsimp only; rw [if_neg (by rw [h11]; decide), hpl]
      rw [hr]
      have hr2 : lgCut2 ⟨δ, ω, Λ⟩ n = metL Λ (cutZ δ ω (((headL Λ.base Λ.snap).length + n : Nat) : Int)) := by unfold lgCut2; dsimp only; rw [if_neg (show ¬ (metL Λ (cutZ δ ω (((headL Λ.base Λ.snap).length + n : Nat) : Int))).2 = 0 from h40)]
      rw [hr2]
      try dsimp only
      refine G.lgFold (g := g) (x := x) (ea := ea) (ec := ec) (za := za) (zc := zc) (m := Λ.ents.length) (k := Λ.zxs.length) (Λ.met (cutZ δ ω (((headL Λ.base Λ.snap).length + n : Nat) : Int)).2.2) (by (repeat' constructor)) (by rw [met_acc, met_cur, met_base, met_snap]) (by rw [met_ents]) (by rw [met_zxs]) (by rw [met_ents]) (by rw [met_zxs]) ?_
      exact G.done (l := [.tmp 4]) rfl rfl ⟨rfl, rfl⟩ (by (repeat' constructor)) (by (repeat' constructor))

end Go.Proofs.YtidjhgbdokcphaaGreat

/- Own work: parts of slices; a ledger that is being made. -/

namespace Go.Proofs.YtidjhgbdokcphaaGreat
open Go

def cutG (a : Option Addr) (c i sz : Nat) : Option Addr := if c = i then a else a.map (·.add (i * sz))
def cutS (a : Option Addr) (c i : Nat) : Option Addr := cutG a c i 1
/-- A ledger that is being made: no log yet. -/
def lgNR (b : Nat) (base : Int) (snap : Bs) (es : List Bs) (zs : List Int) : HP := fun h => ∃ y : (Option Addr × Nat) × (Option Addr × Nat), True ∧ sep [ptc b [vint 0, vint 0, .pointer none, vint base, vstr snap, .slice y.1.1 es.length y.1.2, .slice y.2.1 zs.length y.2.2, .bool false] 79,
  strR (.slice y.1.1 es.length y.1.2) es, intR (.slice y.2.1 zs.length y.2.2) zs] h
section
variable {W : World} {n : Nat} {ds : List Deferred} {E : Env} {L R : List HP} {X : Act → World → Prop}
end
theorem recZ_len' (s : Bs) : (recZ s).length = s.length + 6 := by rw [recZ_len]
end Go.Proofs.YtidjhgbdokcphaaGreat

/- Own work, by program: package ledger: renew, Compact, Install: walked. -/

namespace Go.Proofs.YtidjhgbdokcphaaGreat
open Go
end Go.Proofs.YtidjhgbdokcphaaGreat

/- Own work: scripts of law 09: plain. -/

namespace Go.Proofs.YtidjhgbdokcphaaGreat
open Go

structure Op9 where
  k : Int
  n : Int
  size : Int
  e : En
  lv : Value
  l : List En
  text : Bs
  hv : Value
  how : List Int
def op9K (o : Op9) (k : Int) : List Value := [vint k, vint o.n, vint o.size] ++ enC o.e ++ [o.lv, vstr o.text, o.hv]
def op9C (o : Op9) : List Value := op9K o o.k
structure Op9A (p : HP) (o : Op9) : Prop where
  k : I64 o.k
  n : I64 o.n
  size : I64 o.size
  e : EnX p o.e
  l : ∀ h : Hp, p h → rdS 11 h o.lv o.l.length (o.l.flatMap enC)
  len : o.l.length ≤ 1048576
  x : ∀ e ∈ o.l, EnX p e
  text : o.text.length ≤ 1048576
  how : ∀ h : Hp, p h → rdS 1 h o.hv o.how.length (ints o.how)
  hows : ∀ z ∈ o.how, I64 z
  lc : isCell o.lv = true
  hc : isCell o.hv = true
structure Ops9 (p : HP) (v : Value) (xs : List Op9) : Prop where
  cells : ∀ h : Hp, p h → rdS 17 h v xs.length (xs.flatMap op9C)
  len : xs.length ≤ 1048576
  each : ∀ o ∈ xs, Op9A p o
def textF : Nat → Bs → Int → Bs
  | 0, s, _ => s
  | f + 1, s, n => if s ≠ [] ∧ (s.length : Int) < n then textF f (s ++ s) n else s
def cutT (s : Bs) (n : Int) : Bs := if (s.length : Int) > n ∧ n > 0 then s.take n.toNat else s
def textZ (o : Op9) : Bs := cutT (textF 66001 o.text (min o.size 66000)) (min o.size 66000)
def lgDoes (s : Ld) (o : Op9) (k : Int) : Ld × Int :=
  if k = 1 then lgAppend s o.e else if k = 2 then lgSync s else if k = 3 then lgAccept s o.n else if k = 4 then lgAdopt s o.n else if k = 5 then lgCut s o.n else if k = 6 then lgInstall s o.n (textZ o) o.l else lgCompact s o.n (textZ o)
/-- No epoch falls. -/
def QE (Λ L : Lg) : Prop := Λ.acc ≤ L.acc ∧ Λ.cur ≤ L.cur
end Go.Proofs.YtidjhgbdokcphaaGreat

/- Own work, by program: LedgerMarks: walked. -/
namespace Go.Proofs.YtidjhgbdokcphaaGreat
open Go
end Go.Proofs.YtidjhgbdokcphaaGreat

/- Own work: a formatted ledger, and what opens behind a crash: plain. -/
namespace Go.Proofs.YtidjhgbdokcphaaGreat
open Go

theorem lgFormat_ok {δ : Dk} {ω : Wl} (h : (lgFormat δ).2 = some ω) : (lgF1 δ).2.2 = 0 ∧ (lgF2 δ).2.2 = 0 ∧ ω = (lgF2 δ).2.1 ∧ (lgFormat δ).1 = (lgF2 δ).1 := by
  unfold lgFormat at h ⊢
  split at h
  · cases h
  split at h
  · cases h
  split at h
  · cases h
  · rename_i h1 h2 h3
    cases h
    rw [if_neg h1, if_neg h2, if_neg h3]
    exact ⟨by simpa using h2, by simpa using h3, rfl, rfl⟩
theorem calm_of {δ : Dk} (h : Al δ) : δ.calm = δ := by
  obtain ⟨n, o, a, l, d⟩ := δ
  have : l = 0 := h.left
  subst this; rfl
theorem format_llv {n : Int} (h : 16 ≤ n ∧ n ≤ 32768) : ∃ ω, (lgFormat (Dk.new n)).2 = some ω ∧ LLv ⟨(lgFormat (Dk.new n)).1, ω, lg0⟩ 4000003 ∧ Well (formatZ (Dk.new n)).1 newW 3 ∧ Well (lgF1 (Dk.new n)).1 (lgF1 (Dk.new n)).2.1 2000003 := by
  obtain ⟨ω, f1, f2, -, f4, f5⟩ := format_lwell h
  obtain ⟨e1, e2, e3, e4⟩ := lgFormat_ok f1
  have v1 : Lv (lgF1 (Dk.new n)).1 (lgF1 (Dk.new n)).2.1 (3 + 2000000) := (append_res (lv_new h) (headB 0 0) (B := ([], 0, 0))).live (by show (lgF1 (Dk.new n)).2.2 ≠ 2; rw [e1]; decide)
  have v2 : Lv (lgF2 (Dk.new n)).1 (lgF2 (Dk.new n)).2.1 (3 + 2000000 + 2000000) := (sync_res v1 (k := 2)).live (by show (lgF2 (Dk.new n)).2.2 ≠ 2; rw [e2]; decide)
  refine ⟨ω, f1, ⟨by rw [e3]; dsimp only; rw [e4]; exact v2, ?_, ?_⟩, f4, f5⟩
  · show LWell ⟨(lgFormat (Dk.new n)).1.calm, ω, lg0⟩ 4000003
    rw [calm_of f2.well.al]; exact f2
  · show ((headL 0 []).length : Int) ≤ ω.synced
    have hs : (lgF2 (Dk.new n)).2.1.synced = (lgF2 (Dk.new n)).2.1.recs.length := by
      rcases (well_sync f5).2.2 with ⟨c, g⟩ | g
      · show (syncZ (lgF1 (Dk.new n)).1 (lgF1 (Dk.new n)).2.1).2.1.synced = (syncZ (lgF1 (Dk.new n)).1 (lgF1 (Dk.new n)).2.1).2.1.recs.length
        rw [g]
      · have : (lgF2 (Dk.new n)).2.2 = 30 := by show (syncZ _ _).2.2 = 30; rw [g]
        rw [e2] at this; cases this
    have hr : ω.recs = headL 0 [] ++ [] := f2.recs
    rw [e3, hs, ← e3, hr]; simp
theorem LLv.opened {σ : Dk} {ω : Wl} {Λ : Lg} {N : Int} (h : LLv ⟨σ, ω, Λ⟩ N) : ω.doubt = false ∧ ω.recs.length ≤ 1048576 ∧ ∀ s ∈ ω.recs, s.length ≤ 1073741824 := by
  have h1 := headL_len Λ.base Λ.snap h.lw.w.snap
  have h2 : Λ.ents.length ≤ 200 := h.lw.w.few
  have hr : ω.recs = headL Λ.base Λ.snap ++ Λ.ents := h.lw.recs
  refine ⟨h.lw.well.doubt, by rw [hr, List.length_append]; omega, fun s hs => ?_⟩
  have : s.length ≤ 4000 := h.lv.kp.long s hs
  omega
/-- Behind a crash of a disk that lives. -/
theorem back_live {s : Ld} {N : Int} (h : LLv s N) (hok : s.δ.Ok) (how : List Int) : Back (s.δ.crash how) N s.syn := by
  obtain ⟨ω', w1, w2, w3⟩ := lv_end h.lv hok how
  exact back_syn h w1 w2 w3
end Go.Proofs.YtidjhgbdokcphaaGreat

/- Own work: what a ledger tells, in memory: plain. -/
namespace Go.Proofs.YtidjhgbdokcphaaGreat
open Go

theorem txtR_le (st : Rs) : (txtR st).1.length ≤ 4096 := by
  unfold txtR runP
  split
  · exact Nat.zero_le _
  · split
    · rename_i x hx; exact (txt_form hx).2
    · exact Nat.zero_le _
theorem many_all {α : Type} {f : Rn α} {Q : α → Prop} (h : ∀ st, Q (f st).1) : ∀ (n : Nat) (st : Rs), ∀ x ∈ (manyR f n st).1, Q x
  | 0, _, x, hx => by cases hx
  | n + 1, st, x, hx => by
    rcases List.mem_append.1 (show x ∈ (manyR f n st).1 ++ [(f (manyR f n st).2).1] from hx) with hx | hx
    · exact many_all h n st x hx
    · rw [List.mem_singleton] at hx; subst hx; exact h _
theorem rows_all {α : Type} {f : Rn α} {Q : α → Prop} (h : ∀ st, Q (f st).1) (st : Rs) : (rowsR f st).1.length ≤ 256 ∧ ∀ x ∈ (rowsR f st).1, Q x := by
  refine ⟨?_, many_all h _ _⟩
  show (manyR f (cntR st).1 (cntR st).2).1.length ≤ 256
  rw [many_len]; exact cntR_le st
def AcG (a : Ac) : Prop := I64 a.1 ∧ a.2.length ≤ 4096
structure PtG (y : Pt) : Prop where
  kind : I64 y.kind
  own : I64 y.own
  num : I64 y.num
  err : I64 y.err
  path : y.path.length ≤ 4096
  data : y.data.length ≤ 4096
  many : y.acl.length ≤ 256
  acl : ∀ a ∈ y.acl, AcG a
structure EnG (e : En) : Prop where
  zx : I64 e.zx
  ses : I64 e.ses
  xid : I64 e.xid
  x : PtG e.x
  many : e.subs.length ≤ 256
  subs : ∀ y ∈ e.subs, PtG y
theorem acR_G (st : Rs) : AcG (acR st).1 := ⟨numR_i64 _, txtR_le _⟩
theorem ptR_G (st : Rs) : PtG (ptR st).1 :=
  ⟨numR_i64 _, numR_i64 _, numR_i64 _, numR_i64 _, txtR_le _, txtR_le _, (rows_all acR_G _).1, (rows_all acR_G _).2⟩
theorem enR_G (st : Rs) : EnG (enR st).1 := ⟨numR_i64 _, numR_i64 _, numR_i64 _, ptR_G _, (rows_all ptR_G _).1, (rows_all ptR_G _).2⟩
theorem getZ_G {s : Bs} {e : En} (h : getZ s = some e) : EnG e := by
  unfold getZ getR at h
  split at h
  · rename_i q hq; cases h
    have := enR_G (some s)
    rw [hq] at this; exact this
  · cases h
theorem PtG.of {y : Pt} (h : PtG y.pl) : PtG y := ⟨h.kind, h.own, h.num, h.err, h.path, h.data, h.many, h.acl⟩
theorem EnG.of {e : En} (h : EnG e.pl) : EnG e := by
  refine ⟨h.zx, h.ses, h.xid, h.x.of, by have := h.many; unfold En.pl at this; rw [List.length_map] at this; exact this, fun y hy => (h.subs y.pl ?_).of⟩
  show y.pl ∈ e.subs.map Pt.pl
  exact List.mem_map_of_mem hy
theorem PtG.i {y : Pt} (h : PtG y) : PtI y := by
  have hu : U64 = 18446744073709551616 := rfl
  refine ⟨h.kind, h.own, h.num, h.err, ?_, ?_, ?_, fun a ha => ⟨(h.acl a ha).1, ?_⟩⟩
  · have := h.path; omega
  · have := h.data; omega
  · have := h.many; omega
  · have := (h.acl a ha).2; omega
theorem EnG.i {e : En} (h : EnG e) : EnI e := by
  have hu : U64 = 18446744073709551616 := rfl
  exact ⟨h.zx, h.ses, h.xid, h.x.i, by have := h.many; omega, fun y hy => (h.subs y hy).i⟩
theorem fm_most {α : Type} {f : α → Bs} {c : Nat} : ∀ {l : List α}, (∀ x ∈ l, (f x).length ≤ c) → (l.flatMap f).length ≤ l.length * c
  | [], _ => by simp
  | y :: l, h => by
    have h1 := h y (List.mem_cons_self ..)
    have h2 := fm_most (l := l) (f := f) (fun x hx => h x (List.mem_cons_of_mem _ hx))
    rw [List.flatMap_cons, List.length_append, List.length_cons, Nat.add_mul]; omega
theorem cnt10 {n : Nat} (h : n ≤ 65536) : (cntB n).length ≤ 10 := sev_len10 (by have hu : U64 = 18446744073709551616 := rfl; omega)
theorem ptB_most {y : Pt} (h : PtG y) : (ptB y).length ≤ 1061966 := by
  have h1 := numB_len h.kind
  have h2 := cnt10 (n := y.path.length) (by have := h.path; omega)
  have h3 := cnt10 (n := y.data.length) (by have := h.data; omega)
  have h4 := cnt10 (n := y.acl.length) (by have := h.many; omega)
  have h5 := numB_len h.own
  have h6 := numB_len h.num
  have h7 := numB_len h.err
  have h8 := fm_most (f := acB) (c := 4116) (l := y.acl) (fun a ha => by
    have g1 := numB_len (h.acl a ha).1
    have g2 := (h.acl a ha).2
    have g3 := cnt10 (n := a.2.length) (by omega)
    unfold acB txtB; rw [List.length_append, List.length_append]; omega)
  have h9 := h.path
  have h10 := h.data
  have h11 : y.acl.length * 4116 ≤ 256 * 4116 := Nat.mul_le_mul_right _ h.many
  rw [ptB_len]
  unfold aclB
  rw [List.length_append]
  simp only [List.flatMap_cons, List.flatMap_nil, List.length_append, List.length_nil]
  omega
theorem enB_most {e : En} (h : EnG e) : (enB e).length ≤ 1073741824 := by
  have h1 := numB_len h.zx
  have h2 := numB_len h.ses
  have h3 := numB_len h.xid
  have h4 := ptB_most h.x
  have h5 := fm_most (f := ptB) (c := 1061966) (l := e.subs) (fun y hy => ptB_most (h.subs y hy))
  have h6 := cnt10 (n := e.subs.length) (by have := h.many; omega)
  have h7 : e.subs.length * 1061966 ≤ 256 * 1061966 := Nat.mul_le_mul_right _ h.many
  rw [enB_len]
  unfold subsB
  rw [List.length_append]
  simp only [List.flatMap_cons, List.flatMap_nil, List.length_append, List.length_nil]
  omega
theorem big_get {α : Type} {f : α → HP} : ∀ {l : List α} {x : α} {h : Hp}, x ∈ l → bigR f l h → ∃ h1, (∀ b o, h1 b = some o → h b = some o) ∧ f x h1
  | y :: l, x, h, hx, hp => by
    have hq := big_cons hp
    rcases List.mem_cons.1 hx with rfl | hx
    · exact sep_head hq
    · obtain ⟨h1, a1, q1⟩ := sep_head (sep_perm (List.Perm.swap _ _ _) hq)
      obtain ⟨h2, a2, q2⟩ := big_get hx q1
      exact ⟨h2, fun b o hb => a1 b o (a2 b o hb), q2⟩
  | [], _, _, hx, _ => by cases hx
theorem ent_acl {e : En} {h : Hp} (hp : entR e h) : rdS 2 h e.x.aclV e.x.acl.length (e.x.acl.flatMap acC) := by
  obtain ⟨h1, a1, q1⟩ := sep_head hp
  exact rdS_mono (slR_rd q1) a1
theorem ent_subs {e : En} {h : Hp} (hp : entR e h) : rdS 8 h e.x.subsV e.subs.length (e.subs.flatMap ptC) := by
  obtain ⟨h1, a1, q1⟩ := sep_head (sep_perm (List.Perm.swap _ _ _) hp)
  exact rdS_mono (slR_rd q1) a1
theorem ent_each {e : En} {h : Hp} (hp : entR e h) {y : Pt} (hy : y ∈ e.subs) : rdS 2 h y.aclV y.acl.length (y.acl.flatMap acC) := by
  have hq : sep [bigR aclR e.subs, aclR e.x, subsR e] h := sep_perm (by
    refine List.Perm.trans (List.Perm.cons _ (List.Perm.swap _ _ _)) (List.Perm.swap _ _ _)) hp
  obtain ⟨h1, a1, q1⟩ := sep_head hq
  obtain ⟨h2, a2, q2⟩ := big_get hy q1
  exact rdS_mono (slR_rd q2) (fun b o hb => a1 b o (a2 b o hb))
theorem entL {es : List En} {e : En} (he : e ∈ es) (hk : EnK e) (hg : EnG e) : EnL (bigR entR es) e := by
  have hr : ∀ {h : Hp}, bigR entR es h → ∃ h1, (∀ b o, h1 b = some o → h b = some o) ∧ entR e h1 := fun hp => big_get he hp
  have h256 : ∀ {n : Nat}, n ≤ 256 → n ≤ 1048576 := fun h => Nat.le_trans h (by decide)
  refine ⟨⟨hg.i, fun h hp => ?_, fun h hp => ?_, fun y hy h hp => ?_⟩, enB_most hg, ⟨h256 hg.many, h256 hg.x.many, fun y hy => h256 (hg.subs y hy).many⟩, hk.x, fun y hy => ⟨(hk.subs y hy).1, by rw [(hk.subs y hy).2]; rfl⟩⟩
  · obtain ⟨h1, a1, q1⟩ := hr hp; exact rdS_mono (ent_acl q1) a1
  · obtain ⟨h1, a1, q1⟩ := hr hp; exact rdS_mono (ent_subs q1) a1
  · obtain ⟨h1, a1, q1⟩ := hr hp; exact rdS_mono (ent_each q1 hy) a1
/-- What a ledger tells of its entries. -/
def toldR (sl : Value) (l : List Bs) : HP := fun h => ∃ y : (Option Addr × Nat) × List En, (sl = .slice y.1.1 y.2.length y.1.2 ∧ y.2.map enB = l ∧ y.2.length ≤ 1048576 ∧ ∀ e ∈ y.2, EnK e ∧ EnG e) ∧ sep [slR 38 11 sl y.2.length (y.2.flatMap enC), bigR entR y.2] h
section
variable {W : World} {n : Nat} {ds : List Deferred} {E : Env} {L R : List HP} {X : Act → World → Prop}
end
theorem get_enB {s : Bs} {e : En} (h : getZ s = some e.pl) : enB e = s := by
  rw [← enB_pl]; exact (get_form h).1.symm
/-- Entries behind a number, by their bytes. -/
def behindB (Λ : Lg) (z : Int) : List Bs := ((Λ.ents.zip Λ.zxs).filter fun q => decide (q.2 > z)).map (·.1)
theorem rowsI_some : ∀ {es : List Bs} {zs : List Int} {b : Int}, RowsI b es zs → ∀ q ∈ es.zip zs, ∃ e, getZ q.1 = some e ∧ e.zx = q.2
  | [], [], _, _, q, hq => by cases hq
  | s :: t, z :: u, _, h, q, hq => by
    rw [List.zip_cons_cons] at hq
    rcases List.mem_cons.1 hq with rfl | hq
    · exact h.1
    · exact rowsI_some h.2.2.2 q hq
  | [], _ :: _, _, h, _, _ => h.elim
  | _ :: _, [], _, h, _, _ => h.elim
theorem behind_B {Λ : Lg} (h : LgW Λ) {z : Int} {es : List En} (he : es.map En.pl = behindL Λ z) : es.map enB = behindB Λ z ∧ ∀ e ∈ es, EnG e := by
  have key : ∀ {l : List (Bs × Int)} {es : List En}, (∀ q ∈ l, ∃ e, getZ q.1 = some e ∧ e.zx = q.2) → es.map En.pl = l.map entAt → es.map enB = l.map (·.1) ∧ ∀ e ∈ es, EnG e := by
    intro l
    induction l with
    | nil => intro es _ h; cases es with
      | nil => exact ⟨rfl, fun _ h => by cases h⟩
      | cons e es => simp at h
    | cons q l ih =>
      intro es hq h
      cases es with
      | nil => simp at h
      | cons e es =>
        rw [List.map_cons, List.map_cons, List.cons.injEq] at h
        obtain ⟨i1, i2⟩ := ih (fun x hx => hq x (List.mem_cons_of_mem _ hx)) h.2
        obtain ⟨g, hg, -⟩ := hq q (List.mem_cons_self ..)
        have hpl : getZ q.1 = some e.pl := by rw [h.1]; unfold entAt; rw [hg]; rfl
        refine ⟨by rw [List.map_cons, List.map_cons, i1, get_enB hpl], fun x hx => ?_⟩
        rcases List.mem_cons.1 hx with rfl | hx
        · exact (getZ_G hpl).of
        · exact i2 x hx
  exact key (fun q hq => rowsI_some h.rows q ((List.mem_filter.1 hq).1)) he
theorem zip_fst : ∀ {es : List Bs} {zs : List Int}, zs.length = es.length → (es.zip zs).map (·.1) = es
  | [], [], _ => rfl
  | s :: t, z :: u, h => by rw [List.zip_cons_cons, List.map_cons, zip_fst (by simpa using h)]
  | [], _ :: _, h => by simp at h
  | _ :: _, [], h => by simp at h
theorem behind_all {Λ : Lg} (h : LgW Λ) {z : Int} (hz : z ≤ Λ.base) : behindB Λ z = Λ.ents := by
  unfold behindB
  rw [List.filter_eq_self.2 (fun q hq => ?_), zip_fst h.rows.len]
  have := h.rows.gt q.2 (List.of_mem_zip hq).2
  simpa using (by omega : q.2 > z)
end Go.Proofs.YtidjhgbdokcphaaGreat

/- Own work, by program: same, told, equal: walked. -/

namespace Go.Proofs.YtidjhgbdokcphaaGreat
open Go
theorem same_step {a b : List En} {i : Nat} (h1 : i < a.length) (h2 : i < b.length) (h : (a.take i).map enB = (b.take i).map enB) (he : enB a[i] = enB b[i]) : (a.take (i + 1)).map enB = (b.take (i + 1)).map enB := by
  rw [List.take_succ_eq_append_getElem h1, List.take_succ_eq_append_getElem h2, List.map_append, List.map_append, h]
  simp [he]
theorem same_bad {a b : List En} {i : Nat} (h1 : i < a.length) (h2 : i < b.length) (he : ¬ enB a[i] = enB b[i]) : ¬ a.map enB = b.map enB := by
  intro h
  have h3 : (a.map enB)[i]? = (b.map enB)[i]? := by rw [h]
  simp [h1, h2] at h3
  exact he h3
set_option maxRecDepth 100000 in
theorem same9_spec (va vb : Value) (a b : List En) (pa pe qa qe : HP) (ha : ∀ h : Hp, pa h → rdS 11 h va a.length (a.flatMap enC)) (hae : ∀ e ∈ a, EnL pe e) (hb : ∀ h : Hp, qa h → rdS 11 h vb b.length (b.flatMap enC)) (hbe : ∀ e ∈ b, EnL qe e) (hl : a.length ≤ 4294967296) (hm : b.length ≤ 4294967296) : Fn Tryz.prog 30 #[va, vb] [pa, pe, qa, qe] fun v L => v = .bool (decide (a.map enB = b.map enB)) ∧ L = [pa, pe, qa, qe] := by
 refine Fn.intro (vs := [va, vb]) Tryz.func30 rfl rfl ?_
 intro F W
 refine G.rdAny (p := pa) ha (by (repeat' constructor)) fun aa ca e _ => ?_
 subst e
 refine G.rdAny (p := qa) hb (by (repeat' constructor)) fun ab cb e _ => ?_
 subst e
 refine G.seq (G.region (G.q (Quiet.assign rfl) rfl (G.nil (G.then_n (G.seq (G.seq (G.region (G.q (Quiet.move rfl) rfl (G.q (Quiet.slen rfl Tryz.underlying22 rfl) rfl (G.q (Quiet.move rfl) rfl (G.q (Quiet.slen rfl Tryz.underlying22 rfl) rfl (G.q (Quiet.int rfl rfl rfl) rfl (G.nil (G.then_n ?_))))))))))))))
 refine G.condN rfl (fun h10 => ?_) (fun h10 => ?_)
 ·refine G.seq (G.region (G.q (Quiet.assign rfl) rfl (G.nil (G.then_n (G.ret (G.then_r ?_))))))
  exact G.done (l := [.tmp 4]) rfl rfl ⟨congrArg Value.bool (decide_eq_false (fun h => by have h2 := congrArg List.length h; rw [List.length_map, List.length_map] at h2; omega)).symm, rfl⟩ (by (repeat' constructor)) (by (repeat' constructor))
 ·have hlen : a.length = b.length := by omega
  refine G.skip (G.then_n (G.seq (G.seq (G.region (G.q (Quiet.assign rfl) rfl (G.nil (G.then_n (G.block ?_))))))))
  refine G.loopK (ι := Nat) (fun q E => (5, vint q) :: E) (fun q => []) (fun q => q ≤ a.length ∧ (a.take q).map enB = (b.take q).map enB) (fun q => a.length - q) (0) (ts := [0, 1]) (.cons rfl (.cons rfl (.nil))) (⟨Nat.zero_le _, rfl⟩) ⟨rfl, rfl, rfl, trivial⟩ (by (repeat' constructor)) ?_
  rintro i ⟨hi, ht⟩
  refine G.seq (G.seq (G.region (G.q (Quiet.move rfl) rfl (G.q (Quiet.move rfl) rfl (G.q (Quiet.slen rfl Tryz.underlying22 rfl) rfl (G.q (Quiet.int rfl rfl rfl) rfl (G.nil (G.then_n ?_))))))))
  refine G.condD rfl (fun h14 => ?_) (fun h14 => ?_)
  ·have hi2 : i < a.length := by omega
   have hi3 : i < b.length := by omega
   have hea := hae _ (List.getElem_mem hi2)
   have heb := hbe _ (List.getElem_mem hi3)
   refine G.rdShape (p := pa) ha (by (repeat' constructor)) (by omega) fun ba oa e => ?_
   subst e
   refine G.rdShape (p := qa) hb (by (repeat' constructor)) (by omega) fun bb ob e => ?_
   subst e
   refine G.skip (G.then_n (G.seq (G.block (G.seq ?_))))
   refine G.draw [] [[0, 1, 2, 3, 4, 5, 6, 7, 8, 9, 10]] mixed (by kernel_rfl) ?_
   refine Phases.go [pa, pe, qa, qe] (by (repeat' constructor)) ?_
   refine D.qw [2, 3, 4, 9, 10] rfl (by kernel_rfl) (Quiet.move rfl) ?_
   refine D.qw [2, 3, 4, 9, 10] rfl (by kernel_rfl) (Quiet.move rfl) ?_
   refine D.qw [3, 4, 9, 10] rfl (by kernel_rfl) (Quiet.indexAddr rfl rfl el_22 (by omega)) ?_
   refine D.qw [4, 9, 10] rfl (by kernel_rfl) (Quiet.loadRdA (sz := 11) (j := i * 11) (k := 11) (p := pa) (vs := enC a[i]) rfl ag_38 (by (repeat' constructor)) ha (by simp) (by omega) (by omega) (flatMap_at (f := enC) (sz := 11) (fun _ _ => rfl) (by omega))) ?_
   refine D.m rfl (by kernel_rfl) (OpSpec.call Tryz.func77 rfl rfl (vs := [_]) rfl (r2put_spec a[i] pe hea)) (by (repeat' constructor)) ?nx17
   refine D.qw [7, 8, 9, 10] rfl (by kernel_rfl) (Quiet.move rfl) ?_
   refine D.qw [7, 8, 9, 10] rfl (by kernel_rfl) (Quiet.move rfl) ?_
   refine D.qw [8, 9, 10] rfl (by kernel_rfl) (Quiet.indexAddr rfl rfl el_22 (by omega)) ?_
   refine D.qw [9, 10] rfl (by kernel_rfl) (Quiet.loadRdA (sz := 11) (j := i * 11) (k := 11) (p := qa) (vs := enC b[i]) rfl ag_38 (by (repeat' constructor)) hb (by simp) (by omega) (by omega) (flatMap_at (f := enC) (sz := 11) (fun _ _ => rfl) (by omega))) ?_
   refine D.m rfl (by kernel_rfl) (OpSpec.call Tryz.func77 rfl rfl (vs := [_]) rfl (r2put_spec b[i] qe heb)) (by (repeat' constructor)) ?nx23
   refine D.qw [] rfl (by kernel_rfl) (Quiet.strne rfl rfl) ?_
   refine D.ph (Phases.fin (G.then_n ?_))
   refine G.condN rfl (fun h27 => ?_) (fun h27 => ?_)
   ·refine G.seq (G.region (G.q (Quiet.assign rfl) rfl (G.nil (G.then_n (G.ret (G.blk_r (G.then_r (G.then_r (G.blk_r (G.then_r ?_))))))))))
    exact G.done (l := [.tmp 4]) rfl rfl ⟨congrArg Value.bool (decide_eq_false (same_bad hi2 hi3 (by simpa using h27))).symm, rfl⟩ (by (repeat' constructor)) (by (repeat' constructor))
   ·refine G.skip (G.blk_n (G.then_n (G.region (G.q (Quiet.move rfl) rfl ?_))))
    refine G.q (Quiet.add rfl rfl (by omega)) rfl ?_
    refine G.q (Quiet.assign rfl) rfl (G.nil (G.then_n ?_))
    exact G.roundK (i + 1) (⟨by omega, same_step hi2 hi3 ht (by simpa using h27)⟩) (by omega) ⟨rfl, rfl, rfl, trivial⟩ (by (repeat' constructor)) (by ((repeat (apply Have.cons; (repeat (first | exact Pick.here | apply Pick.there)))); apply Have.base; repeat' constructor))
  ·refine G.exit (G.then_e (G.then_e (G.blk_e (G.then_n (G.seq (G.region (G.q (Quiet.assign rfl) rfl (G.nil (G.then_n (G.ret ?_))))))))))
   exact G.done (l := [.tmp 4]) rfl rfl ⟨congrArg Value.bool (decide_eq_true (by have hie : i = a.length := (by omega); rw [hie, List.take_length, hlen, List.take_length] at ht; exact ht)).symm, rfl⟩ (by (repeat' constructor)) (by (repeat' constructor))

end Go.Proofs.YtidjhgbdokcphaaGreat

/- Own work, by program: pick, text, does; LedgerEpochs: walked. -/

namespace Go.Proofs.YtidjhgbdokcphaaGreat
open Go
set_option maxRecDepth 100000 in
theorem pick9_spec  (c n : Int) (hc : -9223372036854775808 ≤ c ∧ c ≤ 9223372036854775807) (hn : 0 < n) : Fn Tryz.prog 26 #[vint c, vint n] [] fun v L => v = vint (pickZ c n) ∧ L = [] := by
 refine Fn.intro (vs := [vint c, vint n]) Tryz.func26 rfl rfl ?_
 intro F W
 refine G.seq (G.region (G.q (Quiet.assign rfl) rfl (G.nil (G.then_n (G.seq (G.seq (G.region (G.q (Quiet.move rfl) rfl (G.q (Quiet.int rfl rfl rfl) rfl (G.nil (G.then_n ?_)))))))))))
 refine G.condD rfl (fun h6 => ?_) (fun h6 => ?_)
 ·refine G.region (G.q (Quiet.move rfl) rfl ?_)
  refine G.q (Quiet.add rfl rfl (by omega)) rfl ?_
  refine G.q (Quiet.neg rfl (by omega)) rfl ?_
  refine G.q (Quiet.assign rfl) rfl (G.nil (G.then_n (G.seq (G.region (G.q (Quiet.move rfl) rfl (G.q (Quiet.move rfl) rfl ?_))))))
  refine G.q (Quiet.remE rfl rfl (by omega) (by omega)) rfl ?_
  refine G.q (Quiet.assign rfl) rfl (G.nil (G.then_n (G.ret ?_)))
  have e : pickZ c n = (-(c + 1)) % n := by unfold pickZ; rw [if_pos h6]
  rw [e]
  exact G.done (l := [.tmp 4]) rfl rfl ⟨rfl, rfl⟩ (by (repeat' constructor)) (by (repeat' constructor))
 ·refine G.skip (G.then_n (G.seq (G.region (G.q (Quiet.move rfl) rfl (G.q (Quiet.move rfl) rfl ?_)))))
  refine G.q (Quiet.remE rfl rfl (by omega) (by omega)) rfl ?_
  refine G.q (Quiet.assign rfl) rfl (G.nil (G.then_n (G.ret ?_)))
  have e : pickZ c n = (c) % n := by unfold pickZ; rw [if_neg h6]
  rw [e]
  exact G.done (l := [.tmp 4]) rfl rfl ⟨rfl, rfl⟩ (by (repeat' constructor)) (by (repeat' constructor))

end Go.Proofs.YtidjhgbdokcphaaGreat

/- Own work: scripts on a disk that lives; how marks are counted: plain. -/
namespace Go.Proofs.YtidjhgbdokcphaaGreat
open Go

theorem dbt_count (r : Dk × Wl × Int) : (dbt r).2.1.count = r.2.1.count := by unfold dbt; split <;> rfl
theorem seal_count (δ : Dk) (ω : Wl) (ar : Int) (l : List Bs) : (sealZ δ ω ar l).2.1.count ≤ ω.count + 1 := by
  unfold sealZ
  repeat' split
  all_goals (dsimp only; omega)
theorem append_count (δ : Dk) (ω : Wl) (s : Bs) : (appendZ δ ω s).2.1.count ≤ ω.count + 1 := by
  unfold appendZ
  repeat' split
  all_goals first | (rw [dbt_count]; dsimp only; omega) | (dsimp only; omega)
theorem sync_count (δ : Dk) (ω : Wl) : (syncZ δ ω).2.1.count ≤ ω.count + 1 := by
  unfold syncZ
  repeat' split
  all_goals first | (rw [dbt_count]; exact seal_count _ _ _ _) | (dsimp only; omega)
theorem cut_count (δ : Dk) (ω : Wl) (n : Int) : (cutZ δ ω n).2.1.count ≤ ω.count + 1 := by
  unfold cutZ
  repeat' split
  all_goals first | (rw [dbt_count]; exact seal_count _ _ _ _) | (dsimp only; omega)
theorem lsync_count (s : Ld) : (lgSync s).1.ω.count ≤ s.ω.count + 1 := by
  unfold lgSync
  split
  · show s.ω.count ≤ _; omega
  · exact sync_count _ _
/-- On a disk that lives and is not armed. -/
structure Live (s : Ld) (N : Int) (c : Int) : Prop where
  l : LLv s N
  calm : s.calm = s
  count : s.ω.count ≤ c
theorem Live.w {s : Ld} {N c : Int} (h : Live s N c) : LWell s N := by have := h.l.lw; rw [h.calm] at this; exact this
theorem Live.more {s : Ld} {N M c c' : Int} (h : Live s N c) (hN : N ≤ M) (hc : c ≤ c') : Live s M c' := ⟨h.l.more hN, h.calm, by have := h.count; omega⟩
theorem live_sync {s : Ld} {N c : Int} (h : Live s N c) (hc : c < 4294967295) : Live (lgSync s).1 (N + 4000000) (c + 1) ∧ (lgSync s).2 = 0 ∧ (lgSync s).1.ω.synced = (lgSync s).1.ω.recs.length ∧ (lgSync s).1.Λ = s.Λ := by
  have hw := h.w
  obtain ⟨k1, k2, k3, k4, k5⟩ := lk_sync hw
  obtain ⟨q1, q2⟩ := (lr_sync h.l).live k4
  rw [h.calm] at q2
  have hcnt := h.count
  have e0 : (lgSync s).2 = 0 := by
    unfold lgSync
    rw [if_neg (by rw [hw.live]; decide)]
    rcases (well_sync hw.well).2.2 with ⟨c', g⟩ | g
    · show metE (syncZ s.δ s.ω).2.2 = 0; rw [g]; exact (by decide : metE 0 = 0)
    · exfalso
      have h2 : syncZ s.δ s.ω = (s.δ, s.ω, 30) := g
      unfold syncZ at h2
      rw [if_neg (by rw [hw.well.doubt]; decide)] at h2
      split at h2
      · have := congrArg (fun r => r.2.2) h2; revert this; show (0 : Int) = 30 → False; decide
      · rw [if_neg (by omega)] at h2
        obtain ⟨e, -, -⟩ := well_seal hw.well (by omega) hw.well.area hw.well.fits hw.well.al rfl (by have := hw.well.acts; omega)
        have h3 : (dbt (sealZ s.δ s.ω s.ω.area s.ω.recs)).2 = (s.ω, 30) := by rw [h2]
        rw [e] at h3
        have := congrArg Prod.snd h3; revert this; show (0 : Int) = 30 → False; decide
  obtain ⟨f1, f2⟩ := k5 e0
  exact ⟨⟨q1, (congrArg Prod.fst q2).symm, by have := lsync_count s; omega⟩, e0, by rw [f2]; exact f1, k3⟩
theorem format_live {n : Int} (h : 16 ≤ n ∧ n ≤ 32768) : ∃ ω, (lgFormat (Dk.new n)).2 = some ω ∧ Live ⟨(lgFormat (Dk.new n)).1, ω, lg0⟩ 4000003 3 ∧ Well (formatZ (Dk.new n)).1 newW 3 ∧ Well (lgF1 (Dk.new n)).1 (lgF1 (Dk.new n)).2.1 2000003 := by
  obtain ⟨ω, f1, f2, f4, f5⟩ := format_llv h
  obtain ⟨ω', g1, g2, -⟩ := format_lwell h
  rw [f1] at g1; cases g1
  refine ⟨ω, f1, ⟨f2, ?_, ?_⟩, f4, f5⟩
  · show (⟨(lgFormat (Dk.new n)).1.calm, ω, lg0⟩ : Ld) = _
    rw [calm_of g2.well.al]
  · show ω.count ≤ 3
    rw [(lgFormat_ok f1).2.2.1]
    have h1 := sync_count (lgF1 (Dk.new n)).1 (lgF1 (Dk.new n)).2.1
    have h2 := append_count (formatZ (Dk.new n)).1 newW (headB 0 0)
    have h3 : newW.count = 1 := rfl
    show (syncZ _ _).2.1.count ≤ 3
    have h4 : (lgF1 (Dk.new n)).2.1.count = (appendZ (formatZ (Dk.new n)).1 newW (headB 0 0)).2.1.count := rfl
    omega
end Go.Proofs.YtidjhgbdokcphaaGreat

/- Own work: LedgerCuts: plain. -/

namespace Go.Proofs.YtidjhgbdokcphaaGreat
open Go

theorem bindR_eq {α β : Type} {f : Rn α} {g : α → Rn β} {st st' : Rs} {x : α} (h : f st = (x, st')) : bindR f g st = g x st' := by unfold bindR; rw [h]
theorem txtR_back {s : Bs} (h : s.length ≤ 4096) (r : Bs) : txtR (some (txtB s ++ r)) = (s, some r) := by
  unfold txtR runP; dsimp only; rw [txt_back h (by decide)]
theorem cntR_back {n : Nat} (h : n ≤ 256) (r : Bs) : cntR (some (cntB n ++ r)) = (n, some r) := by
  unfold cntR runP; dsimp only; rw [cnt_back h (by decide)]
theorem rows0 {α : Type} (f : Rn α) (r : Bs) : rowsR f (some (cntB 0 ++ r)) = ([], some r) := by
  unfold rowsR; rw [bindR_eq (cntR_back (by decide) r)]; rfl
def wOld : Bs := [47, 111, 108, 100]
def oldX (i : Int) : Pt := ⟨3, wOld, [], nilV, [], 0, i, 0, nilV⟩
def oldE (i : Int) : En := ⟨i, 1, 0, oldX i, []⟩
theorem old_bytes (i : Int) : enB (oldE i) = numB i ++ (numB 1 ++ (numB 0 ++ (numB 3 ++ (txtB wOld ++ (txtB [] ++ (cntB 0 ++ (numB 0 ++ (numB i ++ (numB 0 ++ (cntB 0 ++ [])))))))))) := by
  unfold enB ptB aclB subsB oldE oldX
  simp [List.append_assoc]
theorem old_get {i : Int} (hi : I64 i) : getZ (enB (oldE i)) = some (oldE i) := by
  have h0 : I64 0 := by decide
  have h1 : I64 1 := by decide
  have h3 : I64 3 := by decide
  have hp : ∀ r, ptR (some (numB 3 ++ (txtB wOld ++ (txtB [] ++ (cntB 0 ++ (numB 0 ++ (numB i ++ (numB 0 ++ r)))))))) = (oldX i, some r) := by
    intro r
    unfold ptR
    rw [bindR_eq (numR_back h3 _), bindR_eq (txtR_back (by decide) _), bindR_eq (txtR_back (by decide) _), bindR_eq (rows0 acR _), bindR_eq (numR_back h0 _), bindR_eq (numR_back hi _), bindR_eq (numR_back h0 _)]
    rfl
  have e : enR (some (enB (oldE i))) = (oldE i, some []) := by
    rw [old_bytes]
    unfold enR
    rw [bindR_eq (numR_back hi _), bindR_eq (numR_back h1 _), bindR_eq (numR_back h0 _), bindR_eq (hp _), bindR_eq (rows0 ptR _)]
    rfl
  unfold getZ; rw [e]; rfl
theorem old_fits {i : Int} (hi : I64 i) : fitsE (oldE i) = true := by unfold fitsE; rw [old_get hi]; rfl
theorem old_len {i : Int} (hi : I64 i) : (enB (oldE i)).length ≤ 130 := by
  have h := numB_len hi
  have h0 : (numB 0).length ≤ 10 := numB_len (by decide)
  have h1 : (numB 1).length ≤ 10 := numB_len (by decide)
  have h3 : (numB 3).length ≤ 10 := numB_len (by decide)
  have c0 := cnt10 (n := 0) (by decide)
  have t0 : (txtB []).length ≤ 10 := by unfold txtB; rw [List.append_nil]; exact cnt10 (by decide)
  have t1 : (txtB wOld).length ≤ 14 := by unfold txtB; rw [List.length_append]; have := cnt10 (n := wOld.length) (by decide); have h4 : wOld.length = 4 := rfl; omega
  rw [old_bytes]
  simp only [List.length_append, List.length_nil]
  omega
theorem old_X {i : Int} (hi : I64 i) : EnX anyP (oldE i) := by
  have hr : ∀ sz h, rdS sz h nilV 0 [] := fun sz h => .inl ⟨rfl, rfl, _, _, rfl⟩
  have i0 : I64 0 := by decide
  have u0 : (0 : Nat) < U64 := by decide
  have hI : EnI (oldE i) := ⟨hi, by show I64 1; decide, i0, ⟨by show I64 3; decide, i0, hi, i0, by show wOld.length < U64; decide, u0, u0, fun a ha => by cases ha⟩, u0, fun y hy => by cases hy⟩
  exact ⟨⟨⟨hI, fun h _ => hr 2 h, fun h _ => hr 8 h, fun y hy => by cases hy⟩, by have := old_len hi; omega, ⟨Nat.zero_le _, Nat.zero_le _, fun y hy => by cases hy⟩, ⟨rfl, rfl⟩, fun y hy => by cases hy⟩, fun y hy => by cases hy⟩
theorem app_good {s : Ld} {N : Int} (h : LWell s N) {e : En} (hf : fitsE e = true) (hz : lastZ s.Λ < e.zx) (hn : s.Λ.ents.length < 200) (hl : (enB e).length ≤ 4000) (hr : ((laidZ s.ω.recs).length : Int) + (enB e).length + 6 ≤ 64 * halfZ s.δ) : (lgAppend s e).2 = 0 := by
  unfold lgAppend
  rw [if_neg (by rw [h.live]; decide), if_neg (by rw [hf]; decide), if_neg (by omega), if_neg (by unfold roomZ; omega)]
  rcases (well_append h.well (enB e)).2.2 with ⟨-, -, g⟩ | ⟨g, -⟩ | ⟨-, g, -⟩
  · rw [if_pos (by show metE (appendZ s.δ s.ω (enB e)).2.2 = 0; rw [g]; exact (by decide : metE 0 = 0))]
  · omega
  · exact absurd hr g
/-! ### Numbers from 1 -/
def upto (m : Nat) : List Int := (List.range m).map fun j => ((j + 1 : Nat) : Int)
theorem upto_succ (m : Nat) : upto (m + 1) = upto m ++ [((m + 1 : Nat) : Int)] := by unfold upto; rw [List.range_succ, List.map_append]; rfl
theorem upto_len (m : Nat) : (upto m).length = m := by simp [upto]
theorem upto_get {m i : Nat} (h : i < m) : (upto m).getD i 0 = ((i + 1 : Nat) : Int) := by simp [upto, List.getD_eq_getElem?_getD, h]
theorem upto_take {m k : Nat} (h : k ≤ m) : (upto m).take k = upto k := by
  unfold upto; rw [← List.map_take, List.take_range, Nat.min_eq_left h]
theorem upto_last (m : Nat) : lastF 0 (upto m) = m := by
  cases m with
  | zero => rfl
  | succ m => rw [upto_succ]; unfold lastF; simp
theorem upto_add (k m : Nat) : upto (k + m) = upto k ++ (List.range m).map fun j => ((k + j + 1 : Nat) : Int) := by
  unfold upto; rw [List.range_add, List.map_append, List.map_map]; rfl
theorem upto_mem {m : Nat} {z : Int} (h : z ∈ upto m) : 1 ≤ z ∧ z ≤ m := by
  unfold upto at h
  obtain ⟨j, hj, rfl⟩ := List.mem_map.1 h
  rw [List.mem_range] at hj
  omega
theorem upto_place {Λ : Lg} (hW : LgW Λ) {m : Nat} (hz : Λ.zxs = upto m) (hb : Λ.base = 0) {k : Nat} (hk : k ≤ m) : placeZ Λ k = some k := by
  have hs := (List.pairwise_cons.1 hW.rows.up).2
  unfold placeZ
  cases k with
  | zero =>
    rw [if_neg (fun h => by rw [hz] at h; have := (upto_mem h).1; omega), if_pos (by rw [hb]; rfl)]
  | succ k =>
    obtain ⟨h1, h2⟩ := bs_in (z := ((k + 1 : Nat) : Int)) (i := k) hs (by rw [hz, upto_len]; omega) (by rw [hz, upto_get (by omega)])
    rw [if_pos h1, ← h2]
theorem behind_cut {Λ : Lg} {k m : Nat} {a b : List Bs} (hz : Λ.zxs = upto (k + m)) (he : Λ.ents = a ++ b) (ha : a.length = k) (hb : b.length = m) : behindB Λ k = b := by
  unfold behindB
  rw [hz, he, upto_add, List.zip_append (by rw [upto_len, ha]), List.filter_append, List.map_append]
  have h1 : ((a.zip (upto k)).filter fun q => decide (q.2 > (k : Int))) = [] := by
    rw [List.filter_eq_nil_iff]
    intro q hq
    have := (upto_mem (List.of_mem_zip hq).2).2
    simpa using this
  have h2 : ((b.zip ((List.range m).map fun j => ((k + j + 1 : Nat) : Int))).filter fun q => decide (q.2 > (k : Int))) = b.zip ((List.range m).map fun j => ((k + j + 1 : Nat) : Int)) := by
    rw [List.filter_eq_self]
    intro q hq
    obtain ⟨j, -, hj⟩ := List.mem_map.1 (List.of_mem_zip hq).2
    rw [← hj]; simp; omega
  rw [h1, h2, zip_fst (by simp [hb])]; rfl
/-- An entry with another number. -/
def zxE (e : En) (z : Int) : En := ⟨z, e.ses, e.xid, e.x, e.subs⟩
theorem zxE_X {p : HP} {e : En} (h : EnX p e) (hl : (enB e).length ≤ 1000000000) {z : Int} (hz : I64 z) : EnX p (zxE e z) := by
  obtain ⟨⟨⟨⟨i1, i2, i3, i4, i5, i6⟩, w2, w3, w4⟩, -, l3, l4, l5⟩, s⟩ := h
  refine ⟨⟨⟨⟨hz, i2, i3, i4, i5, i6⟩, w2, w3, w4⟩, ?_, l3, l4, l5⟩, s⟩
  have h1 := numB_len hz
  rw [enB_len] at hl ⊢
  show ([z, e.ses, e.xid].flatMap numB).length + (ptB e.x).length + (subsB e.subs).length ≤ _
  simp only [List.flatMap_cons, List.flatMap_nil, List.length_append, List.length_nil] at hl ⊢
  omega
/-- A cut at a number that is there. -/
theorem cut_good {s : Ld} {N c : Int} (h : Live s N c) (hc : c < 4294967295) {z : Int} {n : Nat} (hp : placeZ s.Λ z = some n) : (lgCut s z).2 = 0 ∧ (lgCut s z).1.Λ = cutL s.Λ n ∧ Live (lgCut s z).1 (N + 4000000) (c + 1) ∧ (lgCut s z).1.δ.now.length = s.δ.now.length := by
  have hw := h.w
  have hpl := place_le hp
  have hn : n ≤ s.Λ.ents.length := by rw [← hw.w.rows.len]; exact hpl.1
  have e : lgCut s z = lgCut2 s n := by unfold lgCut; rw [if_neg (by rw [hw.live]; decide), hp]
  obtain ⟨k1, k2⟩ := lk_cut2 hw hn
  have e0 : (lgCut2 s n).2 = 0 := by
    unfold lgCut2
    have hle : (headL s.Λ.base s.Λ.snap).length + n ≤ s.ω.recs.length := by rw [hw.recs, List.length_append]; omega
    rcases (well_cut hw.well hle).2.2 with ⟨c', g⟩ | g
    · rw [if_pos (by show metE (cutZ s.δ s.ω _).2.2 = 0; rw [g]; exact (by decide : metE 0 = 0))]
    · exfalso
      have h2 := g
      unfold cutZ at h2
      have hcnt := h.count
      rw [if_neg (by rw [hw.well.doubt]; decide), if_neg (by omega), if_neg (by omega)] at h2
      have hf := laid_take_le s.ω.recs (((headL s.Λ.base s.Λ.snap).length + n : Nat) : Int).toNat
      have hfit := hw.well.fits
      obtain ⟨e9, -, -⟩ := well_seal hw.well (by omega) hw.well.area (l := s.ω.recs.take (((headL s.Λ.base s.Λ.snap).length + n : Nat) : Int).toNat) (by omega) hw.well.al rfl (by have := hw.well.acts; omega)
      have h3 : (dbt (sealZ s.δ s.ω s.ω.area (s.ω.recs.take (((headL s.Λ.base s.Λ.snap).length + n : Nat) : Int).toNat))).2 = (s.ω, 30) := by rw [h2]
      rw [e9] at h3
      exact absurd (congrArg Prod.snd h3) (show ¬ (0 : Int) = 30 by decide)
  have hlr := (lr_cut2 h.l hn).live (by rw [e0]; decide)
  rw [h.calm] at hlr
  rw [e]
  refine ⟨e0, (k2 e0).1, ⟨hlr.1, (congrArg Prod.fst hlr.2).symm, ?_⟩, k1.len⟩
  have h1 := cut_count s.δ s.ω (((headL s.Λ.base s.Λ.snap).length + n : Nat) : Int)
  have h2 : (lgCut2 s n).1.ω = (cutZ s.δ s.ω (((headL s.Λ.base s.Λ.snap).length + n : Nat) : Int)).2.1 := (endL_err s.Λ (fun _ => cutL s.Λ n) _).2.2
  have := h.count
  rw [h2]; omega
theorem live_append {s : Ld} {N c : Int} (h : Live s N c) {e : En} (he : EnI e) : Live (lgAppend s e).1 (N + 4000000) (c + 1) ∧ (lgAppend s e).1.δ.now.length = s.δ.now.length ∧
    (((lgAppend s e).2 = 0 ∧ (lgAppend s e).1.Λ = s.Λ.keep (enB e) e.zx) ∨ ((lgAppend s e).2 ≠ 0 ∧ (lgAppend s e).1 = s)) := by
  have hw := h.w
  obtain ⟨w1, w2, w3⟩ := lw_append hw he
  have h2 := (lk_append hw he).live
  obtain ⟨q1, q2⟩ := (lr_append h.l he).live h2
  rw [h.calm] at q2
  have hcnt := h.count
  refine ⟨⟨q1, (congrArg Prod.fst q2).symm, ?_⟩, w2, w3.imp (fun g => ⟨g.1, g.2.1⟩) id⟩
  have hc := append_count s.δ s.ω (enB e)
  rcases app_end s.δ s.ω s.Λ e with ⟨z, h1, -⟩ | h1
  · have e1 : lgAppend s e = (s, z) := h1 s.δ rfl
    rw [e1]; dsimp only; omega
  · have e1 : lgAppend s e = endL s.Λ (fun L => L.keep (enB e) e.zx) (appendZ s.δ s.ω (enB e)) := h1 s.δ rfl
    rw [e1, (endL_err _ _ _).2.2]; omega
theorem laid_small {c : Nat} : ∀ {l : List Bs}, (∀ s ∈ l, s.length ≤ c) → (laidZ l).length ≤ l.length * (c + 6)
  | [], _ => by simp [laidZ]
  | s :: l, h => by
    have h1 := laid_small (l := l) (c := c) (fun x hx => h x (List.mem_cons_of_mem _ hx))
    have h2 := h s (List.mem_cons_self ..)
    have e : laidZ (s :: l) = recZ s ++ laidZ l := by simp [laidZ]
    rw [e, List.length_append, recZ_len', List.length_cons, Nat.add_mul]
    omega
/-- The first part of LedgerCuts: so many old entries. -/
structure Olds (s : Ld) (N c : Int) (m : Nat) : Prop where
  live : Live s N c
  len : s.δ.now.length = 2048
  zxs : s.Λ.zxs = upto m
  base : s.Λ.base = 0
  snap : s.Λ.snap = []
  small : ∀ x ∈ s.Λ.ents, x.length ≤ 130
theorem olds_step {s : Ld} {N c : Int} {m : Nat} (h : Olds s N c m) (hm : m < 100) : (lgAppend s (oldE ((m + 1 : Nat) : Int))).2 = 0 ∧ Olds (lgAppend s (oldE ((m + 1 : Nat) : Int))).1 (N + 4000000) (c + 1) (m + 1) := by
  have hw := h.live.w
  have hi : I64 ((m + 1 : Nat) : Int) := ⟨by omega, by omega⟩
  have hl := old_len hi
  have hlen := hw.w.rows.len
  rw [h.zxs, upto_len] at hlen
  have hlast : lastZ s.Λ = m := by
    show lastF s.Λ.base s.Λ.zxs = m
    rw [h.base, h.zxs]; exact upto_last m
  have hrec : s.ω.recs = [headB 0 0] ++ s.Λ.ents := by rw [hw.recs, h.base, h.snap]; rfl
  have hsm : ∀ x ∈ s.ω.recs, x.length ≤ 130 := by
    intro x hx
    rw [hrec] at hx
    rcases List.mem_append.1 hx with hx | hx
    · rw [List.mem_singleton] at hx; subst hx; rw [hd00]; decide
    · exact h.small x hx
  have hld := laid_small (c := 130) hsm
  have hrl : s.ω.recs.length = m + 1 := by rw [hrec, List.length_append, ← hlen]; simp; omega
  rw [hrl] at hld
  have hh : halfZ s.δ = 1023 := by unfold halfZ; rw [h.len]; decide
  have e0 := app_good hw (old_fits hi) (by rw [hlast]; show (m : Int) < ((m + 1 : Nat) : Int); omega) (by omega) (by omega) (by rw [hh]; omega)
  obtain ⟨q1, q2, q3⟩ := live_append h.live (old_X hi).l.w.i
  have hk : (lgAppend s (oldE ((m + 1 : Nat) : Int))).1.Λ = s.Λ.keep (enB (oldE ((m + 1 : Nat) : Int))) ((m + 1 : Nat) : Int) := by
    rcases q3 with ⟨-, g⟩ | ⟨g, -⟩
    · exact g
    · exact absurd e0 g
  refine ⟨e0, q1, q2.trans h.len, ?_, ?_, ?_, ?_⟩
  · rw [hk, upto_succ, ← h.zxs]; rfl
  · rw [hk]; exact h.base
  · rw [hk]; exact h.snap
  · rw [hk]
    intro x hx
    rcases List.mem_append.1 (show x ∈ s.Λ.ents ++ [enB (oldE ((m + 1 : Nat) : Int))] from hx) with hx | hx
    · exact h.small x hx
    · rw [List.mem_singleton] at hx; subst hx; exact hl
/-- The second part: entries behind the cut. -/
structure News (s : Ld) (N c : Int) (k : Nat) (p : HP) (ws : List En) : Prop where
  live : Live s N c
  zxs : s.Λ.zxs = upto (k + ws.length)
  base : s.Λ.base = 0
  ents : ∃ a, a.length = k ∧ s.Λ.ents = a ++ ws.map enB
  each : ∀ e ∈ ws, EnX p e
theorem news_begin {s : Ld} {N c : Int} {m k : Nat} (h : Olds s N c m) (hc : c < 4294967295) (hk : k ≤ m) (p : HP) : (lgCut s k).2 = 0 ∧ News (lgCut s k).1 (N + 4000000) (c + 1) k p [] := by
  have hw := h.live.w
  have hp := upto_place hw.w h.zxs h.base hk
  obtain ⟨e0, e1, e2, -⟩ := cut_good h.live hc hp
  have hlen := hw.w.rows.len
  rw [h.zxs, upto_len] at hlen
  refine ⟨e0, e2, ?_, ?_, ⟨s.Λ.ents.take k, by rw [List.length_take]; omega, ?_⟩, fun e he => by cases he⟩
  · rw [e1]; show s.Λ.zxs.take k = _; rw [h.zxs, upto_take hk]; rfl
  · rw [e1]; exact h.base
  · rw [e1]; show s.Λ.ents.take k = _; simp
theorem news_step {s : Ld} {N c : Int} {k : Nat} {p : HP} {ws : List En} (h : News s N c k p ws) {e : En} (he : EnX p e) (hz : e.zx = ((k + ws.length + 1 : Nat) : Int)) :
    ((lgAppend s e).2 = 0 ∧ News (lgAppend s e).1 (N + 4000000) (c + 1) k p (ws ++ [e])) ∨ ((lgAppend s e).2 ≠ 0 ∧ News (lgAppend s e).1 (N + 4000000) (c + 1) k p ws) := by
  obtain ⟨q1, q2, q3⟩ := live_append h.live he.l.w.i
  obtain ⟨a, ha, hae⟩ := h.ents
  rcases q3 with ⟨g, hk⟩ | ⟨g, hk⟩
  · refine .inl ⟨g, q1, ?_, ?_, ⟨a, ha, ?_⟩, fun x hx => ?_⟩
    · rw [hk]; show s.Λ.zxs ++ [e.zx] = _; rw [h.zxs, hz, List.length_append, List.length_singleton, ← Nat.add_assoc, upto_succ]
    · rw [hk]; exact h.base
    · rw [hk]; show s.Λ.ents ++ [enB e] = _; rw [hae, List.map_append, List.append_assoc]; rfl
    · rcases List.mem_append.1 hx with hx | hx
      · exact h.each x hx
      · rw [List.mem_singleton] at hx; subst hx; exact he
  · exact .inr ⟨g, q1, by rw [hk]; exact h.zxs, by rw [hk]; exact h.base, ⟨a, ha, by rw [hk]; exact hae⟩, h.each⟩
theorem News.more {s : Ld} {N M c c' : Int} {k : Nat} {p : HP} {ws : List En} (h : News s N c k p ws) (hN : N ≤ M) (hc : c ≤ c') : News s M c' k p ws := ⟨h.live.more hN hc, h.zxs, h.base, h.ents, h.each⟩
theorem Olds.more {s : Ld} {N M c c' : Int} {m : Nat} (h : Olds s N c m) (hN : N ≤ M) (hc : c ≤ c') : Olds s M c' m := ⟨h.live.more hN hc, h.len, h.zxs, h.base, h.snap, h.small⟩
theorem news_last {s : Ld} {N c : Int} {k : Nat} {p : HP} {ws : List En} (h : News s N c k p ws) : lastZ s.Λ = ((k + ws.length : Nat) : Int) := by
  show lastF s.Λ.base s.Λ.zxs = _
  rw [h.base, h.zxs]; exact upto_last _
/-- Entries of an argument, not too long. -/
structure Ents9S (p : HP) (v : Value) (es : List En) : Prop where
  e : Ents9 p v es
  small : ∀ e ∈ es, (enB e).length ≤ 1000000000
theorem format_olds {n : Int} (h : n = 2048) : ∃ ω, (lgFormat (Dk.new n)).2 = some ω ∧ Olds ⟨(lgFormat (Dk.new n)).1, ω, lg0⟩ 4000003 3 0 ∧ Well (formatZ (Dk.new n)).1 newW 3 ∧ Well (lgF1 (Dk.new n)).1 (lgF1 (Dk.new n)).2.1 2000003 := by
  subst h
  obtain ⟨ω, f1, f2, f3, f4⟩ := format_live (n := 2048) (by decide)
  obtain ⟨ω', g1, -, g2, -⟩ := format_lwell (n := 2048) (by decide)
  obtain ⟨δ0, hδ⟩ : ∃ δ0, (lgFormat (Dk.new 2048)).1 = δ0 := ⟨_, rfl⟩
  rw [hδ] at f2 g2 ⊢
  have g3 : δ0.now.length = 2048 := by rw [g2]; decide
  refine ⟨ω, f1, ?_, f3, f4⟩
  refine Olds.mk f2 ?_ ?_ ?_ ?_ ?_
  · exact g3
  · rfl
  · rfl
  · rfl
  · exact fun x hx => absurd hx (List.not_mem_nil)
end Go.Proofs.YtidjhgbdokcphaaGreat

/- Own work, by program: LedgerCuts: walked. -/
namespace Go.Proofs.YtidjhgbdokcphaaGreat
open Go
theorem fill_e3 (zx ss : Int) (s0 s1 s2 s3 s4 s5 s6 s7 : Value) : Instr.fill (fun i => [(0, 1), (1, 1), (2, 1), (3, 8)].toArray[i]?) ([.int .i64 0, .int .i64 0, .int .i64 0, .int .i64 0, .string (bs []), .string (bs []), .slice none 0 0, .int .i64 0, .int .i64 0, .int .i64 0, .slice none 0 0] : List Value).toArray [(0, vint zx), (1, vint ss), (3, .agg ([s0, s1, s2, s3, s4, s5, s6, s7] : List Value).toArray)] = some (([vint zx, vint ss, vint 0] ++ [s0, s1, s2, s3, s4, s5, s6, s7] : List Value).toArray) := by kernel_rfl
set_option maxRecDepth 100000 in
theorem ledgerCuts_spec (n0 n1 : Int) (v2 v3 : Value) (l : List En) (how : List Int) (p : HP) (hn0 : I64 n0) (hn1 : I64 n1) (hx : Ents9S p v2 l) (hhow : ∀ h : Hp, p h → rdS 1 h v3 how.length (ints how)) (hhows : ∀ z ∈ how, I64 z) : Fn Tryz.prog 5 #[vint n0, vint n1, v2, v3] [p] fun v L => v = .bool true ∧ L = [p] := by
 refine Fn.intro (vs := [vint n0, vint n1, v2, v3]) Tryz.func5 rfl rfl ?_
 intro F W
 have hcells := hx.e.cells
 have hel := hx.e.len
 refine G.rdAny (p := p) hcells (by (repeat' constructor)) fun a0 c0 e _ => ?_
 subst e
 have hp60 := pickZ_range n0 (n := 60) (by decide)
 obtain ⟨m, hm⟩ : ∃ m : Nat, pickZ n0 60 = (m : Int) := ⟨(pickZ n0 60).toNat, by omega⟩
 obtain ⟨ω0, hf1, hf2, hf3, hf4⟩ := format_olds (n := 2048) rfl
 refine G.add (p := anyP) (fun _ => trivial) ?_
 refine G.seq (G.region (G.q (Quiet.assign rfl) rfl (G.nil (G.then_n (G.seq (G.region ?_))))))
 refine G.op (OpSpec.call Tryz.func10 rfl rfl (vs := []) rfl (awake9_spec)) (by (repeat' constructor)) rfl ?nx2
 rintro v L' ⟨rfl, rfl⟩
 refine G.q (Quiet.assign rfl) rfl (G.nil (G.then_n (G.seq (G.region ?_))))
 refine G.op (OpSpec.call Tryz.func11 rfl rfl (vs := [_]) rfl (new_spec 2048)) (by (repeat' constructor)) rfl ?nx4
 rintro v L' (⟨h, -, -⟩ | ⟨-, d, rfl, rfl⟩); · omega
 refine G.q (Quiet.move rfl) rfl (G.q (Quiet.extract rfl rfl) rfl (G.q (Quiet.extract rfl rfl) rfl (G.q (Quiet.assign rfl) rfl (G.q (Quiet.assign rfl) rfl (G.nil (G.then_n (G.seq (G.region (G.q (Quiet.move rfl) rfl ?_)))))))))
 refine G.op (OpSpec.call Tryz.func12 rfl rfl (vs := [_]) rfl (lformat_spec d (Dk.new 2048) (by decide) (hf3.i (by decide)) (hf4.i (by decide)))) (by (repeat' constructor)) rfl ?nx8
 rintro v L' (⟨h, -, -⟩ | ⟨ω1, g, x, hw1, rfl, rfl⟩); · rw [hf1] at h; cases h
 rw [hf1] at hw1; cases hw1
 refine G.q (Quiet.move rfl) rfl (G.q (Quiet.extract rfl rfl) rfl (G.q (Quiet.extract rfl rfl) rfl (G.q (Quiet.assign rfl) rfl (G.q (Quiet.assign rfl) rfl (G.nil (G.then_n (G.seq (G.seq (G.region (G.q (Quiet.move rfl) rfl (G.q (Quiet.not rfl) rfl (G.q (Quiet.move rfl) rfl (G.grun (t := 39) rfl rfl rfl (G.q (Quiet.move rfl) rfl (G.grun (t := 39) rfl rfl rfl (G.q (Quiet.ptreq rfl rfl Tryz.underlying28) rfl (G.q (Quiet.pickF rfl rfl) rfl (G.q (Quiet.move rfl) rfl (G.grun (t := 43) rfl rfl rfl (G.q (Quiet.move rfl) rfl (G.grun (t := 43) rfl rfl rfl ?_)))))))))))))))))))))
 refine G.q (Quiet.as (v' := .bool false) (by rfl) (Quiet.int rfl rfl rfl)) rfl ?_
 refine G.q (Quiet.pickF rfl rfl) rfl (G.q (Quiet.move rfl) rfl (G.grun (t := 47) rfl rfl rfl (G.q (Quiet.move rfl) rfl (G.grun (t := 47) rfl rfl rfl ?_))))
 refine G.q (Quiet.as (v' := .bool false) (by rfl) (Quiet.int rfl rfl rfl)) rfl ?_
 refine G.q (Quiet.pickF rfl rfl) rfl (G.nil (G.then_n (G.condF rfl (G.skip (G.then_n (G.seq (G.region (G.q (Quiet.move rfl) rfl ?_))))))))
 refine G.op (OpSpec.call Tryz.func26 rfl rfl (vs := [_, _]) rfl (pick9_spec n0 60 hn0 (by decide))) (by (repeat' constructor)) rfl ?nx17
 rintro v L' ⟨rfl, rfl⟩; rw [hm]
 refine G.q (Quiet.assign rfl) rfl (G.nil (G.then_n (G.seq (G.seq (G.region (G.q (Quiet.assign rfl) rfl (G.nil (G.then_n (G.block ?_)))))))))
 refine G.loopK (ι := Nat × Ld) (fun q E => (15, vint ((q.1 + 1 : Nat) : Int)) :: E) (fun q => [lgR g x q.2.Λ, wlR x d q.2.ω, dkR d q.2.δ]) (fun q => q.1 ≤ m ∧ Olds q.2 (4000003 + q.1 * 4000000) (3 + q.1) q.1) (fun q => m - q.1) (0, ⟨(lgFormat (Dk.new 2048)).1, ω0, lg0⟩) (ts := [1, 2, 3, 10, 12, 14]) (.cons rfl (.cons rfl (.cons rfl (.cons rfl (.cons rfl (.cons rfl (.nil))))))) (⟨Nat.zero_le _, hf2.more (by dsimp only; omega) (by dsimp only; omega)⟩) ⟨rfl, rfl, rfl, rfl, rfl, rfl, rfl, trivial⟩ (by (repeat' constructor)) ?_
 rintro ⟨i, s⟩ ⟨hi, hO⟩
 dsimp only
 dsimp only at hi hO
 refine G.seq (G.seq (G.region (G.q (Quiet.move rfl) rfl (G.q (Quiet.move rfl) rfl (G.q (Quiet.int rfl rfl rfl) rfl (G.nil (G.then_n ?_)))))))
 refine G.condD rfl (fun h55 => ?_) (fun h55 => ?_)
 ·refine G.skip (G.then_n (G.seq (G.block (G.seq (G.region (G.q (Quiet.move rfl) rfl (G.q (Quiet.move rfl) rfl (G.q (Quiet.move rfl) rfl ?_))))))))
  refine G.q (Quiet.to (v' := .agg (ptC (oldX ((i + 1 : Nat) : Int))).toArray) (Quiet.build (us := [(0, _), (1, _), (5, _)]) fl_36 ze_36 rfl rfl (by simp [isCell])) rfl) rfl ?_
  refine G.q (Quiet.buildN (pl := [(0, 1), (1, 1), (2, 1), (3, 8)]) (us := [(0, vint ((i + 1 : Nat) : Int)), (1, vint 1), (3, .agg (ptC (oldX ((i + 1 : Nat) : Int))).toArray)]) (cells := enC (oldE ((i + 1 : Nat) : Int))) Tryz.underlying38 (by kernel_rfl) ze_38 rfl (fill_e3 _ _ _ _ _ _ _ _ _ _)) rfl ?_
  refine G.op (OpSpec.call Tryz.func13 rfl rfl (vs := [_, _]) rfl (lappend_spec g x d s.δ s.ω s.Λ (oldE ((i + 1 : Nat) : Int)) anyP (old_X ⟨by omega, by omega⟩) (hO.live.w.well.i (by omega)) hO.live.w.w.i)) (by (repeat' constructor)) rfl ?nx28
  rintro v L' ⟨rfl, rfl⟩; obtain ⟨e0, hO2⟩ := olds_step hO (by omega); obtain ⟨r, hr⟩ : ∃ r, lgAppend ⟨s.δ, s.ω, s.Λ⟩ (oldE ((i + 1 : Nat) : Int)) = r := ⟨_, rfl⟩; rw [hr]; rw [show lgAppend s (oldE ((i + 1 : Nat) : Int)) = r from hr] at e0 hO2
  refine G.q (Quiet.as (v' := .bool false) (by rw [e0]; rfl) (Quiet.int rfl rfl rfl)) rfl ?_
  refine G.nil (G.then_n (G.condF rfl (G.skip (G.blk_n (G.then_n (G.region (G.q (Quiet.move rfl) rfl ?_)))))))
  refine G.q (Quiet.add rfl rfl (by omega)) rfl ?_
  refine G.q (Quiet.assign rfl) rfl (G.nil (G.then_n ?_))
  exact G.roundK ((i + 1, r.1)) (⟨by dsimp only; omega, hO2.more (by dsimp only; omega) (by dsimp only; omega)⟩) (by dsimp only; omega) ⟨rfl, rfl, rfl, rfl, rfl, rfl, rfl, trivial⟩ (by (repeat' constructor)) (by ((repeat (apply Have.cons; (repeat (first | exact Pick.here | apply Pick.there)))); apply Have.base; repeat' constructor))
 ·have him : i = m := by omega
  have hpk := pickZ_range n1 (n := (m : Int) + 1) (by omega)
  obtain ⟨k, hk⟩ : ∃ k : Nat, pickZ n1 ((m : Int) + 1) = (k : Int) := ⟨(pickZ n1 ((m : Int) + 1)).toNat, by omega⟩
  have hkm : k ≤ i := by omega
  refine G.exit (G.then_e (G.then_e (G.blk_e (G.then_n (G.seq (G.region (G.q (Quiet.move rfl) rfl (G.q (Quiet.move rfl) rfl ?_))))))))
  refine G.q (Quiet.add rfl rfl (by omega)) rfl ?_
  refine G.op (OpSpec.call Tryz.func26 rfl rfl (vs := [_, _]) rfl (pick9_spec n1 ((m : Int) + 1) hn1 (by omega))) (by (repeat' constructor)) rfl ?nx36
  rintro v L' ⟨rfl, rfl⟩; rw [hk]
  refine G.q (Quiet.assign rfl) rfl (G.nil (G.then_n (G.seq (G.seq (G.region (G.q (Quiet.move rfl) rfl (G.q (Quiet.move rfl) rfl ?_)))))))
  refine G.op (OpSpec.call Tryz.func27 rfl rfl (vs := [_, _]) rfl (lcut_spec g x d s.δ s.ω s.Λ k (hO.live.w.well.i (by omega)) hO.live.w.w.i (List.pairwise_cons.1 hO.live.w.w.rows.up).2 hO.live.w.w.snap)) (by (repeat' constructor)) rfl ?nx39
  rintro v L' ⟨rfl, rfl⟩; obtain ⟨e0, hN0⟩ := news_begin hO (by omega) hkm p; obtain ⟨r, hr⟩ : ∃ r, lgCut ⟨s.δ, s.ω, s.Λ⟩ (k : Int) = r := ⟨_, rfl⟩; rw [hr]; rw [show lgCut s (k : Int) = r from hr] at e0 hN0; have hlast0 := news_last hN0
  refine G.q (Quiet.as (v' := .bool false) (by rw [e0]; rfl) (Quiet.int rfl rfl rfl)) rfl ?_
  refine G.q (Quiet.move rfl) rfl (G.grun (t := 73) rfl rfl rfl (G.q (Quiet.move rfl) rfl (G.grun (t := 73) rfl rfl rfl ?_)))
  refine G.op (OpSpec.call Tryz.func17 rfl rfl (vs := [_]) rfl (llast_spec g x r.1.Λ hN0.live.w.w.i)) (by (repeat' constructor)) rfl ?nx43
  rintro v L' ⟨rfl, rfl⟩
  refine G.grun (t := 73) rfl rfl rfl (G.q (Quiet.move rfl) rfl (G.grun (t := 73) rfl rfl rfl ?_))
  refine G.q (Quiet.as (v' := .bool false) (by rw [hlast0]; simp) (Quiet.int rfl rfl rfl)) rfl ?_
  refine G.q (Quiet.pickF rfl rfl) rfl (G.nil (G.then_n (G.condF rfl (G.skip (G.then_n (G.seq (G.region (G.q (Quiet.assign rfl) rfl (G.nil (G.then_n (G.seq (G.region (G.q (Quiet.assign rfl) rfl (G.nil (G.then_n (G.seq (G.seq (G.add (slR_nil 38 11) (G.region (G.q (Quiet.assign rfl) rfl (G.nil (G.then_n (G.block ?_)))))))))))))))))))))))
  refine G.loopK (ι := Nat × Ld × Value × (List En)) (fun q E => (19, vint q.1) :: (17, vint ((q.2.2.2.length : Nat) : Int)) :: (18, q.2.2.1) :: E) (fun q => [lgR g x q.2.1.Λ, wlR x d q.2.1.ω, dkR d q.2.1.δ, slR 38 11 q.2.2.1 q.2.2.2.length (q.2.2.2.flatMap enC)]) (fun q => q.1 ≤ l.length ∧ q.1 ≤ 60 ∧ (∃ a c, q.2.2.1 = .slice a q.2.2.2.length c) ∧ News q.2.1 (300000000 + q.1 * 4000000) (100 + q.1) k p q.2.2.2 ∧ q.2.2.2.length ≤ q.1) (fun q => l.length - q.1) (0, r.1, .slice none 0 0, []) (ts := [2, 3, 10, 12, 16]) (.cons rfl (.cons rfl (.cons rfl (.cons rfl (.cons rfl (.nil)))))) (⟨Nat.zero_le _, Nat.zero_le _, ⟨none, 0, rfl⟩, hN0.more (by dsimp only; omega) (by dsimp only; omega), Nat.le_refl _⟩) ⟨rfl, rfl, rfl, rfl, rfl, rfl, rfl, rfl, trivial⟩ (by (repeat' constructor)) ?_
  rintro ⟨i, s, u, ws⟩ ⟨hi, hi60, ⟨au, cu, hu⟩, hN, hwl⟩
  dsimp only
  dsimp only at hi hi60 hu hN hwl
  subst hu
  refine G.seq (G.seq (G.region (G.q (Quiet.move rfl) rfl (G.q (Quiet.move rfl) rfl (G.q (Quiet.slen rfl Tryz.underlying22 rfl) rfl (G.q (Quiet.int rfl rfl rfl) rfl (G.q (Quiet.move rfl) rfl ?_)))))))
  refine G.dec (t := 83) rfl (fun h18_83 => ?_) (fun h18_83 => ?_)
  ·refine G.kDT (t := 82) rfl h18_83 (G.grun (t := 83) rfl rfl rfl (G.q (Quiet.move rfl) rfl (G.grun (t := 83) rfl rfl rfl (G.q (Quiet.int rfl rfl rfl) rfl (G.q (Quiet.pickT rfl rfl) rfl (G.nil (G.then_n ?_)))))))
   refine G.condD rfl (fun h86 => ?_) (fun h86 => ?_)
   ·have hi2 : i < l.length := by omega
    refine G.rdShape (p := p) hcells (by (repeat' constructor)) (by omega) fun ba oa e => ?_
    subst e
    have hX0 := hx.e.x _ (List.getElem_mem hi2)
    have hX : EnX p (zxE l[i] ((k + ws.length + 1 : Nat) : Int)) := zxE_X hX0 (hx.small _ (List.getElem_mem hi2)) ⟨by omega, by omega⟩
    refine G.skip (G.then_n (G.seq (G.block (G.seq (G.region (G.q (Quiet.move rfl) rfl (G.q (Quiet.move rfl) rfl ?_)))))))
    refine G.q (Quiet.indexAddr rfl rfl el_22 (by omega)) rfl ?_
    refine G.q (Quiet.loadRdA (sz := 11) (j := i * 11) (k := 11) (p := p) (vs := enC l[i]) rfl ag_38 (by (repeat' constructor)) hcells (by simp) (by omega) (by omega) (flatMap_at (f := enC) (sz := 11) (fun _ _ => rfl) hi2)) rfl ?_
    refine G.op (OpSpec.allocA ze_38) (by (repeat' constructor)) rfl ?nx59
    rintro v L' ⟨bo, rfl, rfl⟩
    refine G.op (OpSpec.storeA rfl rfl ?c61 sz_38 ?c64 ?c62 ?c63) (by (repeat' constructor)) rfl ?nx65
    case c61 => exact hX0.l.cells
    case c64 => rfl
    case c62 => simp [enC, ptC]
    case c63 => exact nfz0 _ _
    rintro v L' rfl
    refine G.nil ?_
    refine G.ptCast (b := bo) (l' := enC l[i]) (by (repeat' constructor)) (by exact rfl) ?_
    refine G.then_n (G.seq (G.region (G.q (Quiet.move rfl) rfl ?_)))
    refine G.q (Quiet.add rfl rfl (by omega)) rfl ?_
    refine G.q (Quiet.move rfl) rfl ?_
    refine G.q (Quiet.as (v' := vint ((k + ws.length + 1 : Nat) : Int)) (by congr 1; omega) (Quiet.add rfl rfl (by omega))) rfl ?_
    refine G.q (Quiet.fieldAddr rfl fo_38_0) rfl ?_
    refine G.op (OpSpec.store rfl rfl rfl sz_3 ?c71 ?c72) (by (repeat' constructor)) rfl ?nx73
    case c71 => simp [enC, ptC]
    case c72 => exact nfz0 _ _
    rintro v L' rfl
    refine G.nil ?_
    refine G.ptCast (b := bo) (l' := enC (zxE l[i] ((k + ws.length + 1 : Nat) : Int))) (by (repeat' constructor)) (by exact rfl) ?_
    refine G.then_n (G.seq (G.region (G.q (Quiet.move rfl) rfl ?_)))
    refine G.q (Quiet.loadAs (vs := enC (zxE l[i] ((k + ws.length + 1 : Nat) : Int))) rfl ag_38 (by (repeat' constructor)) (by simp [enC, ptC]) rfl) rfl ?_
    refine G.op (OpSpec.call Tryz.func13 rfl rfl (vs := [_, _]) rfl (lappend_spec g x d s.δ s.ω s.Λ (zxE l[i] ((k + ws.length + 1 : Nat) : Int)) p hX (hN.live.w.well.i (by omega)) hN.live.w.w.i)) (by (repeat' constructor)) rfl ?nx76
    rintro v L' ⟨rfl, rfl⟩; have hns := news_step hN hX rfl; obtain ⟨r, hr⟩ : ∃ r, lgAppend ⟨s.δ, s.ω, s.Λ⟩ (zxE l[i] ((k + ws.length + 1 : Nat) : Int)) = r := ⟨_, rfl⟩; rw [hr]; rw [show lgAppend s (zxE l[i] ((k + ws.length + 1 : Nat) : Int)) = r from hr] at hns
    refine G.q (Quiet.int rfl rfl rfl) rfl (G.nil (G.then_n ?_))
    refine G.condD rfl (fun h101 => ?_) (fun h101 => ?_)
    ·have hn1 : News r.1 ((300000000 + i * 4000000) + 4000000) ((100 + i) + 1) k p (ws ++ [(zxE l[i] ((k + ws.length + 1 : Nat) : Int))]) := by rcases hns with ⟨-, g⟩ | ⟨g, -⟩; exact g; exact absurd h101 g
     refine G.seq (G.region (G.q (Quiet.move rfl) rfl ?_))
     refine G.q (Quiet.as (v' := vint (((ws ++ [(zxE l[i] ((k + ws.length + 1 : Nat) : Int))]).length : Nat) : Int)) (by congr 1; simp) (Quiet.add rfl rfl (by omega))) rfl ?_
     refine G.q (Quiet.assign rfl) rfl (G.nil (G.then_n (G.region (G.q (Quiet.move rfl) rfl ?_))))
     refine G.q (Quiet.loadAs (vs := enC (zxE l[i] ((k + ws.length + 1 : Nat) : Int))) rfl ag_38 (by (repeat' constructor)) (by simp [enC, ptC]) rfl) rfl ?_
     refine G.op (OpSpec.buildSlice (vs := [_]) el_22 ze_38 rfl rfl rfl rfl (by first | (simp [Value.cells]; done) | (intro v hv; simp only [List.mem_cons, List.not_mem_nil, or_false] at hv; (repeat (first | (subst hv; rfl) | (rcases hv with hv | hv; (subst hv; rfl)))))) (by decide)) (by (repeat' constructor)) rfl ?nx83
     rintro v L' ⟨b6, rfl, rfl⟩
     refine G.op (OpSpec.append1 rfl rfl rfl el_22 ze_38 rfl rfl ?c85 ?c86 (Nat.le_refl _) ?c87 (by decide)) (by (repeat' constructor)) rfl ?nx88
     case c85 => simp only [List.map_cons, List.map_nil, List.flatten_cons, List.flatten_nil, List.append_nil]; simp only [Value.cells]; intro z hz; exact hX.l.cells z (by simpa using hz)
     case c86 => rfl
     case c87 => omega
     rintro v L' ⟨⟨a6, c6, rfl⟩, rfl⟩
     refine G.q (Quiet.assign rfl) rfl (G.nil (G.blk_n (G.then_n (G.region (G.q (Quiet.move rfl) rfl ?_)))))
     refine G.q (Quiet.add rfl rfl (by omega)) rfl ?_
     refine G.q (Quiet.assign rfl) rfl (G.nil (G.then_n ?_))
     refine G.slCast (T := 38) (sz := 11) (m' := (ws ++ [(zxE l[i] ((k + ws.length + 1 : Nat) : Int))]).length) (xs' := (ws ++ [(zxE l[i] ((k + ws.length + 1 : Nat) : Int))]).flatMap enC) (by (repeat' constructor)) (by simp) (by rw [List.flatMap_append]; simp [Value.cells]) ?_
     exact G.roundK ((i + 1, r.1, .slice a6 (ws.length + 1) c6, ws ++ [(zxE l[i] ((k + ws.length + 1 : Nat) : Int))])) (⟨by dsimp only; omega, by dsimp only; omega, ⟨a6, c6, by simp⟩, hn1.more (by dsimp only; omega) (by dsimp only; omega), by dsimp only; rw [List.length_append, List.length_singleton]; omega⟩) (by dsimp only; omega) ⟨rfl, rfl, rfl, rfl, rfl, rfl, rfl, rfl, trivial⟩ (by (repeat' constructor)) (by ((repeat (apply Have.cons; (repeat (first | exact Pick.here | apply Pick.there)))); apply Have.base; repeat' constructor))
    ·have hn1 : News r.1 ((300000000 + i * 4000000) + 4000000) ((100 + i) + 1) k p ws := by rcases hns with ⟨g, -⟩ | ⟨-, g⟩; exact absurd g h101; exact g
     refine G.skip (G.blk_n (G.then_n (G.region (G.q (Quiet.move rfl) rfl ?_))))
     refine G.q (Quiet.add rfl rfl (by omega)) rfl ?_
     refine G.q (Quiet.assign rfl) rfl (G.nil (G.then_n ?_))
     exact G.roundK ((i + 1, r.1, .slice au ws.length cu, ws)) (⟨by dsimp only; omega, by dsimp only; omega, ⟨au, cu, rfl⟩, hn1.more (by dsimp only; omega) (by dsimp only; omega), by dsimp only; omega⟩) (by dsimp only; omega) ⟨rfl, rfl, rfl, rfl, rfl, rfl, rfl, rfl, trivial⟩ (by (repeat' constructor)) (by ((repeat (apply Have.cons; (repeat (first | exact Pick.here | apply Pick.there)))); apply Have.base; repeat' constructor))
   ·refine G.exit (G.then_e (G.then_e (G.blk_e (G.then_n (G.seq (G.seq (G.region (G.q (Quiet.move rfl) rfl ?_))))))))
    refine G.op (OpSpec.call Tryz.func28 rfl rfl (vs := [_]) rfl (lsync_spec g x d s.δ s.ω s.Λ (hN.live.w.well.i (by omega)))) (by (repeat' constructor)) rfl ?nx95
    rintro v L' ⟨rfl, rfl⟩; obtain ⟨hT, e0, hTs, hTL⟩ := live_sync hN.live (by omega); obtain ⟨t, ht⟩ : ∃ t, lgSync ⟨s.δ, s.ω, s.Λ⟩ = t := ⟨_, rfl⟩; rw [ht]; rw [show lgSync s = t from ht] at hT e0 hTs hTL
    refine G.q (Quiet.as (v' := .bool false) (by rw [e0]; rfl) (Quiet.int rfl rfl rfl)) rfl ?_
    refine G.nil (G.then_n (G.condF rfl (G.skip (G.then_n (G.seq ?_)))))
    refine G.dkOk (by (repeat' constructor)) fun hok => ?_
    refine G.region (G.q (Quiet.move rfl) rfl (G.q (Quiet.move rfl) rfl ?_))
    refine G.op (OpSpec.call Tryz.func29 rfl rfl (vs := [_, _]) rfl (crash_spec d t.1.δ _ how p hhow hhows)) (by (repeat' constructor)) rfl ?nx100
    rintro v L' ⟨rfl, rfl⟩
    refine G.nil (G.then_n (G.seq ?_))
    have hB := back_live hT.l hok how
    rw [syn_full hT.l hTs, hTL] at hB
    obtain ⟨ω2, o1, o2, o3, o4⟩ := hB.open_
    have hsz2 := o3.lv.well.size
    have hdd2 := o3.lv.dead
    refine G.dkOk (by (repeat' constructor)) fun hok2 => ?_
    obtain ⟨σ, hσ⟩ : ∃ σ, t.1.δ.crash how = σ := ⟨_, rfl⟩
    rw [hσ] at o1 o3 hok2 hsz2 hdd2 ⊢
    have hsW : LgW s.Λ := o3.lw.w
    have hlast := news_last hN
    refine G.region (G.q (Quiet.move rfl) rfl ?_)
    refine G.op (OpSpec.call Tryz.func18 rfl rfl (vs := [_]) rfl (lopen_spec d σ hsz2 hok2 (fun ω9 h9 => by rw [o1] at h9; cases h9; exact o3.opened))) (by (repeat' constructor)) rfl ?nx103
    rintro v L' (⟨h, -, -⟩ | ⟨-, h, -, -⟩ | ⟨-, ω9, h9, ⟨h, -, -⟩ | ⟨Λ9, mm, y, hl9, rfl, rfl⟩⟩); · rw [hdd2] at h; cases h
    · rw [o1] at h; cases h
    · rw [o1] at h9; cases h9; rw [o2] at h; cases h
    rw [o1] at h9; cases h9; rw [o2] at hl9; cases hl9
    refine G.q (Quiet.move rfl) rfl (G.q (Quiet.extract rfl rfl) rfl (G.q (Quiet.extract rfl rfl) rfl (G.q (Quiet.assign rfl) rfl (G.q (Quiet.assign rfl) rfl (G.nil (G.then_n (G.seq (G.seq (G.region (G.q (Quiet.move rfl) rfl (G.q (Quiet.ptreq rfl rfl Tryz.underlying28) rfl (G.q (Quiet.move rfl) rfl (G.grun (t := 121) rfl rfl rfl (G.q (Quiet.move rfl) rfl (G.grun (t := 121) rfl rfl rfl ?_)))))))))))))))
    refine G.q (Quiet.as (v' := .bool false) (by rfl) (Quiet.int rfl rfl rfl)) rfl ?_
    refine G.q (Quiet.pickF rfl rfl) rfl (G.q (Quiet.move rfl) rfl (G.grun (t := 125) rfl rfl rfl (G.q (Quiet.move rfl) rfl (G.grun (t := 125) rfl rfl rfl ?_))))
    refine G.op (OpSpec.call Tryz.func17 rfl rfl (vs := [_]) rfl (llast_spec mm y s.Λ hsW.i)) (by (repeat' constructor)) rfl ?nx109
    rintro v L' ⟨rfl, rfl⟩
    refine G.grun (t := 125) rfl rfl rfl (G.q (Quiet.move rfl) rfl (G.grun (t := 125) rfl rfl rfl (G.q (Quiet.move rfl) rfl (G.grun (t := 125) rfl rfl rfl ?_))))
    refine G.q (Quiet.add rfl rfl (by omega)) rfl ?_
    refine G.grun (t := 125) rfl rfl rfl ?_
    refine G.q (Quiet.as (v' := .bool false) (by rw [hlast]; simp) (Quiet.int rfl rfl rfl)) rfl ?_
    refine G.q (Quiet.pickF rfl rfl) rfl (G.nil (G.then_n (G.condF rfl (G.skip (G.then_n (G.seq (G.region (G.q (Quiet.move rfl) rfl (G.q (Quiet.move rfl) rfl ?_)))))))))
    refine G.op (OpSpec.call Tryz.func16 rfl rfl (vs := [_, _]) rfl (lentries_spec mm y s.Λ k hsW.i)) (by (repeat' constructor)) rfl ?nx116
    rintro v L' (⟨h9, -, -⟩ | ⟨-, es1, hes1, hek1, a1, c1, rfl, rfl⟩); · have := hN.base; omega
    obtain ⟨hB1, hG1⟩ := behind_B hsW hes1
    obtain ⟨olds, hol, hoe⟩ := hN.ents
    rw [behind_cut hN.zxs hoe hol (List.length_map _)] at hB1
    have hl1 := congrArg List.length hB1
    rw [List.length_map, List.length_map] at hl1
    refine G.q (Quiet.move rfl) rfl (G.q (Quiet.extract rfl rfl) rfl (G.q (Quiet.extract rfl rfl) rfl (G.q (Quiet.assign rfl) rfl (G.q (Quiet.assign rfl) rfl (G.nil (G.then_n (G.seq (G.region (G.q (Quiet.move rfl) rfl ?_)))))))))
    refine G.op (OpSpec.call Tryz.func16 rfl rfl (vs := [_, _]) rfl (lentries_spec mm y s.Λ 0 hsW.i)) (by (repeat' constructor)) rfl ?nx120
    rintro v L' (⟨h9, -, -⟩ | ⟨-, es2, hes2, hek2, a2, c2, rfl, rfl⟩); · have := hN.base; omega
    obtain ⟨hB2, -⟩ := behind_B hsW hes2
    rw [behind_all hsW (by rw [hN.base]; exact Int.le_refl _), hoe] at hB2
    have hl2 := congrArg List.length hB2
    rw [List.length_map, List.length_append, List.length_map, hol] at hl2
    refine G.q (Quiet.move rfl) rfl (G.q (Quiet.extract rfl rfl) rfl (G.q (Quiet.extract rfl rfl) rfl (G.q (Quiet.assign rfl) rfl (G.q (Quiet.assign rfl) rfl (G.nil (G.then_n (G.seq (G.region (G.q (Quiet.move rfl) rfl ?_)))))))))
    refine G.q (Quiet.as (v' := .bool true) (by rfl) (Quiet.int rfl rfl rfl)) rfl ?_
    refine G.q (Quiet.move rfl) rfl (G.grun (t := 146) rfl rfl rfl (G.q (Quiet.move rfl) rfl (G.grun (t := 146) rfl rfl rfl ?_)))
    refine G.q (Quiet.as (v' := .bool true) (by rfl) (Quiet.int rfl rfl rfl)) rfl ?_
    refine G.q (Quiet.pickT rfl rfl) rfl (G.q (Quiet.move rfl) rfl (G.grun (t := 150) rfl rfl rfl (G.q (Quiet.move rfl) rfl (G.grun (t := 150) rfl rfl rfl (G.q (Quiet.slen rfl Tryz.underlying22 rfl) rfl (G.grun (t := 150) rfl rfl rfl (G.q (Quiet.move rfl) rfl (G.grun (t := 150) rfl rfl rfl (G.q (Quiet.move rfl) rfl (G.grun (t := 150) rfl rfl rfl ?_))))))))))
    refine G.q (Quiet.add rfl rfl (by omega)) rfl ?_
    refine G.grun (t := 150) rfl rfl rfl ?_
    refine G.q (Quiet.as (v' := .bool true) (by rw [hl2]; simp) (Quiet.int rfl rfl rfl)) rfl ?_
    refine G.q (Quiet.pickT rfl rfl) rfl (G.q (Quiet.move rfl) rfl (G.grun (t := 158) rfl rfl rfl (G.q (Quiet.move rfl) rfl (G.grun (t := 158) rfl rfl rfl (G.q (Quiet.slen rfl Tryz.underlying22 rfl) rfl (G.grun (t := 158) rfl rfl rfl (G.q (Quiet.move rfl) rfl (G.grun (t := 158) rfl rfl rfl ?_))))))))
    refine G.q (Quiet.as (v' := .bool true) (by rw [hl1]; simp) (Quiet.int rfl rfl rfl)) rfl ?_
    refine G.q (Quiet.pickT rfl rfl) rfl (G.q (Quiet.move rfl) rfl (G.grun (t := 164) rfl rfl rfl (G.q (Quiet.move rfl) rfl (G.grun (t := 164) rfl rfl rfl (G.q (Quiet.move rfl) rfl (G.grun (t := 164) rfl rfl rfl ?_))))))
    refine G.op (OpSpec.call Tryz.func30 rfl rfl (vs := [_, _]) rfl (same9_spec _ _ es1 ws (slR 38 11 (.slice a1 es1.length c1) es1.length (es1.flatMap enC)) (bigR entR es1) (slR 38 11 (.slice au ws.length cu) ws.length (ws.flatMap enC)) p (fun h hp => slR_rd hp) (fun e he => entL he (hek1 e he) (hG1 e he)) (fun h hp => slR_rd hp) (fun e he => (hN.each e he).l) (by omega) (by omega))) (by (repeat' constructor)) rfl ?nx135
    rintro v L' ⟨rfl, rfl⟩; rw [decide_eq_true hB1]
    refine G.q (Quiet.pickT rfl rfl) rfl (G.q (Quiet.assign rfl) rfl (G.nil (G.then_n (G.ret ?_))))
    exact G.done (l := [.tmp 8]) rfl rfl ⟨rfl, rfl⟩ (by (repeat' constructor)) (by (repeat' constructor))
  ·refine G.kDF (t := 82) rfl h18_83 (G.gskip (t := 83) rfl rfl rfl rfl (G.gskip (t := 83) rfl rfl rfl rfl (G.q (Quiet.pickF rfl rfl) rfl (G.nil (G.then_n (G.condF rfl (G.exit (G.then_e (G.then_e (G.blk_e (G.then_n (G.seq (G.seq (G.region (G.q (Quiet.move rfl) rfl ?_)))))))))))))))
   refine G.op (OpSpec.call Tryz.func28 rfl rfl (vs := [_]) rfl (lsync_spec g x d s.δ s.ω s.Λ (hN.live.w.well.i (by omega)))) (by (repeat' constructor)) rfl ?nx139
   rintro v L' ⟨rfl, rfl⟩; obtain ⟨hT, e0, hTs, hTL⟩ := live_sync hN.live (by omega); obtain ⟨t, ht⟩ : ∃ t, lgSync ⟨s.δ, s.ω, s.Λ⟩ = t := ⟨_, rfl⟩; rw [ht]; rw [show lgSync s = t from ht] at hT e0 hTs hTL
   refine G.q (Quiet.as (v' := .bool false) (by rw [e0]; rfl) (Quiet.int rfl rfl rfl)) rfl ?_
   refine G.nil (G.then_n (G.condF rfl (G.skip (G.then_n (G.seq ?_)))))
   refine G.dkOk (by (repeat' constructor)) fun hok => ?_
   refine G.region (G.q (Quiet.move rfl) rfl (G.q (Quiet.move rfl) rfl ?_))
   refine G.op (OpSpec.call Tryz.func29 rfl rfl (vs := [_, _]) rfl (crash_spec d t.1.δ _ how p hhow hhows)) (by (repeat' constructor)) rfl ?nx144
   rintro v L' ⟨rfl, rfl⟩
   refine G.nil (G.then_n (G.seq ?_))
   have hB := back_live hT.l hok how
   rw [syn_full hT.l hTs, hTL] at hB
   obtain ⟨ω2, o1, o2, o3, o4⟩ := hB.open_
   have hsz2 := o3.lv.well.size
   have hdd2 := o3.lv.dead
   refine G.dkOk (by (repeat' constructor)) fun hok2 => ?_
   obtain ⟨σ, hσ⟩ : ∃ σ, t.1.δ.crash how = σ := ⟨_, rfl⟩
   rw [hσ] at o1 o3 hok2 hsz2 hdd2 ⊢
   have hsW : LgW s.Λ := o3.lw.w
   have hlast := news_last hN
   refine G.region (G.q (Quiet.move rfl) rfl ?_)
   refine G.op (OpSpec.call Tryz.func18 rfl rfl (vs := [_]) rfl (lopen_spec d σ hsz2 hok2 (fun ω9 h9 => by rw [o1] at h9; cases h9; exact o3.opened))) (by (repeat' constructor)) rfl ?nx147
   rintro v L' (⟨h, -, -⟩ | ⟨-, h, -, -⟩ | ⟨-, ω9, h9, ⟨h, -, -⟩ | ⟨Λ9, mm, y, hl9, rfl, rfl⟩⟩); · rw [hdd2] at h; cases h
   · rw [o1] at h; cases h
   · rw [o1] at h9; cases h9; rw [o2] at h; cases h
   rw [o1] at h9; cases h9; rw [o2] at hl9; cases hl9
   refine G.q (Quiet.move rfl) rfl (G.q (Quiet.extract rfl rfl) rfl (G.q (Quiet.extract rfl rfl) rfl (G.q (Quiet.assign rfl) rfl (G.q (Quiet.assign rfl) rfl (G.nil (G.then_n (G.seq (G.seq (G.region (G.q (Quiet.move rfl) rfl (G.q (Quiet.ptreq rfl rfl Tryz.underlying28) rfl (G.q (Quiet.move rfl) rfl (G.grun (t := 121) rfl rfl rfl (G.q (Quiet.move rfl) rfl (G.grun (t := 121) rfl rfl rfl ?_)))))))))))))))
   refine G.q (Quiet.as (v' := .bool false) (by rfl) (Quiet.int rfl rfl rfl)) rfl ?_
   refine G.q (Quiet.pickF rfl rfl) rfl (G.q (Quiet.move rfl) rfl (G.grun (t := 125) rfl rfl rfl (G.q (Quiet.move rfl) rfl (G.grun (t := 125) rfl rfl rfl ?_))))
   refine G.op (OpSpec.call Tryz.func17 rfl rfl (vs := [_]) rfl (llast_spec mm y s.Λ hsW.i)) (by (repeat' constructor)) rfl ?nx153
   rintro v L' ⟨rfl, rfl⟩
   refine G.grun (t := 125) rfl rfl rfl (G.q (Quiet.move rfl) rfl (G.grun (t := 125) rfl rfl rfl (G.q (Quiet.move rfl) rfl (G.grun (t := 125) rfl rfl rfl ?_))))
   refine G.q (Quiet.add rfl rfl (by omega)) rfl ?_
   refine G.grun (t := 125) rfl rfl rfl ?_
   refine G.q (Quiet.as (v' := .bool false) (by rw [hlast]; simp) (Quiet.int rfl rfl rfl)) rfl ?_
   refine G.q (Quiet.pickF rfl rfl) rfl (G.nil (G.then_n (G.condF rfl (G.skip (G.then_n (G.seq (G.region (G.q (Quiet.move rfl) rfl (G.q (Quiet.move rfl) rfl ?_)))))))))
   refine G.op (OpSpec.call Tryz.func16 rfl rfl (vs := [_, _]) rfl (lentries_spec mm y s.Λ k hsW.i)) (by (repeat' constructor)) rfl ?nx160
   rintro v L' (⟨h9, -, -⟩ | ⟨-, es1, hes1, hek1, a1, c1, rfl, rfl⟩); · have := hN.base; omega
   obtain ⟨hB1, hG1⟩ := behind_B hsW hes1
   obtain ⟨olds, hol, hoe⟩ := hN.ents
   rw [behind_cut hN.zxs hoe hol (List.length_map _)] at hB1
   have hl1 := congrArg List.length hB1
   rw [List.length_map, List.length_map] at hl1
   refine G.q (Quiet.move rfl) rfl (G.q (Quiet.extract rfl rfl) rfl (G.q (Quiet.extract rfl rfl) rfl (G.q (Quiet.assign rfl) rfl (G.q (Quiet.assign rfl) rfl (G.nil (G.then_n (G.seq (G.region (G.q (Quiet.move rfl) rfl ?_)))))))))
   refine G.op (OpSpec.call Tryz.func16 rfl rfl (vs := [_, _]) rfl (lentries_spec mm y s.Λ 0 hsW.i)) (by (repeat' constructor)) rfl ?nx164
   rintro v L' (⟨h9, -, -⟩ | ⟨-, es2, hes2, hek2, a2, c2, rfl, rfl⟩); · have := hN.base; omega
   obtain ⟨hB2, -⟩ := behind_B hsW hes2
   rw [behind_all hsW (by rw [hN.base]; exact Int.le_refl _), hoe] at hB2
   have hl2 := congrArg List.length hB2
   rw [List.length_map, List.length_append, List.length_map, hol] at hl2
   refine G.q (Quiet.move rfl) rfl (G.q (Quiet.extract rfl rfl) rfl (G.q (Quiet.extract rfl rfl) rfl (G.q (Quiet.assign rfl) rfl (G.q (Quiet.assign rfl) rfl (G.nil (G.then_n (G.seq (G.region (G.q (Quiet.move rfl) rfl ?_)))))))))
   refine G.q (Quiet.as (v' := .bool true) (by rfl) (Quiet.int rfl rfl rfl)) rfl ?_
   refine G.q (Quiet.move rfl) rfl (G.grun (t := 146) rfl rfl rfl (G.q (Quiet.move rfl) rfl (G.grun (t := 146) rfl rfl rfl ?_)))
   refine G.q (Quiet.as (v' := .bool true) (by rfl) (Quiet.int rfl rfl rfl)) rfl ?_
   refine G.q (Quiet.pickT rfl rfl) rfl (G.q (Quiet.move rfl) rfl (G.grun (t := 150) rfl rfl rfl (G.q (Quiet.move rfl) rfl (G.grun (t := 150) rfl rfl rfl (G.q (Quiet.slen rfl Tryz.underlying22 rfl) rfl (G.grun (t := 150) rfl rfl rfl (G.q (Quiet.move rfl) rfl (G.grun (t := 150) rfl rfl rfl (G.q (Quiet.move rfl) rfl (G.grun (t := 150) rfl rfl rfl ?_))))))))))
   refine G.q (Quiet.add rfl rfl (by omega)) rfl ?_
   refine G.grun (t := 150) rfl rfl rfl ?_
   refine G.q (Quiet.as (v' := .bool true) (by rw [hl2]; simp) (Quiet.int rfl rfl rfl)) rfl ?_
   refine G.q (Quiet.pickT rfl rfl) rfl (G.q (Quiet.move rfl) rfl (G.grun (t := 158) rfl rfl rfl (G.q (Quiet.move rfl) rfl (G.grun (t := 158) rfl rfl rfl (G.q (Quiet.slen rfl Tryz.underlying22 rfl) rfl (G.grun (t := 158) rfl rfl rfl (G.q (Quiet.move rfl) rfl (G.grun (t := 158) rfl rfl rfl ?_))))))))
   refine G.q (Quiet.as (v' := .bool true) (by rw [hl1]; simp) (Quiet.int rfl rfl rfl)) rfl ?_
   refine G.q (Quiet.pickT rfl rfl) rfl (G.q (Quiet.move rfl) rfl (G.grun (t := 164) rfl rfl rfl (G.q (Quiet.move rfl) rfl (G.grun (t := 164) rfl rfl rfl (G.q (Quiet.move rfl) rfl (G.grun (t := 164) rfl rfl rfl ?_))))))
   refine G.op (OpSpec.call Tryz.func30 rfl rfl (vs := [_, _]) rfl (same9_spec _ _ es1 ws (slR 38 11 (.slice a1 es1.length c1) es1.length (es1.flatMap enC)) (bigR entR es1) (slR 38 11 (.slice au ws.length cu) ws.length (ws.flatMap enC)) p (fun h hp => slR_rd hp) (fun e he => entL he (hek1 e he) (hG1 e he)) (fun h hp => slR_rd hp) (fun e he => (hN.each e he).l) (by omega) (by omega))) (by (repeat' constructor)) rfl ?nx179
   rintro v L' ⟨rfl, rfl⟩; rw [decide_eq_true hB1]
   refine G.q (Quiet.pickT rfl rfl) rfl (G.q (Quiet.assign rfl) rfl (G.nil (G.then_n (G.ret ?_))))
   exact G.done (l := [.tmp 8]) rfl rfl ⟨rfl, rfl⟩ (by (repeat' constructor)) (by (repeat' constructor))

end Go.Proofs.YtidjhgbdokcphaaGreat

/- Own work: from what a call is given to the atoms of SlCore, and back to what a statement asks. -/

namespace Go.Proofs.YtidjhgbdokcphaaGreat
open Go Go.ChangeShapes Go.WideShapes Go.ChangeAt Go.RowKit

section
variable {H : Type} {enc : TypeId × Value → H} {P : Program} {W W' : World}
theorem trodAll_old (hl : laidOutB P = true) (hb : Below W.heap.size W W') (sp : Nat → Bool) : ∀ (ts : List TypeId) (vs : List Value) (ds : List (DataW H)) (p : List MemPlace), (∀ t ∈ ts, P.readableRec t = true ∧ t < P.types.size) →
    DataW.TrodAll enc P W 0 (fun _ => true) true ts vs ds p → (∀ x ∈ p, x.block < W.heap.size) → (∀ x ∈ p, sp x.block = true) → DataW.TrodAll enc P W' 0 sp true ts vs ds p
  | [], vs, ds, p, _, h, _, _ => by
    obtain ⟨rfl, rfl, rfl⟩ := trodAll_nil h
    exact h
  | t :: ts, vs, ds, p, hr, h, hlt, hsp => by
    obtain ⟨v, vs1, d, ds1, a, b, rfl, rfl, rfl, h1, h2⟩ := trodAll_cons h
    have r := hr t (by simp)
    refine ⟨a, b, WideElems.Trod_stays hl r.1 r.2 h1 (fun x hx => hb.same (hlt x (by simp [hx]))) (fun x hx => hsp x (by simp [hx])), ?_, rfl⟩
    exact trodAll_old hl hb sp ts vs1 ds1 b (fun t ht => hr t (by simp [ht])) h2 (fun x hx => hlt x (by simp [hx])) (fun x hx => hsp x (by simp [hx]))
theorem settled {fn : Func} {s : ChangeSpec} {apart fresh handsOn again : Bool} {args : Array Value} {ds gs : List (DataW H)} {before : List MemPlace} {tb : TypeId}
    (hW : DataW.Whole enc P fn.params.toList s.vars apart W args.toList ds gs before) (hvars : s.vars = []) (hspec : ∀ gs', gs' = [] → s.fn H (ds ++ gs') = { results := [.lit (.bool true)], args := ds })
    (hres : fn.resultTypes = #[tb]) (htb : P.underlying tb = some .bool) (hl : laidOutB P = true) (hr : ∀ t ∈ fn.params.toList, P.readableRec t = true ∧ t < P.types.size) (hb : Below W.heap.size W W') :
    s.post enc P fn apart fresh handsOn again W args (.bool true) W' := by
  have hW' := hW
  have hlt := hW.lt
  obtain ⟨p, q, hA, hV, rfl, hfz, hnd⟩ := hW
  rw [hvars] at hV
  obtain ⟨rfl, rfl⟩ := trodVars_none hV
  have hs := hspec [] rfl
  have hargs : ∀ sp : Nat → Bool, (∀ x ∈ p, sp x.block = true) → DataW.TrodAll enc P W' 0 sp true fn.params.toList args.toList ds p := fun sp hsp =>
    trodAll_old hl hb sp _ _ _ _ hr hA (fun x hx => hlt x (by simp [hx])) hsp
  have hbool : ∀ (b : Nat) (sp : Nat → Bool) (hd : Bool), DataW.TrodAll enc P W' b sp hd fn.resultTypes.toList ((Value.bool true).resultList fn.resultTypes.size) [.lit (.bool true)] [] := by
    intro b sp hd
    rw [hres]
    exact trodAll_cons_mk (shut_bool htb _) trodAll_mk0
  refine ⟨ds, [], p ++ [], [], p, [], hW', ?_, ?_, ?_, hb.frame _, fun _ => ⟨ok_one hres rfl (okWide_bool_mk htb _), [.lit (.bool true)] ++ ds, [], p, ⟨p, [], ?_, ?_, by simp, ?_, ?_⟩, ?_⟩⟩
  · rw [hs]; exact hbool _ _ _
  · rw [hs]; exact hargs _ (fun x hx => by simpa using hlt x (by simp [hx]))
  · rw [hs, hvars]; exact hV
  · exact trodAll_append (hargs _ (fun _ _ => rfl)) (hbool _ _ _)
  · rw [hvars]; exact hV
  · intro b off hp
    rw [hb.frozen (p := ⟨b, off, none⟩) (hlt (.cell b off) (by simp [hp]))]
    exact hfz b off (by simp [hp])
  · intro ha
    have := hnd ha
    simpa using this
  · intro x hx _
    simp [hx]
theorem old_calls {f : FuncId} {args : Array Value} (h : Fn P f args [Old W] fun v L => v = .bool true ∧ L = [Old W]) :
    Calls P f args W fun e W' => e = .returned (.bool true) ∧ Below W.heap.size W W' := by
  have h0 : St [Old W] W := ⟨fun b => W.heap[b]?, fun _ => none, fun _ => .inr rfl, fun b o h => h, fun b o h => (by cases h), fun b hb => rfl, trivial⟩
  refine (h [] W h0).mono ?_
  rintro e W' ⟨v, L, ⟨rfl, rfl⟩, rfl, hs, hk⟩
  refine ⟨rfl, hk.os, hk.tape, hk.output, hk.size, fun k hk' => ?_⟩
  obtain ⟨h1, a1, hp⟩ := sep_head hs
  have e1 := hp k hk'
  have : ∃ o, W.heap[k]? = some o := ⟨_, Array.getElem?_eq_getElem hk'⟩
  obtain ⟨o, ho⟩ := this
  rw [ho] at e1 ⊢
  exact a1 _ _ e1
theorem old_rd {a : Addr} {len cap : Nat} {V : Nat → Value} (hc : ∀ i, i < len → W.cell? (a.add i) = some (V i)) (hle : len ≤ cap) : ∀ h : Hp, Old W h → rdS 1 h (.slice (some a) len cap) len ((List.range len).map V) := by
  intro h hold
  rcases Nat.eq_zero_or_pos len with rfl | hpos
  · exact .inl ⟨rfl, rfl, some a, cap, rfl⟩
  · obtain ⟨b, off, spot⟩ := a
    have h0 := hc 0 hpos
    have e0 : (⟨b, off, spot⟩ : Addr).add 0 = ⟨b, off, spot⟩ := by simp [Addr.add]
    rw [e0] at h0
    simp only [World.cell?] at h0
    rcases hw : W.heap[b]? with _ | o
    · rw [hw] at h0; cases h0
    · cases o with
      | cells c T fr =>
        rw [hw] at h0
        dsimp only at h0
        split at h0
        · cases h0
        · rename_i hsp
          have hspot : spot = none := by simpa using hsp
          subst hspot
          have hc' : ∀ i, i < len → c[off + i]? = some (V i) := by
            intro i hi
            have := hc i hi
            have e1 : (⟨b, off, none⟩ : Addr).add i = ⟨b, off + i, none⟩ := by
              simp only [Addr.add]; split
              · rename_i h0; simp [h0]
              · rfl
            rw [e1] at this
            simp only [World.cell?, hw] at this
            simpa using this
          have hlt : b < W.heap.size := by
            rcases Nat.lt_or_ge b W.heap.size with h' | h'
            · exact h'
            · rw [Array.getElem?_eq_none h'] at hw; cases hw
          have hlen : off + len ≤ c.size := by
            have := hc' (len - 1) (by omega)
            rcases Nat.lt_or_ge (off + (len - 1)) c.size with h' | h'
            · omega
            · rw [Array.getElem?_eq_none h'] at this; cases this
          refine .inr ⟨b, off, cap, c.toList, T, fr, rfl, by rw [hold b hlt, hw], ?_, by simpa using hlen, hle⟩
          apply List.ext_getElem?
          intro i
          rw [Nat.mul_one, List.getElem?_take, List.getElem?_map, List.getElem?_drop]
          split
          · rename_i hi
            rw [List.getElem?_range hi]
            simpa using hc' i hi
          · rename_i hi
            rw [List.getElem?_eq_none (by simpa using hi)]; rfl
      | _ => rw [hw] at h0; cases h0
theorem arg_int {t : TypeId} {r : Reach} {b0 : Nat} {v : Value} {d : DataW H} {ps : List MemPlace} (ht : P.underlying t = some (.int .i64)) (hval : Value.okWide P W r b0 t v)
    (h : DataW.Trod enc P W 0 (fun _ => true) true t v d ps) : ∃ n : Int, v = vint n ∧ d = .lit (.int .i64 n) ∧ -9223372036854775808 ≤ n ∧ n ≤ 9223372036854775807 := by
  obtain ⟨n, rfl, rfl, rfl, hwf⟩ := open_int ht hval h
  exact ⟨n, rfl, rfl, bounds_i64 hwf⟩
end
end Go.Proofs.YtidjhgbdokcphaaGreat

/- Own work: strings and rows of strings as arguments. -/
namespace Go.Proofs.YtidjhgbdokcphaaGreat
open Go Go.ChangeShapes Go.WideShapes Go.ChangeAt Go.RowKit

section
variable {H : Type} {enc : TypeId × Value → H} {P : Program} {W : World}
theorem string_vstr (s : ByteArray) : Value.string s = vstr s.data.toList := by cases s; rfl
end
end Go.Proofs.YtidjhgbdokcphaaGreat

/- Own work: nested arguments decoded: slices of structs, and what the row says of their weight. -/

namespace Go.Proofs.YtidjhgbdokcphaaGreat
open Go Go.ChangeShapes Go.WideShapes Go.ChangeAt Go.RowKit

section
variable {H : Type} {enc : TypeId × Value → H} {P : Program} {W : World}
/-- No slice and no string in this datum weighs more than the row's reach. -/
def Light (P : Program) (t : TypeId) (d : DataW H) : Prop := ∀ n ∈ d.weights P t, n ≤ reachBytes
theorem flat_at {α : Type} {sz : Nat} (f : Nat → List α) : ∀ n, (∀ i, i < n → (f i).length = sz) → ∀ j, j < n * sz → ((List.range n).flatMap f)[j]? = (f (j / sz))[j % sz]? ∧ ((List.range n).flatMap f).length = n * sz := by
  intro n
  induction n with
  | zero => intro _ j hj; omega
  | succ n ih =>
    intro hf j hj
    have hn := hf n (by omega)
    have hlen : ((List.range n).flatMap f).length = n * sz := by
      rcases Nat.eq_zero_or_pos (n * sz) with h0 | h0
      · rcases Nat.eq_zero_or_pos n with h1 | h1
        · subst h1; simp
        · have : sz = 0 := by
            rcases Nat.eq_zero_or_pos sz with h2 | h2
            · exact h2
            · have := Nat.mul_pos h1 h2; omega
          subst this; omega
      · exact (ih (fun i hi => hf i (by omega)) 0 h0).2
    have e : (List.range (n + 1)).flatMap f = (List.range n).flatMap f ++ f n := by simp [List.range_succ]
    have hm : (n + 1) * sz = n * sz + sz := by rw [Nat.add_mul, Nat.one_mul]
    rw [e]
    refine ⟨?_, by rw [List.length_append, hlen, hn, hm]⟩
    rcases Nat.lt_or_ge j (n * sz) with h | h
    · rw [List.getElem?_append_left (by omega)]
      exact (ih (fun i hi => hf i (by omega)) j h).1
    · rw [List.getElem?_append_right (by omega), hlen]
      have hs : 0 < sz := by omega
      have h1 : j / sz = n := by
        have : j < (n + 1) * sz := hj
        have a := Nat.div_lt_of_lt_mul (show j < sz * (n + 1) by rw [Nat.mul_comm]; exact this)
        have b := (Nat.le_div_iff_mul_le hs).2 h
        omega
      have h2 : j % sz = j - n * sz := by
        have := Nat.div_add_mod j sz
        rw [h1, Nat.mul_comm] at this; omega
      rw [h1, h2]
theorem rdS_regroup {sz n c c1 : Nat} {a : Option Addr} {ys : List Value} {h : Hp} (hr : rdS 1 h (.slice a (n * sz) c1) (n * sz) ys) (hc : n ≤ c) (hs : 0 < sz) : rdS sz h (.slice a n c) n ys := by
  rcases hr with ⟨h1, h2, -⟩ | ⟨b, off, cap, l, T, fr, hv, hb, h1, h2, h3⟩
  · have : n = 0 := by
      rcases Nat.eq_zero_or_pos n with h0 | h0
      · exact h0
      · have := Nat.mul_pos h0 hs; omega
    subst this
    exact .inl ⟨rfl, h2, a, c, rfl⟩
  · simp only [Value.slice.injEq] at hv
    obtain ⟨rfl, -, -⟩ := hv
    exact .inr ⟨b, off, c, l, T, fr, rfl, hb, by rw [← h1, Nat.mul_one], by rw [Nat.mul_one] at h2; exact h2, hc⟩
abbrev Reads (enc : TypeId × Value → H) (P : Program) (W : World) (fuel : Nat) (t : TypeId) (cs : List Value) (x : DataW H × List MemPlace) : Prop := DataW.trod enc P W 0 (fun _ => true) true fuel t cs = some x
theorem dec_int {t : TypeId} {fuel : Nat} {cs : List Value} {x : DataW H × List MemPlace} (ht : P.underlying t = some (.int .i64)) (h : Reads enc P W fuel t cs x) : ∃ n : Int, cs = [vint n] ∧ -9223372036854775808 ≤ n ∧ n ≤ 9223372036854775807 := by
  obtain ⟨n, rfl, -, hwf⟩ := DataW.trod_int ht h
  exact ⟨n, rfl, bounds_i64 hwf⟩
end
end Go.Proofs.YtidjhgbdokcphaaGreat

/- Own work: arguments of a bounded bulk (the second form's bound), decoded. -/
namespace Go.Proofs.YtidjhgbdokcphaaGreat
open Go Go.ChangeShapes Go.WideShapes Go.ChangeAt Go.RowKit

theorem bulk_pos {H : Type} (d : DataW H) : 1 ≤ Rows.uptoBulk d := by
  cases d with
  | lit l => cases l <;> simp [Rows.uptoBulk]
  | _ => simp [Rows.uptoBulk]
theorem bulk_part {H : Type} {d : DataW H} : ∀ {l : List (DataW H)}, d ∈ l → Rows.uptoBulk d ≤ Rows.uptoBulkAll l
  | x :: l, h => by
    unfold Rows.uptoBulkAll
    rcases List.mem_cons.1 h with rfl | h
    · omega
    · have := bulk_part h; omega
theorem bulk_count {H : Type} : ∀ l : List (DataW H), l.length ≤ Rows.uptoBulkAll l
  | [] => by simp
  | x :: l => by
    have h1 := bulk_pos x
    have h2 := bulk_count l
    unfold Rows.uptoBulkAll
    rw [List.length_cons]; omega
theorem bulk_sum {H : Type} : ∀ l : List (DataW H), (l.map Rows.uptoBulk).sum ≤ Rows.uptoBulkAll l
  | [] => by simp
  | x :: l => by
    have h2 := bulk_sum l
    unfold Rows.uptoBulkAll
    rw [List.map_cons, List.sum_cons]; omega
theorem bulk_small {H : Type} {l : List (DataW H)} (h : Rows.uptoSmall H l = true) {d : DataW H} (hd : d ∈ l) : Rows.uptoBulk d ≤ 1048576 :=
  Nat.le_trans (bulk_part hd) (of_decide_eq_true h)
instance : Inhabited Value := ⟨.bool false⟩
section
variable {H : Type} {enc : TypeId × Value → H} {P : Program} {W : World} {N : Nat}
theorem dec_int' {t : TypeId} {fuel : Nat} {cs : List Value} {x : DataW H × List MemPlace} (ht : P.underlying t = some (.int .i64)) (h : Reads enc P W fuel t cs x) : ∃ n : Int, cs = [vint n] ∧ (-9223372036854775808 ≤ n ∧ n ≤ 9223372036854775807) := by
  obtain ⟨n, h1, h2⟩ := dec_int ht h; exact ⟨n, h1, h2⟩
/-- The same, with each element's own bulk, and their sum. -/
theorem dec_sliceQV {Z : Type} [Inhabited Z] (toC : Z → List Value) (Q : Nat → Z → Prop) {t e : TypeId} {sz : Nat} {fuel : Nat} {cs : List Value} {x : DataW H × List MemPlace} (ht : P.underlying t = some (.slice e)) (hc : P.cellsOf e = sz) (hs : 0 < sz)
    (hdec : ∀ (n : Nat) (cs : List Value) (y : DataW H × List MemPlace), Reads enc P W n e cs y → ∃ z, cs = toC z ∧ Q (Rows.uptoBulk y.1) z) (h : Reads enc P W fuel t cs x) (hb : Rows.uptoBulk x.1 ≤ N + 1) :
    ∃ (z : Value × List Z) (ws : List Nat), cs = [z.1] ∧ (∀ h : Hp, Old W h → rdS sz h z.1 z.2.length (z.2.flatMap toC)) ∧ z.2.length ≤ N ∧ ws.length = z.2.length ∧ ws.sum ≤ N ∧ (∀ w ∈ ws, 1 ≤ w) ∧ ∀ i (h1 : i < z.2.length) (h2 : i < ws.length), Q ws[i] z.2[i] := by
  subst hc
  rcases Go.Deep.open_slice ht h with ⟨rfl, rfl⟩ | ⟨a, len, cap, m, n, Dd, Pl, rfl, -, hl, hm, hmm, rfl, hx⟩
  · exact ⟨(_, []), [], rfl, fun h _ => .inl ⟨rfl, rfl, none, 0, rfl⟩, by simp, rfl, by simp, (fun _ h => by cases h), (fun i h1 _ => by simp at h1)⟩
  · simp only [if_true] at hmm
    subst hmm
    have hbl : len ≤ N := by
      have := bulk_count ((List.range len).map Dd)
      simp only [Rows.uptoBulk] at hb
      rw [List.length_map, List.length_range] at this
      omega
    have hall : ((List.range len).map fun i => Rows.uptoBulk (Dd i)).sum ≤ N := by
      have := bulk_sum ((List.range len).map Dd)
      rw [List.map_map] at this
      simp only [Rows.uptoBulk] at hb
      have e : ((List.range len).map fun i => Rows.uptoBulk (Dd i)) = (List.range len).map (Rows.uptoBulk ∘ Dd) := rfl
      rw [e]; omega
    obtain ⟨Zf, hZ⟩ := Go.Deep.choose_lt (α := Z) (p := fun i z => W.cells? 0 (a.add (i * P.cellsOf e)) (P.cellsOf e) = some (toC z) ∧ Q (Rows.uptoBulk (Dd i)) z) (n := len) (fun i hi => by
      obtain ⟨cs', h1, h2⟩ := hx i (by omega)
      obtain ⟨z, rfl, h3⟩ := hdec _ _ _ h2
      exact ⟨z, h1, h3⟩)
    have hlenf : ∀ i, i < len → (toC (Zf i)).length = P.cellsOf e := fun i hi => (World.cells?_some (hZ i hi).1).2.1
    have hflat := flat_at (fun i => toC (Zf i)) len hlenf
    refine ⟨(_, (List.range len).map Zf), (List.range len).map fun i => Rows.uptoBulk (Dd i), rfl, ?_, ?_, by simp, hall, ?_, ?_⟩
    · intro h hold
      dsimp only
      rw [List.length_map, List.length_range]
      refine rdS_regroup (c1 := len * P.cellsOf e) ?_ hl hs
      have e1 : ((List.range len).map Zf).flatMap toC = (List.range (len * P.cellsOf e)).map (fun j => ((List.range len).flatMap fun i => toC (Zf i)).getD j (.bool false)) := by
        rw [List.flatMap_map]
        apply List.ext_getElem?
        intro j
        rcases Nat.lt_or_ge j (len * P.cellsOf e) with hj | hj
        · rw [List.getElem?_map, List.getElem?_range hj]
          have := (hflat j hj).2
          have hjl : j < ((List.range len).flatMap fun i => toC (Zf i)).length := by omega
          simp only [Option.map_some, List.getD_eq_getElem?_getD, List.getElem?_eq_getElem hjl, Option.getD_some]
        · have : ((List.range len).flatMap fun i => toC (Zf i)).length = len * P.cellsOf e := by
            rcases Nat.eq_zero_or_pos (len * P.cellsOf e) with h0 | h0
            · have : len = 0 := by
                rcases Nat.eq_zero_or_pos len with h1 | h1
                · exact h1
                · have := Nat.mul_pos h1 hs; omega
              subst this; simp
            · exact (hflat 0 h0).2
          rw [List.getElem?_eq_none (by omega), List.getElem?_eq_none (by simpa using hj)]
      rw [e1]
      refine old_rd (W := W) (fun j hj => ?_) (Nat.le_refl _) h hold
      have hi : j / P.cellsOf e < len := Nat.div_lt_of_lt_mul (by rw [Nat.mul_comm]; exact hj)
      have hcell := (World.cells?_some (hZ (j / P.cellsOf e) hi).1).2.2 (j % P.cellsOf e) (Nat.mod_lt _ hs)
      rw [Addr.add_add, Nat.mul_comm, Nat.div_add_mod] at hcell
      rw [hcell]
      obtain ⟨f1, f2⟩ := hflat j hj
      rw [List.getD_eq_getElem?_getD, f1]
      have : j % P.cellsOf e < (toC (Zf (j / P.cellsOf e))).length := by rw [hlenf _ hi]; exact Nat.mod_lt _ hs
      simp [this]
    · dsimp only; rw [List.length_map, List.length_range]; exact hbl
    · intro w hw
      obtain ⟨i, -, rfl⟩ := List.mem_map.1 hw
      exact bulk_pos _
    · intro i h1 h2
      simp only [List.getElem_map, List.getElem_range]
      exact (hZ i (by simpa using h1)).2
/-! ### With weights: what is read weighs no more than its bulk -/
theorem dec_strW {t : TypeId} {fuel : Nat} {cs : List Value} {x : DataW H × List MemPlace} (ht : P.underlying t = some .string) (h : Reads enc P W fuel t cs x) : ∃ s : List UInt8, cs = [vstr s] ∧ s.length + 1 ≤ Rows.uptoBulk x.1 := by
  obtain ⟨s, rfl, rfl, -⟩ := DataW.trod_string ht h
  exact ⟨s.data.toList, by rw [string_vstr], by simp [Rows.uptoBulk]⟩
theorem dec_intW {t : TypeId} {fuel : Nat} {cs : List Value} {x : DataW H × List MemPlace} (ht : P.underlying t = some (.int .i64)) (h : Reads enc P W fuel t cs x) : ∃ n : Int, cs = [vint n] ∧ (-9223372036854775808 ≤ n ∧ n ≤ 9223372036854775807) ∧ 1 ≤ Rows.uptoBulk x.1 := by
  obtain ⟨n, h1, h2⟩ := dec_int' ht h; exact ⟨n, h1, h2, bulk_pos _⟩
theorem slice_shape {t e : TypeId} {fuel : Nat} {v : Value} {x : DataW H × List MemPlace} (ht : P.underlying t = some (.slice e)) (h : Reads enc P W fuel t [v] x) : ∃ a n c, v = .slice a n c := by
  rcases Go.Deep.open_slice ht h with ⟨hv, -⟩ | ⟨a, len, cap, m, n, Dd, Pl, hv, -⟩
  · rw [List.cons.injEq] at hv; rw [hv.1]; exact ⟨_, _, _, rfl⟩
  · rw [List.cons.injEq] at hv; rw [hv.1]; exact ⟨_, _, _, rfl⟩
theorem sum_le {Z : Type} {m : Z → Nat} : ∀ {l : List Z} {ws : List Nat}, ws.length = l.length → (∀ i (h1 : i < l.length) (h2 : i < ws.length), m l[i] ≤ ws[i]) → (l.map m).sum ≤ ws.sum
  | [], _, _, _ => by simp
  | z :: l, [], h, _ => by simp at h
  | z :: l, w :: ws, h, hq => by
    have h0 := hq 0 (by simp) (by simp)
    have h1 := sum_le (l := l) (ws := ws) (m := m) (by simpa using h) (fun i h1 h2 => hq (i + 1) (by simpa using h1) (by simpa using h2))
    rw [List.map_cons, List.sum_cons, List.sum_cons]
    have h0' : m z ≤ w := h0
    omega
theorem dec_sliceW {Z : Type} [Inhabited Z] (toC : Z → List Value) (Q : Z → Prop) (m : Z → Nat) {t e : TypeId} {sz : Nat} {fuel : Nat} {cs : List Value} {x : DataW H × List MemPlace} (ht : P.underlying t = some (.slice e)) (hc : P.cellsOf e = sz) (hs : 0 < sz)
    (hdec : ∀ (n : Nat) (cs : List Value) (y : DataW H × List MemPlace), Reads enc P W n e cs y → ∃ z, cs = toC z ∧ Q z ∧ m z ≤ Rows.uptoBulk y.1) (h : Reads enc P W fuel t cs x) :
    ∃ z : Value × List Z, cs = [z.1] ∧ (∀ h : Hp, Old W h → rdS sz h z.1 z.2.length (z.2.flatMap toC)) ∧ (∀ y ∈ z.2, Q y) ∧ z.2.length + 1 ≤ Rows.uptoBulk x.1 ∧ 1 + (z.2.map m).sum ≤ Rows.uptoBulk x.1 := by
  have hp := bulk_pos x.1
  obtain ⟨z, ws, h1, h2, h3, h4, h5, -, h7⟩ := dec_sliceQV (N := Rows.uptoBulk x.1 - 1) toC (fun B z => Q z ∧ m z ≤ B) ht hc hs hdec h (by omega)
  refine ⟨z, h1, h2, fun y hy => ?_, by omega, ?_⟩
  · obtain ⟨i, hi, rfl⟩ := List.mem_iff_getElem.1 hy
    exact (h7 i hi (by omega)).1
  · have := sum_le (m := m) h4 (fun i g1 g2 => (h7 i g1 g2).2)
    omega
theorem rd_shape {sz n : Nat} {v : Value} {ys : List Value} (hr : ∀ h : Hp, Old W h → rdS sz h v n ys) : ∃ a c, v = .slice a n c := by
  have h := hr (fun b => if b < W.heap.size then W.heap[b]? else none) (fun b hb => if_pos hb)
  rcases h with ⟨rfl, -, a, c, rfl⟩ | ⟨b, off, cap, l, T, fr, rfl, -⟩
  · exact ⟨_, _, rfl⟩
  · exact ⟨_, _, rfl⟩
end
end Go.Proofs.YtidjhgbdokcphaaGreat

/- Own work, by program: arguments of law 09, decoded with their weights. -/
namespace Go.Proofs.YtidjhgbdokcphaaGreat
open Go Go.ChangeShapes Go.WideShapes Go.ChangeAt Go.RowKit
def mAc (a : Ac) : Nat := 3 + a.2.length
def mPt (y : Pt) : Nat := 9 + y.path.length + y.data.length + (y.acl.map mAc).sum
def mEn (e : En) : Nat := mPt e.x + (e.subs.map mPt).sum
structure PtQ (p : HP) (y : Pt) : Prop where
  kind : I64 y.kind
  own : I64 y.own
  num : I64 y.num
  err : I64 y.err
  acl : ∀ h : Hp, p h → rdS 2 h y.aclV y.acl.length (y.acl.flatMap acC)
  ash : ∃ a n c, y.aclV = .slice a n c
  ssh : ∃ a n c, y.subsV = .slice a n c
  each : ∀ a ∈ y.acl, I64 a.1
structure EnQ (p : HP) (e : En) : Prop where
  zx : I64 e.zx
  ses : I64 e.ses
  xid : I64 e.xid
  x : PtQ p e.x
  subs : ∀ h : Hp, p h → rdS 8 h e.x.subsV e.subs.length (e.subs.flatMap ptC)
  each : ∀ y ∈ e.subs, PtQ p y
theorem sum_mem {α : Type} {m : α → Nat} : ∀ {l : List α} {x : α}, x ∈ l → m x ≤ (l.map m).sum
  | y :: l, x, h => by
    rw [List.map_cons, List.sum_cons]
    rcases List.mem_cons.1 h with rfl | h
    · omega
    · have := sum_mem (m := m) h; omega
theorem sum_many {α : Type} {m : α → Nat} (hm : ∀ x, 1 ≤ m x) : ∀ l : List α, l.length ≤ (l.map m).sum
  | [] => by simp
  | y :: l => by have := sum_many hm l; have := hm y; rw [List.map_cons, List.sum_cons, List.length_cons]; omega
theorem fm_weigh {α : Type} {f : α → Bs} {m : α → Nat} : ∀ {l : List α}, (∀ x ∈ l, (f x).length ≤ 20 * m x) → (l.flatMap f).length ≤ 20 * (l.map m).sum
  | [], _ => by simp
  | y :: l, h => by
    have h1 := h y (List.mem_cons_self ..)
    have h2 := fm_weigh (l := l) (m := m) (f := f) (fun x hx => h x (List.mem_cons_of_mem _ hx))
    rw [List.flatMap_cons, List.length_append, List.map_cons, List.sum_cons]; omega
theorem cntB_len {n : Nat} (h : n < U64) : (cntB n).length ≤ 10 := sev_len10 h
theorem acB_weigh {a : Ac} (h : AcI a) : (acB a).length ≤ 20 * mAc a := by
  have h1 := numB_len h.n
  have h2 := cntB_len h.s
  unfold acB txtB mAc
  rw [List.length_append, List.length_append]; omega
theorem PtQ.i {p : HP} {y : Pt} (h : PtQ p y) (hm : mPt y ≤ 1048576) : PtI y := by
  unfold mPt at hm
  have hl := sum_many (m := mAc) (fun a => by unfold mAc; omega) y.acl
  have hu : (1048576 : Nat) < U64 := by decide
  refine ⟨h.kind, h.own, h.num, h.err, by omega, by omega, by omega, fun a ha => ⟨h.each a ha, ?_⟩⟩
  have h1 := sum_mem (m := mAc) ha
  have h2 : mAc a = 3 + a.2.length := rfl
  omega
theorem ptB_weigh {p : HP} {y : Pt} (h : PtQ p y) (hm : mPt y ≤ 1048576) : (ptB y).length ≤ 20 * mPt y := by
  have hi := h.i hm
  have h1 := numB_len h.kind
  have h2 := cntB_len hi.path
  have h3 := cntB_len hi.data
  have h4 := cntB_len hi.many
  have h5 := numB_len h.own
  have h6 := numB_len h.num
  have h7 := numB_len h.err
  have h8 := fm_weigh (f := acB) (m := mAc) (l := y.acl) (fun a ha => acB_weigh (hi.acl a ha))
  rw [ptB_len]
  unfold aclB mPt
  rw [List.length_append]
  simp only [List.flatMap_cons, List.flatMap_nil, List.length_append, List.length_nil]
  omega
theorem EnQ.X {p : HP} {e : En} (h : EnQ p e) (hm : mEn e ≤ 1048576) : EnX p e := by
  unfold mEn at hm
  have hx : mPt e.x ≤ 1048576 := by omega
  have hs : ∀ y ∈ e.subs, mPt y ≤ 1048576 := fun y hy => by have := sum_mem (m := mPt) hy; omega
  have hl := sum_many (m := mPt) (fun a => by unfold mPt; omega) e.subs
  have hu : (1048576 : Nat) < U64 := by decide
  have hal : ∀ y : Pt, mPt y ≤ 1048576 → y.acl.length ≤ 1048576 := fun y hy => by
    have := sum_many (m := mAc) (fun a => by unfold mAc; omega) y.acl
    unfold mPt at hy; omega
  have hc : ∀ y, PtQ p y → isCell y.aclV = true ∧ isCell y.subsV = true := fun y hy => by
    obtain ⟨a, n, c, g⟩ := hy.ash
    obtain ⟨a', n', c', g'⟩ := hy.ssh
    rw [g, g']; exact ⟨rfl, rfl⟩
  refine ⟨⟨⟨⟨h.zx, h.ses, h.xid, h.x.i hx, by omega, fun y hy => (h.each y hy).i (hs y hy)⟩, h.x.acl, h.subs, fun y hy => (h.each y hy).acl⟩, ?_, ⟨by omega, hal _ hx, fun y hy => hal y (hs y hy)⟩, hc _ h.x, fun y hy => hc y (h.each y hy)⟩, fun y hy => (h.each y hy).ssh⟩
  have h1 := numB_len h.zx
  have h2 := numB_len h.ses
  have h3 := numB_len h.xid
  have h4 := ptB_weigh h.x hx
  have h5 := fm_weigh (f := ptB) (m := mPt) (l := e.subs) (fun y hy => ptB_weigh (h.each y hy) (hs y hy))
  have h6 := cntB_len (n := e.subs.length) (by omega)
  rw [enB_len]
  unfold subsB
  rw [List.length_append]
  simp only [List.flatMap_cons, List.flatMap_nil, List.length_append, List.length_nil]
  omega
instance : Inhabited Pt := ⟨pt0⟩
instance : Inhabited En := ⟨en0⟩
set_option maxRecDepth 100000 in
theorem decAc {H : Type} {enc : TypeId × Value → H} {W : World} (n : Nat) (cs : List Value) (y : DataW H × List MemPlace) (h : Reads enc Tryz.prog W n 210 cs y) : ∃ a : Ac, cs = acC a ∧ I64 a.1 ∧ mAc a ≤ Rows.uptoBulk y.1 := by
  obtain ⟨xs, m, -, rfl, hlen, hxs, hf⟩ := DataW.trod_struct Tryz.underlying210 h
  rw [show Tryz.prog.cellsOf 210 = 2 by kernel_rfl] at hlen
  obtain ⟨a0, a1, rfl⟩ : ∃ a0 a1, cs = [a0, a1] := by
    match cs, hlen with
    | [a0, a1], _ => exact ⟨a0, a1, rfl⟩
  obtain ⟨y0, y1, rfl⟩ : ∃ y0 y1, xs = [y0, y1] := by
    match xs, hxs with
    | [y0, y1], _ => exact ⟨y0, y1, rfl⟩
  simp only [Rows.uptoBulk, Rows.uptoBulkAll, List.map_cons, List.map_nil]
  have g0 : Reads enc Tryz.prog W m 3 (([a0, a1] : List Value).drop 0 |>.take (Tryz.prog.cellsOf 3)) y0 := hf 0 _ rfl
  rw [show Tryz.prog.cellsOf 3 = 1 by kernel_rfl] at g0
  have p0 := bulk_pos y0.1
  obtain ⟨z0, e0, q0, r0⟩ := dec_intW Tryz.underlying3 g0
  try simp at e0
  have g1 : Reads enc Tryz.prog W m 9 (([a0, a1] : List Value).drop 1 |>.take (Tryz.prog.cellsOf 9)) y1 := hf 1 _ rfl
  rw [show Tryz.prog.cellsOf 9 = 1 by kernel_rfl] at g1
  have p1 := bulk_pos y1.1
  obtain ⟨z1, e1, r1⟩ := dec_strW Tryz.underlying9 g1
  try simp at e1
  subst e0
  subst e1
  exact ⟨(z0, z1), rfl, q0, by unfold mAc; dsimp only; omega⟩
set_option maxRecDepth 100000 in
theorem decPt {H : Type} {enc : TypeId × Value → H} {W : World} (n : Nat) (cs : List Value) (y : DataW H × List MemPlace) (h : Reads enc Tryz.prog W n 36 cs y) : ∃ y0 : Pt, cs = ptC y0 ∧ PtQ (Old W) y0 ∧ mPt y0 ≤ Rows.uptoBulk y.1 := by
  obtain ⟨xs, m, -, rfl, hlen, hxs, hf⟩ := DataW.trod_struct Tryz.underlying36 h
  rw [show Tryz.prog.cellsOf 36 = 8 by kernel_rfl] at hlen
  obtain ⟨a0, a1, a2, a3, a4, a5, a6, a7, rfl⟩ : ∃ a0 a1 a2 a3 a4 a5 a6 a7, cs = [a0, a1, a2, a3, a4, a5, a6, a7] := by
    match cs, hlen with
    | [a0, a1, a2, a3, a4, a5, a6, a7], _ => exact ⟨a0, a1, a2, a3, a4, a5, a6, a7, rfl⟩
  obtain ⟨y0, y1, y2, y3, y4, y5, y6, y7, rfl⟩ : ∃ y0 y1 y2 y3 y4 y5 y6 y7, xs = [y0, y1, y2, y3, y4, y5, y6, y7] := by
    match xs, hxs with
    | [y0, y1, y2, y3, y4, y5, y6, y7], _ => exact ⟨y0, y1, y2, y3, y4, y5, y6, y7, rfl⟩
  simp only [Rows.uptoBulk, Rows.uptoBulkAll, List.map_cons, List.map_nil]
  have g0 : Reads enc Tryz.prog W m 3 (([a0, a1, a2, a3, a4, a5, a6, a7] : List Value).drop 0 |>.take (Tryz.prog.cellsOf 3)) y0 := hf 0 _ rfl
  rw [show Tryz.prog.cellsOf 3 = 1 by kernel_rfl] at g0
  have p0 := bulk_pos y0.1
  obtain ⟨z0, e0, q0, r0⟩ := dec_intW Tryz.underlying3 g0
  try simp at e0
  have g1 : Reads enc Tryz.prog W m 9 (([a0, a1, a2, a3, a4, a5, a6, a7] : List Value).drop 1 |>.take (Tryz.prog.cellsOf 9)) y1 := hf 1 _ rfl
  rw [show Tryz.prog.cellsOf 9 = 1 by kernel_rfl] at g1
  have p1 := bulk_pos y1.1
  obtain ⟨z1, e1, r1⟩ := dec_strW Tryz.underlying9 g1
  try simp at e1
  have g2 : Reads enc Tryz.prog W m 9 (([a0, a1, a2, a3, a4, a5, a6, a7] : List Value).drop 2 |>.take (Tryz.prog.cellsOf 9)) y2 := hf 2 _ rfl
  rw [show Tryz.prog.cellsOf 9 = 1 by kernel_rfl] at g2
  have p2 := bulk_pos y2.1
  obtain ⟨z2, e2, r2⟩ := dec_strW Tryz.underlying9 g2
  try simp at e2
  have g3 : Reads enc Tryz.prog W m 33 (([a0, a1, a2, a3, a4, a5, a6, a7] : List Value).drop 3 |>.take (Tryz.prog.cellsOf 33)) y3 := hf 3 _ rfl
  rw [show Tryz.prog.cellsOf 33 = 1 by kernel_rfl] at g3
  have p3 := bulk_pos y3.1
  obtain ⟨⟨v3, l3⟩, e3, k3, q3, c3, r3⟩ := dec_sliceW acC (fun a => I64 a.1) mAc Tryz.underlying33 (show Tryz.prog.cellsOf 210 = 2 by kernel_rfl) (by decide) (fun n cs y h => decAc n cs y h) g3
  dsimp only at e3 k3 q3 c3 r3
  obtain ⟨sa3, sc3, hs3⟩ := rd_shape k3
  have sh3 : ∃ a n c, v3 = .slice a n c := ⟨_, _, _, hs3⟩
  try simp at e3
  have g4 : Reads enc Tryz.prog W m 3 (([a0, a1, a2, a3, a4, a5, a6, a7] : List Value).drop 4 |>.take (Tryz.prog.cellsOf 3)) y4 := hf 4 _ rfl
  rw [show Tryz.prog.cellsOf 3 = 1 by kernel_rfl] at g4
  have p4 := bulk_pos y4.1
  obtain ⟨z4, e4, q4, r4⟩ := dec_intW Tryz.underlying3 g4
  try simp at e4
  have g5 : Reads enc Tryz.prog W m 3 (([a0, a1, a2, a3, a4, a5, a6, a7] : List Value).drop 5 |>.take (Tryz.prog.cellsOf 3)) y5 := hf 5 _ rfl
  rw [show Tryz.prog.cellsOf 3 = 1 by kernel_rfl] at g5
  have p5 := bulk_pos y5.1
  obtain ⟨z5, e5, q5, r5⟩ := dec_intW Tryz.underlying3 g5
  try simp at e5
  have g6 : Reads enc Tryz.prog W m 25 (([a0, a1, a2, a3, a4, a5, a6, a7] : List Value).drop 6 |>.take (Tryz.prog.cellsOf 25)) y6 := hf 6 _ rfl
  rw [show Tryz.prog.cellsOf 25 = 1 by kernel_rfl] at g6
  have p6 := bulk_pos y6.1
  obtain ⟨z6, e6, q6, r6⟩ := dec_intW Tryz.underlying25 g6
  try simp at e6
  have g7 : Reads enc Tryz.prog W m 34 (([a0, a1, a2, a3, a4, a5, a6, a7] : List Value).drop 7 |>.take (Tryz.prog.cellsOf 34)) y7 := hf 7 _ rfl
  rw [show Tryz.prog.cellsOf 34 = 1 by kernel_rfl] at g7
  have p7 := bulk_pos y7.1
  obtain ⟨z7, e7, s7⟩ : ∃ z : Value, a7 = z ∧ ∃ a n c, z = .slice a n c := ⟨_, rfl, slice_shape Tryz.underlying34 g7⟩
  try simp at e7
  subst e0
  subst e1
  subst e2
  subst e3
  subst e4
  subst e5
  subst e6
  subst e7
  exact ⟨⟨z0, z1, z2, a3, l3, z4, z5, z6, a7⟩, rfl, ⟨q0, q4, q5, q6, k3, sh3, s7, q3⟩, by unfold mPt; dsimp only; omega⟩
set_option maxRecDepth 100000 in
theorem decPtD {H : Type} {enc : TypeId × Value → H} {W : World} (n : Nat) (cs : List Value) (y : DataW H × List MemPlace) (h : Reads enc Tryz.prog W n 36 cs y) : ∃ (y0 : Pt) (l : List Pt), cs = ptC y0 ∧ PtQ (Old W) y0 ∧ (∀ h : Hp, Old W h → rdS 8 h y0.subsV l.length (l.flatMap ptC)) ∧ (∀ q ∈ l, PtQ (Old W) q) ∧ mPt y0 + (l.map mPt).sum ≤ Rows.uptoBulk y.1 := by
  obtain ⟨xs, m, -, rfl, hlen, hxs, hf⟩ := DataW.trod_struct Tryz.underlying36 h
  rw [show Tryz.prog.cellsOf 36 = 8 by kernel_rfl] at hlen
  obtain ⟨a0, a1, a2, a3, a4, a5, a6, a7, rfl⟩ : ∃ a0 a1 a2 a3 a4 a5 a6 a7, cs = [a0, a1, a2, a3, a4, a5, a6, a7] := by
    match cs, hlen with
    | [a0, a1, a2, a3, a4, a5, a6, a7], _ => exact ⟨a0, a1, a2, a3, a4, a5, a6, a7, rfl⟩
  obtain ⟨y0, y1, y2, y3, y4, y5, y6, y7, rfl⟩ : ∃ y0 y1 y2 y3 y4 y5 y6 y7, xs = [y0, y1, y2, y3, y4, y5, y6, y7] := by
    match xs, hxs with
    | [y0, y1, y2, y3, y4, y5, y6, y7], _ => exact ⟨y0, y1, y2, y3, y4, y5, y6, y7, rfl⟩
  simp only [Rows.uptoBulk, Rows.uptoBulkAll, List.map_cons, List.map_nil]
  have g0 : Reads enc Tryz.prog W m 3 (([a0, a1, a2, a3, a4, a5, a6, a7] : List Value).drop 0 |>.take (Tryz.prog.cellsOf 3)) y0 := hf 0 _ rfl
  rw [show Tryz.prog.cellsOf 3 = 1 by kernel_rfl] at g0
  have p0 := bulk_pos y0.1
  obtain ⟨z0, e0, q0, r0⟩ := dec_intW Tryz.underlying3 g0
  try simp at e0
  have g1 : Reads enc Tryz.prog W m 9 (([a0, a1, a2, a3, a4, a5, a6, a7] : List Value).drop 1 |>.take (Tryz.prog.cellsOf 9)) y1 := hf 1 _ rfl
  rw [show Tryz.prog.cellsOf 9 = 1 by kernel_rfl] at g1
  have p1 := bulk_pos y1.1
  obtain ⟨z1, e1, r1⟩ := dec_strW Tryz.underlying9 g1
  try simp at e1
  have g2 : Reads enc Tryz.prog W m 9 (([a0, a1, a2, a3, a4, a5, a6, a7] : List Value).drop 2 |>.take (Tryz.prog.cellsOf 9)) y2 := hf 2 _ rfl
  rw [show Tryz.prog.cellsOf 9 = 1 by kernel_rfl] at g2
  have p2 := bulk_pos y2.1
  obtain ⟨z2, e2, r2⟩ := dec_strW Tryz.underlying9 g2
  try simp at e2
  have g3 : Reads enc Tryz.prog W m 33 (([a0, a1, a2, a3, a4, a5, a6, a7] : List Value).drop 3 |>.take (Tryz.prog.cellsOf 33)) y3 := hf 3 _ rfl
  rw [show Tryz.prog.cellsOf 33 = 1 by kernel_rfl] at g3
  have p3 := bulk_pos y3.1
  obtain ⟨⟨v3, l3⟩, e3, k3, q3, c3, r3⟩ := dec_sliceW acC (fun a => I64 a.1) mAc Tryz.underlying33 (show Tryz.prog.cellsOf 210 = 2 by kernel_rfl) (by decide) (fun n cs y h => decAc n cs y h) g3
  dsimp only at e3 k3 q3 c3 r3
  obtain ⟨sa3, sc3, hs3⟩ := rd_shape k3
  have sh3 : ∃ a n c, v3 = .slice a n c := ⟨_, _, _, hs3⟩
  try simp at e3
  have g4 : Reads enc Tryz.prog W m 3 (([a0, a1, a2, a3, a4, a5, a6, a7] : List Value).drop 4 |>.take (Tryz.prog.cellsOf 3)) y4 := hf 4 _ rfl
  rw [show Tryz.prog.cellsOf 3 = 1 by kernel_rfl] at g4
  have p4 := bulk_pos y4.1
  obtain ⟨z4, e4, q4, r4⟩ := dec_intW Tryz.underlying3 g4
  try simp at e4
  have g5 : Reads enc Tryz.prog W m 3 (([a0, a1, a2, a3, a4, a5, a6, a7] : List Value).drop 5 |>.take (Tryz.prog.cellsOf 3)) y5 := hf 5 _ rfl
  rw [show Tryz.prog.cellsOf 3 = 1 by kernel_rfl] at g5
  have p5 := bulk_pos y5.1
  obtain ⟨z5, e5, q5, r5⟩ := dec_intW Tryz.underlying3 g5
  try simp at e5
  have g6 : Reads enc Tryz.prog W m 25 (([a0, a1, a2, a3, a4, a5, a6, a7] : List Value).drop 6 |>.take (Tryz.prog.cellsOf 25)) y6 := hf 6 _ rfl
  rw [show Tryz.prog.cellsOf 25 = 1 by kernel_rfl] at g6
  have p6 := bulk_pos y6.1
  obtain ⟨z6, e6, q6, r6⟩ := dec_intW Tryz.underlying25 g6
  try simp at e6
  have g7 : Reads enc Tryz.prog W m 34 (([a0, a1, a2, a3, a4, a5, a6, a7] : List Value).drop 7 |>.take (Tryz.prog.cellsOf 34)) y7 := hf 7 _ rfl
  rw [show Tryz.prog.cellsOf 34 = 1 by kernel_rfl] at g7
  have p7 := bulk_pos y7.1
  obtain ⟨⟨v7, l7⟩, e7, k7, q7, c7, r7⟩ := dec_sliceW ptC (fun q => PtQ (Old W) q) mPt Tryz.underlying34 (show Tryz.prog.cellsOf 36 = 8 by kernel_rfl) (by decide) (fun n cs y h => decPt n cs y h) g7
  dsimp only at e7 k7 q7 c7 r7
  obtain ⟨sa7, sc7, hs7⟩ := rd_shape k7
  have sh7 : ∃ a n c, v7 = .slice a n c := ⟨_, _, _, hs7⟩
  try simp at e7
  subst e0
  subst e1
  subst e2
  subst e3
  subst e4
  subst e5
  subst e6
  subst e7
  exact ⟨⟨z0, z1, z2, a3, l3, z4, z5, z6, a7⟩, l7, rfl, ⟨q0, q4, q5, q6, k3, sh3, sh7, q3⟩, k7, q7, by unfold mPt; dsimp only; unfold mPt at r7; omega⟩
set_option maxRecDepth 100000 in
theorem decEn {H : Type} {enc : TypeId × Value → H} {W : World} (n : Nat) (cs : List Value) (y : DataW H × List MemPlace) (h : Reads enc Tryz.prog W n 38 cs y) : ∃ e : En, cs = enC e ∧ EnQ (Old W) e ∧ mEn e ≤ Rows.uptoBulk y.1 := by
  obtain ⟨xs, m, -, rfl, hlen, hxs, hf⟩ := DataW.trod_struct Tryz.underlying38 h
  rw [show Tryz.prog.cellsOf 38 = 11 by kernel_rfl] at hlen
  obtain ⟨a0, a1, a2, a3, a4, a5, a6, a7, a8, a9, a10, rfl⟩ : ∃ a0 a1 a2 a3 a4 a5 a6 a7 a8 a9 a10, cs = [a0, a1, a2, a3, a4, a5, a6, a7, a8, a9, a10] := by
    match cs, hlen with
    | [a0, a1, a2, a3, a4, a5, a6, a7, a8, a9, a10], _ => exact ⟨a0, a1, a2, a3, a4, a5, a6, a7, a8, a9, a10, rfl⟩
  obtain ⟨y0, y1, y2, y3, rfl⟩ : ∃ y0 y1 y2 y3, xs = [y0, y1, y2, y3] := by
    match xs, hxs with
    | [y0, y1, y2, y3], _ => exact ⟨y0, y1, y2, y3, rfl⟩
  simp only [Rows.uptoBulk, Rows.uptoBulkAll, List.map_cons, List.map_nil]
  have g0 : Reads enc Tryz.prog W m 3 (([a0, a1, a2, a3, a4, a5, a6, a7, a8, a9, a10] : List Value).drop 0 |>.take (Tryz.prog.cellsOf 3)) y0 := hf 0 _ rfl
  rw [show Tryz.prog.cellsOf 3 = 1 by kernel_rfl] at g0
  have p0 := bulk_pos y0.1
  obtain ⟨z0, e0, q0, r0⟩ := dec_intW Tryz.underlying3 g0
  try simp at e0
  have g1 : Reads enc Tryz.prog W m 3 (([a0, a1, a2, a3, a4, a5, a6, a7, a8, a9, a10] : List Value).drop 1 |>.take (Tryz.prog.cellsOf 3)) y1 := hf 1 _ rfl
  rw [show Tryz.prog.cellsOf 3 = 1 by kernel_rfl] at g1
  have p1 := bulk_pos y1.1
  obtain ⟨z1, e1, q1, r1⟩ := dec_intW Tryz.underlying3 g1
  try simp at e1
  have g2 : Reads enc Tryz.prog W m 3 (([a0, a1, a2, a3, a4, a5, a6, a7, a8, a9, a10] : List Value).drop 2 |>.take (Tryz.prog.cellsOf 3)) y2 := hf 2 _ rfl
  rw [show Tryz.prog.cellsOf 3 = 1 by kernel_rfl] at g2
  have p2 := bulk_pos y2.1
  obtain ⟨z2, e2, q2, r2⟩ := dec_intW Tryz.underlying3 g2
  try simp at e2
  have g3 : Reads enc Tryz.prog W m 36 (([a0, a1, a2, a3, a4, a5, a6, a7, a8, a9, a10] : List Value).drop 3 |>.take (Tryz.prog.cellsOf 36)) y3 := hf 3 _ rfl
  rw [show Tryz.prog.cellsOf 36 = 8 by kernel_rfl] at g3
  have p3 := bulk_pos y3.1
  obtain ⟨z3, l3, e3, q3, k3, s3, r3⟩ := decPtD _ _ _ g3
  try simp [ptC, enC] at e3
  subst e0
  subst e1
  subst e2
  obtain ⟨rfl, rfl, rfl, rfl, rfl, rfl, rfl, rfl⟩ := e3
  exact ⟨⟨z0, z1, z2, z3, l3⟩, rfl, ⟨q0, q1, q2, q3, k3, s3⟩, by unfold mEn; dsimp only; omega⟩
end Go.Proofs.YtidjhgbdokcphaaGreat

/- Own work, by program: scripts of law 09, decoded. -/
namespace Go.Proofs.YtidjhgbdokcphaaGreat
open Go Go.ChangeShapes Go.WideShapes Go.ChangeAt Go.RowKit
def Ints9 (p : HP) (v : Value) (l : List Int) : Prop := (∀ h : Hp, p h → rdS 1 h v l.length (ints l)) ∧ (∀ z ∈ l, I64 z) ∧ l.length ≤ 1048576
theorem fm_ints (l : List Int) : (l.flatMap fun z => [vint z]) = ints l := by
  induction l with
  | nil => rfl
  | cons z l ih => rw [List.flatMap_cons, ih]; rfl
theorem dec_ints9 {H : Type} {enc : TypeId × Value → H} {W : World} {fuel : Nat} {cs : List Value} {x : DataW H × List MemPlace} (h : Reads enc Tryz.prog W fuel 31 cs x) (hb : Rows.uptoBulk x.1 ≤ 1048576) : ∃ (v : Value) (l : List Int), cs = [v] ∧ Ints9 (Old W) v l := by
  obtain ⟨⟨v, l⟩, h1, h2, h3, h4, h5⟩ := dec_sliceW (fun z => [vint z]) (fun z => I64 z) (fun _ => 1) Tryz.underlying31 (show Tryz.prog.cellsOf 3 = 1 by kernel_rfl) (by decide) (fun n cs y h => dec_intW Tryz.underlying3 h) h
  dsimp only at h1 h2 h3 h4 h5
  exact ⟨v, l, h1, fun h hp => by rw [← fm_ints]; exact h2 h hp, h3, by omega⟩
instance : Inhabited Op9 := ⟨⟨0, 0, 0, en0, nilV, [], [], nilV, []⟩⟩
theorem EnQ.len {p : HP} {e : En} (h : EnQ p e) (hm : mEn e ≤ 1048576) : (enB e).length ≤ 1000000000 := by
  unfold mEn at hm
  have hx : mPt e.x ≤ 1048576 := by omega
  have hs : ∀ y ∈ e.subs, mPt y ≤ 1048576 := fun y hy => by have := sum_mem (m := mPt) hy; omega
  have hl := sum_many (m := mPt) (fun a => by unfold mPt; omega) e.subs
  have hu : (1048576 : Nat) < U64 := by decide
  have h1 := numB_len h.zx
  have h2 := numB_len h.ses
  have h3 := numB_len h.xid
  have h4 := ptB_weigh h.x hx
  have h5 := fm_weigh (f := ptB) (m := mPt) (l := e.subs) (fun y hy => ptB_weigh (h.each y hy) (hs y hy))
  have h6 := cntB_len (n := e.subs.length) (by omega)
  rw [enB_len]
  unfold subsB
  rw [List.length_append]
  simp only [List.flatMap_cons, List.flatMap_nil, List.length_append, List.length_nil]
  omega
theorem dec_ents9s {H : Type} {enc : TypeId × Value → H} {W : World} {fuel : Nat} {cs : List Value} {x : DataW H × List MemPlace} (h : Reads enc Tryz.prog W fuel 22 cs x) (hb : Rows.uptoBulk x.1 ≤ 1048576) : ∃ (v : Value) (es : List En), cs = [v] ∧ Ents9S (Old W) v es := by
  obtain ⟨⟨v, es⟩, h1, h2, h3, h4, h5⟩ := dec_sliceW enC (fun e => EnQ (Old W) e) mEn Tryz.underlying22 (show Tryz.prog.cellsOf 38 = 11 by kernel_rfl) (by decide) (fun n cs y h => decEn n cs y h) h
  dsimp only at h1 h2 h3 h4 h5
  have hm : ∀ e ∈ es, mEn e ≤ 1048576 := fun e he => by have := sum_mem (m := mEn) he; omega
  exact ⟨v, es, h1, ⟨h2, by omega, fun e he => (h3 e he).X (hm e he)⟩, fun e he => (h3 e he).len (hm e he)⟩
end Go.Proofs.YtidjhgbdokcphaaGreat

/- Own work: ledgerCuts: the walk, brought to the given second form and its card. -/

namespace Go.Proofs.YtidjhgbdokcphaaGreat.ledgerCuts
open Go Go.ChangeShapes Go.WideShapes Go.ChangeAt Go.RowKit
theorem own : ownKnob Tryz.prog.godebug = none := by kernel_rfl
theorem laid : laidOutB Tryz.prog = true := by kernel_rfl
theorem readable : ∀ t ∈ Tryz.f5.params.toList, Tryz.prog.readableRec t = true ∧ t < Tryz.prog.types.size := by
  have h : (Tryz.f5.params.toList.all fun t => Tryz.prog.readableRec t && decide (t < Tryz.prog.types.size)) = true := by kernel_rfl
  intro t ht
  simpa using List.all_eq_true.1 h t ht
set_option maxRecDepth 100000 in
theorem contract (H : Type) (enc : TypeId × Value → H) (W : World) (base : Nat) (args : Array Value) (ds gs : List (DataW H)) (before : List MemPlace)
    (hval : ∀ (j : Nat) t v, Tryz.f5.params[j]? = some t → args[j]? = some v → Value.okWide Tryz.prog W .any base t v)
    (hW : DataW.Whole enc Tryz.prog Tryz.f5.params.toList Rows.ledgerCutsSpec.vars false W args.toList ds gs before) (hk : Rows.uptoSmall H (ds ++ gs) = true) :
    Calls Tryz.prog 5 args W fun e W' => ∃ v, e = .returned v ∧ Rows.ledgerCutsSpec.post enc Tryz.prog Tryz.f5 false true false false W args v W' := by
  have hW' := hW
  obtain ⟨p, q, hA, hV, rfl, hfz, hnd⟩ := hW
  obtain ⟨rfl, -⟩ := trodVars_none hV
  rw [List.append_nil] at hk
  have hpar : Tryz.f5.params = #[3, 3, 22, 31] := Tryz.params5
  rw [hpar] at hval
  have hA' := hA
  rw [hpar] at hA'
  obtain ⟨v0, vs0, d0, ds0, p0, r0, ha0, rfl, rfl, h0, t0⟩ := trodAll_cons hA'
  obtain ⟨v1, vs1, d1, ds1, p1, r1, ha1, rfl, rfl, h1, t1⟩ := trodAll_cons t0
  obtain ⟨v2, vs2, d2, ds2, p2, r2, ha2, rfl, rfl, h2, t2⟩ := trodAll_cons t1
  obtain ⟨v3, vs3, d3, ds3, p3, r3, ha3, rfl, rfl, h3, t3⟩ := trodAll_cons t2
  obtain ⟨hv, rfl, rfl⟩ := trodAll_nil t3
  obtain rfl : args = #[v0, v1, v2, v3] := by
    have e : args.toList = [v0, v1, v2, v3] := by rw [ha0, ha1, ha2, ha3, hv]
    cases args; simp_all
  have b0 := bulk_small hk (d := d0) (by simp)
  obtain ⟨n0, rfl, -, q0⟩ := arg_int Tryz.underlying3 (hval 0 _ _ rfl rfl) h0
  have b1 := bulk_small hk (d := d1) (by simp)
  obtain ⟨n1, rfl, -, q1⟩ := arg_int Tryz.underlying3 (hval 1 _ _ rfl rfl) h1
  have b2 := bulk_small hk (d := d2) (by simp)
  obtain ⟨ad2, nn2, cp2, rfl⟩ := okWide_slice Tryz.underlying22 (hval 2 _ _ rfl rfl)
  obtain ⟨fu2, g2⟩ := h2
  obtain ⟨v2, xs2, e2, q2⟩ := dec_ents9s g2 b2
  simp [Value.cells] at e2
  subst e2
  have b3 := bulk_small hk (d := d3) (by simp)
  obtain ⟨ad3, nn3, cp3, rfl⟩ := okWide_slice Tryz.underlying31 (hval 3 _ _ rfl rfl)
  obtain ⟨fu3, g3⟩ := h3
  obtain ⟨v3, xs3, e3, q3⟩ := dec_ints9 g3 b3
  simp [Value.cells] at e3
  subst e3
  refine (old_calls (ledgerCuts_spec n0 n1 _ _ xs2 xs3 (Old W) q0 q1 q2 q3.1 q3.2.1)).mono fun e W' ⟨he, hb⟩ => ⟨_, he, ?_⟩
  exact settled hW' rfl (fun gs' h => by subst h; rfl) rfl Tryz.underlying4 laid readable hb
set_option maxRecDepth 100000 in
theorem lifted (os : Os) (started : os.Started) (H : Type) (enc : TypeId × Value → H) (F : Stop.Interp) :
    ReturnsInHanded {} Tryz.checked os 5 .any ((Rows.OpenSpec.upto Rows.ledgerCutsSpec).pre6 enc Tryz.prog Tryz.f5 Rows.ledgerCutsUptoRow.domain false) (((Rows.OpenSpec.upto Rows.ledgerCutsSpec).at F).post enc Tryz.prog Tryz.f5 false true false false) := by
  refine returnsInHanded_of_cond (C := Tryz.checked) (s := Rows.OpenSpec.upto Rows.ledgerCutsSpec) (k := Rows.uptoSmall) rfl own started (by kernel_rfl) Tryz.func5
    (OpenSpec.witness (enc := enc) (C := Tryz.checked) (s := Rows.OpenSpec.upto Rows.ledgerCutsSpec) (k := Rows.uptoSmall) rfl false ⟨#[], #[.int .i64 0, .int .i64 0, .slice none 0 0, .slice none 0 0], []⟩ 8 (by kernel_rfl) (by kernel_rfl) (by kernel_rfl)
      (x := ([.lit (.int .i64 0), .lit (.int .i64 0), .nil, .nil], [], [])) (by kernel_rfl) rfl (by kernel_rfl)) ?_
  intro W base args ds gs before hval hW _ hk _
  exact contract H enc W base args ds gs before hval hW hk
theorem proved : Rows.LedgerCutsUptoSaid :=
  OpenClaim.holds_of_cond 5 Tryz.f5 rfl rfl rfl rfl rfl rfl rfl ⟨rfl, rfl, rfl, rfl, rfl⟩ rfl rfl rfl rfl rfl (by kernel_rfl) Tryz.func5 (by kernel_rfl)
    (of_decide_eq_true (by kernel_rfl)) (by unfold Func.isWrapper; first | (rw [if_pos (by decide +kernel)]; kernel_rfl) | (rw [if_neg (by decide +kernel)]; exact ⟨rfl, rfl⟩))
    (fun os started H enc _ F => lifted os started H enc F)
end Go.Proofs.YtidjhgbdokcphaaGreat.ledgerCuts

