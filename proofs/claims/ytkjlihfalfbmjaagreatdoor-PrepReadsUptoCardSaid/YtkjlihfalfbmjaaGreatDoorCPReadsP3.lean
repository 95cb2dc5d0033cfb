/- Own work, some of it printed by program, texts that were built one by one: a part of the proof of prepReads.proved. -/
import Derived.Test.YtkjlihfalfbmjaaGreatDoorCPReadsP2
import Derived.Test.YtkjlihfalfbmjaaGreatDoorCPReadsP1
set_option maxRecDepth 100000
namespace Go.Proofs.YtkjlihfalfbmjaaGreatDoor
open Go
def sesE (s : List (Int × (Int × Bs))) (e : En) : List (Int × (Int × Bs)) :=
 if e.x.kind = 5 then (if 0 < e.x.own then sset s e.x.own (e.x.num, e.x.data) else s)
 else if e.x.kind = 6 then s.filter fun y => !decide (y.1 = e.x.own) else s
theorem app_sess (τ : Tr) (e : En) : (appE τ e).sess = sesE τ.sess e := by
 unfold appE applyZ sesE
 dsimp only
 split
 ·split <;> rfl
 split
 ·show (dropS _ _).sess = _
  unfold dropS; dsimp only
  rw [parts_sess]; rfl
 split
 ·rw [parts_sess]; rfl
 split
 ·rfl
 ·rw [part_sess]; rfl
def wtL (l : List En) : Nat := (l.map fun e => 1 + e.subs.length).sum
theorem wt_take {l : List En} (i : Nat) : wtL (l.take i) ≤ wtL l := by
 unfold wtL
 induction l generalizing i with
 | nil => simp
 | cons e l ih =>
  cases i with
  | zero => simp
  | succ i =>
   rw [List.take_succ_cons, List.map_cons, List.sum_cons, List.map_cons, List.sum_cons]
   have := ih i
   omega
def SesB (τ : Tr) : Prop := ∀ y ∈ τ.sess, y.1 ≤ 9223372036854775807
structure EntsA (p : HP) (v : Value) (es : List En) : Prop where
 cells : ∀ h : Hp, p h → rdS 11 h v es.length (es.flatMap enC)
 len : es.length ≤ 1048576
 tx : ∀ e ∈ es, TxA p e.x e.subs
 own : ∀ e ∈ es, e.x.own ≤ 9223372036854775807
 total : wtL es ≤ 2097152
theorem apply_ok {τ : Tr} {N : Nat} (h : τ.Ok N) {p : HP} {e : En} (ht : TxA p e.x e.subs) : (appE τ e).Ok (N + (1 + e.subs.length)) :=
 (h.apply e.zx e.x e.subs ht.own.few (fun y hy => (ht.each y hy).few)).more (by omega)
theorem ents_ok {p : HP} : ∀ {l : List En} {τ : Tr} {N : Nat}, τ.Ok N → (∀ e ∈ l, TxA p e.x e.subs) → (appL τ l).Ok (N + wtL l)
 | [], _, _, h, _ => h
 | e :: l, τ, N, h, hl => (ents_ok (apply_ok h (hl e List.mem_cons_self)) (fun x hx => hl x (List.mem_cons_of_mem _ hx))).more (by unfold wtL; rw [List.map_cons, List.sum_cons]; omega)
theorem EntsA.ok {p : HP} {v : Value} {es : List En} (h : EntsA p v es) {τ : Tr} {N : Nat} (ho : τ.Ok N) (i : Nat) : (appL τ (es.take i)).Ok (N + 2097152) :=
 (ents_ok ho fun e he => h.tx e (List.mem_of_mem_take he)).more (by have := wt_take (l := es) i; have := h.total; omega)
theorem app_sesB {τ : Tr} (h : SesB τ) {e : En} (ho : e.x.own ≤ 9223372036854775807) : SesB (appE τ e) := by
 intro y hy
 rw [app_sess] at hy
 unfold sesE at hy
 split at hy
 ·split at hy
  ·rcases sset_mem hy with rfl | hy
   ·exact ho
   ·exact h y hy
  ·exact h y hy
 ·split at hy
  ·exact h y (List.mem_filter.1 hy).1
  ·exact h y hy
theorem ents_sesB : ∀ {l : List En} {τ : Tr}, SesB τ → (∀ e ∈ l, e.x.own ≤ 9223372036854775807) → SesB (appL τ l)
 | [], _, h, _ => h
 | e :: l, τ, h, hl => ents_sesB (l := l) (τ := appE τ e) (app_sesB h (hl e List.mem_cons_self)) (fun x hx => hl x (List.mem_cons_of_mem _ hx))
theorem TabP.up {a p : HP} (hT : TabP p) : TabP (sep [a, p]) := by
 intro h w hp hle
 obtain ⟨h1, h2, _, a1, a2, _, h3⟩ := hp
 obtain ⟨h4, a4, hp4⟩ := sep_head (p := p) (L := []) h3
 exact hT h4 w hp4 (fun b o e => hle b o (a2 b o (a4 b o e)))
def acl31 : List Ac := [(31, [119, 111, 114, 108, 100])]
def open12 : Pt := ⟨5, [], [], nilV, [], 7, 10, 0, nilV⟩
def aw12 : Tr := (applyZ newT 1 open12 []).1
def u12 : Who := ⟨7, []⟩
def rqA12 (v : Value) : Rq := ⟨1, 0, [47, 97], [120], v, acl31, 0, 0, false, nilV, nilV⟩
def rqB12 (v : Value) : Rq := ⟨1, 0, [47, 113, 45], [], v, acl31, 3, 0, false, nilV, nilV⟩
def rqC12 : Rq := ⟨7, 0, [], [], nilV, [], 0, 0, false, nilV, nilV⟩
def rqD12 (v : Value) : Rq := ⟨6, 0, [], [], nilV, [], 0, 0, false, v, nilV⟩
def rqD1 (v : Value) : Rq := ⟨1, 0, [47, 97], [], v, acl31, 0, 0, false, nilV, nilV⟩
def rqD2 : Rq := ⟨5, 0, [47, 97], [], nilV, [], 0, 0, false, nilV, nilV⟩
def rqD3 : Rq := ⟨2, 0, [47, 98], [], nilV, [], 0, -1, false, nilV, nilV⟩
theorem aw12_A0 : firstZ (createE aw12 u12 (rqA12 nilV)) = 0 := by decide
theorem itoa_0 : Lib.itoa 0 = [48] := by
 unfold Lib.itoa
 rw [if_neg (by decide)]
 show Lib.decDigits 0 = [48]
 rw [Lib.decDigits]; rfl
theorem aw12_Bn : fullZ aw12 (rqB12 nilV) = [47, 113, 45, 48, 48, 48, 48, 48, 48, 48, 48, 48, 48] := by
 unfold fullZ
 rw [if_pos (by decide), show (upS aw12 (rqB12 nilV)).cver = 0 by decide]
 unfold numbered
 rw [show max (0 : Int) 0 = 0 by decide, itoa_0]; rfl
theorem aw12_B0 : firstZ (createE aw12 u12 (rqB12 nilV)) = 0 := by
 unfold createE
 rw [aw12_Bn]; decide
theorem aw12_ses : sesT aw12 7 := by decide
theorem aw12_up : (upS aw12 (rqA12 nilV)).cver = 0 := by decide
theorem part12_A (v : Value) : partP aw12 u12 (rqA12 v) = (⟨1, [47, 97], [120], nilV, acl31, 0, 1, 0, nilV⟩, 0) := by
 rw [part_one rfl]
 have e : firstZ (createE aw12 u12 (rqA12 v)) = 0 := aw12_A0
 rw [e]
 have e2 : createX aw12 u12 (rqA12 v) = createX aw12 u12 (rqA12 nilV) := rfl
 rw [e2]
 show ((⟨1, fullZ aw12 (rqA12 nilV), [120], nilV, acl31, if andI 0 1 ≠ 0 then 7 else 0, wrapI ((upS aw12 (rqA12 nilV)).cver + 1), 0, nilV⟩ : Pt), (0 : Int)) = _
 rw [aw12_up, show fullZ aw12 (rqA12 nilV) = [47, 97] by decide, show wrapI (0 + 1) = 1 by decide, if_neg (by decide)]
theorem part12_B (v : Value) : partP aw12 u12 (rqB12 v) = (⟨1, [47, 113, 45, 48, 48, 48, 48, 48, 48, 48, 48, 48, 48], [], nilV, acl31, 7, 1, 0, nilV⟩, 0) := by
 rw [part_one rfl]
 have e : firstZ (createE aw12 u12 (rqB12 v)) = 0 := aw12_B0
 rw [e]
 show ((⟨1, fullZ aw12 (rqB12 nilV), [], nilV, acl31, if andI 3 1 ≠ 0 then 7 else 0, wrapI ((upS aw12 (rqB12 nilV)).cver + 1), 0, nilV⟩ : Pt), (0 : Int)) = _
 rw [aw12_Bn, show (upS aw12 (rqB12 nilV)).cver = 0 by decide, show wrapI (0 + 1) = 1 by decide, if_pos (by decide)]
theorem txn12_A (v : Value) : txnP aw12 u12 (rqA12 v) [] = (⟨1, [47, 97], [120], nilV, acl31, 0, 1, 0, nilV⟩, []) := by
 unfold txnP
 rw [if_neg (by show ¬ ¬ changesK 1 = true; decide), if_neg (fun g => g aw12_ses), if_neg (by show ¬ (1 : Int) = 6; decide), if_neg (by show ¬ (1 : Int) = 7; decide), if_neg (by show ¬ (1 : Int) = 8; decide), part12_A, if_neg (by decide)]
theorem txn12_B (v : Value) : txnP aw12 u12 (rqB12 v) [] = (⟨1, [47, 113, 45, 48, 48, 48, 48, 48, 48, 48, 48, 48, 48], [], nilV, acl31, 7, 1, 0, nilV⟩, []) := by
 unfold txnP
 rw [if_neg (by show ¬ ¬ changesK 1 = true; decide), if_neg (fun g => g aw12_ses), if_neg (by show ¬ (1 : Int) = 6; decide), if_neg (by show ¬ (1 : Int) = 7; decide), if_neg (by show ¬ (1 : Int) = 8; decide), part12_B, if_neg (by decide)]
theorem multi12_0 : (multiL u12 [rqD1 nilV, rqD2, rqD3] aw12).2.2 = some (2, 60) := by decide
theorem txn12_D (v w : Value) : txnP aw12 u12 (rqD12 w) [rqD1 v, rqD2, rqD3] = (refusal 60 2, []) := by
 unfold txnP
 rw [if_neg (by show ¬ ¬ changesK 6 = true; decide), if_neg (fun g => g aw12_ses), if_pos (by rfl)]
 unfold multiP
 have e : (multiL u12 [rqD1 v, rqD2, rqD3] aw12).2.2 = some (2, 60) := by
  have h : partP aw12 u12 (rqD1 v) = partP aw12 u12 (rqD1 nilV) := by rw [part_one (r := rqD1 v) rfl, part_one (r := rqD1 nilV) rfl]; rfl
  rw [multi_cons, h, ← multi_cons]; exact multi12_0
 rw [if_neg (by simp), e]
 rfl
theorem aw12_ok : aw12.Ok 2 := newT_ok.apply 1 open12 [] (by decide) (by simp)
theorem aw12_w : TrW aw12 := TrW.new.app (e := ⟨1, 0, 0, open12, []⟩) ⟨⟨by decide, by decide⟩, ⟨⟨by decide, by decide⟩, ⟨by decide, by decide⟩, by decide, ⟨by decide, by simp [open12, aclB, cntB, sevZ], fun a ha => by cases ha⟩⟩, fun _ h => by cases h⟩
theorem aw12_C : txnP aw12 ⟨8, []⟩ rqC12 [] = (refusal 67 (-1), []) := by
 rfl
theorem WiA.mk0 {p : HP} {s : Int} {r : Rq} (hs : I64 s) (hT : TabP p) (hk : I64 r.kind ∧ I64 r.xid ∧ I64 r.flags ∧ I64 r.ver) (hl : r.path.length ≤ 64 ∧ r.data.length ≤ 64) (ha : ∀ h : Hp, p h → rdS 2 h r.aclV r.acl.length (r.acl.flatMap acC))
  (hm : r.acl.length ≤ 8 ∧ ∀ a ∈ r.acl, I64 a.1 ∧ a.2.length ≤ 64) (h1 : ∃ a n c, r.aclV = .slice a n c) (h2 : ∃ a n c, r.subsV = .slice a n c) (h3 : ∃ a n c, r.armV = .slice a n c) : WiA p ⟨s, []⟩ nilV r :=
 ⟨⟨hk.1, hk.2.1, hk.2.2.1, hk.2.2.2, by omega, by omega, ha, by omega, fun a h => ⟨(hm.2 a h).1, by have := (hm.2 a h).2; omega⟩, h2, h3⟩, hs, fun _ _ => .inl ⟨rfl, rfl, none, 0, rfl⟩, by show 0 ≤ _; decide, ⟨none, 0, 0, rfl⟩, h1, hT⟩
theorem tx12 (p : HP) : TxA p open12 [] := ⟨⟨fun _ _ => .inl ⟨rfl, rfl, none, 0, rfl⟩, by decide, by decide, rfl, rfl⟩, fun _ _ => .inl ⟨rfl, rfl, none, 0, rfl⟩, by decide, fun _ h => by cases h⟩
theorem rd_head {a p : HP} {sz n : Nat} {v : Value} {xs : List Value} (ha : ∀ h : Hp, a h → rdS sz h v n xs) : ∀ h : Hp, sep [a, p] h → rdS sz h v n xs := by
 intro h hp
 obtain ⟨h1, a1, hp1⟩ := sep_head hp
 exact rdS_mono (ha h1 hp1) a1
theorem rd_tail {a p : HP} {sz n : Nat} {v : Value} {xs : List Value} (ha : ∀ h : Hp, p h → rdS sz h v n xs) : ∀ h : Hp, sep [a, p] h → rdS sz h v n xs := by
 intro h hp
 obtain ⟨h1, h2, _, a1, a2, _, h3⟩ := hp
 obtain ⟨h4, a4, hp4⟩ := sep_head (p := p) (L := []) h3
 exact rdS_mono (ha h4 hp4) (fun b o e => a2 b o (a4 b o e))
theorem within12 {y : Pt} {ys : List Pt} (hy : y.pl = (refusal 60 2)) (z s x : Int) : withinR aw12 ⟨z, s, x, y, ys⟩ = [errR 111, errR 111, errR 60] := by
 have hk : y.kind = 8 := congrArg Pt.kind hy
 have hn : y.num = 2 := congrArg Pt.num hy
 have he : y.err = 60 := congrArg Pt.err hy
 unfold withinR
 rw [if_neg (by show ¬ y.kind = 7; omega), if_pos ⟨hk, by show 0 ≤ y.num; omega, by show y.num < 8; omega⟩]
 show List.replicate y.num.toNat (errR 111) ++ [errR y.err] = _
 rw [hn, he]; rfl
theorem acl31_w : AclW acl31 := ⟨by decide, by simp [acl31, aclB, acB, cntB, txtB, numB, zigZ, sevZ], fun a ha => by
 obtain rfl := List.mem_singleton.1 ha
 exact ⟨⟨⟨by decide, by decide⟩, by decide⟩, by decide⟩⟩
theorem acl_nil_w : AclW [] := ⟨by decide, by simp [aclB, cntB, sevZ], fun a ha => by cases ha⟩
theorem rd_acl {a p : HP} {v : Value} (ha : ∀ h : Hp, a h → rdS 2 h v 1 (acl31.flatMap acC)) : ∀ h : Hp, sep [a, p] h → rdS 2 h v acl31.length (acl31.flatMap acC) := by
 intro h hp
 obtain ⟨h1, a1, hp1⟩ := sep_head hp
 exact rdS_mono (ha h1 hp1) a1
theorem wi_31 {p : HP} {s k f : Int} {v : Value} {q d : Bs} (hs : I64 s) (hT : TabP p) (ha : ∀ h : Hp, p h → rdS 2 h v acl31.length (acl31.flatMap acC)) (hv : ∃ a n c, v = .slice a n c) (hk : I64 k ∧ I64 f) (hl : q.length ≤ 64 ∧ d.length ≤ 64) : WiA p ⟨s, []⟩ nilV ⟨k, 0, q, d, v, acl31, f, 0, false, nilV, nilV⟩ :=
 WiA.mk0 hs hT ⟨hk.1, I64.zero, hk.2, I64.zero⟩ hl ha ⟨by show 1 ≤ 8; decide, fun a h => by obtain rfl := List.mem_singleton.1 h; exact ⟨⟨by decide, by decide⟩, by decide⟩⟩ hv ⟨none, 0, 0, rfl⟩ ⟨none, 0, 0, rfl⟩
theorem wi_nil {p : HP} {s k f ver : Int} {w : Value} {q d : Bs} (hs : I64 s) (hT : TabP p) (hw : ∃ a n c, w = .slice a n c) (hk : I64 k ∧ I64 f ∧ I64 ver) (hl : q.length ≤ 64 ∧ d.length ≤ 64) : WiA p ⟨s, []⟩ nilV ⟨k, 0, q, d, nilV, [], f, ver, false, w, nilV⟩ :=
 WiA.mk0 hs hT ⟨hk.1, I64.zero, hk.2.1, hk.2.2⟩ hl (fun _ _ => .inl ⟨rfl, rfl, none, 0, rfl⟩) ⟨by show 0 ≤ 8; decide, fun a h => by cases h⟩ ⟨none, 0, 0, rfl⟩ hw ⟨none, 0, 0, rfl⟩
theorem fill_e5 (s0 s1 s2 s3 s4 s5 s6 s7 : Value) : Instr.fill (fun i => [(0, 1), (1, 1), (2, 1), (3, 8)].toArray[i]?) ([.int .i64 0, .int .i64 0, .int .i64 0, .int .i64 0, .string (bs []), .string (bs []), .slice none 0 0, .int .i64 0, .int .i64 0, .int .i64 0, .slice none 0 0] : List Value).toArray [(0, vint 5), (2, vint 6), (3, .agg ([s0, s1, s2, s3, s4, s5, s6, s7] : List Value).toArray)] = some (([vint 5, vint 0, vint 6] ++ [s0, s1, s2, s3, s4, s5, s6, s7] : List Value).toArray) := by kernel_rfl
theorem awake12_spec (T0 : HP) (hT : TabP T0) : Fn Tryz.prog 10 #[] [T0] fun v L => v = .bool true ∧ L = [T0] := by
 refine Fn.intro Tryz.func10 rfl rfl fun F W => ?_
 refine .sr (.an rfl (.sr (.oq (.c Tryz.func26 [] (trnew_spec)) ?_)))
 rintro v L' ⟨t, rfl, rfl⟩
 refine .an rfl (.seq (.sm rfl (.q (.ptreq rfl rfl Tryz.underlying30) rfl (.nt (.condF rfl (.sk (.sm rfl (.q (.to (v' := .agg (ptC open12).toArray) (.build (us := [(0, _), (4, _), (5, _)]) fl_43 ze_43 rfl rfl (by simp [isCell])) rfl) rfl (.q (.buildN (pl := [(0, 1), (1, 1), (2, 1), (3, 8)]) (us := [(0, vint 1), (3, .agg (ptC open12).toArray)]) (cells := [vint 1, vint 0, vint 0] ++ ptC open12) Tryz.underlying54 (by kernel_rfl) ze_54 rfl (fill_entry _ _ _ _ _ _ _ _ _)) rfl (.oq (.c Tryz.func33 [_, _] (trapply_spec t newT 1 0 0 open12 [] T0 (tx12 T0) 1 newT_ok (by decide))) ?_))))))))))
 rintro v L' ⟨ue, ee, rfl, -, ⟨ae, ce, rfl⟩, rfl⟩; rw [show (applyZ newT 1 open12 []).1 = aw12 from rfl]
 refine .nt (.sr (.q (.build (us := [(0, _), (1, _)]) fl_85 ze_85 rfl rfl (by simp [isCell])) rfl (.oq (.buildSlice (vs := [_]) el_24 ze_85 rfl rfl rfl rfl (by first | (simp [Value.cells]; done) | (intro v hv; simp only [List.mem_cons, List.not_mem_nil, or_false] at hv; (repeat (first | (subst hv; rfl) | (rcases hv with hv | hv; (subst hv; rfl)))))) (by decide)) ?_)))
 rintro v L' ⟨ba, rfl, rfl⟩
 refine .a rfl (.nil (.slMakeN 2 1 (b := ba) (xs := acl31.flatMap acC) (by repeat' constructor) rfl rfl (.fold (p := (sep [slR 85 2 (.slice (some ⟨ba, 0, none⟩) 1 1) 1 (acl31.flatMap acC), T0])) (q := [slR 85 2 (.slice (some ⟨ba, 0, none⟩) 1 1) 1 (acl31.flatMap acC), T0]) (by repeat' constructor) (fun _ h => h) ?_)))
 have hT1 : TabP (sep [slR 85 2 (.slice (some ⟨ba, 0, none⟩) 1 1) 1 (acl31.flatMap acC), T0]) := hT.up
 have hra : ∀ h : Hp, (sep [slR 85 2 (.slice (some ⟨ba, 0, none⟩) 1 1) 1 (acl31.flatMap acC), T0]) h → rdS 2 h (.slice (some ⟨ba, 0, none⟩) 1 1) acl31.length (acl31.flatMap acC) := rd_acl (fun _ => slR_rd)
 refine .then_n (.sm rfl (.m rfl (.q (.to (v' := .agg (rqC (rqA12 (.slice (some ⟨ba, 0, none⟩) 1 1))).toArray) (.build (us := [(0, _), (2, _), (3, _), (4, _)]) fl_28 ze_28 rfl rfl (by simp [isCell])) rfl) rfl (.oq (.call Tryz.func14 rfl rfl (vs := [_, _, _, _]) rfl (ptxn_spec t aw12 u12 nilV (rqA12 (.slice (some ⟨ba, 0, none⟩) 1 1)) (sep [slR 85 2 (.slice (some ⟨ba, 0, none⟩) 1 1) 1 (acl31.flatMap acC), T0]) (wi_31 (s := 7) (k := 1) (f := 0) (q := [47, 97]) (d := [120]) ⟨by decide, by decide⟩ hT1 hra ⟨_, _, _, rfl⟩ ⟨⟨by decide, by decide⟩, ⟨by decide, by decide⟩⟩ ⟨by decide, by decide⟩) 2 aw12_ok (by decide) aw12_w (by decide) [] (fun _ _ => .inl ⟨rfl, rfl, none, 0, rfl⟩) (fun x h => by cases h) (fun x h => by cases h) (by show (1 : Int) ≠ 8; decide))) ?_))))
 rintro v L' ⟨y1, ys1, rfl, hy1, hys1, ⟨hc1, as1, cs1, hsub1⟩, hyk1, rfl⟩; rw [txn12_A] at hy1 hys1
 refine .oq (.allocA ze_43) ?_
 rintro v L' ⟨b3, rfl, rfl⟩
 refine .oq (.storeA rfl rfl ?c17 sz_43 ?c20 ?c18 (nfz0 _ _)) ?_
 case c17 => exact pt_cells hc1 (by rw [hsub1]; rfl)
 case c20 => rfl
 case c18 => simp [ptC]
 rintro v L' rfl
 refine .nil (.ptCast (b := b3) (l' := ptC y1) (by repeat' constructor) (by exact rfl) (.then_n (.sm rfl (.m rfl (.q (.to (v' := .agg (rqC (rqB12 (.slice (some ⟨ba, 0, none⟩) 1 1))).toArray) (.build (us := [(0, _), (2, _), (4, _), (5, _)]) fl_28 ze_28 rfl rfl (by simp [isCell])) rfl) rfl (.oq (.call Tryz.func14 rfl rfl (vs := [_, _, _, _]) rfl (ptxn_spec t aw12 u12 nilV (rqB12 (.slice (some ⟨ba, 0, none⟩) 1 1)) (sep [slR 85 2 (.slice (some ⟨ba, 0, none⟩) 1 1) 1 (acl31.flatMap acC), T0]) (wi_31 (s := 7) (k := 1) (f := 3) (q := [47, 113, 45]) (d := []) ⟨by decide, by decide⟩ hT1 hra ⟨_, _, _, rfl⟩ ⟨⟨by decide, by decide⟩, ⟨by decide, by decide⟩⟩ ⟨by decide, by decide⟩) 2 aw12_ok (by decide) aw12_w (by decide) [] (fun _ _ => .inl ⟨rfl, rfl, none, 0, rfl⟩) (fun x h => by cases h) (fun x h => by cases h) (by show (1 : Int) ≠ 8; decide))) ?_))))))
 rintro v L' ⟨y2, ys2, rfl, hy2, hys2, ⟨hc2, as2, cs2, hsub2⟩, hyk2, rfl⟩; rw [txn12_B] at hy2 hys2
 refine .oq (.allocA ze_43) ?_
 rintro v L' ⟨b4, rfl, rfl⟩
 refine .oq (.storeA rfl rfl ?c27 sz_43 ?c30 ?c28 (nfz0 _ _)) ?_
 case c27 => exact pt_cells hc2 (by rw [hsub2]; rfl)
 case c30 => rfl
 case c28 => simp [ptC]
 rintro v L' rfl
 refine .nil (.ptCast (b := b4) (l' := ptC y2) (by repeat' constructor) (by exact rfl) (.then_n (.sm rfl (.q (.to (v' := .agg (rqC rqC12).toArray) (.build (us := [(0, _)]) fl_28 ze_28 rfl rfl (by simp [isCell])) rfl) rfl (.oq (.call Tryz.func14 rfl rfl (vs := [_, _, _, _]) rfl (ptxn_spec t aw12 ⟨8, []⟩ nilV rqC12 (sep [slR 85 2 (.slice (some ⟨ba, 0, none⟩) 1 1) 1 (acl31.flatMap acC), T0]) (wi_nil (s := 8) (k := 7) (f := 0) (ver := 0) (w := nilV) (q := []) (d := []) ⟨by decide, by decide⟩ hT1 ⟨_, _, _, rfl⟩ ⟨⟨by decide, by decide⟩, ⟨by decide, by decide⟩, ⟨by decide, by decide⟩⟩ ⟨by decide, by decide⟩) 2 aw12_ok (by decide) aw12_w (by decide) [] (fun _ _ => .inl ⟨rfl, rfl, none, 0, rfl⟩) (fun x h => by cases h) (fun x h => by cases h) (by show (7 : Int) ≠ 8; decide))) ?_)))))
 rintro v L' ⟨y3, ys3, rfl, hy3, hys3, ⟨hc3, as3, cs3, hsub3⟩, hyk3, rfl⟩; rw [aw12_C] at hy3 hys3
 refine .oq (.allocA ze_43) ?_
 rintro v L' ⟨b5, rfl, rfl⟩
 refine .oq (.storeA rfl rfl ?c37 sz_43 ?c40 ?c38 (nfz0 _ _)) ?_
 case c37 => exact pt_cells hc3 (by rw [hsub3]; rfl)
 case c40 => rfl
 case c38 => simp [ptC]
 rintro v L' rfl
 refine .nil (.ptCast (b := b5) (l' := ptC y3) (by repeat' constructor) (by exact rfl) (.then_n (.sm rfl (.m rfl (.q (.to (v' := .agg (rqC (rqD1 (.slice (some ⟨ba, 0, none⟩) 1 1))).toArray) (.build (us := [(0, _), (2, _), (4, _)]) fl_28 ze_28 rfl rfl (by simp [isCell])) rfl) rfl (.q (.to (v' := .agg (rqC rqD2).toArray) (.build (us := [(0, _), (2, _)]) fl_28 ze_28 rfl rfl (by simp [isCell])) rfl) rfl (.q (.to (v' := .agg (rqC rqD3).toArray) (.build (us := [(0, _), (2, _), (6, _)]) fl_28 ze_28 rfl rfl (by simp [isCell])) rfl) rfl (.oq (.buildSlice (vs := [_, _, _]) el_25 ze_28 rfl rfl rfl rfl (by first | (simp [Value.cells]; done) | (intro v hv; simp only [List.mem_cons, List.not_mem_nil, or_false] at hv; (repeat (first | (subst hv; rfl) | (rcases hv with hv | hv; (subst hv; rfl)))))) (by decide)) ?_))))))))
 rintro v L' ⟨bs, rfl, rfl⟩
 refine .slMakeN 10 3 (b := bs) (xs := [rqD1 (.slice (some ⟨ba, 0, none⟩) 1 1), rqD2, rqD3].flatMap rqC) (by repeat' constructor) rfl rfl (.fold (p := (sep [slR 28 10 (.slice (some ⟨bs, 0, none⟩) 3 3) 3 ([rqD1 (.slice (some ⟨ba, 0, none⟩) 1 1), rqD2, rqD3].flatMap rqC), (sep [slR 85 2 (.slice (some ⟨ba, 0, none⟩) 1 1) 1 (acl31.flatMap acC), T0])])) (q := [slR 28 10 (.slice (some ⟨bs, 0, none⟩) 3 3) 3 ([rqD1 (.slice (some ⟨ba, 0, none⟩) 1 1), rqD2, rqD3].flatMap rqC), (sep [slR 85 2 (.slice (some ⟨ba, 0, none⟩) 1 1) 1 (acl31.flatMap acC), T0])]) (by repeat' constructor) (fun _ h => h) ?_)
 have hT4 : TabP (sep [slR 28 10 (.slice (some ⟨bs, 0, none⟩) 3 3) 3 ([rqD1 (.slice (some ⟨ba, 0, none⟩) 1 1), rqD2, rqD3].flatMap rqC), (sep [slR 85 2 (.slice (some ⟨ba, 0, none⟩) 1 1) 1 (acl31.flatMap acC), T0])]) := hT1.up
 have hra4 : ∀ h : Hp, (sep [slR 28 10 (.slice (some ⟨bs, 0, none⟩) 3 3) 3 ([rqD1 (.slice (some ⟨ba, 0, none⟩) 1 1), rqD2, rqD3].flatMap rqC), (sep [slR 85 2 (.slice (some ⟨ba, 0, none⟩) 1 1) 1 (acl31.flatMap acC), T0])]) h → rdS 2 h (.slice (some ⟨ba, 0, none⟩) 1 1) acl31.length (acl31.flatMap acC) := rd_tail hra
 have hS4 : ∀ x ∈ [rqD1 (.slice (some ⟨ba, 0, none⟩) 1 1), rqD2, rqD3], WiA (sep [slR 28 10 (.slice (some ⟨bs, 0, none⟩) 3 3) 3 ([rqD1 (.slice (some ⟨ba, 0, none⟩) 1 1), rqD2, rqD3].flatMap rqC), (sep [slR 85 2 (.slice (some ⟨ba, 0, none⟩) 1 1) 1 (acl31.flatMap acC), T0])]) u12 nilV x := by
    intro x hx
    simp only [List.mem_cons, List.not_mem_nil, or_false] at hx
    rcases hx with rfl | rfl | rfl
    · exact wi_31 (s := 7) (k := 1) (f := 0) (q := [47, 97]) (d := []) ⟨by decide, by decide⟩ hT4 hra4 ⟨_, _, _, rfl⟩ ⟨⟨by decide, by decide⟩, ⟨by decide, by decide⟩⟩ ⟨by decide, by decide⟩
    · exact wi_nil (s := 7) (k := 5) (f := 0) (ver := 0) (w := nilV) (q := [47, 97]) (d := []) ⟨by decide, by decide⟩ hT4 ⟨_, _, _, rfl⟩ ⟨⟨by decide, by decide⟩, ⟨by decide, by decide⟩, ⟨by decide, by decide⟩⟩ ⟨by decide, by decide⟩
    exact wi_nil (s := 7) (k := 2) (f := 0) (ver := -1) (w := nilV) (q := [47, 98]) (d := []) ⟨by decide, by decide⟩ hT4 ⟨_, _, _, rfl⟩ ⟨⟨by decide, by decide⟩, ⟨by decide, by decide⟩, ⟨by decide, by decide⟩⟩ ⟨by decide, by decide⟩
 have hSa4 : ∀ x ∈ [rqD1 (.slice (some ⟨ba, 0, none⟩) 1 1), rqD2, rqD3], AclW x.acl := by
    intro x hx
    simp only [List.mem_cons, List.not_mem_nil, or_false] at hx
    rcases hx with rfl | rfl | rfl
    · exact acl31_w
    · exact acl_nil_w
    exact acl_nil_w
 refine .q (.to (v' := .agg (rqC (rqD12 (.slice (some ⟨bs, 0, none⟩) 3 3))).toArray) (.build (us := [(0, _), (8, _)]) fl_28 ze_28 rfl rfl (by simp [isCell])) rfl) rfl (.oq (.call Tryz.func14 rfl rfl (vs := [_, _, _, _]) rfl (ptxn_spec t aw12 u12 nilV (rqD12 (.slice (some ⟨bs, 0, none⟩) 3 3)) (sep [slR 28 10 (.slice (some ⟨bs, 0, none⟩) 3 3) 3 ([rqD1 (.slice (some ⟨ba, 0, none⟩) 1 1), rqD2, rqD3].flatMap rqC), (sep [slR 85 2 (.slice (some ⟨ba, 0, none⟩) 1 1) 1 (acl31.flatMap acC), T0])]) (wi_nil (s := 7) (k := 6) (f := 0) (ver := 0) (w := .slice (some ⟨bs, 0, none⟩) 3 3) (q := []) (d := []) ⟨by decide, by decide⟩ hT4 ⟨_, _, _, rfl⟩ ⟨⟨by decide, by decide⟩, ⟨by decide, by decide⟩, ⟨by decide, by decide⟩⟩ ⟨by decide, by decide⟩) 2 aw12_ok (by decide) aw12_w (by decide) [rqD1 (.slice (some ⟨ba, 0, none⟩) 1 1), rqD2, rqD3] (rd_head (fun _ => slR_rd)) hS4 hSa4 (by show (6 : Int) ≠ 8; decide))) ?_)
 rintro v L' ⟨y4, ys4, rfl, hy4, hys4, ⟨hc4, as4, cs4, hsub4⟩, hyk4, rfl⟩; rw [txn12_D] at hy4 hys4
 refine .oq (.allocA ze_43) ?_
 rintro v L' ⟨b6, rfl, rfl⟩
 refine .oq (.storeA rfl rfl ?c52 sz_43 ?c55 ?c53 (nfz0 _ _)) ?_
 case c52 => exact pt_cells hc4 (by rw [hsub4]; rfl)
 case c55 => rfl
 case c53 => simp [ptC]
 rintro v L' rfl
 refine .nil (.ptCast (b := b6) (l' := ptC y4) (by repeat' constructor) (by exact rfl) (.then_n (.sm rfl (.q (.to (v' := .agg (ptC y4).toArray) (.loadA rfl ag_43 (by repeat' constructor) (by simp [ptC])) (by rfl)) rfl (.q (.to (v' := .agg (enC (⟨5, 0, 6, y4, ys4⟩ : En)).toArray) (.buildN (pl := [(0, 1), (1, 1), (2, 1), (3, 8)]) (us := [(0, vint 5), (2, vint 6), (3, .agg (ptC y4).toArray)]) (cells := enC (⟨5, 0, 6, y4, ys4⟩ : En)) Tryz.underlying54 (by kernel_rfl) ze_54 rfl (fill_e5 _ _ _ _ _ _ _ _)) rfl) rfl (.oq (.call Tryz.func23 rfl rfl (vs := [_, _]) rfl (preply_spec t aw12 (⟨5, 0, 6, y4, ys4⟩ : En) 2 aw12_ok (by decide) (slR 43 8 y4.subsV ys4.length (ys4.flatMap ptC)) (fun _ => slR_rd) (by have h := congrArg List.length hys4; simp at h; simp [h]) hc4 (by show isCell y4.subsV = true; rw [hsub4]; rfl) (fun y h => ⟨(hyk4 y h).1, by rw [(hyk4 y h).2]; rfl⟩))) ?_))))))
 rintro v L' ⟨w, rfl, ⟨aw, cw, rfl⟩, rfl⟩; rw [within12 hy4]
 refine .oq (.allocA ze_57) ?_
 rintro v L' ⟨b7, rfl, rfl⟩
 refine .oq (.storeA rfl rfl ?c63 sz_57 ?c66 ?c64 (nfz0 _ _)) ?_
 case c63 => exact rp_cells rfl rfl rfl
 case c66 => rfl
 case c64 => simp
 rintro v L' rfl
 refine .nil (.ptCast (b := b7) (l' := rpC ((headR aw12 (⟨5, 0, 6, y4, ys4⟩ : En)).ws (.slice aw 3 cw))) (by repeat' constructor) (by exact rfl) (.rdShape (p := slR 57 17 (.slice aw 3 cw) 3 ([errR 111, errR 111, errR 60].flatMap rpC)) (fun _ => slR_rd) (by repeat' constructor) (by decide) fun bw ow ee => ?_))
 subst ee
 refine .then_n (.sr (.u (.fieldAddr rfl fo_43_0) (.u (.ld rfl ag_3) (.q (.as (v' := .bool true) (by exact congrArg Value.bool (decide_eq_true (congrArg Pt.kind hy1))) (.int rfl rfl rfl)) rfl (.m rfl (.grun (t := 45) rfl rfl rfl (.u (.fieldAddr rfl fo_43_1) (.grun (t := 45) rfl rfl rfl (.u (.ld rfl ag_9) (.grun (t := 45) rfl rfl rfl (.q (.as (v' := .bool true) (by exact congrArg Value.bool (decide_eq_true (congrArg Pt.path hy1))) (.streq rfl rfl)) rfl (.u (.pickT rfl rfl) (.m rfl (.grun (t := 50) rfl rfl rfl (.u (.fieldAddr rfl fo_43_2) (.grun (t := 50) rfl rfl rfl (.u (.ld rfl ag_9) (.grun (t := 50) rfl rfl rfl (.q (.as (v' := .bool true) (by exact congrArg Value.bool (decide_eq_true (congrArg Pt.data hy1))) (.streq rfl rfl)) rfl (.u (.pickT rfl rfl) (.m rfl (.grun (t := 55) rfl rfl rfl (.u (.fieldAddr rfl fo_43_5) (.grun (t := 55) rfl rfl rfl (.u (.ld rfl ag_3) ?_)))))))))))))))))))))))))
 refine .grun (t := 55) rfl rfl rfl (.q (.as (v' := .bool true) (by exact congrArg Value.bool (decide_eq_true (congrArg Pt.num hy1))) (.int rfl rfl rfl)) rfl (.u (.pickT rfl rfl) (.m rfl (.grun (t := 60) rfl rfl rfl (.u (.fieldAddr rfl fo_43_1) (.grun (t := 60) rfl rfl rfl (.u (.ld rfl ag_9) (.grun (t := 60) rfl rfl rfl (.q (.as (v' := .bool true) (by exact congrArg Value.bool (decide_eq_true (congrArg Pt.path hy2))) (.streq rfl rfl)) rfl (.u (.pickT rfl rfl) (.m rfl (.grun (t := 65) rfl rfl rfl (.u (.fieldAddr rfl fo_43_4) (.grun (t := 65) rfl rfl rfl (.u (.ld rfl ag_3) (.grun (t := 65) rfl rfl rfl (.q (.as (v' := .bool true) (by exact congrArg Value.bool (decide_eq_true (congrArg Pt.own hy2))) (.int rfl rfl rfl)) rfl (.u (.pickT rfl rfl) (.an rfl (.sr (.u (.fieldAddr rfl fo_43_6) (.u (.ld rfl ag_40) (.q (.as (v' := .bool true) (by exact congrArg Value.bool (decide_eq_true (congrArg Pt.err hy3))) (.int rfl rfl rfl)) rfl ?_)))))))))))))))))))))))
 refine .m rfl (.grun (t := 73) rfl rfl rfl (.u (.fieldAddr rfl fo_43_5) (.grun (t := 73) rfl rfl rfl (.u (.ld rfl ag_3) (.grun (t := 73) rfl rfl rfl (.q (.as (v' := .bool true) (by exact congrArg Value.bool (decide_eq_true (congrArg Pt.num hy3))) (.int rfl rfl rfl)) rfl (.u (.pickT rfl rfl) (.m rfl (.grun (t := 78) rfl rfl rfl (.u (.fieldAddr rfl fo_43_0) (.grun (t := 78) rfl rfl rfl (.u (.ld rfl ag_3) (.grun (t := 78) rfl rfl rfl (.q (.as (v' := .bool true) (by exact congrArg Value.bool (decide_eq_true (congrArg Pt.kind hy4))) (.int rfl rfl rfl)) rfl (.u (.pickT rfl rfl) (.m rfl (.grun (t := 83) rfl rfl rfl (.u (.fieldAddr rfl fo_43_6) (.grun (t := 83) rfl rfl rfl (.u (.ld rfl ag_40) (.grun (t := 83) rfl rfl rfl (.q (.as (v' := .bool true) (by exact congrArg Value.bool (decide_eq_true (congrArg Pt.err hy4))) (.int rfl rfl rfl)) rfl (.u (.pickT rfl rfl) (.m rfl (.grun (t := 88) rfl rfl rfl (.u (.fieldAddr rfl fo_43_5) (.grun (t := 88) rfl rfl rfl ?_)))))))))))))))))))))))))))
 refine .u (.ld rfl ag_3) (.grun (t := 88) rfl rfl rfl (.q (.as (v' := .bool true) (by exact congrArg Value.bool (decide_eq_true (congrArg Pt.num hy4))) (.int rfl rfl rfl)) rfl (.u (.pickT rfl rfl) (.an rfl (.sm rfl (.m rfl (.grun (t := 94) rfl rfl rfl (.m rfl (.u (.pickT rfl rfl) (.m rfl (.grun (t := 97) rfl rfl rfl (.u (.fieldAddr rfl fo_57_0) (.grun (t := 97) rfl rfl rfl (.u (.ld rfl ag_3) (.grun (t := 97) rfl rfl rfl (.q (.as (v' := .bool true) (by exact congrArg Value.bool (decide_eq_true (rfl))) (.int rfl rfl rfl)) rfl (.u (.pickT rfl rfl) (.m rfl (.grun (t := 102) rfl rfl rfl (.u (.fieldAddr rfl fo_57_1) (.grun (t := 102) rfl rfl rfl (.u (.ld rfl ag_3) (.grun (t := 102) rfl rfl rfl (.q (.as (v' := .bool true) (by exact congrArg Value.bool (decide_eq_true (rfl))) (.int rfl rfl rfl)) rfl ?_))))))))))))))))))))))))
 refine .u (.pickT rfl rfl) (.m rfl (.grun (t := 107) rfl rfl rfl (.u (.fieldAddr rfl fo_57_2) (.grun (t := 107) rfl rfl rfl (.u (.ld rfl ag_40) (.grun (t := 107) rfl rfl rfl (.q (.as (v' := .bool true) (by exact congrArg Value.bool (decide_eq_true (by show (if y4.kind = 8 then y4.err else 0) = 60; rw [if_pos (show y4.kind = 8 from congrArg Pt.kind hy4)]; exact congrArg Pt.err hy4))) (.int rfl rfl rfl)) rfl (.u (.pickT rfl rfl) (.m rfl (.grun (t := 112) rfl rfl rfl (.u (.fieldAddr rfl fo_57_8) (.grun (t := 112) rfl rfl rfl (.u (.ld rfl ag_55) (.grun (t := 112) rfl rfl rfl (.q (.slen rfl Tryz.underlying55 rfl) rfl (.grun (t := 112) rfl rfl rfl (.q (.as (v' := .bool true) (by exact congrArg Value.bool (decide_eq_true (rfl))) (.int rfl rfl rfl)) rfl (.u (.pickT rfl rfl) (.m rfl (.grun (t := 118) rfl rfl rfl (.u (.fieldAddr rfl fo_57_8) (.grun (t := 118) rfl rfl rfl (.u (.ld rfl ag_55) (.grun (t := 118) rfl rfl rfl (.q (.indexAddr rfl rfl el_55 (by omega)) rfl ?_)))))))))))))))))))))))))
 refine .grun (t := 118) rfl rfl rfl (.u (.fieldAddr rfl fo_57_2) (.grun (t := 118) rfl rfl rfl (.q (.loadRd (sz := 17) (j := 2) (ys := ([errR 111, errR 111, errR 60] : List Rp).flatMap rpC) (p := slR 57 17 (.slice (some ⟨bw, ow, none⟩) 3 cw) 3 ([errR 111, errR 111, errR 60].flatMap rpC)) (v := vint 111) rfl ag_40 (by repeat' constructor) (fun _ => slR_rd) (by simp; try omega) rfl) rfl (.grun (t := 118) rfl rfl rfl (.q (.as (v' := .bool true) (by exact congrArg Value.bool (decide_eq_true (rfl))) (.int rfl rfl rfl)) rfl (.u (.pickT rfl rfl) (.m rfl (.grun (t := 126) rfl rfl rfl (.u (.fieldAddr rfl fo_57_8) (.grun (t := 126) rfl rfl rfl (.u (.ld rfl ag_55) (.grun (t := 126) rfl rfl rfl (.q (.indexAddr rfl rfl el_55 (by omega)) rfl (.grun (t := 126) rfl rfl rfl (.u (.fieldAddr rfl fo_57_2) (.grun (t := 126) rfl rfl rfl (.q (.loadRd (sz := 17) (j := 36) (ys := ([errR 111, errR 111, errR 60] : List Rp).flatMap rpC) (p := slR 57 17 (.slice (some ⟨bw, ow, none⟩) 3 cw) 3 ([errR 111, errR 111, errR 60].flatMap rpC)) (v := vint 60) rfl ag_40 (by repeat' constructor) (fun _ => slR_rd) (by simp; try omega) rfl) rfl ?_)))))))))))))))))
 refine .grun (t := 126) rfl rfl rfl (.q (.as (v' := .bool true) (by exact congrArg Value.bool (decide_eq_true (rfl))) (.int rfl rfl rfl)) rfl (.u (.pickT rfl rfl) (.a rfl (.nil (.focus (p := (sep [slR 28 10 (.slice (some ⟨bs, 0, none⟩) 3 3) 3 ([rqD1 (.slice (some ⟨ba, 0, none⟩) 1 1), rqD2, rqD3].flatMap rqC), (sep [slR 85 2 (.slice (some ⟨ba, 0, none⟩) 1 1) 1 (acl31.flatMap acC), T0])])) (by repeat' constructor) (.unfold (q := [slR 28 10 (.slice (some ⟨bs, 0, none⟩) 3 3) 3 ([rqD1 (.slice (some ⟨ba, 0, none⟩) 1 1), rqD2, rqD3].flatMap rqC), (sep [slR 85 2 (.slice (some ⟨ba, 0, none⟩) 1 1) 1 (acl31.flatMap acC), T0])]) (fun _ h => h) (.focus (p := (sep [slR 85 2 (.slice (some ⟨ba, 0, none⟩) 1 1) 1 (acl31.flatMap acC), T0])) (by repeat' constructor) (.unfold (q := [slR 85 2 (.slice (some ⟨ba, 0, none⟩) 1 1) 1 (acl31.flatMap acC), T0]) (fun _ h => h) (.then_n (.ret ?_))))))))))
 exact .vv
def segsZ : Bs → List Bs
 | [] => []
 | _ :: r => splitZ r
def okZ (s : Bs) : Bool := decide (s.head? = some 47) && (segsZ s).all isNameZ
theorem seg_step {r : Bs} {k : Nat} (hk : k ≤ r.length) (h1 : ∀ j, j < k → r.getD j 0 ≠ 47) (h2 : k = r.length ∨ r.getD k 0 = 47) : splitZ r = r.take k :: segsZ (r.drop k) := by
 have hno : (47 : UInt8) ∉ r.take k := fun hm => by
  obtain ⟨i, hi, e⟩ := List.mem_iff_getElem.1 hm
  rw [List.length_take] at hi
  rw [List.getElem_take] at e
  refine h1 i (by omega) ?_
  rw [List.getD_eq_getElem?_getD, List.getElem?_eq_getElem (by omega), Option.getD_some]; exact e
 rcases Nat.lt_or_ge k r.length with hlt | hge
 ·have h3 : r[k] = 47 := by
   rcases h2 with h2 | h2
   ·omega
   ·rw [List.getD_eq_getElem?_getD, List.getElem?_eq_getElem hlt, Option.getD_some] at h2; exact h2
  have e : r = r.take k ++ 47 :: r.drop (k + 1) := by
   have := (List.take_append_drop k r).symm
   rw [List.drop_eq_getElem_cons hlt, h3] at this; exact this
  have e2 : r.drop k = 47 :: r.drop (k + 1) := by rw [List.drop_eq_getElem_cons hlt, h3]
  rw [e2]
  conv => lhs; rw [e]
  exact split_at hno
 ·have : k = r.length := by omega
  subst this
  rw [List.take_length] at hno ⊢
  rw [List.drop_length, split_none hno]; rfl
theorem check_ok {p : Bs} (h1 : p ≠ [47]) : checkZ p = if okZ p = true then (if p.length > 60 ∨ (segsZ p).length > 6 then 41 else 0) else 40 := by
 unfold checkZ
 rw [if_neg h1]
 cases p with
 | nil => decide
 | cons c r =>
  by_cases hc : c = 47
  ·subst hc
   have e : splitZ (47 :: r) = [] :: splitZ r := by rw [split_cons, if_pos rfl]
   have hne := splitZ_ne r
   rw [e]
   unfold okZ
   rw [show segsZ (47 :: r) = splitZ r from rfl]
   by_cases ha : (splitZ r).all isNameZ = true
   ·rw [if_neg, ha, if_pos (show (decide ((47 :: r).head? = some 47) && true) = true from by simp)]
    ·have e7 : ([] :: splitZ r).length = (splitZ r).length + 1 := rfl
     by_cases h60 : (47 :: r).length > 60 ∨ (splitZ r).length > 6
     ·rw [if_pos h60, if_pos (by rw [e7]; omega)]
     ·rw [if_neg h60, if_neg (by rw [e7]; omega)]
    ·simp only [List.head?_cons, List.tail_cons, List.length_cons]
     rintro (g | g | g)
     ·exact g rfl
     ·exact hne (List.eq_nil_of_length_eq_zero (by omega))
     ·rw [ha] at g; cases g
   ·rw [if_pos (.inr (.inr (by rw [List.tail_cons]; simpa using ha))), if_neg]
    simp; simpa using ha
  ·rw [if_pos, if_neg]
   ·unfold okZ; simp [hc]
   ·left
    rw [split_cons, if_neg hc]
    rcases e : splitZ r with _ | ⟨h, t⟩ <;> simp
theorem rletter_spec (c : UInt8) : Fn Tryz.prog 191 #[vbyte c] [] fun v L => v = .bool (letterB c) ∧ L = [] := by
 refine Fn.intro Tryz.func191 rfl rfl fun F W => ?_
 refine .sr (.an rfl (.sm rfl (.ui rfl rfl rfl (.m rfl (.dec (t := 5) rfl (fun h1_5 => ?_) (fun h1_5 => ?_))))))
 ·refine .kDT (t := 4) rfl h1_5 (.grun (t := 5) rfl rfl rfl (.m rfl (.grun (t := 5) rfl rfl rfl (.ui rfl rfl rfl (.u (.pickT rfl rfl) (.m rfl (.dec (t := 9) rfl (fun h1_9 => ?_) (fun h1_9 => ?_))))))))
  ·refine .kDT (t := 7) rfl h1_9 (.kDT (t := 8) rfl h1_9 (.gk (.gk (.gk (.gskipU (t := 12) rfl rfl rfl (.gskipU (t := 12) rfl rfl rfl (.gk (.u (.pickT rfl rfl) (.m rfl (.gk (.gk (.gk (.gskipU (t := 20) rfl rfl rfl (.gskipU (t := 20) rfl rfl rfl (.gk (.u (.pickT rfl rfl) (.m rfl (.gk (.gk (.u (.pickT rfl rfl) (.m rfl (.gk (.gk (.u (.pickT rfl rfl) (.m rfl (.gk (.gk (.u (.pickT rfl rfl) (.an rfl (.ret ?_))))))))))))))))))))))))))))))
   exact .dn rfl rfl ⟨by first | (rw [letter_of (by omega)]; done) | (rcases Decidable.em ((c.toNat : Int) = 46) with hd | hd; (rw [decide_eq_true hd, letter_of (by omega)]); (rw [decide_eq_false hd, letter_not (by omega)])), rfl⟩
  refine .kDF (t := 7) rfl h1_9 (.kDF (t := 8) rfl h1_9 (.grun (t := 9) rfl rfl rfl (.m rfl (.grun (t := 9) rfl rfl rfl (.ui rfl rfl rfl (.grun (t := 9) rfl rfl rfl (.m rfl (.dec (t := 12) rfl (fun h1_12 => ?_) (fun h1_12 => ?_)))))))))
  ·refine .kDT (t := 11) rfl h1_12 (.grun (t := 12) rfl rfl rfl (.m rfl (.grun (t := 12) rfl rfl rfl (.ui rfl rfl rfl (.grun (t := 9) rfl rfl rfl (.u (.pickT rfl rfl) (.u (.pickF rfl rfl) (.m rfl (.dec (t := 17) rfl (fun h1_17 => ?_) (fun h1_17 => ?_))))))))))
   ·refine .kDT (t := 14) rfl h1_17 (.kDT (t := 15) rfl h1_17 (.kDT (t := 16) rfl h1_17 (.gk (.gk (.gk (.gskipU (t := 20) rfl rfl rfl (.gskipU (t := 20) rfl rfl rfl (.gk (.u (.pickT rfl rfl) (.m rfl (.gk (.gk (.u (.pickT rfl rfl) (.m rfl (.gk (.gk (.u (.pickT rfl rfl) (.m rfl (.gk (.gk (.u (.pickT rfl rfl) (.an rfl (.ret ?_)))))))))))))))))))))))
    exact .dn rfl rfl ⟨by first | (rw [letter_of (by omega)]; done) | (rcases Decidable.em ((c.toNat : Int) = 46) with hd | hd; (rw [decide_eq_true hd, letter_of (by omega)]); (rw [decide_eq_false hd, letter_not (by omega)])), rfl⟩
   refine .kDF (t := 14) rfl h1_17 (.kDF (t := 15) rfl h1_17 (.kDF (t := 16) rfl h1_17 (.grun (t := 17) rfl rfl rfl (.m rfl (.grun (t := 17) rfl rfl rfl (.ui rfl rfl rfl (.grun (t := 17) rfl rfl rfl (.m rfl (.dec (t := 20) rfl (fun h1_20 => ?_) (fun h1_20 => ?_))))))))))
   ·refine .kDT (t := 19) rfl h1_20 (.grun (t := 20) rfl rfl rfl (.m rfl (.grun (t := 20) rfl rfl rfl (.ui rfl rfl rfl (.grun (t := 17) rfl rfl rfl (.u (.pickT rfl rfl) (.u (.pickF rfl rfl) (.m rfl (.dec (t := 25) rfl (fun h1_25 => ?_) (fun h1_25 => ?_))))))))))
    ·refine .kDT (t := 22) rfl h1_25 (.kDT (t := 23) rfl h1_25 (.kDT (t := 24) rfl h1_25 (.gk (.gk (.u (.pickT rfl rfl) (.m rfl (.gk (.gk (.u (.pickT rfl rfl) (.m rfl (.gk (.gk (.u (.pickT rfl rfl) (.an rfl (.ret ?_)))))))))))))))
     exact .dn rfl rfl ⟨by first | (rw [letter_of (by omega)]; done) | (rcases Decidable.em ((c.toNat : Int) = 46) with hd | hd; (rw [decide_eq_true hd, letter_of (by omega)]); (rw [decide_eq_false hd, letter_not (by omega)])), rfl⟩
    refine .kDF (t := 22) rfl h1_25 (.kDF (t := 23) rfl h1_25 (.kDF (t := 24) rfl h1_25 (.grun (t := 25) rfl rfl rfl (.m rfl (.grun (t := 25) rfl rfl rfl (.ui rfl rfl rfl (.u (.pickF rfl rfl) (.m rfl (.dec (t := 29) rfl (fun h1_29 => ?_) (fun h1_29 => ?_))))))))))
    ·refine .kDT (t := 27) rfl h1_29 (.kDT (t := 28) rfl h1_29 (.gk (.gk (.u (.pickT rfl rfl) (.m rfl (.gk (.gk (.u (.pickT rfl rfl) (.an rfl (.ret ?_))))))))))
     exact .dn rfl rfl ⟨by first | (rw [letter_of (by omega)]; done) | (rcases Decidable.em ((c.toNat : Int) = 46) with hd | hd; (rw [decide_eq_true hd, letter_of (by omega)]); (rw [decide_eq_false hd, letter_not (by omega)])), rfl⟩
    refine .kDF (t := 27) rfl h1_29 (.kDF (t := 28) rfl h1_29 (.grun (t := 29) rfl rfl rfl (.m rfl (.grun (t := 29) rfl rfl rfl (.ui rfl rfl rfl (.u (.pickF rfl rfl) (.m rfl (.dec (t := 33) rfl (fun h1_33 => ?_) (fun h1_33 => ?_)))))))))
    ·refine .kDT (t := 31) rfl h1_33 (.kDT (t := 32) rfl h1_33 (.gk (.gk (.u (.pickT rfl rfl) (.an rfl (.ret ?_))))))
     exact .dn rfl rfl ⟨by first | (rw [letter_of (by omega)]; done) | (rcases Decidable.em ((c.toNat : Int) = 46) with hd | hd; (rw [decide_eq_true hd, letter_of (by omega)]); (rw [decide_eq_false hd, letter_not (by omega)])), rfl⟩
    refine .kDF (t := 31) rfl h1_33 (.kDF (t := 32) rfl h1_33 (.grun (t := 33) rfl rfl rfl (.m rfl (.grun (t := 33) rfl rfl rfl (.ui rfl rfl rfl (.u (.pickF rfl rfl) (.an rfl (.ret ?_))))))))
    exact .dn rfl rfl ⟨by first | (rw [letter_of (by omega)]; done) | (rcases Decidable.em ((c.toNat : Int) = 46) with hd | hd; (rw [decide_eq_true hd, letter_of (by omega)]); (rw [decide_eq_false hd, letter_not (by omega)])), rfl⟩
   refine .kDF (t := 19) rfl h1_20 (.gk (.gk (.grun (t := 17) rfl rfl rfl (.u (.pickF rfl rfl) (.u (.pickF rfl rfl) (.m rfl (.grun (t := 25) rfl rfl rfl (.m rfl (.grun (t := 25) rfl rfl rfl (.ui rfl rfl rfl (.u (.pickF rfl rfl) (.m rfl (.dec (t := 29) rfl (fun h1_29 => ?_) (fun h1_29 => ?_))))))))))))))
   ·refine .kDT (t := 27) rfl h1_29 (.kDT (t := 28) rfl h1_29 (.gk (.gk (.u (.pickT rfl rfl) (.m rfl (.gk (.gk (.u (.pickT rfl rfl) (.an rfl (.ret ?_))))))))))
    exact .dn rfl rfl ⟨by first | (rw [letter_of (by omega)]; done) | (rcases Decidable.em ((c.toNat : Int) = 46) with hd | hd; (rw [decide_eq_true hd, letter_of (by omega)]); (rw [decide_eq_false hd, letter_not (by omega)])), rfl⟩
   refine .kDF (t := 27) rfl h1_29 (.kDF (t := 28) rfl h1_29 (.grun (t := 29) rfl rfl rfl (.m rfl (.grun (t := 29) rfl rfl rfl (.ui rfl rfl rfl (.u (.pickF rfl rfl) (.m rfl (.dec (t := 33) rfl (fun h1_33 => ?_) (fun h1_33 => ?_)))))))))
   ·refine .kDT (t := 31) rfl h1_33 (.kDT (t := 32) rfl h1_33 (.gk (.gk (.u (.pickT rfl rfl) (.an rfl (.ret ?_))))))
    exact .dn rfl rfl ⟨by first | (rw [letter_of (by omega)]; done) | (rcases Decidable.em ((c.toNat : Int) = 46) with hd | hd; (rw [decide_eq_true hd, letter_of (by omega)]); (rw [decide_eq_false hd, letter_not (by omega)])), rfl⟩
   refine .kDF (t := 31) rfl h1_33 (.kDF (t := 32) rfl h1_33 (.grun (t := 33) rfl rfl rfl (.m rfl (.grun (t := 33) rfl rfl rfl (.ui rfl rfl rfl (.u (.pickF rfl rfl) (.an rfl (.ret ?_))))))))
   exact .dn rfl rfl ⟨by first | (rw [letter_of (by omega)]; done) | (rcases Decidable.em ((c.toNat : Int) = 46) with hd | hd; (rw [decide_eq_true hd, letter_of (by omega)]); (rw [decide_eq_false hd, letter_not (by omega)])), rfl⟩
  refine .kDF (t := 11) rfl h1_12 (.gk (.gk (.grun (t := 9) rfl rfl rfl (.u (.pickF rfl rfl) (.u (.pickF rfl rfl) (.m rfl (.grun (t := 17) rfl rfl rfl (.m rfl (.grun (t := 17) rfl rfl rfl (.ui rfl rfl rfl (.grun (t := 17) rfl rfl rfl (.m rfl (.dec (t := 20) rfl (fun h1_20 => ?_) (fun h1_20 => ?_))))))))))))))
  ·refine .kDT (t := 19) rfl h1_20 (.grun (t := 20) rfl rfl rfl (.m rfl (.grun (t := 20) rfl rfl rfl (.ui rfl rfl rfl (.grun (t := 17) rfl rfl rfl (.u (.pickT rfl rfl) (.u (.pickF rfl rfl) (.m rfl (.dec (t := 25) rfl (fun h1_25 => ?_) (fun h1_25 => ?_))))))))))
   ·refine .kDT (t := 22) rfl h1_25 (.kDT (t := 23) rfl h1_25 (.kDT (t := 24) rfl h1_25 (.gk (.gk (.u (.pickT rfl rfl) (.m rfl (.gk (.gk (.u (.pickT rfl rfl) (.m rfl (.gk (.gk (.u (.pickT rfl rfl) (.an rfl (.ret ?_)))))))))))))))
    exact .dn rfl rfl ⟨by first | (rw [letter_of (by omega)]; done) | (rcases Decidable.em ((c.toNat : Int) = 46) with hd | hd; (rw [decide_eq_true hd, letter_of (by omega)]); (rw [decide_eq_false hd, letter_not (by omega)])), rfl⟩
   refine .kDF (t := 22) rfl h1_25 (.kDF (t := 23) rfl h1_25 (.kDF (t := 24) rfl h1_25 (.grun (t := 25) rfl rfl rfl (.m rfl (.grun (t := 25) rfl rfl rfl (.ui rfl rfl rfl (.u (.pickF rfl rfl) (.m rfl (.dec (t := 29) rfl (fun h1_29 => ?_) (fun h1_29 => ?_))))))))))
   ·refine .kDT (t := 27) rfl h1_29 (.kDT (t := 28) rfl h1_29 (.gk (.gk (.u (.pickT rfl rfl) (.m rfl (.gk (.gk (.u (.pickT rfl rfl) (.an rfl (.ret ?_))))))))))
    exact .dn rfl rfl ⟨by first | (rw [letter_of (by omega)]; done) | (rcases Decidable.em ((c.toNat : Int) = 46) with hd | hd; (rw [decide_eq_true hd, letter_of (by omega)]); (rw [decide_eq_false hd, letter_not (by omega)])), rfl⟩
   refine .kDF (t := 27) rfl h1_29 (.kDF (t := 28) rfl h1_29 (.grun (t := 29) rfl rfl rfl (.m rfl (.grun (t := 29) rfl rfl rfl (.ui rfl rfl rfl (.u (.pickF rfl rfl) (.m rfl (.dec (t := 33) rfl (fun h1_33 => ?_) (fun h1_33 => ?_)))))))))
   ·refine .kDT (t := 31) rfl h1_33 (.kDT (t := 32) rfl h1_33 (.gk (.gk (.u (.pickT rfl rfl) (.an rfl (.ret ?_))))))
    exact .dn rfl rfl ⟨by first | (rw [letter_of (by omega)]; done) | (rcases Decidable.em ((c.toNat : Int) = 46) with hd | hd; (rw [decide_eq_true hd, letter_of (by omega)]); (rw [decide_eq_false hd, letter_not (by omega)])), rfl⟩
   refine .kDF (t := 31) rfl h1_33 (.kDF (t := 32) rfl h1_33 (.grun (t := 33) rfl rfl rfl (.m rfl (.grun (t := 33) rfl rfl rfl (.ui rfl rfl rfl (.u (.pickF rfl rfl) (.an rfl (.ret ?_))))))))
   exact .dn rfl rfl ⟨by first | (rw [letter_of (by omega)]; done) | (rcases Decidable.em ((c.toNat : Int) = 46) with hd | hd; (rw [decide_eq_true hd, letter_of (by omega)]); (rw [decide_eq_false hd, letter_not (by omega)])), rfl⟩
  refine .kDF (t := 19) rfl h1_20 (.gk (.gk (.grun (t := 17) rfl rfl rfl (.u (.pickF rfl rfl) (.u (.pickF rfl rfl) (.m rfl (.grun (t := 25) rfl rfl rfl (.m rfl (.grun (t := 25) rfl rfl rfl (.ui rfl rfl rfl (.u (.pickF rfl rfl) (.m rfl (.dec (t := 29) rfl (fun h1_29 => ?_) (fun h1_29 => ?_))))))))))))))
  ·refine .kDT (t := 27) rfl h1_29 (.kDT (t := 28) rfl h1_29 (.gk (.gk (.u (.pickT rfl rfl) (.m rfl (.gk (.gk (.u (.pickT rfl rfl) (.an rfl (.ret ?_))))))))))
   exact .dn rfl rfl ⟨by first | (rw [letter_of (by omega)]; done) | (rcases Decidable.em ((c.toNat : Int) = 46) with hd | hd; (rw [decide_eq_true hd, letter_of (by omega)]); (rw [decide_eq_false hd, letter_not (by omega)])), rfl⟩
  refine .kDF (t := 27) rfl h1_29 (.kDF (t := 28) rfl h1_29 (.grun (t := 29) rfl rfl rfl (.m rfl (.grun (t := 29) rfl rfl rfl (.ui rfl rfl rfl (.u (.pickF rfl rfl) (.m rfl (.dec (t := 33) rfl (fun h1_33 => ?_) (fun h1_33 => ?_)))))))))
  ·refine .kDT (t := 31) rfl h1_33 (.kDT (t := 32) rfl h1_33 (.gk (.gk (.u (.pickT rfl rfl) (.an rfl (.ret ?_))))))
   exact .dn rfl rfl ⟨by first | (rw [letter_of (by omega)]; done) | (rcases Decidable.em ((c.toNat : Int) = 46) with hd | hd; (rw [decide_eq_true hd, letter_of (by omega)]); (rw [decide_eq_false hd, letter_not (by omega)])), rfl⟩
  refine .kDF (t := 31) rfl h1_33 (.kDF (t := 32) rfl h1_33 (.grun (t := 33) rfl rfl rfl (.m rfl (.grun (t := 33) rfl rfl rfl (.ui rfl rfl rfl (.u (.pickF rfl rfl) (.an rfl (.ret ?_))))))))
  exact .dn rfl rfl ⟨by first | (rw [letter_of (by omega)]; done) | (rcases Decidable.em ((c.toNat : Int) = 46) with hd | hd; (rw [decide_eq_true hd, letter_of (by omega)]); (rw [decide_eq_false hd, letter_not (by omega)])), rfl⟩
 refine .kDF (t := 4) rfl h1_5 (.gk (.gk (.u (.pickF rfl rfl) (.m rfl (.grun (t := 9) rfl rfl rfl (.m rfl (.grun (t := 9) rfl rfl rfl (.ui rfl rfl rfl (.grun (t := 9) rfl rfl rfl (.m rfl (.dec (t := 12) rfl (fun h1_12 => ?_) (fun h1_12 => ?_))))))))))))
 ·refine .kDT (t := 11) rfl h1_12 (.grun (t := 12) rfl rfl rfl (.m rfl (.grun (t := 12) rfl rfl rfl (.ui rfl rfl rfl (.grun (t := 9) rfl rfl rfl (.u (.pickT rfl rfl) (.u (.pickF rfl rfl) (.m rfl (.dec (t := 17) rfl (fun h1_17 => ?_) (fun h1_17 => ?_))))))))))
  ·refine .kDT (t := 14) rfl h1_17 (.kDT (t := 15) rfl h1_17 (.kDT (t := 16) rfl h1_17 (.gk (.gk (.gk (.gskipU (t := 20) rfl rfl rfl (.gskipU (t := 20) rfl rfl rfl (.gk (.u (.pickT rfl rfl) (.m rfl (.gk (.gk (.u (.pickT rfl rfl) (.m rfl (.gk (.gk (.u (.pickT rfl rfl) (.m rfl (.gk (.gk (.u (.pickT rfl rfl) (.an rfl (.ret ?_)))))))))))))))))))))))
   exact .dn rfl rfl ⟨by first | (rw [letter_of (by omega)]; done) | (rcases Decidable.em ((c.toNat : Int) = 46) with hd | hd; (rw [decide_eq_true hd, letter_of (by omega)]); (rw [decide_eq_false hd, letter_not (by omega)])), rfl⟩
  refine .kDF (t := 14) rfl h1_17 (.kDF (t := 15) rfl h1_17 (.kDF (t := 16) rfl h1_17 (.grun (t := 17) rfl rfl rfl (.m rfl (.grun (t := 17) rfl rfl rfl (.ui rfl rfl rfl (.grun (t := 17) rfl rfl rfl (.m rfl (.dec (t := 20) rfl (fun h1_20 => ?_) (fun h1_20 => ?_))))))))))
  ·refine .kDT (t := 19) rfl h1_20 (.grun (t := 20) rfl rfl rfl (.m rfl (.grun (t := 20) rfl rfl rfl (.ui rfl rfl rfl (.grun (t := 17) rfl rfl rfl (.u (.pickT rfl rfl) (.u (.pickF rfl rfl) (.m rfl (.dec (t := 25) rfl (fun h1_25 => ?_) (fun h1_25 => ?_))))))))))
   ·refine .kDT (t := 22) rfl h1_25 (.kDT (t := 23) rfl h1_25 (.kDT (t := 24) rfl h1_25 (.gk (.gk (.u (.pickT rfl rfl) (.m rfl (.gk (.gk (.u (.pickT rfl rfl) (.m rfl (.gk (.gk (.u (.pickT rfl rfl) (.an rfl (.ret ?_)))))))))))))))
    exact .dn rfl rfl ⟨by first | (rw [letter_of (by omega)]; done) | (rcases Decidable.em ((c.toNat : Int) = 46) with hd | hd; (rw [decide_eq_true hd, letter_of (by omega)]); (rw [decide_eq_false hd, letter_not (by omega)])), rfl⟩
   refine .kDF (t := 22) rfl h1_25 (.kDF (t := 23) rfl h1_25 (.kDF (t := 24) rfl h1_25 (.grun (t := 25) rfl rfl rfl (.m rfl (.grun (t := 25) rfl rfl rfl (.ui rfl rfl rfl (.u (.pickF rfl rfl) (.m rfl (.dec (t := 29) rfl (fun h1_29 => ?_) (fun h1_29 => ?_))))))))))
   ·refine .kDT (t := 27) rfl h1_29 (.kDT (t := 28) rfl h1_29 (.gk (.gk (.u (.pickT rfl rfl) (.m rfl (.gk (.gk (.u (.pickT rfl rfl) (.an rfl (.ret ?_))))))))))
    exact .dn rfl rfl ⟨by first | (rw [letter_of (by omega)]; done) | (rcases Decidable.em ((c.toNat : Int) = 46) with hd | hd; (rw [decide_eq_true hd, letter_of (by omega)]); (rw [decide_eq_false hd, letter_not (by omega)])), rfl⟩
   refine .kDF (t := 27) rfl h1_29 (.kDF (t := 28) rfl h1_29 (.grun (t := 29) rfl rfl rfl (.m rfl (.grun (t := 29) rfl rfl rfl (.ui rfl rfl rfl (.u (.pickF rfl rfl) (.m rfl (.dec (t := 33) rfl (fun h1_33 => ?_) (fun h1_33 => ?_)))))))))
   ·refine .kDT (t := 31) rfl h1_33 (.kDT (t := 32) rfl h1_33 (.gk (.gk (.u (.pickT rfl rfl) (.an rfl (.ret ?_))))))
    exact .dn rfl rfl ⟨by first | (rw [letter_of (by omega)]; done) | (rcases Decidable.em ((c.toNat : Int) = 46) with hd | hd; (rw [decide_eq_true hd, letter_of (by omega)]); (rw [decide_eq_false hd, letter_not (by omega)])), rfl⟩
   refine .kDF (t := 31) rfl h1_33 (.kDF (t := 32) rfl h1_33 (.grun (t := 33) rfl rfl rfl (.m rfl (.grun (t := 33) rfl rfl rfl (.ui rfl rfl rfl (.u (.pickF rfl rfl) (.an rfl (.ret ?_))))))))
   exact .dn rfl rfl ⟨by first | (rw [letter_of (by omega)]; done) | (rcases Decidable.em ((c.toNat : Int) = 46) with hd | hd; (rw [decide_eq_true hd, letter_of (by omega)]); (rw [decide_eq_false hd, letter_not (by omega)])), rfl⟩
  refine .kDF (t := 19) rfl h1_20 (.gk (.gk (.grun (t := 17) rfl rfl rfl (.u (.pickF rfl rfl) (.u (.pickF rfl rfl) (.m rfl (.grun (t := 25) rfl rfl rfl (.m rfl (.grun (t := 25) rfl rfl rfl (.ui rfl rfl rfl (.u (.pickF rfl rfl) (.m rfl (.dec (t := 29) rfl (fun h1_29 => ?_) (fun h1_29 => ?_))))))))))))))
  ·refine .kDT (t := 27) rfl h1_29 (.kDT (t := 28) rfl h1_29 (.gk (.gk (.u (.pickT rfl rfl) (.m rfl (.gk (.gk (.u (.pickT rfl rfl) (.an rfl (.ret ?_))))))))))
   exact .dn rfl rfl ⟨by first | (rw [letter_of (by omega)]; done) | (rcases Decidable.em ((c.toNat : Int) = 46) with hd | hd; (rw [decide_eq_true hd, letter_of (by omega)]); (rw [decide_eq_false hd, letter_not (by omega)])), rfl⟩
  refine .kDF (t := 27) rfl h1_29 (.kDF (t := 28) rfl h1_29 (.grun (t := 29) rfl rfl rfl (.m rfl (.grun (t := 29) rfl rfl rfl (.ui rfl rfl rfl (.u (.pickF rfl rfl) (.m rfl (.dec (t := 33) rfl (fun h1_33 => ?_) (fun h1_33 => ?_)))))))))
  ·refine .kDT (t := 31) rfl h1_33 (.kDT (t := 32) rfl h1_33 (.gk (.gk (.u (.pickT rfl rfl) (.an rfl (.ret ?_))))))
   exact .dn rfl rfl ⟨by first | (rw [letter_of (by omega)]; done) | (rcases Decidable.em ((c.toNat : Int) = 46) with hd | hd; (rw [decide_eq_true hd, letter_of (by omega)]); (rw [decide_eq_false hd, letter_not (by omega)])), rfl⟩
  refine .kDF (t := 31) rfl h1_33 (.kDF (t := 32) rfl h1_33 (.grun (t := 33) rfl rfl rfl (.m rfl (.grun (t := 33) rfl rfl rfl (.ui rfl rfl rfl (.u (.pickF rfl rfl) (.an rfl (.ret ?_))))))))
  exact .dn rfl rfl ⟨by first | (rw [letter_of (by omega)]; done) | (rcases Decidable.em ((c.toNat : Int) = 46) with hd | hd; (rw [decide_eq_true hd, letter_of (by omega)]); (rw [decide_eq_false hd, letter_not (by omega)])), rfl⟩
 refine .kDF (t := 11) rfl h1_12 (.gk (.gk (.grun (t := 9) rfl rfl rfl (.u (.pickF rfl rfl) (.u (.pickF rfl rfl) (.m rfl (.grun (t := 17) rfl rfl rfl (.m rfl (.grun (t := 17) rfl rfl rfl (.ui rfl rfl rfl (.grun (t := 17) rfl rfl rfl (.m rfl (.dec (t := 20) rfl (fun h1_20 => ?_) (fun h1_20 => ?_))))))))))))))
 ·refine .kDT (t := 19) rfl h1_20 (.grun (t := 20) rfl rfl rfl (.m rfl (.grun (t := 20) rfl rfl rfl (.ui rfl rfl rfl (.grun (t := 17) rfl rfl rfl (.u (.pickT rfl rfl) (.u (.pickF rfl rfl) (.m rfl (.dec (t := 25) rfl (fun h1_25 => ?_) (fun h1_25 => ?_))))))))))
  ·refine .kDT (t := 22) rfl h1_25 (.kDT (t := 23) rfl h1_25 (.kDT (t := 24) rfl h1_25 (.gk (.gk (.u (.pickT rfl rfl) (.m rfl (.gk (.gk (.u (.pickT rfl rfl) (.m rfl (.gk (.gk (.u (.pickT rfl rfl) (.an rfl (.ret ?_)))))))))))))))
   exact .dn rfl rfl ⟨by first | (rw [letter_of (by omega)]; done) | (rcases Decidable.em ((c.toNat : Int) = 46) with hd | hd; (rw [decide_eq_true hd, letter_of (by omega)]); (rw [decide_eq_false hd, letter_not (by omega)])), rfl⟩
  refine .kDF (t := 22) rfl h1_25 (.kDF (t := 23) rfl h1_25 (.kDF (t := 24) rfl h1_25 (.grun (t := 25) rfl rfl rfl (.m rfl (.grun (t := 25) rfl rfl rfl (.ui rfl rfl rfl (.u (.pickF rfl rfl) (.m rfl (.dec (t := 29) rfl (fun h1_29 => ?_) (fun h1_29 => ?_))))))))))
  ·refine .kDT (t := 27) rfl h1_29 (.kDT (t := 28) rfl h1_29 (.gk (.gk (.u (.pickT rfl rfl) (.m rfl (.gk (.gk (.u (.pickT rfl rfl) (.an rfl (.ret ?_))))))))))
   exact .dn rfl rfl ⟨by first | (rw [letter_of (by omega)]; done) | (rcases Decidable.em ((c.toNat : Int) = 46) with hd | hd; (rw [decide_eq_true hd, letter_of (by omega)]); (rw [decide_eq_false hd, letter_not (by omega)])), rfl⟩
  refine .kDF (t := 27) rfl h1_29 (.kDF (t := 28) rfl h1_29 (.grun (t := 29) rfl rfl rfl (.m rfl (.grun (t := 29) rfl rfl rfl (.ui rfl rfl rfl (.u (.pickF rfl rfl) (.m rfl (.dec (t := 33) rfl (fun h1_33 => ?_) (fun h1_33 => ?_)))))))))
  ·refine .kDT (t := 31) rfl h1_33 (.kDT (t := 32) rfl h1_33 (.gk (.gk (.u (.pickT rfl rfl) (.an rfl (.ret ?_))))))
   exact .dn rfl rfl ⟨by first | (rw [letter_of (by omega)]; done) | (rcases Decidable.em ((c.toNat : Int) = 46) with hd | hd; (rw [decide_eq_true hd, letter_of (by omega)]); (rw [decide_eq_false hd, letter_not (by omega)])), rfl⟩
  refine .kDF (t := 31) rfl h1_33 (.kDF (t := 32) rfl h1_33 (.grun (t := 33) rfl rfl rfl (.m rfl (.grun (t := 33) rfl rfl rfl (.ui rfl rfl rfl (.u (.pickF rfl rfl) (.an rfl (.ret ?_))))))))
  exact .dn rfl rfl ⟨by first | (rw [letter_of (by omega)]; done) | (rcases Decidable.em ((c.toNat : Int) = 46) with hd | hd; (rw [decide_eq_true hd, letter_of (by omega)]); (rw [decide_eq_false hd, letter_not (by omega)])), rfl⟩
 refine .kDF (t := 19) rfl h1_20 (.gk (.gk (.grun (t := 17) rfl rfl rfl (.u (.pickF rfl rfl) (.u (.pickF rfl rfl) (.m rfl (.grun (t := 25) rfl rfl rfl (.m rfl (.grun (t := 25) rfl rfl rfl (.ui rfl rfl rfl (.u (.pickF rfl rfl) (.m rfl (.dec (t := 29) rfl (fun h1_29 => ?_) (fun h1_29 => ?_))))))))))))))
 ·refine .kDT (t := 27) rfl h1_29 (.kDT (t := 28) rfl h1_29 (.gk (.gk (.u (.pickT rfl rfl) (.m rfl (.gk (.gk (.u (.pickT rfl rfl) (.an rfl (.ret ?_))))))))))
  exact .dn rfl rfl ⟨by first | (rw [letter_of (by omega)]; done) | (rcases Decidable.em ((c.toNat : Int) = 46) with hd | hd; (rw [decide_eq_true hd, letter_of (by omega)]); (rw [decide_eq_false hd, letter_not (by omega)])), rfl⟩
 refine .kDF (t := 27) rfl h1_29 (.kDF (t := 28) rfl h1_29 (.grun (t := 29) rfl rfl rfl (.m rfl (.grun (t := 29) rfl rfl rfl (.ui rfl rfl rfl (.u (.pickF rfl rfl) (.m rfl (.dec (t := 33) rfl (fun h1_33 => ?_) (fun h1_33 => ?_)))))))))
 ·refine .kDT (t := 31) rfl h1_33 (.kDT (t := 32) rfl h1_33 (.gk (.gk (.u (.pickT rfl rfl) (.an rfl (.ret ?_))))))
  exact .dn rfl rfl ⟨by first | (rw [letter_of (by omega)]; done) | (rcases Decidable.em ((c.toNat : Int) = 46) with hd | hd; (rw [decide_eq_true hd, letter_of (by omega)]); (rw [decide_eq_false hd, letter_not (by omega)])), rfl⟩
 refine .kDF (t := 31) rfl h1_33 (.kDF (t := 32) rfl h1_33 (.grun (t := 33) rfl rfl rfl (.m rfl (.grun (t := 33) rfl rfl rfl (.ui rfl rfl rfl (.u (.pickF rfl rfl) (.an rfl (.ret ?_))))))))
 exact .dn rfl rfl ⟨by first | (rw [letter_of (by omega)]; done) | (rcases Decidable.em ((c.toNat : Int) = 46) with hd | hd; (rw [decide_eq_true hd, letter_of (by omega)]); (rw [decide_eq_false hd, letter_not (by omega)])), rfl⟩
theorem risname_spec (s : Bs) (hs : s.length ≤ 1099511627776) : Fn Tryz.prog 136 #[vstr s] [] fun v L => v = .bool (isNameZ s) ∧ L = [] := by
 refine Fn.intro Tryz.func136 rfl rfl fun F W => ?_
 have hbs := bs_size s
 refine .sr (.an rfl (.seq (.sm rfl (.u (.streq rfl rfl) (.m rfl (.dec (t := 7) rfl (fun h1_7 => ?_) (fun h1_7 => ?_)))))))
 ·refine .kDT (t := 6) rfl h1_7 (.gk (.gk (.u (.pickT rfl rfl) (.m rfl (.gk (.gk (.u (.pickT rfl rfl) (.nt (.condT rfl (.sr (.an rfl (.rt ?_))))))))))))
  exact .dn rfl rfl ⟨by rw [show isNameZ s = false by unfold isNameZ; first | (rw [show s = [] from by assumption]; rfl) | (rw [show s = [46] from by assumption]; rfl) | (rw [show s = [46, 46] from by assumption]; rfl)], rfl⟩
 refine .kDF (t := 6) rfl h1_7 (.grun (t := 7) rfl rfl rfl (.m rfl (.grun (t := 7) rfl rfl rfl (.u (.streq rfl rfl) (.u (.pickF rfl rfl) (.m rfl (.dec (t := 11) rfl (fun h1_11 => ?_) (fun h1_11 => ?_))))))))
 ·refine .kDT (t := 9) rfl h1_11 (.kDT (t := 10) rfl h1_11 (.gk (.gk (.u (.pickT rfl rfl) (.nt (.condT rfl (.sr (.an rfl (.rt ?_)))))))))
  exact .dn rfl rfl ⟨by rw [show isNameZ s = false by unfold isNameZ; first | (rw [show s = [] from by assumption]; rfl) | (rw [show s = [46] from by assumption]; rfl) | (rw [show s = [46, 46] from by assumption]; rfl)], rfl⟩
 refine .kDF (t := 9) rfl h1_11 (.kDF (t := 10) rfl h1_11 (.grun (t := 11) rfl rfl rfl (.m rfl (.grun (t := 11) rfl rfl rfl (.u (.streq rfl rfl) (.u (.pickF rfl rfl) (.nt (.condD rfl (fun h14 => ?_) (fun h14 => ?_)))))))))
 ·refine .sr (.an rfl (.rt ?_))
  exact .dn rfl rfl ⟨by rw [show isNameZ s = false by unfold isNameZ; first | (rw [show s = [] from by assumption]; rfl) | (rw [show s = [46] from by assumption]; rfl) | (rw [show s = [46, 46] from by assumption]; rfl)], rfl⟩
 refine .sk (.seq (.sr (.an rfl (.block (.loopK (ι := Nat) (fun q E => (3, vint q) :: E) (fun q => []) (fun q => q ≤ s.length ∧ (s.take q).all letterB = true) (fun q => s.length - q) (0) (ts := [0]) (.cons rfl (.nil)) (⟨Nat.zero_le _, rfl⟩) ⟨rfl, rfl, trivial⟩ (by repeat' constructor) ?_)))))
 rintro i ⟨hi, hall⟩
 refine .seq (.sm rfl (.m rfl (.q (.strlen rfl Tryz.underlying9 rfl) rfl (.ui rfl rfl rfl (.nt (.condD rfl (fun h18 => ?_) (fun h18 => ?_)))))))
 ·have hi2 : i < s.length := by omega
  refine .sk (.seq (.block (.sm rfl (.m rfl (.q (.strIndex (c := s[i]) rfl rfl Tryz.underlying9 (by omega) (by simp)) rfl (.cv Tryz.func191 [_] (rletter_spec _) ?_))))))
  refine .an rfl (.sm rfl (.u (.not rfl) (.nt (.condB rfl (fun h26 => ?_) (fun h26 => ?_)))))
  ·refine .sr (.an rfl (.ret (.blk_r (.then_r (.then_r (.blk_r (.then_r ?_)))))))
   exact .dn rfl rfl ⟨by rw [name_bad hi2 (by simpa using h26)], rfl⟩
  refine .skip (.blk_n (.then_n (.region (.m rfl (.q (.add rfl rfl (by omega)) rfl (.an rfl ?_))))))
  exact .rk (i + 1) (⟨by omega, all_next hi2 hall (by simpa using h26)⟩) (by omega) ⟨rfl, rfl, trivial⟩
 have hii : i = s.length := by omega
 rw [hii, List.take_length] at hall
 refine .exit (.then_e (.then_e (.blk_e (.then_n (.sr (.an rfl (.ret ?_)))))))
 exact .dn rfl rfl ⟨by rw [show isNameZ s = true by unfold isNameZ; rw [decide_eq_false h1_7, decide_eq_false h1_11, decide_eq_false h14, hall]; rfl], rfl⟩
theorem rnames_spec (s : Bs) (hs : s.length ≤ 1099511627776) : Fn Tryz.prog 85 #[vstr s] [] fun v L => ∃ (n : Nat) (b : Bool), (∃ a c, v = .tuple #[.slice a n c, .bool b]) ∧ b = okZ s ∧ (b = true → n = (segsZ s).length) ∧ L = [] := by
 refine Fn.intro Tryz.func85 rfl rfl fun F W => ?_
 refine .add (slR_nil 9 1) (.sr (.a rfl (.an rfl (.sr (.an rfl (.seq (.block (.loopK (ι := Bs × Value × (List Bs)) (fun q E => (0, vstr q.1) :: (4, q.2.1) :: E) (fun q => [slR 9 1 q.2.1 q.2.2.length (strs q.2.2)]) (fun q => (∃ a c, q.2.1 = .slice a q.2.2.length c) ∧ q.2.2.all isNameZ = true ∧ segsZ s = q.2.2 ++ segsZ q.1 ∧ q.1.length + q.2.2.length ≤ s.length ∧ (q.2.2 = [] → q.1 = s) ∧ (q.2.2 ≠ [] → s.head? = some 47 ∧ (q.1 = [] ∨ q.1.head? = some 47))) (fun q => q.1.length) (s, .slice none 0 0, []) (ts := []) (.nil) (⟨⟨none, 0, rfl⟩, rfl, rfl, by simp, fun _ => rfl, fun h => absurd rfl h⟩) ⟨rfl, rfl, trivial⟩ (by repeat' constructor) ?_))))))))
 rintro ⟨cur, u, acc⟩ ⟨⟨au, cu, hu⟩, hall, hseg, hcl, hfst, hrest⟩
 dsimp only
 dsimp only at hu hall hseg hcl hfst hrest
 subst hu
 have hbs := bs_size cur
 refine .seq (.sm rfl (.u (.strne rfl rfl) (.nt (.condN rfl (fun h8 => ?_) (fun h8 => ?_)))))
 ·obtain ⟨c0, r, rfl⟩ : ∃ c0 r, cur = c0 :: r := by cases cur with | nil => exact absurd rfl h8 | cons c r => exact ⟨c, r, rfl⟩
  have hrl : (c0 :: r).length = r.length + 1 := rfl
  refine .sk (.block (.seq (.sm rfl (.q (.strIndex (c := c0) rfl rfl Tryz.underlying9 (by omega) (by simp)) rfl (.ui rfl rfl rfl (.nt (.condN rfl (fun h11 => ?_) (fun h11 => ?_))))))))
  ·refine .sr (.a rfl (.an rfl (.rt (.blk_r (.then_r (.blk_r (.then_r ?_)))))))
   exact .dn rfl rfl ⟨_, _, ⟨_, _, rfl⟩, (by rw [show okZ s = false by unfold okZ; rcases acc with _ | ⟨x, l⟩; (rw [← hfst rfl]; simp; intro e; exact absurd (by rw [e]; rfl) h11); (obtain ⟨-, g⟩ := hrest (by simp); rcases g with g | g; (cases g); (simp at g; exact absurd (by rw [g]; rfl) h11))]), (fun h => by cases h), rfl⟩
  have hc0 : c0 = 47 := byte_eq (d := 47) (by first | exact h11 | simpa using h11)
  subst hc0
  have hs47 : s.head? = some 47 := by rcases acc with _ | ⟨x, l⟩; rw [← hfst rfl]; rfl; exact (hrest (by simp)).1
  refine .sk (.sr (.an rfl (.seq (.joinK (ι := Nat) (fun q E => (5, vint q) :: E) (fun q => []) (fun q => 1 ≤ q ∧ q ≤ r.length + 1 ∧ (∀ j, j < q - 1 → r.getD j 0 ≠ 47) ∧ (q - 1 = r.length ∨ r.getD (q - 1) 0 = 47)) (pre := []) (ts := [0, 4, 7, 8, 9, 10, 11]) (.cons rfl (.cons rfl (.cons rfl (.cons rfl (.cons rfl (.cons rfl (.cons rfl (.nil)))))))) (by repeat' constructor) ?_ ?_))))
  ·refine .block (.loopK (ι := Nat) (fun q E => (5, vint q) :: E) (fun q => []) (fun q => 1 ≤ q ∧ q ≤ r.length + 1 ∧ ∀ j, j < q - 1 → r.getD j 0 ≠ 47) (fun q => r.length + 1 - q) (1) (ts := [0, 4, 7, 8, 9, 10, 11]) (.cons rfl (.cons rfl (.cons rfl (.cons rfl (.cons rfl (.cons rfl (.cons rfl (.nil)))))))) (⟨by omega, by omega, fun j hj => by omega⟩) ⟨rfl, rfl, rfl, rfl, rfl, rfl, rfl, rfl, trivial⟩ (by repeat' constructor) ?_)
   rintro n ⟨hn1, hn2, hno⟩
   refine .seq (.sm rfl (.m rfl (.q (.strlen rfl Tryz.underlying9 rfl) rfl (.ui rfl rfl rfl (.m rfl (.dec (t := 16) rfl (fun h6_16 => ?_) (fun h6_16 => ?_)))))))
   ·have hn3 : n < r.length + 1 := by omega
    have hn4 : n - 1 < r.length := by omega
    have hat : (47 :: r)[n]? = some r[n - 1] := by obtain ⟨m, rfl⟩ : ∃ m, n = m + 1 := ⟨n - 1, by omega⟩; simp [show m < r.length by omega]
    refine .kDT (t := 15) rfl h6_16 (.grun (t := 16) rfl rfl rfl (.m rfl (.grun (t := 16) rfl rfl rfl (.m rfl (.grun (t := 16) rfl rfl rfl (.q (.strIndex (c := r[n - 1]) rfl rfl Tryz.underlying9 (by omega) (by rw [Int.toNat_natCast]; exact hat)) rfl (.grun (t := 16) rfl rfl rfl (.ui rfl rfl rfl (.u (.pickT rfl rfl) (.nt (.condN rfl (fun h21 => ?_) (fun h21 => ?_))))))))))))
    ·have hne : r[n - 1] ≠ 47 := fun e => h21 (by rw [e]; rfl)
     refine .sk (.block (.region (.m rfl (.q (.add rfl rfl (by omega)) rfl (.a rfl (.nil (.blk_n (.then_n ?_))))))))
     exact .rk (n + 1) (⟨by omega, by omega, fun j hj => by by_cases e : j = n - 1; (subst e; rw [List.getD_eq_getElem?_getD, List.getElem?_eq_getElem hn4, Option.getD_some]; exact hne); exact hno j (by omega)⟩) (by omega) ⟨rfl, rfl, rfl, rfl, rfl, rfl, rfl, rfl, trivial⟩
    have hlast : r[n - 1] = 47 := byte_eq (d := 47) (by first | exact h21 | simpa using h21)
    refine .exit (.then_e (.then_e (.blk_e (.then_n ?_))))
    exact .mk (n) (⟨hn1, hn2, hno, .inr (by rw [List.getD_eq_getElem?_getD, List.getElem?_eq_getElem hn4, Option.getD_some]; exact hlast)⟩) ⟨rfl, rfl, rfl, rfl, rfl, rfl, rfl, rfl, trivial⟩
   refine .kDF (t := 15) rfl h6_16 (.gk (.gk (.gk (.gk (.u (.pickF rfl rfl) (.nt (.condF rfl (.exit (.then_e (.then_e (.blk_e (.then_n ?_))))))))))))
   exact .mk (n) (⟨hn1, hn2, hno, .inl (by omega)⟩) ⟨rfl, rfl, rfl, rfl, rfl, rfl, rfl, rfl, trivial⟩
  rintro n ⟨hn1, hn2, hno, hend⟩
  have hstep := seg_step (r := r) (k := n - 1) (by omega) hno hend
  have htk : ((47 :: r).take n).drop 1 = r.take (n - 1) := by obtain ⟨m, rfl⟩ : ∃ m, n = m + 1 := ⟨n - 1, by omega⟩; simp
  have hdr : (47 :: r).drop n = r.drop (n - 1) := by obtain ⟨m, rfl⟩ : ∃ m, n = m + 1 := ⟨n - 1, by omega⟩; simp
  have hsplit : segsZ (47 :: r) = ((47 :: r).take n).drop 1 :: segsZ ((47 :: r).drop n) := by rw [htk, hdr]; exact hstep
  have hdrop : (47 :: r).drop n = [] ∨ ((47 :: r).drop n).head? = some 47 := by rw [hdr]; rcases hend with h | h; (left; rw [h, List.drop_length]); (rcases Nat.lt_or_ge (n - 1) r.length with g | g; (right; rw [List.drop_eq_getElem_cons g]; rw [List.getD_eq_getElem?_getD, List.getElem?_eq_getElem g, Option.getD_some] at h; rw [h]; rfl); (left; exact List.drop_eq_nil_of_le g))
  refine .sm rfl (.m rfl (.q (.to (v' := vstr (((47 :: r).take n).drop 1)) (.strMid (i := 1) (j := n) rfl rfl rfl Tryz.underlying9 (by omega)) (by rw [Int.toNat_natCast]; rfl)) rfl (.oq (.call Tryz.func136 rfl rfl (vs := [_]) rfl (risname_spec _ (by simp; omega))) ?_)))
  rintro v L' ⟨rfl, rfl⟩
  refine .an rfl (.seq (.sm rfl (.u (.not rfl) (.nt (.condB rfl (fun h29 => ?_) (fun h29 => ?_))))))
  ·refine .sr (.a rfl (.an rfl (.rt (.blk_r (.then_r (.blk_r (.then_r ?_)))))))
   exact .dn rfl rfl ⟨_, _, ⟨_, _, rfl⟩, (by rw [show okZ s = false by unfold okZ; rw [hseg, hsplit, List.all_append, List.all_cons]; rw [show isNameZ (((47 :: r).take n).drop 1) = false by simpa using h29]; simp]), (fun h => by cases h), rfl⟩
  refine .sk (.sm rfl (.m rfl (.m rfl (.q (.to (v' := vstr (((47 :: r).take n).drop 1)) (.strMid (i := 1) (j := n) rfl rfl rfl Tryz.underlying9 (by omega)) (by rw [Int.toNat_natCast]; rfl)) rfl (.oq (.buildSlice1 (vs := [_]) el_23 ze_9 rfl rfl rfl rfl rfl (by decide)) ?_)))))
  rintro v L' ⟨b11_4, rfl, rfl⟩
  refine .oq (.append1 rfl rfl rfl el_23 ze_9 rfl rfl ?c37 ?c38 (Nat.le_refl _) ?c39 (by decide)) ?_
  case c37 => (first | (simp [isCell]; done) | (simp [isCell, setAll, Value.cells]; done))
  case c38 => rfl
  case c39 => omega
  rintro v L' ⟨⟨a11_5, c11_5, rfl⟩, rfl⟩
  refine .an rfl (.region (.m rfl (.m rfl (.q (.to (v' := vstr ((47 :: r).drop n)) (.strFrom (i := n) rfl rfl Tryz.underlying9 (by omega)) (by simp)) rfl (.a rfl (.nil (.blk_n (.then_n ?_))))))))
  have hin := h29
  rw [show strs acc ++ [vstr (((47 :: r).take n).drop 1)] = strs (acc ++ [((47 :: r).take n).drop 1]) by simp [strs], show acc.length + 1 = (acc ++ [((47 :: r).take n).drop 1]).length by simp]
  exact .rk (((47 :: r).drop n, .slice a11_5 (acc ++ [((47 :: r).take n).drop 1]).length c11_5, acc ++ [((47 :: r).take n).drop 1])) (⟨⟨_, _, rfl⟩, by dsimp only; rw [List.all_append, hall]; simpa using hin, by dsimp only; rw [hseg, hsplit, List.append_assoc]; rfl, by dsimp only; rw [List.length_drop, List.length_append]; simp; omega, fun h => by simp at h, fun _ => ⟨hs47, hdrop⟩⟩) (by dsimp only; rw [List.length_drop]; omega) ⟨rfl, rfl, trivial⟩
 have hcn : cur = [] := h8
 subst hcn
 refine .exit (.then_e (.then_e (.blk_e (.then_n (.sm rfl (.m rfl (.q (.slen rfl Tryz.underlying23 rfl) rfl (.ui rfl rfl rfl (.a rfl (.an rfl (.ret ?_)))))))))))
 exact .dn rfl rfl ⟨_, _, ⟨_, _, rfl⟩, (by unfold okZ; rw [hseg, show segsZ [] = [] from rfl, List.append_nil, hall, Bool.and_true]; refine decide_eq_decide.2 ?_; rcases acc with _ | ⟨x, l⟩; (rw [← hfst rfl]; simp); (simp only [(hrest (by simp)).1, iff_true, List.length_cons]; omega)), (fun _ => by rw [hseg]; simp [segsZ]), rfl⟩
theorem rcheck_spec (s : Bs) (hs : s.length ≤ 1099511627776) : Fn Tryz.prog 39 #[vstr s] [] fun v L => v = vint (checkZ s) ∧ L = [] := by
 refine Fn.intro Tryz.func39 rfl rfl fun F W => ?_
 have hbs := bs_size s
 refine .sr (.an rfl (.seq (.sm rfl (.u (.streq rfl rfl) (.nt (.condD rfl (fun h6 => ?_) (fun h6 => ?_)))))))
 ·refine .sr (.an rfl (.rt ?_))
  exact .dn rfl rfl ⟨by rw [show s = [47] from h6]; rfl, rfl⟩
 have hchk := check_ok h6
 refine .sk (.sm rfl (.oq (.c Tryz.func85 [_] (rnames_spec s hs)) ?_))
 rintro v L' ⟨nn, b, ⟨a3, c3, rfl⟩, hb, hnn, rfl⟩
 refine .m rfl (.u (.extract rfl rfl) (.u (.extract rfl rfl) (.a rfl (.an rfl (.seq (.sm rfl (.u (.not rfl) (.nt (.condB rfl (fun h13 => ?_) (fun h13 => ?_))))))))))
 ·have hbf : b = false := by simpa using h13
  rw [← hb, hbf, if_neg (by simp)] at hchk
  refine .sr (.an rfl (.rt ?_))
  exact .dn rfl rfl ⟨by rw [hchk], rfl⟩
 have hbt : b = true := by simpa using h13
 have hnl := hnn hbt
 rw [← hb, hbt, if_pos rfl] at hchk
 refine .sk (.seq (.sm rfl (.q (.strlen rfl Tryz.underlying9 rfl) rfl (.ui rfl rfl rfl (.m rfl (.dec (t := 17) rfl (fun h6_17 => ?_) (fun h6_17 => ?_)))))))
 ·refine .kDT (t := 16) rfl h6_17 (.gk (.gk (.gk (.u (.pickT rfl rfl) (.nt (.condT rfl (.sr (.an rfl (.rt ?_)))))))))
  exact .dn rfl rfl ⟨by rw [hchk, if_pos (by left; omega)], rfl⟩
 refine .kDF (t := 16) rfl h6_17 (.grun (t := 17) rfl rfl rfl (.m rfl (.grun (t := 17) rfl rfl rfl (.q (.slen rfl Tryz.underlying23 rfl) rfl (.grun (t := 17) rfl rfl rfl (.ui rfl rfl rfl (.u (.pickF rfl rfl) (.nt (.condD rfl (fun h21 => ?_) (fun h21 => ?_))))))))))
 ·refine .sr (.an rfl (.rt ?_))
  exact .dn rfl rfl ⟨by rw [hchk, if_pos (by right; omega)], rfl⟩
 refine .sk (.sr (.an rfl (.ret ?_)))
 exact .dn rfl rfl ⟨by rw [hchk, if_neg (by omega)], rfl⟩
theorem rslash_spec (s : Bs) (hs : s.length ≤ 1099511627776) : Fn Tryz.prog 171 #[vstr s] [] fun v L => v = vint (lidxZ s) ∧ L = [] := by
 refine Fn.intro Tryz.func171 rfl rfl fun F W => ?_
 have hbs := bs_size s
 refine .sr (.an rfl (.seq (.sm rfl (.q (.strlen rfl Tryz.underlying9 rfl) rfl (.q (.sub rfl rfl (by omega)) rfl (.an rfl (.block (.loopK (ι := Nat) (fun q E => (3, vint (dnL s.length q)) :: E) (fun q => []) (fun q => q ≤ s.length ∧ lidxTo s (s.length - q) = lidxZ s) (fun q => s.length - q) (0) (ts := [0]) (.cons rfl (.nil)) (⟨Nat.zero_le _, rfl⟩) ⟨rfl, rfl, trivial⟩ (by repeat' constructor) ?_))))))))
 rintro k ⟨hk, hl⟩
 have hdn := dnL_eq s.length k
 refine .seq (.sm rfl (.ui rfl rfl rfl (.nt (.condD rfl (fun h8 => ?_) (fun h8 => ?_)))))
 ·have hk2 : k < s.length := by omega
  have hat : s[s.length - (k + 1)] = s.getD (s.length - (k + 1)) 0 := by rw [List.getD_eq_getElem?_getD, List.getElem?_eq_getElem (by omega), Option.getD_some]
  refine .sk (.seq (.block (.sm rfl (.m rfl (.q (.strIndex (c := s[s.length - (k + 1)]) rfl rfl Tryz.underlying9 (by omega) (by rw [show (dnL s.length k).toNat = s.length - (k + 1) by omega]; simp [show s.length - (k + 1) < s.length by omega])) rfl (.ui rfl rfl rfl (.nt (.condD rfl (fun h14 => ?_) (fun h14 => ?_)))))))))
  ·have he : s.getD (s.length - (k + 1)) 0 = 47 := by rw [← hat]; exact byte_eq h14
   refine .sm rfl (.an rfl (.ret (.blk_r (.then_r (.then_r (.blk_r (.then_r ?_)))))))
   exact .dn rfl rfl ⟨by rw [← hl, show s.length - k = (s.length - (k + 1)) + 1 by omega, lidxTo, if_pos he, hdn]; congr 1; omega, rfl⟩
  have hne : ¬ s.getD (s.length - (k + 1)) 0 = 47 := by rw [← hat]; exact fun e => h14 (by rw [e]; rfl)
  refine .skip (.blk_n (.then_n (.region (.m rfl (.q (.sub rfl rfl (by omega)) rfl (.an rfl ?_))))))
  exact .rk (k + 1) (⟨by omega, by rw [← hl, show s.length - k = (s.length - (k + 1)) + 1 by omega, lidxTo, if_neg hne]⟩) (by omega) ⟨rfl, rfl, trivial⟩
 refine .exit (.then_e (.then_e (.blk_e (.then_n (.sr (.an rfl (.ret ?_)))))))
 exact .dn rfl rfl ⟨by rw [← hl, show s.length - k = 0 by omega]; rfl, rfl⟩
theorem rparent_spec (s : Bs) (hs : s.length ≤ 1099511627776) : Fn Tryz.prog 110 #[vstr s] [] fun v L => v = vstr (parentZ s) ∧ L = [] := by
 refine Fn.intro Tryz.func110 rfl rfl fun F W => ?_
 have hr := lidx_range s
 refine .sr (.an rfl (.sm rfl (.oq (.c Tryz.func171 [_] (rslash_spec _ ?hs3)) ?_)))
 case hs3 => first | assumption | omega
 rintro v L' ⟨rfl, rfl⟩
 refine .an rfl (.seq (.sm rfl (.ui rfl rfl rfl (.m rfl (.dec (t := 8) rfl (fun h2_8 => ?_) (fun h2_8 => ?_))))))
 ·refine .kDT (t := 7) rfl h2_8 (.gk (.gk (.u (.pickT rfl rfl) (.nt (.condT rfl (.sr (.an rfl (.rt ?_))))))))
  exact .dn rfl rfl ⟨by unfold parentZ; rw [if_pos (by first | exact .inl (by omega) | exact .inr (by assumption))], rfl⟩
 refine .kDF (t := 7) rfl h2_8 (.grun (t := 8) rfl rfl rfl (.m rfl (.grun (t := 8) rfl rfl rfl (.u (.streq rfl rfl) (.u (.pickF rfl rfl) (.nt (.dec (t := 11) rfl (fun h11 => ?_) (fun h11 => ?_))))))))
 ·refine .condT rfl (.sr (.an rfl (.rt ?_)))
  exact .dn rfl rfl ⟨by unfold parentZ; rw [if_pos (by first | exact .inl (by omega) | exact .inr (by assumption))], rfl⟩
 refine .condF rfl (.sk (.seq (.sm rfl (.ui rfl rfl rfl (.nt (.condD rfl (fun h13 => ?_) (fun h13 => ?_)))))))
 ·refine .sr (.an rfl (.rt ?_))
  exact .dn rfl rfl ⟨by unfold parentZ; rw [if_neg (by rintro (g | g); omega; exact absurd g h11), if_pos h13], rfl⟩
 refine .sk (.sm rfl (.m rfl (.q (.strTo rfl rfl Tryz.underlying9 (by omega)) rfl (.an rfl (.ret ?_)))))
 exact .dn rfl rfl ⟨by unfold parentZ; rw [if_neg (by rintro (g | g); omega; exact absurd g h11), if_neg h13], rfl⟩
theorem rbase_spec (s : Bs) (hs : s.length ≤ 1099511627776) : Fn Tryz.prog 121 #[vstr s] [] fun v L => v = vstr (baseZ s) ∧ L = [] := by
 refine Fn.intro Tryz.func121 rfl rfl fun F W => ?_
 have hr := lidx_range s
 refine .sr (.an rfl (.sm rfl (.m rfl (.oq (.c Tryz.func171 [_] (rslash_spec _ ?hs4)) ?_))))
 case hs4 => first | assumption | omega
 rintro v L' ⟨rfl, rfl⟩
 refine .q (.add rfl rfl (by omega)) rfl (.q (.strFrom rfl rfl Tryz.underlying9 (by omega)) rfl (.an rfl (.ret ?_)))
 exact .vv
theorem rkid_spec (s name : Bs) (hs : s.length ≤ 1099511627776) (hn : name.length ≤ 1099511627776) : Fn Tryz.prog 215 #[vstr s, vstr name] [] fun v L => v = vstr (kidZ s name) ∧ L = [] := by
 refine Fn.intro Tryz.func215 rfl rfl fun F W => ?_
 refine .sr (.an rfl (.seq (.sm rfl (.u (.streq rfl rfl) (.nt (.condD rfl (fun h6 => ?_) (fun h6 => ?_)))))))
 ·refine .sm rfl (.m rfl (.q (.concat rfl rfl (by omega)) rfl (.an rfl (.rt ?_))))
  exact .dn rfl rfl ⟨by unfold kidZ; rw [if_pos h6, h6], rfl⟩
 refine .sk (.sm rfl (.q (.concat rfl rfl (by simp; omega)) rfl (.m rfl (.q (.concat rfl rfl (by simp; omega)) rfl (.an rfl (.ret ?_))))))
 exact .dn rfl rfl ⟨by unfold kidZ; rw [if_neg h6], rfl⟩
theorem runder_spec (s q0 : Bs) (hq : q0.length ≤ 1099511627776) : Fn Tryz.prog 186 #[vstr s, vstr q0] [] fun v L => v = .bool (decide (underZ s q0)) ∧ L = [] := by
 refine Fn.intro Tryz.func186 rfl rfl fun F W => ?_
 have hb1 := bs_size s
 have hb2 := bs_size (kidZ q0 [])
 have hkl := kid_len q0 []
 refine .sr (.an rfl (.sm rfl (.cv Tryz.func215 [_, _] (rkid_spec q0 [] (by omega) (by simp)) ?_)))
 refine .an rfl (.sm rfl (.q (.strlen rfl Tryz.underlying9 rfl) rfl (.m rfl (.q (.strlen rfl Tryz.underlying9 rfl) rfl (.ui rfl rfl rfl (.m rfl (.dec (t := 13) rfl (fun h2_13 => ?_) (fun h2_13 => ?_))))))))
 ·refine .kDT (t := 12) rfl h2_13 (.grun (t := 13) rfl rfl rfl (.m rfl (.grun (t := 13) rfl rfl rfl (.m rfl (.grun (t := 13) rfl rfl rfl (.q (.strlen rfl Tryz.underlying9 rfl) rfl (.grun (t := 13) rfl rfl rfl (.q (.to (v' := vstr (s.take (kidZ q0 []).length)) (.strTo rfl rfl Tryz.underlying9 (by omega)) (by rw [Int.toNat_natCast])) rfl (.grun (t := 13) rfl rfl rfl (.m rfl (.grun (t := 13) rfl rfl rfl (.u (.streq rfl rfl) (.u (.pickT rfl rfl) (.an rfl (.ret ?_)))))))))))))))
  exact .dn rfl rfl ⟨by congr 1; exact decide_eq_decide.2 ⟨fun e => ⟨e, fun g => by rw [g] at h2_13; omega⟩, fun e => e.1⟩, rfl⟩
 refine .kDF (t := 12) rfl h2_13 (.gk (.gk (.gk (.gk (.gk (.gk (.u (.pickF rfl rfl) (.an rfl (.ret ?_)))))))))
 exact .dn rfl rfl ⟨by rw [decide_eq_false (fun e => by obtain ⟨e1, e2⟩ := e; unfold pfx at e1; have h3 := congrArg List.length e1; rw [List.length_take] at h3; exact e2 (by rw [← e1, List.take_of_length_le (by omega)]))], rfl⟩
theorem rplace_spec (x : Nat) (τ : Tr) (p : Bs) (hn : τ.nodes.length ≤ 1099511627776) : Fn Tryz.prog 95 #[vptr x, vstr p] [refR x τ] fun v L => v = vint (placeZ τ p) ∧ L = [refR x τ] := by
 refine Fn.intro Tryz.func95 rfl rfl fun F W => ?_
 refine .rtOpen (x := x) (τ := τ) (by repeat' constructor) fun an cn as1 cs l hl => ?_
 have hll := nds_len hl
 refine .sr (.an rfl (.seq (.sr (.an rfl (.block (.loopK (ι := Nat) (fun q E => (5, vint q) :: E) (fun q => []) (fun q => q ≤ l.length ∧ ∀ j (hj : j < q), ∀ (hj2 : j < l.length), l[j].1 ≠ p) (fun q => l.length - q) (0) (ts := [0, 1]) (.cons rfl (.cons rfl (.nil))) (⟨Nat.zero_le _, fun j hj => by omega⟩) ⟨rfl, rfl, rfl, trivial⟩ (by repeat' constructor) ?_))))))
 rintro i ⟨hi, hno⟩
 refine .seq (.sm rfl (.m rfl (.nf rfl fo_110_0 (.u (.ld rfl ag_107) (.q (.slen rfl Tryz.underlying107 rfl) rfl (.ui rfl rfl rfl (.nt (.condD rfl (fun h12 => ?_) (fun h12 => ?_)))))))))
 ·have hi2 : i < l.length := by omega
  refine .slShape (T := 112) (sz := 12) (v := .slice an l.length cn) (xs := l.flatMap rnC) (by repeat' constructor) (by omega) fun bn bn' e0 mbn _ => ?_
  simp only [Value.slice.injEq, true_and] at e0
  obtain ⟨rfl, rfl⟩ := e0
  refine .sk (.seq (.block (.sm rfl (.nf rfl fo_110_0 (.u (.ld rfl ag_107) (.m rfl (.q (.indexAddr rfl rfl el_107 (by omega)) rfl (.u (.fieldAddr rfl fo_112_0) (.q (.loadRd (sz := 12) (j := i * 12 + 0) (p := rnR _ l) rfl ag_9 (by repeat' constructor) (fun h hp => slR_rd hp) (by omega) ((rn_cell (l := l) (i := i) (k := 0) (by omega) (by decide)).trans rfl)) rfl (.m rfl (.u (.streq rfl rfl) (.nt (.condD rfl (fun h24 => ?_) (fun h24 => ?_))))))))))))))
  ·refine .sm rfl (.an rfl (.ret (.blk_r (.then_r (.then_r (.blk_r (.then_r ?_)))))))
   have hz : placeZ τ p = (i : Int) := by unfold placeZ; rw [← hl, place_nds]; exact place_at hi2 h24 (fun j hj => hno j hj (by omega))
   refine .rtFold (x := x) (τ := τ) (l := l) hl (by repeat' constructor) rfl rfl rfl rfl rfl ?_
   exact .dn rfl rfl ⟨by rw [hz], rfl⟩
  refine .skip (.blk_n (.then_n (.region (.m rfl (.q (.add rfl rfl (by omega)) rfl (.an rfl ?_))))))
  exact .rk (i + 1) (⟨by omega, fun j hj hj2 => by by_cases e : j = i; (subst e; exact h24); exact hno j (by omega) hj2⟩) (by omega) ⟨rfl, rfl, rfl, trivial⟩
 refine .exit (.then_e (.then_e (.blk_e (.then_n (.sr (.an rfl (.ret ?_)))))))
 have hz : placeZ τ p = -1 := by unfold placeZ; rw [← hl, place_nds]; exact place_none (fun j hj => hno j (by omega) hj)
 refine .rtFold (x := x) (τ := τ) (l := l) hl (by repeat' constructor) rfl rfl rfl rfl rfl ?_
 exact .dn rfl rfl ⟨by rw [hz], rfl⟩
theorem rable_spec (p : Bs) (hs : p.length ≤ 1099511627776) : Fn Tryz.prog 127 #[vstr p] [] fun v L => v = .bool (decide (ableZ p)) ∧ L = [] := by
 refine Fn.intro Tryz.func127 rfl rfl fun F W => ?_
 refine .sr (.an rfl (.sm rfl (.u (.strne rfl rfl) (.m rfl (.ndec (t := 5) rfl (fun h1_5 => ?_) (fun h1_5 => ?_))))))
 ·refine .kNT (t := 4) rfl h1_5 (.grun (t := 5) rfl rfl rfl (.m rfl (.grun (t := 5) rfl rfl rfl (.cv Tryz.func39 [_] (rcheck_spec p hs) ?_))))
  refine .grun (t := 5) rfl rfl rfl (.ui rfl rfl rfl (.u (.pickT rfl rfl) (.an rfl (.ret ?_))))
  exact .dn rfl rfl ⟨congrArg Value.bool (decide_eq_decide.2 ⟨fun e => ⟨h1_5, e⟩, fun e => e.2⟩), rfl⟩
 refine .kNF (t := 4) rfl h1_5 (.gk (.gk (.gk (.u (.pickF rfl rfl) (.an rfl (.ret ?_))))))
 exact .dn rfl rfl ⟨by rw [decide_eq_false (fun e => e.1 h1_5)], rfl⟩
theorem rrows_spec (v : Value) (xs : List Ac) (p : HP) (hp : ∀ h : Hp, p h → rdS 2 h v xs.length (xs.flatMap acC)) (hn : xs.length ≤ 1048576) : Fn Tryz.prog 126 #[v] [p] fun u L => (∃ a c, u = .slice a xs.length c) ∧ L = [p, slR 85 2 u xs.length (xs.flatMap acC)] := by
 refine Fn.intro Tryz.func126 rfl rfl fun F W => ?_
 refine .rdAny (p := p) hp (by repeat' constructor) fun a c e0 hl => ?_
 subst e0
 refine .add (slR_nil 85 2) (.sr (.an rfl (.sr (.an rfl (.sm rfl (.m rfl (.oq (.append (n := 0) (m := xs.length) (ys := xs.flatMap acC) (p := p) rfl rfl rfl el_24 (.inl ⟨_, Tryz.underlying24⟩) ze_85 rfl rfl ?hc4 hp ?hb5 (by decide)) ?_)))))))
 case hc4 => exact acC_cells _
 case hb5 => omega
 rintro v L' ⟨⟨a3, c3, rfl⟩, rfl⟩; rw [Nat.zero_add, List.nil_append]
 refine .an rfl (.ret ?_)
 exact .dn rfl rfl ⟨⟨_, _, rfl⟩, rfl⟩
theorem fill_rnode0 (p : Bs) (ad : Option Addr) (n c : Nat) : Instr.fill (fun i => [(0, 1), (1, 1), (2, 1), (3, 9)].toArray[i]?) ([.string (bs []), .string (bs []), .slice none 0 0, .int .i64 0, .int .i64 0, .int .i64 0, .int .i64 0, .int .i64 0, .int .i64 0, .int .i64 0, .int .i64 0, .int .i64 0] : List Value).toArray [(0, vstr p), (2, .slice ad n c)] = some (([vstr p, .string (bs []), .slice ad n c, vint 0, vint 0, vint 0, vint 0, vint 0, vint 0, vint 0, vint 0, vint 0] : List Value).toArray) := by kernel_rfl
theorem fill_rnode (p d : Bs) (ad : Option Addr) (n c : Nat) (s0 s1 s2 s3 s4 s5 s6 s7 s8 : Value) : Instr.fill (fun i => [(0, 1), (1, 1), (2, 1), (3, 9)].toArray[i]?) ([.string (bs []), .string (bs []), .slice none 0 0, .int .i64 0, .int .i64 0, .int .i64 0, .int .i64 0, .int .i64 0, .int .i64 0, .int .i64 0, .int .i64 0, .int .i64 0] : List Value).toArray [(0, vstr p), (1, vstr d), (2, .slice ad n c), (3, .agg ([s0, s1, s2, s3, s4, s5, s6, s7, s8] : List Value).toArray)] = some (([vstr p, vstr d, .slice ad n c] ++ [s0, s1, s2, s3, s4, s5, s6, s7, s8] : List Value).toArray) := by kernel_rfl
theorem rfnew_spec : Fn Tryz.prog 27 #[] [] fun v L => ∃ x, v = vptr x ∧ L = [refR x newT] := by
 refine Fn.intro Tryz.func27 rfl rfl fun F W => ?_
 refine .sr (.an rfl (.sr (.q (.build (us := [(0, _), (1, _)]) fl_85 ze_85 rfl rfl (by simp [isCell])) rfl (.oq (.buildSlice (vs := [_]) el_24 ze_85 rfl rfl rfl rfl (by first | (simp [Value.cells]; done) | (intro v hv; simp only [List.mem_cons, List.not_mem_nil, or_false] at hv; (repeat (first | (subst hv; rfl) | (rcases hv with hv | hv; (subst hv; rfl)))))) (by decide)) ?_))))
 rintro v L' ⟨ba, rfl, rfl⟩
 refine .q (.buildN (pl := [(0, 1), (1, 1), (2, 1), (3, 9)]) (us := [(0, vstr [47]), (2, .slice (some ⟨ba, 0, none⟩) 1 1)]) (cells := rnC (([47], (.slice (some ⟨ba, 0, none⟩) 1 1, ⟨[], [(31, [119, 111, 114, 108, 100])], st0⟩)) : Rno)) Tryz.underlying112 (by kernel_rfl) ze_112 rfl (fill_rnode0 _ _ _ _)) rfl (.oq (.buildSlice (vs := [_]) el_107 ze_112 rfl rfl rfl rfl (by first | (simp [Value.cells]; done) | (intro v hv; simp only [List.mem_cons, List.not_mem_nil, or_false] at hv; (repeat (first | (subst hv; rfl) | (rcases hv with hv | hv; (subst hv; rfl)))))) (by decide)) ?_)
 rintro v L' ⟨bn, rfl, rfl⟩
 refine .q (.build (us := [(0, _)]) fl_110 ze_110 rfl rfl (by simp [isCell])) rfl (.oq (.box rfl) ?_)
 rintro v L' ⟨x, rfl, rfl⟩
 refine .an rfl (.ret (.slMakeN 2 1 (b := ba) (xs := ([(31, [119, 111, 114, 108, 100])] : List Ac).flatMap acC) (by repeat' constructor) rfl rfl (.toRd (m := 1) (by repeat' constructor) (.slMakeN 12 1 (b := bn) (xs := [(([47], (.slice (some ⟨ba, 0, none⟩) 1 1, ⟨[], [(31, [119, 111, 114, 108, 100])], st0⟩)) : Rno)].flatMap rnC) (by repeat' constructor) rfl rfl (.add (slR_nil 122 3) (.fold (p := bigR inA [(([47], (.slice (some ⟨ba, 0, none⟩) 1 1, ⟨[], [(31, [119, 111, 114, 108, 100])], st0⟩)) : Rno)]) (.cons (p := rdO 2 (.slice (some ⟨ba, 0, none⟩) 1 1) 1 (([(31, [119, 111, 114, 108, 100])] : List Ac).flatMap acC)) (by repeat' constructor) .nil) (fun h hp => hp) (.rtFold (x := x) (τ := newT) (l := [(([47], (.slice (some ⟨ba, 0, none⟩) 1 1, ⟨[], [(31, [119, 111, 114, 108, 100])], st0⟩)) : Rno)]) rfl (by repeat' constructor) rfl rfl rfl rfl rfl ?_)))))))
 exact .dn rfl rfl ⟨_, rfl, rfl⟩
theorem rn_cells {z : Rno} (hz : isCell z.2.1 = true) : ∀ y ∈ (Value.agg (rnC z).toArray).cells.toList, isCell y = true := by
 intro v hv
 simp only [Value.cells, rnC, List.mem_cons, List.not_mem_nil, or_false] at hv
 rcases hv with rfl | rfl | rfl | rfl | rfl | rfl | rfl | rfl | rfl | rfl | rfl | rfl
 case inr.inr.inl => exact hz
 all_goals rfl
theorem rdO_cell {sz n : Nat} {v : Value} {ys : List Value} {h : Hp} (hr : rdO sz v n ys h) : isCell v = true := by
 rcases hr with ⟨-, -, a, c, rfl⟩ | ⟨b, off, cap, l, T, fr, rfl, -⟩ <;> rfl
theorem big_get {α : Type} {f : α → HP} {l : List α} {i : Nat} (hi : i < l.length) {h : Hp} (hs : bigR f l h) : ∃ h1, f l[i] h1 := by
 induction l generalizing i h with
 | nil => simp at hi
 | cons x l ih =>
  obtain ⟨h1, h2, -, -, -, p1, p2⟩ := hs
  cases i with
  | zero => exact ⟨h1, p1⟩
  | succ i => exact ih (by simpa using hi) p2
theorem G.aclShape {W : World} {n : Nat} {ds : List Deferred} {E : Env} {L R : List HP} {X : Act → World → Prop} {l : List Rno} {i : Nat} (hi : i < l.length) (hL : Pick (bigR inA l) L R) (h : isCell l[i].2.1 = true → G W n ds E L X) : G W n ds E L X := by
 intro a w he hk hs
 obtain ⟨h1, -, hp⟩ := sep_head (hs.pick hL)
 obtain ⟨h2, hq⟩ := big_get hi hp
 exact h (rdO_cell hq) a w he hk hs
theorem rlay_spec (x : Nat) (τ : Tr) (z : Rno) (hzc : isCell z.2.1 = true) (N : Nat) (ho : τ.Ok N) (hN : N ≤ 1073741824) : Fn Tryz.prog 184 #[vptr x, .agg (rnC z).toArray] [refR x τ, inA z] fun v L => v = .tuple #[] ∧ L = [refR x { τ with nodes := sset τ.nodes z.1 z.2.2 }] := by
 refine Fn.intro Tryz.func184 rfl rfl fun F W => ?_
 refine .rtOpen (x := x) (τ := τ) (by repeat' constructor) fun an cn as1 cs l hl => ?_
 have hsrt := nds_sorted (hl ▸ ho.sorted)
 have hll := nds_len hl
 have hofew := ho.few
 refine .sr (.oq (.box rfl) ?_)
 rintro v L' ⟨bz, rfl, rfl⟩
 refine .nil (.ptCast (b := bz) (l' := rnC z) (by repeat' constructor) rfl (.then_n (.seq (.add (slR_nil 112 12) (.region (.an rfl (.sr (.an rfl (.seq (.sr (.an rfl (.block (.loopK (ι := Nat × Bool × Value × (List Rno)) (fun q E => (6, vint q.1) :: (5, .bool q.2.1) :: (4, q.2.2.1) :: E) (fun q => [rnR q.2.2.1 q.2.2.2]) (fun q => q.1 ≤ l.length ∧ LayI l z.1 z.2 q.1 q.2.1 q.2.2.2 ∧ (∃ a c, q.2.2.1 = .slice a q.2.2.2.length c) ∧ q.2.2.2.length ≤ q.1 + q.2.1.toNat) (fun q => l.length - q.1) (0, false, .slice none 0 0, []) (ts := [0, 3]) (.cons rfl (.cons rfl (.nil))) (⟨Nat.zero_le _, LayI.start _ _ _, ⟨none, 0, rfl⟩, by simp⟩) ⟨rfl, rfl, rfl, rfl, rfl, trivial⟩ (by repeat' constructor) ?_)))))))))))))
 rintro ⟨i, b, u, acc⟩ ⟨hi, hLay, ⟨au, cu, hu⟩, hal⟩
 dsimp only
 dsimp only at hi hLay hu hal
 subst hu
 refine .seq (.sm rfl (.m rfl (.nf rfl fo_110_0 (.u (.ld rfl ag_107) (.q (.slen rfl Tryz.underlying107 rfl) rfl (.ui rfl rfl rfl (.nt (.condD rfl (fun h13 => ?_) (fun h13 => ?_)))))))))
 ·have hi2 : i < l.length := by omega
  refine .slShape (T := 112) (sz := 12) (v := .slice an l.length cn) (xs := l.flatMap rnC) (by repeat' constructor) (by omega) fun bn bn' e0 mbn _ => ?_
  simp only [Value.slice.injEq, true_and] at e0
  obtain ⟨rfl, rfl⟩ := e0
  refine .sk (.seq (.block (.seq (.seq (.draw [] [[0, 1, 2, 3, 4, 5, 6, 7, 8, 9, 10, 11, 12, 13, 14]] mixed (by kernel_rfl) (.g0 (.mv rfl rfl (.kv rfl (.not rfl) (.mv rfl rfl (.bool (t := 18) rfl (fun h6_18 => ?_) (fun h6_18 => ?_)))))))))))
  ·have hbf : b = false := by simpa using h6_18
   subst hbf
   have hal : acc.length ≤ i + 0 := hal
   refine D.kB (t := 17) rfl h6_18 (.gv rfl (.move rfl) (.gv rfl (.nilp rfl) (.gv rfl (.fieldAddr rfl fo_110_0) (.gv rfl (.ld rfl ag_107) (.gv rfl (.move rfl) (.gv rfl (.indexAddr rfl rfl el_107 (by omega)) (.gv rfl (.fieldAddr rfl fo_112_0) (.gv rfl (.loadRd (sz := 12) (j := i * 12 + 0) (p := rnR _ l) rfl ag_9 (by repeat' constructor) (fun h hp => slR_rd hp) (by omega) ((rn_cell (l := l) (i := i) (k := 0) (by omega) (by decide)).trans rfl)) (.gv rfl (.fieldAddr rfl fo_112_0) (.gv rfl (.load rfl ag_9 (by repeat' constructor) rfl) (.gv rfl (.strge rfl rfl) (.kv rfl (.pickT rfl rfl) (.pf (.condD rfl (fun h30 => ?_) (fun h30 => ?_)))))))))))))))
   ·refine .sm rfl (.q (.loadAs (vs := rnC z) rfl ag_112 (by repeat' constructor) (by simp [rnC]) rfl) rfl (.oq (.buildSlice (vs := [_]) el_107 ze_112 rfl rfl rfl rfl (by first | (simp [Value.cells]; done) | (intro v hv; simp only [List.mem_cons, List.not_mem_nil, or_false] at hv; (repeat (first | (subst hv; rfl) | (rcases hv with hv | hv; (subst hv; rfl)))))) (by decide)) ?_))
    rintro v L' ⟨b7_2, rfl, rfl⟩
    refine .oq (.append1 rfl rfl rfl el_107 ze_112 rfl rfl ?c30 ?c31 (Nat.le_refl _) ?c32 (by decide)) ?_
    case c30 => first | exact rn_cells hzc | (simp only [List.map_cons, List.map_nil, List.flatten_cons, List.flatten_nil, List.append_nil]; exact rn_cells hzc)
    case c31 => rfl
    case c32 => first | omega | (simp; omega)
    rintro v L' ⟨⟨a7_3, c7_3, rfl⟩, rfl⟩
    refine .a rfl (.nil ?_)
    rw [show acc.length + 1 = (acc ++ [z]).length by rw [List.length_append]; rfl]
    refine .slCast (T := 112) (sz := 12) (m' := (acc ++ [z]).length) (xs' := (acc ++ [z]).flatMap rnC) (by repeat' constructor) rfl (by simp; rfl) (.then_n (.region (.an rfl (.seq (.draw [] [[0, 1, 2, 3, 4, 5, 6, 7, 8, 9, 10]] mixed (by kernel_rfl) (.g0 (.mv rfl rfl (.nf rfl rfl rfl fo_110_0 (.kv rfl (.ld rfl ag_107) (.mv rfl rfl (.kv rfl (.indexAddr rfl rfl el_107 (by omega)) (.kv rfl (.fieldAddr rfl fo_112_0) (.kv rfl (.loadRd (sz := 12) (j := i * 12 + 0) (p := rnR _ l) rfl ag_9 (by repeat' constructor) (fun h hp => slR_rd hp) (by omega) ((rn_cell (l := l) (i := i) (k := 0) (by omega) (by decide)).trans rfl)) (.kv rfl (.fieldAddr rfl fo_112_0) (.kv rfl (.ld rfl ag_9) (.kv rfl (.strne rfl rfl) (.pf (.condN rfl (fun h45 => ?_) (fun h45 => ?_)))))))))))))))))))
    ·refine .aclShape (l := l) (i := i) hi2 (by repeat' constructor) fun hcl => (.region (.m rfl (.m rfl (.nf rfl fo_110_0 (.u (.ld rfl ag_107) (.m rfl (.q (.indexAddr rfl rfl el_107 (by omega)) rfl (.q (.loadRdA (sz := 12) (j := i * 12) (k := 12) (p := rnR _ l) (vs := rnC l[i]) rfl ag_112 (by repeat' constructor) (fun h hp => slR_rd hp) (by omega) (by omega) (by omega) (flatMap_at (f := rnC) (sz := 12) (fun _ _ => rfl) (by omega))) rfl (.oq (.buildSlice (vs := [_]) el_107 ze_112 rfl rfl rfl rfl (by first | (simp [Value.cells]; done) | (intro v hv; simp only [List.mem_cons, List.not_mem_nil, or_false] at hv; (repeat (first | (subst hv; rfl) | (rcases hv with hv | hv; (subst hv; rfl)))))) (by decide)) ?_)))))))))
     rintro v L' ⟨b10_8, rfl, rfl⟩
     refine .oq (.append1 rfl rfl rfl el_107 ze_112 rfl rfl ?c56 ?c57 (Nat.le_refl _) ?c58 (by decide)) ?_
     case c56 => first | exact rn_cells hcl | (simp only [List.map_cons, List.map_nil, List.flatten_cons, List.flatten_nil, List.append_nil]; exact rn_cells hcl)
     case c57 => rfl
     case c58 => first | omega | (simp; omega)
     rintro v L' ⟨⟨a10_9, c10_9, rfl⟩, rfl⟩
     refine .a rfl (.nil ?_)
     rw [show (acc ++ [z]).length + 1 = ((acc ++ [z]) ++ [l[i]]).length by simp]
     refine .slCast (T := 112) (sz := 12) (m' := ((acc ++ [z]) ++ [l[i]]).length) (xs' := ((acc ++ [z]) ++ [l[i]]).flatMap rnC) (by repeat' constructor) rfl (by simp; rfl) (.blk_n (.then_n (.region (.m rfl (.q (.add rfl rfl (by omega)) rfl (.an rfl ?_))))))
     exact .rk ((i + 1, true, .slice a10_9 ((acc ++ [z]) ++ [l[i]]).length c10_9, ((acc ++ [z]) ++ [l[i]]))) (⟨by dsimp only; omega, by dsimp only; exact hLay.put hi2 h30 h45, ⟨_, _, rfl⟩, by dsimp only; simp; omega⟩) (by dsimp only; omega) ⟨rfl, rfl, rfl, rfl, rfl, trivial⟩
    refine .skip (.blk_n (.then_n (.region (.m rfl (.q (.add rfl rfl (by omega)) rfl (.an rfl ?_))))))
    exact .rk ((i + 1, true, .slice a7_3 (acc ++ [z]).length c7_3, (acc ++ [z]))) (⟨by dsimp only; omega, by dsimp only; exact hLay.sub hi2 h45, ⟨_, _, rfl⟩, by dsimp only; simp; omega⟩) (by dsimp only; omega) ⟨rfl, rfl, rfl, rfl, rfl, trivial⟩
   refine .sk (.seq (.draw [] [[0, 1, 2, 3, 4, 5, 6, 7, 8, 9, 10]] mixed (by kernel_rfl) (.g0 (.mv rfl rfl (.nf rfl rfl rfl fo_110_0 (.kv rfl (.ld rfl ag_107) (.mv rfl rfl (.kv rfl (.indexAddr rfl rfl el_107 (by omega)) (.kv rfl (.fieldAddr rfl fo_112_0) (.kv rfl (.loadRd (sz := 12) (j := i * 12 + 0) (p := rnR _ l) rfl ag_9 (by repeat' constructor) (fun h hp => slR_rd hp) (by omega) ((rn_cell (l := l) (i := i) (k := 0) (by omega) (by decide)).trans rfl)) (.kv rfl (.fieldAddr rfl fo_112_0) (.kv rfl (.ld rfl ag_9) (.kv rfl (.strne rfl rfl) (.pf (.condN rfl (fun h45 => ?_) (fun h45 => ?_))))))))))))))))
   ·refine .aclShape (l := l) (i := i) hi2 (by repeat' constructor) fun hcl => (.region (.m rfl (.m rfl (.nf rfl fo_110_0 (.u (.ld rfl ag_107) (.m rfl (.q (.indexAddr rfl rfl el_107 (by omega)) rfl (.q (.loadRdA (sz := 12) (j := i * 12) (k := 12) (p := rnR _ l) (vs := rnC l[i]) rfl ag_112 (by repeat' constructor) (fun h hp => slR_rd hp) (by omega) (by omega) (by omega) (flatMap_at (f := rnC) (sz := 12) (fun _ _ => rfl) (by omega))) rfl (.oq (.buildSlice (vs := [_]) el_107 ze_112 rfl rfl rfl rfl (by first | (simp [Value.cells]; done) | (intro v hv; simp only [List.mem_cons, List.not_mem_nil, or_false] at hv; (repeat (first | (subst hv; rfl) | (rcases hv with hv | hv; (subst hv; rfl)))))) (by decide)) ?_)))))))))
    rintro v L' ⟨b10_8, rfl, rfl⟩
    refine .oq (.append1 rfl rfl rfl el_107 ze_112 rfl rfl ?c86 ?c87 (Nat.le_refl _) ?c88 (by decide)) ?_
    case c86 => first | exact rn_cells hcl | (simp only [List.map_cons, List.map_nil, List.flatten_cons, List.flatten_nil, List.append_nil]; exact rn_cells hcl)
    case c87 => rfl
    case c88 => first | omega | (simp; omega)
    rintro v L' ⟨⟨a10_9, c10_9, rfl⟩, rfl⟩
    refine .a rfl (.nil ?_)
    rw [show acc.length + 1 = (acc ++ [l[i]]).length by simp]
    refine .slCast (T := 112) (sz := 12) (m' := (acc ++ [l[i]]).length) (xs' := (acc ++ [l[i]]).flatMap rnC) (by repeat' constructor) rfl (by simp; rfl) (.blk_n (.then_n (.region (.m rfl (.q (.add rfl rfl (by omega)) rfl (.an rfl ?_))))))
    exact .rk ((i + 1, false, .slice a10_9 (acc ++ [l[i]]).length c10_9, (acc ++ [l[i]]))) (⟨by dsimp only; omega, by dsimp only; exact hLay.low hi2 (Decidable.byContradiction h30), ⟨_, _, rfl⟩, by dsimp only; simp; omega⟩) (by dsimp only; omega) ⟨rfl, rfl, rfl, rfl, rfl, trivial⟩
   refine .skip (.blk_n (.then_n (.region (.m rfl (.q (.add rfl rfl (by omega)) rfl (.an rfl ?_))))))
   exact .rk ((i + 1, false, .slice au acc.length cu, acc)) (⟨by dsimp only; omega, by dsimp only; exact absurd (by rw [h45]; exact linB.irr z.1) h30, ⟨_, _, rfl⟩, by dsimp only; simp; omega⟩) (by dsimp only; omega) ⟨rfl, rfl, rfl, rfl, rfl, trivial⟩
  have hbt : b = true := by simpa using h6_18
  subst hbt
  have hal : acc.length ≤ i + 1 := hal
  refine D.kB (t := 17) rfl h6_18 (.gz rfl (.gz rfl (.gz rfl (.gz rfl (.gz rfl (.gz rfl (.gz rfl (.gz rfl (.gz rfl (.gz rfl (.gz rfl (.kv rfl (.pickF rfl rfl) (.pf (.condF rfl (.sk (.seq (.draw [] [[0, 1, 2, 3, 4, 5, 6, 7, 8, 9, 10]] mixed (by kernel_rfl) (.g0 (.mv rfl rfl (.nf rfl rfl rfl fo_110_0 (.kv rfl (.ld rfl ag_107) (.mv rfl rfl (.kv rfl (.indexAddr rfl rfl el_107 (by omega)) (.kv rfl (.fieldAddr rfl fo_112_0) (.kv rfl (.loadRd (sz := 12) (j := i * 12 + 0) (p := rnR _ l) rfl ag_9 (by repeat' constructor) (fun h hp => slR_rd hp) (by omega) ((rn_cell (l := l) (i := i) (k := 0) (by omega) (by decide)).trans rfl)) (.kv rfl (.fieldAddr rfl fo_112_0) (.kv rfl (.ld rfl ag_9) (.kv rfl (.strne rfl rfl) ?_))))))))))))))))))))))))))))
  refine D.pf (.condN rfl (fun h45 => ?_) (fun h45 => ?_))
  ·refine .aclShape (l := l) (i := i) hi2 (by repeat' constructor) fun hcl => (.region (.m rfl (.m rfl (.nf rfl fo_110_0 (.u (.ld rfl ag_107) (.m rfl (.q (.indexAddr rfl rfl el_107 (by omega)) rfl (.q (.loadRdA (sz := 12) (j := i * 12) (k := 12) (p := rnR _ l) (vs := rnC l[i]) rfl ag_112 (by repeat' constructor) (fun h hp => slR_rd hp) (by omega) (by omega) (by omega) (flatMap_at (f := rnC) (sz := 12) (fun _ _ => rfl) (by omega))) rfl (.oq (.buildSlice (vs := [_]) el_107 ze_112 rfl rfl rfl rfl (by first | (simp [Value.cells]; done) | (intro v hv; simp only [List.mem_cons, List.not_mem_nil, or_false] at hv; (repeat (first | (subst hv; rfl) | (rcases hv with hv | hv; (subst hv; rfl)))))) (by decide)) ?_)))))))))
   rintro v L' ⟨b10_8, rfl, rfl⟩
   refine .oq (.append1 rfl rfl rfl el_107 ze_112 rfl rfl ?c117 ?c118 (Nat.le_refl _) ?c119 (by decide)) ?_
   case c117 => first | exact rn_cells hcl | (simp only [List.map_cons, List.map_nil, List.flatten_cons, List.flatten_nil, List.append_nil]; exact rn_cells hcl)
   case c118 => rfl
   case c119 => first | omega | (simp; omega)
   rintro v L' ⟨⟨a10_9, c10_9, rfl⟩, rfl⟩
   refine .a rfl (.nil ?_)
   rw [show acc.length + 1 = (acc ++ [l[i]]).length by simp]
   refine .slCast (T := 112) (sz := 12) (m' := (acc ++ [l[i]]).length) (xs' := (acc ++ [l[i]]).flatMap rnC) (by repeat' constructor) rfl (by simp; rfl) (.blk_n (.then_n (.region (.m rfl (.q (.add rfl rfl (by omega)) rfl (.an rfl ?_))))))
   exact .rk ((i + 1, true, .slice a10_9 (acc ++ [l[i]]).length c10_9, (acc ++ [l[i]]))) (⟨by dsimp only; omega, by dsimp only; exact hLay.more hi2, ⟨_, _, rfl⟩, by dsimp only; simp; omega⟩) (by dsimp only; omega) ⟨rfl, rfl, rfl, rfl, rfl, trivial⟩
  refine .skip (.blk_n (.then_n (.region (.m rfl (.q (.add rfl rfl (by omega)) rfl (.an rfl ?_))))))
  exact .rk ((i + 1, true, .slice au acc.length cu, acc)) (⟨by dsimp only; omega, by dsimp only; exact absurd h45 (hLay.not hsrt hi2), ⟨_, _, rfl⟩, by dsimp only; simp; omega⟩) (by dsimp only; omega) ⟨rfl, rfl, rfl, rfl, rfl, trivial⟩
 have hii : i = l.length := by omega
 rw [hii] at hLay
 have hlast := hLay.last
 refine .exit (.then_e (.then_e (.blk_e (.then_n (.seq (.sm rfl (.u (.not rfl) (.nt (.condB rfl (fun h57 => ?_) (fun h57 => ?_))))))))))
 ·refine .region (.m rfl (.q (.loadAs (vs := rnC z) rfl ag_112 (by repeat' constructor) (by simp [rnC]) rfl) rfl (.oq (.buildSlice (vs := [_]) el_107 ze_112 rfl rfl rfl rfl (by first | (simp [Value.cells]; done) | (intro v hv; simp only [List.mem_cons, List.not_mem_nil, or_false] at hv; (repeat (first | (subst hv; rfl) | (rcases hv with hv | hv; (subst hv; rfl)))))) (by decide)) ?_)))
  rintro v L' ⟨b12_2, rfl, rfl⟩
  refine .oq (.append1 rfl rfl rfl el_107 ze_112 rfl rfl ?c132 ?c133 (Nat.le_refl _) ?c134 (by decide)) ?_
  case c132 => first | exact rn_cells hzc | (simp only [List.map_cons, List.map_nil, List.flatten_cons, List.flatten_nil, List.append_nil]; exact rn_cells hzc)
  case c133 => rfl
  case c134 => have := Bool.toNat_le b; omega
  rintro v L' ⟨⟨a12_3, c12_3, rfl⟩, rfl⟩
  refine .a rfl (.nil ?_)
  rw [show acc.length + 1 = (acc ++ [z]).length by rw [List.length_append]; rfl]
  refine .slCast (T := 112) (sz := 12) (m' := (acc ++ [z]).length) (xs' := (acc ++ [z]).flatMap rnC) (by repeat' constructor) rfl (by simp; rfl) (.then_n (.region (.m rfl (.m rfl (.nf rfl fo_110_0 (.st rfl rfl rfl sz_107 ?_))))))
  refine .nil (.done_n (.bigSset hsrt z.1 z.2 (p := inA z) rfl (by repeat' constructor) ?_))
  have hb : b = false := by simpa using h57
  subst hb
  have hfin : (acc ++ [z]) = sset l z.1 z.2 := hlast
  refine .rtFold (x := x) (τ := ({ τ with nodes := sset τ.nodes z.1 z.2.2 } : Tr)) (l := (sset l z.1 z.2)) (by rw [nds_sset, hl]) (by repeat' constructor) rfl (by rw [hfin]) (by rw [hfin]) rfl rfl ?_
  exact .vv
 refine .sk (.region (.m rfl (.m rfl (.nf rfl fo_110_0 (.st rfl rfl rfl sz_107 ?_)))))
 refine .nil (.done_n (.bigSset hsrt z.1 z.2 (p := inA z) rfl (by repeat' constructor) ?_))
 have hb : b = true := by simpa using h57
 subst hb
 have hfin : acc = sset l z.1 z.2 := hlast
 refine .rtFold (x := x) (τ := ({ τ with nodes := sset τ.nodes z.1 z.2.2 } : Tr)) (l := (sset l z.1 z.2)) (by rw [nds_sset, hl]) (by repeat' constructor) rfl (by rw [hfin]) (by rw [hfin]) rfl rfl ?_
 exact .vv
theorem rkid7_spec (x : Nat) (τ : Tr) (p : Bs) (num zx : Int) (N : Nat) (ho : τ.Ok N) (hN : N ≤ 1073741824) : Fn Tryz.prog 185 #[vptr x, vstr p, vint num, vint zx] [refR x τ] fun v L => v = .tuple #[] ∧ L = [refR x (kidT τ p num zx)] := by
 refine Fn.intro Tryz.func185 rfl rfl fun F W => ?_
 have hfew := ho.few
 have hnd := ho.sorted.nodup linB
 refine .sm rfl (.m rfl (.cv Tryz.func95 [_, _] (rplace_spec x τ p (by omega)) ?_))
 refine .an rfl (.sm rfl (.ui rfl rfl rfl (.nt (.condD rfl (fun h13 => ?_) (fun h13 => ?_)))))
 ·obtain ⟨k, hk, hpk, hkp⟩ := place_get (l := τ.nodes) h13
  have hpz : placeZ τ p = k := hpk
  rw [hpz]
  refine .rtOpen (x := x) (τ := τ) (by repeat' constructor) fun an cn as1 cs l hl => ?_
  have hll := nds_len hl
  have hkl : k < l.length := by omega
  have hlk : l[k].1 = p := by have := nds_get hl hkl; rw [← hkp]; simp only [this]
  refine .slShape (T := 112) (sz := 12) (v := .slice an l.length cn) (xs := l.flatMap rnC) (by repeat' constructor) (by omega) fun bn bn' e0 mbn _ => ?_
  simp only [Value.slice.injEq, true_and] at e0
  obtain ⟨rfl, rfl⟩ := e0
  refine .sm rfl (.nf rfl fo_110_0 (.u (.ld rfl ag_107) (.m rfl (.m rfl (.q (.indexAddr rfl rfl el_107 (by omega)) rfl (.u (.fieldAddr rfl fo_112_3) (.u (.fieldAddr rfl fo_37_4) (.oq (.storeRd (sz := 12) (j := k * 12 + 7) rfl rfl ?hv14 sz_3 ?ho15 ?hi16) ?_))))))))
  case hv14 => first | rfl | assumption
  case ho15 => omega
  case hi16 => omega
  rintro v L' rfl
  refine .nil (.slCast (T := 112) (sz := 12) (m' := l.length) (xs' := (l.set k (l[k].1, (l[k].2.1, { l[k].2.2 with st := { l[k].2.2.st with cver := num } }))).flatMap rnC) (by repeat' constructor) rfl (flatMap_set (f := rnC) (sz := 12) (fun _ => rfl) (by simpa using hkl) (by decide) (by rfl)) (.then_n (.region (.m rfl (.nf rfl fo_110_0 (.u (.ld rfl ag_107) (.m rfl (.m rfl (.q (.indexAddr rfl rfl el_107 (by omega)) rfl (.u (.fieldAddr rfl fo_112_3) (.u (.fieldAddr rfl fo_37_2) (.oq (.storeRd (sz := 12) (j := k * 12 + 5) rfl rfl ?hv26 sz_3 ?ho27 ?hi28) ?_))))))))))))
  case hv26 => first | rfl | assumption
  case ho27 => omega
  case hi28 => omega
  rintro v L' rfl
  refine .nil (.slCast (T := 112) (sz := 12) (m' := l.length) (xs' := ((l.set k (l[k].1, (l[k].2.1, { l[k].2.2 with st := { l[k].2.2.st with cver := num } }))).set k (l[k].1, (l[k].2.1, kidN num zx l[k].2.2))).flatMap rnC) (by repeat' constructor) rfl (flatMap_set (f := rnC) (sz := 12) (fun _ => rfl) (by simpa using hkl) (by decide) (by rw [List.getElem_set_self]; rfl)) ?_)
  rw [List.set_set]
  refine .done_n (.bigSet (y := (l[k].1, (l[k].2.1, kidN num zx l[k].2.2))) hkl (by rfl) (by repeat' constructor) (.rtFold (x := x) (τ := (kidT τ p num zx)) (l := (l.set k (l[k].1, (l[k].2.1, kidN num zx l[k].2.2)))) (nds_mod hl hnd hkl hlk (kidN num zx) rfl) (by repeat' constructor) rfl (by simp) rfl rfl rfl ?_))
  exact .vv
 refine .skip (.done_n (.rfCast (x := x) (τ' := kidT τ p num zx) (by repeat' constructor) (by unfold kidT; rw [amod_none (by have h0 : ¬ 0 ≤ placeTo τ.nodes p := h13; rw [place_iff] at h0; simpa using h0)]) ?_))
 exact .vv
theorem rlay2_spec (x : Nat) (τ : Tr) (z : Rno) (hzc : isCell z.2.1 = true) (N : Nat) (ho : τ.Ok N) (hN : N ≤ 1073741824) {T : TypeId} : Fn Tryz.prog 184 #[vptr x, .agg (rnC z).toArray] [refR x τ, slR T 2 z.2.1 z.2.2.acl.length (z.2.2.acl.flatMap acC)] fun v L => v = .tuple #[] ∧ L = [refR x { τ with nodes := sset τ.nodes z.1 z.2.2 }] :=
 Fn.pre2 (rlay_spec x τ z hzc N ho hN) fun F w hs => by
  have h1 := sep_imp (q := inA z) (fun h hp => slR_rd hp) (sep_swap hs)
  exact sep_swap h1
theorem rcreate_spec (x : Nat) (τ : Tr) (y : Pt) (zx : Int) (p : HP) (hy : PtA p y) (N : Nat) (ho : τ.Ok N) (hN : N + 1 ≤ 1073741824) : Fn Tryz.prog 128 #[vptr x, .agg (ptC y).toArray, vint zx] [refR x τ, p] fun v L => ∃ a c, v = .slice a (createZ τ y zx).2.length c ∧ L = [refR x (createZ τ y zx).1, p, slR 184 3 v (createZ τ y zx).2.length ((createZ τ y zx).2.flatMap evC)] := by
 refine Fn.intro Tryz.func128 rfl rfl fun F W => ?_
 have hfew := hy.few
 have hpl := hy.plen
 have hpar := parent_len y.path
 have hof := ho.few
 refine .sr (.oq (.box rfl) ?_)
 rintro v L' ⟨bx, rfl, rfl⟩
 refine .a rfl (.nil (.ptCast (b := bx) (l' := ptC y) (by repeat' constructor) rfl (.then_n (.sr (.u (.fieldAddr rfl fo_43_1) (.u (.ld rfl ag_9) (.cv Tryz.func110 [_] (rparent_spec y.path (by omega)) ?_)))))))
 refine .an rfl (.sr (.u (.fieldAddr rfl fo_43_1) (.u (.ld rfl ag_9) (.cv Tryz.func127 [_] (rable_spec y.path (by omega)) ?_))))
 refine .an rfl (.seq (.sm rfl (.u (.not rfl) (.m rfl (.ndec (t := 18) rfl (fun h3_18 => ?_) (fun h3_18 => ?_))))))
 ·refine .kNT (t := 17) rfl h3_18 (.gk (.gk (.gk (.gk (.u (.pickT rfl rfl) (.nt (.condT rfl (.sr (.an rfl (.rt (.add (slR_nil 184 3) ?_)))))))))))
  have hc : createZ τ y zx = (τ, []) := by unfold createZ; rw [if_neg (fun g => h3_18 g.1)]
  refine .rfCast (x := x) (τ' := (createZ τ y zx).1) (by repeat' constructor) (by rw [hc]) (.slCast (T := 184) (sz := 3) (m' := (createZ τ y zx).2.length) (xs' := (createZ τ y zx).2.flatMap evC) (by repeat' constructor) (by (rw [hc]; try rfl)) (by (rw [hc]; try rfl)) ?_)
  exact .dn rfl rfl ⟨_, _, by (rw [hc]; try rfl), rfl⟩
 refine .kNF (t := 17) rfl h3_18 (.grun (t := 18) rfl rfl rfl (.m rfl (.grun (t := 18) rfl rfl rfl (.m rfl (.grun (t := 18) rfl rfl rfl (.cv Tryz.func95 [_, _] (rplace_spec x τ (parentZ y.path) (by omega)) ?_))))))
 refine .grun (t := 18) rfl rfl rfl (.ui rfl rfl rfl (.u (.pickF rfl rfl) (.nt (.condD rfl (fun h23 => ?_) (fun h23 => ?_)))))
 ·refine .sr (.an rfl (.rt (.add (slR_nil 184 3) ?_)))
  have hc : createZ τ y zx = (τ, []) := by unfold createZ; rw [if_neg (fun g => absurd (place_iff.2 g.2) (by have h0 : placeTo τ.nodes (parentZ y.path) < 0 := h23; omega))]
  refine .rfCast (x := x) (τ' := (createZ τ y zx).1) (by repeat' constructor) (by rw [hc]) (.slCast (T := 184) (sz := 3) (m' := (createZ τ y zx).2.length) (xs' := (createZ τ y zx).2.flatMap evC) (by repeat' constructor) (by (rw [hc]; try rfl)) (by (rw [hc]; try rfl)) ?_)
  exact .dn rfl rfl ⟨_, _, by (rw [hc]; try rfl), rfl⟩
 have hup : thereT τ (parentZ y.path) := place_iff.1 (by have h0 : ¬ placeTo τ.nodes (parentZ y.path) < 0 := h23; omega)
 have hab : ableZ y.path := h3_18
 refine .sk (.sr (.an rfl (.seq (.sm rfl (.u (.fieldAddr rfl fo_43_1) (.u (.ld rfl ag_9) (.cv Tryz.func95 [_, _] (rplace_spec x τ y.path (by omega)) ?_)))))))
 refine .ui rfl rfl rfl (.nt (.condD rfl (fun h28 => ?_) (fun h28 => ?_)))
 ·refine .region (.an rfl (.seq (.draw [7, 15] [[0, 1, 2, 3, 4, 5, 6, 8, 9, 10, 11, 12, 13, 7, 14], [15]] mixed (by kernel_rfl) (.go [ptc bx _ _] (by repeat' constructor) (.k rfl (.move rfl) (.k rfl (.fieldAddr rfl fo_43_1) (.k rfl (.ld rfl ag_9) (.k rfl (.fieldAddr rfl fo_43_2) (.k rfl (.ld rfl ag_9) (.kv rfl (.fieldAddr rfl fo_43_3) (.kv rfl (.ld rfl ag_24) (.k rfl (.move rfl) (.k rfl (.move rfl) (.k rfl (.move rfl) (.k rfl (.fieldAddr rfl fo_43_4) (.k rfl (.ld rfl ag_3) (.k rfl (.build (us := [(0, _), (1, _), (2, _), (6, _)]) fl_37 ze_37 rfl rfl (by simp [isCell])) (.hh rfl (.c Tryz.func126 [_] (rrows_spec y.aclV y.acl p hy.acl hfew)) ?_))))))))))))))))))
  rintro v L' ⟨⟨a8, c8, rfl⟩, rfl⟩
  refine D.kv rfl (.buildN (pl := [(0, 1), (1, 1), (2, 1), (3, 9)]) (us := [(0, vstr y.path), (1, vstr y.data), (2, .slice a8 y.acl.length c8), (3, .agg ([vint zx, vint zx, vint zx, vint 0, vint 0, vint 0, vint y.own, vint 0, vint 0] : List Value).toArray)]) (cells := [vstr y.path, vstr y.data, .slice a8 y.acl.length c8] ++ [vint zx, vint zx, vint zx, vint 0, vint 0, vint 0, vint y.own, vint 0, vint 0]) Tryz.underlying112 (by kernel_rfl) ze_112 rfl (fill_rnode _ _ _ _ _ _ _ _ _ _ _ _ _ _)) (.ph (.g0 (.hh rfl (.c Tryz.func184 [_, _] (rlay2_spec x τ ((y.path, (.slice a8 y.acl.length c8, newN y zx)) : Rno) rfl N ho (by omega))) ?_)))
  rintro v L' ⟨rfl, rfl⟩
  refine D.ph (.fin (.rfCast (x := x) (τ' := ({ τ with nodes := sset τ.nodes y.path (newN y zx) } : Tr)) (by repeat' constructor) (rfl) ?_))
  have hoL := ho.lay (.inr hab) (newN y zx) hfew
  refine .then_n (.sm rfl (.m rfl (.u (.fieldAddr rfl fo_43_5) (.u (.ld rfl ag_3) (.m rfl (.cv Tryz.func185 [_, _, _, _] (rkid7_spec x ({ τ with nodes := sset τ.nodes y.path (newN y zx) } : Tr) (parentZ y.path) y.num zx (N + 1) hoL (by omega)) ?_))))))
  refine .nt (.sm rfl (.u (.fieldAddr rfl fo_43_1) (.u (.ld rfl ag_9) (.m rfl (.q (.build (us := [(0, _), (1, _), (2, _)]) fl_184 ze_184 rfl rfl (by simp [isCell])) rfl (.m rfl (.m rfl (.q (.build (us := [(0, _), (1, _), (2, _)]) fl_184 ze_184 rfl rfl (by simp [isCell])) rfl (.oq (.buildSlice (vs := [_, _]) el_71 ze_184 rfl rfl rfl rfl (by first | (simp [Value.cells]; done) | (intro v hv; simp only [List.mem_cons, List.not_mem_nil, or_false] at hv; (repeat (first | (subst hv; rfl) | (rcases hv with hv | hv; (subst hv; rfl)))))) (by decide)) ?_)))))))))
  rintro v L' ⟨bo, rfl, rfl⟩
  refine .a rfl (.nil (.slMakeN 3 2 (b := bo) (xs := ([(3, (y.path, zx)), (4, (parentZ y.path, zx))] : List Ev).flatMap evC) (by repeat' constructor) rfl rfl (.then_n (.ret ?_))))
  have hc : createZ τ y zx = (kidT ({ τ with nodes := sset τ.nodes y.path (newN y zx) } : Tr) (parentZ y.path) y.num zx, [(3, (y.path, zx)), (4, (parentZ y.path, zx))]) := by unfold createZ; rw [if_pos ⟨hab, hup⟩, if_pos (show thereT τ y.path from place_iff.1 h28)]
  refine .rfCast (x := x) (τ' := (createZ τ y zx).1) (by repeat' constructor) (by rw [hc]) (.slCast (T := 184) (sz := 3) (m' := (createZ τ y zx).2.length) (xs' := (createZ τ y zx).2.flatMap evC) (by repeat' constructor) (by (rw [hc]; try rfl)) (by (rw [hc]; try rfl)) ?_)
  exact .dn rfl rfl ⟨_, _, by (rw [hc]; try rfl), rfl⟩
 refine .sk (.seq (.draw [7, 15] [[0, 1, 2, 3, 4, 5, 6, 8, 9, 10, 11, 12, 13, 7, 14], [15]] mixed (by kernel_rfl) (.go [ptc bx _ _] (by repeat' constructor) (.k rfl (.move rfl) (.k rfl (.fieldAddr rfl fo_43_1) (.k rfl (.ld rfl ag_9) (.k rfl (.fieldAddr rfl fo_43_2) (.k rfl (.ld rfl ag_9) (.kv rfl (.fieldAddr rfl fo_43_3) (.kv rfl (.ld rfl ag_24) (.k rfl (.move rfl) (.k rfl (.move rfl) (.k rfl (.move rfl) (.k rfl (.fieldAddr rfl fo_43_4) (.k rfl (.ld rfl ag_3) (.k rfl (.build (us := [(0, _), (1, _), (2, _), (6, _)]) fl_37 ze_37 rfl rfl (by simp [isCell])) (.hh rfl (.c Tryz.func126 [_] (rrows_spec y.aclV y.acl p hy.acl hfew)) ?_)))))))))))))))))
 rintro v L' ⟨⟨a8, c8, rfl⟩, rfl⟩
 refine D.kv rfl (.buildN (pl := [(0, 1), (1, 1), (2, 1), (3, 9)]) (us := [(0, vstr y.path), (1, vstr y.data), (2, .slice a8 y.acl.length c8), (3, .agg ([vint zx, vint zx, vint zx, vint 0, vint 0, vint 0, vint y.own, vint 0, vint 0] : List Value).toArray)]) (cells := [vstr y.path, vstr y.data, .slice a8 y.acl.length c8] ++ [vint zx, vint zx, vint zx, vint 0, vint 0, vint 0, vint y.own, vint 0, vint 0]) Tryz.underlying112 (by kernel_rfl) ze_112 rfl (fill_rnode _ _ _ _ _ _ _ _ _ _ _ _ _ _)) (.ph (.g0 (.hh rfl (.c Tryz.func184 [_, _] (rlay2_spec x τ ((y.path, (.slice a8 y.acl.length c8, newN y zx)) : Rno) rfl N ho (by omega))) ?_)))
 rintro v L' ⟨rfl, rfl⟩
 refine D.ph (.fin (.rfCast (x := x) (τ' := ({ τ with nodes := sset τ.nodes y.path (newN y zx) } : Tr)) (by repeat' constructor) (rfl) ?_))
 have hoL := ho.lay (.inr hab) (newN y zx) hfew
 refine .then_n (.sm rfl (.m rfl (.u (.fieldAddr rfl fo_43_5) (.u (.ld rfl ag_3) (.m rfl (.cv Tryz.func185 [_, _, _, _] (rkid7_spec x ({ τ with nodes := sset τ.nodes y.path (newN y zx) } : Tr) (parentZ y.path) y.num zx (N + 1) hoL (by omega)) ?_))))))
 refine .nt (.sm rfl (.u (.fieldAddr rfl fo_43_1) (.u (.ld rfl ag_9) (.m rfl (.q (.build (us := [(0, _), (1, _), (2, _)]) fl_184 ze_184 rfl rfl (by simp [isCell])) rfl (.m rfl (.m rfl (.q (.build (us := [(0, _), (1, _), (2, _)]) fl_184 ze_184 rfl rfl (by simp [isCell])) rfl (.oq (.buildSlice (vs := [_, _]) el_71 ze_184 rfl rfl rfl rfl (by first | (simp [Value.cells]; done) | (intro v hv; simp only [List.mem_cons, List.not_mem_nil, or_false] at hv; (repeat (first | (subst hv; rfl) | (rcases hv with hv | hv; (subst hv; rfl)))))) (by decide)) ?_)))))))))
 rintro v L' ⟨bo, rfl, rfl⟩
 refine .a rfl (.nil (.slMakeN 3 2 (b := bo) (xs := ([(1, (y.path, zx)), (4, (parentZ y.path, zx))] : List Ev).flatMap evC) (by repeat' constructor) rfl rfl (.then_n (.ret ?_))))
 have hc : createZ τ y zx = (kidT ({ τ with nodes := sset τ.nodes y.path (newN y zx) } : Tr) (parentZ y.path) y.num zx, [(1, (y.path, zx)), (4, (parentZ y.path, zx))]) := by unfold createZ; rw [if_pos ⟨hab, hup⟩, if_neg (show ¬ thereT τ y.path from fun g => h28 (place_iff.2 g))]
 refine .rfCast (x := x) (τ' := (createZ τ y zx).1) (by repeat' constructor) (by rw [hc]) (.slCast (T := 184) (sz := 3) (m' := (createZ τ y zx).2.length) (xs' := (createZ τ y zx).2.flatMap evC) (by repeat' constructor) (by (rw [hc]; try rfl)) (by (rw [hc]; try rfl)) ?_)
 exact .dn rfl rfl ⟨_, _, by (rw [hc]; try rfl), rfl⟩
theorem rerase_spec (x : Nat) (τ : Tr) (y : Pt) (zx : Int) (p : HP) (hy : PtA p y) (N : Nat) (ho : τ.Ok N) (hN : N + 1 ≤ 1073741824) : Fn Tryz.prog 129 #[vptr x, .agg (ptC y).toArray, vint zx] [refR x τ] fun v L => ∃ a c, v = .slice a (eraseZ τ y zx).2.length c ∧ L = [refR x (eraseZ τ y zx).1, slR 184 3 v (eraseZ τ y zx).2.length ((eraseZ τ y zx).2.flatMap evC)] := by
 refine Fn.intro Tryz.func129 rfl rfl fun F W => ?_
 have hfew := hy.few
 have hpl := hy.plen
 have hpar := parent_len y.path
 have hof := ho.few
 refine .sr (.oq (.box rfl) ?_)
 rintro v L' ⟨bx, rfl, rfl⟩
 refine .a rfl (.nil (.ptCast (b := bx) (l' := ptC y) (by repeat' constructor) rfl (.then_n (.sr (.u (.fieldAddr rfl fo_43_1) (.u (.ld rfl ag_9) (.cv Tryz.func127 [_] (rable_spec y.path (by omega)) ?_)))))))
 refine .an rfl (.seq (.sm rfl (.u (.not rfl) (.nt (.condN rfl (fun h18 => ?_) (fun h18 => ?_))))))
 ·refine .sr (.an rfl (.rt (.add (slR_nil 184 3) ?_)))
  have hc : eraseZ τ y zx = (τ, []) := by unfold eraseZ; rw [if_neg h18]
  refine .rfCast (x := x) (τ' := (eraseZ τ y zx).1) (by repeat' constructor) (by rw [hc]) (.slCast (T := 184) (sz := 3) (m' := (eraseZ τ y zx).2.length) (xs' := (eraseZ τ y zx).2.flatMap evC) (by repeat' constructor) (by (rw [hc]; try rfl)) (by (rw [hc]; try rfl)) ?_)
  exact .dn rfl rfl ⟨_, _, by (rw [hc]; try rfl), rfl⟩
 refine .sk (.sr (.u (.fieldAddr rfl fo_43_1) (.u (.ld rfl ag_9) (.cv Tryz.func110 [_] (rparent_spec y.path (by omega)) ?_))))
 refine .an rfl (.sm rfl (.u (.fieldAddr rfl fo_43_1) (.u (.ld rfl ag_9) (.cv Tryz.func95 [_, _] (rplace_spec x τ y.path (by omega)) ?_))))
 refine .ui rfl rfl rfl (.an rfl (.seq (.add (slR_nil 112 12) (.rtOpen (x := x) (τ := τ) (by repeat' constructor) fun an cn as1 cs l hl => ?_))))
 have hll := nds_len hl
 refine .region (.an rfl (.seq (.sr (.an rfl (.block (.loopK (ι := Nat × Value) (fun q E => (11, vint q.1) :: (10, q.2) :: E) (fun q => [rnR q.2 ((l.take q.1).filter fun w => !hitT w.1 y.path)]) (fun q => q.1 ≤ l.length ∧ ∃ a c, q.2 = .slice a ((l.take q.1).filter fun w => !hitT w.1 y.path).length c) (fun q => l.length - q.1) (0, .slice none 0 0) (ts := [0, 2, 4, 6, 8, 9]) (.cons rfl (.cons rfl (.cons rfl (.cons rfl (.cons rfl (.cons rfl (.nil))))))) (⟨Nat.zero_le _, none, 0, rfl⟩) ⟨rfl, rfl, rfl, rfl, rfl, rfl, rfl, rfl, trivial⟩ (by repeat' constructor) ?_))))))
 rintro ⟨i, u⟩ ⟨hi, au, cu, hu⟩
 dsimp only
 dsimp only at hi hu
 subst hu
 have hfl := List.length_filter_le (fun w : Rno => !hitT w.1 y.path) (l.take i)
 rw [List.length_take] at hfl
 refine .seq (.sm rfl (.m rfl (.nf rfl fo_110_0 (.u (.ld rfl ag_107) (.q (.slen rfl Tryz.underlying107 rfl) rfl (.ui rfl rfl rfl (.nt (.condD rfl (fun h33 => ?_) (fun h33 => ?_)))))))))
 ·have hi2 : i < l.length := by omega
  have hpi : l[i].1.length ≤ 60 := by have := nds_get hl hi2; have h2 := able_len (ho.able _ (List.getElem_mem (l := τ.nodes) (n := i) (by omega))); rw [this] at h2; exact h2
  refine .slShape (T := 112) (sz := 12) (v := .slice an l.length cn) (xs := l.flatMap rnC) (by repeat' constructor) (by omega) fun bn bn' e0 mbn _ => ?_
  simp only [Value.slice.injEq, true_and] at e0
  obtain ⟨rfl, rfl⟩ := e0
  refine .sk (.seq (.block (.seq (.draw [10] [[0, 1, 2, 3, 4, 5, 6, 7, 8, 9, 10], [11]] mixed (by kernel_rfl) (.g0 (.mv rfl rfl (.nf rfl rfl rfl fo_110_0 (.kv rfl (.ld rfl ag_107) (.mv rfl rfl (.kv rfl (.indexAddr rfl rfl el_107 (by omega)) (.kv rfl (.fieldAddr rfl fo_112_0) (.kv rfl (.loadRd (sz := 12) (j := i * 12 + 0) (p := rnR _ l) rfl ag_9 (by repeat' constructor) (fun h hp => slR_rd hp) (by omega) ((rn_cell (l := l) (i := i) (k := 0) (by omega) (by decide)).trans rfl)) (.kv rfl (.fieldAddr rfl fo_43_1) (.kv rfl (.ld rfl ag_9) (.hh rfl (.c Tryz.func186 [_, _] (runder_spec l[i].1 y.path (by omega))) ?_)))))))))))))))
  rintro v L' ⟨rfl, rfl⟩
  refine D.ph (.g0 (.kv rfl (.assign rfl) (.pf (.seq (.draw [] [[0, 1, 2, 3, 4, 5, 6, 7, 8, 9, 10, 11, 12, 13, 14]] mixed (by kernel_rfl) (.g0 (.mv rfl rfl (.nf rfl rfl rfl fo_110_0 (.kv rfl (.ld rfl ag_107) (.mv rfl rfl (.kv rfl (.indexAddr rfl rfl el_107 (by omega)) (.kv rfl (.fieldAddr rfl fo_112_0) (.kv rfl (.loadRd (sz := 12) (j := i * 12 + 0) (p := rnR _ l) rfl ag_9 (by repeat' constructor) (fun h hp => slR_rd hp) (by omega) ((rn_cell (l := l) (i := i) (k := 0) (by omega) (by decide)).trans rfl)) (.kv rfl (.fieldAddr rfl fo_43_1) (.kv rfl (.ld rfl ag_9) (.kv rfl (.strne rfl rfl) (.mv rfl rfl (.ndec (t := 58) rfl (fun h11_58 => ?_) (fun h11_58 => ?_)))))))))))))))))))
  ·refine D.kNT (t := 57) rfl h11_58 (.gv rfl (.move rfl) (.gv rfl (.not rfl) (.kv rfl (.pickT rfl rfl) (.pf (.condN rfl (fun h61 => ?_) (fun h61 => ?_))))))
   ·have hhit : hitT l[i].1 y.path = false := by unfold hitT; rw [decide_eq_false h11_58, decide_eq_false h61]; rfl
    refine .aclShape (l := l) (i := i) hi2 (by repeat' constructor) fun hcl => (.region (.m rfl (.m rfl (.nf rfl fo_110_0 (.u (.ld rfl ag_107) (.m rfl (.q (.indexAddr rfl rfl el_107 (by omega)) rfl (.q (.loadRdA (sz := 12) (j := i * 12) (k := 12) (p := rnR _ l) (vs := rnC l[i]) rfl ag_112 (by repeat' constructor) (fun h hp => slR_rd hp) (by omega) (by omega) (by omega) (flatMap_at (f := rnC) (sz := 12) (fun _ _ => rfl) (by omega))) rfl (.oq (.buildSlice (vs := [_]) el_107 ze_112 rfl rfl rfl rfl (by first | (simp [Value.cells]; done) | (intro v hv; simp only [List.mem_cons, List.not_mem_nil, or_false] at hv; (repeat (first | (subst hv; rfl) | (rcases hv with hv | hv; (subst hv; rfl)))))) (by decide)) ?_)))))))))
    rintro v L' ⟨b12_8, rfl, rfl⟩
    refine .oq (.append1 rfl rfl rfl el_107 ze_112 rfl rfl ?c63 ?c64 (Nat.le_refl _) ?c65 (by decide)) ?_
    case c63 => first | exact rn_cells hcl | (simp only [List.map_cons, List.map_nil, List.flatten_cons, List.flatten_nil, List.append_nil]; exact rn_cells hcl)
    case c64 => rfl
    case c65 => first | omega | (simp; omega)
    rintro v L' ⟨⟨a12_9, c12_9, rfl⟩, rfl⟩
    refine .a rfl (.nil (.blk_n (.then_n (.region (.m rfl (.q (.add rfl rfl (by omega)) rfl (.an rfl ?_)))))))
    have hst : ((l.take (i + 1)).filter fun w => !hitT w.1 y.path) = ((l.take i).filter fun w => !hitT w.1 y.path) ++ [l[i]] := by rw [List.take_succ_eq_append_getElem hi2, List.filter_append]; simp [hhit]
    rw [show ((l.take i).filter fun w => !hitT w.1 y.path).length + 1 = ((l.take (i + 1)).filter fun w => !hitT w.1 y.path).length by rw [hst, List.length_append]; rfl]
    refine .slCast (T := 112) (sz := 12) (m' := ((l.take (i + 1)).filter fun w => !hitT w.1 y.path).length) (xs' := ((l.take (i + 1)).filter fun w => !hitT w.1 y.path).flatMap rnC) (by repeat' constructor) rfl (by rw [hst, List.flatMap_append]; simp; rfl) ?_
    exact .rk ((i + 1, .slice a12_9 ((l.take (i + 1)).filter fun w => !hitT w.1 y.path).length c12_9)) (⟨by dsimp only; omega, _, _, rfl⟩) (by dsimp only; omega) ⟨rfl, rfl, rfl, rfl, rfl, rfl, rfl, rfl, trivial⟩
   refine .skip (.blk_n (.then_n (.region (.m rfl (.q (.add rfl rfl (by omega)) rfl (.an rfl ?_))))))
   have hhit : hitT l[i].1 y.path = true := by unfold hitT; rw [decide_eq_true (p := underZ l[i].1 y.path) (by simpa using h61), Bool.or_true]
   have hst : ((l.take (i + 1)).filter fun w => !hitT w.1 y.path) = ((l.take i).filter fun w => !hitT w.1 y.path) := by rw [List.take_succ_eq_append_getElem hi2, List.filter_append]; simp [hhit]
   rw [← hst]
   exact .rk ((i + 1, .slice au ((l.take (i + 1)).filter fun w => !hitT w.1 y.path).length cu)) (⟨by dsimp only; omega, _, _, rfl⟩) (by dsimp only; omega) ⟨rfl, rfl, rfl, rfl, rfl, rfl, rfl, rfl, trivial⟩
  refine D.kNF (t := 57) rfl h11_58 (.gz rfl (.gz rfl (.kv rfl (.pickF rfl rfl) (.pf (.condF rfl (.skip (.blk_n (.then_n (.region (.m rfl (.q (.add rfl rfl (by omega)) rfl (.an rfl ?_))))))))))))
  have hhit : hitT l[i].1 y.path = true := by unfold hitT; rw [decide_eq_true h11_58]; rfl
  have hst : ((l.take (i + 1)).filter fun w => !hitT w.1 y.path) = ((l.take i).filter fun w => !hitT w.1 y.path) := by rw [List.take_succ_eq_append_getElem hi2, List.filter_append]; simp [hhit]
  rw [← hst]
  exact .rk ((i + 1, .slice au ((l.take (i + 1)).filter fun w => !hitT w.1 y.path).length cu)) (⟨by dsimp only; omega, _, _, rfl⟩) (by dsimp only; omega) ⟨rfl, rfl, rfl, rfl, rfl, rfl, rfl, rfl, trivial⟩
 have hii : i = l.length := by omega
 subst hii
 rw [List.take_length]
 refine .exit (.then_e (.then_e (.blk_e (.then_n (.sm rfl (.m rfl (.nf rfl fo_110_0 (.st rfl rfl rfl sz_107 ?_))))))))
 refine .nil (.bigSub (l := (l.filter fun w => !hitT w.1 y.path)) List.filter_sublist (by repeat' constructor) (.rtFold (x := x) (τ := (cutT τ y.path)) (l := (l.filter fun w => !hitT w.1 y.path)) (by rw [nds_filter (fun q => !hitT q y.path), hl]; rfl) (by repeat' constructor) rfl rfl rfl rfl rfl (.then_n (.sm rfl (.m rfl (.u (.fieldAddr rfl fo_43_5) (.u (.ld rfl ag_3) (.m rfl (.oq (.c Tryz.func185 [_, _, _, _] (rkid7_spec x (cutT τ y.path) (parentZ y.path) y.num zx N (ho.cut y.path) (by omega))) ?_)))))))))
 rintro v L' ⟨rfl, rfl⟩; have hoK := (ho.cut y.path).kid (parentZ y.path) y.num zx; have hofk := hoK.few
 refine .nt (.seq (.sm rfl (.u (.not rfl) (.nt (.condN rfl (fun h83 => ?_) (fun h83 => ?_))))))
 ·have hth : ¬ thereT τ y.path := fun g => h83 (place_iff.2 g)
  refine .sr (.an rfl (.rt (.add (slR_nil 184 3) ?_)))
  have hc : eraseZ τ y zx = ((kidT (cutT τ y.path) (parentZ y.path) y.num zx), []) := by unfold eraseZ; rw [if_pos h18, if_neg hth]
  refine .rfCast (x := x) (τ' := (eraseZ τ y zx).1) (by repeat' constructor) (by rw [hc]) (.slCast (T := 184) (sz := 3) (m' := (eraseZ τ y zx).2.length) (xs' := (eraseZ τ y zx).2.flatMap evC) (by repeat' constructor) (by (rw [hc]; try rfl)) (by (rw [hc]; try rfl)) ?_)
  exact .dn rfl rfl ⟨_, _, by (rw [hc]; try rfl), rfl⟩
 have hth : thereT τ y.path := place_iff.1 h83
 refine .sk (.sr (.u (.fieldAddr rfl fo_43_1) (.u (.ld rfl ag_9) (.m rfl (.q (.build (us := [(0, _), (1, _), (2, _)]) fl_184 ze_184 rfl rfl (by simp [isCell])) rfl (.oq (.buildSlice (vs := [_]) el_71 ze_184 rfl rfl rfl rfl (by first | (simp [Value.cells]; done) | (intro v hv; simp only [List.mem_cons, List.not_mem_nil, or_false] at hv; (repeat (first | (subst hv; rfl) | (rcases hv with hv | hv; (subst hv; rfl)))))) (by decide)) ?_))))))
 rintro v L' ⟨bo, rfl, rfl⟩
 refine .a rfl (.nil (.slMakeN 3 1 (b := bo) (xs := ([(2, (y.path, zx))] : List Ev).flatMap evC) (by repeat' constructor) rfl rfl (.then_n (.seq (.sm rfl (.m rfl (.cv Tryz.func95 [_, _] (rplace_spec x (kidT (cutT τ y.path) (parentZ y.path) y.num zx) (parentZ y.path) (by omega)) ?_)))))))
 refine .ui rfl rfl rfl (.nt (.condD rfl (fun h92 => ?_) (fun h92 => ?_)))
 ·refine .region (.m rfl (.m rfl (.m rfl (.q (.build (us := [(0, _), (1, _), (2, _)]) fl_184 ze_184 rfl rfl (by simp [isCell])) rfl (.oq (.buildSlice (vs := [_]) el_71 ze_184 rfl rfl rfl rfl (by first | (simp [Value.cells]; done) | (intro v hv; simp only [List.mem_cons, List.not_mem_nil, or_false] at hv; (repeat (first | (subst hv; rfl) | (rcases hv with hv | hv; (subst hv; rfl)))))) (by decide)) ?_)))))
  rintro v L' ⟨b19_4, rfl, rfl⟩
  refine .oq (.append1 rfl rfl rfl el_71 ze_184 rfl rfl ?c108 ?c109 (Nat.le_refl _) ?c110 (by decide)) ?_
  case c108 => (first | (simp [isCell]; done) | (simp [isCell, setAll, Value.cells]; done))
  case c109 => rfl
  case c110 => omega
  rintro v L' ⟨⟨a19_5, c19_5, rfl⟩, rfl⟩
  refine .an rfl (.sm rfl (.an rfl (.ret ?_)))
  have hc : eraseZ τ y zx = ((kidT (cutT τ y.path) (parentZ y.path) y.num zx), [(2, (y.path, zx)), (4, (parentZ y.path, zx))]) := by unfold eraseZ; rw [if_pos h18, if_pos hth, if_pos (show thereT (cutT τ y.path) (parentZ y.path) from kid_there.1 (place_iff.1 h92))]
  refine .rfCast (x := x) (τ' := (eraseZ τ y zx).1) (by repeat' constructor) (by rw [hc]) (.slCast (T := 184) (sz := 3) (m' := (eraseZ τ y zx).2.length) (xs' := (eraseZ τ y zx).2.flatMap evC) (by repeat' constructor) (by (rw [hc]; try rfl)) (by (rw [hc]; try rfl)) ?_)
  exact .dn rfl rfl ⟨_, _, by (rw [hc]; try rfl), rfl⟩
 refine .sk (.sm rfl (.an rfl (.ret ?_)))
 have hc : eraseZ τ y zx = ((kidT (cutT τ y.path) (parentZ y.path) y.num zx), [(2, (y.path, zx))]) := by unfold eraseZ; rw [if_pos h18, if_pos hth, if_neg (show ¬ thereT (cutT τ y.path) (parentZ y.path) from fun g => h92 (place_iff.2 (kid_there.2 g)))]
 refine .rfCast (x := x) (τ' := (eraseZ τ y zx).1) (by repeat' constructor) (by rw [hc]) (.slCast (T := 184) (sz := 3) (m' := (eraseZ τ y zx).2.length) (xs' := (eraseZ τ y zx).2.flatMap evC) (by repeat' constructor) (by (rw [hc]; try rfl)) (by (rw [hc]; try rfl)) ?_)
 exact .dn rfl rfl ⟨_, _, by (rw [hc]; try rfl), rfl⟩
theorem rpart_spec (x : Nat) (τ : Tr) (y : Pt) (zx : Int) (p : HP) (hy : PtA p y) (N : Nat) (ho : τ.Ok N) (hN : N + 1 ≤ 1073741824) : Fn Tryz.prog 71 #[vptr x, .agg (ptC y).toArray, vint zx] [refR x τ, p] fun v L => ∃ a c, v = .slice a (partZ τ y zx).2.length c ∧ L = [refR x (partZ τ y zx).1, p, slR 184 3 v (partZ τ y zx).2.length ((partZ τ y zx).2.flatMap evC)] := by
 refine Fn.intro Tryz.func71 rfl rfl fun F W => ?_
 have hfew := hy.few
 have hpl := hy.plen
 have hof := ho.few
 have hnd := ho.sorted.nodup linB
 refine .sr (.oq (.box rfl) ?_)
 rintro v L' ⟨bx, rfl, rfl⟩
 refine .a rfl (.nil (.ptCast (b := bx) (l' := ptC y) (by repeat' constructor) rfl (.then_n (.sm rfl (.u (.fieldAddr rfl fo_43_1) (.u (.ld rfl ag_9) (.cv Tryz.func95 [_, _] (rplace_spec x τ y.path (by omega)) ?_)))))))
 refine .an rfl (.seq (.sr (.u (.fieldAddr rfl fo_43_0) (.u (.ld rfl ag_3) (.nt (.block (.sr (.ui rfl rfl rfl (.an rfl (.condD rfl (fun h14 => ?_) (fun h14 => ?_)))))))))))
 ·refine .sm rfl (.q (.loadAs (vs := ptC y) rfl ag_43 (by repeat' constructor) (by simp [ptC]) rfl) rfl (.m rfl (.oq (.c Tryz.func128 [_, _, _] (rcreate_spec x τ y zx p hy N ho hN)) ?_)))
  rintro v L' ⟨a4, c4, rfl, rfl⟩
  refine .an rfl (.ret (.blk_r (.then_r ?_)))
  have hc : partZ τ y zx = createZ τ y zx := by unfold partZ; rw [if_pos h14]
  refine .rfCast (x := x) (τ' := (partZ τ y zx).1) (by repeat' constructor) (by rw [hc]) (.slCast (T := 184) (sz := 3) (m' := (partZ τ y zx).2.length) (xs' := (partZ τ y zx).2.flatMap evC) (by repeat' constructor) (by (rw [hc]; try rfl)) (by (rw [hc]; try rfl)) ?_)
  exact .dn rfl rfl ⟨_, _, by (rw [hc]; try rfl), rfl⟩
 refine .sr (.ui rfl rfl rfl (.an rfl (.condD rfl (fun h20 => ?_) (fun h20 => ?_))))
 ·refine .sm rfl (.q (.loadAs (vs := ptC y) rfl ag_43 (by repeat' constructor) (by simp [ptC]) rfl) rfl (.m rfl (.oq (.c Tryz.func129 [_, _, _] (rerase_spec x τ y zx p hy N ho hN)) ?_)))
  rintro v L' ⟨a6, c6, rfl, rfl⟩
  refine .an rfl (.ret (.blk_r (.then_r ?_)))
  have hc : partZ τ y zx = eraseZ τ y zx := by unfold partZ; rw [if_neg h14, if_pos h20]
  refine .rfCast (x := x) (τ' := (partZ τ y zx).1) (by repeat' constructor) (by rw [hc]) (.slCast (T := 184) (sz := 3) (m' := (partZ τ y zx).2.length) (xs' := (partZ τ y zx).2.flatMap evC) (by repeat' constructor) (by (rw [hc]; try rfl)) (by (rw [hc]; try rfl)) ?_)
  exact .dn rfl rfl ⟨_, _, by (rw [hc]; try rfl), rfl⟩
 refine .sr (.ui rfl rfl rfl (.an rfl (.condD rfl (fun h26 => ?_) (fun h26 => ?_))))
 ·refine .sm rfl (.ui rfl rfl rfl (.nt (.condD rfl (fun h29 => ?_) (fun h29 => ?_))))
  ·obtain ⟨k, hk, hpk, hkp⟩ := place_get (l := τ.nodes) h29
   have hpz : placeZ τ y.path = k := hpk
   rw [hpz]
   refine .rtOpen (x := x) (τ := τ) (by repeat' constructor) fun an cn as1 cs l hl => ?_
   have hll := nds_len hl
   have hkl : k < l.length := by omega
   have hlk : l[k].1 = y.path := by have := nds_get hl hkl; rw [← hkp]; simp only [this]
   refine .slShape (T := 112) (sz := 12) (v := .slice an l.length cn) (xs := l.flatMap rnC) (by repeat' constructor) (by omega) fun bn bn' e0 mbn _ => ?_
   simp only [Value.slice.injEq, true_and] at e0
   obtain ⟨rfl, rfl⟩ := e0
   refine .seq (.draw [9] [[0, 1, 2, 3, 4, 5, 6, 7, 8, 9]] mixed (by kernel_rfl) (.g0 (.mv rfl rfl (.nf rfl rfl rfl fo_110_0 (.kv rfl (.ld rfl ag_107) (.mv rfl rfl (.kv rfl (.fieldAddr rfl fo_43_2) (.kv rfl (.ld rfl ag_9) (.kv rfl (.indexAddr rfl rfl el_107 (by omega)) (.kv rfl (.fieldAddr rfl fo_112_1) (.hh rfl (.storeRd (sz := 12) (j := k * 12 + 1) rfl rfl ?hv33 sz_9 ?ho34 ?hi35) ?_)))))))))))
   case hv33 => first | rfl | assumption
   case ho34 => omega
   case hi35 => omega
   rintro v L' rfl
   refine D.ph (.fin (.slCast (T := 112) (sz := 12) (m' := l.length) (xs' := (l.set k (l[k].1, (l[k].2.1, { l[k].2.2 with data := y.data }))).flatMap rnC) (by repeat' constructor) rfl (flatMap_set (f := rnC) (sz := 12) (fun _ => rfl) (by simpa using hkl) (by decide) (by rfl)) (.then_n (.seq (.draw [10] [[0, 1, 2, 3, 4, 5, 6, 7, 8, 9, 10]] mixed (by kernel_rfl) (.g0 (.mv rfl rfl (.nf rfl rfl rfl fo_110_0 (.kv rfl (.ld rfl ag_107) (.mv rfl rfl (.kv rfl (.fieldAddr rfl fo_43_5) (.kv rfl (.ld rfl ag_3) (.kv rfl (.indexAddr rfl rfl el_107 (by omega)) (.kv rfl (.fieldAddr rfl fo_112_3) (.kv rfl (.fieldAddr rfl fo_37_3) (.hh rfl (.storeRd (sz := 12) (j := k * 12 + 6) rfl rfl ?hv46 sz_3 ?ho47 ?hi48) ?_))))))))))))))))
   case hv46 => first | rfl | assumption
   case ho47 => omega
   case hi48 => omega
   rintro v L' rfl
   refine D.ph (.fin (.slCast (T := 112) (sz := 12) (m' := l.length) (xs' := ((l.set k (l[k].1, (l[k].2.1, { l[k].2.2 with data := y.data }))).set k (l[k].1, (l[k].2.1, { l[k].2.2 with data := y.data, st := { l[k].2.2.st with ver := y.num } }))).flatMap rnC) (by repeat' constructor) rfl (flatMap_set (f := rnC) (sz := 12) (fun _ => rfl) (by simpa using hkl) (by decide) (by rw [List.getElem_set_self]; rfl)) ?_))
   rw [List.set_set]
   refine .then_n (.sm rfl (.nf rfl fo_110_0 (.u (.ld rfl ag_107) (.m rfl (.m rfl (.q (.indexAddr rfl rfl el_107 (by omega)) rfl (.u (.fieldAddr rfl fo_112_3) (.u (.fieldAddr rfl fo_37_1) (.oq (.storeRd (sz := 12) (j := k * 12 + 4) rfl rfl ?hv58 sz_3 ?ho59 ?hi60) ?_)))))))))
   case hv58 => first | rfl | assumption
   case ho59 => omega
   case hi60 => omega
   rintro v L' rfl
   refine .nil (.slCast (T := 112) (sz := 12) (m' := l.length) (xs' := ((l.set k (l[k].1, (l[k].2.1, { l[k].2.2 with data := y.data, st := { l[k].2.2.st with ver := y.num } }))).set k (l[k].1, (l[k].2.1, setN y.data y.num zx l[k].2.2))).flatMap rnC) (by repeat' constructor) rfl (flatMap_set (f := rnC) (sz := 12) (fun _ => rfl) (by simpa using hkl) (by decide) (by rw [List.getElem_set_self]; rfl)) ?_)
   rw [List.set_set]
   refine .bigSet (y := (l[k].1, (l[k].2.1, setN y.data y.num zx l[k].2.2))) hkl (by rfl) (by repeat' constructor) (.rtFold (x := x) (τ := ({ τ with nodes := amod τ.nodes y.path (setN y.data y.num zx) } : Tr)) (l := (l.set k (l[k].1, (l[k].2.1, setN y.data y.num zx l[k].2.2)))) (nds_mod hl hnd hkl hlk (setN y.data y.num zx) rfl) (by repeat' constructor) rfl (by simp) rfl rfl rfl (.then_n (.sr (.u (.fieldAddr rfl fo_43_1) (.u (.ld rfl ag_9) (.m rfl (.q (.build (us := [(0, _), (1, _), (2, _)]) fl_184 ze_184 rfl rfl (by simp [isCell])) rfl (.oq (.buildSlice (vs := [_]) el_71 ze_184 rfl rfl rfl rfl (by first | (simp [Value.cells]; done) | (intro v hv; simp only [List.mem_cons, List.not_mem_nil, or_false] at hv; (repeat (first | (subst hv; rfl) | (rcases hv with hv | hv; (subst hv; rfl)))))) (by decide)) ?_))))))))
   rintro v L' ⟨bo, rfl, rfl⟩
   refine .a rfl (.nil (.slMakeN 3 1 (b := bo) (xs := ([(3, (y.path, zx))] : List Ev).flatMap evC) (by repeat' constructor) rfl rfl (.then_n (.ret (.blk_r (.then_r ?_))))))
   have hc : partZ τ y zx = (({ τ with nodes := amod τ.nodes y.path (setN y.data y.num zx) } : Tr), [(3, (y.path, zx))]) := by unfold partZ; rw [if_neg h14, if_neg h20, if_pos ⟨h26, place_iff.1 h29⟩]
   refine .rfCast (x := x) (τ' := (partZ τ y zx).1) (by repeat' constructor) (by rw [hc]) (.slCast (T := 184) (sz := 3) (m' := (partZ τ y zx).2.length) (xs' := (partZ τ y zx).2.flatMap evC) (by repeat' constructor) (by (rw [hc]; try rfl)) (by (rw [hc]; try rfl)) ?_)
   exact .dn rfl rfl ⟨_, _, by (rw [hc]; try rfl), rfl⟩
  refine .skip (.blk_n (.then_n (.sr (.an rfl (.ret (.add (slR_nil 184 3) ?_))))))
  have hc : partZ τ y zx = (τ, []) := by unfold partZ; rw [if_neg h14, if_neg h20, if_neg (fun g => h29 (place_iff.2 g.2)), if_neg (fun g => h29 (place_iff.2 g.2))]
  refine .rfCast (x := x) (τ' := (partZ τ y zx).1) (by repeat' constructor) (by rw [hc]) (.slCast (T := 184) (sz := 3) (m' := (partZ τ y zx).2.length) (xs' := (partZ τ y zx).2.flatMap evC) (by repeat' constructor) (by (rw [hc]; try rfl)) (by (rw [hc]; try rfl)) ?_)
  exact .dn rfl rfl ⟨_, _, by (rw [hc]; try rfl), rfl⟩
 refine .sr (.ui rfl rfl rfl (.an rfl (.condD rfl (fun h63 => ?_) (fun h63 => ?_))))
 ·refine .sm rfl (.ui rfl rfl rfl (.nt (.condD rfl (fun h66 => ?_) (fun h66 => ?_))))
  ·obtain ⟨k, hk, hpk, hkp⟩ := place_get (l := τ.nodes) h66
   have hpz : placeZ τ y.path = k := hpk
   rw [hpz]
   refine .rtOpen (x := x) (τ := τ) (by repeat' constructor) fun an cn as1 cs l hl => ?_
   have hll := nds_len hl
   have hkl : k < l.length := by omega
   have hlk : l[k].1 = y.path := by have := nds_get hl hkl; rw [← hkp]; simp only [this]
   refine .slShape (T := 112) (sz := 12) (v := .slice an l.length cn) (xs := l.flatMap rnC) (by repeat' constructor) (by omega) fun bn bn' e0 mbn _ => ?_
   simp only [Value.slice.injEq, true_and] at e0
   obtain ⟨rfl, rfl⟩ := e0
   refine .seq (.draw [7, 10] [[0, 1, 2, 3, 4, 5, 6, 7], [8, 9, 10]] mixed (by kernel_rfl) (.go [ptc bx _ _, ptc x _ _] (by repeat' constructor) (.k rfl (.move rfl) (.k rfl (.nilp rfl) (.k rfl (.fieldAddr rfl fo_110_0) (.k rfl (.ld rfl ag_107) (.k rfl (.move rfl) (.kv rfl (.fieldAddr rfl fo_43_3) (.kv rfl (.ld rfl ag_24) (.hh rfl (.c Tryz.func126 [_] (rrows_spec y.aclV y.acl p hy.acl hfew)) ?_))))))))))
   rintro v L' ⟨⟨a15, c15, rfl⟩, rfl⟩
   refine D.ph (.g0 (.kv rfl (.indexAddr rfl rfl el_107 (by omega)) (.kv rfl (.fieldAddr rfl fo_112_2) (.hh rfl (.storeRd (sz := 12) (j := k * 12 + 2) rfl rfl ?hv81 sz_24 ?ho82 ?hi83) ?_))))
   case hv81 => first | rfl | assumption
   case ho82 => omega
   case hi83 => omega
   rintro v L' rfl
   refine D.ph (.fin (.slCast (T := 112) (sz := 12) (m' := l.length) (xs' := (l.set k (l[k].1, (.slice a15 y.acl.length c15, { l[k].2.2 with acl := y.acl }))).flatMap rnC) (by repeat' constructor) rfl (flatMap_set (f := rnC) (sz := 12) (fun _ => rfl) (by simpa using hkl) (by decide) (by rfl)) (.then_n (.draw [10] [[0, 1, 2, 3, 4, 5, 6, 7, 8, 9, 10]] mixed (by kernel_rfl) (.g0 (.mv rfl rfl (.nf rfl rfl rfl fo_110_0 (.kv rfl (.ld rfl ag_107) (.mv rfl rfl (.kv rfl (.fieldAddr rfl fo_43_5) (.kv rfl (.ld rfl ag_3) (.kv rfl (.indexAddr rfl rfl el_107 (by omega)) (.kv rfl (.fieldAddr rfl fo_112_3) (.kv rfl (.fieldAddr rfl fo_37_5) (.hh rfl (.storeRd (sz := 12) (j := k * 12 + 8) rfl rfl ?hv94 sz_3 ?ho95 ?hi96) ?_)))))))))))))))
   case hv94 => first | rfl | assumption
   case ho95 => omega
   case hi96 => omega
   rintro v L' rfl
   refine D.ph (.fin (.slCast (T := 112) (sz := 12) (m' := l.length) (xs' := ((l.set k (l[k].1, (.slice a15 y.acl.length c15, { l[k].2.2 with acl := y.acl }))).set k (l[k].1, (.slice a15 y.acl.length c15, aclN y.acl y.num l[k].2.2))).flatMap rnC) (by repeat' constructor) rfl (flatMap_set (f := rnC) (sz := 12) (fun _ => rfl) (by simpa using hkl) (by decide) (by rw [List.getElem_set_self]; rfl)) ?_))
   rw [List.set_set]
   refine .toRd (v := .slice a15 y.acl.length c15) (by repeat' constructor) (.bigRep (l[k].1, (.slice a15 y.acl.length c15, aclN y.acl y.num l[k].2.2)) hkl (p := rdO 2 (.slice a15 y.acl.length c15) y.acl.length (y.acl.flatMap acC)) rfl (by repeat' constructor) (.rtFold (x := x) (τ := ({ τ with nodes := amod τ.nodes y.path (aclN y.acl y.num) } : Tr)) (l := (l.set k (l[k].1, (.slice a15 y.acl.length c15, aclN y.acl y.num l[k].2.2)))) (nds_mod hl hnd hkl hlk (aclN y.acl y.num) rfl) (by repeat' constructor) rfl (by simp) rfl rfl rfl (.blk_n (.then_n (.sr (.an rfl (.ret (.add (slR_nil 184 3) ?_))))))))
   have hc : partZ τ y zx = (({ τ with nodes := amod τ.nodes y.path (aclN y.acl y.num) } : Tr), []) := by unfold partZ; rw [if_neg h14, if_neg h20, if_neg (fun g => h26 g.1), if_pos ⟨h63, place_iff.1 h66⟩]
   refine .rfCast (x := x) (τ' := (partZ τ y zx).1) (by repeat' constructor) (by rw [hc]) (.slCast (T := 184) (sz := 3) (m' := (partZ τ y zx).2.length) (xs' := (partZ τ y zx).2.flatMap evC) (by repeat' constructor) (by (rw [hc]; try rfl)) (by (rw [hc]; try rfl)) ?_)
   exact .dn rfl rfl ⟨_, _, by (rw [hc]; try rfl), rfl⟩
  refine .skip (.blk_n (.then_n (.sr (.an rfl (.ret (.add (slR_nil 184 3) ?_))))))
  have hc : partZ τ y zx = (τ, []) := by unfold partZ; rw [if_neg h14, if_neg h20, if_neg (fun g => h26 g.1), if_neg (fun g => h66 (place_iff.2 g.2))]
  refine .rfCast (x := x) (τ' := (partZ τ y zx).1) (by repeat' constructor) (by rw [hc]) (.slCast (T := 184) (sz := 3) (m' := (partZ τ y zx).2.length) (xs' := (partZ τ y zx).2.flatMap evC) (by repeat' constructor) (by (rw [hc]; try rfl)) (by (rw [hc]; try rfl)) ?_)
  exact .dn rfl rfl ⟨_, _, by (rw [hc]; try rfl), rfl⟩
 refine .skip (.blk_n (.then_n (.sr (.an rfl (.ret (.add (slR_nil 184 3) ?_))))))
 have hc : partZ τ y zx = (τ, []) := by unfold partZ; rw [if_neg h14, if_neg h20, if_neg (fun g => h26 g.1), if_neg (fun g => h63 g.1)]
 refine .rfCast (x := x) (τ' := (partZ τ y zx).1) (by repeat' constructor) (by rw [hc]) (.slCast (T := 184) (sz := 3) (m' := (partZ τ y zx).2.length) (xs' := (partZ τ y zx).2.flatMap evC) (by repeat' constructor) (by (rw [hc]; try rfl)) (by (rw [hc]; try rfl)) ?_)
 exact .dn rfl rfl ⟨_, _, by (rw [hc]; try rfl), rfl⟩
theorem rs_cells (z : Int × (Int × Bs)) : ∀ y ∈ (Value.agg (rsC z).toArray).cells.toList, isCell y = true := by
 intro v hv
 simp only [Value.cells, rsC, List.mem_cons, List.not_mem_nil, or_false] at hv
 rcases hv with rfl | rfl | rfl <;> rfl
theorem rsl_cells (l : SsM) : ∀ y ∈ l.flatMap rsC, isCell y = true := by
 intro y hy
 obtain ⟨a, -, h⟩ := List.mem_flatMap.1 hy
 simp only [rsC, List.mem_cons, List.not_mem_nil, or_false] at h
 rcases h with rfl | rfl | rfl <;> rfl
theorem rdrop_spec (x : Nat) (τ : Tr) (id : Int) (hN : τ.sess.length ≤ 1073741824) : Fn Tryz.prog 78 #[vptr x, vint id] [refR x τ] fun v L => v = .tuple #[] ∧ L = [refR x (dropS τ id)] := by
 refine Fn.intro Tryz.func78 rfl rfl fun F W => ?_
 refine .rtOpen (x := x) (τ := τ) (by repeat' constructor) fun an cn as1 cs l hl => (.add (slR_nil 122 3) (.sr (.an rfl (.seq (.sr (.an rfl (.block (.loopK (ι := Nat × Value) (fun q E => (5, vint q.1) :: (4, q.2) :: E) (fun q => [rsR q.2 ((τ.sess.take q.1).filter fun w => !decide (w.1 = id))]) (fun q => q.1 ≤ τ.sess.length ∧ ∃ a c, q.2 = .slice a ((τ.sess.take q.1).filter fun w => !decide (w.1 = id)).length c) (fun q => τ.sess.length - q.1) (0, .slice none 0 0) (ts := [0, 1]) (.cons rfl (.cons rfl (.nil))) (⟨Nat.zero_le _, none, 0, rfl⟩) ⟨rfl, rfl, rfl, rfl, trivial⟩ (by repeat' constructor) ?_))))))))
 rintro ⟨i, u⟩ ⟨hi, au, cu, hu⟩
 dsimp only
 dsimp only at hi hu
 subst hu
 have hfl := List.length_filter_le (fun w : Int × (Int × Bs) => !decide (w.1 = id)) (τ.sess.take i)
 rw [List.length_take] at hfl
 refine .seq (.sm rfl (.m rfl (.nf rfl fo_110_1 (.u (.ld rfl ag_108) (.q (.slen rfl Tryz.underlying108 rfl) rfl (.ui rfl rfl rfl (.nt (.condD rfl (fun h12 => ?_) (fun h12 => ?_)))))))))
 ·have hi2 : i < τ.sess.length := by omega
  refine .slShape (T := 122) (sz := 3) (v := .slice as1 τ.sess.length cs) (xs := τ.sess.flatMap rsC) (by repeat' constructor) (by omega) fun bs bs' e0 mbs _ => ?_
  simp only [Value.slice.injEq, true_and] at e0
  obtain ⟨rfl, rfl⟩ := e0
  refine .sk (.seq (.block (.sm rfl (.nf rfl fo_110_1 (.u (.ld rfl ag_108) (.m rfl (.q (.indexAddr rfl rfl el_108 (by omega)) rfl (.u (.fieldAddr rfl fo_122_0) (.q (.loadRd (sz := 3) (j := i * 3 + 0) (p := rsR _ τ.sess) rfl ag_3 (by repeat' constructor) (fun h hp => slR_rd hp) (by omega) ((rs_cell (l := τ.sess) (i := i) (k := 0) (by omega) (by decide)).trans rfl)) rfl (.m rfl (.ui rfl rfl rfl (.nt (.condN rfl (fun h24 => ?_) (fun h24 => ?_))))))))))))))
  ·refine .region (.m rfl (.m rfl (.nf rfl fo_110_1 (.u (.ld rfl ag_108) (.m rfl (.q (.indexAddr rfl rfl el_108 (by omega)) rfl (.q (.loadRdA (sz := 3) (j := i * 3) (k := 3) (p := rsR _ τ.sess) (vs := rsC τ.sess[i]) rfl ag_122 (by repeat' constructor) (fun h hp => slR_rd hp) (by omega) (by omega) (by omega) (flatMap_at (f := rsC) (sz := 3) (fun _ _ => rfl) (by omega))) rfl (.oq (.buildSlice (vs := [_]) el_108 ze_122 rfl rfl rfl rfl (by first | (simp [Value.cells]; done) | (intro v hv; simp only [List.mem_cons, List.not_mem_nil, or_false] at hv; (repeat (first | (subst hv; rfl) | (rcases hv with hv | hv; (subst hv; rfl)))))) (by decide)) ?_))))))))
   rintro v L' ⟨b5_8, rfl, rfl⟩
   refine .oq (.append1 rfl rfl rfl el_108 ze_122 rfl rfl ?c30 ?c31 (Nat.le_refl _) ?c32 (by decide)) ?_
   case c30 => first | exact rs_cells _ | (simp only [List.map_cons, List.map_nil, List.flatten_cons, List.flatten_nil, List.append_nil]; exact rs_cells _)
   case c31 => rfl
   case c32 => first | omega | (simp; omega)
   rintro v L' ⟨⟨a5_9, c5_9, rfl⟩, rfl⟩
   refine .a rfl (.nil (.blk_n (.then_n (.region (.m rfl (.q (.add rfl rfl (by omega)) rfl (.an rfl ?_)))))))
   have hst : ((τ.sess.take (i + 1)).filter fun w => !decide (w.1 = id)) = ((τ.sess.take i).filter fun w => !decide (w.1 = id)) ++ [τ.sess[i]] := by rw [List.take_succ_eq_append_getElem hi2, List.filter_append]; simp [show ¬ τ.sess[i].1 = id from h24]
   rw [show ((τ.sess.take i).filter fun w => !decide (w.1 = id)).length + 1 = ((τ.sess.take (i + 1)).filter fun w => !decide (w.1 = id)).length by rw [hst, List.length_append]; rfl]
   refine .slCast (T := 122) (sz := 3) (m' := ((τ.sess.take (i + 1)).filter fun w => !decide (w.1 = id)).length) (xs' := ((τ.sess.take (i + 1)).filter fun w => !decide (w.1 = id)).flatMap rsC) (by repeat' constructor) rfl (by rw [hst, List.flatMap_append]; simp; rfl) ?_
   exact .rk ((i + 1, .slice a5_9 ((τ.sess.take (i + 1)).filter fun w => !decide (w.1 = id)).length c5_9)) (⟨by dsimp only; omega, _, _, rfl⟩) (by dsimp only; omega) ⟨rfl, rfl, rfl, rfl, trivial⟩
  refine .skip (.blk_n (.then_n (.region (.m rfl (.q (.add rfl rfl (by omega)) rfl (.an rfl ?_))))))
  have hst : ((τ.sess.take (i + 1)).filter fun w => !decide (w.1 = id)) = ((τ.sess.take i).filter fun w => !decide (w.1 = id)) := by rw [List.take_succ_eq_append_getElem hi2, List.filter_append]; simp [show τ.sess[i].1 = id from h24]
  rw [← hst]
  exact .rk ((i + 1, .slice au ((τ.sess.take (i + 1)).filter fun w => !decide (w.1 = id)).length cu)) (⟨by dsimp only; omega, _, _, rfl⟩) (by dsimp only; omega) ⟨rfl, rfl, rfl, rfl, trivial⟩
 have hii : i = τ.sess.length := by omega
 subst hii
 rw [List.take_length]
 refine .exit (.then_e (.then_e (.blk_e (.then_n (.region (.m rfl (.m rfl (.nf rfl fo_110_1 (.st rfl rfl rfl sz_108 ?_)))))))))
 refine .nil (.done_n (.rtFold (x := x) (τ := (dropS τ id)) (l := l) hl (by repeat' constructor) rfl rfl rfl rfl rfl ?_))
 exact .vv
theorem ropen_spec (x : Nat) (τ : Tr) (id n : Int) (s : Bs) (N : Nat) (ho : τ.Ok N) (hN : τ.sess.length ≤ 1073741824) : Fn Tryz.prog 77 #[vptr x, .agg (rsC (id, (n, s))).toArray] [refR x τ] fun v L => v = .tuple #[] ∧ L = [refR x (openS τ id n s)] := by
 refine Fn.intro Tryz.func77 rfl rfl fun F W => ?_
 have hsl : (dropS τ id).sess.length ≤ τ.sess.length := List.length_filter_le _ _
 refine .sr (.oq (.box rfl) ?_)
 rintro v L' ⟨bz, rfl, rfl⟩
 refine .nil (.ptCast (b := bz) (l' := rsC (id, (n, s))) (by repeat' constructor) rfl (.then_n (.sm rfl (.u (.fieldAddr rfl fo_122_0) (.u (.ld rfl ag_3) (.cv Tryz.func78 [_, _] (rdrop_spec x τ id hN) ?_))))))
 refine .nt (.seq (.rtOpen (x := x) (τ := (dropS τ id)) (by repeat' constructor) fun an cn as1 cs l hl => (.region (.slForm (T := 122) (sz := 3) (a := as1) (m := (dropS τ id).sess.length) (c := cs) (by repeat' constructor) (fun e0 e1 e2 => ?_) (fun bs e0 e1 => ?_)))))
 ·subst e0
  refine .an rfl (.seq (.joinK (ι := Nat) (fun q E => (4, vint q) :: E) (fun q => []) (fun q => q ≤ (dropS τ id).sess.length ∧ (∀ w ∈ ((dropS τ id).sess.take q), w.1 < id) ∧ ∀ h : q < (dropS τ id).sess.length, ¬ (dropS τ id).sess[q].1 < id) (pre := []) (ts := [0, 3]) (.cons rfl (.cons rfl (.nil))) (by repeat' constructor) ?_ ?_))
  ·refine .block (.loopK (ι := Nat) (fun q E => (4, vint q) :: E) (fun q => []) (fun q => q ≤ (dropS τ id).sess.length ∧ ∀ w ∈ ((dropS τ id).sess.take q), w.1 < id) (fun q => (dropS τ id).sess.length - q) (0) (ts := [0, 3]) (.cons rfl (.cons rfl (.nil))) (⟨Nat.zero_le _, by simp⟩) ⟨rfl, rfl, rfl, trivial⟩ (by repeat' constructor) ?_)
   rintro i ⟨hi, hlow⟩
   refine .seq (.seq (.draw [] [[0, 1, 2, 3, 4, 5, 6, 7, 8, 9, 10, 11, 12, 13, 14, 15, 16, 17, 18, 19]] mixed (by kernel_rfl) (.g0 (.mv rfl rfl (.mv rfl rfl (.nf rfl rfl rfl fo_110_1 (.kv rfl (.ld rfl ag_108) (.kv rfl (.slen rfl Tryz.underlying108 rfl) (.kv rfl (.int rfl rfl rfl) (.mv rfl rfl (.dec (t := 17) rfl (fun h3_17 => ?_) (fun h3_17 => ?_))))))))))))
   ·exfalso; omega
   refine D.kDF (t := 16) rfl h3_17 (.gz rfl (.gz rfl (.gz rfl (.gz rfl (.gz rfl (.gz rfl (.gz rfl (.gz rfl (.gz rfl (.gz rfl (.gz rfl (.kv rfl (.pickF rfl rfl) (.pf (.condF rfl (.exit (.then_e (.then_e (.blk_e (.then_n ?_)))))))))))))))))))
   exact .mk (i) (⟨hi, hlow, fun h => absurd h (by omega)⟩) ⟨rfl, rfl, rfl, trivial⟩
  rintro i ⟨hi, hlow, hhigh⟩
  refine .seq (.add (slR_nil 122 3) (.region (.an rfl (.seq ?_))))
  have hadr : (none : Option Addr) = none ∨ ∃ b off, (none : Option Addr) = some (⟨b, off, none⟩ : Addr) := .inl rfl
  refine .region (.m rfl (.m rfl (.nf rfl fo_110_1 (.u (.ld rfl ag_108) (.m rfl (.q (.to (v' := .slice (none : Option Addr) i cs) (.slTo (j := (i : Int)) rfl el_108 rfl (by omega) hadr) (by rw [Int.toNat_natCast])) rfl (.oq (.append (n := 0) (m := i) (ys := ((dropS τ id).sess.take i).flatMap rsC) (p := slR 122 3 (.slice (none : Option Addr) (dropS τ id).sess.length cs) (dropS τ id).sess.length ((dropS τ id).sess.flatMap rsC)) rfl rfl rfl el_108 (.inl ⟨_, Tryz.underlying108⟩) ze_122 rfl rfl ?hc24 ?hr25 ?hb26 (by decide)) ?_)))))))
  case hc24 => exact rsl_cells _
  case hr25 => exact fun h hp => by have := slR_rd_to hi hp; rw [(flat_take (f := rsC) (sz := 3) (fun _ => rfl) _ i).1] at this; exact this
  case hb26 => omega
  rintro v L' ⟨⟨a6, c6, rfl⟩, rfl⟩; rw [Nat.zero_add, List.nil_append]
  refine .an rfl (.sm rfl (.q (.loadAs (vs := rsC (id, (n, s))) rfl ag_122 (by repeat' constructor) (by simp [rsC]) rfl) rfl (.oq (.buildSlice (vs := [_]) el_108 ze_122 rfl rfl rfl rfl (by first | (simp [Value.cells]; done) | (intro v hv; simp only [List.mem_cons, List.not_mem_nil, or_false] at hv; (repeat (first | (subst hv; rfl) | (rcases hv with hv | hv; (subst hv; rfl)))))) (by decide)) ?_)))
  rintro v L' ⟨b7_2, rfl, rfl⟩
  refine .oq (.append1 rfl rfl rfl el_108 ze_122 rfl rfl ?c32 ?c33 (Nat.le_refl _) ?c34 (by decide)) ?_
  case c32 => first | exact rs_cells _ | (simp only [List.map_cons, List.map_nil, List.flatten_cons, List.flatten_nil, List.append_nil]; exact rs_cells _)
  case c33 => rfl
  case c34 => first | omega | (simp; omega)
  rintro v L' ⟨⟨a7_3, c7_3, rfl⟩, rfl⟩
  refine .a rfl (.nil (.slCast (T := 122) (sz := 3) (m' := i + 1) (xs' := (((dropS τ id).sess.take i) ++ [(id, (n, s))]).flatMap rsC) (by repeat' constructor) rfl (by rw [List.flatMap_append]; simp; rfl) (.then_n (.region (.m rfl (.m rfl (.m rfl (.nf rfl fo_110_1 (.u (.ld rfl ag_108) (.m rfl (.q (.slFromO (i := (i : Int)) rfl el_108 rfl (by omega)) rfl (.oq (.append (n := i + 1) (m := (dropS τ id).sess.length - (i : Int).toNat) (ys := ((dropS τ id).sess.drop i).flatMap rsC) (p := slR 122 3 (.slice (none : Option Addr) (dropS τ id).sess.length cs) (dropS τ id).sess.length ((dropS τ id).sess.flatMap rsC)) rfl rfl rfl el_108 (.inl ⟨_, Tryz.underlying108⟩) ze_122 rfl rfl ?hc44 ?hr45 ?hb46 (by decide)) ?_))))))))))))
  case hc44 => exact rsl_cells _
  case hr45 => exact fun h hp => by rw [Int.toNat_natCast]; have := slR_rd_from hi hp; rw [(flat_take (f := rsC) (sz := 3) (fun _ => rfl) _ i).2] at this; exact this
  case hb46 => omega
  rintro v L' ⟨⟨a8, c8, rfl⟩, rfl⟩
  refine .nf rfl fo_110_1 (.st rfl rfl rfl sz_108 ?_)
  refine .nil (.done_n ?_)
  have hfin : ((dropS τ id).sess.take i) ++ [(id, (n, s))] ++ ((dropS τ id).sess.drop i) = (openS τ id n s).sess := by rw [sset_at hi hlow hhigh (fun w hw => by have := (List.mem_filter.1 hw).2; simpa using this), ← open_drop ho id n s]; rfl
  have hlen : i + 1 + ((dropS τ id).sess.length - (i : Int).toNat) = (openS τ id n s).sess.length := by rw [← hfin]; simp; omega
  refine .rtFold (x := x) (τ := (openS τ id n s)) (l := l) hl (by repeat' constructor) rfl rfl rfl hlen (by rw [← List.flatMap_append, hfin]) ?_
  exact .vv
 subst e0
 refine .an rfl (.seq (.joinK (ι := Nat) (fun q E => (4, vint q) :: E) (fun q => []) (fun q => q ≤ (dropS τ id).sess.length ∧ (∀ w ∈ ((dropS τ id).sess.take q), w.1 < id) ∧ ∀ h : q < (dropS τ id).sess.length, ¬ (dropS τ id).sess[q].1 < id) (pre := []) (ts := [0, 3]) (.cons rfl (.cons rfl (.nil))) (by repeat' constructor) ?_ ?_))
 ·refine .block (.loopK (ι := Nat) (fun q E => (4, vint q) :: E) (fun q => []) (fun q => q ≤ (dropS τ id).sess.length ∧ ∀ w ∈ ((dropS τ id).sess.take q), w.1 < id) (fun q => (dropS τ id).sess.length - q) (0) (ts := [0, 3]) (.cons rfl (.cons rfl (.nil))) (⟨Nat.zero_le _, by simp⟩) ⟨rfl, rfl, rfl, trivial⟩ (by repeat' constructor) ?_)
  rintro i ⟨hi, hlow⟩
  refine .seq (.seq (.draw [] [[0, 1, 2, 3, 4, 5, 6, 7, 8, 9, 10, 11, 12, 13, 14, 15, 16, 17, 18, 19]] mixed (by kernel_rfl) (.g0 (.mv rfl rfl (.mv rfl rfl (.nf rfl rfl rfl fo_110_1 (.kv rfl (.ld rfl ag_108) (.kv rfl (.slen rfl Tryz.underlying108 rfl) (.kv rfl (.int rfl rfl rfl) (.mv rfl rfl (.dec (t := 17) rfl (fun h3_17 => ?_) (fun h3_17 => ?_))))))))))))
  ·have hi2 : i < (dropS τ id).sess.length := by omega
   refine D.kDT (t := 16) rfl h3_17 (.gv rfl (.move rfl) (.gv rfl (.nilp rfl) (.gv rfl (.fieldAddr rfl fo_110_1) (.gv rfl (.ld rfl ag_108) (.gv rfl (.move rfl) (.gv rfl (.indexAddr rfl rfl el_108 (by omega)) (.gv rfl (.fieldAddr rfl fo_122_0) (.gv rfl (.loadRd (sz := 3) (j := i * 3 + 0) (p := rsR _ (dropS τ id).sess) rfl ag_3 (by repeat' constructor) (fun h hp => slR_rd hp) (by omega) ((rs_cell (l := (dropS τ id).sess) (i := i) (k := 0) (by omega) (by decide)).trans rfl)) (.gv rfl (.fieldAddr rfl fo_122_0) (.gv rfl (.load rfl ag_3 (by repeat' constructor) rfl) (.gv rfl (.int rfl rfl rfl) (.kv rfl (.pickT rfl rfl) (.pf (.condD rfl (fun h29 => ?_) (fun h29 => ?_)))))))))))))))
   ·refine .sk (.block (.region (.m rfl (.q (.add rfl rfl (by omega)) rfl (.a rfl (.nil (.blk_n (.then_n ?_))))))))
    exact .rk (i + 1) (⟨by omega, fun w hw => by rw [List.take_succ_eq_append_getElem hi2] at hw; rcases List.mem_append.1 hw with hw | hw; (exact hlow w hw); (rw [List.mem_singleton] at hw; rw [hw]; exact h29)⟩) (by omega) ⟨rfl, rfl, rfl, trivial⟩
   refine .exit (.then_e (.then_e (.blk_e (.then_n ?_))))
   exact .mk (i) (⟨hi, hlow, fun h => h29⟩) ⟨rfl, rfl, rfl, trivial⟩
  refine D.kDF (t := 16) rfl h3_17 (.gz rfl (.gz rfl (.gz rfl (.gz rfl (.gz rfl (.gz rfl (.gz rfl (.gz rfl (.gz rfl (.gz rfl (.gz rfl (.kv rfl (.pickF rfl rfl) (.pf (.condF rfl (.exit (.then_e (.then_e (.blk_e (.then_n ?_)))))))))))))))))))
  exact .mk (i) (⟨hi, hlow, fun h => absurd h (by omega)⟩) ⟨rfl, rfl, rfl, trivial⟩
 rintro i ⟨hi, hlow, hhigh⟩
 refine .seq (.add (slR_nil 122 3) (.region (.an rfl (.seq ?_))))
 have hadr : (some (⟨bs, 0, none⟩ : Addr)) = none ∨ ∃ b off, (some (⟨bs, 0, none⟩ : Addr)) = some (⟨b, off, none⟩ : Addr) := .inr ⟨_, _, rfl⟩
 refine .region (.m rfl (.m rfl (.nf rfl fo_110_1 (.u (.ld rfl ag_108) (.m rfl (.q (.to (v' := .slice (some (⟨bs, 0, none⟩ : Addr)) i cs) (.slTo (j := (i : Int)) rfl el_108 rfl (by omega) hadr) (by rw [Int.toNat_natCast])) rfl (.oq (.append (n := 0) (m := i) (ys := ((dropS τ id).sess.take i).flatMap rsC) (p := slR 122 3 (.slice (some (⟨bs, 0, none⟩ : Addr)) (dropS τ id).sess.length cs) (dropS τ id).sess.length ((dropS τ id).sess.flatMap rsC)) rfl rfl rfl el_108 (.inl ⟨_, Tryz.underlying108⟩) ze_122 rfl rfl ?hc83 ?hr84 ?hb85 (by decide)) ?_)))))))
 case hc83 => exact rsl_cells _
 case hr84 => exact fun h hp => by have := slR_rd_to hi hp; rw [(flat_take (f := rsC) (sz := 3) (fun _ => rfl) _ i).1] at this; exact this
 case hb85 => omega
 rintro v L' ⟨⟨a6, c6, rfl⟩, rfl⟩; rw [Nat.zero_add, List.nil_append]
 refine .an rfl (.sm rfl (.q (.loadAs (vs := rsC (id, (n, s))) rfl ag_122 (by repeat' constructor) (by simp [rsC]) rfl) rfl (.oq (.buildSlice (vs := [_]) el_108 ze_122 rfl rfl rfl rfl (by first | (simp [Value.cells]; done) | (intro v hv; simp only [List.mem_cons, List.not_mem_nil, or_false] at hv; (repeat (first | (subst hv; rfl) | (rcases hv with hv | hv; (subst hv; rfl)))))) (by decide)) ?_)))
 rintro v L' ⟨b7_2, rfl, rfl⟩
 refine .oq (.append1 rfl rfl rfl el_108 ze_122 rfl rfl ?c91 ?c92 (Nat.le_refl _) ?c93 (by decide)) ?_
 case c91 => first | exact rs_cells _ | (simp only [List.map_cons, List.map_nil, List.flatten_cons, List.flatten_nil, List.append_nil]; exact rs_cells _)
 case c92 => rfl
 case c93 => first | omega | (simp; omega)
 rintro v L' ⟨⟨a7_3, c7_3, rfl⟩, rfl⟩
 refine .a rfl (.nil (.slCast (T := 122) (sz := 3) (m' := i + 1) (xs' := (((dropS τ id).sess.take i) ++ [(id, (n, s))]).flatMap rsC) (by repeat' constructor) rfl (by rw [List.flatMap_append]; simp; rfl) (.then_n (.region (.m rfl (.m rfl (.m rfl (.nf rfl fo_110_1 (.u (.ld rfl ag_108) (.m rfl (.q (.slFromO (i := (i : Int)) rfl el_108 rfl (by omega)) rfl (.oq (.append (n := i + 1) (m := (dropS τ id).sess.length - (i : Int).toNat) (ys := ((dropS τ id).sess.drop i).flatMap rsC) (p := slR 122 3 (.slice (some (⟨bs, 0, none⟩ : Addr)) (dropS τ id).sess.length cs) (dropS τ id).sess.length ((dropS τ id).sess.flatMap rsC)) rfl rfl rfl el_108 (.inl ⟨_, Tryz.underlying108⟩) ze_122 rfl rfl ?hc103 ?hr104 ?hb105 (by decide)) ?_))))))))))))
 case hc103 => exact rsl_cells _
 case hr104 => exact fun h hp => by rw [Int.toNat_natCast]; have := slR_rd_from hi hp; rw [(flat_take (f := rsC) (sz := 3) (fun _ => rfl) _ i).2] at this; exact this
 case hb105 => omega
 rintro v L' ⟨⟨a8, c8, rfl⟩, rfl⟩
 refine .nf rfl fo_110_1 (.st rfl rfl rfl sz_108 ?_)
 refine .nil (.done_n ?_)
 have hfin : ((dropS τ id).sess.take i) ++ [(id, (n, s))] ++ ((dropS τ id).sess.drop i) = (openS τ id n s).sess := by rw [sset_at hi hlow hhigh (fun w hw => by have := (List.mem_filter.1 hw).2; simpa using this), ← open_drop ho id n s]; rfl
 have hlen : i + 1 + ((dropS τ id).sess.length - (i : Int).toNat) = (openS τ id n s).sess.length := by rw [← hfin]; simp; omega
 refine .rtFold (x := x) (τ := (openS τ id n s)) (l := l) hl (by repeat' constructor) rfl rfl rfl hlen (by rw [← List.flatMap_append, hfin]) ?_
 exact .vv
def applyZ0 (τ : Tr) (zx : Int) (x : Pt) (subs : List Pt) : Tr × (List Ev × Int) :=
 if x.kind = 5 then (if 0 < x.own then openS τ x.own x.num x.data else τ, ([], 0))
 else if x.kind = 6 then (dropS (partsZ τ zx (subs.filter isDel)).1 x.own, ((partsZ τ zx (subs.filter isDel)).2, 0))
 else if x.kind = 7 then ((partsZ τ zx subs).1, ((partsZ τ zx subs).2, 0))
 else if x.kind = 8 then (τ, ([], x.err))
 else ((partZ τ x zx).1, ((partZ τ x zx).2, 0))
theorem part_zx (τ : Tr) (x : Pt) (zx z : Int) : partZ (zxT τ z) x zx = (zxT (partZ τ x zx).1 z, (partZ τ x zx).2) := by
 unfold partZ createZ eraseZ
 have h : ∀ p, thereT (zxT τ z) p ↔ thereT τ p := fun p => Iff.rfl
 simp only [h]
 repeat' split
 all_goals first | rfl | contradiction
theorem parts_zx (τ : Tr) (zx z : Int) (l : List Pt) : partsZ (zxT τ z) zx l = (zxT (partsZ τ zx l).1 z, (partsZ τ zx l).2) := by
 have key : ∀ (l : List Pt) (r : Tr × List Ev), l.foldl (fun r x => ((partZ r.1 x zx).1, r.2 ++ (partZ r.1 x zx).2)) (zxT r.1 z, r.2) = (zxT (l.foldl (fun r x => ((partZ r.1 x zx).1, r.2 ++ (partZ r.1 x zx).2)) r).1 z, (l.foldl (fun r x => ((partZ r.1 x zx).1, r.2 ++ (partZ r.1 x zx).2)) r).2) := by
  intro l
  induction l with
  | nil => intro r; rfl
  | cons x l ih =>
   intro r
   rw [List.foldl_cons, List.foldl_cons]
   dsimp only
   rw [part_zx]
   exact ih ((partZ r.1 x zx).1, r.2 ++ (partZ r.1 x zx).2)
 exact key l (τ, [])
theorem apply_zx (τ : Tr) (zx : Int) (x : Pt) (subs : List Pt) : applyZ τ zx x subs = (zxT (applyZ0 τ zx x subs).1 zx, (applyZ0 τ zx x subs).2) := by
 unfold applyZ applyZ0
 dsimp only
 rw [part_zx, parts_zx, parts_zx]
 repeat' split
 all_goals rfl
theorem rapply_spec (x : Nat) (τ : Tr) (zx ses xid : Int) (y : Pt) (subs : List Pt) (p : HP) (hx : TxA p y subs) (N : Nat) (ho : τ.Ok N) (hN : N + subs.length + 1 ≤ 1073741824) : Fn Tryz.prog 34 #[vptr x, .agg ([vint zx, vint ses, vint xid] ++ ptC y).toArray] [refR x τ, p] fun v L => ∃ u e, v = .tuple #[u, vint e] ∧ e = (applyZ τ zx y subs).2.2 ∧ (∃ a c, u = .slice a (applyZ τ zx y subs).2.1.length c) ∧ L = [refR x (applyZ τ zx y subs).1, p, slR 184 3 u (applyZ τ zx y subs).2.1.length ((applyZ τ zx y subs).2.1.flatMap evC)] := by
 refine Fn.intro Tryz.func34 rfl rfl fun F W => ?_
 refine .rdAny (p := p) hx.rd (by repeat' constructor) fun asb csb esub _ => ?_
 have hrd := hx.rd
 rw [esub] at hrd
 have hfs := hx.few
 have hosf := ho.sfew
 refine .sr (.oq (.box rfl) ?_)
 rintro v L' ⟨be, rfl, rfl⟩
 refine .a rfl (.a rfl (.nil (.ptCast (b := be) (l' := ([vint zx, vint ses, vint xid] ++ ptC y)) (by repeat' constructor) rfl (.then_n (.sr (.u (.fieldAddr rfl fo_54_3) (.q (.loadAs (vs := ptC y) rfl ag_43 (by repeat' constructor) (by simp [ptC]) rfl) rfl (.oq (.allocA ze_43) ?_))))))))
 rintro v L' ⟨bx, rfl, rfl⟩
 refine .oq (.storeA rfl rfl ?c9 sz_43 ?c12 ?c10 (nfz0 _ _)) ?_
 case c9 => exact hx.own.all
 case c12 => rfl
 case c10 => simp [ptC]
 rintro v L' rfl
 refine .nil (.ptCast (b := bx) (l' := ptC y) (by repeat' constructor) rfl (.then_n (.sr (.an rfl (.sr (.an rfl (.seq (.sr (.u (.fieldAddr rfl fo_43_0) (.u (.ld rfl ag_3) (.nt (.block (.sr (.ui rfl rfl rfl (.an rfl (.condD rfl (fun h20 => ?_) (fun h20 => ?_)))))))))))))))))
 ·refine .sr (.u (.fieldAddr rfl fo_43_4) (.u (.ld rfl ag_3) (.ui rfl rfl rfl (.nt (.condD rfl (fun h24 => ?_) (fun h24 => ?_))))))
  ·refine .region (.m rfl (.u (.fieldAddr rfl fo_43_4) (.u (.ld rfl ag_3) (.u (.fieldAddr rfl fo_43_5) (.u (.ld rfl ag_3) (.u (.fieldAddr rfl fo_43_2) (.u (.ld rfl ag_9) (.q (.to (v' := .agg (rsC (y.own, (y.num, y.data))).toArray) (.build (us := [(0, _), (1, _), (2, _)]) fl_122 ze_122 rfl rfl (by simp [isCell])) rfl) rfl (.cv Tryz.func77 [_, _] (ropen_spec x τ y.own y.num y.data N ho (by omega)) ?_)))))))))
   refine .nil (.blk_n (.then_n (.seq (.add (slR_nil 184 3) ?_))))
   have hz : (applyZ τ zx y subs) = (zxT (openS τ y.own y.num y.data) zx, ([], 0)) := by rw [apply_zx]; unfold applyZ0; rw [if_pos h20, if_pos (show 0 < y.own by omega)]
   refine .rtOpen (x := x) (τ := (openS τ y.own y.num y.data)) (by repeat' constructor) fun an cn as1 cs l hl => (.region (.m rfl (.u (.fieldAddr rfl fo_54_0) (.u (.ld rfl ag_3) (.nf rfl fo_110_2 (.st rfl rfl rfl sz_3 ?_))))))
   refine .nil (.rtFold (x := x) (τ := (zxT (openS τ y.own y.num y.data) zx)) (l := l) hl (by repeat' constructor) rfl rfl rfl rfl rfl (.then_n (.sm rfl (.m rfl (.a rfl (.an rfl (.ret (.rfCast (x := x) (τ' := (applyZ τ zx y subs).1) (by repeat' constructor) (by rw [hz]) (.slCast (T := 184) (sz := 3) (m' := (applyZ τ zx y subs).2.1.length) (xs' := (applyZ τ zx y subs).2.1.flatMap evC) (by repeat' constructor) (by (rw [hz]; try rfl)) (by (rw [hz]; try rfl)) ?_)))))))))
   exact .dn rfl rfl ⟨_, _, rfl, by rw [hz], ⟨_, _, by (rw [hz]; try rfl)⟩, rfl⟩
  refine .skip (.blk_n (.then_n (.seq (.add (slR_nil 184 3) ?_))))
  have hz : (applyZ τ zx y subs) = (zxT (τ) zx, ([], 0)) := by rw [apply_zx]; unfold applyZ0; rw [if_pos h20, if_neg (show ¬ 0 < y.own by omega)]
  refine .rtOpen (x := x) (τ := (τ)) (by repeat' constructor) fun an cn as1 cs l hl => (.region (.m rfl (.u (.fieldAddr rfl fo_54_0) (.u (.ld rfl ag_3) (.nf rfl fo_110_2 (.st rfl rfl rfl sz_3 ?_))))))
  refine .nil (.rtFold (x := x) (τ := (zxT (τ) zx)) (l := l) hl (by repeat' constructor) rfl rfl rfl rfl rfl (.then_n (.sm rfl (.m rfl (.a rfl (.an rfl (.ret (.rfCast (x := x) (τ' := (applyZ τ zx y subs).1) (by repeat' constructor) (by rw [hz]) (.slCast (T := 184) (sz := 3) (m' := (applyZ τ zx y subs).2.1.length) (xs' := (applyZ τ zx y subs).2.1.flatMap evC) (by repeat' constructor) (by (rw [hz]; try rfl)) (by (rw [hz]; try rfl)) ?_)))))))))
  exact .dn rfl rfl ⟨_, _, rfl, by rw [hz], ⟨_, _, by (rw [hz]; try rfl)⟩, rfl⟩
 refine .seq (.sr ?_)
 rcases Decidable.em (y.kind = 6) with hk6 | hk6
 ·refine .q (.as (v' := .bool true) (by exact congrArg Value.bool (decide_eq_true hk6)) (.int rfl rfl rfl)) rfl (.an rfl (.condT rfl (.sk (.condT rfl (.seq (.sr (.an rfl (.block (.add (slR_nil 184 3) (.rfCast (x := x) (τ' := (partsZ τ zx ((subs.take 0).filter isDel)).1) (by repeat' constructor) (by rw [List.take_zero]; rfl) (.slCast (T := 184) (sz := 3) (m' := (partsZ τ zx ((subs.take 0).filter isDel)).2.length) (xs' := (partsZ τ zx ((subs.take 0).filter isDel)).2.flatMap evC) (by repeat' constructor) (by rw [List.take_zero]; rfl) (by rw [List.take_zero]; rfl) (.loopK (ι := Nat × Value) (fun q E => (9, vint q.1) :: (7, q.2) :: E) (fun q => [refR x (partsZ τ zx ((subs.take q.1).filter isDel)).1, slR 184 3 q.2 (partsZ τ zx ((subs.take q.1).filter isDel)).2.length ((partsZ τ zx ((subs.take q.1).filter isDel)).2.flatMap evC)]) (fun q => q.1 ≤ subs.length ∧ ∃ a c, q.2 = .slice a (partsZ τ zx ((subs.take q.1).filter isDel)).2.length c) (fun q => subs.length - q.1) (0, .slice none 0 0) (ts := [0, 3, 4, 5, 6, 8]) (.cons rfl (.cons rfl (.cons rfl (.cons rfl (.cons rfl (.cons rfl (.nil))))))) (⟨Nat.zero_le _, none, 0, by rw [List.take_zero]; rfl⟩) ⟨rfl, rfl, rfl, rfl, rfl, rfl, rfl, rfl, trivial⟩ (by repeat' constructor) ?_))))))))))))
  rintro ⟨i, u⟩ ⟨hi, au, cu, hu⟩
  dsimp only
  dsimp only at hi hu
  subst hu
  have hev := parts_ev τ zx ((subs.take i).filter isDel)
  have hfl := List.length_filter_le isDel (subs.take i)
  rw [List.length_take] at hfl
  have hok : (partsZ τ zx ((subs.take i).filter isDel)).1.Ok (N + subs.length) := (ho.parts zx _ (fun w hw => (hx.each w (List.mem_of_mem_take (List.mem_filter.1 hw).1)).few)).more (by omega)
  refine .seq (.sm rfl (.u (.fieldAddr rfl fo_43_7) (.q (.as (v' := .slice asb subs.length csb) (by exact esub) (.ld rfl ag_41)) rfl (.q (.slen rfl Tryz.underlying41 rfl) rfl (.ui rfl rfl rfl (.nt (.condD rfl (fun h41 => ?_) (fun h41 => ?_))))))))
  ·have hi2 : i < subs.length := by omega
   refine .rdShape (p := p) hrd (by repeat' constructor) (by omega) fun bs os e1 => ?_
   subst e1
   have hys := hx.each _ (List.getElem_mem hi2)
   refine .sk (.seq (.block (.sr (.u (.fieldAddr rfl fo_43_0) (.u (.ld rfl ag_3) (.q (.as (v' := .bool false) (by exact congrArg Value.bool (decide_eq_false (by omega))) (.int rfl rfl rfl)) rfl (.m rfl (.grun (t := 47) rfl rfl rfl (.u (.fieldAddr rfl fo_43_7) (.grun (t := 47) rfl rfl rfl (.q (.as (v' := .slice (some ⟨bs, os, none⟩) subs.length csb) (by exact esub) (.ld rfl ag_41)) rfl (.grun (t := 47) rfl rfl rfl (.m rfl (.grun (t := 47) rfl rfl rfl (.q (.indexAddr rfl rfl el_41 (by omega)) rfl (.grun (t := 47) rfl rfl rfl (.u (.fieldAddr rfl fo_43_0) (.grun (t := 47) rfl rfl rfl (.q (.loadRd (sz := 8) (j := i * 8 + 0) (p := p) rfl ag_3 (by repeat' constructor) hrd (by omega) ((flatMap_cell (f := ptC) (sz := 8) (l := subs) (i := i) (k := 0) (fun _ _ => rfl) (by omega) (by decide)).trans rfl)) rfl ?_)))))))))))))))))))
   refine .grun (t := 47) rfl rfl rfl (.ui rfl rfl rfl (.u (.pickF rfl rfl) (.nt (.condD rfl (fun h55 => ?_) (fun h55 => ?_)))))
   ·refine .seq (.draw [8] [[0, 1, 2, 3, 4, 5, 6, 7, 8], [9]] mixed (by kernel_rfl) (.g0 (.mv rfl rfl (.kv rfl (.fieldAddr rfl fo_43_7) (.kv rfl (.as (v' := .slice (some ⟨bs, os, none⟩) subs.length csb) (by exact esub) (.ld rfl ag_41)) (.mv rfl rfl (.kv rfl (.indexAddr rfl rfl el_41 (by omega)) (.kv rfl (.loadRdA (sz := 8) (j := i * 8) (k := 8) (p := p) (vs := ptC subs[i]) rfl ag_43 (by repeat' constructor) hrd (by simp) (by omega) (by omega) (flatMap_at (f := ptC) (sz := 8) (fun _ _ => rfl) (by omega))) (.kv rfl (.fieldAddr rfl fo_54_0) (.kv rfl (.ld rfl ag_3) (.hh rfl (.c Tryz.func71 [_, _, _] (rpart_spec x (partsZ τ zx ((subs.take i).filter isDel)).1 subs[i] zx p hys (N + subs.length) hok (by omega))) ?_)))))))))))
    rintro v L' ⟨a15, c15, rfl, rfl⟩
    refine D.ph (.g0 (.kv rfl (.assign rfl) (.pf (.region (.m rfl (.m rfl (.oq (.append (n := (partsZ τ zx ((subs.take i).filter isDel)).2.length) (m := (partZ (partsZ τ zx ((subs.take i).filter isDel)).1 subs[i] zx).2.length) (ys := (partZ (partsZ τ zx ((subs.take i).filter isDel)).1 subs[i] zx).2.flatMap evC) (p := slR 184 3 (.slice a15 (partZ (partsZ τ zx ((subs.take i).filter isDel)).1 subs[i] zx).2.length c15) (partZ (partsZ τ zx ((subs.take i).filter isDel)).1 subs[i] zx).2.length ((partZ (partsZ τ zx ((subs.take i).filter isDel)).1 subs[i] zx).2.flatMap evC)) rfl rfl rfl el_71 (.inl ⟨_, Tryz.underlying71⟩) ze_184 rfl rfl ?hc76 ?hr77 ?hb78 (by decide)) ?_)))))))
    case hc76 => exact evC_cells _
    case hr77 => exact fun h hp => slR_rd hp
    case hb78 => have := part_ev (partsZ τ zx ((subs.take i).filter isDel)).1 subs[i] zx; omega
    rintro v L' ⟨⟨a16_2, c16_2, rfl⟩, rfl⟩
    refine .a rfl (.nil (.blk_n (.then_n (.region (.m rfl (.q (.add rfl rfl (by omega)) rfl (.an rfl ?_)))))))
    have hst := filter_take_yes (f := isDel) hi2 (by unfold isDel; rw [decide_eq_true h55])
    refine .rfCast (x := x) (τ' := (partsZ τ zx ((subs.take (i + 1)).filter isDel)).1) (by repeat' constructor) (by rw [hst, parts_snoc]) (.slCast (T := 184) (sz := 3) (m' := (partsZ τ zx ((subs.take (i + 1)).filter isDel)).2.length) (xs' := (partsZ τ zx ((subs.take (i + 1)).filter isDel)).2.flatMap evC) (by repeat' constructor) (by rw [hst, parts_snoc]; simp) (by rw [hst, parts_snoc]; simp) ?_)
    exact .rk ((i + 1, .slice a16_2 ((partsZ τ zx ((subs.take i).filter isDel)).2.length + (partZ (partsZ τ zx ((subs.take i).filter isDel)).1 subs[i] zx).2.length) c16_2)) (⟨by dsimp only; omega, _, _, by rw [hst, parts_snoc, List.length_append]⟩) (by dsimp only; omega) ⟨rfl, rfl, rfl, rfl, rfl, rfl, rfl, rfl, trivial⟩
   refine .skip (.blk_n (.then_n (.region (.m rfl (.q (.add rfl rfl (by omega)) rfl (.an rfl ?_))))))
   have hst := filter_take_no (f := isDel) hi2 (by unfold isDel; rw [decide_eq_false h55])
   refine .rfCast (x := x) (τ' := (partsZ τ zx ((subs.take (i + 1)).filter isDel)).1) (by repeat' constructor) (by rw [hst]) (.slCast (T := 184) (sz := 3) (m' := (partsZ τ zx ((subs.take (i + 1)).filter isDel)).2.length) (xs' := (partsZ τ zx ((subs.take (i + 1)).filter isDel)).2.flatMap evC) (by repeat' constructor) (by rw [hst]) (by rw [hst]) ?_)
   exact .rk ((i + 1, .slice au (partsZ τ zx ((subs.take i).filter isDel)).2.length cu)) (⟨by dsimp only; omega, _, _, by rw [hst]⟩) (by dsimp only; omega) ⟨rfl, rfl, rfl, rfl, rfl, rfl, rfl, rfl, trivial⟩
  have hii : i = subs.length := by omega
  rw [hii, List.take_length]
  refine .exit (.then_e (.then_e (.blk_e (.then_n (.sr (.u (.fieldAddr rfl fo_43_0) (.u (.ld rfl ag_3) (.q (.as (v' := .bool true) (by exact congrArg Value.bool (decide_eq_true hk6)) (.int rfl rfl rfl)) rfl (.nt (.condT rfl (.region (.m rfl (.u (.fieldAddr rfl fo_43_4) (.u (.ld rfl ag_3) (.cv Tryz.func78 [_, _] (rdrop_spec x (partsZ τ zx (subs.filter isDel)).1 y.own (by have := (ho.parts zx (subs.filter isDel) (fun w hw => (hx.each w (List.mem_filter.1 hw).1).few)).sfew; have := List.length_filter_le isDel subs; omega)) ?_)))))))))))))))
  refine .nil (.blk_n (.then_n (.seq ?_)))
  have hz : (applyZ τ zx y subs) = (zxT (dropS (partsZ τ zx (subs.filter isDel)).1 y.own) zx, ((partsZ τ zx (subs.filter isDel)).2, 0)) := by rw [apply_zx]; unfold applyZ0; rw [if_neg h20, if_pos hk6]
  refine .rtOpen (x := x) (τ := (dropS (partsZ τ zx (subs.filter isDel)).1 y.own)) (by repeat' constructor) fun an cn as1 cs l hl => (.region (.m rfl (.u (.fieldAddr rfl fo_54_0) (.u (.ld rfl ag_3) (.nf rfl fo_110_2 (.st rfl rfl rfl sz_3 ?_))))))
  refine .nil (.rtFold (x := x) (τ := (zxT (dropS (partsZ τ zx (subs.filter isDel)).1 y.own) zx)) (l := l) hl (by repeat' constructor) rfl rfl rfl rfl rfl (.then_n (.sm rfl (.m rfl (.a rfl (.an rfl (.ret (.rfCast (x := x) (τ' := (applyZ τ zx y subs).1) (by repeat' constructor) (by rw [hz]) (.slCast (T := 184) (sz := 3) (m' := (applyZ τ zx y subs).2.1.length) (xs' := (applyZ τ zx y subs).2.1.flatMap evC) (by repeat' constructor) (by (rw [hz]; try rfl)) (by (rw [hz]; try rfl)) ?_)))))))))
  exact .dn rfl rfl ⟨_, _, rfl, by rw [hz], ⟨_, _, by (rw [hz]; try rfl)⟩, rfl⟩
 refine .q (.as (v' := .bool false) (by exact congrArg Value.bool (decide_eq_false hk6)) (.int rfl rfl rfl)) rfl (.an rfl (.condF rfl (.region ?_)))
 rcases Decidable.em (y.kind = 7) with hk7 | hk7
 ·refine .q (.as (v' := .bool true) (by exact congrArg Value.bool (decide_eq_true hk7)) (.int rfl rfl rfl)) rfl (.an rfl (.condT rfl (.seq (.sr (.an rfl (.block (.add (slR_nil 184 3) (.rfCast (x := x) (τ' := (partsZ τ zx (subs.take 0)).1) (by repeat' constructor) (by rw [List.take_zero]; rfl) (.slCast (T := 184) (sz := 3) (m' := (partsZ τ zx (subs.take 0)).2.length) (xs' := (partsZ τ zx (subs.take 0)).2.flatMap evC) (by repeat' constructor) (by rw [List.take_zero]; rfl) (by rw [List.take_zero]; rfl) (.loopK (ι := Nat × Value) (fun q E => (9, vint q.1) :: (7, q.2) :: E) (fun q => [refR x (partsZ τ zx (subs.take q.1)).1, slR 184 3 q.2 (partsZ τ zx (subs.take q.1)).2.length ((partsZ τ zx (subs.take q.1)).2.flatMap evC)]) (fun q => q.1 ≤ subs.length ∧ ∃ a c, q.2 = .slice a (partsZ τ zx (subs.take q.1)).2.length c) (fun q => subs.length - q.1) (0, .slice none 0 0) (ts := [0, 3, 4, 5, 6, 8]) (.cons rfl (.cons rfl (.cons rfl (.cons rfl (.cons rfl (.cons rfl (.nil))))))) (⟨Nat.zero_le _, none, 0, by rw [List.take_zero]; rfl⟩) ⟨rfl, rfl, rfl, rfl, rfl, rfl, rfl, rfl, trivial⟩ (by repeat' constructor) ?_))))))))))
  rintro ⟨i, u⟩ ⟨hi, au, cu, hu⟩
  dsimp only
  dsimp only at hi hu
  subst hu
  have hev := parts_ev τ zx (subs.take i)
  have hfl := List.length_take_le i subs
  have hok : (partsZ τ zx (subs.take i)).1.Ok (N + subs.length) := (ho.parts zx _ (fun w hw => (hx.each w (List.mem_of_mem_take hw)).few)).more (by rw [List.length_take]; omega)
  refine .seq (.sm rfl (.u (.fieldAddr rfl fo_43_7) (.q (.as (v' := .slice asb subs.length csb) (by exact esub) (.ld rfl ag_41)) rfl (.q (.slen rfl Tryz.underlying41 rfl) rfl (.ui rfl rfl rfl (.nt (.condD rfl (fun h41 => ?_) (fun h41 => ?_))))))))
  ·have hi2 : i < subs.length := by omega
   refine .rdShape (p := p) hrd (by repeat' constructor) (by omega) fun bs os e1 => ?_
   subst e1
   have hys := hx.each _ (List.getElem_mem hi2)
   refine .sk (.seq (.block (.sr (.u (.fieldAddr rfl fo_43_0) (.u (.ld rfl ag_3) (.q (.as (v' := .bool true) (by exact congrArg Value.bool (decide_eq_true hk7)) (.int rfl rfl rfl)) rfl (.m rfl (.gk (.gk (.gk (.gk (.gk (.gk (.gk (.u (.pickT rfl rfl) (.nt (.condT rfl (.seq (.draw [8] [[0, 1, 2, 3, 4, 5, 6, 7, 8], [9]] mixed (by kernel_rfl) (.g0 (.mv rfl rfl (.kv rfl (.fieldAddr rfl fo_43_7) (.kv rfl (.as (v' := .slice (some ⟨bs, os, none⟩) subs.length csb) (by exact esub) (.ld rfl ag_41)) (.mv rfl rfl (.kv rfl (.indexAddr rfl rfl el_41 (by omega)) (.kv rfl (.loadRdA (sz := 8) (j := i * 8) (k := 8) (p := p) (vs := ptC subs[i]) rfl ag_43 (by repeat' constructor) hrd (by simp) (by omega) (by omega) (flatMap_at (f := ptC) (sz := 8) (fun _ _ => rfl) (by omega))) ?_))))))))))))))))))))))))))
   refine D.kv rfl (.fieldAddr rfl fo_54_0) (.kv rfl (.ld rfl ag_3) (.hh rfl (.c Tryz.func71 [_, _, _] (rpart_spec x (partsZ τ zx (subs.take i)).1 subs[i] zx p hys (N + subs.length) hok (by omega))) ?_))
   rintro v L' ⟨a15, c15, rfl, rfl⟩
   refine D.ph (.g0 (.kv rfl (.assign rfl) (.pf (.region (.m rfl (.m rfl (.oq (.append (n := (partsZ τ zx (subs.take i)).2.length) (m := (partZ (partsZ τ zx (subs.take i)).1 subs[i] zx).2.length) (ys := (partZ (partsZ τ zx (subs.take i)).1 subs[i] zx).2.flatMap evC) (p := slR 184 3 (.slice a15 (partZ (partsZ τ zx (subs.take i)).1 subs[i] zx).2.length c15) (partZ (partsZ τ zx (subs.take i)).1 subs[i] zx).2.length ((partZ (partsZ τ zx (subs.take i)).1 subs[i] zx).2.flatMap evC)) rfl rfl rfl el_71 (.inl ⟨_, Tryz.underlying71⟩) ze_184 rfl rfl ?hc126 ?hr127 ?hb128 (by decide)) ?_)))))))
   case hc126 => exact evC_cells _
   case hr127 => exact fun h hp => slR_rd hp
   case hb128 => have := part_ev (partsZ τ zx (subs.take i)).1 subs[i] zx; omega
   rintro v L' ⟨⟨a16_2, c16_2, rfl⟩, rfl⟩
   refine .a rfl (.nil (.blk_n (.then_n (.region (.m rfl (.q (.add rfl rfl (by omega)) rfl (.an rfl ?_)))))))
   have hst := List.take_succ_eq_append_getElem hi2
   refine .rfCast (x := x) (τ' := (partsZ τ zx (subs.take (i + 1))).1) (by repeat' constructor) (by rw [hst, parts_snoc]) (.slCast (T := 184) (sz := 3) (m' := (partsZ τ zx (subs.take (i + 1))).2.length) (xs' := (partsZ τ zx (subs.take (i + 1))).2.flatMap evC) (by repeat' constructor) (by rw [hst, parts_snoc]; simp) (by rw [hst, parts_snoc]; simp) ?_)
   exact .rk ((i + 1, .slice a16_2 ((partsZ τ zx (subs.take i)).2.length + (partZ (partsZ τ zx (subs.take i)).1 subs[i] zx).2.length) c16_2)) (⟨by dsimp only; omega, _, _, by rw [hst, parts_snoc, List.length_append]⟩) (by dsimp only; omega) ⟨rfl, rfl, rfl, rfl, rfl, rfl, rfl, rfl, trivial⟩
  have hii : i = subs.length := by omega
  rw [hii, List.take_length]
  refine .exit (.then_e (.then_e (.blk_e (.then_n (.sr (.u (.fieldAddr rfl fo_43_0) (.u (.ld rfl ag_3) (.q (.as (v' := .bool false) (by exact congrArg Value.bool (decide_eq_false (by omega))) (.int rfl rfl rfl)) rfl (.nt (.condF rfl (.skip (.blk_n (.then_n (.seq ?_))))))))))))))
  have hz : (applyZ τ zx y subs) = (zxT ((partsZ τ zx subs).1) zx, ((partsZ τ zx subs).2, 0)) := by rw [apply_zx]; unfold applyZ0; rw [if_neg h20, if_neg hk6, if_pos hk7]
  refine .rtOpen (x := x) (τ := ((partsZ τ zx subs).1)) (by repeat' constructor) fun an cn as1 cs l hl => (.region (.m rfl (.u (.fieldAddr rfl fo_54_0) (.u (.ld rfl ag_3) (.nf rfl fo_110_2 (.st rfl rfl rfl sz_3 ?_))))))
  refine .nil (.rtFold (x := x) (τ := (zxT ((partsZ τ zx subs).1) zx)) (l := l) hl (by repeat' constructor) rfl rfl rfl rfl rfl (.then_n (.sm rfl (.m rfl (.a rfl (.an rfl (.ret (.rfCast (x := x) (τ' := (applyZ τ zx y subs).1) (by repeat' constructor) (by rw [hz]) (.slCast (T := 184) (sz := 3) (m' := (applyZ τ zx y subs).2.1.length) (xs' := (applyZ τ zx y subs).2.1.flatMap evC) (by repeat' constructor) (by (rw [hz]; try rfl)) (by (rw [hz]; try rfl)) ?_)))))))))
  exact .dn rfl rfl ⟨_, _, rfl, by rw [hz], ⟨_, _, by (rw [hz]; try rfl)⟩, rfl⟩
 refine .q (.as (v' := .bool false) (by exact congrArg Value.bool (decide_eq_false hk7)) (.int rfl rfl rfl)) rfl (.an rfl (.condF rfl (.sr (.ui rfl rfl rfl (.an rfl (.condD rfl (fun h75 => ?_) (fun h75 => ?_)))))))
 ·refine .region (.u (.fieldAddr rfl fo_43_6) (.u (.ld rfl ag_40) (.a rfl (.nil (.blk_n (.then_n (.seq (.add (slR_nil 184 3) ?_))))))))
  have hz : (applyZ τ zx y subs) = (zxT (τ) zx, ([], y.err)) := by rw [apply_zx]; unfold applyZ0; rw [if_neg h20, if_neg hk6, if_neg hk7, if_pos h75]
  refine .rtOpen (x := x) (τ := (τ)) (by repeat' constructor) fun an cn as1 cs l hl => (.region (.m rfl (.u (.fieldAddr rfl fo_54_0) (.u (.ld rfl ag_3) (.nf rfl fo_110_2 (.st rfl rfl rfl sz_3 ?_))))))
  refine .nil (.rtFold (x := x) (τ := (zxT (τ) zx)) (l := l) hl (by repeat' constructor) rfl rfl rfl rfl rfl (.then_n (.sm rfl (.m rfl (.a rfl (.an rfl (.ret (.rfCast (x := x) (τ' := (applyZ τ zx y subs).1) (by repeat' constructor) (by rw [hz]) (.slCast (T := 184) (sz := 3) (m' := (applyZ τ zx y subs).2.1.length) (xs' := (applyZ τ zx y subs).2.1.flatMap evC) (by repeat' constructor) (by (rw [hz]; try rfl)) (by (rw [hz]; try rfl)) ?_)))))))))
  exact .dn rfl rfl ⟨_, _, rfl, by rw [hz], ⟨_, _, by (rw [hz]; try rfl)⟩, rfl⟩
 refine .region (.m rfl (.q (.loadAs (vs := ptC y) rfl ag_43 (by repeat' constructor) (by simp [ptC]) rfl) rfl (.u (.fieldAddr rfl fo_54_0) (.u (.ld rfl ag_3) (.oq (.c Tryz.func71 [_, _, _] (rpart_spec x τ y zx p hx.own N ho (by omega))) ?_)))))
 rintro v L' ⟨a5, c5, rfl, rfl⟩
 refine .a rfl (.nil (.blk_n (.then_n (.seq ?_))))
 have hz : (applyZ τ zx y subs) = (zxT ((partZ τ y zx).1) zx, ((partZ τ y zx).2, 0)) := by rw [apply_zx]; unfold applyZ0; rw [if_neg h20, if_neg hk6, if_neg hk7, if_neg h75]
 refine .rtOpen (x := x) (τ := ((partZ τ y zx).1)) (by repeat' constructor) fun an cn as1 cs l hl => (.region (.m rfl (.u (.fieldAddr rfl fo_54_0) (.u (.ld rfl ag_3) (.nf rfl fo_110_2 (.st rfl rfl rfl sz_3 ?_))))))
 refine .nil (.rtFold (x := x) (τ := (zxT ((partZ τ y zx).1) zx)) (l := l) hl (by repeat' constructor) rfl rfl rfl rfl rfl (.then_n (.sm rfl (.m rfl (.a rfl (.an rfl (.ret (.rfCast (x := x) (τ' := (applyZ τ zx y subs).1) (by repeat' constructor) (by rw [hz]) (.slCast (T := 184) (sz := 3) (m' := (applyZ τ zx y subs).2.1.length) (xs' := (applyZ τ zx y subs).2.1.flatMap evC) (by repeat' constructor) (by (rw [hz]; try rfl)) (by (rw [hz]; try rfl)) ?_)))))))))
 exact .dn rfl rfl ⟨_, _, rfl, by rw [hz], ⟨_, _, by (rw [hz]; try rfl)⟩, rfl⟩
theorem trees12_spec (va : Value) (es : List En) (q : HP) (hA : EntsA q va es) : Fn Tryz.prog 11 #[va] [q] fun v L => ∃ t x, v = .tuple #[vptr t, vptr x] ∧ L = [q, treeR t (appL newT es), refR x (appL newT es)] := by
 refine Fn.intro Tryz.func11 rfl rfl fun F W => ?_
 refine .rdAny (p := q) hA.cells (by repeat' constructor) fun aa ca ee _ => ?_
 subst ee
 have hlen := hA.len
 refine .sr (.a rfl (.an rfl (.sr (.oq (.c Tryz.func26 [] (trnew_spec)) ?_))))
 rintro v L' ⟨t, rfl, rfl⟩
 refine .an rfl (.sr (.oq (.c Tryz.func27 [] (rfnew_spec)) ?_))
 rintro v L' ⟨x, rfl, rfl⟩
 refine .an rfl (.seq (.sr (.an rfl (.block (.loopK (ι := Nat) (fun q E => (6, vint q) :: E) (fun q => [treeR t (appL newT (es.take q)), refR x (appL newT (es.take q))]) (fun q => q ≤ es.length) (fun q => es.length - q) (0) (ts := [0, 2, 3, 4, 5]) (.cons rfl (.cons rfl (.cons rfl (.cons rfl (.cons rfl (.nil)))))) (Nat.zero_le _) ⟨rfl, rfl, rfl, rfl, rfl, rfl, trivial⟩ (by repeat' constructor) ?_)))))
 rintro i hi
 refine .seq (.sm rfl (.m rfl (.q (.slen rfl Tryz.underlying22 rfl) rfl (.ui rfl rfl rfl (.m rfl (.dec (t := 13) rfl (fun h4_13 => ?_) (fun h4_13 => ?_)))))))
 ·refine .kDT (t := 12) rfl h4_13 (.grun (t := 13) rfl rfl rfl (.m rfl (.grun (t := 13) rfl rfl rfl (.q (.ptrne rfl rfl Tryz.underlying30) rfl (.u (.pickT rfl rfl) (.nt (.condT rfl (.sk (.seq (.block (.sr ?_)))))))))))
  have hi2 : i < es.length := by omega
  refine .rdShape (p := q) hA.cells (by repeat' constructor) (by omega) fun ba oa ee => ?_
  subst ee
  have hst : appL newT (es.take (i + 1)) = appE (appL newT (es.take i)) es[i] := by unfold appL; rw [List.take_succ_eq_append_getElem hi2, List.foldl_append]; rfl
  refine .m rfl (.m rfl (.m rfl (.q (.indexAddr rfl rfl el_22 (by omega)) rfl (.q (.loadRdA (sz := 11) (j := i * 11) (k := 11) (p := q) (vs := enC es[i]) rfl ag_54 (by repeat' constructor) hA.cells (by simp) (by omega) (by omega) (flatMap_at (f := enC) (sz := 11) (fun _ _ => rfl) (by omega))) rfl (.oq (.call Tryz.func33 rfl rfl (vs := [_, _]) rfl (trapply_spec t (appL newT (es.take i)) es[i].zx es[i].ses es[i].xid es[i].x es[i].subs q (hA.tx _ (List.getElem_mem hi2)) (1 + 2097152) (hA.ok newT_ok i) (by have := (hA.tx _ (List.getElem_mem hi2)).few; omega))) ?_)))))
  rintro v L' ⟨u6, e6, rfl, -, ⟨a6, c6, rfl⟩, rfl⟩; rw [show (applyZ (appL newT (es.take i)) es[i].zx es[i].x es[i].subs).1 = appL newT (es.take (i + 1)) from hst.symm]
  refine .nt (.region (.m rfl (.m rfl (.m rfl (.q (.indexAddr rfl rfl el_22 (by omega)) rfl (.q (.loadRdA (sz := 11) (j := i * 11) (k := 11) (p := q) (vs := enC es[i]) rfl ag_54 (by repeat' constructor) hA.cells (by simp) (by omega) (by omega) (flatMap_at (f := enC) (sz := 11) (fun _ _ => rfl) (by omega))) rfl (.oq (.call Tryz.func34 rfl rfl (vs := [_, _]) rfl (rapply_spec x (appL newT (es.take i)) es[i].zx es[i].ses es[i].xid es[i].x es[i].subs q (hA.tx _ (List.getElem_mem hi2)) (1 + 2097152) (hA.ok newT_ok i) (by have := (hA.tx _ (List.getElem_mem hi2)).few; omega))) ?_)))))))
  rintro v L' ⟨u7, e7, rfl, -, ⟨a7, c7, rfl⟩, rfl⟩; rw [show (applyZ (appL newT (es.take i)) es[i].zx es[i].x es[i].subs).1 = appL newT (es.take (i + 1)) from hst.symm]
  refine .nil (.blk_n (.then_n (.region (.m rfl (.q (.add rfl rfl (by omega)) rfl (.an rfl ?_))))))
  exact .rk (i + 1) (by omega) (by omega) ⟨rfl, rfl, rfl, rfl, rfl, rfl, trivial⟩
 refine .kDF (t := 12) rfl h4_13 (.gk (.gk (.u (.pickF rfl rfl) (.nt (.condF rfl (.exit (.then_e (.then_e (.blk_e (.then_n (.sm rfl (.m rfl (.a rfl (.an rfl (.ret ?_)))))))))))))))
 have hie : i = es.length := by omega
 have hta : es.take i = es := by rw [hie, List.take_length]
 rw [hta]
 exact .dn rfl rfl ⟨t, x, rfl, rfl⟩
theorem when_code {b : Prop} [Decidable b] {e : Int} (h : 0 ≤ e ∧ e ≤ 110) : 0 ≤ whenZ b e ∧ whenZ b e ≤ 110 := by
 show 0 ≤ (if b then e else 0) ∧ (if b then e else 0) ≤ 110
 split <;> omega
theorem check_code (p : Bs) : 0 ≤ checkZ p ∧ checkZ p ≤ 110 := by rcases check_err p with h | h | h <;> omega
theorem first_code {l : List Int} (h : ∀ e ∈ l, 0 ≤ e ∧ e ≤ 110) : 0 ≤ firstZ l ∧ firstZ l ≤ 110 := by
 rcases first_mem l with g | g
 ·omega
 ·exact h _ g
def Ids (p : HP) (v : Value) (l : List Bs) : Prop := (∀ h : Hp, p h → rdS 1 h v l.length (strs l)) ∧ l.length ≤ 1048576 ∧ ∃ a n c, v = .slice a n c
structure WiD (p : HP) (u : Who) (iv : Value) (r : Rq) (subs : List Rq) : Prop where
 w : WiA p u iv r
 a : AclW r.acl
 rd : ∀ h : Hp, p h → rdS 10 h r.subsV subs.length (subs.flatMap rqC)
 each : ∀ x ∈ subs, WiA p u iv x
 acls : ∀ x ∈ subs, AclW x.acl
theorem ents_w : ∀ {l : List En} {τ : Tr}, TrW τ → (∀ e ∈ l, EnN e) → TrW (appL τ l)
 | [], _, h, _ => h
 | e :: l, _, h, hl => ents_w (l := l) (h.app (hl e List.mem_cons_self)) (fun x hx => hl x (List.mem_cons_of_mem _ hx))
def txsB (l : List Bs) : Bs := cntB l.length ++ l.flatMap txtB
def nums9 (s : Stt) : List Int := [s.cz, s.mz, s.pz, s.ver, s.cver, s.av, s.own, s.len, s.kids]
def ansB (x : Rp) (acl : List Ac) (kids : List Bs) : Bs := [x.xid, x.zx, x.err].flatMap numB ++ txtB x.path ++ txtB x.data ++ (nums9 x.st).flatMap numB ++ aclB acl ++ txsB kids
def an0 (y : Rp) : Bs := ansB y [] []
def repB (x : Rp) (acl : List Ac) (kids : List Bs) (subs : List Rp) : Bs := ansB x acl kids ++ cntB subs.length ++ subs.flatMap an0
structure RpI (x : Rp) : Prop where
 xid : I64 x.xid
 zx : I64 x.zx
 err : I64 x.err
 path : x.path.length ≤ 1048586
 data : x.data.length ≤ 1048576
 st : ∀ n ∈ nums9 x.st, I64 n
structure AnL (p : HP) (x : Rp) (acl : List Ac) (kids : List Bs) : Prop where
 i : RpI x
 racl : ∀ h : Hp, p h → rdS 2 h x.aclV acl.length (acl.flatMap acC)
 aclI : AclW acl
 rkids : ∀ h : Hp, p h → rdS 1 h x.kidsV kids.length (strs kids)
 few : kids.length ≤ 1048576
 each : ∀ s ∈ kids, s.length ≤ 1048576
structure RpL (p : HP) (x : Rp) (acl : List Ac) (kids : List Bs) (subs : List Rp) : Prop where
 a : AnL p x acl kids
 rd : ∀ h : Hp, p h → rdS 17 h x.subsV subs.length (subs.flatMap rpC)
 few : subs.length ≤ 1048576
 each : ∀ y ∈ subs, RpI y ∧ y.aclV = nilV ∧ y.kidsV = nilV
 subc : ∀ y ∈ subs, isCell y.subsV = true
 sh : (∃ a n c, x.aclV = .slice a n c) ∧ ∃ a n c, x.kidsV = .slice a n c
theorem txt_len (s : Bs) : (txtB s).length = (cntB s.length).length + s.length := by unfold txtB; rw [List.length_append]
theorem txs_each {s : Bs} (h : s.length ≤ 1048586) : (txtB s).length ≤ 1048596 := by
 have h1 := sev_len10 (u := s.length) (by have : U64 = 18446744073709551616 := rfl; omega)
 rw [txt_len]
 unfold cntB
 omega
theorem txs_len {l : List Bs} (hl : l.length ≤ 1048576) (h : ∀ s ∈ l, s.length ≤ 1048576) : (txsB l).length ≤ 1099532599306 := by
 have h1 := fm_most8 (f := txtB) (c := 1048596) (l := l) (fun s hs => txs_each (by have := h s hs; omega))
 have h2 := sev_len10 (u := l.length) (by have : U64 = 18446744073709551616 := rfl; omega)
 have h3 : l.length * 1048596 ≤ 1048576 * 1048596 := Nat.mul_le_mul_right _ hl
 unfold txsB cntB
 rw [List.length_append]; omega
theorem nums_most {l : List Int} (h : ∀ n ∈ l, I64 n) : (l.flatMap numB).length ≤ l.length * 10 := fm_most8 (fun n hn => numB_len8 (h n hn))
theorem ans_len {x : Rp} (h : RpI x) {acl : List Ac} (ha : (aclB acl).length ≤ 33000000) {kids : List Bs} : (ansB x acl kids).length ≤ 35097312 + (txsB kids).length := by
 have h1 := nums_most (l := [x.xid, x.zx, x.err]) (fun n hn => by
  simp only [List.mem_cons, List.not_mem_nil, or_false] at hn
  rcases hn with rfl | rfl | rfl
  ·exact h.xid
  ·exact h.zx
  ·exact h.err)
 have h2 := txs_each h.path
 have h3 := txs_each (s := x.data) (by have := h.data; omega)
 have h4 := nums_most h.st
 have h5 : (nums9 x.st).length = 9 := rfl
 rw [h5] at h4
 unfold ansB
 simp only [List.length_append, List.length_cons, List.length_nil] at h1 ⊢
 omega
theorem aclB_nil : (aclB []).length ≤ 33000000 := by simp [aclB, cntB, sevZ]
theorem an0_len {y : Rp} (h : RpI y) : (an0 y).length ≤ 35097322 := by
 have h1 := ans_len h (acl := []) aclB_nil (kids := [])
 have h2 : (txsB []).length ≤ 10 := by simp [txsB, cntB, sevZ]
 unfold an0
 omega
theorem an0s_len {l : List Rp} (hl : l.length ≤ 1048576) (h : ∀ y ∈ l, RpI y) : (l.flatMap an0).length ≤ 36802209513472 := by
 have h1 := fm_most8 (f := an0) (c := 35097322) (l := l) (fun y hy => an0_len (h y hy))
 have h3 : l.length * 35097322 ≤ 1048576 * 35097322 := Nat.mul_le_mul_right _ hl
 omega
theorem rep_same {x y : Rp} {acl acl' : List Ac} {kids kids' : List Bs} {subs subs' : List Rp} (h1 : x.xid = y.xid ∧ x.zx = y.zx ∧ x.err = y.err) (h2 : x.path = y.path ∧ x.data = y.data) (h3 : x.st = y.st) (h4 : acl = acl') (h5 : kids = kids') (h6 : subs.map an0 = subs'.map an0) : repB x acl kids subs = repB y acl' kids' subs' := by
 subst h4; subst h5
 have e1 : ansB x acl kids = ansB y acl kids := by
  unfold ansB
  rw [h1.1, h1.2.1, h1.2.2, h2.1, h2.2, h3]
 have e2 : subs.length = subs'.length := by have := congrArg List.length h6; simpa using this
 have e3 : subs.flatMap an0 = subs'.flatMap an0 := by rw [List.flatMap_def, List.flatMap_def, h6]
 unfold repB
 rw [e1, e2, e3]
theorem st9_i64 {τ : Tr} (hw : TrW τ) {N : Nat} (ho : τ.Ok N) (hN : N ≤ 1073741824) (p : Bs) : ∀ n ∈ nums9 (statD τ p), I64 n := by
 have h0 : ∀ n ∈ nums9 st0, I64 n := by decide
 unfold statD statZ
 rcases hn : alook τ.nodes p with _ | n
 case none => exact h0
 case some =>
  have hp := hw.nd _ (al_mem hn)
  have hs := hp.st
  have hd := hp.d
  have hk := kidsZ_len τ p
  have hf := ho.few
  intro k hk2
  simp only [nums9, List.mem_cons, List.not_mem_nil, or_false] at hk2
  dsimp only at hs hd hk2
  rcases hk2 with rfl | rfl | rfl | rfl | rfl | rfl | rfl | rfl | rfl
  ·exact hs _ (nums7_mem.2 (.inl rfl))
  ·exact hs _ (nums7_mem.2 (.inr (.inl rfl)))
  ·exact hs _ (nums7_mem.2 (.inr (.inr (.inl rfl))))
  ·exact hs _ (nums7_mem.2 (.inr (.inr (.inr (.inl rfl)))))
  ·exact hs _ (nums7_mem.2 (.inr (.inr (.inr (.inr (.inl rfl))))))
  ·exact hs _ (nums7_mem.2 (.inr (.inr (.inr (.inr (.inr (.inl rfl)))))))
  ·exact hs _ (nums7_mem.2 (.inr (.inr (.inr (.inr (.inr (.inr rfl)))))))
  ·show I64 ((n.data.length : Nat) : Int)
   exact ⟨by omega, by omega⟩
  ·show I64 (((kidsZ τ p).length : Nat) : Int)
   exact ⟨by omega, by omega⟩
theorem rp0_L (p : HP) : RpL p rp0 [] [] [] :=
 ⟨⟨⟨I64.zero, I64.zero, I64.zero, by show 0 ≤ 1048586; decide, Nat.zero_le _, by show ∀ n ∈ nums9 st0, I64 n; decide⟩, fun _ _ => .inl ⟨rfl, rfl, none, 0, rfl⟩, acl_nil_w, fun _ _ => .inl ⟨rfl, rfl, none, 0, rfl⟩, Nat.zero_le _, fun _ h => by cases h⟩, fun _ _ => .inl ⟨rfl, rfl, none, 0, rfl⟩, Nat.zero_le _, (fun _ h => by cases h), (fun _ h => by cases h), ⟨none, 0, 0, rfl⟩, ⟨none, 0, 0, rfl⟩⟩
theorem r2texts_spec (va : Value) (l : List Bs) (p : HP) (hp : ∀ h : Hp, p h → rdS 1 h va l.length (strs l)) (hl : l.length ≤ 1048576) (hs : ∀ s ∈ l, s.length ≤ 1048576) : Fn Tryz.prog 183 #[va] [p] fun v L => v = vstr (txsB l) ∧ L = [p] := by
 refine Fn.intro Tryz.func183 rfl rfl fun F W => ?_
 refine .rdAny (p := p) hp (by repeat' constructor) fun aa ca e _ => ?_
 subst e
 have htl := txs_len hl hs
 have hll : (txsB l).length = (cntB l.length).length + (l.flatMap txtB).length := by unfold txsB; rw [List.length_append]
 refine .sr (.an rfl (.sm rfl (.q (.slen rfl Tryz.underlying23 rfl) rfl (.cv Tryz.func117 [_] (r1cnt_spec l.length (by omega)) ?_))))
 refine .an rfl (.seq (.sr (.an rfl (.block (.loopK (ι := Nat × Bs) (fun q E => (4, vint q.1) :: (3, vstr q.2) :: E) (fun q => []) (fun q => q.1 ≤ l.length ∧ q.2 = cntB l.length ++ (l.take q.1).flatMap txtB) (fun q => l.length - q.1) (0, cntB l.length) (ts := [0, 2]) (.cons rfl (.cons rfl (.nil))) (⟨Nat.zero_le _, by simp⟩) ⟨rfl, rfl, rfl, rfl, trivial⟩ (by repeat' constructor) ?_)))))
 rintro ⟨i, t⟩ ⟨hj, ht⟩
 dsimp only
 dsimp only at hj ht
 have htl2 : t.length = (cntB l.length).length + ((l.take i).flatMap txtB).length := by rw [ht, List.length_append]
 refine .seq (.sm rfl (.m rfl (.q (.slen rfl Tryz.underlying23 rfl) rfl (.ui rfl rfl rfl (.nt (.condD rfl (fun h11 => ?_) (fun h11 => ?_)))))))
 ·have hi2 : i < l.length := by omega
  have hfs := fm_stepL txtB hi2
  have hsl := hs _ (List.getElem_mem hi2)
  have htx := txs_each (s := l[i]) (by omega)
  refine .rdShape (p := p) hp (by repeat' constructor) (by omega) fun ba oa e => ?_
  subst e
  refine .sk (.seq (.block (.region (.m rfl (.m rfl (.m rfl (.q (.indexAddr rfl rfl el_23 (by omega)) rfl (.q (.loadEl (p := p) (i := i * 1) (v := vstr l[i]) rfl ag_9 (by repeat' constructor) hp (by rw [Nat.mul_one]; simp [hi2])) rfl (.cv Tryz.func119 [_] (r1txt_spec l[i] (by omega)) ?_)))))))))
  refine .q (.concat rfl rfl (by omega)) rfl (.a rfl (.nil (.blk_n (.then_n (.region (.m rfl (.q (.add rfl rfl (by omega)) rfl (.an rfl ?_))))))))
  exact .rk ((i + 1, t ++ txtB l[i])) (⟨by dsimp only; omega, by dsimp only; rw [fm_step txtB hi2, ht]; simp only [List.append_assoc]⟩) (by dsimp only; omega) ⟨rfl, rfl, rfl, rfl, trivial⟩
 have hie : i = l.length := by omega
 have hfin : t = txsB l := by rw [ht, hie, List.take_length]; rfl
 subst hfin
 refine .exit (.then_e (.then_e (.blk_e (.then_n (.sm rfl (.an rfl (.ret ?_)))))))
 exact .vv
theorem r2answer_spec (x : Rp) (acl : List Ac) (kids : List Bs) (p : HP) (h : AnL p x acl kids) (ha : isCell x.aclV = true) (hk : isCell x.kidsV = true) (hs : isCell x.subsV = true) : Fn Tryz.prog 125 #[.agg (rpC x).toArray] [p] fun v L => v = vstr (ansB x acl kids) ∧ L = [p] := by
 refine Fn.intro Tryz.func125 rfl rfl fun F W => ?_
 have hi := h.i
 have hal := h.aclI.long
 have htl := txs_len h.few h.each
 have hx1 := txs_each hi.path
 have hx2 := txs_each (s := x.data) (by have := hi.data; omega)
 have hn3 := nums_most (l := [x.xid, x.zx, x.err]) (fun n hn => by simp only [List.mem_cons, List.not_mem_nil, or_false] at hn; rcases hn with rfl | rfl | rfl; exact hi.xid; exact hi.zx; exact hi.err)
 have hn9 := nums_most hi.st
 have hn9l : (nums9 x.st).length = 9 := rfl
 rw [hn9l] at hn9
 simp only [List.length_cons, List.length_nil] at hn3
 have hpl := hi.path
 have hdl := hi.data
 refine .sr (.oq (.box rfl) ?_)
 rintro v L' ⟨b1, rfl, rfl⟩
 refine .a rfl (.nil (.ptCast (b := b1) (l' := rpC x) (by repeat' constructor) (by exact rfl) (.then_n (.sr (.u (.fieldAddr rfl fo_57_5) (.q (.loadAs (vs := stC x.st) rfl ag_37 (by repeat' constructor) (by simp) rfl) rfl (.oq (.allocA ze_37) ?_)))))))
 rintro v L' ⟨b3, rfl, rfl⟩
 refine .oq (.storeA rfl rfl ?c8 sz_37 ?c11 ?c9 (nfz0 _ _)) ?_
 case c8 => intro v hv; simp only [stC, List.mem_cons, List.not_mem_nil, or_false] at hv; rcases hv with rfl | rfl | rfl | rfl | rfl | rfl | rfl | rfl | rfl <;> rfl
 case c11 => rfl
 case c9 => simp [stC]
 rintro v L' rfl
 refine .nil (.ptCast (b := b3) (l' := stC x.st) (by repeat' constructor) (by exact rfl) (.then_n (.seq (.draw [6, 7, 34, 35] [[0, 1, 2, 3, 4, 5, 8, 9, 12, 13, 16, 17, 18, 19, 20, 21, 22, 23, 24, 25, 26, 27, 28, 29, 30, 31, 32, 33, 37, 38, 41, 42, 6, 7, 10, 11, 14, 15, 34, 35, 36, 39, 40, 43], [44, 45]] mixed (by kernel_rfl) (.go [ptc b1 _ _, ptc b3 _ _, p] (by repeat' constructor) (.k rfl (.fieldAddr rfl fo_57_0) (.k rfl (.ld rfl ag_3) (.k rfl (.fieldAddr rfl fo_57_1) (.k rfl (.ld rfl ag_3) (.k rfl (.fieldAddr rfl fo_57_2) (.k rfl (.ld rfl ag_40) (.k rfl (.fieldAddr rfl fo_57_3) (.k rfl (.ld rfl ag_9) (.k rfl (.fieldAddr rfl fo_57_4) (.k rfl (.ld rfl ag_9) (.k rfl (.fieldAddr rfl fo_37_0) (.k rfl (.ld rfl ag_3) (.k rfl (.fieldAddr rfl fo_37_1) (.k rfl (.ld rfl ag_3) (.k rfl (.fieldAddr rfl fo_37_2) (.k rfl (.ld rfl ag_3) (.k rfl (.fieldAddr rfl fo_37_3) (.k rfl (.ld rfl ag_3) (.k rfl (.fieldAddr rfl fo_37_4) (.k rfl (.ld rfl ag_3) (.k rfl (.fieldAddr rfl fo_37_5) (.k rfl (.ld rfl ag_3) (.k rfl (.fieldAddr rfl fo_37_6) (.k rfl (.ld rfl ag_3) ?_)))))))))))))))))))))))))))))
 refine D.k rfl (.fieldAddr rfl fo_37_7) (.k rfl (.ld rfl ag_3) (.k rfl (.fieldAddr rfl fo_37_8) (.k rfl (.ld rfl ag_3) (.k rfl (.fieldAddr rfl fo_57_6) (.k rfl (.ld rfl ag_24) (.k rfl (.fieldAddr rfl fo_57_7) (.k rfl (.ld rfl ag_23) (.h2 (k := 34) rfl rfl (by kernel_rfl) rfl (.buildSlice1 (vs := [_, _, _]) el_34 ze_3 rfl rfl rfl rfl rfl (by decide)) (by repeat' constructor) (.buildSlice1 (vs := [_, _, _, _, _, _, _, _, _]) el_34 ze_3 rfl rfl rfl rfl rfl (by decide)) (by repeat' constructor) ?_ ?_))))))))
 ·rintro v L' ⟨b4, rfl, rfl⟩
  refine D.h2 (k := 34) rfl rfl (by kernel_rfl) rfl (.call Tryz.func72 rfl rfl (vs := [_]) rfl (r2nums_spec _ ([x.xid, x.zx, x.err]) (ptc b4 (ints ([x.xid, x.zx, x.err])) 3) (fun h hp => slR_rd (slR_pt hp rfl)) (fun n hn => by simp only [List.mem_cons, List.not_mem_nil, or_false] at hn; rcases hn with rfl | rfl | rfl; exact hi.xid; exact hi.zx; exact hi.err) (by simp [nums9]))) (by repeat' constructor) (.buildSlice1 (vs := [_, _, _, _, _, _, _, _, _]) el_34 ze_3 rfl rfl rfl rfl rfl (by decide)) (by repeat' constructor) ?_ ?_
  ·rintro v L' ⟨rfl, rfl⟩
   refine D.m rfl (by kernel_rfl) (.c Tryz.func119 [_] (r1txt_spec x.path (by omega))) (by repeat' constructor) ?_
   refine D.k rfl (.concat rfl rfl (by simp only [List.length_append, txtB] at *; omega)) (.m rfl (by kernel_rfl) (.c Tryz.func119 [_] (r1txt_spec x.data (by omega))) (by repeat' constructor) ?_)
   refine D.k rfl (.concat rfl rfl (by simp only [List.length_append, txtB] at *; omega)) (.hh rfl (.buildSlice1 (vs := [_, _, _, _, _, _, _, _, _]) el_34 ze_3 rfl rfl rfl rfl rfl (by decide)) ?_)
   rintro v L' ⟨b5, rfl, rfl⟩
   refine D.hh rfl (.call Tryz.func72 rfl rfl (vs := [_]) rfl (r2nums_spec _ (nums9 x.st) (ptc b5 (ints (nums9 x.st)) 3) (fun h hp => slR_rd (slR_pt hp rfl)) hi.st (by simp [nums9]))) ?_
   rintro v L' ⟨rfl, rfl⟩
   refine D.kv rfl (.concat rfl rfl (by simp only [List.length_append, txtB] at *; omega)) (.m rfl (by kernel_rfl) (.c Tryz.func174 [_] (r2acls_spec x.aclV acl p h.racl (fun a ha => (h.aclI.each a ha).1) (by omega) h.aclI.few)) (by repeat' constructor) ?_)
   refine D.kv rfl (.concat rfl rfl (by simp only [List.length_append, txtB] at *; omega)) (.m rfl (by kernel_rfl) (.c Tryz.func183 [_] (r2texts_spec x.kidsV kids p h.rkids h.few h.each)) (by repeat' constructor) ?_)
   refine D.ph (.g0 (.kv rfl (.concat rfl rfl (by simp only [List.length_append, txtB] at *; omega)) (.kv rfl (.assign rfl) (.pf (.ret ?_)))))
   exact .vv
  rintro v L' ⟨b5, rfl, rfl⟩
  refine D.hh rfl (.call Tryz.func72 rfl rfl (vs := [_]) rfl (r2nums_spec _ ([x.xid, x.zx, x.err]) (ptc b4 (ints ([x.xid, x.zx, x.err])) 3) (fun h hp => slR_rd (slR_pt hp rfl)) (fun n hn => by simp only [List.mem_cons, List.not_mem_nil, or_false] at hn; rcases hn with rfl | rfl | rfl; exact hi.xid; exact hi.zx; exact hi.err) (by simp [nums9]))) ?_
  rintro v L' ⟨rfl, rfl⟩
  refine D.m rfl (by kernel_rfl) (.c Tryz.func119 [_] (r1txt_spec x.path (by omega))) (by repeat' constructor) ?_
  refine D.k rfl (.concat rfl rfl (by simp only [List.length_append, txtB] at *; omega)) (.m rfl (by kernel_rfl) (.c Tryz.func119 [_] (r1txt_spec x.data (by omega))) (by repeat' constructor) ?_)
  refine D.k rfl (.concat rfl rfl (by simp only [List.length_append, txtB] at *; omega)) (.hh rfl (.call Tryz.func72 rfl rfl (vs := [_]) rfl (r2nums_spec _ (nums9 x.st) (ptc b5 (ints (nums9 x.st)) 3) (fun h hp => slR_rd (slR_pt hp rfl)) hi.st (by simp [nums9]))) ?_)
  rintro v L' ⟨rfl, rfl⟩
  refine D.kv rfl (.concat rfl rfl (by simp only [List.length_append, txtB] at *; omega)) (.m rfl (by kernel_rfl) (.c Tryz.func174 [_] (r2acls_spec x.aclV acl p h.racl (fun a ha => (h.aclI.each a ha).1) (by omega) h.aclI.few)) (by repeat' constructor) ?_)
  refine D.kv rfl (.concat rfl rfl (by simp only [List.length_append, txtB] at *; omega)) (.m rfl (by kernel_rfl) (.c Tryz.func183 [_] (r2texts_spec x.kidsV kids p h.rkids h.few h.each)) (by repeat' constructor) ?_)
  refine D.ph (.g0 (.kv rfl (.concat rfl rfl (by simp only [List.length_append, txtB] at *; omega)) (.kv rfl (.assign rfl) (.pf (.ret ?_)))))
  exact .vv
 rintro v L' ⟨b5, rfl, rfl⟩
 refine D.hh rfl (.buildSlice1 (vs := [_, _, _]) el_34 ze_3 rfl rfl rfl rfl rfl (by decide)) ?_
 rintro v L' ⟨b4, rfl, rfl⟩
 refine D.hh rfl (.call Tryz.func72 rfl rfl (vs := [_]) rfl (r2nums_spec _ ([x.xid, x.zx, x.err]) (ptc b4 (ints ([x.xid, x.zx, x.err])) 3) (fun h hp => slR_rd (slR_pt hp rfl)) (fun n hn => by simp only [List.mem_cons, List.not_mem_nil, or_false] at hn; rcases hn with rfl | rfl | rfl; exact hi.xid; exact hi.zx; exact hi.err) (by simp [nums9]))) ?_
 rintro v L' ⟨rfl, rfl⟩
 refine D.m rfl (by kernel_rfl) (.c Tryz.func119 [_] (r1txt_spec x.path (by omega))) (by repeat' constructor) ?_
 refine D.k rfl (.concat rfl rfl (by simp only [List.length_append, txtB] at *; omega)) (.m rfl (by kernel_rfl) (.c Tryz.func119 [_] (r1txt_spec x.data (by omega))) (by repeat' constructor) ?_)
 refine D.k rfl (.concat rfl rfl (by simp only [List.length_append, txtB] at *; omega)) (.hh rfl (.call Tryz.func72 rfl rfl (vs := [_]) rfl (r2nums_spec _ (nums9 x.st) (ptc b5 (ints (nums9 x.st)) 3) (fun h hp => slR_rd (slR_pt hp rfl)) hi.st (by simp [nums9]))) ?_)
 rintro v L' ⟨rfl, rfl⟩
 refine D.kv rfl (.concat rfl rfl (by simp only [List.length_append, txtB] at *; omega)) (.m rfl (by kernel_rfl) (.c Tryz.func174 [_] (r2acls_spec x.aclV acl p h.racl (fun a ha => (h.aclI.each a ha).1) (by omega) h.aclI.few)) (by repeat' constructor) ?_)
 refine D.kv rfl (.concat rfl rfl (by simp only [List.length_append, txtB] at *; omega)) (.m rfl (by kernel_rfl) (.c Tryz.func183 [_] (r2texts_spec x.kidsV kids p h.rkids h.few h.each)) (by repeat' constructor) ?_)
 refine D.ph (.g0 (.kv rfl (.concat rfl rfl (by simp only [List.length_append, txtB] at *; omega)) (.kv rfl (.assign rfl) (.pf (.ret ?_)))))
 exact .vv
theorem r2reply_spec (x : Rp) (acl : List Ac) (kids : List Bs) (subs : List Rp) (p : HP) (h : RpL p x acl kids subs) : Fn Tryz.prog 67 #[.agg (rpC x).toArray] [p] fun v L => v = vstr (repB x acl kids subs) ∧ L = [p] := by
 refine Fn.intro Tryz.func67 rfl rfl fun F W => ?_
 have hi := h.a.i
 have htl := txs_len h.a.few h.a.each
 have hal := ans_len hi (acl := acl) h.a.aclI.long (kids := kids)
 have hsl := an0s_len h.few fun y hy => (h.each y hy).1
 have hfew := h.few
 have hcl : (cntB subs.length).length ≤ 10 := sev_len10 (by have : U64 = 18446744073709551616 := rfl; omega)
 have hc1 : isCell x.aclV = true := by obtain ⟨a, n, c, e⟩ := h.sh.1; rw [e]; rfl
 have hc2 : isCell x.kidsV = true := by obtain ⟨a, n, c, e⟩ := h.sh.2; rw [e]; rfl
 refine .rdAny (p := p) h.rd (by repeat' constructor) fun aa ca hsv _ => ?_
 have hrd : ∀ g : Hp, p g → rdS 17 g (.slice aa subs.length ca) subs.length (subs.flatMap rpC) := fun g hp => hsv ▸ h.rd g hp
 refine .sr (.oq (.box rfl) ?_)
 rintro v L' ⟨b1, rfl, rfl⟩
 refine .a rfl (.nil (.ptCast (b := b1) (l' := rpC x) (by repeat' constructor) (by exact rfl) (.then_n (.seq (.draw [] [[0, 1, 2, 3, 4, 5, 6, 7]] mixed (by kernel_rfl) (.go [ptc b1 _ _, p] (by repeat' constructor) (.kv rfl (.to (v' := .agg (rpC x).toArray) (.loadA rfl ag_57 (by repeat' constructor) (by simp)) (by rfl)) (.m rfl (by kernel_rfl) (.c Tryz.func125 [_] (r2answer_spec x acl kids p h.a hc1 hc2 (by rw [hsv]; rfl))) (by repeat' constructor) ?_))))))))
 refine D.kv rfl (.fieldAddr rfl fo_57_8) (.kv rfl (.to (v' := .slice aa subs.length ca) (.load rfl ag_55 (by repeat' constructor) rfl) (by exact hsv)) (.kv rfl (.slen rfl Tryz.underlying55 rfl) (.m rfl (by kernel_rfl) (.c Tryz.func117 [_] (r1cnt_spec subs.length (by omega))) (by repeat' constructor) ?_)))
 refine D.kv rfl (.concat rfl rfl (by omega)) (.kv rfl (.assign rfl) (.pf (.seq (.sr (.an rfl (.block (.loopK (ι := Nat × Bs) (fun q E => (4, vint q.1) :: (3, vstr q.2) :: E) (fun q => []) (fun q => q.1 ≤ subs.length ∧ q.2 = ansB x acl kids ++ cntB subs.length ++ (subs.take q.1).flatMap an0) (fun q => subs.length - q.1) (0, ansB x acl kids ++ cntB subs.length) (ts := [1, 2]) (.cons rfl (.cons rfl (.nil))) (⟨Nat.zero_le _, by simp⟩) ⟨rfl, rfl, rfl, rfl, trivial⟩ (by repeat' constructor) ?_)))))))
 rintro ⟨i, t⟩ ⟨hj, ht⟩
 dsimp only
 dsimp only at hj ht
 have htl2 : t.length = (ansB x acl kids).length + (cntB subs.length).length + ((subs.take i).flatMap an0).length := by rw [ht, List.length_append, List.length_append]
 refine .seq (.sm rfl (.u (.fieldAddr rfl fo_57_8) (.q (.to (v' := .slice aa subs.length ca) (.load rfl ag_55 (by repeat' constructor) rfl) (by exact hsv)) rfl (.q (.slen rfl Tryz.underlying55 rfl) rfl (.ui rfl rfl rfl (.nt (.condD rfl (fun h16 => ?_) (fun h16 => ?_))))))))
 ·have hi2 : i < subs.length := by omega
  have hfs := fm_stepL an0 hi2
  obtain ⟨hz1, hz2, hz3⟩ := h.each _ (List.getElem_mem hi2)
  have hz4 := an0_len hz1
  refine .rdShape (p := p) hrd (by repeat' constructor) (by omega) fun ba oa e => ?_
  subst e
  refine .sk (.seq (.block (.region (.m rfl (.u (.fieldAddr rfl fo_57_8) (.q (.to (v' := .slice (some ⟨ba, oa, none⟩) subs.length ca) (.load rfl ag_55 (by repeat' constructor) rfl) (by exact hsv)) rfl (.m rfl (.q (.indexAddr rfl rfl el_55 (by omega)) rfl (.q (.loadRdA (sz := 17) (j := i * 17) (k := 17) (p := p) (vs := rpC subs[i]) rfl ag_57 (by repeat' constructor) hrd (by simp) (by omega) (by omega) (flatMap_at (f := rpC) (sz := 17) (fun _ _ => rfl) hi2)) rfl (.oq (.call Tryz.func125 rfl rfl (vs := [_]) rfl (r2answer_spec subs[i] [] [] p ⟨hz1, by rw [hz2]; exact fun _ _ => .inl ⟨rfl, rfl, none, 0, rfl⟩, ⟨by decide, aclB_nil, fun a ha => by cases ha⟩, by rw [hz3]; exact fun _ _ => .inl ⟨rfl, rfl, none, 0, rfl⟩, Nat.zero_le _, fun s hs => by cases hs⟩ (by rw [hz2]; rfl) (by rw [hz3]; rfl) (h.subc _ (List.getElem_mem hi2)))) ?_))))))))))
  rintro v L' ⟨rfl, rfl⟩; rw [show ansB subs[i] [] [] = an0 subs[i] from rfl]
  refine .q (.concat rfl rfl (by omega)) rfl (.a rfl (.nil (.blk_n (.then_n (.region (.m rfl (.q (.add rfl rfl (by omega)) rfl (.an rfl ?_))))))))
  exact .rk ((i + 1, t ++ an0 subs[i])) (⟨by dsimp only; omega, by dsimp only; rw [fm_step an0 hi2, ht]; simp only [List.append_assoc]⟩) (by dsimp only; omega) ⟨rfl, rfl, rfl, rfl, trivial⟩
 have hie : i = subs.length := by omega
 have hfin : t = repB x acl kids subs := by rw [ht, hie, List.take_length]; rfl
 subst hfin
 refine .exit (.then_e (.then_e (.blk_e (.then_n (.sm rfl (.an rfl (.ret ?_)))))))
 exact .vv
theorem rkids_spec (x : Nat) (τ : Tr) (p : Bs) (N : Nat) (ho : τ.Ok N) (hN : N ≤ 1073741824) : Fn Tryz.prog 60 #[vptr x, vstr p] [refR x τ] fun v L => (∃ a c, v = .slice a (kidsZ τ p).length c) ∧ L = [refR x τ, slR 9 1 v (kidsZ τ p).length (strs (kidsZ τ p))] := by
 refine Fn.intro Tryz.func60 rfl rfl fun F W => ?_
 refine .rtOpen (x := x) (τ := τ) (by repeat' constructor) fun an cn as1 cs l hl => ?_
 have hll := nds_len hl
 have hofew := ho.few
 refine .add (slR_nil 9 1) (.sr (.an rfl (.sr (.an rfl (.seq (.sr (.an rfl (.block (.loopK (ι := Nat × Value) (fun q E => (6, vint q.1) :: (5, q.2) :: E) (fun q => [slR 9 1 q.2 (kidsN (l.take q.1) p).length (strs (kidsN (l.take q.1) p))]) (fun q => q.1 ≤ l.length ∧ ∃ a c, q.2 = .slice a (kidsN (l.take q.1) p).length c) (fun q => l.length - q.1) (0, .slice none 0 0) (ts := [0, 1, 4]) (.cons rfl (.cons rfl (.cons rfl (.nil)))) (⟨Nat.zero_le _, none, 0, rfl⟩) ⟨rfl, rfl, rfl, rfl, rfl, trivial⟩ (by repeat' constructor) ?_)))))))))
 rintro ⟨i, u⟩ ⟨hi, au, cu, hu⟩
 dsimp only
 dsimp only at hi hu
 subst hu
 have hkl := kidsN_len (l.take i) p
 rw [List.length_take] at hkl
 refine .seq (.sm rfl (.m rfl (.nf rfl fo_110_0 (.u (.ld rfl ag_107) (.q (.slen rfl Tryz.underlying107 rfl) rfl (.ui rfl rfl rfl (.nt (.condD rfl (fun h13 => ?_) (fun h13 => ?_)))))))))
 ·have hi2 : i < l.length := by omega
  have hpi : l[i].1.length ≤ 60 := by have := nds_get hl hi2; have h2 := able_len (ho.able _ (List.getElem_mem (l := τ.nodes) (n := i) (by omega))); rw [this] at h2; exact h2
  refine .slShape (T := 112) (sz := 12) (v := .slice an l.length cn) (xs := l.flatMap rnC) (by repeat' constructor) (by omega) fun bn bn' e0 mbn _ => ?_
  simp only [Value.slice.injEq, true_and] at e0
  obtain ⟨rfl, rfl⟩ := e0
  refine .sk (.seq (.block (.sm rfl (.nf rfl fo_110_0 (.u (.ld rfl ag_107) (.m rfl (.q (.indexAddr rfl rfl el_107 (by omega)) rfl (.u (.fieldAddr rfl fo_112_0) (.q (.loadRd (sz := 12) (j := i * 12 + 0) (p := rnR _ l) rfl ag_9 (by repeat' constructor) (fun h hp => slR_rd hp) (by omega) ((rn_cell (l := l) (i := i) (k := 0) (by omega) (by decide)).trans rfl)) rfl (.u (.strne rfl rfl) (.m rfl (.ndec (t := 25) rfl (fun h5_25 => ?_) (fun h5_25 => ?_)))))))))))))
  ·refine .kNT (t := 24) rfl h5_25 (.grun (t := 25) rfl rfl rfl (.m rfl (.grun (t := 25) rfl rfl rfl (.u (.nilp rfl) (.grun (t := 25) rfl rfl rfl (.u (.fieldAddr rfl fo_110_0) (.grun (t := 25) rfl rfl rfl (.u (.ld rfl ag_107) (.grun (t := 25) rfl rfl rfl (.m rfl (.grun (t := 25) rfl rfl rfl (.q (.indexAddr rfl rfl el_107 (by omega)) rfl (.grun (t := 25) rfl rfl rfl (.u (.fieldAddr rfl fo_112_0) (.grun (t := 25) rfl rfl rfl (.q (.loadRd (sz := 12) (j := i * 12 + 0) (p := rnR _ l) rfl ag_9 (by repeat' constructor) (fun h hp => slR_rd hp) (by omega) ((rn_cell (l := l) (i := i) (k := 0) (by omega) (by decide)).trans rfl)) rfl (.grun (t := 25) rfl rfl rfl (.cv Tryz.func110 [_] (rparent_spec l[i].1 (by omega)) ?_))))))))))))))))))
   refine .grun (t := 25) rfl rfl rfl (.m rfl (.grun (t := 25) rfl rfl rfl (.u (.streq rfl rfl) (.u (.pickT rfl rfl) (.nt (.condD rfl (fun h37 => ?_) (fun h37 => ?_)))))))
   ·refine .region (.m rfl (.m rfl (.nf rfl fo_110_0 (.u (.ld rfl ag_107) (.m rfl (.q (.indexAddr rfl rfl el_107 (by omega)) rfl (.u (.fieldAddr rfl fo_112_0) (.q (.loadRd (sz := 12) (j := i * 12 + 0) (p := rnR _ l) rfl ag_9 (by repeat' constructor) (fun h hp => slR_rd hp) (by omega) ((rn_cell (l := l) (i := i) (k := 0) (by omega) (by decide)).trans rfl)) rfl (.cv Tryz.func121 [_] (rbase_spec l[i].1 (by omega)) ?_)))))))))
    refine .oq (.buildSlice1 (vs := [_]) el_23 ze_9 rfl rfl rfl rfl rfl (by decide)) ?_
    rintro v L' ⟨b6_10, rfl, rfl⟩
    refine .oq (.append1 rfl rfl rfl el_23 ze_9 rfl rfl ?c45 ?c46 (Nat.le_refl _) ?c47 (by decide)) ?_
    case c45 => (first | (simp [isCell]; done) | (simp [isCell, setAll, Value.cells]; done))
    case c46 => rfl
    case c47 => first | omega | (simp; omega)
    rintro v L' ⟨⟨a6_11, c6_11, rfl⟩, rfl⟩
    refine .a rfl (.nil (.blk_n (.then_n (.region (.m rfl (.q (.add rfl rfl (by omega)) rfl (.an rfl ?_)))))))
    have hst : (kidsN (l.take (i + 1)) p) = (kidsN (l.take i) p) ++ [baseZ l[i].1] := by unfold kidsN; rw [List.take_succ_eq_append_getElem hi2, List.filter_append, List.map_append]; simp [show ¬ l[i].1 = [47] from h5_25, show parentZ l[i].1 = p from h37]
    rw [show strs (kidsN (l.take i) p) ++ [vstr (baseZ l[i].1)] = strs (kidsN (l.take (i + 1)) p) by rw [hst]; simp [strs], show (kidsN (l.take i) p).length + 1 = (kidsN (l.take (i + 1)) p).length by rw [hst, List.length_append]; rfl]
    exact .rk ((i + 1, .slice a6_11 (kidsN (l.take (i + 1)) p).length c6_11)) (⟨by dsimp only; omega, _, _, rfl⟩) (by dsimp only; omega) ⟨rfl, rfl, rfl, rfl, rfl, trivial⟩
   refine .skip (.blk_n (.then_n (.region (.m rfl (.q (.add rfl rfl (by omega)) rfl (.an rfl ?_))))))
   have hst : (kidsN (l.take (i + 1)) p) = (kidsN (l.take i) p) := by unfold kidsN; rw [List.take_succ_eq_append_getElem hi2, List.filter_append, List.map_append]; simp; exact fun g1 g2 => h37 g2
   rw [← hst]
   exact .rk ((i + 1, .slice au (kidsN (l.take (i + 1)) p).length cu)) (⟨by dsimp only; omega, _, _, rfl⟩) (by dsimp only; omega) ⟨rfl, rfl, rfl, rfl, rfl, trivial⟩
  refine .kNF (t := 24) rfl h5_25 (.gk (.gk (.gk (.gk (.gk (.gk (.gk (.gk (.gk (.gk (.gk (.u (.pickF rfl rfl) (.nt (.condF rfl (.skip (.blk_n (.then_n (.region (.m rfl (.q (.add rfl rfl (by omega)) rfl (.an rfl ?_)))))))))))))))))))))
  have hst : (kidsN (l.take (i + 1)) p) = (kidsN (l.take i) p) := by unfold kidsN; rw [List.take_succ_eq_append_getElem hi2, List.filter_append, List.map_append]; simp; exact fun g1 _ => g1 h5_25
  rw [← hst]
  exact .rk ((i + 1, .slice au (kidsN (l.take (i + 1)) p).length cu)) (⟨by dsimp only; omega, _, _, rfl⟩) (by dsimp only; omega) ⟨rfl, rfl, rfl, rfl, rfl, trivial⟩
 have hii : i = l.length := by omega
 rw [hii, List.take_length, kidsN_eq hl]
 refine .exit (.then_e (.then_e (.blk_e (.then_n (.sm rfl (.an rfl (.ret (.rtFold (x := x) (τ := τ) (l := l) hl (by repeat' constructor) rfl rfl rfl rfl rfl ?_))))))))
 exact .dn rfl rfl ⟨⟨_, _, rfl⟩, rfl⟩
theorem rowned_spec (x : Nat) (τ : Tr) (s : Int) (N : Nat) (ho : τ.Ok N) (hN : N ≤ 1073741824) : Fn Tryz.prog 61 #[vptr x, vint s] [refR x τ] fun v L => (∃ a c, v = .slice a (ownedZ τ s).length c) ∧ L = [refR x τ, slR 9 1 v (ownedZ τ s).length (strs (ownedZ τ s))] := by
 refine Fn.intro Tryz.func61 rfl rfl fun F W => ?_
 refine .rtOpen (x := x) (τ := τ) (by repeat' constructor) fun an cn as1 cs l hl => ?_
 have hll := nds_len hl
 have hofew := ho.few
 refine .add (slR_nil 9 1) (.sr (.an rfl (.sr (.an rfl (.seq (.sr (.an rfl (.block (.loopK (ι := Nat × Value) (fun q E => (6, vint q.1) :: (5, q.2) :: E) (fun q => [slR 9 1 q.2 (ownN (l.take q.1) s).length (strs (ownN (l.take q.1) s))]) (fun q => q.1 ≤ l.length ∧ ∃ a c, q.2 = .slice a (ownN (l.take q.1) s).length c) (fun q => l.length - q.1) (0, .slice none 0 0) (ts := [0, 1, 4]) (.cons rfl (.cons rfl (.cons rfl (.nil)))) (⟨Nat.zero_le _, none, 0, rfl⟩) ⟨rfl, rfl, rfl, rfl, rfl, trivial⟩ (by repeat' constructor) ?_)))))))))
 rintro ⟨i, u⟩ ⟨hi, au, cu, hu⟩
 dsimp only
 dsimp only at hi hu
 subst hu
 have hkl := ownN_len (l.take i) s
 rw [List.length_take] at hkl
 refine .seq (.sm rfl (.m rfl (.nf rfl fo_110_0 (.u (.ld rfl ag_107) (.q (.slen rfl Tryz.underlying107 rfl) rfl (.ui rfl rfl rfl (.nt (.condD rfl (fun h13 => ?_) (fun h13 => ?_)))))))))
 ·have hi2 : i < l.length := by omega
  have hpi : l[i].1.length ≤ 60 := by have := nds_get hl hi2; have h2 := able_len (ho.able _ (List.getElem_mem (l := τ.nodes) (n := i) (by omega))); rw [this] at h2; exact h2
  refine .slShape (T := 112) (sz := 12) (v := .slice an l.length cn) (xs := l.flatMap rnC) (by repeat' constructor) (by omega) fun bn bn' e0 mbn _ => ?_
  simp only [Value.slice.injEq, true_and] at e0
  obtain ⟨rfl, rfl⟩ := e0
  refine .sk (.seq (.block (.sm rfl (.ui rfl rfl rfl (.m rfl (.ndec (t := 18) rfl (fun h5_18 => ?_) (fun h5_18 => ?_)))))))
  ·refine .kNT (t := 17) rfl h5_18 (.grun (t := 18) rfl rfl rfl (.m rfl (.grun (t := 18) rfl rfl rfl (.u (.nilp rfl) (.grun (t := 18) rfl rfl rfl (.u (.fieldAddr rfl fo_110_0) (.grun (t := 18) rfl rfl rfl (.u (.ld rfl ag_107) (.grun (t := 18) rfl rfl rfl (.m rfl (.grun (t := 18) rfl rfl rfl (.q (.indexAddr rfl rfl el_107 (by omega)) rfl (.grun (t := 18) rfl rfl rfl (.u (.fieldAddr rfl fo_112_3) (.grun (t := 18) rfl rfl rfl (.u (.fieldAddr rfl fo_37_6) (.grun (t := 18) rfl rfl rfl (.q (.loadRd (sz := 12) (j := i * 12 + 9) (p := rnR _ l) rfl ag_3 (by repeat' constructor) (fun h hp => slR_rd hp) (by omega) ((rn_cell (l := l) (i := i) (k := 9) (by omega) (by decide)).trans rfl)) rfl (.grun (t := 18) rfl rfl rfl (.m rfl (.grun (t := 18) rfl rfl rfl (.ui rfl rfl rfl (.u (.pickT rfl rfl) (.nt (.condD rfl (fun h30 => ?_) (fun h30 => ?_))))))))))))))))))))))))))
   ·refine .region (.m rfl (.m rfl (.nf rfl fo_110_0 (.u (.ld rfl ag_107) (.m rfl (.q (.indexAddr rfl rfl el_107 (by omega)) rfl (.u (.fieldAddr rfl fo_112_0) (.q (.loadRd (sz := 12) (j := i * 12 + 0) (p := rnR _ l) rfl ag_9 (by repeat' constructor) (fun h hp => slR_rd hp) (by omega) ((rn_cell (l := l) (i := i) (k := 0) (by omega) (by decide)).trans rfl)) rfl (.oq (.buildSlice1 (vs := [_]) el_23 ze_9 rfl rfl rfl rfl rfl (by decide)) ?_)))))))))
    rintro v L' ⟨b6_9, rfl, rfl⟩
    refine .oq (.append1 rfl rfl rfl el_23 ze_9 rfl rfl ?c35 ?c36 (Nat.le_refl _) ?c37 (by decide)) ?_
    case c35 => (first | (simp [isCell]; done) | (simp [isCell, setAll, Value.cells]; done))
    case c36 => rfl
    case c37 => first | omega | (simp; omega)
    rintro v L' ⟨⟨a6_10, c6_10, rfl⟩, rfl⟩
    refine .a rfl (.nil (.blk_n (.then_n (.region (.m rfl (.q (.add rfl rfl (by omega)) rfl (.an rfl ?_)))))))
    have hst : (ownN (l.take (i + 1)) s) = (ownN (l.take i) s) ++ [l[i].1] := by unfold ownN; rw [List.take_succ_eq_append_getElem hi2, List.filter_append, List.map_append]; simp [show ¬ s = 0 from h5_18, show l[i].2.2.st.own = s from h30]
    rw [show strs (ownN (l.take i) s) ++ [vstr (l[i].1)] = strs (ownN (l.take (i + 1)) s) by rw [hst]; simp [strs], show (ownN (l.take i) s).length + 1 = (ownN (l.take (i + 1)) s).length by rw [hst, List.length_append]; rfl]
    exact .rk ((i + 1, .slice a6_10 (ownN (l.take (i + 1)) s).length c6_10)) (⟨by dsimp only; omega, _, _, rfl⟩) (by dsimp only; omega) ⟨rfl, rfl, rfl, rfl, rfl, trivial⟩
   refine .skip (.blk_n (.then_n (.region (.m rfl (.q (.add rfl rfl (by omega)) rfl (.an rfl ?_))))))
   have hst : (ownN (l.take (i + 1)) s) = (ownN (l.take i) s) := by unfold ownN; rw [List.take_succ_eq_append_getElem hi2, List.filter_append, List.map_append]; simp; exact fun g1 g2 => h30 g2
   rw [← hst]
   exact .rk ((i + 1, .slice au (ownN (l.take (i + 1)) s).length cu)) (⟨by dsimp only; omega, _, _, rfl⟩) (by dsimp only; omega) ⟨rfl, rfl, rfl, rfl, rfl, trivial⟩
  refine .kNF (t := 17) rfl h5_18 (.gk (.gk (.gk (.gk (.gk (.gk (.gk (.gk (.gk (.gk (.gk (.u (.pickF rfl rfl) (.nt (.condF rfl (.skip (.blk_n (.then_n (.region (.m rfl (.q (.add rfl rfl (by omega)) rfl (.an rfl ?_)))))))))))))))))))))
  have hst : (ownN (l.take (i + 1)) s) = (ownN (l.take i) s) := by unfold ownN; rw [List.take_succ_eq_append_getElem hi2, List.filter_append, List.map_append]; simp; exact fun g1 _ => g1 h5_18
  rw [← hst]
  exact .rk ((i + 1, .slice au (ownN (l.take (i + 1)) s).length cu)) (⟨by dsimp only; omega, _, _, rfl⟩) (by dsimp only; omega) ⟨rfl, rfl, rfl, rfl, rfl, trivial⟩
 have hii : i = l.length := by omega
 rw [hii, List.take_length, ownN_eq hl]
 refine .exit (.then_e (.then_e (.blk_e (.then_n (.sm rfl (.an rfl (.ret (.rtFold (x := x) (τ := τ) (l := l) hl (by repeat' constructor) rfl rfl rfl rfl rfl ?_))))))))
 exact .dn rfl rfl ⟨⟨_, _, rfl⟩, rfl⟩
theorem rn_stat {l : List Rno} {k : Nat} (hk : k < l.length) : ((l.flatMap rnC).drop (k * 12 + 3)).take 9 = stC l[k].2.2.st := by
 have h := flatMap_at (f := rnC) (sz := 12) (l := l) (i := k) (fun _ _ => rfl) hk
 have h2 := congrArg (List.drop 3) h
 rw [List.drop_take, List.drop_drop] at h2
 exact h2
theorem al_get' {β : Type} {l : List (Bs × β)} (hn : (l.map (·.1)).Nodup) {i : Nat} (hi : i < l.length) : alook l l[i].1 = some l[i].2 := al_of_mem hn (List.getElem_mem hi)
theorem stat_none {τ : Tr} {p : Bs} (h : ¬ thereT τ p) : statD τ p = st0 := by
 unfold statD statZ
 unfold thereT at h
 cases e : alook τ.nodes p with
 | none => rfl
 | some y => rw [e] at h; exact absurd rfl h
theorem stat_some {τ : Tr} {p : Bs} {n : Nd} (h : alook τ.nodes p = some n) : statD τ p = { n.st with len := n.data.length, kids := (kidsZ τ p).length } := by
 unfold statD statZ; rw [h]; rfl
theorem there_some' {τ : Tr} {p : Bs} : thereT τ p ↔ ∃ n, alook τ.nodes p = some n := Option.isSome_iff_exists
theorem rstat_spec (x : Nat) (τ : Tr) (p : Bs) (N : Nat) (ho : τ.Ok N) (hN : N ≤ 1073741824) : Fn Tryz.prog 55 #[vptr x, vstr p] [refR x τ] fun v L => v = .tuple #[.agg (stC (statD τ p)).toArray, .bool (decide (thereT τ p))] ∧ L = [refR x τ] := by
 refine Fn.intro Tryz.func55 rfl rfl fun F W => ?_
 have hof := ho.few
 refine .sr (.oq (.allocA ze_37) ?_)
 rintro v L' ⟨b4, rfl, rfl⟩
 refine .an rfl (.sm rfl (.m rfl (.cv Tryz.func95 [_, _] (rplace_spec x τ p (by omega)) ?_)))
 refine .an rfl (.seq (.sm rfl (.ui rfl rfl rfl (.nt (.condD rfl (fun h12 => ?_) (fun h12 => ?_))))))
 ·refine .sr (.q (.to (v' := .agg (stC st0).toArray) (.build (us := []) fl_37 ze_37 rfl rfl (by simp [isCell])) rfl) rfl (.oq (.storeA rfl rfl ?c10 sz_37 ?c13 ?c11 (nfz0 _ _)) ?_))
  case c10 => intro v hv; simp only [stC, List.mem_cons, List.not_mem_nil, or_false] at hv; rcases hv with rfl | rfl | rfl | rfl | rfl | rfl | rfl | rfl | rfl <;> rfl
  case c13 => rfl
  case c11 => simp [stC]
  rintro v L' rfl
  refine .an rfl (.rt ?_)
  have hth : ¬ thereT τ p := fun g => absurd (place_iff.2 g) (by have h0 : placeTo τ.nodes p < 0 := h12; omega)
  refine .ptCast (b := b4) (l' := stC (statD τ p)) (by repeat' constructor) (by rw [stat_none hth]; rfl) ?_
  exact .d2 rfl (.cellA rfl ag_37 (by repeat' constructor) (by simp [stC]) rfl) (.tmp rfl) ⟨by rw [decide_eq_false hth]; rfl, rfl⟩
 have h12b : 0 ≤ placeTo τ.nodes p := by have h0 : ¬ placeTo τ.nodes p < 0 := h12; omega
 obtain ⟨k, hk, hpk, hkp⟩ := place_get (l := τ.nodes) h12b
 have hpz : placeZ τ p = k := hpk
 rw [hpz]
 obtain ⟨nd, hnd⟩ : ∃ nd, alook τ.nodes p = some nd := by have g2 : alook τ.nodes (τ.nodes[k]).1 = some (τ.nodes[k]).2 := al_get' (ho.sorted.nodup linB) (i := k) hk; rw [hkp] at g2; exact ⟨_, g2⟩
 have hsd := stat_some hnd
 refine .sk (.seq (.rtOpen (x := x) (τ := τ) (by repeat' constructor) fun am cm as2 cs2 m hm => ?_))
 have hml := nds_len hm
 have hkm : k < m.length := by omega
 refine .slShape (T := 112) (sz := 12) (v := .slice am m.length cm) (xs := m.flatMap rnC) (by repeat' constructor) (by omega) fun bm bm' e0 mbm _ => ?_
 simp only [Value.slice.injEq, true_and] at e0
 obtain ⟨rfl, rfl⟩ := e0
 have hlk : alook τ.nodes p = some m[k].2.2 := by have g := nds_get hm (i := k) hkm; have g2 : alook τ.nodes (τ.nodes[k]).1 = some (τ.nodes[k]).2 := al_get' (ho.sorted.nodup linB) (i := k) hk; rw [hkp, show τ.nodes[k] = (m[k].1, m[k].2.2) from g] at g2; exact g2
 have hmn : m[k].2.2 = nd := by rw [hnd] at hlk; exact (Option.some.inj hlk).symm
 refine .region (.m rfl (.nf rfl fo_110_0 (.u (.ld rfl ag_107) (.m rfl (.q (.indexAddr rfl rfl el_107 (by omega)) rfl (.u (.fieldAddr rfl fo_112_3) (.q (.loadRdA (sz := 12) (j := k * 12 + 3) (k := 9) (p := rnR _ m) (vs := stC m[k].2.2.st) rfl ag_37 (by repeat' constructor) (fun h hp => slR_rd hp) (by simp) (by omega) (by omega) (rn_stat hkm)) rfl (.oq (.allocA ze_37) ?_))))))))
 rintro v L' ⟨b7, rfl, rfl⟩
 refine .oq (.storeA rfl rfl ?c25 sz_37 ?c28 ?c26 (nfz0 _ _)) ?_
 case c25 => intro v hv; simp only [stC, List.mem_cons, List.not_mem_nil, or_false] at hv; rcases hv with rfl | rfl | rfl | rfl | rfl | rfl | rfl | rfl | rfl <;> rfl
 case c28 => rfl
 case c26 => simp [stC]
 rintro v L' rfl
 refine .nil (.ptCast (b := b7) (l' := stC nd.st) (by repeat' constructor) (by rw [hmn]; rfl) (.then_n (.sm rfl (.nf rfl fo_110_0 (.u (.ld rfl ag_107) (.m rfl (.q (.indexAddr rfl rfl el_107 (by omega)) rfl (.u (.fieldAddr rfl fo_112_1) (.q (.loadRd (sz := 12) (j := k * 12 + 1) (p := rnR _ m) rfl ag_9 (by repeat' constructor) (fun h hp => slR_rd hp) (by omega) ((rn_cell (l := m) (i := k) (k := 1) (by omega) (by decide)).trans rfl)) rfl (.q (.strlen rfl Tryz.underlying9 rfl) rfl (.u (.fieldAddr rfl fo_37_7) (.oq (.store rfl rfl rfl sz_3 ?c39 (nfz0 _ _)) ?_))))))))))))
 case c39 => simp [stC]
 rintro v L' rfl
 refine .nil (.ptCast (b := b7) (l' := stC { nd.st with len := nd.data.length }) (by repeat' constructor) (by rw [hmn]; rfl) (.rtFold (x := x) (τ := τ) (l := m) hm (by repeat' constructor) rfl rfl rfl rfl rfl (.then_n (.sm rfl (.m rfl (.oq (.c Tryz.func60 [_, _] (rkids_spec x τ p N ho (by omega))) ?_))))))
 rintro v L' ⟨⟨a7, c7, rfl⟩, rfl⟩
 refine .q (.slen rfl Tryz.underlying23 rfl) rfl (.u (.fieldAddr rfl fo_37_8) (.oq (.store rfl rfl rfl sz_3 ?c48 (nfz0 _ _)) ?_))
 case c48 => simp [stC]
 rintro v L' rfl
 refine .nil (.ptCast (b := b7) (l' := stC (statD τ p)) (by repeat' constructor) (by rw [hsd]; rfl) (.then_n (.sr (.q (.loadAs (vs := stC (statD τ p)) rfl ag_37 (by repeat' constructor) (by simp [stC]) rfl) rfl (.oq (.storeA rfl rfl ?c52 sz_37 ?c55 ?c53 (nfz0 _ _)) ?_)))))
 case c52 => intro v hv; simp only [stC, List.mem_cons, List.not_mem_nil, or_false] at hv; rcases hv with rfl | rfl | rfl | rfl | rfl | rfl | rfl | rfl | rfl <;> rfl
 case c55 => rfl
 case c53 => simp [stC]
 rintro v L' rfl
 refine .an rfl (.ret ?_)
 have hth : thereT τ p := there_some'.2 ⟨nd, hnd⟩
 refine .ptCast (b := b4) (l' := stC (statD τ p)) (by repeat' constructor) rfl ?_
 exact .d2 rfl (.cellA rfl ag_37 (by repeat' constructor) (by simp [stC]) rfl) (.tmp rfl) ⟨by rw [decide_eq_true hth]; rfl, rfl⟩
theorem rrowseq_spec (va vb : Value) (xs ys : List Ac) (p q : HP) (hp : ∀ h : Hp, p h → rdS 2 h va xs.length (xs.flatMap acC)) (hq : ∀ h : Hp, q h → rdS 2 h vb ys.length (ys.flatMap acC)) (hn : xs.length ≤ 1048576) : Fn Tryz.prog 58 #[va, vb] [p, q] fun v L => v = .bool (decide (xs = ys)) ∧ L = [p, q] := by
 refine Fn.intro Tryz.func58 rfl rfl fun F W => ?_
 refine .rdAny (p := p) hp (by repeat' constructor) fun aa ca e0 _ => ?_
 subst e0
 refine .rdAny (p := q) hq (by repeat' constructor) fun ab cb e0 _ => ?_
 subst e0
 refine .sr (.an rfl (.seq (.sm rfl (.q (.slen rfl Tryz.underlying24 rfl) rfl (.m rfl (.q (.slen rfl Tryz.underlying24 rfl) rfl (.ui rfl rfl rfl (.nt (.condN rfl (fun h10 => ?_) (fun h10 => ?_))))))))))
 ·refine .sr (.an rfl (.rt ?_))
  exact .dn rfl rfl ⟨by rw [decide_eq_false (fun e => h10 (by rw [e]))], rfl⟩
 have hlen : xs.length = ys.length := by omega
 refine .sk (.seq (.sr (.an rfl (.block (.loopK (ι := Nat) (fun q E => (5, vint q) :: E) (fun q => []) (fun q => q ≤ xs.length ∧ xs.take q = ys.take q) (fun q => xs.length - q) (0) (ts := [0, 1]) (.cons rfl (.cons rfl (.nil))) (⟨Nat.zero_le _, rfl⟩) ⟨rfl, rfl, rfl, trivial⟩ (by repeat' constructor) ?_)))))
 rintro i ⟨hi, hpre⟩
 refine .seq (.sm rfl (.m rfl (.q (.slen rfl Tryz.underlying24 rfl) rfl (.ui rfl rfl rfl (.nt (.condD rfl (fun h14 => ?_) (fun h14 => ?_)))))))
 ·have hi2 : i < xs.length := by omega
  have hi3 : i < ys.length := by omega
  refine .rdShape (p := p) hp (by repeat' constructor) (by omega) fun ba oa e0 => ?_
  subst e0
  refine .rdShape (p := q) hq (by repeat' constructor) (by omega) fun bb ob e0 => ?_
  subst e0
  refine .sk (.seq (.block (.seq (.draw [] [[0, 1, 2, 3, 4, 5, 6, 7, 8]] mixed (by kernel_rfl) (.g0 (.mv rfl rfl (.mv rfl rfl (.kv rfl (.indexAddr rfl rfl el_24 (by omega)) (.kv rfl (.loadRdA (sz := 2) (j := i * 2) (k := 2) (p := p) (vs := acC xs[i]) rfl ag_85 (by repeat' constructor) hp (by simp) (by omega) (by omega) (flatMap_at (f := acC) (sz := 2) (fun _ _ => rfl) (by omega))) (.mv rfl rfl (.mv rfl rfl (.kv rfl (.indexAddr rfl rfl el_24 (by omega)) (.kv rfl (.loadRdA (sz := 2) (j := i * 2) (k := 2) (p := q) (vs := acC ys[i]) rfl ag_85 (by repeat' constructor) hq (by simp) (by omega) (by omega) (flatMap_at (f := acC) (sz := 2) (fun _ _ => rfl) (by omega))) (.kv rfl (.structNe (r := decide (xs[i] = ys[i])) rfl rfl (by kernel_rfl) (ac_eq 9998 _ _)) ?_))))))))))))))
  refine D.pf (.condN rfl (fun h25 => ?_) (fun h25 => ?_))
  ·refine .sr (.an rfl (.ret (.blk_r (.then_r (.then_r (.blk_r (.then_r ?_)))))))
   exact .dn rfl rfl ⟨by rw [decide_eq_false (fun e => h25 (by simp only [e]))], rfl⟩
  refine .skip (.blk_n (.then_n (.region (.m rfl (.q (.add rfl rfl (by omega)) rfl (.an rfl ?_))))))
  exact .rk (i + 1) (⟨by omega, by rw [List.take_succ_eq_append_getElem hi2, List.take_succ_eq_append_getElem hi3, hpre, h25]⟩) (by omega) ⟨rfl, rfl, rfl, trivial⟩
 refine .exit (.then_e (.then_e (.blk_e (.then_n (.sr (.an rfl (.ret ?_)))))))
 exact .dn rfl rfl ⟨by rw [decide_eq_true (by have hii : i = xs.length := (by omega); rw [hii, List.take_length] at hpre; rw [hlen, List.take_length] at hpre; exact hpre)], rfl⟩
theorem strs_at {xs : List Bs} {i : Nat} (hi : i < xs.length) : (strs xs)[i * 1]? = some (vstr xs[i]) := by
 unfold strs; rw [Nat.mul_one, List.getElem?_map, List.getElem?_eq_getElem hi]; rfl
theorem ints_at {xs : List Int} {i : Nat} (hi : i < xs.length) : (ints xs)[i * 1]? = some (vint xs[i]) := by
 unfold ints; rw [Nat.mul_one, List.getElem?_map, List.getElem?_eq_getElem hi]; rfl
theorem texts7_spec (xs ys : List Bs) (va vb : Value) (h1 : xs.length ≤ 4611686018427387904) : Fn Tryz.prog 59 #[va, vb] [slR 9 1 va xs.length (strs xs), slR 9 1 vb ys.length (strs ys)] fun v L => v = .bool (decide (xs = ys)) ∧ L = [slR 9 1 va xs.length (strs xs), slR 9 1 vb ys.length (strs ys)] := by
 refine Fn.intro Tryz.func59 rfl rfl fun F W => ?_
 refine .slAny (v := va) (by repeat' constructor) fun aa ca e0 _ => ?_
 subst e0
 refine .slAny (v := vb) (by repeat' constructor) fun ab cb e0 _ => ?_
 subst e0
 refine .sr (.an rfl (.seq (.sm rfl (.q (.slen rfl Tryz.underlying23 rfl) rfl (.m rfl (.q (.slen rfl Tryz.underlying23 rfl) rfl (.ui rfl rfl rfl (.nt (.condN rfl (fun h10 => ?_) (fun h10 => ?_))))))))))
 ·refine .sr (.an rfl (.rt ?_))
  exact .dn rfl rfl ⟨by rw [decide_eq_false (fun e => h10 (by rw [e]))], rfl⟩
 have hlen : xs.length = ys.length := by omega
 refine .sk (.seq (.sr (.an rfl (.block (.loopK (ι := Nat) (fun q E => (5, vint q) :: E) (fun q => []) (fun q => q ≤ xs.length ∧ xs.take q = ys.take q) (fun q => xs.length - q) (0) (ts := [0, 1]) (.cons rfl (.cons rfl (.nil))) (⟨Nat.zero_le _, rfl⟩) ⟨rfl, rfl, rfl, trivial⟩ (by repeat' constructor) ?_)))))
 rintro i ⟨hi, hpre⟩
 refine .seq (.sm rfl (.m rfl (.q (.slen rfl Tryz.underlying23 rfl) rfl (.ui rfl rfl rfl (.nt (.condD rfl (fun h14 => ?_) (fun h14 => ?_)))))))
 ·have hi2 : i < xs.length := by omega
  have hi3 : i < ys.length := by omega
  refine .slShape (v := .slice aa _ ca) (by repeat' constructor) (by omega) fun ba ba' e0 mba _ => ?_
  simp only [Value.slice.injEq, true_and] at e0
  obtain ⟨rfl, rfl⟩ := e0
  refine .slShape (v := .slice ab _ cb) (by repeat' constructor) (by omega) fun bb bb' e0 mbb _ => ?_
  simp only [Value.slice.injEq, true_and] at e0
  obtain ⟨rfl, rfl⟩ := e0
  refine .sk (.seq (.block (.seq (.draw [] [[0, 1, 2, 3, 4, 5, 6, 7, 8]] mixed (by kernel_rfl) (.g0 (.mv rfl rfl (.mv rfl rfl (.kv rfl (.indexAddr rfl rfl el_23 (by omega)) (.kv rfl (.loadRd (sz := 1) (j := i * 1) (p := slR 9 1 _ xs.length (strs xs)) rfl ag_9 (by repeat' constructor) (fun h hp => slR_rd hp) (by omega) (strs_at (by omega))) (.mv rfl rfl (.mv rfl rfl (.kv rfl (.indexAddr rfl rfl el_23 (by omega)) (.kv rfl (.loadRd (sz := 1) (j := i * 1) (p := slR 9 1 _ ys.length (strs ys)) rfl ag_9 (by repeat' constructor) (fun h hp => slR_rd hp) (by omega) (strs_at (by omega))) (.kv rfl (.strne rfl rfl) (.pf (.condN rfl (fun h25 => ?_) (fun h25 => ?_)))))))))))))))))
  ·refine .sr (.an rfl (.ret (.blk_r (.then_r (.then_r (.blk_r (.then_r ?_)))))))
   exact .dn rfl rfl ⟨by rw [decide_eq_false (fun e => h25 (by simp only [e]))], rfl⟩
  refine .skip (.blk_n (.then_n (.region (.m rfl (.q (.add rfl rfl (by omega)) rfl (.an rfl ?_))))))
  exact .rk (i + 1) (⟨by omega, by rw [List.take_succ_eq_append_getElem hi2, List.take_succ_eq_append_getElem hi3, hpre, h25]⟩) (by omega) ⟨rfl, rfl, rfl, trivial⟩
 refine .exit (.then_e (.then_e (.blk_e (.then_n (.sr (.an rfl (.ret ?_)))))))
 exact .dn rfl rfl ⟨by rw [decide_eq_true (by have hii : i = xs.length := (by omega); rw [hii, List.take_length] at hpre; rw [hlen, List.take_length] at hpre; exact hpre)], rfl⟩
theorem numbers7_spec (xs ys : List Int) (va vb : Value) (h1 : xs.length ≤ 4611686018427387904) : Fn Tryz.prog 62 #[va, vb] [slR 3 1 va xs.length (ints xs), slR 3 1 vb ys.length (ints ys)] fun v L => v = .bool (decide (xs = ys)) ∧ L = [slR 3 1 va xs.length (ints xs), slR 3 1 vb ys.length (ints ys)] := by
 refine Fn.intro Tryz.func62 rfl rfl fun F W => ?_
 refine .slAny (v := va) (by repeat' constructor) fun aa ca e0 _ => ?_
 subst e0
 refine .slAny (v := vb) (by repeat' constructor) fun ab cb e0 _ => ?_
 subst e0
 refine .sr (.an rfl (.seq (.sm rfl (.q (.slen rfl Tryz.underlying34 rfl) rfl (.m rfl (.q (.slen rfl Tryz.underlying34 rfl) rfl (.ui rfl rfl rfl (.nt (.condN rfl (fun h10 => ?_) (fun h10 => ?_))))))))))
 ·refine .sr (.an rfl (.rt ?_))
  exact .dn rfl rfl ⟨by rw [decide_eq_false (fun e => h10 (by rw [e]))], rfl⟩
 have hlen : xs.length = ys.length := by omega
 refine .sk (.seq (.sr (.an rfl (.block (.loopK (ι := Nat) (fun q E => (5, vint q) :: E) (fun q => []) (fun q => q ≤ xs.length ∧ xs.take q = ys.take q) (fun q => xs.length - q) (0) (ts := [0, 1]) (.cons rfl (.cons rfl (.nil))) (⟨Nat.zero_le _, rfl⟩) ⟨rfl, rfl, rfl, trivial⟩ (by repeat' constructor) ?_)))))
 rintro i ⟨hi, hpre⟩
 refine .seq (.sm rfl (.m rfl (.q (.slen rfl Tryz.underlying34 rfl) rfl (.ui rfl rfl rfl (.nt (.condD rfl (fun h14 => ?_) (fun h14 => ?_)))))))
 ·have hi2 : i < xs.length := by omega
  have hi3 : i < ys.length := by omega
  refine .slShape (v := .slice aa _ ca) (by repeat' constructor) (by omega) fun ba ba' e0 mba _ => ?_
  simp only [Value.slice.injEq, true_and] at e0
  obtain ⟨rfl, rfl⟩ := e0
  refine .slShape (v := .slice ab _ cb) (by repeat' constructor) (by omega) fun bb bb' e0 mbb _ => ?_
  simp only [Value.slice.injEq, true_and] at e0
  obtain ⟨rfl, rfl⟩ := e0
  refine .sk (.seq (.block (.seq (.draw [] [[0, 1, 2, 3, 4, 5, 6, 7, 8]] mixed (by kernel_rfl) (.g0 (.mv rfl rfl (.mv rfl rfl (.kv rfl (.indexAddr rfl rfl el_34 (by omega)) (.kv rfl (.loadRd (sz := 1) (j := i * 1) (p := slR 3 1 _ xs.length (ints xs)) rfl ag_3 (by repeat' constructor) (fun h hp => slR_rd hp) (by omega) (ints_at (by omega))) (.mv rfl rfl (.mv rfl rfl (.kv rfl (.indexAddr rfl rfl el_34 (by omega)) (.kv rfl (.loadRd (sz := 1) (j := i * 1) (p := slR 3 1 _ ys.length (ints ys)) rfl ag_3 (by repeat' constructor) (fun h hp => slR_rd hp) (by omega) (ints_at (by omega))) (.kv rfl (.int rfl rfl rfl) (.pf (.condN rfl (fun h25 => ?_) (fun h25 => ?_)))))))))))))))))
  ·refine .sr (.an rfl (.ret (.blk_r (.then_r (.then_r (.blk_r (.then_r ?_)))))))
   exact .dn rfl rfl ⟨by rw [decide_eq_false (fun e => h25 (by simp only [e]))], rfl⟩
  refine .skip (.blk_n (.then_n (.region (.m rfl (.q (.add rfl rfl (by omega)) rfl (.an rfl ?_))))))
  exact .rk (i + 1) (⟨by omega, by rw [List.take_succ_eq_append_getElem hi2, List.take_succ_eq_append_getElem hi3, hpre, h25]⟩) (by omega) ⟨rfl, rfl, rfl, trivial⟩
 refine .exit (.then_e (.then_e (.blk_e (.then_n (.sr (.an rfl (.ret ?_)))))))
 exact .dn rfl rfl ⟨by rw [decide_eq_true (by have hii : i = xs.length := (by omega); rw [hii, List.take_length] at hpre; rw [hlen, List.take_length] at hpre; exact hpre)], rfl⟩
set_option maxHeartbeats 1000000 in
theorem alike7_spec (t x : Nat) (τ : Tr) (N : Nat) (ho : τ.Ok N) (hN : N ≤ 1073741824) (hb : ∀ y ∈ τ.sess, y.1 ≤ 9223372036854775807) : Fn Tryz.prog 20 #[vptr t, vptr x] [treeR t τ, refR x τ] fun r L => r = .bool true ∧ L = [treeR t τ, refR x τ] := by
 refine Fn.intro Tryz.func20 rfl rfl fun F W => ?_
 have hfew := ho.few
 have hsf := ho.sfew
 have hpz : (pathsZ τ).length = τ.nodes.length := List.length_map _
 have hiz : (idsZ τ).length = τ.sess.length := List.length_map _
 refine .sr (.an rfl (.sr (.an rfl (.seq (.seq (.add (slR_nil 9 1) (.region (.an rfl (.block (.loopK (ι := Nat × Value) (fun q E => (6, vint q.1) :: (5, q.2) :: E) (fun q => [treeR t τ, refR x τ, slR 9 1 q.2 ((pathsZ τ).take q.1).length (strs ((pathsZ τ).take q.1))]) (fun q => q.1 ≤ τ.nodes.length ∧ ∃ a c, q.2 = .slice a ((pathsZ τ).take q.1).length c) (fun q => τ.nodes.length - q.1) (0, .slice none 0 0) (ts := [0, 1]) (.cons rfl (.cons rfl (.nil))) (⟨Nat.zero_le _, none, 0, rfl⟩) ⟨rfl, rfl, rfl, rfl, trivial⟩ (by repeat' constructor) ?_))))))))))
 rintro ⟨i, u⟩ ⟨hi, au, cu, hu⟩
 dsimp only
 dsimp only at hi hu
 subst hu
 have hpl2 : ((pathsZ τ).take i).length = i := by rw [List.length_take]; omega
 refine .seq (.seq (.rtOpen (x := x) (τ := τ) (by repeat' constructor) fun an cn as1 cs l hl => ?_))
 have hll := nds_len hl
 refine .region (.m rfl (.m rfl (.nf rfl fo_110_0 (.u (.ld rfl ag_107) (.q (.slen rfl Tryz.underlying107 rfl) rfl (.ui rfl rfl rfl (.nil (.rtFold (x := x) (τ := τ) (l := l) hl (by repeat' constructor) rfl rfl rfl rfl rfl (.then_n (.condD rfl (fun h36 => ?_) (fun h36 => ?_)))))))))))
 ·have hi2 : i < τ.nodes.length := by omega
  obtain ⟨hst, hth⟩ : statD τ τ.nodes[i].1 = { τ.nodes[i].2.st with len := τ.nodes[i].2.data.length, kids := (kidsZ τ τ.nodes[i].1).length } ∧ thereT τ τ.nodes[i].1 := by have h1 : alook τ.nodes τ.nodes[i].1 = some τ.nodes[i].2 := al_of_mem (ho.sorted.nodup linB) (List.getElem_mem hi2); exact ⟨stat_some h1, there_some'.2 ⟨_, h1⟩⟩
  have hlk : alook τ.nodes τ.nodes[i].1 = some τ.nodes[i].2 := al_of_mem (ho.sorted.nodup linB) (List.getElem_mem hi2)
  have hda : dataD τ τ.nodes[i].1 = τ.nodes[i].2.data := by unfold dataD; rw [hlk]; rfl
  have hac : aclD τ τ.nodes[i].1 = τ.nodes[i].2.acl := by unfold aclD; rw [hlk]; rfl
  have hacl := ho.acls _ (List.getElem_mem hi2)
  have hkl := kidsZ_len τ τ.nodes[i].1
  have hpsn : (pathsZ τ).take (i + 1) = (pathsZ τ).take i ++ [τ.nodes[i].1] := by rw [List.take_succ_eq_append_getElem (by omega)]; simp [pathsZ]
  refine .sk (.seq (.block (.seq (.rtOpen (x := x) (τ := τ) (by repeat' constructor) fun an cn as1 cs l hl => ?_))))
  have hll := nds_len hl
  have hil : i < l.length := by omega
  have hgl := nds_get hl hil
  refine .slShape (T := 112) (sz := 12) (v := .slice an l.length cn) (xs := l.flatMap rnC) (by repeat' constructor) (by omega) fun bn bn' e0 mbn _ => ?_
  simp only [Value.slice.injEq, true_and] at e0
  obtain ⟨rfl, rfl⟩ := e0
  refine .region (.m rfl (.nf rfl fo_110_0 (.u (.ld rfl ag_107) (.m rfl (.q (.indexAddr rfl rfl el_107 (by omega)) rfl (.u (.fieldAddr rfl fo_112_0) (.q (.to (v' := vstr τ.nodes[i].1) (.loadRd (sz := 12) (j := i * 12 + 0) (p := rnR _ l) rfl ag_9 (by repeat' constructor) (fun h hp => slR_rd hp) (by omega) ((rn_cell (l := l) (i := i) (k := 0) (by omega) (by decide)).trans rfl)) (by rw [hgl])) rfl (.a rfl (.nil (.rtFold (x := x) (τ := τ) (l := l) hl (by repeat' constructor) rfl rfl rfl rfl rfl (.then_n (.sm rfl (.m rfl (.oq (.buildSlice1 (vs := [_]) el_23 ze_9 rfl rfl rfl rfl rfl (by decide)) ?_))))))))))))))
  rintro v L' ⟨b6_2, rfl, rfl⟩
  refine .oq (.append1 rfl rfl rfl el_23 ze_9 rfl rfl ?c22 ?c23 (Nat.le_refl _) ?c24 (by decide)) ?_
  case c22 => (first | (simp [isCell]; done) | (simp [isCell, setAll, Value.cells]; done))
  case c23 => rfl
  case c24 => first | omega | (simp; omega)
  rintro v L' ⟨⟨a6_3, c6_3, rfl⟩, rfl⟩
  refine .a rfl (.nil ?_)
  rw [show strs ((pathsZ τ).take i) ++ [vstr τ.nodes[i].1] = strs ((pathsZ τ).take (i + 1)) by rw [hpsn]; simp [strs], show ((pathsZ τ).take i).length + 1 = ((pathsZ τ).take (i + 1)).length by rw [hpsn, List.length_append]; rfl]
  refine .then_n (.sm rfl (.m rfl (.oq (.c Tryz.func54 [_, _] (trget_spec t τ τ.nodes[i].1 N ho (by omega))) ?_)))
  rintro v L' ⟨rfl, rfl⟩; rw [if_pos hth]
  refine .m rfl (.u (.extract rfl rfl) (.u (.extract rfl rfl) (.u (.extract rfl rfl) (.oq (.allocA ze_37) ?_))))
  rintro v L' ⟨b9, rfl, rfl⟩
  refine .a rfl (.oq (.storeA rfl rfl ?c35 sz_37 ?c38 ?c36 (nfz0 _ _)) ?_)
  case c35 => intro v hv; simp only [stC, List.mem_cons, List.not_mem_nil, or_false] at hv; rcases hv with rfl | rfl | rfl | rfl | rfl | rfl | rfl | rfl | rfl <;> rfl
  case c38 => rfl
  case c36 => simp [stC]
  rintro v L' rfl
  refine .a rfl (.nil (.ptCast (b := b9) (l' := stC (statD τ τ.nodes[i].1)) (by repeat' constructor) rfl (.then_n (.sm rfl (.m rfl (.oq (.c Tryz.func55 [_, _] (rstat_spec x τ τ.nodes[i].1 N ho hN)) ?_))))))
  rintro v L' ⟨rfl, rfl⟩; rw [decide_eq_true hth]
  refine .m rfl (.u (.extract rfl rfl) (.u (.extract rfl rfl) (.oq (.allocA ze_37) ?_)))
  rintro v L' ⟨b11, rfl, rfl⟩
  refine .oq (.storeA rfl rfl ?c47 sz_37 ?c50 ?c48 (nfz0 _ _)) ?_
  case c47 => intro v hv; simp only [stC, List.mem_cons, List.not_mem_nil, or_false] at hv; rcases hv with rfl | rfl | rfl | rfl | rfl | rfl | rfl | rfl | rfl <;> rfl
  case c50 => rfl
  case c48 => simp [stC]
  rintro v L' rfl
  refine .a rfl (.nil (.ptCast (b := b11) (l' := stC (statD τ τ.nodes[i].1)) (by repeat' constructor) rfl (.then_n (.sm rfl (.m rfl (.oq (.c Tryz.func13 [_, _] (trstat_spec t τ τ.nodes[i].1 N ho (by omega))) ?_))))))
  rintro v L' ⟨rfl, rfl⟩; rw [decide_eq_true hth]
  refine .m rfl (.u (.extract rfl rfl) (.u (.extract rfl rfl) (.oq (.allocA ze_37) ?_)))
  rintro v L' ⟨b13, rfl, rfl⟩
  refine .oq (.storeA rfl rfl ?c59 sz_37 ?c62 ?c60 (nfz0 _ _)) ?_
  case c59 => intro v hv; simp only [stC, List.mem_cons, List.not_mem_nil, or_false] at hv; rcases hv with rfl | rfl | rfl | rfl | rfl | rfl | rfl | rfl | rfl <;> rfl
  case c62 => rfl
  case c60 => simp [stC]
  rintro v L' rfl
  refine .a rfl (.nil (.ptCast (b := b13) (l' := stC (statD τ τ.nodes[i].1)) (by repeat' constructor) rfl (.then_n (.sm rfl (.m rfl (.oq (.c Tryz.func56 [_, _] (tracl_spec t τ τ.nodes[i].1 N ho)) ?_))))))
  rintro v L' ⟨ua, rfl, ⟨aa, ca, rfl⟩, rfl⟩; rw [if_pos hth]
  refine .m rfl (.u (.extract rfl rfl) (.u (.extract rfl rfl) (.a rfl (.an rfl (.sm rfl (.m rfl (.oq (.c Tryz.func57 [_, _] (trkids_spec t τ τ.nodes[i].1 N ho (by omega))) ?_)))))))
  rintro v L' ⟨uk, lk, rfl, -, hlk, ⟨ak, ck, rfl⟩, rfl⟩; rw [if_pos hth] at hlk; subst hlk; rw [if_pos hth]
  refine .m rfl (.u (.extract rfl rfl) (.u (.extract rfl rfl) (.a rfl (.an rfl (.seq (.rtOpen (x := x) (τ := τ) (by repeat' constructor) fun an cn as1 cs l hl => ?_))))))
  have hll := nds_len hl
  have hil : i < l.length := by omega
  have hgl := nds_get hl hil
  refine .slShape (T := 112) (sz := 12) (v := .slice an l.length cn) (xs := l.flatMap rnC) (by repeat' constructor) (by omega) fun bn bn' e0 mbn _ => ?_
  simp only [Value.slice.injEq, true_and] at e0
  obtain ⟨rfl, rfl⟩ := e0
  refine .region (.m rfl (.m rfl (.nf rfl fo_110_0 (.u (.ld rfl ag_107) (.m rfl (.q (.indexAddr rfl rfl el_107 (by omega)) rfl (.u (.fieldAddr rfl fo_112_2) (.q (.loadRd (sz := 12) (j := i * 12 + 2) (p := rnR _ l) rfl ag_24 (by repeat' constructor) (fun h hp => slR_rd hp) (by omega) ((rn_cell (l := l) (i := i) (k := 2) (by omega) (by decide)).trans rfl)) rfl (.oq (.call Tryz.func58 rfl rfl (vs := [_, _]) rfl (rrowseq_spec _ l[i].2.1 (aclD τ τ.nodes[i].1) l[i].2.2.acl _ (bigR inA l) (fun h hp => slR_rd (T := 85) hp) (big_rd hil) (by rw [hac]; exact hacl))) ?_)))))))))
  rintro v L' ⟨rfl, rfl⟩; rw [decide_eq_true (by rw [hac, hgl])]
  refine .a rfl (.nil (.rtFold (x := x) (τ := τ) (l := l) hl (by repeat' constructor) rfl rfl rfl rfl rfl (.then_n (.sm rfl (.m rfl (.m rfl (.oq (.c Tryz.func60 [_, _] (rkids_spec x τ τ.nodes[i].1 N ho hN)) ?_)))))))
  rintro v L' ⟨⟨a13, c13, rfl⟩, rfl⟩
  refine .oq (.call Tryz.func59 rfl rfl (vs := [_, _]) rfl (texts7_spec (kidsZ τ τ.nodes[i].1) (kidsZ τ τ.nodes[i].1) _ _ (by omega))) ?_
  rintro v L' ⟨rfl, rfl⟩; rw [decide_eq_true rfl]
  refine .an rfl (.seq (.seq (.rtOpen (x := x) (τ := τ) (by repeat' constructor) fun an cn as1 cs l hl => ?_)))
  have hll := nds_len hl
  have hil : i < l.length := by omega
  have hgl := nds_get hl hil
  refine .slShape (T := 112) (sz := 12) (v := .slice an l.length cn) (xs := l.flatMap rnC) (by repeat' constructor) (by omega) fun bn bn' e0 mbn _ => ?_
  simp only [Value.slice.injEq, true_and] at e0
  obtain ⟨rfl, rfl⟩ := e0
  have hdl : dataD τ τ.nodes[i].1 = l[i].2.2.data := hda.trans (by rw [hgl])
  refine .region (.m rfl (.m rfl (.nf rfl fo_110_0 (.u (.ld rfl ag_107) (.m rfl (.q (.indexAddr rfl rfl el_107 (by omega)) rfl (.u (.fieldAddr rfl fo_112_1) (.q (.loadRd (sz := 12) (j := i * 12 + 1) (p := rnR _ l) rfl ag_9 (by repeat' constructor) (fun h hp => slR_rd hp) (by omega) ((rn_cell (l := l) (i := i) (k := 1) (by omega) (by decide)).trans rfl)) rfl (.q (.as (v' := .bool false) (by simp [hdl]) (.strne rfl rfl)) rfl (.m rfl (.grun (t := 107) rfl rfl rfl (.q (.loadAs (vs := stC (statD τ τ.nodes[i].1)) rfl ag_37 (by repeat' constructor) (by simp [stC]) rfl) rfl (.grun (t := 107) rfl rfl rfl (.q (.loadAs (vs := stC (statD τ τ.nodes[i].1)) rfl ag_37 (by repeat' constructor) (by simp [stC]) rfl) rfl (.grun (t := 107) rfl rfl rfl (.q (.as (v' := .bool false) (by simp) (.structNe (r := decide (statD τ τ.nodes[i].1 = statD τ τ.nodes[i].1)) rfl rfl (by kernel_rfl) (st_eq 9998 _ _))) rfl ?_))))))))))))))))
  refine .u (.pickF rfl rfl) (.m rfl (.grun (t := 112) rfl rfl rfl (.q (.loadAs (vs := stC (statD τ τ.nodes[i].1)) rfl ag_37 (by repeat' constructor) (by simp [stC]) rfl) rfl (.grun (t := 112) rfl rfl rfl (.q (.loadAs (vs := stC (statD τ τ.nodes[i].1)) rfl ag_37 (by repeat' constructor) (by simp [stC]) rfl) rfl (.grun (t := 112) rfl rfl rfl (.q (.as (v' := .bool false) (by simp) (.structNe (r := decide (statD τ τ.nodes[i].1 = statD τ τ.nodes[i].1)) rfl rfl (by kernel_rfl) (st_eq 9998 _ _))) rfl (.u (.pickF rfl rfl) (.m rfl (.grun (t := 117) rfl rfl rfl (.m rfl (.grun (t := 117) rfl rfl rfl (.u (.not rfl) (.u (.pickF rfl rfl) (.m rfl (.grun (t := 121) rfl rfl rfl (.m rfl (.grun (t := 121) rfl rfl rfl (.u (.not rfl) (.u (.pickF rfl rfl) (.m rfl (.grun (t := 125) rfl rfl rfl (.m rfl (.grun (t := 125) rfl rfl rfl (.u (.not rfl) (.u (.pickF rfl rfl) (.m rfl (.grun (t := 129) rfl rfl rfl (.m rfl (.grun (t := 129) rfl rfl rfl ?_))))))))))))))))))))))))))))))
  refine .q (.as (v' := .bool false) (by rfl) (.int rfl rfl rfl)) rfl (.u (.pickF rfl rfl) (.m rfl (.grun (t := 133) rfl rfl rfl (.m rfl (.grun (t := 133) rfl rfl rfl (.q (.as (v' := .bool false) (by rfl) (.int rfl rfl rfl)) rfl (.u (.pickF rfl rfl) (.m rfl (.grun (t := 137) rfl rfl rfl (.m rfl (.grun (t := 137) rfl rfl rfl (.q (.as (v' := .bool false) (by rfl) (.int rfl rfl rfl)) rfl (.u (.pickF rfl rfl) (.nil (.rtFold (x := x) (τ := τ) (l := l) hl (by repeat' constructor) rfl rfl rfl rfl rfl (.then_n (.condF rfl (.sk (.seq (.rtOpen (x := x) (τ := τ) (by repeat' constructor) fun an cn as1 cs l hl => ?_))))))))))))))))))))
  have hll := nds_len hl
  have hil : i < l.length := by omega
  have hgl := nds_get hl hil
  refine .slShape (T := 112) (sz := 12) (v := .slice an l.length cn) (xs := l.flatMap rnC) (by repeat' constructor) (by omega) fun bn bn' e0 mbn _ => ?_
  simp only [Value.slice.injEq, true_and] at e0
  obtain ⟨rfl, rfl⟩ := e0
  refine .region (.m rfl (.nf rfl fo_110_0 (.u (.ld rfl ag_107) (.m rfl (.q (.indexAddr rfl rfl el_107 (by omega)) rfl (.u (.fieldAddr rfl fo_112_3) (.u (.fieldAddr rfl fo_37_6) (.q (.loadRd (sz := 12) (j := i * 12 + 9) (p := rnR _ l) rfl ag_3 (by repeat' constructor) (fun h hp => slR_rd hp) (by omega) ((rn_cell (l := l) (i := i) (k := 9) (by omega) (by decide)).trans rfl)) rfl (.a rfl (.nil (.rtFold (x := x) (τ := τ) (l := l) hl (by repeat' constructor) rfl rfl rfl rfl rfl ?_)))))))))))
  have how : ∀ s, (ownedZ τ s).length ≤ τ.nodes.length := owned_len τ
  generalize l[i].2.2.st.own = ow
  refine .then_n (.sm rfl (.m rfl (.oq (.c Tryz.func37 [_, _] (trowned_spec t τ ow N ho (by omega))) ?_)))
  rintro v L' ⟨⟨ao, co, rfl⟩, rfl⟩
  refine .m rfl (.m rfl (.oq (.c Tryz.func61 [_, _] (rowned_spec x τ ow N ho hN)) ?_))
  rintro v L' ⟨⟨ap, cp, rfl⟩, rfl⟩
  refine .oq (.call Tryz.func59 rfl rfl (vs := [_, _]) rfl (texts7_spec (ownedZ τ ow) (ownedZ τ ow) _ _ (by have := how ow; omega))) ?_
  rintro v L' ⟨rfl, rfl⟩; rw [decide_eq_true rfl]
  refine .an rfl (.sm rfl (.u (.not rfl) (.nt (.condF rfl (.skip (.blk_n (.then_n (.region (.m rfl (.q (.add rfl rfl (by omega)) rfl (.an rfl ?_)))))))))))
  exact .rk ((i + 1, .slice a6_3 ((pathsZ τ).take (i + 1)).length c6_3)) (⟨by dsimp only; omega, _, _, rfl⟩) (by dsimp only; omega) ⟨rfl, rfl, rfl, rfl, trivial⟩
 have hii : i = τ.nodes.length := by omega
 have hpt : (pathsZ τ).take i = pathsZ τ := List.take_of_length_le (by omega)
 rw [hpt]
 refine .exit (.then_e (.then_e (.blk_e (.then_n (.sr (.an rfl (.seq (.seq (.add (slR_nil 3 1) (.region (.an rfl (.block (.loopK (ι := Nat × Value) (fun q E => (24, vint q.1) :: (23, q.2) :: E) (fun q => [treeR t τ, refR x τ, slR 3 1 q.2 ((idsZ τ).take q.1).length (ints ((idsZ τ).take q.1))]) (fun q => q.1 ≤ τ.sess.length ∧ ∃ a c, q.2 = .slice a ((idsZ τ).take q.1).length c) (fun q => τ.sess.length - q.1) (0, .slice none 0 0) (ts := [0, 1, 5]) (.cons rfl (.cons rfl (.cons rfl (.nil)))) (⟨Nat.zero_le _, none, 0, rfl⟩) ⟨rfl, rfl, rfl, rfl, rfl, trivial⟩ (by repeat' constructor) ?_)))))))))))))
 rintro ⟨j, w⟩ ⟨hj, aw, cw, hw⟩
 dsimp only
 dsimp only at hj hw
 subst hw
 have hjl : ((idsZ τ).take j).length = j := by rw [List.length_take]; omega
 refine .seq (.seq (.rtOpen (x := x) (τ := τ) (by repeat' constructor) fun an cn as1 cs l hl => ?_))
 have hll := nds_len hl
 refine .region (.m rfl (.m rfl (.nf rfl fo_110_1 (.u (.ld rfl ag_108) (.q (.slen rfl Tryz.underlying108 rfl) rfl (.ui rfl rfl rfl (.nil (.rtFold (x := x) (τ := τ) (l := l) hl (by repeat' constructor) rfl rfl rfl rfl rfl (.then_n (.condD rfl (fun h165 => ?_) (fun h165 => ?_)))))))))))
 ·have hj2 : j < τ.sess.length := by omega
  have hsl : alook τ.sess τ.sess[j].1 = some τ.sess[j].2 := al_of_mem (ho.ssorted.nodup linI) (List.getElem_mem hj2)
  have hsd : sesD τ τ.sess[j].1 = τ.sess[j].2 ∧ sesT τ τ.sess[j].1 := by unfold sesD sesT; rw [hsl]; exact ⟨rfl, rfl⟩
  have hisn : (idsZ τ).take (j + 1) = (idsZ τ).take j ++ [τ.sess[j].1] := by rw [List.take_succ_eq_append_getElem (by omega)]; simp [idsZ]
  refine .sk (.seq (.block (.seq (.rtOpen (x := x) (τ := τ) (by repeat' constructor) fun an cn as1 cs l hl => (.slShape (T := 122) (sz := 3) (v := .slice as1 τ.sess.length cs) (xs := τ.sess.flatMap rsC) (by repeat' constructor) (by omega) fun bs bs' e0 mbs _ => ?_)))))
  simp only [Value.slice.injEq, true_and] at e0
  obtain ⟨rfl, rfl⟩ := e0
  refine .region (.m rfl (.m rfl (.nf rfl fo_110_1 (.u (.ld rfl ag_108) (.m rfl (.q (.indexAddr rfl rfl el_108 (by omega)) rfl (.u (.fieldAddr rfl fo_122_0) (.q (.loadRd (sz := 3) (j := j * 3 + 0) (p := rsR _ τ.sess) rfl ag_3 (by repeat' constructor) (fun h hp => slR_rd hp) (by omega) ((rs_cell (l := τ.sess) (i := j) (k := 0) (by omega) (by decide)).trans rfl)) rfl (.oq (.buildSlice1 (vs := [_]) el_34 ze_3 rfl rfl rfl rfl rfl (by decide)) ?_)))))))))
  rintro v L' ⟨b24, rfl, rfl⟩
  refine .oq (.append1 rfl rfl rfl el_34 ze_3 rfl rfl ?c150 ?c151 (Nat.le_refl _) ?c152 (by decide)) ?_
  case c150 => (first | (simp [isCell]; done) | (simp [isCell, setAll, Value.cells]; done))
  case c151 => rfl
  case c152 => first | omega | (simp; omega)
  rintro v L' ⟨⟨a24_23, c24_23, rfl⟩, rfl⟩
  refine .a rfl (.nil ?_)
  rw [show ints ((idsZ τ).take j) ++ [vint τ.sess[j].1] = ints ((idsZ τ).take (j + 1)) by rw [hisn]; simp [ints], show ((idsZ τ).take j).length + 1 = ((idsZ τ).take (j + 1)).length by rw [hisn, List.length_append]; rfl]
  refine .rtFold (x := x) (τ := τ) (l := l) hl (by repeat' constructor) rfl rfl rfl rfl rfl (.then_n (.seq (.rtOpen (x := x) (τ := τ) (by repeat' constructor) fun an cn as1 cs l hl => (.slShape (T := 122) (sz := 3) (v := .slice as1 τ.sess.length cs) (xs := τ.sess.flatMap rsC) (by repeat' constructor) (by omega) fun bs bs' e0 mbs _ => ?_))))
  simp only [Value.slice.injEq, true_and] at e0
  obtain ⟨rfl, rfl⟩ := e0
  refine .region (.m rfl (.m rfl (.nf rfl fo_110_1 (.u (.ld rfl ag_108) (.m rfl (.q (.indexAddr rfl rfl el_108 (by omega)) rfl (.u (.fieldAddr rfl fo_122_0) (.q (.loadRd (sz := 3) (j := j * 3 + 0) (p := rsR _ τ.sess) rfl ag_3 (by repeat' constructor) (fun h hp => slR_rd hp) (by omega) ((rs_cell (l := τ.sess) (i := j) (k := 0) (by omega) (by decide)).trans rfl)) rfl (.rtFold (x := x) (τ := τ) (l := l) hl (by repeat' constructor) rfl rfl rfl rfl rfl (.oq (.c Tryz.func44 [_, _] (trsession_spec t τ τ.sess[j].1)) ?_))))))))))
  rintro v L' ⟨rfl, rfl⟩; rw [hsd.1, decide_eq_true hsd.2]
  refine .m rfl (.u (.extract rfl rfl) (.u (.extract rfl rfl) (.u (.extract rfl rfl) (.a rfl (.a rfl (.an rfl (.seq (.rtOpen (x := x) (τ := τ) (by repeat' constructor) fun an cn as1 cs l hl => (.slShape (T := 122) (sz := 3) (v := .slice as1 τ.sess.length cs) (xs := τ.sess.flatMap rsC) (by repeat' constructor) (by omega) fun bs bs' e0 mbs _ => ?_)))))))))
  simp only [Value.slice.injEq, true_and] at e0
  obtain ⟨rfl, rfl⟩ := e0
  refine .region (.m rfl (.m rfl (.nf rfl fo_110_1 (.u (.ld rfl ag_108) (.m rfl (.q (.indexAddr rfl rfl el_108 (by omega)) rfl (.u (.fieldAddr rfl fo_122_1) (.q (.loadRd (sz := 3) (j := j * 3 + 1) (p := rsR _ τ.sess) rfl ag_3 (by repeat' constructor) (fun h hp => slR_rd hp) (by omega) ((rs_cell (l := τ.sess) (i := j) (k := 1) (by omega) (by decide)).trans rfl)) rfl (.q (.as (v' := .bool false) (by simp) (.int rfl rfl rfl)) rfl (.m rfl (.grun (t := 203) rfl rfl rfl (.m rfl (.grun (t := 203) rfl rfl rfl (.m rfl (.grun (t := 203) rfl rfl rfl (.u (.nilp rfl) (.grun (t := 203) rfl rfl rfl (.u (.fieldAddr rfl fo_110_1) (.grun (t := 203) rfl rfl rfl (.u (.ld rfl ag_108) (.grun (t := 203) rfl rfl rfl (.m rfl (.grun (t := 203) rfl rfl rfl (.q (.indexAddr rfl rfl el_108 (by omega)) rfl (.grun (t := 203) rfl rfl rfl (.u (.fieldAddr rfl fo_122_2) (.grun (t := 203) rfl rfl rfl ?_)))))))))))))))))))))))))))
  refine .q (.loadRd (sz := 3) (j := j * 3 + 2) (p := rsR _ τ.sess) rfl ag_9 (by repeat' constructor) (fun h hp => slR_rd hp) (by omega) ((rs_cell (l := τ.sess) (i := j) (k := 2) (by omega) (by decide)).trans rfl)) rfl (.grun (t := 203) rfl rfl rfl (.q (.as (v' := .bool false) (by simp) (.strne rfl rfl)) rfl (.u (.pickF rfl rfl) (.m rfl (.grun (t := 215) rfl rfl rfl (.m rfl (.grun (t := 215) rfl rfl rfl (.u (.not rfl) (.u (.pickF rfl rfl) (.nil (.rtFold (x := x) (τ := τ) (l := l) hl (by repeat' constructor) rfl rfl rfl rfl rfl (.then_n (.condF rfl (.skip (.blk_n (.then_n (.region (.m rfl (.q (.add rfl rfl (by omega)) rfl (.an rfl ?_))))))))))))))))))))
  exact .rk ((j + 1, .slice a24_23 ((idsZ τ).take (j + 1)).length c24_23)) (⟨by dsimp only; omega, _, _, rfl⟩) (by dsimp only; omega) ⟨rfl, rfl, rfl, rfl, rfl, trivial⟩
 have hjj : j = τ.sess.length := by omega
 have hjt : (idsZ τ).take j = idsZ τ := List.take_of_length_le (by omega)
 rw [hjt]
 refine .exit (.then_e (.then_e (.blk_e (.then_n (.sm rfl (.oq (.c Tryz.func38 [_] (trpaths_spec t τ N ho (by omega))) ?_))))))
 rintro v L' ⟨⟨a28, c28, rfl⟩, rfl⟩
 refine .m rfl (.oq (.call Tryz.func59 rfl rfl (vs := [_, _]) rfl (texts7_spec (pathsZ τ) (pathsZ τ) _ _ (by omega))) ?_)
 rintro v L' ⟨rfl, rfl⟩; rw [decide_eq_true rfl]
 refine .an rfl (.sm rfl (.oq (.c Tryz.func63 [_] (trsessions_spec t τ N ho hb (by omega))) ?_))
 rintro v L' ⟨⟨a29, c29, rfl⟩, rfl⟩
 refine .m rfl (.oq (.call Tryz.func62 rfl rfl (vs := [_, _]) rfl (numbers7_spec (idsZ τ) (idsZ τ) _ _ (by omega))) ?_)
 rintro v L' ⟨rfl, rfl⟩; rw [decide_eq_true rfl]
 refine .an rfl (.seq (.rtOpen (x := x) (τ := τ) (by repeat' constructor) fun an cn as1 cs l hl => (.draw [] [[0, 1, 2, 3, 4, 5, 6, 7, 8, 9, 10, 11, 12, 13]] mixed (by kernel_rfl) (.go [treeR t τ, ptc x _ _] (by repeat' constructor) (.mv rfl rfl (.mv rfl rfl (.gv rfl (.move rfl) (.kv rfl (.pickT rfl rfl) (.mv rfl rfl (.gv rfl (.move rfl) (.gm (t := 231) rfl rfl rfl (by kernel_rfl) (.c Tryz.func64 [_] (trzxid_spec t τ)) (by repeat' constructor) ?_)))))))))))
 refine D.gv rfl (.move rfl) (.gv rfl (.nilp rfl) (.gv rfl (.fieldAddr rfl fo_110_2) (.gv rfl (.ld rfl ag_3) (.gv rfl (.as (v' := .bool true) (by simp) (.int rfl rfl rfl)) (.kv rfl (.pickT rfl rfl) (.kv rfl (.assign rfl) (.ph (.fin (.rtFold (x := x) (τ := τ) (l := l) hl (by repeat' constructor) rfl rfl rfl rfl rfl (.then_n (.ret ?_)))))))))))
 exact .vv
/- not in this seat -/
def nilP : HP := fun _ => True
theorem nilP_ok (h : Hp) : nilP h := trivial
theorem preplies12_spec (x y : Rp) (acl acl2 : List Ac) (kids kids2 : List Bs) (subs subs2 : List Rp) (p q : HP) (hx : RpL p x acl kids subs) (hy : RpL q y acl2 kids2 subs2) : Fn Tryz.prog 24 #[.agg (rpC x).toArray, .agg (rpC y).toArray] [p, q] fun v L => v = .bool (decide (repB x acl kids subs = repB y acl2 kids2 subs2)) ∧ L = [p, q] := by
 refine Fn.intro Tryz.func24 rfl rfl fun F W => ?_
 refine .sr (.oq (.box rfl) ?_)
 rintro v L' ⟨b2, rfl, rfl⟩
 refine .oq (.box rfl) ?_
 rintro v L' ⟨b3, rfl, rfl⟩
 refine .a rfl (.nil (.ptCast (b := b2) (l' := rpC x) (by repeat' constructor) (by exact rfl) (.ptCast (b := b3) (l' := rpC y) (by repeat' constructor) (by exact rfl) (.then_n (.seq (.draw [] [[0, 1, 2, 3, 4, 5]] mixed (by kernel_rfl) (.go [ptc b2 _ _, ptc b3 _ _, p, q] (by repeat' constructor) (.kv rfl (.to (v' := .agg (rpC (x)).toArray) (.loadA rfl ag_57 (by repeat' constructor) (by simp)) (by rfl)) (.m rfl (by kernel_rfl) (.c Tryz.func67 [_] (r2reply_spec x acl kids subs p hx)) (by repeat' constructor) ?_)))))))))
 refine D.kv rfl (.to (v' := .agg (rpC (y)).toArray) (.loadA rfl ag_57 (by repeat' constructor) (by simp)) (by rfl)) (.m rfl (by kernel_rfl) (.c Tryz.func67 [_] (r2reply_spec y acl2 kids2 subs2 q hy)) (by repeat' constructor) ?_)
 refine D.kv rfl (.streq rfl rfl) (.kv rfl (.assign rfl) (.pf (.ret ?_)))
 exact .vv
def readK (k : Int) : Prop := k = 9 ∨ k = 10 ∨ k = 11 ∨ k = 12
instance (k : Int) : Decidable (readK k) := inferInstanceAs (Decidable (_ ∨ _))
def readE (τ : Tr) (ids : List Bs) (r : Rq) : List Int := [whenZ (¬ readK r.kind) 110, checkZ r.path, whenZ (¬ thereT τ r.path) 60, whenZ (r.kind ≠ 10 ∧ ¬ mayT τ ids r.path 1) 65]
def readX (τ : Tr) (ids : List Bs) (r : Rq) : Int := firstZ (readE τ ids r)
def readAl (τ : Tr) (ids : List Bs) (r : Rq) : List Ac := if readX τ ids r = 0 ∧ r.kind = 12 then aclD τ r.path else []
def readKl (τ : Tr) (ids : List Bs) (r : Rq) : List Bs := if readX τ ids r = 0 ∧ r.kind = 11 then kidsZ τ r.path else []
def readR (τ : Tr) (ids : List Bs) (r : Rq) (av kv : Value) : Rp :=
 ⟨r.xid, τ.zx, readX τ ids r, [], if readX τ ids r = 0 ∧ r.kind = 9 then dataD τ r.path else [], if readX τ ids r = 0 then statD τ r.path else st0, av, kv, nilV⟩
theorem read_there {τ : Tr} {ids : List Bs} {r : Rq} (h : readX τ ids r = 0) : readK r.kind ∧ thereT τ r.path := by
 have h0 := first_zero _ h
 have h1 := h0 (whenZ (¬ readK r.kind) 110) (by unfold readE; simp)
 have h2 := h0 (whenZ (¬ thereT τ r.path) 60) (by unfold readE; simp)
 constructor
 ·unfold whenZ at h1
  split at h1
  ·cases h1
  ·rename_i g; exact Decidable.not_not.1 g
 ·unfold whenZ at h2
  split at h2
  ·cases h2
  ·rename_i g; exact Decidable.not_not.1 g
theorem readAl_no {τ : Tr} {ids : List Bs} {r : Rq} (h : ¬ (readX τ ids r = 0 ∧ r.kind = 12)) : readAl τ ids r = [] := if_neg h
theorem readKl_no {τ : Tr} {ids : List Bs} {r : Rq} (h : ¬ (readX τ ids r = 0 ∧ r.kind = 11)) : readKl τ ids r = [] := if_neg h
theorem readAl_yes {τ : Tr} {ids : List Bs} {r : Rq} (h : readX τ ids r = 0) (hk : r.kind = 12) : readAl τ ids r = aclD τ r.path := if_pos ⟨h, hk⟩
theorem readKl_yes {τ : Tr} {ids : List Bs} {r : Rq} (h : readX τ ids r = 0) (hk : r.kind = 11) : readKl τ ids r = kidsZ τ r.path := if_pos ⟨h, hk⟩
theorem readR_bad {τ : Tr} {ids : List Bs} {r : Rq} {av kv : Value} (h : readX τ ids r ≠ 0) : readR τ ids r av kv = ⟨r.xid, τ.zx, readX τ ids r, [], [], st0, av, kv, nilV⟩ := by
 unfold readR
 rw [if_neg (fun g => h g.1), if_neg h]
theorem readR_get {τ : Tr} {ids : List Bs} {r : Rq} {av kv : Value} (h : readX τ ids r = 0) (hk : r.kind = 9) : readR τ ids r av kv = ⟨r.xid, τ.zx, 0, [], dataD τ r.path, statD τ r.path, av, kv, nilV⟩ := by
 unfold readR
 rw [if_pos ⟨h, hk⟩, if_pos h, h]
theorem readR_other {τ : Tr} {ids : List Bs} {r : Rq} {av kv : Value} (h : readX τ ids r = 0) (hk : ¬ r.kind = 9) : readR τ ids r av kv = ⟨r.xid, τ.zx, 0, [], [], statD τ r.path, av, kv, nilV⟩ := by
 unfold readR
 rw [if_neg (fun g => hk g.2), if_pos h, h]
theorem wrap_bv (x : BitVec 64) : BitVec.ofInt 64 (wrapI x.toNat) = x := by
 apply BitVec.eq_of_toNat_eq
 rw [BitVec.toNat_ofInt]
 have h := x.isLt
 show (IntKind.i64.wrap x.toNat % _).toNat = _
 simp only [IntKind.wrap, IntKind.signed, IntKind.bits, Bool.true_and]
 split <;> simp_all <;> omega
def subV (x y : BitVec 64) : Prop := ∀ i, i < 64 → x.getLsbD i = true → y.getLsbD i = true
theorem subV_iff (x y : BitVec 64) : x &&& ~~~ y = 0#64 ↔ subV x y := by
 constructor
 ·intro h i hi hx
  have := congrArg (fun z => z.getLsbD i) h
  simp [hi, hx] at this
  exact this
 ·intro h
  apply BitVec.eq_of_getLsbD_eq
  intro i hi
  have := h i hi
  simp [hi]
  exact this
theorem less_zero (a b : Int) : lessI a b = 0 ↔ subV (BitVec.ofInt 64 a) (BitVec.ofInt 64 b) := by
 rw [← subV_iff]
 unfold lessI
 constructor
 ·intro h
  have h2 := wrap_bv (BitVec.ofInt 64 a &&& ~~~ BitVec.ofInt 64 b)
  rw [show wrapI ((BitVec.ofInt 64 a &&& ~~~ BitVec.ofInt 64 b).toNat : Int) = 0 from h] at h2
  rw [← h2]; rfl
 ·intro h
  rw [h]; rfl
theorem or_bv (a b : Int) : BitVec.ofInt 64 (orI a b) = BitVec.ofInt 64 a ||| BitVec.ofInt 64 b := wrap_bv _
def givenB (l : List Ac) (bit : Int) (ids : List Bs) : Bool := l.any fun a => !decide (andI a.1 bit = 0) && hitsA ids a
def bitI (i : Nat) : Int := ((2 ^ i : Nat) : Int)
theorem bit_ofInt {i : Nat} (hi : i < 6) : BitVec.ofInt 64 (bitI i) = BitVec.twoPow 64 i := by
 have : i = 0 ∨ i = 1 ∨ i = 2 ∨ i = 3 ∨ i = 4 ∨ i = 5 := by omega
 rcases this with rfl | rfl | rfl | rfl | rfl | rfl <;> decide
theorem and_bit {a : Int} {i : Nat} (hi : i < 6) : andI a (bitI i) = 0 ↔ (BitVec.ofInt 64 a).getLsbD i = false := by
 have h : andI a (bitI i) = 0 ↔ BitVec.ofInt 64 a &&& BitVec.twoPow 64 i = 0#64 := by
  unfold andI
  rw [bit_ofInt hi]
  constructor
  ·intro h
   have h2 := wrap_bv (BitVec.ofInt 64 a &&& BitVec.twoPow 64 i)
   rw [show wrapI ((BitVec.ofInt 64 a &&& BitVec.twoPow 64 i).toNat : Int) = 0 from h] at h2
   rw [← h2]; rfl
  ·intro h
   rw [h]; rfl
 rw [h, BitVec.and_twoPow]
 cases e : (BitVec.ofInt 64 a).getLsbD i with
 | false => simp
 | true =>
  simp only [if_true]
  constructor
  ·intro g
   have := congrArg (fun z => z.getLsbD i) g
   simp [BitVec.getLsbD_twoPow] at this
   omega
  ·intro g; cases g
theorem given_bit {ids : List Bs} {i : Nat} (hi : i < 6) : ∀ (l : List Ac) (g : Int), (BitVec.ofInt 64 (l.foldl (fun g a => if hitsA ids a = true then orI g a.1 else g) g)).getLsbD i = ((BitVec.ofInt 64 g).getLsbD i || givenB l (bitI i) ids)
 | [], g => by simp [givenB]
 | a :: l, g => by
  rw [List.foldl_cons, given_bit hi l]
  have hb : (!decide (andI a.1 (bitI i) = 0)) = (BitVec.ofInt 64 a.1).getLsbD i := by
   cases e : (BitVec.ofInt 64 a.1).getLsbD i with
   | false => rw [decide_eq_true ((and_bit hi).2 e)]; rfl
   | true => rw [decide_eq_false (fun g => by have := (and_bit hi).1 g; rw [e] at this; cases this)]; rfl
  have hg : givenB (a :: l) (bitI i) ids = ((BitVec.ofInt 64 a.1).getLsbD i && hitsA ids a || givenB l (bitI i) ids) := by
   show ((!decide (andI a.1 (bitI i) = 0) && hitsA ids a) || givenB l (bitI i) ids) = _
   rw [hb]
  rw [hg]
  cases hh : hitsA ids a with
  | true => rw [if_pos rfl, or_bv, BitVec.getLsbD_or, Bool.and_true, Bool.or_assoc]
  | false => rw [if_neg (by decide), Bool.and_false, Bool.false_or]
def mayB (l : List Ac) (perms : Int) (ids : List Bs) : Prop := 0 ≤ perms ∧ perms ≤ 31 ∧ ∀ i, i < 5 → andI perms (bitI i) ≠ 0 → givenB l (bitI i) ids = true
theorem may_iff (l : List Ac) (perms : Int) (ids : List Bs) : mayZ l perms ids = true ↔ mayB l perms ids := by
 unfold mayZ mayB
 simp only [Bool.and_eq_true, decide_eq_true_eq, and_assoc]
 refine and_congr_right fun h0 => and_congr_right fun h1 => ?_
 rw [less_zero]
 have hp : ∀ i, i < 64 → (BitVec.ofInt 64 perms).getLsbD i = true → i < 5 := by
  obtain ⟨k, rfl⟩ := Int.eq_ofNat_of_zero_le h0
  have hk : k < 32 := by omega
  intro i hi hb
  have hb : (BitVec.ofNat 64 k).getLsbD i = true := hb
  rw [BitVec.getLsbD_ofNat] at hb
  refine Nat.lt_of_not_le fun g => ?_
  have : k.testBit i = false := Nat.testBit_lt_two_pow (Nat.lt_of_lt_of_le hk (by show 2 ^ 5 ≤ 2 ^ i; exact Nat.pow_le_pow_right (by decide) g))
  rw [this] at hb
  simp at hb
 have hg : ∀ i, i < 6 → (BitVec.ofInt 64 (givenZ ids l)).getLsbD i = givenB l (bitI i) ids := fun i hi => by
  have := given_bit (ids := ids) hi l 0
  unfold givenZ
  rw [this]
  simp
 constructor
 ·intro h i hi hb
  rw [← hg i (by omega)]
  refine h i (by omega) ?_
  cases e : (BitVec.ofInt 64 perms).getLsbD i with
  | true => rfl
  | false => exact absurd ((and_bit (by omega)).2 e) hb
 ·intro h i hi hb
  have h5 := hp i hi hb
  rw [hg i (by omega)]
  refine h i h5 fun g => ?_
  have := (and_bit (a := perms) (show i < 6 by omega)).1 g
  rw [hb] at this; cases this
theorem given_at {l : List Ac} {bit : Int} {ids : List Bs} {i : Nat} (hi : i < l.length) (h1 : ¬ andI l[i].1 bit = 0) (h2 : hitsA ids l[i] = true) : givenB l bit ids = true := by
 unfold givenB
 rw [List.any_eq_true]
 exact ⟨l[i], List.getElem_mem hi, by rw [decide_eq_false h1, h2]; rfl⟩
theorem given_no {l : List Ac} {bit : Int} {ids : List Bs} (h : ∀ i (hi : i < l.length), ¬ (¬ andI l[i].1 bit = 0 ∧ hitsA ids l[i] = true)) : givenB l bit ids = false := by
 unfold givenB
 rw [List.any_eq_false]
 intro a ha
 obtain ⟨i, hi, rfl⟩ := List.mem_iff_getElem.1 ha
 have := h i hi
 by_cases e : andI l[i].1 bit = 0
 ·rw [decide_eq_true e]; simp
 ·rw [decide_eq_false e]
  intro g
  exact this ⟨e, by simpa using g⟩
theorem hits_world {ids : List Bs} {a : Ac} (h : a.2 = worldB) : hitsA ids a = true := by unfold hitsA; rw [decide_eq_true h]; rfl
theorem hits_mem {ids : List Bs} {a : Ac} {k : Nat} (hk : k < ids.length) (h : ids[k] = a.2) : hitsA ids a = true := by
 unfold hitsA
 rw [decide_eq_true (show a.2 ∈ ids from h ▸ List.getElem_mem hk), Bool.or_true]
theorem hits_no {ids : List Bs} {a : Ac} (h1 : ¬ a.2 = worldB) (h2 : ∀ k (hk : k < ids.length), ids[k] ≠ a.2) : ¬ hitsA ids a = true := by
 unfold hitsA
 rw [decide_eq_false h1, decide_eq_false (fun g => by obtain ⟨k, hk, e⟩ := List.mem_iff_getElem.1 g; exact h2 k hk e)]
 decide
theorem bit_32 {i : Nat} (hi : i ≤ 5) : bitI i < 32 ↔ i < 5 := by
 have : i = 0 ∨ i = 1 ∨ i = 2 ∨ i = 3 ∨ i = 4 ∨ i = 5 := by omega
 rcases this with rfl | rfl | rfl | rfl | rfl | rfl <;> decide
theorem bit_next {i : Nat} (hi : i < 5) : bitI i * 2 = bitI (i + 1) ∧ 0 ≤ bitI i ∧ bitI i ≤ 16 := by
 have : i = 0 ∨ i = 1 ∨ i = 2 ∨ i = 3 ∨ i = 4 := by omega
 rcases this with rfl | rfl | rfl | rfl | rfl <;> decide
end Go.Proofs.YtkjlihfalfbmjaaGreatDoor
