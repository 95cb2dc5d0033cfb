/- Own work, some of it printed by program, texts that were built one by one: a part of the proof of prepAgain.proved. -/
import Derived.Test.YtkjlihfalfbmjaaGreatDoorCPAgainP2
import Derived.Test.YtkjlihfalfbmjaaGreatDoorCPAgainP1
import Derived.Test.YtkjlihfalfbmjaaGreatDoorCPAgainP0
import Derived.Test.YtkjlihfalfbmjaaGreatDoorRows
import Derived.WalkKit
import Derived.ProofKit
import Derived.OpenShut
import Derived.JoinedCond
import Derived.Carry
import Derived.Deep.Grids
import Derived.Handed
import Derived.Deep.Strs
set_option maxRecDepth 100000
namespace Go.Proofs.YtkjlihfalfbmjaaGreatDoor
open Go
theorem TabP.up {a p : HP} (hT : TabP p) : TabP (sep [a, p]) := by
 intro h w hp hle
 obtain ⟨h1, h2, _, a1, a2, _, h3⟩ := hp
 obtain ⟨h4, a4, hp4⟩ := sep_head (p := p) (L := []) h3
 exact hT h4 w hp4 (fun b o e => hle b o (a2 b o (a4 b o e)))
def acl31 : List Ac := [(31, [119, 111, 114, 108, 100])]
def open12 : Pt := ⟨5, [], [], nilV, [], 7, 10, 0, nilV⟩
def aw12 : Tr := (applyZ newT 1 open12 []).1
def u12 : Who := ⟨7, []⟩
def rqA12 (v : Value) : Rq := ⟨1, 0, [47, 97], [120], v, acl31, 0, 0, false, nilV, nilV⟩
def rqB12 (v : Value) : Rq := ⟨1, 0, [47, 113, 45], [], v, acl31, 3, 0, false, nilV, nilV⟩
def rqC12 : Rq := ⟨7, 0, [], [], nilV, [], 0, 0, false, nilV, nilV⟩
def rqD12 (v : Value) : Rq := ⟨6, 0, [], [], nilV, [], 0, 0, false, v, nilV⟩
def rqD1 (v : Value) : Rq := ⟨1, 0, [47, 97], [], v, acl31, 0, 0, false, nilV, nilV⟩
def rqD2 : Rq := ⟨5, 0, [47, 97], [], nilV, [], 0, 0, false, nilV, nilV⟩
def rqD3 : Rq := ⟨2, 0, [47, 98], [], nilV, [], 0, -1, false, nilV, nilV⟩
theorem aw12_A0 : firstZ (createE aw12 u12 (rqA12 nilV)) = 0 := by decide
theorem itoa_0 : Lib.itoa 0 = [48] := by
 unfold Lib.itoa
 rw [if_neg (by decide)]
 show Lib.decDigits 0 = [48]
 rw [Lib.decDigits]; rfl
theorem aw12_Bn : fullZ aw12 (rqB12 nilV) = [47, 113, 45, 48, 48, 48, 48, 48, 48, 48, 48, 48, 48] := by
 unfold fullZ
 rw [if_pos (by decide), show (upS aw12 (rqB12 nilV)).cver = 0 by decide]
 unfold numbered
 rw [show max (0 : Int) 0 = 0 by decide, itoa_0]; rfl
theorem aw12_B0 : firstZ (createE aw12 u12 (rqB12 nilV)) = 0 := by
 unfold createE
 rw [aw12_Bn]; decide
theorem aw12_ses : sesT aw12 7 := by decide
theorem aw12_up : (upS aw12 (rqA12 nilV)).cver = 0 := by decide
theorem part12_A (v : Value) : partP aw12 u12 (rqA12 v) = (⟨1, [47, 97], [120], nilV, acl31, 0, 1, 0, nilV⟩, 0) := by
 rw [part_one rfl]
 have e : firstZ (createE aw12 u12 (rqA12 v)) = 0 := aw12_A0
 rw [e]
 have e2 : createX aw12 u12 (rqA12 v) = createX aw12 u12 (rqA12 nilV) := rfl
 rw [e2]
 show ((⟨1, fullZ aw12 (rqA12 nilV), [120], nilV, acl31, if andI 0 1 ≠ 0 then 7 else 0, wrapI ((upS aw12 (rqA12 nilV)).cver + 1), 0, nilV⟩ : Pt), (0 : Int)) = _
 rw [aw12_up, show fullZ aw12 (rqA12 nilV) = [47, 97] by decide, show wrapI (0 + 1) = 1 by decide, if_neg (by decide)]
theorem part12_B (v : Value) : partP aw12 u12 (rqB12 v) = (⟨1, [47, 113, 45, 48, 48, 48, 48, 48, 48, 48, 48, 48, 48], [], nilV, acl31, 7, 1, 0, nilV⟩, 0) := by
 rw [part_one rfl]
 have e : firstZ (createE aw12 u12 (rqB12 v)) = 0 := aw12_B0
 rw [e]
 show ((⟨1, fullZ aw12 (rqB12 nilV), [], nilV, acl31, if andI 3 1 ≠ 0 then 7 else 0, wrapI ((upS aw12 (rqB12 nilV)).cver + 1), 0, nilV⟩ : Pt), (0 : Int)) = _
 rw [aw12_Bn, show (upS aw12 (rqB12 nilV)).cver = 0 by decide, show wrapI (0 + 1) = 1 by decide, if_pos (by decide)]
theorem txn12_A (v : Value) : txnP aw12 u12 (rqA12 v) [] = (⟨1, [47, 97], [120], nilV, acl31, 0, 1, 0, nilV⟩, []) := by
 unfold txnP
 rw [if_neg (by show ¬ ¬ changesK 1 = true; decide), if_neg (fun g => g aw12_ses), if_neg (by show ¬ (1 : Int) = 6; decide), if_neg (by show ¬ (1 : Int) = 7; decide), if_neg (by show ¬ (1 : Int) = 8; decide), part12_A, if_neg (by decide)]
theorem txn12_B (v : Value) : txnP aw12 u12 (rqB12 v) [] = (⟨1, [47, 113, 45, 48, 48, 48, 48, 48, 48, 48, 48, 48, 48], [], nilV, acl31, 7, 1, 0, nilV⟩, []) := by
 unfold txnP
 rw [if_neg (by show ¬ ¬ changesK 1 = true; decide), if_neg (fun g => g aw12_ses), if_neg (by show ¬ (1 : Int) = 6; decide), if_neg (by show ¬ (1 : Int) = 7; decide), if_neg (by show ¬ (1 : Int) = 8; decide), part12_B, if_neg (by decide)]
theorem multi12_0 : (multiL u12 [rqD1 nilV, rqD2, rqD3] aw12).2.2 = some (2, 60) := by decide
theorem txn12_D (v w : Value) : txnP aw12 u12 (rqD12 w) [rqD1 v, rqD2, rqD3] = (refusal 60 2, []) := by
 unfold txnP
 rw [if_neg (by show ¬ ¬ changesK 6 = true; decide), if_neg (fun g => g aw12_ses), if_pos (by rfl)]
 unfold multiP
 have e : (multiL u12 [rqD1 v, rqD2, rqD3] aw12).2.2 = some (2, 60) := by
  have h : partP aw12 u12 (rqD1 v) = partP aw12 u12 (rqD1 nilV) := by rw [part_one (r := rqD1 v) rfl, part_one (r := rqD1 nilV) rfl]; rfl
  rw [multi_cons, h, ← multi_cons]; exact multi12_0
 rw [if_neg (by simp), e]
 rfl
theorem aw12_ok : aw12.Ok 2 := newT_ok.apply 1 open12 [] (by decide) (by simp)
theorem aw12_w : TrW aw12 := TrW.new.app (e := ⟨1, 0, 0, open12, []⟩) ⟨⟨by decide, by decide⟩, ⟨⟨by decide, by decide⟩, ⟨by decide, by decide⟩, by decide, ⟨by decide, by simp [open12, aclB, cntB, sevZ], fun a ha => by cases ha⟩⟩, fun _ h => by cases h⟩
theorem aw12_C : txnP aw12 ⟨8, []⟩ rqC12 [] = (refusal 67 (-1), []) := by
 rfl
theorem WiA.mk0 {p : HP} {s : Int} {r : Rq} (hs : I64 s) (hT : TabP p) (hk : I64 r.kind ∧ I64 r.xid ∧ I64 r.flags ∧ I64 r.ver) (hl : r.path.length ≤ 64 ∧ r.data.length ≤ 64) (ha : ∀ h : Hp, p h → rdS 2 h r.aclV r.acl.length (r.acl.flatMap acC))
  (hm : r.acl.length ≤ 8 ∧ ∀ a ∈ r.acl, I64 a.1 ∧ a.2.length ≤ 64) (h1 : ∃ a n c, r.aclV = .slice a n c) (h2 : ∃ a n c, r.subsV = .slice a n c) (h3 : ∃ a n c, r.armV = .slice a n c) : WiA p ⟨s, []⟩ nilV r :=
 ⟨⟨hk.1, hk.2.1, hk.2.2.1, hk.2.2.2, by omega, by omega, ha, by omega, fun a h => ⟨(hm.2 a h).1, by have := (hm.2 a h).2; omega⟩, h2, h3⟩, hs, fun _ _ => .inl ⟨rfl, rfl, none, 0, rfl⟩, by show 0 ≤ _; decide, ⟨none, 0, 0, rfl⟩, h1, hT⟩
theorem tx12 (p : HP) : TxA p open12 [] := ⟨⟨fun _ _ => .inl ⟨rfl, rfl, none, 0, rfl⟩, by decide, by decide, rfl, rfl⟩, fun _ _ => .inl ⟨rfl, rfl, none, 0, rfl⟩, by decide, fun _ h => by cases h⟩
theorem rd_head {a p : HP} {sz n : Nat} {v : Value} {xs : List Value} (ha : ∀ h : Hp, a h → rdS sz h v n xs) : ∀ h : Hp, sep [a, p] h → rdS sz h v n xs := by
 intro h hp
 obtain ⟨h1, a1, hp1⟩ := sep_head hp
 exact rdS_mono (ha h1 hp1) a1
theorem rd_tail {a p : HP} {sz n : Nat} {v : Value} {xs : List Value} (ha : ∀ h : Hp, p h → rdS sz h v n xs) : ∀ h : Hp, sep [a, p] h → rdS sz h v n xs := by
 intro h hp
 obtain ⟨h1, h2, _, a1, a2, _, h3⟩ := hp
 obtain ⟨h4, a4, hp4⟩ := sep_head (p := p) (L := []) h3
 exact rdS_mono (ha h4 hp4) (fun b o e => a2 b o (a4 b o e))
theorem within12 {y : Pt} {ys : List Pt} (hy : y.pl = (refusal 60 2)) (z s x : Int) : withinR aw12 ⟨z, s, x, y, ys⟩ = [errR 111, errR 111, errR 60] := by
 have hk : y.kind = 8 := congrArg Pt.kind hy
 have hn : y.num = 2 := congrArg Pt.num hy
 have he : y.err = 60 := congrArg Pt.err hy
 unfold withinR
 rw [if_neg (by show ¬ y.kind = 7; omega), if_pos ⟨hk, by show 0 ≤ y.num; omega, by show y.num < 8; omega⟩]
 show List.replicate y.num.toNat (errR 111) ++ [errR y.err] = _
 rw [hn, he]; rfl
theorem acl31_w : AclW acl31 := ⟨by decide, by simp [acl31, aclB, acB, cntB, txtB, numB, zigZ, sevZ], fun a ha => by
 obtain rfl := List.mem_singleton.1 ha
 exact ⟨⟨⟨by decide, by decide⟩, by decide⟩, by decide⟩⟩
theorem acl_nil_w : AclW [] := ⟨by decide, by simp [aclB, cntB, sevZ], fun a ha => by cases ha⟩
theorem rd_acl {a p : HP} {v : Value} (ha : ∀ h : Hp, a h → rdS 2 h v 1 (acl31.flatMap acC)) : ∀ h : Hp, sep [a, p] h → rdS 2 h v acl31.length (acl31.flatMap acC) := by
 intro h hp
 obtain ⟨h1, a1, hp1⟩ := sep_head hp
 exact rdS_mono (ha h1 hp1) a1
theorem wi_31 {p : HP} {s k f : Int} {v : Value} {q d : Bs} (hs : I64 s) (hT : TabP p) (ha : ∀ h : Hp, p h → rdS 2 h v acl31.length (acl31.flatMap acC)) (hv : ∃ a n c, v = .slice a n c) (hk : I64 k ∧ I64 f) (hl : q.length ≤ 64 ∧ d.length ≤ 64) : WiA p ⟨s, []⟩ nilV ⟨k, 0, q, d, v, acl31, f, 0, false, nilV, nilV⟩ :=
 WiA.mk0 hs hT ⟨hk.1, I64.zero, hk.2, I64.zero⟩ hl ha ⟨by show 1 ≤ 8; decide, fun a h => by obtain rfl := List.mem_singleton.1 h; exact ⟨⟨by decide, by decide⟩, by decide⟩⟩ hv ⟨none, 0, 0, rfl⟩ ⟨none, 0, 0, rfl⟩
theorem wi_nil {p : HP} {s k f ver : Int} {w : Value} {q d : Bs} (hs : I64 s) (hT : TabP p) (hw : ∃ a n c, w = .slice a n c) (hk : I64 k ∧ I64 f ∧ I64 ver) (hl : q.length ≤ 64 ∧ d.length ≤ 64) : WiA p ⟨s, []⟩ nilV ⟨k, 0, q, d, nilV, [], f, ver, false, w, nilV⟩ :=
 WiA.mk0 hs hT ⟨hk.1, I64.zero, hk.2.1, hk.2.2⟩ hl (fun _ _ => .inl ⟨rfl, rfl, none, 0, rfl⟩) ⟨by show 0 ≤ 8; decide, fun a h => by cases h⟩ ⟨none, 0, 0, rfl⟩ hw ⟨none, 0, 0, rfl⟩
theorem fill_e5 (s0 s1 s2 s3 s4 s5 s6 s7 : Value) : Instr.fill (fun i => [(0, 1), (1, 1), (2, 1), (3, 8)].toArray[i]?) ([.int .i64 0, .int .i64 0, .int .i64 0, .int .i64 0, .string (bs []), .string (bs []), .slice none 0 0, .int .i64 0, .int .i64 0, .int .i64 0, .slice none 0 0] : List Value).toArray [(0, vint 5), (2, vint 6), (3, .agg ([s0, s1, s2, s3, s4, s5, s6, s7] : List Value).toArray)] = some (([vint 5, vint 0, vint 6] ++ [s0, s1, s2, s3, s4, s5, s6, s7] : List Value).toArray) := by kernel_rfl
theorem awake12_spec (T0 : HP) (hT : TabP T0) : Fn Tryz.prog 10 #[] [T0] fun v L => v = .bool true ∧ L = [T0] := by
 refine Fn.intro Tryz.func10 rfl rfl fun F W => ?_
 refine .sr (.an rfl (.sr (.oq (.c Tryz.func26 [] (trnew_spec)) ?_)))
 rintro v L' ⟨t, rfl, rfl⟩
 refine .an rfl (.seq (.sm rfl (.q (.ptreq rfl rfl Tryz.underlying30) rfl (.nt (.condF rfl (.sk (.sm rfl (.q (.to (v' := .agg (ptC open12).toArray) (.build (us := [(0, _), (4, _), (5, _)]) fl_43 ze_43 rfl rfl (by simp [isCell])) rfl) rfl (.q (.buildN (pl := [(0, 1), (1, 1), (2, 1), (3, 8)]) (us := [(0, vint 1), (3, .agg (ptC open12).toArray)]) (cells := [vint 1, vint 0, vint 0] ++ ptC open12) Tryz.underlying54 (by kernel_rfl) ze_54 rfl (fill_entry _ _ _ _ _ _ _ _ _)) rfl (.oq (.c Tryz.func33 [_, _] (trapply_spec t newT 1 0 0 open12 [] T0 (tx12 T0) 1 newT_ok (by decide))) ?_))))))))))
 rintro v L' ⟨ue, ee, rfl, -, ⟨ae, ce, rfl⟩, rfl⟩; rw [show (applyZ newT 1 open12 []).1 = aw12 from rfl]
 refine .nt (.sr (.q (.build (us := [(0, _), (1, _)]) fl_85 ze_85 rfl rfl (by simp [isCell])) rfl (.oq (.buildSlice (vs := [_]) el_24 ze_85 rfl rfl rfl rfl (by first | (simp [Value.cells]; done) | (intro v hv; simp only [List.mem_cons, List.not_mem_nil, or_false] at hv; (repeat (first | (subst hv; rfl) | (rcases hv with hv | hv; (subst hv; rfl)))))) (by decide)) ?_)))
 rintro v L' ⟨ba, rfl, rfl⟩
 refine .a rfl (.nil (.slMakeN 2 1 (b := ba) (xs := acl31.flatMap acC) (by repeat' constructor) rfl rfl (.fold (p := (sep [slR 85 2 (.slice (some ⟨ba, 0, none⟩) 1 1) 1 (acl31.flatMap acC), T0])) (q := [slR 85 2 (.slice (some ⟨ba, 0, none⟩) 1 1) 1 (acl31.flatMap acC), T0]) (by repeat' constructor) (fun _ h => h) ?_)))
 have hT1 : TabP (sep [slR 85 2 (.slice (some ⟨ba, 0, none⟩) 1 1) 1 (acl31.flatMap acC), T0]) := hT.up
 have hra : ∀ h : Hp, (sep [slR 85 2 (.slice (some ⟨ba, 0, none⟩) 1 1) 1 (acl31.flatMap acC), T0]) h → rdS 2 h (.slice (some ⟨ba, 0, none⟩) 1 1) acl31.length (acl31.flatMap acC) := rd_acl (fun _ => slR_rd)
 refine .then_n (.sm rfl (.m rfl (.q (.to (v' := .agg (rqC (rqA12 (.slice (some ⟨ba, 0, none⟩) 1 1))).toArray) (.build (us := [(0, _), (2, _), (3, _), (4, _)]) fl_28 ze_28 rfl rfl (by simp [isCell])) rfl) rfl (.oq (.call Tryz.func14 rfl rfl (vs := [_, _, _, _]) rfl (ptxn_spec t aw12 u12 nilV (rqA12 (.slice (some ⟨ba, 0, none⟩) 1 1)) (sep [slR 85 2 (.slice (some ⟨ba, 0, none⟩) 1 1) 1 (acl31.flatMap acC), T0]) (wi_31 (s := 7) (k := 1) (f := 0) (q := [47, 97]) (d := [120]) ⟨by decide, by decide⟩ hT1 hra ⟨_, _, _, rfl⟩ ⟨⟨by decide, by decide⟩, ⟨by decide, by decide⟩⟩ ⟨by decide, by decide⟩) 2 aw12_ok (by decide) aw12_w (by decide) [] (fun _ _ => .inl ⟨rfl, rfl, none, 0, rfl⟩) (fun x h => by cases h) (fun x h => by cases h) (by show (1 : Int) ≠ 8; decide))) ?_))))
 rintro v L' ⟨y1, ys1, rfl, hy1, hys1, ⟨hc1, as1, cs1, hsub1⟩, hyk1, rfl⟩; rw [txn12_A] at hy1 hys1
 refine .oq (.allocA ze_43) ?_
 rintro v L' ⟨b3, rfl, rfl⟩
 refine .oq (.storeA rfl rfl ?c17 sz_43 ?c20 ?c18 (nfz0 _ _)) ?_
 case c17 => exact pt_cells hc1 (by rw [hsub1]; rfl)
 case c20 => rfl
 case c18 => simp [ptC]
 rintro v L' rfl
 refine .nil (.ptCast (b := b3) (l' := ptC y1) (by repeat' constructor) (by exact rfl) (.then_n (.sm rfl (.m rfl (.q (.to (v' := .agg (rqC (rqB12 (.slice (some ⟨ba, 0, none⟩) 1 1))).toArray) (.build (us := [(0, _), (2, _), (4, _), (5, _)]) fl_28 ze_28 rfl rfl (by simp [isCell])) rfl) rfl (.oq (.call Tryz.func14 rfl rfl (vs := [_, _, _, _]) rfl (ptxn_spec t aw12 u12 nilV (rqB12 (.slice (some ⟨ba, 0, none⟩) 1 1)) (sep [slR 85 2 (.slice (some ⟨ba, 0, none⟩) 1 1) 1 (acl31.flatMap acC), T0]) (wi_31 (s := 7) (k := 1) (f := 3) (q := [47, 113, 45]) (d := []) ⟨by decide, by decide⟩ hT1 hra ⟨_, _, _, rfl⟩ ⟨⟨by decide, by decide⟩, ⟨by decide, by decide⟩⟩ ⟨by decide, by decide⟩) 2 aw12_ok (by decide) aw12_w (by decide) [] (fun _ _ => .inl ⟨rfl, rfl, none, 0, rfl⟩) (fun x h => by cases h) (fun x h => by cases h) (by show (1 : Int) ≠ 8; decide))) ?_))))))
 rintro v L' ⟨y2, ys2, rfl, hy2, hys2, ⟨hc2, as2, cs2, hsub2⟩, hyk2, rfl⟩; rw [txn12_B] at hy2 hys2
 refine .oq (.allocA ze_43) ?_
 rintro v L' ⟨b4, rfl, rfl⟩
 refine .oq (.storeA rfl rfl ?c27 sz_43 ?c30 ?c28 (nfz0 _ _)) ?_
 case c27 => exact pt_cells hc2 (by rw [hsub2]; rfl)
 case c30 => rfl
 case c28 => simp [ptC]
 rintro v L' rfl
 refine .nil (.ptCast (b := b4) (l' := ptC y2) (by repeat' constructor) (by exact rfl) (.then_n (.sm rfl (.q (.to (v' := .agg (rqC rqC12).toArray) (.build (us := [(0, _)]) fl_28 ze_28 rfl rfl (by simp [isCell])) rfl) rfl (.oq (.call Tryz.func14 rfl rfl (vs := [_, _, _, _]) rfl (ptxn_spec t aw12 ⟨8, []⟩ nilV rqC12 (sep [slR 85 2 (.slice (some ⟨ba, 0, none⟩) 1 1) 1 (acl31.flatMap acC), T0]) (wi_nil (s := 8) (k := 7) (f := 0) (ver := 0) (w := nilV) (q := []) (d := []) ⟨by decide, by decide⟩ hT1 ⟨_, _, _, rfl⟩ ⟨⟨by decide, by decide⟩, ⟨by decide, by decide⟩, ⟨by decide, by decide⟩⟩ ⟨by decide, by decide⟩) 2 aw12_ok (by decide) aw12_w (by decide) [] (fun _ _ => .inl ⟨rfl, rfl, none, 0, rfl⟩) (fun x h => by cases h) (fun x h => by cases h) (by show (7 : Int) ≠ 8; decide))) ?_)))))
 rintro v L' ⟨y3, ys3, rfl, hy3, hys3, ⟨hc3, as3, cs3, hsub3⟩, hyk3, rfl⟩; rw [aw12_C] at hy3 hys3
 refine .oq (.allocA ze_43) ?_
 rintro v L' ⟨b5, rfl, rfl⟩
 refine .oq (.storeA rfl rfl ?c37 sz_43 ?c40 ?c38 (nfz0 _ _)) ?_
 case c37 => exact pt_cells hc3 (by rw [hsub3]; rfl)
 case c40 => rfl
 case c38 => simp [ptC]
 rintro v L' rfl
 refine .nil (.ptCast (b := b5) (l' := ptC y3) (by repeat' constructor) (by exact rfl) (.then_n (.sm rfl (.m rfl (.q (.to (v' := .agg (rqC (rqD1 (.slice (some ⟨ba, 0, none⟩) 1 1))).toArray) (.build (us := [(0, _), (2, _), (4, _)]) fl_28 ze_28 rfl rfl (by simp [isCell])) rfl) rfl (.q (.to (v' := .agg (rqC rqD2).toArray) (.build (us := [(0, _), (2, _)]) fl_28 ze_28 rfl rfl (by simp [isCell])) rfl) rfl (.q (.to (v' := .agg (rqC rqD3).toArray) (.build (us := [(0, _), (2, _), (6, _)]) fl_28 ze_28 rfl rfl (by simp [isCell])) rfl) rfl (.oq (.buildSlice (vs := [_, _, _]) el_25 ze_28 rfl rfl rfl rfl (by first | (simp [Value.cells]; done) | (intro v hv; simp only [List.mem_cons, List.not_mem_nil, or_false] at hv; (repeat (first | (subst hv; rfl) | (rcases hv with hv | hv; (subst hv; rfl)))))) (by decide)) ?_))))))))
 rintro v L' ⟨bs, rfl, rfl⟩
 refine .slMakeN 10 3 (b := bs) (xs := [rqD1 (.slice (some ⟨ba, 0, none⟩) 1 1), rqD2, rqD3].flatMap rqC) (by repeat' constructor) rfl rfl (.fold (p := (sep [slR 28 10 (.slice (some ⟨bs, 0, none⟩) 3 3) 3 ([rqD1 (.slice (some ⟨ba, 0, none⟩) 1 1), rqD2, rqD3].flatMap rqC), (sep [slR 85 2 (.slice (some ⟨ba, 0, none⟩) 1 1) 1 (acl31.flatMap acC), T0])])) (q := [slR 28 10 (.slice (some ⟨bs, 0, none⟩) 3 3) 3 ([rqD1 (.slice (some ⟨ba, 0, none⟩) 1 1), rqD2, rqD3].flatMap rqC), (sep [slR 85 2 (.slice (some ⟨ba, 0, none⟩) 1 1) 1 (acl31.flatMap acC), T0])]) (by repeat' constructor) (fun _ h => h) ?_)
 have hT4 : TabP (sep [slR 28 10 (.slice (some ⟨bs, 0, none⟩) 3 3) 3 ([rqD1 (.slice (some ⟨ba, 0, none⟩) 1 1), rqD2, rqD3].flatMap rqC), (sep [slR 85 2 (.slice (some ⟨ba, 0, none⟩) 1 1) 1 (acl31.flatMap acC), T0])]) := hT1.up
 have hra4 : ∀ h : Hp, (sep [slR 28 10 (.slice (some ⟨bs, 0, none⟩) 3 3) 3 ([rqD1 (.slice (some ⟨ba, 0, none⟩) 1 1), rqD2, rqD3].flatMap rqC), (sep [slR 85 2 (.slice (some ⟨ba, 0, none⟩) 1 1) 1 (acl31.flatMap acC), T0])]) h → rdS 2 h (.slice (some ⟨ba, 0, none⟩) 1 1) acl31.length (acl31.flatMap acC) := rd_tail hra
 have hS4 : ∀ x ∈ [rqD1 (.slice (some ⟨ba, 0, none⟩) 1 1), rqD2, rqD3], WiA (sep [slR 28 10 (.slice (some ⟨bs, 0, none⟩) 3 3) 3 ([rqD1 (.slice (some ⟨ba, 0, none⟩) 1 1), rqD2, rqD3].flatMap rqC), (sep [slR 85 2 (.slice (some ⟨ba, 0, none⟩) 1 1) 1 (acl31.flatMap acC), T0])]) u12 nilV x := by
    intro x hx
    simp only [List.mem_cons, List.not_mem_nil, or_false] at hx
    rcases hx with rfl | rfl | rfl
    · exact wi_31 (s := 7) (k := 1) (f := 0) (q := [47, 97]) (d := []) ⟨by decide, by decide⟩ hT4 hra4 ⟨_, _, _, rfl⟩ ⟨⟨by decide, by decide⟩, ⟨by decide, by decide⟩⟩ ⟨by decide, by decide⟩
    · exact wi_nil (s := 7) (k := 5) (f := 0) (ver := 0) (w := nilV) (q := [47, 97]) (d := []) ⟨by decide, by decide⟩ hT4 ⟨_, _, _, rfl⟩ ⟨⟨by decide, by decide⟩, ⟨by decide, by decide⟩, ⟨by decide, by decide⟩⟩ ⟨by decide, by decide⟩
    exact wi_nil (s := 7) (k := 2) (f := 0) (ver := -1) (w := nilV) (q := [47, 98]) (d := []) ⟨by decide, by decide⟩ hT4 ⟨_, _, _, rfl⟩ ⟨⟨by decide, by decide⟩, ⟨by decide, by decide⟩, ⟨by decide, by decide⟩⟩ ⟨by decide, by decide⟩
 have hSa4 : ∀ x ∈ [rqD1 (.slice (some ⟨ba, 0, none⟩) 1 1), rqD2, rqD3], AclW x.acl := by
    intro x hx
    simp only [List.mem_cons, List.not_mem_nil, or_false] at hx
    rcases hx with rfl | rfl | rfl
    · exact acl31_w
    · exact acl_nil_w
    exact acl_nil_w
 refine .q (.to (v' := .agg (rqC (rqD12 (.slice (some ⟨bs, 0, none⟩) 3 3))).toArray) (.build (us := [(0, _), (8, _)]) fl_28 ze_28 rfl rfl (by simp [isCell])) rfl) rfl (.oq (.call Tryz.func14 rfl rfl (vs := [_, _, _, _]) rfl (ptxn_spec t aw12 u12 nilV (rqD12 (.slice (some ⟨bs, 0, none⟩) 3 3)) (sep [slR 28 10 (.slice (some ⟨bs, 0, none⟩) 3 3) 3 ([rqD1 (.slice (some ⟨ba, 0, none⟩) 1 1), rqD2, rqD3].flatMap rqC), (sep [slR 85 2 (.slice (some ⟨ba, 0, none⟩) 1 1) 1 (acl31.flatMap acC), T0])]) (wi_nil (s := 7) (k := 6) (f := 0) (ver := 0) (w := .slice (some ⟨bs, 0, none⟩) 3 3) (q := []) (d := []) ⟨by decide, by decide⟩ hT4 ⟨_, _, _, rfl⟩ ⟨⟨by decide, by decide⟩, ⟨by decide, by decide⟩, ⟨by decide, by decide⟩⟩ ⟨by decide, by decide⟩) 2 aw12_ok (by decide) aw12_w (by decide) [rqD1 (.slice (some ⟨ba, 0, none⟩) 1 1), rqD2, rqD3] (rd_head (fun _ => slR_rd)) hS4 hSa4 (by show (6 : Int) ≠ 8; decide))) ?_)
 rintro v L' ⟨y4, ys4, rfl, hy4, hys4, ⟨hc4, as4, cs4, hsub4⟩, hyk4, rfl⟩; rw [txn12_D] at hy4 hys4
 refine .oq (.allocA ze_43) ?_
 rintro v L' ⟨b6, rfl, rfl⟩
 refine .oq (.storeA rfl rfl ?c52 sz_43 ?c55 ?c53 (nfz0 _ _)) ?_
 case c52 => exact pt_cells hc4 (by rw [hsub4]; rfl)
 case c55 => rfl
 case c53 => simp [ptC]
 rintro v L' rfl
 refine .nil (.ptCast (b := b6) (l' := ptC y4) (by repeat' constructor) (by exact rfl) (.then_n (.sm rfl (.q (.to (v' := .agg (ptC y4).toArray) (.loadA rfl ag_43 (by repeat' constructor) (by simp [ptC])) (by rfl)) rfl (.q (.to (v' := .agg (enC (⟨5, 0, 6, y4, ys4⟩ : En)).toArray) (.buildN (pl := [(0, 1), (1, 1), (2, 1), (3, 8)]) (us := [(0, vint 5), (2, vint 6), (3, .agg (ptC y4).toArray)]) (cells := enC (⟨5, 0, 6, y4, ys4⟩ : En)) Tryz.underlying54 (by kernel_rfl) ze_54 rfl (fill_e5 _ _ _ _ _ _ _ _)) rfl) rfl (.oq (.call Tryz.func23 rfl rfl (vs := [_, _]) rfl (preply_spec t aw12 (⟨5, 0, 6, y4, ys4⟩ : En) 2 aw12_ok (by decide) (slR 43 8 y4.subsV ys4.length (ys4.flatMap ptC)) (fun _ => slR_rd) (by have h := congrArg List.length hys4; simp at h; simp [h]) hc4 (by show isCell y4.subsV = true; rw [hsub4]; rfl) (fun y h => ⟨(hyk4 y h).1, by rw [(hyk4 y h).2]; rfl⟩))) ?_))))))
 rintro v L' ⟨w, rfl, ⟨aw, cw, rfl⟩, rfl⟩; rw [within12 hy4]
 refine .oq (.allocA ze_57) ?_
 rintro v L' ⟨b7, rfl, rfl⟩
 refine .oq (.storeA rfl rfl ?c63 sz_57 ?c66 ?c64 (nfz0 _ _)) ?_
 case c63 => exact rp_cells rfl rfl rfl
 case c66 => rfl
 case c64 => simp
 rintro v L' rfl
 refine .nil (.ptCast (b := b7) (l' := rpC ((headR aw12 (⟨5, 0, 6, y4, ys4⟩ : En)).ws (.slice aw 3 cw))) (by repeat' constructor) (by exact rfl) (.rdShape (p := slR 57 17 (.slice aw 3 cw) 3 ([errR 111, errR 111, errR 60].flatMap rpC)) (fun _ => slR_rd) (by repeat' constructor) (by decide) fun bw ow ee => ?_))
 subst ee
 refine .then_n (.sr (.u (.fieldAddr rfl fo_43_0) (.u (.ld rfl ag_3) (.q (.as (v' := .bool true) (by exact congrArg Value.bool (decide_eq_true (congrArg Pt.kind hy1))) (.int rfl rfl rfl)) rfl (.m rfl (.grun (t := 45) rfl rfl rfl (.u (.fieldAddr rfl fo_43_1) (.grun (t := 45) rfl rfl rfl (.u (.ld rfl ag_9) (.grun (t := 45) rfl rfl rfl (.q (.as (v' := .bool true) (by exact congrArg Value.bool (decide_eq_true (congrArg Pt.path hy1))) (.streq rfl rfl)) rfl (.u (.pickT rfl rfl) (.m rfl (.grun (t := 50) rfl rfl rfl (.u (.fieldAddr rfl fo_43_2) (.grun (t := 50) rfl rfl rfl (.u (.ld rfl ag_9) (.grun (t := 50) rfl rfl rfl (.q (.as (v' := .bool true) (by exact congrArg Value.bool (decide_eq_true (congrArg Pt.data hy1))) (.streq rfl rfl)) rfl (.u (.pickT rfl rfl) (.m rfl (.grun (t := 55) rfl rfl rfl (.u (.fieldAddr rfl fo_43_5) (.grun (t := 55) rfl rfl rfl (.u (.ld rfl ag_3) ?_)))))))))))))))))))))))))
 refine .grun (t := 55) rfl rfl rfl (.q (.as (v' := .bool true) (by exact congrArg Value.bool (decide_eq_true (congrArg Pt.num hy1))) (.int rfl rfl rfl)) rfl (.u (.pickT rfl rfl) (.m rfl (.grun (t := 60) rfl rfl rfl (.u (.fieldAddr rfl fo_43_1) (.grun (t := 60) rfl rfl rfl (.u (.ld rfl ag_9) (.grun (t := 60) rfl rfl rfl (.q (.as (v' := .bool true) (by exact congrArg Value.bool (decide_eq_true (congrArg Pt.path hy2))) (.streq rfl rfl)) rfl (.u (.pickT rfl rfl) (.m rfl (.grun (t := 65) rfl rfl rfl (.u (.fieldAddr rfl fo_43_4) (.grun (t := 65) rfl rfl rfl (.u (.ld rfl ag_3) (.grun (t := 65) rfl rfl rfl (.q (.as (v' := .bool true) (by exact congrArg Value.bool (decide_eq_true (congrArg Pt.own hy2))) (.int rfl rfl rfl)) rfl (.u (.pickT rfl rfl) (.an rfl (.sr (.u (.fieldAddr rfl fo_43_6) (.u (.ld rfl ag_40) (.q (.as (v' := .bool true) (by exact congrArg Value.bool (decide_eq_true (congrArg Pt.err hy3))) (.int rfl rfl rfl)) rfl ?_)))))))))))))))))))))))
 refine .m rfl (.grun (t := 73) rfl rfl rfl (.u (.fieldAddr rfl fo_43_5) (.grun (t := 73) rfl rfl rfl (.u (.ld rfl ag_3) (.grun (t := 73) rfl rfl rfl (.q (.as (v' := .bool true) (by exact congrArg Value.bool (decide_eq_true (congrArg Pt.num hy3))) (.int rfl rfl rfl)) rfl (.u (.pickT rfl rfl) (.m rfl (.grun (t := 78) rfl rfl rfl (.u (.fieldAddr rfl fo_43_0) (.grun (t := 78) rfl rfl rfl (.u (.ld rfl ag_3) (.grun (t := 78) rfl rfl rfl (.q (.as (v' := .bool true) (by exact congrArg Value.bool (decide_eq_true (congrArg Pt.kind hy4))) (.int rfl rfl rfl)) rfl (.u (.pickT rfl rfl) (.m rfl (.grun (t := 83) rfl rfl rfl (.u (.fieldAddr rfl fo_43_6) (.grun (t := 83) rfl rfl rfl (.u (.ld rfl ag_40) (.grun (t := 83) rfl rfl rfl (.q (.as (v' := .bool true) (by exact congrArg Value.bool (decide_eq_true (congrArg Pt.err hy4))) (.int rfl rfl rfl)) rfl (.u (.pickT rfl rfl) (.m rfl (.grun (t := 88) rfl rfl rfl (.u (.fieldAddr rfl fo_43_5) (.grun (t := 88) rfl rfl rfl ?_)))))))))))))))))))))))))))
 refine .u (.ld rfl ag_3) (.grun (t := 88) rfl rfl rfl (.q (.as (v' := .bool true) (by exact congrArg Value.bool (decide_eq_true (congrArg Pt.num hy4))) (.int rfl rfl rfl)) rfl (.u (.pickT rfl rfl) (.an rfl (.sm rfl (.m rfl (.grun (t := 94) rfl rfl rfl (.m rfl (.u (.pickT rfl rfl) (.m rfl (.grun (t := 97) rfl rfl rfl (.u (.fieldAddr rfl fo_57_0) (.grun (t := 97) rfl rfl rfl (.u (.ld rfl ag_3) (.grun (t := 97) rfl rfl rfl (.q (.as (v' := .bool true) (by exact congrArg Value.bool (decide_eq_true (rfl))) (.int rfl rfl rfl)) rfl (.u (.pickT rfl rfl) (.m rfl (.grun (t := 102) rfl rfl rfl (.u (.fieldAddr rfl fo_57_1) (.grun (t := 102) rfl rfl rfl (.u (.ld rfl ag_3) (.grun (t := 102) rfl rfl rfl (.q (.as (v' := .bool true) (by exact congrArg Value.bool (decide_eq_true (rfl))) (.int rfl rfl rfl)) rfl ?_))))))))))))))))))))))))
 refine .u (.pickT rfl rfl) (.m rfl (.grun (t := 107) rfl rfl rfl (.u (.fieldAddr rfl fo_57_2) (.grun (t := 107) rfl rfl rfl (.u (.ld rfl ag_40) (.grun (t := 107) rfl rfl rfl (.q (.as (v' := .bool true) (by exact congrArg Value.bool (decide_eq_true (by show (if y4.kind = 8 then y4.err else 0) = 60; rw [if_pos (show y4.kind = 8 from congrArg Pt.kind hy4)]; exact congrArg Pt.err hy4))) (.int rfl rfl rfl)) rfl (.u (.pickT rfl rfl) (.m rfl (.grun (t := 112) rfl rfl rfl (.u (.fieldAddr rfl fo_57_8) (.grun (t := 112) rfl rfl rfl (.u (.ld rfl ag_55) (.grun (t := 112) rfl rfl rfl (.q (.slen rfl Tryz.underlying55 rfl) rfl (.grun (t := 112) rfl rfl rfl (.q (.as (v' := .bool true) (by exact congrArg Value.bool (decide_eq_true (rfl))) (.int rfl rfl rfl)) rfl (.u (.pickT rfl rfl) (.m rfl (.grun (t := 118) rfl rfl rfl (.u (.fieldAddr rfl fo_57_8) (.grun (t := 118) rfl rfl rfl (.u (.ld rfl ag_55) (.grun (t := 118) rfl rfl rfl (.q (.indexAddr rfl rfl el_55 (by omega)) rfl ?_)))))))))))))))))))))))))
 refine .grun (t := 118) rfl rfl rfl (.u (.fieldAddr rfl fo_57_2) (.grun (t := 118) rfl rfl rfl (.q (.loadRd (sz := 17) (j := 2) (ys := ([errR 111, errR 111, errR 60] : List Rp).flatMap rpC) (p := slR 57 17 (.slice (some ⟨bw, ow, none⟩) 3 cw) 3 ([errR 111, errR 111, errR 60].flatMap rpC)) (v := vint 111) rfl ag_40 (by repeat' constructor) (fun _ => slR_rd) (by simp; try omega) rfl) rfl (.grun (t := 118) rfl rfl rfl (.q (.as (v' := .bool true) (by exact congrArg Value.bool (decide_eq_true (rfl))) (.int rfl rfl rfl)) rfl (.u (.pickT rfl rfl) (.m rfl (.grun (t := 126) rfl rfl rfl (.u (.fieldAddr rfl fo_57_8) (.grun (t := 126) rfl rfl rfl (.u (.ld rfl ag_55) (.grun (t := 126) rfl rfl rfl (.q (.indexAddr rfl rfl el_55 (by omega)) rfl (.grun (t := 126) rfl rfl rfl (.u (.fieldAddr rfl fo_57_2) (.grun (t := 126) rfl rfl rfl (.q (.loadRd (sz := 17) (j := 36) (ys := ([errR 111, errR 111, errR 60] : List Rp).flatMap rpC) (p := slR 57 17 (.slice (some ⟨bw, ow, none⟩) 3 cw) 3 ([errR 111, errR 111, errR 60].flatMap rpC)) (v := vint 60) rfl ag_40 (by repeat' constructor) (fun _ => slR_rd) (by simp; try omega) rfl) rfl ?_)))))))))))))))))
 refine .grun (t := 126) rfl rfl rfl (.q (.as (v' := .bool true) (by exact congrArg Value.bool (decide_eq_true (rfl))) (.int rfl rfl rfl)) rfl (.u (.pickT rfl rfl) (.a rfl (.nil (.focus (p := (sep [slR 28 10 (.slice (some ⟨bs, 0, none⟩) 3 3) 3 ([rqD1 (.slice (some ⟨ba, 0, none⟩) 1 1), rqD2, rqD3].flatMap rqC), (sep [slR 85 2 (.slice (some ⟨ba, 0, none⟩) 1 1) 1 (acl31.flatMap acC), T0])])) (by repeat' constructor) (.unfold (q := [slR 28 10 (.slice (some ⟨bs, 0, none⟩) 3 3) 3 ([rqD1 (.slice (some ⟨ba, 0, none⟩) 1 1), rqD2, rqD3].flatMap rqC), (sep [slR 85 2 (.slice (some ⟨ba, 0, none⟩) 1 1) 1 (acl31.flatMap acC), T0])]) (fun _ h => h) (.focus (p := (sep [slR 85 2 (.slice (some ⟨ba, 0, none⟩) 1 1) 1 (acl31.flatMap acC), T0])) (by repeat' constructor) (.unfold (q := [slR 85 2 (.slice (some ⟨ba, 0, none⟩) 1 1) 1 (acl31.flatMap acC), T0]) (fun _ h => h) (.then_n (.ret ?_))))))))))
 exact .vv
def segsZ : Bs → List Bs
 | [] => []
 | _ :: r => splitZ r
def okZ (s : Bs) : Bool := decide (s.head? = some 47) && (segsZ s).all isNameZ
theorem seg_step {r : Bs} {k : Nat} (hk : k ≤ r.length) (h1 : ∀ j, j < k → r.getD j 0 ≠ 47) (h2 : k = r.length ∨ r.getD k 0 = 47) : splitZ r = r.take k :: segsZ (r.drop k) := by
 have hno : (47 : UInt8) ∉ r.take k := fun hm => by
  obtain ⟨i, hi, e⟩ := List.mem_iff_getElem.1 hm
  rw [List.length_take] at hi
  rw [List.getElem_take] at e
  refine h1 i (by omega) ?_
  rw [List.getD_eq_getElem?_getD, List.getElem?_eq_getElem (by omega), Option.getD_some]; exact e
 rcases Nat.lt_or_ge k r.length with hlt | hge
 ·have h3 : r[k] = 47 := by
   rcases h2 with h2 | h2
   ·omega
   ·rw [List.getD_eq_getElem?_getD, List.getElem?_eq_getElem hlt, Option.getD_some] at h2; exact h2
  have e : r = r.take k ++ 47 :: r.drop (k + 1) := by
   have := (List.take_append_drop k r).symm
   rw [List.drop_eq_getElem_cons hlt, h3] at this; exact this
  have e2 : r.drop k = 47 :: r.drop (k + 1) := by rw [List.drop_eq_getElem_cons hlt, h3]
  rw [e2]
  conv => lhs; rw [e]
  exact split_at hno
 ·have : k = r.length := by omega
  subst this
  rw [List.take_length] at hno ⊢
  rw [List.drop_length, split_none hno]; rfl
theorem check_ok {p : Bs} (h1 : p ≠ [47]) : checkZ p = if okZ p = true then (if p.length > 60 ∨ (segsZ p).length > 6 then 41 else 0) else 40 := by
 unfold checkZ
 rw [if_neg h1]
 cases p with
 | nil => decide
 | cons c r =>
  by_cases hc : c = 47
  ·subst hc
   have e : splitZ (47 :: r) = [] :: splitZ r := by rw [split_cons, if_pos rfl]
   have hne := splitZ_ne r
   rw [e]
   unfold okZ
   rw [show segsZ (47 :: r) = splitZ r from rfl]
   by_cases ha : (splitZ r).all isNameZ = true
   ·rw [if_neg, ha, if_pos (show (decide ((47 :: r).head? = some 47) && true) = true from by simp)]
    ·have e7 : ([] :: splitZ r).length = (splitZ r).length + 1 := rfl
     by_cases h60 : (47 :: r).length > 60 ∨ (splitZ r).length > 6
     ·rw [if_pos h60, if_pos (by rw [e7]; omega)]
     ·rw [if_neg h60, if_neg (by rw [e7]; omega)]
    ·simp only [List.head?_cons, List.tail_cons, List.length_cons]
     rintro (g | g | g)
     ·exact g rfl
     ·exact hne (List.eq_nil_of_length_eq_zero (by omega))
     ·rw [ha] at g; cases g
   ·rw [if_pos (.inr (.inr (by rw [List.tail_cons]; simpa using ha))), if_neg]
    simp; simpa using ha
  ·rw [if_pos, if_neg]
   ·unfold okZ; simp [hc]
   ·left
    rw [split_cons, if_neg hc]
    rcases e : splitZ r with _ | ⟨h, t⟩ <;> simp
theorem rletter_spec (c : UInt8) : Fn Tryz.prog 191 #[vbyte c] [] fun v L => v = .bool (letterB c) ∧ L = [] := by
 refine Fn.intro Tryz.func191 rfl rfl fun F W => ?_
 refine .sr (.an rfl (.sm rfl (.ui rfl rfl rfl (.m rfl (.dec (t := 5) rfl (fun h1_5 => ?_) (fun h1_5 => ?_))))))
 ·refine .kDT (t := 4) rfl h1_5 (.grun (t := 5) rfl rfl rfl (.m rfl (.grun (t := 5) rfl rfl rfl (.ui rfl rfl rfl (.u (.pickT rfl rfl) (.m rfl (.dec (t := 9) rfl (fun h1_9 => ?_) (fun h1_9 => ?_))))))))
  ·refine .kDT (t := 7) rfl h1_9 (.kDT (t := 8) rfl h1_9 (.gk (.gk (.gk (.gskipU (t := 12) rfl rfl rfl (.gskipU (t := 12) rfl rfl rfl (.gk (.u (.pickT rfl rfl) (.m rfl (.gk (.gk (.gk (.gskipU (t := 20) rfl rfl rfl (.gskipU (t := 20) rfl rfl rfl (.gk (.u (.pickT rfl rfl) (.m rfl (.gk (.gk (.u (.pickT rfl rfl) (.m rfl (.gk (.gk (.u (.pickT rfl rfl) (.m rfl (.gk (.gk (.u (.pickT rfl rfl) (.an rfl (.ret ?_))))))))))))))))))))))))))))))
   exact .dn rfl rfl ⟨by first | (rw [letter_of (by omega)]; done) | (rcases Decidable.em ((c.toNat : Int) = 46) with hd | hd; (rw [decide_eq_true hd, letter_of (by omega)]); (rw [decide_eq_false hd, letter_not (by omega)])), rfl⟩
  refine .kDF (t := 7) rfl h1_9 (.kDF (t := 8) rfl h1_9 (.grun (t := 9) rfl rfl rfl (.m rfl (.grun (t := 9) rfl rfl rfl (.ui rfl rfl rfl (.grun (t := 9) rfl rfl rfl (.m rfl (.dec (t := 12) rfl (fun h1_12 => ?_) (fun h1_12 => ?_)))))))))
  ·refine .kDT (t := 11) rfl h1_12 (.grun (t := 12) rfl rfl rfl (.m rfl (.grun (t := 12) rfl rfl rfl (.ui rfl rfl rfl (.grun (t := 9) rfl rfl rfl (.u (.pickT rfl rfl) (.u (.pickF rfl rfl) (.m rfl (.dec (t := 17) rfl (fun h1_17 => ?_) (fun h1_17 => ?_))))))))))
   ·refine .kDT (t := 14) rfl h1_17 (.kDT (t := 15) rfl h1_17 (.kDT (t := 16) rfl h1_17 (.gk (.gk (.gk (.gskipU (t := 20) rfl rfl rfl (.gskipU (t := 20) rfl rfl rfl (.gk (.u (.pickT rfl rfl) (.m rfl (.gk (.gk (.u (.pickT rfl rfl) (.m rfl (.gk (.gk (.u (.pickT rfl rfl) (.m rfl (.gk (.gk (.u (.pickT rfl rfl) (.an rfl (.ret ?_)))))))))))))))))))))))
    exact .dn rfl rfl ⟨by first | (rw [letter_of (by omega)]; done) | (rcases Decidable.em ((c.toNat : Int) = 46) with hd | hd; (rw [decide_eq_true hd, letter_of (by omega)]); (rw [decide_eq_false hd, letter_not (by omega)])), rfl⟩
   refine .kDF (t := 14) rfl h1_17 (.kDF (t := 15) rfl h1_17 (.kDF (t := 16) rfl h1_17 (.grun (t := 17) rfl rfl rfl (.m rfl (.grun (t := 17) rfl rfl rfl (.ui rfl rfl rfl (.grun (t := 17) rfl rfl rfl (.m rfl (.dec (t := 20) rfl (fun h1_20 => ?_) (fun h1_20 => ?_))))))))))
   ·refine .kDT (t := 19) rfl h1_20 (.grun (t := 20) rfl rfl rfl (.m rfl (.grun (t := 20) rfl rfl rfl (.ui rfl rfl rfl (.grun (t := 17) rfl rfl rfl (.u (.pickT rfl rfl) (.u (.pickF rfl rfl) (.m rfl (.dec (t := 25) rfl (fun h1_25 => ?_) (fun h1_25 => ?_))))))))))
    ·refine .kDT (t := 22) rfl h1_25 (.kDT (t := 23) rfl h1_25 (.kDT (t := 24) rfl h1_25 (.gk (.gk (.u (.pickT rfl rfl) (.m rfl (.gk (.gk (.u (.pickT rfl rfl) (.m rfl (.gk (.gk (.u (.pickT rfl rfl) (.an rfl (.ret ?_)))))))))))))))
     exact .dn rfl rfl ⟨by first | (rw [letter_of (by omega)]; done) | (rcases Decidable.em ((c.toNat : Int) = 46) with hd | hd; (rw [decide_eq_true hd, letter_of (by omega)]); (rw [decide_eq_false hd, letter_not (by omega)])), rfl⟩
    refine .kDF (t := 22) rfl h1_25 (.kDF (t := 23) rfl h1_25 (.kDF (t := 24) rfl h1_25 (.grun (t := 25) rfl rfl rfl (.m rfl (.grun (t := 25) rfl rfl rfl (.ui rfl rfl rfl (.u (.pickF rfl rfl) (.m rfl (.dec (t := 29) rfl (fun h1_29 => ?_) (fun h1_29 => ?_))))))))))
    ·refine .kDT (t := 27) rfl h1_29 (.kDT (t := 28) rfl h1_29 (.gk (.gk (.u (.pickT rfl rfl) (.m rfl (.gk (.gk (.u (.pickT rfl rfl) (.an rfl (.ret ?_))))))))))
     exact .dn rfl rfl ⟨by first | (rw [letter_of (by omega)]; done) | (rcases Decidable.em ((c.toNat : Int) = 46) with hd | hd; (rw [decide_eq_true hd, letter_of (by omega)]); (rw [decide_eq_false hd, letter_not (by omega)])), rfl⟩
    refine .kDF (t := 27) rfl h1_29 (.kDF (t := 28) rfl h1_29 (.grun (t := 29) rfl rfl rfl (.m rfl (.grun (t := 29) rfl rfl rfl (.ui rfl rfl rfl (.u (.pickF rfl rfl) (.m rfl (.dec (t := 33) rfl (fun h1_33 => ?_) (fun h1_33 => ?_)))))))))
    ·refine .kDT (t := 31) rfl h1_33 (.kDT (t := 32) rfl h1_33 (.gk (.gk (.u (.pickT rfl rfl) (.an rfl (.ret ?_))))))
     exact .dn rfl rfl ⟨by first | (rw [letter_of (by omega)]; done) | (rcases Decidable.em ((c.toNat : Int) = 46) with hd | hd; (rw [decide_eq_true hd, letter_of (by omega)]); (rw [decide_eq_false hd, letter_not (by omega)])), rfl⟩
    refine .kDF (t := 31) rfl h1_33 (.kDF (t := 32) rfl h1_33 (.grun (t := 33) rfl rfl rfl (.m rfl (.grun (t := 33) rfl rfl rfl (.ui rfl rfl rfl (.u (.pickF rfl rfl) (.an rfl (.ret ?_))))))))
    exact .dn rfl rfl ⟨by first | (rw [letter_of (by omega)]; done) | (rcases Decidable.em ((c.toNat : Int) = 46) with hd | hd; (rw [decide_eq_true hd, letter_of (by omega)]); (rw [decide_eq_false hd, letter_not (by omega)])), rfl⟩
   refine .kDF (t := 19) rfl h1_20 (.gk (.gk (.grun (t := 17) rfl rfl rfl (.u (.pickF rfl rfl) (.u (.pickF rfl rfl) (.m rfl (.grun (t := 25) rfl rfl rfl (.m rfl (.grun (t := 25) rfl rfl rfl (.ui rfl rfl rfl (.u (.pickF rfl rfl) (.m rfl (.dec (t := 29) rfl (fun h1_29 => ?_) (fun h1_29 => ?_))))))))))))))
   ·refine .kDT (t := 27) rfl h1_29 (.kDT (t := 28) rfl h1_29 (.gk (.gk (.u (.pickT rfl rfl) (.m rfl (.gk (.gk (.u (.pickT rfl rfl) (.an rfl (.ret ?_))))))))))
    exact .dn rfl rfl ⟨by first | (rw [letter_of (by omega)]; done) | (rcases Decidable.em ((c.toNat : Int) = 46) with hd | hd; (rw [decide_eq_true hd, letter_of (by omega)]); (rw [decide_eq_false hd, letter_not (by omega)])), rfl⟩
   refine .kDF (t := 27) rfl h1_29 (.kDF (t := 28) rfl h1_29 (.grun (t := 29) rfl rfl rfl (.m rfl (.grun (t := 29) rfl rfl rfl (.ui rfl rfl rfl (.u (.pickF rfl rfl) (.m rfl (.dec (t := 33) rfl (fun h1_33 => ?_) (fun h1_33 => ?_)))))))))
   ·refine .kDT (t := 31) rfl h1_33 (.kDT (t := 32) rfl h1_33 (.gk (.gk (.u (.pickT rfl rfl) (.an rfl (.ret ?_))))))
    exact .dn rfl rfl ⟨by first | (rw [letter_of (by omega)]; done) | (rcases Decidable.em ((c.toNat : Int) = 46) with hd | hd; (rw [decide_eq_true hd, letter_of (by omega)]); (rw [decide_eq_false hd, letter_not (by omega)])), rfl⟩
   refine .kDF (t := 31) rfl h1_33 (.kDF (t := 32) rfl h1_33 (.grun (t := 33) rfl rfl rfl (.m rfl (.grun (t := 33) rfl rfl rfl (.ui rfl rfl rfl (.u (.pickF rfl rfl) (.an rfl (.ret ?_))))))))
   exact .dn rfl rfl ⟨by first | (rw [letter_of (by omega)]; done) | (rcases Decidable.em ((c.toNat : Int) = 46) with hd | hd; (rw [decide_eq_true hd, letter_of (by omega)]); (rw [decide_eq_false hd, letter_not (by omega)])), rfl⟩
  refine .kDF (t := 11) rfl h1_12 (.gk (.gk (.grun (t := 9) rfl rfl rfl (.u (.pickF rfl rfl) (.u (.pickF rfl rfl) (.m rfl (.grun (t := 17) rfl rfl rfl (.m rfl (.grun (t := 17) rfl rfl rfl (.ui rfl rfl rfl (.grun (t := 17) rfl rfl rfl (.m rfl (.dec (t := 20) rfl (fun h1_20 => ?_) (fun h1_20 => ?_))))))))))))))
  ·refine .kDT (t := 19) rfl h1_20 (.grun (t := 20) rfl rfl rfl (.m rfl (.grun (t := 20) rfl rfl rfl (.ui rfl rfl rfl (.grun (t := 17) rfl rfl rfl (.u (.pickT rfl rfl) (.u (.pickF rfl rfl) (.m rfl (.dec (t := 25) rfl (fun h1_25 => ?_) (fun h1_25 => ?_))))))))))
   ·refine .kDT (t := 22) rfl h1_25 (.kDT (t := 23) rfl h1_25 (.kDT (t := 24) rfl h1_25 (.gk (.gk (.u (.pickT rfl rfl) (.m rfl (.gk (.gk (.u (.pickT rfl rfl) (.m rfl (.gk (.gk (.u (.pickT rfl rfl) (.an rfl (.ret ?_)))))))))))))))
    exact .dn rfl rfl ⟨by first | (rw [letter_of (by omega)]; done) | (rcases Decidable.em ((c.toNat : Int) = 46) with hd | hd; (rw [decide_eq_true hd, letter_of (by omega)]); (rw [decide_eq_false hd, letter_not (by omega)])), rfl⟩
   refine .kDF (t := 22) rfl h1_25 (.kDF (t := 23) rfl h1_25 (.kDF (t := 24) rfl h1_25 (.grun (t := 25) rfl rfl rfl (.m rfl (.grun (t := 25) rfl rfl rfl (.ui rfl rfl rfl (.u (.pickF rfl rfl) (.m rfl (.dec (t := 29) rfl (fun h1_29 => ?_) (fun h1_29 => ?_))))))))))
   ·refine .kDT (t := 27) rfl h1_29 (.kDT (t := 28) rfl h1_29 (.gk (.gk (.u (.pickT rfl rfl) (.m rfl (.gk (.gk (.u (.pickT rfl rfl) (.an rfl (.ret ?_))))))))))
    exact .dn rfl rfl ⟨by first | (rw [letter_of (by omega)]; done) | (rcases Decidable.em ((c.toNat : Int) = 46) with hd | hd; (rw [decide_eq_true hd, letter_of (by omega)]); (rw [decide_eq_false hd, letter_not (by omega)])), rfl⟩
   refine .kDF (t := 27) rfl h1_29 (.kDF (t := 28) rfl h1_29 (.grun (t := 29) rfl rfl rfl (.m rfl (.grun (t := 29) rfl rfl rfl (.ui rfl rfl rfl (.u (.pickF rfl rfl) (.m rfl (.dec (t := 33) rfl (fun h1_33 => ?_) (fun h1_33 => ?_)))))))))
   ·refine .kDT (t := 31) rfl h1_33 (.kDT (t := 32) rfl h1_33 (.gk (.gk (.u (.pickT rfl rfl) (.an rfl (.ret ?_))))))
    exact .dn rfl rfl ⟨by first | (rw [letter_of (by omega)]; done) | (rcases Decidable.em ((c.toNat : Int) = 46) with hd | hd; (rw [decide_eq_true hd, letter_of (by omega)]); (rw [decide_eq_false hd, letter_not (by omega)])), rfl⟩
   refine .kDF (t := 31) rfl h1_33 (.kDF (t := 32) rfl h1_33 (.grun (t := 33) rfl rfl rfl (.m rfl (.grun (t := 33) rfl rfl rfl (.ui rfl rfl rfl (.u (.pickF rfl rfl) (.an rfl (.ret ?_))))))))
   exact .dn rfl rfl ⟨by first | (rw [letter_of (by omega)]; done) | (rcases Decidable.em ((c.toNat : Int) = 46) with hd | hd; (rw [decide_eq_true hd, letter_of (by omega)]); (rw [decide_eq_false hd, letter_not (by omega)])), rfl⟩
  refine .kDF (t := 19) rfl h1_20 (.gk (.gk (.grun (t := 17) rfl rfl rfl (.u (.pickF rfl rfl) (.u (.pickF rfl rfl) (.m rfl (.grun (t := 25) rfl rfl rfl (.m rfl (.grun (t := 25) rfl rfl rfl (.ui rfl rfl rfl (.u (.pickF rfl rfl) (.m rfl (.dec (t := 29) rfl (fun h1_29 => ?_) (fun h1_29 => ?_))))))))))))))
  ·refine .kDT (t := 27) rfl h1_29 (.kDT (t := 28) rfl h1_29 (.gk (.gk (.u (.pickT rfl rfl) (.m rfl (.gk (.gk (.u (.pickT rfl rfl) (.an rfl (.ret ?_))))))))))
   exact .dn rfl rfl ⟨by first | (rw [letter_of (by omega)]; done) | (rcases Decidable.em ((c.toNat : Int) = 46) with hd | hd; (rw [decide_eq_true hd, letter_of (by omega)]); (rw [decide_eq_false hd, letter_not (by omega)])), rfl⟩
  refine .kDF (t := 27) rfl h1_29 (.kDF (t := 28) rfl h1_29 (.grun (t := 29) rfl rfl rfl (.m rfl (.grun (t := 29) rfl rfl rfl (.ui rfl rfl rfl (.u (.pickF rfl rfl) (.m rfl (.dec (t := 33) rfl (fun h1_33 => ?_) (fun h1_33 => ?_)))))))))
  ·refine .kDT (t := 31) rfl h1_33 (.kDT (t := 32) rfl h1_33 (.gk (.gk (.u (.pickT rfl rfl) (.an rfl (.ret ?_))))))
   exact .dn rfl rfl ⟨by first | (rw [letter_of (by omega)]; done) | (rcases Decidable.em ((c.toNat : Int) = 46) with hd | hd; (rw [decide_eq_true hd, letter_of (by omega)]); (rw [decide_eq_false hd, letter_not (by omega)])), rfl⟩
  refine .kDF (t := 31) rfl h1_33 (.kDF (t := 32) rfl h1_33 (.grun (t := 33) rfl rfl rfl (.m rfl (.grun (t := 33) rfl rfl rfl (.ui rfl rfl rfl (.u (.pickF rfl rfl) (.an rfl (.ret ?_))))))))
  exact .dn rfl rfl ⟨by first | (rw [letter_of (by omega)]; done) | (rcases Decidable.em ((c.toNat : Int) = 46) with hd | hd; (rw [decide_eq_true hd, letter_of (by omega)]); (rw [decide_eq_false hd, letter_not (by omega)])), rfl⟩
 refine .kDF (t := 4) rfl h1_5 (.gk (.gk (.u (.pickF rfl rfl) (.m rfl (.grun (t := 9) rfl rfl rfl (.m rfl (.grun (t := 9) rfl rfl rfl (.ui rfl rfl rfl (.grun (t := 9) rfl rfl rfl (.m rfl (.dec (t := 12) rfl (fun h1_12 => ?_) (fun h1_12 => ?_))))))))))))
 ·refine .kDT (t := 11) rfl h1_12 (.grun (t := 12) rfl rfl rfl (.m rfl (.grun (t := 12) rfl rfl rfl (.ui rfl rfl rfl (.grun (t := 9) rfl rfl rfl (.u (.pickT rfl rfl) (.u (.pickF rfl rfl) (.m rfl (.dec (t := 17) rfl (fun h1_17 => ?_) (fun h1_17 => ?_))))))))))
  ·refine .kDT (t := 14) rfl h1_17 (.kDT (t := 15) rfl h1_17 (.kDT (t := 16) rfl h1_17 (.gk (.gk (.gk (.gskipU (t := 20) rfl rfl rfl (.gskipU (t := 20) rfl rfl rfl (.gk (.u (.pickT rfl rfl) (.m rfl (.gk (.gk (.u (.pickT rfl rfl) (.m rfl (.gk (.gk (.u (.pickT rfl rfl) (.m rfl (.gk (.gk (.u (.pickT rfl rfl) (.an rfl (.ret ?_)))))))))))))))))))))))
   exact .dn rfl rfl ⟨by first | (rw [letter_of (by omega)]; done) | (rcases Decidable.em ((c.toNat : Int) = 46) with hd | hd; (rw [decide_eq_true hd, letter_of (by omega)]); (rw [decide_eq_false hd, letter_not (by omega)])), rfl⟩
  refine .kDF (t := 14) rfl h1_17 (.kDF (t := 15) rfl h1_17 (.kDF (t := 16) rfl h1_17 (.grun (t := 17) rfl rfl rfl (.m rfl (.grun (t := 17) rfl rfl rfl (.ui rfl rfl rfl (.grun (t := 17) rfl rfl rfl (.m rfl (.dec (t := 20) rfl (fun h1_20 => ?_) (fun h1_20 => ?_))))))))))
  ·refine .kDT (t := 19) rfl h1_20 (.grun (t := 20) rfl rfl rfl (.m rfl (.grun (t := 20) rfl rfl rfl (.ui rfl rfl rfl (.grun (t := 17) rfl rfl rfl (.u (.pickT rfl rfl) (.u (.pickF rfl rfl) (.m rfl (.dec (t := 25) rfl (fun h1_25 => ?_) (fun h1_25 => ?_))))))))))
   ·refine .kDT (t := 22) rfl h1_25 (.kDT (t := 23) rfl h1_25 (.kDT (t := 24) rfl h1_25 (.gk (.gk (.u (.pickT rfl rfl) (.m rfl (.gk (.gk (.u (.pickT rfl rfl) (.m rfl (.gk (.gk (.u (.pickT rfl rfl) (.an rfl (.ret ?_)))))))))))))))
    exact .dn rfl rfl ⟨by first | (rw [letter_of (by omega)]; done) | (rcases Decidable.em ((c.toNat : Int) = 46) with hd | hd; (rw [decide_eq_true hd, letter_of (by omega)]); (rw [decide_eq_false hd, letter_not (by omega)])), rfl⟩
   refine .kDF (t := 22) rfl h1_25 (.kDF (t := 23) rfl h1_25 (.kDF (t := 24) rfl h1_25 (.grun (t := 25) rfl rfl rfl (.m rfl (.grun (t := 25) rfl rfl rfl (.ui rfl rfl rfl (.u (.pickF rfl rfl) (.m rfl (.dec (t := 29) rfl (fun h1_29 => ?_) (fun h1_29 => ?_))))))))))
   ·refine .kDT (t := 27) rfl h1_29 (.kDT (t := 28) rfl h1_29 (.gk (.gk (.u (.pickT rfl rfl) (.m rfl (.gk (.gk (.u (.pickT rfl rfl) (.an rfl (.ret ?_))))))))))
    exact .dn rfl rfl ⟨by first | (rw [letter_of (by omega)]; done) | (rcases Decidable.em ((c.toNat : Int) = 46) with hd | hd; (rw [decide_eq_true hd, letter_of (by omega)]); (rw [decide_eq_false hd, letter_not (by omega)])), rfl⟩
   refine .kDF (t := 27) rfl h1_29 (.kDF (t := 28) rfl h1_29 (.grun (t := 29) rfl rfl rfl (.m rfl (.grun (t := 29) rfl rfl rfl (.ui rfl rfl rfl (.u (.pickF rfl rfl) (.m rfl (.dec (t := 33) rfl (fun h1_33 => ?_) (fun h1_33 => ?_)))))))))
   ·refine .kDT (t := 31) rfl h1_33 (.kDT (t := 32) rfl h1_33 (.gk (.gk (.u (.pickT rfl rfl) (.an rfl (.ret ?_))))))
    exact .dn rfl rfl ⟨by first | (rw [letter_of (by omega)]; done) | (rcases Decidable.em ((c.toNat : Int) = 46) with hd | hd; (rw [decide_eq_true hd, letter_of (by omega)]); (rw [decide_eq_false hd, letter_not (by omega)])), rfl⟩
   refine .kDF (t := 31) rfl h1_33 (.kDF (t := 32) rfl h1_33 (.grun (t := 33) rfl rfl rfl (.m rfl (.grun (t := 33) rfl rfl rfl (.ui rfl rfl rfl (.u (.pickF rfl rfl) (.an rfl (.ret ?_))))))))
   exact .dn rfl rfl ⟨by first | (rw [letter_of (by omega)]; done) | (rcases Decidable.em ((c.toNat : Int) = 46) with hd | hd; (rw [decide_eq_true hd, letter_of (by omega)]); (rw [decide_eq_false hd, letter_not (by omega)])), rfl⟩
  refine .kDF (t := 19) rfl h1_20 (.gk (.gk (.grun (t := 17) rfl rfl rfl (.u (.pickF rfl rfl) (.u (.pickF rfl rfl) (.m rfl (.grun (t := 25) rfl rfl rfl (.m rfl (.grun (t := 25) rfl rfl rfl (.ui rfl rfl rfl (.u (.pickF rfl rfl) (.m rfl (.dec (t := 29) rfl (fun h1_29 => ?_) (fun h1_29 => ?_))))))))))))))
  ·refine .kDT (t := 27) rfl h1_29 (.kDT (t := 28) rfl h1_29 (.gk (.gk (.u (.pickT rfl rfl) (.m rfl (.gk (.gk (.u (.pickT rfl rfl) (.an rfl (.ret ?_))))))))))
   exact .dn rfl rfl ⟨by first | (rw [letter_of (by omega)]; done) | (rcases Decidable.em ((c.toNat : Int) = 46) with hd | hd; (rw [decide_eq_true hd, letter_of (by omega)]); (rw [decide_eq_false hd, letter_not (by omega)])), rfl⟩
  refine .kDF (t := 27) rfl h1_29 (.kDF (t := 28) rfl h1_29 (.grun (t := 29) rfl rfl rfl (.m rfl (.grun (t := 29) rfl rfl rfl (.ui rfl rfl rfl (.u (.pickF rfl rfl) (.m rfl (.dec (t := 33) rfl (fun h1_33 => ?_) (fun h1_33 => ?_)))))))))
  ·refine .kDT (t := 31) rfl h1_33 (.kDT (t := 32) rfl h1_33 (.gk (.gk (.u (.pickT rfl rfl) (.an rfl (.ret ?_))))))
   exact .dn rfl rfl ⟨by first | (rw [letter_of (by omega)]; done) | (rcases Decidable.em ((c.toNat : Int) = 46) with hd | hd; (rw [decide_eq_true hd, letter_of (by omega)]); (rw [decide_eq_false hd, letter_not (by omega)])), rfl⟩
  refine .kDF (t := 31) rfl h1_33 (.kDF (t := 32) rfl h1_33 (.grun (t := 33) rfl rfl rfl (.m rfl (.grun (t := 33) rfl rfl rfl (.ui rfl rfl rfl (.u (.pickF rfl rfl) (.an rfl (.ret ?_))))))))
  exact .dn rfl rfl ⟨by first | (rw [letter_of (by omega)]; done) | (rcases Decidable.em ((c.toNat : Int) = 46) with hd | hd; (rw [decide_eq_true hd, letter_of (by omega)]); (rw [decide_eq_false hd, letter_not (by omega)])), rfl⟩
 refine .kDF (t := 11) rfl h1_12 (.gk (.gk (.grun (t := 9) rfl rfl rfl (.u (.pickF rfl rfl) (.u (.pickF rfl rfl) (.m rfl (.grun (t := 17) rfl rfl rfl (.m rfl (.grun (t := 17) rfl rfl rfl (.ui rfl rfl rfl (.grun (t := 17) rfl rfl rfl (.m rfl (.dec (t := 20) rfl (fun h1_20 => ?_) (fun h1_20 => ?_))))))))))))))
 ·refine .kDT (t := 19) rfl h1_20 (.grun (t := 20) rfl rfl rfl (.m rfl (.grun (t := 20) rfl rfl rfl (.ui rfl rfl rfl (.grun (t := 17) rfl rfl rfl (.u (.pickT rfl rfl) (.u (.pickF rfl rfl) (.m rfl (.dec (t := 25) rfl (fun h1_25 => ?_) (fun h1_25 => ?_))))))))))
  ·refine .kDT (t := 22) rfl h1_25 (.kDT (t := 23) rfl h1_25 (.kDT (t := 24) rfl h1_25 (.gk (.gk (.u (.pickT rfl rfl) (.m rfl (.gk (.gk (.u (.pickT rfl rfl) (.m rfl (.gk (.gk (.u (.pickT rfl rfl) (.an rfl (.ret ?_)))))))))))))))
   exact .dn rfl rfl ⟨by first | (rw [letter_of (by omega)]; done) | (rcases Decidable.em ((c.toNat : Int) = 46) with hd | hd; (rw [decide_eq_true hd, letter_of (by omega)]); (rw [decide_eq_false hd, letter_not (by omega)])), rfl⟩
  refine .kDF (t := 22) rfl h1_25 (.kDF (t := 23) rfl h1_25 (.kDF (t := 24) rfl h1_25 (.grun (t := 25) rfl rfl rfl (.m rfl (.grun (t := 25) rfl rfl rfl (.ui rfl rfl rfl (.u (.pickF rfl rfl) (.m rfl (.dec (t := 29) rfl (fun h1_29 => ?_) (fun h1_29 => ?_))))))))))
  ·refine .kDT (t := 27) rfl h1_29 (.kDT (t := 28) rfl h1_29 (.gk (.gk (.u (.pickT rfl rfl) (.m rfl (.gk (.gk (.u (.pickT rfl rfl) (.an rfl (.ret ?_))))))))))
   exact .dn rfl rfl ⟨by first | (rw [letter_of (by omega)]; done) | (rcases Decidable.em ((c.toNat : Int) = 46) with hd | hd; (rw [decide_eq_true hd, letter_of (by omega)]); (rw [decide_eq_false hd, letter_not (by omega)])), rfl⟩
  refine .kDF (t := 27) rfl h1_29 (.kDF (t := 28) rfl h1_29 (.grun (t := 29) rfl rfl rfl (.m rfl (.grun (t := 29) rfl rfl rfl (.ui rfl rfl rfl (.u (.pickF rfl rfl) (.m rfl (.dec (t := 33) rfl (fun h1_33 => ?_) (fun h1_33 => ?_)))))))))
  ·refine .kDT (t := 31) rfl h1_33 (.kDT (t := 32) rfl h1_33 (.gk (.gk (.u (.pickT rfl rfl) (.an rfl (.ret ?_))))))
   exact .dn rfl rfl ⟨by first | (rw [letter_of (by omega)]; done) | (rcases Decidable.em ((c.toNat : Int) = 46) with hd | hd; (rw [decide_eq_true hd, letter_of (by omega)]); (rw [decide_eq_false hd, letter_not (by omega)])), rfl⟩
  refine .kDF (t := 31) rfl h1_33 (.kDF (t := 32) rfl h1_33 (.grun (t := 33) rfl rfl rfl (.m rfl (.grun (t := 33) rfl rfl rfl (.ui rfl rfl rfl (.u (.pickF rfl rfl) (.an rfl (.ret ?_))))))))
  exact .dn rfl rfl ⟨by first | (rw [letter_of (by omega)]; done) | (rcases Decidable.em ((c.toNat : Int) = 46) with hd | hd; (rw [decide_eq_true hd, letter_of (by omega)]); (rw [decide_eq_false hd, letter_not (by omega)])), rfl⟩
 refine .kDF (t := 19) rfl h1_20 (.gk (.gk (.grun (t := 17) rfl rfl rfl (.u (.pickF rfl rfl) (.u (.pickF rfl rfl) (.m rfl (.grun (t := 25) rfl rfl rfl (.m rfl (.grun (t := 25) rfl rfl rfl (.ui rfl rfl rfl (.u (.pickF rfl rfl) (.m rfl (.dec (t := 29) rfl (fun h1_29 => ?_) (fun h1_29 => ?_))))))))))))))
 ·refine .kDT (t := 27) rfl h1_29 (.kDT (t := 28) rfl h1_29 (.gk (.gk (.u (.pickT rfl rfl) (.m rfl (.gk (.gk (.u (.pickT rfl rfl) (.an rfl (.ret ?_))))))))))
  exact .dn rfl rfl ⟨by first | (rw [letter_of (by omega)]; done) | (rcases Decidable.em ((c.toNat : Int) = 46) with hd | hd; (rw [decide_eq_true hd, letter_of (by omega)]); (rw [decide_eq_false hd, letter_not (by omega)])), rfl⟩
 refine .kDF (t := 27) rfl h1_29 (.kDF (t := 28) rfl h1_29 (.grun (t := 29) rfl rfl rfl (.m rfl (.grun (t := 29) rfl rfl rfl (.ui rfl rfl rfl (.u (.pickF rfl rfl) (.m rfl (.dec (t := 33) rfl (fun h1_33 => ?_) (fun h1_33 => ?_)))))))))
 ·refine .kDT (t := 31) rfl h1_33 (.kDT (t := 32) rfl h1_33 (.gk (.gk (.u (.pickT rfl rfl) (.an rfl (.ret ?_))))))
  exact .dn rfl rfl ⟨by first | (rw [letter_of (by omega)]; done) | (rcases Decidable.em ((c.toNat : Int) = 46) with hd | hd; (rw [decide_eq_true hd, letter_of (by omega)]); (rw [decide_eq_false hd, letter_not (by omega)])), rfl⟩
 refine .kDF (t := 31) rfl h1_33 (.kDF (t := 32) rfl h1_33 (.grun (t := 33) rfl rfl rfl (.m rfl (.grun (t := 33) rfl rfl rfl (.ui rfl rfl rfl (.u (.pickF rfl rfl) (.an rfl (.ret ?_))))))))
 exact .dn rfl rfl ⟨by first | (rw [letter_of (by omega)]; done) | (rcases Decidable.em ((c.toNat : Int) = 46) with hd | hd; (rw [decide_eq_true hd, letter_of (by omega)]); (rw [decide_eq_false hd, letter_not (by omega)])), rfl⟩
theorem risname_spec (s : Bs) (hs : s.length ≤ 1099511627776) : Fn Tryz.prog 136 #[vstr s] [] fun v L => v = .bool (isNameZ s) ∧ L = [] := by
 refine Fn.intro Tryz.func136 rfl rfl fun F W => ?_
 have hbs := bs_size s
 refine .sr (.an rfl (.seq (.sm rfl (.u (.streq rfl rfl) (.m rfl (.dec (t := 7) rfl (fun h1_7 => ?_) (fun h1_7 => ?_)))))))
 ·refine .kDT (t := 6) rfl h1_7 (.gk (.gk (.u (.pickT rfl rfl) (.m rfl (.gk (.gk (.u (.pickT rfl rfl) (.nt (.condT rfl (.sr (.an rfl (.rt ?_))))))))))))
  exact .dn rfl rfl ⟨by rw [show isNameZ s = false by unfold isNameZ; first | (rw [show s = [] from by assumption]; rfl) | (rw [show s = [46] from by assumption]; rfl) | (rw [show s = [46, 46] from by assumption]; rfl)], rfl⟩
 refine .kDF (t := 6) rfl h1_7 (.grun (t := 7) rfl rfl rfl (.m rfl (.grun (t := 7) rfl rfl rfl (.u (.streq rfl rfl) (.u (.pickF rfl rfl) (.m rfl (.dec (t := 11) rfl (fun h1_11 => ?_) (fun h1_11 => ?_))))))))
 ·refine .kDT (t := 9) rfl h1_11 (.kDT (t := 10) rfl h1_11 (.gk (.gk (.u (.pickT rfl rfl) (.nt (.condT rfl (.sr (.an rfl (.rt ?_)))))))))
  exact .dn rfl rfl ⟨by rw [show isNameZ s = false by unfold isNameZ; first | (rw [show s = [] from by assumption]; rfl) | (rw [show s = [46] from by assumption]; rfl) | (rw [show s = [46, 46] from by assumption]; rfl)], rfl⟩
 refine .kDF (t := 9) rfl h1_11 (.kDF (t := 10) rfl h1_11 (.grun (t := 11) rfl rfl rfl (.m rfl (.grun (t := 11) rfl rfl rfl (.u (.streq rfl rfl) (.u (.pickF rfl rfl) (.nt (.condD rfl (fun h14 => ?_) (fun h14 => ?_)))))))))
 ·refine .sr (.an rfl (.rt ?_))
  exact .dn rfl rfl ⟨by rw [show isNameZ s = false by unfold isNameZ; first | (rw [show s = [] from by assumption]; rfl) | (rw [show s = [46] from by assumption]; rfl) | (rw [show s = [46, 46] from by assumption]; rfl)], rfl⟩
 refine .sk (.seq (.sr (.an rfl (.block (.loopK (ι := Nat) (fun q E => (3, vint q) :: E) (fun q => []) (fun q => q ≤ s.length ∧ (s.take q).all letterB = true) (fun q => s.length - q) (0) (ts := [0]) (.cons rfl (.nil)) (⟨Nat.zero_le _, rfl⟩) ⟨rfl, rfl, trivial⟩ (by repeat' constructor) ?_)))))
 rintro i ⟨hi, hall⟩
 refine .seq (.sm rfl (.m rfl (.q (.strlen rfl Tryz.underlying9 rfl) rfl (.ui rfl rfl rfl (.nt (.condD rfl (fun h18 => ?_) (fun h18 => ?_)))))))
 ·have hi2 : i < s.length := by omega
  refine .sk (.seq (.block (.sm rfl (.m rfl (.q (.strIndex (c := s[i]) rfl rfl Tryz.underlying9 (by omega) (by simp)) rfl (.cv Tryz.func191 [_] (rletter_spec _) ?_))))))
  refine .an rfl (.sm rfl (.u (.not rfl) (.nt (.condB rfl (fun h26 => ?_) (fun h26 => ?_)))))
  ·refine .sr (.an rfl (.ret (.blk_r (.then_r (.then_r (.blk_r (.then_r ?_)))))))
   exact .dn rfl rfl ⟨by rw [name_bad hi2 (by simpa using h26)], rfl⟩
  refine .skip (.blk_n (.then_n (.region (.m rfl (.q (.add rfl rfl (by omega)) rfl (.an rfl ?_))))))
  exact .rk (i + 1) (⟨by omega, all_next hi2 hall (by simpa using h26)⟩) (by omega) ⟨rfl, rfl, trivial⟩
 have hii : i = s.length := by omega
 rw [hii, List.take_length] at hall
 refine .exit (.then_e (.then_e (.blk_e (.then_n (.sr (.an rfl (.ret ?_)))))))
 exact .dn rfl rfl ⟨by rw [show isNameZ s = true by unfold isNameZ; rw [decide_eq_false h1_7, decide_eq_false h1_11, decide_eq_false h14, hall]; rfl], rfl⟩
theorem rnames_spec (s : Bs) (hs : s.length ≤ 1099511627776) : Fn Tryz.prog 85 #[vstr s] [] fun v L => ∃ (n : Nat) (b : Bool), (∃ a c, v = .tuple #[.slice a n c, .bool b]) ∧ b = okZ s ∧ (b = true → n = (segsZ s).length) ∧ L = [] := by
 refine Fn.intro Tryz.func85 rfl rfl fun F W => ?_
 refine .add (slR_nil 9 1) (.sr (.a rfl (.an rfl (.sr (.an rfl (.seq (.block (.loopK (ι := Bs × Value × (List Bs)) (fun q E => (0, vstr q.1) :: (4, q.2.1) :: E) (fun q => [slR 9 1 q.2.1 q.2.2.length (strs q.2.2)]) (fun q => (∃ a c, q.2.1 = .slice a q.2.2.length c) ∧ q.2.2.all isNameZ = true ∧ segsZ s = q.2.2 ++ segsZ q.1 ∧ q.1.length + q.2.2.length ≤ s.length ∧ (q.2.2 = [] → q.1 = s) ∧ (q.2.2 ≠ [] → s.head? = some 47 ∧ (q.1 = [] ∨ q.1.head? = some 47))) (fun q => q.1.length) (s, .slice none 0 0, []) (ts := []) (.nil) (⟨⟨none, 0, rfl⟩, rfl, rfl, by simp, fun _ => rfl, fun h => absurd rfl h⟩) ⟨rfl, rfl, trivial⟩ (by repeat' constructor) ?_))))))))
 rintro ⟨cur, u, acc⟩ ⟨⟨au, cu, hu⟩, hall, hseg, hcl, hfst, hrest⟩
 dsimp only
 dsimp only at hu hall hseg hcl hfst hrest
 subst hu
 have hbs := bs_size cur
 refine .seq (.sm rfl (.u (.strne rfl rfl) (.nt (.condN rfl (fun h8 => ?_) (fun h8 => ?_)))))
 ·obtain ⟨c0, r, rfl⟩ : ∃ c0 r, cur = c0 :: r := by cases cur with | nil => exact absurd rfl h8 | cons c r => exact ⟨c, r, rfl⟩
  have hrl : (c0 :: r).length = r.length + 1 := rfl
  refine .sk (.block (.seq (.sm rfl (.q (.strIndex (c := c0) rfl rfl Tryz.underlying9 (by omega) (by simp)) rfl (.ui rfl rfl rfl (.nt (.condN rfl (fun h11 => ?_) (fun h11 => ?_))))))))
  ·refine .sr (.a rfl (.an rfl (.rt (.blk_r (.then_r (.blk_r (.then_r ?_)))))))
   exact .dn rfl rfl ⟨_, _, ⟨_, _, rfl⟩, (by rw [show okZ s = false by unfold okZ; rcases acc with _ | ⟨x, l⟩; (rw [← hfst rfl]; simp; intro e; exact absurd (by rw [e]; rfl) h11); (obtain ⟨-, g⟩ := hrest (by simp); rcases g with g | g; (cases g); (simp at g; exact absurd (by rw [g]; rfl) h11))]), (fun h => by cases h), rfl⟩
  have hc0 : c0 = 47 := byte_eq (d := 47) (by first | exact h11 | simpa using h11)
  subst hc0
  have hs47 : s.head? = some 47 := by rcases acc with _ | ⟨x, l⟩; rw [← hfst rfl]; rfl; exact (hrest (by simp)).1
  refine .sk (.sr (.an rfl (.seq (.joinK (ι := Nat) (fun q E => (5, vint q) :: E) (fun q => []) (fun q => 1 ≤ q ∧ q ≤ r.length + 1 ∧ (∀ j, j < q - 1 → r.getD j 0 ≠ 47) ∧ (q - 1 = r.length ∨ r.getD (q - 1) 0 = 47)) (pre := []) (ts := [0, 4, 7, 8, 9, 10, 11]) (.cons rfl (.cons rfl (.cons rfl (.cons rfl (.cons rfl (.cons rfl (.cons rfl (.nil)))))))) (by repeat' constructor) ?_ ?_))))
  ·refine .block (.loopK (ι := Nat) (fun q E => (5, vint q) :: E) (fun q => []) (fun q => 1 ≤ q ∧ q ≤ r.length + 1 ∧ ∀ j, j < q - 1 → r.getD j 0 ≠ 47) (fun q => r.length + 1 - q) (1) (ts := [0, 4, 7, 8, 9, 10, 11]) (.cons rfl (.cons rfl (.cons rfl (.cons rfl (.cons rfl (.cons rfl (.cons rfl (.nil)))))))) (⟨by omega, by omega, fun j hj => by omega⟩) ⟨rfl, rfl, rfl, rfl, rfl, rfl, rfl, rfl, trivial⟩ (by repeat' constructor) ?_)
   rintro n ⟨hn1, hn2, hno⟩
   refine .seq (.sm rfl (.m rfl (.q (.strlen rfl Tryz.underlying9 rfl) rfl (.ui rfl rfl rfl (.m rfl (.dec (t := 16) rfl (fun h6_16 => ?_) (fun h6_16 => ?_)))))))
   ·have hn3 : n < r.length + 1 := by omega
    have hn4 : n - 1 < r.length := by omega
    have hat : (47 :: r)[n]? = some r[n - 1] := by obtain ⟨m, rfl⟩ : ∃ m, n = m + 1 := ⟨n - 1, by omega⟩; simp [show m < r.length by omega]
    refine .kDT (t := 15) rfl h6_16 (.grun (t := 16) rfl rfl rfl (.m rfl (.grun (t := 16) rfl rfl rfl (.m rfl (.grun (t := 16) rfl rfl rfl (.q (.strIndex (c := r[n - 1]) rfl rfl Tryz.underlying9 (by omega) (by rw [Int.toNat_natCast]; exact hat)) rfl (.grun (t := 16) rfl rfl rfl (.ui rfl rfl rfl (.u (.pickT rfl rfl) (.nt (.condN rfl (fun h21 => ?_) (fun h21 => ?_))))))))))))
    ·have hne : r[n - 1] ≠ 47 := fun e => h21 (by rw [e]; rfl)
     refine .sk (.block (.region (.m rfl (.q (.add rfl rfl (by omega)) rfl (.a rfl (.nil (.blk_n (.then_n ?_))))))))
     exact .rk (n + 1) (⟨by omega, by omega, fun j hj => by by_cases e : j = n - 1; (subst e; rw [List.getD_eq_getElem?_getD, List.getElem?_eq_getElem hn4, Option.getD_some]; exact hne); exact hno j (by omega)⟩) (by omega) ⟨rfl, rfl, rfl, rfl, rfl, rfl, rfl, rfl, trivial⟩
    have hlast : r[n - 1] = 47 := byte_eq (d := 47) (by first | exact h21 | simpa using h21)
    refine .exit (.then_e (.then_e (.blk_e (.then_n ?_))))
    exact .mk (n) (⟨hn1, hn2, hno, .inr (by rw [List.getD_eq_getElem?_getD, List.getElem?_eq_getElem hn4, Option.getD_some]; exact hlast)⟩) ⟨rfl, rfl, rfl, rfl, rfl, rfl, rfl, rfl, trivial⟩
   refine .kDF (t := 15) rfl h6_16 (.gk (.gk (.gk (.gk (.u (.pickF rfl rfl) (.nt (.condF rfl (.exit (.then_e (.then_e (.blk_e (.then_n ?_))))))))))))
   exact .mk (n) (⟨hn1, hn2, hno, .inl (by omega)⟩) ⟨rfl, rfl, rfl, rfl, rfl, rfl, rfl, rfl, trivial⟩
  rintro n ⟨hn1, hn2, hno, hend⟩
  have hstep := seg_step (r := r) (k := n - 1) (by omega) hno hend
  have htk : ((47 :: r).take n).drop 1 = r.take (n - 1) := by obtain ⟨m, rfl⟩ : ∃ m, n = m + 1 := ⟨n - 1, by omega⟩; simp
  have hdr : (47 :: r).drop n = r.drop (n - 1) := by obtain ⟨m, rfl⟩ : ∃ m, n = m + 1 := ⟨n - 1, by omega⟩; simp
  have hsplit : segsZ (47 :: r) = ((47 :: r).take n).drop 1 :: segsZ ((47 :: r).drop n) := by rw [htk, hdr]; exact hstep
  have hdrop : (47 :: r).drop n = [] ∨ ((47 :: r).drop n).head? = some 47 := by rw [hdr]; rcases hend with h | h; (left; rw [h, List.drop_length]); (rcases Nat.lt_or_ge (n - 1) r.length with g | g; (right; rw [List.drop_eq_getElem_cons g]; rw [List.getD_eq_getElem?_getD, List.getElem?_eq_getElem g, Option.getD_some] at h; rw [h]; rfl); (left; exact List.drop_eq_nil_of_le g))
  refine .sm rfl (.m rfl (.q (.to (v' := vstr (((47 :: r).take n).drop 1)) (.strMid (i := 1) (j := n) rfl rfl rfl Tryz.underlying9 (by omega)) (by rw [Int.toNat_natCast]; rfl)) rfl (.oq (.call Tryz.func136 rfl rfl (vs := [_]) rfl (risname_spec _ (by simp; omega))) ?_)))
  rintro v L' ⟨rfl, rfl⟩
  refine .an rfl (.seq (.sm rfl (.u (.not rfl) (.nt (.condB rfl (fun h29 => ?_) (fun h29 => ?_))))))
  ·refine .sr (.a rfl (.an rfl (.rt (.blk_r (.then_r (.blk_r (.then_r ?_)))))))
   exact .dn rfl rfl ⟨_, _, ⟨_, _, rfl⟩, (by rw [show okZ s = false by unfold okZ; rw [hseg, hsplit, List.all_append, List.all_cons]; rw [show isNameZ (((47 :: r).take n).drop 1) = false by simpa using h29]; simp]), (fun h => by cases h), rfl⟩
  refine .sk (.sm rfl (.m rfl (.m rfl (.q (.to (v' := vstr (((47 :: r).take n).drop 1)) (.strMid (i := 1) (j := n) rfl rfl rfl Tryz.underlying9 (by omega)) (by rw [Int.toNat_natCast]; rfl)) rfl (.oq (.buildSlice1 (vs := [_]) el_23 ze_9 rfl rfl rfl rfl rfl (by decide)) ?_)))))
  rintro v L' ⟨b11_4, rfl, rfl⟩
  refine .oq (.append1 rfl rfl rfl el_23 ze_9 rfl rfl ?c37 ?c38 (Nat.le_refl _) ?c39 (by decide)) ?_
  case c37 => (first | (simp [isCell]; done) | (simp [isCell, setAll, Value.cells]; done))
  case c38 => rfl
  case c39 => omega
  rintro v L' ⟨⟨a11_5, c11_5, rfl⟩, rfl⟩
  refine .an rfl (.region (.m rfl (.m rfl (.q (.to (v' := vstr ((47 :: r).drop n)) (.strFrom (i := n) rfl rfl Tryz.underlying9 (by omega)) (by simp)) rfl (.a rfl (.nil (.blk_n (.then_n ?_))))))))
  have hin := h29
  rw [show strs acc ++ [vstr (((47 :: r).take n).drop 1)] = strs (acc ++ [((47 :: r).take n).drop 1]) by simp [strs], show acc.length + 1 = (acc ++ [((47 :: r).take n).drop 1]).length by simp]
  exact .rk (((47 :: r).drop n, .slice a11_5 (acc ++ [((47 :: r).take n).drop 1]).length c11_5, acc ++ [((47 :: r).take n).drop 1])) (⟨⟨_, _, rfl⟩, by dsimp only; rw [List.all_append, hall]; simpa using hin, by dsimp only; rw [hseg, hsplit, List.append_assoc]; rfl, by dsimp only; rw [List.length_drop, List.length_append]; simp; omega, fun h => by simp at h, fun _ => ⟨hs47, hdrop⟩⟩) (by dsimp only; rw [List.length_drop]; omega) ⟨rfl, rfl, trivial⟩
 have hcn : cur = [] := h8
 subst hcn
 refine .exit (.then_e (.then_e (.blk_e (.then_n (.sm rfl (.m rfl (.q (.slen rfl Tryz.underlying23 rfl) rfl (.ui rfl rfl rfl (.a rfl (.an rfl (.ret ?_)))))))))))
 exact .dn rfl rfl ⟨_, _, ⟨_, _, rfl⟩, (by unfold okZ; rw [hseg, show segsZ [] = [] from rfl, List.append_nil, hall, Bool.and_true]; refine decide_eq_decide.2 ?_; rcases acc with _ | ⟨x, l⟩; (rw [← hfst rfl]; simp); (simp only [(hrest (by simp)).1, iff_true, List.length_cons]; omega)), (fun _ => by rw [hseg]; simp [segsZ]), rfl⟩
theorem rcheck_spec (s : Bs) (hs : s.length ≤ 1099511627776) : Fn Tryz.prog 39 #[vstr s] [] fun v L => v = vint (checkZ s) ∧ L = [] := by
 refine Fn.intro Tryz.func39 rfl rfl fun F W => ?_
 have hbs := bs_size s
 refine .sr (.an rfl (.seq (.sm rfl (.u (.streq rfl rfl) (.nt (.condD rfl (fun h6 => ?_) (fun h6 => ?_)))))))
 ·refine .sr (.an rfl (.rt ?_))
  exact .dn rfl rfl ⟨by rw [show s = [47] from h6]; rfl, rfl⟩
 have hchk := check_ok h6
 refine .sk (.sm rfl (.oq (.c Tryz.func85 [_] (rnames_spec s hs)) ?_))
 rintro v L' ⟨nn, b, ⟨a3, c3, rfl⟩, hb, hnn, rfl⟩
 refine .m rfl (.u (.extract rfl rfl) (.u (.extract rfl rfl) (.a rfl (.an rfl (.seq (.sm rfl (.u (.not rfl) (.nt (.condB rfl (fun h13 => ?_) (fun h13 => ?_))))))))))
 ·have hbf : b = false := by simpa using h13
  rw [← hb, hbf, if_neg (by simp)] at hchk
  refine .sr (.an rfl (.rt ?_))
  exact .dn rfl rfl ⟨by rw [hchk], rfl⟩
 have hbt : b = true := by simpa using h13
 have hnl := hnn hbt
 rw [← hb, hbt, if_pos rfl] at hchk
 refine .sk (.seq (.sm rfl (.q (.strlen rfl Tryz.underlying9 rfl) rfl (.ui rfl rfl rfl (.m rfl (.dec (t := 17) rfl (fun h6_17 => ?_) (fun h6_17 => ?_)))))))
 ·refine .kDT (t := 16) rfl h6_17 (.gk (.gk (.gk (.u (.pickT rfl rfl) (.nt (.condT rfl (.sr (.an rfl (.rt ?_)))))))))
  exact .dn rfl rfl ⟨by rw [hchk, if_pos (by left; omega)], rfl⟩
 refine .kDF (t := 16) rfl h6_17 (.grun (t := 17) rfl rfl rfl (.m rfl (.grun (t := 17) rfl rfl rfl (.q (.slen rfl Tryz.underlying23 rfl) rfl (.grun (t := 17) rfl rfl rfl (.ui rfl rfl rfl (.u (.pickF rfl rfl) (.nt (.condD rfl (fun h21 => ?_) (fun h21 => ?_))))))))))
 ·refine .sr (.an rfl (.rt ?_))
  exact .dn rfl rfl ⟨by rw [hchk, if_pos (by right; omega)], rfl⟩
 refine .sk (.sr (.an rfl (.ret ?_)))
 exact .dn rfl rfl ⟨by rw [hchk, if_neg (by omega)], rfl⟩
theorem rslash_spec (s : Bs) (hs : s.length ≤ 1099511627776) : Fn Tryz.prog 171 #[vstr s] [] fun v L => v = vint (lidxZ s) ∧ L = [] := by
 refine Fn.intro Tryz.func171 rfl rfl fun F W => ?_
 have hbs := bs_size s
 refine .sr (.an rfl (.seq (.sm rfl (.q (.strlen rfl Tryz.underlying9 rfl) rfl (.q (.sub rfl rfl (by omega)) rfl (.an rfl (.block (.loopK (ι := Nat) (fun q E => (3, vint (dnL s.length q)) :: E) (fun q => []) (fun q => q ≤ s.length ∧ lidxTo s (s.length - q) = lidxZ s) (fun q => s.length - q) (0) (ts := [0]) (.cons rfl (.nil)) (⟨Nat.zero_le _, rfl⟩) ⟨rfl, rfl, trivial⟩ (by repeat' constructor) ?_))))))))
 rintro k ⟨hk, hl⟩
 have hdn := dnL_eq s.length k
 refine .seq (.sm rfl (.ui rfl rfl rfl (.nt (.condD rfl (fun h8 => ?_) (fun h8 => ?_)))))
 ·have hk2 : k < s.length := by omega
  have hat : s[s.length - (k + 1)] = s.getD (s.length - (k + 1)) 0 := by rw [List.getD_eq_getElem?_getD, List.getElem?_eq_getElem (by omega), Option.getD_some]
  refine .sk (.seq (.block (.sm rfl (.m rfl (.q (.strIndex (c := s[s.length - (k + 1)]) rfl rfl Tryz.underlying9 (by omega) (by rw [show (dnL s.length k).toNat = s.length - (k + 1) by omega]; simp [show s.length - (k + 1) < s.length by omega])) rfl (.ui rfl rfl rfl (.nt (.condD rfl (fun h14 => ?_) (fun h14 => ?_)))))))))
  ·have he : s.getD (s.length - (k + 1)) 0 = 47 := by rw [← hat]; exact byte_eq h14
   refine .sm rfl (.an rfl (.ret (.blk_r (.then_r (.then_r (.blk_r (.then_r ?_)))))))
   exact .dn rfl rfl ⟨by rw [← hl, show s.length - k = (s.length - (k + 1)) + 1 by omega, lidxTo, if_pos he, hdn]; congr 1; omega, rfl⟩
  have hne : ¬ s.getD (s.length - (k + 1)) 0 = 47 := by rw [← hat]; exact fun e => h14 (by rw [e]; rfl)
  refine .skip (.blk_n (.then_n (.region (.m rfl (.q (.sub rfl rfl (by omega)) rfl (.an rfl ?_))))))
  exact .rk (k + 1) (⟨by omega, by rw [← hl, show s.length - k = (s.length - (k + 1)) + 1 by omega, lidxTo, if_neg hne]⟩) (by omega) ⟨rfl, rfl, trivial⟩
 refine .exit (.then_e (.then_e (.blk_e (.then_n (.sr (.an rfl (.ret ?_)))))))
 exact .dn rfl rfl ⟨by rw [← hl, show s.length - k = 0 by omega]; rfl, rfl⟩
theorem rparent_spec (s : Bs) (hs : s.length ≤ 1099511627776) : Fn Tryz.prog 110 #[vstr s] [] fun v L => v = vstr (parentZ s) ∧ L = [] := by
 refine Fn.intro Tryz.func110 rfl rfl fun F W => ?_
 have hr := lidx_range s
 refine .sr (.an rfl (.sm rfl (.oq (.c Tryz.func171 [_] (rslash_spec _ ?hs3)) ?_)))
 case hs3 => first | assumption | omega
 rintro v L' ⟨rfl, rfl⟩
 refine .an rfl (.seq (.sm rfl (.ui rfl rfl rfl (.m rfl (.dec (t := 8) rfl (fun h2_8 => ?_) (fun h2_8 => ?_))))))
 ·refine .kDT (t := 7) rfl h2_8 (.gk (.gk (.u (.pickT rfl rfl) (.nt (.condT rfl (.sr (.an rfl (.rt ?_))))))))
  exact .dn rfl rfl ⟨by unfold parentZ; rw [if_pos (by first | exact .inl (by omega) | exact .inr (by assumption))], rfl⟩
 refine .kDF (t := 7) rfl h2_8 (.grun (t := 8) rfl rfl rfl (.m rfl (.grun (t := 8) rfl rfl rfl (.u (.streq rfl rfl) (.u (.pickF rfl rfl) (.nt (.dec (t := 11) rfl (fun h11 => ?_) (fun h11 => ?_))))))))
 ·refine .condT rfl (.sr (.an rfl (.rt ?_)))
  exact .dn rfl rfl ⟨by unfold parentZ; rw [if_pos (by first | exact .inl (by omega) | exact .inr (by assumption))], rfl⟩
 refine .condF rfl (.sk (.seq (.sm rfl (.ui rfl rfl rfl (.nt (.condD rfl (fun h13 => ?_) (fun h13 => ?_)))))))
 ·refine .sr (.an rfl (.rt ?_))
  exact .dn rfl rfl ⟨by unfold parentZ; rw [if_neg (by rintro (g | g); omega; exact absurd g h11), if_pos h13], rfl⟩
 refine .sk (.sm rfl (.m rfl (.q (.strTo rfl rfl Tryz.underlying9 (by omega)) rfl (.an rfl (.ret ?_)))))
 exact .dn rfl rfl ⟨by unfold parentZ; rw [if_neg (by rintro (g | g); omega; exact absurd g h11), if_neg h13], rfl⟩
theorem rkid_spec (s name : Bs) (hs : s.length ≤ 1099511627776) (hn : name.length ≤ 1099511627776) : Fn Tryz.prog 215 #[vstr s, vstr name] [] fun v L => v = vstr (kidZ s name) ∧ L = [] := by
 refine Fn.intro Tryz.func215 rfl rfl fun F W => ?_
 refine .sr (.an rfl (.seq (.sm rfl (.u (.streq rfl rfl) (.nt (.condD rfl (fun h6 => ?_) (fun h6 => ?_)))))))
 ·refine .sm rfl (.m rfl (.q (.concat rfl rfl (by omega)) rfl (.an rfl (.rt ?_))))
  exact .dn rfl rfl ⟨by unfold kidZ; rw [if_pos h6, h6], rfl⟩
 refine .sk (.sm rfl (.q (.concat rfl rfl (by simp; omega)) rfl (.m rfl (.q (.concat rfl rfl (by simp; omega)) rfl (.an rfl (.ret ?_))))))
 exact .dn rfl rfl ⟨by unfold kidZ; rw [if_neg h6], rfl⟩
theorem runder_spec (s q0 : Bs) (hq : q0.length ≤ 1099511627776) : Fn Tryz.prog 186 #[vstr s, vstr q0] [] fun v L => v = .bool (decide (underZ s q0)) ∧ L = [] := by
 refine Fn.intro Tryz.func186 rfl rfl fun F W => ?_
 have hb1 := bs_size s
 have hb2 := bs_size (kidZ q0 [])
 have hkl := kid_len q0 []
 refine .sr (.an rfl (.sm rfl (.cv Tryz.func215 [_, _] (rkid_spec q0 [] (by omega) (by simp)) ?_)))
 refine .an rfl (.sm rfl (.q (.strlen rfl Tryz.underlying9 rfl) rfl (.m rfl (.q (.strlen rfl Tryz.underlying9 rfl) rfl (.ui rfl rfl rfl (.m rfl (.dec (t := 13) rfl (fun h2_13 => ?_) (fun h2_13 => ?_))))))))
 ·refine .kDT (t := 12) rfl h2_13 (.grun (t := 13) rfl rfl rfl (.m rfl (.grun (t := 13) rfl rfl rfl (.m rfl (.grun (t := 13) rfl rfl rfl (.q (.strlen rfl Tryz.underlying9 rfl) rfl (.grun (t := 13) rfl rfl rfl (.q (.to (v' := vstr (s.take (kidZ q0 []).length)) (.strTo rfl rfl Tryz.underlying9 (by omega)) (by rw [Int.toNat_natCast])) rfl (.grun (t := 13) rfl rfl rfl (.m rfl (.grun (t := 13) rfl rfl rfl (.u (.streq rfl rfl) (.u (.pickT rfl rfl) (.an rfl (.ret ?_)))))))))))))))
  exact .dn rfl rfl ⟨by congr 1; exact decide_eq_decide.2 ⟨fun e => ⟨e, fun g => by rw [g] at h2_13; omega⟩, fun e => e.1⟩, rfl⟩
 refine .kDF (t := 12) rfl h2_13 (.gk (.gk (.gk (.gk (.gk (.gk (.u (.pickF rfl rfl) (.an rfl (.ret ?_)))))))))
 exact .dn rfl rfl ⟨by rw [decide_eq_false (fun e => by obtain ⟨e1, e2⟩ := e; unfold pfx at e1; have h3 := congrArg List.length e1; rw [List.length_take] at h3; exact e2 (by rw [← e1, List.take_of_length_le (by omega)]))], rfl⟩
theorem rplace_spec (x : Nat) (τ : Tr) (p : Bs) (hn : τ.nodes.length ≤ 1099511627776) : Fn Tryz.prog 95 #[vptr x, vstr p] [refR x τ] fun v L => v = vint (placeZ τ p) ∧ L = [refR x τ] := by
 refine Fn.intro Tryz.func95 rfl rfl fun F W => ?_
 refine .rtOpen (x := x) (τ := τ) (by repeat' constructor) fun an cn as1 cs l hl => ?_
 have hll := nds_len hl
 refine .sr (.an rfl (.seq (.sr (.an rfl (.block (.loopK (ι := Nat) (fun q E => (5, vint q) :: E) (fun q => []) (fun q => q ≤ l.length ∧ ∀ j (hj : j < q), ∀ (hj2 : j < l.length), l[j].1 ≠ p) (fun q => l.length - q) (0) (ts := [0, 1]) (.cons rfl (.cons rfl (.nil))) (⟨Nat.zero_le _, fun j hj => by omega⟩) ⟨rfl, rfl, rfl, trivial⟩ (by repeat' constructor) ?_))))))
 rintro i ⟨hi, hno⟩
 refine .seq (.sm rfl (.m rfl (.nf rfl fo_110_0 (.u (.ld rfl ag_107) (.q (.slen rfl Tryz.underlying107 rfl) rfl (.ui rfl rfl rfl (.nt (.condD rfl (fun h12 => ?_) (fun h12 => ?_)))))))))
 ·have hi2 : i < l.length := by omega
  refine .slShape (T := 112) (sz := 12) (v := .slice an l.length cn) (xs := l.flatMap rnC) (by repeat' constructor) (by omega) fun bn bn' e0 mbn _ => ?_
  simp only [Value.slice.injEq, true_and] at e0
  obtain ⟨rfl, rfl⟩ := e0
  refine .sk (.seq (.block (.sm rfl (.nf rfl fo_110_0 (.u (.ld rfl ag_107) (.m rfl (.q (.indexAddr rfl rfl el_107 (by omega)) rfl (.u (.fieldAddr rfl fo_112_0) (.q (.loadRd (sz := 12) (j := i * 12 + 0) (p := rnR _ l) rfl ag_9 (by repeat' constructor) (fun h hp => slR_rd hp) (by omega) ((rn_cell (l := l) (i := i) (k := 0) (by omega) (by decide)).trans rfl)) rfl (.m rfl (.u (.streq rfl rfl) (.nt (.condD rfl (fun h24 => ?_) (fun h24 => ?_))))))))))))))
  ·refine .sm rfl (.an rfl (.ret (.blk_r (.then_r (.then_r (.blk_r (.then_r ?_)))))))
   have hz : placeZ τ p = (i : Int) := by unfold placeZ; rw [← hl, place_nds]; exact place_at hi2 h24 (fun j hj => hno j hj (by omega))
   refine .rtFold (x := x) (τ := τ) (l := l) hl (by repeat' constructor) rfl rfl rfl rfl rfl ?_
   exact .dn rfl rfl ⟨by rw [hz], rfl⟩
  refine .skip (.blk_n (.then_n (.region (.m rfl (.q (.add rfl rfl (by omega)) rfl (.an rfl ?_))))))
  exact .rk (i + 1) (⟨by omega, fun j hj hj2 => by by_cases e : j = i; (subst e; exact h24); exact hno j (by omega) hj2⟩) (by omega) ⟨rfl, rfl, rfl, trivial⟩
 refine .exit (.then_e (.then_e (.blk_e (.then_n (.sr (.an rfl (.ret ?_)))))))
 have hz : placeZ τ p = -1 := by unfold placeZ; rw [← hl, place_nds]; exact place_none (fun j hj => hno j (by omega) hj)
 refine .rtFold (x := x) (τ := τ) (l := l) hl (by repeat' constructor) rfl rfl rfl rfl rfl ?_
 exact .dn rfl rfl ⟨by rw [hz], rfl⟩
theorem rable_spec (p : Bs) (hs : p.length ≤ 1099511627776) : Fn Tryz.prog 127 #[vstr p] [] fun v L => v = .bool (decide (ableZ p)) ∧ L = [] := by
 refine Fn.intro Tryz.func127 rfl rfl fun F W => ?_
 refine .sr (.an rfl (.sm rfl (.u (.strne rfl rfl) (.m rfl (.ndec (t := 5) rfl (fun h1_5 => ?_) (fun h1_5 => ?_))))))
 ·refine .kNT (t := 4) rfl h1_5 (.grun (t := 5) rfl rfl rfl (.m rfl (.grun (t := 5) rfl rfl rfl (.cv Tryz.func39 [_] (rcheck_spec p hs) ?_))))
  refine .grun (t := 5) rfl rfl rfl (.ui rfl rfl rfl (.u (.pickT rfl rfl) (.an rfl (.ret ?_))))
  exact .dn rfl rfl ⟨congrArg Value.bool (decide_eq_decide.2 ⟨fun e => ⟨h1_5, e⟩, fun e => e.2⟩), rfl⟩
 refine .kNF (t := 4) rfl h1_5 (.gk (.gk (.gk (.u (.pickF rfl rfl) (.an rfl (.ret ?_))))))
 exact .dn rfl rfl ⟨by rw [decide_eq_false (fun e => e.1 h1_5)], rfl⟩
theorem rrows_spec (v : Value) (xs : List Ac) (p : HP) (hp : ∀ h : Hp, p h → rdS 2 h v xs.length (xs.flatMap acC)) (hn : xs.length ≤ 1048576) : Fn Tryz.prog 126 #[v] [p] fun u L => (∃ a c, u = .slice a xs.length c) ∧ L = [p, slR 85 2 u xs.length (xs.flatMap acC)] := by
 refine Fn.intro Tryz.func126 rfl rfl fun F W => ?_
 refine .rdAny (p := p) hp (by repeat' constructor) fun a c e0 hl => ?_
 subst e0
 refine .add (slR_nil 85 2) (.sr (.an rfl (.sr (.an rfl (.sm rfl (.m rfl (.oq (.append (n := 0) (m := xs.length) (ys := xs.flatMap acC) (p := p) rfl rfl rfl el_24 (.inl ⟨_, Tryz.underlying24⟩) ze_85 rfl rfl ?hc4 hp ?hb5 (by decide)) ?_)))))))
 case hc4 => exact acC_cells _
 case hb5 => omega
 rintro v L' ⟨⟨a3, c3, rfl⟩, rfl⟩; rw [Nat.zero_add, List.nil_append]
 refine .an rfl (.ret ?_)
 exact .dn rfl rfl ⟨⟨_, _, rfl⟩, rfl⟩
theorem fill_rnode0 (p : Bs) (ad : Option Addr) (n c : Nat) : Instr.fill (fun i => [(0, 1), (1, 1), (2, 1), (3, 9)].toArray[i]?) ([.string (bs []), .string (bs []), .slice none 0 0, .int .i64 0, .int .i64 0, .int .i64 0, .int .i64 0, .int .i64 0, .int .i64 0, .int .i64 0, .int .i64 0, .int .i64 0] : List Value).toArray [(0, vstr p), (2, .slice ad n c)] = some (([vstr p, .string (bs []), .slice ad n c, vint 0, vint 0, vint 0, vint 0, vint 0, vint 0, vint 0, vint 0, vint 0] : List Value).toArray) := by kernel_rfl
theorem fill_rnode (p d : Bs) (ad : Option Addr) (n c : Nat) (s0 s1 s2 s3 s4 s5 s6 s7 s8 : Value) : Instr.fill (fun i => [(0, 1), (1, 1), (2, 1), (3, 9)].toArray[i]?) ([.string (bs []), .string (bs []), .slice none 0 0, .int .i64 0, .int .i64 0, .int .i64 0, .int .i64 0, .int .i64 0, .int .i64 0, .int .i64 0, .int .i64 0, .int .i64 0] : List Value).toArray [(0, vstr p), (1, vstr d), (2, .slice ad n c), (3, .agg ([s0, s1, s2, s3, s4, s5, s6, s7, s8] : List Value).toArray)] = some (([vstr p, vstr d, .slice ad n c] ++ [s0, s1, s2, s3, s4, s5, s6, s7, s8] : List Value).toArray) := by kernel_rfl
theorem rfnew_spec : Fn Tryz.prog 27 #[] [] fun v L => ∃ x, v = vptr x ∧ L = [refR x newT] := by
 refine Fn.intro Tryz.func27 rfl rfl fun F W => ?_
 refine .sr (.an rfl (.sr (.q (.build (us := [(0, _), (1, _)]) fl_85 ze_85 rfl rfl (by simp [isCell])) rfl (.oq (.buildSlice (vs := [_]) el_24 ze_85 rfl rfl rfl rfl (by first | (simp [Value.cells]; done) | (intro v hv; simp only [List.mem_cons, List.not_mem_nil, or_false] at hv; (repeat (first | (subst hv; rfl) | (rcases hv with hv | hv; (subst hv; rfl)))))) (by decide)) ?_))))
 rintro v L' ⟨ba, rfl, rfl⟩
 refine .q (.buildN (pl := [(0, 1), (1, 1), (2, 1), (3, 9)]) (us := [(0, vstr [47]), (2, .slice (some ⟨ba, 0, none⟩) 1 1)]) (cells := rnC (([47], (.slice (some ⟨ba, 0, none⟩) 1 1, ⟨[], [(31, [119, 111, 114, 108, 100])], st0⟩)) : Rno)) Tryz.underlying112 (by kernel_rfl) ze_112 rfl (fill_rnode0 _ _ _ _)) rfl (.oq (.buildSlice (vs := [_]) el_107 ze_112 rfl rfl rfl rfl (by first | (simp [Value.cells]; done) | (intro v hv; simp only [List.mem_cons, List.not_mem_nil, or_false] at hv; (repeat (first | (subst hv; rfl) | (rcases hv with hv | hv; (subst hv; rfl)))))) (by decide)) ?_)
 rintro v L' ⟨bn, rfl, rfl⟩
 refine .q (.build (us := [(0, _)]) fl_110 ze_110 rfl rfl (by simp [isCell])) rfl (.oq (.box rfl) ?_)
 rintro v L' ⟨x, rfl, rfl⟩
 refine .an rfl (.ret (.slMakeN 2 1 (b := ba) (xs := ([(31, [119, 111, 114, 108, 100])] : List Ac).flatMap acC) (by repeat' constructor) rfl rfl (.toRd (m := 1) (by repeat' constructor) (.slMakeN 12 1 (b := bn) (xs := [(([47], (.slice (some ⟨ba, 0, none⟩) 1 1, ⟨[], [(31, [119, 111, 114, 108, 100])], st0⟩)) : Rno)].flatMap rnC) (by repeat' constructor) rfl rfl (.add (slR_nil 122 3) (.fold (p := bigR inA [(([47], (.slice (some ⟨ba, 0, none⟩) 1 1, ⟨[], [(31, [119, 111, 114, 108, 100])], st0⟩)) : Rno)]) (.cons (p := rdO 2 (.slice (some ⟨ba, 0, none⟩) 1 1) 1 (([(31, [119, 111, 114, 108, 100])] : List Ac).flatMap acC)) (by repeat' constructor) .nil) (fun h hp => hp) (.rtFold (x := x) (τ := newT) (l := [(([47], (.slice (some ⟨ba, 0, none⟩) 1 1, ⟨[], [(31, [119, 111, 114, 108, 100])], st0⟩)) : Rno)]) rfl (by repeat' constructor) rfl rfl rfl rfl rfl ?_)))))))
 exact .dn rfl rfl ⟨_, rfl, rfl⟩
theorem rn_cells {z : Rno} (hz : isCell z.2.1 = true) : ∀ y ∈ (Value.agg (rnC z).toArray).cells.toList, isCell y = true := by
 intro v hv
 simp only [Value.cells, rnC, List.mem_cons, List.not_mem_nil, or_false] at hv
 rcases hv with rfl | rfl | rfl | rfl | rfl | rfl | rfl | rfl | rfl | rfl | rfl | rfl
 case inr.inr.inl => exact hz
 all_goals rfl
theorem rdO_cell {sz n : Nat} {v : Value} {ys : List Value} {h : Hp} (hr : rdO sz v n ys h) : isCell v = true := by
 rcases hr with ⟨-, -, a, c, rfl⟩ | ⟨b, off, cap, l, T, fr, rfl, -⟩ <;> rfl
theorem big_get {α : Type} {f : α → HP} {l : List α} {i : Nat} (hi : i < l.length) {h : Hp} (hs : bigR f l h) : ∃ h1, f l[i] h1 := by
 induction l generalizing i h with
 | nil => simp at hi
 | cons x l ih =>
  obtain ⟨h1, h2, -, -, -, p1, p2⟩ := hs
  cases i with
  | zero => exact ⟨h1, p1⟩
  | succ i => exact ih (by simpa using hi) p2
theorem G.aclShape {W : World} {n : Nat} {ds : List Deferred} {E : Env} {L R : List HP} {X : Act → World → Prop} {l : List Rno} {i : Nat} (hi : i < l.length) (hL : Pick (bigR inA l) L R) (h : isCell l[i].2.1 = true → G W n ds E L X) : G W n ds E L X := by
 intro a w he hk hs
 obtain ⟨h1, -, hp⟩ := sep_head (hs.pick hL)
 obtain ⟨h2, hq⟩ := big_get hi hp
 exact h (rdO_cell hq) a w he hk hs
theorem rlay_spec (x : Nat) (τ : Tr) (z : Rno) (hzc : isCell z.2.1 = true) (N : Nat) (ho : τ.Ok N) (hN : N ≤ 1073741824) : Fn Tryz.prog 184 #[vptr x, .agg (rnC z).toArray] [refR x τ, inA z] fun v L => v = .tuple #[] ∧ L = [refR x { τ with nodes := sset τ.nodes z.1 z.2.2 }] := by
 refine Fn.intro Tryz.func184 rfl rfl fun F W => ?_
 refine .rtOpen (x := x) (τ := τ) (by repeat' constructor) fun an cn as1 cs l hl => ?_
 have hsrt := nds_sorted (hl ▸ ho.sorted)
 have hll := nds_len hl
 have hofew := ho.few
 refine .sr (.oq (.box rfl) ?_)
 rintro v L' ⟨bz, rfl, rfl⟩
 refine .nil (.ptCast (b := bz) (l' := rnC z) (by repeat' constructor) rfl (.then_n (.seq (.add (slR_nil 112 12) (.region (.an rfl (.sr (.an rfl (.seq (.sr (.an rfl (.block (.loopK (ι := Nat × Bool × Value × (List Rno)) (fun q E => (6, vint q.1) :: (5, .bool q.2.1) :: (4, q.2.2.1) :: E) (fun q => [rnR q.2.2.1 q.2.2.2]) (fun q => q.1 ≤ l.length ∧ LayI l z.1 z.2 q.1 q.2.1 q.2.2.2 ∧ (∃ a c, q.2.2.1 = .slice a q.2.2.2.length c) ∧ q.2.2.2.length ≤ q.1 + q.2.1.toNat) (fun q => l.length - q.1) (0, false, .slice none 0 0, []) (ts := [0, 3]) (.cons rfl (.cons rfl (.nil))) (⟨Nat.zero_le _, LayI.start _ _ _, ⟨none, 0, rfl⟩, by simp⟩) ⟨rfl, rfl, rfl, rfl, rfl, trivial⟩ (by repeat' constructor) ?_)))))))))))))
 rintro ⟨i, b, u, acc⟩ ⟨hi, hLay, ⟨au, cu, hu⟩, hal⟩
 dsimp only
 dsimp only at hi hLay hu hal
 subst hu
 refine .seq (.sm rfl (.m rfl (.nf rfl fo_110_0 (.u (.ld rfl ag_107) (.q (.slen rfl Tryz.underlying107 rfl) rfl (.ui rfl rfl rfl (.nt (.condD rfl (fun h13 => ?_) (fun h13 => ?_)))))))))
 ·have hi2 : i < l.length := by omega
  refine .slShape (T := 112) (sz := 12) (v := .slice an l.length cn) (xs := l.flatMap rnC) (by repeat' constructor) (by omega) fun bn bn' e0 mbn _ => ?_
  simp only [Value.slice.injEq, true_and] at e0
  obtain ⟨rfl, rfl⟩ := e0
  refine .sk (.seq (.block (.seq (.seq (.draw [] [[0, 1, 2, 3, 4, 5, 6, 7, 8, 9, 10, 11, 12, 13, 14]] mixed (by kernel_rfl) (.g0 (.mv rfl rfl (.kv rfl (.not rfl) (.mv rfl rfl (.bool (t := 18) rfl (fun h6_18 => ?_) (fun h6_18 => ?_)))))))))))
  ·have hbf : b = false := by simpa using h6_18
   subst hbf
   have hal : acc.length ≤ i + 0 := hal
   refine D.kB (t := 17) rfl h6_18 (.gv rfl (.move rfl) (.gv rfl (.nilp rfl) (.gv rfl (.fieldAddr rfl fo_110_0) (.gv rfl (.ld rfl ag_107) (.gv rfl (.move rfl) (.gv rfl (.indexAddr rfl rfl el_107 (by omega)) (.gv rfl (.fieldAddr rfl fo_112_0) (.gv rfl (.loadRd (sz := 12) (j := i * 12 + 0) (p := rnR _ l) rfl ag_9 (by repeat' constructor) (fun h hp => slR_rd hp) (by omega) ((rn_cell (l := l) (i := i) (k := 0) (by omega) (by decide)).trans rfl)) (.gv rfl (.fieldAddr rfl fo_112_0) (.gv rfl (.load rfl ag_9 (by repeat' constructor) rfl) (.gv rfl (.strge rfl rfl) (.kv rfl (.pickT rfl rfl) (.pf (.condD rfl (fun h30 => ?_) (fun h30 => ?_)))))))))))))))
   ·refine .sm rfl (.q (.loadAs (vs := rnC z) rfl ag_112 (by repeat' constructor) (by simp [rnC]) rfl) rfl (.oq (.buildSlice (vs := [_]) el_107 ze_112 rfl rfl rfl rfl (by first | (simp [Value.cells]; done) | (intro v hv; simp only [List.mem_cons, List.not_mem_nil, or_false] at hv; (repeat (first | (subst hv; rfl) | (rcases hv with hv | hv; (subst hv; rfl)))))) (by decide)) ?_))
    rintro v L' ⟨b7_2, rfl, rfl⟩
    refine .oq (.append1 rfl rfl rfl el_107 ze_112 rfl rfl ?c30 ?c31 (Nat.le_refl _) ?c32 (by decide)) ?_
    case c30 => first | exact rn_cells hzc | (simp only [List.map_cons, List.map_nil, List.flatten_cons, List.flatten_nil, List.append_nil]; exact rn_cells hzc)
    case c31 => rfl
    case c32 => first | omega | (simp; omega)
    rintro v L' ⟨⟨a7_3, c7_3, rfl⟩, rfl⟩
    refine .a rfl (.nil ?_)
    rw [show acc.length + 1 = (acc ++ [z]).length by rw [List.length_append]; rfl]
    refine .slCast (T := 112) (sz := 12) (m' := (acc ++ [z]).length) (xs' := (acc ++ [z]).flatMap rnC) (by repeat' constructor) rfl (by simp; rfl) (.then_n (.region (.an rfl (.seq (.draw [] [[0, 1, 2, 3, 4, 5, 6, 7, 8, 9, 10]] mixed (by kernel_rfl) (.g0 (.mv rfl rfl (.nf rfl rfl rfl fo_110_0 (.kv rfl (.ld rfl ag_107) (.mv rfl rfl (.kv rfl (.indexAddr rfl rfl el_107 (by omega)) (.kv rfl (.fieldAddr rfl fo_112_0) (.kv rfl (.loadRd (sz := 12) (j := i * 12 + 0) (p := rnR _ l) rfl ag_9 (by repeat' constructor) (fun h hp => slR_rd hp) (by omega) ((rn_cell (l := l) (i := i) (k := 0) (by omega) (by decide)).trans rfl)) (.kv rfl (.fieldAddr rfl fo_112_0) (.kv rfl (.ld rfl ag_9) (.kv rfl (.strne rfl rfl) (.pf (.condN rfl (fun h45 => ?_) (fun h45 => ?_)))))))))))))))))))
    ·refine .aclShape (l := l) (i := i) hi2 (by repeat' constructor) fun hcl => (.region (.m rfl (.m rfl (.nf rfl fo_110_0 (.u (.ld rfl ag_107) (.m rfl (.q (.indexAddr rfl rfl el_107 (by omega)) rfl (.q (.loadRdA (sz := 12) (j := i * 12) (k := 12) (p := rnR _ l) (vs := rnC l[i]) rfl ag_112 (by repeat' constructor) (fun h hp => slR_rd hp) (by omega) (by omega) (by omega) (flatMap_at (f := rnC) (sz := 12) (fun _ _ => rfl) (by omega))) rfl (.oq (.buildSlice (vs := [_]) el_107 ze_112 rfl rfl rfl rfl (by first | (simp [Value.cells]; done) | (intro v hv; simp only [List.mem_cons, List.not_mem_nil, or_false] at hv; (repeat (first | (subst hv; rfl) | (rcases hv with hv | hv; (subst hv; rfl)))))) (by decide)) ?_)))))))))
     rintro v L' ⟨b10_8, rfl, rfl⟩
     refine .oq (.append1 rfl rfl rfl el_107 ze_112 rfl rfl ?c56 ?c57 (Nat.le_refl _) ?c58 (by decide)) ?_
     case c56 => first | exact rn_cells hcl | (simp only [List.map_cons, List.map_nil, List.flatten_cons, List.flatten_nil, List.append_nil]; exact rn_cells hcl)
     case c57 => rfl
     case c58 => first | omega | (simp; omega)
     rintro v L' ⟨⟨a10_9, c10_9, rfl⟩, rfl⟩
     refine .a rfl (.nil ?_)
     rw [show (acc ++ [z]).length + 1 = ((acc ++ [z]) ++ [l[i]]).length by simp]
     refine .slCast (T := 112) (sz := 12) (m' := ((acc ++ [z]) ++ [l[i]]).length) (xs' := ((acc ++ [z]) ++ [l[i]]).flatMap rnC) (by repeat' constructor) rfl (by simp; rfl) (.blk_n (.then_n (.region (.m rfl (.q (.add rfl rfl (by omega)) rfl (.an rfl ?_))))))
     exact .rk ((i + 1, true, .slice a10_9 ((acc ++ [z]) ++ [l[i]]).length c10_9, ((acc ++ [z]) ++ [l[i]]))) (⟨by dsimp only; omega, by dsimp only; exact hLay.put hi2 h30 h45, ⟨_, _, rfl⟩, by dsimp only; simp; omega⟩) (by dsimp only; omega) ⟨rfl, rfl, rfl, rfl, rfl, trivial⟩
    refine .skip (.blk_n (.then_n (.region (.m rfl (.q (.add rfl rfl (by omega)) rfl (.an rfl ?_))))))
    exact .rk ((i + 1, true, .slice a7_3 (acc ++ [z]).length c7_3, (acc ++ [z]))) (⟨by dsimp only; omega, by dsimp only; exact hLay.sub hi2 h45, ⟨_, _, rfl⟩, by dsimp only; simp; omega⟩) (by dsimp only; omega) ⟨rfl, rfl, rfl, rfl, rfl, trivial⟩
   refine .sk (.seq (.draw [] [[0, 1, 2, 3, 4, 5, 6, 7, 8, 9, 10]] mixed (by kernel_rfl) (.g0 (.mv rfl rfl (.nf rfl rfl rfl fo_110_0 (.kv rfl (.ld rfl ag_107) (.mv rfl rfl (.kv rfl (.indexAddr rfl rfl el_107 (by omega)) (.kv rfl (.fieldAddr rfl fo_112_0) (.kv rfl (.loadRd (sz := 12) (j := i * 12 + 0) (p := rnR _ l) rfl ag_9 (by repeat' constructor) (fun h hp => slR_rd hp) (by omega) ((rn_cell (l := l) (i := i) (k := 0) (by omega) (by decide)).trans rfl)) (.kv rfl (.fieldAddr rfl fo_112_0) (.kv rfl (.ld rfl ag_9) (.kv rfl (.strne rfl rfl) (.pf (.condN rfl (fun h45 => ?_) (fun h45 => ?_))))))))))))))))
   ·refine .aclShape (l := l) (i := i) hi2 (by repeat' constructor) fun hcl => (.region (.m rfl (.m rfl (.nf rfl fo_110_0 (.u (.ld rfl ag_107) (.m rfl (.q (.indexAddr rfl rfl el_107 (by omega)) rfl (.q (.loadRdA (sz := 12) (j := i * 12) (k := 12) (p := rnR _ l) (vs := rnC l[i]) rfl ag_112 (by repeat' constructor) (fun h hp => slR_rd hp) (by omega) (by omega) (by omega) (flatMap_at (f := rnC) (sz := 12) (fun _ _ => rfl) (by omega))) rfl (.oq (.buildSlice (vs := [_]) el_107 ze_112 rfl rfl rfl rfl (by first | (simp [Value.cells]; done) | (intro v hv; simp only [List.mem_cons, List.not_mem_nil, or_false] at hv; (repeat (first | (subst hv; rfl) | (rcases hv with hv | hv; (subst hv; rfl)))))) (by decide)) ?_)))))))))
    rintro v L' ⟨b10_8, rfl, rfl⟩
    refine .oq (.append1 rfl rfl rfl el_107 ze_112 rfl rfl ?c86 ?c87 (Nat.le_refl _) ?c88 (by decide)) ?_
    case c86 => first | exact rn_cells hcl | (simp only [List.map_cons, List.map_nil, List.flatten_cons, List.flatten_nil, List.append_nil]; exact rn_cells hcl)
    case c87 => rfl
    case c88 => first | omega | (simp; omega)
    rintro v L' ⟨⟨a10_9, c10_9, rfl⟩, rfl⟩
    refine .a rfl (.nil ?_)
    rw [show acc.length + 1 = (acc ++ [l[i]]).length by simp]
    refine .slCast (T := 112) (sz := 12) (m' := (acc ++ [l[i]]).length) (xs' := (acc ++ [l[i]]).flatMap rnC) (by repeat' constructor) rfl (by simp; rfl) (.blk_n (.then_n (.region (.m rfl (.q (.add rfl rfl (by omega)) rfl (.an rfl ?_))))))
    exact .rk ((i + 1, false, .slice a10_9 (acc ++ [l[i]]).length c10_9, (acc ++ [l[i]]))) (⟨by dsimp only; omega, by dsimp only; exact hLay.low hi2 (Decidable.byContradiction h30), ⟨_, _, rfl⟩, by dsimp only; simp; omega⟩) (by dsimp only; omega) ⟨rfl, rfl, rfl, rfl, rfl, trivial⟩
   refine .skip (.blk_n (.then_n (.region (.m rfl (.q (.add rfl rfl (by omega)) rfl (.an rfl ?_))))))
   exact .rk ((i + 1, false, .slice au acc.length cu, acc)) (⟨by dsimp only; omega, by dsimp only; exact absurd (by rw [h45]; exact linB.irr z.1) h30, ⟨_, _, rfl⟩, by dsimp only; simp; omega⟩) (by dsimp only; omega) ⟨rfl, rfl, rfl, rfl, rfl, trivial⟩
  have hbt : b = true := by simpa using h6_18
  subst hbt
  have hal : acc.length ≤ i + 1 := hal
  refine D.kB (t := 17) rfl h6_18 (.gz rfl (.gz rfl (.gz rfl (.gz rfl (.gz rfl (.gz rfl (.gz rfl (.gz rfl (.gz rfl (.gz rfl (.gz rfl (.kv rfl (.pickF rfl rfl) (.pf (.condF rfl (.sk (.seq (.draw [] [[0, 1, 2, 3, 4, 5, 6, 7, 8, 9, 10]] mixed (by kernel_rfl) (.g0 (.mv rfl rfl (.nf rfl rfl rfl fo_110_0 (.kv rfl (.ld rfl ag_107) (.mv rfl rfl (.kv rfl (.indexAddr rfl rfl el_107 (by omega)) (.kv rfl (.fieldAddr rfl fo_112_0) (.kv rfl (.loadRd (sz := 12) (j := i * 12 + 0) (p := rnR _ l) rfl ag_9 (by repeat' constructor) (fun h hp => slR_rd hp) (by omega) ((rn_cell (l := l) (i := i) (k := 0) (by omega) (by decide)).trans rfl)) (.kv rfl (.fieldAddr rfl fo_112_0) (.kv rfl (.ld rfl ag_9) (.kv rfl (.strne rfl rfl) ?_))))))))))))))))))))))))))))
  refine D.pf (.condN rfl (fun h45 => ?_) (fun h45 => ?_))
  ·refine .aclShape (l := l) (i := i) hi2 (by repeat' constructor) fun hcl => (.region (.m rfl (.m rfl (.nf rfl fo_110_0 (.u (.ld rfl ag_107) (.m rfl (.q (.indexAddr rfl rfl el_107 (by omega)) rfl (.q (.loadRdA (sz := 12) (j := i * 12) (k := 12) (p := rnR _ l) (vs := rnC l[i]) rfl ag_112 (by repeat' constructor) (fun h hp => slR_rd hp) (by omega) (by omega) (by omega) (flatMap_at (f := rnC) (sz := 12) (fun _ _ => rfl) (by omega))) rfl (.oq (.buildSlice (vs := [_]) el_107 ze_112 rfl rfl rfl rfl (by first | (simp [Value.cells]; done) | (intro v hv; simp only [List.mem_cons, List.not_mem_nil, or_false] at hv; (repeat (first | (subst hv; rfl) | (rcases hv with hv | hv; (subst hv; rfl)))))) (by decide)) ?_)))))))))
   rintro v L' ⟨b10_8, rfl, rfl⟩
   refine .oq (.append1 rfl rfl rfl el_107 ze_112 rfl rfl ?c117 ?c118 (Nat.le_refl _) ?c119 (by decide)) ?_
   case c117 => first | exact rn_cells hcl | (simp only [List.map_cons, List.map_nil, List.flatten_cons, List.flatten_nil, List.append_nil]; exact rn_cells hcl)
   case c118 => rfl
   case c119 => first | omega | (simp; omega)
   rintro v L' ⟨⟨a10_9, c10_9, rfl⟩, rfl⟩
   refine .a rfl (.nil ?_)
   rw [show acc.length + 1 = (acc ++ [l[i]]).length by simp]
   refine .slCast (T := 112) (sz := 12) (m' := (acc ++ [l[i]]).length) (xs' := (acc ++ [l[i]]).flatMap rnC) (by repeat' constructor) rfl (by simp; rfl) (.blk_n (.then_n (.region (.m rfl (.q (.add rfl rfl (by omega)) rfl (.an rfl ?_))))))
   exact .rk ((i + 1, true, .slice a10_9 (acc ++ [l[i]]).length c10_9, (acc ++ [l[i]]))) (⟨by dsimp only; omega, by dsimp only; exact hLay.more hi2, ⟨_, _, rfl⟩, by dsimp only; simp; omega⟩) (by dsimp only; omega) ⟨rfl, rfl, rfl, rfl, rfl, trivial⟩
  refine .skip (.blk_n (.then_n (.region (.m rfl (.q (.add rfl rfl (by omega)) rfl (.an rfl ?_))))))
  exact .rk ((i + 1, true, .slice au acc.length cu, acc)) (⟨by dsimp only; omega, by dsimp only; exact absurd h45 (hLay.not hsrt hi2), ⟨_, _, rfl⟩, by dsimp only; simp; omega⟩) (by dsimp only; omega) ⟨rfl, rfl, rfl, rfl, rfl, trivial⟩
 have hii : i = l.length := by omega
 rw [hii] at hLay
 have hlast := hLay.last
 refine .exit (.then_e (.then_e (.blk_e (.then_n (.seq (.sm rfl (.u (.not rfl) (.nt (.condB rfl (fun h57 => ?_) (fun h57 => ?_))))))))))
 ·refine .region (.m rfl (.q (.loadAs (vs := rnC z) rfl ag_112 (by repeat' constructor) (by simp [rnC]) rfl) rfl (.oq (.buildSlice (vs := [_]) el_107 ze_112 rfl rfl rfl rfl (by first | (simp [Value.cells]; done) | (intro v hv; simp only [List.mem_cons, List.not_mem_nil, or_false] at hv; (repeat (first | (subst hv; rfl) | (rcases hv with hv | hv; (subst hv; rfl)))))) (by decide)) ?_)))
  rintro v L' ⟨b12_2, rfl, rfl⟩
  refine .oq (.append1 rfl rfl rfl el_107 ze_112 rfl rfl ?c132 ?c133 (Nat.le_refl _) ?c134 (by decide)) ?_
  case c132 => first | exact rn_cells hzc | (simp only [List.map_cons, List.map_nil, List.flatten_cons, List.flatten_nil, List.append_nil]; exact rn_cells hzc)
  case c133 => rfl
  case c134 => have := Bool.toNat_le b; omega
  rintro v L' ⟨⟨a12_3, c12_3, rfl⟩, rfl⟩
  refine .a rfl (.nil ?_)
  rw [show acc.length + 1 = (acc ++ [z]).length by rw [List.length_append]; rfl]
  refine .slCast (T := 112) (sz := 12) (m' := (acc ++ [z]).length) (xs' := (acc ++ [z]).flatMap rnC) (by repeat' constructor) rfl (by simp; rfl) (.then_n (.region (.m rfl (.m rfl (.nf rfl fo_110_0 (.st rfl rfl rfl sz_107 ?_))))))
  refine .nil (.done_n (.bigSset hsrt z.1 z.2 (p := inA z) rfl (by repeat' constructor) ?_))
  have hb : b = false := by simpa using h57
  subst hb
  have hfin : (acc ++ [z]) = sset l z.1 z.2 := hlast
  refine .rtFold (x := x) (τ := ({ τ with nodes := sset τ.nodes z.1 z.2.2 } : Tr)) (l := (sset l z.1 z.2)) (by rw [nds_sset, hl]) (by repeat' constructor) rfl (by rw [hfin]) (by rw [hfin]) rfl rfl ?_
  exact .vv
 refine .sk (.region (.m rfl (.m rfl (.nf rfl fo_110_0 (.st rfl rfl rfl sz_107 ?_)))))
 refine .nil (.done_n (.bigSset hsrt z.1 z.2 (p := inA z) rfl (by repeat' constructor) ?_))
 have hb : b = true := by simpa using h57
 subst hb
 have hfin : acc = sset l z.1 z.2 := hlast
 refine .rtFold (x := x) (τ := ({ τ with nodes := sset τ.nodes z.1 z.2.2 } : Tr)) (l := (sset l z.1 z.2)) (by rw [nds_sset, hl]) (by repeat' constructor) rfl (by rw [hfin]) (by rw [hfin]) rfl rfl ?_
 exact .vv
theorem rkid7_spec (x : Nat) (τ : Tr) (p : Bs) (num zx : Int) (N : Nat) (ho : τ.Ok N) (hN : N ≤ 1073741824) : Fn Tryz.prog 185 #[vptr x, vstr p, vint num, vint zx] [refR x τ] fun v L => v = .tuple #[] ∧ L = [refR x (kidT τ p num zx)] := by
 refine Fn.intro Tryz.func185 rfl rfl fun F W => ?_
 have hfew := ho.few
 have hnd := ho.sorted.nodup linB
 refine .sm rfl (.m rfl (.cv Tryz.func95 [_, _] (rplace_spec x τ p (by omega)) ?_))
 refine .an rfl (.sm rfl (.ui rfl rfl rfl (.nt (.condD rfl (fun h13 => ?_) (fun h13 => ?_)))))
 ·obtain ⟨k, hk, hpk, hkp⟩ := place_get (l := τ.nodes) h13
  have hpz : placeZ τ p = k := hpk
  rw [hpz]
  refine .rtOpen (x := x) (τ := τ) (by repeat' constructor) fun an cn as1 cs l hl => ?_
  have hll := nds_len hl
  have hkl : k < l.length := by omega
  have hlk : l[k].1 = p := by have := nds_get hl hkl; rw [← hkp]; simp only [this]
  refine .slShape (T := 112) (sz := 12) (v := .slice an l.length cn) (xs := l.flatMap rnC) (by repeat' constructor) (by omega) fun bn bn' e0 mbn _ => ?_
  simp only [Value.slice.injEq, true_and] at e0
  obtain ⟨rfl, rfl⟩ := e0
  refine .sm rfl (.nf rfl fo_110_0 (.u (.ld rfl ag_107) (.m rfl (.m rfl (.q (.indexAddr rfl rfl el_107 (by omega)) rfl (.u (.fieldAddr rfl fo_112_3) (.u (.fieldAddr rfl fo_37_4) (.oq (.storeRd (sz := 12) (j := k * 12 + 7) rfl rfl ?hv14 sz_3 ?ho15 ?hi16) ?_))))))))
  case hv14 => first | rfl | assumption
  case ho15 => omega
  case hi16 => omega
  rintro v L' rfl
  refine .nil (.slCast (T := 112) (sz := 12) (m' := l.length) (xs' := (l.set k (l[k].1, (l[k].2.1, { l[k].2.2 with st := { l[k].2.2.st with cver := num } }))).flatMap rnC) (by repeat' constructor) rfl (flatMap_set (f := rnC) (sz := 12) (fun _ => rfl) (by simpa using hkl) (by decide) (by rfl)) (.then_n (.region (.m rfl (.nf rfl fo_110_0 (.u (.ld rfl ag_107) (.m rfl (.m rfl (.q (.indexAddr rfl rfl el_107 (by omega)) rfl (.u (.fieldAddr rfl fo_112_3) (.u (.fieldAddr rfl fo_37_2) (.oq (.storeRd (sz := 12) (j := k * 12 + 5) rfl rfl ?hv26 sz_3 ?ho27 ?hi28) ?_))))))))))))
  case hv26 => first | rfl | assumption
  case ho27 => omega
  case hi28 => omega
  rintro v L' rfl
  refine .nil (.slCast (T := 112) (sz := 12) (m' := l.length) (xs' := ((l.set k (l[k].1, (l[k].2.1, { l[k].2.2 with st := { l[k].2.2.st with cver := num } }))).set k (l[k].1, (l[k].2.1, kidN num zx l[k].2.2))).flatMap rnC) (by repeat' constructor) rfl (flatMap_set (f := rnC) (sz := 12) (fun _ => rfl) (by simpa using hkl) (by decide) (by rw [List.getElem_set_self]; rfl)) ?_)
  rw [List.set_set]
  refine .done_n (.bigSet (y := (l[k].1, (l[k].2.1, kidN num zx l[k].2.2))) hkl (by rfl) (by repeat' constructor) (.rtFold (x := x) (τ := (kidT τ p num zx)) (l := (l.set k (l[k].1, (l[k].2.1, kidN num zx l[k].2.2)))) (nds_mod hl hnd hkl hlk (kidN num zx) rfl) (by repeat' constructor) rfl (by simp) rfl rfl rfl ?_))
  exact .vv
 refine .skip (.done_n (.rfCast (x := x) (τ' := kidT τ p num zx) (by repeat' constructor) (by unfold kidT; rw [amod_none (by have h0 : ¬ 0 ≤ placeTo τ.nodes p := h13; rw [place_iff] at h0; simpa using h0)]) ?_))
 exact .vv
theorem rlay2_spec (x : Nat) (τ : Tr) (z : Rno) (hzc : isCell z.2.1 = true) (N : Nat) (ho : τ.Ok N) (hN : N ≤ 1073741824) {T : TypeId} : Fn Tryz.prog 184 #[vptr x, .agg (rnC z).toArray] [refR x τ, slR T 2 z.2.1 z.2.2.acl.length (z.2.2.acl.flatMap acC)] fun v L => v = .tuple #[] ∧ L = [refR x { τ with nodes := sset τ.nodes z.1 z.2.2 }] :=
 Fn.pre2 (rlay_spec x τ z hzc N ho hN) fun F w hs => by
  have h1 := sep_imp (q := inA z) (fun h hp => slR_rd hp) (sep_swap hs)
  exact sep_swap h1
theorem rcreate_spec (x : Nat) (τ : Tr) (y : Pt) (zx : Int) (p : HP) (hy : PtA p y) (N : Nat) (ho : τ.Ok N) (hN : N + 1 ≤ 1073741824) : Fn Tryz.prog 128 #[vptr x, .agg (ptC y).toArray, vint zx] [refR x τ, p] fun v L => ∃ a c, v = .slice a (createZ τ y zx).2.length c ∧ L = [refR x (createZ τ y zx).1, p, slR 184 3 v (createZ τ y zx).2.length ((createZ τ y zx).2.flatMap evC)] := by
 refine Fn.intro Tryz.func128 rfl rfl fun F W => ?_
 have hfew := hy.few
 have hpl := hy.plen
 have hpar := parent_len y.path
 have hof := ho.few
 refine .sr (.oq (.box rfl) ?_)
 rintro v L' ⟨bx, rfl, rfl⟩
 refine .a rfl (.nil (.ptCast (b := bx) (l' := ptC y) (by repeat' constructor) rfl (.then_n (.sr (.u (.fieldAddr rfl fo_43_1) (.u (.ld rfl ag_9) (.cv Tryz.func110 [_] (rparent_spec y.path (by omega)) ?_)))))))
 refine .an rfl (.sr (.u (.fieldAddr rfl fo_43_1) (.u (.ld rfl ag_9) (.cv Tryz.func127 [_] (rable_spec y.path (by omega)) ?_))))
 refine .an rfl (.seq (.sm rfl (.u (.not rfl) (.m rfl (.ndec (t := 18) rfl (fun h3_18 => ?_) (fun h3_18 => ?_))))))
 ·refine .kNT (t := 17) rfl h3_18 (.gk (.gk (.gk (.gk (.u (.pickT rfl rfl) (.nt (.condT rfl (.sr (.an rfl (.rt (.add (slR_nil 184 3) ?_)))))))))))
  have hc : createZ τ y zx = (τ, []) := by unfold createZ; rw [if_neg (fun g => h3_18 g.1)]
  refine .rfCast (x := x) (τ' := (createZ τ y zx).1) (by repeat' constructor) (by rw [hc]) (.slCast (T := 184) (sz := 3) (m' := (createZ τ y zx).2.length) (xs' := (createZ τ y zx).2.flatMap evC) (by repeat' constructor) (by (rw [hc]; try rfl)) (by (rw [hc]; try rfl)) ?_)
  exact .dn rfl rfl ⟨_, _, by (rw [hc]; try rfl), rfl⟩
 refine .kNF (t := 17) rfl h3_18 (.grun (t := 18) rfl rfl rfl (.m rfl (.grun (t := 18) rfl rfl rfl (.m rfl (.grun (t := 18) rfl rfl rfl (.cv Tryz.func95 [_, _] (rplace_spec x τ (parentZ y.path) (by omega)) ?_))))))
 refine .grun (t := 18) rfl rfl rfl (.ui rfl rfl rfl (.u (.pickF rfl rfl) (.nt (.condD rfl (fun h23 => ?_) (fun h23 => ?_)))))
 ·refine .sr (.an rfl (.rt (.add (slR_nil 184 3) ?_)))
  have hc : createZ τ y zx = (τ, []) := by unfold createZ; rw [if_neg (fun g => absurd (place_iff.2 g.2) (by have h0 : placeTo τ.nodes (parentZ y.path) < 0 := h23; omega))]
  refine .rfCast (x := x) (τ' := (createZ τ y zx).1) (by repeat' constructor) (by rw [hc]) (.slCast (T := 184) (sz := 3) (m' := (createZ τ y zx).2.length) (xs' := (createZ τ y zx).2.flatMap evC) (by repeat' constructor) (by (rw [hc]; try rfl)) (by (rw [hc]; try rfl)) ?_)
  exact .dn rfl rfl ⟨_, _, by (rw [hc]; try rfl), rfl⟩
 have hup : thereT τ (parentZ y.path) := place_iff.1 (by have h0 : ¬ placeTo τ.nodes (parentZ y.path) < 0 := h23; omega)
 have hab : ableZ y.path := h3_18
 refine .sk (.sr (.an rfl (.seq (.sm rfl (.u (.fieldAddr rfl fo_43_1) (.u (.ld rfl ag_9) (.cv Tryz.func95 [_, _] (rplace_spec x τ y.path (by omega)) ?_)))))))
 refine .ui rfl rfl rfl (.nt (.condD rfl (fun h28 => ?_) (fun h28 => ?_)))
 ·refine .region (.an rfl (.seq (.draw [7, 15] [[0, 1, 2, 3, 4, 5, 6, 8, 9, 10, 11, 12, 13, 7, 14], [15]] mixed (by kernel_rfl) (.go [ptc bx _ _] (by repeat' constructor) (.k rfl (.move rfl) (.k rfl (.fieldAddr rfl fo_43_1) (.k rfl (.ld rfl ag_9) (.k rfl (.fieldAddr rfl fo_43_2) (.k rfl (.ld rfl ag_9) (.kv rfl (.fieldAddr rfl fo_43_3) (.kv rfl (.ld rfl ag_24) (.k rfl (.move rfl) (.k rfl (.move rfl) (.k rfl (.move rfl) (.k rfl (.fieldAddr rfl fo_43_4) (.k rfl (.ld rfl ag_3) (.k rfl (.build (us := [(0, _), (1, _), (2, _), (6, _)]) fl_37 ze_37 rfl rfl (by simp [isCell])) (.hh rfl (.c Tryz.func126 [_] (rrows_spec y.aclV y.acl p hy.acl hfew)) ?_))))))))))))))))))
  rintro v L' ⟨⟨a8, c8, rfl⟩, rfl⟩
  refine D.kv rfl (.buildN (pl := [(0, 1), (1, 1), (2, 1), (3, 9)]) (us := [(0, vstr y.path), (1, vstr y.data), (2, .slice a8 y.acl.length c8), (3, .agg ([vint zx, vint zx, vint zx, vint 0, vint 0, vint 0, vint y.own, vint 0, vint 0] : List Value).toArray)]) (cells := [vstr y.path, vstr y.data, .slice a8 y.acl.length c8] ++ [vint zx, vint zx, vint zx, vint 0, vint 0, vint 0, vint y.own, vint 0, vint 0]) Tryz.underlying112 (by kernel_rfl) ze_112 rfl (fill_rnode _ _ _ _ _ _ _ _ _ _ _ _ _ _)) (.ph (.g0 (.hh rfl (.c Tryz.func184 [_, _] (rlay2_spec x τ ((y.path, (.slice a8 y.acl.length c8, newN y zx)) : Rno) rfl N ho (by omega))) ?_)))
  rintro v L' ⟨rfl, rfl⟩
  refine D.ph (.fin (.rfCast (x := x) (τ' := ({ τ with nodes := sset τ.nodes y.path (newN y zx) } : Tr)) (by repeat' constructor) (rfl) ?_))
  have hoL := ho.lay (.inr hab) (newN y zx) hfew
  refine .then_n (.sm rfl (.m rfl (.u (.fieldAddr rfl fo_43_5) (.u (.ld rfl ag_3) (.m rfl (.cv Tryz.func185 [_, _, _, _] (rkid7_spec x ({ τ with nodes := sset τ.nodes y.path (newN y zx) } : Tr) (parentZ y.path) y.num zx (N + 1) hoL (by omega)) ?_))))))
  refine .nt (.sm rfl (.u (.fieldAddr rfl fo_43_1) (.u (.ld rfl ag_9) (.m rfl (.q (.build (us := [(0, _), (1, _), (2, _)]) fl_184 ze_184 rfl rfl (by simp [isCell])) rfl (.m rfl (.m rfl (.q (.build (us := [(0, _), (1, _), (2, _)]) fl_184 ze_184 rfl rfl (by simp [isCell])) rfl (.oq (.buildSlice (vs := [_, _]) el_71 ze_184 rfl rfl rfl rfl (by first | (simp [Value.cells]; done) | (intro v hv; simp only [List.mem_cons, List.not_mem_nil, or_false] at hv; (repeat (first | (subst hv; rfl) | (rcases hv with hv | hv; (subst hv; rfl)))))) (by decide)) ?_)))))))))
  rintro v L' ⟨bo, rfl, rfl⟩
  refine .a rfl (.nil (.slMakeN 3 2 (b := bo) (xs := ([(3, (y.path, zx)), (4, (parentZ y.path, zx))] : List Ev).flatMap evC) (by repeat' constructor) rfl rfl (.then_n (.ret ?_))))
  have hc : createZ τ y zx = (kidT ({ τ with nodes := sset τ.nodes y.path (newN y zx) } : Tr) (parentZ y.path) y.num zx, [(3, (y.path, zx)), (4, (parentZ y.path, zx))]) := by unfold createZ; rw [if_pos ⟨hab, hup⟩, if_pos (show thereT τ y.path from place_iff.1 h28)]
  refine .rfCast (x := x) (τ' := (createZ τ y zx).1) (by repeat' constructor) (by rw [hc]) (.slCast (T := 184) (sz := 3) (m' := (createZ τ y zx).2.length) (xs' := (createZ τ y zx).2.flatMap evC) (by repeat' constructor) (by (rw [hc]; try rfl)) (by (rw [hc]; try rfl)) ?_)
  exact .dn rfl rfl ⟨_, _, by (rw [hc]; try rfl), rfl⟩
 refine .sk (.seq (.draw [7, 15] [[0, 1, 2, 3, 4, 5, 6, 8, 9, 10, 11, 12, 13, 7, 14], [15]] mixed (by kernel_rfl) (.go [ptc bx _ _] (by repeat' constructor) (.k rfl (.move rfl) (.k rfl (.fieldAddr rfl fo_43_1) (.k rfl (.ld rfl ag_9) (.k rfl (.fieldAddr rfl fo_43_2) (.k rfl (.ld rfl ag_9) (.kv rfl (.fieldAddr rfl fo_43_3) (.kv rfl (.ld rfl ag_24) (.k rfl (.move rfl) (.k rfl (.move rfl) (.k rfl (.move rfl) (.k rfl (.fieldAddr rfl fo_43_4) (.k rfl (.ld rfl ag_3) (.k rfl (.build (us := [(0, _), (1, _), (2, _), (6, _)]) fl_37 ze_37 rfl rfl (by simp [isCell])) (.hh rfl (.c Tryz.func126 [_] (rrows_spec y.aclV y.acl p hy.acl hfew)) ?_)))))))))))))))))
 rintro v L' ⟨⟨a8, c8, rfl⟩, rfl⟩
 refine D.kv rfl (.buildN (pl := [(0, 1), (1, 1), (2, 1), (3, 9)]) (us := [(0, vstr y.path), (1, vstr y.data), (2, .slice a8 y.acl.length c8), (3, .agg ([vint zx, vint zx, vint zx, vint 0, vint 0, vint 0, vint y.own, vint 0, vint 0] : List Value).toArray)]) (cells := [vstr y.path, vstr y.data, .slice a8 y.acl.length c8] ++ [vint zx, vint zx, vint zx, vint 0, vint 0, vint 0, vint y.own, vint 0, vint 0]) Tryz.underlying112 (by kernel_rfl) ze_112 rfl (fill_rnode _ _ _ _ _ _ _ _ _ _ _ _ _ _)) (.ph (.g0 (.hh rfl (.c Tryz.func184 [_, _] (rlay2_spec x τ ((y.path, (.slice a8 y.acl.length c8, newN y zx)) : Rno) rfl N ho (by omega))) ?_)))
 rintro v L' ⟨rfl, rfl⟩
 refine D.ph (.fin (.rfCast (x := x) (τ' := ({ τ with nodes := sset τ.nodes y.path (newN y zx) } : Tr)) (by repeat' constructor) (rfl) ?_))
 have hoL := ho.lay (.inr hab) (newN y zx) hfew
 refine .then_n (.sm rfl (.m rfl (.u (.fieldAddr rfl fo_43_5) (.u (.ld rfl ag_3) (.m rfl (.cv Tryz.func185 [_, _, _, _] (rkid7_spec x ({ τ with nodes := sset τ.nodes y.path (newN y zx) } : Tr) (parentZ y.path) y.num zx (N + 1) hoL (by omega)) ?_))))))
 refine .nt (.sm rfl (.u (.fieldAddr rfl fo_43_1) (.u (.ld rfl ag_9) (.m rfl (.q (.build (us := [(0, _), (1, _), (2, _)]) fl_184 ze_184 rfl rfl (by simp [isCell])) rfl (.m rfl (.m rfl (.q (.build (us := [(0, _), (1, _), (2, _)]) fl_184 ze_184 rfl rfl (by simp [isCell])) rfl (.oq (.buildSlice (vs := [_, _]) el_71 ze_184 rfl rfl rfl rfl (by first | (simp [Value.cells]; done) | (intro v hv; simp only [List.mem_cons, List.not_mem_nil, or_false] at hv; (repeat (first | (subst hv; rfl) | (rcases hv with hv | hv; (subst hv; rfl)))))) (by decide)) ?_)))))))))
 rintro v L' ⟨bo, rfl, rfl⟩
 refine .a rfl (.nil (.slMakeN 3 2 (b := bo) (xs := ([(1, (y.path, zx)), (4, (parentZ y.path, zx))] : List Ev).flatMap evC) (by repeat' constructor) rfl rfl (.then_n (.ret ?_))))
 have hc : createZ τ y zx = (kidT ({ τ with nodes := sset τ.nodes y.path (newN y zx) } : Tr) (parentZ y.path) y.num zx, [(1, (y.path, zx)), (4, (parentZ y.path, zx))]) := by unfold createZ; rw [if_pos ⟨hab, hup⟩, if_neg (show ¬ thereT τ y.path from fun g => h28 (place_iff.2 g))]
 refine .rfCast (x := x) (τ' := (createZ τ y zx).1) (by repeat' constructor) (by rw [hc]) (.slCast (T := 184) (sz := 3) (m' := (createZ τ y zx).2.length) (xs' := (createZ τ y zx).2.flatMap evC) (by repeat' constructor) (by (rw [hc]; try rfl)) (by (rw [hc]; try rfl)) ?_)
 exact .dn rfl rfl ⟨_, _, by (rw [hc]; try rfl), rfl⟩
theorem rerase_spec (x : Nat) (τ : Tr) (y : Pt) (zx : Int) (p : HP) (hy : PtA p y) (N : Nat) (ho : τ.Ok N) (hN : N + 1 ≤ 1073741824) : Fn Tryz.prog 129 #[vptr x, .agg (ptC y).toArray, vint zx] [refR x τ] fun v L => ∃ a c, v = .slice a (eraseZ τ y zx).2.length c ∧ L = [refR x (eraseZ τ y zx).1, slR 184 3 v (eraseZ τ y zx).2.length ((eraseZ τ y zx).2.flatMap evC)] := by
 refine Fn.intro Tryz.func129 rfl rfl fun F W => ?_
 have hfew := hy.few
 have hpl := hy.plen
 have hpar := parent_len y.path
 have hof := ho.few
 refine .sr (.oq (.box rfl) ?_)
 rintro v L' ⟨bx, rfl, rfl⟩
 refine .a rfl (.nil (.ptCast (b := bx) (l' := ptC y) (by repeat' constructor) rfl (.then_n (.sr (.u (.fieldAddr rfl fo_43_1) (.u (.ld rfl ag_9) (.cv Tryz.func127 [_] (rable_spec y.path (by omega)) ?_)))))))
 refine .an rfl (.seq (.sm rfl (.u (.not rfl) (.nt (.condN rfl (fun h18 => ?_) (fun h18 => ?_))))))
 ·refine .sr (.an rfl (.rt (.add (slR_nil 184 3) ?_)))
  have hc : eraseZ τ y zx = (τ, []) := by unfold eraseZ; rw [if_neg h18]
  refine .rfCast (x := x) (τ' := (eraseZ τ y zx).1) (by repeat' constructor) (by rw [hc]) (.slCast (T := 184) (sz := 3) (m' := (eraseZ τ y zx).2.length) (xs' := (eraseZ τ y zx).2.flatMap evC) (by repeat' constructor) (by (rw [hc]; try rfl)) (by (rw [hc]; try rfl)) ?_)
  exact .dn rfl rfl ⟨_, _, by (rw [hc]; try rfl), rfl⟩
 refine .sk (.sr (.u (.fieldAddr rfl fo_43_1) (.u (.ld rfl ag_9) (.cv Tryz.func110 [_] (rparent_spec y.path (by omega)) ?_))))
 refine .an rfl (.sm rfl (.u (.fieldAddr rfl fo_43_1) (.u (.ld rfl ag_9) (.cv Tryz.func95 [_, _] (rplace_spec x τ y.path (by omega)) ?_))))
 refine .ui rfl rfl rfl (.an rfl (.seq (.add (slR_nil 112 12) (.rtOpen (x := x) (τ := τ) (by repeat' constructor) fun an cn as1 cs l hl => ?_))))
 have hll := nds_len hl
 refine .region (.an rfl (.seq (.sr (.an rfl (.block (.loopK (ι := Nat × Value) (fun q E => (11, vint q.1) :: (10, q.2) :: E) (fun q => [rnR q.2 ((l.take q.1).filter fun w => !hitT w.1 y.path)]) (fun q => q.1 ≤ l.length ∧ ∃ a c, q.2 = .slice a ((l.take q.1).filter fun w => !hitT w.1 y.path).length c) (fun q => l.length - q.1) (0, .slice none 0 0) (ts := [0, 2, 4, 6, 8, 9]) (.cons rfl (.cons rfl (.cons rfl (.cons rfl (.cons rfl (.cons rfl (.nil))))))) (⟨Nat.zero_le _, none, 0, rfl⟩) ⟨rfl, rfl, rfl, rfl, rfl, rfl, rfl, rfl, trivial⟩ (by repeat' constructor) ?_))))))
 rintro ⟨i, u⟩ ⟨hi, au, cu, hu⟩
 dsimp only
 dsimp only at hi hu
 subst hu
 have hfl := List.length_filter_le (fun w : Rno => !hitT w.1 y.path) (l.take i)
 rw [List.length_take] at hfl
 refine .seq (.sm rfl (.m rfl (.nf rfl fo_110_0 (.u (.ld rfl ag_107) (.q (.slen rfl Tryz.underlying107 rfl) rfl (.ui rfl rfl rfl (.nt (.condD rfl (fun h33 => ?_) (fun h33 => ?_)))))))))
 ·have hi2 : i < l.length := by omega
  have hpi : l[i].1.length ≤ 60 := by have := nds_get hl hi2; have h2 := able_len (ho.able _ (List.getElem_mem (l := τ.nodes) (n := i) (by omega))); rw [this] at h2; exact h2
  refine .slShape (T := 112) (sz := 12) (v := .slice an l.length cn) (xs := l.flatMap rnC) (by repeat' constructor) (by omega) fun bn bn' e0 mbn _ => ?_
  simp only [Value.slice.injEq, true_and] at e0
  obtain ⟨rfl, rfl⟩ := e0
  refine .sk (.seq (.block (.seq (.draw [10] [[0, 1, 2, 3, 4, 5, 6, 7, 8, 9, 10], [11]] mixed (by kernel_rfl) (.g0 (.mv rfl rfl (.nf rfl rfl rfl fo_110_0 (.kv rfl (.ld rfl ag_107) (.mv rfl rfl (.kv rfl (.indexAddr rfl rfl el_107 (by omega)) (.kv rfl (.fieldAddr rfl fo_112_0) (.kv rfl (.loadRd (sz := 12) (j := i * 12 + 0) (p := rnR _ l) rfl ag_9 (by repeat' constructor) (fun h hp => slR_rd hp) (by omega) ((rn_cell (l := l) (i := i) (k := 0) (by omega) (by decide)).trans rfl)) (.kv rfl (.fieldAddr rfl fo_43_1) (.kv rfl (.ld rfl ag_9) (.hh rfl (.c Tryz.func186 [_, _] (runder_spec l[i].1 y.path (by omega))) ?_)))))))))))))))
  rintro v L' ⟨rfl, rfl⟩
  refine D.ph (.g0 (.kv rfl (.assign rfl) (.pf (.seq (.draw [] [[0, 1, 2, 3, 4, 5, 6, 7, 8, 9, 10, 11, 12, 13, 14]] mixed (by kernel_rfl) (.g0 (.mv rfl rfl (.nf rfl rfl rfl fo_110_0 (.kv rfl (.ld rfl ag_107) (.mv rfl rfl (.kv rfl (.indexAddr rfl rfl el_107 (by omega)) (.kv rfl (.fieldAddr rfl fo_112_0) (.kv rfl (.loadRd (sz := 12) (j := i * 12 + 0) (p := rnR _ l) rfl ag_9 (by repeat' constructor) (fun h hp => slR_rd hp) (by omega) ((rn_cell (l := l) (i := i) (k := 0) (by omega) (by decide)).trans rfl)) (.kv rfl (.fieldAddr rfl fo_43_1) (.kv rfl (.ld rfl ag_9) (.kv rfl (.strne rfl rfl) (.mv rfl rfl (.ndec (t := 58) rfl (fun h11_58 => ?_) (fun h11_58 => ?_)))))))))))))))))))
  ·refine D.kNT (t := 57) rfl h11_58 (.gv rfl (.move rfl) (.gv rfl (.not rfl) (.kv rfl (.pickT rfl rfl) (.pf (.condN rfl (fun h61 => ?_) (fun h61 => ?_))))))
   ·have hhit : hitT l[i].1 y.path = false := by unfold hitT; rw [decide_eq_false h11_58, decide_eq_false h61]; rfl
    refine .aclShape (l := l) (i := i) hi2 (by repeat' constructor) fun hcl => (.region (.m rfl (.m rfl (.nf rfl fo_110_0 (.u (.ld rfl ag_107) (.m rfl (.q (.indexAddr rfl rfl el_107 (by omega)) rfl (.q (.loadRdA (sz := 12) (j := i * 12) (k := 12) (p := rnR _ l) (vs := rnC l[i]) rfl ag_112 (by repeat' constructor) (fun h hp => slR_rd hp) (by omega) (by omega) (by omega) (flatMap_at (f := rnC) (sz := 12) (fun _ _ => rfl) (by omega))) rfl (.oq (.buildSlice (vs := [_]) el_107 ze_112 rfl rfl rfl rfl (by first | (simp [Value.cells]; done) | (intro v hv; simp only [List.mem_cons, List.not_mem_nil, or_false] at hv; (repeat (first | (subst hv; rfl) | (rcases hv with hv | hv; (subst hv; rfl)))))) (by decide)) ?_)))))))))
    rintro v L' ⟨b12_8, rfl, rfl⟩
    refine .oq (.append1 rfl rfl rfl el_107 ze_112 rfl rfl ?c63 ?c64 (Nat.le_refl _) ?c65 (by decide)) ?_
    case c63 => first | exact rn_cells hcl | (simp only [List.map_cons, List.map_nil, List.flatten_cons, List.flatten_nil, List.append_nil]; exact rn_cells hcl)
    case c64 => rfl
    case c65 => first | omega | (simp; omega)
    rintro v L' ⟨⟨a12_9, c12_9, rfl⟩, rfl⟩
    refine .a rfl (.nil (.blk_n (.then_n (.region (.m rfl (.q (.add rfl rfl (by omega)) rfl (.an rfl ?_)))))))
    have hst : ((l.take (i + 1)).filter fun w => !hitT w.1 y.path) = ((l.take i).filter fun w => !hitT w.1 y.path) ++ [l[i]] := by rw [List.take_succ_eq_append_getElem hi2, List.filter_append]; simp [hhit]
    rw [show ((l.take i).filter fun w => !hitT w.1 y.path).length + 1 = ((l.take (i + 1)).filter fun w => !hitT w.1 y.path).length by rw [hst, List.length_append]; rfl]
    refine .slCast (T := 112) (sz := 12) (m' := ((l.take (i + 1)).filter fun w => !hitT w.1 y.path).length) (xs' := ((l.take (i + 1)).filter fun w => !hitT w.1 y.path).flatMap rnC) (by repeat' constructor) rfl (by rw [hst, List.flatMap_append]; simp; rfl) ?_
    exact .rk ((i + 1, .slice a12_9 ((l.take (i + 1)).filter fun w => !hitT w.1 y.path).length c12_9)) (⟨by dsimp only; omega, _, _, rfl⟩) (by dsimp only; omega) ⟨rfl, rfl, rfl, rfl, rfl, rfl, rfl, rfl, trivial⟩
   refine .skip (.blk_n (.then_n (.region (.m rfl (.q (.add rfl rfl (by omega)) rfl (.an rfl ?_))))))
   have hhit : hitT l[i].1 y.path = true := by unfold hitT; rw [decide_eq_true (p := underZ l[i].1 y.path) (by simpa using h61), Bool.or_true]
   have hst : ((l.take (i + 1)).filter fun w => !hitT w.1 y.path) = ((l.take i).filter fun w => !hitT w.1 y.path) := by rw [List.take_succ_eq_append_getElem hi2, List.filter_append]; simp [hhit]
   rw [← hst]
   exact .rk ((i + 1, .slice au ((l.take (i + 1)).filter fun w => !hitT w.1 y.path).length cu)) (⟨by dsimp only; omega, _, _, rfl⟩) (by dsimp only; omega) ⟨rfl, rfl, rfl, rfl, rfl, rfl, rfl, rfl, trivial⟩
  refine D.kNF (t := 57) rfl h11_58 (.gz rfl (.gz rfl (.kv rfl (.pickF rfl rfl) (.pf (.condF rfl (.skip (.blk_n (.then_n (.region (.m rfl (.q (.add rfl rfl (by omega)) rfl (.an rfl ?_))))))))))))
  have hhit : hitT l[i].1 y.path = true := by unfold hitT; rw [decide_eq_true h11_58]; rfl
  have hst : ((l.take (i + 1)).filter fun w => !hitT w.1 y.path) = ((l.take i).filter fun w => !hitT w.1 y.path) := by rw [List.take_succ_eq_append_getElem hi2, List.filter_append]; simp [hhit]
  rw [← hst]
  exact .rk ((i + 1, .slice au ((l.take (i + 1)).filter fun w => !hitT w.1 y.path).length cu)) (⟨by dsimp only; omega, _, _, rfl⟩) (by dsimp only; omega) ⟨rfl, rfl, rfl, rfl, rfl, rfl, rfl, rfl, trivial⟩
 have hii : i = l.length := by omega
 subst hii
 rw [List.take_length]
 refine .exit (.then_e (.then_e (.blk_e (.then_n (.sm rfl (.m rfl (.nf rfl fo_110_0 (.st rfl rfl rfl sz_107 ?_))))))))
 refine .nil (.bigSub (l := (l.filter fun w => !hitT w.1 y.path)) List.filter_sublist (by repeat' constructor) (.rtFold (x := x) (τ := (cutT τ y.path)) (l := (l.filter fun w => !hitT w.1 y.path)) (by rw [nds_filter (fun q => !hitT q y.path), hl]; rfl) (by repeat' constructor) rfl rfl rfl rfl rfl (.then_n (.sm rfl (.m rfl (.u (.fieldAddr rfl fo_43_5) (.u (.ld rfl ag_3) (.m rfl (.oq (.c Tryz.func185 [_, _, _, _] (rkid7_spec x (cutT τ y.path) (parentZ y.path) y.num zx N (ho.cut y.path) (by omega))) ?_)))))))))
 rintro v L' ⟨rfl, rfl⟩; have hoK := (ho.cut y.path).kid (parentZ y.path) y.num zx; have hofk := hoK.few
 refine .nt (.seq (.sm rfl (.u (.not rfl) (.nt (.condN rfl (fun h83 => ?_) (fun h83 => ?_))))))
 ·have hth : ¬ thereT τ y.path := fun g => h83 (place_iff.2 g)
  refine .sr (.an rfl (.rt (.add (slR_nil 184 3) ?_)))
  have hc : eraseZ τ y zx = ((kidT (cutT τ y.path) (parentZ y.path) y.num zx), []) := by unfold eraseZ; rw [if_pos h18, if_neg hth]
  refine .rfCast (x := x) (τ' := (eraseZ τ y zx).1) (by repeat' constructor) (by rw [hc]) (.slCast (T := 184) (sz := 3) (m' := (eraseZ τ y zx).2.length) (xs' := (eraseZ τ y zx).2.flatMap evC) (by repeat' constructor) (by (rw [hc]; try rfl)) (by (rw [hc]; try rfl)) ?_)
  exact .dn rfl rfl ⟨_, _, by (rw [hc]; try rfl), rfl⟩
 have hth : thereT τ y.path := place_iff.1 h83
 refine .sk (.sr (.u (.fieldAddr rfl fo_43_1) (.u (.ld rfl ag_9) (.m rfl (.q (.build (us := [(0, _), (1, _), (2, _)]) fl_184 ze_184 rfl rfl (by simp [isCell])) rfl (.oq (.buildSlice (vs := [_]) el_71 ze_184 rfl rfl rfl rfl (by first | (simp [Value.cells]; done) | (intro v hv; simp only [List.mem_cons, List.not_mem_nil, or_false] at hv; (repeat (first | (subst hv; rfl) | (rcases hv with hv | hv; (subst hv; rfl)))))) (by decide)) ?_))))))
 rintro v L' ⟨bo, rfl, rfl⟩
 refine .a rfl (.nil (.slMakeN 3 1 (b := bo) (xs := ([(2, (y.path, zx))] : List Ev).flatMap evC) (by repeat' constructor) rfl rfl (.then_n (.seq (.sm rfl (.m rfl (.cv Tryz.func95 [_, _] (rplace_spec x (kidT (cutT τ y.path) (parentZ y.path) y.num zx) (parentZ y.path) (by omega)) ?_)))))))
 refine .ui rfl rfl rfl (.nt (.condD rfl (fun h92 => ?_) (fun h92 => ?_)))
 ·refine .region (.m rfl (.m rfl (.m rfl (.q (.build (us := [(0, _), (1, _), (2, _)]) fl_184 ze_184 rfl rfl (by simp [isCell])) rfl (.oq (.buildSlice (vs := [_]) el_71 ze_184 rfl rfl rfl rfl (by first | (simp [Value.cells]; done) | (intro v hv; simp only [List.mem_cons, List.not_mem_nil, or_false] at hv; (repeat (first | (subst hv; rfl) | (rcases hv with hv | hv; (subst hv; rfl)))))) (by decide)) ?_)))))
  rintro v L' ⟨b19_4, rfl, rfl⟩
  refine .oq (.append1 rfl rfl rfl el_71 ze_184 rfl rfl ?c108 ?c109 (Nat.le_refl _) ?c110 (by decide)) ?_
  case c108 => (first | (simp [isCell]; done) | (simp [isCell, setAll, Value.cells]; done))
  case c109 => rfl
  case c110 => omega
  rintro v L' ⟨⟨a19_5, c19_5, rfl⟩, rfl⟩
  refine .an rfl (.sm rfl (.an rfl (.ret ?_)))
  have hc : eraseZ τ y zx = ((kidT (cutT τ y.path) (parentZ y.path) y.num zx), [(2, (y.path, zx)), (4, (parentZ y.path, zx))]) := by unfold eraseZ; rw [if_pos h18, if_pos hth, if_pos (show thereT (cutT τ y.path) (parentZ y.path) from kid_there.1 (place_iff.1 h92))]
  refine .rfCast (x := x) (τ' := (eraseZ τ y zx).1) (by repeat' constructor) (by rw [hc]) (.slCast (T := 184) (sz := 3) (m' := (eraseZ τ y zx).2.length) (xs' := (eraseZ τ y zx).2.flatMap evC) (by repeat' constructor) (by (rw [hc]; try rfl)) (by (rw [hc]; try rfl)) ?_)
  exact .dn rfl rfl ⟨_, _, by (rw [hc]; try rfl), rfl⟩
 refine .sk (.sm rfl (.an rfl (.ret ?_)))
 have hc : eraseZ τ y zx = ((kidT (cutT τ y.path) (parentZ y.path) y.num zx), [(2, (y.path, zx))]) := by unfold eraseZ; rw [if_pos h18, if_pos hth, if_neg (show ¬ thereT (cutT τ y.path) (parentZ y.path) from fun g => h92 (place_iff.2 (kid_there.2 g)))]
 refine .rfCast (x := x) (τ' := (eraseZ τ y zx).1) (by repeat' constructor) (by rw [hc]) (.slCast (T := 184) (sz := 3) (m' := (eraseZ τ y zx).2.length) (xs' := (eraseZ τ y zx).2.flatMap evC) (by repeat' constructor) (by (rw [hc]; try rfl)) (by (rw [hc]; try rfl)) ?_)
 exact .dn rfl rfl ⟨_, _, by (rw [hc]; try rfl), rfl⟩
theorem rpart_spec (x : Nat) (τ : Tr) (y : Pt) (zx : Int) (p : HP) (hy : PtA p y) (N : Nat) (ho : τ.Ok N) (hN : N + 1 ≤ 1073741824) : Fn Tryz.prog 71 #[vptr x, .agg (ptC y).toArray, vint zx] [refR x τ, p] fun v L => ∃ a c, v = .slice a (partZ τ y zx).2.length c ∧ L = [refR x (partZ τ y zx).1, p, slR 184 3 v (partZ τ y zx).2.length ((partZ τ y zx).2.flatMap evC)] := by
 refine Fn.intro Tryz.func71 rfl rfl fun F W => ?_
 have hfew := hy.few
 have hpl := hy.plen
 have hof := ho.few
 have hnd := ho.sorted.nodup linB
 refine .sr (.oq (.box rfl) ?_)
 rintro v L' ⟨bx, rfl, rfl⟩
 refine .a rfl (.nil (.ptCast (b := bx) (l' := ptC y) (by repeat' constructor) rfl (.then_n (.sm rfl (.u (.fieldAddr rfl fo_43_1) (.u (.ld rfl ag_9) (.cv Tryz.func95 [_, _] (rplace_spec x τ y.path (by omega)) ?_)))))))
 refine .an rfl (.seq (.sr (.u (.fieldAddr rfl fo_43_0) (.u (.ld rfl ag_3) (.nt (.block (.sr (.ui rfl rfl rfl (.an rfl (.condD rfl (fun h14 => ?_) (fun h14 => ?_)))))))))))
 ·refine .sm rfl (.q (.loadAs (vs := ptC y) rfl ag_43 (by repeat' constructor) (by simp [ptC]) rfl) rfl (.m rfl (.oq (.c Tryz.func128 [_, _, _] (rcreate_spec x τ y zx p hy N ho hN)) ?_)))
  rintro v L' ⟨a4, c4, rfl, rfl⟩
  refine .an rfl (.ret (.blk_r (.then_r ?_)))
  have hc : partZ τ y zx = createZ τ y zx := by unfold partZ; rw [if_pos h14]
  refine .rfCast (x := x) (τ' := (partZ τ y zx).1) (by repeat' constructor) (by rw [hc]) (.slCast (T := 184) (sz := 3) (m' := (partZ τ y zx).2.length) (xs' := (partZ τ y zx).2.flatMap evC) (by repeat' constructor) (by (rw [hc]; try rfl)) (by (rw [hc]; try rfl)) ?_)
  exact .dn rfl rfl ⟨_, _, by (rw [hc]; try rfl), rfl⟩
 refine .sr (.ui rfl rfl rfl (.an rfl (.condD rfl (fun h20 => ?_) (fun h20 => ?_))))
 ·refine .sm rfl (.q (.loadAs (vs := ptC y) rfl ag_43 (by repeat' constructor) (by simp [ptC]) rfl) rfl (.m rfl (.oq (.c Tryz.func129 [_, _, _] (rerase_spec x τ y zx p hy N ho hN)) ?_)))
  rintro v L' ⟨a6, c6, rfl, rfl⟩
  refine .an rfl (.ret (.blk_r (.then_r ?_)))
  have hc : partZ τ y zx = eraseZ τ y zx := by unfold partZ; rw [if_neg h14, if_pos h20]
  refine .rfCast (x := x) (τ' := (partZ τ y zx).1) (by repeat' constructor) (by rw [hc]) (.slCast (T := 184) (sz := 3) (m' := (partZ τ y zx).2.length) (xs' := (partZ τ y zx).2.flatMap evC) (by repeat' constructor) (by (rw [hc]; try rfl)) (by (rw [hc]; try rfl)) ?_)
  exact .dn rfl rfl ⟨_, _, by (rw [hc]; try rfl), rfl⟩
 refine .sr (.ui rfl rfl rfl (.an rfl (.condD rfl (fun h26 => ?_) (fun h26 => ?_))))
 ·refine .sm rfl (.ui rfl rfl rfl (.nt (.condD rfl (fun h29 => ?_) (fun h29 => ?_))))
  ·obtain ⟨k, hk, hpk, hkp⟩ := place_get (l := τ.nodes) h29
   have hpz : placeZ τ y.path = k := hpk
   rw [hpz]
   refine .rtOpen (x := x) (τ := τ) (by repeat' constructor) fun an cn as1 cs l hl => ?_
   have hll := nds_len hl
   have hkl : k < l.length := by omega
   have hlk : l[k].1 = y.path := by have := nds_get hl hkl; rw [← hkp]; simp only [this]
   refine .slShape (T := 112) (sz := 12) (v := .slice an l.length cn) (xs := l.flatMap rnC) (by repeat' constructor) (by omega) fun bn bn' e0 mbn _ => ?_
   simp only [Value.slice.injEq, true_and] at e0
   obtain ⟨rfl, rfl⟩ := e0
   refine .seq (.draw [9] [[0, 1, 2, 3, 4, 5, 6, 7, 8, 9]] mixed (by kernel_rfl) (.g0 (.mv rfl rfl (.nf rfl rfl rfl fo_110_0 (.kv rfl (.ld rfl ag_107) (.mv rfl rfl (.kv rfl (.fieldAddr rfl fo_43_2) (.kv rfl (.ld rfl ag_9) (.kv rfl (.indexAddr rfl rfl el_107 (by omega)) (.kv rfl (.fieldAddr rfl fo_112_1) (.hh rfl (.storeRd (sz := 12) (j := k * 12 + 1) rfl rfl ?hv33 sz_9 ?ho34 ?hi35) ?_)))))))))))
   case hv33 => first | rfl | assumption
   case ho34 => omega
   case hi35 => omega
   rintro v L' rfl
   refine D.ph (.fin (.slCast (T := 112) (sz := 12) (m' := l.length) (xs' := (l.set k (l[k].1, (l[k].2.1, { l[k].2.2 with data := y.data }))).flatMap rnC) (by repeat' constructor) rfl (flatMap_set (f := rnC) (sz := 12) (fun _ => rfl) (by simpa using hkl) (by decide) (by rfl)) (.then_n (.seq (.draw [10] [[0, 1, 2, 3, 4, 5, 6, 7, 8, 9, 10]] mixed (by kernel_rfl) (.g0 (.mv rfl rfl (.nf rfl rfl rfl fo_110_0 (.kv rfl (.ld rfl ag_107) (.mv rfl rfl (.kv rfl (.fieldAddr rfl fo_43_5) (.kv rfl (.ld rfl ag_3) (.kv rfl (.indexAddr rfl rfl el_107 (by omega)) (.kv rfl (.fieldAddr rfl fo_112_3) (.kv rfl (.fieldAddr rfl fo_37_3) (.hh rfl (.storeRd (sz := 12) (j := k * 12 + 6) rfl rfl ?hv46 sz_3 ?ho47 ?hi48) ?_))))))))))))))))
   case hv46 => first | rfl | assumption
   case ho47 => omega
   case hi48 => omega
   rintro v L' rfl
   refine D.ph (.fin (.slCast (T := 112) (sz := 12) (m' := l.length) (xs' := ((l.set k (l[k].1, (l[k].2.1, { l[k].2.2 with data := y.data }))).set k (l[k].1, (l[k].2.1, { l[k].2.2 with data := y.data, st := { l[k].2.2.st with ver := y.num } }))).flatMap rnC) (by repeat' constructor) rfl (flatMap_set (f := rnC) (sz := 12) (fun _ => rfl) (by simpa using hkl) (by decide) (by rw [List.getElem_set_self]; rfl)) ?_))
   rw [List.set_set]
   refine .then_n (.sm rfl (.nf rfl fo_110_0 (.u (.ld rfl ag_107) (.m rfl (.m rfl (.q (.indexAddr rfl rfl el_107 (by omega)) rfl (.u (.fieldAddr rfl fo_112_3) (.u (.fieldAddr rfl fo_37_1) (.oq (.storeRd (sz := 12) (j := k * 12 + 4) rfl rfl ?hv58 sz_3 ?ho59 ?hi60) ?_)))))))))
   case hv58 => first | rfl | assumption
   case ho59 => omega
   case hi60 => omega
   rintro v L' rfl
   refine .nil (.slCast (T := 112) (sz := 12) (m' := l.length) (xs' := ((l.set k (l[k].1, (l[k].2.1, { l[k].2.2 with data := y.data, st := { l[k].2.2.st with ver := y.num } }))).set k (l[k].1, (l[k].2.1, setN y.data y.num zx l[k].2.2))).flatMap rnC) (by repeat' constructor) rfl (flatMap_set (f := rnC) (sz := 12) (fun _ => rfl) (by simpa using hkl) (by decide) (by rw [List.getElem_set_self]; rfl)) ?_)
   rw [List.set_set]
   refine .bigSet (y := (l[k].1, (l[k].2.1, setN y.data y.num zx l[k].2.2))) hkl (by rfl) (by repeat' constructor) (.rtFold (x := x) (τ := ({ τ with nodes := amod τ.nodes y.path (setN y.data y.num zx) } : Tr)) (l := (l.set k (l[k].1, (l[k].2.1, setN y.data y.num zx l[k].2.2)))) (nds_mod hl hnd hkl hlk (setN y.data y.num zx) rfl) (by repeat' constructor) rfl (by simp) rfl rfl rfl (.then_n (.sr (.u (.fieldAddr rfl fo_43_1) (.u (.ld rfl ag_9) (.m rfl (.q (.build (us := [(0, _), (1, _), (2, _)]) fl_184 ze_184 rfl rfl (by simp [isCell])) rfl (.oq (.buildSlice (vs := [_]) el_71 ze_184 rfl rfl rfl rfl (by first | (simp [Value.cells]; done) | (intro v hv; simp only [List.mem_cons, List.not_mem_nil, or_false] at hv; (repeat (first | (subst hv; rfl) | (rcases hv with hv | hv; (subst hv; rfl)))))) (by decide)) ?_))))))))
   rintro v L' ⟨bo, rfl, rfl⟩
   refine .a rfl (.nil (.slMakeN 3 1 (b := bo) (xs := ([(3, (y.path, zx))] : List Ev).flatMap evC) (by repeat' constructor) rfl rfl (.then_n (.ret (.blk_r (.then_r ?_))))))
   have hc : partZ τ y zx = (({ τ with nodes := amod τ.nodes y.path (setN y.data y.num zx) } : Tr), [(3, (y.path, zx))]) := by unfold partZ; rw [if_neg h14, if_neg h20, if_pos ⟨h26, place_iff.1 h29⟩]
   refine .rfCast (x := x) (τ' := (partZ τ y zx).1) (by repeat' constructor) (by rw [hc]) (.slCast (T := 184) (sz := 3) (m' := (partZ τ y zx).2.length) (xs' := (partZ τ y zx).2.flatMap evC) (by repeat' constructor) (by (rw [hc]; try rfl)) (by (rw [hc]; try rfl)) ?_)
   exact .dn rfl rfl ⟨_, _, by (rw [hc]; try rfl), rfl⟩
  refine .skip (.blk_n (.then_n (.sr (.an rfl (.ret (.add (slR_nil 184 3) ?_))))))
  have hc : partZ τ y zx = (τ, []) := by unfold partZ; rw [if_neg h14, if_neg h20, if_neg (fun g => h29 (place_iff.2 g.2)), if_neg (fun g => h29 (place_iff.2 g.2))]
  refine .rfCast (x := x) (τ' := (partZ τ y zx).1) (by repeat' constructor) (by rw [hc]) (.slCast (T := 184) (sz := 3) (m' := (partZ τ y zx).2.length) (xs' := (partZ τ y zx).2.flatMap evC) (by repeat' constructor) (by (rw [hc]; try rfl)) (by (rw [hc]; try rfl)) ?_)
  exact .dn rfl rfl ⟨_, _, by (rw [hc]; try rfl), rfl⟩
 refine .sr (.ui rfl rfl rfl (.an rfl (.condD rfl (fun h63 => ?_) (fun h63 => ?_))))
 ·refine .sm rfl (.ui rfl rfl rfl (.nt (.condD rfl (fun h66 => ?_) (fun h66 => ?_))))
  ·obtain ⟨k, hk, hpk, hkp⟩ := place_get (l := τ.nodes) h66
   have hpz : placeZ τ y.path = k := hpk
   rw [hpz]
   refine .rtOpen (x := x) (τ := τ) (by repeat' constructor) fun an cn as1 cs l hl => ?_
   have hll := nds_len hl
   have hkl : k < l.length := by omega
   have hlk : l[k].1 = y.path := by have := nds_get hl hkl; rw [← hkp]; simp only [this]
   refine .slShape (T := 112) (sz := 12) (v := .slice an l.length cn) (xs := l.flatMap rnC) (by repeat' constructor) (by omega) fun bn bn' e0 mbn _ => ?_
   simp only [Value.slice.injEq, true_and] at e0
   obtain ⟨rfl, rfl⟩ := e0
   refine .seq (.draw [7, 10] [[0, 1, 2, 3, 4, 5, 6, 7], [8, 9, 10]] mixed (by kernel_rfl) (.go [ptc bx _ _, ptc x _ _] (by repeat' constructor) (.k rfl (.move rfl) (.k rfl (.nilp rfl) (.k rfl (.fieldAddr rfl fo_110_0) (.k rfl (.ld rfl ag_107) (.k rfl (.move rfl) (.kv rfl (.fieldAddr rfl fo_43_3) (.kv rfl (.ld rfl ag_24) (.hh rfl (.c Tryz.func126 [_] (rrows_spec y.aclV y.acl p hy.acl hfew)) ?_))))))))))
   rintro v L' ⟨⟨a15, c15, rfl⟩, rfl⟩
   refine D.ph (.g0 (.kv rfl (.indexAddr rfl rfl el_107 (by omega)) (.kv rfl (.fieldAddr rfl fo_112_2) (.hh rfl (.storeRd (sz := 12) (j := k * 12 + 2) rfl rfl ?hv81 sz_24 ?ho82 ?hi83) ?_))))
   case hv81 => first | rfl | assumption
   case ho82 => omega
   case hi83 => omega
   rintro v L' rfl
   refine D.ph (.fin (.slCast (T := 112) (sz := 12) (m' := l.length) (xs' := (l.set k (l[k].1, (.slice a15 y.acl.length c15, { l[k].2.2 with acl := y.acl }))).flatMap rnC) (by repeat' constructor) rfl (flatMap_set (f := rnC) (sz := 12) (fun _ => rfl) (by simpa using hkl) (by decide) (by rfl)) (.then_n (.draw [10] [[0, 1, 2, 3, 4, 5, 6, 7, 8, 9, 10]] mixed (by kernel_rfl) (.g0 (.mv rfl rfl (.nf rfl rfl rfl fo_110_0 (.kv rfl (.ld rfl ag_107) (.mv rfl rfl (.kv rfl (.fieldAddr rfl fo_43_5) (.kv rfl (.ld rfl ag_3) (.kv rfl (.indexAddr rfl rfl el_107 (by omega)) (.kv rfl (.fieldAddr rfl fo_112_3) (.kv rfl (.fieldAddr rfl fo_37_5) (.hh rfl (.storeRd (sz := 12) (j := k * 12 + 8) rfl rfl ?hv94 sz_3 ?ho95 ?hi96) ?_)))))))))))))))
   case hv94 => first | rfl | assumption
   case ho95 => omega
   case hi96 => omega
   rintro v L' rfl
   refine D.ph (.fin (.slCast (T := 112) (sz := 12) (m' := l.length) (xs' := ((l.set k (l[k].1, (.slice a15 y.acl.length c15, { l[k].2.2 with acl := y.acl }))).set k (l[k].1, (.slice a15 y.acl.length c15, aclN y.acl y.num l[k].2.2))).flatMap rnC) (by repeat' constructor) rfl (flatMap_set (f := rnC) (sz := 12) (fun _ => rfl) (by simpa using hkl) (by decide) (by rw [List.getElem_set_self]; rfl)) ?_))
   rw [List.set_set]
   refine .toRd (v := .slice a15 y.acl.length c15) (by repeat' constructor) (.bigRep (l[k].1, (.slice a15 y.acl.length c15, aclN y.acl y.num l[k].2.2)) hkl (p := rdO 2 (.slice a15 y.acl.length c15) y.acl.length (y.acl.flatMap acC)) rfl (by repeat' constructor) (.rtFold (x := x) (τ := ({ τ with nodes := amod τ.nodes y.path (aclN y.acl y.num) } : Tr)) (l := (l.set k (l[k].1, (.slice a15 y.acl.length c15, aclN y.acl y.num l[k].2.2)))) (nds_mod hl hnd hkl hlk (aclN y.acl y.num) rfl) (by repeat' constructor) rfl (by simp) rfl rfl rfl (.blk_n (.then_n (.sr (.an rfl (.ret (.add (slR_nil 184 3) ?_))))))))
   have hc : partZ τ y zx = (({ τ with nodes := amod τ.nodes y.path (aclN y.acl y.num) } : Tr), []) := by unfold partZ; rw [if_neg h14, if_neg h20, if_neg (fun g => h26 g.1), if_pos ⟨h63, place_iff.1 h66⟩]
   refine .rfCast (x := x) (τ' := (partZ τ y zx).1) (by repeat' constructor) (by rw [hc]) (.slCast (T := 184) (sz := 3) (m' := (partZ τ y zx).2.length) (xs' := (partZ τ y zx).2.flatMap evC) (by repeat' constructor) (by (rw [hc]; try rfl)) (by (rw [hc]; try rfl)) ?_)
   exact .dn rfl rfl ⟨_, _, by (rw [hc]; try rfl), rfl⟩
  refine .skip (.blk_n (.then_n (.sr (.an rfl (.ret (.add (slR_nil 184 3) ?_))))))
  have hc : partZ τ y zx = (τ, []) := by unfold partZ; rw [if_neg h14, if_neg h20, if_neg (fun g => h26 g.1), if_neg (fun g => h66 (place_iff.2 g.2))]
  refine .rfCast (x := x) (τ' := (partZ τ y zx).1) (by repeat' constructor) (by rw [hc]) (.slCast (T := 184) (sz := 3) (m' := (partZ τ y zx).2.length) (xs' := (partZ τ y zx).2.flatMap evC) (by repeat' constructor) (by (rw [hc]; try rfl)) (by (rw [hc]; try rfl)) ?_)
  exact .dn rfl rfl ⟨_, _, by (rw [hc]; try rfl), rfl⟩
 refine .skip (.blk_n (.then_n (.sr (.an rfl (.ret (.add (slR_nil 184 3) ?_))))))
 have hc : partZ τ y zx = (τ, []) := by unfold partZ; rw [if_neg h14, if_neg h20, if_neg (fun g => h26 g.1), if_neg (fun g => h63 g.1)]
 refine .rfCast (x := x) (τ' := (partZ τ y zx).1) (by repeat' constructor) (by rw [hc]) (.slCast (T := 184) (sz := 3) (m' := (partZ τ y zx).2.length) (xs' := (partZ τ y zx).2.flatMap evC) (by repeat' constructor) (by (rw [hc]; try rfl)) (by (rw [hc]; try rfl)) ?_)
 exact .dn rfl rfl ⟨_, _, by (rw [hc]; try rfl), rfl⟩
theorem rs_cells (z : Int × (Int × Bs)) : ∀ y ∈ (Value.agg (rsC z).toArray).cells.toList, isCell y = true := by
 intro v hv
 simp only [Value.cells, rsC, List.mem_cons, List.not_mem_nil, or_false] at hv
 rcases hv with rfl | rfl | rfl <;> rfl
theorem rsl_cells (l : SsM) : ∀ y ∈ l.flatMap rsC, isCell y = true := by
 intro y hy
 obtain ⟨a, -, h⟩ := List.mem_flatMap.1 hy
 simp only [rsC, List.mem_cons, List.not_mem_nil, or_false] at h
 rcases h with rfl | rfl | rfl <;> rfl
theorem rdrop_spec (x : Nat) (τ : Tr) (id : Int) (hN : τ.sess.length ≤ 1073741824) : Fn Tryz.prog 78 #[vptr x, vint id] [refR x τ] fun v L => v = .tuple #[] ∧ L = [refR x (dropS τ id)] := by
 refine Fn.intro Tryz.func78 rfl rfl fun F W => ?_
 refine .rtOpen (x := x) (τ := τ) (by repeat' constructor) fun an cn as1 cs l hl => (.add (slR_nil 122 3) (.sr (.an rfl (.seq (.sr (.an rfl (.block (.loopK (ι := Nat × Value) (fun q E => (5, vint q.1) :: (4, q.2) :: E) (fun q => [rsR q.2 ((τ.sess.take q.1).filter fun w => !decide (w.1 = id))]) (fun q => q.1 ≤ τ.sess.length ∧ ∃ a c, q.2 = .slice a ((τ.sess.take q.1).filter fun w => !decide (w.1 = id)).length c) (fun q => τ.sess.length - q.1) (0, .slice none 0 0) (ts := [0, 1]) (.cons rfl (.cons rfl (.nil))) (⟨Nat.zero_le _, none, 0, rfl⟩) ⟨rfl, rfl, rfl, rfl, trivial⟩ (by repeat' constructor) ?_))))))))
 rintro ⟨i, u⟩ ⟨hi, au, cu, hu⟩
 dsimp only
 dsimp only at hi hu
 subst hu
 have hfl := List.length_filter_le (fun w : Int × (Int × Bs) => !decide (w.1 = id)) (τ.sess.take i)
 rw [List.length_take] at hfl
 refine .seq (.sm rfl (.m rfl (.nf rfl fo_110_1 (.u (.ld rfl ag_108) (.q (.slen rfl Tryz.underlying108 rfl) rfl (.ui rfl rfl rfl (.nt (.condD rfl (fun h12 => ?_) (fun h12 => ?_)))))))))
 ·have hi2 : i < τ.sess.length := by omega
  refine .slShape (T := 122) (sz := 3) (v := .slice as1 τ.sess.length cs) (xs := τ.sess.flatMap rsC) (by repeat' constructor) (by omega) fun bs bs' e0 mbs _ => ?_
  simp only [Value.slice.injEq, true_and] at e0
  obtain ⟨rfl, rfl⟩ := e0
  refine .sk (.seq (.block (.sm rfl (.nf rfl fo_110_1 (.u (.ld rfl ag_108) (.m rfl (.q (.indexAddr rfl rfl el_108 (by omega)) rfl (.u (.fieldAddr rfl fo_122_0) (.q (.loadRd (sz := 3) (j := i * 3 + 0) (p := rsR _ τ.sess) rfl ag_3 (by repeat' constructor) (fun h hp => slR_rd hp) (by omega) ((rs_cell (l := τ.sess) (i := i) (k := 0) (by omega) (by decide)).trans rfl)) rfl (.m rfl (.ui rfl rfl rfl (.nt (.condN rfl (fun h24 => ?_) (fun h24 => ?_))))))))))))))
  ·refine .region (.m rfl (.m rfl (.nf rfl fo_110_1 (.u (.ld rfl ag_108) (.m rfl (.q (.indexAddr rfl rfl el_108 (by omega)) rfl (.q (.loadRdA (sz := 3) (j := i * 3) (k := 3) (p := rsR _ τ.sess) (vs := rsC τ.sess[i]) rfl ag_122 (by repeat' constructor) (fun h hp => slR_rd hp) (by omega) (by omega) (by omega) (flatMap_at (f := rsC) (sz := 3) (fun _ _ => rfl) (by omega))) rfl (.oq (.buildSlice (vs := [_]) el_108 ze_122 rfl rfl rfl rfl (by first | (simp [Value.cells]; done) | (intro v hv; simp only [List.mem_cons, List.not_mem_nil, or_false] at hv; (repeat (first | (subst hv; rfl) | (rcases hv with hv | hv; (subst hv; rfl)))))) (by decide)) ?_))))))))
   rintro v L' ⟨b5_8, rfl, rfl⟩
   refine .oq (.append1 rfl rfl rfl el_108 ze_122 rfl rfl ?c30 ?c31 (Nat.le_refl _) ?c32 (by decide)) ?_
   case c30 => first | exact rs_cells _ | (simp only [List.map_cons, List.map_nil, List.flatten_cons, List.flatten_nil, List.append_nil]; exact rs_cells _)
   case c31 => rfl
   case c32 => first | omega | (simp; omega)
   rintro v L' ⟨⟨a5_9, c5_9, rfl⟩, rfl⟩
   refine .a rfl (.nil (.blk_n (.then_n (.region (.m rfl (.q (.add rfl rfl (by omega)) rfl (.an rfl ?_)))))))
   have hst : ((τ.sess.take (i + 1)).filter fun w => !decide (w.1 = id)) = ((τ.sess.take i).filter fun w => !decide (w.1 = id)) ++ [τ.sess[i]] := by rw [List.take_succ_eq_append_getElem hi2, List.filter_append]; simp [show ¬ τ.sess[i].1 = id from h24]
   rw [show ((τ.sess.take i).filter fun w => !decide (w.1 = id)).length + 1 = ((τ.sess.take (i + 1)).filter fun w => !decide (w.1 = id)).length by rw [hst, List.length_append]; rfl]
   refine .slCast (T := 122) (sz := 3) (m' := ((τ.sess.take (i + 1)).filter fun w => !decide (w.1 = id)).length) (xs' := ((τ.sess.take (i + 1)).filter fun w => !decide (w.1 = id)).flatMap rsC) (by repeat' constructor) rfl (by rw [hst, List.flatMap_append]; simp; rfl) ?_
   exact .rk ((i + 1, .slice a5_9 ((τ.sess.take (i + 1)).filter fun w => !decide (w.1 = id)).length c5_9)) (⟨by dsimp only; omega, _, _, rfl⟩) (by dsimp only; omega) ⟨rfl, rfl, rfl, rfl, trivial⟩
  refine .skip (.blk_n (.then_n (.region (.m rfl (.q (.add rfl rfl (by omega)) rfl (.an rfl ?_))))))
  have hst : ((τ.sess.take (i + 1)).filter fun w => !decide (w.1 = id)) = ((τ.sess.take i).filter fun w => !decide (w.1 = id)) := by rw [List.take_succ_eq_append_getElem hi2, List.filter_append]; simp [show τ.sess[i].1 = id from h24]
  rw [← hst]
  exact .rk ((i + 1, .slice au ((τ.sess.take (i + 1)).filter fun w => !decide (w.1 = id)).length cu)) (⟨by dsimp only; omega, _, _, rfl⟩) (by dsimp only; omega) ⟨rfl, rfl, rfl, rfl, trivial⟩
 have hii : i = τ.sess.length := by omega
 subst hii
 rw [List.take_length]
 refine .exit (.then_e (.then_e (.blk_e (.then_n (.region (.m rfl (.m rfl (.nf rfl fo_110_1 (.st rfl rfl rfl sz_108 ?_)))))))))
 refine .nil (.done_n (.rtFold (x := x) (τ := (dropS τ id)) (l := l) hl (by repeat' constructor) rfl rfl rfl rfl rfl ?_))
 exact .vv
theorem ropen_spec (x : Nat) (τ : Tr) (id n : Int) (s : Bs) (N : Nat) (ho : τ.Ok N) (hN : τ.sess.length ≤ 1073741824) : Fn Tryz.prog 77 #[vptr x, .agg (rsC (id, (n, s))).toArray] [refR x τ] fun v L => v = .tuple #[] ∧ L = [refR x (openS τ id n s)] := by
 refine Fn.intro Tryz.func77 rfl rfl fun F W => ?_
 have hsl : (dropS τ id).sess.length ≤ τ.sess.length := List.length_filter_le _ _
 refine .sr (.oq (.box rfl) ?_)
 rintro v L' ⟨bz, rfl, rfl⟩
 refine .nil (.ptCast (b := bz) (l' := rsC (id, (n, s))) (by repeat' constructor) rfl (.then_n (.sm rfl (.u (.fieldAddr rfl fo_122_0) (.u (.ld rfl ag_3) (.cv Tryz.func78 [_, _] (rdrop_spec x τ id hN) ?_))))))
 refine .nt (.seq (.rtOpen (x := x) (τ := (dropS τ id)) (by repeat' constructor) fun an cn as1 cs l hl => (.region (.slForm (T := 122) (sz := 3) (a := as1) (m := (dropS τ id).sess.length) (c := cs) (by repeat' constructor) (fun e0 e1 e2 => ?_) (fun bs e0 e1 => ?_)))))
 ·subst e0
  refine .an rfl (.seq (.joinK (ι := Nat) (fun q E => (4, vint q) :: E) (fun q => []) (fun q => q ≤ (dropS τ id).sess.length ∧ (∀ w ∈ ((dropS τ id).sess.take q), w.1 < id) ∧ ∀ h : q < (dropS τ id).sess.length, ¬ (dropS τ id).sess[q].1 < id) (pre := []) (ts := [0, 3]) (.cons rfl (.cons rfl (.nil))) (by repeat' constructor) ?_ ?_))
  ·refine .block (.loopK (ι := Nat) (fun q E => (4, vint q) :: E) (fun q => []) (fun q => q ≤ (dropS τ id).sess.length ∧ ∀ w ∈ ((dropS τ id).sess.take q), w.1 < id) (fun q => (dropS τ id).sess.length - q) (0) (ts := [0, 3]) (.cons rfl (.cons rfl (.nil))) (⟨Nat.zero_le _, by simp⟩) ⟨rfl, rfl, rfl, trivial⟩ (by repeat' constructor) ?_)
   rintro i ⟨hi, hlow⟩
   refine .seq (.seq (.draw [] [[0, 1, 2, 3, 4, 5, 6, 7, 8, 9, 10, 11, 12, 13, 14, 15, 16, 17, 18, 19]] mixed (by kernel_rfl) (.g0 (.mv rfl rfl (.mv rfl rfl (.nf rfl rfl rfl fo_110_1 (.kv rfl (.ld rfl ag_108) (.kv rfl (.slen rfl Tryz.underlying108 rfl) (.kv rfl (.int rfl rfl rfl) (.mv rfl rfl (.dec (t := 17) rfl (fun h3_17 => ?_) (fun h3_17 => ?_))))))))))))
   ·exfalso; omega
   refine D.kDF (t := 16) rfl h3_17 (.gz rfl (.gz rfl (.gz rfl (.gz rfl (.gz rfl (.gz rfl (.gz rfl (.gz rfl (.gz rfl (.gz rfl (.gz rfl (.kv rfl (.pickF rfl rfl) (.pf (.condF rfl (.exit (.then_e (.then_e (.blk_e (.then_n ?_)))))))))))))))))))
   exact .mk (i) (⟨hi, hlow, fun h => absurd h (by omega)⟩) ⟨rfl, rfl, rfl, trivial⟩
  rintro i ⟨hi, hlow, hhigh⟩
  refine .seq (.add (slR_nil 122 3) (.region (.an rfl (.seq ?_))))
  have hadr : (none : Option Addr) = none ∨ ∃ b off, (none : Option Addr) = some (⟨b, off, none⟩ : Addr) := .inl rfl
  refine .region (.m rfl (.m rfl (.nf rfl fo_110_1 (.u (.ld rfl ag_108) (.m rfl (.q (.to (v' := .slice (none : Option Addr) i cs) (.slTo (j := (i : Int)) rfl el_108 rfl (by omega) hadr) (by rw [Int.toNat_natCast])) rfl (.oq (.append (n := 0) (m := i) (ys := ((dropS τ id).sess.take i).flatMap rsC) (p := slR 122 3 (.slice (none : Option Addr) (dropS τ id).sess.length cs) (dropS τ id).sess.length ((dropS τ id).sess.flatMap rsC)) rfl rfl rfl el_108 (.inl ⟨_, Tryz.underlying108⟩) ze_122 rfl rfl ?hc24 ?hr25 ?hb26 (by decide)) ?_)))))))
  case hc24 => exact rsl_cells _
  case hr25 => exact fun h hp => by have := slR_rd_to hi hp; rw [(flat_take (f := rsC) (sz := 3) (fun _ => rfl) _ i).1] at this; exact this
  case hb26 => omega
  rintro v L' ⟨⟨a6, c6, rfl⟩, rfl⟩; rw [Nat.zero_add, List.nil_append]
  refine .an rfl (.sm rfl (.q (.loadAs (vs := rsC (id, (n, s))) rfl ag_122 (by repeat' constructor) (by simp [rsC]) rfl) rfl (.oq (.buildSlice (vs := [_]) el_108 ze_122 rfl rfl rfl rfl (by first | (simp [Value.cells]; done) | (intro v hv; simp only [List.mem_cons, List.not_mem_nil, or_false] at hv; (repeat (first | (subst hv; rfl) | (rcases hv with hv | hv; (subst hv; rfl)))))) (by decide)) ?_)))
  rintro v L' ⟨b7_2, rfl, rfl⟩
  refine .oq (.append1 rfl rfl rfl el_108 ze_122 rfl rfl ?c32 ?c33 (Nat.le_refl _) ?c34 (by decide)) ?_
  case c32 => first | exact rs_cells _ | (simp only [List.map_cons, List.map_nil, List.flatten_cons, List.flatten_nil, List.append_nil]; exact rs_cells _)
  case c33 => rfl
  case c34 => first | omega | (simp; omega)
  rintro v L' ⟨⟨a7_3, c7_3, rfl⟩, rfl⟩
  refine .a rfl (.nil (.slCast (T := 122) (sz := 3) (m' := i + 1) (xs' := (((dropS τ id).sess.take i) ++ [(id, (n, s))]).flatMap rsC) (by repeat' constructor) rfl (by rw [List.flatMap_append]; simp; rfl) (.then_n (.region (.m rfl (.m rfl (.m rfl (.nf rfl fo_110_1 (.u (.ld rfl ag_108) (.m rfl (.q (.slFromO (i := (i : Int)) rfl el_108 rfl (by omega)) rfl (.oq (.append (n := i + 1) (m := (dropS τ id).sess.length - (i : Int).toNat) (ys := ((dropS τ id).sess.drop i).flatMap rsC) (p := slR 122 3 (.slice (none : Option Addr) (dropS τ id).sess.length cs) (dropS τ id).sess.length ((dropS τ id).sess.flatMap rsC)) rfl rfl rfl el_108 (.inl ⟨_, Tryz.underlying108⟩) ze_122 rfl rfl ?hc44 ?hr45 ?hb46 (by decide)) ?_))))))))))))
  case hc44 => exact rsl_cells _
  case hr45 => exact fun h hp => by rw [Int.toNat_natCast]; have := slR_rd_from hi hp; rw [(flat_take (f := rsC) (sz := 3) (fun _ => rfl) _ i).2] at this; exact this
  case hb46 => omega
  rintro v L' ⟨⟨a8, c8, rfl⟩, rfl⟩
  refine .nf rfl fo_110_1 (.st rfl rfl rfl sz_108 ?_)
  refine .nil (.done_n ?_)
  have hfin : ((dropS τ id).sess.take i) ++ [(id, (n, s))] ++ ((dropS τ id).sess.drop i) = (openS τ id n s).sess := by rw [sset_at hi hlow hhigh (fun w hw => by have := (List.mem_filter.1 hw).2; simpa using this), ← open_drop ho id n s]; rfl
  have hlen : i + 1 + ((dropS τ id).sess.length - (i : Int).toNat) = (openS τ id n s).sess.length := by rw [← hfin]; simp; omega
  refine .rtFold (x := x) (τ := (openS τ id n s)) (l := l) hl (by repeat' constructor) rfl rfl rfl hlen (by rw [← List.flatMap_append, hfin]) ?_
  exact .vv
 subst e0
 refine .an rfl (.seq (.joinK (ι := Nat) (fun q E => (4, vint q) :: E) (fun q => []) (fun q => q ≤ (dropS τ id).sess.length ∧ (∀ w ∈ ((dropS τ id).sess.take q), w.1 < id) ∧ ∀ h : q < (dropS τ id).sess.length, ¬ (dropS τ id).sess[q].1 < id) (pre := []) (ts := [0, 3]) (.cons rfl (.cons rfl (.nil))) (by repeat' constructor) ?_ ?_))
 ·refine .block (.loopK (ι := Nat) (fun q E => (4, vint q) :: E) (fun q => []) (fun q => q ≤ (dropS τ id).sess.length ∧ ∀ w ∈ ((dropS τ id).sess.take q), w.1 < id) (fun q => (dropS τ id).sess.length - q) (0) (ts := [0, 3]) (.cons rfl (.cons rfl (.nil))) (⟨Nat.zero_le _, by simp⟩) ⟨rfl, rfl, rfl, trivial⟩ (by repeat' constructor) ?_)
  rintro i ⟨hi, hlow⟩
  refine .seq (.seq (.draw [] [[0, 1, 2, 3, 4, 5, 6, 7, 8, 9, 10, 11, 12, 13, 14, 15, 16, 17, 18, 19]] mixed (by kernel_rfl) (.g0 (.mv rfl rfl (.mv rfl rfl (.nf rfl rfl rfl fo_110_1 (.kv rfl (.ld rfl ag_108) (.kv rfl (.slen rfl Tryz.underlying108 rfl) (.kv rfl (.int rfl rfl rfl) (.mv rfl rfl (.dec (t := 17) rfl (fun h3_17 => ?_) (fun h3_17 => ?_))))))))))))
  ·have hi2 : i < (dropS τ id).sess.length := by omega
   refine D.kDT (t := 16) rfl h3_17 (.gv rfl (.move rfl) (.gv rfl (.nilp rfl) (.gv rfl (.fieldAddr rfl fo_110_1) (.gv rfl (.ld rfl ag_108) (.gv rfl (.move rfl) (.gv rfl (.indexAddr rfl rfl el_108 (by omega)) (.gv rfl (.fieldAddr rfl fo_122_0) (.gv rfl (.loadRd (sz := 3) (j := i * 3 + 0) (p := rsR _ (dropS τ id).sess) rfl ag_3 (by repeat' constructor) (fun h hp => slR_rd hp) (by omega) ((rs_cell (l := (dropS τ id).sess) (i := i) (k := 0) (by omega) (by decide)).trans rfl)) (.gv rfl (.fieldAddr rfl fo_122_0) (.gv rfl (.load rfl ag_3 (by repeat' constructor) rfl) (.gv rfl (.int rfl rfl rfl) (.kv rfl (.pickT rfl rfl) (.pf (.condD rfl (fun h29 => ?_) (fun h29 => ?_)))))))))))))))
   ·refine .sk (.block (.region (.m rfl (.q (.add rfl rfl (by omega)) rfl (.a rfl (.nil (.blk_n (.then_n ?_))))))))
    exact .rk (i + 1) (⟨by omega, fun w hw => by rw [List.take_succ_eq_append_getElem hi2] at hw; rcases List.mem_append.1 hw with hw | hw; (exact hlow w hw); (rw [List.mem_singleton] at hw; rw [hw]; exact h29)⟩) (by omega) ⟨rfl, rfl, rfl, trivial⟩
   refine .exit (.then_e (.then_e (.blk_e (.then_n ?_))))
   exact .mk (i) (⟨hi, hlow, fun h => h29⟩) ⟨rfl, rfl, rfl, trivial⟩
  refine D.kDF (t := 16) rfl h3_17 (.gz rfl (.gz rfl (.gz rfl (.gz rfl (.gz rfl (.gz rfl (.gz rfl (.gz rfl (.gz rfl (.gz rfl (.gz rfl (.kv rfl (.pickF rfl rfl) (.pf (.condF rfl (.exit (.then_e (.then_e (.blk_e (.then_n ?_)))))))))))))))))))
  exact .mk (i) (⟨hi, hlow, fun h => absurd h (by omega)⟩) ⟨rfl, rfl, rfl, trivial⟩
 rintro i ⟨hi, hlow, hhigh⟩
 refine .seq (.add (slR_nil 122 3) (.region (.an rfl (.seq ?_))))
 have hadr : (some (⟨bs, 0, none⟩ : Addr)) = none ∨ ∃ b off, (some (⟨bs, 0, none⟩ : Addr)) = some (⟨b, off, none⟩ : Addr) := .inr ⟨_, _, rfl⟩
 refine .region (.m rfl (.m rfl (.nf rfl fo_110_1 (.u (.ld rfl ag_108) (.m rfl (.q (.to (v' := .slice (some (⟨bs, 0, none⟩ : Addr)) i cs) (.slTo (j := (i : Int)) rfl el_108 rfl (by omega) hadr) (by rw [Int.toNat_natCast])) rfl (.oq (.append (n := 0) (m := i) (ys := ((dropS τ id).sess.take i).flatMap rsC) (p := slR 122 3 (.slice (some (⟨bs, 0, none⟩ : Addr)) (dropS τ id).sess.length cs) (dropS τ id).sess.length ((dropS τ id).sess.flatMap rsC)) rfl rfl rfl el_108 (.inl ⟨_, Tryz.underlying108⟩) ze_122 rfl rfl ?hc83 ?hr84 ?hb85 (by decide)) ?_)))))))
 case hc83 => exact rsl_cells _
 case hr84 => exact fun h hp => by have := slR_rd_to hi hp; rw [(flat_take (f := rsC) (sz := 3) (fun _ => rfl) _ i).1] at this; exact this
 case hb85 => omega
 rintro v L' ⟨⟨a6, c6, rfl⟩, rfl⟩; rw [Nat.zero_add, List.nil_append]
 refine .an rfl (.sm rfl (.q (.loadAs (vs := rsC (id, (n, s))) rfl ag_122 (by repeat' constructor) (by simp [rsC]) rfl) rfl (.oq (.buildSlice (vs := [_]) el_108 ze_122 rfl rfl rfl rfl (by first | (simp [Value.cells]; done) | (intro v hv; simp only [List.mem_cons, List.not_mem_nil, or_false] at hv; (repeat (first | (subst hv; rfl) | (rcases hv with hv | hv; (subst hv; rfl)))))) (by decide)) ?_)))
 rintro v L' ⟨b7_2, rfl, rfl⟩
 refine .oq (.append1 rfl rfl rfl el_108 ze_122 rfl rfl ?c91 ?c92 (Nat.le_refl _) ?c93 (by decide)) ?_
 case c91 => first | exact rs_cells _ | (simp only [List.map_cons, List.map_nil, List.flatten_cons, List.flatten_nil, List.append_nil]; exact rs_cells _)
 case c92 => rfl
 case c93 => first | omega | (simp; omega)
 rintro v L' ⟨⟨a7_3, c7_3, rfl⟩, rfl⟩
 refine .a rfl (.nil (.slCast (T := 122) (sz := 3) (m' := i + 1) (xs' := (((dropS τ id).sess.take i) ++ [(id, (n, s))]).flatMap rsC) (by repeat' constructor) rfl (by rw [List.flatMap_append]; simp; rfl) (.then_n (.region (.m rfl (.m rfl (.m rfl (.nf rfl fo_110_1 (.u (.ld rfl ag_108) (.m rfl (.q (.slFromO (i := (i : Int)) rfl el_108 rfl (by omega)) rfl (.oq (.append (n := i + 1) (m := (dropS τ id).sess.length - (i : Int).toNat) (ys := ((dropS τ id).sess.drop i).flatMap rsC) (p := slR 122 3 (.slice (some (⟨bs, 0, none⟩ : Addr)) (dropS τ id).sess.length cs) (dropS τ id).sess.length ((dropS τ id).sess.flatMap rsC)) rfl rfl rfl el_108 (.inl ⟨_, Tryz.underlying108⟩) ze_122 rfl rfl ?hc103 ?hr104 ?hb105 (by decide)) ?_))))))))))))
 case hc103 => exact rsl_cells _
 case hr104 => exact fun h hp => by rw [Int.toNat_natCast]; have := slR_rd_from hi hp; rw [(flat_take (f := rsC) (sz := 3) (fun _ => rfl) _ i).2] at this; exact this
 case hb105 => omega
 rintro v L' ⟨⟨a8, c8, rfl⟩, rfl⟩
 refine .nf rfl fo_110_1 (.st rfl rfl rfl sz_108 ?_)
 refine .nil (.done_n ?_)
 have hfin : ((dropS τ id).sess.take i) ++ [(id, (n, s))] ++ ((dropS τ id).sess.drop i) = (openS τ id n s).sess := by rw [sset_at hi hlow hhigh (fun w hw => by have := (List.mem_filter.1 hw).2; simpa using this), ← open_drop ho id n s]; rfl
 have hlen : i + 1 + ((dropS τ id).sess.length - (i : Int).toNat) = (openS τ id n s).sess.length := by rw [← hfin]; simp; omega
 refine .rtFold (x := x) (τ := (openS τ id n s)) (l := l) hl (by repeat' constructor) rfl rfl rfl hlen (by rw [← List.flatMap_append, hfin]) ?_
 exact .vv
def applyZ0 (τ : Tr) (zx : Int) (x : Pt) (subs : List Pt) : Tr × (List Ev × Int) :=
 if x.kind = 5 then (if 0 < x.own then openS τ x.own x.num x.data else τ, ([], 0))
 else if x.kind = 6 then (dropS (partsZ τ zx (subs.filter isDel)).1 x.own, ((partsZ τ zx (subs.filter isDel)).2, 0))
 else if x.kind = 7 then ((partsZ τ zx subs).1, ((partsZ τ zx subs).2, 0))
 else if x.kind = 8 then (τ, ([], x.err))
 else ((partZ τ x zx).1, ((partZ τ x zx).2, 0))
theorem part_zx (τ : Tr) (x : Pt) (zx z : Int) : partZ (zxT τ z) x zx = (zxT (partZ τ x zx).1 z, (partZ τ x zx).2) := by
 unfold partZ createZ eraseZ
 have h : ∀ p, thereT (zxT τ z) p ↔ thereT τ p := fun p => Iff.rfl
 simp only [h]
 repeat' split
 all_goals first | rfl | contradiction
theorem parts_zx (τ : Tr) (zx z : Int) (l : List Pt) : partsZ (zxT τ z) zx l = (zxT (partsZ τ zx l).1 z, (partsZ τ zx l).2) := by
 have key : ∀ (l : List Pt) (r : Tr × List Ev), l.foldl (fun r x => ((partZ r.1 x zx).1, r.2 ++ (partZ r.1 x zx).2)) (zxT r.1 z, r.2) = (zxT (l.foldl (fun r x => ((partZ r.1 x zx).1, r.2 ++ (partZ r.1 x zx).2)) r).1 z, (l.foldl (fun r x => ((partZ r.1 x zx).1, r.2 ++ (partZ r.1 x zx).2)) r).2) := by
  intro l
  induction l with
  | nil => intro r; rfl
  | cons x l ih =>
   intro r
   rw [List.foldl_cons, List.foldl_cons]
   dsimp only
   rw [part_zx]
   exact ih ((partZ r.1 x zx).1, r.2 ++ (partZ r.1 x zx).2)
 exact key l (τ, [])
theorem apply_zx (τ : Tr) (zx : Int) (x : Pt) (subs : List Pt) : applyZ τ zx x subs = (zxT (applyZ0 τ zx x subs).1 zx, (applyZ0 τ zx x subs).2) := by
 unfold applyZ applyZ0
 dsimp only
 rw [part_zx, parts_zx, parts_zx]
 repeat' split
 all_goals rfl
theorem rapply_spec (x : Nat) (τ : Tr) (zx ses xid : Int) (y : Pt) (subs : List Pt) (p : HP) (hx : TxA p y subs) (N : Nat) (ho : τ.Ok N) (hN : N + subs.length + 1 ≤ 1073741824) : Fn Tryz.prog 34 #[vptr x, .agg ([vint zx, vint ses, vint xid] ++ ptC y).toArray] [refR x τ, p] fun v L => ∃ u e, v = .tuple #[u, vint e] ∧ e = (applyZ τ zx y subs).2.2 ∧ (∃ a c, u = .slice a (applyZ τ zx y subs).2.1.length c) ∧ L = [refR x (applyZ τ zx y subs).1, p, slR 184 3 u (applyZ τ zx y subs).2.1.length ((applyZ τ zx y subs).2.1.flatMap evC)] := by
 refine Fn.intro Tryz.func34 rfl rfl fun F W => ?_
 refine .rdAny (p := p) hx.rd (by repeat' constructor) fun asb csb esub _ => ?_
 have hrd := hx.rd
 rw [esub] at hrd
 have hfs := hx.few
 have hosf := ho.sfew
 refine .sr (.oq (.box rfl) ?_)
 rintro v L' ⟨be, rfl, rfl⟩
 refine .a rfl (.a rfl (.nil (.ptCast (b := be) (l' := ([vint zx, vint ses, vint xid] ++ ptC y)) (by repeat' constructor) rfl (.then_n (.sr (.u (.fieldAddr rfl fo_54_3) (.q (.loadAs (vs := ptC y) rfl ag_43 (by repeat' constructor) (by simp [ptC]) rfl) rfl (.oq (.allocA ze_43) ?_))))))))
 rintro v L' ⟨bx, rfl, rfl⟩
 refine .oq (.storeA rfl rfl ?c9 sz_43 ?c12 ?c10 (nfz0 _ _)) ?_
 case c9 => exact hx.own.all
 case c12 => rfl
 case c10 => simp [ptC]
 rintro v L' rfl
 refine .nil (.ptCast (b := bx) (l' := ptC y) (by repeat' constructor) rfl (.then_n (.sr (.an rfl (.sr (.an rfl (.seq (.sr (.u (.fieldAddr rfl fo_43_0) (.u (.ld rfl ag_3) (.nt (.block (.sr (.ui rfl rfl rfl (.an rfl (.condD rfl (fun h20 => ?_) (fun h20 => ?_)))))))))))))))))
 ·refine .sr (.u (.fieldAddr rfl fo_43_4) (.u (.ld rfl ag_3) (.ui rfl rfl rfl (.nt (.condD rfl (fun h24 => ?_) (fun h24 => ?_))))))
  ·refine .region (.m rfl (.u (.fieldAddr rfl fo_43_4) (.u (.ld rfl ag_3) (.u (.fieldAddr rfl fo_43_5) (.u (.ld rfl ag_3) (.u (.fieldAddr rfl fo_43_2) (.u (.ld rfl ag_9) (.q (.to (v' := .agg (rsC (y.own, (y.num, y.data))).toArray) (.build (us := [(0, _), (1, _), (2, _)]) fl_122 ze_122 rfl rfl (by simp [isCell])) rfl) rfl (.cv Tryz.func77 [_, _] (ropen_spec x τ y.own y.num y.data N ho (by omega)) ?_)))))))))
   refine .nil (.blk_n (.then_n (.seq (.add (slR_nil 184 3) ?_))))
   have hz : (applyZ τ zx y subs) = (zxT (openS τ y.own y.num y.data) zx, ([], 0)) := by rw [apply_zx]; unfold applyZ0; rw [if_pos h20, if_pos (show 0 < y.own by omega)]
   refine .rtOpen (x := x) (τ := (openS τ y.own y.num y.data)) (by repeat' constructor) fun an cn as1 cs l hl => (.region (.m rfl (.u (.fieldAddr rfl fo_54_0) (.u (.ld rfl ag_3) (.nf rfl fo_110_2 (.st rfl rfl rfl sz_3 ?_))))))
   refine .nil (.rtFold (x := x) (τ := (zxT (openS τ y.own y.num y.data) zx)) (l := l) hl (by repeat' constructor) rfl rfl rfl rfl rfl (.then_n (.sm rfl (.m rfl (.a rfl (.an rfl (.ret (.rfCast (x := x) (τ' := (applyZ τ zx y subs).1) (by repeat' constructor) (by rw [hz]) (.slCast (T := 184) (sz := 3) (m' := (applyZ τ zx y subs).2.1.length) (xs' := (applyZ τ zx y subs).2.1.flatMap evC) (by repeat' constructor) (by (rw [hz]; try rfl)) (by (rw [hz]; try rfl)) ?_)))))))))
   exact .dn rfl rfl ⟨_, _, rfl, by rw [hz], ⟨_, _, by (rw [hz]; try rfl)⟩, rfl⟩
  refine .skip (.blk_n (.then_n (.seq (.add (slR_nil 184 3) ?_))))
  have hz : (applyZ τ zx y subs) = (zxT (τ) zx, ([], 0)) := by rw [apply_zx]; unfold applyZ0; rw [if_pos h20, if_neg (show ¬ 0 < y.own by omega)]
  refine .rtOpen (x := x) (τ := (τ)) (by repeat' constructor) fun an cn as1 cs l hl => (.region (.m rfl (.u (.fieldAddr rfl fo_54_0) (.u (.ld rfl ag_3) (.nf rfl fo_110_2 (.st rfl rfl rfl sz_3 ?_))))))
  refine .nil (.rtFold (x := x) (τ := (zxT (τ) zx)) (l := l) hl (by repeat' constructor) rfl rfl rfl rfl rfl (.then_n (.sm rfl (.m rfl (.a rfl (.an rfl (.ret (.rfCast (x := x) (τ' := (applyZ τ zx y subs).1) (by repeat' constructor) (by rw [hz]) (.slCast (T := 184) (sz := 3) (m' := (applyZ τ zx y subs).2.1.length) (xs' := (applyZ τ zx y subs).2.1.flatMap evC) (by repeat' constructor) (by (rw [hz]; try rfl)) (by (rw [hz]; try rfl)) ?_)))))))))
  exact .dn rfl rfl ⟨_, _, rfl, by rw [hz], ⟨_, _, by (rw [hz]; try rfl)⟩, rfl⟩
 refine .seq (.sr ?_)
 rcases Decidable.em (y.kind = 6) with hk6 | hk6
 ·refine .q (.as (v' := .bool true) (by exact congrArg Value.bool (decide_eq_true hk6)) (.int rfl rfl rfl)) rfl (.an rfl (.condT rfl (.sk (.condT rfl (.seq (.sr (.an rfl (.block (.add (slR_nil 184 3) (.rfCast (x := x) (τ' := (partsZ τ zx ((subs.take 0).filter isDel)).1) (by repeat' constructor) (by rw [List.take_zero]; rfl) (.slCast (T := 184) (sz := 3) (m' := (partsZ τ zx ((subs.take 0).filter isDel)).2.length) (xs' := (partsZ τ zx ((subs.take 0).filter isDel)).2.flatMap evC) (by repeat' constructor) (by rw [List.take_zero]; rfl) (by rw [List.take_zero]; rfl) (.loopK (ι := Nat × Value) (fun q E => (9, vint q.1) :: (7, q.2) :: E) (fun q => [refR x (partsZ τ zx ((subs.take q.1).filter isDel)).1, slR 184 3 q.2 (partsZ τ zx ((subs.take q.1).filter isDel)).2.length ((partsZ τ zx ((subs.take q.1).filter isDel)).2.flatMap evC)]) (fun q => q.1 ≤ subs.length ∧ ∃ a c, q.2 = .slice a (partsZ τ zx ((subs.take q.1).filter isDel)).2.length c) (fun q => subs.length - q.1) (0, .slice none 0 0) (ts := [0, 3, 4, 5, 6, 8]) (.cons rfl (.cons rfl (.cons rfl (.cons rfl (.cons rfl (.cons rfl (.nil))))))) (⟨Nat.zero_le _, none, 0, by rw [List.take_zero]; rfl⟩) ⟨rfl, rfl, rfl, rfl, rfl, rfl, rfl, rfl, trivial⟩ (by repeat' constructor) ?_))))))))))))
  rintro ⟨i, u⟩ ⟨hi, au, cu, hu⟩
  dsimp only
  dsimp only at hi hu
  subst hu
  have hev := parts_ev τ zx ((subs.take i).filter isDel)
  have hfl := List.length_filter_le isDel (subs.take i)
  rw [List.length_take] at hfl
  have hok : (partsZ τ zx ((subs.take i).filter isDel)).1.Ok (N + subs.length) := (ho.parts zx _ (fun w hw => (hx.each w (List.mem_of_mem_take (List.mem_filter.1 hw).1)).few)).more (by omega)
  refine .seq (.sm rfl (.u (.fieldAddr rfl fo_43_7) (.q (.as (v' := .slice asb subs.length csb) (by exact esub) (.ld rfl ag_41)) rfl (.q (.slen rfl Tryz.underlying41 rfl) rfl (.ui rfl rfl rfl (.nt (.condD rfl (fun h41 => ?_) (fun h41 => ?_))))))))
  ·have hi2 : i < subs.length := by omega
   refine .rdShape (p := p) hrd (by repeat' constructor) (by omega) fun bs os e1 => ?_
   subst e1
   have hys := hx.each _ (List.getElem_mem hi2)
   refine .sk (.seq (.block (.sr (.u (.fieldAddr rfl fo_43_0) (.u (.ld rfl ag_3) (.q (.as (v' := .bool false) (by exact congrArg Value.bool (decide_eq_false (by omega))) (.int rfl rfl rfl)) rfl (.m rfl (.grun (t := 47) rfl rfl rfl (.u (.fieldAddr rfl fo_43_7) (.grun (t := 47) rfl rfl rfl (.q (.as (v' := .slice (some ⟨bs, os, none⟩) subs.length csb) (by exact esub) (.ld rfl ag_41)) rfl (.grun (t := 47) rfl rfl rfl (.m rfl (.grun (t := 47) rfl rfl rfl (.q (.indexAddr rfl rfl el_41 (by omega)) rfl (.grun (t := 47) rfl rfl rfl (.u (.fieldAddr rfl fo_43_0) (.grun (t := 47) rfl rfl rfl (.q (.loadRd (sz := 8) (j := i * 8 + 0) (p := p) rfl ag_3 (by repeat' constructor) hrd (by omega) ((flatMap_cell (f := ptC) (sz := 8) (l := subs) (i := i) (k := 0) (fun _ _ => rfl) (by omega) (by decide)).trans rfl)) rfl ?_)))))))))))))))))))
   refine .grun (t := 47) rfl rfl rfl (.ui rfl rfl rfl (.u (.pickF rfl rfl) (.nt (.condD rfl (fun h55 => ?_) (fun h55 => ?_)))))
   ·refine .seq (.draw [8] [[0, 1, 2, 3, 4, 5, 6, 7, 8], [9]] mixed (by kernel_rfl) (.g0 (.mv rfl rfl (.kv rfl (.fieldAddr rfl fo_43_7) (.kv rfl (.as (v' := .slice (some ⟨bs, os, none⟩) subs.length csb) (by exact esub) (.ld rfl ag_41)) (.mv rfl rfl (.kv rfl (.indexAddr rfl rfl el_41 (by omega)) (.kv rfl (.loadRdA (sz := 8) (j := i * 8) (k := 8) (p := p) (vs := ptC subs[i]) rfl ag_43 (by repeat' constructor) hrd (by simp) (by omega) (by omega) (flatMap_at (f := ptC) (sz := 8) (fun _ _ => rfl) (by omega))) (.kv rfl (.fieldAddr rfl fo_54_0) (.kv rfl (.ld rfl ag_3) (.hh rfl (.c Tryz.func71 [_, _, _] (rpart_spec x (partsZ τ zx ((subs.take i).filter isDel)).1 subs[i] zx p hys (N + subs.length) hok (by omega))) ?_)))))))))))
    rintro v L' ⟨a15, c15, rfl, rfl⟩
    refine D.ph (.g0 (.kv rfl (.assign rfl) (.pf (.region (.m rfl (.m rfl (.oq (.append (n := (partsZ τ zx ((subs.take i).filter isDel)).2.length) (m := (partZ (partsZ τ zx ((subs.take i).filter isDel)).1 subs[i] zx).2.length) (ys := (partZ (partsZ τ zx ((subs.take i).filter isDel)).1 subs[i] zx).2.flatMap evC) (p := slR 184 3 (.slice a15 (partZ (partsZ τ zx ((subs.take i).filter isDel)).1 subs[i] zx).2.length c15) (partZ (partsZ τ zx ((subs.take i).filter isDel)).1 subs[i] zx).2.length ((partZ (partsZ τ zx ((subs.take i).filter isDel)).1 subs[i] zx).2.flatMap evC)) rfl rfl rfl el_71 (.inl ⟨_, Tryz.underlying71⟩) ze_184 rfl rfl ?hc76 ?hr77 ?hb78 (by decide)) ?_)))))))
    case hc76 => exact evC_cells _
    case hr77 => exact fun h hp => slR_rd hp
    case hb78 => have := part_ev (partsZ τ zx ((subs.take i).filter isDel)).1 subs[i] zx; omega
    rintro v L' ⟨⟨a16_2, c16_2, rfl⟩, rfl⟩
    refine .a rfl (.nil (.blk_n (.then_n (.region (.m rfl (.q (.add rfl rfl (by omega)) rfl (.an rfl ?_)))))))
    have hst := filter_take_yes (f := isDel) hi2 (by unfold isDel; rw [decide_eq_true h55])
    refine .rfCast (x := x) (τ' := (partsZ τ zx ((subs.take (i + 1)).filter isDel)).1) (by repeat' constructor) (by rw [hst, parts_snoc]) (.slCast (T := 184) (sz := 3) (m' := (partsZ τ zx ((subs.take (i + 1)).filter isDel)).2.length) (xs' := (partsZ τ zx ((subs.take (i + 1)).filter isDel)).2.flatMap evC) (by repeat' constructor) (by rw [hst, parts_snoc]; simp) (by rw [hst, parts_snoc]; simp) ?_)
    exact .rk ((i + 1, .slice a16_2 ((partsZ τ zx ((subs.take i).filter isDel)).2.length + (partZ (partsZ τ zx ((subs.take i).filter isDel)).1 subs[i] zx).2.length) c16_2)) (⟨by dsimp only; omega, _, _, by rw [hst, parts_snoc, List.length_append]⟩) (by dsimp only; omega) ⟨rfl, rfl, rfl, rfl, rfl, rfl, rfl, rfl, trivial⟩
   refine .skip (.blk_n (.then_n (.region (.m rfl (.q (.add rfl rfl (by omega)) rfl (.an rfl ?_))))))
   have hst := filter_take_no (f := isDel) hi2 (by unfold isDel; rw [decide_eq_false h55])
   refine .rfCast (x := x) (τ' := (partsZ τ zx ((subs.take (i + 1)).filter isDel)).1) (by repeat' constructor) (by rw [hst]) (.slCast (T := 184) (sz := 3) (m' := (partsZ τ zx ((subs.take (i + 1)).filter isDel)).2.length) (xs' := (partsZ τ zx ((subs.take (i + 1)).filter isDel)).2.flatMap evC) (by repeat' constructor) (by rw [hst]) (by rw [hst]) ?_)
   exact .rk ((i + 1, .slice au (partsZ τ zx ((subs.take i).filter isDel)).2.length cu)) (⟨by dsimp only; omega, _, _, by rw [hst]⟩) (by dsimp only; omega) ⟨rfl, rfl, rfl, rfl, rfl, rfl, rfl, rfl, trivial⟩
  have hii : i = subs.length := by omega
  rw [hii, List.take_length]
  refine .exit (.then_e (.then_e (.blk_e (.then_n (.sr (.u (.fieldAddr rfl fo_43_0) (.u (.ld rfl ag_3) (.q (.as (v' := .bool true) (by exact congrArg Value.bool (decide_eq_true hk6)) (.int rfl rfl rfl)) rfl (.nt (.condT rfl (.region (.m rfl (.u (.fieldAddr rfl fo_43_4) (.u (.ld rfl ag_3) (.cv Tryz.func78 [_, _] (rdrop_spec x (partsZ τ zx (subs.filter isDel)).1 y.own (by have := (ho.parts zx (subs.filter isDel) (fun w hw => (hx.each w (List.mem_filter.1 hw).1).few)).sfew; have := List.length_filter_le isDel subs; omega)) ?_)))))))))))))))
  refine .nil (.blk_n (.then_n (.seq ?_)))
  have hz : (applyZ τ zx y subs) = (zxT (dropS (partsZ τ zx (subs.filter isDel)).1 y.own) zx, ((partsZ τ zx (subs.filter isDel)).2, 0)) := by rw [apply_zx]; unfold applyZ0; rw [if_neg h20, if_pos hk6]
  refine .rtOpen (x := x) (τ := (dropS (partsZ τ zx (subs.filter isDel)).1 y.own)) (by repeat' constructor) fun an cn as1 cs l hl => (.region (.m rfl (.u (.fieldAddr rfl fo_54_0) (.u (.ld rfl ag_3) (.nf rfl fo_110_2 (.st rfl rfl rfl sz_3 ?_))))))
  refine .nil (.rtFold (x := x) (τ := (zxT (dropS (partsZ τ zx (subs.filter isDel)).1 y.own) zx)) (l := l) hl (by repeat' constructor) rfl rfl rfl rfl rfl (.then_n (.sm rfl (.m rfl (.a rfl (.an rfl (.ret (.rfCast (x := x) (τ' := (applyZ τ zx y subs).1) (by repeat' constructor) (by rw [hz]) (.slCast (T := 184) (sz := 3) (m' := (applyZ τ zx y subs).2.1.length) (xs' := (applyZ τ zx y subs).2.1.flatMap evC) (by repeat' constructor) (by (rw [hz]; try rfl)) (by (rw [hz]; try rfl)) ?_)))))))))
  exact .dn rfl rfl ⟨_, _, rfl, by rw [hz], ⟨_, _, by (rw [hz]; try rfl)⟩, rfl⟩
 refine .q (.as (v' := .bool false) (by exact congrArg Value.bool (decide_eq_false hk6)) (.int rfl rfl rfl)) rfl (.an rfl (.condF rfl (.region ?_)))
 rcases Decidable.em (y.kind = 7) with hk7 | hk7
 ·refine .q (.as (v' := .bool true) (by exact congrArg Value.bool (decide_eq_true hk7)) (.int rfl rfl rfl)) rfl (.an rfl (.condT rfl (.seq (.sr (.an rfl (.block (.add (slR_nil 184 3) (.rfCast (x := x) (τ' := (partsZ τ zx (subs.take 0)).1) (by repeat' constructor) (by rw [List.take_zero]; rfl) (.slCast (T := 184) (sz := 3) (m' := (partsZ τ zx (subs.take 0)).2.length) (xs' := (partsZ τ zx (subs.take 0)).2.flatMap evC) (by repeat' constructor) (by rw [List.take_zero]; rfl) (by rw [List.take_zero]; rfl) (.loopK (ι := Nat × Value) (fun q E => (9, vint q.1) :: (7, q.2) :: E) (fun q => [refR x (partsZ τ zx (subs.take q.1)).1, slR 184 3 q.2 (partsZ τ zx (subs.take q.1)).2.length ((partsZ τ zx (subs.take q.1)).2.flatMap evC)]) (fun q => q.1 ≤ subs.length ∧ ∃ a c, q.2 = .slice a (partsZ τ zx (subs.take q.1)).2.length c) (fun q => subs.length - q.1) (0, .slice none 0 0) (ts := [0, 3, 4, 5, 6, 8]) (.cons rfl (.cons rfl (.cons rfl (.cons rfl (.cons rfl (.cons rfl (.nil))))))) (⟨Nat.zero_le _, none, 0, by rw [List.take_zero]; rfl⟩) ⟨rfl, rfl, rfl, rfl, rfl, rfl, rfl, rfl, trivial⟩ (by repeat' constructor) ?_))))))))))
  rintro ⟨i, u⟩ ⟨hi, au, cu, hu⟩
  dsimp only
  dsimp only at hi hu
  subst hu
  have hev := parts_ev τ zx (subs.take i)
  have hfl := List.length_take_le i subs
  have hok : (partsZ τ zx (subs.take i)).1.Ok (N + subs.length) := (ho.parts zx _ (fun w hw => (hx.each w (List.mem_of_mem_take hw)).few)).more (by rw [List.length_take]; omega)
  refine .seq (.sm rfl (.u (.fieldAddr rfl fo_43_7) (.q (.as (v' := .slice asb subs.length csb) (by exact esub) (.ld rfl ag_41)) rfl (.q (.slen rfl Tryz.underlying41 rfl) rfl (.ui rfl rfl rfl (.nt (.condD rfl (fun h41 => ?_) (fun h41 => ?_))))))))
  ·have hi2 : i < subs.length := by omega
   refine .rdShape (p := p) hrd (by repeat' constructor) (by omega) fun bs os e1 => ?_
   subst e1
   have hys := hx.each _ (List.getElem_mem hi2)
   refine .sk (.seq (.block (.sr (.u (.fieldAddr rfl fo_43_0) (.u (.ld rfl ag_3) (.q (.as (v' := .bool true) (by exact congrArg Value.bool (decide_eq_true hk7)) (.int rfl rfl rfl)) rfl (.m rfl (.gk (.gk (.gk (.gk (.gk (.gk (.gk (.u (.pickT rfl rfl) (.nt (.condT rfl (.seq (.draw [8] [[0, 1, 2, 3, 4, 5, 6, 7, 8], [9]] mixed (by kernel_rfl) (.g0 (.mv rfl rfl (.kv rfl (.fieldAddr rfl fo_43_7) (.kv rfl (.as (v' := .slice (some ⟨bs, os, none⟩) subs.length csb) (by exact esub) (.ld rfl ag_41)) (.mv rfl rfl (.kv rfl (.indexAddr rfl rfl el_41 (by omega)) (.kv rfl (.loadRdA (sz := 8) (j := i * 8) (k := 8) (p := p) (vs := ptC subs[i]) rfl ag_43 (by repeat' constructor) hrd (by simp) (by omega) (by omega) (flatMap_at (f := ptC) (sz := 8) (fun _ _ => rfl) (by omega))) ?_))))))))))))))))))))))))))
   refine D.kv rfl (.fieldAddr rfl fo_54_0) (.kv rfl (.ld rfl ag_3) (.hh rfl (.c Tryz.func71 [_, _, _] (rpart_spec x (partsZ τ zx (subs.take i)).1 subs[i] zx p hys (N + subs.length) hok (by omega))) ?_))
   rintro v L' ⟨a15, c15, rfl, rfl⟩
   refine D.ph (.g0 (.kv rfl (.assign rfl) (.pf (.region (.m rfl (.m rfl (.oq (.append (n := (partsZ τ zx (subs.take i)).2.length) (m := (partZ (partsZ τ zx (subs.take i)).1 subs[i] zx).2.length) (ys := (partZ (partsZ τ zx (subs.take i)).1 subs[i] zx).2.flatMap evC) (p := slR 184 3 (.slice a15 (partZ (partsZ τ zx (subs.take i)).1 subs[i] zx).2.length c15) (partZ (partsZ τ zx (subs.take i)).1 subs[i] zx).2.length ((partZ (partsZ τ zx (subs.take i)).1 subs[i] zx).2.flatMap evC)) rfl rfl rfl el_71 (.inl ⟨_, Tryz.underlying71⟩) ze_184 rfl rfl ?hc126 ?hr127 ?hb128 (by decide)) ?_)))))))
   case hc126 => exact evC_cells _
   case hr127 => exact fun h hp => slR_rd hp
   case hb128 => have := part_ev (partsZ τ zx (subs.take i)).1 subs[i] zx; omega
   rintro v L' ⟨⟨a16_2, c16_2, rfl⟩, rfl⟩
   refine .a rfl (.nil (.blk_n (.then_n (.region (.m rfl (.q (.add rfl rfl (by omega)) rfl (.an rfl ?_)))))))
   have hst := List.take_succ_eq_append_getElem hi2
   refine .rfCast (x := x) (τ' := (partsZ τ zx (subs.take (i + 1))).1) (by repeat' constructor) (by rw [hst, parts_snoc]) (.slCast (T := 184) (sz := 3) (m' := (partsZ τ zx (subs.take (i + 1))).2.length) (xs' := (partsZ τ zx (subs.take (i + 1))).2.flatMap evC) (by repeat' constructor) (by rw [hst, parts_snoc]; simp) (by rw [hst, parts_snoc]; simp) ?_)
   exact .rk ((i + 1, .slice a16_2 ((partsZ τ zx (subs.take i)).2.length + (partZ (partsZ τ zx (subs.take i)).1 subs[i] zx).2.length) c16_2)) (⟨by dsimp only; omega, _, _, by rw [hst, parts_snoc, List.length_append]⟩) (by dsimp only; omega) ⟨rfl, rfl, rfl, rfl, rfl, rfl, rfl, rfl, trivial⟩
  have hii : i = subs.length := by omega
  rw [hii, List.take_length]
  refine .exit (.then_e (.then_e (.blk_e (.then_n (.sr (.u (.fieldAddr rfl fo_43_0) (.u (.ld rfl ag_3) (.q (.as (v' := .bool false) (by exact congrArg Value.bool (decide_eq_false (by omega))) (.int rfl rfl rfl)) rfl (.nt (.condF rfl (.skip (.blk_n (.then_n (.seq ?_))))))))))))))
  have hz : (applyZ τ zx y subs) = (zxT ((partsZ τ zx subs).1) zx, ((partsZ τ zx subs).2, 0)) := by rw [apply_zx]; unfold applyZ0; rw [if_neg h20, if_neg hk6, if_pos hk7]
  refine .rtOpen (x := x) (τ := ((partsZ τ zx subs).1)) (by repeat' constructor) fun an cn as1 cs l hl => (.region (.m rfl (.u (.fieldAddr rfl fo_54_0) (.u (.ld rfl ag_3) (.nf rfl fo_110_2 (.st rfl rfl rfl sz_3 ?_))))))
  refine .nil (.rtFold (x := x) (τ := (zxT ((partsZ τ zx subs).1) zx)) (l := l) hl (by repeat' constructor) rfl rfl rfl rfl rfl (.then_n (.sm rfl (.m rfl (.a rfl (.an rfl (.ret (.rfCast (x := x) (τ' := (applyZ τ zx y subs).1) (by repeat' constructor) (by rw [hz]) (.slCast (T := 184) (sz := 3) (m' := (applyZ τ zx y subs).2.1.length) (xs' := (applyZ τ zx y subs).2.1.flatMap evC) (by repeat' constructor) (by (rw [hz]; try rfl)) (by (rw [hz]; try rfl)) ?_)))))))))
  exact .dn rfl rfl ⟨_, _, rfl, by rw [hz], ⟨_, _, by (rw [hz]; try rfl)⟩, rfl⟩
 refine .q (.as (v' := .bool false) (by exact congrArg Value.bool (decide_eq_false hk7)) (.int rfl rfl rfl)) rfl (.an rfl (.condF rfl (.sr (.ui rfl rfl rfl (.an rfl (.condD rfl (fun h75 => ?_) (fun h75 => ?_)))))))
 ·refine .region (.u (.fieldAddr rfl fo_43_6) (.u (.ld rfl ag_40) (.a rfl (.nil (.blk_n (.then_n (.seq (.add (slR_nil 184 3) ?_))))))))
  have hz : (applyZ τ zx y subs) = (zxT (τ) zx, ([], y.err)) := by rw [apply_zx]; unfold applyZ0; rw [if_neg h20, if_neg hk6, if_neg hk7, if_pos h75]
  refine .rtOpen (x := x) (τ := (τ)) (by repeat' constructor) fun an cn as1 cs l hl => (.region (.m rfl (.u (.fieldAddr rfl fo_54_0) (.u (.ld rfl ag_3) (.nf rfl fo_110_2 (.st rfl rfl rfl sz_3 ?_))))))
  refine .nil (.rtFold (x := x) (τ := (zxT (τ) zx)) (l := l) hl (by repeat' constructor) rfl rfl rfl rfl rfl (.then_n (.sm rfl (.m rfl (.a rfl (.an rfl (.ret (.rfCast (x := x) (τ' := (applyZ τ zx y subs).1) (by repeat' constructor) (by rw [hz]) (.slCast (T := 184) (sz := 3) (m' := (applyZ τ zx y subs).2.1.length) (xs' := (applyZ τ zx y subs).2.1.flatMap evC) (by repeat' constructor) (by (rw [hz]; try rfl)) (by (rw [hz]; try rfl)) ?_)))))))))
  exact .dn rfl rfl ⟨_, _, rfl, by rw [hz], ⟨_, _, by (rw [hz]; try rfl)⟩, rfl⟩
 refine .region (.m rfl (.q (.loadAs (vs := ptC y) rfl ag_43 (by repeat' constructor) (by simp [ptC]) rfl) rfl (.u (.fieldAddr rfl fo_54_0) (.u (.ld rfl ag_3) (.oq (.c Tryz.func71 [_, _, _] (rpart_spec x τ y zx p hx.own N ho (by omega))) ?_)))))
 rintro v L' ⟨a5, c5, rfl, rfl⟩
 refine .a rfl (.nil (.blk_n (.then_n (.seq ?_))))
 have hz : (applyZ τ zx y subs) = (zxT ((partZ τ y zx).1) zx, ((partZ τ y zx).2, 0)) := by rw [apply_zx]; unfold applyZ0; rw [if_neg h20, if_neg hk6, if_neg hk7, if_neg h75]
 refine .rtOpen (x := x) (τ := ((partZ τ y zx).1)) (by repeat' constructor) fun an cn as1 cs l hl => (.region (.m rfl (.u (.fieldAddr rfl fo_54_0) (.u (.ld rfl ag_3) (.nf rfl fo_110_2 (.st rfl rfl rfl sz_3 ?_))))))
 refine .nil (.rtFold (x := x) (τ := (zxT ((partZ τ y zx).1) zx)) (l := l) hl (by repeat' constructor) rfl rfl rfl rfl rfl (.then_n (.sm rfl (.m rfl (.a rfl (.an rfl (.ret (.rfCast (x := x) (τ' := (applyZ τ zx y subs).1) (by repeat' constructor) (by rw [hz]) (.slCast (T := 184) (sz := 3) (m' := (applyZ τ zx y subs).2.1.length) (xs' := (applyZ τ zx y subs).2.1.flatMap evC) (by repeat' constructor) (by (rw [hz]; try rfl)) (by (rw [hz]; try rfl)) ?_)))))))))
 exact .dn rfl rfl ⟨_, _, rfl, by rw [hz], ⟨_, _, by (rw [hz]; try rfl)⟩, rfl⟩
theorem trees12_spec (va : Value) (es : List En) (q : HP) (hA : EntsA q va es) : Fn Tryz.prog 11 #[va] [q] fun v L => ∃ t x, v = .tuple #[vptr t, vptr x] ∧ L = [q, treeR t (appL newT es), refR x (appL newT es)] := by
 refine Fn.intro Tryz.func11 rfl rfl fun F W => ?_
 refine .rdAny (p := q) hA.cells (by repeat' constructor) fun aa ca ee _ => ?_
 subst ee
 have hlen := hA.len
 refine .sr (.a rfl (.an rfl (.sr (.oq (.c Tryz.func26 [] (trnew_spec)) ?_))))
 rintro v L' ⟨t, rfl, rfl⟩
 refine .an rfl (.sr (.oq (.c Tryz.func27 [] (rfnew_spec)) ?_))
 rintro v L' ⟨x, rfl, rfl⟩
 refine .an rfl (.seq (.sr (.an rfl (.block (.loopK (ι := Nat) (fun q E => (6, vint q) :: E) (fun q => [treeR t (appL newT (es.take q)), refR x (appL newT (es.take q))]) (fun q => q ≤ es.length) (fun q => es.length - q) (0) (ts := [0, 2, 3, 4, 5]) (.cons rfl (.cons rfl (.cons rfl (.cons rfl (.cons rfl (.nil)))))) (Nat.zero_le _) ⟨rfl, rfl, rfl, rfl, rfl, rfl, trivial⟩ (by repeat' constructor) ?_)))))
 rintro i hi
 refine .seq (.sm rfl (.m rfl (.q (.slen rfl Tryz.underlying22 rfl) rfl (.ui rfl rfl rfl (.m rfl (.dec (t := 13) rfl (fun h4_13 => ?_) (fun h4_13 => ?_)))))))
 ·refine .kDT (t := 12) rfl h4_13 (.grun (t := 13) rfl rfl rfl (.m rfl (.grun (t := 13) rfl rfl rfl (.q (.ptrne rfl rfl Tryz.underlying30) rfl (.u (.pickT rfl rfl) (.nt (.condT rfl (.sk (.seq (.block (.sr ?_)))))))))))
  have hi2 : i < es.length := by omega
  refine .rdShape (p := q) hA.cells (by repeat' constructor) (by omega) fun ba oa ee => ?_
  subst ee
  have hst : appL newT (es.take (i + 1)) = appE (appL newT (es.take i)) es[i] := by unfold appL; rw [List.take_succ_eq_append_getElem hi2, List.foldl_append]; rfl
  refine .m rfl (.m rfl (.m rfl (.q (.indexAddr rfl rfl el_22 (by omega)) rfl (.q (.loadRdA (sz := 11) (j := i * 11) (k := 11) (p := q) (vs := enC es[i]) rfl ag_54 (by repeat' constructor) hA.cells (by simp) (by omega) (by omega) (flatMap_at (f := enC) (sz := 11) (fun _ _ => rfl) (by omega))) rfl (.oq (.call Tryz.func33 rfl rfl (vs := [_, _]) rfl (trapply_spec t (appL newT (es.take i)) es[i].zx es[i].ses es[i].xid es[i].x es[i].subs q (hA.tx _ (List.getElem_mem hi2)) (1 + 2097152) (hA.ok newT_ok i) (by have := (hA.tx _ (List.getElem_mem hi2)).few; omega))) ?_)))))
  rintro v L' ⟨u6, e6, rfl, -, ⟨a6, c6, rfl⟩, rfl⟩; rw [show (applyZ (appL newT (es.take i)) es[i].zx es[i].x es[i].subs).1 = appL newT (es.take (i + 1)) from hst.symm]
  refine .nt (.region (.m rfl (.m rfl (.m rfl (.q (.indexAddr rfl rfl el_22 (by omega)) rfl (.q (.loadRdA (sz := 11) (j := i * 11) (k := 11) (p := q) (vs := enC es[i]) rfl ag_54 (by repeat' constructor) hA.cells (by simp) (by omega) (by omega) (flatMap_at (f := enC) (sz := 11) (fun _ _ => rfl) (by omega))) rfl (.oq (.call Tryz.func34 rfl rfl (vs := [_, _]) rfl (rapply_spec x (appL newT (es.take i)) es[i].zx es[i].ses es[i].xid es[i].x es[i].subs q (hA.tx _ (List.getElem_mem hi2)) (1 + 2097152) (hA.ok newT_ok i) (by have := (hA.tx _ (List.getElem_mem hi2)).few; omega))) ?_)))))))
  rintro v L' ⟨u7, e7, rfl, -, ⟨a7, c7, rfl⟩, rfl⟩; rw [show (applyZ (appL newT (es.take i)) es[i].zx es[i].x es[i].subs).1 = appL newT (es.take (i + 1)) from hst.symm]
  refine .nil (.blk_n (.then_n (.region (.m rfl (.q (.add rfl rfl (by omega)) rfl (.an rfl ?_))))))
  exact .rk (i + 1) (by omega) (by omega) ⟨rfl, rfl, rfl, rfl, rfl, rfl, trivial⟩
 refine .kDF (t := 12) rfl h4_13 (.gk (.gk (.u (.pickF rfl rfl) (.nt (.condF rfl (.exit (.then_e (.then_e (.blk_e (.then_n (.sm rfl (.m rfl (.a rfl (.an rfl (.ret ?_)))))))))))))))
 have hie : i = es.length := by omega
 have hta : es.take i = es := by rw [hie, List.take_length]
 rw [hta]
 exact .dn rfl rfl ⟨t, x, rfl, rfl⟩
theorem same_pl {y z : Pt} {l m : List Pt} (h1 : y.pl = z.pl) (h2 : l.map Pt.pl = m.map Pt.pl) : enB ⟨0, 0, 0, y, l⟩ = enB ⟨0, 0, 0, z, m⟩ := by
 rw [← enB_pl ⟨0, 0, 0, y, l⟩, ← enB_pl ⟨0, 0, 0, z, m⟩]
 have e : (⟨0, 0, 0, y, l⟩ : En).pl = (⟨0, 0, 0, z, m⟩ : En).pl := by
  show (⟨0, 0, 0, y.pl, l.map Pt.pl⟩ : En) = ⟨0, 0, 0, z.pl, m.map Pt.pl⟩
  rw [h1, h2]
 rw [e]
theorem pick3 (c : Int) : pickZ c 3 = 0 ∨ pickZ c 3 = 1 ∨ pickZ c 3 = 2 := by
 unfold pickZ
 split <;> omega
theorem part_i {τ : Tr} {u : Who} {r : Rq} {p : HP} {iv : Value} (h : WiA p u iv r) (ha : AclW r.acl) : PtI (partP τ u r).1 := by
 have h1 := part_n τ u h.ses (by have := h.rq.data; omega) ha
 have h2 := part_path h τ
 have h3 := part_acl h τ
 have hu : U64 = 18446744073709551616 := rfl
 refine ⟨?_, h1.own, h1.num, ?_, by omega, by have := h1.data; omega, by omega, fun a ha => (h1.acl.each a ha).1⟩
 ·have hs : ∀ k : Int, 0 ≤ k ∧ k ≤ 8 → I64 k := fun k hk => ⟨by omega, by omega⟩
  unfold partP
  split
  ·exact hs 1 (by omega)
  split
  ·exact hs 2 (by omega)
  split
  ·unfold nodeX
   split
   ·exact hs 3 (by omega)
   split
   ·exact hs 4 (by omega)
   ·exact hs 0 (by omega)
  ·exact hs 0 (by omega)
 ·unfold partP
  split
  ·exact I64.zero
  split
  ·exact I64.zero
  split
  ·unfold nodeX
   split
   ·exact I64.zero
   split <;> exact I64.zero
  ·exact I64.zero
structure PtR (y : Pt) : Prop where
 i : PtI y
 acl : (aclB y.acl).length ≤ 33000000
 many : y.acl.length ≤ 1048576
 path : y.path.length ≤ 1048576
 data : y.data.length ≤ 1048576
theorem numB_ten {n : Int} (h : I64 n) : (numB n).length ≤ 10 := numB_len8 h
theorem ptR_len {y : Pt} (h : PtR y) : (ptB y).length ≤ 35200000 := by
 have h1 := numB_ten h.i.kind
 have h2 := txtB_len8 (s := y.data) h.data
 have h3b : (txtB y.path).length ≤ 1048596 := by
  have g := sev_len10 (u := y.path.length) (by have := h.path; have : U64 = 18446744073709551616 := rfl; omega)
  have := h.path
  unfold txtB cntB
  rw [List.length_append]; omega
 have h5 := numB_ten h.i.own
 have h6 := numB_ten h.i.num
 have h7 := numB_ten h.i.err
 have h8 := h.acl
 unfold ptB
 simp only [List.flatMap_cons, List.flatMap_nil, List.length_append, List.length_nil]
 omega
theorem res_len {y : Pt} {ys : List Pt} (h : PtR y) (hs : ∀ z ∈ ys, PtR z) (hn : ys.length ≤ 8) : (enB ⟨0, 0, 0, y, ys⟩).length ≤ 1073741824 := by
 have h0 := numB_ten I64.zero
 have h1 := ptR_len h
 have h2 := fm_most8 (f := ptB) (c := 35200000) (l := ys) (fun z hz => ptR_len (hs z hz))
 have h3 := sev_len10 (u := ys.length) (by have : U64 = 18446744073709551616 := rfl; omega)
 have h4 : ys.length * 35200000 ≤ 8 * 35200000 := Nat.mul_le_mul_right _ hn
 rw [enB_len]
 unfold subsB cntB
 rw [List.length_append]
 simp only [List.flatMap_cons, List.flatMap_nil, List.length_append, List.length_nil]
 omega
theorem big_get12 {α : Type} {f : α → HP} : ∀ {l : List α} {x : α} {h : Hp}, x ∈ l → bigR f l h → ∃ h1, (∀ b o, h1 b = some o → h b = some o) ∧ f x h1
 | y :: l, x, h, hx, hp => by
  have hq := big_cons hp
  rcases List.mem_cons.1 hx with rfl | hx
  ·exact sep_head hq
  ·obtain ⟨h1, a1, q1⟩ := sep_head (sep_perm (List.Perm.swap _ _ _) hq)
   obtain ⟨h2, a2, q2⟩ := big_get12 hx q1
   exact ⟨h2, fun b o hb => a1 b o (a2 b o hb), q2⟩
 | [], _, _, hx, _ => by cases hx
theorem ent_acl {e : En} {h : Hp} (hp : entR e h) : rdS 2 h e.x.aclV e.x.acl.length (e.x.acl.flatMap acC) := by
 obtain ⟨h1, a1, q1⟩ := sep_head hp
 exact rdS_mono (slR_rd q1) a1
theorem ent_subs {e : En} {h : Hp} (hp : entR e h) : rdS 8 h e.x.subsV e.subs.length (e.subs.flatMap ptC) := by
 obtain ⟨h1, a1, q1⟩ := sep_head (sep_perm (List.Perm.swap _ _ _) hp)
 exact rdS_mono (slR_rd q1) a1
theorem ent_each {e : En} {h : Hp} (hp : entR e h) {y : Pt} (hy : y ∈ e.subs) : rdS 2 h y.aclV y.acl.length (y.acl.flatMap acC) := by
 have hq : sep [bigR aclR e.subs, aclR e.x, subsR e] h := sep_perm (by
  refine List.Perm.trans (List.Perm.cons _ (List.Perm.swap _ _ _)) (List.Perm.swap _ _ _)) hp
 obtain ⟨h1, a1, q1⟩ := sep_head hq
 obtain ⟨h2, a2, q2⟩ := big_get12 hy q1
 exact rdS_mono (slR_rd q2) (fun b o hb => a1 b o (a2 b o hb))
theorem res_L {y : Pt} {ys : List Pt} (h : PtR y) (hs : ∀ z ∈ ys, PtR z) (hn : ys.length ≤ 8) (hc : isCell y.aclV = true ∧ isCell y.subsV = true) (hcs : ∀ z ∈ ys, isCell z.aclV = true ∧ z.subsV = nilV) : EnL (entR ⟨0, 0, 0, y, ys⟩) ⟨0, 0, 0, y, ys⟩ := by
 have hu : U64 = 18446744073709551616 := rfl
 refine ⟨⟨⟨I64.zero, I64.zero, I64.zero, h.i, by show ys.length < U64; omega, fun z hz => (hs z hz).i⟩, fun _ hp => ent_acl hp, fun _ hp => ent_subs hp, fun z hz _ hp => ent_each hp hz⟩, res_len h hs hn, ⟨by show ys.length ≤ _; omega, h.many, fun z hz => (hs z hz).many⟩, hc, fun z hz => ⟨(hcs z hz).1, by rw [(hcs z hz).2]; rfl⟩⟩
theorem when_code {b : Prop} [Decidable b] {e : Int} (h : 0 ≤ e ∧ e ≤ 110) : 0 ≤ whenZ b e ∧ whenZ b e ≤ 110 := by
 show 0 ≤ (if b then e else 0) ∧ (if b then e else 0) ≤ 110
 split <;> omega
theorem check_code (p : Bs) : 0 ≤ checkZ p ∧ checkZ p ≤ 110 := by rcases check_err p with h | h | h <;> omega
theorem first_code {l : List Int} (h : ∀ e ∈ l, 0 ≤ e ∧ e ≤ 110) : 0 ≤ firstZ l ∧ firstZ l ≤ 110 := by
 rcases first_mem l with g | g
 ·omega
 ·exact h _ g
theorem wrong_code (r : Rq) : 0 ≤ wrongE r ∧ wrongE r ≤ 110 := by
 unfold wrongE
 split
 ·exact when_code (by omega)
 split
 ·exact when_code (by omega)
 ·omega
theorem part_code (τ : Tr) (u : Who) (r : Rq) : 0 ≤ (partP τ u r).2 ∧ (partP τ u r).2 ≤ 110 := by
 unfold partP
 split
 ·refine first_code fun e he => ?_
  simp only [createE, List.mem_cons, List.not_mem_nil, or_false] at he
  rcases he with rfl | rfl | rfl | rfl | rfl | rfl | rfl | rfl | rfl | rfl <;> first | exact check_code _ | exact when_code (by omega)
 split
 ·refine first_code fun e he => ?_
  simp only [eraseE, List.mem_cons, List.not_mem_nil, or_false] at he
  rcases he with rfl | rfl | rfl | rfl | rfl | rfl <;> first | exact check_code _ | exact when_code (by omega)
 split
 ·refine first_code fun e he => ?_
  simp only [nodeE, List.mem_cons, List.not_mem_nil, or_false] at he
  rcases he with rfl | rfl | rfl | rfl | rfl <;> first | exact check_code _ | exact wrong_code _ | exact when_code (by omega)
 ·exact ⟨by show (0 : Int) ≤ 110; decide, by show (110 : Int) ≤ 110; decide⟩
theorem refusal_R {e n : Int} (he : I64 e) (hn : I64 n) : PtR (refusal e n) :=
 ⟨⟨⟨by show (-9223372036854775808 : Int) ≤ 8; decide, by show (8 : Int) ≤ 9223372036854775807; decide⟩, I64.zero, hn, he, by show 0 < U64; decide, by show 0 < U64; decide, by show 0 < U64; decide, fun a ha => by cases ha⟩, acl_nil_w.long, Nat.zero_le _, Nat.zero_le _, Nat.zero_le _⟩
theorem part_R {τ : Tr} {u : Who} {r : Rq} {p : HP} {iv : Value} (h : WiA p u iv r) (ha : AclW r.acl) : PtR (partP τ u r).1 := by
 have h1 := part_n τ u h.ses (by have := h.rq.data; omega) ha
 exact ⟨part_i h ha, h1.acl.long, part_acl h τ, part_path h τ, h1.data⟩
theorem PtR.of {y z : Pt} (e : y.pl = z.pl) (h : PtR z) : PtR y := by
 have hk : PtR z.pl := ⟨⟨h.i.kind, h.i.own, h.i.num, h.i.err, h.i.path, h.i.data, h.i.many, h.i.acl⟩, h.acl, h.many, h.path, h.data⟩
 rw [← e] at hk
 exact ⟨⟨hk.i.kind, hk.i.own, hk.i.num, hk.i.err, hk.i.path, hk.i.data, hk.i.many, hk.i.acl⟩, hk.acl, hk.many, hk.path, hk.data⟩
theorem txn_R {τ : Tr} {u : Who} {r : Rq} {p : HP} {iv : Value} (h : WiA p u iv r) (ha : AclW r.acl) (hk : r.kind ≠ 6 ∧ r.kind ≠ 7 ∧ r.kind ≠ 8) (subs : List Rq) : PtR (txnP τ u r subs).1 ∧ (txnP τ u r subs).2 = [] := by
 have hm : I64 (-1) := ⟨by decide, by decide⟩
 unfold txnP
 split
 ·exact ⟨refusal_R ⟨by decide, by decide⟩ hm, rfl⟩
 split
 ·exact ⟨refusal_R ⟨by decide, by decide⟩ hm, rfl⟩
 rw [if_neg hk.1, if_neg hk.2.1, if_neg hk.2.2]
 split
 ·have := part_code τ u r
  exact ⟨refusal_R ⟨by omega, by omega⟩ hm, rfl⟩
 ·exact ⟨part_R h ha, rfl⟩
theorem av_i64 {τ : Tr} (h : TrW τ) (p : Bs) : I64 (statD τ p).av := by
 unfold statD statZ
 rcases hn : alook τ.nodes p with _ | n
 case some => exact (h.nd _ (al_mem hn)).st _ (nums7_mem.2 (.inr (.inr (.inr (.inr (.inr (.inl rfl)))))))
 case none => exact I64.zero
theorem ask_i64 {τ : Tr} (h : TrW τ) (r : Rq) : I64 (askV τ r) := by
 unfold askV stampK
 split
 ·exact av_i64 h _
 ·exact ver_i64 h _
theorem ask_av {τ : Tr} {r : Rq} (h : r.kind = 4) : askV τ r = (statD τ r.path).av := if_pos h
theorem ask_ver {τ : Tr} {r : Rq} (h : ¬ r.kind = 4) : askV τ r = (statD τ r.path).ver := if_neg h
structure WiD (p : HP) (u : Who) (iv : Value) (r : Rq) (subs : List Rq) : Prop where
 w : WiA p u iv r
 a : AclW r.acl
 rd : ∀ h : Hp, p h → rdS 10 h r.subsV subs.length (subs.flatMap rqC)
 each : ∀ x ∈ subs, WiA p u iv x
 acls : ∀ x ∈ subs, AclW x.acl
theorem WiA.K {p : HP} {u : Who} {iv : Value} {r : Rq} (h : WiA p u iv r) {k : Int} (hk : I64 k) : WiA p u iv (withK r k) :=
 ⟨⟨hk, h.rq.xid, h.rq.flags, h.rq.ver, h.rq.path, h.rq.data, h.rq.acl, h.rq.many, h.rq.ids, h.rq.sub, h.rq.arm⟩, h.ses, h.ids, h.few, h.shape, h.ashape, h.tab⟩
theorem WiA.V {p : HP} {u : Who} {iv : Value} {r : Rq} (h : WiA p u iv r) {v : Int} (hv : I64 v) : WiA p u iv (withV r v) :=
 ⟨⟨h.rq.kind, h.rq.xid, h.rq.flags, hv, h.rq.path, h.rq.data, h.rq.acl, h.rq.many, h.rq.ids, h.rq.sub, h.rq.arm⟩, h.ses, h.ids, h.few, h.shape, h.ashape, h.tab⟩
theorem WiD.K {p : HP} {u : Who} {iv : Value} {r : Rq} {subs : List Rq} (h : WiD p u iv r subs) {k : Int} (hk : I64 k) : WiD p u iv (withK r k) subs := ⟨h.w.K hk, h.a, h.rd, h.each, h.acls⟩
theorem WiD.V {p : HP} {u : Who} {iv : Value} {r : Rq} {subs : List Rq} (h : WiD p u iv r subs) {v : Int} (hv : I64 v) : WiD p u iv (withV r v) subs := ⟨h.w.V hv, h.a, h.rd, h.each, h.acls⟩
theorem ents_w : ∀ {l : List En} {τ : Tr}, TrW τ → (∀ e ∈ l, EnN e) → TrW (appL τ l)
 | [], _, h, _ => h
 | e :: l, _, h, hl => ents_w (l := l) (h.app (hl e List.mem_cons_self)) (fun x hx => hl x (List.mem_cons_of_mem _ hx))
theorem pick_rng (c : Int) : 0 ≤ pickZ c 3 ∧ pickZ c 3 < 3 := by
 rcases pick3 c with h | h | h <;> rw [h] <;> decide
def kinds3 (c : Int) : Int := ([2, 3, 4] : List Int).getD (pickZ c 3).toNat 0
theorem kinds3_or (c : Int) : kinds3 c = 2 ∨ kinds3 c = 3 ∨ kinds3 c = 4 := by
 unfold kinds3
 rcases pick3 c with h | h | h <;> rw [h]
 ·exact .inl rfl
 ·exact .inr (.inl rfl)
 ·exact .inr (.inr rfl)
theorem kinds3_at (c : Int) : ([vint 2, vint 3, vint 4] : List Value)[(pickZ c 3).toNat * 1]? = some (vint (kinds3 c)) := by
 unfold kinds3
 rcases pick3 c with h | h | h <;> rw [h] <;> rfl
theorem again_L {τ : Tr} {u : Who} {r : Rq} {p : HP} {iv : Value} {subs : List Rq} {y : Pt} {ys : List Pt} (hd : WiD p u iv r subs) (hk : r.kind = 2 ∨ r.kind = 3 ∨ r.kind = 4) (hy : y.pl = (txnP τ u r subs).1) (hys : ys.map Pt.pl = (txnP τ u r subs).2)
  (hc : isCell y.aclV = true ∧ ∃ a c, y.subsV = .slice a ys.length c) (hcs : ∀ z ∈ ys, isCell z.aclV = true ∧ z.subsV = nilV) : EnL (entR ⟨0, 0, 0, y, ys⟩) ⟨0, 0, 0, y, ys⟩ := by
 have h := txn_R (τ := τ) hd.w hd.a ⟨by omega, by omega, by omega⟩ subs
 have hn : ys = [] := by
  rw [h.2] at hys
  cases ys with
  | nil => rfl
  | cons z zs => cases hys
 subst hn
 obtain ⟨h1, a, c, h2⟩ := hc
 exact res_L (PtR.of (z := (txnP τ u r subs).1) (by rw [← hy]; rfl) h.1) (fun z hz => by cases hz) (by show 0 ≤ 8; decide) ⟨h1, by rw [h2]; rfl⟩ hcs
theorem prepAgain12_spec (va iv : Value) (es : List En) (u : Who) (r : Rq) (subs : List Rq) (q : HP) (hA : EntsA q va es) (hN : ∀ e ∈ es, EnN e) (hD : WiD q u iv r subs) : Fn Tryz.prog 3 #[va, vint u.ses, iv, .agg (rqC r).toArray] [q] fun v L => v = .bool true ∧ L = [q] := by
 refine Fn.intro Tryz.func3 rfl rfl fun F W => ?_
 have hok : (appL newT es).Ok (1 + 2097152) := by have h := hA.ok newT_ok es.length; rwa [List.take_length] at h
 have hw : TrW (appL newT es) := ents_w TrW.new hN
 have hk3 := kinds3_or r.kind
 have hK : WiD q u iv (withK r (kinds3 r.kind)) subs := hD.K (by rcases hk3 with h | h | h <;> rw [h] <;> exact ⟨by decide, by decide⟩)
 have hB : WiD q u iv (withV (withK r (kinds3 r.kind)) (-1)) subs := hK.V ⟨by decide, by decide⟩
 have hC : WiD q u iv (withV (withK r (kinds3 r.kind)) (askV (appL newT es) (withK r (kinds3 r.kind)))) subs := hK.V (ask_i64 hw _)
 have hk8 : kinds3 r.kind ≠ 8 := by omega
 have hpk := pick_rng r.kind
 have hag := txn_again (appL newT es) u (r := withK r (kinds3 r.kind)) hk3 subs
 refine .sr (.oq (.box rfl) ?_)
 rintro v L' ⟨b7, rfl, rfl⟩
 refine .a rfl (.nil (.ptCast (b := b7) (l' := rqC r) (by repeat' constructor) (by exact rfl) (.then_n (.sr (.cv Tryz.func10 [] (awake12_spec q hD.w.tab) ?_)))))
 refine .an rfl (.sm rfl (.oq (.c Tryz.func11 [_] (trees12_spec va es q hA)) ?_))
 rintro v L' ⟨t, x, rfl, rfl⟩
 refine .m rfl (.u (.extract rfl rfl) (.u (.extract rfl rfl) (.a rfl (.an rfl (.seq (.sm rfl (.u (.not rfl) (.m rfl (.grun (t := 28) rfl rfl rfl (.m rfl (.grun (t := 28) rfl rfl rfl (.q (.ptreq rfl rfl Tryz.underlying30) rfl (.u (.pickF rfl rfl) (.nt (.condF rfl (.sk (.sr (.oq (.buildSlice1 (vs := [_, _, _]) el_34 ze_3 rfl rfl rfl rfl rfl (by decide)) ?_))))))))))))))))))
 rintro v L' ⟨b9, rfl, rfl⟩
 refine .u (.fieldAddr rfl fo_28_0) (.u (.ld rfl ag_3) (.cv Tryz.func12 [_, _] (pick12_spec r.kind 3 hD.w.rq.kind (by decide)) ?_))
 refine .q (.indexAddr rfl rfl el_34 (by omega)) rfl (.q (.load rfl ag_3 (by repeat' constructor) (by have h := kinds3_at r.kind; simpa using h)) rfl (.u (.fieldAddr rfl fo_28_0) (.oq (.store rfl rfl rfl sz_3 ?c22 (nfz0 _ _)) ?_)))
 case c22 => simp [rqC]
 rintro v L' rfl
 refine .nil (.ptCast (b := b7) (l' := rqC (withK r (kinds3 r.kind))) (by repeat' constructor) (by exact rfl) (.then_n (.sm rfl (.u (.fieldAddr rfl fo_28_2) (.u (.ld rfl ag_9) (.oq (.call Tryz.func13 rfl rfl (vs := [_, _]) rfl (trstat_spec t (appL newT es) r.path _ hok (by decide))) ?_))))))
 rintro v L' ⟨rfl, rfl⟩
 refine .m rfl (.u (.extract rfl rfl) (.u (.extract rfl rfl) (.oq (.allocA ze_37) ?_)))
 rintro v L' ⟨b12, rfl, rfl⟩
 refine .oq (.storeA rfl rfl ?c33 sz_37 ?c36 ?c34 (nfz0 _ _)) ?_
 case c33 => intro v hv; simp only [stC, List.mem_cons, List.not_mem_nil, or_false] at hv; rcases hv with rfl | rfl | rfl | rfl | rfl | rfl | rfl | rfl | rfl <;> rfl
 case c36 => rfl
 case c34 => simp [stC]
 rintro v L' rfl
 refine .a rfl (.nil (.ptCast (b := b12) (l' := stC (statD (appL newT es) r.path)) (by repeat' constructor) (by exact rfl) (.then_n (.sr (.q (.to (v' := .agg (rqC (withK r (kinds3 r.kind))).toArray) (.loadA rfl ag_28 (by repeat' constructor) (by simp [rqC])) (by rfl)) rfl (.oq (.allocA ze_28) ?_))))))
 rintro v L' ⟨b14, rfl, rfl⟩
 refine .oq (.storeA rfl rfl ?c41 sz_28 ?c44 ?c42 (nfz0 _ _)) ?_
 case c41 => exact hK.w.rqcells
 case c44 => rfl
 case c42 => simp [rqC]
 rintro v L' rfl
 refine .nil (.ptCast (b := b14) (l' := rqC (withK r (kinds3 r.kind))) (by repeat' constructor) (by exact rfl) (.then_n (.sr (.u (.fieldAddr rfl fo_28_6) (.oq (.store rfl rfl rfl sz_3 ?c47 (nfz0 _ _)) ?_)))))
 case c47 => simp [rqC]
 rintro v L' rfl
 refine .nil (.ptCast (b := b14) (l' := rqC (withV (withK r (kinds3 r.kind)) (-1))) (by repeat' constructor) (by exact rfl) (.then_n (.sr (.q (.to (v' := .agg (rqC (withK r (kinds3 r.kind))).toArray) (.loadA rfl ag_28 (by repeat' constructor) (by simp [rqC])) (by rfl)) rfl (.oq (.allocA ze_28) ?_)))))
 rintro v L' ⟨b15, rfl, rfl⟩
 refine .oq (.storeA rfl rfl ?c53 sz_28 ?c56 ?c54 (nfz0 _ _)) ?_
 case c53 => exact hK.w.rqcells
 case c56 => rfl
 case c54 => simp [rqC]
 rintro v L' rfl
 refine .nil (.ptCast (b := b15) (l' := rqC (withK r (kinds3 r.kind))) (by repeat' constructor) (by exact rfl) (.then_n (.sr (.u (.fieldAddr rfl fo_37_3) (.u (.ld rfl ag_3) (.u (.fieldAddr rfl fo_28_6) (.oq (.store rfl rfl rfl sz_3 ?c61 (nfz0 _ _)) ?_)))))))
 case c61 => simp [rqC]
 rintro v L' rfl
 refine .nil (.ptCast (b := b15) (l' := rqC (withV (withK r (kinds3 r.kind)) (statD (appL newT es) r.path).ver)) (by repeat' constructor) (by exact rfl) (.then_n (.seq (.joinK (ι := Unit) (fun q E => E) (fun q => [ptc b15 (rqC (withV (withK r (kinds3 r.kind)) (askV (appL newT es) (withK r (kinds3 r.kind))))) 28]) (fun q => True) (pre := [ptc b15 _ _]) (ts := [1, 2, 7, 8, 10, 13, 14, 15]) (.cons rfl (.cons rfl (.cons rfl (.cons rfl (.cons rfl (.cons rfl (.cons rfl (.cons rfl (.nil))))))))) (by repeat' constructor) ?_ ?_))))
 ·refine .sr (.u (.fieldAddr rfl fo_28_0) (.u (.ld rfl ag_3) (.ui rfl rfl rfl (.nt (.condD rfl (fun h54 => ?_) (fun h54 => ?_))))))
  ·refine .region (.u (.fieldAddr rfl fo_37_5) (.u (.ld rfl ag_3) (.u (.fieldAddr rfl fo_28_6) (.oq (.store rfl rfl rfl sz_3 ?c70 (nfz0 _ _)) ?_))))
   case c70 => simp [rqC]
   rintro v L' rfl
   refine .nt (.ptCast (b := b15) (l' := rqC (withV (withK r (kinds3 r.kind)) (askV (appL newT es) (withK r (kinds3 r.kind))))) (by repeat' constructor) (by rw [ask_av (r := withK r (kinds3 r.kind)) h54]; rfl) ?_)
   exact .mk (()) (trivial) ⟨rfl, rfl, rfl, rfl, rfl, rfl, rfl, rfl, trivial⟩
  refine .sk (.ptCast (b := b15) (l' := rqC (withV (withK r (kinds3 r.kind)) (askV (appL newT es) (withK r (kinds3 r.kind))))) (by repeat' constructor) (by rw [ask_ver (r := withK r (kinds3 r.kind)) h54]; rfl) ?_)
  exact .mk (()) (trivial) ⟨rfl, rfl, rfl, rfl, rfl, rfl, rfl, rfl, trivial⟩
 rintro _u _
 refine .sm rfl (.m rfl (.m rfl (.q (.to (v' := .agg (rqC (withK r (kinds3 r.kind))).toArray) (.loadA rfl ag_28 (by repeat' constructor) (by simp [rqC])) (by rfl)) rfl (.oq (.c Tryz.func14 [_, _, _, _] (ptxn_spec t (appL newT es) u iv (withK r (kinds3 r.kind)) q hK.w (1 + 2097152) hok (by decide) hw (by decide) subs hK.rd hK.each hK.acls hk8)) ?_))))
 rintro v L' ⟨y1, ys1, rfl, hy1, hys1, ⟨hc1, as1, cs1, hsub1⟩, hyk1, rfl⟩
 refine .oq (.allocA ze_43) ?_
 rintro v L' ⟨b16, rfl, rfl⟩
 refine .oq (.storeA rfl rfl ?c81 sz_43 ?c84 ?c82 (nfz0 _ _)) ?_
 case c81 => exact pt_cells hc1 (by rw [hsub1]; rfl)
 case c84 => rfl
 case c82 => simp [ptC]
 rintro v L' rfl
 refine .nil (.ptCast (b := b16) (l' := ptC y1) (by repeat' constructor) (by exact rfl) (.fold (p := entR ⟨0, 0, 0, y1, ys1⟩) (q := [aclR y1, slR 43 8 y1.subsV ys1.length (ys1.flatMap ptC), bigR aclR ys1]) (by repeat' constructor) (fun _ h => h) ?_))
 have hL1 := again_L hK hk3 hy1 hys1 ⟨hc1, as1, cs1, hsub1⟩ hyk1
 refine .then_n (.sm rfl (.m rfl (.m rfl (.q (.to (v' := .agg (rqC (withV (withK r (kinds3 r.kind)) (-1))).toArray) (.loadA rfl ag_28 (by repeat' constructor) (by simp [rqC])) (by rfl)) rfl (.oq (.c Tryz.func14 [_, _, _, _] (ptxn_spec t (appL newT es) u iv (withV (withK r (kinds3 r.kind)) (-1)) q hB.w (1 + 2097152) hok (by decide) hw (by decide) subs hB.rd hB.each hB.acls hk8)) ?_)))))
 rintro v L' ⟨y2, ys2, rfl, hy2, hys2, ⟨hc2, as2, cs2, hsub2⟩, hyk2, rfl⟩
 refine .oq (.allocA ze_43) ?_
 rintro v L' ⟨b17, rfl, rfl⟩
 refine .oq (.storeA rfl rfl ?c94 sz_43 ?c97 ?c95 (nfz0 _ _)) ?_
 case c94 => exact pt_cells hc2 (by rw [hsub2]; rfl)
 case c97 => rfl
 case c95 => simp [ptC]
 rintro v L' rfl
 refine .nil (.ptCast (b := b17) (l' := ptC y2) (by repeat' constructor) (by exact rfl) (.fold (p := entR ⟨0, 0, 0, y2, ys2⟩) (q := [aclR y2, slR 43 8 y2.subsV ys2.length (ys2.flatMap ptC), bigR aclR ys2]) (by repeat' constructor) (fun _ h => h) ?_))
 have hL2 := again_L hB hk3 hy2 hys2 ⟨hc2, as2, cs2, hsub2⟩ hyk2
 refine .then_n (.sm rfl (.m rfl (.m rfl (.q (.to (v' := .agg (rqC (withV (withK r (kinds3 r.kind)) (askV (appL newT es) (withK r (kinds3 r.kind))))).toArray) (.loadA rfl ag_28 (by repeat' constructor) (by simp [rqC])) (by rfl)) rfl (.oq (.c Tryz.func14 [_, _, _, _] (ptxn_spec t (appL newT es) u iv (withV (withK r (kinds3 r.kind)) (askV (appL newT es) (withK r (kinds3 r.kind)))) q hC.w (1 + 2097152) hok (by decide) hw (by decide) subs hC.rd hC.each hC.acls hk8)) ?_)))))
 rintro v L' ⟨y3, ys3, rfl, hy3, hys3, ⟨hc3, as3, cs3, hsub3⟩, hyk3, rfl⟩
 refine .oq (.allocA ze_43) ?_
 rintro v L' ⟨b18, rfl, rfl⟩
 refine .oq (.storeA rfl rfl ?c107 sz_43 ?c110 ?c108 (nfz0 _ _)) ?_
 case c107 => exact pt_cells hc3 (by rw [hsub3]; rfl)
 case c110 => rfl
 case c108 => simp [ptC]
 rintro v L' rfl
 refine .nil (.ptCast (b := b18) (l' := ptC y3) (by repeat' constructor) (by exact rfl) (.fold (p := entR ⟨0, 0, 0, y3, ys3⟩) (q := [aclR y3, slR 43 8 y3.subsV ys3.length (ys3.flatMap ptC), bigR aclR ys3]) (by repeat' constructor) (fun _ h => h) ?_))
 have hL3 := again_L hC hk3 hy3 hys3 ⟨hc3, as3, cs3, hsub3⟩ hyk3
 have e3 := (hag (askV (appL newT es) (withK r (kinds3 r.kind)))).2 (fun g => g.2 rfl)
 have hbc : enB ⟨0, 0, 0, y2, ys2⟩ = enB ⟨0, 0, 0, y3, ys3⟩ := same_pl (hy2.trans ((congrArg Prod.fst e3).symm.trans hy3.symm)) (hys2.trans ((congrArg Prod.snd e3).symm.trans hys3.symm))
 have hnb : ¬ (y2.kind = 8 ∧ y2.err = 66) := fun g => ((hag (-1)).1 ⟨(congrArg Pt.kind hy2).symm.trans g.1, (congrArg Pt.err hy2).symm.trans g.2⟩).2.1 rfl
 have hst := (hag r.ver).1
 have hsm := (hag r.ver).2
 have hkr : withV (withK r (kinds3 r.kind)) r.ver = withK r (kinds3 r.kind) := rfl
 rw [hkr] at hst hsm
 refine .then_n (.seq (.joinK (ι := Unit) (fun q E => (86, .bool false) :: E) (fun q => []) (fun q => True) (pre := []) (ts := [7, 13, 15, 16, 17]) (.cons rfl (.cons rfl (.cons rfl (.cons rfl (.cons rfl (.nil)))))) (by repeat' constructor) ?_ ?_))
 ·refine .sr (.q (.to (v' := .agg (ptC y2).toArray) (.loadA rfl ag_43 (by repeat' constructor) (by simp [ptC])) (by rfl)) rfl (.q (.to (v' := .agg (ptC y3).toArray) (.loadA rfl ag_43 (by repeat' constructor) (by simp [ptC])) (by rfl)) rfl (.oq (.c Tryz.func15 [_, _] (psame_spec y2 y3 ys2 ys3 _ _ hL2 hL3)) ?_)))
  rintro v L' ⟨rfl, rfl⟩; rw [decide_eq_true hbc]
  refine .u (.not rfl) (.m rfl (.grun (t := 77) rfl rfl rfl (.u (.fieldAddr rfl fo_43_0) (.grun (t := 77) rfl rfl rfl (.u (.ld rfl ag_3) (.grun (t := 77) rfl rfl rfl (.ui rfl rfl rfl (.grun (t := 77) rfl rfl rfl (.m rfl (.dec (t := 81) rfl (fun h16_81 => ?_) (fun h16_81 => ?_)))))))))))
  ·refine .kDT (t := 80) rfl h16_81 (.grun (t := 81) rfl rfl rfl (.u (.fieldAddr rfl fo_43_6) (.grun (t := 81) rfl rfl rfl (.u (.ld rfl ag_40) (.grun (t := 81) rfl rfl rfl (.q (.as (v' := .bool false) (by exact congrArg Value.bool (decide_eq_false fun g => hnb ⟨h16_81, g⟩)) (.int rfl rfl rfl)) rfl (.grun (t := 77) rfl rfl rfl (.u (.pickT rfl rfl) (.u (.pickF rfl rfl) (.nt (.condF rfl (.sk ?_))))))))))))
   exact .mk (()) (trivial) ⟨rfl, rfl, rfl, rfl, rfl, rfl, trivial⟩
  refine .kDF (t := 80) rfl h16_81 (.gk (.gk (.gk (.grun (t := 77) rfl rfl rfl (.u (.pickF rfl rfl) (.u (.pickF rfl rfl) (.nt (.condF rfl (.sk ?_)))))))))
  exact .mk (()) (trivial) ⟨rfl, rfl, rfl, rfl, rfl, rfl, trivial⟩
 rintro _u _
 refine .seq (.joinK (ι := Unit) (fun q E => (19, .bool (decide (y1.kind = 8 ∧ y1.err = 66))) :: E) (fun q => []) (fun q => True) (pre := []) (ts := [7, 13, 15, 16, 17]) (.cons rfl (.cons rfl (.cons rfl (.cons rfl (.cons rfl (.nil)))))) (by repeat' constructor) ?_ ?_)
 ·refine .region (.u (.fieldAddr rfl fo_43_0) (.u (.ld rfl ag_3) (.ui rfl rfl rfl (.m rfl (.dec (t := 90) rfl (fun h18_90 => ?_) (fun h18_90 => ?_))))))
  ·refine .kDT (t := 89) rfl h18_90 (.grun (t := 90) rfl rfl rfl (.u (.fieldAddr rfl fo_43_6) (.grun (t := 90) rfl rfl rfl (.u (.ld rfl ag_40) (.grun (t := 90) rfl rfl rfl (.ui rfl rfl rfl (.q (.as (v' := .bool (decide (y1.kind = 8 ∧ y1.err = 66))) (by simp [h18_90]) (.pickT rfl rfl)) rfl (.an rfl ?_))))))))
   exact .mk (()) (trivial) ⟨rfl, rfl, rfl, rfl, rfl, rfl, trivial⟩
  refine .kDF (t := 89) rfl h18_90 (.gk (.gk (.gk (.q (.as (v' := .bool (decide (y1.kind = 8 ∧ y1.err = 66))) (by simp [h18_90]) (.pickF rfl rfl)) rfl (.an rfl ?_)))))
  exact .mk (()) (trivial) ⟨rfl, rfl, rfl, rfl, rfl, rfl, trivial⟩
 rintro _u _
 refine .seq ?_
 have hne : ¬ enB ⟨0, 0, 0, y1, ys1⟩ = enB ⟨0, 0, 0, y2, ys2⟩ → r.ver ≠ -1 ∧ r.ver ≠ askV (appL newT es) (withK r (kinds3 r.kind)) := fun g => by
    refine Decidable.byContradiction fun g2 => g ?_
    have e4 := hsm g2
    exact same_pl (hy1.trans ((congrArg Prod.fst e4).trans hy2.symm)) (hys1.trans ((congrArg Prod.snd e4).trans hys2.symm))
 refine .region (.m rfl (.m rfl (.dec (t := 96) rfl (fun h19_96 => ?_) (fun h19_96 => ?_))))
 ·refine .kDT (t := 95) rfl h19_96 (.grun (t := 96) rfl rfl rfl (.q (.as (v' := .bool true) (by exact congrArg Value.bool (decide_eq_true (hst ⟨(congrArg Pt.kind hy1).symm.trans h19_96.1, (congrArg Pt.err hy1).symm.trans h19_96.2⟩).1)) (.move rfl)) rfl (.u (.pickT rfl rfl) (.m rfl (.grun (t := 99) rfl rfl rfl (.u (.fieldAddr rfl fo_28_6) (.grun (t := 99) rfl rfl rfl (.u (.ld rfl ag_3) (.grun (t := 99) rfl rfl rfl (.q (.as (v' := .bool true) (by have h := (hst ⟨(congrArg Pt.kind hy1).symm.trans h19_96.1, (congrArg Pt.err hy1).symm.trans h19_96.2⟩).2.1; exact congrArg (fun b => Value.bool (!b)) (decide_eq_false h)) (.int rfl rfl rfl)) rfl (.u (.pickT rfl rfl) (.m rfl (.grun (t := 104) rfl rfl rfl (.u (.fieldAddr rfl fo_28_6) (.grun (t := 104) rfl rfl rfl (.u (.ld rfl ag_3) (.grun (t := 104) rfl rfl rfl (.u (.fieldAddr rfl fo_28_6) (.grun (t := 104) rfl rfl rfl (.u (.ld rfl ag_3) (.grun (t := 104) rfl rfl rfl (.q (.as (v' := .bool true) (by have h := (hst ⟨(congrArg Pt.kind hy1).symm.trans h19_96.1, (congrArg Pt.err hy1).symm.trans h19_96.2⟩).2.2; exact congrArg (fun b => Value.bool (!b)) (decide_eq_false h)) (.int rfl rfl rfl)) rfl ?_))))))))))))))))))))))
  refine .u (.pickT rfl rfl) (.m rfl (.gk (.gk (.gk (.gskipU (t := 114) rfl rfl rfl (.gskipU (t := 114) rfl rfl rfl (.gskipU (t := 114) rfl rfl rfl (.gskipU (t := 114) rfl rfl rfl (.gskipU (t := 118) rfl rfl rfl (.gskipU (t := 118) rfl rfl rfl (.gskipU (t := 118) rfl rfl rfl (.gskipU (t := 118) rfl rfl rfl (.gskipU (t := 122) rfl rfl rfl (.gskipU (t := 122) rfl rfl rfl (.gskipU (t := 122) rfl rfl rfl (.gskipU (t := 122) rfl rfl rfl (.gskipU (t := 122) rfl rfl rfl (.gskipU (t := 118) rfl rfl rfl (.gskipU (t := 114) rfl rfl rfl (.gk (.u (.pickT rfl rfl) (.an rfl (.ret ?_)))))))))))))))))))))))
  exact .vv
 refine .kDF (t := 95) rfl h19_96 (.gk (.u (.pickF rfl rfl) (.m rfl (.gk (.gk (.gk (.u (.pickF rfl rfl) (.m rfl (.gk (.gk (.gk (.gk (.gk (.u (.pickF rfl rfl) (.m rfl (.grun (t := 111) rfl rfl rfl (.m rfl (.grun (t := 111) rfl rfl rfl (.u (.not rfl) (.grun (t := 111) rfl rfl rfl (.m rfl (.ndec (t := 114) rfl (fun h19_114 => ?_) (fun h19_114 => ?_)))))))))))))))))))))))
 ·refine .kNT (t := 113) rfl h19_114 (.grun (t := 114) rfl rfl rfl (.q (.to (v' := .agg (ptC y1).toArray) (.loadA rfl ag_43 (by repeat' constructor) (by simp [ptC])) (by rfl)) rfl (.grun (t := 114) rfl rfl rfl (.q (.to (v' := .agg (ptC y2).toArray) (.loadA rfl ag_43 (by repeat' constructor) (by simp [ptC])) (by rfl)) rfl (.grun (t := 114) rfl rfl rfl (.cv Tryz.func15 [_, _] (psame_spec y1 y2 ys1 ys2 _ _ hL1 hL2) ?_))))))
  refine .grun (t := 114) rfl rfl rfl (.m rfl (.dec (t := 118) rfl (fun h19_118 => ?_) (fun h19_118 => ?_)))
  ·refine .kDT (t := 117) rfl h19_118 (.gk (.gk (.gk (.gk (.gskipU (t := 122) rfl rfl rfl (.gskipU (t := 122) rfl rfl rfl (.gskipU (t := 122) rfl rfl rfl (.gskipU (t := 122) rfl rfl rfl (.gskipU (t := 122) rfl rfl rfl (.gk (.grun (t := 114) rfl rfl rfl (.u (.pickT rfl rfl) (.grun (t := 111) rfl rfl rfl (.u (.pickT rfl rfl) (.u (.pickF rfl rfl) (.an rfl (.ret ?_)))))))))))))))))
   exact .vv
  refine .kDF (t := 117) rfl h19_118 (.grun (t := 118) rfl rfl rfl (.u (.fieldAddr rfl fo_28_6) (.grun (t := 118) rfl rfl rfl (.u (.ld rfl ag_3) (.grun (t := 118) rfl rfl rfl (.q (.as (v' := .bool true) (by have h := (hne h19_118).1; exact congrArg (fun b => Value.bool (!b)) (decide_eq_false h)) (.int rfl rfl rfl)) rfl (.grun (t := 118) rfl rfl rfl (.m rfl (.grun (t := 122) rfl rfl rfl (.u (.fieldAddr rfl fo_28_6) (.grun (t := 122) rfl rfl rfl (.u (.ld rfl ag_3) (.grun (t := 122) rfl rfl rfl (.u (.fieldAddr rfl fo_28_6) (.grun (t := 122) rfl rfl rfl (.u (.ld rfl ag_3) (.grun (t := 122) rfl rfl rfl (.q (.as (v' := .bool true) (by have h := (hne h19_118).2; exact congrArg (fun b => Value.bool (!b)) (decide_eq_false h)) (.int rfl rfl rfl)) rfl (.grun (t := 118) rfl rfl rfl (.u (.pickT rfl rfl) (.grun (t := 114) rfl rfl rfl (.u (.pickF rfl rfl) (.grun (t := 111) rfl rfl rfl (.u (.pickT rfl rfl) (.u (.pickF rfl rfl) (.an rfl (.ret ?_)))))))))))))))))))))))))))
  exact .vv
 exact absurd h19_114 h19_96
open Go Go.ChangeShapes Go.WideShapes Go.ChangeAt Go.RowKit
section
variable {H : Type} {enc : TypeId × Value → H} {P : Program} {W W' : World}
theorem trodAll_old (hl : laidOutB P = true) (hb : Below W.heap.size W W') (sp : Nat → Bool) : ∀ (ts : List TypeId) (vs : List Value) (ds : List (DataW H)) (p : List MemPlace), (∀ t ∈ ts, P.readableRec t = true ∧ t < P.types.size) →
  DataW.TrodAll enc P W 0 (fun _ => true) true ts vs ds p → (∀ x ∈ p, x.block < W.heap.size) → (∀ x ∈ p, sp x.block = true) → DataW.TrodAll enc P W' 0 sp true ts vs ds p
 | [], vs, ds, p, _, h, _, _ => by
  obtain ⟨rfl, rfl, rfl⟩ := trodAll_nil h
  exact h
 | t :: ts, vs, ds, p, hr, h, hlt, hsp => by
  obtain ⟨v, vs1, d, ds1, a, b, rfl, rfl, rfl, h1, h2⟩ := trodAll_cons h
  have r := hr t (by simp)
  refine ⟨a, b, WideElems.Trod_stays hl r.1 r.2 h1 (fun x hx => hb.same (hlt x (by simp [hx]))) (fun x hx => hsp x (by simp [hx])), ?_, rfl⟩
  exact trodAll_old hl hb sp ts vs1 ds1 b (fun t ht => hr t (by simp [ht])) h2 (fun x hx => hlt x (by simp [hx])) (fun x hx => hsp x (by simp [hx]))
theorem settled {fn : Func} {s : ChangeSpec} {apart fresh handsOn again : Bool} {args : Array Value} {ds gs : List (DataW H)} {before : List MemPlace} {tb : TypeId}
  (hW : DataW.Whole enc P fn.params.toList s.vars apart W args.toList ds gs before) (hvars : s.vars = []) (hspec : ∀ gs', gs' = [] → s.fn H (ds ++ gs') = { results := [.lit (.bool true)], args := ds })
  (hres : fn.resultTypes = #[tb]) (htb : P.underlying tb = some .bool) (hl : laidOutB P = true) (hr : ∀ t ∈ fn.params.toList, P.readableRec t = true ∧ t < P.types.size) (hb : Below W.heap.size W W') :
  s.post enc P fn apart fresh handsOn again W args (.bool true) W' := by
 have hW' := hW
 have hlt := hW.lt
 obtain ⟨p, q, hA, hV, rfl, hfz, hnd⟩ := hW
 rw [hvars] at hV
 obtain ⟨rfl, rfl⟩ := trodVars_none hV
 have hs := hspec [] rfl
 have hargs : ∀ sp : Nat → Bool, (∀ x ∈ p, sp x.block = true) → DataW.TrodAll enc P W' 0 sp true fn.params.toList args.toList ds p := fun sp hsp =>
  trodAll_old hl hb sp _ _ _ _ hr hA (fun x hx => hlt x (by simp [hx])) hsp
 have hbool : ∀ (b : Nat) (sp : Nat → Bool) (hd : Bool), DataW.TrodAll enc P W' b sp hd fn.resultTypes.toList ((Value.bool true).resultList fn.resultTypes.size) [.lit (.bool true)] [] := by
  intro b sp hd
  rw [hres]
  exact trodAll_cons_mk (shut_bool htb _) trodAll_mk0
 refine ⟨ds, [], p ++ [], [], p, [], hW', ?_, ?_, ?_, hb.frame _, fun _ => ⟨ok_one hres rfl (okWide_bool_mk htb _), [.lit (.bool true)] ++ ds, [], p, ⟨p, [], ?_, ?_, by simp, ?_, ?_⟩, ?_⟩⟩
 ·rw [hs]; exact hbool _ _ _
 ·rw [hs]; exact hargs _ (fun x hx => by simpa using hlt x (by simp [hx]))
 ·rw [hs, hvars]; exact hV
 ·exact trodAll_append (hargs _ (fun _ _ => rfl)) (hbool _ _ _)
 ·rw [hvars]; exact hV
 ·intro b off hp
  rw [hb.frozen (p := ⟨b, off, none⟩) (hlt (.cell b off) (by simp [hp]))]
  exact hfz b off (by simp [hp])
 ·intro ha
  have := hnd ha
  simpa using this
 ·intro x hx _
  simp [hx]
theorem old_calls {f : FuncId} {args : Array Value} (h : Fn P f args [Old W] fun v L => v = .bool true ∧ L = [Old W]) :
  Calls P f args W fun e W' => e = .returned (.bool true) ∧ Below W.heap.size W W' := by
 have h0 : St [Old W] W := ⟨fun b => W.heap[b]?, fun _ => none, fun _ => .inr rfl, fun b o h => h, fun b o h => (by cases h), fun b hb => rfl, trivial⟩
 refine (h [] W h0).mono ?_
 rintro e W' ⟨v, L, ⟨rfl, rfl⟩, rfl, hs, hk⟩
 refine ⟨rfl, hk.os, hk.tape, hk.output, hk.size, fun k hk' => ?_⟩
 obtain ⟨h1, a1, hp⟩ := sep_head hs
 have e1 := hp k hk'
 have : ∃ o, W.heap[k]? = some o := ⟨_, Array.getElem?_eq_getElem hk'⟩
 obtain ⟨o, ho⟩ := this
 rw [ho] at e1 ⊢
 exact a1 _ _ e1
theorem old_rd {a : Addr} {len cap : Nat} {V : Nat → Value} (hc : ∀ i, i < len → W.cell? (a.add i) = some (V i)) (hle : len ≤ cap) : ∀ h : Hp, Old W h → rdS 1 h (.slice (some a) len cap) len ((List.range len).map V) := by
 intro h hold
 rcases Nat.eq_zero_or_pos len with rfl | hpos
 ·exact .inl ⟨rfl, rfl, some a, cap, rfl⟩
 ·obtain ⟨b, off, spot⟩ := a
  have h0 := hc 0 hpos
  have e0 : (⟨b, off, spot⟩ : Addr).add 0 = ⟨b, off, spot⟩ := by simp [Addr.add]
  rw [e0] at h0
  simp only [World.cell?] at h0
  rcases hw : W.heap[b]? with _ | o
  ·rw [hw] at h0; cases h0
  ·cases o with
   | cells c T fr =>
    rw [hw] at h0
    dsimp only at h0
    split at h0
    ·cases h0
    ·rename_i hsp
     have hspot : spot = none := by simpa using hsp
     subst hspot
     have hc' : ∀ i, i < len → c[off + i]? = some (V i) := by
      intro i hi
      have := hc i hi
      have e1 : (⟨b, off, none⟩ : Addr).add i = ⟨b, off + i, none⟩ := by
       simp only [Addr.add]; split
       ·rename_i h0; simp [h0]
       ·rfl
      rw [e1] at this
      simp only [World.cell?, hw] at this
      simpa using this
     have hlt : b < W.heap.size := by
      rcases Nat.lt_or_ge b W.heap.size with h' | h'
      ·exact h'
      ·rw [Array.getElem?_eq_none h'] at hw; cases hw
     have hlen : off + len ≤ c.size := by
      have := hc' (len - 1) (by omega)
      rcases Nat.lt_or_ge (off + (len - 1)) c.size with h' | h'
      ·omega
      ·rw [Array.getElem?_eq_none h'] at this; cases this
     refine .inr ⟨b, off, cap, c.toList, T, fr, rfl, by rw [hold b hlt, hw], ?_, by simpa using hlen, hle⟩
     apply List.ext_getElem?
     intro i
     rw [Nat.mul_one, List.getElem?_take, List.getElem?_map, List.getElem?_drop]
     split
     ·rename_i hi
      rw [List.getElem?_range hi]
      simpa using hc' i hi
     ·rename_i hi
      rw [List.getElem?_eq_none (by simpa using hi)]; rfl
   | _ => rw [hw] at h0; cases h0
theorem arg_int {t : TypeId} {r : Reach} {b0 : Nat} {v : Value} {d : DataW H} {ps : List MemPlace} (ht : P.underlying t = some (.int .i64)) (hval : Value.okWide P W r b0 t v)
  (h : DataW.Trod enc P W 0 (fun _ => true) true t v d ps) : ∃ n : Int, v = vint n ∧ d = .lit (.int .i64 n) ∧ -9223372036854775808 ≤ n ∧ n ≤ 9223372036854775807 := by
 obtain ⟨n, rfl, rfl, rfl, hwf⟩ := open_int ht hval h
 exact ⟨n, rfl, rfl, bounds_i64 hwf⟩
end
open Go Go.ChangeShapes Go.WideShapes Go.ChangeAt Go.RowKit
section
variable {H : Type} {enc : TypeId × Value → H} {P : Program} {W : World}
theorem string_vstr (s : ByteArray) : Value.string s = vstr s.data.toList := by cases s; rfl
end
open Go Go.ChangeShapes Go.WideShapes Go.ChangeAt Go.RowKit
section
variable {H : Type} {enc : TypeId × Value → H} {P : Program} {W : World}
theorem flat_at {α : Type} {sz : Nat} (f : Nat → List α) : ∀ n, (∀ i, i < n → (f i).length = sz) → ∀ j, j < n * sz → ((List.range n).flatMap f)[j]? = (f (j / sz))[j % sz]? ∧ ((List.range n).flatMap f).length = n * sz := by
 intro n
 induction n with
 | zero => intro _ j hj; omega
 | succ n ih =>
  intro hf j hj
  have hn := hf n (by omega)
  have hlen : ((List.range n).flatMap f).length = n * sz := by
   rcases Nat.eq_zero_or_pos (n * sz) with h0 | h0
   ·rcases Nat.eq_zero_or_pos n with h1 | h1
    ·subst h1; simp
    ·have : sz = 0 := by
      rcases Nat.eq_zero_or_pos sz with h2 | h2
      ·exact h2
      ·have := Nat.mul_pos h1 h2; omega
     subst this; omega
   ·exact (ih (fun i hi => hf i (by omega)) 0 h0).2
  have e : (List.range (n + 1)).flatMap f = (List.range n).flatMap f ++ f n := by simp [List.range_succ]
  have hm : (n + 1) * sz = n * sz + sz := by rw [Nat.add_mul, Nat.one_mul]
  rw [e]
  refine ⟨?_, by rw [List.length_append, hlen, hn, hm]⟩
  rcases Nat.lt_or_ge j (n * sz) with h | h
  ·rw [List.getElem?_append_left (by omega)]
   exact (ih (fun i hi => hf i (by omega)) j h).1
  ·rw [List.getElem?_append_right (by omega), hlen]
   have hs : 0 < sz := by omega
   have h1 : j / sz = n := by
    have : j < (n + 1) * sz := hj
    have a := Nat.div_lt_of_lt_mul (show j < sz * (n + 1) by rw [Nat.mul_comm]; exact this)
    have b := (Nat.le_div_iff_mul_le hs).2 h
    omega
   have h2 : j % sz = j - n * sz := by
    have := Nat.div_add_mod j sz
    rw [h1, Nat.mul_comm] at this; omega
   rw [h1, h2]
theorem rdS_regroup {sz n c c1 : Nat} {a : Option Addr} {ys : List Value} {h : Hp} (hr : rdS 1 h (.slice a (n * sz) c1) (n * sz) ys) (hc : n ≤ c) (hs : 0 < sz) : rdS sz h (.slice a n c) n ys := by
 rcases hr with ⟨h1, h2, -⟩ | ⟨b, off, cap, l, T, fr, hv, hb, h1, h2, h3⟩
 ·have : n = 0 := by
   rcases Nat.eq_zero_or_pos n with h0 | h0
   ·exact h0
   ·have := Nat.mul_pos h0 hs; omega
  subst this
  exact .inl ⟨rfl, h2, a, c, rfl⟩
 ·simp only [Value.slice.injEq] at hv
  obtain ⟨rfl, -, -⟩ := hv
  exact .inr ⟨b, off, c, l, T, fr, rfl, hb, by rw [← h1, Nat.mul_one], by rw [Nat.mul_one] at h2; exact h2, hc⟩
abbrev Reads (enc : TypeId × Value → H) (P : Program) (W : World) (fuel : Nat) (t : TypeId) (cs : List Value) (x : DataW H × List MemPlace) : Prop := DataW.trod enc P W 0 (fun _ => true) true fuel t cs = some x
theorem dec_int {t : TypeId} {fuel : Nat} {cs : List Value} {x : DataW H × List MemPlace} (ht : P.underlying t = some (.int .i64)) (h : Reads enc P W fuel t cs x) : ∃ n : Int, cs = [vint n] ∧ -9223372036854775808 ≤ n ∧ n ≤ 9223372036854775807 := by
 obtain ⟨n, rfl, -, hwf⟩ := DataW.trod_int ht h
 exact ⟨n, rfl, bounds_i64 hwf⟩
theorem dec_bool {t : TypeId} {fuel : Nat} {cs : List Value} {x : DataW H × List MemPlace} (ht : P.underlying t = some .bool) (h : Reads enc P W fuel t cs x) : ∃ b : Bool, cs = [.bool b] := by
 obtain ⟨b, rfl, -⟩ := DataW.trod_bool ht h
 exact ⟨b, rfl⟩
end
open Go Go.ChangeShapes Go.WideShapes Go.ChangeAt Go.RowKit
theorem bulk_pos {H : Type} (d : DataW H) : 1 ≤ Rows.uptoBulk d := by
 cases d with
 | lit l => cases l <;> simp [Rows.uptoBulk]
 | _ => simp [Rows.uptoBulk]
theorem bulk_part {H : Type} {d : DataW H} : ∀ {l : List (DataW H)}, d ∈ l → Rows.uptoBulk d ≤ Rows.uptoBulkAll l
 | x :: l, h => by
  unfold Rows.uptoBulkAll
  rcases List.mem_cons.1 h with rfl | h
  ·omega
  ·have := bulk_part h; omega
theorem bulk_count {H : Type} : ∀ l : List (DataW H), l.length ≤ Rows.uptoBulkAll l
 | [] => by simp
 | x :: l => by
  have h1 := bulk_pos x
  have h2 := bulk_count l
  unfold Rows.uptoBulkAll
  rw [List.length_cons]; omega
theorem bulk_sum {H : Type} : ∀ l : List (DataW H), (l.map Rows.uptoBulk).sum ≤ Rows.uptoBulkAll l
 | [] => by simp
 | x :: l => by
  have h2 := bulk_sum l
  unfold Rows.uptoBulkAll
  rw [List.map_cons, List.sum_cons]; omega
theorem bulk_small {H : Type} {l : List (DataW H)} (h : Rows.uptoSmall H l = true) {d : DataW H} (hd : d ∈ l) : Rows.uptoBulk d ≤ 1048576 :=
 Nat.le_trans (bulk_part hd) (of_decide_eq_true h)
instance : Inhabited Value := ⟨.bool false⟩
section
variable {H : Type} {enc : TypeId × Value → H} {P : Program} {W : World} {N : Nat}
theorem dec_int' {t : TypeId} {fuel : Nat} {cs : List Value} {x : DataW H × List MemPlace} (ht : P.underlying t = some (.int .i64)) (h : Reads enc P W fuel t cs x) : ∃ n : Int, cs = [vint n] ∧ (-9223372036854775808 ≤ n ∧ n ≤ 9223372036854775807) := by
 obtain ⟨n, h1, h2⟩ := dec_int ht h; exact ⟨n, h1, h2⟩
theorem slice_cell {t e : TypeId} {fuel : Nat} {v : Value} {x : DataW H × List MemPlace} (ht : P.underlying t = some (.slice e)) (h : Reads enc P W fuel t [v] x) : isCell v = true := by
 rcases Go.Deep.open_slice ht h with ⟨hv, -⟩ | ⟨a, len, cap, m, n, Dd, Pl, hv, -⟩
 ·rw [List.cons.injEq] at hv; rw [hv.1]; rfl
 ·rw [List.cons.injEq] at hv; rw [hv.1]; rfl
theorem dec_sliceV {Z : Type} [Inhabited Z] (toC : Z → List Value) (Q : Z → Prop) {t e : TypeId} {sz : Nat} {fuel : Nat} {cs : List Value} {x : DataW H × List MemPlace} (ht : P.underlying t = some (.slice e)) (hc : P.cellsOf e = sz) (hs : 0 < sz)
  (hdec : ∀ (n : Nat) (cs : List Value) (y : DataW H × List MemPlace), Reads enc P W n e cs y → Rows.uptoBulk y.1 ≤ N → ∃ z, cs = toC z ∧ Q z) (h : Reads enc P W fuel t cs x) (hb : Rows.uptoBulk x.1 ≤ N + 1) :
  ∃ z : Value × List Z, cs = [z.1] ∧ (∀ h : Hp, Old W h → rdS sz h z.1 z.2.length (z.2.flatMap toC)) ∧ z.2.length ≤ N ∧ ∀ y ∈ z.2, Q y := by
 subst hc
 rcases Go.Deep.open_slice ht h with ⟨rfl, rfl⟩ | ⟨a, len, cap, m, n, Dd, Pl, rfl, -, hl, hm, hmm, rfl, hx⟩
 ·exact ⟨(_, []), rfl, fun h _ => .inl ⟨rfl, rfl, none, 0, rfl⟩, by simp, by simp⟩
 ·simp only [if_true] at hmm
  subst hmm
  have hbl : len ≤ N := by
   have := bulk_count ((List.range len).map Dd)
   simp only [Rows.uptoBulk] at hb
   rw [List.length_map, List.length_range] at this
   omega
  have hbe : ∀ i, i < len → Rows.uptoBulk (Dd i) ≤ N := fun i hi => by
   have := bulk_part (d := Dd i) (l := (List.range len).map Dd) (List.mem_map_of_mem (by simpa using hi))
   simp only [Rows.uptoBulk] at hb
   omega
  obtain ⟨Zf, hZ⟩ := Go.Deep.choose_lt (α := Z) (p := fun i z => W.cells? 0 (a.add (i * P.cellsOf e)) (P.cellsOf e) = some (toC z) ∧ Q z) (n := len) (fun i hi => by
   obtain ⟨cs', h1, h2⟩ := hx i (by omega)
   obtain ⟨z, rfl, h3⟩ := hdec _ _ _ h2 (hbe i hi)
   exact ⟨z, h1, h3⟩)
  have hlenf : ∀ i, i < len → (toC (Zf i)).length = P.cellsOf e := fun i hi => (World.cells?_some (hZ i hi).1).2.1
  have hflat := flat_at (fun i => toC (Zf i)) len hlenf
  refine ⟨(_, (List.range len).map Zf), rfl, ?_, ?_, ?_⟩
  ·intro h hold
   dsimp only
   rw [List.length_map, List.length_range]
   refine rdS_regroup (c1 := len * P.cellsOf e) ?_ hl hs
   have e1 : ((List.range len).map Zf).flatMap toC = (List.range (len * P.cellsOf e)).map (fun j => ((List.range len).flatMap fun i => toC (Zf i)).getD j (.bool false)) := by
    rw [List.flatMap_map]
    apply List.ext_getElem?
    intro j
    rcases Nat.lt_or_ge j (len * P.cellsOf e) with hj | hj
    ·rw [List.getElem?_map, List.getElem?_range hj]
     have := (hflat j hj).2
     have hjl : j < ((List.range len).flatMap fun i => toC (Zf i)).length := by omega
     simp only [Option.map_some, List.getD_eq_getElem?_getD, List.getElem?_eq_getElem hjl, Option.getD_some]
    ·have : ((List.range len).flatMap fun i => toC (Zf i)).length = len * P.cellsOf e := by
      rcases Nat.eq_zero_or_pos (len * P.cellsOf e) with h0 | h0
      ·have : len = 0 := by
        rcases Nat.eq_zero_or_pos len with h1 | h1
        ·exact h1
        ·have := Nat.mul_pos h1 hs; omega
       subst this; simp
      ·exact (hflat 0 h0).2
     rw [List.getElem?_eq_none (by omega), List.getElem?_eq_none (by simpa using hj)]
   rw [e1]
   refine old_rd (W := W) (fun j hj => ?_) (Nat.le_refl _) h hold
   have hi : j / P.cellsOf e < len := Nat.div_lt_of_lt_mul (by rw [Nat.mul_comm]; exact hj)
   have hcell := (World.cells?_some (hZ (j / P.cellsOf e) hi).1).2.2 (j % P.cellsOf e) (Nat.mod_lt _ hs)
   rw [Addr.add_add, Nat.mul_comm, Nat.div_add_mod] at hcell
   rw [hcell]
   obtain ⟨f1, f2⟩ := hflat j hj
   rw [List.getD_eq_getElem?_getD, f1]
   have : j % P.cellsOf e < (toC (Zf (j / P.cellsOf e))).length := by rw [hlenf _ hi]; exact Nat.mod_lt _ hs
   simp [this]
  ·dsimp only; rw [List.length_map, List.length_range]; exact hbl
  ·intro z hz
   obtain ⟨i, hi, rfl⟩ := List.mem_map.1 hz
   exact (hZ i (by simpa using hi)).2
theorem dec_sliceQV {Z : Type} [Inhabited Z] (toC : Z → List Value) (Q : Nat → Z → Prop) {t e : TypeId} {sz : Nat} {fuel : Nat} {cs : List Value} {x : DataW H × List MemPlace} (ht : P.underlying t = some (.slice e)) (hc : P.cellsOf e = sz) (hs : 0 < sz)
  (hdec : ∀ (n : Nat) (cs : List Value) (y : DataW H × List MemPlace), Reads enc P W n e cs y → ∃ z, cs = toC z ∧ Q (Rows.uptoBulk y.1) z) (h : Reads enc P W fuel t cs x) (hb : Rows.uptoBulk x.1 ≤ N + 1) :
  ∃ (z : Value × List Z) (ws : List Nat), cs = [z.1] ∧ (∀ h : Hp, Old W h → rdS sz h z.1 z.2.length (z.2.flatMap toC)) ∧ z.2.length ≤ N ∧ ws.length = z.2.length ∧ ws.sum ≤ N ∧ (∀ w ∈ ws, 1 ≤ w) ∧ ∀ i (h1 : i < z.2.length) (h2 : i < ws.length), Q ws[i] z.2[i] := by
 subst hc
 rcases Go.Deep.open_slice ht h with ⟨rfl, rfl⟩ | ⟨a, len, cap, m, n, Dd, Pl, rfl, -, hl, hm, hmm, rfl, hx⟩
 ·exact ⟨(_, []), [], rfl, fun h _ => .inl ⟨rfl, rfl, none, 0, rfl⟩, by simp, rfl, by simp, (fun _ h => by cases h), (fun i h1 _ => by simp at h1)⟩
 ·simp only [if_true] at hmm
  subst hmm
  have hbl : len ≤ N := by
   have := bulk_count ((List.range len).map Dd)
   simp only [Rows.uptoBulk] at hb
   rw [List.length_map, List.length_range] at this
   omega
  have hall : ((List.range len).map fun i => Rows.uptoBulk (Dd i)).sum ≤ N := by
   have := bulk_sum ((List.range len).map Dd)
   rw [List.map_map] at this
   simp only [Rows.uptoBulk] at hb
   have e : ((List.range len).map fun i => Rows.uptoBulk (Dd i)) = (List.range len).map (Rows.uptoBulk ∘ Dd) := rfl
   rw [e]; omega
  obtain ⟨Zf, hZ⟩ := Go.Deep.choose_lt (α := Z) (p := fun i z => W.cells? 0 (a.add (i * P.cellsOf e)) (P.cellsOf e) = some (toC z) ∧ Q (Rows.uptoBulk (Dd i)) z) (n := len) (fun i hi => by
   obtain ⟨cs', h1, h2⟩ := hx i (by omega)
   obtain ⟨z, rfl, h3⟩ := hdec _ _ _ h2
   exact ⟨z, h1, h3⟩)
  have hlenf : ∀ i, i < len → (toC (Zf i)).length = P.cellsOf e := fun i hi => (World.cells?_some (hZ i hi).1).2.1
  have hflat := flat_at (fun i => toC (Zf i)) len hlenf
  refine ⟨(_, (List.range len).map Zf), (List.range len).map fun i => Rows.uptoBulk (Dd i), rfl, ?_, ?_, by simp, hall, ?_, ?_⟩
  ·intro h hold
   dsimp only
   rw [List.length_map, List.length_range]
   refine rdS_regroup (c1 := len * P.cellsOf e) ?_ hl hs
   have e1 : ((List.range len).map Zf).flatMap toC = (List.range (len * P.cellsOf e)).map (fun j => ((List.range len).flatMap fun i => toC (Zf i)).getD j (.bool false)) := by
    rw [List.flatMap_map]
    apply List.ext_getElem?
    intro j
    rcases Nat.lt_or_ge j (len * P.cellsOf e) with hj | hj
    ·rw [List.getElem?_map, List.getElem?_range hj]
     have := (hflat j hj).2
     have hjl : j < ((List.range len).flatMap fun i => toC (Zf i)).length := by omega
     simp only [Option.map_some, List.getD_eq_getElem?_getD, List.getElem?_eq_getElem hjl, Option.getD_some]
    ·have : ((List.range len).flatMap fun i => toC (Zf i)).length = len * P.cellsOf e := by
      rcases Nat.eq_zero_or_pos (len * P.cellsOf e) with h0 | h0
      ·have : len = 0 := by
        rcases Nat.eq_zero_or_pos len with h1 | h1
        ·exact h1
        ·have := Nat.mul_pos h1 hs; omega
       subst this; simp
      ·exact (hflat 0 h0).2
     rw [List.getElem?_eq_none (by omega), List.getElem?_eq_none (by simpa using hj)]
   rw [e1]
   refine old_rd (W := W) (fun j hj => ?_) (Nat.le_refl _) h hold
   have hi : j / P.cellsOf e < len := Nat.div_lt_of_lt_mul (by rw [Nat.mul_comm]; exact hj)
   have hcell := (World.cells?_some (hZ (j / P.cellsOf e) hi).1).2.2 (j % P.cellsOf e) (Nat.mod_lt _ hs)
   rw [Addr.add_add, Nat.mul_comm, Nat.div_add_mod] at hcell
   rw [hcell]
   obtain ⟨f1, f2⟩ := hflat j hj
   rw [List.getD_eq_getElem?_getD, f1]
   have : j % P.cellsOf e < (toC (Zf (j / P.cellsOf e))).length := by rw [hlenf _ hi]; exact Nat.mod_lt _ hs
   simp [this]
  ·dsimp only; rw [List.length_map, List.length_range]; exact hbl
  ·intro w hw
   obtain ⟨i, -, rfl⟩ := List.mem_map.1 hw
   exact bulk_pos _
  ·intro i h1 h2
   simp only [List.getElem_map, List.getElem_range]
   exact (hZ i (by simpa using h1)).2
/-! ### With weights: what is read weighs no more than its bulk -/
theorem dec_strW {t : TypeId} {fuel : Nat} {cs : List Value} {x : DataW H × List MemPlace} (ht : P.underlying t = some .string) (h : Reads enc P W fuel t cs x) : ∃ s : List UInt8, cs = [vstr s] ∧ s.length + 1 ≤ Rows.uptoBulk x.1 := by
 obtain ⟨s, rfl, rfl, -⟩ := DataW.trod_string ht h
 exact ⟨s.data.toList, by rw [string_vstr], by simp [Rows.uptoBulk]⟩
theorem dec_intW {t : TypeId} {fuel : Nat} {cs : List Value} {x : DataW H × List MemPlace} (ht : P.underlying t = some (.int .i64)) (h : Reads enc P W fuel t cs x) : ∃ n : Int, cs = [vint n] ∧ (-9223372036854775808 ≤ n ∧ n ≤ 9223372036854775807) ∧ 1 ≤ Rows.uptoBulk x.1 := by
 obtain ⟨n, h1, h2⟩ := dec_int' ht h; exact ⟨n, h1, h2, bulk_pos _⟩
theorem slice_shape {t e : TypeId} {fuel : Nat} {v : Value} {x : DataW H × List MemPlace} (ht : P.underlying t = some (.slice e)) (h : Reads enc P W fuel t [v] x) : ∃ a n c, v = .slice a n c := by
 rcases Go.Deep.open_slice ht h with ⟨hv, -⟩ | ⟨a, len, cap, m, n, Dd, Pl, hv, -⟩
 ·rw [List.cons.injEq] at hv; rw [hv.1]; exact ⟨_, _, _, rfl⟩
 ·rw [List.cons.injEq] at hv; rw [hv.1]; exact ⟨_, _, _, rfl⟩
theorem sum_le {Z : Type} {m : Z → Nat} : ∀ {l : List Z} {ws : List Nat}, ws.length = l.length → (∀ i (h1 : i < l.length) (h2 : i < ws.length), m l[i] ≤ ws[i]) → (l.map m).sum ≤ ws.sum
 | [], _, _, _ => by simp
 | z :: l, [], h, _ => by simp at h
 | z :: l, w :: ws, h, hq => by
  have h0 := hq 0 (by simp) (by simp)
  have h1 := sum_le (l := l) (ws := ws) (m := m) (by simpa using h) (fun i h1 h2 => hq (i + 1) (by simpa using h1) (by simpa using h2))
  rw [List.map_cons, List.sum_cons, List.sum_cons]
  have h0' : m z ≤ w := h0
  omega
theorem dec_sliceW {Z : Type} [Inhabited Z] (toC : Z → List Value) (Q : Z → Prop) (m : Z → Nat) {t e : TypeId} {sz : Nat} {fuel : Nat} {cs : List Value} {x : DataW H × List MemPlace} (ht : P.underlying t = some (.slice e)) (hc : P.cellsOf e = sz) (hs : 0 < sz)
  (hdec : ∀ (n : Nat) (cs : List Value) (y : DataW H × List MemPlace), Reads enc P W n e cs y → ∃ z, cs = toC z ∧ Q z ∧ m z ≤ Rows.uptoBulk y.1) (h : Reads enc P W fuel t cs x) :
  ∃ z : Value × List Z, cs = [z.1] ∧ (∀ h : Hp, Old W h → rdS sz h z.1 z.2.length (z.2.flatMap toC)) ∧ (∀ y ∈ z.2, Q y) ∧ z.2.length + 1 ≤ Rows.uptoBulk x.1 ∧ 1 + (z.2.map m).sum ≤ Rows.uptoBulk x.1 := by
 have hp := bulk_pos x.1
 obtain ⟨z, ws, h1, h2, h3, h4, h5, -, h7⟩ := dec_sliceQV (N := Rows.uptoBulk x.1 - 1) toC (fun B z => Q z ∧ m z ≤ B) ht hc hs hdec h (by omega)
 refine ⟨z, h1, h2, fun y hy => ?_, by omega, ?_⟩
 ·obtain ⟨i, hi, rfl⟩ := List.mem_iff_getElem.1 hy
  exact (h7 i hi (by omega)).1
 ·have := sum_le (m := m) h4 (fun i g1 g2 => (h7 i g1 g2).2)
  omega
theorem rd_shape {sz n : Nat} {v : Value} {ys : List Value} (hr : ∀ h : Hp, Old W h → rdS sz h v n ys) : ∃ a c, v = .slice a n c := by
 have h := hr (fun b => if b < W.heap.size then W.heap[b]? else none) (fun b hb => if_pos hb)
 rcases h with ⟨rfl, -, a, c, rfl⟩ | ⟨b, off, cap, l, T, fr, rfl, -⟩
 ·exact ⟨_, _, rfl⟩
 ·exact ⟨_, _, rfl⟩
end
open Go Go.ChangeShapes Go.WideShapes Go.ChangeAt Go.RowKit
def mAc (a : Ac) : Nat := 3 + a.2.length
theorem sum_mem {α : Type} {m : α → Nat} : ∀ {l : List α} {x : α}, x ∈ l → m x ≤ (l.map m).sum
 | y :: l, x, h => by
  rw [List.map_cons, List.sum_cons]
  rcases List.mem_cons.1 h with rfl | h
  ·omega
  ·have := sum_mem (m := m) h; omega
theorem sum_three {α : Type} {m : α → Nat} (hm : ∀ x, 3 ≤ m x) : ∀ l : List α, 3 * l.length ≤ (l.map m).sum
 | [] => by simp
 | y :: l => by have := sum_three hm l; have := hm y; rw [List.map_cons, List.sum_cons, List.length_cons]; omega
theorem fm_weigh {α : Type} {f : α → Bs} {m : α → Nat} : ∀ {l : List α}, (∀ x ∈ l, (f x).length ≤ 20 * m x) → (l.flatMap f).length ≤ 20 * (l.map m).sum
 | [], _ => by simp
 | y :: l, h => by
  have h1 := h y (List.mem_cons_self ..)
  have h2 := fm_weigh (l := l) (m := m) (f := f) (fun x hx => h x (List.mem_cons_of_mem _ hx))
  rw [List.flatMap_cons, List.length_append, List.map_cons, List.sum_cons]; omega
theorem aclW_of {l : List Ac} (h : ∀ a ∈ l, I64 a.1) (hm : (l.map mAc).sum ≤ 1048576) : AclW l := by
 have hl := sum_three (m := mAc) (fun a => by unfold mAc; omega) l
 have hu : U64 = 18446744073709551616 := rfl
 have hi : ∀ a ∈ l, a.2.length ≤ 1048576 := fun a ha => by
  have h1 := sum_mem (m := mAc) ha
  have h2 : mAc a = 3 + a.2.length := rfl
  omega
 refine ⟨by omega, ?_, fun a ha => ⟨⟨h a ha, by have := hi a ha; omega⟩, hi a ha⟩⟩
 have h3 := fm_weigh (f := acB) (m := mAc) (l := l) (fun a ha => by
  have h1 := numB_len8 (h a ha)
  have h2 := sev_len10 (u := a.2.length) (by have := hi a ha; omega)
  unfold acB txtB cntB mAc
  rw [List.length_append, List.length_append]; omega)
 have h4 := sev_len10 (u := l.length) (by omega)
 unfold aclB cntB
 rw [List.length_append]; omega
def mPt (y : Pt) : Nat := 9 + y.path.length + y.data.length + (y.acl.map mAc).sum
def mEn (e : En) : Nat := mPt e.x + (e.subs.map mPt).sum
structure PtG (p : HP) (y : Pt) : Prop where
 own : I64 y.own
 num : I64 y.num
 acl : ∀ h : Hp, p h → rdS 2 h y.aclV y.acl.length (y.acl.flatMap acC)
 ac : isCell y.aclV = true
 sc : isCell y.subsV = true
 each : ∀ a ∈ y.acl, I64 a.1
structure EnG (p : HP) (e : En) : Prop where
 zx : I64 e.zx
 x : PtG p e.x
 subs : ∀ h : Hp, p h → rdS 8 h e.x.subsV e.subs.length (e.subs.flatMap ptC)
 each : ∀ y ∈ e.subs, PtG p y
theorem PtG.A {p : HP} {y : Pt} (h : PtG p y) (hm : mPt y ≤ 1048576) : PtA p y := by
 unfold mPt at hm
 exact ⟨h.acl, (aclW_of h.each (by omega)).few, by omega, h.sc, h.ac⟩
theorem PtG.N {p : HP} {y : Pt} (h : PtG p y) (hm : mPt y ≤ 1048576) : PtN y := by
 unfold mPt at hm
 exact ⟨h.own, h.num, by omega, aclW_of h.each (by omega)⟩
theorem subs_few (l : List Pt) : 3 * l.length ≤ (l.map mPt).sum := sum_three (fun y => by unfold mPt; omega) l
theorem EnG.T {p : HP} {e : En} (h : EnG p e) (hm : mEn e ≤ 1048576) : TxA p e.x e.subs := by
 unfold mEn at hm
 have := subs_few e.subs
 exact ⟨h.x.A (by omega), h.subs, by omega, fun y hy => (h.each y hy).A (by have := sum_mem (m := mPt) hy; omega)⟩
theorem EnG.N {p : HP} {e : En} (h : EnG p e) (hm : mEn e ≤ 1048576) : EnN e := by
 unfold mEn at hm
 exact ⟨h.zx, h.x.N (by omega), fun y hy => (h.each y hy).N (by have := sum_mem (m := mPt) hy; omega)⟩
instance : Inhabited Pt := ⟨ptS 0 [] [] 0⟩
instance : Inhabited En := ⟨⟨0, 0, 0, ptS 0 [] [] 0, []⟩⟩
instance : Inhabited Rq := ⟨⟨0, 0, [], [], nilV, [], 0, 0, false, nilV, nilV⟩⟩
theorem wtL_le : ∀ l : List En, wtL l ≤ (l.map mEn).sum
 | [] => by simp [wtL]
 | e :: l => by
  have h1 := wtL_le l
  have h2 := subs_few e.subs
  have h3 : mEn e = mPt e.x + (e.subs.map mPt).sum := rfl
  have h4 : 9 ≤ mPt e.x := by unfold mPt; omega
  unfold wtL at h1 ⊢
  rw [List.map_cons, List.sum_cons, List.map_cons, List.sum_cons]
  omega
def mRq (r : Rq) : Nat := 10 + r.path.length + r.data.length + (r.acl.map mAc).sum
structure RqG (p : HP) (r : Rq) : Prop where
 kind : I64 r.kind
 xid : I64 r.xid
 flags : I64 r.flags
 ver : I64 r.ver
 acl : ∀ h : Hp, p h → rdS 2 h r.aclV r.acl.length (r.acl.flatMap acC)
 ash : ∃ a n c, r.aclV = .slice a n c
 each : ∀ a ∈ r.acl, I64 a.1
 sub : ∃ a n c, r.subsV = .slice a n c
 arm : ∃ a n c, r.armV = .slice a n c
structure RqD (p : HP) (r : Rq) (l : List Rq) : Prop where
 own : RqG p r ∧ mRq r ≤ 1048576
 rd : ∀ h : Hp, p h → rdS 10 h r.subsV l.length (l.flatMap rqC)
 each : ∀ x ∈ l, RqG p x ∧ mRq x ≤ 1048576
def Ids (p : HP) (v : Value) (l : List Bs) : Prop := (∀ h : Hp, p h → rdS 1 h v l.length (strs l)) ∧ l.length ≤ 1048576 ∧ ∃ a n c, v = .slice a n c
theorem RqG.w {p : HP} {r : Rq} (h : RqG p r) (hm : mRq r ≤ 1048576) {s : Int} {iv : Value} {ids : List Bs} (hs : I64 s) (hi : Ids p iv ids) (hT : TabP p) : WiA p ⟨s, ids⟩ iv r := by
 unfold mRq at hm
 have h3 := sum_three (m := mAc) (fun a => by unfold mAc; omega) r.acl
 refine ⟨⟨h.kind, h.xid, h.flags, h.ver, by omega, by omega, h.acl, by omega, fun a ha => ⟨h.each a ha, ?_⟩, h.sub, h.arm⟩, hs, hi.1, hi.2.1, hi.2.2, h.ash, hT⟩
 have h1 := sum_mem (m := mAc) ha
 have h2 : mAc a = 3 + a.2.length := rfl
 omega
theorem RqD.wi {p : HP} {r : Rq} {l : List Rq} (h : RqD p r l) {s : Int} {iv : Value} {ids : List Bs} (hs : I64 s) (hi : Ids p iv ids) (hT : TabP p) : WiD p ⟨s, ids⟩ iv r l := by
 have ha : ∀ x : Rq, RqG p x → mRq x ≤ 1048576 → AclW x.acl := fun x hx hm => aclW_of hx.each (by unfold mRq at hm; omega)
 exact ⟨h.own.1.w h.own.2 hs hi hT, ha _ h.own.1 h.own.2, h.rd, fun x hx => (h.each x hx).1.w (h.each x hx).2 hs hi hT, fun x hx => ha _ (h.each x hx).1 (h.each x hx).2⟩
theorem fm_strs (l : List Bs) : (l.flatMap fun s => [vstr s]) = strs l := by
 induction l with
 | nil => rfl
 | cons z l ih => rw [List.flatMap_cons, ih]; rfl
theorem tab_of {W : World} (h : Lib.TabIs Tryz.prog W "internal/strconv.uint64pow10" .u64 Lib.pow10Tab) {g : Nat} (hg : Tryz.prog.globalNamed "internal/strconv.uint64pow10" = some g) : TabP (Old W) := by
 intro hp w hold hle
 unfold Lib.TabIs World.var? at h ⊢
 rw [hg] at h ⊢
 simp only [Option.bind_some] at h ⊢
 cases e : W.heap[g]? with
 | none => rw [e] at h; cases h
 | some o =>
  have hlt : g < W.heap.size := (Array.getElem?_eq_some_iff.1 e).1
  have h2 : w.heap[g]? = some o := hle g o (by rw [hold g hlt, e])
  rw [h2]
  rw [e] at h
  exact h
theorem decAc {H : Type} {enc : TypeId × Value → H} {W : World} (n : Nat) (cs : List Value) (y : DataW H × List MemPlace) (h : Reads enc Tryz.prog W n 85 cs y) : ∃ a : Ac, cs = acC a ∧ I64 a.1 ∧ mAc a ≤ Rows.uptoBulk y.1 := by
 obtain ⟨xs, m, -, rfl, hlen, hxs, hf⟩ := DataW.trod_struct Tryz.underlying85 h
 rw [show Tryz.prog.cellsOf 85 = 2 by kernel_rfl] at hlen
 obtain ⟨a0, a1, rfl⟩ : ∃ a0 a1, cs = [a0, a1] := by
  match cs, hlen with
  | [a0, a1], _ => exact ⟨a0, a1, rfl⟩
 obtain ⟨y0, y1, rfl⟩ : ∃ y0 y1, xs = [y0, y1] := by
  match xs, hxs with
  | [y0, y1], _ => exact ⟨y0, y1, rfl⟩
 try simp only [Rows.uptoBulk, Rows.uptoBulkAll, List.map_cons, List.map_nil]
 have g0 : Reads enc Tryz.prog W m 3 (([a0, a1] : List Value).drop 0 |>.take (Tryz.prog.cellsOf 3)) y0 := hf 0 _ rfl
 rw [show Tryz.prog.cellsOf 3 = 1 by kernel_rfl] at g0
 have p0 := bulk_pos y0.1
 obtain ⟨z0, e0, q0, r0⟩ := dec_intW Tryz.underlying3 g0
 try simp at e0
 have g1 : Reads enc Tryz.prog W m 9 (([a0, a1] : List Value).drop 1 |>.take (Tryz.prog.cellsOf 9)) y1 := hf 1 _ rfl
 rw [show Tryz.prog.cellsOf 9 = 1 by kernel_rfl] at g1
 have p1 := bulk_pos y1.1
 obtain ⟨z1, e1, r1⟩ := dec_strW Tryz.underlying9 g1
 try simp at e1
 subst e0
 subst e1
 exact ⟨(z0, z1), rfl, q0, by unfold mAc; dsimp only; omega⟩
theorem decPt {H : Type} {enc : TypeId × Value → H} {W : World} (n : Nat) (cs : List Value) (y : DataW H × List MemPlace) (h : Reads enc Tryz.prog W n 43 cs y) : ∃ y0 : Pt, cs = ptC y0 ∧ PtG (Old W) y0 ∧ mPt y0 ≤ Rows.uptoBulk y.1 := by
 obtain ⟨xs, m, -, rfl, hlen, hxs, hf⟩ := DataW.trod_struct Tryz.underlying43 h
 rw [show Tryz.prog.cellsOf 43 = 8 by kernel_rfl] at hlen
 obtain ⟨a0, a1, a2, a3, a4, a5, a6, a7, rfl⟩ : ∃ a0 a1 a2 a3 a4 a5 a6 a7, cs = [a0, a1, a2, a3, a4, a5, a6, a7] := by
  match cs, hlen with
  | [a0, a1, a2, a3, a4, a5, a6, a7], _ => exact ⟨a0, a1, a2, a3, a4, a5, a6, a7, rfl⟩
 obtain ⟨y0, y1, y2, y3, y4, y5, y6, y7, rfl⟩ : ∃ y0 y1 y2 y3 y4 y5 y6 y7, xs = [y0, y1, y2, y3, y4, y5, y6, y7] := by
  match xs, hxs with
  | [y0, y1, y2, y3, y4, y5, y6, y7], _ => exact ⟨y0, y1, y2, y3, y4, y5, y6, y7, rfl⟩
 try simp only [Rows.uptoBulk, Rows.uptoBulkAll, List.map_cons, List.map_nil]
 have g0 : Reads enc Tryz.prog W m 3 (([a0, a1, a2, a3, a4, a5, a6, a7] : List Value).drop 0 |>.take (Tryz.prog.cellsOf 3)) y0 := hf 0 _ rfl
 rw [show Tryz.prog.cellsOf 3 = 1 by kernel_rfl] at g0
 have p0 := bulk_pos y0.1
 obtain ⟨z0, e0, q0, r0⟩ := dec_intW Tryz.underlying3 g0
 try simp at e0
 have g1 : Reads enc Tryz.prog W m 9 (([a0, a1, a2, a3, a4, a5, a6, a7] : List Value).drop 1 |>.take (Tryz.prog.cellsOf 9)) y1 := hf 1 _ rfl
 rw [show Tryz.prog.cellsOf 9 = 1 by kernel_rfl] at g1
 have p1 := bulk_pos y1.1
 obtain ⟨z1, e1, r1⟩ := dec_strW Tryz.underlying9 g1
 try simp at e1
 have g2 : Reads enc Tryz.prog W m 9 (([a0, a1, a2, a3, a4, a5, a6, a7] : List Value).drop 2 |>.take (Tryz.prog.cellsOf 9)) y2 := hf 2 _ rfl
 rw [show Tryz.prog.cellsOf 9 = 1 by kernel_rfl] at g2
 have p2 := bulk_pos y2.1
 obtain ⟨z2, e2, r2⟩ := dec_strW Tryz.underlying9 g2
 try simp at e2
 have g3 : Reads enc Tryz.prog W m 24 (([a0, a1, a2, a3, a4, a5, a6, a7] : List Value).drop 3 |>.take (Tryz.prog.cellsOf 24)) y3 := hf 3 _ rfl
 rw [show Tryz.prog.cellsOf 24 = 1 by kernel_rfl] at g3
 have p3 := bulk_pos y3.1
 obtain ⟨⟨v3, l3⟩, e3, k3, q3, c3, r3⟩ := dec_sliceW acC (fun a => I64 a.1) mAc Tryz.underlying24 (show Tryz.prog.cellsOf 85 = 2 by kernel_rfl) (by decide) (fun n cs y h => decAc n cs y h) g3
 dsimp only at e3 k3 q3 c3 r3
 have ck3 : isCell v3 = true := by obtain ⟨sa, sc, hs⟩ := rd_shape k3; rw [hs]; rfl
 try simp at e3
 have g4 : Reads enc Tryz.prog W m 3 (([a0, a1, a2, a3, a4, a5, a6, a7] : List Value).drop 4 |>.take (Tryz.prog.cellsOf 3)) y4 := hf 4 _ rfl
 rw [show Tryz.prog.cellsOf 3 = 1 by kernel_rfl] at g4
 have p4 := bulk_pos y4.1
 obtain ⟨z4, e4, q4, r4⟩ := dec_intW Tryz.underlying3 g4
 try simp at e4
 have g5 : Reads enc Tryz.prog W m 3 (([a0, a1, a2, a3, a4, a5, a6, a7] : List Value).drop 5 |>.take (Tryz.prog.cellsOf 3)) y5 := hf 5 _ rfl
 rw [show Tryz.prog.cellsOf 3 = 1 by kernel_rfl] at g5
 have p5 := bulk_pos y5.1
 obtain ⟨z5, e5, q5, r5⟩ := dec_intW Tryz.underlying3 g5
 try simp at e5
 have g6 : Reads enc Tryz.prog W m 40 (([a0, a1, a2, a3, a4, a5, a6, a7] : List Value).drop 6 |>.take (Tryz.prog.cellsOf 40)) y6 := hf 6 _ rfl
 rw [show Tryz.prog.cellsOf 40 = 1 by kernel_rfl] at g6
 have p6 := bulk_pos y6.1
 obtain ⟨z6, e6, q6, r6⟩ := dec_intW Tryz.underlying40 g6
 try simp at e6
 have g7 : Reads enc Tryz.prog W m 41 (([a0, a1, a2, a3, a4, a5, a6, a7] : List Value).drop 7 |>.take (Tryz.prog.cellsOf 41)) y7 := hf 7 _ rfl
 rw [show Tryz.prog.cellsOf 41 = 1 by kernel_rfl] at g7
 have p7 := bulk_pos y7.1
 obtain ⟨z7, e7, s7⟩ : ∃ z : Value, a7 = z ∧ isCell z = true := ⟨_, rfl, slice_cell Tryz.underlying41 g7⟩
 try simp at e7
 subst e0
 subst e1
 subst e2
 subst e3
 subst e4
 subst e5
 subst e6
 subst e7
 exact ⟨⟨z0, z1, z2, a3, l3, z4, z5, z6, a7⟩, rfl, ⟨q4, q5, k3, ck3, s7, q3⟩, by unfold mPt; dsimp only; omega⟩
theorem decPtD {H : Type} {enc : TypeId × Value → H} {W : World} (n : Nat) (cs : List Value) (y : DataW H × List MemPlace) (h : Reads enc Tryz.prog W n 43 cs y) : ∃ (y0 : Pt) (l : List Pt), cs = ptC y0 ∧ PtG (Old W) y0 ∧ (∀ h : Hp, Old W h → rdS 8 h y0.subsV l.length (l.flatMap ptC)) ∧ (∀ q ∈ l, PtG (Old W) q) ∧ mPt y0 + (l.map mPt).sum ≤ Rows.uptoBulk y.1 := by
 obtain ⟨xs, m, -, rfl, hlen, hxs, hf⟩ := DataW.trod_struct Tryz.underlying43 h
 rw [show Tryz.prog.cellsOf 43 = 8 by kernel_rfl] at hlen
 obtain ⟨a0, a1, a2, a3, a4, a5, a6, a7, rfl⟩ : ∃ a0 a1 a2 a3 a4 a5 a6 a7, cs = [a0, a1, a2, a3, a4, a5, a6, a7] := by
  match cs, hlen with
  | [a0, a1, a2, a3, a4, a5, a6, a7], _ => exact ⟨a0, a1, a2, a3, a4, a5, a6, a7, rfl⟩
 obtain ⟨y0, y1, y2, y3, y4, y5, y6, y7, rfl⟩ : ∃ y0 y1 y2 y3 y4 y5 y6 y7, xs = [y0, y1, y2, y3, y4, y5, y6, y7] := by
  match xs, hxs with
  | [y0, y1, y2, y3, y4, y5, y6, y7], _ => exact ⟨y0, y1, y2, y3, y4, y5, y6, y7, rfl⟩
 try simp only [Rows.uptoBulk, Rows.uptoBulkAll, List.map_cons, List.map_nil]
 have g0 : Reads enc Tryz.prog W m 3 (([a0, a1, a2, a3, a4, a5, a6, a7] : List Value).drop 0 |>.take (Tryz.prog.cellsOf 3)) y0 := hf 0 _ rfl
 rw [show Tryz.prog.cellsOf 3 = 1 by kernel_rfl] at g0
 have p0 := bulk_pos y0.1
 obtain ⟨z0, e0, q0, r0⟩ := dec_intW Tryz.underlying3 g0
 try simp at e0
 have g1 : Reads enc Tryz.prog W m 9 (([a0, a1, a2, a3, a4, a5, a6, a7] : List Value).drop 1 |>.take (Tryz.prog.cellsOf 9)) y1 := hf 1 _ rfl
 rw [show Tryz.prog.cellsOf 9 = 1 by kernel_rfl] at g1
 have p1 := bulk_pos y1.1
 obtain ⟨z1, e1, r1⟩ := dec_strW Tryz.underlying9 g1
 try simp at e1
 have g2 : Reads enc Tryz.prog W m 9 (([a0, a1, a2, a3, a4, a5, a6, a7] : List Value).drop 2 |>.take (Tryz.prog.cellsOf 9)) y2 := hf 2 _ rfl
 rw [show Tryz.prog.cellsOf 9 = 1 by kernel_rfl] at g2
 have p2 := bulk_pos y2.1
 obtain ⟨z2, e2, r2⟩ := dec_strW Tryz.underlying9 g2
 try simp at e2
 have g3 : Reads enc Tryz.prog W m 24 (([a0, a1, a2, a3, a4, a5, a6, a7] : List Value).drop 3 |>.take (Tryz.prog.cellsOf 24)) y3 := hf 3 _ rfl
 rw [show Tryz.prog.cellsOf 24 = 1 by kernel_rfl] at g3
 have p3 := bulk_pos y3.1
 obtain ⟨⟨v3, l3⟩, e3, k3, q3, c3, r3⟩ := dec_sliceW acC (fun a => I64 a.1) mAc Tryz.underlying24 (show Tryz.prog.cellsOf 85 = 2 by kernel_rfl) (by decide) (fun n cs y h => decAc n cs y h) g3
 dsimp only at e3 k3 q3 c3 r3
 have ck3 : isCell v3 = true := by obtain ⟨sa, sc, hs⟩ := rd_shape k3; rw [hs]; rfl
 try simp at e3
 have g4 : Reads enc Tryz.prog W m 3 (([a0, a1, a2, a3, a4, a5, a6, a7] : List Value).drop 4 |>.take (Tryz.prog.cellsOf 3)) y4 := hf 4 _ rfl
 rw [show Tryz.prog.cellsOf 3 = 1 by kernel_rfl] at g4
 have p4 := bulk_pos y4.1
 obtain ⟨z4, e4, q4, r4⟩ := dec_intW Tryz.underlying3 g4
 try simp at e4
 have g5 : Reads enc Tryz.prog W m 3 (([a0, a1, a2, a3, a4, a5, a6, a7] : List Value).drop 5 |>.take (Tryz.prog.cellsOf 3)) y5 := hf 5 _ rfl
 rw [show Tryz.prog.cellsOf 3 = 1 by kernel_rfl] at g5
 have p5 := bulk_pos y5.1
 obtain ⟨z5, e5, q5, r5⟩ := dec_intW Tryz.underlying3 g5
 try simp at e5
 have g6 : Reads enc Tryz.prog W m 40 (([a0, a1, a2, a3, a4, a5, a6, a7] : List Value).drop 6 |>.take (Tryz.prog.cellsOf 40)) y6 := hf 6 _ rfl
 rw [show Tryz.prog.cellsOf 40 = 1 by kernel_rfl] at g6
 have p6 := bulk_pos y6.1
 obtain ⟨z6, e6, q6, r6⟩ := dec_intW Tryz.underlying40 g6
 try simp at e6
 have g7 : Reads enc Tryz.prog W m 41 (([a0, a1, a2, a3, a4, a5, a6, a7] : List Value).drop 7 |>.take (Tryz.prog.cellsOf 41)) y7 := hf 7 _ rfl
 rw [show Tryz.prog.cellsOf 41 = 1 by kernel_rfl] at g7
 have p7 := bulk_pos y7.1
 obtain ⟨⟨v7, l7⟩, e7, k7, q7, c7, r7⟩ := dec_sliceW ptC (fun q => PtG (Old W) q) mPt Tryz.underlying41 (show Tryz.prog.cellsOf 43 = 8 by kernel_rfl) (by decide) (fun n cs y h => decPt n cs y h) g7
 dsimp only at e7 k7 q7 c7 r7
 have ck7 : isCell v7 = true := by obtain ⟨sa, sc, hs⟩ := rd_shape k7; rw [hs]; rfl
 try simp at e7
 subst e0
 subst e1
 subst e2
 subst e3
 subst e4
 subst e5
 subst e6
 subst e7
 exact ⟨⟨z0, z1, z2, a3, l3, z4, z5, z6, a7⟩, l7, rfl, ⟨q4, q5, k3, ck3, ck7, q3⟩, k7, q7, by unfold mPt; dsimp only; unfold mPt at r7; omega⟩
theorem decEn {H : Type} {enc : TypeId × Value → H} {W : World} (n : Nat) (cs : List Value) (y : DataW H × List MemPlace) (h : Reads enc Tryz.prog W n 54 cs y) : ∃ e : En, cs = enC e ∧ EnG (Old W) e ∧ mEn e ≤ Rows.uptoBulk y.1 := by
 obtain ⟨xs, m, -, rfl, hlen, hxs, hf⟩ := DataW.trod_struct Tryz.underlying54 h
 rw [show Tryz.prog.cellsOf 54 = 11 by kernel_rfl] at hlen
 obtain ⟨a0, a1, a2, a3, a4, a5, a6, a7, a8, a9, a10, rfl⟩ : ∃ a0 a1 a2 a3 a4 a5 a6 a7 a8 a9 a10, cs = [a0, a1, a2, a3, a4, a5, a6, a7, a8, a9, a10] := by
  match cs, hlen with
  | [a0, a1, a2, a3, a4, a5, a6, a7, a8, a9, a10], _ => exact ⟨a0, a1, a2, a3, a4, a5, a6, a7, a8, a9, a10, rfl⟩
 obtain ⟨y0, y1, y2, y3, rfl⟩ : ∃ y0 y1 y2 y3, xs = [y0, y1, y2, y3] := by
  match xs, hxs with
  | [y0, y1, y2, y3], _ => exact ⟨y0, y1, y2, y3, rfl⟩
 try simp only [Rows.uptoBulk, Rows.uptoBulkAll, List.map_cons, List.map_nil]
 have g0 : Reads enc Tryz.prog W m 3 (([a0, a1, a2, a3, a4, a5, a6, a7, a8, a9, a10] : List Value).drop 0 |>.take (Tryz.prog.cellsOf 3)) y0 := hf 0 _ rfl
 rw [show Tryz.prog.cellsOf 3 = 1 by kernel_rfl] at g0
 have p0 := bulk_pos y0.1
 obtain ⟨z0, e0, q0, r0⟩ := dec_intW Tryz.underlying3 g0
 try simp at e0
 have g1 : Reads enc Tryz.prog W m 3 (([a0, a1, a2, a3, a4, a5, a6, a7, a8, a9, a10] : List Value).drop 1 |>.take (Tryz.prog.cellsOf 3)) y1 := hf 1 _ rfl
 rw [show Tryz.prog.cellsOf 3 = 1 by kernel_rfl] at g1
 have p1 := bulk_pos y1.1
 obtain ⟨z1, e1, q1, r1⟩ := dec_intW Tryz.underlying3 g1
 try simp at e1
 have g2 : Reads enc Tryz.prog W m 3 (([a0, a1, a2, a3, a4, a5, a6, a7, a8, a9, a10] : List Value).drop 2 |>.take (Tryz.prog.cellsOf 3)) y2 := hf 2 _ rfl
 rw [show Tryz.prog.cellsOf 3 = 1 by kernel_rfl] at g2
 have p2 := bulk_pos y2.1
 obtain ⟨z2, e2, q2, r2⟩ := dec_intW Tryz.underlying3 g2
 try simp at e2
 have g3 : Reads enc Tryz.prog W m 43 (([a0, a1, a2, a3, a4, a5, a6, a7, a8, a9, a10] : List Value).drop 3 |>.take (Tryz.prog.cellsOf 43)) y3 := hf 3 _ rfl
 rw [show Tryz.prog.cellsOf 43 = 8 by kernel_rfl] at g3
 have p3 := bulk_pos y3.1
 obtain ⟨z3, l3, e3, q3, k3, s3, r3⟩ := decPtD _ _ _ g3
 try simp [ptC, enC] at e3
 subst e0
 subst e1
 subst e2
 obtain ⟨rfl, rfl, rfl, rfl, rfl, rfl, rfl, rfl⟩ := e3
 exact ⟨⟨z0, z1, z2, z3, l3⟩, rfl, ⟨q0, q3, k3, s3⟩, by unfold mEn; dsimp only; omega⟩
theorem decRq {H : Type} {enc : TypeId × Value → H} {W : World} (n : Nat) (cs : List Value) (y : DataW H × List MemPlace) (h : Reads enc Tryz.prog W n 28 cs y) : ∃ r0 : Rq, cs = rqC r0 ∧ RqG (Old W) r0 ∧ mRq r0 ≤ Rows.uptoBulk y.1 := by
 obtain ⟨xs, m, -, rfl, hlen, hxs, hf⟩ := DataW.trod_struct Tryz.underlying28 h
 rw [show Tryz.prog.cellsOf 28 = 10 by kernel_rfl] at hlen
 obtain ⟨a0, a1, a2, a3, a4, a5, a6, a7, a8, a9, rfl⟩ : ∃ a0 a1 a2 a3 a4 a5 a6 a7 a8 a9, cs = [a0, a1, a2, a3, a4, a5, a6, a7, a8, a9] := by
  match cs, hlen with
  | [a0, a1, a2, a3, a4, a5, a6, a7, a8, a9], _ => exact ⟨a0, a1, a2, a3, a4, a5, a6, a7, a8, a9, rfl⟩
 obtain ⟨y0, y1, y2, y3, y4, y5, y6, y7, y8, y9, rfl⟩ : ∃ y0 y1 y2 y3 y4 y5 y6 y7 y8 y9, xs = [y0, y1, y2, y3, y4, y5, y6, y7, y8, y9] := by
  match xs, hxs with
  | [y0, y1, y2, y3, y4, y5, y6, y7, y8, y9], _ => exact ⟨y0, y1, y2, y3, y4, y5, y6, y7, y8, y9, rfl⟩
 try simp only [Rows.uptoBulk, Rows.uptoBulkAll, List.map_cons, List.map_nil]
 have g0 : Reads enc Tryz.prog W m 3 (([a0, a1, a2, a3, a4, a5, a6, a7, a8, a9] : List Value).drop 0 |>.take (Tryz.prog.cellsOf 3)) y0 := hf 0 _ rfl
 rw [show Tryz.prog.cellsOf 3 = 1 by kernel_rfl] at g0
 have p0 := bulk_pos y0.1
 obtain ⟨z0, e0, q0, r0⟩ := dec_intW Tryz.underlying3 g0
 try simp at e0
 have g1 : Reads enc Tryz.prog W m 3 (([a0, a1, a2, a3, a4, a5, a6, a7, a8, a9] : List Value).drop 1 |>.take (Tryz.prog.cellsOf 3)) y1 := hf 1 _ rfl
 rw [show Tryz.prog.cellsOf 3 = 1 by kernel_rfl] at g1
 have p1 := bulk_pos y1.1
 obtain ⟨z1, e1, q1, r1⟩ := dec_intW Tryz.underlying3 g1
 try simp at e1
 have g2 : Reads enc Tryz.prog W m 9 (([a0, a1, a2, a3, a4, a5, a6, a7, a8, a9] : List Value).drop 2 |>.take (Tryz.prog.cellsOf 9)) y2 := hf 2 _ rfl
 rw [show Tryz.prog.cellsOf 9 = 1 by kernel_rfl] at g2
 have p2 := bulk_pos y2.1
 obtain ⟨z2, e2, r2⟩ := dec_strW Tryz.underlying9 g2
 try simp at e2
 have g3 : Reads enc Tryz.prog W m 9 (([a0, a1, a2, a3, a4, a5, a6, a7, a8, a9] : List Value).drop 3 |>.take (Tryz.prog.cellsOf 9)) y3 := hf 3 _ rfl
 rw [show Tryz.prog.cellsOf 9 = 1 by kernel_rfl] at g3
 have p3 := bulk_pos y3.1
 obtain ⟨z3, e3, r3⟩ := dec_strW Tryz.underlying9 g3
 try simp at e3
 have g4 : Reads enc Tryz.prog W m 24 (([a0, a1, a2, a3, a4, a5, a6, a7, a8, a9] : List Value).drop 4 |>.take (Tryz.prog.cellsOf 24)) y4 := hf 4 _ rfl
 rw [show Tryz.prog.cellsOf 24 = 1 by kernel_rfl] at g4
 have p4 := bulk_pos y4.1
 obtain ⟨⟨v4, l4⟩, e4, k4, q4, c4, r4⟩ := dec_sliceW acC (fun a => I64 a.1) mAc Tryz.underlying24 (show Tryz.prog.cellsOf 85 = 2 by kernel_rfl) (by decide) (fun n cs y h => decAc n cs y h) g4
 dsimp only at e4 k4 q4 c4 r4
 have ck4 : isCell v4 = true := by obtain ⟨sa, sc, hs⟩ := rd_shape k4; rw [hs]; rfl
 have sh4 : ∃ a n c, v4 = .slice a n c := by obtain ⟨sa, sc, hs⟩ := rd_shape k4; exact ⟨_, _, _, hs⟩
 try simp at e4
 have g5 : Reads enc Tryz.prog W m 3 (([a0, a1, a2, a3, a4, a5, a6, a7, a8, a9] : List Value).drop 5 |>.take (Tryz.prog.cellsOf 3)) y5 := hf 5 _ rfl
 rw [show Tryz.prog.cellsOf 3 = 1 by kernel_rfl] at g5
 have p5 := bulk_pos y5.1
 obtain ⟨z5, e5, q5, r5⟩ := dec_intW Tryz.underlying3 g5
 try simp at e5
 have g6 : Reads enc Tryz.prog W m 3 (([a0, a1, a2, a3, a4, a5, a6, a7, a8, a9] : List Value).drop 6 |>.take (Tryz.prog.cellsOf 3)) y6 := hf 6 _ rfl
 rw [show Tryz.prog.cellsOf 3 = 1 by kernel_rfl] at g6
 have p6 := bulk_pos y6.1
 obtain ⟨z6, e6, q6, r6⟩ := dec_intW Tryz.underlying3 g6
 try simp at e6
 have g7 : Reads enc Tryz.prog W m 4 (([a0, a1, a2, a3, a4, a5, a6, a7, a8, a9] : List Value).drop 7 |>.take (Tryz.prog.cellsOf 4)) y7 := hf 7 _ rfl
 rw [show Tryz.prog.cellsOf 4 = 1 by kernel_rfl] at g7
 have p7 := bulk_pos y7.1
 obtain ⟨z7, e7⟩ := dec_bool Tryz.underlying4 g7
 try simp at e7
 have g8 : Reads enc Tryz.prog W m 25 (([a0, a1, a2, a3, a4, a5, a6, a7, a8, a9] : List Value).drop 8 |>.take (Tryz.prog.cellsOf 25)) y8 := hf 8 _ rfl
 rw [show Tryz.prog.cellsOf 25 = 1 by kernel_rfl] at g8
 have p8 := bulk_pos y8.1
 obtain ⟨z8, e8, s8⟩ : ∃ z : Value, a8 = z ∧ ∃ a n c, z = .slice a n c := ⟨_, rfl, slice_shape Tryz.underlying25 g8⟩
 have ck8 : isCell z8 = true := by obtain ⟨sa, sn, sc, hs⟩ := s8; rw [hs]; rfl
 try simp at e8
 have g9 : Reads enc Tryz.prog W m 26 (([a0, a1, a2, a3, a4, a5, a6, a7, a8, a9] : List Value).drop 9 |>.take (Tryz.prog.cellsOf 26)) y9 := hf 9 _ rfl
 rw [show Tryz.prog.cellsOf 26 = 1 by kernel_rfl] at g9
 have p9 := bulk_pos y9.1
 obtain ⟨z9, e9, s9⟩ : ∃ z : Value, a9 = z ∧ ∃ a n c, z = .slice a n c := ⟨_, rfl, slice_shape Tryz.underlying26 g9⟩
 have ck9 : isCell z9 = true := by obtain ⟨sa, sn, sc, hs⟩ := s9; rw [hs]; rfl
 try simp at e9
 subst e0
 subst e1
 subst e2
 subst e3
 subst e4
 subst e5
 subst e6
 subst e7
 subst e8
 subst e9
 exact ⟨⟨z0, z1, z2, z3, a4, l4, z5, z6, z7, a8, a9⟩, rfl, ⟨q0, q1, q5, q6, k4, sh4, q4, s8, s9⟩, by unfold mRq; dsimp only; omega⟩
theorem decRqD {H : Type} {enc : TypeId × Value → H} {W : World} (n : Nat) (cs : List Value) (y : DataW H × List MemPlace) (h : Reads enc Tryz.prog W n 28 cs y) : ∃ (r0 : Rq) (l : List Rq), cs = rqC r0 ∧ (Rows.uptoBulk y.1 ≤ 1048576 → RqD (Old W) r0 l) := by
 obtain ⟨xs, m, -, rfl, hlen, hxs, hf⟩ := DataW.trod_struct Tryz.underlying28 h
 rw [show Tryz.prog.cellsOf 28 = 10 by kernel_rfl] at hlen
 obtain ⟨a0, a1, a2, a3, a4, a5, a6, a7, a8, a9, rfl⟩ : ∃ a0 a1 a2 a3 a4 a5 a6 a7 a8 a9, cs = [a0, a1, a2, a3, a4, a5, a6, a7, a8, a9] := by
  match cs, hlen with
  | [a0, a1, a2, a3, a4, a5, a6, a7, a8, a9], _ => exact ⟨a0, a1, a2, a3, a4, a5, a6, a7, a8, a9, rfl⟩
 obtain ⟨y0, y1, y2, y3, y4, y5, y6, y7, y8, y9, rfl⟩ : ∃ y0 y1 y2 y3 y4 y5 y6 y7 y8 y9, xs = [y0, y1, y2, y3, y4, y5, y6, y7, y8, y9] := by
  match xs, hxs with
  | [y0, y1, y2, y3, y4, y5, y6, y7, y8, y9], _ => exact ⟨y0, y1, y2, y3, y4, y5, y6, y7, y8, y9, rfl⟩
 try simp only [Rows.uptoBulk, Rows.uptoBulkAll, List.map_cons, List.map_nil]
 have g0 : Reads enc Tryz.prog W m 3 (([a0, a1, a2, a3, a4, a5, a6, a7, a8, a9] : List Value).drop 0 |>.take (Tryz.prog.cellsOf 3)) y0 := hf 0 _ rfl
 rw [show Tryz.prog.cellsOf 3 = 1 by kernel_rfl] at g0
 have p0 := bulk_pos y0.1
 obtain ⟨z0, e0, q0, r0⟩ := dec_intW Tryz.underlying3 g0
 try simp at e0
 have g1 : Reads enc Tryz.prog W m 3 (([a0, a1, a2, a3, a4, a5, a6, a7, a8, a9] : List Value).drop 1 |>.take (Tryz.prog.cellsOf 3)) y1 := hf 1 _ rfl
 rw [show Tryz.prog.cellsOf 3 = 1 by kernel_rfl] at g1
 have p1 := bulk_pos y1.1
 obtain ⟨z1, e1, q1, r1⟩ := dec_intW Tryz.underlying3 g1
 try simp at e1
 have g2 : Reads enc Tryz.prog W m 9 (([a0, a1, a2, a3, a4, a5, a6, a7, a8, a9] : List Value).drop 2 |>.take (Tryz.prog.cellsOf 9)) y2 := hf 2 _ rfl
 rw [show Tryz.prog.cellsOf 9 = 1 by kernel_rfl] at g2
 have p2 := bulk_pos y2.1
 obtain ⟨z2, e2, r2⟩ := dec_strW Tryz.underlying9 g2
 try simp at e2
 have g3 : Reads enc Tryz.prog W m 9 (([a0, a1, a2, a3, a4, a5, a6, a7, a8, a9] : List Value).drop 3 |>.take (Tryz.prog.cellsOf 9)) y3 := hf 3 _ rfl
 rw [show Tryz.prog.cellsOf 9 = 1 by kernel_rfl] at g3
 have p3 := bulk_pos y3.1
 obtain ⟨z3, e3, r3⟩ := dec_strW Tryz.underlying9 g3
 try simp at e3
 have g4 : Reads enc Tryz.prog W m 24 (([a0, a1, a2, a3, a4, a5, a6, a7, a8, a9] : List Value).drop 4 |>.take (Tryz.prog.cellsOf 24)) y4 := hf 4 _ rfl
 rw [show Tryz.prog.cellsOf 24 = 1 by kernel_rfl] at g4
 have p4 := bulk_pos y4.1
 obtain ⟨⟨v4, l4⟩, e4, k4, q4, c4, r4⟩ := dec_sliceW acC (fun a => I64 a.1) mAc Tryz.underlying24 (show Tryz.prog.cellsOf 85 = 2 by kernel_rfl) (by decide) (fun n cs y h => decAc n cs y h) g4
 dsimp only at e4 k4 q4 c4 r4
 have ck4 : isCell v4 = true := by obtain ⟨sa, sc, hs⟩ := rd_shape k4; rw [hs]; rfl
 have sh4 : ∃ a n c, v4 = .slice a n c := by obtain ⟨sa, sc, hs⟩ := rd_shape k4; exact ⟨_, _, _, hs⟩
 try simp at e4
 have g5 : Reads enc Tryz.prog W m 3 (([a0, a1, a2, a3, a4, a5, a6, a7, a8, a9] : List Value).drop 5 |>.take (Tryz.prog.cellsOf 3)) y5 := hf 5 _ rfl
 rw [show Tryz.prog.cellsOf 3 = 1 by kernel_rfl] at g5
 have p5 := bulk_pos y5.1
 obtain ⟨z5, e5, q5, r5⟩ := dec_intW Tryz.underlying3 g5
 try simp at e5
 have g6 : Reads enc Tryz.prog W m 3 (([a0, a1, a2, a3, a4, a5, a6, a7, a8, a9] : List Value).drop 6 |>.take (Tryz.prog.cellsOf 3)) y6 := hf 6 _ rfl
 rw [show Tryz.prog.cellsOf 3 = 1 by kernel_rfl] at g6
 have p6 := bulk_pos y6.1
 obtain ⟨z6, e6, q6, r6⟩ := dec_intW Tryz.underlying3 g6
 try simp at e6
 have g7 : Reads enc Tryz.prog W m 4 (([a0, a1, a2, a3, a4, a5, a6, a7, a8, a9] : List Value).drop 7 |>.take (Tryz.prog.cellsOf 4)) y7 := hf 7 _ rfl
 rw [show Tryz.prog.cellsOf 4 = 1 by kernel_rfl] at g7
 have p7 := bulk_pos y7.1
 obtain ⟨z7, e7⟩ := dec_bool Tryz.underlying4 g7
 try simp at e7
 have g8 : Reads enc Tryz.prog W m 25 (([a0, a1, a2, a3, a4, a5, a6, a7, a8, a9] : List Value).drop 8 |>.take (Tryz.prog.cellsOf 25)) y8 := hf 8 _ rfl
 rw [show Tryz.prog.cellsOf 25 = 1 by kernel_rfl] at g8
 have p8 := bulk_pos y8.1
 obtain ⟨⟨v8, l8⟩, e8, k8, q8, c8, r8⟩ := dec_sliceW rqC (fun r => RqG (Old W) r) mRq Tryz.underlying25 (show Tryz.prog.cellsOf 28 = 10 by kernel_rfl) (by decide) (fun n cs y h => decRq n cs y h) g8
 dsimp only at e8 k8 q8 c8 r8
 have ck8 : isCell v8 = true := by obtain ⟨sa, sc, hs⟩ := rd_shape k8; rw [hs]; rfl
 have sh8 : ∃ a n c, v8 = .slice a n c := by obtain ⟨sa, sc, hs⟩ := rd_shape k8; exact ⟨_, _, _, hs⟩
 try simp at e8
 have g9 : Reads enc Tryz.prog W m 26 (([a0, a1, a2, a3, a4, a5, a6, a7, a8, a9] : List Value).drop 9 |>.take (Tryz.prog.cellsOf 26)) y9 := hf 9 _ rfl
 rw [show Tryz.prog.cellsOf 26 = 1 by kernel_rfl] at g9
 have p9 := bulk_pos y9.1
 obtain ⟨z9, e9, s9⟩ : ∃ z : Value, a9 = z ∧ ∃ a n c, z = .slice a n c := ⟨_, rfl, slice_shape Tryz.underlying26 g9⟩
 have ck9 : isCell z9 = true := by obtain ⟨sa, sn, sc, hs⟩ := s9; rw [hs]; rfl
 try simp at e9
 subst e0
 subst e1
 subst e2
 subst e3
 subst e4
 subst e5
 subst e6
 subst e7
 subst e8
 subst e9
 refine ⟨⟨z0, z1, z2, z3, a4, l4, z5, z6, z7, a8, a9⟩, l8, rfl, fun hb => ⟨⟨⟨q0, q1, q5, q6, k4, sh4, q4, sh8, s9⟩, by unfold mRq; dsimp only; omega⟩, k8, fun x hx => ⟨q8 x hx, ?_⟩⟩⟩
 have h6 := sum_mem (m := mRq) hx
 omega
theorem dec_ents12 {H : Type} {enc : TypeId × Value → H} {W : World} {fuel : Nat} {cs : List Value} {x : DataW H × List MemPlace} (h : Reads enc Tryz.prog W fuel 22 cs x) (hb : Rows.uptoBulk x.1 ≤ 1048576) : ∃ (v : Value) (l : List En), cs = [v] ∧ EntsA (Old W) v l ∧ ∀ e ∈ l, EnN e := by
 obtain ⟨⟨v, l⟩, h1, h2, h3, h4, h5⟩ := dec_sliceW enC (fun e => EnG (Old W) e) mEn Tryz.underlying22 (show Tryz.prog.cellsOf 54 = 11 by kernel_rfl) (by decide) (fun n cs y h => decEn n cs y h) h
 dsimp only at h1 h2 h3 h4 h5
 have hw := wtL_le l
 have hm : ∀ e ∈ l, mEn e ≤ 1048576 := fun e he => by
  have h6 := sum_mem (m := mEn) he
  omega
 exact ⟨v, l, h1, ⟨h2, by omega, fun e he => (h3 e he).T (hm e he), fun e he => (h3 e he).x.own.2, by omega⟩, fun e he => (h3 e he).N (hm e he)⟩
theorem dec_ids12 {H : Type} {enc : TypeId × Value → H} {W : World} {fuel : Nat} {cs : List Value} {x : DataW H × List MemPlace} (h : Reads enc Tryz.prog W fuel 23 cs x) (hb : Rows.uptoBulk x.1 ≤ 1048576) : ∃ (v : Value) (l : List Bs), cs = [v] ∧ Ids (Old W) v l := by
 obtain ⟨⟨v, l⟩, h1, h2, h3, h4, h5⟩ := dec_sliceW (fun s : Bs => [vstr s]) (fun _ => True) (fun s => s.length + 1) Tryz.underlying23 (show Tryz.prog.cellsOf 9 = 1 by kernel_rfl) (by decide) (fun n cs y h => by obtain ⟨s, e, hs⟩ := dec_strW Tryz.underlying9 h; exact ⟨s, e, trivial, hs⟩) h
 dsimp only at h1 h2 h3 h4 h5
 refine ⟨v, l, h1, fun h hp => by rw [← fm_strs]; exact h2 h hp, by omega, ?_⟩
 rw [h1] at h
 exact slice_shape Tryz.underlying23 h
end Go.Proofs.YtkjlihfalfbmjaaGreatDoor
