/- Own work, some of it printed by program, texts that were built one by one and are laid one behind the other here: package ledger: Format, parse, Open, Marks, Entries: walked. | a ledger on a disk that lives: all its calls. | the document's disk as plain data, and what stands for it in memory. | the document's disk, function by function. | 'slices.Sorted(maps.Keys(m))' at int keys, out of the kit's contracts, in the words of SlCore. | slices.Sort at []int, out of the shelf's contract, for a slice that is owned. | a disk's pending sectors and its crash, as plain data. | the first example of law 09, reckoned. | package disk, the rest. | the first example of law 09: walked. | LedgerMarks, plain: the marks of entries; entries behind a number. | LedgerMarks: walked. | from what a call is given to the atoms of SlCore, and back to what a statement asks. | strings and rows of strings as arguments. -/
import Derived.Test.YtidjhgbdokcphaaGreatCLMarksP2
import Derived.Test.YtidjhgbdokcphaaGreatCLMarksP1
import Derived.Shelf.SlIterI.Nil
import Derived.Shelf.SortM.Plain
import Derived.Shelf.SortM.SortNone
import Derived.Ground.GgzProg
import Derived.Ground.SlgmProg
import Derived.Test.YtidjhgbdokcphaaGreatProg
import Derived.Test.YtidjhgbdokcphaaGreatCLMarksP0
import Derived.Sort.OwnSortedInts
import Derived.Test.YtidjhgbdokcphaaGreatRows
import Derived.WalkKit
import Derived.ProofKit
import Derived.OpenShut
import Derived.JoinedCond
import Derived.Carry
import Derived.Deep.Grids
import Derived.Handed
import Derived.Deep.Strs
set_option linter.unusedSimpArgs false
set_option linter.unusedVariables false
/- Own work, by program: package ledger: Format, parse, Open, Marks, Entries: walked. -/

namespace Go.Proofs.YtidjhgbdokcphaaGreat
open Go
set_option maxRecDepth 100000 in
theorem clipI0_spec : Fn Tryz.prog 52 #[.slice none 0 0] [slR 3 1 (.slice none 0 0) 0 []] fun u L => u = .slice none 0 0 ∧ L = [slR 3 1 u 0 []] := by
 refine Fn.intro (vs := [.slice none 0 0]) Tryz.func52 rfl rfl ?_
 intro F W
 refine G.seq (G.region (G.q (Quiet.assign rfl) rfl (G.nil (G.then_n (G.seq (G.region (G.q (Quiet.move rfl) rfl (G.q (Quiet.move rfl) rfl (G.q (Quiet.slen rfl Tryz.underlying31 rfl) rfl (G.q (Quiet.move rfl) rfl (G.q (Quiet.slen rfl Tryz.underlying31 rfl) rfl (G.q (Quiet.clip (n := 0) rfl el_31 rfl rfl (Nat.le_refl _) (.inl rfl)) rfl (G.q (Quiet.assign rfl) rfl (G.nil (G.then_n (G.ret ?_))))))))))))))))
 exact G.done (l := [.tmp 2]) rfl rfl ⟨rfl, rfl⟩ (by (repeat' constructor)) (by (repeat' constructor))

set_option maxRecDepth 100000 in
theorem clipI1_spec (b n c : Nat) (hc : n ≤ c) (xs : List Value) : Fn Tryz.prog 52 #[.slice (some ⟨b, 0, none⟩) n c] [slR 3 1 (.slice (some ⟨b, 0, none⟩) n c) n xs] fun u L => u = .slice (some ⟨b, 0, none⟩) n n ∧ L = [slR 3 1 u n xs] := by
 refine Fn.intro (vs := [.slice (some ⟨b, 0, none⟩) n c]) Tryz.func52 rfl rfl ?_
 intro F W
 refine G.seq (G.region (G.q (Quiet.assign rfl) rfl (G.nil (G.then_n (G.seq (G.region (G.q (Quiet.move rfl) rfl (G.q (Quiet.move rfl) rfl (G.q (Quiet.slen rfl Tryz.underlying31 rfl) rfl (G.q (Quiet.move rfl) rfl (G.q (Quiet.slen rfl Tryz.underlying31 rfl) rfl ?_)))))))))))
 refine G.q (Quiet.clip (n := n) rfl el_31 rfl rfl hc (.inr ⟨_, _, rfl⟩)) rfl ?_
 refine G.q (Quiet.assign rfl) rfl (G.nil (G.then_n (G.ret ?_)))
 refine G.slClip (by (repeat' constructor)) ?_
 exact G.done (l := [.tmp 2]) rfl rfl ⟨rfl, rfl⟩ (by (repeat' constructor)) (by (repeat' constructor))

theorem clipI_spec (v : Value) (n : Nat) (xs : List Value) : Fn Tryz.prog 52 #[v] [slR 3 1 v n xs] fun u L => (∃ a c, u = .slice a n c) ∧ L = [slR 3 1 u n xs] := by
  intro F w hs
  obtain ⟨g1, -, hp⟩ := sep_head hs
  rcases hp with ⟨rfl, rfl, rfl⟩ | ⟨b, cap, rest, fr, rfl, -, -, -, h4, -⟩
  · exact (clipI0_spec F w hs).mono fun e w' ⟨u, L, ⟨h1, h2⟩, h3⟩ => ⟨u, L, ⟨⟨_, _, h1⟩, h2⟩, h3⟩
  · exact (clipI1_spec b n cap h4 xs F w hs).mono fun e w' ⟨u, L, ⟨h1, h2⟩, h3⟩ => ⟨u, L, ⟨⟨_, _, h1⟩, h2⟩, h3⟩
theorem hd00 : (headB 0 0).length = 2 := by kernel_rfl
set_option maxRecDepth 100000 in
theorem lformat_spec (d : Nat) (δ : Dk) (hA : δ.acts + 10 < 4611686018427387904) (hI : WlI (formatZ δ).1 newW) (hI1 : WlI (lgF1 δ).1 (lgF1 δ).2.1) : Fn Tryz.prog 12 #[vptr d] [dkR d δ] fun v L => ((lgFormat δ).2 = none ∧ v = .tuple #[.pointer none, vint 2] ∧ L = [dkR d (lgFormat δ).1]) ∨
    (∃ ω g x, (lgFormat δ).2 = some ω ∧ v = .tuple #[vptr g, vint 0] ∧ L = [lgR g x lg0, wlR x d ω, dkR d (lgFormat δ).1]) := by
 refine Fn.intro (vs := [vptr d]) Tryz.func12 rfl rfl ?_
 intro F W
 refine G.seq (G.region (G.q (Quiet.assign rfl) rfl (G.q (Quiet.assign rfl) rfl (G.nil (G.then_n (G.seq (G.seq (G.region (G.q (Quiet.move rfl) rfl (G.q (Quiet.ptreq rfl rfl Tryz.underlying24) rfl (G.nil (G.then_n (G.condF rfl (G.skip (G.then_n (G.seq (G.region (G.q (Quiet.move rfl) rfl ?_))))))))))))))))))
 refine G.op (OpSpec.call Tryz.func44 rfl rfl (vs := [_]) rfl (format_spec d δ hA)) (by (repeat' constructor)) rfl ?nx6
 rintro v L' (⟨hf, rfl, rfl⟩ | ⟨hf, x, rfl, rfl⟩)
 ·refine G.q (Quiet.move rfl) rfl (G.q (Quiet.extract rfl rfl) rfl (G.q (Quiet.extract rfl rfl) rfl (G.q (Quiet.assign rfl) rfl (G.q (Quiet.assign rfl) rfl (G.nil (G.then_n (G.seq (G.seq (G.region (G.q (Quiet.move rfl) rfl ?_))))))))))
  refine G.q (Quiet.as (v' := .bool true) (by rfl) (Quiet.int rfl rfl rfl)) rfl ?_
  refine G.q (Quiet.move rfl) rfl (G.gskip (t := 15) rfl rfl rfl rfl (G.gskip (t := 15) rfl rfl rfl rfl (G.gskip (t := 15) rfl rfl rfl rfl (G.gskip (t := 15) rfl rfl rfl rfl (G.gskip (t := 15) rfl rfl rfl rfl (G.gskip (t := 15) rfl rfl rfl rfl (G.q (Quiet.pickT rfl rfl) rfl (G.q (Quiet.move rfl) rfl (G.gskip (t := 23) rfl rfl rfl rfl (G.gskip (t := 23) rfl rfl rfl rfl (G.gskip (t := 23) rfl rfl rfl rfl (G.q (Quiet.pickT rfl rfl) rfl (G.nil (G.then_n (G.condT rfl (G.seq (G.region (G.q (Quiet.assign rfl) rfl (G.q (Quiet.assign rfl) rfl (G.nil (G.then_n (G.ret (G.then_r ?_)))))))))))))))))))))))
  have hr : lgFormat δ = ((formatZ δ).1, none) := by unfold lgFormat; rw [hf]; rfl
  rw [hr]
  exact G.done (l := [.tmp 2, .tmp 3]) rfl rfl (.inl ⟨rfl, rfl, rfl⟩) (by (repeat' constructor)) (by (repeat' constructor))
 ·refine G.q (Quiet.move rfl) rfl (G.q (Quiet.extract rfl rfl) rfl (G.q (Quiet.extract rfl rfl) rfl (G.q (Quiet.assign rfl) rfl (G.q (Quiet.assign rfl) rfl (G.nil (G.then_n (G.seq (G.seq (G.region (G.q (Quiet.move rfl) rfl ?_))))))))))
  refine G.q (Quiet.as (v' := .bool false) (by rfl) (Quiet.int rfl rfl rfl)) rfl ?_
  refine G.q (Quiet.move rfl) rfl (G.grun (t := 15) rfl rfl rfl (G.q (Quiet.move rfl) rfl (G.grun (t := 15) rfl rfl rfl ?_)))
  refine G.op (OpSpec.call Tryz.func46 rfl rfl (vs := [_, _]) rfl (lahead_spec 0 [] (by decide) (by decide))) (by (repeat' constructor)) rfl ?nx19
  rintro v L' ⟨ba, ca, rfl, rfl⟩; rw [show headL 0 [] = [headB 0 0] from rfl]; dsimp only [List.length_cons, List.length_nil]
  refine G.grun (t := 15) rfl rfl rfl ?_
  refine G.q (Quiet.indexAddr rfl rfl el_46 (by omega)) rfl ?_
  refine G.grun (t := 15) rfl rfl rfl ?_
  refine G.q (Quiet.loadEl (p := strR (.slice (some ⟨ba, 0, none⟩) (0 + 1) ca) [headB 0 0]) (i := 0) (v := vstr (headB 0 0)) rfl ag_9 (by (repeat' constructor)) (fun h hp => slR_rd hp) rfl) rfl ?_
  refine G.grun (t := 15) rfl rfl rfl ?_
  refine G.op (OpSpec.call Tryz.func45 rfl rfl (vs := [_, _]) rfl (wappend_spec x d newW (formatZ δ).1 (headB 0 0) hI (by rw [hd00]; decide))) (by (repeat' constructor)) rfl ?nx23
  rintro v L' ⟨rfl, rfl⟩; rw [show appendZ (formatZ δ).1 newW (headB 0 0) = lgF1 δ from rfl]
  refine G.grun (t := 15) rfl rfl rfl (G.q (Quiet.int rfl rfl rfl) rfl (G.q (Quiet.pickF rfl rfl) rfl (G.q (Quiet.move rfl) rfl ?_)))
  refine G.ndec (t := 23) rfl (fun h4_23 => ?_) (fun h4_23 => ?_)
  ·refine G.kNT (t := 21) rfl h4_23 (G.kNT (t := 22) rfl h4_23 (G.gskip (t := 23) rfl rfl rfl rfl (G.gskip (t := 23) rfl rfl rfl rfl (G.gskip (t := 23) rfl rfl rfl rfl (G.q (Quiet.pickT rfl rfl) rfl (G.nil (G.then_n (G.condT rfl (G.seq (G.region (G.q (Quiet.assign rfl) rfl (G.q (Quiet.assign rfl) rfl (G.nil (G.then_n (G.ret (G.then_r ?_))))))))))))))))
   have hr : lgFormat δ = ((lgF1 δ).1, none) := by unfold lgFormat; rw [hf, if_neg (by decide),  if_pos h4_23]
   rw [hr]
   exact G.done (l := [.tmp 2, .tmp 3]) rfl rfl (.inl ⟨rfl, rfl, rfl⟩) (by (repeat' constructor)) (by (repeat' constructor))
  ·refine G.kNF (t := 21) rfl h4_23 (G.kNF (t := 22) rfl h4_23 (G.grun (t := 23) rfl rfl rfl (G.q (Quiet.move rfl) rfl (G.grun (t := 23) rfl rfl rfl ?_))))
   refine G.op (OpSpec.call Tryz.func47 rfl rfl (vs := [_]) rfl (wsync_spec x d (lgF1 δ).2.1 (lgF1 δ).1 hI1)) (by (repeat' constructor)) rfl ?nx29
   rintro v L' ⟨rfl, rfl⟩; rw [show syncZ (lgF1 δ).1 (lgF1 δ).2.1 = lgF2 δ from rfl]
   refine G.grun (t := 23) rfl rfl rfl (G.q (Quiet.int rfl rfl rfl) rfl (G.q (Quiet.pickF rfl rfl) rfl (G.nil (G.then_n ?_))))
   refine G.condN rfl (fun h27 => ?_) (fun h27 => ?_)
   ·refine G.seq (G.region (G.q (Quiet.assign rfl) rfl (G.q (Quiet.assign rfl) rfl (G.nil (G.then_n (G.ret (G.then_r ?_)))))))
    have hr : lgFormat δ = ((lgF2 δ).1, none) := by unfold lgFormat; rw [hf, if_neg (by decide), if_neg (fun g => g h4_23),  if_pos h27]
    rw [hr]
    exact G.done (l := [.tmp 2, .tmp 3]) rfl rfl (.inl ⟨rfl, rfl, rfl⟩) (by (repeat' constructor)) (by (repeat' constructor))
   ·refine G.skip (G.then_n (G.seq (G.region (G.q (Quiet.move rfl) rfl ?_))))
    refine G.q (Quiet.buildN (pl := [(0, 2), (2, 1), (3, 1), (4, 1), (5, 1), (6, 1), (7, 1)]) (us := [(1, _)]) (cells := [vint 0, vint 0, vptr x, vint 0, vstr [], .slice none 0 0, .slice none 0 0, .bool false]) Tryz.underlying79 (by kernel_rfl) ze_79 rfl rfl) rfl ?_
    refine G.op (OpSpec.box rfl) (by (repeat' constructor)) rfl ?nx35
    rintro v L' ⟨g, rfl, rfl⟩
    refine G.q (Quiet.assign rfl) rfl (G.q (Quiet.assign rfl) rfl (G.nil ?_))
    refine G.ptCast (b := g) (l' := [vint 0, vint 0, vptr x, vint 0, vstr [], .slice none 0 0, .slice none 0 0, .bool false]) (by (repeat' constructor)) rfl ?_
    refine G.then_n (G.ret ?_)
    have hr : lgFormat δ = ((lgF2 δ).1, some (lgF2 δ).2.1) := by unfold lgFormat; rw [hf, if_neg (by decide), if_neg (fun g => g h4_23),  if_neg (fun g => g h27)]
    rw [hr]
    refine G.add (slR_nil 9 1) (G.add (slR_nil 3 1) ?_)
    refine G.lgFold (g := g) (x := x) (ea := none) (ec := 0) (za := none) (zc := 0) (es := []) (zs := []) lg0 (by (repeat' constructor)) rfl rfl rfl rfl rfl ?_
    exact G.done (l := [.tmp 2, .tmp 3]) rfl rfl (.inr ⟨_, _, _, rfl, rfl, rfl⟩) (by (repeat' constructor)) (by (repeat' constructor))

set_option maxRecDepth 100000 in
theorem llastO_spec (g x : Nat) (Λ : Lg) (hl : LgI Λ) (ea : Option Addr) (ec : Nat) (za : Option Addr) (zc : Nat) : Fn Tryz.prog 17 #[vptr g] [ptc g [vint Λ.acc, vint Λ.cur, vptr x, vint Λ.base, vstr Λ.snap, .slice ea Λ.ents.length ec, .slice za Λ.zxs.length zc, .bool Λ.doubt] 79, strR (.slice ea Λ.ents.length ec) Λ.ents, intR (.slice za Λ.zxs.length zc) Λ.zxs] fun v L => v = vint (lastZ Λ) ∧ L = [ptc g [vint Λ.acc, vint Λ.cur, vptr x, vint Λ.base, vstr Λ.snap, .slice ea Λ.ents.length ec, .slice za Λ.zxs.length zc, .bool Λ.doubt] 79, strR (.slice ea Λ.ents.length ec) Λ.ents, intR (.slice za Λ.zxs.length zc) Λ.zxs] := by
 refine Fn.intro (vs := [vptr g]) Tryz.func17 rfl rfl ?_
 intro F W
 have h1 := hl.ents
 have h2 := hl.same
 refine G.seq (G.region (G.q (Quiet.assign rfl) rfl (G.nil (G.then_n (G.seq (G.seq (G.region (G.q (Quiet.move rfl) rfl (G.q (Quiet.nilp rfl) rfl (G.q (Quiet.fieldAddr rfl fo_79_5) rfl ?_))))))))))
 refine G.q (Quiet.load rfl ag_31 (by (repeat' constructor)) (rfl)) rfl ?_
 refine G.q (Quiet.slen rfl Tryz.underlying31 rfl) rfl (G.q (Quiet.int rfl rfl rfl) rfl (G.nil (G.then_n ?_)))
 refine G.condD rfl (fun h8 => ?_) (fun h8 => ?_)
 ·refine G.seq (G.region (G.q (Quiet.move rfl) rfl (G.q (Quiet.nilp rfl) rfl (G.q (Quiet.fieldAddr rfl fo_79_2) rfl ?_))))
  refine G.q (Quiet.load rfl ag_3 (by (repeat' constructor)) (rfl)) rfl ?_
  refine G.q (Quiet.assign rfl) rfl (G.nil (G.then_n (G.ret (G.then_r ?_))))
  rw [last_nil (Λ := Λ) (by omega)]
  exact G.done (l := [.tmp 2]) rfl rfl ⟨rfl, rfl⟩ (by (repeat' constructor)) (by (repeat' constructor))
 ·refine G.skip (G.then_n (G.seq ?_))
  obtain ⟨i, hi⟩ : ∃ i, i + 1 = Λ.zxs.length := ⟨Λ.zxs.length - 1, by omega⟩
  refine G.slShape (v := .slice za _ zc) (xs := ints Λ.zxs) (by (repeat' constructor)) (by omega) fun bz cz e0 mbz _ => ?_
  simp only [Value.slice.injEq, true_and] at e0
  obtain ⟨rfl, rfl⟩ := e0
  refine G.draw [] [[0, 1, 2, 3, 4, 5, 6, 7, 8, 9, 10, 11, 12]] mixed (by kernel_rfl) ?_
  refine Phases.go [] (by (repeat' constructor)) ?_
  refine D.qw [1, 2, 3, 10, 11, 12] rfl (by kernel_rfl) (Quiet.move rfl) ?_
  refine D.qw [2, 3, 10, 11, 12] rfl (by kernel_rfl) (Quiet.nilp rfl) ?_
  refine D.qw [3, 10, 11, 12] rfl (by kernel_rfl) (Quiet.fieldAddr rfl fo_79_5) ?_
  refine D.qw [10, 11, 12] rfl (by kernel_rfl) (Quiet.load rfl ag_31 (by (repeat' constructor)) (rfl)) ?_
  refine D.qw [5, 6, 7, 8, 9, 10, 11, 12] rfl (by kernel_rfl) (Quiet.move rfl) ?_
  refine D.qw [6, 7, 8, 9, 10, 11, 12] rfl (by kernel_rfl) (Quiet.nilp rfl) ?_
  refine D.qw [7, 8, 9, 10, 11, 12] rfl (by kernel_rfl) (Quiet.fieldAddr rfl fo_79_5) ?_
  refine D.qw [8, 9, 10, 11, 12] rfl (by kernel_rfl) (Quiet.load rfl ag_31 (by (repeat' constructor)) (rfl)) ?_
  refine D.qw [9, 10, 11, 12] rfl (by kernel_rfl) (Quiet.slen rfl Tryz.underlying31 rfl) ?_
  refine D.qw [10, 11, 12] rfl (by kernel_rfl) (Quiet.as (v' := vint (i : Nat)) (by congr 1; omega) (Quiet.sub rfl rfl (by omega))) ?_
  refine D.qw [11, 12] rfl (by kernel_rfl) (Quiet.indexAddr rfl rfl el_31 (by omega)) ?_
  refine D.qw [12] rfl (by kernel_rfl) (Quiet.loadEl (p := intR (.slice (some ⟨bz, 0, none⟩) Λ.zxs.length zc) Λ.zxs) (i := i * 1) (v := vint (Λ.zxs[i]'(by omega))) rfl ag_3 (by (repeat' constructor)) (fun h hp => slR_rd hp) (by simp [List.getElem?_eq_getElem (show i < Λ.zxs.length by omega)])) ?_
  refine D.qw [] rfl (by kernel_rfl) (Quiet.assign rfl) ?_
  refine D.ph (Phases.fin (G.then_n (G.ret ?_)))
  rw [last_at hi]
  exact G.done (l := [.tmp 2]) rfl rfl ⟨rfl, rfl⟩ (by (repeat' constructor)) (by (repeat' constructor))

theorem numR_i64 (st : Rs) : I64 (numR st).1 := by
  unfold numR runP
  split
  · decide
  · split
    · rename_i x hx; exact (num_form hx).2
    · decide
theorem get_zx64 {s : Bs} {e : En} (h : getZ s = some e) : I64 e.zx := by
  unfold getZ getR at h
  split at h
  · rename_i q hq
    cases h
    have : e.zx = (numR (some s)).1 := by rw [show e = (enR (some s)).1 by rw [hq]]; rfl
    rw [this]; exact numR_i64 _
  · cases h
theorem LgI.keep {Λ : Lg} (h : LgI Λ) (hl : Λ.ents.length < 200) {s : Bs} (hs : s.length ≤ 1073741824) {z : Int} (hz : I64 z) : LgI (Λ.keep s z) := by
  refine ⟨?_, ?_, ?_, h.base, ?_⟩
  · show (Λ.ents ++ [s]).length ≤ 200; rw [List.length_append, List.length_singleton]; omega
  · show (Λ.zxs ++ [z]).length = (Λ.ents ++ [s]).length; rw [List.length_append, List.length_append, h.same]; rfl
  · intro x hx
    rcases List.mem_append.1 hx with hx | hx
    · exact h.each x hx
    · rw [List.mem_singleton] at hx; subst hx; exact hs
  · intro x hx
    rcases List.mem_append.1 hx with hx | hx
    · exact h.zxs x hx
    · rw [List.mem_singleton] at hx; subst hx; exact hz
def cntX (st : Rs) : Nat × Rs := runP 0 (cntP 65536) st
theorem cntX_le (st : Rs) : (cntX st).1 ≤ 65536 := by
  unfold cntX runP
  split
  · exact Nat.zero_le _
  · split
    · rename_i x hx; exact (cnt_form hx).2
    · exact Nat.zero_le _
theorem lh_ok {s : Bs} (h : (cntX (numR (some s)).2).2 = some []) : lhZ s = some ((numR (some s)).1, (cntX (numR (some s)).2).1) := by
  have e : headR (some s) = (((numR (some s)).1, (cntX (numR (some s)).2).1), some []) := by rw [← h]; rfl
  unfold lhZ; rw [e]
theorem lh_bad {s : Bs} (h : ¬ (cntX (numR (some s)).2).2 = some []) : lhZ s = none := by
  unfold lhZ
  split
  · rename_i q hq; exact absurd (show (headR (some s)).2 = some [] by rw [hq]) h
  · rfl
theorem parse_cons {a b : Int} {l : List Bs} (h : 0 < l.length) : lparseZ a b l = match lhZ (l.getD 0 []) with
    | none => none
    | some (base, n) => if base < 0 then none else restZ a b base (snapZ n [] (l.drop 1)) := by
  cases l with
  | nil => simp at h
  | cons r t => rfl
theorem drop_cons {l : List Bs} {i : Nat} (h : i < l.length) : l.drop i = l.getD i [] :: l.drop (i + 1) := by
  rw [List.drop_eq_getElem_cons h]; simp [List.getD_eq_getElem?_getD, h]
theorem tail_addr (b o c : Nat) : (if c = (1 : Int).toNat then (⟨b, o, none⟩ : Addr) else ⟨b, o + (1 : Int).toNat * 1, none⟩) = ⟨b, if c = 1 then o else o + 1, none⟩ := by
  show (if c = 1 then _ else (⟨b, o + 1, none⟩ : Addr)) = _
  split <;> rfl
theorem rdS_tail {h : Hp} {b o n c : Nat} {l : List Bs} (hr : rdS 1 h (.slice (some ⟨b, o, none⟩) n c) n (strs l)) (hn : 0 < n) (hc : n ≤ c) : rdS 1 h (.slice (some ⟨b, if c = 1 then o else o + 1, none⟩) (n - 1) (c - 1)) (n - 1) (strs (l.drop 1)) := by
  have hl : (strs l).length = n * 1 := rdS_len hr
  rw [show (strs l).length = l.length by simp [strs]] at hl
  rcases Nat.lt_or_ge 1 n with h1 | h1
  · rw [if_neg (by omega)]
    have := rdS_drop (k := 1) hr h1
    rw [show (strs l).drop (1 * 1) = strs (l.drop 1) by simp [strs, List.map_drop]] at this
    exact this
  · obtain rfl : n = 1 := by omega
    refine .inl ⟨rfl, ?_, _, _, rfl⟩
    rw [List.drop_eq_nil_of_le (by omega)]; rfl
set_option maxRecDepth 100000 in
theorem lparse_spec (g x : Nat) (a b : Int) (va : Value) (l : List Bs) (p : HP) (hr : ∀ h : Hp, p h → rdS 1 h va l.length (strs l)) (hl : l.length ≤ 1048576) (hs : ∀ s ∈ l, s.length ≤ 1073741824) : Fn Tryz.prog 57 #[vptr g, va] [lgR g x ⟨a, b, 0, [], [], [], false⟩, p] fun v L => ∃ Λ ok, (ok = true → lparseZ a b l = some Λ) ∧ (ok = false → lparseZ a b l = none) ∧ v = .bool ok ∧ L = [lgR g x Λ, p] := by
 refine Fn.intro (vs := [vptr g, va]) Tryz.func57 rfl rfl ?_
 intro F W
 refine G.rdAny (p := p) hr (by (repeat' constructor)) fun aa ca e0 _ => ?_
 subst e0
 refine G.seq (G.region (G.q (Quiet.assign rfl) rfl (G.nil (G.then_n (G.seq (G.seq (G.region (G.q (Quiet.move rfl) rfl (G.q (Quiet.slen rfl Tryz.underlying46 rfl) rfl (G.q (Quiet.int rfl rfl rfl) rfl (G.nil (G.then_n ?_))))))))))))
 refine G.condD rfl (fun h13 => ?_) (fun h13 => ?_)
 ·have hln : l = [] := List.eq_nil_of_length_eq_zero (by omega)
  subst hln
  refine G.seq (G.region (G.q (Quiet.assign rfl) rfl (G.nil (G.then_n (G.ret (G.then_r ?_))))))
  exact G.done (l := [.tmp 4]) rfl rfl ⟨_, false, (fun h => by cases h), fun _ => rfl, rfl, rfl⟩ (by (repeat' constructor)) (by (repeat' constructor))
 ·refine G.rdShapeC (p := p) hr (by (repeat' constructor)) (by omega) fun ba oa e hcap => ?_
  subst e
  have hpc := parse_cons (a := a) (b := b) (l := l) (by omega)
  have hs0 : (l.getD 0 []).length ≤ 1073741824 := by cases l with | nil => simp | cons r t => exact hs r (List.mem_cons_self ..)
  refine G.skip (G.then_n (G.seq (G.region (G.q (Quiet.move rfl) rfl ?_))))
  refine G.q (Quiet.indexAddr rfl rfl el_46 (by omega)) rfl ?_
  refine G.q (Quiet.loadEl (p := p) (i := 0) (v := vstr (l.getD 0 [])) rfl ag_9 (by (repeat' constructor)) hr (by have hil : 0 < l.length := (by omega); simp [strs, List.getD_eq_getElem?_getD, hil])) rfl ?_
  refine G.op (OpSpec.call Tryz.func117 rfl rfl (vs := [_]) rfl (cread_spec (l.getD 0 []) (by omega))) (by (repeat' constructor)) rfl ?nx9
  rintro v L' ⟨r, rfl, rfl⟩
  refine G.q (Quiet.assign rfl) rfl (G.nil (G.then_n (G.seq (G.region (G.q (Quiet.move rfl) rfl (G.q (Quiet.move rfl) rfl ?_))))))
  refine G.op (OpSpec.call Tryz.func118 rfl rfl (vs := [_]) rfl (wnum_spec r (some (l.getD 0 [])))) (by (repeat' constructor)) rfl ?nx12
  rintro v L' ⟨rfl, rfl⟩
  refine G.lgOpen (by (repeat' constructor)) fun ea ec za zc => ?_
  refine G.q (Quiet.nilp rfl) rfl (G.q (Quiet.fieldAddr rfl fo_79_2) rfl ?_)
  refine G.op (OpSpec.store rfl rfl rfl sz_3 ?c16 ?c17) (by (repeat' constructor)) rfl ?nx18
  case c16 => first | decide | (simp; omega) | simp
  case c17 => exact nfz0 _ _
  rintro v L' rfl
  refine G.nil (G.then_n (G.seq (G.region (G.q (Quiet.move rfl) rfl ?_))))
  refine G.op (OpSpec.call Tryz.func119 rfl rfl (vs := [_, _]) rfl (rcount_spec r 65536 (by decide) _)) (by (repeat' constructor)) rfl ?nx19
  rintro v L' ⟨rfl, rfl⟩; rw [show runP 0 (cntP 65536) (numR (some (l.getD 0 []))).2 = cntX (numR (some (l.getD 0 []))).2 from rfl]
  refine G.q (Quiet.assign rfl) rfl (G.nil (G.then_n (G.seq (G.seq (G.region (G.q (Quiet.move rfl) rfl ?_))))))
  refine G.op (OpSpec.call Tryz.func120 rfl rfl (vs := [_]) rfl (rend_spec r _)) (by (repeat' constructor)) rfl ?nx21
  rintro v L' ⟨e1, he1, rfl, st', rfl⟩
  refine G.q (Quiet.int rfl rfl rfl) rfl (G.q (Quiet.move rfl) rfl ?_)
  refine G.ndec (t := 28) rfl (fun h6_28 => ?_) (fun h6_28 => ?_)
  ·refine G.kNT (t := 27) rfl h6_28 (G.gskip (t := 28) rfl rfl rfl rfl (G.gskip (t := 28) rfl rfl rfl rfl (G.gskip (t := 28) rfl rfl rfl rfl (G.gskip (t := 28) rfl rfl rfl rfl (G.gskip (t := 28) rfl rfl rfl rfl (G.q (Quiet.pickT rfl rfl) rfl (G.nil (G.then_n (G.condT rfl (G.seq (G.region (G.q (Quiet.assign rfl) rfl (G.nil (G.then_n (G.ret (G.then_r ?_))))))))))))))))
   refine G.lgFold (g := g) (x := x) ⟨a, b, (numR (some (l.getD 0 []))).1, [], [], [], false⟩ (by (repeat' constructor)) (by exact rfl) (by first | rfl | simp [Lg.keep]) (by first | rfl | simp [Lg.keep]) (by first | rfl | simp [Lg.keep]) (by first | rfl | simp [Lg.keep]) ?_
   exact G.done (l := [.tmp 4]) rfl rfl ⟨_, false, (fun h => by cases h), fun _ => by rw [hpc, lh_bad (fun g => h6_28 (he1.2 g))], rfl, rfl⟩ (by (repeat' constructor)) (by (repeat' constructor))
  ·refine G.kNF (t := 27) rfl h6_28 (G.grun (t := 28) rfl rfl rfl (G.q (Quiet.move rfl) rfl (G.grun (t := 28) rfl rfl rfl (G.q (Quiet.nilp rfl) rfl (G.grun (t := 28) rfl rfl rfl (G.q (Quiet.fieldAddr rfl fo_79_2) rfl (G.grun (t := 28) rfl rfl rfl ?_)))))))
   refine G.q (Quiet.load rfl ag_3 (by (repeat' constructor)) (rfl)) rfl ?_
   refine G.grun (t := 28) rfl rfl rfl (G.q (Quiet.int rfl rfl rfl) rfl (G.q (Quiet.pickF rfl rfl) rfl (G.nil (G.then_n ?_))))
   refine G.condD rfl (fun h34 => ?_) (fun h34 => ?_)
   ·refine G.seq (G.region (G.q (Quiet.assign rfl) rfl (G.nil (G.then_n (G.ret (G.then_r ?_))))))
    refine G.lgFold (g := g) (x := x) ⟨a, b, (numR (some (l.getD 0 []))).1, [], [], [], false⟩ (by (repeat' constructor)) (by exact rfl) (by first | rfl | simp [Lg.keep]) (by first | rfl | simp [Lg.keep]) (by first | rfl | simp [Lg.keep]) (by first | rfl | simp [Lg.keep]) ?_
    exact G.done (l := [.tmp 4]) rfl rfl ⟨_, false, (fun h => by cases h), fun _ => by rw [hpc, lh_ok (he1.1 (by simpa using h6_28))]; exact if_pos h34, rfl, rfl⟩ (by (repeat' constructor)) (by (repeat' constructor))
   ·have hI0 := numR_i64 (some (l.getD 0 []))
    have hn0 := cntX_le (numR (some (l.getD 0 []))).2
    have hlh := lh_ok (he1.1 (by simpa using h6_28))
    rw [hlh] at hpc
    generalize hbase : (numR (some (l.getD 0 []))).1 = base at *
    generalize hmany : (cntX (numR (some (l.getD 0 []))).2).1 = many at *
    dsimp only at hpc
    rw [if_neg h34] at hpc
    refine G.lgFold (g := g) (x := x) ⟨a, b, base, [], [], [], false⟩ (by (repeat' constructor)) (by exact rfl) (by first | rfl | simp [Lg.keep]) (by first | rfl | simp [Lg.keep]) (by first | rfl | simp [Lg.keep]) (by first | rfl | simp [Lg.keep]) ?_
    refine G.skip (G.then_n (G.seq (G.region (G.q (Quiet.move rfl) rfl ?_))))
    refine G.q (Quiet.to (v' := .slice (some ⟨ba, if ca = 1 then oa else oa + 1, none⟩) (l.length - 1) (ca - 1)) (Quiet.slSlice (i := 1) (j := ((l.length : Nat) : Int)) rfl el_46 rfl rfl (by omega)) (by rw [tail_addr]; simp)) rfl ?_
    refine G.q (Quiet.assign rfl) rfl (G.nil (G.then_n (G.seq (G.block ?_))))
    refine G.loopK (ι := Nat × Nat × Nat × Bs) (fun q E => (1, .slice (some ⟨ba, q.2.1, none⟩) (l.length - q.1) q.2.2.1) :: E) (fun q => [lgR g x ⟨a, b, base, q.2.2.2, [], [], false⟩]) (fun q => q.1 ≤ l.length ∧ l.length - q.1 ≤ q.2.2.1 ∧ (∀ h : Hp, p h → rdS 1 h (.slice (some ⟨ba, q.2.1, none⟩) (l.length - q.1) q.2.2.1) (l.length - q.1) (strs (l.drop q.1))) ∧ lparseZ a b l = restZ a b base (snapZ many q.2.2.2 (l.drop q.1)) ∧ q.2.2.2.length ≤ many) (fun q => l.length - q.1) (1, (if ca = 1 then oa else oa + 1), ca - 1, []) (ts := [0, 6]) (.cons rfl (.cons rfl (.nil))) (⟨by dsimp only; omega, by dsimp only; omega, fun h hp => rdS_tail (hr h hp) (by omega) hcap, hpc, Nat.zero_le _⟩) ⟨rfl, rfl, rfl, trivial⟩ (by (repeat' constructor)) ?_
    rintro ⟨i, o, c, sn⟩ ⟨hi, hic, hru, hpz, hsn⟩
    dsimp only
    dsimp only at hi hic hru hpz hsn
    refine G.lgOpen (by (repeat' constructor)) fun ea ec za zc => ?_
    dsimp only
    refine G.seq (G.seq (G.region (G.q (Quiet.move rfl) rfl (G.q (Quiet.nilp rfl) rfl (G.q (Quiet.fieldAddr rfl fo_79_3) rfl ?_)))))
    refine G.q (Quiet.load rfl ag_9 (by (repeat' constructor)) (rfl)) rfl ?_
    refine G.q (Quiet.strlen rfl Tryz.underlying9 rfl) rfl (G.q (Quiet.move rfl) rfl (G.q (Quiet.int rfl rfl rfl) rfl (G.nil (G.then_n ?_))))
    refine G.condD rfl (fun h43 => ?_) (fun h43 => ?_)
    ·refine G.skip (G.then_n (G.block (G.seq (G.seq ?_))))
     refine G.draw [] [[0, 1, 2, 3, 4, 5, 6, 7, 8, 9, 10, 11, 12, 13, 14, 15, 16, 17]] mixed (by kernel_rfl) ?_
     refine Phases.go [] (by (repeat' constructor)) ?_
     refine D.qw [1, 2, 3, 4, 5, 6, 7, 8, 9, 10, 11, 12, 13, 14, 15, 16, 17] rfl (by kernel_rfl) (Quiet.move rfl) ?_
     refine D.qw [2, 3, 4, 5, 6, 7, 8, 9, 10, 11, 12, 13, 14, 15, 16, 17] rfl (by kernel_rfl) (Quiet.slen rfl Tryz.underlying46 rfl) ?_
     refine D.qw [3, 4, 5, 6, 7, 8, 9, 10, 11, 12, 13, 14, 15, 16, 17] rfl (by kernel_rfl) (Quiet.int rfl rfl rfl) ?_
     refine D.qw [4, 5, 6, 7, 8, 9, 10, 11, 12, 13, 14, 15, 16, 17] rfl (by kernel_rfl) (Quiet.move rfl) ?_
     refine D.dec (t := 47) rfl (fun h10_47 => ?_) (fun h10_47 => ?_)
     ·refine D.kDT (t := 46) rfl h10_47 ?_
      refine D.gs (t := 47) rfl rfl rfl rfl (by kernel_rfl) ?_
      refine D.gs (t := 47) rfl rfl rfl rfl (by kernel_rfl) ?_
      refine D.gs (t := 47) rfl rfl rfl rfl (by kernel_rfl) ?_
      refine D.gs (t := 47) rfl rfl rfl rfl (by kernel_rfl) ?_
      refine D.gs (t := 47) rfl rfl rfl rfl (by kernel_rfl) ?_
      refine D.gs (t := 47) rfl rfl rfl rfl (by kernel_rfl) ?_
      refine D.gs (t := 47) rfl rfl rfl rfl (by kernel_rfl) ?_
      refine D.gs (t := 47) rfl rfl rfl rfl (by kernel_rfl) ?_
      refine D.gs (t := 47) rfl rfl rfl rfl (by kernel_rfl) ?_
      refine D.gs (t := 47) rfl rfl rfl rfl (by kernel_rfl) ?_
      refine D.gs (t := 47) rfl rfl rfl rfl (by kernel_rfl) ?_
      refine D.gs (t := 47) rfl rfl rfl rfl (by kernel_rfl) ?_
      refine D.gs (t := 47) rfl rfl rfl rfl (by kernel_rfl) ?_
      refine D.qw [] rfl (by kernel_rfl) (Quiet.pickT rfl rfl) ?_
      refine D.ph (Phases.fin (G.then_n (G.condT rfl (G.seq (G.region (G.q (Quiet.assign rfl) rfl (G.nil (G.then_n (G.ret (G.then_r (G.blk_r (G.then_r (G.blk_r (G.then_r ?_))))))))))))))
      refine G.lgFold (g := g) (x := x) ⟨a, b, base, sn, [], [], false⟩ (by (repeat' constructor)) (by exact rfl) (by first | rfl | simp [Lg.keep]) (by first | rfl | simp [Lg.keep]) (by first | rfl | simp [Lg.keep]) (by first | rfl | simp [Lg.keep]) ?_
      exact G.done (l := [.tmp 4]) rfl rfl ⟨_, false, (fun h => by cases h), fun _ => by rw [hpz]; rw [List.drop_eq_nil_of_le (by omega), snap_none (by omega)]; rfl, rfl, rfl⟩ (by (repeat' constructor)) (by (repeat' constructor))
     ·refine D.kDF (t := 46) rfl h10_47 ?_
      refine D.gqw [5, 6, 7, 16, 17] (t := 47) rfl rfl rfl (by kernel_rfl) (Quiet.move rfl) ?_
      refine D.gqw [6, 7, 16, 17] (t := 47) rfl rfl rfl (by kernel_rfl) (Quiet.indexAddr rfl rfl el_46 (by omega)) ?_
      refine D.gqw [7, 16, 17] (t := 47) rfl rfl rfl (by kernel_rfl) (Quiet.loadEl (p := p) (i := 0) (v := vstr (l.getD i [])) rfl ag_9 (by (repeat' constructor)) hru (by have hil : i < l.length := (by omega); simp [strs, List.getElem?_drop, List.getD_eq_getElem?_getD, hil])) ?_
      refine D.gqw [16, 17] (t := 47) rfl rfl rfl (by kernel_rfl) (Quiet.strlen rfl Tryz.underlying9 rfl) ?_
      refine D.gqw [14, 15, 16, 17] (t := 47) rfl rfl rfl (by kernel_rfl) (Quiet.move rfl) ?_
      refine D.gqw [10, 11, 12, 13, 14, 15, 16, 17] (t := 47) rfl rfl rfl (by kernel_rfl) (Quiet.move rfl) ?_
      refine D.gqw [11, 12, 13, 14, 15, 16, 17] (t := 47) rfl rfl rfl (by kernel_rfl) (Quiet.nilp rfl) ?_
      refine D.gqw [12, 13, 14, 15, 16, 17] (t := 47) rfl rfl rfl (by kernel_rfl) (Quiet.fieldAddr rfl fo_79_3) ?_
      refine D.gqw [13, 14, 15, 16, 17] (t := 47) rfl rfl rfl (by kernel_rfl) (Quiet.load rfl ag_9 (by (repeat' constructor)) (rfl)) ?_
      refine D.gqw [14, 15, 16, 17] (t := 47) rfl rfl rfl (by kernel_rfl) (Quiet.strlen rfl Tryz.underlying9 rfl) ?_
      refine D.gqw [15, 16, 17] (t := 47) rfl rfl rfl (by kernel_rfl) (Quiet.sub rfl rfl (by omega)) ?_
      refine D.gqw [16, 17] (t := 47) rfl rfl rfl (by kernel_rfl) (Quiet.min2 rfl rfl) ?_
      refine D.gqw [17] (t := 47) rfl rfl rfl (by kernel_rfl) (Quiet.int rfl rfl rfl) ?_
      refine D.qw [] rfl (by kernel_rfl) (Quiet.pickF rfl rfl) ?_
      refine D.ph (Phases.fin (G.then_n ?_))
      refine G.condN rfl (fun h61 => ?_) (fun h61 => ?_)
      ·refine G.seq (G.region (G.q (Quiet.assign rfl) rfl (G.nil (G.then_n (G.ret (G.then_r (G.blk_r (G.then_r (G.blk_r (G.then_r ?_))))))))))
       refine G.lgFold (g := g) (x := x) ⟨a, b, base, sn, [], [], false⟩ (by (repeat' constructor)) (by exact rfl) (by first | rfl | simp [Lg.keep]) (by first | rfl | simp [Lg.keep]) (by first | rfl | simp [Lg.keep]) (by first | rfl | simp [Lg.keep]) ?_
       exact G.done (l := [.tmp 4]) rfl rfl ⟨_, false, (fun h => by cases h), fun _ => by rw [hpz]; rw [drop_cons (by omega), snap_bad (by omega) (by omega)]; rfl, rfl, rfl⟩ (by (repeat' constructor)) (by (repeat' constructor))
      ·refine G.skip (G.then_n (G.seq ?_))
       refine G.draw [10] [[0, 1, 2, 3, 4, 5, 6, 7, 8, 9, 10]] mixed (by kernel_rfl) ?_
       refine Phases.go [] (by (repeat' constructor)) ?_
       refine D.qw [1, 2, 3, 7, 8, 9, 10] rfl (by kernel_rfl) (Quiet.move rfl) ?_
       refine D.qw [2, 3, 7, 8, 9, 10] rfl (by kernel_rfl) (Quiet.nilp rfl) ?_
       refine D.qw [3, 7, 8, 9, 10] rfl (by kernel_rfl) (Quiet.fieldAddr rfl fo_79_3) ?_
       refine D.qw [7, 8, 9, 10] rfl (by kernel_rfl) (Quiet.load rfl ag_9 (by (repeat' constructor)) (rfl)) ?_
       refine D.qw [5, 6, 7, 8, 9, 10] rfl (by kernel_rfl) (Quiet.move rfl) ?_
       refine D.qw [6, 7, 8, 9, 10] rfl (by kernel_rfl) (Quiet.indexAddr rfl rfl el_46 (by omega)) ?_
       refine D.qw [7, 8, 9, 10] rfl (by kernel_rfl) (Quiet.loadEl (p := p) (i := 0) (v := vstr (l.getD i [])) rfl ag_9 (by (repeat' constructor)) hru (by have hil : i < l.length := (by omega); simp [strs, List.getElem?_drop, List.getD_eq_getElem?_getD, hil])) ?_
       refine D.qw [8, 9, 10] rfl (by kernel_rfl) (Quiet.concat rfl rfl (by omega)) ?_
       refine D.qw [9, 10] rfl (by kernel_rfl) (Quiet.nilp rfl) ?_
       refine D.qw [10] rfl (by kernel_rfl) (Quiet.fieldAddr rfl fo_79_3) ?_
       refine D.h rfl (by kernel_rfl) (OpSpec.store rfl rfl rfl sz_9 ?c70 ?c71) (by (repeat' constructor)) ?nx72
       case c70 => first | decide | (simp; omega) | simp
       case c71 => exact nfz0 _ _
       rintro v L' rfl
       refine D.ph (Phases.fin (G.then_n (G.region (G.q (Quiet.move rfl) rfl ?_))))
       refine G.q (Quiet.to (v' := .slice (some ⟨ba, if c = 1 then o else o + 1, none⟩) ((l.length - i) - 1) (c - 1)) (Quiet.slSlice (i := 1) (j := (((l.length - i) : Nat) : Int)) rfl el_46 rfl rfl (by omega)) (by rw [tail_addr]; simp)) rfl ?_
       refine G.q (Quiet.assign rfl) rfl (G.nil (G.blk_n (G.then_n ?_)))
       refine G.lgFold (g := g) (x := x) ⟨a, b, base, (sn ++ l.getD i []), [], [], false⟩ (by (repeat' constructor)) (by exact rfl) (by first | rfl | simp [Lg.keep]) (by first | rfl | simp [Lg.keep]) (by first | rfl | simp [Lg.keep]) (by first | rfl | simp [Lg.keep]) ?_
       exact G.roundK ((i + 1, (if c = 1 then o else o + 1), c - 1, sn ++ l.getD i [])) (⟨by dsimp only; omega, by dsimp only; omega, fun h hp => by have h9 := rdS_tail (hru h hp) (by omega) hic; rw [List.drop_drop] at h9; exact h9, by rw [hpz, drop_cons (by omega), snap_step (by omega) (by omega)], by dsimp only; rw [List.length_append]; omega⟩) (by dsimp only; omega) ⟨rfl, rfl, rfl, trivial⟩ (by (repeat' constructor)) (by ((repeat (apply Have.cons; (repeat (first | exact Pick.here | apply Pick.there)))); apply Have.base; repeat' constructor))
    ·have hlt1 : ∀ s ∈ l.drop i, s.length ≤ 1073741824 := fun s hs1 => hs s (List.mem_of_mem_drop hs1)
     rw [snap_done (by omega)] at hpz
     refine G.lgFold (g := g) (x := x) ⟨a, b, base, sn, [], [], false⟩ (by (repeat' constructor)) (by exact rfl) (by first | rfl | simp [Lg.keep]) (by first | rfl | simp [Lg.keep]) (by first | rfl | simp [Lg.keep]) (by first | rfl | simp [Lg.keep]) ?_
     refine G.exit (G.then_e (G.then_e (G.blk_e (G.then_n (G.seq (G.seq (G.region (G.q (Quiet.move rfl) rfl (G.q (Quiet.slen rfl Tryz.underlying46 rfl) rfl (G.q (Quiet.move rfl) rfl (G.nil (G.then_n (G.block ?_)))))))))))))
     refine G.loopK (ι := Nat × Lg) (fun q E => (76, vint q.1) :: E) (fun q => [lgR g x q.2]) (fun q => q.1 ≤ l.length - i ∧ LgI q.2 ∧ lparseZ a b l = entsZ q.2 ((l.drop i).drop q.1)) (fun q => l.length - i - q.1) (0, ⟨a, b, base, sn, [], [], false⟩) (ts := [0, 74, 75]) (.cons rfl (.cons rfl (.cons rfl (.nil)))) (⟨Nat.zero_le _, ⟨Nat.zero_le _, rfl, (fun s hs => by cases hs), hI0, fun z hz => by cases hz⟩, hpz⟩) ⟨rfl, rfl, rfl, rfl, trivial⟩ (by (repeat' constructor)) ?_
     rintro ⟨j, Λ⟩ ⟨hj, hΛ, hpe⟩
     dsimp only
     dsimp only at hj hΛ hpe
     refine G.seq (G.region (G.q (Quiet.int rfl rfl rfl) rfl (G.nil (G.then_n (G.seq ?_)))))
     refine G.condD rfl (fun h77 => ?_) (fun h77 => ?_)
     ·have hjl : j < (l.drop i).length := by rw [List.length_drop]; omega
      have hdj := drop_cons hjl
      have hsl : ((l.drop i).getD j []).length ≤ 1073741824 := by rw [List.getD_eq_getElem?_getD, List.getElem?_eq_getElem hjl]; exact hlt1 _ (List.getElem_mem hjl)
      refine G.skip (G.then_n (G.seq (G.block (G.seq (G.region ?_)))))
      refine G.q (Quiet.indexAddr rfl rfl el_46 (by omega)) rfl ?_
      refine G.q (Quiet.loadEl (p := p) (i := j * 1) (v := vstr ((l.drop i).getD j [])) rfl ag_9 (by (repeat' constructor)) hru (by rw [Nat.mul_one]; simp [strs, List.getElem?_drop, List.getD_eq_getElem?_getD, show i + j < l.length by omega])) rfl ?_
      refine G.q (Quiet.assign rfl) rfl (G.nil (G.then_n (G.seq (G.region (G.q (Quiet.move rfl) rfl ?_)))))
      refine G.op (OpSpec.call Tryz.func53 rfl rfl (vs := [_]) rfl (wget_spec ((l.drop i).getD j []) (by omega))) (by (repeat' constructor)) rfl ?nx81
      rintro v L' ⟨ge, er, hge, rfl, rfl⟩
      refine G.q (Quiet.move rfl) rfl (G.q (Quiet.extract rfl rfl) rfl (G.q (Quiet.extract rfl rfl) rfl ?_))
      refine G.op (OpSpec.allocA ze_38) (by (repeat' constructor)) rfl ?nx85
      rintro v L' ⟨b9, rfl, rfl⟩
      refine G.op (OpSpec.storeA rfl rfl ?c87 sz_38 ?c90 ?c88 ?c89) (by (repeat' constructor)) rfl ?nx91
      case c87 => exact hge.cells
      case c90 => rfl
      case c88 => simp [enC, ptC]
      case c89 => exact nfz0 _ _
      rintro v L' rfl
      refine G.q (Quiet.assign rfl) rfl (G.nil ?_)
      refine G.ptCast (b := b9) (l' := enC ge) (by (repeat' constructor)) (by exact rfl) ?_
      refine G.lgOpen (by (repeat' constructor)) fun ea ec za zc => ?_
      refine G.then_n (G.seq (G.seq ?_))
      refine G.draw [] [[0, 1, 2, 3, 4, 5, 6, 7, 8, 9, 10, 11, 12, 13, 14, 15, 16]] mixed (by kernel_rfl) ?_
      refine Phases.go [ptc b9 _ _, ptc g _ _, strR _ Λ.ents, intR _ Λ.zxs] (by (repeat' constructor)) ?_
      refine D.qw [1, 2, 3, 4, 5, 6, 7, 8, 9, 10, 11, 12, 13, 14, 15, 16] rfl (by kernel_rfl) (Quiet.move rfl) ?_
      refine D.qw [2, 3, 4, 5, 6, 7, 8, 9, 10, 11, 12, 13, 14, 15, 16] rfl (by kernel_rfl) (Quiet.int rfl rfl rfl) ?_
      refine D.qw [3, 4, 5, 6, 7, 8, 9, 10, 11, 12, 13, 14, 15, 16] rfl (by kernel_rfl) (Quiet.move rfl) ?_
      refine D.ndec (t := 87) rfl (fun h18_87 => ?_) (fun h18_87 => ?_)
      ·refine D.kNT (t := 86) rfl h18_87 ?_
       refine D.gs (t := 87) rfl rfl rfl rfl (by kernel_rfl) ?_
       refine D.gs (t := 87) rfl rfl rfl rfl (by kernel_rfl) ?_
       refine D.gs (t := 87) rfl rfl rfl rfl (by kernel_rfl) ?_
       refine D.gs (t := 87) rfl rfl rfl rfl (by kernel_rfl) ?_
       refine D.gs (t := 87) rfl rfl rfl rfl (by kernel_rfl) ?_
       refine D.qw [9, 10, 11, 12, 13, 14, 15, 16] rfl (by kernel_rfl) (Quiet.pickT rfl rfl) ?_
       refine D.qw [10, 11, 12, 13, 14, 15, 16] rfl (by kernel_rfl) (Quiet.move rfl) ?_
       refine D.gs (t := 94) rfl rfl rfl rfl (by kernel_rfl) ?_
       refine D.gs (t := 94) rfl rfl rfl rfl (by kernel_rfl) ?_
       refine D.gs (t := 94) rfl rfl rfl rfl (by kernel_rfl) ?_
       refine D.gs (t := 94) rfl rfl rfl rfl (by kernel_rfl) ?_
       refine D.gs (t := 94) rfl rfl rfl rfl (by kernel_rfl) ?_
       refine D.gs (t := 94) rfl rfl rfl rfl (by kernel_rfl) ?_
       refine D.qw [] rfl (by kernel_rfl) (Quiet.pickT rfl rfl) ?_
       refine D.ph (Phases.fin (G.then_n (G.condT rfl (G.seq (G.region (G.q (Quiet.assign rfl) rfl (G.nil (G.then_n (G.ret (G.then_r (G.blk_r (G.then_r (G.then_r (G.blk_r (G.then_r ?_)))))))))))))))
       refine G.lgFold (g := g) (x := x) Λ (by (repeat' constructor)) (by exact rfl) (by first | rfl | simp [Lg.keep]) (by first | rfl | simp [Lg.keep]) (by first | rfl | simp [Lg.keep]) (by first | rfl | simp [Lg.keep]) ?_
       exact G.done (l := [.tmp 4]) rfl rfl ⟨_, false, (fun h => by cases h), fun _ => by rw [hpe, hdj, ents_none (by rcases hge with ⟨g1, -, -⟩ | ⟨-, g2, -⟩; exact absurd g1 h18_87; exact g2)], rfl, rfl⟩ (by (repeat' constructor)) (by (repeat' constructor))
      ·have hgz : getZ ((l.drop i).getD j []) = some ge.pl := by rcases hge with ⟨-, g2, -⟩ | ⟨g1, -⟩; exact g2; omega
       have hgi : I64 ge.zx := (get_zx64 hgz : I64 ge.pl.zx)
       refine D.kNF (t := 86) rfl h18_87 ?_
       refine D.gqw [4, 7, 8, 9, 10, 11, 12, 13, 14, 15, 16] (t := 87) rfl rfl rfl (by kernel_rfl) (Quiet.fieldAddr rfl fo_38_0) ?_
       refine D.gqw [7, 8, 9, 10, 11, 12, 13, 14, 15, 16] (t := 87) rfl rfl rfl (by kernel_rfl) (Quiet.load rfl ag_3 (by (repeat' constructor)) (rfl)) ?_
       refine D.gqw [6, 7, 8, 9, 10, 11, 12, 13, 14, 15, 16] (t := 87) rfl rfl rfl (by kernel_rfl) (Quiet.move rfl) ?_
       refine D.gm (t := 87) rfl rfl rfl (by kernel_rfl) (OpSpec.call Tryz.func17 rfl rfl (vs := [_]) rfl (llastO_spec g x Λ hΛ ea ec za zc)) (by (repeat' constructor)) ?nx99
       refine D.gqw [8, 9, 10, 11, 12, 13, 14, 15, 16] (t := 87) rfl rfl rfl (by kernel_rfl) (Quiet.int rfl rfl rfl) ?_
       refine D.qw [9, 10, 11, 12, 13, 14, 15, 16] rfl (by kernel_rfl) (Quiet.pickF rfl rfl) ?_
       refine D.qw [10, 11, 12, 13, 14, 15, 16] rfl (by kernel_rfl) (Quiet.move rfl) ?_
       refine D.dec (t := 94) rfl (fun h18_94 => ?_) (fun h18_94 => ?_)
       ·refine D.kDT (t := 92) rfl h18_94 (D.kDT (t := 93) rfl h18_94 ?_)
        refine D.gs (t := 94) rfl rfl rfl rfl (by kernel_rfl) ?_
        refine D.gs (t := 94) rfl rfl rfl rfl (by kernel_rfl) ?_
        refine D.gs (t := 94) rfl rfl rfl rfl (by kernel_rfl) ?_
        refine D.gs (t := 94) rfl rfl rfl rfl (by kernel_rfl) ?_
        refine D.gs (t := 94) rfl rfl rfl rfl (by kernel_rfl) ?_
        refine D.gs (t := 94) rfl rfl rfl rfl (by kernel_rfl) ?_
        refine D.qw [] rfl (by kernel_rfl) (Quiet.pickT rfl rfl) ?_
        refine D.ph (Phases.fin (G.then_n (G.condT rfl (G.seq (G.region (G.q (Quiet.assign rfl) rfl (G.nil (G.then_n (G.ret (G.then_r (G.blk_r (G.then_r (G.then_r (G.blk_r (G.then_r ?_)))))))))))))))
        refine G.lgFold (g := g) (x := x) Λ (by (repeat' constructor)) (by exact rfl) (by first | rfl | simp [Lg.keep]) (by first | rfl | simp [Lg.keep]) (by first | rfl | simp [Lg.keep]) (by first | rfl | simp [Lg.keep]) ?_
        exact G.done (l := [.tmp 4]) rfl rfl ⟨_, false, (fun h => by cases h), fun _ => by rw [hpe, hdj, ents_bad hgz (by first | exact .inl h18_94 | exact .inr (by omega))], rfl, rfl⟩ (by (repeat' constructor)) (by (repeat' constructor))
       ·refine D.kDF (t := 92) rfl h18_94 (D.kDF (t := 93) rfl h18_94 ?_)
        refine D.gqw [11, 12, 13, 14, 15, 16] (t := 94) rfl rfl rfl (by kernel_rfl) (Quiet.move rfl) ?_
        refine D.gqw [12, 13, 14, 15, 16] (t := 94) rfl rfl rfl (by kernel_rfl) (Quiet.nilp rfl) ?_
        refine D.gqw [13, 14, 15, 16] (t := 94) rfl rfl rfl (by kernel_rfl) (Quiet.fieldAddr rfl fo_79_4) ?_
        refine D.gqw [14, 15, 16] (t := 94) rfl rfl rfl (by kernel_rfl) (Quiet.load rfl ag_46 (by (repeat' constructor)) (rfl)) ?_
        refine D.gqw [15, 16] (t := 94) rfl rfl rfl (by kernel_rfl) (Quiet.slen rfl Tryz.underlying46 rfl) ?_
        refine D.gqw [16] (t := 94) rfl rfl rfl (by kernel_rfl) (Quiet.int rfl rfl rfl) ?_
        refine D.qw [] rfl (by kernel_rfl) (Quiet.pickF rfl rfl) ?_
        refine D.ph (Phases.fin (G.then_n ?_))
        refine G.condD rfl (fun h101 => ?_) (fun h101 => ?_)
        ·refine G.seq (G.region (G.q (Quiet.assign rfl) rfl (G.nil (G.then_n (G.ret (G.then_r (G.blk_r (G.then_r (G.then_r (G.blk_r (G.then_r ?_)))))))))))
         refine G.lgFold (g := g) (x := x) Λ (by (repeat' constructor)) (by exact rfl) (by first | rfl | simp [Lg.keep]) (by first | rfl | simp [Lg.keep]) (by first | rfl | simp [Lg.keep]) (by first | rfl | simp [Lg.keep]) ?_
         exact G.done (l := [.tmp 4]) rfl rfl ⟨_, false, (fun h => by cases h), fun _ => by rw [hpe, hdj, ents_bad hgz (by first | exact .inl h18_94 | exact .inr (by omega))], rfl, rfl⟩ (by (repeat' constructor)) (by (repeat' constructor))
        ·refine G.lgFold (g := g) (x := x) Λ (by (repeat' constructor)) (by exact rfl) (by first | rfl | simp [Lg.keep]) (by first | rfl | simp [Lg.keep]) (by first | rfl | simp [Lg.keep]) (by first | rfl | simp [Lg.keep]) ?_
         have hkI : LgI (Λ.keep ((l.drop i).getD j []) ge.zx) := hΛ.keep (by have := hΛ.ents; omega) hsl hgi
         refine G.skip (G.then_n (G.region (G.q (Quiet.move rfl) rfl (G.q (Quiet.move rfl) rfl (G.q (Quiet.fieldAddr rfl fo_38_0) rfl ?_)))))
         refine G.q (Quiet.load rfl ag_3 (by (repeat' constructor)) (rfl)) rfl ?_
         refine G.op (OpSpec.call Tryz.func51 rfl rfl (vs := [_, _, _]) rfl (lkeep_spec g x Λ ((l.drop i).getD j []) ge.zx hΛ)) (by (repeat' constructor)) rfl ?nx114
         rintro v L' ⟨rfl, rfl⟩
         refine G.nil (G.blk_n (G.then_n (G.region ?_)))
         refine G.q (Quiet.add rfl rfl (by omega)) rfl ?_
         refine G.q (Quiet.move rfl) rfl (G.nil (G.then_n ?_))
         exact G.roundK ((j + 1, Λ.keep ((l.drop i).getD j []) ge.zx)) (⟨by dsimp only; omega, hkI, by rw [hpe, hdj, ents_step hgz (by rintro (g1 | g1); exact h18_94 g1; omega)]; rfl⟩) (by dsimp only; omega) ⟨rfl, rfl, rfl, rfl, trivial⟩ (by (repeat' constructor)) (by ((repeat (apply Have.cons; (repeat (first | exact Pick.here | apply Pick.there)))); apply Have.base; repeat' constructor))
     ·refine G.exit (G.then_e (G.then_e (G.blk_e (G.then_n (G.seq (G.region (G.q (Quiet.assign rfl) rfl (G.nil (G.then_n (G.ret ?_))))))))))
      exact G.done (l := [.tmp 4]) rfl rfl ⟨_, true, fun _ => by rw [hpe, List.drop_eq_nil_of_le (by rw [List.length_drop]; omega)]; rfl, (fun h => by cases h), rfl, rfl⟩ (by (repeat' constructor)) (by (repeat' constructor))

set_option maxRecDepth 100000 in
theorem lopen_spec (d : Nat) (δ : Dk) (hn : 2 ≤ δ.now.length ∧ δ.now.length ≤ 32768) (hok : δ.Ok) (hrs : ∀ ω, openZ δ = some ω → ω.doubt = false ∧ ω.recs.length ≤ 1048576 ∧ ∀ s ∈ ω.recs, s.length ≤ 1073741824) : Fn Tryz.prog 18 #[vptr d] [dkR d δ] fun v L => (δ.dead = true ∧ v = .tuple #[.pointer none, vint 2] ∧ L = [dkR d δ]) ∨
    (δ.dead = false ∧ openZ δ = none ∧ v = .tuple #[.pointer none, vint 80] ∧ L = [dkR d δ]) ∨ (δ.dead = false ∧ ∃ ω, openZ δ = some ω ∧ ((openLZ ω = none ∧ v = .tuple #[.pointer none, vint 80] ∧ L = [dkR d δ]) ∨ (∃ Λ g x, openLZ ω = some Λ ∧ v = .tuple #[vptr g, vint 0] ∧ L = [lgR g x Λ, wlR x d ω, dkR d δ]))) := by
 refine Fn.intro (vs := [vptr d]) Tryz.func18 rfl rfl ?_
 intro F W
 refine G.seq (G.region (G.q (Quiet.assign rfl) rfl (G.q (Quiet.assign rfl) rfl (G.nil (G.then_n (G.seq (G.region (G.q (Quiet.move rfl) rfl ?_))))))))
 refine G.op (OpSpec.call Tryz.func54 rfl rfl (vs := [_]) rfl (open_spec d δ hn hok)) (by (repeat' constructor)) rfl ?nx4
 rintro v L' (⟨hdd, rfl, rfl⟩ | ⟨hdd, hop, rfl, rfl⟩ | ⟨hdd, ω, hop, x, rfl, rfl⟩)
 ·refine G.q (Quiet.move rfl) rfl (G.q (Quiet.extract rfl rfl) rfl (G.q (Quiet.extract rfl rfl) rfl (G.q (Quiet.assign rfl) rfl (G.q (Quiet.assign rfl) rfl (G.nil (G.then_n (G.seq (G.block (G.seq (G.region (G.q (Quiet.move rfl) rfl ?_)))))))))))
  refine G.q (Quiet.as (v' := .bool false) (by rfl) (Quiet.int rfl rfl rfl)) rfl ?_
  refine G.q (Quiet.assign rfl) rfl (G.nil (G.then_n (G.condF rfl (G.seq (G.region (G.q (Quiet.move rfl) rfl ?_))))))
  refine G.q (Quiet.as (v' := .bool true) (by rfl) (Quiet.int rfl rfl rfl)) rfl ?_
  refine G.q (Quiet.assign rfl) rfl (G.nil (G.then_n (G.condT rfl (G.seq (G.region (G.q (Quiet.move rfl) rfl (G.q (Quiet.assign rfl) rfl (G.q (Quiet.assign rfl) rfl (G.nil (G.then_n (G.ret (G.blk_r (G.then_r ?_)))))))))))))
  exact G.done (l := [.tmp 2, .tmp 3]) rfl rfl (.inl ⟨hdd, rfl, rfl⟩) (by (repeat' constructor)) (by (repeat' constructor))
 ·refine G.q (Quiet.move rfl) rfl (G.q (Quiet.extract rfl rfl) rfl (G.q (Quiet.extract rfl rfl) rfl (G.q (Quiet.assign rfl) rfl (G.q (Quiet.assign rfl) rfl (G.nil (G.then_n (G.seq (G.block (G.seq (G.region (G.q (Quiet.move rfl) rfl ?_)))))))))))
  refine G.q (Quiet.as (v' := .bool true) (by rfl) (Quiet.int rfl rfl rfl)) rfl ?_
  refine G.q (Quiet.assign rfl) rfl (G.nil (G.then_n (G.condT rfl (G.seq (G.region (G.q (Quiet.assign rfl) rfl (G.q (Quiet.assign rfl) rfl (G.nil (G.then_n (G.ret (G.blk_r (G.then_r ?_))))))))))))
  exact G.done (l := [.tmp 2, .tmp 3]) rfl rfl (.inr (.inl ⟨hdd, hop, rfl, rfl⟩)) (by (repeat' constructor)) (by (repeat' constructor))
 ·obtain ⟨hr1, hr2, hr3⟩ := hrs ω hop
  refine G.q (Quiet.move rfl) rfl (G.q (Quiet.extract rfl rfl) rfl (G.q (Quiet.extract rfl rfl) rfl (G.q (Quiet.assign rfl) rfl (G.q (Quiet.assign rfl) rfl (G.nil (G.then_n (G.seq (G.block (G.seq (G.region (G.q (Quiet.move rfl) rfl ?_)))))))))))
  refine G.q (Quiet.as (v' := .bool false) (by rfl) (Quiet.int rfl rfl rfl)) rfl ?_
  refine G.q (Quiet.assign rfl) rfl (G.nil (G.then_n (G.condF rfl (G.seq (G.region (G.q (Quiet.move rfl) rfl ?_))))))
  refine G.q (Quiet.as (v' := .bool false) (by rfl) (Quiet.int rfl rfl rfl)) rfl ?_
  refine G.q (Quiet.assign rfl) rfl (G.nil (G.then_n (G.condF rfl (G.skip (G.blk_n (G.then_n (G.seq (G.region (G.q (Quiet.move rfl) rfl ?_)))))))))
  refine G.op (OpSpec.call Tryz.func55 rfl rfl (vs := [_]) rfl (wmarks_spec x d ω)) (by (repeat' constructor)) rfl ?nx22
  rintro v L' ⟨rfl, rfl⟩
  refine G.q (Quiet.move rfl) rfl (G.q (Quiet.extract rfl rfl) rfl (G.q (Quiet.extract rfl rfl) rfl (G.q (Quiet.assign rfl) rfl (G.q (Quiet.assign rfl) rfl (G.nil (G.then_n (G.seq (G.region (G.q (Quiet.move rfl) rfl (G.q (Quiet.move rfl) rfl ?_))))))))))
  refine G.q (Quiet.build (us := [(0, _), (1, _)]) fl_76 ze_76 rfl rfl (by simp [isCell])) rfl ?_
  refine G.q (Quiet.move rfl) rfl ?_
  refine G.q (Quiet.buildN (pl := [(0, 2), (2, 1), (3, 1), (4, 1), (5, 1), (6, 1), (7, 1)]) (us := [(0, _), (1, _)]) (cells := [vint ω.a, vint ω.b, vptr x, vint 0, vstr [], .slice none 0 0, .slice none 0 0, .bool false]) Tryz.underlying79 (by kernel_rfl) ze_79 rfl rfl) rfl ?_
  refine G.op (OpSpec.box rfl) (by (repeat' constructor)) rfl ?nx28
  rintro v L' ⟨g, rfl, rfl⟩
  refine G.q (Quiet.assign rfl) rfl (G.nil ?_)
  refine G.ptCast (b := g) (l' := [vint ω.a, vint ω.b, vptr x, vint 0, vstr [], .slice none 0 0, .slice none 0 0, .bool false]) (by (repeat' constructor)) rfl ?_
  refine G.add (slR_nil 9 1) (G.add (slR_nil 3 1) ?_)
  refine G.lgFold (g := g) (x := x) (ea := none) (ec := 0) (za := none) (zc := 0) (es := []) (zs := []) ⟨ω.a, ω.b, 0, [], [], [], false⟩ (by (repeat' constructor)) rfl rfl rfl rfl rfl ?_
  refine G.then_n (G.seq (G.region (G.q (Quiet.move rfl) rfl ?_)))
  refine G.op (OpSpec.call Tryz.func56 rfl rfl (vs := [_]) rfl (wrecords_spec x d ω (by omega))) (by (repeat' constructor)) rfl ?nx30
  rintro v L' (⟨h, -, -⟩ | ⟨-, aR, cR, rfl, rfl⟩); · rw [hr1] at h; cases h
  refine G.q (Quiet.move rfl) rfl (G.q (Quiet.extract rfl rfl) rfl (G.q (Quiet.extract rfl rfl) rfl (G.q (Quiet.assign rfl) rfl (G.q (Quiet.assign rfl) rfl (G.nil (G.then_n (G.seq (G.seq (G.region (G.q (Quiet.move rfl) rfl (G.q (Quiet.int rfl rfl rfl) rfl (G.q (Quiet.move rfl) rfl ?_))))))))))))
  refine G.dec (t := 41) rfl (fun h9_41 => ?_) (fun h9_41 => ?_)
  ·refine G.kDT (t := 40) rfl h9_41 (G.gskip (t := 41) rfl rfl rfl rfl (G.gskip (t := 41) rfl rfl rfl rfl (G.gskip (t := 41) rfl rfl rfl rfl (G.q (Quiet.pickT rfl rfl) rfl (G.q (Quiet.move rfl) rfl (G.gskip (t := 46) rfl rfl rfl rfl (G.gskip (t := 46) rfl rfl rfl rfl (G.gskip (t := 46) rfl rfl rfl rfl (G.gskip (t := 46) rfl rfl rfl rfl (G.q (Quiet.pickT rfl rfl) rfl (G.nil (G.then_n (G.condT rfl (G.seq (G.region (G.q (Quiet.assign rfl) rfl (G.q (Quiet.assign rfl) rfl (G.nil (G.then_n (G.ret (G.then_r ?_)))))))))))))))))))))
   exact G.done (l := [.tmp 2, .tmp 3]) rfl rfl (.inr (.inr ⟨hdd, ω, hop, .inl ⟨by unfold openLZ; rw [if_pos (.inl h9_41)], rfl, rfl⟩⟩)) (by (repeat' constructor)) (by (repeat' constructor))
  ·refine G.kDF (t := 40) rfl h9_41 (G.grun (t := 41) rfl rfl rfl (G.q (Quiet.move rfl) rfl (G.grun (t := 41) rfl rfl rfl (G.q (Quiet.move rfl) rfl (G.grun (t := 41) rfl rfl rfl (G.q (Quiet.int rfl rfl rfl) rfl (G.q (Quiet.pickF rfl rfl) rfl (G.q (Quiet.move rfl) rfl ?_))))))))
   refine G.dec (t := 46) rfl (fun h9_46 => ?_) (fun h9_46 => ?_)
   ·refine G.kDT (t := 44) rfl h9_46 (G.kDT (t := 45) rfl h9_46 (G.gskip (t := 46) rfl rfl rfl rfl (G.gskip (t := 46) rfl rfl rfl rfl (G.gskip (t := 46) rfl rfl rfl rfl (G.gskip (t := 46) rfl rfl rfl rfl (G.q (Quiet.pickT rfl rfl) rfl (G.nil (G.then_n (G.condT rfl (G.seq (G.region (G.q (Quiet.assign rfl) rfl (G.q (Quiet.assign rfl) rfl (G.nil (G.then_n (G.ret (G.then_r ?_)))))))))))))))))
    exact G.done (l := [.tmp 2, .tmp 3]) rfl rfl (.inr (.inr ⟨hdd, ω, hop, .inl ⟨by unfold openLZ; rw [if_pos (.inr h9_46)], rfl, rfl⟩⟩)) (by (repeat' constructor)) (by (repeat' constructor))
   ·refine G.kDF (t := 44) rfl h9_46 (G.kDF (t := 45) rfl h9_46 (G.grun (t := 46) rfl rfl rfl (G.q (Quiet.move rfl) rfl (G.grun (t := 46) rfl rfl rfl (G.q (Quiet.move rfl) rfl (G.grun (t := 46) rfl rfl rfl ?_))))))
    refine G.op (OpSpec.call Tryz.func57 rfl rfl (vs := [_, _]) rfl (lparse_spec g x ω.a ω.b (.slice aR ω.recs.length cR) ω.recs (strR (.slice aR ω.recs.length cR) ω.recs) (fun h hp => slR_rd hp) hr2 hr3)) (by (repeat' constructor)) rfl ?nx43
    rintro v L' ⟨Λ, ok, hpy, hpn, rfl, rfl⟩
    refine G.grun (t := 46) rfl rfl rfl (G.q (Quiet.not rfl) rfl (G.q (Quiet.pickF rfl rfl) rfl (G.nil (G.then_n ?_))))
    refine G.condB rfl (fun h51 => ?_) (fun h51 => ?_)
    ·refine G.seq (G.region (G.q (Quiet.assign rfl) rfl (G.q (Quiet.assign rfl) rfl (G.nil (G.then_n (G.ret (G.then_r ?_)))))))
     exact G.done (l := [.tmp 2, .tmp 3]) rfl rfl (.inr (.inr ⟨hdd, ω, hop, .inl ⟨by unfold openLZ; rw [if_neg (by rintro (g1 | g1); exact h9_41 g1; exact h9_46 g1)]; exact hpn (by simpa using h51), rfl, rfl⟩⟩)) (by (repeat' constructor)) (by (repeat' constructor))
    ·refine G.skip (G.then_n (G.seq (G.region (G.q (Quiet.move rfl) rfl (G.q (Quiet.assign rfl) rfl (G.q (Quiet.assign rfl) rfl (G.nil (G.then_n (G.ret ?_)))))))))
     exact G.done (l := [.tmp 2, .tmp 3]) rfl rfl (.inr (.inr ⟨hdd, ω, hop, .inr ⟨Λ, g, x, by unfold openLZ; rw [if_neg (by rintro (g1 | g1); exact h9_41 g1; exact h9_46 g1)]; exact hpy (by simpa using h51), rfl, rfl⟩⟩)) (by (repeat' constructor)) (by (repeat' constructor))

theorem OpSpec.preImp {P : Program} {E : Env} {o : Oper} {p p' : HP} {R : List HP} {K : Value → List HP → Prop} (hi : ∀ h, p h → p' h) (h : OpSpec P o E (p' :: R) K) : OpSpec P o E (p :: R) K := by
  intro ρ w F ha hs
  exact h ρ w F ha (sep_imp hi hs)
theorem shr32 (z : Int) : vint (z.fdiv (2 ^ min (32 : Int).toNat IntKind.i64.bits)) = vint (z / 4294967296) := by
  show vint (z.fdiv 4294967296) = _
  rw [Int.fdiv_eq_ediv_of_nonneg _ (by decide)]
theorem mk_step {all : List Int} {j : Nat} (h : j < all.length) : (all.take (j + 1)).foldl markStep [] = markStep ((all.take j).foldl markStep []) (all.getD j 0) := by
  rw [List.take_succ_eq_append_getElem h, List.foldl_append]
  simp [List.getD_eq_getElem?_getD, h]
theorem mk_0 {out : List Int} {z : Int} (h : z = 0) : markStep out z = out := by unfold markStep; rw [if_pos h]
theorem mk_same {out : List Int} {z : Int} (h : ¬ z = 0) (h2 : out ≠ []) (h3 : out.getLastD 0 / 4294967296 = z / 4294967296) : markStep out z = out.dropLast ++ [z] := by unfold markStep; rw [if_neg h, if_pos ⟨h2, h3⟩]
theorem mk_new {out : List Int} {z : Int} (h : ¬ z = 0) (h2 : out = [] ∨ ¬ out.getLastD 0 / 4294967296 = z / 4294967296) : markStep out z = out ++ [z] := by
  unfold markStep; rw [if_neg h, if_neg]
  rintro ⟨g1, g2⟩; rcases h2 with h2 | h2
  · exact g1 h2
  · exact h2 g2
theorem set_last {out : List Int} {i : Nat} (h : i + 1 = out.length) (z : Int) : out.set i z = out.dropLast ++ [z] := by
  obtain ⟨l, x, rfl⟩ : ∃ l x, out = l ++ [x] := ⟨out.dropLast, out.getLast (by intro g; subst g; simp at h), (List.dropLast_concat_getLast _).symm⟩
  rw [List.length_append, List.length_singleton] at h
  obtain rfl : i = l.length := by omega
  simp
theorem lastD_at {out : List Int} {i : Nat} (h : i + 1 = out.length) : out.getLastD 0 = out.getD i 0 := by
  obtain ⟨l, x, rfl⟩ : ∃ l x, out = l ++ [x] := ⟨out.dropLast, out.getLast (by intro g; subst g; simp at h), (List.dropLast_concat_getLast _).symm⟩
  rw [List.length_append, List.length_singleton] at h
  obtain rfl : i = l.length := by omega
  simp [List.getD_eq_getElem?_getD]
theorem mk_len (out : List Int) (z : Int) : (markStep out z).length ≤ out.length + 1 := by
  unfold markStep
  split
  · omega
  · split
    · rw [List.length_append, List.length_dropLast, List.length_singleton]; omega
    · rw [List.length_append, List.length_singleton]; omega
theorem mk_lens (all : List Int) (j : Nat) (h : j ≤ all.length) : ((all.take j).foldl markStep []).length ≤ j := by
  induction j with
  | zero => simp
  | succ j ih =>
    rw [mk_step (by omega)]
    have := mk_len ((all.take j).foldl markStep []) (all.getD j 0)
    have := ih (by omega)
    omega
set_option maxRecDepth 100000 in
theorem lmarks_spec (g x : Nat) (Λ : Lg) (hΛ : LgI Λ) : Fn Tryz.prog 15 #[vptr g] [lgR g x Λ] fun v L => ∃ a c, v = .slice a (marksZ Λ).length c ∧ L = [lgR g x Λ, intR v (marksZ Λ)] := by
 refine Fn.intro (vs := [vptr g]) Tryz.func15 rfl rfl ?_
 intro F W
 refine G.lgOpen (by (repeat' constructor)) fun ea ec za zc => ?_
 have h1 := hΛ.ents
 have h2 := hΛ.same
 refine G.seq (G.region (G.q (Quiet.assign rfl) rfl (G.nil (G.then_n (G.seq (G.add (slR_nil 3 1) (G.region (G.q (Quiet.assign rfl) rfl (G.nil (G.then_n (G.seq (G.seq ?_))))))))))))
 refine G.draw [4, 9] [[0, 1, 2, 3, 5, 6, 7, 8, 11, 4, 9, 10]] mixed (by kernel_rfl) ?_
 refine Phases.go [ptc g _ _] (by (repeat' constructor)) ?_
 refine D.qw [1, 2, 3, 4, 9, 10] rfl (by kernel_rfl) (Quiet.move rfl) ?_
 refine D.qw [2, 3, 4, 9, 10] rfl (by kernel_rfl) (Quiet.nilp rfl) ?_
 refine D.qw [3, 4, 9, 10] rfl (by kernel_rfl) (Quiet.fieldAddr rfl fo_79_2) ?_
 refine D.qw [4, 9, 10] rfl (by kernel_rfl) (Quiet.load rfl ag_3 (by (repeat' constructor)) (rfl)) ?_
 refine D.q rfl (by kernel_rfl) (Quiet.move rfl) ?_
 refine D.q rfl (by kernel_rfl) (Quiet.nilp rfl) ?_
 refine D.q rfl (by kernel_rfl) (Quiet.fieldAddr rfl fo_79_5) ?_
 refine D.q rfl (by kernel_rfl) (Quiet.load rfl ag_31 (by (repeat' constructor)) (rfl)) ?_
 refine D.q rfl (by kernel_rfl) (Quiet.move rfl) ?_
 refine D.h rfl (by kernel_rfl) (OpSpec.buildSlice1 (vs := [_]) el_31 ze_3 rfl rfl rfl rfl rfl (by decide)) (by (repeat' constructor)) ?nx12
 rintro v L' ⟨b4, rfl, rfl⟩
 refine D.h rfl (by kernel_rfl) (OpSpec.preImp (p := ptc b4 [vint Λ.base] 3) (p' := slR 3 1 (.slice (some ⟨b4, 0, none⟩) 1 1) 1 [vint Λ.base]) (fun h hp => slR_pt hp rfl) (OpSpec.append (n := 1) (m := Λ.zxs.length) (xs := [vint Λ.base]) (ys := ints Λ.zxs) (p := intR (.slice za Λ.zxs.length zc) Λ.zxs) rfl rfl rfl el_31 (.inl ⟨_, Tryz.underlying31⟩) ze_3 rfl rfl ?hc14 ?hr15 ?hb16 (by decide))) (by (repeat' constructor)) ?nx17
 case hc14 => intro y hy; obtain ⟨z, -, rfl⟩ := List.mem_map.1 hy; rfl
 case hr15 => exact fun h hp => slR_rd hp
 case hb16 => omega
 rintro v L' ⟨⟨a9, c9, rfl⟩, rfl⟩
 refine D.qw [] rfl (by kernel_rfl) (Quiet.slen rfl Tryz.underlying31 rfl) ?_
 refine D.ph (Phases.fin ?_)
 refine G.slShape (v := .slice a9 _ c9) (by (repeat' constructor)) (by omega) fun b9 cc9 e0 mb9 _ => ?_
 simp only [Value.slice.injEq, true_and] at e0
 obtain ⟨rfl, rfl⟩ := e0
 have hall : (Λ.base :: Λ.zxs).length = 1 + Λ.zxs.length := by rw [List.length_cons]; omega
 refine G.then_n (G.block ?_)
 refine G.loopK (ι := Nat × Value × (List Int)) (fun q E => (18, vint q.1) :: (3, q.2.1) :: E) (fun q => [intR q.2.1 q.2.2]) (fun q => q.1 ≤ 1 + Λ.zxs.length ∧ (∃ a c, q.2.1 = .slice a q.2.2.length c) ∧ q.2.2 = (((Λ.base :: Λ.zxs).take q.1).foldl markStep [])) (fun q => 1 + Λ.zxs.length - q.1) (0, .slice none 0 0, []) (ts := [2, 16, 17]) (.cons rfl (.cons rfl (.cons rfl (.nil)))) (⟨Nat.zero_le _, ⟨none, 0, rfl⟩, rfl⟩) ⟨rfl, rfl, rfl, rfl, rfl, trivial⟩ (by (repeat' constructor)) ?_
 rintro ⟨j, u, out⟩ ⟨hj, ⟨au, cu, hu⟩, ho⟩
 dsimp only
 dsimp only at hj hu ho
 subst hu
 have hol : out.length ≤ j := by rw [ho]; exact mk_lens _ _ (by omega)
 refine G.seq (G.region (G.q (Quiet.int rfl rfl rfl) rfl (G.nil (G.then_n (G.seq ?_)))))
 refine G.condD rfl (fun h19 => ?_) (fun h19 => ?_)
 ·refine G.skip (G.then_n (G.seq (G.block (G.seq (G.region ?_)))))
  refine G.q (Quiet.indexAddr rfl rfl el_31 (by omega)) rfl ?_
  refine G.q (Quiet.loadEl (p := slR 3 1 (.slice (some ⟨b9, 0, none⟩) (1 + Λ.zxs.length) c9) (1 + Λ.zxs.length) ([vint Λ.base] ++ ints Λ.zxs)) (i := j * 1) (v := vint ((Λ.base :: Λ.zxs).getD j 0)) rfl ag_3 (by (repeat' constructor)) (fun h hp => slR_rd hp) (by have hjl : j < (Λ.base :: Λ.zxs).length := (by omega); rw [show [vint Λ.base] ++ ints Λ.zxs = ints (Λ.base :: Λ.zxs) from rfl]; simp only [ints, List.getElem?_map, Nat.mul_one, List.getElem?_eq_getElem hjl, List.getD_eq_getElem?_getD]; rfl)) rfl ?_
  refine G.q (Quiet.assign rfl) rfl (G.nil (G.then_n (G.seq (G.region (G.q (Quiet.move rfl) rfl (G.q (Quiet.slen rfl Tryz.underlying31 rfl) rfl (G.q (Quiet.assign rfl) rfl (G.nil (G.then_n (G.block (G.seq (G.region (G.q (Quiet.move rfl) rfl (G.q (Quiet.int rfl rfl rfl) rfl (G.q (Quiet.assign rfl) rfl (G.nil (G.then_n ?_)))))))))))))))))
  refine G.condD rfl (fun h28 => ?_) (fun h28 => ?_)
  ·refine G.skip (G.blk_n (G.blk_n (G.then_n (G.region ?_))))
   refine G.q (Quiet.add rfl rfl (by omega)) rfl ?_
   refine G.q (Quiet.move rfl) rfl (G.nil (G.then_n ?_))
   exact G.roundK ((j + 1, .slice au out.length cu, out)) (⟨by dsimp only; omega, ⟨_, _, rfl⟩, by dsimp only; rw [mk_step (by omega), ← ho, mk_0 h28]⟩) (by dsimp only; omega) ⟨rfl, rfl, rfl, rfl, rfl, trivial⟩ (by (repeat' constructor)) (by ((repeat (apply Have.cons; (repeat (first | exact Pick.here | apply Pick.there)))); apply Have.base; repeat' constructor))
  ·refine G.seq (G.region (G.q (Quiet.move rfl) rfl (G.q (Quiet.int rfl rfl rfl) rfl (G.q (Quiet.move rfl) rfl ?_))))
   refine G.dec (t := 34) rfl (fun h8_34 => ?_) (fun h8_34 => ?_)
   ·obtain ⟨i, hi⟩ : ∃ i, i + 1 = out.length := ⟨out.length - 1, by omega⟩
    refine G.slShape (v := .slice au _ cu) (xs := ints out) (by (repeat' constructor)) (by omega) fun bu cu' e0 mbu _ => ?_
    simp only [Value.slice.injEq, true_and] at e0
    obtain ⟨rfl, rfl⟩ := e0
    refine G.kDT (t := 33) rfl h8_34 (G.grun (t := 34) rfl rfl rfl (G.q (Quiet.move rfl) rfl (G.grun (t := 34) rfl rfl rfl (G.q (Quiet.move rfl) rfl (G.grun (t := 34) rfl rfl rfl ?_)))))
    refine G.q (Quiet.as (v' := vint (i : Nat)) (by congr 1; omega) (Quiet.sub rfl rfl (by omega))) rfl ?_
    refine G.grun (t := 34) rfl rfl rfl ?_
    refine G.q (Quiet.indexAddr rfl rfl el_31 (by omega)) rfl ?_
    refine G.grun (t := 34) rfl rfl rfl ?_
    refine G.q (Quiet.loadEl (p := intR (.slice (some ⟨bu, 0, none⟩) out.length cu) out) (i := i * 1) (v := vint (out.getD i 0)) rfl ag_3 (by (repeat' constructor)) (fun h hp => slR_rd hp) (by have hil : i < out.length := (by omega); simp [ints, List.getD_eq_getElem?_getD, hil])) rfl ?_
    refine G.grun (t := 34) rfl rfl rfl ?_
    refine G.q (Quiet.as (v' := vint (out.getD i 0 / 4294967296)) (by exact shr32 _) (Quiet.shr rfl rfl (by first | decide | omega))) rfl ?_
    refine G.grun (t := 34) rfl rfl rfl (G.q (Quiet.move rfl) rfl (G.grun (t := 34) rfl rfl rfl ?_))
    refine G.q (Quiet.as (v' := vint ((Λ.base :: Λ.zxs).getD j 0 / 4294967296)) (by exact shr32 _) (Quiet.shr rfl rfl (by first | decide | omega))) rfl ?_
    refine G.grun (t := 34) rfl rfl rfl (G.q (Quiet.int rfl rfl rfl) rfl (G.q (Quiet.pickT rfl rfl) rfl (G.q (Quiet.assign rfl) rfl (G.nil (G.then_n ?_)))))
    refine G.condD rfl (fun h31 => ?_) (fun h31 => ?_)
    ·refine G.region (G.q (Quiet.move rfl) rfl (G.q (Quiet.move rfl) rfl ?_))
     refine G.q (Quiet.as (v' := vint (i : Nat)) (by congr 1; omega) (Quiet.sub rfl rfl (by omega))) rfl ?_
     refine G.q (Quiet.move rfl) rfl ?_
     refine G.q (Quiet.indexAddr rfl rfl el_31 (by omega)) rfl ?_
     refine G.op (OpSpec.storeRd (sz := 1) (n := out.length) (c := cu) (j := i * 1) (xs := ints out) rfl rfl rfl sz_3 ?h138 ?h239) (by (repeat' constructor)) rfl ?nx40
     case h138 => simp
     case h239 => omega
     rintro v L' rfl
     refine G.nil (G.blk_n (G.blk_n (G.then_n (G.region ?_))))
     refine G.q (Quiet.add rfl rfl (by omega)) rfl ?_
     refine G.q (Quiet.move rfl) rfl (G.nil (G.then_n ?_))
     refine G.slCast (T := 3) (sz := 1) (m' := (out.set i ((Λ.base :: Λ.zxs).getD j 0)).length) (xs' := ints (out.set i ((Λ.base :: Λ.zxs).getD j 0))) (by (repeat' constructor)) (by simp) (by simp [ints, List.map_set]) ?_
     exact G.roundK ((j + 1, .slice (some ⟨bu, 0, none⟩) out.length cu, out.set i ((Λ.base :: Λ.zxs).getD j 0))) (⟨by dsimp only; omega, ⟨some ⟨bu, 0, none⟩, cu, by simp⟩, by dsimp only; rw [mk_step (by omega), ← ho, mk_same h28 (by intro g; rw [g] at hi; simp at hi) (by rw [lastD_at hi]; exact h31), set_last hi]⟩) (by dsimp only; omega) ⟨rfl, rfl, rfl, rfl, rfl, trivial⟩ (by (repeat' constructor)) (by ((repeat (apply Have.cons; (repeat (first | exact Pick.here | apply Pick.there)))); apply Have.base; repeat' constructor))
    ·refine G.region (G.q (Quiet.move rfl) rfl (G.q (Quiet.move rfl) rfl ?_))
     refine G.op (OpSpec.buildSlice1 (vs := [_]) el_31 ze_3 rfl rfl rfl rfl rfl (by decide)) (by (repeat' constructor)) rfl ?nx43
     rintro v L' ⟨b6, rfl, rfl⟩
     refine G.op (OpSpec.append1 rfl rfl rfl el_31 ze_3 rfl rfl ?c45 ?c46 (Nat.le_refl _) ?c47 (by decide)) (by (repeat' constructor)) rfl ?nx48
     case c45 => (first | (simp [isCell]; done) | (simp [isCell, setAll, Value.cells]; done))
     case c46 => rfl
     case c47 => omega
     rintro v L' ⟨⟨a6, c6, rfl⟩, rfl⟩
     refine G.q (Quiet.assign rfl) rfl (G.nil (G.blk_n (G.blk_n (G.then_n (G.region ?_)))))
     refine G.q (Quiet.add rfl rfl (by omega)) rfl ?_
     refine G.q (Quiet.move rfl) rfl (G.nil (G.then_n ?_))
     refine G.slCast (T := 3) (sz := 1) (m' := (out ++ [(Λ.base :: Λ.zxs).getD j 0]).length) (xs' := ints (out ++ [(Λ.base :: Λ.zxs).getD j 0])) (by (repeat' constructor)) (by simp) (by simp [ints, Value.cells]) ?_
     exact G.roundK ((j + 1, .slice a6 (out.length + 1) c6, out ++ [(Λ.base :: Λ.zxs).getD j 0])) (⟨by dsimp only; omega, ⟨a6, c6, by simp⟩, by dsimp only; rw [mk_step (by omega), ← ho, mk_new h28 (.inr (by rw [lastD_at hi]; exact h31))]⟩) (by dsimp only; omega) ⟨rfl, rfl, rfl, rfl, rfl, trivial⟩ (by (repeat' constructor)) (by ((repeat (apply Have.cons; (repeat (first | exact Pick.here | apply Pick.there)))); apply Have.base; repeat' constructor))
   ·refine G.kDF (t := 33) rfl h8_34 (G.gskip (t := 34) rfl rfl rfl rfl (G.gskip (t := 34) rfl rfl rfl rfl (G.gskip (t := 34) rfl rfl rfl rfl (G.gskip (t := 34) rfl rfl rfl rfl (G.gskip (t := 34) rfl rfl rfl rfl (G.gskip (t := 34) rfl rfl rfl rfl (G.gskip (t := 34) rfl rfl rfl rfl (G.gskip (t := 34) rfl rfl rfl rfl (G.gskip (t := 34) rfl rfl rfl rfl (G.q (Quiet.pickF rfl rfl) rfl (G.q (Quiet.assign rfl) rfl (G.nil (G.then_n (G.condF rfl (G.region (G.q (Quiet.move rfl) rfl (G.q (Quiet.move rfl) rfl ?_)))))))))))))))))
    refine G.op (OpSpec.buildSlice1 (vs := [_]) el_31 ze_3 rfl rfl rfl rfl rfl (by decide)) (by (repeat' constructor)) rfl ?nx53
    rintro v L' ⟨b6, rfl, rfl⟩
    refine G.op (OpSpec.append1 rfl rfl rfl el_31 ze_3 rfl rfl ?c55 ?c56 (Nat.le_refl _) ?c57 (by decide)) (by (repeat' constructor)) rfl ?nx58
    case c55 => (first | (simp [isCell]; done) | (simp [isCell, setAll, Value.cells]; done))
    case c56 => rfl
    case c57 => omega
    rintro v L' ⟨⟨a6, c6, rfl⟩, rfl⟩
    refine G.q (Quiet.assign rfl) rfl (G.nil (G.blk_n (G.blk_n (G.then_n (G.region ?_)))))
    refine G.q (Quiet.add rfl rfl (by omega)) rfl ?_
    refine G.q (Quiet.move rfl) rfl (G.nil (G.then_n ?_))
    refine G.slCast (T := 3) (sz := 1) (m' := (out ++ [(Λ.base :: Λ.zxs).getD j 0]).length) (xs' := ints (out ++ [(Λ.base :: Λ.zxs).getD j 0])) (by (repeat' constructor)) (by simp) (by simp [ints, Value.cells]) ?_
    exact G.roundK ((j + 1, .slice a6 (out.length + 1) c6, out ++ [(Λ.base :: Λ.zxs).getD j 0])) (⟨by dsimp only; omega, ⟨a6, c6, by simp⟩, by dsimp only; rw [mk_step (by omega), ← ho, mk_new h28 (.inl (List.eq_nil_of_length_eq_zero (by omega)))]⟩) (by dsimp only; omega) ⟨rfl, rfl, rfl, rfl, rfl, trivial⟩ (by (repeat' constructor)) (by ((repeat (apply Have.cons; (repeat (first | exact Pick.here | apply Pick.there)))); apply Have.base; repeat' constructor))
 ·have hje : j = 1 + Λ.zxs.length := by omega
  have hoz : out = marksZ Λ := by rw [ho, hje]; unfold marksZ; rw [List.take_of_length_le (by omega)]
  subst hoz
  refine G.exit (G.then_e (G.then_e (G.blk_e (G.then_n (G.seq (G.region (G.q (Quiet.move rfl) rfl ?_)))))))
  refine G.op (OpSpec.call Tryz.func52 rfl rfl (vs := [_]) rfl (clipI_spec _ _ _)) (by (repeat' constructor)) rfl ?nx62
  rintro v L' ⟨⟨ac, cc, rfl⟩, rfl⟩
  refine G.q (Quiet.assign rfl) rfl (G.nil (G.then_n (G.ret ?_)))
  refine G.lgFold (g := g) (x := x) (ea := ea) (ec := ec) (za := za) (zc := zc) (m := Λ.ents.length) (k := Λ.zxs.length) Λ (by (repeat' constructor)) (by exact rfl) (by first | rfl | simp [Lg.keep]) (by first | rfl | simp [Lg.keep]) (by first | rfl | simp [Lg.keep]) (by first | rfl | simp [Lg.keep]) ?_
  exact G.done (l := [.tmp 2]) rfl rfl ⟨_, _, rfl, rfl⟩ (by (repeat' constructor)) (by (repeat' constructor))

def behindT (Λ : Lg) (z : Int) (j : Nat) : List En := (((Λ.ents.zip Λ.zxs).take j).filter fun q => decide (q.2 > z)).map entAt
theorem behind_step {Λ : Lg} {z : Int} {j : Nat} (h1 : j < Λ.ents.length) (h2 : j < Λ.zxs.length) : behindT Λ z (j + 1) = if Λ.zxs.getD j 0 > z then behindT Λ z j ++ [entAt (Λ.ents.getD j [], Λ.zxs.getD j 0)] else behindT Λ z j := by
  have hz : j < (Λ.ents.zip Λ.zxs).length := by rw [List.length_zip]; omega
  unfold behindT
  rw [List.take_succ_eq_append_getElem hz, List.filter_append, List.map_append]
  have e : (Λ.ents.zip Λ.zxs)[j] = (Λ.ents.getD j [], Λ.zxs.getD j 0) := by simp [List.getD_eq_getElem?_getD, h1, h2]
  rw [e]
  split
  · rename_i g
    rw [List.filter_cons_of_pos (by simpa using g)]; rfl
  · rename_i g
    rw [List.filter_cons_of_neg (by simpa using g)]; simp
theorem enK0 : EnK en0 := ⟨⟨rfl, rfl⟩, fun y hy => by cases hy⟩
theorem GotZ.at {s : Bs} {e : En} {er : Int} (h : GotZ s e er) (z : Int) : e.pl = entAt (s, z) ∧ EnK e := by
  unfold entAt
  rcases h with ⟨-, h1, h2⟩ | ⟨-, h1, rfl⟩
  · exact ⟨by dsimp only; rw [h1]; rfl, h2⟩
  · exact ⟨by dsimp only; rw [h1]; rfl, enK0⟩
set_option maxRecDepth 100000 in
theorem lentries_spec (g x : Nat) (Λ : Lg) (z : Int) (hΛ : LgI Λ) : Fn Tryz.prog 16 #[vptr g, vint z] [lgR g x Λ] fun v L => (z < Λ.base ∧ v = .tuple #[.slice none 0 0, vint 81] ∧ L = [lgR g x Λ]) ∨ (¬ z < Λ.base ∧ ∃ es : List En, es.map En.pl = behindL Λ z ∧ (∀ e ∈ es, EnK e) ∧ ∃ a c, v = .tuple #[.slice a es.length c, vint 0] ∧ L = [lgR g x Λ, slR 38 11 (.slice a es.length c) es.length (es.flatMap enC), bigR entR es]) := by
 refine Fn.intro (vs := [vptr g, vint z]) Tryz.func16 rfl rfl ?_
 intro F W
 refine G.lgOpen (by (repeat' constructor)) fun ea ec za zc => ?_
 have h1 := hΛ.ents
 have h2 := hΛ.same
 refine G.seq (G.region (G.q (Quiet.assign rfl) rfl (G.q (Quiet.assign rfl) rfl (G.nil (G.then_n (G.seq (G.seq (G.region (G.q (Quiet.move rfl) rfl (G.q (Quiet.move rfl) rfl (G.q (Quiet.nilp rfl) rfl (G.q (Quiet.fieldAddr rfl fo_79_2) rfl ?_))))))))))))
 refine G.q (Quiet.load rfl ag_3 (by (repeat' constructor)) (rfl)) rfl ?_
 refine G.q (Quiet.int rfl rfl rfl) rfl (G.nil (G.then_n ?_))
 refine G.condD rfl (fun h16 => ?_) (fun h16 => ?_)
 ·refine G.seq (G.region (G.q (Quiet.assign rfl) rfl (G.q (Quiet.assign rfl) rfl (G.nil (G.then_n (G.ret (G.then_r ?_)))))))
  refine G.lgFold (g := g) (x := x) (ea := ea) (ec := ec) (za := za) (zc := zc) (m := Λ.ents.length) (k := Λ.zxs.length) Λ (by (repeat' constructor)) (by exact rfl) (by first | rfl | simp [Lg.keep]) (by first | rfl | simp [Lg.keep]) (by first | rfl | simp [Lg.keep]) (by first | rfl | simp [Lg.keep]) ?_
  exact G.done (l := [.tmp 4, .tmp 5]) rfl rfl (.inl ⟨h16, rfl, rfl⟩) (by (repeat' constructor)) (by (repeat' constructor))
 ·refine G.skip (G.then_n (G.seq (G.add (slR_nil 38 11) ?_)))
  refine G.add (p := bigR entR []) (fun h => big_nil h) ?_
  refine G.region (G.q (Quiet.assign rfl) rfl (G.nil (G.then_n (G.seq (G.seq (G.region (G.q (Quiet.move rfl) rfl (G.q (Quiet.nilp rfl) rfl (G.q (Quiet.fieldAddr rfl fo_79_4) rfl ?_)))))))))
  refine G.q (Quiet.load rfl ag_46 (by (repeat' constructor)) (rfl)) rfl ?_
  refine G.q (Quiet.slen rfl Tryz.underlying46 rfl) rfl (G.q (Quiet.move rfl) rfl (G.nil (G.then_n (G.block ?_))))
  refine G.loopK (ι := Nat × Value × (List En)) (fun q E => (22, vint q.1) :: (6, q.2.1) :: E) (fun q => [slR 38 11 q.2.1 q.2.2.length (q.2.2.flatMap enC), bigR entR q.2.2]) (fun q => q.1 ≤ Λ.ents.length ∧ (∃ a c, q.2.1 = .slice a q.2.2.length c) ∧ q.2.2.map En.pl = behindT Λ z q.1 ∧ (∀ e ∈ q.2.2, EnK e) ∧ q.2.2.length ≤ q.1) (fun q => Λ.ents.length - q.1) (0, .slice none 0 0, []) (ts := [0, 1, 4, 5, 20, 21]) (.cons rfl (.cons rfl (.cons rfl (.cons rfl (.cons rfl (.cons rfl (.nil))))))) (⟨Nat.zero_le _, ⟨none, 0, rfl⟩, rfl, (fun e he => by cases he), Nat.le_refl _⟩) ⟨rfl, rfl, rfl, rfl, rfl, rfl, rfl, rfl, trivial⟩ (by (repeat' constructor)) ?_
  rintro ⟨j, u, es⟩ ⟨hj, ⟨au, cu, hu⟩, hes, hek, hel⟩
  dsimp only
  dsimp only at hj hu hes hek hel
  subst hu
  refine G.seq (G.region (G.q (Quiet.int rfl rfl rfl) rfl (G.nil (G.then_n (G.seq ?_)))))
  refine G.condD rfl (fun h23 => ?_) (fun h23 => ?_)
  ·have hj2 : j < Λ.ents.length := by omega
   have hjz : j < Λ.zxs.length := by omega
   refine G.slShape (v := .slice ea _ ec) (xs := strs Λ.ents) (by (repeat' constructor)) (by omega) fun be ce' e0 mbe _ => ?_
   simp only [Value.slice.injEq, true_and] at e0
   obtain ⟨rfl, rfl⟩ := e0
   refine G.slShape (v := .slice za _ zc) (xs := ints Λ.zxs) (by (repeat' constructor)) (by omega) fun bz cz e0 mbz _ => ?_
   simp only [Value.slice.injEq, true_and] at e0
   obtain ⟨rfl, rfl⟩ := e0
   have hsl : (Λ.ents.getD j []).length ≤ 1073741824 := by rw [List.getD_eq_getElem?_getD, List.getElem?_eq_getElem hj2]; exact hΛ.each _ (List.getElem_mem hj2)
   refine G.skip (G.then_n (G.seq (G.block (G.seq (G.region (G.q (Quiet.move rfl) rfl ?_))))))
   refine G.q (Quiet.indexAddr rfl rfl el_46 (by omega)) rfl ?_
   refine G.q (Quiet.loadEl (p := strR (.slice (some ⟨be, 0, none⟩) Λ.ents.length ec) Λ.ents) (i := j * 1) (v := vstr (Λ.ents.getD j [])) rfl ag_9 (by (repeat' constructor)) (fun h hp => slR_rd hp) (by simp [strs, List.getD_eq_getElem?_getD, hj2])) rfl ?_
   refine G.q (Quiet.assign rfl) rfl (G.q (Quiet.assign rfl) rfl (G.nil (G.then_n (G.seq (G.region (G.q (Quiet.move rfl) rfl (G.q (Quiet.nilp rfl) rfl (G.q (Quiet.fieldAddr rfl fo_79_5) rfl ?_))))))))
   refine G.q (Quiet.load rfl ag_31 (by (repeat' constructor)) (rfl)) rfl ?_
   refine G.q (Quiet.move rfl) rfl ?_
   refine G.q (Quiet.indexAddr rfl rfl el_31 (by omega)) rfl ?_
   refine G.q (Quiet.loadEl (p := intR (.slice (some ⟨bz, 0, none⟩) Λ.zxs.length zc) Λ.zxs) (i := j * 1) (v := vint (Λ.zxs.getD j 0)) rfl ag_3 (by (repeat' constructor)) (fun h hp => slR_rd hp) (by simp [ints, List.getD_eq_getElem?_getD, hjz])) rfl ?_
   refine G.q (Quiet.move rfl) rfl (G.q (Quiet.int rfl rfl rfl) rfl (G.nil (G.then_n ?_)))
   refine G.condD rfl (fun h35 => ?_) (fun h35 => ?_)
   ·refine G.seq (G.region (G.q (Quiet.move rfl) rfl ?_))
    refine G.op (OpSpec.call Tryz.func53 rfl rfl (vs := [_]) rfl (wget_spec (Λ.ents.getD j []) (by omega))) (by (repeat' constructor)) rfl ?nx30
    rintro v L' ⟨ge, er, hge, rfl, rfl⟩
    refine G.q (Quiet.move rfl) rfl (G.q (Quiet.extract rfl rfl) rfl (G.q (Quiet.extract rfl rfl) rfl ?_))
    refine G.op (OpSpec.allocA ze_38) (by (repeat' constructor)) rfl ?nx34
    rintro v L' ⟨b9, rfl, rfl⟩
    refine G.op (OpSpec.storeA rfl rfl ?c36 sz_38 ?c39 ?c37 ?c38) (by (repeat' constructor)) rfl ?nx40
    case c36 => exact hge.cells
    case c39 => rfl
    case c37 => simp [enC, ptC]
    case c38 => exact nfz0 _ _
    rintro v L' rfl
    refine G.q (Quiet.assign rfl) rfl (G.nil ?_)
    refine G.ptCast (b := b9) (l' := enC ge) (by (repeat' constructor)) (by exact rfl) ?_
    refine G.then_n (G.region (G.q (Quiet.move rfl) rfl ?_))
    refine G.q (Quiet.loadAs (vs := enC ge) rfl ag_38 (by (repeat' constructor)) (by simp [enC, ptC]) rfl) rfl ?_
    refine G.op (OpSpec.buildSlice (vs := [_]) el_22 ze_38 rfl rfl rfl rfl (by first | (simp [Value.cells]; done) | (intro v hv; simp only [List.mem_cons, List.not_mem_nil, or_false] at hv; (repeat (first | (subst hv; rfl) | (rcases hv with hv | hv; (subst hv; rfl)))))) (by decide)) (by (repeat' constructor)) rfl ?nx43
    rintro v L' ⟨b10, rfl, rfl⟩
    refine G.op (OpSpec.append1 rfl rfl rfl el_22 ze_38 rfl rfl ?c45 ?c46 (Nat.le_refl _) ?c47 (by decide)) (by (repeat' constructor)) rfl ?nx48
    case c45 => simp only [List.map_cons, List.map_nil, List.flatten_cons, List.flatten_nil, List.append_nil]; simp only [Value.cells]; intro z hz; exact hge.cells z (by simpa using hz)
    case c46 => rfl
    case c47 => omega
    rintro v L' ⟨⟨a6, c6, rfl⟩, rfl⟩
    refine G.q (Quiet.assign rfl) rfl (G.nil (G.blk_n (G.then_n (G.region ?_))))
    refine G.q (Quiet.add rfl rfl (by omega)) rfl ?_
    refine G.q (Quiet.move rfl) rfl (G.nil (G.then_n ?_))
    refine G.bigAdd (f := entR) (l := es) (p := entR ge) ge rfl (by (repeat' constructor)) ?_
    refine G.slCast (T := 38) (sz := 11) (m' := (es ++ [ge]).length) (xs' := (es ++ [ge]).flatMap enC) (by (repeat' constructor)) (by simp) (by rw [List.flatMap_append]; simp [Value.cells]) ?_
    exact G.roundK ((j + 1, .slice a6 (es.length + 1) c6, es ++ [ge])) (⟨by dsimp only; omega, ⟨a6, c6, by simp⟩, by dsimp only; rw [behind_step (by omega) (by omega), if_pos h35, List.map_append, hes, ← (hge.at (Λ.zxs.getD j 0)).1]; rfl, (fun e he => by rcases List.mem_append.1 he with he | he; exact hek e he; rw [List.mem_singleton] at he; subst he; exact (hge.at 0).2), by dsimp only; rw [List.length_append, List.length_singleton]; omega⟩) (by dsimp only; omega) ⟨rfl, rfl, rfl, rfl, rfl, rfl, rfl, rfl, trivial⟩ (by (repeat' constructor)) (by ((repeat (apply Have.cons; (repeat (first | exact Pick.here | apply Pick.there)))); apply Have.base; repeat' constructor))
   ·refine G.skip (G.blk_n (G.then_n (G.region ?_)))
    refine G.q (Quiet.add rfl rfl (by omega)) rfl ?_
    refine G.q (Quiet.move rfl) rfl (G.nil (G.then_n ?_))
    exact G.roundK ((j + 1, .slice au es.length cu, es)) (⟨by dsimp only; omega, ⟨au, cu, rfl⟩, by dsimp only; rw [behind_step (by omega) (by omega), if_neg h35]; exact hes, hek, by dsimp only; omega⟩) (by dsimp only; omega) ⟨rfl, rfl, rfl, rfl, rfl, rfl, rfl, rfl, trivial⟩ (by (repeat' constructor)) (by ((repeat (apply Have.cons; (repeat (first | exact Pick.here | apply Pick.there)))); apply Have.base; repeat' constructor))
  ·have hje : j = Λ.ents.length := by omega
   have hes2 : es.map En.pl = behindL Λ z := by rw [hes, hje]; unfold behindT behindL; rw [List.take_of_length_le (by rw [List.length_zip]; omega)]
   refine G.exit (G.then_e (G.then_e (G.blk_e (G.then_n (G.seq (G.region (G.q (Quiet.move rfl) rfl (G.q (Quiet.assign rfl) rfl (G.q (Quiet.assign rfl) rfl (G.nil (G.then_n (G.ret ?_))))))))))))
   refine G.lgFold (g := g) (x := x) (ea := ea) (ec := ec) (za := za) (zc := zc) (m := Λ.ents.length) (k := Λ.zxs.length) Λ (by (repeat' constructor)) (by exact rfl) (by first | rfl | simp [Lg.keep]) (by first | rfl | simp [Lg.keep]) (by first | rfl | simp [Lg.keep]) (by first | rfl | simp [Lg.keep]) ?_
   exact G.done (l := [.tmp 4, .tmp 5]) rfl rfl (.inr ⟨h16, es, hes2, hek, _, _, rfl, rfl⟩) (by (repeat' constructor)) (by (repeat' constructor))

end Go.Proofs.YtidjhgbdokcphaaGreat

/- Own work: a ledger on a disk that lives: all its calls. -/

namespace Go.Proofs.YtidjhgbdokcphaaGreat
open Go

theorem well_setm {δ : Dk} {ω : Wl} {N : Int} (h : Well δ ω N) (a b : Int) : Well (setmZ δ ω a b).1 (setmZ δ ω a b).2.1 (N + 2000000) ∧ (setmZ δ ω a b).1.now.length = δ.now.length ∧
    ((∃ c, (setmZ δ ω a b).2 = ({ ω with a := a, b := b, count := c }, 0)) ∨ (∃ e, (e = 1 ∨ e = 30) ∧ setmZ δ ω a b = (δ, ω, e))) := by
  have hk := kept_setm h a b
  refine ⟨hk.well, hk.len, ?_⟩
  unfold setmZ
  rw [if_neg (by rw [h.doubt]; decide)]
  split
  · exact .inr ⟨1, .inl rfl, rfl⟩
  · split
    · exact .inr ⟨30, .inr rfl, rfl⟩
    · obtain ⟨n1, -, -⟩ := al_next h.al h.size.1 (ω.mark ω.area (ω.recs.take ω.synced.toNat) a b)
      rw [if_neg (by rw [n1]; exact fun g => g rfl)]
      exact .inl ⟨_, rfl⟩
theorem well_sync {δ : Dk} {ω : Wl} {N : Int} (h : Well δ ω N) : Well (syncZ δ ω).1 (syncZ δ ω).2.1 (N + 2000000) ∧ (syncZ δ ω).1.now.length = δ.now.length ∧
    ((∃ c, (syncZ δ ω).2 = ({ ω with synced := ω.recs.length, count := c }, 0)) ∨ syncZ δ ω = (δ, ω, 30)) := by
  have hk := kept_sync h
  refine ⟨hk.well, hk.len, ?_⟩
  unfold syncZ
  rw [if_neg (by rw [h.doubt]; decide)]
  split
  · rename_i hs
    refine .inl ⟨ω.count, ?_⟩
    rw [← hs]
  · split
    · exact .inr rfl
    · rename_i hc
      obtain ⟨e, -, -⟩ := well_seal h hc h.area h.fits h.al rfl (by have := h.acts; omega)
      rw [e]; exact .inl ⟨_, rfl⟩
/-- What a call that keeps a ledger well keeps. -/
structure LKept (s : Ld) (N : Int) (r : Ld × Int) : Prop where
  well : LWell r.1 (N + 4000000)
  len : r.1.δ.now.length = s.δ.now.length
  bad : r.2 ≠ 0 → r.1.Λ = s.Λ
  live : r.2 ≠ 2
theorem LKept.same {s : Ld} {N : Int} (h : LWell s N) {e : Int} (he : e ≠ 2) : LKept s N (s, e) := ⟨h.more (by omega), rfl, fun _ => rfl, he⟩
theorem metE_ne {e : Int} (h : e = 33 ∨ e = 30 ∨ e = 1) : metE e ≠ 0 ∧ metE e ≠ 2 := by rcases h with rfl | rfl | rfl <;> exact ⟨by decide, by decide⟩
theorem met_same {Λ : Lg} {e : Int} (h : e ≠ 2) : Λ.met e = Λ := by unfold Lg.met; rw [if_neg h]
theorem lk_sync {s : Ld} {N : Int} (h : LWell s N) : LWell (lgSync s).1 (N + 2000000) ∧ (lgSync s).1.δ.now.length = s.δ.now.length ∧ (lgSync s).1.Λ = s.Λ ∧ (lgSync s).2 ≠ 2 ∧ ((lgSync s).2 = 0 → (lgSync s).1.ω.synced = s.ω.recs.length ∧ (lgSync s).1.ω.recs = s.ω.recs) := by
  unfold lgSync
  rw [if_neg (by rw [h.live]; decide)]
  obtain ⟨w1, w2, w3⟩ := well_sync h.well
  obtain ⟨⟨δ1, ω1, e1⟩, hq⟩ : ∃ r, syncZ s.δ s.ω = r := ⟨_, rfl⟩
  rw [hq] at w1 w2 w3 ⊢
  dsimp only at w1 w2 w3
  rcases w3 with ⟨c, g⟩ | g
  · cases g
    exact ⟨⟨w1, h.w, h.live, h.recs, h.a, h.b⟩, w2, rfl, by show metE 0 ≠ 2; decide, fun _ => ⟨rfl, rfl⟩⟩
  · cases g
    exact ⟨⟨w1, h.w, h.live, h.recs, h.a, h.b⟩, w2, rfl, by show metE 30 ≠ 2; decide, fun g => absurd (show metE 30 = 0 from g) (by decide)⟩
theorem lk_accept {s : Ld} {N : Int} (h : LWell s N) (n : Int) : LKept s N (lgAccept s n) ∧ s.Λ.acc ≤ (lgAccept s n).1.Λ.acc ∧ (lgAccept s n).1.Λ.cur = s.Λ.cur := by
  unfold lgAccept
  rw [if_neg (by rw [h.live]; decide)]
  split
  · exact ⟨.same h (by decide), Int.le_refl _, rfl⟩
  split
  · exact ⟨.same h (by decide), Int.le_refl _, rfl⟩
  rename_i h1 h2
  obtain ⟨w1, w2, w3⟩ := well_setm h.well n s.Λ.cur
  obtain ⟨⟨δ1, ω1, e1⟩, hq⟩ : ∃ r, setmZ s.δ s.ω n s.Λ.cur = r := ⟨_, rfl⟩
  rw [hq] at w1 w2 w3 ⊢
  dsimp only at w1 w2 w3
  have he := h.w.eps
  rcases w3 with ⟨c, g⟩ | ⟨e, hee, g⟩
  · cases g
    rw [if_pos (by show metE 0 = 0; decide)]
    exact ⟨⟨⟨w1.more (by omega), ⟨h.w.few, h.w.each, h.w.base, h.w.snap, h.w.rows, ⟨he.1, by show s.Λ.cur ≤ n; omega, by show n ≤ _; omega⟩⟩, h.live, h.recs, rfl, rfl⟩, w2, fun g => absurd rfl g, by show (0 : Int) ≠ 2; decide⟩, by show s.Λ.acc ≤ n; omega, rfl⟩
  · cases g
    obtain ⟨m1, m2⟩ := metE_ne (e := e1) (by omega)
    rw [if_neg (show ¬ (metL s.Λ (s.δ, s.ω, e1)).2 = 0 from m1)]
    have hm : s.Λ.met e1 = s.Λ := met_same (by omega)
    exact ⟨⟨⟨w1.more (by omega), by show LgW (s.Λ.met e1); rw [hm]; exact h.w, by show (s.Λ.met e1).doubt = false; rw [hm]; exact h.live, by show s.ω.recs = headL (s.Λ.met e1).base (s.Λ.met e1).snap ++ (s.Λ.met e1).ents; rw [hm]; exact h.recs, by show s.ω.a = (s.Λ.met e1).acc; rw [hm]; exact h.a, by show s.ω.b = (s.Λ.met e1).cur; rw [hm]; exact h.b⟩, w2, fun _ => hm, m2⟩, by show s.Λ.acc ≤ (s.Λ.met e1).acc; rw [hm]; exact Int.le_refl _, by show (s.Λ.met e1).cur = s.Λ.cur; rw [hm]⟩
theorem lk_adopt2 {s : Ld} {N : Int} (h : LWell s N) (n : Int) (hn : s.Λ.cur ≤ n ∧ n ≤ s.Λ.acc) : LWell (lgAdopt2 s n).1 (N + 2000000) ∧ (lgAdopt2 s n).1.δ.now.length = s.δ.now.length ∧ (lgAdopt2 s n).2 ≠ 2 ∧ (((lgAdopt2 s n).2 = 0 ∧ (lgAdopt2 s n).1.Λ = s.Λ.setCur n) ∨ ((lgAdopt2 s n).2 ≠ 0 ∧ (lgAdopt2 s n).1.Λ = s.Λ)) := by
  unfold lgAdopt2
  obtain ⟨w1, w2, w3⟩ := well_setm h.well s.Λ.acc n
  obtain ⟨⟨δ1, ω1, e1⟩, hq⟩ : ∃ r, setmZ s.δ s.ω s.Λ.acc n = r := ⟨_, rfl⟩
  rw [hq] at w1 w2 w3 ⊢
  dsimp only at w1 w2 w3
  have he := h.w.eps
  rcases w3 with ⟨c, g⟩ | ⟨e, hee, g⟩
  · cases g
    rw [if_pos (by show metE 0 = 0; decide)]
    exact ⟨⟨w1.more (by omega), ⟨h.w.few, h.w.each, h.w.base, h.w.snap, h.w.rows, ⟨by show 0 ≤ n; omega, hn.2, he.2.2⟩⟩, h.live, h.recs, rfl, rfl⟩, w2, by show (0 : Int) ≠ 2; decide, .inl ⟨rfl, rfl⟩⟩
  · cases g
    obtain ⟨m1, m2⟩ := metE_ne (e := e1) (by omega)
    rw [if_neg (show ¬ (metL s.Λ (s.δ, s.ω, e1)).2 = 0 from m1)]
    have hm : s.Λ.met e1 = s.Λ := met_same (by omega)
    exact ⟨⟨w1.more (by omega), by show LgW (s.Λ.met e1); rw [hm]; exact h.w, by show (s.Λ.met e1).doubt = false; rw [hm]; exact h.live, by show s.ω.recs = headL (s.Λ.met e1).base (s.Λ.met e1).snap ++ (s.Λ.met e1).ents; rw [hm]; exact h.recs, by show s.ω.a = (s.Λ.met e1).acc; rw [hm]; exact h.a, by show s.ω.b = (s.Λ.met e1).cur; rw [hm]; exact h.b⟩, w2, m2, .inr ⟨m1, hm⟩⟩
theorem lk_adopt {s : Ld} {N : Int} (h : LWell s N) (n : Int) : LKept s N (lgAdopt s n) ∧ (lgAdopt s n).1.Λ.acc = s.Λ.acc ∧ s.Λ.cur ≤ (lgAdopt s n).1.Λ.cur ∧ ((lgAdopt s n).2 = 0 → (lgAdopt s n).1.Λ = s.Λ.setCur n) := by
  unfold lgAdopt
  rw [if_neg (by rw [h.live]; decide)]
  split
  · exact ⟨.same h (by decide), rfl, Int.le_refl _, fun g => absurd (show (82 : Int) = 0 from g) (by decide)⟩
  rename_i h1
  obtain ⟨k1, k2, k3, k4, -⟩ := lk_sync h
  split
  · rename_i h2
    exact ⟨⟨k1.more (by omega), k2, fun _ => k3, k4⟩, by rw [k3], by rw [k3]; exact Int.le_refl _, fun g => absurd g h2⟩
  · rename_i h2
    obtain ⟨j1, j2, j3, j4⟩ := lk_adopt2 k1 n (by rw [k3]; omega)
    rw [k3] at j4
    refine ⟨⟨j1.more (by omega), j2.trans k2, fun g => ?_, j3⟩, ?_, ?_, fun g => ?_⟩
    · rcases j4 with ⟨g1, -⟩ | ⟨-, g2⟩
      · exact absurd g1 g
      · exact g2
    · rcases j4 with ⟨-, g2⟩ | ⟨-, g2⟩ <;> rw [g2] <;> rfl
    · rcases j4 with ⟨-, g2⟩ | ⟨-, g2⟩ <;> rw [g2]
      · show s.Λ.cur ≤ n; omega
      · exact Int.le_refl _
    · rcases j4 with ⟨-, g2⟩ | ⟨g1, -⟩
      · exact g2
      · exact absurd g g1
theorem lk_append {s : Ld} {N : Int} (h : LWell s N) {e : En} (he : EnI e) : LKept s N (lgAppend s e) := by
  obtain ⟨w1, w2, w3⟩ := lw_append h he
  refine ⟨w1.more (by omega), w2, fun g => ?_, ?_⟩
  · rcases w3 with ⟨g1, -⟩ | ⟨-, g2⟩
    · exact absurd g1 g
    · rw [g2]
  · intro g
    rcases w3 with ⟨g1, -⟩ | ⟨-, g2⟩
    · rw [g1] at g; cases g
    · revert g
      unfold lgAppend
      rw [if_neg (by rw [h.live]; decide)]
      split
      · show (1 : Int) = 2 → False; decide
      split
      · show (81 : Int) = 2 → False; decide
      split
      · show (83 : Int) = 2 → False; decide
      rcases (well_append h.well (enB e)).2.2 with ⟨-, -, q⟩ | ⟨-, q⟩ | ⟨-, -, q⟩
      · obtain ⟨⟨δ1, q1⟩, hq⟩ : ∃ r, appendZ s.δ s.ω (enB e) = r := ⟨_, rfl⟩
        rw [hq] at q ⊢; dsimp only at q; subst q
        rw [if_pos (by show metE 0 = 0; decide)]
        show (0 : Int) = 2 → False; decide
      · rw [q, if_neg (by show ¬ metE 33 = 0; decide)]; show metE 33 = 2 → False; decide
      · rw [q, if_neg (by show ¬ metE 30 = 0; decide)]; show metE 30 = 2 → False; decide
end Go.Proofs.YtidjhgbdokcphaaGreat

/- Own work: the document's disk as plain data, and what stands for it in memory. -/

namespace Go.Proofs.YtidjhgbdokcphaaGreat
open Go

structure Rk where
  L : List (List UInt8)
  Old : List (List UInt8)
  Pend : List Bool
  N : Int
  At : Int
  Gone : Bool
structure Rk.Ok (ρ : Rk) : Prop where
  old : ρ.Old.length = ρ.L.length
  pend : ρ.Pend.length = ρ.L.length
  big : ρ.L.length ≤ 32768
  sec : ∀ s ∈ ρ.L, s.length = 64
  olds : ∀ s ∈ ρ.Old, s.length = 64
/-- The struct's cell row. -/
abbrev rkC (x : Nat) (vL vO vP : Value) (N At : Int) (Gone : Bool) : HP := ptc x [vL, vO, vP, vint N, vint At, .bool Gone] 58
def rkR (x : Nat) (ρ : Rk) : HP := fun h => ∃ v : Value × Value × Value, ρ.Ok ∧ sep [rkC x v.1 v.2.1 v.2.2 ρ.N ρ.At ρ.Gone, strR v.1 ρ.L, strR v.2.1 ρ.Old, boolR v.2.2 ρ.Pend] h
section
variable {W : World} {n : Nat} {ds : List Deferred} {E : Env} {L R : List HP} {X : Act → World → Prop}
end
def Rk.has (ρ : Rk) (n : Int) : Bool := decide (0 ≤ n) && decide (n < ρ.L.length)
def Rk.act (ρ : Rk) : Rk := { ρ with N := ρ.N + 1, Gone := if ρ.At > 0 ∧ ρ.N + 1 = ρ.At then true else ρ.Gone }
def Rk.read (ρ : Rk) (n : Int) : List UInt8 × Int := if ρ.Gone then ([], 2) else if ρ.has n = false then ([], 20) else (ρ.L.getD n.toNat [], 0)
def Rk.write (ρ : Rk) (n : Int) (s : List UInt8) : Rk × Int :=
  if ρ.Gone then (ρ, 2) else if ρ.has n = false ∨ s.length ≠ 64 then (ρ, 20)
  else ({ ρ.act with L := ρ.L.set n.toNat s, Pend := ρ.Pend.set n.toNat true }, if ρ.act.Gone then 2 else 0)
def Rk.sync (ρ : Rk) : Rk × Int :=
  if ρ.Gone then (ρ, 2) else if ρ.act.Gone then (ρ.act, 2) else ({ ρ.act with Old := ρ.L, Pend := ρ.L.map fun _ => false }, 0)
def Rk.arm (ρ : Rk) (n : Int) : Rk × Int :=
  if ρ.Gone then (ρ, 2) else if n < 0 then (ρ, 1) else ({ ρ with At := if n > 0 ∧ n ≤ 4611686018427387904 then ρ.N + n else 0 }, 0)
def Rk.new (n : Nat) : Rk := ⟨List.replicate n zs, List.replicate n zs, List.replicate n false, 0, 0, false⟩
def pendTo (l : List Bool) : Nat → List Int
  | 0 => []
  | i + 1 => if l.getD i false then pendTo l i ++ [(i : Int)] else pendTo l i
def Rk.pending (ρ : Rk) : List Int := pendTo ρ.Pend ρ.Pend.length
/-- The fate of one pending sector. -/
def fateOf (how : List Int) (k : Nat) : Int := let n := if k < how.length then how.getD k 0 else 0; if n < 0 then -(n + 1) else n
def Rk.crash1 (ρ : Rk) (f : Int) (i : Nat) : Rk :=
  let b := ((f / 3) % 65).toNat
  let l := if f % 3 = 0 then ρ.L.set i (ρ.Old.getD i []) else if f % 3 = 2 then ρ.L.set i ((ρ.L.getD i []).take b ++ (ρ.Old.getD i []).drop b) else ρ.L
  { ρ with L := l, Old := ρ.Old.set i (l.getD i []), Pend := ρ.Pend.set i false }
theorem pendTo_lt {l : List Bool} : ∀ {i : Nat} {x : Int}, x ∈ pendTo l i → 0 ≤ x ∧ x < i := by
  intro i
  induction i with
  | zero => intro x h; simp [pendTo] at h
  | succ i ih =>
    intro x h
    simp only [pendTo] at h
    split at h
    · rcases List.mem_append.1 h with h | h
      · have := ih h; omega
      · simp at h; omega
    · have := ih h; omega
def Rk.crashTo (ρ : Rk) (how : List Int) : Nat → Rk
  | 0 => ρ
  | k + 1 => (ρ.crashTo how k).crash1 (fateOf how k) (ρ.pending.getD k 0).toNat
def Rk.crash (ρ : Rk) (how : List Int) : Rk := { ρ.crashTo how ρ.pending.length with Gone := false, At := 0 }
theorem Rk.crash1_len (ρ : Rk) (f : Int) (i : Nat) : (ρ.crash1 f i).L.length = ρ.L.length ∧ (ρ.crash1 f i).Old.length = ρ.Old.length ∧ (ρ.crash1 f i).Pend.length = ρ.Pend.length := by
  refine ⟨?_, by simp [Rk.crash1], by simp [Rk.crash1]⟩
  simp only [Rk.crash1]
  split
  · simp
  · split <;> simp
theorem getD_mem64 {l : List (List UInt8)} (h : ∀ s ∈ l, s.length = 64) {i : Nat} (hi : i < l.length) : (l.getD i []).length = 64 := by
  have : l.getD i [] = l[i] := by simp [hi]
  rw [this]; exact h _ (List.getElem_mem _)
theorem Rk.Ok.crash1 {ρ : Rk} (h : ρ.Ok) (f : Int) {i : Nat} (hi : i < ρ.L.length) : (ρ.crash1 f i).Ok := by
  obtain ⟨a, b, c⟩ := ρ.crash1_len f i
  have h1 := getD_mem64 h.sec hi
  have h2 := getD_mem64 h.olds (i := i) (by rw [h.old]; exact hi)
  have hb : ((f / 3) % 65).toNat ≤ 64 := by omega
  have hsec : ∀ s ∈ (ρ.crash1 f i).L, s.length = 64 := by
    intro s hs
    simp only [Rk.crash1] at hs
    split at hs
    · rcases List.mem_or_eq_of_mem_set hs with hs | rfl
      · exact h.sec s hs
      · exact h2
    · split at hs
      · rcases List.mem_or_eq_of_mem_set hs with hs | rfl
        · exact h.sec s hs
        · rw [List.length_append, List.length_take, List.length_drop, h1, h2]; omega
      · exact h.sec s hs
  refine ⟨by rw [a, b]; exact h.old, by rw [a, c]; exact h.pend, by rw [a]; exact h.big, hsec, fun s hs => ?_⟩
  have e : (ρ.crash1 f i).Old = ρ.Old.set i ((ρ.crash1 f i).L.getD i []) := rfl
  rw [e] at hs
  rcases List.mem_or_eq_of_mem_set hs with hs | rfl
  · exact h.olds s hs
  · exact getD_mem64 hsec (by rw [a]; exact hi)
theorem Rk.pending_lt {ρ : Rk} (h : ρ.Ok) {k : Nat} (hk : k < ρ.pending.length) : 0 ≤ ρ.pending.getD k 0 ∧ (ρ.pending.getD k 0).toNat < ρ.L.length ∧ ρ.pending.getD k 0 < ρ.L.length := by
  have e : ρ.pending.getD k 0 = ρ.pending[k] := by simp [hk]
  have := pendTo_lt (List.getElem_mem hk : ρ.pending[k] ∈ pendTo ρ.Pend ρ.Pend.length)
  have hp := h.pend
  rw [e]; omega
theorem Rk.crashTo_ok {ρ : Rk} (h : ρ.Ok) (how : List Int) : ∀ k, k ≤ ρ.pending.length → (ρ.crashTo how k).Ok ∧ (ρ.crashTo how k).L.length = ρ.L.length := by
  intro k
  induction k with
  | zero => exact fun _ => ⟨h, rfl⟩
  | succ k ih =>
    intro hk
    obtain ⟨h1, h2⟩ := ih (by omega)
    obtain ⟨q0, q1, q2⟩ := Rk.pending_lt h (k := k) (by omega)
    exact ⟨h1.crash1 _ (by rw [h2]; exact q1), by rw [Rk.crashTo, (Rk.crash1_len _ _ _).1, h2]⟩
theorem Rk.crashTo_same (ρ : Rk) (how : List Int) : ∀ k, (ρ.crashTo how k).N = ρ.N ∧ (ρ.crashTo how k).At = ρ.At ∧ (ρ.crashTo how k).Gone = ρ.Gone := by
  intro k
  induction k with
  | zero => exact ⟨rfl, rfl, rfl⟩
  | succ k ih => simpa [Rk.crashTo, Rk.crash1] using ih
theorem fate0 (how : List Int) (hb : ∀ z ∈ how, -9223372036854775808 ≤ z ∧ z ≤ 9223372036854775807) (k : Nat) : 0 ≤ fateOf how k ∧ fateOf how k ≤ 9223372036854775807 := by
  have hz : -9223372036854775808 ≤ (if k < how.length then how.getD k 0 else 0) ∧ (if k < how.length then how.getD k 0 else 0) ≤ 9223372036854775807 := by
    split
    · rename_i hk
      have e : how.getD k 0 = how[k] := by simp [hk]
      rw [e]; exact hb _ (List.getElem_mem _)
    · omega
  unfold fateOf
  dsimp only
  split <;> omega
end Go.Proofs.YtidjhgbdokcphaaGreat

/- Own work, by program: the document's disk, function by function. -/

namespace Go.Proofs.YtidjhgbdokcphaaGreat
open Go
end Go.Proofs.YtidjhgbdokcphaaGreat

/-
  DERIVED: THE SHELF's CONTRACTS AT THIS DUMP, IN PLAIN WORDS (tools/lay-plain.mjs out of 'YtidjhgbdokcphaaGreatLay.lean', which tools/lay-shelf.mjs wrote): THE SAME DECLARATIONS UNDER THE SAME NAMES: 'import', 'namespace', 'open', 'def', 'theorem' AND NOTHING ELSE: no command of the shelf's: FOR A HAND-IN. Each laying: the table of numbers ('.._ren') and one theorem, a field a fact of the dump's own or the kernel's comparison; each contract: ONE APPLICATION.
-/

namespace Go.Proofs
open Go.Shelf
def Tryz.keysA_ren : Go.Shelf.Ren := ⟨fun | 7 => 136 | 10 => 178 | n => n, fun | 23 => 92 | 26 => 3 | 3 => 123 | 28 => 174 | 0 => 0 | 27 => 173 | 33 => 121 | 4 => 4 | n => n, fun | n => n⟩
theorem Tryz.keysA : Go.Proofs.SlLaysZI.n7 Tryz.prog Tryz.keysA_ren := {
  mixed := by kernel_rfl
  f7 := ⟨Tryz.f136.name, by decide, Tryz.func136.trans (congrArg some (by kernel_rfl))⟩
  f10 := ⟨Tryz.f178.name, by decide, Tryz.func178.trans (congrArg some (by kernel_rfl))⟩
  t0 := Tryz.underlying0
  a0 := Tryz.isAgg0
  z0 := Tryz.sizeOf0
  v0 := Tryz.zeroValue0
  t4 := Tryz.underlying4
  a4 := Tryz.isAgg4
  z4 := Tryz.sizeOf4
  v4 := Tryz.zeroValue4
  t23 := Tryz.underlying92
  a23 := Tryz.isAgg92
  z23 := Tryz.sizeOf92
  v23 := Tryz.zeroValue92
  t26 := Tryz.underlying3
  a26 := Tryz.isAgg3
  z26 := Tryz.sizeOf3
  v26 := Tryz.zeroValue3
  t27 := Tryz.underlying173
  a27 := Tryz.isAgg173
  z27 := Tryz.sizeOf173
  v27 := Tryz.zeroValue173
  t28 := Tryz.underlying174
  a28 := Tryz.isAgg174
  z28 := Tryz.sizeOf174
  v28 := Tryz.zeroValue174
  t33 := Tryz.underlying121
  a33 := Tryz.isAgg121
  z33 := Tryz.sizeOf121
  v33 := Tryz.zeroValue121 }
def Tryz.sortedA_ren : Go.Shelf.Ren := ⟨fun | 6 => 135 | 8 => 176 | 9 => 177 | 11 => 202 | 13 => 204 | 12 => 203 | 23 => 223 | 24 => 224 | 14 => 215 | 15 => 216 | 16 => 217 | 17 => 218 | 18 => 219 | 19 => 220 | 20 => 174 | 21 => 221 | 22 => 222 | 25 => 228 | 26 => 229 | 27 => 230 | 28 => 231 | 29 => 232 | 30 => 201 | 31 => 235 | n => n, fun | 26 => 3 | 28 => 174 | 24 => 31 | 0 => 0 | 3 => 3 | 37 => 39 | 48 => 183 | 50 => 190 | 4 => 4 | 40 => 241 | 39 => 240 | 45 => 130 | 5 => 5 | 9 => 9 | 51 => 249 | 55 => 195 | 57 => 254 | 58 => 106 | 33 => 121 | n => n, fun | n => n⟩
theorem Tryz.sortedA : Go.Proofs.SlLaysZI.n6 Tryz.prog Tryz.sortedA_ren := {
  mixed := by kernel_rfl
  f6 := ⟨Tryz.f135.name, by decide, Tryz.func135.trans (congrArg some (by kernel_rfl))⟩
  f8 := ⟨Tryz.f176.name, by decide, Tryz.func176.trans (congrArg some (by kernel_rfl))⟩
  f11 := ⟨Tryz.f202.name, by decide, Tryz.func202.trans (congrArg some (by kernel_rfl))⟩
  t0 := Tryz.underlying0
  a0 := Tryz.isAgg0
  z0 := Tryz.sizeOf0
  v0 := Tryz.zeroValue0
  t24 := Tryz.underlying31
  a24 := Tryz.isAgg31
  z24 := Tryz.sizeOf31
  v24 := Tryz.zeroValue31
  t26 := Tryz.underlying3
  a26 := Tryz.isAgg3
  z26 := Tryz.sizeOf3
  v26 := Tryz.zeroValue3
  t28 := Tryz.underlying174
  a28 := Tryz.isAgg174
  z28 := Tryz.sizeOf174
  v28 := Tryz.zeroValue174
  i26 := by kernel_rfl }
def Tryz.sortA_ren : Go.Shelf.Ren := ⟨fun | 5 => 177 | 8 => 204 | 7 => 203 | 19 => 223 | 20 => 224 | 10 => 215 | 11 => 216 | 12 => 217 | 13 => 218 | 14 => 219 | 15 => 220 | 16 => 174 | 17 => 221 | 18 => 222 | 30 => 228 | 31 => 229 | 32 => 230 | 33 => 231 | 34 => 232 | 35 => 201 | 40 => 235 | n => n, fun | 23 => 31 | 25 => 3 | 3 => 3 | 32 => 39 | 22 => 31 | 0 => 0 | 44 => 183 | 46 => 190 | 4 => 4 | 36 => 241 | 35 => 240 | 41 => 130 | 5 => 5 | 9 => 9 | 53 => 249 | 57 => 195 | 63 => 254 | 64 => 106 | n => n, fun | n => n⟩
theorem Tryz.sortA : Go.Proofs.SlLaysM.n5 Tryz.prog Tryz.sortA_ren := {
  mixed := by kernel_rfl
  f5 := ⟨Tryz.f177.name, by decide, Tryz.func177.trans (congrArg some (by kernel_rfl))⟩
  f7 := ⟨Tryz.f203.name, by decide, Tryz.func203.trans (congrArg some (by kernel_rfl))⟩
  f8 := Tryz.func204.trans (congrArg some (by kernel_rfl))
  f10 := ⟨Tryz.f215.name, by decide, Tryz.func215.trans (congrArg some (by kernel_rfl))⟩
  f11 := ⟨Tryz.f216.name, by decide, Tryz.func216.trans (congrArg some (by kernel_rfl))⟩
  f12 := ⟨Tryz.f217.name, by decide, Tryz.func217.trans (congrArg some (by kernel_rfl))⟩
  f13 := ⟨Tryz.f218.name, by decide, Tryz.func218.trans (congrArg some (by kernel_rfl))⟩
  f14 := ⟨Tryz.f219.name, by decide, Tryz.func219.trans (congrArg some (by kernel_rfl))⟩
  f15 := ⟨Tryz.f220.name, by decide, Tryz.func220.trans (congrArg some (by kernel_rfl))⟩
  f16 := ⟨Tryz.f174.name, by decide, Tryz.func174.trans (congrArg some (by kernel_rfl))⟩
  f17 := ⟨Tryz.f221.name, by decide, Tryz.func221.trans (congrArg some (by kernel_rfl))⟩
  f18 := ⟨Tryz.f222.name, by decide, Tryz.func222.trans (congrArg some (by kernel_rfl))⟩
  f19 := Tryz.func223.trans (congrArg some (by kernel_rfl))
  f20 := Tryz.func224.trans (congrArg some (by kernel_rfl))
  f30 := ⟨Tryz.f228.name, by decide, Tryz.func228.trans (congrArg some (by kernel_rfl))⟩
  f31 := Tryz.func229.trans (congrArg some (by kernel_rfl))
  f32 := Tryz.func230.trans (congrArg some (by kernel_rfl))
  f33 := ⟨Tryz.f231.name, by decide, Tryz.func231.trans (congrArg some (by kernel_rfl))⟩
  f34 := ⟨Tryz.f232.name, by decide, Tryz.func232.trans (congrArg some (by kernel_rfl))⟩
  f35 := ⟨Tryz.f201.name, by decide, Tryz.func201.trans (congrArg some (by kernel_rfl))⟩
  f40 := ⟨Tryz.f235.name, by decide, Tryz.func235.trans (congrArg some (by kernel_rfl))⟩
  t0 := Tryz.underlying0
  a0 := Tryz.isAgg0
  z0 := Tryz.sizeOf0
  v0 := Tryz.zeroValue0
  t3 := Tryz.underlying3
  a3 := Tryz.isAgg3
  z3 := Tryz.sizeOf3
  v3 := Tryz.zeroValue3
  t4 := Tryz.underlying4
  a4 := Tryz.isAgg4
  z4 := Tryz.sizeOf4
  v4 := Tryz.zeroValue4
  t5 := Tryz.underlying5
  a5 := Tryz.isAgg5
  z5 := Tryz.sizeOf5
  v5 := Tryz.zeroValue5
  t9 := Tryz.underlying9
  a9 := Tryz.isAgg9
  z9 := Tryz.sizeOf9
  v9 := Tryz.zeroValue9
  t22 := Tryz.underlying31
  a22 := Tryz.isAgg31
  z22 := Tryz.sizeOf31
  v22 := Tryz.zeroValue31
  t23 := Tryz.underlying31
  a23 := Tryz.isAgg31
  z23 := Tryz.sizeOf31
  v23 := Tryz.zeroValue31
  t25 := Tryz.underlying3
  a25 := Tryz.isAgg3
  z25 := Tryz.sizeOf3
  v25 := Tryz.zeroValue3
  t32 := Tryz.underlying39
  a32 := Tryz.isAgg39
  z32 := Tryz.sizeOf39
  v32 := Tryz.zeroValue39
  t35 := Tryz.underlying240
  a35 := Tryz.isAgg240
  z35 := Tryz.sizeOf240
  v35 := Tryz.zeroValue240
  t36 := Tryz.underlying241
  a36 := Tryz.isAgg241
  z36 := Tryz.sizeOf241
  v36 := Tryz.zeroValue241
  t41 := Tryz.underlying130
  a41 := Tryz.isAgg130
  z41 := Tryz.sizeOf130
  v41 := Tryz.zeroValue130
  t44 := Tryz.underlying183
  a44 := Tryz.isAgg183
  z44 := Tryz.sizeOf183
  v44 := Tryz.zeroValue183
  t46 := Tryz.underlying190
  a46 := Tryz.isAgg190
  z46 := Tryz.sizeOf190
  v46 := Tryz.zeroValue190
  t53 := Tryz.underlying249
  a53 := Tryz.isAgg249
  z53 := Tryz.sizeOf249
  v53 := Tryz.zeroValue249
  t57 := Tryz.underlying195
  a57 := Tryz.isAgg195
  z57 := Tryz.sizeOf195
  v57 := Tryz.zeroValue195
  t63 := Tryz.underlying254
  a63 := Tryz.isAgg254
  z63 := Tryz.sizeOf254
  v63 := Tryz.zeroValue254
  t64 := Tryz.underlying106
  a64 := Tryz.isAgg106
  z64 := Tryz.sizeOf106
  v64 := Tryz.zeroValue106 }
end Go.Proofs

/- Own work: 'slices.Sorted(maps.Keys(m))' at int keys, out of the kit's contracts, in the words of SlCore. -/
namespace Go.Proofs.YtidjhgbdokcphaaGreat
open Go Go.RowKit Go.Maps Go.Sort Go.Shelf

theorem sep_more {b : Nat} {o : Obj} {L : List HP} {h h' : Hp} (hs : sep L h) (hnb : h b = none) (hb : h' b = some o) (hle : ∀ c o, h c = some o → h' c = some o) : sep (pt b o :: L) h' := by
  refine ⟨fun c => if c = b then some o else none, h, fun c => ?_, fun c o' e => ?_, hle, if_pos rfl, hs⟩
  · by_cases e : c = b
    · exact .inr (e ▸ hnb)
    · exact .inl (if_neg e)
  · by_cases hc : c = b
    · subst hc; simp at e; rw [← e]; exact hb
    · simp [hc] at e
theorem below_le {w w' : World} (hb : Below w.heap.size w w') (c : Nat) (o : Obj) (h : w.heap[c]? = some o) : w'.heap[c]? = some o := by
  have hlt : c < w.heap.size := by
    rcases Nat.lt_or_ge c w.heap.size with h' | h'
    · exact h'
    · rw [Array.getElem?_eq_none h'] at h; cases h
  rw [hb.block c hlt]; exact h
theorem St.below {L : List HP} {w w' : World} (hs : St L w) (hb : Below w.heap.size w w') : St L w' := sep_mono hs (below_le hb)
theorem Keeps.below {w w' : World} (hb : Below w.heap.size w w') : Keeps w w' := ⟨hb.os, hb.tape, hb.output, hb.size⟩
theorem St.own {L : List HP} {w w' : World} {e : TypeId} {sz n : Nat} {v : Value} {xs : List Value} (hs : St L w) (hb : Below w.heap.size w w') (ho : w'.ownsRow w.heap.size e sz v n xs) : St (slR e sz v n xs :: L) w' := by
  obtain ⟨h1, h2⟩ := ho
  rcases h2 with ⟨rfl, rfl⟩ | ⟨g, cap, cur, rfl, hg, hcur, h3, h4, h5, h6⟩
  · have : xs = [] := by simpa using h1
    subst this
    exact ⟨fun _ => none, _, fun _ => .inl rfl, fun _ _ e => (by cases e), fun _ _ e => e, slR_nil _ _ _, hs.below hb⟩
  · have hnone : w.heap[g]? = none := Array.getElem?_eq_none hg
    refine sep_imp (fun h hp => ?_) (sep_more (o := .cells cur e (0, 0)) hs hnone hcur (below_le hb))
    refine .inr ⟨g, cap, cur.toList.drop (n * sz), (0, 0), rfl, ?_, h1, ?_, h3, nfz0 _ _⟩
    · have : (xs ++ cur.toList.drop (n * sz)).toArray = cur := by rw [← h6, List.take_append_drop]
      rw [this]; exact hp
    · rw [← h6]; simp; rw [← h5]; omega

theorem wf_i64 {x : Int} (h : -9223372036854775808 ≤ x ∧ x ≤ 9223372036854775807) : (Lit.int .i64 x).wf = true := by
  simp only [Lit.wf, Bool.and_eq_true, decide_eq_true_eq]
  have e1 : IntKind.i64.min = -9223372036854775808 := by decide
  have e2 : IntKind.i64.max = 9223372036854775807 := by decide
  rw [e1, e2]; exact h
def sortI (l : List Int) : List Int := l.mergeSort (fun x y => decide (x ≤ y))
theorem keys_fn {P : Program} {ρ : Ren} (L : SlLaysZI.n7 P ρ) (mb : Option Nat) : Fn P (ρ.f 7) #[.map mb] [] fun v Lp => ∃ b, v = .func (.func (ρ.f 10)) #[] #[vptr b] ∧ Lp = [ptc b [.map mb] (ρ.t 23)] := by
  intro F w hs
  refine (callsIn_wide.1 (AnyZI.keys_in L Fence.wide 1 trivial rfl mb w)).mono ?_
  rintro e w' ⟨rfl, rfl⟩
  exact ⟨_, _, ⟨_, rfl, rfl⟩, rfl, St.new (L := F) hs _, Keeps.new _ _⟩
theorem sorted_fn {P : Program} {ρ ρs ρm : Ren} (L : SlLaysZI.n7 P ρ) (LS : SlLaysZI.n6 P ρs) (LM : SlLaysM.n5 P ρm) (hm : ρm.f 5 = ρs.f 9) (e9 : ∀ args w, (callFunc (ρs.f 9) args).run P w = .ok (.enter (ρs.f 9) args) w) (e10 : ∀ args w, (callFunc (ρ.f 10) args).run P w = .ok (.enter (ρ.f 10) args) w)
    (hk : P.underlying (ρ.t 26) = some (.int .i64)) {b r : Nat} {T : TypeId} {β : Type} {enc : β → Value} (m : List (Int × β)) (hnd : (m.map (·.1)).Nodup) (hbd : ∀ x ∈ m, -9223372036854775808 ≤ x.1 ∧ x.1 ≤ 9223372036854775807) (hlen : m.length ≤ 1099511627776) :
    Fn P (ρs.f 6) #[.func (.func (ρ.f 10)) #[] #[vptr b]] [ptc b [.map (some r)] T, mapR r (m.map fun x => (vint x.1, enc x.2))] fun v Lp => (∃ a c, v = .slice a m.length c) ∧
      Lp = [slR (ρs.t 26) 1 v m.length ((sortI (m.map (·.1))).map vint), mapR r (m.map fun x => (vint x.1, enc x.2))] := by
  intro F w hs
  have hcell : w.cell? ⟨b, 0, none⟩ = some (.map (some r)) := cell_of (l := [Value.map (some r)]) (St.pt (L := _) hs) rfl
  obtain ⟨hr1, ar, es, clock, hes, hents, hborn, hnb⟩ := sep_head (sep_tail hs)
  have hes' := ar _ _ hes
  have hlen' : es.length = m.length := by have := congrArg List.length hents; simpa using this
  have hkeys : es.map (fun e => e.key) = m.map (fun x => vint x.1) := by
    have := congrArg (List.map Prod.fst) hents; rw [List.map_map, List.map_map] at this; exact this
  let R : Value → Option (DataW Unit × List MemPlace) := fun _ => some (.lit (.bool true), [])
  have hkey : ∀ x ∈ es, ∃ k : Int, x.key = vint k ∧ -9223372036854775808 ≤ k ∧ k ≤ 9223372036854775807 := by
    intro x hx
    have : x.key ∈ es.map (fun e => e.key) := List.mem_map_of_mem hx
    rw [hkeys] at this
    obtain ⟨y, hy, he⟩ := List.mem_map.1 this
    exact ⟨y.1, he.symm, hbd y hy⟩
  have hrd : ∀ x ∈ es, ∀ k, x.key = vint k → Go.WideElems.rd P (ρ.t 26) R x = some (.int .i64 k, .lit (.bool true)) := by
    intro x hx k hxk
    obtain ⟨k', h1, h2⟩ := hkey x hx
    have : k' = k := by rw [h1] at hxk; simpa using hxk
    subst this
    have hko : keyOf P (ρ.t 26) x.key = some (.int .i64 k') := by
      rw [hxk]; simp [keyOf, hk, mapKey, wf_i64 h2]
    unfold Go.WideElems.rd; rw [hko]; rfl
  have hown : w.ownsMap P (ρ.t 26) R r m.length (.map ((es.map (Go.WideElems.rg P (ρ.t 26) R)).foldr DataW.insert [])) := by
    refine ⟨es.toArray, clock, hes', ⟨?_, ⟨by simpa using hborn, by simpa using hnb, ?_⟩, ?_⟩, by simpa using Nat.le_of_eq hlen', by simp⟩
    · simp only [List.size_toArray, maxLen]; omega
    · have e1 : es.toArray.toList.map (·.key) = m.map (fun x => vint x.1) := by simpa using hkeys
      rw [e1]
      have e2 : m.map (fun x => vint x.1) = (m.map (·.1)).map vint := by simp
      rw [e2]
      exact List.pairwise_map.2 (List.Pairwise.imp (fun hne he => hne (by simpa using he)) hnd)
    · intro x hx
      have hx' : x ∈ es := by simpa using hx
      obtain ⟨k, h1, -⟩ := hkey x hx'
      exact ⟨_, hrd x hx' k h1⟩
  have hD : (intKeys (DataW.map ((es.map (Go.WideElems.rg P (ρ.t 26) R)).foldr DataW.insert []))).Perm (m.map (·.1)) := by
    show (((es.map (Go.WideElems.rg P (ρ.t 26) R)).foldr DataW.insert []).map fun p => Go.intOf p.1).Perm _
    refine (List.Perm.map _ (Go.WideShapes.sorted_perm _)).trans ?_
    have : (es.map (Go.WideElems.rg P (ρ.t 26) R)).map (fun p => Go.intOf p.1) = m.map (·.1) := by
      have h1 : (es.map (Go.WideElems.rg P (ρ.t 26) R)).map (fun p => Go.intOf p.1) = (es.map (fun e => e.key)).map (fun v => match v with | .int _ k => k | _ => 0) := by
        rw [List.map_map, List.map_map]
        refine List.map_congr_left fun x hx => ?_
        obtain ⟨k, h1, -⟩ := hkey x hx
        simp only [Function.comp, Go.WideElems.rg, hrd x hx k h1, Option.getD_some, Go.intOf, h1]
      rw [h1, hkeys, List.map_map]; rfl
    rw [this]
  have hsize : Maps.size (DataW.map ((es.map (Go.WideElems.rg P (ρ.t 26) R)).foldr DataW.insert [])) = m.length := by
    simp [Maps.size, length_sorted, hlen']
  have hblt : b < w.heap.size := by
    rcases Nat.lt_or_ge b w.heap.size with h | h
    · exact h
    · simp [World.cell?, Array.getElem?_eq_none h] at hcell
  have hseq := AnyZI.keys_gives (ρ := ρ) { L with } Fence.wide 2 trivial rfl (by omega) b r m.length _ w hblt hcell hown
  have hsorts : ∀ k, AnyZI.SortsIn P ρs Fence.wide k := fun k =>
    ⟨fun blk off cap ss W hH hblk hsz => by
        rw [← hm]; exact callsIn_wide.2 (AnyM.slices_Sort_int LM blk off cap ss W hH hblk hsz),
     fun p cap W => by rw [← hm]; exact callsIn_wide.2 (AnyM.slices_Sort_int_none LM p cap W)⟩
  have hS := AnyZI.sorted_in LS Fence.wide 5 trivial trivial trivial trivial rfl (by omega) (hsorts _) e9 (ρ.f 10) #[vptr b] trivial e10 _ _ (by rw [hsize, maxLen]; omega) (by rw [hsize]; omega) w hseq
  refine (callsIn_wide.1 hS).mono ?_
  rintro e w' ⟨v, ss, rfl, hp, hrow, -, hb⟩
  have hperm : ss.Perm (m.map (·.1)) := hp.trans hD
  have hss : (ss.mergeSort fun x y => decide (x ≤ y)) = sortI (m.map (·.1)) := mergeSort_of_perm_i hperm
  have hl : ss.length = m.length := by rw [hperm.length_eq]; simp
  rw [hss, hl] at hrow
  have hshape : ∃ a c, v = .slice a m.length c := by
    rcases hrow.2 with ⟨rfl, h0⟩ | ⟨g, cap, cur, rfl, -⟩
    · exact ⟨_, _, by rw [h0]⟩
    · exact ⟨_, _, rfl⟩
  refine ⟨v, _, ⟨hshape, rfl⟩, rfl, ?_, Keeps.below hb⟩
  exact St.own (sep_tail hs) hb hrow
end Go.Proofs.YtidjhgbdokcphaaGreat

/- Own work: slices.Sort at []int, out of the shelf's contract, for a slice that is owned. -/
namespace Go.Proofs.YtidjhgbdokcphaaGreat
open Go Go.Sort

theorem sortI_perm (l : List Int) : (sortI l).Perm l := List.mergeSort_perm _ _
theorem sortI_length (l : List Int) : (sortI l).length = l.length := (sortI_perm l).length_eq
theorem sortI_mem {l : List Int} {x : Int} : x ∈ sortI l ↔ x ∈ l := (sortI_perm l).mem_iff
end Go.Proofs.YtidjhgbdokcphaaGreat

/- Own work: a disk's pending sectors and its crash, as plain data. -/

namespace Go.Proofs.YtidjhgbdokcphaaGreat
open Go Go.RowKit

def Dk.pend (δ : Dk) : List Int := sortI (δ.old.map (·.1))
theorem Dk.pend_len (δ : Dk) : δ.pend.length = δ.old.length := by rw [Dk.pend, sortI_length, List.length_map]
theorem nodup_lenN : ∀ {n : Nat} {l : List Nat}, l.Nodup → (∀ x ∈ l, x < n) → l.length ≤ n := by
  intro n
  induction n with
  | zero => intro l _ h; cases l with | nil => simp | cons a l => exact absurd (h a (by simp)) (by omega)
  | succ n ih =>
    intro l hn h
    have h1 := ih (hn.erase n) (fun x hx => by
      have := (hn.mem_erase_iff).1 hx
      have := h x this.2; omega)
    rw [List.length_erase] at h1
    split at h1 <;> omega
theorem nodup_len {l : List Int} (hn : l.Nodup) {n : Nat} (h : ∀ x ∈ l, 0 ≤ x ∧ x < n) : l.length ≤ n := by
  have h1 : (l.map Int.toNat).Nodup := List.Pairwise.map _ (S := fun a b : Nat => a ≠ b) (R := fun a b : Int => (0 ≤ a ∧ 0 ≤ b) ∧ a ≠ b) (fun a b hab => by omega)
    (List.Pairwise.imp_of_mem (fun {a b} ha hb hab => ⟨⟨(h a ha).1, (h b hb).1⟩, hab⟩) hn)
  have h3 := nodup_lenN (n := n) h1 (fun x hx => by
    obtain ⟨y, hy, rfl⟩ := List.mem_map.1 hx
    have := h y hy
    omega)
  simpa using h3
theorem Dk.Ok.oldlen {δ : Dk} (h : δ.Ok) : δ.old.length ≤ δ.now.length := by
  have := nodup_len h.nodup (n := δ.now.length) (fun x hx => by
    obtain ⟨y, hy, rfl⟩ := List.mem_map.1 hx
    exact (h.olds y hy).2)
  simpa using this
theorem mem_alook {β : Type} {m : List (Int × β)} {k : Int} (h : k ∈ m.map (·.1)) : ∃ b, alook m k = some b := by
  rcases e : alook m k with _ | b
  · exact absurd h (alook_none e)
  · exact ⟨b, rfl⟩
theorem Dk.pend_at {δ : Dk} (h : δ.Ok) {k : Nat} (hk : k < δ.pend.length) : 0 ≤ δ.pend.getD k 0 ∧ (δ.pend.getD k 0).toNat < δ.now.length ∧ δ.pend.getD k 0 < δ.now.length ∧ ∃ o, alook δ.old (δ.pend.getD k 0) = some o ∧ o.length = 64 := by
  have e : δ.pend.getD k 0 = δ.pend[k] := by simp [hk]
  have hm : δ.pend[k] ∈ δ.old.map (·.1) := sortI_mem.1 (List.getElem_mem hk)
  obtain ⟨o, ho⟩ := mem_alook hm
  have := h.olds _ (alook_mem ho)
  rw [e]
  exact ⟨this.2.1, by omega, this.2.2, o, ho, this.1⟩
def Dk.crash1 (δ : Dk) (f : Int) (n : Int) : Dk :=
  { δ with now := if f % 3 = 0 then δ.now.set n.toNat ((alook δ.old n).getD []) else if f % 3 = 2 then δ.now.set n.toNat ((δ.now.getD n.toNat []).take ((f / 3) % 65).toNat ++ ((alook δ.old n).getD []).drop ((f / 3) % 65).toNat) else δ.now }
def Dk.crashTo (δ : Dk) (how : List Int) : Nat → Dk
  | 0 => δ
  | k + 1 => (δ.crashTo how k).crash1 (fateOf how k) (δ.pend.getD k 0)
def Dk.crash (δ : Dk) (how : List Int) : Dk := { δ.crashTo how δ.pend.length with old := [], dead := false, left := 0 }
theorem Dk.crash1_len (δ : Dk) (f n : Int) : (δ.crash1 f n).now.length = δ.now.length := by
  simp only [Dk.crash1]
  split
  · simp
  · split <;> simp
theorem Dk.Ok.crash1 {δ : Dk} (h : δ.Ok) (f : Int) {n : Int} {o : List UInt8} (ho : alook δ.old n = some o) (hl : o.length = 64) (hn : n.toNat < δ.now.length) : (δ.crash1 f n).Ok := by
  have h1 := getD_mem64 h.sec hn
  have hb : ((f / 3) % 65).toNat ≤ 64 := by omega
  refine ⟨fun s hs => ?_, fun x hx => by rw [Dk.crash1_len]; exact h.olds x hx, h.nodup, by rw [Dk.crash1_len]; exact h.big, h.acts0, h.left0⟩
  simp only [Dk.crash1, ho, Option.getD_some] at hs
  split at hs
  · rcases List.mem_or_eq_of_mem_set hs with hs | rfl
    · exact h.sec s hs
    · exact hl
  · split at hs
    · rcases List.mem_or_eq_of_mem_set hs with hs | rfl
      · exact h.sec s hs
      · rw [List.length_append, List.length_take, List.length_drop, h1, hl]; omega
    · exact h.sec s hs
theorem Dk.crashTo_same (δ : Dk) (how : List Int) : ∀ k, (δ.crashTo how k).old = δ.old ∧ (δ.crashTo how k).acts = δ.acts ∧ (δ.crashTo how k).left = δ.left ∧ (δ.crashTo how k).dead = δ.dead ∧ (δ.crashTo how k).now.length = δ.now.length := by
  intro k
  induction k with
  | zero => exact ⟨rfl, rfl, rfl, rfl, rfl⟩
  | succ k ih =>
    obtain ⟨h1, h2, h3, h4, h5⟩ := ih
    exact ⟨h1, h2, h3, h4, by rw [Dk.crashTo, Dk.crash1_len, h5]⟩
theorem Dk.crashTo_ok {δ : Dk} (h : δ.Ok) (how : List Int) : ∀ k, k ≤ δ.pend.length → (δ.crashTo how k).Ok := by
  intro k
  induction k with
  | zero => exact fun _ => h
  | succ k ih =>
    intro hk
    obtain ⟨e1, -, -, -, e2⟩ := δ.crashTo_same how k
    obtain ⟨q0, q1, q2, o, q3, q4⟩ := Dk.pend_at h (k := k) (by omega)
    exact (ih (by omega)).crash1 _ (by rw [e1]; exact q3) q4 (by rw [e2]; exact q1)
theorem Dk.Ok.crashed {δ : Dk} (h : δ.Ok) (how : List Int) : (δ.crash how).Ok := by
  have := Dk.crashTo_ok h how δ.pend.length (Nat.le_refl _)
  exact ⟨this.sec, by simp [Dk.crash], by simp [Dk.crash], this.big, this.acts0, by simp [Dk.crash]⟩
theorem Dk.new_ok {n : Int} (h : n.toNat ≤ 32768) : (Dk.new n).Ok :=
  ⟨by simp [Dk.new, zs_len], by simp [Dk.new], by simp [Dk.new], by simpa [Dk.new] using h, by simp [Dk.new], by simp [Dk.new]⟩
theorem bys_zs : bys zs = List.replicate 64 (Value.int .u8 0) := by rw [bys, zs, List.map_replicate]; rfl
theorem secsC_new (n : Nat) : secsC (List.replicate n zs) = List.replicate (n * 64) (Value.int .u8 0) := by
  induction n with
  | zero => rfl
  | succ n ih =>
    have : secsC (List.replicate (n + 1) zs) = bys zs ++ secsC (List.replicate n zs) := by simp [secsC, List.replicate_succ]
    rw [this, ih, bys_zs, List.replicate_append_replicate]
    congr 1; omega
theorem secsC_take {l : List (List UInt8)} (h : ∀ s ∈ l, s.length = 64) {n : Nat} (hn : n < l.length) {m off j : Nat} (ho : off = n * 64) (hj : j = m) (hm : m ≤ 64) : ((secsC l).drop off).take j = bys (l[n].take m) := by
  subst ho hj
  rw [show bys (l[n].take j) = (bys l[n]).take j from List.map_take, ← secsC_at h hn, List.take_take, Nat.min_eq_left hm]
section
variable {P : Program} {E : Env} {L R : List HP} {ty kt et : TypeId} {K β : Type} [DecidableEq K] {kv : K → Value} {enc : β → Value}
theorem Quiet.lookupS (hl : KeyLaw P kt kv) {t : TypeId} {x y : Operand} {m : List (K × β)} {r : Nat} {k : K} {b : β} {z : Value} {ents : List (Value × Value)} (hb : alook m k = some b) (hx : ev E x = some (.map (some r))) (hy : ev E y = some (kv k)) (ht : P.underlying t = some (.map kt et)) (hz : zeroOf P et = some z)
    (hL : Pick (mapR r ents) L R) (he : ents = m.map fun x => (kv x.1, enc x.2)) : Quiet P ⟨none, .lookup t x y false, ty, "", #[], none⟩ E L (enc b) := by
  have q := Quiet.lookup (enc := enc) (ty := ty) hl hx hy ht hz hL he
  rw [hb] at q
  exact q
end
theorem keysD_spec (mb : Option Nat) : Fn Tryz.prog 136 #[.map mb] [] fun v L => ∃ b, v = .func (.func 178) #[] #[vptr b] ∧ L = [ptc b [.map mb] 92] :=
  keys_fn Tryz.keysA mb
theorem sortedD_spec {b r : Nat} {T : TypeId} (m : List (Int × List UInt8)) (hnd : (m.map (·.1)).Nodup) (hbd : ∀ x ∈ m, -9223372036854775808 ≤ x.1 ∧ x.1 ≤ 9223372036854775807) (hlen : m.length ≤ 1099511627776) :
    Fn Tryz.prog 135 #[.func (.func 178) #[] #[vptr b]] [ptc b [.map (some r)] T, mapR r (oldsV m)] fun v L => (∃ a c, v = .slice a m.length c) ∧ L = [intR v (sortI (m.map (·.1))), mapR r (oldsV m)] := by
  have q := sorted_fn Tryz.keysA Tryz.sortedA Tryz.sortA rfl (enters_of Tryz.func177 rfl rfl) (enters_of Tryz.func178 rfl rfl) Tryz.underlying3 (enc := secV) (b := b) (r := r) (T := T) m hnd hbd hlen
  intro F w hs
  refine (q F w hs).mono ?_
  rintro e w' ⟨v, L', ⟨h1, rfl⟩, h2, h3⟩
  refine ⟨v, _, ⟨h1, ?_⟩, h2, h3⟩
  have : (sortI (m.map (·.1))).length = m.length := by rw [sortI_length, List.length_map]
  show _ = [slR _ 1 v (sortI (m.map (·.1))).length _, _]
  rw [this]; rfl
end Go.Proofs.YtidjhgbdokcphaaGreat

/- Own work: the first example of law 09, reckoned. -/
namespace Go.Proofs.YtidjhgbdokcphaaGreat
open Go

def anyP : HP := fun _ => True
def awe (z : Int) : En := ⟨z, 0, 0, pt0, []⟩
def la0 : Ld := ⟨(lgFormat (Dk.new 64)).1, (lgF2 (Dk.new 64)).2.1, lg0⟩
def la1 : Ld × Int := lgAccept la0 3
def la2 : Ld × Int := lgAppend la1.1 (awe 4294967297)
def la3 : Ld × Int := lgAppend la2.1 (awe 4294967298)
def la4 : Ld × Int := lgAdopt la3.1 1
def la5 : Ld × Int := lgAppend la4.1 (awe 12884901889)
theorem la_olds : la5.1.δ.old.map (·.1) = [2, 3] := by kernel_rfl
theorem sort23 : sortI [2, 3] = [2, 3] := by
  unfold sortI
  exact List.mergeSort_of_pairwise (by simp)
def la6 : Dk := { ((la5.1.δ.crash1 (fateOf [] 0) 2).crash1 (fateOf [] 1) 3) with old := [], dead := false, left := 0 }
theorem la_crash : la5.1.δ.crash [] = la6 := by
  have h : la5.1.δ.pend = [2, 3] := by unfold Dk.pend; rw [la_olds, sort23]
  unfold Dk.crash
  rw [show la5.1.δ.pend.length = 2 by rw [h]; rfl]
  show { Dk.crash1 (Dk.crash1 la5.1.δ (fateOf [] 0) (la5.1.δ.pend.getD 0 0)) (fateOf [] 1) (la5.1.δ.pend.getD 1 0) with old := [], dead := false, left := 0 } = la6
  rw [h]; rfl
theorem la_ok : (la1.2, la2.2, la3.2, la4.2, la5.2) = (0, 0, 0, 0, 0) := by kernel_rfl
theorem la_dead : la6.dead = false := by kernel_rfl
theorem la_len : la6.now.length = 64 := by kernel_rfl
theorem la_acts : la6.acts = 18 := by kernel_rfl
theorem la_open : (openZ la6).map (fun ω => ((ω.doubt, ω.recs.length, ω.recs.all fun s => decide (s.length ≤ 4000)), (ω.area, ω.count, decide (ω.synced = ω.recs.length), (laidZ ω.recs).length), (openLZ ω).map fun Λ => (lastZ Λ, Λ.acc, Λ.cur, marksZ Λ, Λ.doubt, Λ.ents.length, Λ.zxs, Λ.base, Λ.ents.all fun s => decide (s.length ≤ 4000)))) = some ((false, 3, true), (0, 5, true, 50), some (4294967298, 3, 1, [4294967298], false, 2, [4294967297, 4294967298], 0, true)) := by kernel_rfl
structure LaOpen (ω : Wl) (Λ : Lg) : Prop where
  w : openZ la6 = some ω
  l : openLZ ω = some Λ
  doubt : ω.doubt = false
  few : ω.recs.length = 3
  each : ∀ s ∈ ω.recs, s.length ≤ 4000
  i : WlI la6 ω
  synced : ω.synced = ω.recs.length
  last : lastZ Λ = 4294967298
  acc : Λ.acc = 3
  cur : Λ.cur = 1
  marks : marksZ Λ = [4294967298]
  live : Λ.doubt = false
  li : LgI Λ
theorem la_opened : ∃ ω Λ, LaOpen ω Λ := by
  have h := la_open
  rcases hw : openZ la6 with _ | ω
  · rw [hw] at h; cases h
  rw [hw] at h
  rcases hl : openLZ ω with _ | Λ
  · rw [Option.map_some, hl] at h; simp at h
  rw [Option.map_some, hl, Option.map_some] at h
  simp only [Option.some.injEq, Prod.mk.injEq, List.all_eq_true, decide_eq_true_eq] at h
  obtain ⟨⟨h1, h2, h3⟩, ⟨h4, h5, h6, h7⟩, h8, h9, h10, h11, h12, h13, h14, h15, h16⟩ := h
  have hl6 := la_len
  have ha6 := la_acts
  have hh : halfZ la6 = 31 := by unfold halfZ; omega
  refine ⟨ω, Λ, hw, hl, h1, h2, h3, ⟨by omega, by omega, by omega, by omega, by omega, by rw [hh, h7]; decide⟩, h6, h8, h9, h10, h11, h12, ⟨by omega, by rw [h14, h13]; rfl, fun s hs => by have := h16 s hs; omega, by rw [h15]; decide, by rw [h14]; decide⟩⟩
theorem sync_done {s : Ld} (h : s.Λ.doubt = false) (h2 : s.ω.doubt = false) (h3 : s.ω.synced = s.ω.recs.length) : lgSync s = (s, 0) := by
  unfold lgSync
  rw [if_neg (by rw [h]; decide)]
  have e : syncZ s.δ s.ω = (s.δ, s.ω, 0) := by unfold syncZ; rw [if_neg (by rw [h2]; decide), if_pos h3]
  rw [e]; rfl
theorem lgFormat_some {δ : Dk} {ω : Wl} (h : (lgFormat δ).2 = some ω) : ω = (lgF2 δ).2.1 := by
  unfold lgFormat at h
  split at h
  · cases h
  split at h
  · cases h
  split at h
  · cases h
  · cases h; rfl
theorem numB_len {z : Int} (hz : I64 z) : (numB z).length ≤ 10 := sev_len10 (zig_lt hz)
theorem awe_X {z : Int} (hz : I64 z) : EnX anyP (awe z) := by
  have hr : ∀ sz h, rdS sz h nilV 0 [] := fun sz h => .inl ⟨rfl, rfl, _, _, rfl⟩
  have i0 : I64 0 := by decide
  have hi : EnI (awe z) := ⟨hz, i0, i0, ⟨i0, i0, i0, i0, (by decide : (0 : Nat) < U64), (by decide : (0 : Nat) < U64), (by decide : (0 : Nat) < U64), fun a ha => by cases ha⟩, (by decide : (0 : Nat) < U64), fun y hy => by cases hy⟩
  refine ⟨⟨⟨hi, fun h _ => hr 2 h, fun h _ => hr 8 h, fun y hy => by cases hy⟩, ?_, ⟨Nat.zero_le _, Nat.zero_le _, fun y hy => by cases hy⟩, ⟨rfl, rfl⟩, fun y hy => by cases hy⟩, fun y hy => by cases hy⟩
  have h1 : (numB 0).length = 1 := by kernel_rfl
  have h2 : (ptB pt0).length = 7 := by kernel_rfl
  have h3 : (subsB []).length = 1 := by kernel_rfl
  have h4 := numB_len hz
  rw [enB_len]
  show ([z, 0, 0].flatMap numB).length + (ptB pt0).length + (subsB []).length ≤ _
  simp only [List.flatMap_cons, List.flatMap_nil, List.length_append, List.length_nil]
  omega
theorem la_chain : LWell la0 4000003 ∧ LWell la1.1 8000003 ∧ LWell la2.1 12000003 ∧ LWell la3.1 16000003 ∧ LWell la4.1 20000003 ∧ LWell la5.1 24000003 ∧ WlI (lgSync la3.1).1.δ (lgSync la3.1).1.ω ∧ Well (formatZ (Dk.new 64)).1 newW 3 ∧ Well (lgF1 (Dk.new 64)).1 (lgF1 (Dk.new 64)).2.1 2000003 := by
  obtain ⟨ω, f1, f2, f3, f4, f5⟩ := format_lwell (n := 64) (by decide)
  rw [lgFormat_some f1] at f2
  have h1 := (lk_accept (s := la0) f2 3).1.well
  have h2 := (lk_append (s := la1.1) h1 (e := awe 4294967297) (awe_X (by decide)).l.w.i).well
  have h3 := (lk_append (s := la2.1) h2 (e := awe 4294967298) (awe_X (by decide)).l.w.i).well
  have h4 := (lk_adopt (s := la3.1) h3 1).1.well
  have h5 := (lk_append (s := la4.1) h4 (e := awe 12884901889) (awe_X (by decide)).l.w.i).well
  exact ⟨f2, h1, h2, h3, h4, h5, (lk_sync h3).1.well.i (by decide), f4, f5⟩
end Go.Proofs.YtidjhgbdokcphaaGreat

/- Own work, by program: package disk, the rest. -/

namespace Go.Proofs.YtidjhgbdokcphaaGreat
open Go
set_option maxRecDepth 100000 in
theorem pending_spec (d : Nat) (δ : Dk) : Fn Tryz.prog 76 #[vptr d] [dkR d δ] fun v L => (∃ a c, v = .slice a δ.pend.length c) ∧ L = [dkR d δ, intR v δ.pend] := by
 refine Fn.intro (vs := [vptr d]) Tryz.func76 rfl rfl ?_
 intro F W
 refine G.dkOpen .here fun nb ob hok => ?_
 have hol := hok.oldlen
 have hbg := hok.big
 refine G.seq (G.region (G.q (Quiet.assign rfl) rfl (G.nil (G.then_n (G.seq (G.region (G.q (Quiet.move rfl) rfl (G.q (Quiet.nilp rfl) rfl (G.q (Quiet.fieldAddr rfl fo_94_1) rfl ?_)))))))))
 refine G.q (Quiet.load rfl ag_92 (by (repeat' constructor)) (rfl)) rfl ?_
 refine G.op (OpSpec.call Tryz.func136 rfl rfl (vs := [_]) rfl (keysD_spec _)) (by (repeat' constructor)) rfl ?nx6
 rintro v L' ⟨bk, rfl, rfl⟩
 refine G.op (OpSpec.call Tryz.func135 rfl rfl (vs := [_]) rfl (sortedD_spec δ.old hok.nodup ?hbd8 ?hln9)) (by (repeat' constructor)) rfl ?nx10
 case hbd8 => intro x hx; have := hok.olds x hx; omega
 case hln9 => omega
 rintro v L' ⟨⟨al, cl, rfl⟩, rfl⟩
 refine G.q (Quiet.assign rfl) rfl (G.nil (G.then_n (G.ret ?_)))
 refine G.dkFold (δ := δ) (by (repeat' constructor)) rfl rfl rfl hok ?_
 exact G.done (l := [.tmp 2]) rfl rfl ⟨⟨_, _, by rw [Dk.pend_len]⟩, rfl⟩ (by (repeat' constructor)) (by (repeat' constructor))

set_option maxRecDepth 100000 in
theorem crash_spec (d : Nat) (δ : Dk) (hv : Value) (how : List Int) (p : HP) (hr : ∀ h : Hp, p h → rdS 1 h hv how.length (ints how)) (hb : ∀ z ∈ how, -9223372036854775808 ≤ z ∧ z ≤ 9223372036854775807) : Fn Tryz.prog 29 #[vptr d, hv] [dkR d δ, p] fun v L => v = .tuple #[] ∧ L = [dkR d (δ.crash how), p] := by
 refine Fn.intro (vs := [vptr d, hv]) Tryz.func29 rfl rfl ?_
 intro F W
 refine G.rdAny (p := p) hr (by (repeat' constructor)) fun ah ch e _ => ?_
 subst e
 refine G.dkOpen (by (repeat' constructor)) fun nb0 ob0 hok0 => ?_
 refine G.dkFold (δ := δ) (by (repeat' constructor)) rfl rfl rfl hok0 ?_
 have hol := hok0.oldlen
 have hbg := hok0.big
 have hpl := δ.pend_len
 refine G.seq (G.seq (G.region (G.q (Quiet.move rfl) rfl ?_)))
 refine G.op (OpSpec.call Tryz.func76 rfl rfl (vs := [_]) rfl (pending_spec d δ)) (by (repeat' constructor)) rfl ?nx2
 rintro v L' ⟨⟨al, cl, rfl⟩, rfl⟩
 refine G.q (Quiet.slen rfl Tryz.underlying31 rfl) rfl (G.q (Quiet.move rfl) rfl (G.nil (G.then_n (G.block ?_))))
 refine G.loop (F := F) (ι := Nat) (fun k => [(0, vptr d), (1, .slice ah how.length ch), (9, .slice al δ.pend.length cl), (10, vint δ.pend.length), (11, vint k)]) (fun k => [dkR d (δ.crashTo how k), p, intR (.slice al δ.pend.length cl) δ.pend]) (fun k => k ≤ δ.pend.length) (fun k => δ.pend.length - k) 0 (Nat.zero_le _) ⟨rfl, rfl, rfl, rfl, rfl, trivial⟩ (by (repeat' constructor)) (by (repeat' constructor)) ?_
 intro k hk
 refine G.seq (G.region (G.q (Quiet.int rfl rfl rfl) rfl (G.nil (G.then_n (G.seq ?_)))))
 refine G.condD rfl (fun h12 => ?_) (fun h12 => ?_)
 ·have hk2 : k < δ.pend.length := by omega
  have hfb := fate0 how hb k
  obtain ⟨w0, w1, w2, o, w3, w4⟩ := Dk.pend_at hok0 hk2
  have hie : δ.pend.getD k 0 = δ.pend[k] := by simp [hk2]
  generalize hi : δ.pend.getD k 0 = i at w0 w1 w2 w3 hie
  refine G.slShape (v := .slice al _ cl) (by (repeat' constructor)) (by omega) fun bl cl' e ml _ => ?_
  simp only [Value.slice.injEq, true_and] at e
  obtain ⟨rfl, rfl⟩ := e
  refine G.skip (G.then_n (G.seq (G.block (G.seq (G.region (G.q (Quiet.move rfl) rfl ?_))))))
  refine G.q (Quiet.indexAddr rfl rfl el_31 (by omega)) rfl ?_
  refine G.q (Quiet.loadSl (v := vint i) (i := k * 1) rfl ag_3 (by (repeat' constructor)) (by simp [hk2, hie])) rfl ?_
  refine G.q (Quiet.assign rfl) rfl (G.q (Quiet.assign rfl) rfl (G.nil (G.then_n (G.seq (G.region (G.q (Quiet.assign rfl) rfl (G.nil (G.then_n (G.seq ?_)))))))))
  refine G.join (F := F) (ι := Unit) (fun _ => [(0, vptr d), (1, .slice ah how.length ch), (9, .slice (some ⟨bl, 0, none⟩) δ.pend.length cl), (10, vint δ.pend.length), (11, vint k), (4, vint k), (5, vint i), (6, vint (if k < how.length then how.getD k 0 else 0))]) (fun _ => [dkR d (δ.crashTo how k), p, intR (.slice (some ⟨bl, 0, none⟩) δ.pend.length cl) δ.pend]) (fun _ => True) ?_ (fun _ _ => ?_)
  ·refine G.seq (G.region (G.q (Quiet.move rfl) rfl (G.q (Quiet.move rfl) rfl (G.q (Quiet.slen rfl Tryz.underlying31 rfl) rfl (G.q (Quiet.int rfl rfl rfl) rfl (G.nil (G.then_n ?_)))))))
   refine G.condD rfl (fun h19 => ?_) (fun h19 => ?_)
   ·have hk3 : k < how.length := by omega
    refine G.rdShape (p := p) hr (by (repeat' constructor)) (by omega) fun bh oh e => ?_
    subst e
    refine G.region (G.q (Quiet.move rfl) rfl (G.q (Quiet.move rfl) rfl ?_))
    refine G.q (Quiet.indexAddr rfl rfl el_31 (by omega)) rfl ?_
    refine G.q (Quiet.loadEl (p := p) (i := k * 1) (v := vint (how.getD k 0)) rfl ag_3 (by (repeat' constructor)) hr (by simp [hk3])) rfl ?_
    refine G.q (Quiet.assign rfl) rfl (G.nil (G.then_n ?_))
    exact G.meet () trivial ⟨rfl, rfl, rfl, rfl, rfl, rfl, rfl, (by show some (vint _) = some (vint _); rw [if_pos (by omega)]), trivial⟩ (by (repeat' constructor)) (by (repeat' constructor))
   ·refine G.skip (G.then_n ?_)
    exact G.meet () trivial ⟨rfl, rfl, rfl, rfl, rfl, rfl, rfl, (by show some (vint _) = some (vint _); rw [if_neg (by omega)]), trivial⟩ (by (repeat' constructor)) (by (repeat' constructor))
  have hraw : -9223372036854775808 ≤ (if k < how.length then how.getD k 0 else 0) ∧ (if k < how.length then how.getD k 0 else 0) ≤ 9223372036854775807 := by (split; (rename_i hk3; have e : how.getD k 0 = how[k] := (by simp [hk3]); rw [e]; exact hb _ (List.getElem_mem _)); omega)
  refine G.seq ?_
  refine G.join (F := F) (ι := Unit) (fun _ => [(0, vptr d), (1, .slice ah how.length ch), (9, .slice (some ⟨bl, 0, none⟩) δ.pend.length cl), (10, vint δ.pend.length), (11, vint k), (4, vint k), (5, vint i), (6, vint (fateOf how k))]) (fun _ => [dkR d (δ.crashTo how k), p, intR (.slice (some ⟨bl, 0, none⟩) δ.pend.length cl) δ.pend]) (fun _ => True) ?_ (fun _ _ => ?_)
  ·refine G.seq (G.region (G.q (Quiet.move rfl) rfl (G.q (Quiet.int rfl rfl rfl) rfl (G.nil (G.then_n ?_)))))
   refine G.condD rfl (fun h25 => ?_) (fun h25 => ?_)
   ·refine G.region (G.q (Quiet.move rfl) rfl ?_)
    refine G.q (Quiet.add rfl rfl (by omega)) rfl ?_
    refine G.q (Quiet.neg rfl (by omega)) rfl ?_
    refine G.q (Quiet.assign rfl) rfl (G.nil (G.then_n ?_))
    exact G.meet () trivial ⟨rfl, rfl, rfl, rfl, rfl, rfl, rfl, (by show some (vint _) = some (vint _); unfold fateOf; dsimp only; rw [if_pos h25]), trivial⟩ (by (repeat' constructor)) (by (repeat' constructor))
   ·refine G.skip (G.then_n ?_)
    exact G.meet () trivial ⟨rfl, rfl, rfl, rfl, rfl, rfl, rfl, (by show some (vint _) = some (vint _); unfold fateOf; dsimp only; rw [if_neg h25]), trivial⟩ (by (repeat' constructor)) (by (repeat' constructor))
  generalize hf : fateOf how k = f at hfb ⊢
  have hok := Dk.crashTo_ok hok0 how k (by omega)
  obtain ⟨so, -, -, -, sn⟩ := δ.crashTo_same how k
  generalize hσ : δ.crashTo how k = σ at hok so sn ⊢
  rw [← so] at w3
  rw [← sn] at w1 w2
  refine G.dkOpen (δ := σ) (by (repeat' constructor)) fun nb ob _ => ?_
  have q3 : (bys o).length = 64 := by simpa using w4
  have q4 := secsC_length hok.sec
  have q5 : σ.now[i.toNat].length = 64 := hok.sec _ (List.getElem_mem w1)
  have qf : f % 3 = 0 ∨ f % 3 = 1 ∨ f % 3 = 2 := by omega
  have qb : 0 ≤ f / 3 % 65 ∧ f / 3 % 65 ≤ 64 := by omega
  have qb2 : (f / 3 % 65).toNat ≤ 64 := by omega
  refine G.seq (G.region (G.q (Quiet.move rfl) rfl (G.q (Quiet.nilp rfl) rfl (G.q (Quiet.fieldAddr rfl fo_94_1) rfl ?_))))
  refine G.q (Quiet.load rfl ag_92 (by (repeat' constructor)) (rfl)) rfl ?_
  refine G.q (Quiet.move rfl) rfl ?_
  refine G.q (Quiet.lookupS (m := σ.old) (enc := secV) (KeyLaw.int Tryz.underlying3) w3 rfl rfl Tryz.underlying92 ze_123 (by (repeat' constructor)) rfl) rfl ?_
  refine G.op (OpSpec.allocA ze_123) (by (repeat' constructor)) rfl ?nx28
  rintro v L' ⟨tb, rfl, rfl⟩
  refine G.op (OpSpec.storeA rfl rfl ?c30 sz_123 ?c33 ?c31 ?c32) (by (repeat' constructor)) rfl ?nx34
  case c30 => exact bys_cell _
  case c33 => exact q3
  case c31 => rw [q3]; decide
  case c32 => exact nfz0 _ _
  rintro v L' rfl
  refine G.nil ?_
  rw [spl_all (vs := bys o) (by rw [q3]; rfl)]
  refine G.then_n (G.seq (G.region (G.q (Quiet.move rfl) rfl ?_)))
  refine G.q (Quiet.remE rfl rfl (by omega) (by omega)) rfl ?_
  refine G.nil (G.then_n (G.block (G.seq (G.region (G.q (Quiet.int rfl rfl rfl) rfl (G.q (Quiet.assign rfl) rfl (G.nil (G.then_n ?_))))))))
  refine G.condD rfl (fun h37 => ?_) (fun h37 => ?_)
  ·refine G.draw [7] [[0, 1, 2, 3, 4, 5, 6, 7]] mixed (by kernel_rfl) ?_
   refine Phases.go [] (by (repeat' constructor)) ?_
   refine D.qw [1, 2, 3, 6, 7] rfl (by kernel_rfl) (Quiet.move rfl) ?_
   refine D.qw [2, 3, 6, 7] rfl (by kernel_rfl) (Quiet.nilp rfl) ?_
   refine D.qw [3, 6, 7] rfl (by kernel_rfl) (Quiet.fieldAddr rfl fo_94_0) ?_
   refine D.qw [6, 7] rfl (by kernel_rfl) (Quiet.load rfl ag_91 (by (repeat' constructor)) (rfl)) ?_
   refine D.qw [6, 7] rfl (by kernel_rfl) (Quiet.move rfl) ?_
   refine D.qw [6, 7] rfl (by kernel_rfl) (Quiet.loadAs (vs := bys o) rfl ag_123 (by (repeat' constructor)) (by rw [q3]; decide) (by rw [List.drop_zero]; exact List.take_of_length_le (by rw [q3]; decide))) ?_
   refine D.qw [7] rfl (by kernel_rfl) (Quiet.indexAddr rfl rfl el_91 (by omega)) ?_
   refine D.h rfl (by kernel_rfl) (OpSpec.storeA rfl rfl ?c45 sz_123 ?c48 ?c46 ?c47) (by (repeat' constructor)) ?nx49
   case c45 => exact bys_cell _
   case c48 => exact q3
   case c46 => rw [q3, q4]; omega
   case c47 => exact nfz0 _ _
   rintro v L' rfl
   refine D.ph (Phases.fin ?_)
   rw [Nat.zero_add, secsC_set hok.sec w1 w4]
   refine G.blk_n (G.blk_n (G.then_n ?_))
   have hE : δ.crashTo how (k + 1) = σ.crash1 f i := by rw [Dk.crashTo, hσ, hf, hi]
   have hN : σ.now.set i.toNat o = (σ.crash1 f i).now := by simp only [Dk.crash1, w3, Option.getD_some]; rw [if_pos h37]
   refine G.dkFold (nb := nb) (ob := ob) (δ := σ.crash1 f i) (by (repeat' constructor)) (by rw [Dk.crash1_len]; rfl) (by rw [← hN]) rfl (hok.crash1 f w3 w4 w1) ?_
   rw [← hE]
   refine G.region ?_
   refine G.q (Quiet.add rfl rfl (by omega)) rfl ?_
   refine G.q (Quiet.move rfl) rfl (G.nil (G.then_n ?_))
   refine G.round (k + 1) (by omega) (by omega) ⟨rfl, rfl, rfl, rfl, rfl, trivial⟩ (by (repeat' constructor)) (by (repeat' constructor))
  ·refine G.seq (G.region (G.q (Quiet.int rfl rfl rfl) rfl (G.q (Quiet.assign rfl) rfl (G.nil (G.then_n ?_)))))
   refine G.condD rfl (fun h46 => ?_) (fun h46 => ?_)
   ·refine G.seq ?_
    refine G.draw [11] [[0, 1, 2, 3, 4, 5, 6, 7, 8, 9, 10, 11]] mixed (by kernel_rfl) ?_
    refine Phases.go [] (by (repeat' constructor)) ?_
    refine D.qw [11] rfl (by kernel_rfl) (Quiet.arrSlice rfl ar_123 (by first | exact rfl | rfl) (by first | exact rfl | rfl) (by omega)) ?_
    refine D.qw [2, 3, 4, 6, 10, 11] rfl (by kernel_rfl) (Quiet.move rfl) ?_
    refine D.qw [3, 4, 6, 10, 11] rfl (by kernel_rfl) (Quiet.nilp rfl) ?_
    refine D.qw [4, 6, 10, 11] rfl (by kernel_rfl) (Quiet.fieldAddr rfl fo_94_0) ?_
    refine D.qw [6, 10, 11] rfl (by kernel_rfl) (Quiet.load rfl ag_91 (by (repeat' constructor)) (rfl)) ?_
    refine D.qw [6, 10, 11] rfl (by kernel_rfl) (Quiet.move rfl) ?_
    refine D.qw [10, 11] rfl (by kernel_rfl) (Quiet.indexAddr rfl rfl el_91 (by omega)) ?_
    refine D.qw [8, 9, 10, 11] rfl (by kernel_rfl) (Quiet.move rfl) ?_
    refine D.qw [9, 10, 11] rfl (by kernel_rfl) (Quiet.quoE rfl rfl (by omega) (by omega)) ?_
    refine D.qw [10, 11] rfl (by kernel_rfl) (Quiet.remE rfl rfl (by omega) (by omega)) ?_
    refine D.qw [11] rfl (by kernel_rfl) (Quiet.arrSlice rfl ar_123 (by first | exact rfl | rfl) (by first | exact rfl | rfl) (by omega)) ?_
    refine D.h rfl (by kernel_rfl) (OpSpec.copy (p := ptc nb (secsC σ.now) 123) (m := (f / 3 % 65).toNat) (ys := bys (σ.now[i.toNat].take (f / 3 % 65).toNat)) rfl rfl rfl el_125 ?hrd63 ?hc64 ?ho65 ?hf66) (by (repeat' constructor)) ?nx67
    case hrd63 => intro h hp; exact rdS_pt hp (secsC_take hok.sec w1 (by simp) (by simp) qb2) (by rw [q4]; show 0 + i.toNat * 64 + 0 * 1 + ((f / 3 % 65).toNat - 0) * 1 ≤ σ.now.length * 64; omega) (by show (f / 3 % 65).toNat - 0 ≤ 64 - 0; omega)
    case hc64 => exact bys_cell _
    case ho65 => rw [q3]; decide
    case hf66 => exact nfz0 _ _
    rintro v L' ⟨rfl, rfl⟩
    refine D.ph (Phases.fin ?_)
    have eo : (bys (σ.now[i.toNat].take (f / 3 % 65).toNat)).take (min (f / 3 % 65).toNat (((64 : Nat) : Int).toNat - Int.toNat 0) * 1) = bys (σ.now[i.toNat].take (f / 3 % 65).toNat) := List.take_of_length_le (by simp; omega)
    have e13 : spl (bys o) (0 + Int.toNat 0 * 1) (bys (σ.now[i.toNat].take (f / 3 % 65).toNat)) = bys (σ.now[i.toNat].take (f / 3 % 65).toNat ++ o.drop (f / 3 % 65).toNat) := by simp [spl, List.map_drop, q5, Nat.min_eq_left qb2]
    have q6 : (σ.now[i.toNat].take (f / 3 % 65).toNat ++ o.drop (f / 3 % 65).toNat).length = 64 := by rw [List.length_append, List.length_take, List.length_drop, q5, w4]; omega
    generalize ho2 : σ.now[i.toNat].take (f / 3 % 65).toNat ++ o.drop (f / 3 % 65).toNat = o2 at e13 q6
    have q7 : (bys o2).length = 64 := by simpa using q6
    rw [eo, e13]
    refine G.then_n ?_
    refine G.draw [7] [[0, 1, 2, 3, 4, 5, 6, 7]] mixed (by kernel_rfl) ?_
    refine Phases.go [] (by (repeat' constructor)) ?_
    refine D.qw [1, 2, 3, 6, 7] rfl (by kernel_rfl) (Quiet.move rfl) ?_
    refine D.qw [2, 3, 6, 7] rfl (by kernel_rfl) (Quiet.nilp rfl) ?_
    refine D.qw [3, 6, 7] rfl (by kernel_rfl) (Quiet.fieldAddr rfl fo_94_0) ?_
    refine D.qw [6, 7] rfl (by kernel_rfl) (Quiet.load rfl ag_91 (by (repeat' constructor)) (rfl)) ?_
    refine D.qw [6, 7] rfl (by kernel_rfl) (Quiet.move rfl) ?_
    refine D.qw [6, 7] rfl (by kernel_rfl) (Quiet.loadAs (vs := bys o2) rfl ag_123 (by (repeat' constructor)) (by rw [q7]; decide) (by rw [List.drop_zero]; exact List.take_of_length_le (by rw [q7]; decide))) ?_
    refine D.qw [7] rfl (by kernel_rfl) (Quiet.indexAddr rfl rfl el_91 (by omega)) ?_
    refine D.h rfl (by kernel_rfl) (OpSpec.storeA rfl rfl ?c76 sz_123 ?c79 ?c77 ?c78) (by (repeat' constructor)) ?nx80
    case c76 => exact bys_cell _
    case c79 => exact q7
    case c77 => rw [q7, q4]; omega
    case c78 => exact nfz0 _ _
    rintro v L' rfl
    refine D.ph (Phases.fin ?_)
    rw [Nat.zero_add, secsC_set hok.sec w1 q6]
    refine G.blk_n (G.blk_n (G.then_n ?_))
    have hE : δ.crashTo how (k + 1) = σ.crash1 f i := by rw [Dk.crashTo, hσ, hf, hi]
    have hN : σ.now.set i.toNat o2 = (σ.crash1 f i).now := by simp only [Dk.crash1, w3, Option.getD_some]; rw [if_neg h37, if_pos h46, ← ho2]; simp [w1]
    refine G.dkFold (nb := nb) (ob := ob) (δ := σ.crash1 f i) (by (repeat' constructor)) (by rw [Dk.crash1_len]; rfl) (by rw [← hN]) rfl (hok.crash1 f w3 w4 w1) ?_
    rw [← hE]
    refine G.region ?_
    refine G.q (Quiet.add rfl rfl (by omega)) rfl ?_
    refine G.q (Quiet.move rfl) rfl (G.nil (G.then_n ?_))
    refine G.round (k + 1) (by omega) (by omega) ⟨rfl, rfl, rfl, rfl, rfl, trivial⟩ (by (repeat' constructor)) (by (repeat' constructor))
   ·refine G.skip (G.blk_n (G.blk_n (G.then_n ?_)))
    have hE : δ.crashTo how (k + 1) = σ.crash1 f i := by rw [Dk.crashTo, hσ, hf, hi]
    have hN : σ.now = (σ.crash1 f i).now := by simp only [Dk.crash1, w3, Option.getD_some]; rw [if_neg h37, if_neg h46]
    refine G.dkFold (nb := nb) (ob := ob) (δ := σ.crash1 f i) (by (repeat' constructor)) (by rw [Dk.crash1_len]; rfl) (by rw [← hN]) rfl (hok.crash1 f w3 w4 w1) ?_
    rw [← hE]
    refine G.region ?_
    refine G.q (Quiet.add rfl rfl (by omega)) rfl ?_
    refine G.q (Quiet.move rfl) rfl (G.nil (G.then_n ?_))
    refine G.round (k + 1) (by omega) (by omega) ⟨rfl, rfl, rfl, rfl, rfl, trivial⟩ (by (repeat' constructor)) (by (repeat' constructor))
 ·have hk2 : k = δ.pend.length := by omega
  subst hk2
  refine G.dkOpen (δ := δ.crashTo how δ.pend.length) (by (repeat' constructor)) fun nb ob hok => ?_
  refine G.exit (G.then_e (G.then_e (G.blk_e (G.then_n (G.seq (G.region (G.q (Quiet.move rfl) rfl (G.q (Quiet.nilp rfl) rfl (G.q (Quiet.fieldAddr rfl fo_94_1) rfl ?_)))))))))
  refine G.q (Quiet.load rfl ag_92 (by (repeat' constructor)) (rfl)) rfl ?_
  refine G.op (OpSpec.mapClear rfl rfl Tryz.underlying92) (by (repeat' constructor)) rfl ?nx87
  rintro v L' rfl
  refine G.nil (G.then_n (G.region (G.q (Quiet.move rfl) rfl (G.q (Quiet.move rfl) rfl (G.q (Quiet.nilp rfl) rfl (G.q (Quiet.fieldAddr rfl fo_94_4) rfl ?_))))))
  refine G.op (OpSpec.store rfl rfl rfl sz_4 ?c92 ?c93) (by (repeat' constructor)) rfl ?nx94
  case c92 => first | decide | (simp; omega) | simp
  case c93 => exact nfz0 _ _
  rintro v L' rfl
  refine G.q (Quiet.nilp rfl) rfl (G.q (Quiet.fieldAddr rfl fo_94_3) rfl ?_)
  refine G.op (OpSpec.store rfl rfl rfl sz_3 ?c97 ?c98) (by (repeat' constructor)) rfl ?nx99
  case c97 => first | decide | (simp; omega) | simp
  case c98 => exact nfz0 _ _
  rintro v L' rfl
  refine G.nil (G.done_n ?_)
  refine G.dkFold (δ := δ.crash how) (by (repeat' constructor)) rfl rfl rfl (hok0.crashed how) ?_
  exact G.done (l := []) rfl rfl ⟨rfl, rfl⟩ (by (repeat' constructor)) (by (repeat' constructor))

set_option maxRecDepth 100000 in
theorem new_spec (n : Int) : Fn Tryz.prog 11 #[vint n] [] fun v L => ((n < 16 ∨ 32768 < n) ∧ v = .tuple #[.pointer none, vint 1] ∧ L = []) ∨ ((16 ≤ n ∧ n ≤ 32768) ∧ ∃ x, v = .tuple #[vptr x, vint 0] ∧ L = [dkR x (Dk.new n)]) := by
 refine Fn.intro (vs := [vint n]) Tryz.func11 rfl rfl ?_
 intro F W
 refine G.seq (G.region (G.q (Quiet.assign rfl) rfl (G.q (Quiet.assign rfl) rfl (G.nil (G.then_n (G.seq (G.seq (G.region (G.q (Quiet.move rfl) rfl (G.q (Quiet.int rfl rfl rfl) rfl (G.q (Quiet.move rfl) rfl ?_)))))))))))
 refine G.dec (t := 6) rfl (fun h1_6 => ?_) (fun h1_6 => ?_)
 ·refine G.kDT (t := 5) rfl h1_6 (G.gskip (t := 6) rfl rfl rfl rfl (G.gskip (t := 6) rfl rfl rfl rfl (G.q (Quiet.pickT rfl rfl) rfl (G.nil (G.then_n (G.condT rfl (G.seq (G.region (G.q (Quiet.assign rfl) rfl (G.q (Quiet.assign rfl) rfl (G.nil (G.then_n (G.ret (G.then_r ?_))))))))))))))
  exact G.done (l := [.tmp 2, .tmp 3]) rfl rfl (.inl ⟨by omega, rfl, rfl⟩) (by (repeat' constructor)) (by (repeat' constructor))
 ·refine G.kDF (t := 5) rfl h1_6 (G.grun (t := 6) rfl rfl rfl (G.q (Quiet.move rfl) rfl (G.grun (t := 6) rfl rfl rfl (G.q (Quiet.int rfl rfl rfl) rfl (G.q (Quiet.pickF rfl rfl) rfl (G.nil (G.then_n ?_)))))))
  refine G.condD rfl (fun h9 => ?_) (fun h9 => ?_)
  ·refine G.seq (G.region (G.q (Quiet.assign rfl) rfl (G.q (Quiet.assign rfl) rfl (G.nil (G.then_n (G.ret (G.then_r ?_)))))))
   exact G.done (l := [.tmp 2, .tmp 3]) rfl rfl (.inl ⟨by omega, rfl, rfl⟩) (by (repeat' constructor)) (by (repeat' constructor))
  ·obtain ⟨hn1, hn2⟩ : 16 ≤ n ∧ n ≤ 32768 := by omega
   refine G.skip (G.then_n (G.seq (G.region (G.q (Quiet.move rfl) rfl ?_))))
   refine G.op (OpSpec.make rfl rfl el_91 ze_123 rfl ⟨by simp, by simp; rfl⟩ ?c13) (by (repeat' constructor)) rfl ?nx14
   case c13 => omega
   rintro v L' ⟨nb, rfl, rfl⟩
   refine G.op (OpSpec.makeMap Tryz.underlying92) (by (repeat' constructor)) rfl ?nx16
   rintro v L' ⟨ob, rfl, rfl⟩
   refine G.q (Quiet.build (us := [(0, _), (1, _)]) fl_94 ze_94 rfl rfl (by simp [isCell])) rfl ?_
   refine G.op (OpSpec.box rfl) (by (repeat' constructor)) rfl ?nx19
   rintro v L' ⟨x, rfl, rfl⟩
   refine G.q (Quiet.assign rfl) rfl (G.q (Quiet.assign rfl) rfl (G.nil (G.then_n (G.ret ?_))))
   refine G.fold (p := mapR ob []) (.cons (p := pt ob (.map #[] 0)) (by (repeat' constructor)) .nil) (fun h hp => mapR_new (sep_pt hp)) ?_
   refine G.dkFold (nb := nb) (ob := ob) (δ := Dk.new n) (by (repeat' constructor)) (by simp [Dk.new]; rfl) (secsC_new _).symm rfl (Dk.new_ok (by omega)) ?_
   exact G.done (l := [.tmp 2, .tmp 3]) rfl rfl (.inr ⟨⟨hn1, hn2⟩, x, rfl, rfl⟩) (by (repeat' constructor)) (by (repeat' constructor))

end Go.Proofs.YtidjhgbdokcphaaGreat

/- Own work, by program: the first example of law 09: walked. -/
namespace Go.Proofs.YtidjhgbdokcphaaGreat
open Go
theorem la_fmt : (lgFormat (Dk.new 64)).2 = some (lgF2 (Dk.new 64)).2.1 := by
  obtain ⟨ω, h, -⟩ := format_lwell (n := 64) (by decide)
  rw [h, lgFormat_some h]
set_option maxRecDepth 100000 in
theorem awake9_spec : Fn Tryz.prog 10 #[] [] fun v L => v = .bool true ∧ L = [] := by
 refine Fn.intro (vs := []) Tryz.func10 rfl rfl ?_
 intro F W
 obtain ⟨h0, h1, h2, h3, h4, h5, hsy, hf3, hf4⟩ := la_chain
 obtain ⟨ω, Λ, hO⟩ := la_opened
 have hok := la_ok
 simp only [Prod.mk.injEq] at hok
 obtain ⟨e1, e2, e3, e4, e5⟩ := hok
 refine G.add (p := anyP) (fun _ => trivial) ?_
 refine G.add (slR_nil 3 1) ?_
 refine G.seq (G.region (G.q (Quiet.assign rfl) rfl (G.nil (G.then_n (G.seq (G.region ?_))))))
 refine G.op (OpSpec.call Tryz.func11 rfl rfl (vs := [_]) rfl (new_spec 64)) (by (repeat' constructor)) rfl ?nx2
 rintro v L' (⟨h, -, -⟩ | ⟨-, d, rfl, rfl⟩); · omega
 refine G.q (Quiet.move rfl) rfl (G.q (Quiet.extract rfl rfl) rfl (G.q (Quiet.extract rfl rfl) rfl (G.q (Quiet.assign rfl) rfl (G.q (Quiet.assign rfl) rfl (G.nil (G.then_n (G.seq (G.region (G.q (Quiet.move rfl) rfl ?_)))))))))
 refine G.op (OpSpec.call Tryz.func12 rfl rfl (vs := [_]) rfl (lformat_spec d (Dk.new 64) (by decide) (hf3.i (by decide)) (hf4.i (by decide)))) (by (repeat' constructor)) rfl ?nx6
 rintro v L' (⟨h, -, -⟩ | ⟨ω0, g, x, hw0, rfl, rfl⟩); · rw [la_fmt] at h; cases h
 obtain rfl := lgFormat_some hw0
 rw [show lg0 = la0.Λ from rfl, show (lgF2 (Dk.new 64)).2.1 = la0.ω from rfl, show (lgFormat (Dk.new 64)).1 = la0.δ from rfl]
 refine G.q (Quiet.move rfl) rfl (G.q (Quiet.extract rfl rfl) rfl (G.q (Quiet.extract rfl rfl) rfl (G.q (Quiet.assign rfl) rfl (G.q (Quiet.assign rfl) rfl (G.nil (G.then_n (G.seq (G.seq (G.region (G.q (Quiet.move rfl) rfl (G.q (Quiet.ptreq rfl rfl Tryz.underlying28) rfl (G.q (Quiet.move rfl) rfl (G.grun (t := 25) rfl rfl rfl (G.q (Quiet.move rfl) rfl (G.grun (t := 25) rfl rfl rfl ?_)))))))))))))))
 refine G.q (Quiet.as (v' := .bool false) (by rfl) (Quiet.int rfl rfl rfl)) rfl ?_
 refine G.q (Quiet.pickF rfl rfl) rfl (G.q (Quiet.move rfl) rfl (G.grun (t := 29) rfl rfl rfl (G.q (Quiet.move rfl) rfl (G.grun (t := 29) rfl rfl rfl ?_))))
 refine G.q (Quiet.as (v' := .bool false) (by rfl) (Quiet.int rfl rfl rfl)) rfl ?_
 refine G.q (Quiet.pickF rfl rfl) rfl (G.nil (G.then_n (G.condF rfl (G.skip (G.then_n (G.seq (G.region (G.q (Quiet.move rfl) rfl ?_))))))))
 refine G.op (OpSpec.call Tryz.func39 rfl rfl (vs := [_, _]) rfl (laccept_spec g x d la0.δ la0.ω la0.Λ 3 (h0.well.i (by decide)))) (by (repeat' constructor)) rfl ?nx13
 rintro v L' ⟨rfl, rfl⟩; rw [show lgAccept ⟨la0.δ, la0.ω, la0.Λ⟩ 3 = la1 from rfl]
 refine G.q (Quiet.assign rfl) rfl (G.nil (G.then_n (G.seq (G.region (G.q (Quiet.move rfl) rfl ?_)))))
 refine G.q (Quiet.to (v' := .agg (enC (awe 4294967297)).toArray) (Quiet.buildN (pl := [(0, 1), (1, 1), (2, 1), (3, 8)]) (us := [(0, _)]) (cells := enC (awe 4294967297)) Tryz.underlying38 (by kernel_rfl) ze_38 rfl rfl) rfl) rfl ?_
 refine G.op (OpSpec.call Tryz.func13 rfl rfl (vs := [_, _]) rfl (lappend_spec g x d la1.1.δ la1.1.ω la1.1.Λ (awe 4294967297) anyP (awe_X (by decide)) (h1.well.i (by decide)) h1.w.i)) (by (repeat' constructor)) rfl ?nx16
 rintro v L' ⟨rfl, rfl⟩; rw [show lgAppend ⟨la1.1.δ, la1.1.ω, la1.1.Λ⟩ (awe 4294967297) = la2 from rfl]
 refine G.q (Quiet.assign rfl) rfl (G.nil (G.then_n (G.seq (G.region (G.q (Quiet.move rfl) rfl ?_)))))
 refine G.q (Quiet.to (v' := .agg (enC (awe 4294967298)).toArray) (Quiet.buildN (pl := [(0, 1), (1, 1), (2, 1), (3, 8)]) (us := [(0, _)]) (cells := enC (awe 4294967298)) Tryz.underlying38 (by kernel_rfl) ze_38 rfl rfl) rfl) rfl ?_
 refine G.op (OpSpec.call Tryz.func13 rfl rfl (vs := [_, _]) rfl (lappend_spec g x d la2.1.δ la2.1.ω la2.1.Λ (awe 4294967298) anyP (awe_X (by decide)) (h2.well.i (by decide)) h2.w.i)) (by (repeat' constructor)) rfl ?nx19
 rintro v L' ⟨rfl, rfl⟩; rw [show lgAppend ⟨la2.1.δ, la2.1.ω, la2.1.Λ⟩ (awe 4294967298) = la3 from rfl]
 refine G.q (Quiet.assign rfl) rfl (G.nil (G.then_n (G.seq (G.region (G.q (Quiet.move rfl) rfl ?_)))))
 refine G.op (OpSpec.call Tryz.func43 rfl rfl (vs := [_, _]) rfl (ladopt_spec g x d la3.1.δ la3.1.ω la3.1.Λ 1 (h3.well.i (by decide)) hsy)) (by (repeat' constructor)) rfl ?nx21
 rintro v L' ⟨rfl, rfl⟩; rw [show lgAdopt ⟨la3.1.δ, la3.1.ω, la3.1.Λ⟩ 1 = la4 from rfl]
 refine G.q (Quiet.assign rfl) rfl (G.nil (G.then_n (G.seq (G.region (G.q (Quiet.move rfl) rfl ?_)))))
 refine G.q (Quiet.to (v' := .agg (enC (awe 12884901889)).toArray) (Quiet.buildN (pl := [(0, 1), (1, 1), (2, 1), (3, 8)]) (us := [(0, _)]) (cells := enC (awe 12884901889)) Tryz.underlying38 (by kernel_rfl) ze_38 rfl rfl) rfl) rfl ?_
 refine G.op (OpSpec.call Tryz.func13 rfl rfl (vs := [_, _]) rfl (lappend_spec g x d la4.1.δ la4.1.ω la4.1.Λ (awe 12884901889) anyP (awe_X (by decide)) (h4.well.i (by decide)) h4.w.i)) (by (repeat' constructor)) rfl ?nx24
 rintro v L' ⟨rfl, rfl⟩; rw [show lgAppend ⟨la4.1.δ, la4.1.ω, la4.1.Λ⟩ (awe 12884901889) = la5 from rfl]
 refine G.q (Quiet.assign rfl) rfl (G.nil (G.then_n (G.seq (G.region (G.q (Quiet.move rfl) rfl ?_)))))
 refine G.op (OpSpec.call Tryz.func29 rfl rfl (vs := [_, _]) rfl (crash_spec d la5.1.δ (.slice none 0 0) [] (slR 3 1 (.slice none 0 0) 0 []) (fun h hp => slR_rd hp) (fun z hz => by cases hz))) (by (repeat' constructor)) rfl ?nx26
 rintro v L' ⟨rfl, rfl⟩; rw [la_crash]
 refine G.nil (G.then_n (G.seq ?_))
 refine G.dkOk (by (repeat' constructor)) fun hok6 => ?_
 refine G.region (G.q (Quiet.move rfl) rfl ?_)
 refine G.op (OpSpec.call Tryz.func18 rfl rfl (vs := [_]) rfl (lopen_spec d la6 (by rw [la_len]; decide) hok6 (fun ω1 h1 => by rw [hO.w] at h1; cases h1; exact ⟨hO.doubt, by rw [hO.few]; decide, fun s hs => by have := hO.each s hs; omega⟩))) (by (repeat' constructor)) rfl ?nx28
 rintro v L' (⟨h, -, -⟩ | ⟨-, h, -, -⟩ | ⟨-, ω1, h1, ⟨h, -, -⟩ | ⟨Λ1, m, y, hl1, rfl, rfl⟩⟩); · rw [la_dead] at h; cases h
 · rw [hO.w] at h; cases h
 · rw [hO.w] at h1; cases h1; rw [hO.l] at h; cases h
 rw [hO.w] at h1; cases h1; rw [hO.l] at hl1; cases hl1
 refine G.q (Quiet.move rfl) rfl (G.q (Quiet.extract rfl rfl) rfl (G.q (Quiet.extract rfl rfl) rfl (G.q (Quiet.assign rfl) rfl (G.q (Quiet.assign rfl) rfl (G.nil (G.then_n (G.seq (G.seq (G.region (G.q (Quiet.move rfl) rfl (G.q (Quiet.ptreq rfl rfl Tryz.underlying28) rfl (G.nil (G.then_n (G.condF rfl (G.skip (G.then_n (G.seq (G.region (G.q (Quiet.move rfl) rfl ?_)))))))))))))))))))
 refine G.op (OpSpec.call Tryz.func15 rfl rfl (vs := [_]) rfl (lmarks_spec m y Λ hO.li)) (by (repeat' constructor)) rfl ?nx33
 rintro v L' ⟨am, cm, rfl, rfl⟩; rw [hO.marks]
 refine G.q (Quiet.assign rfl) rfl (G.nil (G.then_n (G.seq ?_)))
 refine G.slShape (v := .slice am _ cm) (xs := ints [4294967298]) (by (repeat' constructor)) (by decide) fun bm cm' em mbm _ => ?_
 simp only [Value.slice.injEq, true_and] at em
 obtain ⟨rfl, rfl⟩ := em
 refine G.region (G.q (Quiet.move rfl) rfl ?_)
 refine G.q (Quiet.as (v' := .bool true) (by exact congrArg Value.bool (decide_eq_true e1)) (Quiet.int rfl rfl rfl)) rfl ?_
 refine G.q (Quiet.move rfl) rfl (G.grun (t := 59) rfl rfl rfl (G.q (Quiet.move rfl) rfl (G.grun (t := 59) rfl rfl rfl ?_)))
 refine G.q (Quiet.as (v' := .bool true) (by exact congrArg Value.bool (decide_eq_true e2)) (Quiet.int rfl rfl rfl)) rfl ?_
 refine G.q (Quiet.pickT rfl rfl) rfl (G.q (Quiet.move rfl) rfl (G.grun (t := 63) rfl rfl rfl (G.q (Quiet.move rfl) rfl (G.grun (t := 63) rfl rfl rfl ?_))))
 refine G.q (Quiet.as (v' := .bool true) (by exact congrArg Value.bool (decide_eq_true e3)) (Quiet.int rfl rfl rfl)) rfl ?_
 refine G.q (Quiet.pickT rfl rfl) rfl (G.q (Quiet.move rfl) rfl (G.grun (t := 67) rfl rfl rfl (G.q (Quiet.move rfl) rfl (G.grun (t := 67) rfl rfl rfl ?_))))
 refine G.q (Quiet.as (v' := .bool true) (by exact congrArg Value.bool (decide_eq_true e4)) (Quiet.int rfl rfl rfl)) rfl ?_
 refine G.q (Quiet.pickT rfl rfl) rfl (G.q (Quiet.move rfl) rfl (G.grun (t := 71) rfl rfl rfl (G.q (Quiet.move rfl) rfl (G.grun (t := 71) rfl rfl rfl ?_))))
 refine G.q (Quiet.as (v' := .bool true) (by exact congrArg Value.bool (decide_eq_true e5)) (Quiet.int rfl rfl rfl)) rfl ?_
 refine G.q (Quiet.pickT rfl rfl) rfl (G.q (Quiet.move rfl) rfl (G.grun (t := 75) rfl rfl rfl (G.q (Quiet.move rfl) rfl (G.grun (t := 75) rfl rfl rfl ?_))))
 refine G.q (Quiet.as (v' := .bool true) (by rfl) (Quiet.int rfl rfl rfl)) rfl ?_
 refine G.q (Quiet.pickT rfl rfl) rfl (G.q (Quiet.assign rfl) rfl (G.nil (G.then_n (G.seq (G.region (G.q (Quiet.move rfl) rfl (G.q (Quiet.move rfl) rfl (G.grun (t := 80) rfl rfl rfl (G.q (Quiet.move rfl) rfl (G.grun (t := 80) rfl rfl rfl ?_))))))))))
 refine G.op (OpSpec.call Tryz.func17 rfl rfl (vs := [_]) rfl (llast_spec m y Λ hO.li)) (by (repeat' constructor)) rfl ?nx41
 rintro v L' ⟨rfl, rfl⟩
 refine G.grun (t := 80) rfl rfl rfl ?_
 refine G.q (Quiet.as (v' := .bool true) (by exact congrArg Value.bool (decide_eq_true hO.last)) (Quiet.int rfl rfl rfl)) rfl ?_
 refine G.q (Quiet.pickT rfl rfl) rfl (G.q (Quiet.move rfl) rfl (G.grun (t := 85) rfl rfl rfl (G.q (Quiet.move rfl) rfl (G.grun (t := 85) rfl rfl rfl (G.q (Quiet.nilp rfl) rfl (G.grun (t := 85) rfl rfl rfl (G.q (Quiet.fieldAddr rfl fo_79_0) rfl (G.grun (t := 85) rfl rfl rfl ?_))))))))
 refine G.op (OpSpec.call Tryz.func33 rfl rfl (vs := [_]) rfl (lacc_spec m y Λ)) (by (repeat' constructor)) rfl ?nx46
 rintro v L' ⟨rfl, rfl⟩
 refine G.grun (t := 85) rfl rfl rfl ?_
 refine G.q (Quiet.as (v' := .bool true) (by exact congrArg Value.bool (decide_eq_true hO.acc)) (Quiet.int rfl rfl rfl)) rfl ?_
 refine G.q (Quiet.pickT rfl rfl) rfl (G.q (Quiet.move rfl) rfl (G.grun (t := 92) rfl rfl rfl (G.q (Quiet.move rfl) rfl (G.grun (t := 92) rfl rfl rfl (G.q (Quiet.nilp rfl) rfl (G.grun (t := 92) rfl rfl rfl (G.q (Quiet.fieldAddr rfl fo_79_0) rfl (G.grun (t := 92) rfl rfl rfl ?_))))))))
 refine G.op (OpSpec.call Tryz.func34 rfl rfl (vs := [_]) rfl (lcur_spec m y Λ)) (by (repeat' constructor)) rfl ?nx51
 rintro v L' ⟨rfl, rfl⟩
 refine G.grun (t := 92) rfl rfl rfl ?_
 refine G.q (Quiet.as (v' := .bool true) (by exact congrArg Value.bool (decide_eq_true hO.cur)) (Quiet.int rfl rfl rfl)) rfl ?_
 refine G.q (Quiet.pickT rfl rfl) rfl (G.q (Quiet.move rfl) rfl (G.grun (t := 99) rfl rfl rfl (G.q (Quiet.move rfl) rfl (G.grun (t := 99) rfl rfl rfl (G.q (Quiet.slen rfl Tryz.underlying31 rfl) rfl (G.grun (t := 99) rfl rfl rfl ?_))))))
 refine G.q (Quiet.as (v' := .bool true) (by rfl) (Quiet.int rfl rfl rfl)) rfl ?_
 refine G.q (Quiet.pickT rfl rfl) rfl (G.q (Quiet.move rfl) rfl (G.grun (t := 104) rfl rfl rfl (G.q (Quiet.move rfl) rfl (G.grun (t := 104) rfl rfl rfl ?_))))
 refine G.q (Quiet.indexAddr rfl rfl el_31 (by exact ⟨by decide, by decide⟩)) rfl ?_
 refine G.grun (t := 104) rfl rfl rfl ?_
 refine G.q (Quiet.loadEl (p := intR (.slice (some ⟨bm, 0, none⟩) ([4294967298] : List Int).length cm) [4294967298]) (i := 0) (v := vint 4294967298) rfl ag_3 (by (repeat' constructor)) (fun h hp => slR_rd hp) rfl) rfl ?_
 refine G.grun (t := 104) rfl rfl rfl ?_
 refine G.q (Quiet.as (v' := .bool true) (by rfl) (Quiet.int rfl rfl rfl)) rfl ?_
 refine G.q (Quiet.pickT rfl rfl) rfl (G.q (Quiet.move rfl) rfl (G.grun (t := 110) rfl rfl rfl (G.q (Quiet.move rfl) rfl (G.grun (t := 110) rfl rfl rfl ?_))))
 refine G.op (OpSpec.call Tryz.func43 rfl rfl (vs := [_, _]) rfl (ladopt_spec m y d la6 ω Λ 4 hO.i (by rw [sync_done hO.live hO.doubt hO.synced]; exact hO.i))) (by (repeat' constructor)) rfl ?nx59
 rintro v L' ⟨rfl, rfl⟩; rw [show (lgAdopt ⟨la6, ω, Λ⟩ 4).2 = 82 by unfold lgAdopt; dsimp only; rw [if_neg (by rw [hO.live]; decide), if_pos (.inr (by rw [hO.acc]; decide))]]
 refine G.grun (t := 110) rfl rfl rfl ?_
 refine G.q (Quiet.as (v' := .bool true) (by rfl) (Quiet.int rfl rfl rfl)) rfl ?_
 refine G.q (Quiet.pickT rfl rfl) rfl (G.q (Quiet.assign rfl) rfl (G.nil (G.then_n (G.ret ?_))))
 exact G.done (l := [.tmp 0]) rfl rfl ⟨rfl, rfl⟩ (by (repeat' constructor)) (by (repeat' constructor))

end Go.Proofs.YtidjhgbdokcphaaGreat

/- Own work: LedgerMarks, plain: the marks of entries; entries behind a number. -/

namespace Go.Proofs.YtidjhgbdokcphaaGreat
open Go

theorem fm_cell {α : Type} {f : α → List Value} {sz k : Nat} {l : List α} {i : Nat} (hf : ∀ x ∈ l, (f x).length = sz) (hi : i < l.length) (hk : k < sz) : (l.flatMap f)[i * sz + k]? = (f l[i])[k]? := by
  have h := flatMap_at hf hi
  rw [← h, List.getElem?_take, if_pos hk, List.getElem?_drop]
theorem en_cell {l : List En} {i k : Nat} (hi : i < l.length) (hk : k < 11) : (l.flatMap enC)[i * 11 + k]? = (enC l[i])[k]? := fm_cell (f := enC) (sz := 11) (fun _ _ => rfl) hi hk
/-- Entries of an argument. -/
structure Ents9 (p : HP) (v : Value) (es : List En) : Prop where
  cells : ∀ h : Hp, p h → rdS 11 h v es.length (es.flatMap enC)
  len : es.length ≤ 4294967296
  x : ∀ e ∈ es, EnX p e
def wantF : List Int → List Int
  | [] => []
  | [z] => [z]
  | z :: y :: t => if y / 4294967296 = z / 4294967296 then wantF (y :: t) else z :: wantF (y :: t)
theorem marks_fold : ∀ (t : List Int) (out : List Int) (z : Int), (∀ y ∈ t, y ≠ 0) → t.foldl markStep (out ++ [z]) = out ++ wantF (z :: t)
  | [], out, z, _ => rfl
  | y :: t, out, z, h => by
    rw [List.foldl_cons]
    by_cases g : y / 4294967296 = z / 4294967296
    · rw [mk_same (h y (List.mem_cons_self ..)) (by simp) (by rw [List.getLastD_concat]; exact g.symm), List.dropLast_concat, marks_fold t out y (fun x hx => h x (List.mem_cons_of_mem _ hx))]
      show _ = out ++ (if _ then _ else _); rw [if_pos g]
    · rw [mk_new (h y (List.mem_cons_self ..)) (.inr (by rw [List.getLastD_concat]; exact fun q => g q.symm)), marks_fold t (out ++ [z]) y (fun x hx => h x (List.mem_cons_of_mem _ hx))]
      show _ = out ++ (if _ then _ else _); rw [if_neg g, List.append_assoc]; rfl
theorem marks_want {Λ : Lg} (hb : Λ.base = 0) (h : ∀ z ∈ Λ.zxs, 0 < z) : marksZ Λ = wantF Λ.zxs := by
  unfold marksZ
  rw [hb, List.foldl_cons, mk_0 rfl]
  cases hz : Λ.zxs with
  | nil => rfl
  | cons z t =>
    rw [hz] at h
    have h0 := h z (List.mem_cons_self ..)
    rw [List.foldl_cons, mk_new (by omega) (.inl rfl), marks_fold t [] z (fun y hy => by have := h y (List.mem_cons_of_mem _ hy); omega), List.nil_append]
theorem want_step {zs : List Int} {i : Nat} (h : i < zs.length) : wantF (zs.drop i) = (if i + 1 = zs.length ∨ ¬ zs.getD (i + 1) 0 / 4294967296 = zs.getD i 0 / 4294967296 then [zs.getD i 0] else []) ++ wantF (zs.drop (i + 1)) := by
  rw [List.drop_eq_getElem_cons h]
  have e : zs.getD i 0 = zs[i] := by simp [List.getD_eq_getElem?_getD, h]
  rw [e]
  rcases Nat.lt_or_ge (i + 1) zs.length with g | g
  · have e2 : zs.getD (i + 1) 0 = zs[i + 1] := by simp [List.getD_eq_getElem?_getD, g]
    rw [e2, List.drop_eq_getElem_cons g]
    show (if zs[i + 1] / 4294967296 = zs[i] / 4294967296 then _ else _) = _
    by_cases q : zs[i + 1] / 4294967296 = zs[i] / 4294967296
    · rw [if_pos q, if_neg (by rintro (g1 | g1); omega; exact g1 q)]; rfl
    · rw [if_neg q, if_pos (.inr q)]; rfl
  · rw [if_pos (.inl (by omega)), List.drop_eq_nil_of_le (by omega)]; rfl
theorem filter_at {zs : List Int} {P : Int → Bool} {i : Nat} (h : i < zs.length) (hp : P (zs.getD i 0) = true) : ((zs.take i).filter P).length < (zs.filter P).length ∧ (zs.filter P).getD ((zs.take i).filter P).length 0 = zs.getD i 0 := by
  have e : zs.filter P = (zs.take i).filter P ++ (zs.getD i 0 :: (zs.drop (i + 1)).filter P) := by
    conv => lhs; rw [← List.take_append_drop i zs]
    rw [List.filter_append, List.drop_eq_getElem_cons h]
    have e1 : zs.getD i 0 = zs[i] := by simp [List.getD_eq_getElem?_getD, h]
    rw [e1] at hp ⊢
    rw [List.filter_cons_of_pos hp]
  rw [e]
  refine ⟨by rw [List.length_append, List.length_cons]; omega, ?_⟩
  rw [List.getD_eq_getElem?_getD, List.getElem?_append_right (Nat.le_refl _)]; simp
theorem filter_take {zs : List Int} {P : Int → Bool} {i : Nat} (h : i < zs.length) : ((zs.take (i + 1)).filter P).length = ((zs.take i).filter P).length + (if P (zs.getD i 0) = true then 1 else 0) := by
  rw [List.take_succ_eq_append_getElem h, List.filter_append, List.length_append]
  have e1 : zs.getD i 0 = zs[i] := by simp [List.getD_eq_getElem?_getD, h]
  rw [e1]
  by_cases g : P zs[i] = true
  · rw [if_pos g, List.filter_cons_of_pos g]; rfl
  · rw [if_neg g, List.filter_cons_of_neg g]; rfl
theorem behind_zx (z : Int) : ∀ {es : List Bs} {zs : List Int} {b : Int}, RowsI b es zs → (((es.zip zs).filter fun q => decide (q.2 > z)).map entAt).map (·.zx) = zs.filter fun y => decide (y > z)
  | [], [], _, _ => rfl
  | s :: t, y :: u, _, h => by
    obtain ⟨⟨e, he, hz⟩, -, -, h4⟩ := h
    have ih := behind_zx z h4
    rw [List.zip_cons_cons]
    by_cases g : y > z
    · rw [List.filter_cons_of_pos (by simpa using g), List.filter_cons_of_pos (by simpa using g), List.map_cons, List.map_cons, ih]
      congr 1
      unfold entAt; dsimp only; rw [he]; exact hz
    · rw [List.filter_cons_of_neg (by simpa using g), List.filter_cons_of_neg (by simpa using g)]; exact ih
  | [], _ :: _, _, h => h.elim
  | _ :: _, [], _, h => h.elim
theorem behind_zxs {Λ : Lg} (h : LgW Λ) {z : Int} {es : List En} (he : es.map En.pl = behindL Λ z) : es.map (·.zx) = Λ.zxs.filter fun y => decide (y > z) := by
  have h1 := congrArg (List.map (·.zx)) he
  rw [List.map_map] at h1
  rw [← behind_zx z h.rows]; exact h1
theorem ups_at {Λ : Lg} (h : LgW Λ) {i : Nat} (hi : i + 1 < Λ.zxs.length) : Λ.zxs.getD i 0 < Λ.zxs.getD (i + 1) 0 := by
  have hp := (List.pairwise_cons.1 h.rows.up).2
  have := List.pairwise_iff_getElem.1 hp i (i + 1) (by omega) hi (by omega)
  simpa [List.getD_eq_getElem?_getD, hi, show i < Λ.zxs.length by omega] using this
theorem pos_at {Λ : Lg} (h : LgW Λ) {i : Nat} (hi : i < Λ.zxs.length) : Λ.base < Λ.zxs.getD i 0 := by
  have := h.rows.gt (Λ.zxs[i]) (List.getElem_mem hi)
  simpa [List.getD_eq_getElem?_getD, hi] using this
theorem ints_at {zs : List Int} {i : Nat} (h : i < zs.length) : (ints zs)[i * 1]? = some (vint (zs.getD i 0)) := by
  rw [Nat.mul_one]; simp [ints, List.getD_eq_getElem?_getD, h]
end Go.Proofs.YtidjhgbdokcphaaGreat

/- Own work, by program: LedgerMarks: walked. -/
namespace Go.Proofs.YtidjhgbdokcphaaGreat
open Go
set_option maxRecDepth 100000 in
theorem numbers9_spec (va vb : Value) (xs ys : List Int) (p q : HP) (hp : ∀ h : Hp, p h → rdS 1 h va xs.length (ints xs)) (hq : ∀ h : Hp, q h → rdS 1 h vb ys.length (ints ys)) (hl : xs.length ≤ 4294967296) (hm : ys.length ≤ 4294967296) : Fn Tryz.prog 14 #[va, vb] [p, q] fun v L => v = .bool (decide (xs = ys)) ∧ L = [p, q] := by
 refine Fn.intro (vs := [va, vb]) Tryz.func14 rfl rfl ?_
 intro F W
 refine G.rdAny (p := p) hp (by (repeat' constructor)) fun ap cp e _ => ?_
 subst e
 refine G.rdAny (p := q) hq (by (repeat' constructor)) fun aq cq e _ => ?_
 subst e
 refine G.seq (G.region (G.q (Quiet.assign rfl) rfl (G.nil (G.then_n (G.seq (G.seq (G.region (G.q (Quiet.move rfl) rfl (G.q (Quiet.slen rfl Tryz.underlying31 rfl) rfl (G.q (Quiet.move rfl) rfl (G.q (Quiet.slen rfl Tryz.underlying31 rfl) rfl (G.q (Quiet.int rfl rfl rfl) rfl (G.nil (G.then_n ?_))))))))))))))
 refine G.condN rfl (fun h10 => ?_) (fun h10 => ?_)
 ·refine G.seq (G.region (G.q (Quiet.assign rfl) rfl (G.nil (G.then_n (G.ret (G.then_r ?_))))))
  exact G.done (l := [.tmp 4]) rfl rfl ⟨congrArg Value.bool (decide_eq_false (fun h => h10 (by rw [h]))).symm, rfl⟩ (by (repeat' constructor)) (by (repeat' constructor))
 ·refine G.skip (G.then_n (G.seq (G.seq (G.region (G.q (Quiet.assign rfl) rfl (G.nil (G.then_n (G.block ?_))))))))
  refine G.loopK (ι := Nat) (fun q E => (5, vint q) :: E) (fun q => []) (fun q => q ≤ xs.length ∧ ∀ j, j < q → xs.getD j 0 = ys.getD j 0) (fun q => xs.length - q) (0) (ts := [0, 1]) (.cons rfl (.cons rfl (.nil))) (⟨Nat.zero_le _, fun j hj => by omega⟩) ⟨rfl, rfl, rfl, trivial⟩ (by (repeat' constructor)) ?_
  rintro i ⟨hi, hb⟩
  refine G.seq (G.seq (G.region (G.q (Quiet.move rfl) rfl (G.q (Quiet.move rfl) rfl (G.q (Quiet.slen rfl Tryz.underlying31 rfl) rfl (G.q (Quiet.int rfl rfl rfl) rfl (G.nil (G.then_n ?_))))))))
  refine G.condD rfl (fun h14 => ?_) (fun h14 => ?_)
  ·refine G.rdShape (p := p) hp (by (repeat' constructor)) (by omega) fun bp op e => ?_
   subst e
   refine G.rdShape (p := q) hq (by (repeat' constructor)) (by omega) fun bq oq e => ?_
   subst e
   refine G.skip (G.then_n (G.seq (G.block (G.seq ?_))))
   refine G.draw [] [[0, 1, 2, 3, 4, 5, 6, 7, 8]] mixed (by kernel_rfl) ?_
   refine Phases.go [] (by (repeat' constructor)) ?_
   refine D.qw [2, 3, 8] rfl (by kernel_rfl) (Quiet.move rfl) ?_
   refine D.qw [2, 3, 8] rfl (by kernel_rfl) (Quiet.move rfl) ?_
   refine D.qw [3, 8] rfl (by kernel_rfl) (Quiet.indexAddr rfl rfl el_31 (by omega)) ?_
   refine D.qw [8] rfl (by kernel_rfl) (Quiet.loadEl (p := p) (i := i * 1) (v := vint (xs.getD i 0)) rfl ag_3 (by (repeat' constructor)) hp (ints_at (by omega))) ?_
   refine D.qw [6, 7, 8] rfl (by kernel_rfl) (Quiet.move rfl) ?_
   refine D.qw [6, 7, 8] rfl (by kernel_rfl) (Quiet.move rfl) ?_
   refine D.qw [7, 8] rfl (by kernel_rfl) (Quiet.indexAddr rfl rfl el_31 (by omega)) ?_
   refine D.qw [8] rfl (by kernel_rfl) (Quiet.loadEl (p := q) (i := i * 1) (v := vint (ys.getD i 0)) rfl ag_3 (by (repeat' constructor)) hq (ints_at (by omega))) ?_
   refine D.qw [] rfl (by kernel_rfl) (Quiet.int rfl rfl rfl) ?_
   refine D.ph (Phases.fin (G.then_n ?_))
   refine G.condN rfl (fun h25 => ?_) (fun h25 => ?_)
   ·refine G.seq (G.region (G.q (Quiet.assign rfl) rfl (G.nil (G.then_n (G.ret (G.blk_r (G.then_r (G.then_r (G.blk_r (G.then_r ?_))))))))))
    exact G.done (l := [.tmp 4]) rfl rfl ⟨congrArg Value.bool (decide_eq_false (fun h => h25 (by rw [h]))).symm, rfl⟩ (by (repeat' constructor)) (by (repeat' constructor))
   ·refine G.skip (G.blk_n (G.then_n (G.region (G.q (Quiet.move rfl) rfl ?_))))
    refine G.q (Quiet.add rfl rfl (by omega)) rfl ?_
    refine G.q (Quiet.assign rfl) rfl (G.nil (G.then_n ?_))
    exact G.roundK (i + 1) (⟨by omega, fun j hj => by rcases Nat.lt_or_ge j i with h | h; exact hb j h; obtain rfl : j = i := (by omega); exact h25⟩) (by omega) ⟨rfl, rfl, rfl, trivial⟩ (by (repeat' constructor)) (by ((repeat (apply Have.cons; (repeat (first | exact Pick.here | apply Pick.there)))); apply Have.base; repeat' constructor))
  ·refine G.exit (G.then_e (G.then_e (G.blk_e (G.then_n (G.seq (G.region (G.q (Quiet.assign rfl) rfl (G.nil (G.then_n (G.ret ?_))))))))))
   exact G.done (l := [.tmp 4]) rfl rfl ⟨congrArg Value.bool (decide_eq_true (by apply List.ext_getElem (by omega); intro j h1 h2; have := hb j (by omega); simpa [List.getD_eq_getElem?_getD, h1, h2] using this)).symm, rfl⟩ (by (repeat' constructor)) (by (repeat' constructor))

set_option maxRecDepth 100000 in
theorem ledgerMarks_spec (v0 : Value) (es : List En) (n1 : Int) (p : HP) (hx : Ents9 p v0 es) (hn1 : I64 n1) : Fn Tryz.prog 3 #[v0, vint n1] [p] fun v L => v = .bool true ∧ L = [p] := by
 refine Fn.intro (vs := [v0, vint n1]) Tryz.func3 rfl rfl ?_
 intro F W
 have hcells := hx.cells
 have hel := hx.len
 refine G.rdAny (p := p) hcells (by (repeat' constructor)) fun a0 c0 e _ => ?_
 subst e
 obtain ⟨ω0, hf1, hf2, -, hf3, hf4⟩ := format_lwell (n := 2048) (by decide)
 refine G.seq (G.region (G.q (Quiet.assign rfl) rfl (G.nil (G.then_n (G.seq (G.region ?_))))))
 refine G.op (OpSpec.call Tryz.func10 rfl rfl (vs := []) rfl (awake9_spec)) (by (repeat' constructor)) rfl ?nx2
 rintro v L' ⟨rfl, rfl⟩
 refine G.q (Quiet.assign rfl) rfl (G.nil (G.then_n (G.seq (G.region ?_))))
 refine G.op (OpSpec.call Tryz.func11 rfl rfl (vs := [_]) rfl (new_spec 2048)) (by (repeat' constructor)) rfl ?nx4
 rintro v L' (⟨h, -, -⟩ | ⟨-, d, rfl, rfl⟩); · omega
 refine G.q (Quiet.move rfl) rfl (G.q (Quiet.extract rfl rfl) rfl (G.q (Quiet.extract rfl rfl) rfl (G.q (Quiet.assign rfl) rfl (G.q (Quiet.assign rfl) rfl (G.nil (G.then_n (G.seq (G.region (G.q (Quiet.move rfl) rfl ?_)))))))))
 refine G.op (OpSpec.call Tryz.func12 rfl rfl (vs := [_]) rfl (lformat_spec d (Dk.new 2048) (by decide) (hf3.i (by decide)) (hf4.i (by decide)))) (by (repeat' constructor)) rfl ?nx8
 rintro v L' (⟨h, -, -⟩ | ⟨ω1, g, x, hw1, rfl, rfl⟩); · rw [hf1] at h; cases h
 rw [hf1] at hw1; cases hw1
 refine G.q (Quiet.move rfl) rfl (G.q (Quiet.extract rfl rfl) rfl (G.q (Quiet.extract rfl rfl) rfl (G.q (Quiet.assign rfl) rfl (G.q (Quiet.assign rfl) rfl (G.nil (G.then_n (G.seq (G.seq (G.region (G.q (Quiet.move rfl) rfl (G.q (Quiet.not rfl) rfl (G.q (Quiet.move rfl) rfl (G.grun (t := 31) rfl rfl rfl (G.q (Quiet.move rfl) rfl (G.grun (t := 31) rfl rfl rfl (G.q (Quiet.ptreq rfl rfl Tryz.underlying28) rfl (G.q (Quiet.pickF rfl rfl) rfl (G.q (Quiet.move rfl) rfl (G.grun (t := 35) rfl rfl rfl (G.q (Quiet.move rfl) rfl (G.grun (t := 35) rfl rfl rfl ?_)))))))))))))))))))))
 refine G.q (Quiet.as (v' := .bool false) (by rfl) (Quiet.int rfl rfl rfl)) rfl ?_
 refine G.q (Quiet.pickF rfl rfl) rfl (G.q (Quiet.move rfl) rfl (G.grun (t := 39) rfl rfl rfl (G.q (Quiet.move rfl) rfl (G.grun (t := 39) rfl rfl rfl ?_))))
 refine G.q (Quiet.as (v' := .bool false) (by rfl) (Quiet.int rfl rfl rfl)) rfl ?_
 refine G.q (Quiet.pickF rfl rfl) rfl (G.nil (G.then_n (G.condF rfl (G.skip (G.then_n (G.seq (G.add (slR_nil 3 1) (G.region (G.q (Quiet.assign rfl) rfl (G.nil (G.then_n (G.seq (G.seq (G.region (G.q (Quiet.assign rfl) rfl (G.nil (G.then_n (G.block ?_))))))))))))))))))
 refine G.loopK (ι := Nat × Ld × Value) (fun q E => (11, vint q.1) :: (10, q.2.2) :: E) (fun q => [lgR g x q.2.1.Λ, wlR x d q.2.1.ω, dkR d q.2.1.δ, intR q.2.2 q.2.1.Λ.zxs]) (fun q => q.1 ≤ es.length ∧ q.1 ≤ 60 ∧ (∃ a c, q.2.2 = .slice a q.2.1.Λ.zxs.length c) ∧ LWell q.2.1 (4000003 + q.1 * 2000000) ∧ q.2.1.Λ.base = 0) (fun q => es.length - q.1) (0, ⟨(lgFormat (Dk.new 2048)).1, ω0, lg0⟩, .slice none 0 0) (ts := [0, 1, 4, 8]) (.cons rfl (.cons rfl (.cons rfl (.cons rfl (.nil))))) (⟨Nat.zero_le _, Nat.zero_le _, ⟨none, 0, rfl⟩, hf2.more (by dsimp only; omega), rfl⟩) ⟨rfl, rfl, rfl, rfl, rfl, rfl, trivial⟩ (by (repeat' constructor)) ?_
 rintro ⟨i, s, u⟩ ⟨hi, hi60, ⟨au, cu, hu⟩, hW, hb0⟩
 dsimp only
 dsimp only at hi hi60 hu hW hb0
 subst hu
 refine G.seq (G.seq (G.region (G.q (Quiet.move rfl) rfl (G.q (Quiet.move rfl) rfl (G.q (Quiet.slen rfl Tryz.underlying22 rfl) rfl (G.q (Quiet.int rfl rfl rfl) rfl (G.q (Quiet.move rfl) rfl ?_)))))))
 refine G.dec (t := 47) rfl (fun h8_47 => ?_) (fun h8_47 => ?_)
 ·refine G.kDT (t := 46) rfl h8_47 (G.grun (t := 47) rfl rfl rfl (G.q (Quiet.move rfl) rfl (G.grun (t := 47) rfl rfl rfl (G.q (Quiet.int rfl rfl rfl) rfl (G.q (Quiet.pickT rfl rfl) rfl (G.nil (G.then_n ?_)))))))
  refine G.condD rfl (fun h50 => ?_) (fun h50 => ?_)
  ·have hi2 : i < es.length := by omega
   refine G.rdShape (p := p) hcells (by (repeat' constructor)) (by omega) fun ba oa e => ?_
   subst e
   have hX := hx.x _ (List.getElem_mem hi2)
   have hfew := hW.w.few
   have hzl := hW.w.rows.len
   refine G.skip (G.then_n (G.seq (G.block (G.seq (G.region (G.q (Quiet.move rfl) rfl (G.q (Quiet.move rfl) rfl (G.q (Quiet.move rfl) rfl ?_))))))))
   refine G.q (Quiet.indexAddr rfl rfl el_22 (by omega)) rfl ?_
   refine G.q (Quiet.loadRdA (sz := 11) (j := i * 11) (k := 11) (p := p) (vs := enC es[i]) rfl ag_38 (by (repeat' constructor)) hcells (by simp) (by omega) (by omega) (flatMap_at (f := enC) (sz := 11) (fun _ _ => rfl) hi2)) rfl ?_
   refine G.op (OpSpec.call Tryz.func13 rfl rfl (vs := [_, _]) rfl (lappend_spec g x d s.δ s.ω s.Λ es[i] p hX (hW.well.i (by omega)) hW.w.i)) (by (repeat' constructor)) rfl ?nx29
   rintro v L' ⟨rfl, rfl⟩; obtain ⟨hw1, -, hw3⟩ := lw_append hW hX.l.w.i; obtain ⟨r, hr⟩ : ∃ r, lgAppend ⟨s.δ, s.ω, s.Λ⟩ es[i] = r := ⟨_, rfl⟩; rw [hr]; rw [show lgAppend s es[i] = r from hr] at hw1 hw3
   refine G.q (Quiet.int rfl rfl rfl) rfl (G.nil (G.then_n ?_))
   refine G.condD rfl (fun h59 => ?_) (fun h59 => ?_)
   ·have hk : r.1.Λ = s.Λ.keep (enB es[i]) es[i].zx := by rcases hw3 with ⟨-, g, -⟩ | ⟨g, -⟩; exact g; exact absurd h59 g
    refine G.region (G.q (Quiet.move rfl) rfl (G.q (Quiet.move rfl) rfl (G.q (Quiet.move rfl) rfl ?_)))
    refine G.q (Quiet.indexAddr rfl rfl el_22 (by omega)) rfl ?_
    refine G.q (Quiet.fieldAddr rfl fo_38_0) rfl ?_
    refine G.q (Quiet.loadRd (sz := 11) (j := i * 11 + 0) (p := p) (v := vint es[i].zx) rfl ag_3 (by (repeat' constructor)) hcells (by simp) ((en_cell (k := 0) hi2 (by decide)).trans rfl)) rfl ?_
    refine G.op (OpSpec.buildSlice1 (vs := [_]) el_31 ze_3 rfl rfl rfl rfl rfl (by decide)) (by (repeat' constructor)) rfl ?nx38
    rintro v L' ⟨b6, rfl, rfl⟩
    refine G.op (OpSpec.append1 rfl rfl rfl el_31 ze_3 rfl rfl ?c40 ?c41 (Nat.le_refl _) ?c42 (by decide)) (by (repeat' constructor)) rfl ?nx43
    case c40 => (first | (simp [isCell]; done) | (simp [isCell, setAll, Value.cells]; done))
    case c41 => rfl
    case c42 => omega
    rintro v L' ⟨⟨a6, c6, rfl⟩, rfl⟩
    refine G.q (Quiet.assign rfl) rfl (G.nil (G.blk_n (G.then_n (G.region (G.q (Quiet.move rfl) rfl ?_)))))
    refine G.q (Quiet.add rfl rfl (by omega)) rfl ?_
    refine G.q (Quiet.assign rfl) rfl (G.nil (G.then_n ?_))
    refine G.slCast (T := 3) (sz := 1) (m' := r.1.Λ.zxs.length) (xs' := ints r.1.Λ.zxs) (by (repeat' constructor)) (by rw [hk]; simp [Lg.keep]) (by rw [hk]; simp [Lg.keep, ints, Value.cells]) ?_
    exact G.roundK ((i + 1, r.1, .slice a6 (s.Λ.zxs.length + 1) c6)) (⟨by dsimp only; omega, by dsimp only; omega, ⟨a6, c6, by dsimp only; rw [hk]; simp [Lg.keep]⟩, hw1.more (by dsimp only; omega), by dsimp only; rw [hk]; exact hb0⟩) (by dsimp only; omega) ⟨rfl, rfl, rfl, rfl, rfl, rfl, trivial⟩ (by (repeat' constructor)) (by ((repeat (apply Have.cons; (repeat (first | exact Pick.here | apply Pick.there)))); apply Have.base; repeat' constructor))
   ·have hk : r.1.Λ = s.Λ := by rcases hw3 with ⟨g, -⟩ | ⟨-, g⟩; exact absurd g h59; rw [g]
    refine G.skip (G.blk_n (G.then_n (G.region (G.q (Quiet.move rfl) rfl ?_))))
    refine G.q (Quiet.add rfl rfl (by omega)) rfl ?_
    refine G.q (Quiet.assign rfl) rfl (G.nil (G.then_n ?_))
    refine G.slCast (T := 3) (sz := 1) (m' := r.1.Λ.zxs.length) (xs' := ints r.1.Λ.zxs) (by (repeat' constructor)) (by rw [hk]) (by rw [hk]) ?_
    exact G.roundK ((i + 1, r.1, .slice au s.Λ.zxs.length cu)) (⟨by dsimp only; omega, by dsimp only; omega, ⟨au, cu, by dsimp only; rw [hk]⟩, hw1.more (by dsimp only; omega), by dsimp only; rw [hk]; exact hb0⟩) (by dsimp only; omega) ⟨rfl, rfl, rfl, rfl, rfl, rfl, trivial⟩ (by (repeat' constructor)) (by ((repeat (apply Have.cons; (repeat (first | exact Pick.here | apply Pick.there)))); apply Have.base; repeat' constructor))
  ·refine G.exit (G.then_e (G.then_e (G.blk_e (G.then_n (G.seq ?_)))))
   have hfew := hW.w.few
   have hzl := hW.w.rows.len
   have hwant : marksZ s.Λ = wantF s.Λ.zxs := marks_want hb0 (fun z hz => by have := hW.w.rows.gt z hz; omega)
   refine G.add (slR_nil 3 1) (G.region (G.q (Quiet.assign rfl) rfl (G.nil (G.then_n (G.seq (G.seq (G.region (G.q (Quiet.assign rfl) rfl (G.nil (G.then_n (G.block ?_)))))))))))
   refine G.loopK (ι := Nat × Value × (List Int)) (fun q E => (13, vint q.1) :: (12, q.2.1) :: E) (fun q => [intR q.2.1 q.2.2]) (fun q => q.1 ≤ s.Λ.zxs.length ∧ (∃ a c, q.2.1 = .slice a q.2.2.length c) ∧ q.2.2 ++ wantF (s.Λ.zxs.drop q.1) = wantF s.Λ.zxs ∧ q.2.2.length ≤ q.1) (fun q => s.Λ.zxs.length - q.1) (0, .slice none 0 0, []) (ts := [1, 8, 10]) (.cons rfl (.cons rfl (.cons rfl (.nil)))) (⟨Nat.zero_le _, ⟨none, 0, rfl⟩, rfl, Nat.le_refl _⟩) ⟨rfl, rfl, rfl, rfl, rfl, trivial⟩ (by (repeat' constructor)) ?_
   rintro ⟨i, w, out⟩ ⟨hj, ⟨aw, cw, hw⟩, ho, hol⟩
   dsimp only
   dsimp only at hj hw ho hol
   subst hw
   refine G.seq (G.seq (G.region (G.q (Quiet.move rfl) rfl (G.q (Quiet.move rfl) rfl (G.q (Quiet.slen rfl Tryz.underlying31 rfl) rfl (G.q (Quiet.int rfl rfl rfl) rfl (G.nil (G.then_n ?_))))))))
   refine G.condD rfl (fun h71 => ?_) (fun h71 => ?_)
   ·refine G.slShape (v := .slice au _ cu) (xs := ints s.Λ.zxs) (by (repeat' constructor)) (by omega) fun bu cq e0 mq _ => ?_
    simp only [Value.slice.injEq, true_and] at e0
    obtain ⟨rfl, rfl⟩ := e0
    have hps := pos_at hW.w (i := i) (by omega)
    refine G.skip (G.then_n (G.seq (G.block (G.seq (G.seq ?_)))))
    refine G.draw [] [[0, 1, 2, 3, 4, 5, 6, 7, 8, 9, 10, 11, 12, 13, 14, 15, 16, 17, 18, 19, 20]] mixed (by kernel_rfl) ?_
    refine Phases.go [] (by (repeat' constructor)) ?_
    refine D.qw [1, 2, 3, 4, 5, 6, 7, 8, 9, 10, 11, 12, 13, 14, 15, 16, 17, 18, 19, 20] rfl (by kernel_rfl) (Quiet.move rfl) ?_
    refine D.qw [2, 3, 4, 5, 6, 7, 8, 9, 10, 11, 12, 13, 14, 15, 16, 17, 18, 19, 20] rfl (by kernel_rfl) (Quiet.int rfl rfl rfl) ?_
    refine D.qw [3, 4, 5, 6, 7, 8, 9, 10, 11, 12, 13, 14, 15, 16, 17, 18, 19, 20] rfl (by kernel_rfl) (Quiet.move rfl) ?_
    refine D.dec (t := 76) rfl (fun h16_76 => ?_) (fun h16_76 => ?_)
    ·refine D.kDT (t := 75) rfl h16_76 ?_
     refine D.gqw [5, 6, 12, 13, 14, 15, 16, 17, 18, 19, 20] (t := 76) rfl rfl rfl (by kernel_rfl) (Quiet.move rfl) ?_
     refine D.gqw [5, 6, 12, 13, 14, 15, 16, 17, 18, 19, 20] (t := 76) rfl rfl rfl (by kernel_rfl) (Quiet.move rfl) ?_
     refine D.gqw [6, 12, 13, 14, 15, 16, 17, 18, 19, 20] (t := 76) rfl rfl rfl (by kernel_rfl) (Quiet.indexAddr rfl rfl el_31 (by omega)) ?_
     refine D.gqw [12, 13, 14, 15, 16, 17, 18, 19, 20] (t := 76) rfl rfl rfl (by kernel_rfl) (Quiet.loadEl (p := intR (.slice (some ⟨bu, 0, none⟩) s.Λ.zxs.length cu) s.Λ.zxs) (i := (i) * 1) (v := vint (s.Λ.zxs.getD (i) 0)) rfl ag_3 (by (repeat' constructor)) (fun h hp => slR_rd hp) (ints_at (by omega))) ?_
     refine D.gqw [10, 11, 12, 13, 14, 15, 16, 17, 18, 19, 20] (t := 76) rfl rfl rfl (by kernel_rfl) (Quiet.move rfl) ?_
     refine D.gqw [9, 10, 11, 12, 13, 14, 15, 16, 17, 18, 19, 20] (t := 76) rfl rfl rfl (by kernel_rfl) (Quiet.move rfl) ?_
     refine D.gqw [10, 11, 12, 13, 14, 15, 16, 17, 18, 19, 20] (t := 76) rfl rfl rfl (by kernel_rfl) (Quiet.as (v' := vint ((i - 1 : Nat) : Int)) (by congr 1; omega) (Quiet.sub rfl rfl (by omega))) ?_
     refine D.gqw [11, 12, 13, 14, 15, 16, 17, 18, 19, 20] (t := 76) rfl rfl rfl (by kernel_rfl) (Quiet.indexAddr rfl rfl el_31 (by omega)) ?_
     refine D.gqw [12, 13, 14, 15, 16, 17, 18, 19, 20] (t := 76) rfl rfl rfl (by kernel_rfl) (Quiet.loadEl (p := intR (.slice (some ⟨bu, 0, none⟩) s.Λ.zxs.length cu) s.Λ.zxs) (i := (i - 1) * 1) (v := vint (s.Λ.zxs.getD (i - 1) 0)) rfl ag_3 (by (repeat' constructor)) (fun h hp => slR_rd hp) (ints_at (by omega))) ?_
     refine D.gqw [13, 14, 15, 16, 17, 18, 19, 20] (t := 76) rfl rfl rfl (by kernel_rfl) (Quiet.as (v' := .bool false) (by have hup := ups_at hW.w (i := i - 1) (by omega); rw [Nat.sub_add_cancel (by omega)] at hup; exact congrArg Value.bool (decide_eq_false (by omega))) (Quiet.int rfl rfl rfl)) ?_
     refine D.qw [14, 15, 16, 17, 18, 19, 20] rfl (by kernel_rfl) (Quiet.pickT rfl rfl) ?_
     refine D.qw [15, 16, 17, 18, 19, 20] rfl (by kernel_rfl) (Quiet.move rfl) ?_
     refine D.gqw [17, 18, 19, 20] (t := 88) rfl rfl rfl (by kernel_rfl) (Quiet.move rfl) ?_
     refine D.gqw [17, 18, 19, 20] (t := 88) rfl rfl rfl (by kernel_rfl) (Quiet.move rfl) ?_
     refine D.gqw [18, 19, 20] (t := 88) rfl rfl rfl (by kernel_rfl) (Quiet.indexAddr rfl rfl el_31 (by omega)) ?_
     refine D.gqw [19, 20] (t := 88) rfl rfl rfl (by kernel_rfl) (Quiet.loadEl (p := intR (.slice (some ⟨bu, 0, none⟩) s.Λ.zxs.length cu) s.Λ.zxs) (i := (i) * 1) (v := vint (s.Λ.zxs.getD (i) 0)) rfl ag_3 (by (repeat' constructor)) (fun h hp => slR_rd hp) (ints_at (by omega))) ?_
     refine D.gqw [20] (t := 88) rfl rfl rfl (by kernel_rfl) (Quiet.as (v' := .bool false) (by exact congrArg Value.bool (decide_eq_false (by omega))) (Quiet.int rfl rfl rfl)) ?_
     refine D.qw [] rfl (by kernel_rfl) (Quiet.pickF rfl rfl) ?_
     refine D.ph (Phases.fin (G.then_n (G.condF rfl (G.skip (G.then_n (G.seq ?_))))))
     refine G.draw [] [[0, 1, 2, 3, 4, 5, 6, 7, 8, 9, 10, 11, 12, 13, 14, 15, 16, 17, 18]] mixed (by kernel_rfl) ?_
     refine Phases.go [] (by (repeat' constructor)) ?_
     refine D.qw [1, 4, 5, 6, 7, 8, 9, 10, 11, 12, 13, 14, 15, 16, 17, 18] rfl (by kernel_rfl) (Quiet.move rfl) ?_
     refine D.qw [4, 5, 6, 7, 8, 9, 10, 11, 12, 13, 14, 15, 16, 17, 18] rfl (by kernel_rfl) (Quiet.add rfl rfl (by omega)) ?_
     refine D.qw [3, 4, 5, 6, 7, 8, 9, 10, 11, 12, 13, 14, 15, 16, 17, 18] rfl (by kernel_rfl) (Quiet.move rfl) ?_
     refine D.qw [4, 5, 6, 7, 8, 9, 10, 11, 12, 13, 14, 15, 16, 17, 18] rfl (by kernel_rfl) (Quiet.slen rfl Tryz.underlying31 rfl) ?_
     refine D.qw [5, 6, 7, 8, 9, 10, 11, 12, 13, 14, 15, 16, 17, 18] rfl (by kernel_rfl) (Quiet.int rfl rfl rfl) ?_
     refine D.qw [6, 7, 8, 9, 10, 11, 12, 13, 14, 15, 16, 17, 18] rfl (by kernel_rfl) (Quiet.move rfl) ?_
     refine D.dec (t := 100) rfl (fun h18_100 => ?_) (fun h18_100 => ?_)
     ·refine D.kDT (t := 99) rfl h18_100 ?_
      refine D.gs (t := 100) rfl rfl rfl rfl (by kernel_rfl) ?_
      refine D.gs (t := 100) rfl rfl rfl rfl (by kernel_rfl) ?_
      refine D.gs (t := 100) rfl rfl rfl rfl (by kernel_rfl) ?_
      refine D.gs (t := 100) rfl rfl rfl rfl (by kernel_rfl) ?_
      refine D.gs (t := 100) rfl rfl rfl rfl (by kernel_rfl) ?_
      refine D.gs (t := 100) rfl rfl rfl rfl (by kernel_rfl) ?_
      refine D.gs (t := 100) rfl rfl rfl rfl (by kernel_rfl) ?_
      refine D.gs (t := 100) rfl rfl rfl rfl (by kernel_rfl) ?_
      refine D.gs (t := 100) rfl rfl rfl rfl (by kernel_rfl) ?_
      refine D.gs (t := 100) rfl rfl rfl rfl (by kernel_rfl) ?_
      refine D.gs (t := 100) rfl rfl rfl rfl (by kernel_rfl) ?_
      refine D.gs (t := 100) rfl rfl rfl rfl (by kernel_rfl) ?_
      refine D.qw [] rfl (by kernel_rfl) (Quiet.pickT rfl rfl) ?_
      refine D.ph (Phases.fin (G.then_n (G.condT rfl (G.region (G.q (Quiet.move rfl) rfl (G.q (Quiet.move rfl) rfl (G.q (Quiet.move rfl) rfl ?_)))))))
      refine G.q (Quiet.indexAddr rfl rfl el_31 (by omega)) rfl ?_
      refine G.q (Quiet.loadEl (p := intR (.slice (some ⟨bu, 0, none⟩) s.Λ.zxs.length cu) s.Λ.zxs) (i := (i) * 1) (v := vint (s.Λ.zxs.getD (i) 0)) rfl ag_3 (by (repeat' constructor)) (fun h hp => slR_rd hp) (ints_at (by omega))) rfl ?_
      refine G.op (OpSpec.buildSlice1 (vs := [_]) el_31 ze_3 rfl rfl rfl rfl rfl (by decide)) (by (repeat' constructor)) rfl ?nx83
      rintro v L' ⟨b7, rfl, rfl⟩
      refine G.op (OpSpec.append1 rfl rfl rfl el_31 ze_3 rfl rfl ?c85 ?c86 (Nat.le_refl _) ?c87 (by decide)) (by (repeat' constructor)) rfl ?nx88
      case c85 => (first | (simp [isCell]; done) | (simp [isCell, setAll, Value.cells]; done))
      case c86 => rfl
      case c87 => omega
      rintro v L' ⟨⟨a7, c7, rfl⟩, rfl⟩
      refine G.q (Quiet.assign rfl) rfl (G.nil (G.blk_n (G.then_n (G.region (G.q (Quiet.move rfl) rfl ?_)))))
      refine G.q (Quiet.add rfl rfl (by omega)) rfl ?_
      refine G.q (Quiet.assign rfl) rfl (G.nil (G.then_n ?_))
      refine G.slCast (T := 3) (sz := 1) (m' := (out ++ [s.Λ.zxs.getD i 0]).length) (xs' := ints (out ++ [s.Λ.zxs.getD i 0])) (by (repeat' constructor)) (by simp) (by simp [ints, Value.cells]) ?_
      exact G.roundK ((i + 1, .slice a7 (out.length + 1) c7, out ++ [s.Λ.zxs.getD i 0])) (⟨by dsimp only; omega, ⟨a7, c7, by simp⟩, by dsimp only; rw [want_step (by omega), if_pos (.inl (by omega))] at ho; rw [List.append_assoc]; exact ho, by dsimp only; rw [List.length_append, List.length_singleton]; omega⟩) (by dsimp only; omega) ⟨rfl, rfl, rfl, rfl, rfl, trivial⟩ (by (repeat' constructor)) (by ((repeat (apply Have.cons; (repeat (first | exact Pick.here | apply Pick.there)))); apply Have.base; repeat' constructor))
     ·refine D.kDF (t := 99) rfl h18_100 ?_
      refine D.gqw [9, 10, 11, 17, 18] (t := 100) rfl rfl rfl (by kernel_rfl) (Quiet.move rfl) ?_
      refine D.gqw [8, 9, 10, 11, 17, 18] (t := 100) rfl rfl rfl (by kernel_rfl) (Quiet.move rfl) ?_
      refine D.gqw [9, 10, 11, 17, 18] (t := 100) rfl rfl rfl (by kernel_rfl) (Quiet.add rfl rfl (by omega)) ?_
      refine D.gqw [10, 11, 17, 18] (t := 100) rfl rfl rfl (by kernel_rfl) (Quiet.indexAddr rfl rfl el_31 (by omega)) ?_
      refine D.gqw [11, 17, 18] (t := 100) rfl rfl rfl (by kernel_rfl) (Quiet.loadEl (p := intR (.slice (some ⟨bu, 0, none⟩) s.Λ.zxs.length cu) s.Λ.zxs) (i := (i + 1) * 1) (v := vint (s.Λ.zxs.getD (i + 1) 0)) rfl ag_3 (by (repeat' constructor)) (fun h hp => slR_rd hp) (ints_at (by omega))) ?_
      refine D.gqw [17, 18] (t := 100) rfl rfl rfl (by kernel_rfl) (Quiet.as (v' := vint (s.Λ.zxs.getD (i + 1) 0 / 4294967296)) (by exact shr32 _) (Quiet.shr rfl rfl (by first | decide | omega))) ?_
      refine D.gqw [14, 15, 16, 17, 18] (t := 100) rfl rfl rfl (by kernel_rfl) (Quiet.move rfl) ?_
      refine D.gqw [14, 15, 16, 17, 18] (t := 100) rfl rfl rfl (by kernel_rfl) (Quiet.move rfl) ?_
      refine D.gqw [15, 16, 17, 18] (t := 100) rfl rfl rfl (by kernel_rfl) (Quiet.indexAddr rfl rfl el_31 (by omega)) ?_
      refine D.gqw [16, 17, 18] (t := 100) rfl rfl rfl (by kernel_rfl) (Quiet.loadEl (p := intR (.slice (some ⟨bu, 0, none⟩) s.Λ.zxs.length cu) s.Λ.zxs) (i := (i) * 1) (v := vint (s.Λ.zxs.getD (i) 0)) rfl ag_3 (by (repeat' constructor)) (fun h hp => slR_rd hp) (ints_at (by omega))) ?_
      refine D.gqw [17, 18] (t := 100) rfl rfl rfl (by kernel_rfl) (Quiet.as (v' := vint (s.Λ.zxs.getD i 0 / 4294967296)) (by exact shr32 _) (Quiet.shr rfl rfl (by first | decide | omega))) ?_
      refine D.gqw [18] (t := 100) rfl rfl rfl (by kernel_rfl) (Quiet.int rfl rfl rfl) ?_
      refine D.qw [] rfl (by kernel_rfl) (Quiet.pickF rfl rfl) ?_
      refine D.ph (Phases.fin (G.then_n ?_))
      refine G.condN rfl (fun h113 => ?_) (fun h113 => ?_)
      ·refine G.region (G.q (Quiet.move rfl) rfl (G.q (Quiet.move rfl) rfl (G.q (Quiet.move rfl) rfl ?_)))
       refine G.q (Quiet.indexAddr rfl rfl el_31 (by omega)) rfl ?_
       refine G.q (Quiet.loadEl (p := intR (.slice (some ⟨bu, 0, none⟩) s.Λ.zxs.length cu) s.Λ.zxs) (i := (i) * 1) (v := vint (s.Λ.zxs.getD (i) 0)) rfl ag_3 (by (repeat' constructor)) (fun h hp => slR_rd hp) (ints_at (by omega))) rfl ?_
       refine G.op (OpSpec.buildSlice1 (vs := [_]) el_31 ze_3 rfl rfl rfl rfl rfl (by decide)) (by (repeat' constructor)) rfl ?nx109
       rintro v L' ⟨b7, rfl, rfl⟩
       refine G.op (OpSpec.append1 rfl rfl rfl el_31 ze_3 rfl rfl ?c111 ?c112 (Nat.le_refl _) ?c113 (by decide)) (by (repeat' constructor)) rfl ?nx114
       case c111 => (first | (simp [isCell]; done) | (simp [isCell, setAll, Value.cells]; done))
       case c112 => rfl
       case c113 => omega
       rintro v L' ⟨⟨a7, c7, rfl⟩, rfl⟩
       refine G.q (Quiet.assign rfl) rfl (G.nil (G.blk_n (G.then_n (G.region (G.q (Quiet.move rfl) rfl ?_)))))
       refine G.q (Quiet.add rfl rfl (by omega)) rfl ?_
       refine G.q (Quiet.assign rfl) rfl (G.nil (G.then_n ?_))
       refine G.slCast (T := 3) (sz := 1) (m' := (out ++ [s.Λ.zxs.getD i 0]).length) (xs' := ints (out ++ [s.Λ.zxs.getD i 0])) (by (repeat' constructor)) (by simp) (by simp [ints, Value.cells]) ?_
       exact G.roundK ((i + 1, .slice a7 (out.length + 1) c7, out ++ [s.Λ.zxs.getD i 0])) (⟨by dsimp only; omega, ⟨a7, c7, by simp⟩, by dsimp only; rw [want_step (by omega), if_pos (.inr h113)] at ho; rw [List.append_assoc]; exact ho, by dsimp only; rw [List.length_append, List.length_singleton]; omega⟩) (by dsimp only; omega) ⟨rfl, rfl, rfl, rfl, rfl, trivial⟩ (by (repeat' constructor)) (by ((repeat (apply Have.cons; (repeat (first | exact Pick.here | apply Pick.there)))); apply Have.base; repeat' constructor))
      ·refine G.skip (G.blk_n (G.then_n (G.region (G.q (Quiet.move rfl) rfl ?_))))
       refine G.q (Quiet.add rfl rfl (by omega)) rfl ?_
       refine G.q (Quiet.assign rfl) rfl (G.nil (G.then_n ?_))
       exact G.roundK ((i + 1, .slice aw out.length cw, out)) (⟨by dsimp only; omega, ⟨aw, cw, rfl⟩, by dsimp only; rw [want_step (by omega), if_neg (by rintro (g | g); omega; exact g h113)] at ho; exact ho, by dsimp only; omega⟩) (by dsimp only; omega) ⟨rfl, rfl, rfl, rfl, rfl, trivial⟩ (by (repeat' constructor)) (by ((repeat (apply Have.cons; (repeat (first | exact Pick.here | apply Pick.there)))); apply Have.base; repeat' constructor))
    ·refine D.kDF (t := 75) rfl h16_76 ?_
     refine D.gs (t := 76) rfl rfl rfl rfl (by kernel_rfl) ?_
     refine D.gs (t := 76) rfl rfl rfl rfl (by kernel_rfl) ?_
     refine D.gs (t := 76) rfl rfl rfl rfl (by kernel_rfl) ?_
     refine D.gs (t := 76) rfl rfl rfl rfl (by kernel_rfl) ?_
     refine D.gs (t := 76) rfl rfl rfl rfl (by kernel_rfl) ?_
     refine D.gs (t := 76) rfl rfl rfl rfl (by kernel_rfl) ?_
     refine D.gs (t := 76) rfl rfl rfl rfl (by kernel_rfl) ?_
     refine D.gs (t := 76) rfl rfl rfl rfl (by kernel_rfl) ?_
     refine D.gs (t := 76) rfl rfl rfl rfl (by kernel_rfl) ?_
     refine D.gs (t := 76) rfl rfl rfl rfl (by kernel_rfl) ?_
     refine D.qw [14, 15, 16, 17, 18, 19, 20] rfl (by kernel_rfl) (Quiet.pickF rfl rfl) ?_
     refine D.qw [15, 16, 17, 18, 19, 20] rfl (by kernel_rfl) (Quiet.move rfl) ?_
     refine D.gqw [17, 18, 19, 20] (t := 88) rfl rfl rfl (by kernel_rfl) (Quiet.move rfl) ?_
     refine D.gqw [17, 18, 19, 20] (t := 88) rfl rfl rfl (by kernel_rfl) (Quiet.move rfl) ?_
     refine D.gqw [18, 19, 20] (t := 88) rfl rfl rfl (by kernel_rfl) (Quiet.indexAddr rfl rfl el_31 (by omega)) ?_
     refine D.gqw [19, 20] (t := 88) rfl rfl rfl (by kernel_rfl) (Quiet.loadEl (p := intR (.slice (some ⟨bu, 0, none⟩) s.Λ.zxs.length cu) s.Λ.zxs) (i := (i) * 1) (v := vint (s.Λ.zxs.getD (i) 0)) rfl ag_3 (by (repeat' constructor)) (fun h hp => slR_rd hp) (ints_at (by omega))) ?_
     refine D.gqw [20] (t := 88) rfl rfl rfl (by kernel_rfl) (Quiet.as (v' := .bool false) (by exact congrArg Value.bool (decide_eq_false (by omega))) (Quiet.int rfl rfl rfl)) ?_
     refine D.qw [] rfl (by kernel_rfl) (Quiet.pickF rfl rfl) ?_
     refine D.ph (Phases.fin (G.then_n (G.condF rfl (G.skip (G.then_n (G.seq ?_))))))
     refine G.draw [] [[0, 1, 2, 3, 4, 5, 6, 7, 8, 9, 10, 11, 12, 13, 14, 15, 16, 17, 18]] mixed (by kernel_rfl) ?_
     refine Phases.go [] (by (repeat' constructor)) ?_
     refine D.qw [1, 4, 5, 6, 7, 8, 9, 10, 11, 12, 13, 14, 15, 16, 17, 18] rfl (by kernel_rfl) (Quiet.move rfl) ?_
     refine D.qw [4, 5, 6, 7, 8, 9, 10, 11, 12, 13, 14, 15, 16, 17, 18] rfl (by kernel_rfl) (Quiet.add rfl rfl (by omega)) ?_
     refine D.qw [3, 4, 5, 6, 7, 8, 9, 10, 11, 12, 13, 14, 15, 16, 17, 18] rfl (by kernel_rfl) (Quiet.move rfl) ?_
     refine D.qw [4, 5, 6, 7, 8, 9, 10, 11, 12, 13, 14, 15, 16, 17, 18] rfl (by kernel_rfl) (Quiet.slen rfl Tryz.underlying31 rfl) ?_
     refine D.qw [5, 6, 7, 8, 9, 10, 11, 12, 13, 14, 15, 16, 17, 18] rfl (by kernel_rfl) (Quiet.int rfl rfl rfl) ?_
     refine D.qw [6, 7, 8, 9, 10, 11, 12, 13, 14, 15, 16, 17, 18] rfl (by kernel_rfl) (Quiet.move rfl) ?_
     refine D.dec (t := 100) rfl (fun h18_100 => ?_) (fun h18_100 => ?_)
     ·refine D.kDT (t := 99) rfl h18_100 ?_
      refine D.gs (t := 100) rfl rfl rfl rfl (by kernel_rfl) ?_
      refine D.gs (t := 100) rfl rfl rfl rfl (by kernel_rfl) ?_
      refine D.gs (t := 100) rfl rfl rfl rfl (by kernel_rfl) ?_
      refine D.gs (t := 100) rfl rfl rfl rfl (by kernel_rfl) ?_
      refine D.gs (t := 100) rfl rfl rfl rfl (by kernel_rfl) ?_
      refine D.gs (t := 100) rfl rfl rfl rfl (by kernel_rfl) ?_
      refine D.gs (t := 100) rfl rfl rfl rfl (by kernel_rfl) ?_
      refine D.gs (t := 100) rfl rfl rfl rfl (by kernel_rfl) ?_
      refine D.gs (t := 100) rfl rfl rfl rfl (by kernel_rfl) ?_
      refine D.gs (t := 100) rfl rfl rfl rfl (by kernel_rfl) ?_
      refine D.gs (t := 100) rfl rfl rfl rfl (by kernel_rfl) ?_
      refine D.gs (t := 100) rfl rfl rfl rfl (by kernel_rfl) ?_
      refine D.qw [] rfl (by kernel_rfl) (Quiet.pickT rfl rfl) ?_
      refine D.ph (Phases.fin (G.then_n (G.condT rfl (G.region (G.q (Quiet.move rfl) rfl (G.q (Quiet.move rfl) rfl (G.q (Quiet.move rfl) rfl ?_)))))))
      refine G.q (Quiet.indexAddr rfl rfl el_31 (by omega)) rfl ?_
      refine G.q (Quiet.loadEl (p := intR (.slice (some ⟨bu, 0, none⟩) s.Λ.zxs.length cu) s.Λ.zxs) (i := (i) * 1) (v := vint (s.Λ.zxs.getD (i) 0)) rfl ag_3 (by (repeat' constructor)) (fun h hp => slR_rd hp) (ints_at (by omega))) rfl ?_
      refine G.op (OpSpec.buildSlice1 (vs := [_]) el_31 ze_3 rfl rfl rfl rfl rfl (by decide)) (by (repeat' constructor)) rfl ?nx137
      rintro v L' ⟨b7, rfl, rfl⟩
      refine G.op (OpSpec.append1 rfl rfl rfl el_31 ze_3 rfl rfl ?c139 ?c140 (Nat.le_refl _) ?c141 (by decide)) (by (repeat' constructor)) rfl ?nx142
      case c139 => (first | (simp [isCell]; done) | (simp [isCell, setAll, Value.cells]; done))
      case c140 => rfl
      case c141 => omega
      rintro v L' ⟨⟨a7, c7, rfl⟩, rfl⟩
      refine G.q (Quiet.assign rfl) rfl (G.nil (G.blk_n (G.then_n (G.region (G.q (Quiet.move rfl) rfl ?_)))))
      refine G.q (Quiet.add rfl rfl (by omega)) rfl ?_
      refine G.q (Quiet.assign rfl) rfl (G.nil (G.then_n ?_))
      refine G.slCast (T := 3) (sz := 1) (m' := (out ++ [s.Λ.zxs.getD i 0]).length) (xs' := ints (out ++ [s.Λ.zxs.getD i 0])) (by (repeat' constructor)) (by simp) (by simp [ints, Value.cells]) ?_
      exact G.roundK ((i + 1, .slice a7 (out.length + 1) c7, out ++ [s.Λ.zxs.getD i 0])) (⟨by dsimp only; omega, ⟨a7, c7, by simp⟩, by dsimp only; rw [want_step (by omega), if_pos (.inl (by omega))] at ho; rw [List.append_assoc]; exact ho, by dsimp only; rw [List.length_append, List.length_singleton]; omega⟩) (by dsimp only; omega) ⟨rfl, rfl, rfl, rfl, rfl, trivial⟩ (by (repeat' constructor)) (by ((repeat (apply Have.cons; (repeat (first | exact Pick.here | apply Pick.there)))); apply Have.base; repeat' constructor))
     ·refine D.kDF (t := 99) rfl h18_100 ?_
      refine D.gqw [9, 10, 11, 17, 18] (t := 100) rfl rfl rfl (by kernel_rfl) (Quiet.move rfl) ?_
      refine D.gqw [8, 9, 10, 11, 17, 18] (t := 100) rfl rfl rfl (by kernel_rfl) (Quiet.move rfl) ?_
      refine D.gqw [9, 10, 11, 17, 18] (t := 100) rfl rfl rfl (by kernel_rfl) (Quiet.add rfl rfl (by omega)) ?_
      refine D.gqw [10, 11, 17, 18] (t := 100) rfl rfl rfl (by kernel_rfl) (Quiet.indexAddr rfl rfl el_31 (by omega)) ?_
      refine D.gqw [11, 17, 18] (t := 100) rfl rfl rfl (by kernel_rfl) (Quiet.loadEl (p := intR (.slice (some ⟨bu, 0, none⟩) s.Λ.zxs.length cu) s.Λ.zxs) (i := (i + 1) * 1) (v := vint (s.Λ.zxs.getD (i + 1) 0)) rfl ag_3 (by (repeat' constructor)) (fun h hp => slR_rd hp) (ints_at (by omega))) ?_
      refine D.gqw [17, 18] (t := 100) rfl rfl rfl (by kernel_rfl) (Quiet.as (v' := vint (s.Λ.zxs.getD (i + 1) 0 / 4294967296)) (by exact shr32 _) (Quiet.shr rfl rfl (by first | decide | omega))) ?_
      refine D.gqw [14, 15, 16, 17, 18] (t := 100) rfl rfl rfl (by kernel_rfl) (Quiet.move rfl) ?_
      refine D.gqw [14, 15, 16, 17, 18] (t := 100) rfl rfl rfl (by kernel_rfl) (Quiet.move rfl) ?_
      refine D.gqw [15, 16, 17, 18] (t := 100) rfl rfl rfl (by kernel_rfl) (Quiet.indexAddr rfl rfl el_31 (by omega)) ?_
      refine D.gqw [16, 17, 18] (t := 100) rfl rfl rfl (by kernel_rfl) (Quiet.loadEl (p := intR (.slice (some ⟨bu, 0, none⟩) s.Λ.zxs.length cu) s.Λ.zxs) (i := (i) * 1) (v := vint (s.Λ.zxs.getD (i) 0)) rfl ag_3 (by (repeat' constructor)) (fun h hp => slR_rd hp) (ints_at (by omega))) ?_
      refine D.gqw [17, 18] (t := 100) rfl rfl rfl (by kernel_rfl) (Quiet.as (v' := vint (s.Λ.zxs.getD i 0 / 4294967296)) (by exact shr32 _) (Quiet.shr rfl rfl (by first | decide | omega))) ?_
      refine D.gqw [18] (t := 100) rfl rfl rfl (by kernel_rfl) (Quiet.int rfl rfl rfl) ?_
      refine D.qw [] rfl (by kernel_rfl) (Quiet.pickF rfl rfl) ?_
      refine D.ph (Phases.fin (G.then_n ?_))
      refine G.condN rfl (fun h113 => ?_) (fun h113 => ?_)
      ·refine G.region (G.q (Quiet.move rfl) rfl (G.q (Quiet.move rfl) rfl (G.q (Quiet.move rfl) rfl ?_)))
       refine G.q (Quiet.indexAddr rfl rfl el_31 (by omega)) rfl ?_
       refine G.q (Quiet.loadEl (p := intR (.slice (some ⟨bu, 0, none⟩) s.Λ.zxs.length cu) s.Λ.zxs) (i := (i) * 1) (v := vint (s.Λ.zxs.getD (i) 0)) rfl ag_3 (by (repeat' constructor)) (fun h hp => slR_rd hp) (ints_at (by omega))) rfl ?_
       refine G.op (OpSpec.buildSlice1 (vs := [_]) el_31 ze_3 rfl rfl rfl rfl rfl (by decide)) (by (repeat' constructor)) rfl ?nx163
       rintro v L' ⟨b7, rfl, rfl⟩
       refine G.op (OpSpec.append1 rfl rfl rfl el_31 ze_3 rfl rfl ?c165 ?c166 (Nat.le_refl _) ?c167 (by decide)) (by (repeat' constructor)) rfl ?nx168
       case c165 => (first | (simp [isCell]; done) | (simp [isCell, setAll, Value.cells]; done))
       case c166 => rfl
       case c167 => omega
       rintro v L' ⟨⟨a7, c7, rfl⟩, rfl⟩
       refine G.q (Quiet.assign rfl) rfl (G.nil (G.blk_n (G.then_n (G.region (G.q (Quiet.move rfl) rfl ?_)))))
       refine G.q (Quiet.add rfl rfl (by omega)) rfl ?_
       refine G.q (Quiet.assign rfl) rfl (G.nil (G.then_n ?_))
       refine G.slCast (T := 3) (sz := 1) (m' := (out ++ [s.Λ.zxs.getD i 0]).length) (xs' := ints (out ++ [s.Λ.zxs.getD i 0])) (by (repeat' constructor)) (by simp) (by simp [ints, Value.cells]) ?_
       exact G.roundK ((i + 1, .slice a7 (out.length + 1) c7, out ++ [s.Λ.zxs.getD i 0])) (⟨by dsimp only; omega, ⟨a7, c7, by simp⟩, by dsimp only; rw [want_step (by omega), if_pos (.inr h113)] at ho; rw [List.append_assoc]; exact ho, by dsimp only; rw [List.length_append, List.length_singleton]; omega⟩) (by dsimp only; omega) ⟨rfl, rfl, rfl, rfl, rfl, trivial⟩ (by (repeat' constructor)) (by ((repeat (apply Have.cons; (repeat (first | exact Pick.here | apply Pick.there)))); apply Have.base; repeat' constructor))
      ·refine G.skip (G.blk_n (G.then_n (G.region (G.q (Quiet.move rfl) rfl ?_))))
       refine G.q (Quiet.add rfl rfl (by omega)) rfl ?_
       refine G.q (Quiet.assign rfl) rfl (G.nil (G.then_n ?_))
       exact G.roundK ((i + 1, .slice aw out.length cw, out)) (⟨by dsimp only; omega, ⟨aw, cw, rfl⟩, by dsimp only; rw [want_step (by omega), if_neg (by rintro (g | g); omega; exact g h113)] at ho; exact ho, by dsimp only; omega⟩) (by dsimp only; omega) ⟨rfl, rfl, rfl, rfl, rfl, trivial⟩ (by (repeat' constructor)) (by ((repeat (apply Have.cons; (repeat (first | exact Pick.here | apply Pick.there)))); apply Have.base; repeat' constructor))
   ·rw [List.drop_eq_nil_of_le (by omega)] at ho
    have hmw : marksZ s.Λ = out := by rw [hwant, ← ho]; exact List.append_nil _
    refine G.exit (G.then_e (G.then_e (G.blk_e (G.then_n (G.seq (G.region ?_))))))
    rcases Nat.eq_zero_or_pos s.Λ.zxs.length with hz0 | hz0
    ·refine G.q (Quiet.move rfl) rfl ?_
     refine G.op (OpSpec.call Tryz.func15 rfl rfl (vs := [_]) rfl (lmarks_spec g x s.Λ hW.w.i)) (by (repeat' constructor)) rfl ?nx175
     rintro v L' ⟨am, cm, rfl, rfl⟩
     refine G.q (Quiet.move rfl) rfl ?_
     refine G.op (OpSpec.call Tryz.func14 rfl rfl (vs := [_, _]) rfl (numbers9_spec _ _ (marksZ s.Λ) out (intR (.slice am (marksZ s.Λ).length cm) (marksZ s.Λ)) (intR (.slice aw out.length cw) out) (fun h hp => slR_rd hp) (fun h hp => slR_rd hp) (by rw [hmw]; omega) (by omega))) (by (repeat' constructor)) rfl ?nx178
     rintro v L' ⟨rfl, rfl⟩; rw [decide_eq_true hmw]
     refine G.q (Quiet.assign rfl) rfl (G.nil (G.then_n (G.seq (G.region (G.q (Quiet.move rfl) rfl (G.q (Quiet.max2 rfl rfl) rfl (G.q (Quiet.assign rfl) rfl (G.nil (G.then_n (G.seq (G.region (G.q (Quiet.move rfl) rfl (G.q (Quiet.move rfl) rfl ?_)))))))))))))
     refine G.op (OpSpec.call Tryz.func16 rfl rfl (vs := [_, _]) rfl (lentries_spec g x s.Λ (max n1 0) hW.w.i)) (by (repeat' constructor)) rfl ?nx183
     rintro v L' (⟨h, -, -⟩ | ⟨-, es2, hes2, hek, ab, cb, rfl, rfl⟩); · omega
     have hfz := behind_zxs hW.w hes2
     have hfl := congrArg List.length hfz
     rw [List.length_map] at hfl
     have hft := List.length_filter_le (fun y => decide (y > max n1 0)) s.Λ.zxs
     refine G.q (Quiet.move rfl) rfl (G.q (Quiet.extract rfl rfl) rfl (G.q (Quiet.extract rfl rfl) rfl (G.q (Quiet.assign rfl) rfl (G.q (Quiet.assign rfl) rfl (G.nil (G.then_n (G.seq (G.region (G.q (Quiet.assign rfl) rfl (G.nil (G.then_n (G.seq (G.seq (G.region (G.q (Quiet.assign rfl) rfl (G.nil (G.then_n (G.block ?_))))))))))))))))))
     refine G.loopK (ι := Nat × Nat) (fun q E => (18, vint q.1) :: (17, vint q.2) :: E) (fun q => []) (fun q => q.1 ≤ s.Λ.zxs.length ∧ q.2 = ((s.Λ.zxs.take q.1).filter fun y => decide (y > max n1 0)).length) (fun q => s.Λ.zxs.length - q.1) (0, 0) (ts := [1, 8, 10, 14, 15, 16]) (.cons rfl (.cons rfl (.cons rfl (.cons rfl (.cons rfl (.cons rfl (.nil))))))) (⟨Nat.zero_le _, rfl⟩) ⟨rfl, rfl, rfl, rfl, rfl, rfl, rfl, rfl, trivial⟩ (by (repeat' constructor)) ?_
     rintro ⟨i, n⟩ ⟨hi, hn⟩
     dsimp only
     dsimp only at hi hn
     refine G.seq (G.seq (G.region (G.q (Quiet.move rfl) rfl (G.q (Quiet.move rfl) rfl (G.q (Quiet.slen rfl Tryz.underlying31 rfl) rfl (G.q (Quiet.int rfl rfl rfl) rfl (G.nil (G.then_n ?_))))))))
     refine G.condD rfl (fun h136 => ?_) (fun h136 => ?_)
     ·have hiz : i < s.Λ.zxs.length := by omega
      have hft2 := filter_take (P := fun y => decide (y > max n1 0)) hiz
      obtain ⟨bu, rfl⟩ : ∃ b : Nat, au = some ⟨b, 0, none⟩ := by exfalso; omega
      refine G.skip (G.then_n (G.seq (G.block (G.seq (G.region (G.q (Quiet.move rfl) rfl (G.q (Quiet.move rfl) rfl ?_)))))))
      refine G.q (Quiet.indexAddr rfl rfl el_31 (by omega)) rfl ?_
      refine G.q (Quiet.loadEl (p := intR (.slice (some ⟨bu, 0, none⟩) s.Λ.zxs.length cu) s.Λ.zxs) (i := (i) * 1) (v := vint (s.Λ.zxs.getD (i) 0)) rfl ag_3 (by (repeat' constructor)) (fun h hp => slR_rd hp) (ints_at (by omega))) rfl ?_
      refine G.q (Quiet.move rfl) rfl (G.q (Quiet.int rfl rfl rfl) rfl (G.nil (G.then_n ?_)))
      refine G.condD rfl (fun h144 => ?_) (fun h144 => ?_)
      ·obtain ⟨hn1, hn2⟩ := filter_at (P := fun y => decide (y > max n1 0)) hiz (decide_eq_true h144)
       rw [← hfl] at hn1
       rw [if_pos (decide_eq_true h144)] at hft2
       rw [← hfz] at hn2
       rw [← hn] at hn1 hn2
       refine G.slShape (v := .slice ab _ cb) (xs := es2.flatMap enC) (by (repeat' constructor)) (by omega) fun bb cq e0 mq _ => ?_
       simp only [Value.slice.injEq, true_and] at e0
       obtain ⟨rfl, rfl⟩ := e0
       have hnz : es2[n].zx = s.Λ.zxs.getD i 0 := by rw [← hn2]; simp [List.getD_eq_getElem?_getD, hn1]
       refine G.seq (G.seq ?_)
       refine G.draw [] [[0, 1, 2, 3, 4, 5, 6, 7, 8, 9, 10, 11, 12, 13, 14, 15]] mixed (by kernel_rfl) ?_
       refine Phases.go [] (by (repeat' constructor)) ?_
       refine D.qw [3, 4, 5, 6, 7, 8, 9, 10, 11, 12, 13, 14, 15] rfl (by kernel_rfl) (Quiet.move rfl) ?_
       refine D.qw [2, 3, 4, 5, 6, 7, 8, 9, 10, 11, 12, 13, 14, 15] rfl (by kernel_rfl) (Quiet.move rfl) ?_
       refine D.qw [3, 4, 5, 6, 7, 8, 9, 10, 11, 12, 13, 14, 15] rfl (by kernel_rfl) (Quiet.slen rfl Tryz.underlying22 rfl) ?_
       refine D.qw [4, 5, 6, 7, 8, 9, 10, 11, 12, 13, 14, 15] rfl (by kernel_rfl) (Quiet.as (v' := .bool false) (by exact congrArg Value.bool (decide_eq_false (by omega))) (Quiet.int rfl rfl rfl)) ?_
       refine D.qw [5, 6, 7, 8, 9, 10, 11, 12, 13, 14, 15] rfl (by kernel_rfl) (Quiet.move rfl) ?_
       refine D.gqw [7, 8, 9, 14, 15] (t := 149) rfl rfl rfl (by kernel_rfl) (Quiet.move rfl) ?_
       refine D.gqw [7, 8, 9, 14, 15] (t := 149) rfl rfl rfl (by kernel_rfl) (Quiet.move rfl) ?_
       refine D.gqw [8, 9, 14, 15] (t := 149) rfl rfl rfl (by kernel_rfl) (Quiet.indexAddr rfl rfl el_22 (by omega)) ?_
       refine D.gqw [9, 14, 15] (t := 149) rfl rfl rfl (by kernel_rfl) (Quiet.fieldAddr rfl fo_38_0) ?_
       refine D.gqw [14, 15] (t := 149) rfl rfl rfl (by kernel_rfl) (Quiet.loadRd (sz := 11) (j := n * 11 + 0) (p := slR 38 11 (.slice (some ⟨bb, 0, none⟩) es2.length cb) es2.length (es2.flatMap enC)) (v := vint es2[n].zx) rfl ag_3 (by (repeat' constructor)) (fun h hp => slR_rd hp) (by simp) ((en_cell (k := 0) hn1 (by decide)).trans rfl)) ?_
       refine D.gqw [12, 13, 14, 15] (t := 149) rfl rfl rfl (by kernel_rfl) (Quiet.move rfl) ?_
       refine D.gqw [12, 13, 14, 15] (t := 149) rfl rfl rfl (by kernel_rfl) (Quiet.move rfl) ?_
       refine D.gqw [13, 14, 15] (t := 149) rfl rfl rfl (by kernel_rfl) (Quiet.indexAddr rfl rfl el_31 (by omega)) ?_
       refine D.gqw [14, 15] (t := 149) rfl rfl rfl (by kernel_rfl) (Quiet.loadEl (p := intR (.slice (some ⟨bu, 0, none⟩) s.Λ.zxs.length cu) s.Λ.zxs) (i := (i) * 1) (v := vint (s.Λ.zxs.getD (i) 0)) rfl ag_3 (by (repeat' constructor)) (fun h hp => slR_rd hp) (ints_at (by omega))) ?_
       refine D.gqw [15] (t := 149) rfl rfl rfl (by kernel_rfl) (Quiet.as (v' := .bool false) (by rw [hnz]; simp) (Quiet.int rfl rfl rfl)) ?_
       refine D.qw [] rfl (by kernel_rfl) (Quiet.pickF rfl rfl) ?_
       refine D.ph (Phases.fin (G.then_n (G.condF rfl (G.skip (G.then_n (G.region (G.q (Quiet.move rfl) rfl ?_)))))))
       refine G.q (Quiet.add rfl rfl (by omega)) rfl ?_
       refine G.q (Quiet.assign rfl) rfl (G.nil (G.blk_n (G.then_n (G.region (G.q (Quiet.move rfl) rfl ?_)))))
       refine G.q (Quiet.add rfl rfl (by omega)) rfl ?_
       refine G.q (Quiet.assign rfl) rfl (G.nil (G.then_n ?_))
       exact G.roundK ((i + 1, n + 1)) (⟨by dsimp only; omega, by dsimp only; rw [hft2, hn]⟩) (by dsimp only; omega) ⟨rfl, rfl, rfl, rfl, rfl, rfl, rfl, rfl, trivial⟩ (by (repeat' constructor)) (by ((repeat (apply Have.cons; (repeat (first | exact Pick.here | apply Pick.there)))); apply Have.base; repeat' constructor))
      ·rw [if_neg (by simpa using h144)] at hft2
       refine G.skip (G.blk_n (G.then_n (G.region (G.q (Quiet.move rfl) rfl ?_))))
       refine G.q (Quiet.add rfl rfl (by omega)) rfl ?_
       refine G.q (Quiet.assign rfl) rfl (G.nil (G.then_n ?_))
       exact G.roundK ((i + 1, n)) (⟨by dsimp only; omega, by dsimp only; rw [hft2, hn]; rfl⟩) (by dsimp only; omega) ⟨rfl, rfl, rfl, rfl, rfl, rfl, rfl, rfl, trivial⟩ (by (repeat' constructor)) (by ((repeat (apply Have.cons; (repeat (first | exact Pick.here | apply Pick.there)))); apply Have.base; repeat' constructor))
     ·have hie : i = s.Λ.zxs.length := by omega
      have hne : n = es2.length := by rw [hn, hie, List.take_length, ← hfl]
      refine G.exit (G.then_e (G.then_e (G.blk_e (G.then_n (G.seq ?_)))))
      refine G.draw [] [[0, 1, 2, 3, 4, 5, 6, 7, 8, 9, 10, 11, 12, 13, 14, 15, 16, 17, 18, 19, 20, 21, 22, 23, 24, 25, 26, 27]] mixed (by kernel_rfl) ?_
      refine Phases.go [lgR g x s.Λ, intR _ s.Λ.zxs] (by (repeat' constructor)) ?_
      refine D.qw [1, 2, 3, 4, 5, 6, 7, 8, 9, 10, 11, 12, 13, 14, 15, 16, 17, 18, 19, 20, 21, 22, 23, 24, 25, 26, 27] rfl (by kernel_rfl) (Quiet.move rfl) ?_
      refine D.qw [2, 3, 4, 5, 6, 7, 8, 9, 10, 11, 12, 13, 14, 15, 16, 17, 18, 19, 20, 21, 22, 23, 24, 25, 26, 27] rfl (by kernel_rfl) (Quiet.move rfl) ?_
      refine D.gqw [3, 4, 5, 6, 7, 8, 9, 10, 11, 12, 13, 14, 15, 16, 17, 18, 19, 20, 21, 22, 23, 24, 25, 26, 27] (t := 164) rfl rfl rfl (by kernel_rfl) (Quiet.move rfl) ?_
      refine D.gqw [4, 5, 6, 7, 8, 9, 10, 11, 12, 13, 14, 15, 16, 17, 18, 19, 20, 21, 22, 23, 24, 25, 26, 27] (t := 164) rfl rfl rfl (by kernel_rfl) (Quiet.as (v' := .bool true) (by rfl) (Quiet.int rfl rfl rfl)) ?_
      refine D.qw [5, 6, 7, 8, 9, 10, 11, 12, 13, 14, 15, 16, 17, 18, 19, 20, 21, 22, 23, 24, 25, 26, 27] rfl (by kernel_rfl) (Quiet.pickT rfl rfl) ?_
      refine D.qw [6, 7, 8, 9, 10, 11, 12, 13, 14, 15, 16, 17, 18, 19, 20, 21, 22, 23, 24, 25, 26, 27] rfl (by kernel_rfl) (Quiet.move rfl) ?_
      refine D.gqw [9, 10, 11, 12, 13, 14, 15, 16, 17, 18, 19, 20, 21, 22, 23, 24, 25, 26, 27] (t := 168) rfl rfl rfl (by kernel_rfl) (Quiet.move rfl) ?_
      refine D.gqw [8, 9, 10, 11, 12, 13, 14, 15, 16, 17, 18, 19, 20, 21, 22, 23, 24, 25, 26, 27] (t := 168) rfl rfl rfl (by kernel_rfl) (Quiet.move rfl) ?_
      refine D.gqw [9, 10, 11, 12, 13, 14, 15, 16, 17, 18, 19, 20, 21, 22, 23, 24, 25, 26, 27] (t := 168) rfl rfl rfl (by kernel_rfl) (Quiet.slen rfl Tryz.underlying22 rfl) ?_
      refine D.gqw [10, 11, 12, 13, 14, 15, 16, 17, 18, 19, 20, 21, 22, 23, 24, 25, 26, 27] (t := 168) rfl rfl rfl (by kernel_rfl) (Quiet.as (v' := .bool true) (by exact congrArg Value.bool (decide_eq_true (by omega))) (Quiet.int rfl rfl rfl)) ?_
      refine D.qw [11, 12, 13, 14, 15, 16, 17, 18, 19, 20, 21, 22, 23, 24, 25, 26, 27] rfl (by kernel_rfl) (Quiet.pickT rfl rfl) ?_
      refine D.qw [12, 13, 14, 15, 16, 17, 18, 19, 20, 21, 22, 23, 24, 25, 26, 27] rfl (by kernel_rfl) (Quiet.move rfl) ?_
      refine D.gqw [13, 14, 15, 16, 17, 18, 19, 20, 21, 22, 23, 24, 25, 26, 27] (t := 174) rfl rfl rfl (by kernel_rfl) (Quiet.move rfl) ?_
      refine D.gqw [14, 15, 16, 17, 18, 19, 20, 21, 22, 23, 24, 25, 26, 27] (t := 174) rfl rfl rfl (by kernel_rfl) (Quiet.slen rfl Tryz.underlying31 rfl) ?_
      refine D.gqw [15, 16, 17, 18, 19, 20, 21, 22, 23, 24, 25, 26, 27] (t := 174) rfl rfl rfl (by kernel_rfl) (Quiet.as (v' := .bool true) (by exact congrArg Value.bool (decide_eq_true (by omega))) (Quiet.int rfl rfl rfl)) ?_
      refine D.gqw [16, 17, 18, 19, 20, 21, 22, 23, 24, 25, 26, 27] (t := 174) rfl rfl rfl (by kernel_rfl) (Quiet.move rfl) ?_
      refine D.gs (t := 178) rfl rfl rfl rfl (by kernel_rfl) ?_
      refine D.gs (t := 178) rfl rfl rfl rfl (by kernel_rfl) ?_
      refine D.gs (t := 178) rfl rfl rfl rfl (by kernel_rfl) ?_
      refine D.gs (t := 178) rfl rfl rfl rfl (by kernel_rfl) ?_
      refine D.gs (t := 178) rfl rfl rfl rfl (by kernel_rfl) ?_
      refine D.gs (t := 178) rfl rfl rfl rfl (by kernel_rfl) ?_
      refine D.gs (t := 178) rfl rfl rfl rfl (by kernel_rfl) ?_
      refine D.gs (t := 178) rfl rfl rfl rfl (by kernel_rfl) ?_
      refine D.gs (t := 178) rfl rfl rfl rfl (by kernel_rfl) ?_
      refine D.gqw [26, 27] (t := 174) rfl rfl rfl (by kernel_rfl) (Quiet.pickT rfl rfl) ?_
      refine D.qw [27] rfl (by kernel_rfl) (Quiet.pickT rfl rfl) ?_
      refine D.qw [] rfl (by kernel_rfl) (Quiet.assign rfl) ?_
      refine D.ph (Phases.fin (G.then_n (G.ret ?_)))
      exact G.done (l := [.tmp 4]) rfl rfl ⟨rfl, rfl⟩ (by (repeat' constructor)) (by (repeat' constructor))
    ·refine G.slShape (v := .slice au _ cu) (xs := ints s.Λ.zxs) (by (repeat' constructor)) (by omega) fun bu cq e0 mq _ => ?_
     simp only [Value.slice.injEq, true_and] at e0
     obtain ⟨rfl, rfl⟩ := e0
     refine G.q (Quiet.move rfl) rfl ?_
     refine G.op (OpSpec.call Tryz.func15 rfl rfl (vs := [_]) rfl (lmarks_spec g x s.Λ hW.w.i)) (by (repeat' constructor)) rfl ?nx231
     rintro v L' ⟨am, cm, rfl, rfl⟩
     refine G.q (Quiet.move rfl) rfl ?_
     refine G.op (OpSpec.call Tryz.func14 rfl rfl (vs := [_, _]) rfl (numbers9_spec _ _ (marksZ s.Λ) out (intR (.slice am (marksZ s.Λ).length cm) (marksZ s.Λ)) (intR (.slice aw out.length cw) out) (fun h hp => slR_rd hp) (fun h hp => slR_rd hp) (by rw [hmw]; omega) (by omega))) (by (repeat' constructor)) rfl ?nx234
     rintro v L' ⟨rfl, rfl⟩; rw [decide_eq_true hmw]
     refine G.q (Quiet.assign rfl) rfl (G.nil (G.then_n (G.seq (G.region (G.q (Quiet.move rfl) rfl (G.q (Quiet.max2 rfl rfl) rfl (G.q (Quiet.assign rfl) rfl (G.nil (G.then_n (G.seq (G.region (G.q (Quiet.move rfl) rfl (G.q (Quiet.move rfl) rfl ?_)))))))))))))
     refine G.op (OpSpec.call Tryz.func16 rfl rfl (vs := [_, _]) rfl (lentries_spec g x s.Λ (max n1 0) hW.w.i)) (by (repeat' constructor)) rfl ?nx239
     rintro v L' (⟨h, -, -⟩ | ⟨-, es2, hes2, hek, ab, cb, rfl, rfl⟩); · omega
     have hfz := behind_zxs hW.w hes2
     have hfl := congrArg List.length hfz
     rw [List.length_map] at hfl
     have hft := List.length_filter_le (fun y => decide (y > max n1 0)) s.Λ.zxs
     refine G.q (Quiet.move rfl) rfl (G.q (Quiet.extract rfl rfl) rfl (G.q (Quiet.extract rfl rfl) rfl (G.q (Quiet.assign rfl) rfl (G.q (Quiet.assign rfl) rfl (G.nil (G.then_n (G.seq (G.region (G.q (Quiet.assign rfl) rfl (G.nil (G.then_n (G.seq (G.seq (G.region (G.q (Quiet.assign rfl) rfl (G.nil (G.then_n (G.block ?_))))))))))))))))))
     refine G.loopK (ι := Nat × Nat) (fun q E => (18, vint q.1) :: (17, vint q.2) :: E) (fun q => []) (fun q => q.1 ≤ s.Λ.zxs.length ∧ q.2 = ((s.Λ.zxs.take q.1).filter fun y => decide (y > max n1 0)).length) (fun q => s.Λ.zxs.length - q.1) (0, 0) (ts := [1, 8, 10, 14, 15, 16]) (.cons rfl (.cons rfl (.cons rfl (.cons rfl (.cons rfl (.cons rfl (.nil))))))) (⟨Nat.zero_le _, rfl⟩) ⟨rfl, rfl, rfl, rfl, rfl, rfl, rfl, rfl, trivial⟩ (by (repeat' constructor)) ?_
     rintro ⟨i, n⟩ ⟨hi, hn⟩
     dsimp only
     dsimp only at hi hn
     refine G.seq (G.seq (G.region (G.q (Quiet.move rfl) rfl (G.q (Quiet.move rfl) rfl (G.q (Quiet.slen rfl Tryz.underlying31 rfl) rfl (G.q (Quiet.int rfl rfl rfl) rfl (G.nil (G.then_n ?_))))))))
     refine G.condD rfl (fun h136 => ?_) (fun h136 => ?_)
     ·have hiz : i < s.Λ.zxs.length := by omega
      have hft2 := filter_take (P := fun y => decide (y > max n1 0)) hiz
      refine G.skip (G.then_n (G.seq (G.block (G.seq (G.region (G.q (Quiet.move rfl) rfl (G.q (Quiet.move rfl) rfl ?_)))))))
      refine G.q (Quiet.indexAddr rfl rfl el_31 (by omega)) rfl ?_
      refine G.q (Quiet.loadEl (p := intR (.slice (some ⟨bu, 0, none⟩) s.Λ.zxs.length cu) s.Λ.zxs) (i := (i) * 1) (v := vint (s.Λ.zxs.getD (i) 0)) rfl ag_3 (by (repeat' constructor)) (fun h hp => slR_rd hp) (ints_at (by omega))) rfl ?_
      refine G.q (Quiet.move rfl) rfl (G.q (Quiet.int rfl rfl rfl) rfl (G.nil (G.then_n ?_)))
      refine G.condD rfl (fun h144 => ?_) (fun h144 => ?_)
      ·obtain ⟨hn1, hn2⟩ := filter_at (P := fun y => decide (y > max n1 0)) hiz (decide_eq_true h144)
       rw [← hfl] at hn1
       rw [if_pos (decide_eq_true h144)] at hft2
       rw [← hfz] at hn2
       rw [← hn] at hn1 hn2
       refine G.slShape (v := .slice ab _ cb) (xs := es2.flatMap enC) (by (repeat' constructor)) (by omega) fun bb cq e0 mq _ => ?_
       simp only [Value.slice.injEq, true_and] at e0
       obtain ⟨rfl, rfl⟩ := e0
       have hnz : es2[n].zx = s.Λ.zxs.getD i 0 := by rw [← hn2]; simp [List.getD_eq_getElem?_getD, hn1]
       refine G.seq (G.seq ?_)
       refine G.draw [] [[0, 1, 2, 3, 4, 5, 6, 7, 8, 9, 10, 11, 12, 13, 14, 15]] mixed (by kernel_rfl) ?_
       refine Phases.go [] (by (repeat' constructor)) ?_
       refine D.qw [3, 4, 5, 6, 7, 8, 9, 10, 11, 12, 13, 14, 15] rfl (by kernel_rfl) (Quiet.move rfl) ?_
       refine D.qw [2, 3, 4, 5, 6, 7, 8, 9, 10, 11, 12, 13, 14, 15] rfl (by kernel_rfl) (Quiet.move rfl) ?_
       refine D.qw [3, 4, 5, 6, 7, 8, 9, 10, 11, 12, 13, 14, 15] rfl (by kernel_rfl) (Quiet.slen rfl Tryz.underlying22 rfl) ?_
       refine D.qw [4, 5, 6, 7, 8, 9, 10, 11, 12, 13, 14, 15] rfl (by kernel_rfl) (Quiet.as (v' := .bool false) (by exact congrArg Value.bool (decide_eq_false (by omega))) (Quiet.int rfl rfl rfl)) ?_
       refine D.qw [5, 6, 7, 8, 9, 10, 11, 12, 13, 14, 15] rfl (by kernel_rfl) (Quiet.move rfl) ?_
       refine D.gqw [7, 8, 9, 14, 15] (t := 149) rfl rfl rfl (by kernel_rfl) (Quiet.move rfl) ?_
       refine D.gqw [7, 8, 9, 14, 15] (t := 149) rfl rfl rfl (by kernel_rfl) (Quiet.move rfl) ?_
       refine D.gqw [8, 9, 14, 15] (t := 149) rfl rfl rfl (by kernel_rfl) (Quiet.indexAddr rfl rfl el_22 (by omega)) ?_
       refine D.gqw [9, 14, 15] (t := 149) rfl rfl rfl (by kernel_rfl) (Quiet.fieldAddr rfl fo_38_0) ?_
       refine D.gqw [14, 15] (t := 149) rfl rfl rfl (by kernel_rfl) (Quiet.loadRd (sz := 11) (j := n * 11 + 0) (p := slR 38 11 (.slice (some ⟨bb, 0, none⟩) es2.length cb) es2.length (es2.flatMap enC)) (v := vint es2[n].zx) rfl ag_3 (by (repeat' constructor)) (fun h hp => slR_rd hp) (by simp) ((en_cell (k := 0) hn1 (by decide)).trans rfl)) ?_
       refine D.gqw [12, 13, 14, 15] (t := 149) rfl rfl rfl (by kernel_rfl) (Quiet.move rfl) ?_
       refine D.gqw [12, 13, 14, 15] (t := 149) rfl rfl rfl (by kernel_rfl) (Quiet.move rfl) ?_
       refine D.gqw [13, 14, 15] (t := 149) rfl rfl rfl (by kernel_rfl) (Quiet.indexAddr rfl rfl el_31 (by omega)) ?_
       refine D.gqw [14, 15] (t := 149) rfl rfl rfl (by kernel_rfl) (Quiet.loadEl (p := intR (.slice (some ⟨bu, 0, none⟩) s.Λ.zxs.length cu) s.Λ.zxs) (i := (i) * 1) (v := vint (s.Λ.zxs.getD (i) 0)) rfl ag_3 (by (repeat' constructor)) (fun h hp => slR_rd hp) (ints_at (by omega))) ?_
       refine D.gqw [15] (t := 149) rfl rfl rfl (by kernel_rfl) (Quiet.as (v' := .bool false) (by rw [hnz]; simp) (Quiet.int rfl rfl rfl)) ?_
       refine D.qw [] rfl (by kernel_rfl) (Quiet.pickF rfl rfl) ?_
       refine D.ph (Phases.fin (G.then_n (G.condF rfl (G.skip (G.then_n (G.region (G.q (Quiet.move rfl) rfl ?_)))))))
       refine G.q (Quiet.add rfl rfl (by omega)) rfl ?_
       refine G.q (Quiet.assign rfl) rfl (G.nil (G.blk_n (G.then_n (G.region (G.q (Quiet.move rfl) rfl ?_)))))
       refine G.q (Quiet.add rfl rfl (by omega)) rfl ?_
       refine G.q (Quiet.assign rfl) rfl (G.nil (G.then_n ?_))
       exact G.roundK ((i + 1, n + 1)) (⟨by dsimp only; omega, by dsimp only; rw [hft2, hn]⟩) (by dsimp only; omega) ⟨rfl, rfl, rfl, rfl, rfl, rfl, rfl, rfl, trivial⟩ (by (repeat' constructor)) (by ((repeat (apply Have.cons; (repeat (first | exact Pick.here | apply Pick.there)))); apply Have.base; repeat' constructor))
      ·rw [if_neg (by simpa using h144)] at hft2
       refine G.skip (G.blk_n (G.then_n (G.region (G.q (Quiet.move rfl) rfl ?_))))
       refine G.q (Quiet.add rfl rfl (by omega)) rfl ?_
       refine G.q (Quiet.assign rfl) rfl (G.nil (G.then_n ?_))
       exact G.roundK ((i + 1, n)) (⟨by dsimp only; omega, by dsimp only; rw [hft2, hn]; rfl⟩) (by dsimp only; omega) ⟨rfl, rfl, rfl, rfl, rfl, rfl, rfl, rfl, trivial⟩ (by (repeat' constructor)) (by ((repeat (apply Have.cons; (repeat (first | exact Pick.here | apply Pick.there)))); apply Have.base; repeat' constructor))
     ·have hie : i = s.Λ.zxs.length := by omega
      have hne : n = es2.length := by rw [hn, hie, List.take_length, ← hfl]
      refine G.exit (G.then_e (G.then_e (G.blk_e (G.then_n (G.seq ?_)))))
      refine G.draw [] [[0, 1, 2, 3, 4, 5, 6, 7, 8, 9, 10, 11, 12, 13, 14, 15, 16, 17, 18, 19, 20, 21, 22, 23, 24, 25, 26, 27]] mixed (by kernel_rfl) ?_
      refine Phases.go [lgR g x s.Λ, intR _ s.Λ.zxs] (by (repeat' constructor)) ?_
      refine D.qw [1, 2, 3, 4, 5, 6, 7, 8, 9, 10, 11, 12, 13, 14, 15, 16, 17, 18, 19, 20, 21, 22, 23, 24, 25, 26, 27] rfl (by kernel_rfl) (Quiet.move rfl) ?_
      refine D.qw [2, 3, 4, 5, 6, 7, 8, 9, 10, 11, 12, 13, 14, 15, 16, 17, 18, 19, 20, 21, 22, 23, 24, 25, 26, 27] rfl (by kernel_rfl) (Quiet.move rfl) ?_
      refine D.gqw [3, 4, 5, 6, 7, 8, 9, 10, 11, 12, 13, 14, 15, 16, 17, 18, 19, 20, 21, 22, 23, 24, 25, 26, 27] (t := 164) rfl rfl rfl (by kernel_rfl) (Quiet.move rfl) ?_
      refine D.gqw [4, 5, 6, 7, 8, 9, 10, 11, 12, 13, 14, 15, 16, 17, 18, 19, 20, 21, 22, 23, 24, 25, 26, 27] (t := 164) rfl rfl rfl (by kernel_rfl) (Quiet.as (v' := .bool true) (by rfl) (Quiet.int rfl rfl rfl)) ?_
      refine D.qw [5, 6, 7, 8, 9, 10, 11, 12, 13, 14, 15, 16, 17, 18, 19, 20, 21, 22, 23, 24, 25, 26, 27] rfl (by kernel_rfl) (Quiet.pickT rfl rfl) ?_
      refine D.qw [6, 7, 8, 9, 10, 11, 12, 13, 14, 15, 16, 17, 18, 19, 20, 21, 22, 23, 24, 25, 26, 27] rfl (by kernel_rfl) (Quiet.move rfl) ?_
      refine D.gqw [9, 10, 11, 12, 13, 14, 15, 16, 17, 18, 19, 20, 21, 22, 23, 24, 25, 26, 27] (t := 168) rfl rfl rfl (by kernel_rfl) (Quiet.move rfl) ?_
      refine D.gqw [8, 9, 10, 11, 12, 13, 14, 15, 16, 17, 18, 19, 20, 21, 22, 23, 24, 25, 26, 27] (t := 168) rfl rfl rfl (by kernel_rfl) (Quiet.move rfl) ?_
      refine D.gqw [9, 10, 11, 12, 13, 14, 15, 16, 17, 18, 19, 20, 21, 22, 23, 24, 25, 26, 27] (t := 168) rfl rfl rfl (by kernel_rfl) (Quiet.slen rfl Tryz.underlying22 rfl) ?_
      refine D.gqw [10, 11, 12, 13, 14, 15, 16, 17, 18, 19, 20, 21, 22, 23, 24, 25, 26, 27] (t := 168) rfl rfl rfl (by kernel_rfl) (Quiet.as (v' := .bool true) (by exact congrArg Value.bool (decide_eq_true (by omega))) (Quiet.int rfl rfl rfl)) ?_
      refine D.qw [11, 12, 13, 14, 15, 16, 17, 18, 19, 20, 21, 22, 23, 24, 25, 26, 27] rfl (by kernel_rfl) (Quiet.pickT rfl rfl) ?_
      refine D.qw [12, 13, 14, 15, 16, 17, 18, 19, 20, 21, 22, 23, 24, 25, 26, 27] rfl (by kernel_rfl) (Quiet.move rfl) ?_
      refine D.gqw [13, 14, 15, 16, 17, 18, 19, 20, 21, 22, 23, 24, 25, 26, 27] (t := 174) rfl rfl rfl (by kernel_rfl) (Quiet.move rfl) ?_
      refine D.gqw [14, 15, 16, 17, 18, 19, 20, 21, 22, 23, 24, 25, 26, 27] (t := 174) rfl rfl rfl (by kernel_rfl) (Quiet.slen rfl Tryz.underlying31 rfl) ?_
      refine D.gqw [15, 16, 17, 18, 19, 20, 21, 22, 23, 24, 25, 26, 27] (t := 174) rfl rfl rfl (by kernel_rfl) (Quiet.as (v' := .bool false) (by exact congrArg Value.bool (decide_eq_false (by omega))) (Quiet.int rfl rfl rfl)) ?_
      refine D.gqw [16, 17, 18, 19, 20, 21, 22, 23, 24, 25, 26, 27] (t := 174) rfl rfl rfl (by kernel_rfl) (Quiet.move rfl) ?_
      refine D.gqw [17, 24, 25, 26, 27] (t := 178) rfl rfl rfl (by kernel_rfl) (Quiet.move rfl) ?_
      refine D.gm (t := 178) rfl rfl rfl (by kernel_rfl) (OpSpec.call Tryz.func17 rfl rfl (vs := [_]) rfl (llast_spec g x s.Λ hW.w.i)) (by (repeat' constructor)) ?nx286
      refine D.gqw [22, 23, 24, 25, 26, 27] (t := 178) rfl rfl rfl (by kernel_rfl) (Quiet.move rfl) ?_
      refine D.gqw [20, 21, 22, 23, 24, 25, 26, 27] (t := 178) rfl rfl rfl (by kernel_rfl) (Quiet.move rfl) ?_
      refine D.gqw [21, 22, 23, 24, 25, 26, 27] (t := 178) rfl rfl rfl (by kernel_rfl) (Quiet.slen rfl Tryz.underlying31 rfl) ?_
      refine D.gqw [22, 23, 24, 25, 26, 27] (t := 178) rfl rfl rfl (by kernel_rfl) (Quiet.as (v' := vint ((s.Λ.zxs.length - 1 : Nat) : Int)) (by congr 1; omega) (Quiet.sub rfl rfl (by omega))) ?_
      refine D.gqw [23, 24, 25, 26, 27] (t := 178) rfl rfl rfl (by kernel_rfl) (Quiet.indexAddr rfl rfl el_31 (by omega)) ?_
      refine D.gqw [24, 25, 26, 27] (t := 178) rfl rfl rfl (by kernel_rfl) (Quiet.loadEl (p := intR (.slice (some ⟨bu, 0, none⟩) s.Λ.zxs.length cu) s.Λ.zxs) (i := (s.Λ.zxs.length - 1) * 1) (v := vint (s.Λ.zxs.getD (s.Λ.zxs.length - 1) 0)) rfl ag_3 (by (repeat' constructor)) (fun h hp => slR_rd hp) (ints_at (by omega))) ?_
      refine D.gqw [25, 26, 27] (t := 178) rfl rfl rfl (by kernel_rfl) (Quiet.as (v' := .bool true) (by rw [last_at (i := s.Λ.zxs.length - 1) (by omega)]; simp [List.getD_eq_getElem?_getD, show s.Λ.zxs.length - 1 < s.Λ.zxs.length by omega]) (Quiet.int rfl rfl rfl)) ?_
      refine D.gqw [26, 27] (t := 174) rfl rfl rfl (by kernel_rfl) (Quiet.pickF rfl rfl) ?_
      refine D.qw [27] rfl (by kernel_rfl) (Quiet.pickT rfl rfl) ?_
      refine D.qw [] rfl (by kernel_rfl) (Quiet.assign rfl) ?_
      refine D.ph (Phases.fin (G.then_n (G.ret ?_)))
      exact G.done (l := [.tmp 4]) rfl rfl ⟨rfl, rfl⟩ (by (repeat' constructor)) (by (repeat' constructor))
 ·refine G.kDF (t := 46) rfl h8_47 (G.gskip (t := 47) rfl rfl rfl rfl (G.gskip (t := 47) rfl rfl rfl rfl (G.q (Quiet.pickF rfl rfl) rfl (G.nil (G.then_n (G.condF rfl (G.exit (G.then_e (G.then_e (G.blk_e (G.then_n (G.seq ?_))))))))))))
  have hfew := hW.w.few
  have hzl := hW.w.rows.len
  have hwant : marksZ s.Λ = wantF s.Λ.zxs := marks_want hb0 (fun z hz => by have := hW.w.rows.gt z hz; omega)
  refine G.add (slR_nil 3 1) (G.region (G.q (Quiet.assign rfl) rfl (G.nil (G.then_n (G.seq (G.seq (G.region (G.q (Quiet.assign rfl) rfl (G.nil (G.then_n (G.block ?_)))))))))))
  refine G.loopK (ι := Nat × Value × (List Int)) (fun q E => (13, vint q.1) :: (12, q.2.1) :: E) (fun q => [intR q.2.1 q.2.2]) (fun q => q.1 ≤ s.Λ.zxs.length ∧ (∃ a c, q.2.1 = .slice a q.2.2.length c) ∧ q.2.2 ++ wantF (s.Λ.zxs.drop q.1) = wantF s.Λ.zxs ∧ q.2.2.length ≤ q.1) (fun q => s.Λ.zxs.length - q.1) (0, .slice none 0 0, []) (ts := [1, 8, 10]) (.cons rfl (.cons rfl (.cons rfl (.nil)))) (⟨Nat.zero_le _, ⟨none, 0, rfl⟩, rfl, Nat.le_refl _⟩) ⟨rfl, rfl, rfl, rfl, rfl, trivial⟩ (by (repeat' constructor)) ?_
  rintro ⟨i, w, out⟩ ⟨hj, ⟨aw, cw, hw⟩, ho, hol⟩
  dsimp only
  dsimp only at hj hw ho hol
  subst hw
  refine G.seq (G.seq (G.region (G.q (Quiet.move rfl) rfl (G.q (Quiet.move rfl) rfl (G.q (Quiet.slen rfl Tryz.underlying31 rfl) rfl (G.q (Quiet.int rfl rfl rfl) rfl (G.nil (G.then_n ?_))))))))
  refine G.condD rfl (fun h71 => ?_) (fun h71 => ?_)
  ·refine G.slShape (v := .slice au _ cu) (xs := ints s.Λ.zxs) (by (repeat' constructor)) (by omega) fun bu cq e0 mq _ => ?_
   simp only [Value.slice.injEq, true_and] at e0
   obtain ⟨rfl, rfl⟩ := e0
   have hps := pos_at hW.w (i := i) (by omega)
   refine G.skip (G.then_n (G.seq (G.block (G.seq (G.seq ?_)))))
   refine G.draw [] [[0, 1, 2, 3, 4, 5, 6, 7, 8, 9, 10, 11, 12, 13, 14, 15, 16, 17, 18, 19, 20]] mixed (by kernel_rfl) ?_
   refine Phases.go [] (by (repeat' constructor)) ?_
   refine D.qw [1, 2, 3, 4, 5, 6, 7, 8, 9, 10, 11, 12, 13, 14, 15, 16, 17, 18, 19, 20] rfl (by kernel_rfl) (Quiet.move rfl) ?_
   refine D.qw [2, 3, 4, 5, 6, 7, 8, 9, 10, 11, 12, 13, 14, 15, 16, 17, 18, 19, 20] rfl (by kernel_rfl) (Quiet.int rfl rfl rfl) ?_
   refine D.qw [3, 4, 5, 6, 7, 8, 9, 10, 11, 12, 13, 14, 15, 16, 17, 18, 19, 20] rfl (by kernel_rfl) (Quiet.move rfl) ?_
   refine D.dec (t := 76) rfl (fun h16_76 => ?_) (fun h16_76 => ?_)
   ·refine D.kDT (t := 75) rfl h16_76 ?_
    refine D.gqw [5, 6, 12, 13, 14, 15, 16, 17, 18, 19, 20] (t := 76) rfl rfl rfl (by kernel_rfl) (Quiet.move rfl) ?_
    refine D.gqw [5, 6, 12, 13, 14, 15, 16, 17, 18, 19, 20] (t := 76) rfl rfl rfl (by kernel_rfl) (Quiet.move rfl) ?_
    refine D.gqw [6, 12, 13, 14, 15, 16, 17, 18, 19, 20] (t := 76) rfl rfl rfl (by kernel_rfl) (Quiet.indexAddr rfl rfl el_31 (by omega)) ?_
    refine D.gqw [12, 13, 14, 15, 16, 17, 18, 19, 20] (t := 76) rfl rfl rfl (by kernel_rfl) (Quiet.loadEl (p := intR (.slice (some ⟨bu, 0, none⟩) s.Λ.zxs.length cu) s.Λ.zxs) (i := (i) * 1) (v := vint (s.Λ.zxs.getD (i) 0)) rfl ag_3 (by (repeat' constructor)) (fun h hp => slR_rd hp) (ints_at (by omega))) ?_
    refine D.gqw [10, 11, 12, 13, 14, 15, 16, 17, 18, 19, 20] (t := 76) rfl rfl rfl (by kernel_rfl) (Quiet.move rfl) ?_
    refine D.gqw [9, 10, 11, 12, 13, 14, 15, 16, 17, 18, 19, 20] (t := 76) rfl rfl rfl (by kernel_rfl) (Quiet.move rfl) ?_
    refine D.gqw [10, 11, 12, 13, 14, 15, 16, 17, 18, 19, 20] (t := 76) rfl rfl rfl (by kernel_rfl) (Quiet.as (v' := vint ((i - 1 : Nat) : Int)) (by congr 1; omega) (Quiet.sub rfl rfl (by omega))) ?_
    refine D.gqw [11, 12, 13, 14, 15, 16, 17, 18, 19, 20] (t := 76) rfl rfl rfl (by kernel_rfl) (Quiet.indexAddr rfl rfl el_31 (by omega)) ?_
    refine D.gqw [12, 13, 14, 15, 16, 17, 18, 19, 20] (t := 76) rfl rfl rfl (by kernel_rfl) (Quiet.loadEl (p := intR (.slice (some ⟨bu, 0, none⟩) s.Λ.zxs.length cu) s.Λ.zxs) (i := (i - 1) * 1) (v := vint (s.Λ.zxs.getD (i - 1) 0)) rfl ag_3 (by (repeat' constructor)) (fun h hp => slR_rd hp) (ints_at (by omega))) ?_
    refine D.gqw [13, 14, 15, 16, 17, 18, 19, 20] (t := 76) rfl rfl rfl (by kernel_rfl) (Quiet.as (v' := .bool false) (by have hup := ups_at hW.w (i := i - 1) (by omega); rw [Nat.sub_add_cancel (by omega)] at hup; exact congrArg Value.bool (decide_eq_false (by omega))) (Quiet.int rfl rfl rfl)) ?_
    refine D.qw [14, 15, 16, 17, 18, 19, 20] rfl (by kernel_rfl) (Quiet.pickT rfl rfl) ?_
    refine D.qw [15, 16, 17, 18, 19, 20] rfl (by kernel_rfl) (Quiet.move rfl) ?_
    refine D.gqw [17, 18, 19, 20] (t := 88) rfl rfl rfl (by kernel_rfl) (Quiet.move rfl) ?_
    refine D.gqw [17, 18, 19, 20] (t := 88) rfl rfl rfl (by kernel_rfl) (Quiet.move rfl) ?_
    refine D.gqw [18, 19, 20] (t := 88) rfl rfl rfl (by kernel_rfl) (Quiet.indexAddr rfl rfl el_31 (by omega)) ?_
    refine D.gqw [19, 20] (t := 88) rfl rfl rfl (by kernel_rfl) (Quiet.loadEl (p := intR (.slice (some ⟨bu, 0, none⟩) s.Λ.zxs.length cu) s.Λ.zxs) (i := (i) * 1) (v := vint (s.Λ.zxs.getD (i) 0)) rfl ag_3 (by (repeat' constructor)) (fun h hp => slR_rd hp) (ints_at (by omega))) ?_
    refine D.gqw [20] (t := 88) rfl rfl rfl (by kernel_rfl) (Quiet.as (v' := .bool false) (by exact congrArg Value.bool (decide_eq_false (by omega))) (Quiet.int rfl rfl rfl)) ?_
    refine D.qw [] rfl (by kernel_rfl) (Quiet.pickF rfl rfl) ?_
    refine D.ph (Phases.fin (G.then_n (G.condF rfl (G.skip (G.then_n (G.seq ?_))))))
    refine G.draw [] [[0, 1, 2, 3, 4, 5, 6, 7, 8, 9, 10, 11, 12, 13, 14, 15, 16, 17, 18]] mixed (by kernel_rfl) ?_
    refine Phases.go [] (by (repeat' constructor)) ?_
    refine D.qw [1, 4, 5, 6, 7, 8, 9, 10, 11, 12, 13, 14, 15, 16, 17, 18] rfl (by kernel_rfl) (Quiet.move rfl) ?_
    refine D.qw [4, 5, 6, 7, 8, 9, 10, 11, 12, 13, 14, 15, 16, 17, 18] rfl (by kernel_rfl) (Quiet.add rfl rfl (by omega)) ?_
    refine D.qw [3, 4, 5, 6, 7, 8, 9, 10, 11, 12, 13, 14, 15, 16, 17, 18] rfl (by kernel_rfl) (Quiet.move rfl) ?_
    refine D.qw [4, 5, 6, 7, 8, 9, 10, 11, 12, 13, 14, 15, 16, 17, 18] rfl (by kernel_rfl) (Quiet.slen rfl Tryz.underlying31 rfl) ?_
    refine D.qw [5, 6, 7, 8, 9, 10, 11, 12, 13, 14, 15, 16, 17, 18] rfl (by kernel_rfl) (Quiet.int rfl rfl rfl) ?_
    refine D.qw [6, 7, 8, 9, 10, 11, 12, 13, 14, 15, 16, 17, 18] rfl (by kernel_rfl) (Quiet.move rfl) ?_
    refine D.dec (t := 100) rfl (fun h18_100 => ?_) (fun h18_100 => ?_)
    ·refine D.kDT (t := 99) rfl h18_100 ?_
     refine D.gs (t := 100) rfl rfl rfl rfl (by kernel_rfl) ?_
     refine D.gs (t := 100) rfl rfl rfl rfl (by kernel_rfl) ?_
     refine D.gs (t := 100) rfl rfl rfl rfl (by kernel_rfl) ?_
     refine D.gs (t := 100) rfl rfl rfl rfl (by kernel_rfl) ?_
     refine D.gs (t := 100) rfl rfl rfl rfl (by kernel_rfl) ?_
     refine D.gs (t := 100) rfl rfl rfl rfl (by kernel_rfl) ?_
     refine D.gs (t := 100) rfl rfl rfl rfl (by kernel_rfl) ?_
     refine D.gs (t := 100) rfl rfl rfl rfl (by kernel_rfl) ?_
     refine D.gs (t := 100) rfl rfl rfl rfl (by kernel_rfl) ?_
     refine D.gs (t := 100) rfl rfl rfl rfl (by kernel_rfl) ?_
     refine D.gs (t := 100) rfl rfl rfl rfl (by kernel_rfl) ?_
     refine D.gs (t := 100) rfl rfl rfl rfl (by kernel_rfl) ?_
     refine D.qw [] rfl (by kernel_rfl) (Quiet.pickT rfl rfl) ?_
     refine D.ph (Phases.fin (G.then_n (G.condT rfl (G.region (G.q (Quiet.move rfl) rfl (G.q (Quiet.move rfl) rfl (G.q (Quiet.move rfl) rfl ?_)))))))
     refine G.q (Quiet.indexAddr rfl rfl el_31 (by omega)) rfl ?_
     refine G.q (Quiet.loadEl (p := intR (.slice (some ⟨bu, 0, none⟩) s.Λ.zxs.length cu) s.Λ.zxs) (i := (i) * 1) (v := vint (s.Λ.zxs.getD (i) 0)) rfl ag_3 (by (repeat' constructor)) (fun h hp => slR_rd hp) (ints_at (by omega))) rfl ?_
     refine G.op (OpSpec.buildSlice1 (vs := [_]) el_31 ze_3 rfl rfl rfl rfl rfl (by decide)) (by (repeat' constructor)) rfl ?nx330
     rintro v L' ⟨b7, rfl, rfl⟩
     refine G.op (OpSpec.append1 rfl rfl rfl el_31 ze_3 rfl rfl ?c332 ?c333 (Nat.le_refl _) ?c334 (by decide)) (by (repeat' constructor)) rfl ?nx335
     case c332 => (first | (simp [isCell]; done) | (simp [isCell, setAll, Value.cells]; done))
     case c333 => rfl
     case c334 => omega
     rintro v L' ⟨⟨a7, c7, rfl⟩, rfl⟩
     refine G.q (Quiet.assign rfl) rfl (G.nil (G.blk_n (G.then_n (G.region (G.q (Quiet.move rfl) rfl ?_)))))
     refine G.q (Quiet.add rfl rfl (by omega)) rfl ?_
     refine G.q (Quiet.assign rfl) rfl (G.nil (G.then_n ?_))
     refine G.slCast (T := 3) (sz := 1) (m' := (out ++ [s.Λ.zxs.getD i 0]).length) (xs' := ints (out ++ [s.Λ.zxs.getD i 0])) (by (repeat' constructor)) (by simp) (by simp [ints, Value.cells]) ?_
     exact G.roundK ((i + 1, .slice a7 (out.length + 1) c7, out ++ [s.Λ.zxs.getD i 0])) (⟨by dsimp only; omega, ⟨a7, c7, by simp⟩, by dsimp only; rw [want_step (by omega), if_pos (.inl (by omega))] at ho; rw [List.append_assoc]; exact ho, by dsimp only; rw [List.length_append, List.length_singleton]; omega⟩) (by dsimp only; omega) ⟨rfl, rfl, rfl, rfl, rfl, trivial⟩ (by (repeat' constructor)) (by ((repeat (apply Have.cons; (repeat (first | exact Pick.here | apply Pick.there)))); apply Have.base; repeat' constructor))
    ·refine D.kDF (t := 99) rfl h18_100 ?_
     refine D.gqw [9, 10, 11, 17, 18] (t := 100) rfl rfl rfl (by kernel_rfl) (Quiet.move rfl) ?_
     refine D.gqw [8, 9, 10, 11, 17, 18] (t := 100) rfl rfl rfl (by kernel_rfl) (Quiet.move rfl) ?_
     refine D.gqw [9, 10, 11, 17, 18] (t := 100) rfl rfl rfl (by kernel_rfl) (Quiet.add rfl rfl (by omega)) ?_
     refine D.gqw [10, 11, 17, 18] (t := 100) rfl rfl rfl (by kernel_rfl) (Quiet.indexAddr rfl rfl el_31 (by omega)) ?_
     refine D.gqw [11, 17, 18] (t := 100) rfl rfl rfl (by kernel_rfl) (Quiet.loadEl (p := intR (.slice (some ⟨bu, 0, none⟩) s.Λ.zxs.length cu) s.Λ.zxs) (i := (i + 1) * 1) (v := vint (s.Λ.zxs.getD (i + 1) 0)) rfl ag_3 (by (repeat' constructor)) (fun h hp => slR_rd hp) (ints_at (by omega))) ?_
     refine D.gqw [17, 18] (t := 100) rfl rfl rfl (by kernel_rfl) (Quiet.as (v' := vint (s.Λ.zxs.getD (i + 1) 0 / 4294967296)) (by exact shr32 _) (Quiet.shr rfl rfl (by first | decide | omega))) ?_
     refine D.gqw [14, 15, 16, 17, 18] (t := 100) rfl rfl rfl (by kernel_rfl) (Quiet.move rfl) ?_
     refine D.gqw [14, 15, 16, 17, 18] (t := 100) rfl rfl rfl (by kernel_rfl) (Quiet.move rfl) ?_
     refine D.gqw [15, 16, 17, 18] (t := 100) rfl rfl rfl (by kernel_rfl) (Quiet.indexAddr rfl rfl el_31 (by omega)) ?_
     refine D.gqw [16, 17, 18] (t := 100) rfl rfl rfl (by kernel_rfl) (Quiet.loadEl (p := intR (.slice (some ⟨bu, 0, none⟩) s.Λ.zxs.length cu) s.Λ.zxs) (i := (i) * 1) (v := vint (s.Λ.zxs.getD (i) 0)) rfl ag_3 (by (repeat' constructor)) (fun h hp => slR_rd hp) (ints_at (by omega))) ?_
     refine D.gqw [17, 18] (t := 100) rfl rfl rfl (by kernel_rfl) (Quiet.as (v' := vint (s.Λ.zxs.getD i 0 / 4294967296)) (by exact shr32 _) (Quiet.shr rfl rfl (by first | decide | omega))) ?_
     refine D.gqw [18] (t := 100) rfl rfl rfl (by kernel_rfl) (Quiet.int rfl rfl rfl) ?_
     refine D.qw [] rfl (by kernel_rfl) (Quiet.pickF rfl rfl) ?_
     refine D.ph (Phases.fin (G.then_n ?_))
     refine G.condN rfl (fun h113 => ?_) (fun h113 => ?_)
     ·refine G.region (G.q (Quiet.move rfl) rfl (G.q (Quiet.move rfl) rfl (G.q (Quiet.move rfl) rfl ?_)))
      refine G.q (Quiet.indexAddr rfl rfl el_31 (by omega)) rfl ?_
      refine G.q (Quiet.loadEl (p := intR (.slice (some ⟨bu, 0, none⟩) s.Λ.zxs.length cu) s.Λ.zxs) (i := (i) * 1) (v := vint (s.Λ.zxs.getD (i) 0)) rfl ag_3 (by (repeat' constructor)) (fun h hp => slR_rd hp) (ints_at (by omega))) rfl ?_
      refine G.op (OpSpec.buildSlice1 (vs := [_]) el_31 ze_3 rfl rfl rfl rfl rfl (by decide)) (by (repeat' constructor)) rfl ?nx356
      rintro v L' ⟨b7, rfl, rfl⟩
      refine G.op (OpSpec.append1 rfl rfl rfl el_31 ze_3 rfl rfl ?c358 ?c359 (Nat.le_refl _) ?c360 (by decide)) (by (repeat' constructor)) rfl ?nx361
      case c358 => (first | (simp [isCell]; done) | (simp [isCell, setAll, Value.cells]; done))
      case c359 => rfl
      case c360 => omega
      rintro v L' ⟨⟨a7, c7, rfl⟩, rfl⟩
      refine G.q (Quiet.assign rfl) rfl (G.nil (G.blk_n (G.then_n (G.region (G.q (Quiet.move rfl) rfl ?_)))))
      refine G.q (Quiet.add rfl rfl (by omega)) rfl ?_
      refine G.q (Quiet.assign rfl) rfl (G.nil (G.then_n ?_))
      refine G.slCast (T := 3) (sz := 1) (m' := (out ++ [s.Λ.zxs.getD i 0]).length) (xs' := ints (out ++ [s.Λ.zxs.getD i 0])) (by (repeat' constructor)) (by simp) (by simp [ints, Value.cells]) ?_
      exact G.roundK ((i + 1, .slice a7 (out.length + 1) c7, out ++ [s.Λ.zxs.getD i 0])) (⟨by dsimp only; omega, ⟨a7, c7, by simp⟩, by dsimp only; rw [want_step (by omega), if_pos (.inr h113)] at ho; rw [List.append_assoc]; exact ho, by dsimp only; rw [List.length_append, List.length_singleton]; omega⟩) (by dsimp only; omega) ⟨rfl, rfl, rfl, rfl, rfl, trivial⟩ (by (repeat' constructor)) (by ((repeat (apply Have.cons; (repeat (first | exact Pick.here | apply Pick.there)))); apply Have.base; repeat' constructor))
     ·refine G.skip (G.blk_n (G.then_n (G.region (G.q (Quiet.move rfl) rfl ?_))))
      refine G.q (Quiet.add rfl rfl (by omega)) rfl ?_
      refine G.q (Quiet.assign rfl) rfl (G.nil (G.then_n ?_))
      exact G.roundK ((i + 1, .slice aw out.length cw, out)) (⟨by dsimp only; omega, ⟨aw, cw, rfl⟩, by dsimp only; rw [want_step (by omega), if_neg (by rintro (g | g); omega; exact g h113)] at ho; exact ho, by dsimp only; omega⟩) (by dsimp only; omega) ⟨rfl, rfl, rfl, rfl, rfl, trivial⟩ (by (repeat' constructor)) (by ((repeat (apply Have.cons; (repeat (first | exact Pick.here | apply Pick.there)))); apply Have.base; repeat' constructor))
   ·refine D.kDF (t := 75) rfl h16_76 ?_
    refine D.gs (t := 76) rfl rfl rfl rfl (by kernel_rfl) ?_
    refine D.gs (t := 76) rfl rfl rfl rfl (by kernel_rfl) ?_
    refine D.gs (t := 76) rfl rfl rfl rfl (by kernel_rfl) ?_
    refine D.gs (t := 76) rfl rfl rfl rfl (by kernel_rfl) ?_
    refine D.gs (t := 76) rfl rfl rfl rfl (by kernel_rfl) ?_
    refine D.gs (t := 76) rfl rfl rfl rfl (by kernel_rfl) ?_
    refine D.gs (t := 76) rfl rfl rfl rfl (by kernel_rfl) ?_
    refine D.gs (t := 76) rfl rfl rfl rfl (by kernel_rfl) ?_
    refine D.gs (t := 76) rfl rfl rfl rfl (by kernel_rfl) ?_
    refine D.gs (t := 76) rfl rfl rfl rfl (by kernel_rfl) ?_
    refine D.qw [14, 15, 16, 17, 18, 19, 20] rfl (by kernel_rfl) (Quiet.pickF rfl rfl) ?_
    refine D.qw [15, 16, 17, 18, 19, 20] rfl (by kernel_rfl) (Quiet.move rfl) ?_
    refine D.gqw [17, 18, 19, 20] (t := 88) rfl rfl rfl (by kernel_rfl) (Quiet.move rfl) ?_
    refine D.gqw [17, 18, 19, 20] (t := 88) rfl rfl rfl (by kernel_rfl) (Quiet.move rfl) ?_
    refine D.gqw [18, 19, 20] (t := 88) rfl rfl rfl (by kernel_rfl) (Quiet.indexAddr rfl rfl el_31 (by omega)) ?_
    refine D.gqw [19, 20] (t := 88) rfl rfl rfl (by kernel_rfl) (Quiet.loadEl (p := intR (.slice (some ⟨bu, 0, none⟩) s.Λ.zxs.length cu) s.Λ.zxs) (i := (i) * 1) (v := vint (s.Λ.zxs.getD (i) 0)) rfl ag_3 (by (repeat' constructor)) (fun h hp => slR_rd hp) (ints_at (by omega))) ?_
    refine D.gqw [20] (t := 88) rfl rfl rfl (by kernel_rfl) (Quiet.as (v' := .bool false) (by exact congrArg Value.bool (decide_eq_false (by omega))) (Quiet.int rfl rfl rfl)) ?_
    refine D.qw [] rfl (by kernel_rfl) (Quiet.pickF rfl rfl) ?_
    refine D.ph (Phases.fin (G.then_n (G.condF rfl (G.skip (G.then_n (G.seq ?_))))))
    refine G.draw [] [[0, 1, 2, 3, 4, 5, 6, 7, 8, 9, 10, 11, 12, 13, 14, 15, 16, 17, 18]] mixed (by kernel_rfl) ?_
    refine Phases.go [] (by (repeat' constructor)) ?_
    refine D.qw [1, 4, 5, 6, 7, 8, 9, 10, 11, 12, 13, 14, 15, 16, 17, 18] rfl (by kernel_rfl) (Quiet.move rfl) ?_
    refine D.qw [4, 5, 6, 7, 8, 9, 10, 11, 12, 13, 14, 15, 16, 17, 18] rfl (by kernel_rfl) (Quiet.add rfl rfl (by omega)) ?_
    refine D.qw [3, 4, 5, 6, 7, 8, 9, 10, 11, 12, 13, 14, 15, 16, 17, 18] rfl (by kernel_rfl) (Quiet.move rfl) ?_
    refine D.qw [4, 5, 6, 7, 8, 9, 10, 11, 12, 13, 14, 15, 16, 17, 18] rfl (by kernel_rfl) (Quiet.slen rfl Tryz.underlying31 rfl) ?_
    refine D.qw [5, 6, 7, 8, 9, 10, 11, 12, 13, 14, 15, 16, 17, 18] rfl (by kernel_rfl) (Quiet.int rfl rfl rfl) ?_
    refine D.qw [6, 7, 8, 9, 10, 11, 12, 13, 14, 15, 16, 17, 18] rfl (by kernel_rfl) (Quiet.move rfl) ?_
    refine D.dec (t := 100) rfl (fun h18_100 => ?_) (fun h18_100 => ?_)
    ·refine D.kDT (t := 99) rfl h18_100 ?_
     refine D.gs (t := 100) rfl rfl rfl rfl (by kernel_rfl) ?_
     refine D.gs (t := 100) rfl rfl rfl rfl (by kernel_rfl) ?_
     refine D.gs (t := 100) rfl rfl rfl rfl (by kernel_rfl) ?_
     refine D.gs (t := 100) rfl rfl rfl rfl (by kernel_rfl) ?_
     refine D.gs (t := 100) rfl rfl rfl rfl (by kernel_rfl) ?_
     refine D.gs (t := 100) rfl rfl rfl rfl (by kernel_rfl) ?_
     refine D.gs (t := 100) rfl rfl rfl rfl (by kernel_rfl) ?_
     refine D.gs (t := 100) rfl rfl rfl rfl (by kernel_rfl) ?_
     refine D.gs (t := 100) rfl rfl rfl rfl (by kernel_rfl) ?_
     refine D.gs (t := 100) rfl rfl rfl rfl (by kernel_rfl) ?_
     refine D.gs (t := 100) rfl rfl rfl rfl (by kernel_rfl) ?_
     refine D.gs (t := 100) rfl rfl rfl rfl (by kernel_rfl) ?_
     refine D.qw [] rfl (by kernel_rfl) (Quiet.pickT rfl rfl) ?_
     refine D.ph (Phases.fin (G.then_n (G.condT rfl (G.region (G.q (Quiet.move rfl) rfl (G.q (Quiet.move rfl) rfl (G.q (Quiet.move rfl) rfl ?_)))))))
     refine G.q (Quiet.indexAddr rfl rfl el_31 (by omega)) rfl ?_
     refine G.q (Quiet.loadEl (p := intR (.slice (some ⟨bu, 0, none⟩) s.Λ.zxs.length cu) s.Λ.zxs) (i := (i) * 1) (v := vint (s.Λ.zxs.getD (i) 0)) rfl ag_3 (by (repeat' constructor)) (fun h hp => slR_rd hp) (ints_at (by omega))) rfl ?_
     refine G.op (OpSpec.buildSlice1 (vs := [_]) el_31 ze_3 rfl rfl rfl rfl rfl (by decide)) (by (repeat' constructor)) rfl ?nx384
     rintro v L' ⟨b7, rfl, rfl⟩
     refine G.op (OpSpec.append1 rfl rfl rfl el_31 ze_3 rfl rfl ?c386 ?c387 (Nat.le_refl _) ?c388 (by decide)) (by (repeat' constructor)) rfl ?nx389
     case c386 => (first | (simp [isCell]; done) | (simp [isCell, setAll, Value.cells]; done))
     case c387 => rfl
     case c388 => omega
     rintro v L' ⟨⟨a7, c7, rfl⟩, rfl⟩
     refine G.q (Quiet.assign rfl) rfl (G.nil (G.blk_n (G.then_n (G.region (G.q (Quiet.move rfl) rfl ?_)))))
     refine G.q (Quiet.add rfl rfl (by omega)) rfl ?_
     refine G.q (Quiet.assign rfl) rfl (G.nil (G.then_n ?_))
     refine G.slCast (T := 3) (sz := 1) (m' := (out ++ [s.Λ.zxs.getD i 0]).length) (xs' := ints (out ++ [s.Λ.zxs.getD i 0])) (by (repeat' constructor)) (by simp) (by simp [ints, Value.cells]) ?_
     exact G.roundK ((i + 1, .slice a7 (out.length + 1) c7, out ++ [s.Λ.zxs.getD i 0])) (⟨by dsimp only; omega, ⟨a7, c7, by simp⟩, by dsimp only; rw [want_step (by omega), if_pos (.inl (by omega))] at ho; rw [List.append_assoc]; exact ho, by dsimp only; rw [List.length_append, List.length_singleton]; omega⟩) (by dsimp only; omega) ⟨rfl, rfl, rfl, rfl, rfl, trivial⟩ (by (repeat' constructor)) (by ((repeat (apply Have.cons; (repeat (first | exact Pick.here | apply Pick.there)))); apply Have.base; repeat' constructor))
    ·refine D.kDF (t := 99) rfl h18_100 ?_
     refine D.gqw [9, 10, 11, 17, 18] (t := 100) rfl rfl rfl (by kernel_rfl) (Quiet.move rfl) ?_
     refine D.gqw [8, 9, 10, 11, 17, 18] (t := 100) rfl rfl rfl (by kernel_rfl) (Quiet.move rfl) ?_
     refine D.gqw [9, 10, 11, 17, 18] (t := 100) rfl rfl rfl (by kernel_rfl) (Quiet.add rfl rfl (by omega)) ?_
     refine D.gqw [10, 11, 17, 18] (t := 100) rfl rfl rfl (by kernel_rfl) (Quiet.indexAddr rfl rfl el_31 (by omega)) ?_
     refine D.gqw [11, 17, 18] (t := 100) rfl rfl rfl (by kernel_rfl) (Quiet.loadEl (p := intR (.slice (some ⟨bu, 0, none⟩) s.Λ.zxs.length cu) s.Λ.zxs) (i := (i + 1) * 1) (v := vint (s.Λ.zxs.getD (i + 1) 0)) rfl ag_3 (by (repeat' constructor)) (fun h hp => slR_rd hp) (ints_at (by omega))) ?_
     refine D.gqw [17, 18] (t := 100) rfl rfl rfl (by kernel_rfl) (Quiet.as (v' := vint (s.Λ.zxs.getD (i + 1) 0 / 4294967296)) (by exact shr32 _) (Quiet.shr rfl rfl (by first | decide | omega))) ?_
     refine D.gqw [14, 15, 16, 17, 18] (t := 100) rfl rfl rfl (by kernel_rfl) (Quiet.move rfl) ?_
     refine D.gqw [14, 15, 16, 17, 18] (t := 100) rfl rfl rfl (by kernel_rfl) (Quiet.move rfl) ?_
     refine D.gqw [15, 16, 17, 18] (t := 100) rfl rfl rfl (by kernel_rfl) (Quiet.indexAddr rfl rfl el_31 (by omega)) ?_
     refine D.gqw [16, 17, 18] (t := 100) rfl rfl rfl (by kernel_rfl) (Quiet.loadEl (p := intR (.slice (some ⟨bu, 0, none⟩) s.Λ.zxs.length cu) s.Λ.zxs) (i := (i) * 1) (v := vint (s.Λ.zxs.getD (i) 0)) rfl ag_3 (by (repeat' constructor)) (fun h hp => slR_rd hp) (ints_at (by omega))) ?_
     refine D.gqw [17, 18] (t := 100) rfl rfl rfl (by kernel_rfl) (Quiet.as (v' := vint (s.Λ.zxs.getD i 0 / 4294967296)) (by exact shr32 _) (Quiet.shr rfl rfl (by first | decide | omega))) ?_
     refine D.gqw [18] (t := 100) rfl rfl rfl (by kernel_rfl) (Quiet.int rfl rfl rfl) ?_
     refine D.qw [] rfl (by kernel_rfl) (Quiet.pickF rfl rfl) ?_
     refine D.ph (Phases.fin (G.then_n ?_))
     refine G.condN rfl (fun h113 => ?_) (fun h113 => ?_)
     ·refine G.region (G.q (Quiet.move rfl) rfl (G.q (Quiet.move rfl) rfl (G.q (Quiet.move rfl) rfl ?_)))
      refine G.q (Quiet.indexAddr rfl rfl el_31 (by omega)) rfl ?_
      refine G.q (Quiet.loadEl (p := intR (.slice (some ⟨bu, 0, none⟩) s.Λ.zxs.length cu) s.Λ.zxs) (i := (i) * 1) (v := vint (s.Λ.zxs.getD (i) 0)) rfl ag_3 (by (repeat' constructor)) (fun h hp => slR_rd hp) (ints_at (by omega))) rfl ?_
      refine G.op (OpSpec.buildSlice1 (vs := [_]) el_31 ze_3 rfl rfl rfl rfl rfl (by decide)) (by (repeat' constructor)) rfl ?nx410
      rintro v L' ⟨b7, rfl, rfl⟩
      refine G.op (OpSpec.append1 rfl rfl rfl el_31 ze_3 rfl rfl ?c412 ?c413 (Nat.le_refl _) ?c414 (by decide)) (by (repeat' constructor)) rfl ?nx415
      case c412 => (first | (simp [isCell]; done) | (simp [isCell, setAll, Value.cells]; done))
      case c413 => rfl
      case c414 => omega
      rintro v L' ⟨⟨a7, c7, rfl⟩, rfl⟩
      refine G.q (Quiet.assign rfl) rfl (G.nil (G.blk_n (G.then_n (G.region (G.q (Quiet.move rfl) rfl ?_)))))
      refine G.q (Quiet.add rfl rfl (by omega)) rfl ?_
      refine G.q (Quiet.assign rfl) rfl (G.nil (G.then_n ?_))
      refine G.slCast (T := 3) (sz := 1) (m' := (out ++ [s.Λ.zxs.getD i 0]).length) (xs' := ints (out ++ [s.Λ.zxs.getD i 0])) (by (repeat' constructor)) (by simp) (by simp [ints, Value.cells]) ?_
      exact G.roundK ((i + 1, .slice a7 (out.length + 1) c7, out ++ [s.Λ.zxs.getD i 0])) (⟨by dsimp only; omega, ⟨a7, c7, by simp⟩, by dsimp only; rw [want_step (by omega), if_pos (.inr h113)] at ho; rw [List.append_assoc]; exact ho, by dsimp only; rw [List.length_append, List.length_singleton]; omega⟩) (by dsimp only; omega) ⟨rfl, rfl, rfl, rfl, rfl, trivial⟩ (by (repeat' constructor)) (by ((repeat (apply Have.cons; (repeat (first | exact Pick.here | apply Pick.there)))); apply Have.base; repeat' constructor))
     ·refine G.skip (G.blk_n (G.then_n (G.region (G.q (Quiet.move rfl) rfl ?_))))
      refine G.q (Quiet.add rfl rfl (by omega)) rfl ?_
      refine G.q (Quiet.assign rfl) rfl (G.nil (G.then_n ?_))
      exact G.roundK ((i + 1, .slice aw out.length cw, out)) (⟨by dsimp only; omega, ⟨aw, cw, rfl⟩, by dsimp only; rw [want_step (by omega), if_neg (by rintro (g | g); omega; exact g h113)] at ho; exact ho, by dsimp only; omega⟩) (by dsimp only; omega) ⟨rfl, rfl, rfl, rfl, rfl, trivial⟩ (by (repeat' constructor)) (by ((repeat (apply Have.cons; (repeat (first | exact Pick.here | apply Pick.there)))); apply Have.base; repeat' constructor))
  ·rw [List.drop_eq_nil_of_le (by omega)] at ho
   have hmw : marksZ s.Λ = out := by rw [hwant, ← ho]; exact List.append_nil _
   refine G.exit (G.then_e (G.then_e (G.blk_e (G.then_n (G.seq (G.region ?_))))))
   rcases Nat.eq_zero_or_pos s.Λ.zxs.length with hz0 | hz0
   ·refine G.q (Quiet.move rfl) rfl ?_
    refine G.op (OpSpec.call Tryz.func15 rfl rfl (vs := [_]) rfl (lmarks_spec g x s.Λ hW.w.i)) (by (repeat' constructor)) rfl ?nx422
    rintro v L' ⟨am, cm, rfl, rfl⟩
    refine G.q (Quiet.move rfl) rfl ?_
    refine G.op (OpSpec.call Tryz.func14 rfl rfl (vs := [_, _]) rfl (numbers9_spec _ _ (marksZ s.Λ) out (intR (.slice am (marksZ s.Λ).length cm) (marksZ s.Λ)) (intR (.slice aw out.length cw) out) (fun h hp => slR_rd hp) (fun h hp => slR_rd hp) (by rw [hmw]; omega) (by omega))) (by (repeat' constructor)) rfl ?nx425
    rintro v L' ⟨rfl, rfl⟩; rw [decide_eq_true hmw]
    refine G.q (Quiet.assign rfl) rfl (G.nil (G.then_n (G.seq (G.region (G.q (Quiet.move rfl) rfl (G.q (Quiet.max2 rfl rfl) rfl (G.q (Quiet.assign rfl) rfl (G.nil (G.then_n (G.seq (G.region (G.q (Quiet.move rfl) rfl (G.q (Quiet.move rfl) rfl ?_)))))))))))))
    refine G.op (OpSpec.call Tryz.func16 rfl rfl (vs := [_, _]) rfl (lentries_spec g x s.Λ (max n1 0) hW.w.i)) (by (repeat' constructor)) rfl ?nx430
    rintro v L' (⟨h, -, -⟩ | ⟨-, es2, hes2, hek, ab, cb, rfl, rfl⟩); · omega
    have hfz := behind_zxs hW.w hes2
    have hfl := congrArg List.length hfz
    rw [List.length_map] at hfl
    have hft := List.length_filter_le (fun y => decide (y > max n1 0)) s.Λ.zxs
    refine G.q (Quiet.move rfl) rfl (G.q (Quiet.extract rfl rfl) rfl (G.q (Quiet.extract rfl rfl) rfl (G.q (Quiet.assign rfl) rfl (G.q (Quiet.assign rfl) rfl (G.nil (G.then_n (G.seq (G.region (G.q (Quiet.assign rfl) rfl (G.nil (G.then_n (G.seq (G.seq (G.region (G.q (Quiet.assign rfl) rfl (G.nil (G.then_n (G.block ?_))))))))))))))))))
    refine G.loopK (ι := Nat × Nat) (fun q E => (18, vint q.1) :: (17, vint q.2) :: E) (fun q => []) (fun q => q.1 ≤ s.Λ.zxs.length ∧ q.2 = ((s.Λ.zxs.take q.1).filter fun y => decide (y > max n1 0)).length) (fun q => s.Λ.zxs.length - q.1) (0, 0) (ts := [1, 8, 10, 14, 15, 16]) (.cons rfl (.cons rfl (.cons rfl (.cons rfl (.cons rfl (.cons rfl (.nil))))))) (⟨Nat.zero_le _, rfl⟩) ⟨rfl, rfl, rfl, rfl, rfl, rfl, rfl, rfl, trivial⟩ (by (repeat' constructor)) ?_
    rintro ⟨i, n⟩ ⟨hi, hn⟩
    dsimp only
    dsimp only at hi hn
    refine G.seq (G.seq (G.region (G.q (Quiet.move rfl) rfl (G.q (Quiet.move rfl) rfl (G.q (Quiet.slen rfl Tryz.underlying31 rfl) rfl (G.q (Quiet.int rfl rfl rfl) rfl (G.nil (G.then_n ?_))))))))
    refine G.condD rfl (fun h136 => ?_) (fun h136 => ?_)
    ·have hiz : i < s.Λ.zxs.length := by omega
     have hft2 := filter_take (P := fun y => decide (y > max n1 0)) hiz
     obtain ⟨bu, rfl⟩ : ∃ b : Nat, au = some ⟨b, 0, none⟩ := by exfalso; omega
     refine G.skip (G.then_n (G.seq (G.block (G.seq (G.region (G.q (Quiet.move rfl) rfl (G.q (Quiet.move rfl) rfl ?_)))))))
     refine G.q (Quiet.indexAddr rfl rfl el_31 (by omega)) rfl ?_
     refine G.q (Quiet.loadEl (p := intR (.slice (some ⟨bu, 0, none⟩) s.Λ.zxs.length cu) s.Λ.zxs) (i := (i) * 1) (v := vint (s.Λ.zxs.getD (i) 0)) rfl ag_3 (by (repeat' constructor)) (fun h hp => slR_rd hp) (ints_at (by omega))) rfl ?_
     refine G.q (Quiet.move rfl) rfl (G.q (Quiet.int rfl rfl rfl) rfl (G.nil (G.then_n ?_)))
     refine G.condD rfl (fun h144 => ?_) (fun h144 => ?_)
     ·obtain ⟨hn1, hn2⟩ := filter_at (P := fun y => decide (y > max n1 0)) hiz (decide_eq_true h144)
      rw [← hfl] at hn1
      rw [if_pos (decide_eq_true h144)] at hft2
      rw [← hfz] at hn2
      rw [← hn] at hn1 hn2
      refine G.slShape (v := .slice ab _ cb) (xs := es2.flatMap enC) (by (repeat' constructor)) (by omega) fun bb cq e0 mq _ => ?_
      simp only [Value.slice.injEq, true_and] at e0
      obtain ⟨rfl, rfl⟩ := e0
      have hnz : es2[n].zx = s.Λ.zxs.getD i 0 := by rw [← hn2]; simp [List.getD_eq_getElem?_getD, hn1]
      refine G.seq (G.seq ?_)
      refine G.draw [] [[0, 1, 2, 3, 4, 5, 6, 7, 8, 9, 10, 11, 12, 13, 14, 15]] mixed (by kernel_rfl) ?_
      refine Phases.go [] (by (repeat' constructor)) ?_
      refine D.qw [3, 4, 5, 6, 7, 8, 9, 10, 11, 12, 13, 14, 15] rfl (by kernel_rfl) (Quiet.move rfl) ?_
      refine D.qw [2, 3, 4, 5, 6, 7, 8, 9, 10, 11, 12, 13, 14, 15] rfl (by kernel_rfl) (Quiet.move rfl) ?_
      refine D.qw [3, 4, 5, 6, 7, 8, 9, 10, 11, 12, 13, 14, 15] rfl (by kernel_rfl) (Quiet.slen rfl Tryz.underlying22 rfl) ?_
      refine D.qw [4, 5, 6, 7, 8, 9, 10, 11, 12, 13, 14, 15] rfl (by kernel_rfl) (Quiet.as (v' := .bool false) (by exact congrArg Value.bool (decide_eq_false (by omega))) (Quiet.int rfl rfl rfl)) ?_
      refine D.qw [5, 6, 7, 8, 9, 10, 11, 12, 13, 14, 15] rfl (by kernel_rfl) (Quiet.move rfl) ?_
      refine D.gqw [7, 8, 9, 14, 15] (t := 149) rfl rfl rfl (by kernel_rfl) (Quiet.move rfl) ?_
      refine D.gqw [7, 8, 9, 14, 15] (t := 149) rfl rfl rfl (by kernel_rfl) (Quiet.move rfl) ?_
      refine D.gqw [8, 9, 14, 15] (t := 149) rfl rfl rfl (by kernel_rfl) (Quiet.indexAddr rfl rfl el_22 (by omega)) ?_
      refine D.gqw [9, 14, 15] (t := 149) rfl rfl rfl (by kernel_rfl) (Quiet.fieldAddr rfl fo_38_0) ?_
      refine D.gqw [14, 15] (t := 149) rfl rfl rfl (by kernel_rfl) (Quiet.loadRd (sz := 11) (j := n * 11 + 0) (p := slR 38 11 (.slice (some ⟨bb, 0, none⟩) es2.length cb) es2.length (es2.flatMap enC)) (v := vint es2[n].zx) rfl ag_3 (by (repeat' constructor)) (fun h hp => slR_rd hp) (by simp) ((en_cell (k := 0) hn1 (by decide)).trans rfl)) ?_
      refine D.gqw [12, 13, 14, 15] (t := 149) rfl rfl rfl (by kernel_rfl) (Quiet.move rfl) ?_
      refine D.gqw [12, 13, 14, 15] (t := 149) rfl rfl rfl (by kernel_rfl) (Quiet.move rfl) ?_
      refine D.gqw [13, 14, 15] (t := 149) rfl rfl rfl (by kernel_rfl) (Quiet.indexAddr rfl rfl el_31 (by omega)) ?_
      refine D.gqw [14, 15] (t := 149) rfl rfl rfl (by kernel_rfl) (Quiet.loadEl (p := intR (.slice (some ⟨bu, 0, none⟩) s.Λ.zxs.length cu) s.Λ.zxs) (i := (i) * 1) (v := vint (s.Λ.zxs.getD (i) 0)) rfl ag_3 (by (repeat' constructor)) (fun h hp => slR_rd hp) (ints_at (by omega))) ?_
      refine D.gqw [15] (t := 149) rfl rfl rfl (by kernel_rfl) (Quiet.as (v' := .bool false) (by rw [hnz]; simp) (Quiet.int rfl rfl rfl)) ?_
      refine D.qw [] rfl (by kernel_rfl) (Quiet.pickF rfl rfl) ?_
      refine D.ph (Phases.fin (G.then_n (G.condF rfl (G.skip (G.then_n (G.region (G.q (Quiet.move rfl) rfl ?_)))))))
      refine G.q (Quiet.add rfl rfl (by omega)) rfl ?_
      refine G.q (Quiet.assign rfl) rfl (G.nil (G.blk_n (G.then_n (G.region (G.q (Quiet.move rfl) rfl ?_)))))
      refine G.q (Quiet.add rfl rfl (by omega)) rfl ?_
      refine G.q (Quiet.assign rfl) rfl (G.nil (G.then_n ?_))
      exact G.roundK ((i + 1, n + 1)) (⟨by dsimp only; omega, by dsimp only; rw [hft2, hn]⟩) (by dsimp only; omega) ⟨rfl, rfl, rfl, rfl, rfl, rfl, rfl, rfl, trivial⟩ (by (repeat' constructor)) (by ((repeat (apply Have.cons; (repeat (first | exact Pick.here | apply Pick.there)))); apply Have.base; repeat' constructor))
     ·rw [if_neg (by simpa using h144)] at hft2
      refine G.skip (G.blk_n (G.then_n (G.region (G.q (Quiet.move rfl) rfl ?_))))
      refine G.q (Quiet.add rfl rfl (by omega)) rfl ?_
      refine G.q (Quiet.assign rfl) rfl (G.nil (G.then_n ?_))
      exact G.roundK ((i + 1, n)) (⟨by dsimp only; omega, by dsimp only; rw [hft2, hn]; rfl⟩) (by dsimp only; omega) ⟨rfl, rfl, rfl, rfl, rfl, rfl, rfl, rfl, trivial⟩ (by (repeat' constructor)) (by ((repeat (apply Have.cons; (repeat (first | exact Pick.here | apply Pick.there)))); apply Have.base; repeat' constructor))
    ·have hie : i = s.Λ.zxs.length := by omega
     have hne : n = es2.length := by rw [hn, hie, List.take_length, ← hfl]
     refine G.exit (G.then_e (G.then_e (G.blk_e (G.then_n (G.seq ?_)))))
     refine G.draw [] [[0, 1, 2, 3, 4, 5, 6, 7, 8, 9, 10, 11, 12, 13, 14, 15, 16, 17, 18, 19, 20, 21, 22, 23, 24, 25, 26, 27]] mixed (by kernel_rfl) ?_
     refine Phases.go [lgR g x s.Λ, intR _ s.Λ.zxs] (by (repeat' constructor)) ?_
     refine D.qw [1, 2, 3, 4, 5, 6, 7, 8, 9, 10, 11, 12, 13, 14, 15, 16, 17, 18, 19, 20, 21, 22, 23, 24, 25, 26, 27] rfl (by kernel_rfl) (Quiet.move rfl) ?_
     refine D.qw [2, 3, 4, 5, 6, 7, 8, 9, 10, 11, 12, 13, 14, 15, 16, 17, 18, 19, 20, 21, 22, 23, 24, 25, 26, 27] rfl (by kernel_rfl) (Quiet.move rfl) ?_
     refine D.gqw [3, 4, 5, 6, 7, 8, 9, 10, 11, 12, 13, 14, 15, 16, 17, 18, 19, 20, 21, 22, 23, 24, 25, 26, 27] (t := 164) rfl rfl rfl (by kernel_rfl) (Quiet.move rfl) ?_
     refine D.gqw [4, 5, 6, 7, 8, 9, 10, 11, 12, 13, 14, 15, 16, 17, 18, 19, 20, 21, 22, 23, 24, 25, 26, 27] (t := 164) rfl rfl rfl (by kernel_rfl) (Quiet.as (v' := .bool true) (by rfl) (Quiet.int rfl rfl rfl)) ?_
     refine D.qw [5, 6, 7, 8, 9, 10, 11, 12, 13, 14, 15, 16, 17, 18, 19, 20, 21, 22, 23, 24, 25, 26, 27] rfl (by kernel_rfl) (Quiet.pickT rfl rfl) ?_
     refine D.qw [6, 7, 8, 9, 10, 11, 12, 13, 14, 15, 16, 17, 18, 19, 20, 21, 22, 23, 24, 25, 26, 27] rfl (by kernel_rfl) (Quiet.move rfl) ?_
     refine D.gqw [9, 10, 11, 12, 13, 14, 15, 16, 17, 18, 19, 20, 21, 22, 23, 24, 25, 26, 27] (t := 168) rfl rfl rfl (by kernel_rfl) (Quiet.move rfl) ?_
     refine D.gqw [8, 9, 10, 11, 12, 13, 14, 15, 16, 17, 18, 19, 20, 21, 22, 23, 24, 25, 26, 27] (t := 168) rfl rfl rfl (by kernel_rfl) (Quiet.move rfl) ?_
     refine D.gqw [9, 10, 11, 12, 13, 14, 15, 16, 17, 18, 19, 20, 21, 22, 23, 24, 25, 26, 27] (t := 168) rfl rfl rfl (by kernel_rfl) (Quiet.slen rfl Tryz.underlying22 rfl) ?_
     refine D.gqw [10, 11, 12, 13, 14, 15, 16, 17, 18, 19, 20, 21, 22, 23, 24, 25, 26, 27] (t := 168) rfl rfl rfl (by kernel_rfl) (Quiet.as (v' := .bool true) (by exact congrArg Value.bool (decide_eq_true (by omega))) (Quiet.int rfl rfl rfl)) ?_
     refine D.qw [11, 12, 13, 14, 15, 16, 17, 18, 19, 20, 21, 22, 23, 24, 25, 26, 27] rfl (by kernel_rfl) (Quiet.pickT rfl rfl) ?_
     refine D.qw [12, 13, 14, 15, 16, 17, 18, 19, 20, 21, 22, 23, 24, 25, 26, 27] rfl (by kernel_rfl) (Quiet.move rfl) ?_
     refine D.gqw [13, 14, 15, 16, 17, 18, 19, 20, 21, 22, 23, 24, 25, 26, 27] (t := 174) rfl rfl rfl (by kernel_rfl) (Quiet.move rfl) ?_
     refine D.gqw [14, 15, 16, 17, 18, 19, 20, 21, 22, 23, 24, 25, 26, 27] (t := 174) rfl rfl rfl (by kernel_rfl) (Quiet.slen rfl Tryz.underlying31 rfl) ?_
     refine D.gqw [15, 16, 17, 18, 19, 20, 21, 22, 23, 24, 25, 26, 27] (t := 174) rfl rfl rfl (by kernel_rfl) (Quiet.as (v' := .bool true) (by exact congrArg Value.bool (decide_eq_true (by omega))) (Quiet.int rfl rfl rfl)) ?_
     refine D.gqw [16, 17, 18, 19, 20, 21, 22, 23, 24, 25, 26, 27] (t := 174) rfl rfl rfl (by kernel_rfl) (Quiet.move rfl) ?_
     refine D.gs (t := 178) rfl rfl rfl rfl (by kernel_rfl) ?_
     refine D.gs (t := 178) rfl rfl rfl rfl (by kernel_rfl) ?_
     refine D.gs (t := 178) rfl rfl rfl rfl (by kernel_rfl) ?_
     refine D.gs (t := 178) rfl rfl rfl rfl (by kernel_rfl) ?_
     refine D.gs (t := 178) rfl rfl rfl rfl (by kernel_rfl) ?_
     refine D.gs (t := 178) rfl rfl rfl rfl (by kernel_rfl) ?_
     refine D.gs (t := 178) rfl rfl rfl rfl (by kernel_rfl) ?_
     refine D.gs (t := 178) rfl rfl rfl rfl (by kernel_rfl) ?_
     refine D.gs (t := 178) rfl rfl rfl rfl (by kernel_rfl) ?_
     refine D.gqw [26, 27] (t := 174) rfl rfl rfl (by kernel_rfl) (Quiet.pickT rfl rfl) ?_
     refine D.qw [27] rfl (by kernel_rfl) (Quiet.pickT rfl rfl) ?_
     refine D.qw [] rfl (by kernel_rfl) (Quiet.assign rfl) ?_
     refine D.ph (Phases.fin (G.then_n (G.ret ?_)))
     exact G.done (l := [.tmp 4]) rfl rfl ⟨rfl, rfl⟩ (by (repeat' constructor)) (by (repeat' constructor))
   ·refine G.slShape (v := .slice au _ cu) (xs := ints s.Λ.zxs) (by (repeat' constructor)) (by omega) fun bu cq e0 mq _ => ?_
    simp only [Value.slice.injEq, true_and] at e0
    obtain ⟨rfl, rfl⟩ := e0
    refine G.q (Quiet.move rfl) rfl ?_
    refine G.op (OpSpec.call Tryz.func15 rfl rfl (vs := [_]) rfl (lmarks_spec g x s.Λ hW.w.i)) (by (repeat' constructor)) rfl ?nx478
    rintro v L' ⟨am, cm, rfl, rfl⟩
    refine G.q (Quiet.move rfl) rfl ?_
    refine G.op (OpSpec.call Tryz.func14 rfl rfl (vs := [_, _]) rfl (numbers9_spec _ _ (marksZ s.Λ) out (intR (.slice am (marksZ s.Λ).length cm) (marksZ s.Λ)) (intR (.slice aw out.length cw) out) (fun h hp => slR_rd hp) (fun h hp => slR_rd hp) (by rw [hmw]; omega) (by omega))) (by (repeat' constructor)) rfl ?nx481
    rintro v L' ⟨rfl, rfl⟩; rw [decide_eq_true hmw]
    refine G.q (Quiet.assign rfl) rfl (G.nil (G.then_n (G.seq (G.region (G.q (Quiet.move rfl) rfl (G.q (Quiet.max2 rfl rfl) rfl (G.q (Quiet.assign rfl) rfl (G.nil (G.then_n (G.seq (G.region (G.q (Quiet.move rfl) rfl (G.q (Quiet.move rfl) rfl ?_)))))))))))))
    refine G.op (OpSpec.call Tryz.func16 rfl rfl (vs := [_, _]) rfl (lentries_spec g x s.Λ (max n1 0) hW.w.i)) (by (repeat' constructor)) rfl ?nx486
    rintro v L' (⟨h, -, -⟩ | ⟨-, es2, hes2, hek, ab, cb, rfl, rfl⟩); · omega
    have hfz := behind_zxs hW.w hes2
    have hfl := congrArg List.length hfz
    rw [List.length_map] at hfl
    have hft := List.length_filter_le (fun y => decide (y > max n1 0)) s.Λ.zxs
    refine G.q (Quiet.move rfl) rfl (G.q (Quiet.extract rfl rfl) rfl (G.q (Quiet.extract rfl rfl) rfl (G.q (Quiet.assign rfl) rfl (G.q (Quiet.assign rfl) rfl (G.nil (G.then_n (G.seq (G.region (G.q (Quiet.assign rfl) rfl (G.nil (G.then_n (G.seq (G.seq (G.region (G.q (Quiet.assign rfl) rfl (G.nil (G.then_n (G.block ?_))))))))))))))))))
    refine G.loopK (ι := Nat × Nat) (fun q E => (18, vint q.1) :: (17, vint q.2) :: E) (fun q => []) (fun q => q.1 ≤ s.Λ.zxs.length ∧ q.2 = ((s.Λ.zxs.take q.1).filter fun y => decide (y > max n1 0)).length) (fun q => s.Λ.zxs.length - q.1) (0, 0) (ts := [1, 8, 10, 14, 15, 16]) (.cons rfl (.cons rfl (.cons rfl (.cons rfl (.cons rfl (.cons rfl (.nil))))))) (⟨Nat.zero_le _, rfl⟩) ⟨rfl, rfl, rfl, rfl, rfl, rfl, rfl, rfl, trivial⟩ (by (repeat' constructor)) ?_
    rintro ⟨i, n⟩ ⟨hi, hn⟩
    dsimp only
    dsimp only at hi hn
    refine G.seq (G.seq (G.region (G.q (Quiet.move rfl) rfl (G.q (Quiet.move rfl) rfl (G.q (Quiet.slen rfl Tryz.underlying31 rfl) rfl (G.q (Quiet.int rfl rfl rfl) rfl (G.nil (G.then_n ?_))))))))
    refine G.condD rfl (fun h136 => ?_) (fun h136 => ?_)
    ·have hiz : i < s.Λ.zxs.length := by omega
     have hft2 := filter_take (P := fun y => decide (y > max n1 0)) hiz
     refine G.skip (G.then_n (G.seq (G.block (G.seq (G.region (G.q (Quiet.move rfl) rfl (G.q (Quiet.move rfl) rfl ?_)))))))
     refine G.q (Quiet.indexAddr rfl rfl el_31 (by omega)) rfl ?_
     refine G.q (Quiet.loadEl (p := intR (.slice (some ⟨bu, 0, none⟩) s.Λ.zxs.length cu) s.Λ.zxs) (i := (i) * 1) (v := vint (s.Λ.zxs.getD (i) 0)) rfl ag_3 (by (repeat' constructor)) (fun h hp => slR_rd hp) (ints_at (by omega))) rfl ?_
     refine G.q (Quiet.move rfl) rfl (G.q (Quiet.int rfl rfl rfl) rfl (G.nil (G.then_n ?_)))
     refine G.condD rfl (fun h144 => ?_) (fun h144 => ?_)
     ·obtain ⟨hn1, hn2⟩ := filter_at (P := fun y => decide (y > max n1 0)) hiz (decide_eq_true h144)
      rw [← hfl] at hn1
      rw [if_pos (decide_eq_true h144)] at hft2
      rw [← hfz] at hn2
      rw [← hn] at hn1 hn2
      refine G.slShape (v := .slice ab _ cb) (xs := es2.flatMap enC) (by (repeat' constructor)) (by omega) fun bb cq e0 mq _ => ?_
      simp only [Value.slice.injEq, true_and] at e0
      obtain ⟨rfl, rfl⟩ := e0
      have hnz : es2[n].zx = s.Λ.zxs.getD i 0 := by rw [← hn2]; simp [List.getD_eq_getElem?_getD, hn1]
      refine G.seq (G.seq ?_)
      refine G.draw [] [[0, 1, 2, 3, 4, 5, 6, 7, 8, 9, 10, 11, 12, 13, 14, 15]] mixed (by kernel_rfl) ?_
      refine Phases.go [] (by (repeat' constructor)) ?_
      refine D.qw [3, 4, 5, 6, 7, 8, 9, 10, 11, 12, 13, 14, 15] rfl (by kernel_rfl) (Quiet.move rfl) ?_
      refine D.qw [2, 3, 4, 5, 6, 7, 8, 9, 10, 11, 12, 13, 14, 15] rfl (by kernel_rfl) (Quiet.move rfl) ?_
      refine D.qw [3, 4, 5, 6, 7, 8, 9, 10, 11, 12, 13, 14, 15] rfl (by kernel_rfl) (Quiet.slen rfl Tryz.underlying22 rfl) ?_
      refine D.qw [4, 5, 6, 7, 8, 9, 10, 11, 12, 13, 14, 15] rfl (by kernel_rfl) (Quiet.as (v' := .bool false) (by exact congrArg Value.bool (decide_eq_false (by omega))) (Quiet.int rfl rfl rfl)) ?_
      refine D.qw [5, 6, 7, 8, 9, 10, 11, 12, 13, 14, 15] rfl (by kernel_rfl) (Quiet.move rfl) ?_
      refine D.gqw [7, 8, 9, 14, 15] (t := 149) rfl rfl rfl (by kernel_rfl) (Quiet.move rfl) ?_
      refine D.gqw [7, 8, 9, 14, 15] (t := 149) rfl rfl rfl (by kernel_rfl) (Quiet.move rfl) ?_
      refine D.gqw [8, 9, 14, 15] (t := 149) rfl rfl rfl (by kernel_rfl) (Quiet.indexAddr rfl rfl el_22 (by omega)) ?_
      refine D.gqw [9, 14, 15] (t := 149) rfl rfl rfl (by kernel_rfl) (Quiet.fieldAddr rfl fo_38_0) ?_
      refine D.gqw [14, 15] (t := 149) rfl rfl rfl (by kernel_rfl) (Quiet.loadRd (sz := 11) (j := n * 11 + 0) (p := slR 38 11 (.slice (some ⟨bb, 0, none⟩) es2.length cb) es2.length (es2.flatMap enC)) (v := vint es2[n].zx) rfl ag_3 (by (repeat' constructor)) (fun h hp => slR_rd hp) (by simp) ((en_cell (k := 0) hn1 (by decide)).trans rfl)) ?_
      refine D.gqw [12, 13, 14, 15] (t := 149) rfl rfl rfl (by kernel_rfl) (Quiet.move rfl) ?_
      refine D.gqw [12, 13, 14, 15] (t := 149) rfl rfl rfl (by kernel_rfl) (Quiet.move rfl) ?_
      refine D.gqw [13, 14, 15] (t := 149) rfl rfl rfl (by kernel_rfl) (Quiet.indexAddr rfl rfl el_31 (by omega)) ?_
      refine D.gqw [14, 15] (t := 149) rfl rfl rfl (by kernel_rfl) (Quiet.loadEl (p := intR (.slice (some ⟨bu, 0, none⟩) s.Λ.zxs.length cu) s.Λ.zxs) (i := (i) * 1) (v := vint (s.Λ.zxs.getD (i) 0)) rfl ag_3 (by (repeat' constructor)) (fun h hp => slR_rd hp) (ints_at (by omega))) ?_
      refine D.gqw [15] (t := 149) rfl rfl rfl (by kernel_rfl) (Quiet.as (v' := .bool false) (by rw [hnz]; simp) (Quiet.int rfl rfl rfl)) ?_
      refine D.qw [] rfl (by kernel_rfl) (Quiet.pickF rfl rfl) ?_
      refine D.ph (Phases.fin (G.then_n (G.condF rfl (G.skip (G.then_n (G.region (G.q (Quiet.move rfl) rfl ?_)))))))
      refine G.q (Quiet.add rfl rfl (by omega)) rfl ?_
      refine G.q (Quiet.assign rfl) rfl (G.nil (G.blk_n (G.then_n (G.region (G.q (Quiet.move rfl) rfl ?_)))))
      refine G.q (Quiet.add rfl rfl (by omega)) rfl ?_
      refine G.q (Quiet.assign rfl) rfl (G.nil (G.then_n ?_))
      exact G.roundK ((i + 1, n + 1)) (⟨by dsimp only; omega, by dsimp only; rw [hft2, hn]⟩) (by dsimp only; omega) ⟨rfl, rfl, rfl, rfl, rfl, rfl, rfl, rfl, trivial⟩ (by (repeat' constructor)) (by ((repeat (apply Have.cons; (repeat (first | exact Pick.here | apply Pick.there)))); apply Have.base; repeat' constructor))
     ·rw [if_neg (by simpa using h144)] at hft2
      refine G.skip (G.blk_n (G.then_n (G.region (G.q (Quiet.move rfl) rfl ?_))))
      refine G.q (Quiet.add rfl rfl (by omega)) rfl ?_
      refine G.q (Quiet.assign rfl) rfl (G.nil (G.then_n ?_))
      exact G.roundK ((i + 1, n)) (⟨by dsimp only; omega, by dsimp only; rw [hft2, hn]; rfl⟩) (by dsimp only; omega) ⟨rfl, rfl, rfl, rfl, rfl, rfl, rfl, rfl, trivial⟩ (by (repeat' constructor)) (by ((repeat (apply Have.cons; (repeat (first | exact Pick.here | apply Pick.there)))); apply Have.base; repeat' constructor))
    ·have hie : i = s.Λ.zxs.length := by omega
     have hne : n = es2.length := by rw [hn, hie, List.take_length, ← hfl]
     refine G.exit (G.then_e (G.then_e (G.blk_e (G.then_n (G.seq ?_)))))
     refine G.draw [] [[0, 1, 2, 3, 4, 5, 6, 7, 8, 9, 10, 11, 12, 13, 14, 15, 16, 17, 18, 19, 20, 21, 22, 23, 24, 25, 26, 27]] mixed (by kernel_rfl) ?_
     refine Phases.go [lgR g x s.Λ, intR _ s.Λ.zxs] (by (repeat' constructor)) ?_
     refine D.qw [1, 2, 3, 4, 5, 6, 7, 8, 9, 10, 11, 12, 13, 14, 15, 16, 17, 18, 19, 20, 21, 22, 23, 24, 25, 26, 27] rfl (by kernel_rfl) (Quiet.move rfl) ?_
     refine D.qw [2, 3, 4, 5, 6, 7, 8, 9, 10, 11, 12, 13, 14, 15, 16, 17, 18, 19, 20, 21, 22, 23, 24, 25, 26, 27] rfl (by kernel_rfl) (Quiet.move rfl) ?_
     refine D.gqw [3, 4, 5, 6, 7, 8, 9, 10, 11, 12, 13, 14, 15, 16, 17, 18, 19, 20, 21, 22, 23, 24, 25, 26, 27] (t := 164) rfl rfl rfl (by kernel_rfl) (Quiet.move rfl) ?_
     refine D.gqw [4, 5, 6, 7, 8, 9, 10, 11, 12, 13, 14, 15, 16, 17, 18, 19, 20, 21, 22, 23, 24, 25, 26, 27] (t := 164) rfl rfl rfl (by kernel_rfl) (Quiet.as (v' := .bool true) (by rfl) (Quiet.int rfl rfl rfl)) ?_
     refine D.qw [5, 6, 7, 8, 9, 10, 11, 12, 13, 14, 15, 16, 17, 18, 19, 20, 21, 22, 23, 24, 25, 26, 27] rfl (by kernel_rfl) (Quiet.pickT rfl rfl) ?_
     refine D.qw [6, 7, 8, 9, 10, 11, 12, 13, 14, 15, 16, 17, 18, 19, 20, 21, 22, 23, 24, 25, 26, 27] rfl (by kernel_rfl) (Quiet.move rfl) ?_
     refine D.gqw [9, 10, 11, 12, 13, 14, 15, 16, 17, 18, 19, 20, 21, 22, 23, 24, 25, 26, 27] (t := 168) rfl rfl rfl (by kernel_rfl) (Quiet.move rfl) ?_
     refine D.gqw [8, 9, 10, 11, 12, 13, 14, 15, 16, 17, 18, 19, 20, 21, 22, 23, 24, 25, 26, 27] (t := 168) rfl rfl rfl (by kernel_rfl) (Quiet.move rfl) ?_
     refine D.gqw [9, 10, 11, 12, 13, 14, 15, 16, 17, 18, 19, 20, 21, 22, 23, 24, 25, 26, 27] (t := 168) rfl rfl rfl (by kernel_rfl) (Quiet.slen rfl Tryz.underlying22 rfl) ?_
     refine D.gqw [10, 11, 12, 13, 14, 15, 16, 17, 18, 19, 20, 21, 22, 23, 24, 25, 26, 27] (t := 168) rfl rfl rfl (by kernel_rfl) (Quiet.as (v' := .bool true) (by exact congrArg Value.bool (decide_eq_true (by omega))) (Quiet.int rfl rfl rfl)) ?_
     refine D.qw [11, 12, 13, 14, 15, 16, 17, 18, 19, 20, 21, 22, 23, 24, 25, 26, 27] rfl (by kernel_rfl) (Quiet.pickT rfl rfl) ?_
     refine D.qw [12, 13, 14, 15, 16, 17, 18, 19, 20, 21, 22, 23, 24, 25, 26, 27] rfl (by kernel_rfl) (Quiet.move rfl) ?_
     refine D.gqw [13, 14, 15, 16, 17, 18, 19, 20, 21, 22, 23, 24, 25, 26, 27] (t := 174) rfl rfl rfl (by kernel_rfl) (Quiet.move rfl) ?_
     refine D.gqw [14, 15, 16, 17, 18, 19, 20, 21, 22, 23, 24, 25, 26, 27] (t := 174) rfl rfl rfl (by kernel_rfl) (Quiet.slen rfl Tryz.underlying31 rfl) ?_
     refine D.gqw [15, 16, 17, 18, 19, 20, 21, 22, 23, 24, 25, 26, 27] (t := 174) rfl rfl rfl (by kernel_rfl) (Quiet.as (v' := .bool false) (by exact congrArg Value.bool (decide_eq_false (by omega))) (Quiet.int rfl rfl rfl)) ?_
     refine D.gqw [16, 17, 18, 19, 20, 21, 22, 23, 24, 25, 26, 27] (t := 174) rfl rfl rfl (by kernel_rfl) (Quiet.move rfl) ?_
     refine D.gqw [17, 24, 25, 26, 27] (t := 178) rfl rfl rfl (by kernel_rfl) (Quiet.move rfl) ?_
     refine D.gm (t := 178) rfl rfl rfl (by kernel_rfl) (OpSpec.call Tryz.func17 rfl rfl (vs := [_]) rfl (llast_spec g x s.Λ hW.w.i)) (by (repeat' constructor)) ?nx533
     refine D.gqw [22, 23, 24, 25, 26, 27] (t := 178) rfl rfl rfl (by kernel_rfl) (Quiet.move rfl) ?_
     refine D.gqw [20, 21, 22, 23, 24, 25, 26, 27] (t := 178) rfl rfl rfl (by kernel_rfl) (Quiet.move rfl) ?_
     refine D.gqw [21, 22, 23, 24, 25, 26, 27] (t := 178) rfl rfl rfl (by kernel_rfl) (Quiet.slen rfl Tryz.underlying31 rfl) ?_
     refine D.gqw [22, 23, 24, 25, 26, 27] (t := 178) rfl rfl rfl (by kernel_rfl) (Quiet.as (v' := vint ((s.Λ.zxs.length - 1 : Nat) : Int)) (by congr 1; omega) (Quiet.sub rfl rfl (by omega))) ?_
     refine D.gqw [23, 24, 25, 26, 27] (t := 178) rfl rfl rfl (by kernel_rfl) (Quiet.indexAddr rfl rfl el_31 (by omega)) ?_
     refine D.gqw [24, 25, 26, 27] (t := 178) rfl rfl rfl (by kernel_rfl) (Quiet.loadEl (p := intR (.slice (some ⟨bu, 0, none⟩) s.Λ.zxs.length cu) s.Λ.zxs) (i := (s.Λ.zxs.length - 1) * 1) (v := vint (s.Λ.zxs.getD (s.Λ.zxs.length - 1) 0)) rfl ag_3 (by (repeat' constructor)) (fun h hp => slR_rd hp) (ints_at (by omega))) ?_
     refine D.gqw [25, 26, 27] (t := 178) rfl rfl rfl (by kernel_rfl) (Quiet.as (v' := .bool true) (by rw [last_at (i := s.Λ.zxs.length - 1) (by omega)]; simp [List.getD_eq_getElem?_getD, show s.Λ.zxs.length - 1 < s.Λ.zxs.length by omega]) (Quiet.int rfl rfl rfl)) ?_
     refine D.gqw [26, 27] (t := 174) rfl rfl rfl (by kernel_rfl) (Quiet.pickF rfl rfl) ?_
     refine D.qw [27] rfl (by kernel_rfl) (Quiet.pickT rfl rfl) ?_
     refine D.qw [] rfl (by kernel_rfl) (Quiet.assign rfl) ?_
     refine D.ph (Phases.fin (G.then_n (G.ret ?_)))
     exact G.done (l := [.tmp 4]) rfl rfl ⟨rfl, rfl⟩ (by (repeat' constructor)) (by (repeat' constructor))

end Go.Proofs.YtidjhgbdokcphaaGreat

/- Own work: from what a call is given to the atoms of SlCore, and back to what a statement asks. -/

namespace Go.Proofs.YtidjhgbdokcphaaGreat
open Go Go.ChangeShapes Go.WideShapes Go.ChangeAt Go.RowKit

section
variable {H : Type} {enc : TypeId × Value → H} {P : Program} {W W' : World}
theorem trodAll_old (hl : laidOutB P = true) (hb : Below W.heap.size W W') (sp : Nat → Bool) : ∀ (ts : List TypeId) (vs : List Value) (ds : List (DataW H)) (p : List MemPlace), (∀ t ∈ ts, P.readableRec t = true ∧ t < P.types.size) →
    DataW.TrodAll enc P W 0 (fun _ => true) true ts vs ds p → (∀ x ∈ p, x.block < W.heap.size) → (∀ x ∈ p, sp x.block = true) → DataW.TrodAll enc P W' 0 sp true ts vs ds p
  | [], vs, ds, p, _, h, _, _ => by
    obtain ⟨rfl, rfl, rfl⟩ := trodAll_nil h
    exact h
  | t :: ts, vs, ds, p, hr, h, hlt, hsp => by
    obtain ⟨v, vs1, d, ds1, a, b, rfl, rfl, rfl, h1, h2⟩ := trodAll_cons h
    have r := hr t (by simp)
    refine ⟨a, b, WideElems.Trod_stays hl r.1 r.2 h1 (fun x hx => hb.same (hlt x (by simp [hx]))) (fun x hx => hsp x (by simp [hx])), ?_, rfl⟩
    exact trodAll_old hl hb sp ts vs1 ds1 b (fun t ht => hr t (by simp [ht])) h2 (fun x hx => hlt x (by simp [hx])) (fun x hx => hsp x (by simp [hx]))
theorem settled {fn : Func} {s : ChangeSpec} {apart fresh handsOn again : Bool} {args : Array Value} {ds gs : List (DataW H)} {before : List MemPlace} {tb : TypeId}
    (hW : DataW.Whole enc P fn.params.toList s.vars apart W args.toList ds gs before) (hvars : s.vars = []) (hspec : ∀ gs', gs' = [] → s.fn H (ds ++ gs') = { results := [.lit (.bool true)], args := ds })
    (hres : fn.resultTypes = #[tb]) (htb : P.underlying tb = some .bool) (hl : laidOutB P = true) (hr : ∀ t ∈ fn.params.toList, P.readableRec t = true ∧ t < P.types.size) (hb : Below W.heap.size W W') :
    s.post enc P fn apart fresh handsOn again W args (.bool true) W' := by
  have hW' := hW
  have hlt := hW.lt
  obtain ⟨p, q, hA, hV, rfl, hfz, hnd⟩ := hW
  rw [hvars] at hV
  obtain ⟨rfl, rfl⟩ := trodVars_none hV
  have hs := hspec [] rfl
  have hargs : ∀ sp : Nat → Bool, (∀ x ∈ p, sp x.block = true) → DataW.TrodAll enc P W' 0 sp true fn.params.toList args.toList ds p := fun sp hsp =>
    trodAll_old hl hb sp _ _ _ _ hr hA (fun x hx => hlt x (by simp [hx])) hsp
  have hbool : ∀ (b : Nat) (sp : Nat → Bool) (hd : Bool), DataW.TrodAll enc P W' b sp hd fn.resultTypes.toList ((Value.bool true).resultList fn.resultTypes.size) [.lit (.bool true)] [] := by
    intro b sp hd
    rw [hres]
    exact trodAll_cons_mk (shut_bool htb _) trodAll_mk0
  refine ⟨ds, [], p ++ [], [], p, [], hW', ?_, ?_, ?_, hb.frame _, fun _ => ⟨ok_one hres rfl (okWide_bool_mk htb _), [.lit (.bool true)] ++ ds, [], p, ⟨p, [], ?_, ?_, by simp, ?_, ?_⟩, ?_⟩⟩
  · rw [hs]; exact hbool _ _ _
  · rw [hs]; exact hargs _ (fun x hx => by simpa using hlt x (by simp [hx]))
  · rw [hs, hvars]; exact hV
  · exact trodAll_append (hargs _ (fun _ _ => rfl)) (hbool _ _ _)
  · rw [hvars]; exact hV
  · intro b off hp
    rw [hb.frozen (p := ⟨b, off, none⟩) (hlt (.cell b off) (by simp [hp]))]
    exact hfz b off (by simp [hp])
  · intro ha
    have := hnd ha
    simpa using this
  · intro x hx _
    simp [hx]
theorem old_calls {f : FuncId} {args : Array Value} (h : Fn P f args [Old W] fun v L => v = .bool true ∧ L = [Old W]) :
    Calls P f args W fun e W' => e = .returned (.bool true) ∧ Below W.heap.size W W' := by
  have h0 : St [Old W] W := ⟨fun b => W.heap[b]?, fun _ => none, fun _ => .inr rfl, fun b o h => h, fun b o h => (by cases h), fun b hb => rfl, trivial⟩
  refine (h [] W h0).mono ?_
  rintro e W' ⟨v, L, ⟨rfl, rfl⟩, rfl, hs, hk⟩
  refine ⟨rfl, hk.os, hk.tape, hk.output, hk.size, fun k hk' => ?_⟩
  obtain ⟨h1, a1, hp⟩ := sep_head hs
  have e1 := hp k hk'
  have : ∃ o, W.heap[k]? = some o := ⟨_, Array.getElem?_eq_getElem hk'⟩
  obtain ⟨o, ho⟩ := this
  rw [ho] at e1 ⊢
  exact a1 _ _ e1
theorem old_rd {a : Addr} {len cap : Nat} {V : Nat → Value} (hc : ∀ i, i < len → W.cell? (a.add i) = some (V i)) (hle : len ≤ cap) : ∀ h : Hp, Old W h → rdS 1 h (.slice (some a) len cap) len ((List.range len).map V) := by
  intro h hold
  rcases Nat.eq_zero_or_pos len with rfl | hpos
  · exact .inl ⟨rfl, rfl, some a, cap, rfl⟩
  · obtain ⟨b, off, spot⟩ := a
    have h0 := hc 0 hpos
    have e0 : (⟨b, off, spot⟩ : Addr).add 0 = ⟨b, off, spot⟩ := by simp [Addr.add]
    rw [e0] at h0
    simp only [World.cell?] at h0
    rcases hw : W.heap[b]? with _ | o
    · rw [hw] at h0; cases h0
    · cases o with
      | cells c T fr =>
        rw [hw] at h0
        dsimp only at h0
        split at h0
        · cases h0
        · rename_i hsp
          have hspot : spot = none := by simpa using hsp
          subst hspot
          have hc' : ∀ i, i < len → c[off + i]? = some (V i) := by
            intro i hi
            have := hc i hi
            have e1 : (⟨b, off, none⟩ : Addr).add i = ⟨b, off + i, none⟩ := by
              simp only [Addr.add]; split
              · rename_i h0; simp [h0]
              · rfl
            rw [e1] at this
            simp only [World.cell?, hw] at this
            simpa using this
          have hlt : b < W.heap.size := by
            rcases Nat.lt_or_ge b W.heap.size with h' | h'
            · exact h'
            · rw [Array.getElem?_eq_none h'] at hw; cases hw
          have hlen : off + len ≤ c.size := by
            have := hc' (len - 1) (by omega)
            rcases Nat.lt_or_ge (off + (len - 1)) c.size with h' | h'
            · omega
            · rw [Array.getElem?_eq_none h'] at this; cases this
          refine .inr ⟨b, off, cap, c.toList, T, fr, rfl, by rw [hold b hlt, hw], ?_, by simpa using hlen, hle⟩
          apply List.ext_getElem?
          intro i
          rw [Nat.mul_one, List.getElem?_take, List.getElem?_map, List.getElem?_drop]
          split
          · rename_i hi
            rw [List.getElem?_range hi]
            simpa using hc' i hi
          · rename_i hi
            rw [List.getElem?_eq_none (by simpa using hi)]; rfl
      | _ => rw [hw] at h0; cases h0
theorem arg_int {t : TypeId} {r : Reach} {b0 : Nat} {v : Value} {d : DataW H} {ps : List MemPlace} (ht : P.underlying t = some (.int .i64)) (hval : Value.okWide P W r b0 t v)
    (h : DataW.Trod enc P W 0 (fun _ => true) true t v d ps) : ∃ n : Int, v = vint n ∧ d = .lit (.int .i64 n) ∧ -9223372036854775808 ≤ n ∧ n ≤ 9223372036854775807 := by
  obtain ⟨n, rfl, rfl, rfl, hwf⟩ := open_int ht hval h
  exact ⟨n, rfl, rfl, bounds_i64 hwf⟩
end
end Go.Proofs.YtidjhgbdokcphaaGreat

/- Own work: strings and rows of strings as arguments. -/
namespace Go.Proofs.YtidjhgbdokcphaaGreat
open Go Go.ChangeShapes Go.WideShapes Go.ChangeAt Go.RowKit

section
variable {H : Type} {enc : TypeId × Value → H} {P : Program} {W : World}
theorem string_vstr (s : ByteArray) : Value.string s = vstr s.data.toList := by cases s; rfl
end
end Go.Proofs.YtidjhgbdokcphaaGreat

