/- Own work, some of it printed by program, texts that were built one by one and are laid one behind the other here: nested arguments decoded: slices of structs, and what the row says of their weight. | arguments of a bounded bulk (the second form's bound), decoded. | arguments of law 09, decoded with their weights. | ledgerMarks: the walk, brought to the given second form and its card. -/
import Derived.Test.YtidjhgbdokcphaaGreatCLMarksP3
import Derived.WalkKit
import Derived.ProofKit
import Derived.OpenShut
import Derived.JoinedCond
set_option linter.unusedSimpArgs false
set_option linter.unusedVariables false
/- Own work: nested arguments decoded: slices of structs, and what the row says of their weight. -/

namespace Go.Proofs.YtidjhgbdokcphaaGreat
open Go Go.ChangeShapes Go.WideShapes Go.ChangeAt Go.RowKit

section
variable {H : Type} {enc : TypeId × Value → H} {P : Program} {W : World}
/-- No slice and no string in this datum weighs more than the row's reach. -/
def Light (P : Program) (t : TypeId) (d : DataW H) : Prop := ∀ n ∈ d.weights P t, n ≤ reachBytes
theorem flat_at {α : Type} {sz : Nat} (f : Nat → List α) : ∀ n, (∀ i, i < n → (f i).length = sz) → ∀ j, j < n * sz → ((List.range n).flatMap f)[j]? = (f (j / sz))[j % sz]? ∧ ((List.range n).flatMap f).length = n * sz := by
  intro n
  induction n with
  | zero => intro _ j hj; omega
  | succ n ih =>
    intro hf j hj
    have hn := hf n (by omega)
    have hlen : ((List.range n).flatMap f).length = n * sz := by
      rcases Nat.eq_zero_or_pos (n * sz) with h0 | h0
      · rcases Nat.eq_zero_or_pos n with h1 | h1
        · subst h1; simp
        · have : sz = 0 := by
            rcases Nat.eq_zero_or_pos sz with h2 | h2
            · exact h2
            · have := Nat.mul_pos h1 h2; omega
          subst this; omega
      · exact (ih (fun i hi => hf i (by omega)) 0 h0).2
    have e : (List.range (n + 1)).flatMap f = (List.range n).flatMap f ++ f n := by simp [List.range_succ]
    have hm : (n + 1) * sz = n * sz + sz := by rw [Nat.add_mul, Nat.one_mul]
    rw [e]
    refine ⟨?_, by rw [List.length_append, hlen, hn, hm]⟩
    rcases Nat.lt_or_ge j (n * sz) with h | h
    · rw [List.getElem?_append_left (by omega)]
      exact (ih (fun i hi => hf i (by omega)) j h).1
    · rw [List.getElem?_append_right (by omega), hlen]
      have hs : 0 < sz := by omega
      have h1 : j / sz = n := by
        have : j < (n + 1) * sz := hj
        have a := Nat.div_lt_of_lt_mul (show j < sz * (n + 1) by rw [Nat.mul_comm]; exact this)
        have b := (Nat.le_div_iff_mul_le hs).2 h
        omega
      have h2 : j % sz = j - n * sz := by
        have := Nat.div_add_mod j sz
        rw [h1, Nat.mul_comm] at this; omega
      rw [h1, h2]
theorem rdS_regroup {sz n c c1 : Nat} {a : Option Addr} {ys : List Value} {h : Hp} (hr : rdS 1 h (.slice a (n * sz) c1) (n * sz) ys) (hc : n ≤ c) (hs : 0 < sz) : rdS sz h (.slice a n c) n ys := by
  rcases hr with ⟨h1, h2, -⟩ | ⟨b, off, cap, l, T, fr, hv, hb, h1, h2, h3⟩
  · have : n = 0 := by
      rcases Nat.eq_zero_or_pos n with h0 | h0
      · exact h0
      · have := Nat.mul_pos h0 hs; omega
    subst this
    exact .inl ⟨rfl, h2, a, c, rfl⟩
  · simp only [Value.slice.injEq] at hv
    obtain ⟨rfl, -, -⟩ := hv
    exact .inr ⟨b, off, c, l, T, fr, rfl, hb, by rw [← h1, Nat.mul_one], by rw [Nat.mul_one] at h2; exact h2, hc⟩
abbrev Reads (enc : TypeId × Value → H) (P : Program) (W : World) (fuel : Nat) (t : TypeId) (cs : List Value) (x : DataW H × List MemPlace) : Prop := DataW.trod enc P W 0 (fun _ => true) true fuel t cs = some x
theorem dec_int {t : TypeId} {fuel : Nat} {cs : List Value} {x : DataW H × List MemPlace} (ht : P.underlying t = some (.int .i64)) (h : Reads enc P W fuel t cs x) : ∃ n : Int, cs = [vint n] ∧ -9223372036854775808 ≤ n ∧ n ≤ 9223372036854775807 := by
  obtain ⟨n, rfl, -, hwf⟩ := DataW.trod_int ht h
  exact ⟨n, rfl, bounds_i64 hwf⟩
end
end Go.Proofs.YtidjhgbdokcphaaGreat

/- Own work: arguments of a bounded bulk (the second form's bound), decoded. -/
namespace Go.Proofs.YtidjhgbdokcphaaGreat
open Go Go.ChangeShapes Go.WideShapes Go.ChangeAt Go.RowKit

theorem bulk_pos {H : Type} (d : DataW H) : 1 ≤ Rows.uptoBulk d := by
  cases d with
  | lit l => cases l <;> simp [Rows.uptoBulk]
  | _ => simp [Rows.uptoBulk]
theorem bulk_part {H : Type} {d : DataW H} : ∀ {l : List (DataW H)}, d ∈ l → Rows.uptoBulk d ≤ Rows.uptoBulkAll l
  | x :: l, h => by
    unfold Rows.uptoBulkAll
    rcases List.mem_cons.1 h with rfl | h
    · omega
    · have := bulk_part h; omega
theorem bulk_count {H : Type} : ∀ l : List (DataW H), l.length ≤ Rows.uptoBulkAll l
  | [] => by simp
  | x :: l => by
    have h1 := bulk_pos x
    have h2 := bulk_count l
    unfold Rows.uptoBulkAll
    rw [List.length_cons]; omega
theorem bulk_sum {H : Type} : ∀ l : List (DataW H), (l.map Rows.uptoBulk).sum ≤ Rows.uptoBulkAll l
  | [] => by simp
  | x :: l => by
    have h2 := bulk_sum l
    unfold Rows.uptoBulkAll
    rw [List.map_cons, List.sum_cons]; omega
theorem bulk_small {H : Type} {l : List (DataW H)} (h : Rows.uptoSmall H l = true) {d : DataW H} (hd : d ∈ l) : Rows.uptoBulk d ≤ 1048576 :=
  Nat.le_trans (bulk_part hd) (of_decide_eq_true h)
instance : Inhabited Value := ⟨.bool false⟩
section
variable {H : Type} {enc : TypeId × Value → H} {P : Program} {W : World} {N : Nat}
theorem dec_int' {t : TypeId} {fuel : Nat} {cs : List Value} {x : DataW H × List MemPlace} (ht : P.underlying t = some (.int .i64)) (h : Reads enc P W fuel t cs x) : ∃ n : Int, cs = [vint n] ∧ (-9223372036854775808 ≤ n ∧ n ≤ 9223372036854775807) := by
  obtain ⟨n, h1, h2⟩ := dec_int ht h; exact ⟨n, h1, h2⟩
/-- The same, with each element's own bulk, and their sum. -/
theorem dec_sliceQV {Z : Type} [Inhabited Z] (toC : Z → List Value) (Q : Nat → Z → Prop) {t e : TypeId} {sz : Nat} {fuel : Nat} {cs : List Value} {x : DataW H × List MemPlace} (ht : P.underlying t = some (.slice e)) (hc : P.cellsOf e = sz) (hs : 0 < sz)
    (hdec : ∀ (n : Nat) (cs : List Value) (y : DataW H × List MemPlace), Reads enc P W n e cs y → ∃ z, cs = toC z ∧ Q (Rows.uptoBulk y.1) z) (h : Reads enc P W fuel t cs x) (hb : Rows.uptoBulk x.1 ≤ N + 1) :
    ∃ (z : Value × List Z) (ws : List Nat), cs = [z.1] ∧ (∀ h : Hp, Old W h → rdS sz h z.1 z.2.length (z.2.flatMap toC)) ∧ z.2.length ≤ N ∧ ws.length = z.2.length ∧ ws.sum ≤ N ∧ (∀ w ∈ ws, 1 ≤ w) ∧ ∀ i (h1 : i < z.2.length) (h2 : i < ws.length), Q ws[i] z.2[i] := by
  subst hc
  rcases Go.Deep.open_slice ht h with ⟨rfl, rfl⟩ | ⟨a, len, cap, m, n, Dd, Pl, rfl, -, hl, hm, hmm, rfl, hx⟩
  · exact ⟨(_, []), [], rfl, fun h _ => .inl ⟨rfl, rfl, none, 0, rfl⟩, by simp, rfl, by simp, (fun _ h => by cases h), (fun i h1 _ => by simp at h1)⟩
  · simp only [if_true] at hmm
    subst hmm
    have hbl : len ≤ N := by
      have := bulk_count ((List.range len).map Dd)
      simp only [Rows.uptoBulk] at hb
      rw [List.length_map, List.length_range] at this
      omega
    have hall : ((List.range len).map fun i => Rows.uptoBulk (Dd i)).sum ≤ N := by
      have := bulk_sum ((List.range len).map Dd)
      rw [List.map_map] at this
      simp only [Rows.uptoBulk] at hb
      have e : ((List.range len).map fun i => Rows.uptoBulk (Dd i)) = (List.range len).map (Rows.uptoBulk ∘ Dd) := rfl
      rw [e]; omega
    obtain ⟨Zf, hZ⟩ := Go.Deep.choose_lt (α := Z) (p := fun i z => W.cells? 0 (a.add (i * P.cellsOf e)) (P.cellsOf e) = some (toC z) ∧ Q (Rows.uptoBulk (Dd i)) z) (n := len) (fun i hi => by
      obtain ⟨cs', h1, h2⟩ := hx i (by omega)
      obtain ⟨z, rfl, h3⟩ := hdec _ _ _ h2
      exact ⟨z, h1, h3⟩)
    have hlenf : ∀ i, i < len → (toC (Zf i)).length = P.cellsOf e := fun i hi => (World.cells?_some (hZ i hi).1).2.1
    have hflat := flat_at (fun i => toC (Zf i)) len hlenf
    refine ⟨(_, (List.range len).map Zf), (List.range len).map fun i => Rows.uptoBulk (Dd i), rfl, ?_, ?_, by simp, hall, ?_, ?_⟩
    · intro h hold
      dsimp only
      rw [List.length_map, List.length_range]
      refine rdS_regroup (c1 := len * P.cellsOf e) ?_ hl hs
      have e1 : ((List.range len).map Zf).flatMap toC = (List.range (len * P.cellsOf e)).map (fun j => ((List.range len).flatMap fun i => toC (Zf i)).getD j (.bool false)) := by
        rw [List.flatMap_map]
        apply List.ext_getElem?
        intro j
        rcases Nat.lt_or_ge j (len * P.cellsOf e) with hj | hj
        · rw [List.getElem?_map, List.getElem?_range hj]
          have := (hflat j hj).2
          have hjl : j < ((List.range len).flatMap fun i => toC (Zf i)).length := by omega
          simp only [Option.map_some, List.getD_eq_getElem?_getD, List.getElem?_eq_getElem hjl, Option.getD_some]
        · have : ((List.range len).flatMap fun i => toC (Zf i)).length = len * P.cellsOf e := by
            rcases Nat.eq_zero_or_pos (len * P.cellsOf e) with h0 | h0
            · have : len = 0 := by
                rcases Nat.eq_zero_or_pos len with h1 | h1
                · exact h1
                · have := Nat.mul_pos h1 hs; omega
              subst this; simp
            · exact (hflat 0 h0).2
          rw [List.getElem?_eq_none (by omega), List.getElem?_eq_none (by simpa using hj)]
      rw [e1]
      refine old_rd (W := W) (fun j hj => ?_) (Nat.le_refl _) h hold
      have hi : j / P.cellsOf e < len := Nat.div_lt_of_lt_mul (by rw [Nat.mul_comm]; exact hj)
      have hcell := (World.cells?_some (hZ (j / P.cellsOf e) hi).1).2.2 (j % P.cellsOf e) (Nat.mod_lt _ hs)
      rw [Addr.add_add, Nat.mul_comm, Nat.div_add_mod] at hcell
      rw [hcell]
      obtain ⟨f1, f2⟩ := hflat j hj
      rw [List.getD_eq_getElem?_getD, f1]
      have : j % P.cellsOf e < (toC (Zf (j / P.cellsOf e))).length := by rw [hlenf _ hi]; exact Nat.mod_lt _ hs
      simp [this]
    · dsimp only; rw [List.length_map, List.length_range]; exact hbl
    · intro w hw
      obtain ⟨i, -, rfl⟩ := List.mem_map.1 hw
      exact bulk_pos _
    · intro i h1 h2
      simp only [List.getElem_map, List.getElem_range]
      exact (hZ i (by simpa using h1)).2
/-! ### With weights: what is read weighs no more than its bulk -/
theorem dec_strW {t : TypeId} {fuel : Nat} {cs : List Value} {x : DataW H × List MemPlace} (ht : P.underlying t = some .string) (h : Reads enc P W fuel t cs x) : ∃ s : List UInt8, cs = [vstr s] ∧ s.length + 1 ≤ Rows.uptoBulk x.1 := by
  obtain ⟨s, rfl, rfl, -⟩ := DataW.trod_string ht h
  exact ⟨s.data.toList, by rw [string_vstr], by simp [Rows.uptoBulk]⟩
theorem dec_intW {t : TypeId} {fuel : Nat} {cs : List Value} {x : DataW H × List MemPlace} (ht : P.underlying t = some (.int .i64)) (h : Reads enc P W fuel t cs x) : ∃ n : Int, cs = [vint n] ∧ (-9223372036854775808 ≤ n ∧ n ≤ 9223372036854775807) ∧ 1 ≤ Rows.uptoBulk x.1 := by
  obtain ⟨n, h1, h2⟩ := dec_int' ht h; exact ⟨n, h1, h2, bulk_pos _⟩
theorem slice_shape {t e : TypeId} {fuel : Nat} {v : Value} {x : DataW H × List MemPlace} (ht : P.underlying t = some (.slice e)) (h : Reads enc P W fuel t [v] x) : ∃ a n c, v = .slice a n c := by
  rcases Go.Deep.open_slice ht h with ⟨hv, -⟩ | ⟨a, len, cap, m, n, Dd, Pl, hv, -⟩
  · rw [List.cons.injEq] at hv; rw [hv.1]; exact ⟨_, _, _, rfl⟩
  · rw [List.cons.injEq] at hv; rw [hv.1]; exact ⟨_, _, _, rfl⟩
theorem sum_le {Z : Type} {m : Z → Nat} : ∀ {l : List Z} {ws : List Nat}, ws.length = l.length → (∀ i (h1 : i < l.length) (h2 : i < ws.length), m l[i] ≤ ws[i]) → (l.map m).sum ≤ ws.sum
  | [], _, _, _ => by simp
  | z :: l, [], h, _ => by simp at h
  | z :: l, w :: ws, h, hq => by
    have h0 := hq 0 (by simp) (by simp)
    have h1 := sum_le (l := l) (ws := ws) (m := m) (by simpa using h) (fun i h1 h2 => hq (i + 1) (by simpa using h1) (by simpa using h2))
    rw [List.map_cons, List.sum_cons, List.sum_cons]
    have h0' : m z ≤ w := h0
    omega
theorem dec_sliceW {Z : Type} [Inhabited Z] (toC : Z → List Value) (Q : Z → Prop) (m : Z → Nat) {t e : TypeId} {sz : Nat} {fuel : Nat} {cs : List Value} {x : DataW H × List MemPlace} (ht : P.underlying t = some (.slice e)) (hc : P.cellsOf e = sz) (hs : 0 < sz)
    (hdec : ∀ (n : Nat) (cs : List Value) (y : DataW H × List MemPlace), Reads enc P W n e cs y → ∃ z, cs = toC z ∧ Q z ∧ m z ≤ Rows.uptoBulk y.1) (h : Reads enc P W fuel t cs x) :
    ∃ z : Value × List Z, cs = [z.1] ∧ (∀ h : Hp, Old W h → rdS sz h z.1 z.2.length (z.2.flatMap toC)) ∧ (∀ y ∈ z.2, Q y) ∧ z.2.length + 1 ≤ Rows.uptoBulk x.1 ∧ 1 + (z.2.map m).sum ≤ Rows.uptoBulk x.1 := by
  have hp := bulk_pos x.1
  obtain ⟨z, ws, h1, h2, h3, h4, h5, -, h7⟩ := dec_sliceQV (N := Rows.uptoBulk x.1 - 1) toC (fun B z => Q z ∧ m z ≤ B) ht hc hs hdec h (by omega)
  refine ⟨z, h1, h2, fun y hy => ?_, by omega, ?_⟩
  · obtain ⟨i, hi, rfl⟩ := List.mem_iff_getElem.1 hy
    exact (h7 i hi (by omega)).1
  · have := sum_le (m := m) h4 (fun i g1 g2 => (h7 i g1 g2).2)
    omega
theorem rd_shape {sz n : Nat} {v : Value} {ys : List Value} (hr : ∀ h : Hp, Old W h → rdS sz h v n ys) : ∃ a c, v = .slice a n c := by
  have h := hr (fun b => if b < W.heap.size then W.heap[b]? else none) (fun b hb => if_pos hb)
  rcases h with ⟨rfl, -, a, c, rfl⟩ | ⟨b, off, cap, l, T, fr, rfl, -⟩
  · exact ⟨_, _, rfl⟩
  · exact ⟨_, _, rfl⟩
end
end Go.Proofs.YtidjhgbdokcphaaGreat

/- Own work, by program: arguments of law 09, decoded with their weights. -/
namespace Go.Proofs.YtidjhgbdokcphaaGreat
open Go Go.ChangeShapes Go.WideShapes Go.ChangeAt Go.RowKit
def mAc (a : Ac) : Nat := 3 + a.2.length
def mPt (y : Pt) : Nat := 9 + y.path.length + y.data.length + (y.acl.map mAc).sum
def mEn (e : En) : Nat := mPt e.x + (e.subs.map mPt).sum
structure PtQ (p : HP) (y : Pt) : Prop where
  kind : I64 y.kind
  own : I64 y.own
  num : I64 y.num
  err : I64 y.err
  acl : ∀ h : Hp, p h → rdS 2 h y.aclV y.acl.length (y.acl.flatMap acC)
  ash : ∃ a n c, y.aclV = .slice a n c
  ssh : ∃ a n c, y.subsV = .slice a n c
  each : ∀ a ∈ y.acl, I64 a.1
structure EnQ (p : HP) (e : En) : Prop where
  zx : I64 e.zx
  ses : I64 e.ses
  xid : I64 e.xid
  x : PtQ p e.x
  subs : ∀ h : Hp, p h → rdS 8 h e.x.subsV e.subs.length (e.subs.flatMap ptC)
  each : ∀ y ∈ e.subs, PtQ p y
theorem sum_mem {α : Type} {m : α → Nat} : ∀ {l : List α} {x : α}, x ∈ l → m x ≤ (l.map m).sum
  | y :: l, x, h => by
    rw [List.map_cons, List.sum_cons]
    rcases List.mem_cons.1 h with rfl | h
    · omega
    · have := sum_mem (m := m) h; omega
theorem sum_many {α : Type} {m : α → Nat} (hm : ∀ x, 1 ≤ m x) : ∀ l : List α, l.length ≤ (l.map m).sum
  | [] => by simp
  | y :: l => by have := sum_many hm l; have := hm y; rw [List.map_cons, List.sum_cons, List.length_cons]; omega
theorem fm_weigh {α : Type} {f : α → Bs} {m : α → Nat} : ∀ {l : List α}, (∀ x ∈ l, (f x).length ≤ 20 * m x) → (l.flatMap f).length ≤ 20 * (l.map m).sum
  | [], _ => by simp
  | y :: l, h => by
    have h1 := h y (List.mem_cons_self ..)
    have h2 := fm_weigh (l := l) (m := m) (f := f) (fun x hx => h x (List.mem_cons_of_mem _ hx))
    rw [List.flatMap_cons, List.length_append, List.map_cons, List.sum_cons]; omega
theorem cntB_len {n : Nat} (h : n < U64) : (cntB n).length ≤ 10 := sev_len10 h
theorem acB_weigh {a : Ac} (h : AcI a) : (acB a).length ≤ 20 * mAc a := by
  have h1 := numB_len h.n
  have h2 := cntB_len h.s
  unfold acB txtB mAc
  rw [List.length_append, List.length_append]; omega
theorem PtQ.i {p : HP} {y : Pt} (h : PtQ p y) (hm : mPt y ≤ 1048576) : PtI y := by
  unfold mPt at hm
  have hl := sum_many (m := mAc) (fun a => by unfold mAc; omega) y.acl
  have hu : (1048576 : Nat) < U64 := by decide
  refine ⟨h.kind, h.own, h.num, h.err, by omega, by omega, by omega, fun a ha => ⟨h.each a ha, ?_⟩⟩
  have h1 := sum_mem (m := mAc) ha
  have h2 : mAc a = 3 + a.2.length := rfl
  omega
theorem ptB_weigh {p : HP} {y : Pt} (h : PtQ p y) (hm : mPt y ≤ 1048576) : (ptB y).length ≤ 20 * mPt y := by
  have hi := h.i hm
  have h1 := numB_len h.kind
  have h2 := cntB_len hi.path
  have h3 := cntB_len hi.data
  have h4 := cntB_len hi.many
  have h5 := numB_len h.own
  have h6 := numB_len h.num
  have h7 := numB_len h.err
  have h8 := fm_weigh (f := acB) (m := mAc) (l := y.acl) (fun a ha => acB_weigh (hi.acl a ha))
  rw [ptB_len]
  unfold aclB mPt
  rw [List.length_append]
  simp only [List.flatMap_cons, List.flatMap_nil, List.length_append, List.length_nil]
  omega
theorem EnQ.X {p : HP} {e : En} (h : EnQ p e) (hm : mEn e ≤ 1048576) : EnX p e := by
  unfold mEn at hm
  have hx : mPt e.x ≤ 1048576 := by omega
  have hs : ∀ y ∈ e.subs, mPt y ≤ 1048576 := fun y hy => by have := sum_mem (m := mPt) hy; omega
  have hl := sum_many (m := mPt) (fun a => by unfold mPt; omega) e.subs
  have hu : (1048576 : Nat) < U64 := by decide
  have hal : ∀ y : Pt, mPt y ≤ 1048576 → y.acl.length ≤ 1048576 := fun y hy => by
    have := sum_many (m := mAc) (fun a => by unfold mAc; omega) y.acl
    unfold mPt at hy; omega
  have hc : ∀ y, PtQ p y → isCell y.aclV = true ∧ isCell y.subsV = true := fun y hy => by
    obtain ⟨a, n, c, g⟩ := hy.ash
    obtain ⟨a', n', c', g'⟩ := hy.ssh
    rw [g, g']; exact ⟨rfl, rfl⟩
  refine ⟨⟨⟨⟨h.zx, h.ses, h.xid, h.x.i hx, by omega, fun y hy => (h.each y hy).i (hs y hy)⟩, h.x.acl, h.subs, fun y hy => (h.each y hy).acl⟩, ?_, ⟨by omega, hal _ hx, fun y hy => hal y (hs y hy)⟩, hc _ h.x, fun y hy => hc y (h.each y hy)⟩, fun y hy => (h.each y hy).ssh⟩
  have h1 := numB_len h.zx
  have h2 := numB_len h.ses
  have h3 := numB_len h.xid
  have h4 := ptB_weigh h.x hx
  have h5 := fm_weigh (f := ptB) (m := mPt) (l := e.subs) (fun y hy => ptB_weigh (h.each y hy) (hs y hy))
  have h6 := cntB_len (n := e.subs.length) (by omega)
  rw [enB_len]
  unfold subsB
  rw [List.length_append]
  simp only [List.flatMap_cons, List.flatMap_nil, List.length_append, List.length_nil]
  omega
instance : Inhabited Pt := ⟨pt0⟩
instance : Inhabited En := ⟨en0⟩
set_option maxRecDepth 100000 in
theorem decAc {H : Type} {enc : TypeId × Value → H} {W : World} (n : Nat) (cs : List Value) (y : DataW H × List MemPlace) (h : Reads enc Tryz.prog W n 210 cs y) : ∃ a : Ac, cs = acC a ∧ I64 a.1 ∧ mAc a ≤ Rows.uptoBulk y.1 := by
  obtain ⟨xs, m, -, rfl, hlen, hxs, hf⟩ := DataW.trod_struct Tryz.underlying210 h
  rw [show Tryz.prog.cellsOf 210 = 2 by kernel_rfl] at hlen
  obtain ⟨a0, a1, rfl⟩ : ∃ a0 a1, cs = [a0, a1] := by
    match cs, hlen with
    | [a0, a1], _ => exact ⟨a0, a1, rfl⟩
  obtain ⟨y0, y1, rfl⟩ : ∃ y0 y1, xs = [y0, y1] := by
    match xs, hxs with
    | [y0, y1], _ => exact ⟨y0, y1, rfl⟩
  simp only [Rows.uptoBulk, Rows.uptoBulkAll, List.map_cons, List.map_nil]
  have g0 : Reads enc Tryz.prog W m 3 (([a0, a1] : List Value).drop 0 |>.take (Tryz.prog.cellsOf 3)) y0 := hf 0 _ rfl
  rw [show Tryz.prog.cellsOf 3 = 1 by kernel_rfl] at g0
  have p0 := bulk_pos y0.1
  obtain ⟨z0, e0, q0, r0⟩ := dec_intW Tryz.underlying3 g0
  try simp at e0
  have g1 : Reads enc Tryz.prog W m 9 (([a0, a1] : List Value).drop 1 |>.take (Tryz.prog.cellsOf 9)) y1 := hf 1 _ rfl
  rw [show Tryz.prog.cellsOf 9 = 1 by kernel_rfl] at g1
  have p1 := bulk_pos y1.1
  obtain ⟨z1, e1, r1⟩ := dec_strW Tryz.underlying9 g1
  try simp at e1
  subst e0
  subst e1
  exact ⟨(z0, z1), rfl, q0, by unfold mAc; dsimp only; omega⟩
set_option maxRecDepth 100000 in
theorem decPt {H : Type} {enc : TypeId × Value → H} {W : World} (n : Nat) (cs : List Value) (y : DataW H × List MemPlace) (h : Reads enc Tryz.prog W n 36 cs y) : ∃ y0 : Pt, cs = ptC y0 ∧ PtQ (Old W) y0 ∧ mPt y0 ≤ Rows.uptoBulk y.1 := by
  obtain ⟨xs, m, -, rfl, hlen, hxs, hf⟩ := DataW.trod_struct Tryz.underlying36 h
  rw [show Tryz.prog.cellsOf 36 = 8 by kernel_rfl] at hlen
  obtain ⟨a0, a1, a2, a3, a4, a5, a6, a7, rfl⟩ : ∃ a0 a1 a2 a3 a4 a5 a6 a7, cs = [a0, a1, a2, a3, a4, a5, a6, a7] := by
    match cs, hlen with
    | [a0, a1, a2, a3, a4, a5, a6, a7], _ => exact ⟨a0, a1, a2, a3, a4, a5, a6, a7, rfl⟩
  obtain ⟨y0, y1, y2, y3, y4, y5, y6, y7, rfl⟩ : ∃ y0 y1 y2 y3 y4 y5 y6 y7, xs = [y0, y1, y2, y3, y4, y5, y6, y7] := by
    match xs, hxs with
    | [y0, y1, y2, y3, y4, y5, y6, y7], _ => exact ⟨y0, y1, y2, y3, y4, y5, y6, y7, rfl⟩
  simp only [Rows.uptoBulk, Rows.uptoBulkAll, List.map_cons, List.map_nil]
  have g0 : Reads enc Tryz.prog W m 3 (([a0, a1, a2, a3, a4, a5, a6, a7] : List Value).drop 0 |>.take (Tryz.prog.cellsOf 3)) y0 := hf 0 _ rfl
  rw [show Tryz.prog.cellsOf 3 = 1 by kernel_rfl] at g0
  have p0 := bulk_pos y0.1
  obtain ⟨z0, e0, q0, r0⟩ := dec_intW Tryz.underlying3 g0
  try simp at e0
  have g1 : Reads enc Tryz.prog W m 9 (([a0, a1, a2, a3, a4, a5, a6, a7] : List Value).drop 1 |>.take (Tryz.prog.cellsOf 9)) y1 := hf 1 _ rfl
  rw [show Tryz.prog.cellsOf 9 = 1 by kernel_rfl] at g1
  have p1 := bulk_pos y1.1
  obtain ⟨z1, e1, r1⟩ := dec_strW Tryz.underlying9 g1
  try simp at e1
  have g2 : Reads enc Tryz.prog W m 9 (([a0, a1, a2, a3, a4, a5, a6, a7] : List Value).drop 2 |>.take (Tryz.prog.cellsOf 9)) y2 := hf 2 _ rfl
  rw [show Tryz.prog.cellsOf 9 = 1 by kernel_rfl] at g2
  have p2 := bulk_pos y2.1
  obtain ⟨z2, e2, r2⟩ := dec_strW Tryz.underlying9 g2
  try simp at e2
  have g3 : Reads enc Tryz.prog W m 33 (([a0, a1, a2, a3, a4, a5, a6, a7] : List Value).drop 3 |>.take (Tryz.prog.cellsOf 33)) y3 := hf 3 _ rfl
  rw [show Tryz.prog.cellsOf 33 = 1 by kernel_rfl] at g3
  have p3 := bulk_pos y3.1
  obtain ⟨⟨v3, l3⟩, e3, k3, q3, c3, r3⟩ := dec_sliceW acC (fun a => I64 a.1) mAc Tryz.underlying33 (show Tryz.prog.cellsOf 210 = 2 by kernel_rfl) (by decide) (fun n cs y h => decAc n cs y h) g3
  dsimp only at e3 k3 q3 c3 r3
  obtain ⟨sa3, sc3, hs3⟩ := rd_shape k3
  have sh3 : ∃ a n c, v3 = .slice a n c := ⟨_, _, _, hs3⟩
  try simp at e3
  have g4 : Reads enc Tryz.prog W m 3 (([a0, a1, a2, a3, a4, a5, a6, a7] : List Value).drop 4 |>.take (Tryz.prog.cellsOf 3)) y4 := hf 4 _ rfl
  rw [show Tryz.prog.cellsOf 3 = 1 by kernel_rfl] at g4
  have p4 := bulk_pos y4.1
  obtain ⟨z4, e4, q4, r4⟩ := dec_intW Tryz.underlying3 g4
  try simp at e4
  have g5 : Reads enc Tryz.prog W m 3 (([a0, a1, a2, a3, a4, a5, a6, a7] : List Value).drop 5 |>.take (Tryz.prog.cellsOf 3)) y5 := hf 5 _ rfl
  rw [show Tryz.prog.cellsOf 3 = 1 by kernel_rfl] at g5
  have p5 := bulk_pos y5.1
  obtain ⟨z5, e5, q5, r5⟩ := dec_intW Tryz.underlying3 g5
  try simp at e5
  have g6 : Reads enc Tryz.prog W m 25 (([a0, a1, a2, a3, a4, a5, a6, a7] : List Value).drop 6 |>.take (Tryz.prog.cellsOf 25)) y6 := hf 6 _ rfl
  rw [show Tryz.prog.cellsOf 25 = 1 by kernel_rfl] at g6
  have p6 := bulk_pos y6.1
  obtain ⟨z6, e6, q6, r6⟩ := dec_intW Tryz.underlying25 g6
  try simp at e6
  have g7 : Reads enc Tryz.prog W m 34 (([a0, a1, a2, a3, a4, a5, a6, a7] : List Value).drop 7 |>.take (Tryz.prog.cellsOf 34)) y7 := hf 7 _ rfl
  rw [show Tryz.prog.cellsOf 34 = 1 by kernel_rfl] at g7
  have p7 := bulk_pos y7.1
  obtain ⟨z7, e7, s7⟩ : ∃ z : Value, a7 = z ∧ ∃ a n c, z = .slice a n c := ⟨_, rfl, slice_shape Tryz.underlying34 g7⟩
  try simp at e7
  subst e0
  subst e1
  subst e2
  subst e3
  subst e4
  subst e5
  subst e6
  subst e7
  exact ⟨⟨z0, z1, z2, a3, l3, z4, z5, z6, a7⟩, rfl, ⟨q0, q4, q5, q6, k3, sh3, s7, q3⟩, by unfold mPt; dsimp only; omega⟩
set_option maxRecDepth 100000 in
theorem decPtD {H : Type} {enc : TypeId × Value → H} {W : World} (n : Nat) (cs : List Value) (y : DataW H × List MemPlace) (h : Reads enc Tryz.prog W n 36 cs y) : ∃ (y0 : Pt) (l : List Pt), cs = ptC y0 ∧ PtQ (Old W) y0 ∧ (∀ h : Hp, Old W h → rdS 8 h y0.subsV l.length (l.flatMap ptC)) ∧ (∀ q ∈ l, PtQ (Old W) q) ∧ mPt y0 + (l.map mPt).sum ≤ Rows.uptoBulk y.1 := by
  obtain ⟨xs, m, -, rfl, hlen, hxs, hf⟩ := DataW.trod_struct Tryz.underlying36 h
  rw [show Tryz.prog.cellsOf 36 = 8 by kernel_rfl] at hlen
  obtain ⟨a0, a1, a2, a3, a4, a5, a6, a7, rfl⟩ : ∃ a0 a1 a2 a3 a4 a5 a6 a7, cs = [a0, a1, a2, a3, a4, a5, a6, a7] := by
    match cs, hlen with
    | [a0, a1, a2, a3, a4, a5, a6, a7], _ => exact ⟨a0, a1, a2, a3, a4, a5, a6, a7, rfl⟩
  obtain ⟨y0, y1, y2, y3, y4, y5, y6, y7, rfl⟩ : ∃ y0 y1 y2 y3 y4 y5 y6 y7, xs = [y0, y1, y2, y3, y4, y5, y6, y7] := by
    match xs, hxs with
    | [y0, y1, y2, y3, y4, y5, y6, y7], _ => exact ⟨y0, y1, y2, y3, y4, y5, y6, y7, rfl⟩
  simp only [Rows.uptoBulk, Rows.uptoBulkAll, List.map_cons, List.map_nil]
  have g0 : Reads enc Tryz.prog W m 3 (([a0, a1, a2, a3, a4, a5, a6, a7] : List Value).drop 0 |>.take (Tryz.prog.cellsOf 3)) y0 := hf 0 _ rfl
  rw [show Tryz.prog.cellsOf 3 = 1 by kernel_rfl] at g0
  have p0 := bulk_pos y0.1
  obtain ⟨z0, e0, q0, r0⟩ := dec_intW Tryz.underlying3 g0
  try simp at e0
  have g1 : Reads enc Tryz.prog W m 9 (([a0, a1, a2, a3, a4, a5, a6, a7] : List Value).drop 1 |>.take (Tryz.prog.cellsOf 9)) y1 := hf 1 _ rfl
  rw [show Tryz.prog.cellsOf 9 = 1 by kernel_rfl] at g1
  have p1 := bulk_pos y1.1
  obtain ⟨z1, e1, r1⟩ := dec_strW Tryz.underlying9 g1
  try simp at e1
  have g2 : Reads enc Tryz.prog W m 9 (([a0, a1, a2, a3, a4, a5, a6, a7] : List Value).drop 2 |>.take (Tryz.prog.cellsOf 9)) y2 := hf 2 _ rfl
  rw [show Tryz.prog.cellsOf 9 = 1 by kernel_rfl] at g2
  have p2 := bulk_pos y2.1
  obtain ⟨z2, e2, r2⟩ := dec_strW Tryz.underlying9 g2
  try simp at e2
  have g3 : Reads enc Tryz.prog W m 33 (([a0, a1, a2, a3, a4, a5, a6, a7] : List Value).drop 3 |>.take (Tryz.prog.cellsOf 33)) y3 := hf 3 _ rfl
  rw [show Tryz.prog.cellsOf 33 = 1 by kernel_rfl] at g3
  have p3 := bulk_pos y3.1
  obtain ⟨⟨v3, l3⟩, e3, k3, q3, c3, r3⟩ := dec_sliceW acC (fun a => I64 a.1) mAc Tryz.underlying33 (show Tryz.prog.cellsOf 210 = 2 by kernel_rfl) (by decide) (fun n cs y h => decAc n cs y h) g3
  dsimp only at e3 k3 q3 c3 r3
  obtain ⟨sa3, sc3, hs3⟩ := rd_shape k3
  have sh3 : ∃ a n c, v3 = .slice a n c := ⟨_, _, _, hs3⟩
  try simp at e3
  have g4 : Reads enc Tryz.prog W m 3 (([a0, a1, a2, a3, a4, a5, a6, a7] : List Value).drop 4 |>.take (Tryz.prog.cellsOf 3)) y4 := hf 4 _ rfl
  rw [show Tryz.prog.cellsOf 3 = 1 by kernel_rfl] at g4
  have p4 := bulk_pos y4.1
  obtain ⟨z4, e4, q4, r4⟩ := dec_intW Tryz.underlying3 g4
  try simp at e4
  have g5 : Reads enc Tryz.prog W m 3 (([a0, a1, a2, a3, a4, a5, a6, a7] : List Value).drop 5 |>.take (Tryz.prog.cellsOf 3)) y5 := hf 5 _ rfl
  rw [show Tryz.prog.cellsOf 3 = 1 by kernel_rfl] at g5
  have p5 := bulk_pos y5.1
  obtain ⟨z5, e5, q5, r5⟩ := dec_intW Tryz.underlying3 g5
  try simp at e5
  have g6 : Reads enc Tryz.prog W m 25 (([a0, a1, a2, a3, a4, a5, a6, a7] : List Value).drop 6 |>.take (Tryz.prog.cellsOf 25)) y6 := hf 6 _ rfl
  rw [show Tryz.prog.cellsOf 25 = 1 by kernel_rfl] at g6
  have p6 := bulk_pos y6.1
  obtain ⟨z6, e6, q6, r6⟩ := dec_intW Tryz.underlying25 g6
  try simp at e6
  have g7 : Reads enc Tryz.prog W m 34 (([a0, a1, a2, a3, a4, a5, a6, a7] : List Value).drop 7 |>.take (Tryz.prog.cellsOf 34)) y7 := hf 7 _ rfl
  rw [show Tryz.prog.cellsOf 34 = 1 by kernel_rfl] at g7
  have p7 := bulk_pos y7.1
  obtain ⟨⟨v7, l7⟩, e7, k7, q7, c7, r7⟩ := dec_sliceW ptC (fun q => PtQ (Old W) q) mPt Tryz.underlying34 (show Tryz.prog.cellsOf 36 = 8 by kernel_rfl) (by decide) (fun n cs y h => decPt n cs y h) g7
  dsimp only at e7 k7 q7 c7 r7
  obtain ⟨sa7, sc7, hs7⟩ := rd_shape k7
  have sh7 : ∃ a n c, v7 = .slice a n c := ⟨_, _, _, hs7⟩
  try simp at e7
  subst e0
  subst e1
  subst e2
  subst e3
  subst e4
  subst e5
  subst e6
  subst e7
  exact ⟨⟨z0, z1, z2, a3, l3, z4, z5, z6, a7⟩, l7, rfl, ⟨q0, q4, q5, q6, k3, sh3, sh7, q3⟩, k7, q7, by unfold mPt; dsimp only; unfold mPt at r7; omega⟩
set_option maxRecDepth 100000 in
theorem decEn {H : Type} {enc : TypeId × Value → H} {W : World} (n : Nat) (cs : List Value) (y : DataW H × List MemPlace) (h : Reads enc Tryz.prog W n 38 cs y) : ∃ e : En, cs = enC e ∧ EnQ (Old W) e ∧ mEn e ≤ Rows.uptoBulk y.1 := by
  obtain ⟨xs, m, -, rfl, hlen, hxs, hf⟩ := DataW.trod_struct Tryz.underlying38 h
  rw [show Tryz.prog.cellsOf 38 = 11 by kernel_rfl] at hlen
  obtain ⟨a0, a1, a2, a3, a4, a5, a6, a7, a8, a9, a10, rfl⟩ : ∃ a0 a1 a2 a3 a4 a5 a6 a7 a8 a9 a10, cs = [a0, a1, a2, a3, a4, a5, a6, a7, a8, a9, a10] := by
    match cs, hlen with
    | [a0, a1, a2, a3, a4, a5, a6, a7, a8, a9, a10], _ => exact ⟨a0, a1, a2, a3, a4, a5, a6, a7, a8, a9, a10, rfl⟩
  obtain ⟨y0, y1, y2, y3, rfl⟩ : ∃ y0 y1 y2 y3, xs = [y0, y1, y2, y3] := by
    match xs, hxs with
    | [y0, y1, y2, y3], _ => exact ⟨y0, y1, y2, y3, rfl⟩
  simp only [Rows.uptoBulk, Rows.uptoBulkAll, List.map_cons, List.map_nil]
  have g0 : Reads enc Tryz.prog W m 3 (([a0, a1, a2, a3, a4, a5, a6, a7, a8, a9, a10] : List Value).drop 0 |>.take (Tryz.prog.cellsOf 3)) y0 := hf 0 _ rfl
  rw [show Tryz.prog.cellsOf 3 = 1 by kernel_rfl] at g0
  have p0 := bulk_pos y0.1
  obtain ⟨z0, e0, q0, r0⟩ := dec_intW Tryz.underlying3 g0
  try simp at e0
  have g1 : Reads enc Tryz.prog W m 3 (([a0, a1, a2, a3, a4, a5, a6, a7, a8, a9, a10] : List Value).drop 1 |>.take (Tryz.prog.cellsOf 3)) y1 := hf 1 _ rfl
  rw [show Tryz.prog.cellsOf 3 = 1 by kernel_rfl] at g1
  have p1 := bulk_pos y1.1
  obtain ⟨z1, e1, q1, r1⟩ := dec_intW Tryz.underlying3 g1
  try simp at e1
  have g2 : Reads enc Tryz.prog W m 3 (([a0, a1, a2, a3, a4, a5, a6, a7, a8, a9, a10] : List Value).drop 2 |>.take (Tryz.prog.cellsOf 3)) y2 := hf 2 _ rfl
  rw [show Tryz.prog.cellsOf 3 = 1 by kernel_rfl] at g2
  have p2 := bulk_pos y2.1
  obtain ⟨z2, e2, q2, r2⟩ := dec_intW Tryz.underlying3 g2
  try simp at e2
  have g3 : Reads enc Tryz.prog W m 36 (([a0, a1, a2, a3, a4, a5, a6, a7, a8, a9, a10] : List Value).drop 3 |>.take (Tryz.prog.cellsOf 36)) y3 := hf 3 _ rfl
  rw [show Tryz.prog.cellsOf 36 = 8 by kernel_rfl] at g3
  have p3 := bulk_pos y3.1
  obtain ⟨z3, l3, e3, q3, k3, s3, r3⟩ := decPtD _ _ _ g3
  try simp [ptC, enC] at e3
  subst e0
  subst e1
  subst e2
  obtain ⟨rfl, rfl, rfl, rfl, rfl, rfl, rfl, rfl⟩ := e3
  exact ⟨⟨z0, z1, z2, z3, l3⟩, rfl, ⟨q0, q1, q2, q3, k3, s3⟩, by unfold mEn; dsimp only; omega⟩
theorem dec_ents9 {H : Type} {enc : TypeId × Value → H} {W : World} {fuel : Nat} {cs : List Value} {x : DataW H × List MemPlace} (h : Reads enc Tryz.prog W fuel 22 cs x) (hb : Rows.uptoBulk x.1 ≤ 1048576) : ∃ (v : Value) (es : List En), cs = [v] ∧ Ents9 (Old W) v es := by
  obtain ⟨⟨v, es⟩, h1, h2, h3, h4, h5⟩ := dec_sliceW enC (fun e => EnQ (Old W) e) mEn Tryz.underlying22 (show Tryz.prog.cellsOf 38 = 11 by kernel_rfl) (by decide) (fun n cs y h => decEn n cs y h) h
  dsimp only at h1 h2 h3 h4 h5
  exact ⟨v, es, h1, h2, by omega, fun e he => (h3 e he).X (by have := sum_mem (m := mEn) he; omega)⟩
end Go.Proofs.YtidjhgbdokcphaaGreat

/- Own work: ledgerMarks: the walk, brought to the given second form and its card. -/

namespace Go.Proofs.YtidjhgbdokcphaaGreat.ledgerMarks
open Go Go.ChangeShapes Go.WideShapes Go.ChangeAt Go.RowKit
theorem own : ownKnob Tryz.prog.godebug = none := by kernel_rfl
theorem laid : laidOutB Tryz.prog = true := by kernel_rfl
theorem readable : ∀ t ∈ Tryz.f3.params.toList, Tryz.prog.readableRec t = true ∧ t < Tryz.prog.types.size := by
  have h : (Tryz.f3.params.toList.all fun t => Tryz.prog.readableRec t && decide (t < Tryz.prog.types.size)) = true := by kernel_rfl
  intro t ht
  simpa using List.all_eq_true.1 h t ht
set_option maxRecDepth 100000 in
theorem contract (H : Type) (enc : TypeId × Value → H) (W : World) (base : Nat) (args : Array Value) (ds gs : List (DataW H)) (before : List MemPlace)
    (hval : ∀ (j : Nat) t v, Tryz.f3.params[j]? = some t → args[j]? = some v → Value.okWide Tryz.prog W .any base t v)
    (hW : DataW.Whole enc Tryz.prog Tryz.f3.params.toList Rows.ledgerMarksSpec.vars false W args.toList ds gs before) (hk : Rows.uptoSmall H (ds ++ gs) = true) :
    Calls Tryz.prog 3 args W fun e W' => ∃ v, e = .returned v ∧ Rows.ledgerMarksSpec.post enc Tryz.prog Tryz.f3 false true false false W args v W' := by
  have hW' := hW
  obtain ⟨p, q, hA, hV, rfl, hfz, hnd⟩ := hW
  obtain ⟨rfl, -⟩ := trodVars_none hV
  rw [List.append_nil] at hk
  have hpar : Tryz.f3.params = #[22, 3] := Tryz.params3
  rw [hpar] at hval
  have hA' := hA
  rw [hpar] at hA'
  obtain ⟨v0, vs0, d0, ds0, p0, r0, ha0, rfl, rfl, h0, t0⟩ := trodAll_cons hA'
  obtain ⟨v1, vs1, d1, ds1, p1, r1, ha1, rfl, rfl, h1, t1⟩ := trodAll_cons t0
  obtain ⟨hv, rfl, rfl⟩ := trodAll_nil t1
  obtain rfl : args = #[v0, v1] := by
    have e : args.toList = [v0, v1] := by rw [ha0, ha1, hv]
    cases args; simp_all
  have b0 := bulk_small hk (d := d0) (by simp)
  obtain ⟨ad0, nn0, cp0, rfl⟩ := okWide_slice Tryz.underlying22 (hval 0 _ _ rfl rfl)
  obtain ⟨fu0, g0⟩ := h0
  obtain ⟨v0, xs0, e0, q0⟩ := dec_ents9 g0 b0
  simp [Value.cells] at e0
  subst e0
  have b1 := bulk_small hk (d := d1) (by simp)
  obtain ⟨n1, rfl, -, q1⟩ := arg_int Tryz.underlying3 (hval 1 _ _ rfl rfl) h1
  refine (old_calls (ledgerMarks_spec _ xs0 n1 (Old W) q0 q1)).mono fun e W' ⟨he, hb⟩ => ⟨_, he, ?_⟩
  exact settled hW' rfl (fun gs' h => by subst h; rfl) rfl Tryz.underlying4 laid readable hb
set_option maxRecDepth 100000 in
theorem lifted (os : Os) (started : os.Started) (H : Type) (enc : TypeId × Value → H) (F : Stop.Interp) :
    ReturnsInHanded {} Tryz.checked os 3 .any ((Rows.OpenSpec.upto Rows.ledgerMarksSpec).pre6 enc Tryz.prog Tryz.f3 Rows.ledgerMarksUptoRow.domain false) (((Rows.OpenSpec.upto Rows.ledgerMarksSpec).at F).post enc Tryz.prog Tryz.f3 false true false false) := by
  refine returnsInHanded_of_cond (C := Tryz.checked) (s := Rows.OpenSpec.upto Rows.ledgerMarksSpec) (k := Rows.uptoSmall) rfl own started (by kernel_rfl) Tryz.func3
    (OpenSpec.witness (enc := enc) (C := Tryz.checked) (s := Rows.OpenSpec.upto Rows.ledgerMarksSpec) (k := Rows.uptoSmall) rfl false ⟨#[], #[.slice none 0 0, .int .i64 0], []⟩ 8 (by kernel_rfl) (by kernel_rfl) (by kernel_rfl)
      (x := ([.nil, .lit (.int .i64 0)], [], [])) (by kernel_rfl) rfl (by kernel_rfl)) ?_
  intro W base args ds gs before hval hW _ hk _
  exact contract H enc W base args ds gs before hval hW hk
theorem proved : Rows.LedgerMarksUptoSaid :=
  OpenClaim.holds_of_cond 3 Tryz.f3 rfl rfl rfl rfl rfl rfl rfl ⟨rfl, rfl, rfl, rfl, rfl⟩ rfl rfl rfl rfl rfl (by kernel_rfl) Tryz.func3 (by kernel_rfl)
    (of_decide_eq_true (by kernel_rfl)) (by unfold Func.isWrapper; first | (rw [if_pos (by decide +kernel)]; kernel_rfl) | (rw [if_neg (by decide +kernel)]; exact ⟨rfl, rfl⟩))
    (fun os started H enc _ F => lifted os started H enc F)
end Go.Proofs.YtidjhgbdokcphaaGreat.ledgerMarks

