/- Own work: loops over the runes of a string; maps that are nil. -/
import Derived.Test.YtnnbelmpbmfdnaaDoorSlMore
import Derived.Test.YtnnbelmpbmfdnaaDoorSlRange
import Derived.Test.YtnnbelmpbmfdnaaDoorSlCalls
import Derived.Lib.OthersKept
import Derived.Lib.Bytealg
import Derived.Laws.Externs
namespace Go.Proofs.YtnnbelmpbmfdnaaDoor
open Go

section
variable {P : Program} {E : Env} {L R : List HP} {ty : TypeId} {w : World}
abbrev runeR (it : Nat) (s : List UInt8) (pos : Nat) : HP := pt it (.stringIter (bs s) pos)
theorem OpSpec.rangeS {t : TypeId} {x : Operand} {s : List UInt8} (hx : ev E x = some (vstr s)) (ht : P.underlying t = some .string) :
    OpSpec P ⟨none, .range t x, ty, "", #[], none⟩ E [] fun v L' => ∃ it, v = vptr it ∧ L' = [runeR it s 0] := by
  intro ρ w F ha hs
  have hrun : (execOp ρ ⟨none, .range t x, ty, "", #[], none⟩).run P w = .ok (.value (vptr w.heap.size)) { w with heap := w.heap.push (.stringIter (bs s) 0) } := by
    refine run_v ?_
    show (Instr.range t (ρ x)).run P w = _
    rw [ha x _ hx]; exact run_range_string w t _ ht
  unfold Runs; rw [hrun]
  exact ⟨_, ⟨_, rfl, rfl⟩, St.new hs _, Keeps.new _ _⟩
theorem OpSpec.nextS {x : Operand} {it pos : Nat} {s : List UInt8} (hx : ev E x = some (vptr it)) :
    OpSpec P ⟨none, .next x true, ty, "", #[], none⟩ E [runeR it s pos] fun v L' => (v = .tuple #[.bool false] ∧ ¬ pos < s.length ∧ L' = [runeR it s pos]) ∨
      (pos < s.length ∧ v = .tuple #[.bool true, vint pos, .int .i32 (Utf8.decode (bs s) pos).1] ∧ L' = [runeR it s (pos + (Utf8.decode (bs s) pos).2)]) := by
  intro ρ w F ha hs
  have hk : w.heap[it]? = some (.stringIter (bs s) pos) := St.pt (L := F) hs
  by_cases h : pos < s.length
  · have hrun : (execOp ρ ⟨none, .next x true, ty, "", #[], none⟩).run P w = .ok (.value (.tuple #[.bool true, vint pos, .int .i32 (Utf8.decode (bs s) pos).1])) (upd w it (.stringIter (bs s) (pos + (Utf8.decode (bs s) pos).2))) := by
      refine run_v ?_
      show (Instr.next (ρ x) true ty).run P w = _
      rw [ha x _ hx]; exact Go.Lib.run_next_any_at w it (bs s) pos ty hk (by rw [bs_size]; exact h)
    unfold Runs; rw [hrun]
    exact ⟨_, .inr ⟨h, rfl, rfl⟩, St.upd (L := F) hs, Keeps.upd _ _ _⟩
  · have hrun : (execOp ρ ⟨none, .next x true, ty, "", #[], none⟩).run P w = .ok (.value (.tuple #[.bool false])) w := by
      refine run_v ?_
      show (Instr.next (ρ x) true ty).run P w = _
      rw [ha x _ hx]; exact Go.Lib.run_next_end_at w it (bs s) pos ty hk (by rw [bs_size]; exact h)
    unfold Runs; rw [hrun]
    exact ⟨_, .inl ⟨rfl, h, rfl⟩, hs, Keeps.refl _⟩
theorem decode_low {s : List UInt8} {pos : Nat} (h : pos < s.length) (hc : (s[pos]).toNat < 128) : Utf8.decode (bs s) pos = ((s[pos]).toNat, 1) :=
  decode_ascii (bs s) pos (by rw [bs_size]; exact h) hc
theorem bs_get {s : List UInt8} {pos : Nat} (h : pos < s.length) : (bs s).get! (pos + 0) = s[pos] := by
  show (bs s).get! pos = _
  show s.toArray[pos]! = _
  rw [getElem!_pos s.toArray pos (by simpa using h)]
  simp
theorem decode_high {s : List UInt8} {pos : Nat} (h : pos < s.length) (hc : ¬ (s[pos]).toNat < 128) : 128 ≤ (Utf8.decode (bs s) pos).1 ∧ 1 ≤ (Utf8.decode (bs s) pos).2 := by
  have e := bs_get h
  simp only [Utf8.decode, e]
  rw [if_neg hc]
  repeat' split
  all_goals first | (simp_all [Utf8.runeError]; done) | (refine ⟨?_, ?_⟩ <;> simp_all [Utf8.runeError] <;> omega)
theorem Quiet.lookupNil {K : Type} [DecidableEq K] {kv : K → Value} {kt et : TypeId} (hl : KeyLaw P kt kv) {t : TypeId} {x y : Operand} {k : K} {z : Value} (hx : ev E x = some (.map none)) (hy : ev E y = some (kv k)) (ht : P.underlying t = some (.map kt et)) (hz : zeroOf P et = some z) :
    Quiet P ⟨none, .lookup t x y false, ty, "", #[], none⟩ E L z := by
  intro ρ w ha hs
  refine run_v ?_
  show (Instr.lookup t (ρ x) (ρ y) false).run P w = _
  rw [ha x _ hx, ha y _ hy]
  unfold Instr.lookup
  rw [run_bind (run_underlying ht)]
  dsimp only
  rw [run_bind run_pure, run_bind (hl.check k _ w), run_bind (hl.find k [] [] w rfl)]
  simp only [posK, Option.bind_none]
  rw [run_bind (run_zero hz), run_bind run_pure]
  rfl
abbrev nilR (it : Nat) : HP := pt it (.mapIter none 0 #[] 0)
theorem OpSpec.rangeNil {t kt et : TypeId} {x : Operand} (hx : ev E x = some (.map none)) (ht : P.underlying t = some (.map kt et)) :
    OpSpec P ⟨none, .range t x, ty, "", #[], none⟩ E [] fun v L' => ∃ it, v = vptr it ∧ L' = [nilR it] := by
  intro ρ w F ha hs
  have hrun : (execOp ρ ⟨none, .range t x, ty, "", #[], none⟩).run P w = .ok (.value (vptr w.heap.size)) { w with heap := w.heap.push (.mapIter none 0 #[] 0) } := by
    refine run_v ?_
    show (Instr.range t (ρ x)).run P w = _
    rw [ha x _ hx]; exact run_range_nilMap w t kt et ht
  unfold Runs; rw [hrun]
  exact ⟨_, ⟨_, rfl, rfl⟩, St.new hs _, Keeps.new _ _⟩
theorem OpSpec.nextNil {x : Operand} {it : Nat} (hx : ev E x = some (vptr it)) :
    OpSpec P ⟨none, .next x false, ty, "", #[], none⟩ E [nilR it] fun v L' => v = .tuple #[.bool false] ∧ L' = [nilR it] := by
  intro ρ w F ha hs
  have hk : w.heap[it]? = some (.mapIter none 0 #[] 0) := St.pt (L := F) hs
  have hrun : (execOp ρ ⟨none, .next x false, ty, "", #[], none⟩).run P w = .ok (.value (.tuple #[.bool false])) w := by
    refine run_v ?_
    show (Instr.next (ρ x) false ty).run P w = _
    rw [ha x _ hx]
    simp only [Instr.next, getObj, Sem.run_bind, Sem.run, hk, Result.andThen]
    rfl
  unfold Runs; rw [hrun]
  exact ⟨_, ⟨rfl, rfl⟩, hs, Keeps.refl _⟩
/-- A call of a function that the model answers itself. -/
theorem Quiet.extern {f : FuncId} {fn : Func} {e : Array Value → Sem Value} {xs : Array Operand} {ts : Array TypeId} {vs : List Value} {v : Value} (hf : P.funcs[f]? = some fn) (hnm : (fn.name == "runtime.NumGoroutine") = false) (hb : fn.body.isNone = true) (hn : Extern.findNext fn = none) (he : Extern.find fn = some e)
    (hx : xs.toList.map (ev E) = vs.map some) (hr : ∀ w, (e vs.toArray).run P w = .ok v w) : Quiet P ⟨none, .call { callee := .value (.func f), args := xs, argTypes := ts }, ty, "", #[], none⟩ E L v := by
  intro ρ w ha _
  have hv : xs.map ρ = vs.toArray := by
    apply Array.ext'
    rw [Array.toList_map]
    exact agree_list ha _ _ hx
  have hfn : ρ (.func f) = .func (.func f) #[] #[] := ha (.func f) _ rfl
  have e1 : (execOp ρ ⟨none, .call { callee := .value (.func f), args := xs, argTypes := ts }, ty, "", #[], none⟩).run P w = (callFunc f vs.toArray).run P w := by
    simp [execOp, resolve, hfn, Deferred.ofValue, invoke, program, Bind.bind, Sem.bind, Pure.pure, Sem.run, hv]
  rw [e1, run_callFunc_extern hf hnm hb hn he, hr]
  rfl
theorem count_run (s : List UInt8) (w : World) : (Extern.BytealgCount.count #[vstr s, .int .u8 47]).run P w = .ok (vint (s.count 47 : Nat)) w := by
  rw [show vstr s = .string (bs s) from rfl, Go.Lib.run_countString]; rfl
def idxZ : List UInt8 → Int
  | [] => -1
  | b :: l => if b = 47 then 0 else if idxZ l = -1 then -1 else idxZ l + 1
theorem idx_eq (s : List UInt8) : Go.Lib.indexByte s 47 = idxZ s := by
  induction s with
  | nil => rfl
  | cons b l ih =>
    unfold Go.Lib.indexByte idxZ
    rw [ih]
    simp
theorem index_run (s : List UInt8) (w : World) : (Extern.BytealgIndexByte.indexByte #[vstr s, .int .u8 47]).run P w = .ok (vint (idxZ s)) w := by
  rw [show vstr s = .string (bs s) from rfl, Go.Lib.run_indexByteString]
  rw [show (bs s).data.toList = s from rfl, show (47 : Int).toNat.toUInt8 = 47 from rfl, idx_eq]
theorem idxZ_at {s : List UInt8} (h : (47 : UInt8) ∈ s) : ∃ k : Nat, idxZ s = k ∧ k < s.length ∧ s = s.take k ++ 47 :: s.drop (k + 1) ∧ (47 : UInt8) ∉ s.take k := by
  induction s with
  | nil => cases h
  | cons b l ih =>
    unfold idxZ
    by_cases hb : b = 47
    · subst hb
      exact ⟨0, by rw [if_pos rfl]; rfl, by simp, by simp, by simp⟩
    · have hl : (47 : UInt8) ∈ l := by
        rcases List.mem_cons.1 h with h | h
        · exact absurd h.symm hb
        · exact h
      obtain ⟨k, e1, e2, e3, e4⟩ := ih hl
      refine ⟨k + 1, ?_, by simp; omega, ?_, ?_⟩
      · rw [if_neg hb, e1, if_neg (by omega)]; omega
      · simp only [List.take_succ_cons, List.drop_succ_cons, List.cons_append]
        rw [← e3]
      · simp only [List.take_succ_cons, List.mem_cons, not_or]
        exact ⟨fun e => hb e.symm, e4⟩
end
end Go.Proofs.YtnnbelmpbmfdnaaDoor
