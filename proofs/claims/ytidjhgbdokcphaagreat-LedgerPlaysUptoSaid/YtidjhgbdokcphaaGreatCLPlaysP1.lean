/- Own work, some of it printed by program, texts that were built one by one: a part of the proof of ledgerPlays.proved. -/
import Derived.Test.YtidjhgbdokcphaaGreatCLPlaysP0
import Derived.Shelf.SlIterI.Nil
import Derived.Shelf.SortM.Plain
import Derived.Shelf.SortM.SortNone
import Derived.Ground.GgzProg
import Derived.Ground.SlgmProg
import Derived.Test.YtidjhgbdokcphaaGreatProg
import Derived.Sort.OwnSortedInts
import Derived.Defers
set_option maxRecDepth 100000
namespace Go.Proofs.YtidjhgbdokcphaaGreat
open Go
structure Rk where
 L : List (List UInt8)
 Old : List (List UInt8)
 Pend : List Bool
 N : Int
 At : Int
 Gone : Bool
structure Rk.Ok (ρ : Rk) : Prop where
 old : ρ.Old.length = ρ.L.length
 pend : ρ.Pend.length = ρ.L.length
 big : ρ.L.length ≤ 32768
 sec : ∀ s ∈ ρ.L, s.length = 64
 olds : ∀ s ∈ ρ.Old, s.length = 64
abbrev rkC (x : Nat) (vL vO vP : Value) (N At : Int) (Gone : Bool) : HP := ptc x [vL, vO, vP, vint N, vint At, .bool Gone] 58
def rkR (x : Nat) (ρ : Rk) : HP := fun h => ∃ v : Value × Value × Value, ρ.Ok ∧ sep [rkC x v.1 v.2.1 v.2.2 ρ.N ρ.At ρ.Gone, strR v.1 ρ.L, strR v.2.1 ρ.Old, boolR v.2.2 ρ.Pend] h
section
variable {W : World} {n : Nat} {ds : List Deferred} {E : Env} {L R : List HP} {X : Act → World → Prop}
theorem G.rkOpen {x : Nat} {ρ : Rk} (hL : Pick (rkR x ρ) L R) (h : ∀ vL vO vP, ρ.Ok → G W n ds E (rkC x vL vO vP ρ.N ρ.At ρ.Gone :: strR vL ρ.L :: strR vO ρ.Old :: boolR vP ρ.Pend :: R) X) : G W n ds E L X :=
 G.focus hL (G.open (q := fun v : Value × Value × Value => [rkC x v.1 v.2.1 v.2.2 ρ.N ρ.At ρ.Gone, strR v.1 ρ.L, strR v.2.1 ρ.Old, boolR v.2.2 ρ.Pend]) (φ := fun _ => ρ.Ok) (fun _ hp => hp) fun v hv => h v.1 v.2.1 v.2.2 hv)
theorem G.rkFold {x : Nat} {ρ : Rk} {l lL lO lP : List Value} {vL vO vP : Value} {nL nO nP : Nat} (hL : Picks [ptc x l 58, slR 9 1 vL nL lL, slR 9 1 vO nO lO, slR 4 1 vP nP lP] L R)
  (h1 : l = [vL, vO, vP, vint ρ.N, vint ρ.At, .bool ρ.Gone]) (h2 : nL = ρ.L.length ∧ lL = strs ρ.L) (h3 : nO = ρ.Old.length ∧ lO = strs ρ.Old) (h4 : nP = ρ.Pend.length ∧ lP = bools ρ.Pend) (hok : ρ.Ok)
  (h : G W n ds E (rkR x ρ :: R) X) : G W n ds E L X := by
 subst h1; obtain ⟨rfl, rfl⟩ := h2; obtain ⟨rfl, rfl⟩ := h3; obtain ⟨rfl, rfl⟩ := h4
 exact G.fold hL (fun _ hp => ⟨(vL, vO, vP), hok, hp⟩) h
end
def Rk.has (ρ : Rk) (n : Int) : Bool := decide (0 ≤ n) && decide (n < ρ.L.length)
def Rk.act (ρ : Rk) : Rk := { ρ with N := ρ.N + 1, Gone := if ρ.At > 0 ∧ ρ.N + 1 = ρ.At then true else ρ.Gone }
def Rk.read (ρ : Rk) (n : Int) : List UInt8 × Int := if ρ.Gone then ([], 2) else if ρ.has n = false then ([], 20) else (ρ.L.getD n.toNat [], 0)
def Rk.write (ρ : Rk) (n : Int) (s : List UInt8) : Rk × Int :=
 if ρ.Gone then (ρ, 2) else if ρ.has n = false ∨ s.length ≠ 64 then (ρ, 20)
 else ({ ρ.act with L := ρ.L.set n.toNat s, Pend := ρ.Pend.set n.toNat true }, if ρ.act.Gone then 2 else 0)
def Rk.sync (ρ : Rk) : Rk × Int :=
 if ρ.Gone then (ρ, 2) else if ρ.act.Gone then (ρ.act, 2) else ({ ρ.act with Old := ρ.L, Pend := ρ.L.map fun _ => false }, 0)
def Rk.arm (ρ : Rk) (n : Int) : Rk × Int :=
 if ρ.Gone then (ρ, 2) else if n < 0 then (ρ, 1) else ({ ρ with At := if n > 0 ∧ n ≤ 4611686018427387904 then ρ.N + n else 0 }, 0)
def Rk.new (n : Nat) : Rk := ⟨List.replicate n zs, List.replicate n zs, List.replicate n false, 0, 0, false⟩
def pendTo (l : List Bool) : Nat → List Int
 | 0 => []
 | i + 1 => if l.getD i false then pendTo l i ++ [(i : Int)] else pendTo l i
def Rk.pending (ρ : Rk) : List Int := pendTo ρ.Pend ρ.Pend.length
def fateOf (how : List Int) (k : Nat) : Int := let n := if k < how.length then how.getD k 0 else 0; if n < 0 then -(n + 1) else n
def Rk.crash1 (ρ : Rk) (f : Int) (i : Nat) : Rk :=
 let b := ((f / 3) % 65).toNat
 let l := if f % 3 = 0 then ρ.L.set i (ρ.Old.getD i []) else if f % 3 = 2 then ρ.L.set i ((ρ.L.getD i []).take b ++ (ρ.Old.getD i []).drop b) else ρ.L
 { ρ with L := l, Old := ρ.Old.set i (l.getD i []), Pend := ρ.Pend.set i false }
theorem pendTo_lt {l : List Bool} : ∀ {i : Nat} {x : Int}, x ∈ pendTo l i → 0 ≤ x ∧ x < i := by
 intro i
 induction i with
 | zero => intro x h; simp [pendTo] at h
 | succ i ih =>
  intro x h
  simp only [pendTo] at h
  split at h
  ·rcases List.mem_append.1 h with h | h
   ·have := ih h; omega
   ·simp at h; omega
  ·have := ih h; omega
theorem pendTo_len (l : List Bool) : ∀ i, (pendTo l i).length ≤ i := by
 intro i
 induction i with
 | zero => simp [pendTo]
 | succ i ih =>
  simp only [pendTo]
  split
  ·simp; omega
  ·omega
def Rk.crashTo (ρ : Rk) (how : List Int) : Nat → Rk
 | 0 => ρ
 | k + 1 => (ρ.crashTo how k).crash1 (fateOf how k) (ρ.pending.getD k 0).toNat
def Rk.crash (ρ : Rk) (how : List Int) : Rk := { ρ.crashTo how ρ.pending.length with Gone := false, At := 0 }
theorem Rk.crash1_len (ρ : Rk) (f : Int) (i : Nat) : (ρ.crash1 f i).L.length = ρ.L.length ∧ (ρ.crash1 f i).Old.length = ρ.Old.length ∧ (ρ.crash1 f i).Pend.length = ρ.Pend.length := by
 refine ⟨?_, by simp [Rk.crash1], by simp [Rk.crash1]⟩
 simp only [Rk.crash1]
 split
 ·simp
 ·split <;> simp
theorem getD_mem64 {l : List (List UInt8)} (h : ∀ s ∈ l, s.length = 64) {i : Nat} (hi : i < l.length) : (l.getD i []).length = 64 := by
 have : l.getD i [] = l[i] := by simp [hi]
 rw [this]; exact h _ (List.getElem_mem _)
theorem Rk.Ok.crash1 {ρ : Rk} (h : ρ.Ok) (f : Int) {i : Nat} (hi : i < ρ.L.length) : (ρ.crash1 f i).Ok := by
 obtain ⟨a, b, c⟩ := ρ.crash1_len f i
 have h1 := getD_mem64 h.sec hi
 have h2 := getD_mem64 h.olds (i := i) (by rw [h.old]; exact hi)
 have hb : ((f / 3) % 65).toNat ≤ 64 := by omega
 have hsec : ∀ s ∈ (ρ.crash1 f i).L, s.length = 64 := by
  intro s hs
  simp only [Rk.crash1] at hs
  split at hs
  ·rcases List.mem_or_eq_of_mem_set hs with hs | rfl
   ·exact h.sec s hs
   ·exact h2
  ·split at hs
   ·rcases List.mem_or_eq_of_mem_set hs with hs | rfl
    ·exact h.sec s hs
    ·rw [List.length_append, List.length_take, List.length_drop, h1, h2]; omega
   ·exact h.sec s hs
 refine ⟨by rw [a, b]; exact h.old, by rw [a, c]; exact h.pend, by rw [a]; exact h.big, hsec, fun s hs => ?_⟩
 have e : (ρ.crash1 f i).Old = ρ.Old.set i ((ρ.crash1 f i).L.getD i []) := rfl
 rw [e] at hs
 rcases List.mem_or_eq_of_mem_set hs with hs | rfl
 ·exact h.olds s hs
 ·exact getD_mem64 hsec (by rw [a]; exact hi)
theorem Rk.pending_lt {ρ : Rk} (h : ρ.Ok) {k : Nat} (hk : k < ρ.pending.length) : 0 ≤ ρ.pending.getD k 0 ∧ (ρ.pending.getD k 0).toNat < ρ.L.length ∧ ρ.pending.getD k 0 < ρ.L.length := by
 have e : ρ.pending.getD k 0 = ρ.pending[k] := by simp [hk]
 have := pendTo_lt (List.getElem_mem hk : ρ.pending[k] ∈ pendTo ρ.Pend ρ.Pend.length)
 have hp := h.pend
 rw [e]; omega
theorem Rk.crashTo_ok {ρ : Rk} (h : ρ.Ok) (how : List Int) : ∀ k, k ≤ ρ.pending.length → (ρ.crashTo how k).Ok ∧ (ρ.crashTo how k).L.length = ρ.L.length := by
 intro k
 induction k with
 | zero => exact fun _ => ⟨h, rfl⟩
 | succ k ih =>
  intro hk
  obtain ⟨h1, h2⟩ := ih (by omega)
  obtain ⟨q0, q1, q2⟩ := Rk.pending_lt h (k := k) (by omega)
  exact ⟨h1.crash1 _ (by rw [h2]; exact q1), by rw [Rk.crashTo, (Rk.crash1_len _ _ _).1, h2]⟩
theorem Rk.crashTo_same (ρ : Rk) (how : List Int) : ∀ k, (ρ.crashTo how k).N = ρ.N ∧ (ρ.crashTo how k).At = ρ.At ∧ (ρ.crashTo how k).Gone = ρ.Gone := by
 intro k
 induction k with
 | zero => exact ⟨rfl, rfl, rfl⟩
 | succ k ih => simpa [Rk.crashTo, Rk.crash1] using ih
theorem fate0 (how : List Int) (hb : ∀ z ∈ how, -9223372036854775808 ≤ z ∧ z ≤ 9223372036854775807) (k : Nat) : 0 ≤ fateOf how k ∧ fateOf how k ≤ 9223372036854775807 := by
 have hz : -9223372036854775808 ≤ (if k < how.length then how.getD k 0 else 0) ∧ (if k < how.length then how.getD k 0 else 0) ≤ 9223372036854775807 := by
  split
  ·rename_i hk
   have e : how.getD k 0 = how[k] := by simp [hk]
   rw [e]; exact hb _ (List.getElem_mem _)
  ·omega
 unfold fateOf
 dsimp only
 split <;> omega
theorem zeros_spec : Fn Tryz.prog 58 #[] [] fun v L => v = vstr zs ∧ L = [] := by
 refine Fn.intro Tryz.func58 rfl rfl fun F W => ?_
 refine .sr (.an rfl (.sr (.oq (.make rfl rfl el_125 ze_5 rfl ⟨by simp, by simp; rfl⟩ ?c2) ?_)))
 case c2 => omega
 rintro v L' ⟨b1_0, rfl, rfl⟩
 refine .q (.bytesPt (cs := zs) rfl Tryz.underlying125 Tryz.underlying5 Tryz.underlying9 (by repeat' constructor) (by show (List.drop 0 (List.replicate (64 * 1) _)).take 64 = _; rw [List.drop_zero]; rfl) (by simp) (by decide)) rfl (.an rfl (.ret ?_))
 exact .vv
theorem ract_spec (x : Nat) (vL vO vP : Value) (N At : Int) (Gone : Bool) (hN : 0 ≤ N ∧ N < 4611686018427387904) : Fn Tryz.prog 121 #[vptr x] [rkC x vL vO vP N At Gone] fun v L => v = .bool (if At > 0 ∧ N + 1 = At then true else Gone) ∧ L = [rkC x vL vO vP (N + 1) At (if At > 0 ∧ N + 1 = At then true else Gone)] := by
 refine Fn.intro Tryz.func121 rfl rfl fun F W => ?_
 refine .sr (.an rfl (.sm rfl (.nf rfl fo_58_3 (.u (.ld rfl ag_3) (.q (.add rfl rfl (by omega)) rfl (.nf rfl fo_58_3 (.st rfl rfl rfl sz_3 ?_)))))))
 refine .nt (.seq (.seq (.draw [] [[0, 1, 2, 3, 4, 5, 6, 7, 8, 9, 10, 11, 12, 13, 14, 15]] mixed (by kernel_rfl) (.g0 (.mv rfl rfl (.nf rfl rfl rfl fo_58_4 (.kv rfl (.ld rfl ag_3) (.kv rfl (.int rfl rfl rfl) (.mv rfl rfl (.dec (t := 15) rfl (fun h2_15 => ?_) (fun h2_15 => ?_)))))))))))
 ·refine D.kDT (t := 14) rfl h2_15 (.gv rfl (.move rfl) (.gv rfl (.nilp rfl) (.gv rfl (.fieldAddr rfl fo_58_3) (.gv rfl (.ld rfl ag_3) (.gv rfl (.move rfl) (.gv rfl (.nilp rfl) (.gv rfl (.fieldAddr rfl fo_58_4) (.gv rfl (.ld rfl ag_3) (.gv rfl (.int rfl rfl rfl) (.kv rfl (.pickT rfl rfl) (.pf (.condD rfl (fun h25 => ?_) (fun h25 => ?_)))))))))))))
  ·refine .region (.m rfl (.nf rfl fo_58_5 (.st rfl rfl rfl sz_4 ?_)))
   refine .nt (.sm rfl (.nf rfl fo_58_5 (.u (.ld rfl ag_4) (.an rfl (.ret ?_)))))
   rw [if_pos ⟨by omega, by omega⟩]
   exact .vv
  refine .sk (.sm rfl (.nf rfl fo_58_5 (.u (.ld rfl ag_4) (.an rfl (.ret ?_)))))
  rw [if_neg (by omega)]
  exact .vv
 refine D.kDF (t := 14) rfl h2_15 (.gz rfl (.gz rfl (.gz rfl (.gz rfl (.gz rfl (.gz rfl (.gz rfl (.gz rfl (.gz rfl (.kv rfl (.pickF rfl rfl) (.pf (.condF rfl (.sk (.sm rfl (.nf rfl fo_58_5 (.u (.ld rfl ag_4) (.an rfl (.ret ?_))))))))))))))))))
 rw [if_neg (by omega)]
 exact .vv
theorem rwrite_spec (x : Nat) (ρ : Rk) (n : Int) (s : List UInt8) (hN : 0 ≤ ρ.N ∧ ρ.N < 4611686018427387904) : Fn Tryz.prog 59 #[vptr x, vint n, vstr s] [rkR x ρ] fun v L => v = vint (ρ.write n s).2 ∧ L = [rkR x (ρ.write n s).1] := by
 refine Fn.intro Tryz.func59 rfl rfl fun F W => ?_
 refine .rkOpen .here fun vL vO vP hok => (.slAny (v := vL) (by repeat' constructor) fun aL cL e lL => ?_)
 subst e
 refine .slAny (v := vP) (by repeat' constructor) fun aP cP e lP => ?_
 subst e
 refine .sr (.an rfl (.seq (.sm rfl (.nf rfl fo_58_5 (.u (.ld rfl ag_4) (.nt (.condB rfl (fun h11 => ?_) (fun h11 => ?_))))))))
 ·refine .sr (.an rfl (.rt ?_))
  have e : ρ.write n s = (ρ, 2) := by unfold Rk.write; simp only [h11, if_true]
  rw [e]
  refine .rkFold (ρ := ρ) (by repeat' constructor) rfl ⟨rfl, rfl⟩ ⟨rfl, rfl⟩ ⟨rfl, rfl⟩ hok ?_
  exact .vv
 refine .sk (.seq (.sm rfl (.ui rfl rfl rfl (.m rfl (.dec (t := 14) rfl (fun h3_14 => ?_) (fun h3_14 => ?_))))))
 ·refine .kDT (t := 13) rfl h3_14 (.gk (.gk (.gk (.gk (.gk (.gk (.gk (.u (.pickT rfl rfl) (.m rfl (.gk (.gk (.gk (.u (.pickT rfl rfl) (.nt (.condT rfl (.sr (.an rfl (.rt ?_))))))))))))))))))
  have e : ρ.write n s = (ρ, 20) := by unfold Rk.write; have hh : ρ.has n = false := (by simp [Rk.has]; omega); simp [h11, hh]
  rw [e]
  refine .rkFold (ρ := ρ) (by repeat' constructor) rfl ⟨rfl, rfl⟩ ⟨rfl, rfl⟩ ⟨rfl, rfl⟩ hok ?_
  exact .vv
 refine .kDF (t := 13) rfl h3_14 (.grun (t := 14) rfl rfl rfl (.m rfl (.grun (t := 14) rfl rfl rfl (.m rfl (.grun (t := 14) rfl rfl rfl (.u (.nilp rfl) (.grun (t := 14) rfl rfl rfl (.u (.fieldAddr rfl fo_58_0) (.grun (t := 14) rfl rfl rfl (.u (.ld rfl ag_46) (.grun (t := 14) rfl rfl rfl (.q (.slen rfl Tryz.underlying46 rfl) rfl (.grun (t := 14) rfl rfl rfl (.ui rfl rfl rfl (.u (.pickF rfl rfl) (.m rfl (.dec (t := 23) rfl (fun h3_23 => ?_) (fun h3_23 => ?_))))))))))))))))))
 ·refine .kDT (t := 21) rfl h3_23 (.kDT (t := 22) rfl h3_23 (.gk (.gk (.gk (.u (.pickT rfl rfl) (.nt (.condT rfl (.sr (.an rfl (.rt ?_))))))))))
  have e : ρ.write n s = (ρ, 20) := by unfold Rk.write; have hh : ρ.has n = false := (by simp [Rk.has]; omega); simp [h11, hh]
  rw [e]
  refine .rkFold (ρ := ρ) (by repeat' constructor) rfl ⟨rfl, rfl⟩ ⟨rfl, rfl⟩ ⟨rfl, rfl⟩ hok ?_
  exact .vv
 refine .kDF (t := 21) rfl h3_23 (.kDF (t := 22) rfl h3_23 (.grun (t := 23) rfl rfl rfl (.m rfl (.grun (t := 23) rfl rfl rfl (.q (.strlen rfl Tryz.underlying9 rfl) rfl (.grun (t := 23) rfl rfl rfl (.ui rfl rfl rfl (.u (.pickF rfl rfl) (.nt (.condN rfl (fun h27 => ?_) (fun h27 => ?_)))))))))))
 ·refine .sr (.an rfl (.rt ?_))
  have e : ρ.write n s = (ρ, 20) := by unfold Rk.write; have hs : s.length ≠ 64 := (by omega); simp [h11, hs]
  rw [e]
  refine .rkFold (ρ := ρ) (by repeat' constructor) rfl ⟨rfl, rfl⟩ ⟨rfl, rfl⟩ ⟨rfl, rfl⟩ hok ?_
  exact .vv
 obtain ⟨q0, q1, q2⟩ : 0 ≤ n ∧ n < ρ.L.length ∧ n.toNat < ρ.L.length := by omega
 have hh : ρ.has n = true := by simp [Rk.has]; omega
 refine .sk (.sm rfl (.oq (.c Tryz.func121 [_] (ract_spec _ _ _ _ _ _ _ ?hN26)) ?_))
 case hN26 => omega
 rintro v L' ⟨rfl, rfl⟩
 refine .an rfl (.seq (.slShape (v := .slice aL _ cL) (by repeat' constructor) (by omega) fun bL cL' e mL _ => ?_))
 simp only [Value.slice.injEq, true_and] at e
 obtain ⟨rfl, rfl⟩ := e
 refine .region (.m rfl (.nf rfl fo_58_0 (.u (.ld rfl ag_46) (.m rfl (.m rfl (.q (.indexAddr rfl rfl el_46 (by omega)) rfl (.oq (.storeEl (i := n.toNat * 1) rfl rfl rfl sz_9 ?hi36) ?_)))))))
 case hi36 => omega
 rintro v L' rfl
 refine .nt (.seq ?_)
 have hp := hok.pend
 refine .slShape (v := .slice aP _ cP) (by repeat' constructor) (by omega) fun bP cP' e mP _ => ?_
 simp only [Value.slice.injEq, true_and] at e
 obtain ⟨rfl, rfl⟩ := e
 refine .region (.m rfl (.nf rfl fo_58_2 (.u (.ld rfl ag_56) (.m rfl (.q (.indexAddr rfl rfl el_56 (by omega)) rfl (.oq (.storeEl (i := n.toNat * 1) rfl rfl rfl sz_4 ?hi44) ?_))))))
 case hi44 => omega
 rintro v L' rfl
 refine .nt (.seq (.sm rfl (.nt (.condB rfl (fun h43 => ?_) (fun h43 => ?_)))))
 ·refine .sr (.an rfl (.rt ?_))
  have e : ρ.write n s = ({ ρ.act with L := ρ.L.set n.toNat s, Pend := ρ.Pend.set n.toNat true }, if ρ.act.Gone then 2 else 0) := by unfold Rk.write; have hs : s.length = 64 := (by omega); simp [h11, hh, hs]
  rw [e]
  have hg : ρ.act.Gone = true := by simpa [Rk.act] using h43
  rw [hg]
  refine .rkFold (ρ := { ρ.act with L := ρ.L.set n.toNat s, Pend := ρ.Pend.set n.toNat true }) (by repeat' constructor) rfl ⟨by simp, by simp [List.map_set]⟩ ⟨rfl, rfl⟩ ⟨by simp, by simp [List.map_set]⟩ ⟨by simpa [Rk.act] using hok.old, by simpa using hok.pend, by simpa using hok.big, fun t ht => (List.mem_or_eq_of_mem_set ht).elim (hok.sec t) (fun h => by rw [h]; omega), hok.olds⟩ ?_
  exact .vv
 refine .sk (.sr (.an rfl (.ret ?_)))
 have e : ρ.write n s = ({ ρ.act with L := ρ.L.set n.toNat s, Pend := ρ.Pend.set n.toNat true }, if ρ.act.Gone then 2 else 0) := by unfold Rk.write; have hs : s.length = 64 := (by omega); simp [h11, hh, hs]
 rw [e]
 have hg : ρ.act.Gone = false := by simpa [Rk.act] using h43
 rw [hg]
 refine .rkFold (ρ := { ρ.act with L := ρ.L.set n.toNat s, Pend := ρ.Pend.set n.toNat true }) (by repeat' constructor) rfl ⟨by simp, by simp [List.map_set]⟩ ⟨rfl, rfl⟩ ⟨by simp, by simp [List.map_set]⟩ ⟨by simpa [Rk.act] using hok.old, by simpa using hok.pend, by simpa using hok.big, fun t ht => (List.mem_or_eq_of_mem_set ht).elim (hok.sec t) (fun h => by rw [h]; omega), hok.olds⟩ ?_
 exact .vv
theorem rread_spec (x : Nat) (ρ : Rk) (n : Int) : Fn Tryz.prog 92 #[vptr x, vint n] [rkR x ρ] fun v L => v = .tuple #[vstr (ρ.read n).1, vint (ρ.read n).2] ∧ L = [rkR x ρ] := by
 refine Fn.intro Tryz.func92 rfl rfl fun F W => ?_
 refine .rkOpen .here fun vL vO vP hok => (.slAny (v := vL) (by repeat' constructor) fun aL cL e lL => ?_)
 subst e
 refine .sr (.a rfl (.an rfl (.seq (.sm rfl (.nf rfl fo_58_5 (.u (.ld rfl ag_4) (.nt (.condB rfl (fun h9 => ?_) (fun h9 => ?_)))))))))
 ·refine .sr (.a rfl (.an rfl (.rt ?_)))
  have e : ρ.read n = ([], 2) := by unfold Rk.read; simp only [h9, if_true]
  rw [e]
  refine .rkFold (ρ := ρ) (by repeat' constructor) rfl ⟨rfl, rfl⟩ ⟨rfl, rfl⟩ ⟨rfl, rfl⟩ hok ?_
  exact .vv
 refine .sk (.seq (.sm rfl (.ui rfl rfl rfl (.m rfl (.dec (t := 12) rfl (fun h3_12 => ?_) (fun h3_12 => ?_))))))
 ·refine .kDT (t := 11) rfl h3_12 (.gk (.gk (.gk (.gk (.gk (.gk (.gk (.u (.pickT rfl rfl) (.nt (.condT rfl (.sr (.a rfl (.an rfl (.rt ?_))))))))))))))
  have e : ρ.read n = ([], 20) := by unfold Rk.read; have hh : ρ.has n = false := (by simp [Rk.has]; omega); simp [h9, hh]
  rw [e]
  refine .rkFold (ρ := ρ) (by repeat' constructor) rfl ⟨rfl, rfl⟩ ⟨rfl, rfl⟩ ⟨rfl, rfl⟩ hok ?_
  exact .vv
 refine .kDF (t := 11) rfl h3_12 (.grun (t := 12) rfl rfl rfl (.m rfl (.grun (t := 12) rfl rfl rfl (.m rfl (.grun (t := 12) rfl rfl rfl (.u (.nilp rfl) (.grun (t := 12) rfl rfl rfl (.u (.fieldAddr rfl fo_58_0) (.grun (t := 12) rfl rfl rfl (.u (.ld rfl ag_46) (.grun (t := 12) rfl rfl rfl (.q (.slen rfl Tryz.underlying46 rfl) rfl (.grun (t := 12) rfl rfl rfl (.ui rfl rfl rfl (.u (.pickF rfl rfl) (.nt (.condD rfl (fun h20 => ?_) (fun h20 => ?_))))))))))))))))))
 ·refine .sr (.a rfl (.an rfl (.rt ?_)))
  have e : ρ.read n = ([], 20) := by unfold Rk.read; have hh : ρ.has n = false := (by simp [Rk.has]; omega); simp [h9, hh]
  rw [e]
  refine .rkFold (ρ := ρ) (by repeat' constructor) rfl ⟨rfl, rfl⟩ ⟨rfl, rfl⟩ ⟨rfl, rfl⟩ hok ?_
  exact .vv
 obtain ⟨q0, q1, q2⟩ : 0 ≤ n ∧ n < ρ.L.length ∧ n.toNat < ρ.L.length := by omega
 have hh : ρ.has n = true := by simp [Rk.has]; omega
 refine .sk (.seq (.slShape (v := .slice aL _ cL) (by repeat' constructor) (by omega) fun bL cL' e mL _ => ?_))
 simp only [Value.slice.injEq, true_and] at e
 obtain ⟨rfl, rfl⟩ := e
 refine .region (.m rfl (.nf rfl fo_58_0 (.u (.ld rfl ag_46) (.m rfl (.q (.indexAddr rfl rfl el_46 (by omega)) rfl (.q (.loadSl (v := vstr ρ.L[n.toNat]) (i := n.toNat * 1) rfl ag_9 (by repeat' constructor) (by simp [q2])) rfl (.a rfl (.an rfl (.ret ?_)))))))))
 have e : ρ.read n = (ρ.L[n.toNat], 0) := by unfold Rk.read; simp [h9, hh, q2]
 rw [e]
 refine .rkFold (ρ := ρ) (by repeat' constructor) rfl ⟨rfl, rfl⟩ ⟨rfl, rfl⟩ ⟨rfl, rfl⟩ hok ?_
 exact .vv
theorem rarm_spec (x : Nat) (ρ : Rk) (n : Int) (hN : 0 ≤ ρ.N ∧ ρ.N < 4611686018427387904) (hn : n ≤ 9223372036854775807) : Fn Tryz.prog 84 #[vptr x, vint n] [rkR x ρ] fun v L => v = vint (ρ.arm n).2 ∧ L = [rkR x (ρ.arm n).1] := by
 refine Fn.intro Tryz.func84 rfl rfl fun F W => ?_
 refine .rkOpen .here fun vL vO vP hok => (.sr (.an rfl (.seq (.sm rfl (.nf rfl fo_58_5 (.u (.ld rfl ag_4) (.nt (.condB rfl (fun h8 => ?_) (fun h8 => ?_)))))))))
 ·refine .sr (.an rfl (.rt ?_))
  have e : ρ.arm n = (ρ, 2) := by unfold Rk.arm; simp only [h8, if_true]
  rw [e]
  refine .rkFold (ρ := ρ) (by repeat' constructor) rfl ⟨rfl, rfl⟩ ⟨rfl, rfl⟩ ⟨rfl, rfl⟩ ⟨hok.old, hok.pend, hok.big, hok.sec, hok.olds⟩ ?_
  exact .vv
 refine .sk (.seq (.sm rfl (.ui rfl rfl rfl (.nt (.condD rfl (fun h10 => ?_) (fun h10 => ?_))))))
 ·refine .sr (.an rfl (.rt ?_))
  have e : ρ.arm n = (ρ, 1) := by unfold Rk.arm; simp [h8, h10]
  rw [e]
  refine .rkFold (ρ := ρ) (by repeat' constructor) rfl ⟨rfl, rfl⟩ ⟨rfl, rfl⟩ ⟨rfl, rfl⟩ ⟨hok.old, hok.pend, hok.big, hok.sec, hok.olds⟩ ?_
  exact .vv
 refine .sk (.sm rfl (.nf rfl fo_58_4 (.st rfl rfl rfl sz_3 ?_)))
 refine .nt (.seq (.sm rfl (.ui rfl rfl rfl (.m rfl (.dec (t := 16) rfl (fun h6_16 => ?_) (fun h6_16 => ?_))))))
 ·refine .kDT (t := 15) rfl h6_16 (.grun (t := 16) rfl rfl rfl (.m rfl (.grun (t := 16) rfl rfl rfl (.ui rfl rfl rfl (.u (.pickT rfl rfl) (.nt (.condD rfl (fun h19 => ?_) (fun h19 => ?_))))))))
  ·refine .region (.m rfl (.m rfl (.nf rfl fo_58_3 (.u (.ld rfl ag_3) (.m rfl (.q (.add rfl rfl (by omega)) rfl (.nf rfl fo_58_4 (.st rfl rfl rfl sz_3 ?_))))))))
   refine .nt (.sr (.an rfl (.ret ?_)))
   have e : ρ.arm n = ({ ρ with At := ρ.N + n }, 0) := by unfold Rk.arm; have hq : n > 0 ∧ n ≤ 4611686018427387904 := (by omega); simp [h8, h10, hq]
   rw [e]
   refine .rkFold (ρ := { ρ with At := ρ.N + n }) (by repeat' constructor) rfl ⟨rfl, rfl⟩ ⟨rfl, rfl⟩ ⟨rfl, rfl⟩ ⟨hok.old, hok.pend, hok.big, hok.sec, hok.olds⟩ ?_
   exact .vv
  refine .sk (.sr (.an rfl (.ret ?_)))
  have e : ρ.arm n = ({ ρ with At := 0 }, 0) := by unfold Rk.arm; have hq : ¬ (n > 0 ∧ n ≤ 4611686018427387904) := (by omega); rw [if_neg (by rw [h8]; simp), if_neg h10, if_neg hq]
  rw [e]
  refine .rkFold (ρ := { ρ with At := 0 }) (by repeat' constructor) rfl ⟨rfl, rfl⟩ ⟨rfl, rfl⟩ ⟨rfl, rfl⟩ ⟨hok.old, hok.pend, hok.big, hok.sec, hok.olds⟩ ?_
  exact .vv
 refine .kDF (t := 15) rfl h6_16 (.gk (.gk (.u (.pickF rfl rfl) (.nt (.condF rfl (.sk (.sr (.an rfl (.ret ?_)))))))))
 have e : ρ.arm n = ({ ρ with At := 0 }, 0) := by unfold Rk.arm; have hq : ¬ (n > 0 ∧ n ≤ 4611686018427387904) := (by omega); rw [if_neg (by rw [h8]; simp), if_neg h10, if_neg hq]
 rw [e]
 refine .rkFold (ρ := { ρ with At := 0 }) (by repeat' constructor) rfl ⟨rfl, rfl⟩ ⟨rfl, rfl⟩ ⟨rfl, rfl⟩ ⟨hok.old, hok.pend, hok.big, hok.sec, hok.olds⟩ ?_
 exact .vv
theorem rsync_spec (x : Nat) (ρ : Rk) (hN : 0 ≤ ρ.N ∧ ρ.N < 4611686018427387904) : Fn Tryz.prog 61 #[vptr x] [rkR x ρ] fun v L => v = vint ρ.sync.2 ∧ L = [rkR x ρ.sync.1] := by
 refine Fn.intro Tryz.func61 rfl rfl fun F W => ?_
 refine .rkOpen .here fun vL vO vP hok => ?_
 have ho := hok.old
 have hp := hok.pend
 have hbg := hok.big
 refine .slAny (v := vL) (by repeat' constructor) fun aL cL e lL => ?_
 subst e
 refine .slAny (v := vO) (by repeat' constructor) fun aO cO e lO => ?_
 subst e
 refine .slAny (v := vP) (by repeat' constructor) fun aP cP e lP => ?_
 subst e
 refine .sr (.an rfl (.seq (.sm rfl (.nf rfl fo_58_5 (.u (.ld rfl ag_4) (.nt (.condB rfl (fun h8 => ?_) (fun h8 => ?_))))))))
 ·refine .sr (.an rfl (.rt ?_))
  have e : ρ.sync = (ρ, 2) := by unfold Rk.sync; simp only [h8, if_true]
  rw [e]
  refine .rkFold (ρ := ρ) (by repeat' constructor) rfl ⟨rfl, rfl⟩ ⟨rfl, rfl⟩ ⟨rfl, rfl⟩ hok ?_
  exact .vv
 refine .sk (.sm rfl (.oq (.c Tryz.func121 [_] (ract_spec _ _ _ _ _ _ _ ?hN8)) ?_))
 case hN8 => omega
 rintro v L' ⟨rfl, rfl⟩
 refine .an rfl (.seq (.sm rfl (.nt (.condB rfl (fun h11 => ?_) (fun h11 => ?_)))))
 ·refine .sr (.an rfl (.rt ?_))
  have e : ρ.sync = (ρ.act, 2) := by unfold Rk.sync; have hg : ρ.act.Gone = true := (by simpa [Rk.act] using h11); simp [h8, hg]
  rw [e]
  refine .rkFold (ρ := ρ.act) (by repeat' constructor) rfl ⟨rfl, rfl⟩ ⟨rfl, rfl⟩ ⟨rfl, rfl⟩ ⟨hok.old, hok.pend, hok.big, hok.sec, hok.olds⟩ ?_
  exact .vv
 refine .sk (.seq (.sr (.an rfl (.block ?_))))
 have hg : ρ.act.Gone = false := by simpa [Rk.act] using h11
 refine .loop (F := F) (ι := Nat) (fun i => [(0, vptr x), (4, vint i)]) (fun i => [rkC x (.slice aL ρ.L.length cL) (.slice aO ρ.Old.length cO) (.slice aP ρ.Pend.length cP) (ρ.N + 1) ρ.At ρ.act.Gone, strR (.slice aL ρ.L.length cL) ρ.L, slR 9 1 (.slice aO ρ.Old.length cO) ρ.Old.length ((strs ρ.L).take i ++ (strs ρ.Old).drop i), slR 4 1 (.slice aP ρ.Pend.length cP) ρ.Pend.length ((bools (ρ.L.map fun _ => false)).take i ++ (bools ρ.Pend).drop i)]) (fun i => i ≤ ρ.L.length) (fun i => ρ.L.length - i) 0 (Nat.zero_le _) ⟨rfl, rfl, trivial⟩ (by repeat' constructor) (by repeat' constructor) ?_
 intro i hi
 refine .seq (.sm rfl (.m rfl (.nf rfl fo_58_0 (.u (.ld rfl ag_46) (.q (.slen rfl Tryz.underlying46 rfl) rfl (.ui rfl rfl rfl (.nt (.condD rfl (fun h18 => ?_) (fun h18 => ?_)))))))))
 ·have hi2 : i < ρ.L.length := by omega
  refine .sk (.seq (.block (.seq (.slShape (v := .slice aL _ cL) (by repeat' constructor) (by omega) fun bL cL' e mL _ => ?_))))
  simp only [Value.slice.injEq, true_and] at e
  obtain ⟨rfl, rfl⟩ := e
  refine .slShape (v := .slice aO _ cO) (by repeat' constructor) (by omega) fun bO cO' e mO _ => ?_
  simp only [Value.slice.injEq, true_and] at e
  obtain ⟨rfl, rfl⟩ := e
  refine .draw [13] [[0, 1, 2, 3, 4, 5, 6, 7, 8, 9, 10, 11, 12, 13]] mixed (by kernel_rfl) (.g0 (.mv rfl rfl (.nf rfl rfl rfl fo_58_1 (.kv rfl (.ld rfl ag_46) (.mv rfl rfl (.mv rfl rfl (.nf rfl rfl rfl fo_58_0 (.kv rfl (.ld rfl ag_46) (.mv rfl rfl (.kv rfl (.indexAddr rfl rfl el_46 (by omega)) (.kv rfl (.loadSl (v := vstr ρ.L[i]) (i := i * 1) rfl ag_9 (by repeat' constructor) (by simp [hi2])) (.kv rfl (.indexAddr rfl rfl el_46 (by omega)) (.hh rfl (.storeEl (i := i * 1) rfl rfl rfl sz_9 ?hi33) ?_)))))))))))))
  case hi33 => omega
  rintro v L' rfl
  refine D.pf (.slShape (v := .slice aP _ cP) (by repeat' constructor) (by omega) fun bP cP' e mP _ => ?_)
  simp only [Value.slice.injEq, true_and] at e
  obtain ⟨rfl, rfl⟩ := e
  refine .region (.m rfl (.nf rfl fo_58_2 (.u (.ld rfl ag_56) (.m rfl (.q (.indexAddr rfl rfl el_56 (by omega)) rfl (.oq (.storeEl (i := i * 1) rfl rfl rfl sz_4 ?hi41) ?_))))))
  case hi41 => omega
  rintro v L' rfl
  refine .nil (.blk_n (.then_n ?_))
  have e1 : ((strs ρ.L).take i ++ (strs ρ.Old).drop i).set (i * 1) (vstr ρ.L[i]) = (strs ρ.L).take (i + 1) ++ (strs ρ.Old).drop (i + 1) := by have := set_take_drop (l := strs ρ.L) (m := strs ρ.Old) (i := i) (by simpa using hi2) (by simpa using ho); rw [Nat.mul_one, ← this]; simp
  have e2 : ((bools (ρ.L.map fun _ => false)).take i ++ (bools ρ.Pend).drop i).set (i * 1) (.bool false) = (bools (ρ.L.map fun _ => false)).take (i + 1) ++ (bools ρ.Pend).drop (i + 1) := by have := set_take_drop (l := bools (ρ.L.map fun _ => false)) (m := bools ρ.Pend) (i := i) (by simpa using hi2) (by simpa using hp); rw [Nat.mul_one, ← this]; simp
  rw [e1, e2]
  refine .region (.m rfl (.q (.add rfl rfl (by omega)) rfl (.an rfl (.round (i + 1) (by omega) (by omega) ⟨rfl, rfl, trivial⟩ (by repeat' constructor) (by repeat' constructor)))))
 have hi2 : i = ρ.L.length := by omega
 subst hi2
 rw [List.take_of_length_le (by simp), List.take_of_length_le (by simp), List.drop_eq_nil_of_le (by simp; omega), List.drop_eq_nil_of_le (by simp; omega), List.append_nil, List.append_nil]
 refine .exit (.then_e (.then_e (.blk_e (.then_n (.sr (.an rfl (.ret ?_)))))))
 have e : ρ.sync = ({ ρ.act with Old := ρ.L, Pend := ρ.L.map fun _ => false }, 0) := by unfold Rk.sync; simp [h8, hg]
 rw [e]
 refine .rkFold (ρ := { ρ.act with Old := ρ.L, Pend := ρ.L.map fun _ => false }) (by repeat' constructor) rfl ⟨rfl, rfl⟩ ⟨ho, rfl⟩ ⟨by simpa using hp, rfl⟩ ⟨rfl, by simp [Rk.act], hok.big, hok.sec, hok.sec⟩ ?_
 exact .vv
theorem rnew_spec (n : Int) : Fn Tryz.prog 19 #[vint n] [] fun v L => ((n < 16 ∨ 32768 < n) ∧ v = .tuple #[.pointer none, vint 1] ∧ L = []) ∨ ((16 ≤ n ∧ n ≤ 32768) ∧ ∃ x, v = .tuple #[vptr x, vint 0] ∧ L = [rkR x (Rk.new n.toNat)]) := by
 refine Fn.intro Tryz.func19 rfl rfl fun F W => ?_
 refine .sr (.a rfl (.an rfl (.seq (.sm rfl (.ui rfl rfl rfl (.m rfl (.dec (t := 8) rfl (fun h1_8 => ?_) (fun h1_8 => ?_))))))))
 ·refine .kDT (t := 7) rfl h1_8 (.gk (.gk (.u (.pickT rfl rfl) (.nt (.condT rfl (.sr (.a rfl (.an rfl (.rt ?_)))))))))
  exact .dn rfl rfl (.inl ⟨by omega, rfl, rfl⟩)
 refine .kDF (t := 7) rfl h1_8 (.grun (t := 8) rfl rfl rfl (.m rfl (.grun (t := 8) rfl rfl rfl (.ui rfl rfl rfl (.u (.pickF rfl rfl) (.nt (.condD rfl (fun h11 => ?_) (fun h11 => ?_))))))))
 ·refine .sr (.a rfl (.an rfl (.rt ?_)))
  exact .dn rfl rfl (.inl ⟨by omega, rfl, rfl⟩)
 obtain ⟨hn1, hn2⟩ : 16 ≤ n ∧ n ≤ 32768 := by omega
 refine .sk (.sm rfl (.oq (.make rfl rfl el_56 ze_4 rfl ⟨by simp, by simp; rfl⟩ ?c13) ?_))
 case c13 => omega
 rintro v L' ⟨bP, rfl, rfl⟩
 refine .q (.build (us := [(2, _)]) fl_58 ze_58 rfl rfl (by simp [isCell])) rfl (.oq (.box rfl) ?_)
 rintro v L' ⟨x, rfl, rfl⟩
 refine .an rfl (.seq (.sr (.an rfl (.block (.add (slR_nil 9 1) (.add (slR_nil 9 1) (.fold (p := boolR (.slice (some ⟨bP, 0, none⟩) n.toNat n.toNat) (List.replicate n.toNat false)) (.cons (p := ptc bP _ _) (by repeat' constructor) .nil) (fun h hp => by have := sep_pt hp; simpa [boolR, bools] using slR_pt (n := n.toNat) (sz := 1) this (by simp)) (.loop (F := F) (ι := Nat × Value × Value) (fun i => [(0, vint n), (4, vptr x), (5, vint i.1)]) (fun i => [rkC x i.2.1 i.2.2 (.slice (some ⟨bP, 0, none⟩) n.toNat n.toNat) 0 0 false, slR 9 1 i.2.1 i.1 (List.replicate i.1 (vstr zs)), slR 9 1 i.2.2 i.1 (List.replicate i.1 (vstr zs)), boolR (.slice (some ⟨bP, 0, none⟩) n.toNat n.toNat) (List.replicate n.toNat false)]) (fun i => i.1 ≤ n.toNat) (fun i => n.toNat - i.1) (0, .slice none 0 0, .slice none 0 0) (Nat.zero_le _) ⟨rfl, rfl, rfl, trivial⟩ (by repeat' constructor) (by repeat' constructor) ?_))))))))
 rintro ⟨i, vL, vO⟩ hi
 dsimp only at hi ⊢
 refine .seq (.sm rfl (.m rfl (.ui rfl rfl rfl (.nt (.condD rfl (fun h18 => ?_) (fun h18 => ?_))))))
 ·refine .sk (.seq (.block (.seq (.draw [5, 6, 7, 10] [[0, 1, 2, 3, 4, 5, 6, 7], [8, 9, 10]] mixed (by kernel_rfl) (.go [ptc x _ _] (by repeat' constructor) (.k rfl (.move rfl) (.k rfl (.move rfl) (.k rfl (.nilp rfl) (.k rfl (.fieldAddr rfl fo_58_0) (.k rfl (.ld rfl ag_46) (.hh rfl (.c Tryz.func58 [] (zeros_spec)) ?_)))))))))))
  rintro v L' ⟨rfl, rfl⟩
  refine D.hh rfl (.buildSlice1 (vs := [_]) el_46 ze_9 rfl rfl rfl rfl rfl (by decide)) ?_
  rintro v L' ⟨b7_6, rfl, rfl⟩
  refine D.hh rfl (.append1 rfl rfl rfl el_46 ze_9 rfl rfl ?c32 ?c33 (Nat.le_refl _) ?c34 (by decide)) ?_
  case c32 => (first | (simp [isCell]; done) | (simp [isCell, setAll, Value.cells]; done))
  case c33 => rfl
  case c34 => omega
  rintro v L' ⟨⟨a7_7, c7_7, rfl⟩, rfl⟩
  refine D.ph (.g0 (.nf rfl rfl rfl fo_58_0 (.hh rfl (.store rfl rfl rfl sz_46 ?c39 (nfz0 _ _)) ?_)))
  case c39 => first | decide | (simp; omega) | simp
  rintro v L' rfl
  refine D.pf (.draw [5, 6, 7, 10] [[0, 1, 2, 3, 4, 5, 6, 7], [8, 9, 10]] mixed (by kernel_rfl) (.go [ptc x _ _] (by repeat' constructor) (.k rfl (.move rfl) (.k rfl (.move rfl) (.k rfl (.nilp rfl) (.k rfl (.fieldAddr rfl fo_58_1) (.k rfl (.ld rfl ag_46) (.hh rfl (.c Tryz.func58 [] (zeros_spec)) ?_))))))))
  rintro v L' ⟨rfl, rfl⟩
  refine D.hh rfl (.buildSlice1 (vs := [_]) el_46 ze_9 rfl rfl rfl rfl rfl (by decide)) ?_
  rintro v L' ⟨b8_6, rfl, rfl⟩
  refine D.hh rfl (.append1 rfl rfl rfl el_46 ze_9 rfl rfl ?c51 ?c52 (Nat.le_refl _) ?c53 (by decide)) ?_
  case c51 => (first | (simp [isCell]; done) | (simp [isCell, setAll, Value.cells]; done))
  case c52 => rfl
  case c53 => omega
  rintro v L' ⟨⟨a8_7, c8_7, rfl⟩, rfl⟩
  refine D.ph (.g0 (.nf rfl rfl rfl fo_58_1 (.hh rfl (.store rfl rfl rfl sz_46 ?c58 (nfz0 _ _)) ?_)))
  case c58 => first | decide | (simp; omega) | simp
  rintro v L' rfl
  refine D.ph (.fin (.blk_n (.then_n ?_)))
  rw [← List.replicate_succ']
  refine .region (.m rfl (.q (.add rfl rfl (by omega)) rfl (.an rfl (.round (i + 1, Value.slice a7_7 (i + 1) c7_7, Value.slice a8_7 (i + 1) c8_7) (by dsimp only; omega) (by dsimp only; omega) ⟨rfl, rfl, rfl, trivial⟩ (by repeat' constructor) (by repeat' constructor)))))
 have hi2 : i = n.toNat := by omega
 subst hi2
 refine .rkFold (ρ := Rk.new n.toNat) (by repeat' constructor) rfl ⟨by simp [Rk.new], by simp [Rk.new]⟩ ⟨by simp [Rk.new], by simp [Rk.new]⟩ ⟨by simp [Rk.new], by simp [Rk.new]⟩ ⟨by simp [Rk.new], by simp [Rk.new], by simp [Rk.new]; omega, by simp [Rk.new, zs_len], by simp [Rk.new, zs_len]⟩ (.exit (.then_e (.then_e (.blk_e (.then_n (.sm rfl (.a rfl (.an rfl (.ret ?_)))))))))
 exact .dn rfl rfl (.inr ⟨⟨hn1, hn2⟩, x, rfl, rfl⟩)
theorem rpend_spec (x : Nat) (ρ : Rk) : Fn Tryz.prog 89 #[vptr x] [rkR x ρ] fun v L => (∃ a c, v = .slice a ρ.pending.length c) ∧ L = [rkR x ρ, intR v ρ.pending] := by
 refine Fn.intro Tryz.func89 rfl rfl fun F W => ?_
 refine .rkOpen .here fun vL vO vP hok => ?_
 have hp := hok.pend
 have hbg := hok.big
 refine .slAny (v := vP) (by repeat' constructor) fun aP cP e lP => ?_
 subst e
 refine .sr (.an rfl (.sr (.an rfl (.seq (.sr (.an rfl (.block (.add (slR_nil 3 1) (.loop (F := F) (ι := Nat × Option Addr × Nat) (fun i => [(0, vptr x), (3, .slice i.2.1 (pendTo ρ.Pend i.1).length i.2.2), (4, vint i.1)]) (fun i => [rkC x vL vO (.slice aP ρ.Pend.length cP) ρ.N ρ.At ρ.Gone, strR vL ρ.L, strR vO ρ.Old, boolR (.slice aP ρ.Pend.length cP) ρ.Pend, intR (.slice i.2.1 (pendTo ρ.Pend i.1).length i.2.2) (pendTo ρ.Pend i.1)]) (fun i => i.1 ≤ ρ.Pend.length) (fun i => ρ.Pend.length - i.1) (0, none, 0) (Nat.zero_le _) ⟨rfl, rfl, rfl, trivial⟩ (by repeat' constructor) (by repeat' constructor) ?_)))))))))
 rintro ⟨i, a, c⟩ hi
 dsimp only at hi ⊢
 have hpl := pendTo_len ρ.Pend i
 refine .seq (.sm rfl (.m rfl (.nf rfl fo_58_2 (.u (.ld rfl ag_56) (.q (.slen rfl Tryz.underlying56 rfl) rfl (.ui rfl rfl rfl (.nt (.condD rfl (fun h11 => ?_) (fun h11 => ?_)))))))))
 ·have hi2 : i < ρ.Pend.length := by omega
  refine .sk (.seq (.block (.seq (.slShape (v := .slice aP _ cP) (by repeat' constructor) (by omega) fun bP cP' e mP _ => ?_))))
  simp only [Value.slice.injEq, true_and] at e
  obtain ⟨rfl, rfl⟩ := e
  refine .region (.m rfl (.nf rfl fo_58_2 (.u (.ld rfl ag_56) (.m rfl (.q (.indexAddr rfl rfl el_56 (by omega)) rfl (.q (.loadSl (v := .bool ρ.Pend[i]) (i := i * 1) rfl ag_4 (by repeat' constructor) (by simp [hi2])) rfl (.nt (.condB rfl (fun h20 => ?_) (fun h20 => ?_)))))))))
  ·refine .region (.m rfl (.m rfl (.oq (.buildSlice1 (vs := [_]) el_31 ze_3 rfl rfl rfl rfl rfl (by decide)) ?_)))
   rintro v L' ⟨b6_2, rfl, rfl⟩
   refine .oq (.append1 rfl rfl rfl el_31 ze_3 rfl rfl ?c22 ?c23 (Nat.le_refl _) ?c24 (by decide)) ?_
   case c22 => (first | (simp [isCell]; done) | (simp [isCell, setAll, Value.cells]; done))
   case c23 => rfl
   case c24 => omega
   rintro v L' ⟨⟨a6_3, c6_3, rfl⟩, rfl⟩
   refine .a rfl (.nil (.blk_n (.then_n (.region (.m rfl (.q (.add rfl rfl (by omega)) rfl (.an rfl ?_)))))))
   have e1 : pendTo ρ.Pend (i + 1) = pendTo ρ.Pend i ++ [(i : Int)] := by rw [pendTo, if_pos (by simp [h20, hi2])]
   have e2 : (pendTo ρ.Pend i).length + 1 = (pendTo ρ.Pend (i + 1)).length := by rw [e1]; simp
   have e3 : ints (pendTo ρ.Pend i) ++ [vint i] = ints (pendTo ρ.Pend (i + 1)) := by rw [e1]; simp
   rw [e2, e3]
   refine .round (i + 1, a6_3, c6_3) (by dsimp only; omega) (by dsimp only; omega) ⟨rfl, rfl, rfl, trivial⟩ (by repeat' constructor) (by repeat' constructor)
  refine .skip (.blk_n (.then_n (.region (.m rfl (.q (.add rfl rfl (by omega)) rfl (.an rfl ?_))))))
  have e1 : pendTo ρ.Pend i = pendTo ρ.Pend (i + 1) := by rw [pendTo, if_neg (by simp [h20, hi2])]
  rw [e1]
  refine .round (i + 1, a, c) (by dsimp only; omega) (by dsimp only; omega) ⟨rfl, rfl, rfl, trivial⟩ (by repeat' constructor) (by repeat' constructor)
 have hi2 : i = ρ.Pend.length := by omega
 subst hi2
 refine .exit (.then_e (.then_e (.blk_e (.then_n (.sm rfl (.an rfl (.ret (.rkFold (ρ := ρ) (by repeat' constructor) rfl ⟨rfl, rfl⟩ ⟨rfl, rfl⟩ ⟨rfl, rfl⟩ hok ?_))))))))
 exact .dn rfl rfl ⟨⟨_, _, rfl⟩, rfl⟩
theorem rcrash_spec (x : Nat) (ρ : Rk) (hv : Value) (how : List Int) (p : HP) (hr : ∀ h : Hp, p h → rdS 1 h hv how.length (ints how)) (hb : ∀ z ∈ how, -9223372036854775808 ≤ z ∧ z ≤ 9223372036854775807) : Fn Tryz.prog 85 #[vptr x, hv] [rkR x ρ, p] fun v L => v = .tuple #[] ∧ L = [rkR x (ρ.crash how), p] := by
 refine Fn.intro Tryz.func85 rfl rfl fun F W => ?_
 refine .rdAny (p := p) hr (by repeat' constructor) fun ah ch e _ => ?_
 subst e
 refine .sm rfl (.oq (.c Tryz.func89 [_] (rpend_spec x ρ)) ?_)
 rintro v L' ⟨⟨al, cl, rfl⟩, rfl⟩
 refine .an rfl (.seq (.seq (.rkOpen (x := x) (ρ := ρ) (by repeat' constructor) fun vL0 vO0 vP0 hok0 => (.rkFold (ρ := ρ) (by repeat' constructor) rfl ⟨rfl, rfl⟩ ⟨rfl, rfl⟩ ⟨rfl, rfl⟩ hok0 ?_))))
 have hle := pendTo_len ρ.Pend ρ.Pend.length
 have hbg := hok0.big
 have hpd := hok0.pend
 have hle2 : ρ.pending.length ≤ 32768 := by rw [Rk.pending]; omega
 refine .region (.an rfl (.block (.loop (F := F) (ι := Nat) (fun k => [(0, vptr x), (1, .slice ah how.length ch), (4, .slice al ρ.pending.length cl), (5, vint k)]) (fun k => [rkR x (ρ.crashTo how k), p, intR (.slice al ρ.pending.length cl) ρ.pending]) (fun k => k ≤ ρ.pending.length) (fun k => ρ.pending.length - k) 0 (Nat.zero_le _) ⟨rfl, rfl, rfl, rfl, trivial⟩ (by repeat' constructor) (by repeat' constructor) ?_)))
 intro k hk
 refine .seq (.sm rfl (.m rfl (.q (.slen rfl Tryz.underlying31 rfl) rfl (.ui rfl rfl rfl (.nt (.condD rfl (fun h14 => ?_) (fun h14 => ?_)))))))
 ·have hk2 : k < ρ.pending.length := by omega
  have hfb := fate0 how hb k
  refine .sk (.seq (.block (.sr (.an rfl (.seq (.join (F := F) (ι := Unit) (fun _ => [(0, vptr x), (1, .slice ah how.length ch), (4, .slice al ρ.pending.length cl), (5, vint k), (6, vint (if k < how.length then how.getD k 0 else 0))]) (fun _ => [rkR x (ρ.crashTo how k), p, intR (.slice al ρ.pending.length cl) ρ.pending]) (fun _ => True) ?_ (fun _ _ => ?_)))))))
  ·refine .sm rfl (.m rfl (.q (.slen rfl Tryz.underlying31 rfl) rfl (.ui rfl rfl rfl (.nt (.condD rfl (fun h20 => ?_) (fun h20 => ?_))))))
   ·have hk3 : k < how.length := by omega
    refine .rdShape (p := p) hr (by repeat' constructor) (by omega) fun bh oh e => ?_
    subst e
    refine .region (.m rfl (.m rfl (.q (.indexAddr rfl rfl el_31 (by omega)) rfl (.q (.loadEl (p := p) (i := k * 1) (v := vint (how.getD k 0)) rfl ag_3 (by repeat' constructor) hr (by simp [hk3])) rfl (.an rfl ?_)))))
    exact .meet () trivial ⟨rfl, rfl, rfl, rfl, (by show some (vint _) = some (vint _); rw [if_pos (by omega)]), trivial⟩ (by repeat' constructor) (by repeat' constructor)
   refine .sk ?_
   exact .meet () trivial ⟨rfl, rfl, rfl, rfl, (by show some (vint _) = some (vint _); rw [if_neg (by omega)]), trivial⟩ (by repeat' constructor) (by repeat' constructor)
  have hraw : -9223372036854775808 ≤ (if k < how.length then how.getD k 0 else 0) ∧ (if k < how.length then how.getD k 0 else 0) ≤ 9223372036854775807 := by (split; (rename_i hk3; have e : how.getD k 0 = how[k] := (by simp [hk3]); rw [e]; exact hb _ (List.getElem_mem _)); omega)
  refine .seq (.join (F := F) (ι := Unit) (fun _ => [(0, vptr x), (1, .slice ah how.length ch), (4, .slice al ρ.pending.length cl), (5, vint k), (6, vint (fateOf how k))]) (fun _ => [rkR x (ρ.crashTo how k), p, intR (.slice al ρ.pending.length cl) ρ.pending]) (fun _ => True) ?_ (fun _ _ => ?_))
  ·refine .sm rfl (.ui rfl rfl rfl (.nt (.condD rfl (fun h26 => ?_) (fun h26 => ?_))))
   ·refine .region (.m rfl (.q (.add rfl rfl (by omega)) rfl (.q (.neg rfl (by omega)) rfl (.an rfl ?_))))
    exact .meet () trivial ⟨rfl, rfl, rfl, rfl, (by show some (vint _) = some (vint _); unfold fateOf; dsimp only; rw [if_pos h26]), trivial⟩ (by repeat' constructor) (by repeat' constructor)
   refine .sk ?_
   exact .meet () trivial ⟨rfl, rfl, rfl, rfl, (by show some (vint _) = some (vint _); unfold fateOf; dsimp only; rw [if_neg h26]), trivial⟩ (by repeat' constructor) (by repeat' constructor)
  generalize hf : fateOf how k = f at hfb ⊢
  refine .seq (.slShape (v := .slice al _ cl) (by repeat' constructor) (by omega) fun bl cl' e ml _ => ?_)
  simp only [Value.slice.injEq, true_and] at e
  obtain ⟨rfl, rfl⟩ := e
  obtain ⟨w0, w1, w2⟩ := Rk.pending_lt hok0 hk2
  obtain ⟨hok, hlen⟩ := Rk.crashTo_ok hok0 how k (by omega)
  generalize hi : ρ.pending.getD k 0 = i at w0 w1 w2
  generalize hσ : ρ.crashTo how k = σ at hok hlen ⊢
  refine .region (.m rfl (.m rfl (.q (.indexAddr rfl rfl el_31 (by omega)) rfl (.q (.loadSl (v := vint i) (i := k * 1) rfl ag_3 (by repeat' constructor) (by simp [hk2, ← hi])) rfl (.an rfl (.sm rfl (.q (.quoE rfl rfl (by omega) (by omega)) rfl (.q (.remE rfl rfl (by omega) (by omega)) rfl (.an rfl (.seq (.seq (.rkOpen (x := x) (ρ := σ) (by repeat' constructor) fun vL vO vP _ => ?_))))))))))))
  have ho := hok.old
  have hp := hok.pend
  refine .slAny (v := vL) (by repeat' constructor) fun aL cL e lL => ?_
  subst e
  refine .slAny (v := vO) (by repeat' constructor) fun aO cO e lO => ?_
  subst e
  refine .slAny (v := vP) (by repeat' constructor) fun aP cP e lP => ?_
  subst e
  refine .slShape (v := .slice aL _ cL) (by repeat' constructor) (by omega) fun bL cL' e mL _ => ?_
  simp only [Value.slice.injEq, true_and] at e
  obtain ⟨rfl, rfl⟩ := e
  refine .slShape (v := .slice aO _ cO) (by repeat' constructor) (by omega) fun bO cO' e mO _ => ?_
  simp only [Value.slice.injEq, true_and] at e
  obtain ⟨rfl, rfl⟩ := e
  refine .slShape (v := .slice aP _ cP) (by repeat' constructor) (by omega) fun bP cP' e mP _ => ?_
  simp only [Value.slice.injEq, true_and] at e
  obtain ⟨rfl, rfl⟩ := e
  have g1 := getD_mem64 hok.sec (i := i.toNat) (by omega)
  have g2 := getD_mem64 hok.olds (i := i.toNat) (by omega)
  refine .region (.m rfl (.q (.remE rfl rfl (by omega) (by omega)) rfl (.nt (.block (.sr (.ui rfl rfl rfl (.an rfl (.condD rfl (fun h39 => ?_) (fun h39 => ?_)))))))))
  ·refine .draw [13] [[0, 1, 2, 3, 4, 5, 6, 7, 8, 9, 10, 11, 12, 13]] mixed (by kernel_rfl) (.g0 (.mv rfl rfl (.nf rfl rfl rfl fo_58_0 (.kv rfl (.ld rfl ag_46) (.mv rfl rfl (.mv rfl rfl (.nf rfl rfl rfl fo_58_1 (.kv rfl (.ld rfl ag_46) (.mv rfl rfl (.kv rfl (.indexAddr rfl rfl el_46 (by omega)) (.kv rfl (.loadSl (v := vstr (σ.Old.getD i.toNat [])) (i := i.toNat * 1) rfl ag_9 (by repeat' constructor) (by simp [ho, hlen, w1])) (.kv rfl (.indexAddr rfl rfl el_46 (by omega)) (.hh rfl (.storeEl (i := i.toNat * 1) rfl rfl rfl sz_9 ?hi44) ?_)))))))))))))
   case hi44 => omega
   rintro v L' rfl
   refine D.ph (.fin (.blk_n (.then_n (.seq ?_))))
   have c0 := σ.crash1_len f i.toNat
   have eL : (strs σ.L).set (i.toNat * 1) (vstr (σ.Old.getD i.toNat [])) = strs (σ.crash1 f i.toNat).L := by simp [Rk.crash1, h39, List.map_set]
   rw [eL]
   have cl1 : i.toNat < (σ.crash1 f i.toNat).L.length := by rw [c0.1]; omega
   refine .draw [13] [[0, 1, 2, 3, 4, 5, 6, 7, 8, 9, 10, 11, 12, 13]] mixed (by kernel_rfl) (.g0 (.mv rfl rfl (.nf rfl rfl rfl fo_58_1 (.kv rfl (.ld rfl ag_46) (.mv rfl rfl (.mv rfl rfl (.nf rfl rfl rfl fo_58_0 (.kv rfl (.ld rfl ag_46) (.mv rfl rfl (.kv rfl (.indexAddr rfl rfl el_46 (by omega)) (.kv rfl (.loadSl (v := vstr ((σ.crash1 f i.toNat).L.getD i.toNat [])) (i := i.toNat * 1) rfl ag_9 (by repeat' constructor) (by simp [cl1])) (.kv rfl (.indexAddr rfl rfl el_46 (by omega)) (.hh rfl (.storeEl (i := i.toNat * 1) rfl rfl rfl sz_9 ?hi57) ?_)))))))))))))
   case hi57 => omega
   rintro v L' rfl
   refine D.pf (.region (.m rfl (.nf rfl fo_58_2 (.u (.ld rfl ag_56) (.m rfl (.q (.indexAddr rfl rfl el_56 (by omega)) rfl (.oq (.storeEl (i := i.toNat * 1) rfl rfl rfl sz_4 ?hi64) ?_)))))))
   case hi64 => omega
   rintro v L' rfl
   refine .nil (.blk_n (.then_n ?_))
   have hE : σ.crash1 f i.toNat = ρ.crashTo how (k + 1) := by rw [Rk.crashTo, hσ, hf, hi]
   refine .rkFold (ρ := σ.crash1 f i.toNat) (by repeat' constructor) rfl ⟨c0.1.symm, rfl⟩ ⟨c0.2.1.symm, by simp [Rk.crash1, List.map_set]⟩ ⟨c0.2.2.symm, by simp [Rk.crash1, List.map_set]⟩ (hok.crash1 f (by omega)) ?_
   rw [hE]
   refine .region (.m rfl (.q (.add rfl rfl (by omega)) rfl (.an rfl (.round (k + 1) (by omega) (by omega) ⟨rfl, rfl, rfl, rfl, trivial⟩ (by repeat' constructor) (by repeat' constructor)))))
  refine .sr (.ui rfl rfl rfl (.an rfl (.condD rfl (fun h54 => ?_) (fun h54 => ?_))))
  ·refine .draw [25] [[0, 1, 2, 3, 4, 5, 6, 7, 8, 9, 10, 11, 12, 13, 14, 15, 16, 17, 18, 19, 20, 21, 22, 23, 24, 25]] mixed (by kernel_rfl) (.g0 (.mv rfl rfl (.nf rfl rfl rfl fo_58_0 (.kv rfl (.ld rfl ag_46) (.mv rfl rfl (.mv rfl rfl (.nf rfl rfl rfl fo_58_0 (.kv rfl (.ld rfl ag_46) (.mv rfl rfl (.kv rfl (.indexAddr rfl rfl el_46 (by omega)) (.kv rfl (.loadSl (v := vstr (σ.L.getD i.toNat [])) (i := i.toNat * 1) rfl ag_9 (by repeat' constructor) (by simp [hlen, w1])) (.mv rfl rfl (.kv rfl (.strTo rfl rfl Tryz.underlying9 (by rw [g1]; omega)) (.mv rfl rfl (.nf rfl rfl rfl fo_58_1 (.kv rfl (.ld rfl ag_46) (.mv rfl rfl (.kv rfl (.indexAddr rfl rfl el_46 (by omega)) (.kv rfl (.loadSl (v := vstr (σ.Old.getD i.toNat [])) (i := i.toNat * 1) rfl ag_9 (by repeat' constructor) (by simp [ho, hlen, w1])) (.mv rfl rfl ?_))))))))))))))))))))
   refine D.kv rfl (.strFrom rfl rfl Tryz.underlying9 (by rw [g2]; omega)) (.kv rfl (.concat rfl rfl (by simp only [List.length_take, List.length_drop, g1, g2]; omega)) (.kv rfl (.indexAddr rfl rfl el_46 (by omega)) (.hh rfl (.storeEl (i := i.toNat * 1) rfl rfl rfl sz_9 ?hi89) ?_)))
   case hi89 => omega
   rintro v L' rfl
   refine D.ph (.fin (.blk_n (.then_n (.seq ?_))))
   have c0 := σ.crash1_len f i.toNat
   have eL : (strs σ.L).set (i.toNat * 1) (vstr ((σ.L.getD i.toNat []).take (f / 3 % 65).toNat ++ (σ.Old.getD i.toNat []).drop (f / 3 % 65).toNat)) = strs (σ.crash1 f i.toNat).L := by simp [Rk.crash1, h54, List.map_set]
   rw [eL]
   have cl1 : i.toNat < (σ.crash1 f i.toNat).L.length := by rw [c0.1]; omega
   refine .draw [13] [[0, 1, 2, 3, 4, 5, 6, 7, 8, 9, 10, 11, 12, 13]] mixed (by kernel_rfl) (.g0 (.mv rfl rfl (.nf rfl rfl rfl fo_58_1 (.kv rfl (.ld rfl ag_46) (.mv rfl rfl (.mv rfl rfl (.nf rfl rfl rfl fo_58_0 (.kv rfl (.ld rfl ag_46) (.mv rfl rfl (.kv rfl (.indexAddr rfl rfl el_46 (by omega)) (.kv rfl (.loadSl (v := vstr ((σ.crash1 f i.toNat).L.getD i.toNat [])) (i := i.toNat * 1) rfl ag_9 (by repeat' constructor) (by simp [cl1])) (.kv rfl (.indexAddr rfl rfl el_46 (by omega)) (.hh rfl (.storeEl (i := i.toNat * 1) rfl rfl rfl sz_9 ?hi102) ?_)))))))))))))
   case hi102 => omega
   rintro v L' rfl
   refine D.pf (.region (.m rfl (.nf rfl fo_58_2 (.u (.ld rfl ag_56) (.m rfl (.q (.indexAddr rfl rfl el_56 (by omega)) rfl (.oq (.storeEl (i := i.toNat * 1) rfl rfl rfl sz_4 ?hi109) ?_)))))))
   case hi109 => omega
   rintro v L' rfl
   refine .nil (.blk_n (.then_n ?_))
   have hE : σ.crash1 f i.toNat = ρ.crashTo how (k + 1) := by rw [Rk.crashTo, hσ, hf, hi]
   refine .rkFold (ρ := σ.crash1 f i.toNat) (by repeat' constructor) rfl ⟨c0.1.symm, rfl⟩ ⟨c0.2.1.symm, by simp [Rk.crash1, List.map_set]⟩ ⟨c0.2.2.symm, by simp [Rk.crash1, List.map_set]⟩ (hok.crash1 f (by omega)) ?_
   rw [hE]
   refine .region (.m rfl (.q (.add rfl rfl (by omega)) rfl (.an rfl (.round (k + 1) (by omega) (by omega) ⟨rfl, rfl, rfl, rfl, trivial⟩ (by repeat' constructor) (by repeat' constructor)))))
  refine .skip (.blk_n (.then_n (.seq ?_)))
  have c0 := σ.crash1_len f i.toNat
  have eL : strs σ.L = strs (σ.crash1 f i.toNat).L := by simp [Rk.crash1, h39, h54]
  refine .focus (p := slR 9 1 (.slice (some ⟨bL, 0, none⟩) σ.L.length cL) σ.L.length (strs σ.L)) (by repeat' constructor) ?_
  rw [eL]
  have cl1 : i.toNat < (σ.crash1 f i.toNat).L.length := by rw [c0.1]; omega
  refine .draw [13] [[0, 1, 2, 3, 4, 5, 6, 7, 8, 9, 10, 11, 12, 13]] mixed (by kernel_rfl) (.g0 (.mv rfl rfl (.nf rfl rfl rfl fo_58_1 (.kv rfl (.ld rfl ag_46) (.mv rfl rfl (.mv rfl rfl (.nf rfl rfl rfl fo_58_0 (.kv rfl (.ld rfl ag_46) (.mv rfl rfl (.kv rfl (.indexAddr rfl rfl el_46 (by omega)) (.kv rfl (.loadSl (v := vstr ((σ.crash1 f i.toNat).L.getD i.toNat [])) (i := i.toNat * 1) rfl ag_9 (by repeat' constructor) (by simp [cl1])) (.kv rfl (.indexAddr rfl rfl el_46 (by omega)) (.hh rfl (.storeEl (i := i.toNat * 1) rfl rfl rfl sz_9 ?hi124) ?_)))))))))))))
  case hi124 => omega
  rintro v L' rfl
  refine D.pf (.region (.m rfl (.nf rfl fo_58_2 (.u (.ld rfl ag_56) (.m rfl (.q (.indexAddr rfl rfl el_56 (by omega)) rfl (.oq (.storeEl (i := i.toNat * 1) rfl rfl rfl sz_4 ?hi131) ?_)))))))
  case hi131 => omega
  rintro v L' rfl
  refine .nil (.blk_n (.then_n ?_))
  have hE : σ.crash1 f i.toNat = ρ.crashTo how (k + 1) := by rw [Rk.crashTo, hσ, hf, hi]
  refine .rkFold (ρ := σ.crash1 f i.toNat) (by repeat' constructor) rfl ⟨c0.1.symm, rfl⟩ ⟨c0.2.1.symm, by simp [Rk.crash1, List.map_set]⟩ ⟨c0.2.2.symm, by simp [Rk.crash1, List.map_set]⟩ (hok.crash1 f (by omega)) ?_
  rw [hE]
  refine .region (.m rfl (.q (.add rfl rfl (by omega)) rfl (.an rfl (.round (k + 1) (by omega) (by omega) ⟨rfl, rfl, rfl, rfl, trivial⟩ (by repeat' constructor) (by repeat' constructor)))))
 have hk2 : k = ρ.pending.length := by omega
 subst hk2
 obtain ⟨hok, hlen⟩ := Rk.crashTo_ok hok0 how ρ.pending.length (by omega)
 refine .rkOpen (ρ := ρ.crashTo how ρ.pending.length) (by repeat' constructor) fun vL vO vP _ => (.exit (.then_e (.then_e (.blk_e (.then_n (.sm rfl (.nf rfl fo_58_5 (.st rfl rfl rfl sz_4 ?_))))))))
 refine .nt (.region (.m rfl (.nf rfl fo_58_4 (.st rfl rfl rfl sz_3 ?_))))
 refine .nil (.done_n (.rkFold (ρ := ρ.crash how) (by repeat' constructor) rfl ⟨rfl, rfl⟩ ⟨rfl, rfl⟩ ⟨rfl, rfl⟩ ⟨hok.old, hok.pend, hok.big, hok.sec, hok.olds⟩ ?_))
 exact .vv
end Go.Proofs.YtidjhgbdokcphaaGreat
/-
 DERIVED: THE SHELF's CONTRACTS AT THIS DUMP, IN PLAIN WORDS (tools/lay-plain.mjs out of 'YtidjhgbdokcphaaGreatLay.lean', which tools/lay-shelf.mjs wrote): THE SAME DECLARATIONS UNDER THE SAME NAMES: 'import', 'namespace', 'open', 'def', 'theorem' AND NOTHING ELSE: no command of the shelf's: FOR A HAND-IN. Each laying: the table of numbers ('.._ren') and one theorem, a field a fact of the dump's own or the kernel's comparison; each contract: ONE APPLICATION.
-/
namespace Go.Proofs
open Go.Shelf
def Tryz.keysA_ren : Go.Shelf.Ren := ⟨fun | 7 => 136 | 10 => 178 | n => n, fun | 23 => 92 | 26 => 3 | 3 => 123 | 28 => 174 | 0 => 0 | 27 => 173 | 33 => 121 | 4 => 4 | n => n, fun | n => n⟩
theorem Tryz.keysA : Go.Proofs.SlLaysZI.n7 Tryz.prog Tryz.keysA_ren := {
 mixed := by kernel_rfl
 f7 := ⟨Tryz.f136.name, by decide, Tryz.func136.trans (congrArg some (by kernel_rfl))⟩
 f10 := ⟨Tryz.f178.name, by decide, Tryz.func178.trans (congrArg some (by kernel_rfl))⟩
 t0 := Tryz.underlying0
 a0 := Tryz.isAgg0
 z0 := Tryz.sizeOf0
 v0 := Tryz.zeroValue0
 t4 := Tryz.underlying4
 a4 := Tryz.isAgg4
 z4 := Tryz.sizeOf4
 v4 := Tryz.zeroValue4
 t23 := Tryz.underlying92
 a23 := Tryz.isAgg92
 z23 := Tryz.sizeOf92
 v23 := Tryz.zeroValue92
 t26 := Tryz.underlying3
 a26 := Tryz.isAgg3
 z26 := Tryz.sizeOf3
 v26 := Tryz.zeroValue3
 t27 := Tryz.underlying173
 a27 := Tryz.isAgg173
 z27 := Tryz.sizeOf173
 v27 := Tryz.zeroValue173
 t28 := Tryz.underlying174
 a28 := Tryz.isAgg174
 z28 := Tryz.sizeOf174
 v28 := Tryz.zeroValue174
 t33 := Tryz.underlying121
 a33 := Tryz.isAgg121
 z33 := Tryz.sizeOf121
 v33 := Tryz.zeroValue121 }
def Tryz.sortedA_ren : Go.Shelf.Ren := ⟨fun | 6 => 135 | 8 => 176 | 9 => 177 | 11 => 202 | 13 => 204 | 12 => 203 | 23 => 223 | 24 => 224 | 14 => 215 | 15 => 216 | 16 => 217 | 17 => 218 | 18 => 219 | 19 => 220 | 20 => 174 | 21 => 221 | 22 => 222 | 25 => 228 | 26 => 229 | 27 => 230 | 28 => 231 | 29 => 232 | 30 => 201 | 31 => 235 | n => n, fun | 26 => 3 | 28 => 174 | 24 => 31 | 0 => 0 | 3 => 3 | 37 => 39 | 48 => 183 | 50 => 190 | 4 => 4 | 40 => 241 | 39 => 240 | 45 => 130 | 5 => 5 | 9 => 9 | 51 => 249 | 55 => 195 | 57 => 254 | 58 => 106 | 33 => 121 | n => n, fun | n => n⟩
theorem Tryz.sortedA : Go.Proofs.SlLaysZI.n6 Tryz.prog Tryz.sortedA_ren := {
 mixed := by kernel_rfl
 f6 := ⟨Tryz.f135.name, by decide, Tryz.func135.trans (congrArg some (by kernel_rfl))⟩
 f8 := ⟨Tryz.f176.name, by decide, Tryz.func176.trans (congrArg some (by kernel_rfl))⟩
 f11 := ⟨Tryz.f202.name, by decide, Tryz.func202.trans (congrArg some (by kernel_rfl))⟩
 t0 := Tryz.underlying0
 a0 := Tryz.isAgg0
 z0 := Tryz.sizeOf0
 v0 := Tryz.zeroValue0
 t24 := Tryz.underlying31
 a24 := Tryz.isAgg31
 z24 := Tryz.sizeOf31
 v24 := Tryz.zeroValue31
 t26 := Tryz.underlying3
 a26 := Tryz.isAgg3
 z26 := Tryz.sizeOf3
 v26 := Tryz.zeroValue3
 t28 := Tryz.underlying174
 a28 := Tryz.isAgg174
 z28 := Tryz.sizeOf174
 v28 := Tryz.zeroValue174
 i26 := by kernel_rfl }
def Tryz.sortA_ren : Go.Shelf.Ren := ⟨fun | 5 => 177 | 8 => 204 | 7 => 203 | 19 => 223 | 20 => 224 | 10 => 215 | 11 => 216 | 12 => 217 | 13 => 218 | 14 => 219 | 15 => 220 | 16 => 174 | 17 => 221 | 18 => 222 | 30 => 228 | 31 => 229 | 32 => 230 | 33 => 231 | 34 => 232 | 35 => 201 | 40 => 235 | n => n, fun | 23 => 31 | 25 => 3 | 3 => 3 | 32 => 39 | 22 => 31 | 0 => 0 | 44 => 183 | 46 => 190 | 4 => 4 | 36 => 241 | 35 => 240 | 41 => 130 | 5 => 5 | 9 => 9 | 53 => 249 | 57 => 195 | 63 => 254 | 64 => 106 | n => n, fun | n => n⟩
theorem Tryz.sortA : Go.Proofs.SlLaysM.n5 Tryz.prog Tryz.sortA_ren := {
 mixed := by kernel_rfl
 f5 := ⟨Tryz.f177.name, by decide, Tryz.func177.trans (congrArg some (by kernel_rfl))⟩
 f7 := ⟨Tryz.f203.name, by decide, Tryz.func203.trans (congrArg some (by kernel_rfl))⟩
 f8 := Tryz.func204.trans (congrArg some (by kernel_rfl))
 f10 := ⟨Tryz.f215.name, by decide, Tryz.func215.trans (congrArg some (by kernel_rfl))⟩
 f11 := ⟨Tryz.f216.name, by decide, Tryz.func216.trans (congrArg some (by kernel_rfl))⟩
 f12 := ⟨Tryz.f217.name, by decide, Tryz.func217.trans (congrArg some (by kernel_rfl))⟩
 f13 := ⟨Tryz.f218.name, by decide, Tryz.func218.trans (congrArg some (by kernel_rfl))⟩
 f14 := ⟨Tryz.f219.name, by decide, Tryz.func219.trans (congrArg some (by kernel_rfl))⟩
 f15 := ⟨Tryz.f220.name, by decide, Tryz.func220.trans (congrArg some (by kernel_rfl))⟩
 f16 := ⟨Tryz.f174.name, by decide, Tryz.func174.trans (congrArg some (by kernel_rfl))⟩
 f17 := ⟨Tryz.f221.name, by decide, Tryz.func221.trans (congrArg some (by kernel_rfl))⟩
 f18 := ⟨Tryz.f222.name, by decide, Tryz.func222.trans (congrArg some (by kernel_rfl))⟩
 f19 := Tryz.func223.trans (congrArg some (by kernel_rfl))
 f20 := Tryz.func224.trans (congrArg some (by kernel_rfl))
 f30 := ⟨Tryz.f228.name, by decide, Tryz.func228.trans (congrArg some (by kernel_rfl))⟩
 f31 := Tryz.func229.trans (congrArg some (by kernel_rfl))
 f32 := Tryz.func230.trans (congrArg some (by kernel_rfl))
 f33 := ⟨Tryz.f231.name, by decide, Tryz.func231.trans (congrArg some (by kernel_rfl))⟩
 f34 := ⟨Tryz.f232.name, by decide, Tryz.func232.trans (congrArg some (by kernel_rfl))⟩
 f35 := ⟨Tryz.f201.name, by decide, Tryz.func201.trans (congrArg some (by kernel_rfl))⟩
 f40 := ⟨Tryz.f235.name, by decide, Tryz.func235.trans (congrArg some (by kernel_rfl))⟩
 t0 := Tryz.underlying0
 a0 := Tryz.isAgg0
 z0 := Tryz.sizeOf0
 v0 := Tryz.zeroValue0
 t3 := Tryz.underlying3
 a3 := Tryz.isAgg3
 z3 := Tryz.sizeOf3
 v3 := Tryz.zeroValue3
 t4 := Tryz.underlying4
 a4 := Tryz.isAgg4
 z4 := Tryz.sizeOf4
 v4 := Tryz.zeroValue4
 t5 := Tryz.underlying5
 a5 := Tryz.isAgg5
 z5 := Tryz.sizeOf5
 v5 := Tryz.zeroValue5
 t9 := Tryz.underlying9
 a9 := Tryz.isAgg9
 z9 := Tryz.sizeOf9
 v9 := Tryz.zeroValue9
 t22 := Tryz.underlying31
 a22 := Tryz.isAgg31
 z22 := Tryz.sizeOf31
 v22 := Tryz.zeroValue31
 t23 := Tryz.underlying31
 a23 := Tryz.isAgg31
 z23 := Tryz.sizeOf31
 v23 := Tryz.zeroValue31
 t25 := Tryz.underlying3
 a25 := Tryz.isAgg3
 z25 := Tryz.sizeOf3
 v25 := Tryz.zeroValue3
 t32 := Tryz.underlying39
 a32 := Tryz.isAgg39
 z32 := Tryz.sizeOf39
 v32 := Tryz.zeroValue39
 t35 := Tryz.underlying240
 a35 := Tryz.isAgg240
 z35 := Tryz.sizeOf240
 v35 := Tryz.zeroValue240
 t36 := Tryz.underlying241
 a36 := Tryz.isAgg241
 z36 := Tryz.sizeOf241
 v36 := Tryz.zeroValue241
 t41 := Tryz.underlying130
 a41 := Tryz.isAgg130
 z41 := Tryz.sizeOf130
 v41 := Tryz.zeroValue130
 t44 := Tryz.underlying183
 a44 := Tryz.isAgg183
 z44 := Tryz.sizeOf183
 v44 := Tryz.zeroValue183
 t46 := Tryz.underlying190
 a46 := Tryz.isAgg190
 z46 := Tryz.sizeOf190
 v46 := Tryz.zeroValue190
 t53 := Tryz.underlying249
 a53 := Tryz.isAgg249
 z53 := Tryz.sizeOf249
 v53 := Tryz.zeroValue249
 t57 := Tryz.underlying195
 a57 := Tryz.isAgg195
 z57 := Tryz.sizeOf195
 v57 := Tryz.zeroValue195
 t63 := Tryz.underlying254
 a63 := Tryz.isAgg254
 z63 := Tryz.sizeOf254
 v63 := Tryz.zeroValue254
 t64 := Tryz.underlying106
 a64 := Tryz.isAgg106
 z64 := Tryz.sizeOf106
 v64 := Tryz.zeroValue106 }
end Go.Proofs
namespace Go.Proofs.YtidjhgbdokcphaaGreat
open Go Go.RowKit Go.Maps Go.Sort Go.Shelf
theorem sep_more {b : Nat} {o : Obj} {L : List HP} {h h' : Hp} (hs : sep L h) (hnb : h b = none) (hb : h' b = some o) (hle : ∀ c o, h c = some o → h' c = some o) : sep (pt b o :: L) h' := by
 refine ⟨fun c => if c = b then some o else none, h, fun c => ?_, fun c o' e => ?_, hle, if_pos rfl, hs⟩
 ·by_cases e : c = b
  ·exact .inr (e ▸ hnb)
  ·exact .inl (if_neg e)
 ·by_cases hc : c = b
  ·subst hc; simp at e; rw [← e]; exact hb
  ·simp [hc] at e
theorem below_le {w w' : World} (hb : Below w.heap.size w w') (c : Nat) (o : Obj) (h : w.heap[c]? = some o) : w'.heap[c]? = some o := by
 have hlt : c < w.heap.size := by
  rcases Nat.lt_or_ge c w.heap.size with h' | h'
  ·exact h'
  ·rw [Array.getElem?_eq_none h'] at h; cases h
 rw [hb.block c hlt]; exact h
theorem St.below {L : List HP} {w w' : World} (hs : St L w) (hb : Below w.heap.size w w') : St L w' := sep_mono hs (below_le hb)
theorem Keeps.below {w w' : World} (hb : Below w.heap.size w w') : Keeps w w' := ⟨hb.os, hb.tape, hb.output, hb.size⟩
theorem St.own {L : List HP} {w w' : World} {e : TypeId} {sz n : Nat} {v : Value} {xs : List Value} (hs : St L w) (hb : Below w.heap.size w w') (ho : w'.ownsRow w.heap.size e sz v n xs) : St (slR e sz v n xs :: L) w' := by
 obtain ⟨h1, h2⟩ := ho
 rcases h2 with ⟨rfl, rfl⟩ | ⟨g, cap, cur, rfl, hg, hcur, h3, h4, h5, h6⟩
 ·have : xs = [] := by simpa using h1
  subst this
  exact ⟨fun _ => none, _, fun _ => .inl rfl, fun _ _ e => (by cases e), fun _ _ e => e, slR_nil _ _ _, hs.below hb⟩
 ·have hnone : w.heap[g]? = none := Array.getElem?_eq_none hg
  refine sep_imp (fun h hp => ?_) (sep_more (o := .cells cur e (0, 0)) hs hnone hcur (below_le hb))
  refine .inr ⟨g, cap, cur.toList.drop (n * sz), (0, 0), rfl, ?_, h1, ?_, h3, nfz0 _ _⟩
  ·have : (xs ++ cur.toList.drop (n * sz)).toArray = cur := by rw [← h6, List.take_append_drop]
   rw [this]; exact hp
  ·rw [← h6]; simp; rw [← h5]; omega
theorem wf_i64 {x : Int} (h : -9223372036854775808 ≤ x ∧ x ≤ 9223372036854775807) : (Lit.int .i64 x).wf = true := by
 simp only [Lit.wf, Bool.and_eq_true, decide_eq_true_eq]
 have e1 : IntKind.i64.min = -9223372036854775808 := by decide
 have e2 : IntKind.i64.max = 9223372036854775807 := by decide
 rw [e1, e2]; exact h
def sortI (l : List Int) : List Int := l.mergeSort (fun x y => decide (x ≤ y))
theorem keys_fn {P : Program} {ρ : Ren} (L : SlLaysZI.n7 P ρ) (mb : Option Nat) : Fn P (ρ.f 7) #[.map mb] [] fun v Lp => ∃ b, v = .func (.func (ρ.f 10)) #[] #[vptr b] ∧ Lp = [ptc b [.map mb] (ρ.t 23)] := by
 intro F w hs
 refine (callsIn_wide.1 (AnyZI.keys_in L Fence.wide 1 trivial rfl mb w)).mono ?_
 rintro e w' ⟨rfl, rfl⟩
 exact ⟨_, _, ⟨_, rfl, rfl⟩, rfl, St.new (L := F) hs _, Keeps.new _ _⟩
theorem sorted_fn {P : Program} {ρ ρs ρm : Ren} (L : SlLaysZI.n7 P ρ) (LS : SlLaysZI.n6 P ρs) (LM : SlLaysM.n5 P ρm) (hm : ρm.f 5 = ρs.f 9) (e9 : ∀ args w, (callFunc (ρs.f 9) args).run P w = .ok (.enter (ρs.f 9) args) w) (e10 : ∀ args w, (callFunc (ρ.f 10) args).run P w = .ok (.enter (ρ.f 10) args) w)
    (hk : P.underlying (ρ.t 26) = some (.int .i64)) {b r : Nat} {T : TypeId} {β : Type} {enc : β → Value} (m : List (Int × β)) (hnd : (m.map (·.1)).Nodup) (hbd : ∀ x ∈ m, -9223372036854775808 ≤ x.1 ∧ x.1 ≤ 9223372036854775807) (hlen : m.length ≤ 1099511627776) :
    Fn P (ρs.f 6) #[.func (.func (ρ.f 10)) #[] #[vptr b]] [ptc b [.map (some r)] T, mapR r (m.map fun x => (vint x.1, enc x.2))] fun v Lp => (∃ a c, v = .slice a m.length c) ∧
      Lp = [slR (ρs.t 26) 1 v m.length ((sortI (m.map (·.1))).map vint), mapR r (m.map fun x => (vint x.1, enc x.2))] := by
  intro F w hs
  have hcell : w.cell? ⟨b, 0, none⟩ = some (.map (some r)) := cell_of (l := [Value.map (some r)]) (St.pt (L := _) hs) rfl
  obtain ⟨hr1, ar, es, clock, hes, hents, hborn, hnb⟩ := sep_head (sep_tail hs)
  have hes' := ar _ _ hes
  have hlen' : es.length = m.length := by have := congrArg List.length hents; simpa using this
  have hkeys : es.map (fun e => e.key) = m.map (fun x => vint x.1) := by
    have := congrArg (List.map Prod.fst) hents; rw [List.map_map, List.map_map] at this; exact this
  let R : Value → Option (DataW Unit × List MemPlace) := fun _ => some (.lit (.bool true), [])
  have hkey : ∀ x ∈ es, ∃ k : Int, x.key = vint k ∧ -9223372036854775808 ≤ k ∧ k ≤ 9223372036854775807 := by
    intro x hx
    have : x.key ∈ es.map (fun e => e.key) := List.mem_map_of_mem hx
    rw [hkeys] at this
    obtain ⟨y, hy, he⟩ := List.mem_map.1 this
    exact ⟨y.1, he.symm, hbd y hy⟩
  have hrd : ∀ x ∈ es, ∀ k, x.key = vint k → Go.WideElems.rd P (ρ.t 26) R x = some (.int .i64 k, .lit (.bool true)) := by
    intro x hx k hxk
    obtain ⟨k', h1, h2⟩ := hkey x hx
    have : k' = k := by rw [h1] at hxk; simpa using hxk
    subst this
    have hko : keyOf P (ρ.t 26) x.key = some (.int .i64 k') := by
      rw [hxk]; simp [keyOf, hk, mapKey, wf_i64 h2]
    unfold Go.WideElems.rd; rw [hko]; rfl
  have hown : w.ownsMap P (ρ.t 26) R r m.length (.map ((es.map (Go.WideElems.rg P (ρ.t 26) R)).foldr DataW.insert [])) := by
    refine ⟨es.toArray, clock, hes', ⟨?_, ⟨by simpa using hborn, by simpa using hnb, ?_⟩, ?_⟩, by simpa using Nat.le_of_eq hlen', by simp⟩
    · simp only [List.size_toArray, maxLen]; omega
    · have e1 : es.toArray.toList.map (·.key) = m.map (fun x => vint x.1) := by simpa using hkeys
      rw [e1]
      have e2 : m.map (fun x => vint x.1) = (m.map (·.1)).map vint := by simp
      rw [e2]
      exact List.pairwise_map.2 (List.Pairwise.imp (fun hne he => hne (by simpa using he)) hnd)
    · intro x hx
      have hx' : x ∈ es := by simpa using hx
      obtain ⟨k, h1, -⟩ := hkey x hx'
      exact ⟨_, hrd x hx' k h1⟩
  have hD : (intKeys (DataW.map ((es.map (Go.WideElems.rg P (ρ.t 26) R)).foldr DataW.insert []))).Perm (m.map (·.1)) := by
    show (((es.map (Go.WideElems.rg P (ρ.t 26) R)).foldr DataW.insert []).map fun p => Go.intOf p.1).Perm _
    refine (List.Perm.map _ (Go.WideShapes.sorted_perm _)).trans ?_
    have : (es.map (Go.WideElems.rg P (ρ.t 26) R)).map (fun p => Go.intOf p.1) = m.map (·.1) := by
      have h1 : (es.map (Go.WideElems.rg P (ρ.t 26) R)).map (fun p => Go.intOf p.1) = (es.map (fun e => e.key)).map (fun v => match v with | .int _ k => k | _ => 0) := by
        rw [List.map_map, List.map_map]
        refine List.map_congr_left fun x hx => ?_
        obtain ⟨k, h1, -⟩ := hkey x hx
        simp only [Function.comp, Go.WideElems.rg, hrd x hx k h1, Option.getD_some, Go.intOf, h1]
      rw [h1, hkeys, List.map_map]; rfl
    rw [this]
  have hsize : Maps.size (DataW.map ((es.map (Go.WideElems.rg P (ρ.t 26) R)).foldr DataW.insert [])) = m.length := by
    simp [Maps.size, length_sorted, hlen']
  have hblt : b < w.heap.size := by
    rcases Nat.lt_or_ge b w.heap.size with h | h
    · exact h
    · simp [World.cell?, Array.getElem?_eq_none h] at hcell
  have hseq := AnyZI.keys_gives (ρ := ρ) { L with } Fence.wide 2 trivial rfl (by omega) b r m.length _ w hblt hcell hown
  have hsorts : ∀ k, AnyZI.SortsIn P ρs Fence.wide k := fun k =>
    ⟨fun blk off cap ss W hH hblk hsz => by
        rw [← hm]; exact callsIn_wide.2 (AnyM.slices_Sort_int LM blk off cap ss W hH hblk hsz),
     fun p cap W => by rw [← hm]; exact callsIn_wide.2 (AnyM.slices_Sort_int_none LM p cap W)⟩
  have hS := AnyZI.sorted_in LS Fence.wide 5 trivial trivial trivial trivial rfl (by omega) (hsorts _) e9 (ρ.f 10) #[vptr b] trivial e10 _ _ (by rw [hsize, maxLen]; omega) (by rw [hsize]; omega) w hseq
  refine (callsIn_wide.1 hS).mono ?_
  rintro e w' ⟨v, ss, rfl, hp, hrow, -, hb⟩
  have hperm : ss.Perm (m.map (·.1)) := hp.trans hD
  have hss : (ss.mergeSort fun x y => decide (x ≤ y)) = sortI (m.map (·.1)) := mergeSort_of_perm_i hperm
  have hl : ss.length = m.length := by rw [hperm.length_eq]; simp
  rw [hss, hl] at hrow
  have hshape : ∃ a c, v = .slice a m.length c := by
    rcases hrow.2 with ⟨rfl, h0⟩ | ⟨g, cap, cur, rfl, -⟩
    · exact ⟨_, _, by rw [h0]⟩
    · exact ⟨_, _, rfl⟩
  refine ⟨v, _, ⟨hshape, rfl⟩, rfl, ?_, Keeps.below hb⟩
  exact St.own (sep_tail hs) hb hrow
open Go Go.Sort
theorem sortI_perm (l : List Int) : (sortI l).Perm l := List.mergeSort_perm _ _
theorem sortI_length (l : List Int) : (sortI l).length = l.length := (sortI_perm l).length_eq
theorem sortI_mem {l : List Int} {x : Int} : x ∈ sortI l ↔ x ∈ l := (sortI_perm l).mem_iff
open Go Go.RowKit
def Dk.pend (δ : Dk) : List Int := sortI (δ.old.map (·.1))
theorem Dk.pend_len (δ : Dk) : δ.pend.length = δ.old.length := by rw [Dk.pend, sortI_length, List.length_map]
theorem nodup_lenN : ∀ {n : Nat} {l : List Nat}, l.Nodup → (∀ x ∈ l, x < n) → l.length ≤ n := by
 intro n
 induction n with
 | zero => intro l _ h; cases l with | nil => simp | cons a l => exact absurd (h a (by simp)) (by omega)
 | succ n ih =>
  intro l hn h
  have h1 := ih (hn.erase n) (fun x hx => by
   have := (hn.mem_erase_iff).1 hx
   have := h x this.2; omega)
  rw [List.length_erase] at h1
  split at h1 <;> omega
theorem nodup_len {l : List Int} (hn : l.Nodup) {n : Nat} (h : ∀ x ∈ l, 0 ≤ x ∧ x < n) : l.length ≤ n := by
 have h1 : (l.map Int.toNat).Nodup := List.Pairwise.map _ (S := fun a b : Nat => a ≠ b) (R := fun a b : Int => (0 ≤ a ∧ 0 ≤ b) ∧ a ≠ b) (fun a b hab => by omega)
  (List.Pairwise.imp_of_mem (fun {a b} ha hb hab => ⟨⟨(h a ha).1, (h b hb).1⟩, hab⟩) hn)
 have h3 := nodup_lenN (n := n) h1 (fun x hx => by
  obtain ⟨y, hy, rfl⟩ := List.mem_map.1 hx
  have := h y hy
  omega)
 simpa using h3
theorem Dk.Ok.oldlen {δ : Dk} (h : δ.Ok) : δ.old.length ≤ δ.now.length := by
 have := nodup_len h.nodup (n := δ.now.length) (fun x hx => by
  obtain ⟨y, hy, rfl⟩ := List.mem_map.1 hx
  exact (h.olds y hy).2)
 simpa using this
theorem mem_alook {β : Type} {m : List (Int × β)} {k : Int} (h : k ∈ m.map (·.1)) : ∃ b, alook m k = some b := by
 rcases e : alook m k with _ | b
 ·exact absurd h (alook_none e)
 ·exact ⟨b, rfl⟩
theorem Dk.pend_at {δ : Dk} (h : δ.Ok) {k : Nat} (hk : k < δ.pend.length) : 0 ≤ δ.pend.getD k 0 ∧ (δ.pend.getD k 0).toNat < δ.now.length ∧ δ.pend.getD k 0 < δ.now.length ∧ ∃ o, alook δ.old (δ.pend.getD k 0) = some o ∧ o.length = 64 := by
 have e : δ.pend.getD k 0 = δ.pend[k] := by simp [hk]
 have hm : δ.pend[k] ∈ δ.old.map (·.1) := sortI_mem.1 (List.getElem_mem hk)
 obtain ⟨o, ho⟩ := mem_alook hm
 have := h.olds _ (alook_mem ho)
 rw [e]
 exact ⟨this.2.1, by omega, this.2.2, o, ho, this.1⟩
def Dk.crash1 (δ : Dk) (f : Int) (n : Int) : Dk :=
 { δ with now := if f % 3 = 0 then δ.now.set n.toNat ((alook δ.old n).getD []) else if f % 3 = 2 then δ.now.set n.toNat ((δ.now.getD n.toNat []).take ((f / 3) % 65).toNat ++ ((alook δ.old n).getD []).drop ((f / 3) % 65).toNat) else δ.now }
def Dk.crashTo (δ : Dk) (how : List Int) : Nat → Dk
 | 0 => δ
 | k + 1 => (δ.crashTo how k).crash1 (fateOf how k) (δ.pend.getD k 0)
def Dk.crash (δ : Dk) (how : List Int) : Dk := { δ.crashTo how δ.pend.length with old := [], dead := false, left := 0 }
theorem Dk.crash1_len (δ : Dk) (f n : Int) : (δ.crash1 f n).now.length = δ.now.length := by
 simp only [Dk.crash1]
 split
 ·simp
 ·split <;> simp
theorem Dk.Ok.crash1 {δ : Dk} (h : δ.Ok) (f : Int) {n : Int} {o : List UInt8} (ho : alook δ.old n = some o) (hl : o.length = 64) (hn : n.toNat < δ.now.length) : (δ.crash1 f n).Ok := by
 have h1 := getD_mem64 h.sec hn
 have hb : ((f / 3) % 65).toNat ≤ 64 := by omega
 refine ⟨fun s hs => ?_, fun x hx => by rw [Dk.crash1_len]; exact h.olds x hx, h.nodup, by rw [Dk.crash1_len]; exact h.big, h.acts0, h.left0⟩
 simp only [Dk.crash1, ho, Option.getD_some] at hs
 split at hs
 ·rcases List.mem_or_eq_of_mem_set hs with hs | rfl
  ·exact h.sec s hs
  ·exact hl
 ·split at hs
  ·rcases List.mem_or_eq_of_mem_set hs with hs | rfl
   ·exact h.sec s hs
   ·rw [List.length_append, List.length_take, List.length_drop, h1, hl]; omega
  ·exact h.sec s hs
theorem Dk.crashTo_same (δ : Dk) (how : List Int) : ∀ k, (δ.crashTo how k).old = δ.old ∧ (δ.crashTo how k).acts = δ.acts ∧ (δ.crashTo how k).left = δ.left ∧ (δ.crashTo how k).dead = δ.dead ∧ (δ.crashTo how k).now.length = δ.now.length := by
 intro k
 induction k with
 | zero => exact ⟨rfl, rfl, rfl, rfl, rfl⟩
 | succ k ih =>
  obtain ⟨h1, h2, h3, h4, h5⟩ := ih
  exact ⟨h1, h2, h3, h4, by rw [Dk.crashTo, Dk.crash1_len, h5]⟩
theorem Dk.crashTo_ok {δ : Dk} (h : δ.Ok) (how : List Int) : ∀ k, k ≤ δ.pend.length → (δ.crashTo how k).Ok := by
 intro k
 induction k with
 | zero => exact fun _ => h
 | succ k ih =>
  intro hk
  obtain ⟨e1, -, -, -, e2⟩ := δ.crashTo_same how k
  obtain ⟨q0, q1, q2, o, q3, q4⟩ := Dk.pend_at h (k := k) (by omega)
  exact (ih (by omega)).crash1 _ (by rw [e1]; exact q3) q4 (by rw [e2]; exact q1)
theorem Dk.Ok.crashed {δ : Dk} (h : δ.Ok) (how : List Int) : (δ.crash how).Ok := by
 have := Dk.crashTo_ok h how δ.pend.length (Nat.le_refl _)
 exact ⟨this.sec, by simp [Dk.crash], by simp [Dk.crash], this.big, this.acts0, by simp [Dk.crash]⟩
theorem Dk.new_ok {n : Int} (h : n.toNat ≤ 32768) : (Dk.new n).Ok :=
 ⟨by simp [Dk.new, zs_len], by simp [Dk.new], by simp [Dk.new], by simpa [Dk.new] using h, by simp [Dk.new], by simp [Dk.new]⟩
theorem bys_zs : bys zs = List.replicate 64 (Value.int .u8 0) := by rw [bys, zs, List.map_replicate]; rfl
theorem secsC_new (n : Nat) : secsC (List.replicate n zs) = List.replicate (n * 64) (Value.int .u8 0) := by
 induction n with
 | zero => rfl
 | succ n ih =>
  have : secsC (List.replicate (n + 1) zs) = bys zs ++ secsC (List.replicate n zs) := by simp [secsC, List.replicate_succ]
  rw [this, ih, bys_zs, List.replicate_append_replicate]
  congr 1; omega
theorem secsC_take {l : List (List UInt8)} (h : ∀ s ∈ l, s.length = 64) {n : Nat} (hn : n < l.length) {m off j : Nat} (ho : off = n * 64) (hj : j = m) (hm : m ≤ 64) : ((secsC l).drop off).take j = bys (l[n].take m) := by
 subst ho hj
 rw [show bys (l[n].take j) = (bys l[n]).take j from List.map_take, ← secsC_at h hn, List.take_take, Nat.min_eq_left hm]
section
variable {P : Program} {E : Env} {L R : List HP} {ty kt et : TypeId} {K β : Type} [DecidableEq K] {kv : K → Value} {enc : β → Value}
theorem Quiet.lookupS (hl : KeyLaw P kt kv) {t : TypeId} {x y : Operand} {m : List (K × β)} {r : Nat} {k : K} {b : β} {z : Value} {ents : List (Value × Value)} (hb : alook m k = some b) (hx : ev E x = some (.map (some r))) (hy : ev E y = some (kv k)) (ht : P.underlying t = some (.map kt et)) (hz : zeroOf P et = some z)
  (hL : Pick (mapR r ents) L R) (he : ents = m.map fun x => (kv x.1, enc x.2)) : Quiet P ⟨none, .lookup t x y false, ty, "", #[], none⟩ E L (enc b) := by
 have q := Quiet.lookup (enc := enc) (ty := ty) hl hx hy ht hz hL he
 rw [hb] at q
 exact q
end
theorem keysD_spec (mb : Option Nat) : Fn Tryz.prog 136 #[.map mb] [] fun v L => ∃ b, v = .func (.func 178) #[] #[vptr b] ∧ L = [ptc b [.map mb] 92] :=
 keys_fn Tryz.keysA mb
theorem sortedD_spec {b r : Nat} {T : TypeId} (m : List (Int × List UInt8)) (hnd : (m.map (·.1)).Nodup) (hbd : ∀ x ∈ m, -9223372036854775808 ≤ x.1 ∧ x.1 ≤ 9223372036854775807) (hlen : m.length ≤ 1099511627776) :
  Fn Tryz.prog 135 #[.func (.func 178) #[] #[vptr b]] [ptc b [.map (some r)] T, mapR r (oldsV m)] fun v L => (∃ a c, v = .slice a m.length c) ∧ L = [intR v (sortI (m.map (·.1))), mapR r (oldsV m)] := by
 have q := sorted_fn Tryz.keysA Tryz.sortedA Tryz.sortA rfl (enters_of Tryz.func177 rfl rfl) (enters_of Tryz.func178 rfl rfl) Tryz.underlying3 (enc := secV) (b := b) (r := r) (T := T) m hnd hbd hlen
 intro F w hs
 refine (q F w hs).mono ?_
 rintro e w' ⟨v, L', ⟨h1, rfl⟩, h2, h3⟩
 refine ⟨v, _, ⟨h1, ?_⟩, h2, h3⟩
 have : (sortI (m.map (·.1))).length = m.length := by rw [sortI_length, List.length_map]
 show _ = [slR _ 1 v (sortI (m.map (·.1))).length _, _]
 rw [this]; rfl
theorem pending_spec (d : Nat) (δ : Dk) : Fn Tryz.prog 76 #[vptr d] [dkR d δ] fun v L => (∃ a c, v = .slice a δ.pend.length c) ∧ L = [dkR d δ, intR v δ.pend] := by
 refine Fn.intro Tryz.func76 rfl rfl fun F W => ?_
 refine .dkOpen .here fun nb ob hok => ?_
 have hol := hok.oldlen
 have hbg := hok.big
 refine .sr (.an rfl (.sm rfl (.nf rfl fo_94_1 (.u (.ld rfl ag_92) (.oq (.c Tryz.func136 [_] (keysD_spec _)) ?_)))))
 rintro v L' ⟨bk, rfl, rfl⟩
 refine .oq (.c Tryz.func135 [_] (sortedD_spec δ.old hok.nodup ?hbd8 ?hln9)) ?_
 case hbd8 => intro x hx; have := hok.olds x hx; omega
 case hln9 => omega
 rintro v L' ⟨⟨al, cl, rfl⟩, rfl⟩
 refine .an rfl (.ret (.dkFold (δ := δ) (by repeat' constructor) rfl rfl rfl hok ?_))
 exact .dn rfl rfl ⟨⟨_, _, by rw [Dk.pend_len]⟩, rfl⟩
theorem crash_spec (d : Nat) (δ : Dk) (hv : Value) (how : List Int) (p : HP) (hr : ∀ h : Hp, p h → rdS 1 h hv how.length (ints how)) (hb : ∀ z ∈ how, -9223372036854775808 ≤ z ∧ z ≤ 9223372036854775807) : Fn Tryz.prog 29 #[vptr d, hv] [dkR d δ, p] fun v L => v = .tuple #[] ∧ L = [dkR d (δ.crash how), p] := by
 refine Fn.intro Tryz.func29 rfl rfl fun F W => ?_
 refine .rdAny (p := p) hr (by repeat' constructor) fun ah ch e _ => ?_
 subst e
 refine .dkOpen (by repeat' constructor) fun nb0 ob0 hok0 => (.dkFold (δ := δ) (by repeat' constructor) rfl rfl rfl hok0 ?_)
 have hol := hok0.oldlen
 have hbg := hok0.big
 have hpl := δ.pend_len
 refine .seq (.sm rfl (.oq (.c Tryz.func76 [_] (pending_spec d δ)) ?_))
 rintro v L' ⟨⟨al, cl, rfl⟩, rfl⟩
 refine .q (.slen rfl Tryz.underlying31 rfl) rfl (.m rfl (.nt (.block (.loop (F := F) (ι := Nat) (fun k => [(0, vptr d), (1, .slice ah how.length ch), (9, .slice al δ.pend.length cl), (10, vint δ.pend.length), (11, vint k)]) (fun k => [dkR d (δ.crashTo how k), p, intR (.slice al δ.pend.length cl) δ.pend]) (fun k => k ≤ δ.pend.length) (fun k => δ.pend.length - k) 0 (Nat.zero_le _) ⟨rfl, rfl, rfl, rfl, rfl, trivial⟩ (by repeat' constructor) (by repeat' constructor) ?_))))
 intro k hk
 refine .sr (.ui rfl rfl rfl (.nt (.seq (.condD rfl (fun h12 => ?_) (fun h12 => ?_)))))
 ·have hk2 : k < δ.pend.length := by omega
  have hfb := fate0 how hb k
  obtain ⟨w0, w1, w2, o, w3, w4⟩ := Dk.pend_at hok0 hk2
  have hie : δ.pend.getD k 0 = δ.pend[k] := by simp [hk2]
  generalize hi : δ.pend.getD k 0 = i at w0 w1 w2 w3 hie
  refine .slShape (v := .slice al _ cl) (by repeat' constructor) (by omega) fun bl cl' e ml _ => ?_
  simp only [Value.slice.injEq, true_and] at e
  obtain ⟨rfl, rfl⟩ := e
  refine .sk (.seq (.block (.sm rfl (.q (.indexAddr rfl rfl el_31 (by omega)) rfl (.q (.loadSl (v := vint i) (i := k * 1) rfl ag_3 (by repeat' constructor) (by simp [hk2, hie])) rfl (.a rfl (.an rfl (.sr (.an rfl (.seq (.join (F := F) (ι := Unit) (fun _ => [(0, vptr d), (1, .slice ah how.length ch), (9, .slice (some ⟨bl, 0, none⟩) δ.pend.length cl), (10, vint δ.pend.length), (11, vint k), (4, vint k), (5, vint i), (6, vint (if k < how.length then how.getD k 0 else 0))]) (fun _ => [dkR d (δ.crashTo how k), p, intR (.slice (some ⟨bl, 0, none⟩) δ.pend.length cl) δ.pend]) (fun _ => True) ?_ (fun _ _ => ?_))))))))))))
  ·refine .sm rfl (.m rfl (.q (.slen rfl Tryz.underlying31 rfl) rfl (.ui rfl rfl rfl (.nt (.condD rfl (fun h19 => ?_) (fun h19 => ?_))))))
   ·have hk3 : k < how.length := by omega
    refine .rdShape (p := p) hr (by repeat' constructor) (by omega) fun bh oh e => ?_
    subst e
    refine .region (.m rfl (.m rfl (.q (.indexAddr rfl rfl el_31 (by omega)) rfl (.q (.loadEl (p := p) (i := k * 1) (v := vint (how.getD k 0)) rfl ag_3 (by repeat' constructor) hr (by simp [hk3])) rfl (.an rfl ?_)))))
    exact .meet () trivial ⟨rfl, rfl, rfl, rfl, rfl, rfl, rfl, (by show some (vint _) = some (vint _); rw [if_pos (by omega)]), trivial⟩ (by repeat' constructor) (by repeat' constructor)
   refine .sk ?_
   exact .meet () trivial ⟨rfl, rfl, rfl, rfl, rfl, rfl, rfl, (by show some (vint _) = some (vint _); rw [if_neg (by omega)]), trivial⟩ (by repeat' constructor) (by repeat' constructor)
  have hraw : -9223372036854775808 ≤ (if k < how.length then how.getD k 0 else 0) ∧ (if k < how.length then how.getD k 0 else 0) ≤ 9223372036854775807 := by (split; (rename_i hk3; have e : how.getD k 0 = how[k] := (by simp [hk3]); rw [e]; exact hb _ (List.getElem_mem _)); omega)
  refine .seq (.join (F := F) (ι := Unit) (fun _ => [(0, vptr d), (1, .slice ah how.length ch), (9, .slice (some ⟨bl, 0, none⟩) δ.pend.length cl), (10, vint δ.pend.length), (11, vint k), (4, vint k), (5, vint i), (6, vint (fateOf how k))]) (fun _ => [dkR d (δ.crashTo how k), p, intR (.slice (some ⟨bl, 0, none⟩) δ.pend.length cl) δ.pend]) (fun _ => True) ?_ (fun _ _ => ?_))
  ·refine .sm rfl (.ui rfl rfl rfl (.nt (.condD rfl (fun h25 => ?_) (fun h25 => ?_))))
   ·refine .region (.m rfl (.q (.add rfl rfl (by omega)) rfl (.q (.neg rfl (by omega)) rfl (.an rfl ?_))))
    exact .meet () trivial ⟨rfl, rfl, rfl, rfl, rfl, rfl, rfl, (by show some (vint _) = some (vint _); unfold fateOf; dsimp only; rw [if_pos h25]), trivial⟩ (by repeat' constructor) (by repeat' constructor)
   refine .sk ?_
   exact .meet () trivial ⟨rfl, rfl, rfl, rfl, rfl, rfl, rfl, (by show some (vint _) = some (vint _); unfold fateOf; dsimp only; rw [if_neg h25]), trivial⟩ (by repeat' constructor) (by repeat' constructor)
  generalize hf : fateOf how k = f at hfb ⊢
  have hok := Dk.crashTo_ok hok0 how k (by omega)
  obtain ⟨so, -, -, -, sn⟩ := δ.crashTo_same how k
  generalize hσ : δ.crashTo how k = σ at hok so sn ⊢
  rw [← so] at w3
  rw [← sn] at w1 w2
  refine .dkOpen (δ := σ) (by repeat' constructor) fun nb ob _ => ?_
  have q3 : (bys o).length = 64 := by simpa using w4
  have q4 := secsC_length hok.sec
  have q5 : σ.now[i.toNat].length = 64 := hok.sec _ (List.getElem_mem w1)
  have qf : f % 3 = 0 ∨ f % 3 = 1 ∨ f % 3 = 2 := by omega
  have qb : 0 ≤ f / 3 % 65 ∧ f / 3 % 65 ≤ 64 := by omega
  have qb2 : (f / 3 % 65).toNat ≤ 64 := by omega
  refine .sm rfl (.nf rfl fo_94_1 (.u (.ld rfl ag_92) (.m rfl (.q (.lookupS (m := σ.old) (enc := secV) (KeyLaw.int Tryz.underlying3) w3 rfl rfl Tryz.underlying92 ze_123 (by repeat' constructor) rfl) rfl (.oq (.allocA ze_123) ?_)))))
  rintro v L' ⟨tb, rfl, rfl⟩
  refine .oq (.storeA rfl rfl ?c30 sz_123 ?c33 ?c31 (nfz0 _ _)) ?_
  case c30 => exact bys_cell _
  case c33 => exact q3
  case c31 => rw [q3]; decide
  rintro v L' rfl
  refine .nil ?_
  rw [spl_all (vs := bys o) (by rw [q3]; rfl)]
  refine .then_n (.sm rfl (.q (.remE rfl rfl (by omega) (by omega)) rfl (.nt (.block (.sr (.ui rfl rfl rfl (.an rfl (.condD rfl (fun h37 => ?_) (fun h37 => ?_)))))))))
  ·refine .draw [7] [[0, 1, 2, 3, 4, 5, 6, 7]] mixed (by kernel_rfl) (.g0 (.mv rfl rfl (.nf rfl rfl rfl fo_94_0 (.kv rfl (.ld rfl ag_91) (.mv rfl rfl (.kv rfl (.loadAs (vs := bys o) rfl ag_123 (by repeat' constructor) (by rw [q3]; decide) (by rw [List.drop_zero]; exact List.take_of_length_le (by rw [q3]; decide))) (.kv rfl (.indexAddr rfl rfl el_91 (by omega)) (.hh rfl (.storeA rfl rfl ?c45 sz_123 ?c48 ?c46 (nfz0 _ _)) ?_))))))))
   case c45 => exact bys_cell _
   case c48 => exact q3
   case c46 => rw [q3, q4]; omega
   rintro v L' rfl
   refine D.ph (.fin ?_)
   rw [Nat.zero_add, secsC_set hok.sec w1 w4]
   refine .blk_n (.blk_n (.then_n ?_))
   have hE : δ.crashTo how (k + 1) = σ.crash1 f i := by rw [Dk.crashTo, hσ, hf, hi]
   have hN : σ.now.set i.toNat o = (σ.crash1 f i).now := by simp only [Dk.crash1, w3, Option.getD_some]; rw [if_pos h37]
   refine .dkFold (nb := nb) (ob := ob) (δ := σ.crash1 f i) (by repeat' constructor) (by rw [Dk.crash1_len]; rfl) (by rw [← hN]) rfl (hok.crash1 f w3 w4 w1) ?_
   rw [← hE]
   refine .region (.q (.add rfl rfl (by omega)) rfl (.m rfl (.nt (.round (k + 1) (by omega) (by omega) ⟨rfl, rfl, rfl, rfl, rfl, trivial⟩ (by repeat' constructor) (by repeat' constructor)))))
  refine .sr (.ui rfl rfl rfl (.an rfl (.condD rfl (fun h46 => ?_) (fun h46 => ?_))))
  ·refine .seq (.draw [11] [[0, 1, 2, 3, 4, 5, 6, 7, 8, 9, 10, 11]] mixed (by kernel_rfl) (.g0 (.kv rfl (.arrSlice rfl ar_123 (by first | exact rfl | rfl) (by first | exact rfl | rfl) (by omega)) (.mv rfl rfl (.nf rfl rfl rfl fo_94_0 (.kv rfl (.ld rfl ag_91) (.mv rfl rfl (.kv rfl (.indexAddr rfl rfl el_91 (by omega)) (.mv rfl rfl (.kv rfl (.quoE rfl rfl (by omega) (by omega)) (.kv rfl (.remE rfl rfl (by omega) (by omega)) (.kv rfl (.arrSlice rfl ar_123 (by first | exact rfl | rfl) (by first | exact rfl | rfl) (by omega)) (.hh rfl (.copy (p := ptc nb (secsC σ.now) 123) (m := (f / 3 % 65).toNat) (ys := bys (σ.now[i.toNat].take (f / 3 % 65).toNat)) rfl rfl rfl el_125 ?hrd63 ?hc64 ?ho65 ?hf66) ?_)))))))))))))
   case hrd63 => intro h hp; exact rdS_pt hp (secsC_take hok.sec w1 (by simp) (by simp) qb2) (by rw [q4]; show 0 + i.toNat * 64 + 0 * 1 + ((f / 3 % 65).toNat - 0) * 1 ≤ σ.now.length * 64; omega) (by show (f / 3 % 65).toNat - 0 ≤ 64 - 0; omega)
   case hc64 => exact bys_cell _
   case ho65 => rw [q3]; decide
   case hf66 => exact nfz0 _ _
   rintro v L' ⟨rfl, rfl⟩
   refine D.ph (.fin ?_)
   have eo : (bys (σ.now[i.toNat].take (f / 3 % 65).toNat)).take (min (f / 3 % 65).toNat (((64 : Nat) : Int).toNat - Int.toNat 0) * 1) = bys (σ.now[i.toNat].take (f / 3 % 65).toNat) := List.take_of_length_le (by simp; omega)
   have e13 : spl (bys o) (0 + Int.toNat 0 * 1) (bys (σ.now[i.toNat].take (f / 3 % 65).toNat)) = bys (σ.now[i.toNat].take (f / 3 % 65).toNat ++ o.drop (f / 3 % 65).toNat) := by simp [spl, List.map_drop, q5, Nat.min_eq_left qb2]
   have q6 : (σ.now[i.toNat].take (f / 3 % 65).toNat ++ o.drop (f / 3 % 65).toNat).length = 64 := by rw [List.length_append, List.length_take, List.length_drop, q5, w4]; omega
   generalize ho2 : σ.now[i.toNat].take (f / 3 % 65).toNat ++ o.drop (f / 3 % 65).toNat = o2 at e13 q6
   have q7 : (bys o2).length = 64 := by simpa using q6
   rw [eo, e13]
   refine .then_n (.draw [7] [[0, 1, 2, 3, 4, 5, 6, 7]] mixed (by kernel_rfl) (.g0 (.mv rfl rfl (.nf rfl rfl rfl fo_94_0 (.kv rfl (.ld rfl ag_91) (.mv rfl rfl (.kv rfl (.loadAs (vs := bys o2) rfl ag_123 (by repeat' constructor) (by rw [q7]; decide) (by rw [List.drop_zero]; exact List.take_of_length_le (by rw [q7]; decide))) (.kv rfl (.indexAddr rfl rfl el_91 (by omega)) (.hh rfl (.storeA rfl rfl ?c76 sz_123 ?c79 ?c77 (nfz0 _ _)) ?_)))))))))
   case c76 => exact bys_cell _
   case c79 => exact q7
   case c77 => rw [q7, q4]; omega
   rintro v L' rfl
   refine D.ph (.fin ?_)
   rw [Nat.zero_add, secsC_set hok.sec w1 q6]
   refine .blk_n (.blk_n (.then_n ?_))
   have hE : δ.crashTo how (k + 1) = σ.crash1 f i := by rw [Dk.crashTo, hσ, hf, hi]
   have hN : σ.now.set i.toNat o2 = (σ.crash1 f i).now := by simp only [Dk.crash1, w3, Option.getD_some]; rw [if_neg h37, if_pos h46, ← ho2]; simp [w1]
   refine .dkFold (nb := nb) (ob := ob) (δ := σ.crash1 f i) (by repeat' constructor) (by rw [Dk.crash1_len]; rfl) (by rw [← hN]) rfl (hok.crash1 f w3 w4 w1) ?_
   rw [← hE]
   refine .region (.q (.add rfl rfl (by omega)) rfl (.m rfl (.nt (.round (k + 1) (by omega) (by omega) ⟨rfl, rfl, rfl, rfl, rfl, trivial⟩ (by repeat' constructor) (by repeat' constructor)))))
  refine .skip (.blk_n (.blk_n (.then_n ?_)))
  have hE : δ.crashTo how (k + 1) = σ.crash1 f i := by rw [Dk.crashTo, hσ, hf, hi]
  have hN : σ.now = (σ.crash1 f i).now := by simp only [Dk.crash1, w3, Option.getD_some]; rw [if_neg h37, if_neg h46]
  refine .dkFold (nb := nb) (ob := ob) (δ := σ.crash1 f i) (by repeat' constructor) (by rw [Dk.crash1_len]; rfl) (by rw [← hN]) rfl (hok.crash1 f w3 w4 w1) ?_
  rw [← hE]
  refine .region (.q (.add rfl rfl (by omega)) rfl (.m rfl (.nt (.round (k + 1) (by omega) (by omega) ⟨rfl, rfl, rfl, rfl, rfl, trivial⟩ (by repeat' constructor) (by repeat' constructor)))))
 have hk2 : k = δ.pend.length := by omega
 subst hk2
 refine .dkOpen (δ := δ.crashTo how δ.pend.length) (by repeat' constructor) fun nb ob hok => (.exit (.then_e (.then_e (.blk_e (.then_n (.sm rfl (.nf rfl fo_94_1 (.u (.ld rfl ag_92) (.oq (.mapClear rfl rfl Tryz.underlying92) ?_)))))))))
 rintro v L' rfl
 refine .nt (.region (.m rfl (.m rfl (.nf rfl fo_94_4 (.st rfl rfl rfl sz_4 ?_)))))
 refine .nf rfl fo_94_3 (.st rfl rfl rfl sz_3 ?_)
 refine .nil (.done_n (.dkFold (δ := δ.crash how) (by repeat' constructor) rfl rfl rfl (hok0.crashed how) ?_))
 exact .vv
theorem new_spec (n : Int) : Fn Tryz.prog 11 #[vint n] [] fun v L => ((n < 16 ∨ 32768 < n) ∧ v = .tuple #[.pointer none, vint 1] ∧ L = []) ∨ ((16 ≤ n ∧ n ≤ 32768) ∧ ∃ x, v = .tuple #[vptr x, vint 0] ∧ L = [dkR x (Dk.new n)]) := by
 refine Fn.intro Tryz.func11 rfl rfl fun F W => ?_
 refine .sr (.a rfl (.an rfl (.seq (.sm rfl (.ui rfl rfl rfl (.m rfl (.dec (t := 6) rfl (fun h1_6 => ?_) (fun h1_6 => ?_))))))))
 ·refine .kDT (t := 5) rfl h1_6 (.gk (.gk (.u (.pickT rfl rfl) (.nt (.condT rfl (.sr (.a rfl (.an rfl (.rt ?_)))))))))
  exact .dn rfl rfl (.inl ⟨by omega, rfl, rfl⟩)
 refine .kDF (t := 5) rfl h1_6 (.grun (t := 6) rfl rfl rfl (.m rfl (.grun (t := 6) rfl rfl rfl (.ui rfl rfl rfl (.u (.pickF rfl rfl) (.nt (.condD rfl (fun h9 => ?_) (fun h9 => ?_))))))))
 ·refine .sr (.a rfl (.an rfl (.rt ?_)))
  exact .dn rfl rfl (.inl ⟨by omega, rfl, rfl⟩)
 obtain ⟨hn1, hn2⟩ : 16 ≤ n ∧ n ≤ 32768 := by omega
 refine .sk (.sm rfl (.oq (.make rfl rfl el_91 ze_123 rfl ⟨by simp, by simp; rfl⟩ ?c13) ?_))
 case c13 => omega
 rintro v L' ⟨nb, rfl, rfl⟩
 refine .oq (.makeMap Tryz.underlying92) ?_
 rintro v L' ⟨ob, rfl, rfl⟩
 refine .q (.build (us := [(0, _), (1, _)]) fl_94 ze_94 rfl rfl (by simp [isCell])) rfl (.oq (.box rfl) ?_)
 rintro v L' ⟨x, rfl, rfl⟩
 refine .a rfl (.an rfl (.ret (.fold (p := mapR ob []) (.cons (p := pt ob (.map #[] 0)) (by repeat' constructor) .nil) (fun h hp => mapR_new (sep_pt hp)) (.dkFold (nb := nb) (ob := ob) (δ := Dk.new n) (by repeat' constructor) (by simp [Dk.new]; rfl) (secsC_new _).symm rfl (Dk.new_ok (by omega)) ?_))))
 exact .dn rfl rfl (.inr ⟨⟨hn1, hn2⟩, x, rfl, rfl⟩)
theorem alook_append_none {β : Type} {m m2 : List (Int × β)} {k : Int} (h : alook m k = none) : alook (m ++ m2) k = alook m2 k := by
 induction m with
 | nil => rfl
 | cons x m ih =>
  obtain ⟨a, c⟩ := x
  by_cases hk : k = a
  ·subst hk; simp [alook] at h
  ·simp only [alook, hk, if_false] at h
   simp only [List.cons_append, alook, hk, if_false]
   exact ih h
theorem alook_append_other {β : Type} {m : List (Int × β)} {k n : Int} {v : β} (h : k ≠ n) : alook (m ++ [(n, v)]) k = alook m k := by
 induction m with
 | nil => simp [alook, h]
 | cons x m ih =>
  obtain ⟨a, c⟩ := x
  simp only [List.cons_append, alook, ih]
def tx (l : List (List UInt8)) (n : Int) : List UInt8 := l.getD n.toNat []
abbrev pd (l : List Bool) (n : Nat) : Bool := l.getD n false
abbrev ox (l : List (List UInt8)) (n : Nat) : List UInt8 := l.getD n []
structure Rel (δ : Dk) (ρ : Rk) : Prop where
 ok : δ.Ok
 rok : ρ.Ok
 L : ρ.L = δ.now
 dead : δ.dead = ρ.Gone
 acts : δ.acts = ρ.N
 pend : ∀ n : Nat, pd ρ.Pend n = (alook δ.old (n : Int)).isSome
 old : ∀ n : Nat, n < δ.now.length → ox ρ.Old n = (alook δ.old (n : Int)).getD (ox δ.now n)
 arm : (δ.left = 0 ∧ (ρ.At = 0 ∨ δ.dead = true)) ∨ (0 < δ.left ∧ ρ.At = ρ.N + δ.left ∧ δ.dead = false) ∨ (ρ.At = 0 ∧ 4611686018427387904 < δ.left + ρ.N ∧ δ.dead = false)
theorem pendTo_mem {l : List Bool} : ∀ {i : Nat} {x : Int}, x ∈ pendTo l i ↔ ∃ n : Nat, n < i ∧ x = n ∧ pd l n = true := by
 intro i
 induction i with
 | zero => intro x; simp [pendTo]
 | succ i ih =>
  intro x
  simp only [pendTo]
  split
  ·rename_i h
   rw [List.mem_append, ih, List.mem_singleton]
   constructor
   ·rintro (⟨n, h1, h2, h3⟩ | rfl)
    ·exact ⟨n, by omega, h2, h3⟩
    ·exact ⟨i, by omega, rfl, h⟩
   ·rintro ⟨n, h1, h2, h3⟩
    rcases Nat.lt_or_ge n i with h4 | h4
    ·exact .inl ⟨n, h4, h2, h3⟩
    ·have : n = i := by omega
     subst this; exact .inr h2
  ·rename_i h
   rw [ih]
   constructor
   ·rintro ⟨n, h1, h2, h3⟩; exact ⟨n, by omega, h2, h3⟩
   ·rintro ⟨n, h1, h2, h3⟩
    rcases Nat.lt_or_ge n i with h4 | h4
    ·exact ⟨n, h4, h2, h3⟩
    ·have : n = i := by omega
     subst this; exact absurd h3 h
theorem pendTo_sorted (l : List Bool) : ∀ i, (pendTo l i).Pairwise (· < ·) := by
 intro i
 induction i with
 | zero => simp [pendTo]
 | succ i ih =>
  simp only [pendTo]
  split
  ·refine List.pairwise_append.2 ⟨ih, by simp, fun a ha b hb => ?_⟩
   have := pendTo_lt ha
   simp at hb; omega
  ·exact ih
theorem sortI_sorted (l : List Int) : (sortI l).Pairwise (· ≤ ·) := by
 have := List.pairwise_mergeSort (le := fun x y : Int => decide (x ≤ y)) (fun a b c h1 h2 => by simp only [decide_eq_true_eq] at *; omega) (fun a b => by simp only [Bool.or_eq_true, decide_eq_true_eq]; omega) l
 exact this.imp (fun h => by simpa using h)
theorem alook_some_mem {m : List (Int × List UInt8)} {k : Int} : (alook m k).isSome = true ↔ k ∈ m.map (·.1) := by
 constructor
 ·intro h
  obtain ⟨b, hb⟩ := Option.isSome_iff_exists.1 h
  exact List.mem_map.2 ⟨_, alook_mem hb, rfl⟩
 ·intro h
  obtain ⟨b, hb⟩ := mem_alook h
  rw [hb]; rfl
theorem Rel.pending {δ : Dk} {ρ : Rk} (h : Rel δ ρ) : δ.pend = ρ.pending := by
 have hlt : (ρ.pending).Pairwise (· < ·) := pendTo_sorted _ _
 have hnd2 : ρ.pending.Nodup := hlt.imp (fun h => by omega)
 have hnd1 : δ.pend.Nodup := (sortI_perm _).nodup_iff.2 h.ok.nodup
 refine List.Perm.eq_of_pairwise (le := fun a b : Int => a ≤ b) (fun a b _ _ h1 h2 => by omega) (sortI_sorted _) (hlt.imp (fun h => by omega)) ((List.perm_ext_iff_of_nodup hnd1 hnd2).2 fun x => ?_)
 rw [Dk.pend, sortI_mem, Rk.pending, pendTo_mem]
 constructor
 ·intro hx
  obtain ⟨y, hy, hxy⟩ := List.mem_map.1 hx
  have hb := h.ok.olds y hy
  subst hxy
  have hp := h.rok.pend
  have hL := h.L
  refine ⟨y.1.toNat, by rw [hp, hL]; omega, by omega, ?_⟩
  rw [h.pend, show ((y.1.toNat : Nat) : Int) = y.1 by omega]
  exact alook_some_mem.2 hx
 ·rintro ⟨n, hn, rfl, hp⟩
  rw [h.pend] at hp
  exact alook_some_mem.1 hp
theorem Rel.new (n : Nat) (hn : n ≤ 32768) : Rel (Dk.new n) (Rk.new n) := by
 have hrok : (Rk.new n).Ok := ⟨by simp [Rk.new], by simp [Rk.new], by simp [Rk.new]; omega, by simp [Rk.new, zs_len], by simp [Rk.new, zs_len]⟩
 refine ⟨Dk.new_ok (by simpa using hn), hrok, by simp [Rk.new, Dk.new], rfl, rfl, fun m => ?_, fun m hm => ?_, .inl ⟨rfl, .inl rfl⟩⟩
 ·simp only [pd, Rk.new, Dk.new, alook, Option.isSome_none, List.getD_eq_getElem?_getD, List.getElem?_replicate]
  split <;> rfl
 ·simp [Rk.new, Dk.new, alook]
theorem getD_set {α : Type} {l : List α} {i j : Nat} {a d : α} (hi : i < l.length) : (l.set i a).getD j d = if j = i then a else l.getD j d := by
 simp only [List.getD_eq_getElem?_getD, List.getElem?_set]
 by_cases h : i = j
 ·subst h; simp [hi]
 ·rw [if_neg h, if_neg (by omega)]
theorem Rel.has {δ : Dk} {ρ : Rk} (h : Rel δ ρ) (n : Int) : ρ.has n = δ.has n := by simp [Dk.has, Rk.has, h.L]
theorem Rel.read {δ : Dk} {ρ : Rk} (h : Rel δ ρ) (n : Int) : δ.read n = ρ.read n := by
 unfold Dk.read Rk.read
 rw [h.dead, h.has, h.L]
theorem Rel.act {δ : Dk} {ρ : Rk} (h : Rel δ ρ) (hd : δ.dead = false) (hN : ρ.N < 4611686018427387904) :
  δ.act.1.dead = ρ.act.Gone ∧ δ.act.2 = (if ρ.act.Gone then 2 else 0) ∧ δ.act.1.acts = ρ.act.N ∧
   ((δ.act.1.left = 0 ∧ (ρ.act.At = 0 ∨ δ.act.1.dead = true)) ∨ (0 < δ.act.1.left ∧ ρ.act.At = ρ.act.N + δ.act.1.left ∧ δ.act.1.dead = false) ∨ (ρ.act.At = 0 ∧ 4611686018427387904 < δ.act.1.left + ρ.act.N ∧ δ.act.1.dead = false)) := by
 have hg : ρ.Gone = false := by rw [← h.dead, hd]
 have ha := h.acts
 have h0 := h.ok.acts0
 have fin : ∀ (e l : Int) (d g : Bool), Go.Proofs.YtidjhgbdokcphaaGreat.actE δ.left = e → actL δ.left = l → actD δ.left δ.dead = d → (if ρ.At > 0 ∧ ρ.N + 1 = ρ.At then true else ρ.Gone) = g →
   (d = g ∧ e = (if g then 2 else 0) ∧ ((l = 0 ∧ (ρ.At = 0 ∨ d = true)) ∨ (0 < l ∧ ρ.At = ρ.N + 1 + l ∧ d = false) ∨ (ρ.At = 0 ∧ 4611686018427387904 < l + (ρ.N + 1) ∧ d = false))) →
   δ.act.1.dead = ρ.act.Gone ∧ δ.act.2 = (if ρ.act.Gone then 2 else 0) ∧ δ.act.1.acts = ρ.act.N ∧
   ((δ.act.1.left = 0 ∧ (ρ.act.At = 0 ∨ δ.act.1.dead = true)) ∨ (0 < δ.act.1.left ∧ ρ.act.At = ρ.act.N + δ.act.1.left ∧ δ.act.1.dead = false) ∨ (ρ.act.At = 0 ∧ 4611686018427387904 < δ.act.1.left + ρ.act.N ∧ δ.act.1.dead = false)) := by
  intro e l d g h1 h2 h3 h4 ⟨k1, k2, k3⟩
  simp only [Dk.act, Rk.act, h1, h2, h3, h4, ha]
  exact ⟨k1, k2, trivial, k3⟩
 rcases h.arm with ⟨h1, h2 | h2⟩ | ⟨h1, h2, -⟩ | ⟨h1, h2, -⟩
 ·exact fin 0 0 false false (by simp [Go.Proofs.YtidjhgbdokcphaaGreat.actE, h1]) (by simp [actL, h1]) (by simp [actD, h1, hd]) (by simp [h2, hg]) ⟨rfl, rfl, .inl ⟨rfl, .inl h2⟩⟩
 ·rw [hd] at h2; cases h2
 ·by_cases h3 : δ.left - 1 > 0
  ·exact fin 0 (δ.left - 1) false false (by unfold Go.Proofs.YtidjhgbdokcphaaGreat.actE; rw [if_neg (by omega), if_pos h3]) (by unfold actL; rw [if_neg (by omega)]) (by unfold actD; rw [if_neg (by omega), if_pos h3, hd]) (by rw [if_neg (by omega), hg]) ⟨rfl, rfl, .inr (.inl ⟨by omega, by omega, rfl⟩)⟩
  ·exact fin 2 (δ.left - 1) true true (by unfold Go.Proofs.YtidjhgbdokcphaaGreat.actE; rw [if_neg (by omega), if_neg h3]) (by unfold actL; rw [if_neg (by omega)]) (by unfold actD; rw [if_neg (by omega), if_neg h3]) (by rw [if_pos ⟨by omega, by omega⟩]) ⟨rfl, rfl, .inl ⟨by omega, .inr rfl⟩⟩
 ·have h3 : δ.left - 1 > 0 := by omega
  exact fin 0 (δ.left - 1) false false (by unfold Go.Proofs.YtidjhgbdokcphaaGreat.actE; rw [if_neg (by omega), if_pos h3]) (by unfold actL; rw [if_neg (by omega)]) (by unfold actD; rw [if_neg (by omega), if_pos h3, hd]) (by rw [if_neg (by omega), hg]) ⟨rfl, rfl, .inr (.inr ⟨h1, by omega, rfl⟩)⟩
theorem alook_asetR {β : Type} {m : List (Int × β)} {k : Int} {v : β} (h : alook m k = none) (x : Int) : alook (aset m k v) x = if x = k then some v else alook m x := by
 rw [aset_none h]
 by_cases hx : x = k
 ·subst hx; rw [alook_append_none h, if_pos rfl]; simp [alook]
 ·rw [alook_append_other hx, if_neg hx]
theorem Rel.write {δ : Dk} {ρ : Rk} (h : Rel δ ρ) (hN : ρ.N < 4611686018427387904) (n : Int) (s : List UInt8) : (δ.write n s).2 = (ρ.write n s).2 ∧ Rel (δ.write n s).1 (ρ.write n s).1 := by
 unfold Dk.write Rk.write
 rw [← h.dead, h.has]
 by_cases hd : δ.dead = true
 ·rw [if_pos hd, if_pos hd]; exact ⟨rfl, h⟩
 ·rw [if_neg hd, if_neg hd]
  by_cases hb : δ.has n = false ∨ s.length ≠ 64
  ·rw [if_pos hb, if_pos hb]; exact ⟨rfl, h⟩
  ·rw [if_neg hb, if_neg hb]
   have hh : δ.has n = true := by
    cases e : δ.has n with
    | true => rfl
    | false => exact absurd (.inl e) hb
   have hs : s.length = 64 := by
    rcases Nat.decEq s.length 64 with e | e
    ·exact absurd (.inr e) hb
    ·exact e
   obtain ⟨q0, q1, q2⟩ := has_lt hh
   have hd' : δ.dead = false := by simpa using hd
   obtain ⟨a1, a2, a3, a4⟩ := h.act hd' hN
   have hop := (h.ok.putOk hh hs).acted
   have hL := h.L
   have hp := h.rok.pend
   refine ⟨a2, hop, ?_, ?_, a1, a3, fun m => ?_, fun m hm => ?_, a4⟩
   ·refine ⟨by simp [h.rok.old, Rk.act], by simp [hp, Rk.act], by simp; exact h.rok.big, fun t ht => ?_, h.rok.olds⟩
    rcases List.mem_or_eq_of_mem_set ht with ht | rfl
    ·exact h.rok.sec t ht
    ·exact hs
   ·show ρ.L.set n.toNat s = δ.now.set n.toNat s
    rw [hL]
   ·show pd (ρ.Pend.set n.toNat true) m = (alook (δ.put n s).old (m : Int)).isSome
    rw [pd, getD_set (by rw [hp, hL]; exact q2)]
    simp only [Dk.put]
    rcases e : alook δ.old n with _ | o
    ·simp only [Option.isSome_none, Bool.false_eq_true, if_false]
     rw [alook_asetR e]
     by_cases hm : m = n.toNat
     ·rw [if_pos hm, if_pos (by omega)]; rfl
     ·rw [if_neg hm, if_neg (by omega)]; exact h.pend m
    ·simp only [Option.isSome_some, if_true]
     by_cases hm : m = n.toNat
     ·rw [if_pos hm, show (m : Int) = n by omega, e]; rfl
     ·rw [if_neg hm]; exact h.pend m
   ·have hm' : m < δ.now.length := by simpa [Dk.act, Dk.put] using hm
    have ho := h.old m hm'
    show ox ρ.Old m = (alook (δ.put n s).old (m : Int)).getD (ox (δ.now.set n.toNat s) m)
    rw [ho, ox, ox, getD_set q2]
    simp only [Dk.put]
    rcases e : alook δ.old n with _ | o
    ·simp only [Option.isSome_none, Bool.false_eq_true, if_false]
     rw [alook_asetR e]
     by_cases hmn : m = n.toNat
     ·have : (m : Int) = n := by omega
      rw [if_pos this, this, e, hmn]; rfl
     ·rw [if_neg (by omega : ¬ (m : Int) = n), if_neg hmn]
    ·simp only [Option.isSome_some, if_true]
     by_cases hmn : m = n.toNat
     ·rw [show (m : Int) = n by omega, e]; rfl
     ·rw [if_neg hmn]
theorem Rel.sync {δ : Dk} {ρ : Rk} (h : Rel δ ρ) (hN : ρ.N < 4611686018427387904) : δ.sync.2 = ρ.sync.2 ∧ Rel δ.sync.1 ρ.sync.1 := by
 unfold Dk.sync Rk.sync
 rw [← h.dead]
 by_cases hd : δ.dead = true
 ·rw [if_pos hd, if_pos hd]; exact ⟨rfl, h⟩
 ·rw [if_neg hd, if_neg hd]
  have hd' : δ.dead = false := by simpa using hd
  obtain ⟨a1, a2, a3, a4⟩ := h.act hd' hN
  rw [a2]
  by_cases hg : ρ.act.Gone = true
  ·rw [if_pos hg, if_pos hg, if_neg (by decide)]
   exact ⟨rfl, h.ok.acted, ⟨h.rok.old, h.rok.pend, h.rok.big, h.rok.sec, h.rok.olds⟩, h.L, a1, a3, h.pend, h.old, a4⟩
  ·rw [if_neg hg, if_neg hg, if_pos rfl]
   refine ⟨rfl, h.ok.acted.cleared, ⟨rfl, by simp [Rk.act], h.rok.big, h.rok.sec, h.rok.sec⟩, h.L, a1, a3, fun m => ?_, fun m hm => ?_, a4⟩
   ·simp only [pd, alook, Option.isSome_none, List.getD_eq_getElem?_getD, List.getElem?_map]
    cases ρ.L[m]? <;> rfl
   ·show ox ρ.L m = _
    rw [h.L]; rfl
theorem Rel.arms {δ : Dk} {ρ : Rk} (h : Rel δ ρ) (n : Int) (hn : n ≤ 9223372036854775807) : (δ.arm n).2 = (ρ.arm n).2 ∧ Rel (δ.arm n).1 (ρ.arm n).1 := by
 unfold Dk.arm Rk.arm
 rw [← h.dead]
 by_cases hd : δ.dead = true
 ·rw [if_pos hd, if_pos hd]; exact ⟨rfl, h⟩
 ·rw [if_neg hd, if_neg hd]
  by_cases h0 : n < 0
  ·rw [if_pos h0, if_pos h0]; exact ⟨rfl, h⟩
  ·rw [if_neg h0, if_neg h0]
   have hd' : δ.dead = false := by simpa using hd
   have hN0 : 0 ≤ ρ.N := by rw [← h.acts]; exact h.ok.acts0
   refine ⟨rfl, ⟨h.ok.sec, h.ok.olds, h.ok.nodup, h.ok.big, h.ok.acts0, by simp; omega⟩, ⟨h.rok.old, h.rok.pend, h.rok.big, h.rok.sec, h.rok.olds⟩, h.L, rfl, h.acts, h.pend, h.old, ?_⟩
   show (n = 0 ∧ ((if n > 0 ∧ n ≤ 4611686018427387904 then ρ.N + n else 0) = 0 ∨ δ.dead = true)) ∨ (0 < n ∧ (if n > 0 ∧ n ≤ 4611686018427387904 then ρ.N + n else 0) = ρ.N + n ∧ δ.dead = false) ∨ ((if n > 0 ∧ n ≤ 4611686018427387904 then ρ.N + n else 0) = 0 ∧ 4611686018427387904 < n + ρ.N ∧ δ.dead = false)
   by_cases h1 : n > 0 ∧ n ≤ 4611686018427387904
   ·rw [if_pos h1]; exact .inr (.inl ⟨h1.1, rfl, hd'⟩)
   ·rw [if_neg h1]
    by_cases h2 : n = 0
    ·exact .inl ⟨h2, .inl rfl⟩
    ·exact .inr (.inr ⟨rfl, by omega, hd'⟩)
structure CI (δ : Dk) (ρ : Rk) (how : List Int) (k : Nat) : Prop where
 L : (ρ.crashTo how k).L = (δ.crashTo how k).now
 pend : ∀ n : Nat, pd (ρ.crashTo how k).Pend n = ((alook δ.old (n : Int)).isSome && !decide ((n : Int) ∈ δ.pend.take k))
 old : ∀ n : Nat, n < δ.now.length → ox (ρ.crashTo how k).Old n = if (n : Int) ∈ δ.pend.take k then ox (δ.crashTo how k).now n else (alook δ.old (n : Int)).getD (ox (δ.crashTo how k).now n)
theorem Rel.pendNodup {δ : Dk} {ρ : Rk} (h : Rel δ ρ) : δ.pend.Nodup := (sortI_perm _).nodup_iff.2 h.ok.nodup
theorem Dk.crash1_other (δ : Dk) (f m : Int) {n : Nat} (hm : m.toNat < δ.now.length) (h : n ≠ m.toNat) : ox (δ.crash1 f m).now n = ox δ.now n := by
 simp only [Dk.crash1, ox]
 split
 ·rw [getD_set hm, if_neg h]
 ·split
  ·rw [getD_set hm, if_neg h]
  ·rfl
theorem CI.step {δ : Dk} {ρ : Rk} {how : List Int} (h : Rel δ ρ) {k : Nat} (hk : k < δ.pend.length) (c : CI δ ρ how k) : CI δ ρ how (k + 1) := by
 obtain ⟨m0, mlt, mlt', o, ho, hol⟩ := Dk.pend_at h.ok hk
 have hpk : ρ.pending.getD k 0 = δ.pend.getD k 0 := by rw [h.pending]
 have htake : δ.pend.take (k + 1) = δ.pend.take k ++ [δ.pend.getD k 0] := by
  rw [List.take_succ_eq_append_getElem hk]; simp [hk]
 have hnot : δ.pend.getD k 0 ∉ δ.pend.take k := by
  have hn := (List.take_sublist (k + 1) δ.pend).nodup h.pendNodup
  rw [htake] at hn
  exact fun hm => (List.nodup_append.1 hn).2.2 _ hm _ (by simp) rfl
 generalize hm : δ.pend.getD k 0 = m at *
 have hM : ((m.toNat : Nat) : Int) = m := by omega
 obtain ⟨s1, s2, s3, s4, s5⟩ := δ.crashTo_same how k
 obtain ⟨r1, r2⟩ := Rk.crashTo_ok h.rok how k (by rw [← h.pending]; omega)
 have hLn : (ρ.crashTo how k).L.length = δ.now.length := by rw [r2, h.L]
 have hOn : (ρ.crashTo how k).Old.length = δ.now.length := by rw [r1.old, hLn]
 have hPn : (ρ.crashTo how k).Pend.length = δ.now.length := by rw [r1.pend, hLn]
 have hOldM : (ρ.crashTo how k).Old.getD m.toNat [] = o := by
  have := c.old m.toNat mlt
  rw [hM, if_neg hnot, ho] at this
  exact this
 have hL : (ρ.crashTo how (k + 1)).L = (δ.crashTo how (k + 1)).now := by
  simp only [Rk.crashTo, Dk.crashTo, hpk, hm, Rk.crash1, Dk.crash1, hOldM, s1, ho, Option.getD_some, c.L]
 refine ⟨hL, fun n => ?_, fun n hn => ?_⟩
 ·have e : (ρ.crashTo how (k + 1)).Pend = (ρ.crashTo how k).Pend.set m.toNat false := by simp only [Rk.crashTo, hpk, Rk.crash1]
  rw [e, pd, getD_set (by rw [hPn]; exact mlt), htake]
  by_cases hnm : n = m.toNat
  ·rw [if_pos hnm]
   have : (n : Int) = m := by omega
   rw [this]; simp
  ·rw [if_neg hnm]
   have : (n : Int) ≠ m := by omega
   have hc := c.pend n
   rw [pd] at hc
   rw [hc]; simp [this]
 ·have e : (ρ.crashTo how (k + 1)).Old = (ρ.crashTo how k).Old.set m.toNat ((ρ.crashTo how (k + 1)).L.getD m.toNat []) := by simp only [Rk.crashTo, hpk, Rk.crash1]
  rw [e, ox, getD_set (by rw [hOn]; exact mlt), htake, hL]
  by_cases hnm : n = m.toNat
  ·rw [if_pos hnm]
   have : (n : Int) = m := by omega
   rw [if_pos (by rw [this]; simp), hnm]
  ·rw [if_neg hnm]
   have hne : (n : Int) ≠ m := by omega
   have e2 : ox (δ.crashTo how (k + 1)).now n = ox (δ.crashTo how k).now n := by
    simp only [Dk.crashTo, hm]
    exact Dk.crash1_other _ _ _ (by rw [s5]; exact mlt) hnm
   have hc := c.old n hn
   rw [ox] at hc
   rw [hc, e2]
   simp [hne]
theorem CI.all {δ : Dk} {ρ : Rk} {how : List Int} (h : Rel δ ρ) : ∀ k, k ≤ δ.pend.length → CI δ ρ how k := by
 intro k
 induction k with
 | zero => exact fun _ => ⟨h.L, fun n => by simpa [Rk.crashTo] using h.pend n, fun n hn => by simpa [Rk.crashTo, Dk.crashTo] using h.old n hn⟩
 | succ k ih => exact fun hk => (ih (by omega)).step h (by omega)
theorem Rel.crash {δ : Dk} {ρ : Rk} (h : Rel δ ρ) (how : List Int) : Rel (δ.crash how) (ρ.crash how) := by
 have c := CI.all (how := how) h δ.pend.length (Nat.le_refl _)
 obtain ⟨s1, s2, s3, s4, s5⟩ := δ.crashTo_same how δ.pend.length
 have hp := h.pending
 obtain ⟨r1, r2⟩ := Rk.crashTo_ok h.rok how ρ.pending.length (Nat.le_refl _)
 obtain ⟨q1, q2, q3⟩ := ρ.crashTo_same how ρ.pending.length
 rw [← hp] at r1 r2 q1 q2 q3
 have eR : ρ.crash how = { ρ.crashTo how δ.pend.length with Gone := false, At := 0 } := by rw [Rk.crash, hp]
 rw [eR]
 refine ⟨h.ok.crashed how, ⟨r1.old, r1.pend, r1.big, r1.sec, r1.olds⟩, c.L, rfl, ?_, fun n => ?_, fun n hn => ?_, .inl ⟨rfl, .inl rfl⟩⟩
 ·show (δ.crashTo how δ.pend.length).acts = (ρ.crashTo how δ.pend.length).N
  rw [s2, q1]; exact h.acts
 ·show pd (ρ.crashTo how δ.pend.length).Pend n = (alook ([] : List (Int × List UInt8)) (n : Int)).isSome
  rw [c.pend, List.take_length]
  rcases e : alook δ.old (n : Int) with _ | o
  ·rfl
  ·have : (n : Int) ∈ δ.pend := sortI_mem.2 (alook_some_mem.1 (by rw [e]; rfl))
   simp [this, alook]
 ·have hn' : n < δ.now.length := by
   have : (δ.crash how).now.length = δ.now.length := s5
   omega
  show ox (ρ.crashTo how δ.pend.length).Old n = (alook ([] : List (Int × List UInt8)) (n : Int)).getD (ox (δ.crashTo how δ.pend.length).now n)
  rw [c.old n hn', List.take_length]
  show _ = ox (δ.crashTo how δ.pend.length).now n
  split
  ·rfl
  ·rename_i hni
   rcases e : alook δ.old (n : Int) with _ | o
   ·rfl
   ·exact absurd (sortI_mem.2 (alook_some_mem.1 (by rw [e]; rfl))) hni
section
variable {P : Program} {E : Env} {L R : List HP} {ty : TypeId} {w : World}
theorem Quiet.shl {t t' : TypeId} {x y : Operand} {k yk : IntKind} {a b : Int} (hx : ev E x = some (.int k a)) (hy : ev E y = some (.int yk b)) (hb : 0 ≤ b) :
  Quiet P ⟨none, .binOp .shl t x y t', ty, "", #[], none⟩ E L (.int k (k.wrap (a * 2 ^ min b.toNat k.bits))) := by
 intro ρ w ha _
 have hb' : ¬ b < 0 := by omega
 simp [execOp, ha x _ hx, ha y _ hy, eqGuard, binOp, Op.shift, Bind.bind, Sem.bind, Pure.pure, Sem.run, hb']
theorem Quiet.shr {t t' : TypeId} {x y : Operand} {k yk : IntKind} {a b : Int} (hx : ev E x = some (.int k a)) (hy : ev E y = some (.int yk b)) (hb : 0 ≤ b) :
  Quiet P ⟨none, .binOp .shr t x y t', ty, "", #[], none⟩ E L (.int k (a.fdiv (2 ^ min b.toNat k.bits))) := by
 intro ρ w ha _
 have hb' : ¬ b < 0 := by omega
 simp [execOp, ha x _ hx, ha y _ hy, eqGuard, binOp, Op.shift, Bind.bind, Sem.bind, Pure.pure, Sem.run, hb']
theorem Quiet.or {t t' : TypeId} {x y : Operand} {k : IntKind} {a b : Int} (hx : ev E x = some (.int k a)) (hy : ev E y = some (.int k b)) :
  Quiet P ⟨none, .binOp .or t x y t', ty, "", #[], none⟩ E L (.int k (k.wrap (BitVec.ofInt k.bits a ||| BitVec.ofInt k.bits b).toNat)) := by
 intro ρ w ha _
 simp [execOp, ha x _ hx, ha y _ hy, eqGuard, binOp, Op.intBits, Bind.bind, Sem.bind, Pure.pure, Sem.run]
theorem Quiet.xor {t t' : TypeId} {x y : Operand} {k : IntKind} {a b : Int} (hx : ev E x = some (.int k a)) (hy : ev E y = some (.int k b)) :
  Quiet P ⟨none, .binOp .xor t x y t', ty, "", #[], none⟩ E L (.int k (k.wrap (BitVec.ofInt k.bits a ^^^ BitVec.ofInt k.bits b).toNat)) := by
 intro ρ w ha _
 simp [execOp, ha x _ hx, ha y _ hy, eqGuard, binOp, Op.intBits, Bind.bind, Sem.bind, Pure.pure, Sem.run]
theorem Quiet.and {t t' : TypeId} {x y : Operand} {k : IntKind} {a b : Int} (hx : ev E x = some (.int k a)) (hy : ev E y = some (.int k b)) :
  Quiet P ⟨none, .binOp .and t x y t', ty, "", #[], none⟩ E L (.int k (k.wrap (BitVec.ofInt k.bits a &&& BitVec.ofInt k.bits b).toNat)) := by
 intro ρ w ha _
 simp [execOp, ha x _ hx, ha y _ hy, eqGuard, binOp, Op.intBits, Bind.bind, Sem.bind, Pure.pure, Sem.run]
theorem run_equal_slice {t e : TypeId} {a : Option Addr} {n c : Nat} (ht : P.underlying t = some (.slice e)) : (Op.equal t (.slice a n c) (.slice none 0 0)).run P w = .ok a.isNone w := by
 unfold Op.equal
 rw [show Op.maxDepth = 9999 + 1 from rfl]
 generalize 9999 = d
 unfold Op.equalIn
 rw [run_bind (run_underlying ht)]; cases a <;> rfl
theorem Quiet.sleq {t t' e : TypeId} {x y : Operand} {a : Option Addr} {n c : Nat} (hx : ev E x = some (.slice a n c)) (hy : ev E y = some (.slice none 0 0)) (ht : P.underlying t = some (.slice e)) : Quiet P ⟨none, .binOp .eql t x y t', ty, "", #[], none⟩ E L (.bool a.isNone) :=
 fun _ _ ha _ => run_eql (ha x _ hx) (ha y _ hy) rfl rfl (run_equal_slice ht)
end
theorem bv_shl_or (n : Int) {c : Int} (hc : 0 ≤ c ∧ c < 256) : ((BitVec.ofInt 64 (n * 256) ||| BitVec.ofInt 64 c).toNat : Int) = (n * 256 + c) % 18446744073709551616 := by
 have h0 : BitVec.ofInt 64 (n * 256) &&& BitVec.ofInt 64 c = 0#64 := by
  have e1 : BitVec.ofInt 64 (n * 256) = BitVec.ofInt 64 n <<< 8 := by
   apply BitVec.eq_of_toNat_eq
   rw [BitVec.toNat_shiftLeft, BitVec.toNat_ofInt, BitVec.toNat_ofInt, Nat.shiftLeft_eq]
   have e : ((2 ^ 64 : Nat) : Int) = 18446744073709551616 := rfl
   have e' : (2 ^ 64 : Nat) = 18446744073709551616 := rfl
   have e8 : (2 ^ 8 : Nat) = 256 := rfl
   rw [e, e', e8]
   omega
  have e2 : BitVec.ofInt 64 c = BitVec.setWidth 64 (BitVec.ofInt 8 c) := by
   apply BitVec.eq_of_toNat_eq
   simp only [BitVec.toNat_ofInt, BitVec.toNat_setWidth]
   omega
  rw [e1, e2]
  apply BitVec.eq_of_getLsbD_eq
  intro i hi
  simp only [BitVec.getLsbD_and, BitVec.getLsbD_shiftLeft, BitVec.getLsbD_setWidth, BitVec.getLsbD_zero]
  by_cases h8 : i < 8
  ·simp [h8]
  ·have : (BitVec.ofInt 8 c).getLsbD i = false := BitVec.getLsbD_of_ge _ _ (by omega)
   simp [this]
 rw [← BitVec.add_eq_or_of_and_eq_zero _ _ h0, BitVec.toNat_add, BitVec.toNat_ofInt, BitVec.toNat_ofInt]
 omega
def beZ : List UInt8 → Int → Int
 | [], n => n
 | c :: s, n => beZ s (n * 256 + c.toNat)
theorem wrap64 (x : Int) : IntKind.i64.wrap x = (x + 9223372036854775808) % 18446744073709551616 - 9223372036854775808 := by rw [IntKind.wrap_i64]
theorem small_step (n : Int) (c : UInt8) : IntKind.i64.wrap (BitVec.ofInt 64 (IntKind.i64.wrap (n * 256)) ||| BitVec.ofInt 64 (IntKind.i64.wrap c.toNat)).toNat = IntKind.i64.wrap (n * 256 + c.toNat) := by
 have hc : c.toNat < 256 := c.toNat_lt
 have e1 : IntKind.i64.wrap (c.toNat : Int) = c.toNat := i64w (by omega)
 have e2 : BitVec.ofInt 64 (IntKind.i64.wrap (n * 256)) = BitVec.ofInt 64 (n * 256) := by
  apply BitVec.eq_of_toNat_eq
  rw [BitVec.toNat_ofInt, BitVec.toNat_ofInt, wrap64]; omega
 rw [e1, e2, bv_shl_or n (by omega), wrap64, wrap64]
 omega
section
variable {P : Program} {W : World} {n : Nat} {ds : List Deferred} {E : Env} {L R : List HP} {Q : Exit → Act → World → Prop}
theorem agree_list {ρ : Operand → Value} (ha : Agrees E ρ) : ∀ (l : List Operand) (us : List Value), l.map (ev E) = us.map some → l.map ρ = us := by
  intro l
  induction l with
  | nil => intro us h; cases us with
    | nil => rfl
    | cons u us => simp at h
  | cons x l ih => intro us h; cases us with
    | nil => simp at h
    | cons u us =>
      simp only [List.map_cons, List.cons.injEq] at h ⊢
      exact ⟨ha _ _ h.1, ih us h.2⟩
theorem OpSpec.callV {f : FuncId} {fn : Func} {c : Code} {x : Operand} {xs : Array Operand} {ts : Array TypeId} {ty : TypeId} {us vs ws : List Value} {pre : List HP} {post : Value → List HP → Prop}
  (hf : P.funcs[f]? = some fn) (hb : fn.body = some c) (hnm : (fn.name == "runtime.NumGoroutine") = false) (hv : ev E x = some (.func (.func f) us.toArray ws.toArray)) (hx : xs.toList.map (ev E) = vs.map some) (h : Fn P f (us ++ vs ++ ws).toArray pre post) :
  OpSpec P ⟨none, .call { callee := .value x, args := xs, argTypes := ts }, ty, "", #[], none⟩ E pre post := by
 intro ρ w F ha hs
 have hvs : xs.map ρ = vs.toArray := by
  apply Array.ext'
  rw [Array.toList_map]
  exact agree_list ha _ _ hx
 have hfn : ρ x = .func (.func f) us.toArray ws.toArray := ha x _ hv
 unfold Runs
 have : (execOp ρ ⟨none, .call { callee := .value x, args := xs, argTypes := ts }, ty, "", #[], none⟩).run P w = .ok (.enter f (us ++ vs ++ ws).toArray) w := by
  have hnm' : ¬ fn.name = "runtime.NumGoroutine" := by simpa using hnm
  simp [execOp, resolve, hfn, Deferred.ofValue, invoke, callFunc, program, Bind.bind, Sem.bind, Pure.pure, Sem.run, hf, hb, hnm', hvs]
 rw [this]
 refine (h F w hs).mono ?_
 rintro e w' ⟨v, L, hv', he, hs', hk⟩
 exact ⟨v, he, L, hv', hs', hk⟩
/-! ### Results -/
def resRun (tmps : Array Value) : ResultVar → Sem Value
 | .tmp t => pure (tmps.getD t undef)
 | .cell a t => do loadVar t (← asAddr (tmps.getD a undef))
def ResR (P : Program) (E : Env) (L : List HP) (r : ResultVar) (v : Value) : Prop := ∀ (tmps : Array Value) (w : World), (∀ t v, look E t = some v → tmps[t]? = some v) → St L w → (resRun tmps r).run P w = .ok v w
theorem getD_of {tmps : Array Value} {t : Nat} {v : Value} (h : tmps[t]? = some v) : tmps.getD t undef = v := by simp [h]
theorem ResR.tmp {t : Nat} {v : Value} (h : look E t = some v) : ResR P E L (.tmp t) v := fun tmps w ht _ => by
 show (pure (tmps.getD t undef) : Sem Value).run P w = _
 rw [getD_of (ht _ _ h)]; rfl
theorem ResR.cell {a t : Nat} {b off : Nat} {l : List Value} {T : TypeId} {fr : Nat × Nat} {v : Value} (h : look E a = some (.pointer (some ⟨b, off, none⟩))) (hp : aggOf P t = some none) (hL : Pick (pt b (.cells l.toArray T fr)) L R) (hv : l[off]? = some v) :
  ResR P E L (.cell a t) v := fun tmps w ht hs => by
 show (do loadVar t (← asAddr (tmps.getD a undef)) : Sem Value).run P w = _
 rw [getD_of (ht _ _ h)]
 show (loadVar t ⟨b, off, none⟩).run P w = _
 exact run_loadVar1 hp (hs.pick hL).pt hv
theorem ResR.cellA {a t : Nat} {b off k : Nat} {l vs : List Value} {T : TypeId} {fr : Nat × Nat} (h : look E a = some (.pointer (some ⟨b, off, none⟩))) (hp : aggOf P t = some (some k)) (hL : Pick (pt b (.cells l.toArray T fr)) L R) (hc : off + k ≤ l.length) (hv : (l.drop off).take k = vs) :
  ResR P E L (.cell a t) (.agg vs.toArray) := fun tmps w ht hs => by
 show (do loadVar t (← asAddr (tmps.getD a undef)) : Sem Value).run P w = _
 rw [getD_of (ht _ _ h)]
 show (loadVar t ⟨b, off, none⟩).run P w = _
 rw [← hv]; exact run_loadVarA hp (hs.pick hL).pt hc
theorem results_eq (fn : Func) (tmps : Array Value) : results fn tmps = (do let vs ← fn.results.mapM (resRun tmps); pure (if h : vs.size = 1 then vs[0] else .tuple vs) : Sem Value) := by
 unfold results
 have e : (fun r : ResultVar => (match r with | .tmp t => pure (tmps.getD t undef) | .cell a t => do loadVar t (← asAddr (tmps.getD a undef)) : Sem Value)) = resRun tmps := by
  funext r; cases r <;> rfl
 rw [← e]
 rfl
theorem results_1 {fn : Func} {r : ResultVar} {tmps : Array Value} {w : World} {v : Value} (hl : fn.results = #[r]) (h : (resRun tmps r).run P w = .ok v w) : (results fn tmps).run P w = .ok v w := by
 simp [results_eq, hl, Sem.run_bind, Result.andThen, h]
theorem results_2 {fn : Func} {r s : ResultVar} {tmps : Array Value} {w : World} {v u : Value} (hl : fn.results = #[r, s]) (h : (resRun tmps r).run P w = .ok v w) (h' : (resRun tmps s).run P w = .ok u w) : (results fn tmps).run P w = .ok (.tuple #[v, u]) w := by
 simp [results_eq, hl, Sem.run_bind, Result.andThen, h, h']
theorem G.done1 {fn : Func} {post : Value → List HP → Prop} {F : List HP} {L' : List HP} {r : ResultVar} {v : Value} (hl : fn.results = #[r]) (hr : ResR P E L r v) (hp : post v L') (hL : Picks L' L R) (hF : Suff F R) : G W n [] E L (FnQ P fn post F W .ret) := by
 intro a w he hk hs
 exact ⟨he.defers, v, results_1 hl (hr _ _ he.slots hs), v, L', hp, rfl, hF.st (hs.picks hL), hk⟩
theorem G.done2 {fn : Func} {post : Value → List HP → Prop} {F : List HP} {L' : List HP} {r s : ResultVar} {v u : Value} (hl : fn.results = #[r, s]) (hr : ResR P E L r v) (hr' : ResR P E L s u) (hp : post (.tuple #[v, u]) L') (hL : Picks L' L R) (hF : Suff F R) : G W n [] E L (FnQ P fn post F W .ret) := by
 intro a w he hk hs
 exact ⟨he.defers, _, results_2 hl (hr _ _ he.slots hs) (hr' _ _ he.slots hs), _, L', hp, rfl, hF.st (hs.picks hL), hk⟩
/-! ### Deferred calls -/
def FnQD (P : Program) (fn : Func) (post : Value → List HP → Prop) (F : List HP) (W : World) : Exit → Act → World → Prop :=
 bodyPostD P fn fun e w' => ∃ v L, post v L ∧ e = .returned v ∧ St (L ++ F) w' ∧ Keeps W w'
def FnD (P : Program) (f : FuncId) (args : Array Value) (pre : List HP) (post : Value → List HP → Prop) : Prop :=
 ∀ (F : List HP) (w : World) (u : FrameMode), St (pre ++ F) w → CallsD P f args u w fun e u' w' => u' = u ∧ ∃ v L, post v L ∧ e = .returned v ∧ St (L ++ F) w' ∧ Keeps w w'
theorem FnD.intro {f : FuncId} {fn : Func} {c : Code} {vs : List Value} {pre : List HP} {post : Value → List HP → Prop} {n : Nat}
  (hf : P.funcs[f]? = some fn) (hb : fn.body = some c) (hn : vs.length + (fn.ntmps - vs.length) = n)
  (h : ∀ F W, G W n [] (argE 0 vs) (pre ++ F) (c.wp P (FnQ P fn post F W))) : FnD P f vs.toArray pre post := by
 intro F w u hs
 refine callsD_of_wp hf hb (h F w _ w ⟨?_, rfl, fun t v hl => ?_⟩ (.refl w) hs)
 ·simp [← hn]
 ·obtain ⟨-, h2⟩ := look_argE _ _ _ _ hl
  have hlt : t < vs.length := by
   rcases Nat.lt_or_ge t vs.length with h | h
   ·exact h
   ·simp [List.getElem?_eq_none h] at h2
  simp only [Nat.sub_zero] at h2
  rw [List.getElem?_eq_getElem hlt] at h2
  simp only [Option.some.injEq] at h2
  simp [Array.getElem?_append, hlt, h2]
theorem Fn.introD {f : FuncId} {fn : Func} {c : Code} {vs : List Value} {pre : List HP} {post : Value → List HP → Prop} {n : Nat}
    (hf : P.funcs[f]? = some fn) (hb : fn.body = some c) (hn : vs.length + (fn.ntmps - vs.length) = n)
    (h : ∀ F W, G W n [] (argE 0 vs) (pre ++ F) (c.wp P (FnQD P fn post F W))) : Fn P f vs.toArray pre post := by
  intro F w hs
  refine calls_of_wp_defers hf hb (h F w _ w ⟨?_, rfl, fun t v hl => ?_⟩ (.refl w) hs)
  · simp [← hn]
  obtain ⟨-, h2⟩ := look_argE _ _ _ _ hl
  have hlt : t < vs.length := by
    rcases Nat.lt_or_ge t vs.length with h | h
    · exact h
    simp [List.getElem?_eq_none h] at h2
  simp only [Nat.sub_zero] at h2
  rw [List.getElem?_eq_getElem hlt] at h2
  simp only [Option.some.injEq] at h2
  simp [Array.getElem?_append, hlt, h2]
theorem G.defer {ops : Array Oper} {f : FuncId} {xs : Array Operand} {ts : Array TypeId} {ty : TypeId} {pos : String} {aft : Array Edge} {rest : List Oper} {vs : List Value} (hx : xs.toList.map (ev E) = vs.map some)
  (h : G W n ({ target := .fn (.func f) #[], args := vs.toArray } :: ds) E L (wpList P ops Q rest)) : G W n ds E L (wpList P ops Q (⟨none, .defer { callee := .value (.func f), args := xs, argTypes := ts }, ty, pos, aft, none⟩ :: rest)) := by
 intro a w he hk hs
 refine wpList_plain rfl fun K' hK' => ?_
 have hvs : xs.map a.eval = vs.toArray := by
  apply Array.ext'
  rw [Array.toList_map]
  exact agree_list he.agrees _ _ hx
 have hfn : a.eval (.func f) = .func (.func f) #[] #[] := rfl
 have hrun : (execOp a.eval ⟨none, .defer { callee := .value (.func f), args := xs, argTypes := ts }, ty, pos, aft, none⟩).run P w = .ok (.defer { target := .fn (.func f) #[], args := vs.toArray }) w := by
  simp [execOp, resolve, hfn, Deferred.ofValue, Bind.bind, Sem.bind, Pure.pure, Sem.run, hvs]
 unfold Oper.wp
 rw [hrun, Oper.upon_defer]
 refine hK' _ _ (h _ _ ⟨he.size, by show _ :: a.defers = _; rw [he.defers], he.slots⟩ hk hs)
theorem G.doneD {fn gn : Func} {gc : Code} {g : FuncId} {vs : List Value} {post postD : Value → List HP → Prop} {F preD : List HP} (hf : P.funcs[g]? = some gn) (hb : gn.body = some gc) (hnm : (gn.name == "runtime.NumGoroutine") = false)
  (hd : FnD P g vs.toArray preD postD) (hL : Picks preD L R) (h : ∀ u L', postD u L' → G W n [] E (L' ++ R) (FnQ P fn post F W .ret)) :
  G W n [{ target := .fn (.func g) #[], args := vs.toArray }] E L (FnQD P fn post F W .ret) := by
 intro a w he hk hs
 show Leaves P fn a.tmps _ a.defers .returning w
 rw [he.defers]
 have hi : (invoke (.fn (.func g) #[]) vs.toArray).run P w = .ok (.enter g vs.toArray) w := by
  have hnm' : ¬ gn.name = "runtime.NumGoroutine" := by simpa using hnm
  simp [invoke, callFunc, program, Bind.bind, Sem.bind, Pure.pure, Sem.run, hf, hb, hnm']
 refine leaves_cons (by simp) hi ((hd R w .returning (hs.picks hL)).mono ?_)
 rintro e u' w' ⟨rfl, v, L', hv, rfl, hs', hk'⟩
 obtain ⟨-, v', hr, hR⟩ := h v L' hv { a with defers := [] } w' ⟨he.size, rfl, he.slots⟩ (hk.trans hk') hs'
 exact ⟨v', hr, hR⟩
end
section
variable {P : Program} {W : World} {n : Nat} {ds : List Deferred} {E : Env} {L R : List HP} {Q : Exit → Act → World → Prop} {next : Act → World → Prop}
theorem G.d1 {fn : Func} {post : Value → List HP → Prop} {F : List HP} {L' : List HP} {r : ResultVar} {v : Value} (hl : fn.results = #[r]) (hr : ResR P E L r v) (hp : post v L') (hL : Picks L' L R := by repeat' constructor) (hF : Suff F R := by repeat' constructor) : G W n [] E L (FnQ P fn post F W .ret) := G.done1 hl hr hp hL hF
theorem G.d2 {fn : Func} {post : Value → List HP → Prop} {F : List HP} {L' : List HP} {r s : ResultVar} {v u : Value} (hl : fn.results = #[r, s]) (hr : ResR P E L r v) (hr' : ResR P E L s u) (hp : post (.tuple #[v, u]) L') (hL : Picks L' L R := by repeat' constructor) (hF : Suff F R := by repeat' constructor) : G W n [] E L (FnQ P fn post F W .ret) := G.done2 hl hr hr' hp hL hF
end
def bysL (s : Bs) : List Value := s.map vbyte
abbrev bytR (v : Value) (s : Bs) : HP := slR 5 1 v s.length (bysL s)
theorem bysL_append (s t : Bs) : bysL (s ++ t) = bysL s ++ bysL t := by simp [bysL]
theorem bysL_len (s : Bs) : (bysL s).length = s.length := by simp [bysL]
theorem bysL_cell (s : Bs) : ∀ y ∈ bysL s, isCell y = true := by
 intro y hy; obtain ⟨c, -, rfl⟩ := List.mem_map.1 hy; rfl
def byteZ (x : Int) : UInt8 := UInt8.ofNat (x % 256).toNat
def beB (n : Int) : Nat → Bs
 | 0 => []
 | k + 1 => beB (n / 256) k ++ [byteZ n]
theorem beB_len (k : Nat) : ∀ n, (beB n k).length = k := by
 induction k with
 | zero => intro n; rfl
 | succ k ih => intro n; simp [beB, ih]
theorem beB_at (k : Nat) : ∀ (n : Int) (i : Nat), i < k → (beB n k)[k - 1 - i]? = some (byteZ (n / 256 ^ i)) := by
 induction k with
 | zero => intro n i h; omega
 | succ k ih =>
  intro n i h
  simp only [beB]
  cases i with
  | zero =>
   rw [List.getElem?_append_right (by rw [beB_len]; omega), beB_len]
   simp
  | succ i =>
   have := ih (n / 256) i (by omega)
   rw [List.getElem?_append_left (by rw [beB_len]; omega), show k + 1 - 1 - (i + 1) = k - 1 - i by omega, this, Int.ediv_ediv_of_nonneg (by omega)]
   congr 3
   rw [Int.pow_succ]; exact Int.mul_comm _ _
theorem vbyteZ (x : Int) : vbyte (byteZ x) = .int .u8 (IntKind.u8.wrap x) := by
 show Value.int .u8 _ = Value.int .u8 (x % 256)
 congr 1
 simp [byteZ]; omega
def fillB (l : List Value) (off : Nat) (n : Int) (k i : Nat) : List Value := l.take (off + (k - i)) ++ bysL ((beB n k).drop (k - i)) ++ l.drop (off + k)
theorem fillB_0 (l : List Value) (off : Nat) (n : Int) (k : Nat) : fillB l off n k 0 = l := by
 simp [fillB, bysL, List.drop_eq_nil_of_le, beB_len]
theorem fillB_k (l : List Value) (off : Nat) (n : Int) (k : Nat) : fillB l off n k k = spl l off (bysL (beB n k)) := by
 simp [fillB, spl, bysL, beB_len]
theorem fillB_step {l : List Value} {off : Nat} {n : Int} {k i : Nat} (hi : i < k) (hl : off + k ≤ l.length) : (fillB l off n k i).set (off + (k - 1 - i)) (vbyte (byteZ (n / 256 ^ i))) = fillB l off n k (i + 1) := by
 have h1 := beB_at k n i hi
 have hlen : (beB n k).length = k := beB_len k n
 unfold fillB
 have e1 : l.take (off + (k - i)) = l.take (off + (k - 1 - i)) ++ [l[off + (k - 1 - i)]'(by omega)] := by
  rw [show off + (k - i) = off + (k - 1 - i) + 1 by omega, List.take_succ_eq_append_getElem (by omega)]
 have e2 : (beB n k).drop (k - (i + 1)) = byteZ (n / 256 ^ i) :: (beB n k).drop (k - i) := by
  have : k - (i + 1) = k - 1 - i := by omega
  rw [this, List.drop_eq_getElem_cons (by omega)]
  have h3 : (beB n k)[k - 1 - i]'(by omega) = byteZ (n / 256 ^ i) := by
   rw [List.getElem?_eq_getElem (by omega)] at h1; exact Option.some.inj h1
  rw [h3, show k - 1 - i + 1 = k - i by omega]
 rw [e1, e2, show off + (k - (i + 1)) = off + (k - 1 - i) by omega]
 rw [List.append_assoc, List.append_assoc, List.append_assoc, List.set_append_right _ _ (by simp; omega)]
 have : (l.take (off + (k - 1 - i))).length = off + (k - 1 - i) := by rw [List.length_take]; omega
 rw [this, Nat.sub_self]
 simp [bysL]
theorem fillB_len {l : List Value} {off : Nat} {n : Int} {k i : Nat} (hi : i ≤ k) (hl : off + k ≤ l.length) : (fillB l off n k i).length = l.length := by
 simp [fillB, bysL, beB_len]; omega
theorem pow256 (i : Nat) : (2 : Int) ^ (8 * i) = 256 ^ i := by rw [Int.pow_mul]; rfl
theorem shr_at {n : Int} {i : Nat} (hi : i ≤ 7) : IntKind.u8.wrap (n.fdiv (2 ^ min (8 * (i : Int)).toNat IntKind.i64.bits)) = IntKind.u8.wrap (n / 256 ^ i) := by
 have e : min (8 * (i : Int)).toNat IntKind.i64.bits = 8 * i := by
  have : IntKind.i64.bits = 64 := rfl
  omega
 rw [e, pow256, Int.fdiv_eq_ediv_of_nonneg _ (Int.le_of_lt (Int.pow_pos (by decide)))]
def smallZ (s : Bs) : Int := IntKind.i64.wrap (beZ s 0)
theorem beZ_append (s t : Bs) : ∀ n, beZ (s ++ t) n = beZ t (beZ s n) := by
 induction s with
 | nil => intro n; rfl
 | cons c s ih => intro n; simp [beZ, ih]
theorem small_next {s : Bs} {i : Nat} (hi : i < s.length) : IntKind.i64.wrap (BitVec.ofInt IntKind.i64.bits (IntKind.i64.wrap (IntKind.i64.wrap (beZ (s.take i) 0) * 2 ^ min (8 : Int).toNat IntKind.i64.bits)) ||| BitVec.ofInt IntKind.i64.bits (IntKind.i64.wrap (s[i].toNat : Int))).toNat = IntKind.i64.wrap (beZ (s.take (i + 1)) 0) := by
 rw [List.take_succ_eq_append_getElem hi, beZ_append]
 have e : IntKind.i64.wrap (IntKind.i64.wrap (beZ (s.take i) 0) * 2 ^ min (8 : Int).toNat IntKind.i64.bits) = IntKind.i64.wrap (beZ (s.take i) 0 * 256) := by
  have : (2 : Int) ^ min (8 : Int).toNat IntKind.i64.bits = 256 := rfl
  rw [this, wrap64, wrap64, wrap64]; omega
 rw [e]
 exact small_step _ _
/-! ### The sum -/
def sumStep (h : Int) (c : UInt8) : Int := IntKind.u32.wrap (IntKind.u32.wrap (BitVec.ofInt 32 h ^^^ BitVec.ofInt 32 (IntKind.u32.wrap c.toNat)).toNat * 16777619)
def sumZ (s : Bs) : Int := s.foldl sumStep 2166136261
theorem sumZ_next {s : Bs} {i : Nat} (hi : i < s.length) : sumZ (s.take (i + 1)) = sumStep (sumZ (s.take i)) s[i] := by
 rw [List.take_succ_eq_append_getElem hi, sumZ, List.foldl_append]; rfl
theorem u32wrap (x : Int) : IntKind.u32.wrap x = x % 4294967296 := rfl
theorem sumZ_range (s : Bs) : 0 ≤ sumZ s ∧ sumZ s < 4294967296 := by
 rcases List.eq_nil_or_concat s with rfl | ⟨t, c, rfl⟩
 ·exact ⟨by decide, by decide⟩
 ·rw [sumZ, List.concat_eq_append, List.foldl_append]
  simp only [List.foldl_cons, List.foldl_nil]
  rw [sumStep, u32wrap]; omega
/-! ### Records, marks -/
def headZ (s : Bs) : Bs := beB s.length 2 ++ s
def recZ (s : Bs) : Bs := headZ s ++ beB (sumZ (headZ s)) 4
theorem recZ_len (s : Bs) : (recZ s).length = s.length + 6 := by simp [recZ, headZ, beB_len]; omega
def laidZ (l : List Bs) : Bs := l.flatMap recZ
theorem laidZ_append (l m : List Bs) : laidZ (l ++ m) = laidZ l ++ laidZ m := by simp [laidZ]
theorem recZ_mem {l : List Bs} {s : Bs} (h : s ∈ l) : s.length + 6 ≤ (laidZ l).length := by
 induction l with
 | nil => simp at h
 | cons x l ih =>
  have e : laidZ (x :: l) = recZ x ++ laidZ l := by simp [laidZ]
  rw [e, List.length_append, recZ_len]
  rcases List.mem_cons.1 h with rfl | h
  ·omega
  ·have := ih h; omega
theorem laidZ_many (l : List Bs) : l.length ≤ (laidZ l).length := by
 induction l with
 | nil => simp
 | cons x l ih =>
  have e : laidZ (x :: l) = recZ x ++ laidZ l := by simp [laidZ]
  rw [e, List.length_append, recZ_len, List.length_cons]; omega
theorem laidZ_take_len (l : List Bs) (i : Nat) : (laidZ (l.take i)).length ≤ (laidZ l).length := by
 have e : laidZ l = laidZ (l.take i) ++ laidZ (l.drop i) := by rw [← laidZ_append, List.take_append_drop]
 rw [e, List.length_append]; omega
theorem laidZ_succ {l : List Bs} {i : Nat} (hi : i < l.length) : laidZ (l.take (i + 1)) = laidZ (l.take i) ++ recZ l[i] := by
 rw [List.take_succ_eq_append_getElem hi, laidZ_append]; simp [laidZ]
theorem spl_zero {p q : Bs} {k off : Nat} {z : Value} (ho : off = p.length) (hq : q.length ≤ k) : spl (bysL p ++ List.replicate k z) off (bysL q) = bysL (p ++ q) ++ List.replicate (k - q.length) z := by
 subst ho
 rw [← bysL_len p, bysL_append]
 simp [spl, List.drop_append, bysL_len]
structure Mk where
 count : Int
 area : Int
 len : Int
 num : Int
 a : Int
 b : Int
def mkC (m : Mk) : List Value := [vint m.count, vint m.area, vint m.len, vint m.num, vint m.a, vint m.b]
def Mk.sec (m : Mk) : Bs := [87, 77] ++ beB m.count 4 ++ beB m.area 1 ++ beB m.len 4 ++ beB m.num 4 ++ beB m.a 8 ++ beB m.b 8 ++ List.replicate 29 0 ++ beB m.count 4
def Mk.part (m : Mk) : Nat → Bs
 | 0 => [87, 77]
 | 1 => beB m.count 4
 | 2 => beB m.area 1
 | 3 => beB m.len 4
 | 4 => beB m.num 4
 | 5 => beB m.a 8
 | _ => beB m.b 8
def Mk.pre (m : Mk) (j : Nat) : Bs := (List.range (j + 1)).flatMap m.part
theorem Mk.pre_succ (m : Mk) (j : Nat) : m.pre (j + 1) = m.pre j ++ m.part (j + 1) := by
 unfold Mk.pre; rw [List.range_succ, List.flatMap_append]; simp
theorem Mk.pre_len (m : Mk) : (m.pre 0).length = 2 ∧ (m.pre 1).length = 6 ∧ (m.pre 2).length = 7 ∧ (m.pre 3).length = 11 ∧ (m.pre 4).length = 15 ∧ (m.pre 5).length = 23 ∧ (m.pre 6).length = 31 := by
 simp [Mk.pre, List.range_succ, Mk.part, beB_len]
abbrev zB : Value := .int .u8 0
def Mk.at (m : Mk) (j k : Nat) : List Value := bysL (m.pre j) ++ List.replicate k zB
theorem Mk.at_step (m : Mk) {j k off : Nat} {q : Bs} (ho : off = (m.pre j).length) (hq : q = m.part (j + 1)) (hl : q.length ≤ k) : spl (m.at j k) off (bysL q) = m.at (j + 1) (k - q.length) := by
 unfold Mk.at; rw [spl_zero ho hl, m.pre_succ, hq]
theorem Mk.at_end (m : Mk) : spl (m.at 6 33) 60 (bysL (beB m.count 4)) = bysL m.sec := by
 have e : m.at 6 33 = bysL (m.pre 6 ++ List.replicate 29 0) ++ List.replicate 4 zB := by
  unfold Mk.at
  rw [bysL_append, List.append_assoc]
  rfl
 rw [e, spl_zero (by rw [List.length_append, m.pre_len.2.2.2.2.2.2, List.length_replicate]) (by simp [beB_len]), beB_len]
 unfold Mk.sec
 generalize List.replicate 29 (0 : UInt8) = z29
 simp [Mk.pre, List.range_succ, Mk.part]
theorem Mk.sec_len (m : Mk) : m.sec.length = 64 := by simp [Mk.sec, beB_len]
def halfZ (δ : Dk) : Int := ((δ.now.length : Int) - 2) / 2
theorem big_spec (b off k c : Nat) (n : Int) (l : List Value) (T : TypeId) (hk : k ≤ 8) (hl : off + k ≤ l.length) : Fn Tryz.prog 150 #[.slice (some ⟨b, off, none⟩) k c, vint n] [ptc b l T] fun v L => v = .tuple #[] ∧ L = [ptc b (spl l off (bysL (beB n k))) T] := by
 refine Fn.intro Tryz.func150 rfl rfl fun F W => ?_
 refine .sm rfl (.q (.slen rfl Tryz.underlying125 rfl) rfl (.m rfl (.nt (.block (.ptCast (by repeat' constructor) (fillB_0 l off n k).symm (.loopK (ι := Nat) (fun q E => (7, vint q) :: E) (fun q => [ptc b (fillB l off n k q) T]) (fun q => q ≤ k) (fun q => k - q) (0) (ts := [0, 1, 6]) (.cons rfl (.cons rfl (.cons rfl (.nil)))) (Nat.zero_le _) ⟨rfl, rfl, rfl, rfl, trivial⟩ (by repeat' constructor) ?_))))))
 rintro i hi
 refine .sr (.ui rfl rfl rfl (.nt (.seq (.condD rfl (fun h8 => ?_) (fun h8 => ?_)))))
 ·have hi2 : i < k := by omega
  refine .sk (.seq (.block (.sm rfl (.an rfl (.region (.m rfl (.m rfl (.q (.slen rfl Tryz.underlying125 rfl) rfl (.q (.sub rfl rfl (by omega)) rfl (.m rfl (.q (.sub rfl rfl (by omega)) rfl (.m rfl (.m rfl (.q (.mul rfl rfl (by omega)) rfl (.q (.shr rfl rfl (by first | decide | omega)) rfl (.q (.conv rfl Tryz.underlying3 Tryz.underlying5) rfl (.q (.indexAddr rfl rfl el_125 (by omega)) rfl (.oq (.store rfl rfl rfl sz_5 ?c16 (nfz0 _ _)) ?_))))))))))))))))))
  case c16 => rw [fillB_len (by omega) hl]; omega
  rintro v L' rfl
  refine .nil (.blk_n (.then_n (.region (.q (.add rfl rfl (by omega)) rfl (.m rfl (.nt (.ptCast (l' := fillB l off n k (i + 1)) (by repeat' constructor) (by rw [shr_at (by omega), ← vbyteZ, show off + ((k : Int) - 1 - i).toNat * 1 = off + (k - 1 - i) by omega]; exact fillB_step (by omega) hl) ?_)))))))
  exact .rk (i + 1) (by omega) (by omega) ⟨rfl, rfl, rfl, rfl, trivial⟩
 refine .exit (.then_e (.then_e (.blk_e (.done_n ?_))))
 have hi3 : i = k := by omega
 subst hi3
 refine .ptCast (by repeat' constructor) (fillB_k l off n i) ?_
 exact .vv
theorem small_spec (s : Bs) (hs : s.length ≤ 9223372036854775807) : Fn Tryz.prog 159 #[vstr s] [] fun v L => v = vint (smallZ s) ∧ L = [] := by
 refine Fn.intro Tryz.func159 rfl rfl fun F W => ?_
 refine .sr (.an rfl (.sr (.an rfl (.seq (.sm rfl (.q (.strlen rfl Tryz.underlying9 rfl) rfl (.m rfl (.nt (.block (.loopK (ι := Nat) (fun q E => (7, vint q) :: (3, vint (IntKind.i64.wrap (beZ (s.take q) 0))) :: E) (fun q => []) (fun q => q ≤ s.length) (fun q => s.length - q) (0) (ts := [0, 2, 6]) (.cons rfl (.cons rfl (.cons rfl (.nil)))) (Nat.zero_le _) ⟨rfl, rfl, rfl, rfl, rfl, trivial⟩ (by repeat' constructor) ?_))))))))))
 rintro i hi
 refine .sr (.ui rfl rfl rfl (.nt (.seq (.condD rfl (fun h8 => ?_) (fun h8 => ?_)))))
 ·have hi2 : i < s.length := by simpa [bs_size] using h8
  refine .sk (.seq (.block (.sm rfl (.an rfl (.region (.m rfl (.q (.shl rfl rfl (by first | decide | omega)) rfl (.m rfl (.m rfl (.q (.strIndex (c := s[i]) rfl rfl Tryz.underlying9 (by omega) (by simp)) rfl (.q (.conv rfl Tryz.underlying5 Tryz.underlying3) rfl (.q (.as (v' := vint (IntKind.i64.wrap (beZ (s.take (i + 1)) 0))) (by exact congrArg (Value.int .i64) (small_next hi2)) (.or rfl rfl)) rfl (.a rfl (.nil (.blk_n (.then_n (.region (.q (.add rfl rfl (by omega)) rfl (.m rfl (.nt ?_))))))))))))))))))))
  exact .rk (i + 1) (by omega) (by omega) ⟨rfl, rfl, rfl, rfl, rfl, trivial⟩
 refine .exit (.then_e (.then_e (.blk_e (.then_n (.sm rfl (.an rfl (.ret ?_)))))))
 exact .dn rfl rfl ⟨by have hi3 : i = s.length := (by have h9 : ¬ (i : Int) < s.length := (by simpa [bs_size] using h8); omega); rw [hi3, List.take_length]; rfl, rfl⟩
theorem sum_spec (s : Bs) (hs : s.length ≤ 9223372036854775807) : Fn Tryz.prog 151 #[vstr s] [] fun v L => v = .int .u32 (sumZ s) ∧ L = [] := by
 refine Fn.intro Tryz.func151 rfl rfl fun F W => ?_
 refine .sr (.an rfl (.sr (.an rfl (.seq (.sm rfl (.q (.strlen rfl Tryz.underlying9 rfl) rfl (.m rfl (.nt (.block (.loopK (ι := Nat) (fun q E => (7, vint q) :: (3, .int .u32 (sumZ (s.take q))) :: E) (fun q => []) (fun q => q ≤ s.length) (fun q => s.length - q) (0) (ts := [0, 2, 6]) (.cons rfl (.cons rfl (.cons rfl (.nil)))) (Nat.zero_le _) ⟨rfl, rfl, rfl, rfl, rfl, trivial⟩ (by repeat' constructor) ?_))))))))))
 rintro i hi
 refine .sr (.ui rfl rfl rfl (.nt (.seq (.condD rfl (fun h8 => ?_) (fun h8 => ?_)))))
 ·have hi2 : i < s.length := by simpa [bs_size] using h8
  refine .sk (.seq (.block (.sm rfl (.an rfl (.region (.m rfl (.m rfl (.m rfl (.q (.strIndex (c := s[i]) rfl rfl Tryz.underlying9 (by omega) (by simp)) rfl (.q (.conv rfl Tryz.underlying5 Tryz.underlying183) rfl (.u (.xor rfl rfl) (.q (.as (v' := .int .u32 (sumZ (s.take (i + 1)))) (by rw [sumZ_next hi2]; rfl) (.int rfl rfl rfl)) rfl (.a rfl (.nil (.blk_n (.then_n (.region (.q (.add rfl rfl (by omega)) rfl (.m rfl (.nt ?_))))))))))))))))))))
  exact .rk (i + 1) (by omega) (by omega) ⟨rfl, rfl, rfl, rfl, rfl, trivial⟩
 refine .exit (.then_e (.then_e (.blk_e (.then_n (.sm rfl (.an rfl (.ret ?_)))))))
 exact .dn rfl rfl ⟨by have hi3 : i = s.length := (by have h9 : ¬ (i : Int) < s.length := (by simpa [bs_size] using h8); omega); rw [hi3, List.take_length], rfl⟩
theorem rsum_spec (s : Bs) (hs : s.length ≤ 9223372036854775807) : Fn Tryz.prog 164 #[vstr s] [] fun v L => v = .int .u32 (sumZ s) ∧ L = [] := by
 refine Fn.intro Tryz.func164 rfl rfl fun F W => ?_
 refine .sr (.an rfl (.sr (.an rfl (.seq (.sr (.an rfl (.block (.loopK (ι := Nat) (fun q E => (4, vint q) :: (3, .int .u32 (sumZ (s.take q))) :: E) (fun q => []) (fun q => q ≤ s.length) (fun q => s.length - q) (0) (ts := [0, 2]) (.cons rfl (.cons rfl (.nil))) (Nat.zero_le _) ⟨rfl, rfl, rfl, rfl, trivial⟩ (by repeat' constructor) ?_))))))))
 rintro i hi
 refine .seq (.sm rfl (.m rfl (.q (.strlen rfl Tryz.underlying9 rfl) rfl (.ui rfl rfl rfl (.nt (.condD rfl (fun h8 => ?_) (fun h8 => ?_)))))))
 ·have hi2 : i < s.length := by simpa [bs_size] using h8
  refine .sk (.seq (.block (.region (.m rfl (.m rfl (.m rfl (.q (.strIndex (c := s[i]) rfl rfl Tryz.underlying9 (by omega) (by simp)) rfl (.q (.conv rfl Tryz.underlying5 Tryz.underlying183) rfl (.u (.xor rfl rfl) (.q (.as (v' := .int .u32 (sumZ (s.take (i + 1)))) (by rw [sumZ_next hi2]; rfl) (.int rfl rfl rfl)) rfl (.a rfl (.nil (.blk_n (.then_n (.region (.m rfl (.q (.add rfl rfl (by omega)) rfl (.an rfl ?_))))))))))))))))))
  exact .rk (i + 1) (by omega) (by omega) ⟨rfl, rfl, rfl, rfl, trivial⟩
 refine .exit (.then_e (.then_e (.blk_e (.then_n (.sm rfl (.an rfl (.ret ?_)))))))
 exact .dn rfl rfl ⟨by have hi3 : i = s.length := (by have h9 : ¬ (i : Int) < s.length := (by simpa [bs_size] using h8); omega); rw [hi3, List.take_length], rfl⟩
theorem record_spec (s : Bs) (hs : s.length ≤ 2147483648) : Fn Tryz.prog 99 #[vstr s] [] fun v L => (∃ a c, v = .slice a (recZ s).length c) ∧ L = [bytR v (recZ s)] := by
 refine Fn.intro Tryz.func99 rfl rfl fun F W => ?_
 have hsum := sumZ_range (headZ s)
 have hh : (headZ s).length = s.length + 2 := by simp [headZ, beB_len]; omega
 refine .sr (.an rfl (.sm rfl (.q (.strlen rfl Tryz.underlying9 rfl) rfl (.q (.add rfl rfl (by omega)) rfl (.oq (.make rfl rfl el_125 ze_5 rfl ⟨by simp, by simp; rfl⟩ ?hc5) ?_)))))
 case hc5 => omega
 rintro v L' ⟨b, rfl, rfl⟩; rw [show ((s.length : Int) + 6).toNat = s.length + 6 by omega, show (2 : Int).toNat = 2 from rfl]
 refine .an rfl (.sm rfl (.m rfl (.q (.strlen rfl Tryz.underlying9 rfl) rfl (.oq (.c Tryz.func150 [_, _] (big_spec b 0 2 (s.length + 6) s.length _ _ (by decide) ?hl10)) ?_))))
 case hl10 => simp
 rintro v L' ⟨rfl, rfl⟩
 refine .nil (.slMake (n := 2) (c := s.length + 6) (xs := bysL (beB s.length 2)) (by repeat' constructor) (by omega) (by simp [spl, bysL_len, beB_len]; omega) (by simp [spl, bysL_len, beB_len]) (.then_n (.sm rfl (.m rfl (.oq (.appendS rfl rfl rfl el_125 Tryz.underlying9 ze_5 rfl rfl ?hb14 (by decide)) ?_)))))
 case hb14 => omega
 rintro v L' ⟨⟨a1, c1, rfl⟩, rfl⟩; rw [show 2 + s.length = (headZ s).length by omega, show bysL (beB (s.length : Int) 2) ++ s.map vbyte = bysL (headZ s) from (bysL_append _ _).symm]
 refine .an rfl (.sr (.oq (.make rfl rfl el_125 ze_5 rfl ⟨by simp, by simp; rfl⟩ ?hc17) ?_))
 case hc17 => omega
 rintro v L' ⟨b2, rfl, rfl⟩; rw [show (4 : Int).toNat = 4 from rfl]
 refine .an rfl (.sm rfl (.m rfl (.q (.bytesBy (cs := headZ s) (n := (headZ s).length) (p := bytR (.slice a1 (headZ s).length c1) (headZ s)) rfl Tryz.underlying125 Tryz.underlying5 Tryz.underlying9 (fun h hp => slR_rd hp) (by repeat' constructor)) rfl (.cv Tryz.func151 [_] (sum_spec (headZ s) (by omega)) ?_))))
 refine .q (.as (v' := vint (sumZ (headZ s))) (by rw [i64w (by omega)]) (.conv rfl Tryz.underlying183 Tryz.underlying3)) rfl (.oq (.c Tryz.func150 [_, _] (big_spec b2 0 4 4 (sumZ (headZ s)) _ _ (by decide) ?hl24)) ?_)
 case hl24 => simp
 rintro v L' ⟨rfl, rfl⟩
 refine .nil (.ptCast (l' := bysL (beB (sumZ (headZ s)) 4)) (by repeat' constructor) (spl_all (by simp [bysL_len, beB_len])) (.then_n (.sm rfl (.m rfl (.oq (.append1 (m := 4) rfl rfl rfl el_125 ze_5 rfl rfl ?c127 ?c228 (Nat.le_refl _) ?c329 (by decide)) ?_)))))
 case c127 => exact bysL_cell _
 case c228 => simp [bysL_len, beB_len]
 case c329 => omega
 rintro v L' ⟨⟨a2, c2, rfl⟩, rfl⟩; rw [show (headZ s).length + 4 = (recZ s).length by rw [recZ_len]; omega, show bysL (headZ s) ++ bysL (beB (sumZ (headZ s)) 4) = bysL (recZ s) from (bysL_append _ _).symm]
 refine .an rfl (.ret ?_)
 exact .dn rfl rfl ⟨⟨_, _, rfl⟩, rfl⟩
theorem laid_spec (v : Value) (l : List Bs) (p : HP) (hr : ∀ h : Hp, p h → rdS 1 h v l.length (strs l)) (hl : (laidZ l).length ≤ 2147483648) : Fn Tryz.prog 134 #[v] [p] fun u L => (∃ a c, u = .slice a (laidZ l).length c) ∧ L = [bytR u (laidZ l), p] := by
 refine Fn.intro Tryz.func134 rfl rfl fun F W => ?_
 have hll : l.length ≤ (laidZ l).length := laidZ_many l
 refine .rdAny (p := p) hr (by repeat' constructor) fun aa ca e _ => ?_
 subst e
 refine .sr (.an rfl (.seq (.add (slR_nil 5 1) (.region (.an rfl (.seq (.sm rfl (.q (.slen rfl Tryz.underlying46 rfl) rfl (.m rfl (.nt (.block (.loopK (ι := Nat × Value) (fun q E => (8, vint q.1) :: (3, q.2) :: E) (fun q => [bytR q.2 (laidZ (l.take q.1))]) (fun q => q.1 ≤ l.length ∧ ∃ a c, q.2 = .slice a (laidZ (l.take q.1)).length c) (fun q => l.length - q.1) (0, .slice none 0 0) (ts := [2, 6, 7]) (.cons rfl (.cons rfl (.cons rfl (.nil)))) (⟨Nat.zero_le _, _, _, rfl⟩) ⟨rfl, rfl, rfl, rfl, rfl, trivial⟩ (by repeat' constructor) ?_))))))))))))
 rintro ⟨i, u⟩ ⟨hi, au, cu, hu⟩
 dsimp only
 dsimp only at hi hu
 subst hu
 refine .sr (.ui rfl rfl rfl (.nt (.seq (.condD rfl (fun h9 => ?_) (fun h9 => ?_)))))
 ·have hi2 : i < l.length := by omega
  refine .rdShape (p := p) hr (by repeat' constructor) (by omega) fun ba oa e => ?_
  subst e
  have hm := recZ_mem (List.getElem_mem hi2)
  have ht := laidZ_take_len l (i + 1)
  rw [laidZ_succ hi2, List.length_append] at ht
  have hrl := recZ_len l[i]
  refine .sk (.seq (.block (.sr (.q (.indexAddr rfl rfl el_46 (by omega)) rfl (.q (.loadRd (sz := 1) (j := i) (p := p) (v := vstr l[i]) rfl ag_9 (by repeat' constructor) hr (by simp) (by simp [hi2])) rfl (.an rfl (.region (.m rfl (.m rfl (.oq (.c Tryz.func99 [_] (record_spec l[i] (by omega))) ?_))))))))))
  rintro v L' ⟨⟨ar, cr, rfl⟩, rfl⟩
  refine .oq (.append (n := (laidZ (l.take i)).length) (m := (recZ l[i]).length) (ys := bysL (recZ l[i])) (p := bytR (.slice ar (recZ l[i]).length cr) (recZ l[i])) rfl rfl rfl el_125 (.inl ⟨_, Tryz.underlying125⟩) ze_5 rfl rfl ?hc12 ?hr13 ?hb14 (by decide)) ?_
  case hc12 => exact bysL_cell _
  case hr13 => exact fun h hp => slR_rd hp
  case hb14 => omega
  rintro v L' ⟨⟨a5, c5, rfl⟩, rfl⟩
  refine .a rfl (.nil (.blk_n (.then_n (.region (.q (.add rfl rfl (by omega)) rfl (.m rfl (.nt ?_)))))))
  rw [show (laidZ (l.take i)).length + (recZ l[i]).length = (laidZ (l.take (i + 1))).length by rw [laidZ_succ hi2, List.length_append], show bysL (laidZ (l.take i)) ++ bysL (recZ l[i]) = bysL (laidZ (l.take (i + 1))) by rw [laidZ_succ hi2, bysL_append]]
  exact .rk ((i + 1, .slice a5 (laidZ (l.take (i + 1))).length c5)) (⟨by dsimp only; omega, _, _, rfl⟩) (by dsimp only; omega) ⟨rfl, rfl, rfl, rfl, rfl, trivial⟩
 have hi3 : i = l.length := by omega
 subst hi3
 rw [List.take_length]
 refine .exit (.then_e (.then_e (.blk_e (.then_n (.sm rfl (.an rfl (.ret ?_)))))))
 exact .dn rfl rfl ⟨⟨_, _, rfl⟩, rfl⟩
theorem sector_spec (m : Mk) : Fn Tryz.prog 95 #[.agg (mkC m).toArray] [] fun v L => v = vstr m.sec ∧ L = [] := by
 refine Fn.intro Tryz.func95 rfl rfl fun F W => ?_
 obtain ⟨p0, p1, p2, p3, p4, p5, p6⟩ := m.pre_len
 refine .sr (.oq (.box rfl) ?_)
 rintro v L' ⟨bm, rfl, rfl⟩
 refine .an rfl (.sr (.oq (.make rfl rfl el_125 ze_5 rfl ⟨by simp, by simp; rfl⟩ ?hc4) ?_))
 case hc4 => omega
 rintro v L' ⟨b, rfl, rfl⟩; rw [show (64 : Int).toNat = 64 from rfl]
 refine .an rfl (.sm rfl (.oq (.copyS (s := [87, 77]) rfl rfl rfl el_125 ?h17 ?h28) ?_))
 case h17 => simp
 case h28 => exact nfz0 _ _
 rintro v L' ⟨rfl, rfl⟩
 refine .nil (.ptCast (l' := m.at 0 62) (by repeat' constructor) rfl (.then_n (.seq (.draw [4] [[0, 1, 2, 3, 4]] mixed (by kernel_rfl) (.g0 (.mv rfl rfl (.kv rfl (.to (v' := .slice (some ⟨b, 2, none⟩) 4 62) (.slSlice (i := 2) (j := 6) rfl el_125 (by exact rfl) (by exact rfl) (by decide)) rfl) (.kv rfl (.fieldAddr rfl fo_139_0) (.kv rfl (.ld rfl ag_3) (.hh rfl (.c Tryz.func150 [_, _] (big_spec b 2 4 62 m.count (m.at 0 62) _ (by decide) (by simp [Mk.at, bysL_len, p0]))) ?_))))))))))
 rintro v L' ⟨rfl, rfl⟩
 refine D.ph (.fin (.ptCast (l' := m.at 1 58) (by repeat' constructor) (by have := m.at_step (j := 0) (k := 62) (off := 2) (q := beB m.count 4) p0.symm rfl (by simp [beB_len]); rw [beB_len] at this; exact this) (.then_n (.seq (.draw [4] [[0, 1, 2, 3, 4]] mixed (by kernel_rfl) (.g0 (.mv rfl rfl (.kv rfl (.to (v' := .slice (some ⟨b, 6, none⟩) 1 58) (.slSlice (i := 6) (j := 7) rfl el_125 (by exact rfl) (by exact rfl) (by decide)) rfl) (.kv rfl (.fieldAddr rfl fo_139_1) (.kv rfl (.ld rfl ag_3) (.hh rfl (.c Tryz.func150 [_, _] (big_spec b 6 1 58 m.area (m.at 1 58) _ (by decide) (by simp [Mk.at, bysL_len, p1]))) ?_)))))))))))
 rintro v L' ⟨rfl, rfl⟩
 refine D.ph (.fin (.ptCast (l' := m.at 2 57) (by repeat' constructor) (by have := m.at_step (j := 1) (k := 58) (off := 6) (q := beB m.area 1) p1.symm rfl (by simp [beB_len]); rw [beB_len] at this; exact this) (.then_n (.seq (.draw [4] [[0, 1, 2, 3, 4]] mixed (by kernel_rfl) (.g0 (.mv rfl rfl (.kv rfl (.to (v' := .slice (some ⟨b, 7, none⟩) 4 57) (.slSlice (i := 7) (j := 11) rfl el_125 (by exact rfl) (by exact rfl) (by decide)) rfl) (.kv rfl (.fieldAddr rfl fo_139_2) (.kv rfl (.ld rfl ag_3) (.hh rfl (.c Tryz.func150 [_, _] (big_spec b 7 4 57 m.len (m.at 2 57) _ (by decide) (by simp [Mk.at, bysL_len, p2]))) ?_)))))))))))
 rintro v L' ⟨rfl, rfl⟩
 refine D.ph (.fin (.ptCast (l' := m.at 3 53) (by repeat' constructor) (by have := m.at_step (j := 2) (k := 57) (off := 7) (q := beB m.len 4) p2.symm rfl (by simp [beB_len]); rw [beB_len] at this; exact this) (.then_n (.seq (.draw [4] [[0, 1, 2, 3, 4]] mixed (by kernel_rfl) (.g0 (.mv rfl rfl (.kv rfl (.to (v' := .slice (some ⟨b, 11, none⟩) 4 53) (.slSlice (i := 11) (j := 15) rfl el_125 (by exact rfl) (by exact rfl) (by decide)) rfl) (.kv rfl (.fieldAddr rfl fo_139_3) (.kv rfl (.ld rfl ag_3) (.hh rfl (.c Tryz.func150 [_, _] (big_spec b 11 4 53 m.num (m.at 3 53) _ (by decide) (by simp [Mk.at, bysL_len, p3]))) ?_)))))))))))
 rintro v L' ⟨rfl, rfl⟩
 refine D.ph (.fin (.ptCast (l' := m.at 4 49) (by repeat' constructor) (by have := m.at_step (j := 3) (k := 53) (off := 11) (q := beB m.num 4) p3.symm rfl (by simp [beB_len]); rw [beB_len] at this; exact this) (.then_n (.seq (.draw [4] [[0, 1, 2, 3, 4]] mixed (by kernel_rfl) (.g0 (.mv rfl rfl (.kv rfl (.to (v' := .slice (some ⟨b, 15, none⟩) 8 49) (.slSlice (i := 15) (j := 23) rfl el_125 (by exact rfl) (by exact rfl) (by decide)) rfl) (.kv rfl (.fieldAddr rfl fo_139_4) (.kv rfl (.ld rfl ag_3) (.hh rfl (.c Tryz.func150 [_, _] (big_spec b 15 8 49 m.a (m.at 4 49) _ (by decide) (by simp [Mk.at, bysL_len, p4]))) ?_)))))))))))
 rintro v L' ⟨rfl, rfl⟩
 refine D.ph (.fin (.ptCast (l' := m.at 5 41) (by repeat' constructor) (by have := m.at_step (j := 4) (k := 49) (off := 15) (q := beB m.a 8) p4.symm rfl (by simp [beB_len]); rw [beB_len] at this; exact this) (.then_n (.seq (.draw [4] [[0, 1, 2, 3, 4]] mixed (by kernel_rfl) (.g0 (.mv rfl rfl (.kv rfl (.to (v' := .slice (some ⟨b, 23, none⟩) 8 41) (.slSlice (i := 23) (j := 31) rfl el_125 (by exact rfl) (by exact rfl) (by decide)) rfl) (.kv rfl (.fieldAddr rfl fo_139_5) (.kv rfl (.ld rfl ag_3) (.hh rfl (.c Tryz.func150 [_, _] (big_spec b 23 8 41 m.b (m.at 5 41) _ (by decide) (by simp [Mk.at, bysL_len, p5]))) ?_)))))))))))
 rintro v L' ⟨rfl, rfl⟩
 refine D.ph (.fin (.ptCast (l' := m.at 6 33) (by repeat' constructor) (by have := m.at_step (j := 5) (k := 41) (off := 23) (q := beB m.b 8) p5.symm rfl (by simp [beB_len]); rw [beB_len] at this; exact this) (.then_n (.seq (.draw [4] [[0, 1, 2, 3, 4]] mixed (by kernel_rfl) (.g0 (.mv rfl rfl (.kv rfl (.to (v' := .slice (some ⟨b, 60, none⟩) 4 4) (.slSlice (i := 60) (j := 64) rfl el_125 (by exact rfl) (by exact rfl) (by decide)) rfl) (.kv rfl (.fieldAddr rfl fo_139_0) (.kv rfl (.ld rfl ag_3) (.hh rfl (.c Tryz.func150 [_, _] (big_spec b 60 4 4 m.count (m.at 6 33) _ (by decide) (by simp [Mk.at, bysL_len, p6]))) ?_)))))))))))
 rintro v L' ⟨rfl, rfl⟩
 refine D.ph (.fin (.ptCast (l' := bysL m.sec) (by repeat' constructor) m.at_end (.then_n (.sm rfl (.q (.bytesPt (cs := m.sec) rfl Tryz.underlying125 Tryz.underlying5 Tryz.underlying9 (by repeat' constructor) (by rw [List.drop_zero]; exact List.take_of_length_le (by simp [bysL_len, m.sec_len])) (by simp [bysL_len, m.sec_len]) (by decide)) rfl (.an rfl (.ret ?_)))))))
 exact .vv
theorem half_spec (d : Nat) (δ : Dk) (hn : 2 ≤ δ.now.length ∧ δ.now.length ≤ 32768) : Fn Tryz.prog 109 #[vptr d] [dkR d δ] fun v L => v = vint (halfZ δ) ∧ L = [dkR d δ] := by
 refine Fn.intro Tryz.func109 rfl rfl fun F W => ?_
 refine .sr (.an rfl (.sm rfl (.cv Tryz.func90 [_] (size_spec d δ) ?_)))
 refine .q (.sub rfl rfl (by omega)) rfl (.q (.quoE rfl rfl (by omega) (by omega)) rfl (.an rfl (.ret ?_)))
 exact .vv
def sub (s : Bs) (i j : Nat) : Bs := (s.take j).drop i
def parseZ (s : Bs) : Mk := ⟨smallZ (sub s 2 6), smallZ (sub s 6 7), smallZ (sub s 7 11), smallZ (sub s 11 15), smallZ (sub s 15 23), smallZ (sub s 23 31)⟩
def mk0 : Mk := ⟨0, 0, 0, 0, 0, 0⟩
def badMk (δ : Dk) (n : Int) (s : Bs) (m : Mk) : Prop := m.count < 1 ∨ m.count % 2 ≠ n ∨ m.area > 1 ∨ m.len > 64 * halfZ δ ∨ m.a < 0 ∨ m.b < 0 ∨ s ≠ m.sec
instance (δ : Dk) (n : Int) (s : Bs) (m : Mk) : Decidable (badMk δ n s m) := inferInstanceAs (Decidable (_ ∨ _))
def foundZ (δ : Dk) (n : Int) : Option Mk := if (δ.read n).2 ≠ 0 then none else if badMk δ n (δ.read n).1 (parseZ (δ.read n).1) then none else some (parseZ (δ.read n).1)
def markV (o : Option Mk) : Value := .tuple #[.agg (mkC (o.getD mk0)).toArray, .bool o.isSome]
theorem read_len {δ : Dk} (h : δ.Ok) {n : Int} (he : (δ.read n).2 = 0) : (δ.read n).1.length = 64 := by
 unfold Dk.read at he ⊢
 split
 ·rename_i hd; rw [if_pos hd] at he; cases he
 ·rename_i hd
  rw [if_neg hd] at he
  split
  ·rename_i hh; rw [if_pos hh] at he; cases he
  ·rename_i hh
   have hh' : δ.has n = true := by simpa using hh
   obtain ⟨h0, h1, h2⟩ := has_lt hh'
   have e : δ.now.getD n.toNat [] = δ.now[n.toNat] := by simp [h2]
   rw [e]; exact h.sec _ (List.getElem_mem _)
theorem getD_mem64' {l : List (List UInt8)} (h : ∀ s ∈ l, s.length = 64) {i : Nat} (hi : i < l.length) : (l.getD i []).length = 64 := by
 have : l.getD i [] = l[i] := by simp [hi]
 rw [this]; exact h _ (List.getElem_mem _)
def partF : Nat → Bs → List Bs → Int → Option (List Bs)
 | 0, _, _, _ => none
 | f + 1, s, out, num =>
  if s = [] then (if (out.length : Int) = num then some out else none)
  else if (out.length : Int) = num ∨ s.length < 6 then none
  else if smallZ (s.take 2) > 4000 ∨ smallZ (s.take 2) + 6 > s.length then none
  else if s.take ((smallZ (s.take 2)).toNat + 6) ≠ recZ (sub s 2 ((smallZ (s.take 2)).toNat + 2)) then none
  else partF f (s.drop ((smallZ (s.take 2)).toNat + 6)) (out ++ [sub s 2 ((smallZ (s.take 2)).toNat + 2)]) num
def partZ (s : Bs) (num : Int) : Option (List Bs) := partF (s.length + 1) s [] num
theorem beZ_nonneg : ∀ (s : Bs) (n : Int), 0 ≤ n → 0 ≤ beZ s n := by
 intro s
 induction s with
 | nil => intro n h; exact h
 | cons c s ih => intro n h; exact ih _ (by omega)
theorem beZ_lt : ∀ (s : Bs) (n : Int), 0 ≤ n → beZ s n < (n + 1) * 256 ^ s.length := by
 intro s
 induction s with
 | nil => intro n h; simp [beZ]; omega
 | cons c s ih =>
  intro n h
  have hc : c.toNat < 256 := c.toNat_lt
  have h1 := ih (n * 256 + c.toNat) (by omega)
  simp only [beZ, List.length_cons]
  refine Int.lt_of_lt_of_le h1 ?_
  rw [Int.pow_succ, Int.mul_comm (256 ^ s.length) 256, ← Int.mul_assoc]
  exact Int.mul_le_mul_of_nonneg_right (by omega) (Int.le_of_lt (Int.pow_pos (by decide)))
theorem smallZ_nonneg {s : Bs} (h : s.length ≤ 7) : 0 ≤ smallZ s ∧ smallZ s < 256 ^ s.length ∧ smallZ s = beZ s 0 := by
 have h0 := beZ_nonneg s 0 (by omega)
 have h1 := beZ_lt s 0 (by omega)
 have h2 : ∀ k, k ≤ 7 → (256 : Int) ^ k ≤ 72057594037927936 := by decide
 have h2 := h2 _ h
 have e : smallZ s = beZ s 0 := i64w (by omega)
 rw [e]; omega
theorem sub_len {s : Bs} {i j : Nat} (h : j ≤ s.length) : (sub s i j).length = j - i := by simp [sub]; omega
structure Wl where
 recs : List Bs
 synced : Int
 area : Int
 count : Int
 a : Int
 b : Int
 doubt : Bool
def areaZ (δ : Dk) (area : Int) (n : Nat) : Bs := (List.range n).flatMap fun i : Nat => δ.now.getD (2 + area * halfZ δ + (i : Int)).toNat []
def bestZ (δ : Dk) : Option Mk :=
 match foundZ δ 0, foundZ δ 1 with
 | some m, some k => some (if k.count > m.count then k else m)
 | some m, none => some m
 | none, o => o
def bytesZ (δ : Dk) (m : Mk) : Bs := (areaZ δ m.area ((m.len.toNat + 63) / 64)).take m.len.toNat
def openZ (δ : Dk) : Option Wl :=
  match bestZ δ with
  | none => none
  | some m => match partZ (bytesZ δ m) m.num with
    | none => none
    | some l => some ⟨l, l.length, m.area, m.count, m.a, m.b, false⟩
def wlR (x d : Nat) (ω : Wl) : HP := fun h => ∃ v : Value × Value, sep [ptc x [vptr d, v.1, vint ω.synced, v.2, vint ω.area, vint ω.count, vint ω.a, vint ω.b, .bool ω.doubt] 142, strR v.1 ω.recs, bytR v.2 (laidZ ω.recs)] h
structure MkI (δ : Dk) (m : Mk) : Prop where
 count : 1 ≤ m.count ∧ m.count ≤ 4294967295
 area : 0 ≤ m.area ∧ m.area ≤ 1
 len : 0 ≤ m.len ∧ m.len ≤ 64 * halfZ δ
 num : 0 ≤ m.num ∧ m.num ≤ 4294967295
 a : 0 ≤ m.a ∧ m.a ≤ 9223372036854775807
 b : 0 ≤ m.b ∧ m.b ≤ 9223372036854775807
theorem small4 {s : Bs} {i j : Nat} (h : j ≤ s.length) (hk : j - i = 4) : 0 ≤ smallZ (sub s i j) ∧ smallZ (sub s i j) ≤ 4294967295 := by
 have hl := sub_len (i := i) h
 obtain ⟨h1, h2, -⟩ := smallZ_nonneg (s := sub s i j) (by omega)
 rw [hl, hk] at h2
 have e : (256 : Int) ^ 4 = 4294967296 := rfl
 omega
theorem smallZ_i64 (s : Bs) : -9223372036854775808 ≤ smallZ s ∧ smallZ s ≤ 9223372036854775807 := by unfold smallZ; rw [wrap64]; omega
theorem foundZ_some {δ : Dk} (hok : δ.Ok) {n : Int} {m : Mk} (h : foundZ δ n = some m) : MkI δ m ∧ m.count % 2 = n ∧ (δ.read n).1 = m.sec ∧ (δ.read n).2 = 0 := by
 unfold foundZ at h
 by_cases h0 : (δ.read n).2 ≠ 0
 ·rw [if_pos h0] at h; cases h
 ·rw [if_neg h0] at h
  have h0' : (δ.read n).2 = 0 := by simpa using h0
  by_cases hb : badMk δ n (δ.read n).1 (parseZ (δ.read n).1)
  ·rw [if_pos hb] at h; cases h
  ·rw [if_neg hb] at h
   have hl := read_len hok h0'
   generalize (δ.read n).1 = s at *
   have h := Option.some.inj h
   unfold badMk at hb
   simp only [not_or] at hb
   obtain ⟨b1, b2, b3, b4, b5, b6, b7⟩ := hb
   have q1 := small4 (s := s) (i := 2) (j := 6) (by omega) rfl
   have q3 := small4 (s := s) (i := 7) (j := 11) (by omega) rfl
   have q4 := small4 (s := s) (i := 11) (j := 15) (by omega) rfl
   have q2 := (smallZ_nonneg (s := sub s 6 7) (by rw [sub_len (by omega)]; decide)).1
   have q5 := smallZ_i64 (sub s 15 23)
   have q6 := smallZ_i64 (sub s 23 31)
   subst h
   simp only [parseZ] at *
   have c1 : smallZ (sub s 6 7) ≤ 1 := by omega
   have c2 : smallZ (sub s 7 11) ≤ 64 * halfZ δ := by omega
   have c3 : 1 ≤ smallZ (sub s 2 6) := by omega
   have c4 : 0 ≤ smallZ (sub s 15 23) := by omega
   have c5 : 0 ≤ smallZ (sub s 23 31) := by omega
   have c6 : smallZ (sub s 2 6) % 2 = n := by omega
   exact ⟨⟨⟨c3, q1.2⟩, ⟨q2, c1⟩, ⟨q3.1, c2⟩, q4, ⟨c4, q5.2⟩, ⟨c5, q6.2⟩⟩, c6, by simpa using b7, h0'⟩
theorem bestZ_some {δ : Dk} (hok : δ.Ok) {m : Mk} (h : bestZ δ = some m) : MkI δ m := by
 unfold bestZ at h
 rcases h0 : foundZ δ 0 with _ | m0 <;> rcases h1 : foundZ δ 1 with _ | m1 <;> rw [h0, h1] at h
 ·cases h
 ·cases h; exact (foundZ_some hok h1).1
 ·cases h; exact (foundZ_some hok h0).1
 ·simp only [Option.some.injEq] at h
  split at h
  ·subst h; exact (foundZ_some hok h1).1
  ·subst h; exact (foundZ_some hok h0).1
theorem areaZ_succ (δ : Dk) (area : Int) (i : Nat) : areaZ δ area (i + 1) = areaZ δ area i ++ δ.now.getD (2 + area * halfZ δ + (i : Int)).toNat [] := by
 unfold areaZ; rw [List.range_succ, List.flatMap_append]; simp
theorem area_idx {δ : Dk} (hn : 2 ≤ δ.now.length) {area : Int} (ha : 0 ≤ area ∧ area ≤ 1) {i : Nat} (hi : (i : Int) < halfZ δ) : 0 ≤ 2 + area * halfZ δ + i ∧ 2 + area * halfZ δ + i < δ.now.length := by
 unfold halfZ at *
 rcases (by omega : area = 0 ∨ area = 1) with rfl | rfl <;> omega
theorem areaZ_len {δ : Dk} (hok : δ.Ok) (hn : 2 ≤ δ.now.length) {area : Int} (ha : 0 ≤ area ∧ area ≤ 1) : ∀ i : Nat, (i : Int) ≤ halfZ δ → (areaZ δ area i).length = 64 * i := by
 intro i
 induction i with
 | zero => intro _; rfl
 | succ i ih =>
  intro hi
  have h1 := area_idx hn ha (i := i) (by omega)
  rw [areaZ_succ, List.length_append, ih (by omega), getD_mem64' hok.sec (by omega)]; omega
theorem area_read {δ : Dk} (hd : δ.dead = false) (hn : 2 ≤ δ.now.length) {area : Int} (ha : 0 ≤ area ∧ area ≤ 1) {i : Nat} (hi : (i : Int) < halfZ δ) : δ.read (2 + area * halfZ δ + i) = (δ.now.getD (2 + area * halfZ δ + (i : Int)).toNat [], 0) := by
 have h1 := area_idx hn ha hi
 have h2 : δ.has (2 + area * halfZ δ + i) = true := by simp only [Dk.has, Bool.and_eq_true, decide_eq_true_eq]; exact h1
 unfold Dk.read
 rw [hd, h2]; rfl
def secs (m : Mk) : Nat := (m.len.toNat + 63) / 64
def openB (δ : Dk) (m : Mk) : Option Wl := match partZ (bytesZ δ m) m.num with
 | none => none
 | some l => some ⟨l, l.length, m.area, m.count, m.a, m.b, false⟩
theorem openZ_none {δ : Dk} (h : bestZ δ = none) : openZ δ = none := by unfold openZ; rw [h]
theorem openZ_some {δ : Dk} {m : Mk} (h : bestZ δ = some m) : openZ δ = openB δ m := by unfold openZ; rw [h]; rfl
theorem bytesZ_len {δ : Dk} (hok : δ.Ok) (hn : 2 ≤ δ.now.length) {m : Mk} (hm : MkI δ m) : (areaZ δ m.area (secs m)).length = 64 * secs m ∧ m.len.toNat ≤ 64 * secs m ∧ (bytesZ δ m).length = m.len.toNat ∧ (secs m : Int) ≤ halfZ δ := by
 have h1 := hm.len
 have hs : (secs m : Int) ≤ halfZ δ := by unfold secs; omega
 have h2 := areaZ_len hok hn hm.area (secs m) hs
 have h3 : m.len.toNat ≤ 64 * secs m := by unfold secs; omega
 refine ⟨h2, h3, ?_, hs⟩
 show ((areaZ δ m.area (secs m)).take m.len.toNat).length = _
 rw [List.length_take, h2]; omega
theorem partF_laid : ∀ (f : Nat) (s : Bs) (out : List Bs) (num : Int) (l : List Bs), partF f s out num = some l → laidZ l = laidZ out ++ s ∧ (l.length : Int) = num := by
 intro f
 induction f with
 | zero => intro s out num l h; cases h
 | succ f ih =>
  intro s out num l h
  simp only [partF] at h
  by_cases h0 : s = []
  ·subst h0
   simp only [if_true] at h
   split at h
   ·rename_i hq; cases h; exact ⟨by simp, hq⟩
   ·cases h
  ·rw [if_neg h0] at h
   by_cases h1 : (out.length : Int) = num ∨ s.length < 6
   ·rw [if_pos h1] at h; cases h
   ·rw [if_neg h1] at h
    by_cases h2 : smallZ (s.take 2) > 4000 ∨ smallZ (s.take 2) + 6 > s.length
    ·rw [if_pos h2] at h; cases h
    ·rw [if_neg h2] at h
     by_cases h3 : s.take ((smallZ (s.take 2)).toNat + 6) ≠ recZ (sub s 2 ((smallZ (s.take 2)).toNat + 2))
     ·rw [if_pos h3] at h; cases h
     ·rw [if_neg h3] at h
      have h3 := Decidable.not_not.1 h3
      obtain ⟨q1, q2⟩ := ih _ _ _ _ h
      refine ⟨?_, q2⟩
      rw [q1, laidZ_append]
      have e : laidZ [sub s 2 ((smallZ (s.take 2)).toNat + 2)] = recZ (sub s 2 ((smallZ (s.take 2)).toNat + 2)) := by simp [laidZ]
      rw [e, ← h3, List.append_assoc, List.take_append_drop]
theorem partZ_laid {s : Bs} {num : Int} {l : List Bs} (h : partZ s num = some l) : laidZ l = s ∧ (l.length : Int) = num := by
 have := partF_laid _ _ _ _ _ h
 simpa [laidZ] using this
section
variable {W : World} {n : Nat} {ds : List Deferred} {E : Env} {L R : List HP} {X : Act → World → Prop}
theorem G.wlOpen {x d : Nat} {ω : Wl} (hL : Pick (wlR x d ω) L R) (h : ∀ vr vb, G W n ds E (ptc x [vptr d, vr, vint ω.synced, vb, vint ω.area, vint ω.count, vint ω.a, vint ω.b, .bool ω.doubt] 142 :: strR vr ω.recs :: bytR vb (laidZ ω.recs) :: R) X) : G W n ds E L X :=
 G.focus hL (G.open (q := fun v : Value × Value => [ptc x [vptr d, v.1, vint ω.synced, v.2, vint ω.area, vint ω.count, vint ω.a, vint ω.b, .bool ω.doubt] 142, strR v.1 ω.recs, bytR v.2 (laidZ ω.recs)]) (φ := fun _ => True) (fun h hp => by obtain ⟨v, hv⟩ := hp; exact ⟨v, trivial, hv⟩) fun v _ => h v.1 v.2)
theorem G.wlFold {x d m k : Nat} {ω : Wl} {vr vb : Value} {l ys zs : List Value} (hL : Picks [ptc x l 142, slR 9 1 vr m ys, slR 5 1 vb k zs] L R) (h0 : l = [vptr d, vr, vint ω.synced, vb, vint ω.area, vint ω.count, vint ω.a, vint ω.b, .bool ω.doubt])
  (h1 : m = ω.recs.length) (h2 : ys = strs ω.recs) (h3 : k = (laidZ ω.recs).length) (h4 : zs = bysL (laidZ ω.recs)) (h : G W n ds E (wlR x d ω :: R) X) : G W n ds E L X := by
 subst h0; subst h1; subst h2; subst h3; subst h4
 exact G.fold hL (fun _ hp => ⟨(vr, vb), hp⟩) h
end
theorem found_spec (d : Nat) (δ : Dk) (n : Int) (hn : 2 ≤ δ.now.length ∧ δ.now.length ≤ 32768) (hok : δ.Ok) : Fn Tryz.prog 112 #[vptr d, vint n] [dkR d δ] fun v L => v = markV (foundZ δ n) ∧ L = [dkR d δ] := by
 refine Fn.intro Tryz.func112 rfl rfl fun F W => ?_
 generalize hrd : δ.read n = rd
 refine .sr (.oq (.allocA ze_139) ?_)
 rintro v L' ⟨bm, rfl, rfl⟩
 refine .an rfl (.sm rfl (.m rfl (.oq (.c Tryz.func91 [_, _] (read_spec d δ n)) ?_)))
 rintro v L' ⟨rfl, rfl⟩; rw [hrd]
 refine .m rfl (.u (.extract rfl rfl) (.u (.extract rfl rfl) (.a rfl (.an rfl (.seq (.sm rfl (.ui rfl rfl rfl (.nt (.condN rfl (fun h16 => ?_) (fun h16 => ?_))))))))))
 ·refine .sr (.q (.build (us := []) fl_139 ze_139 rfl rfl (by simp [isCell])) rfl (.oq (.storeA rfl rfl ?c12 sz_139 ?c15 ?c13 (nfz0 _ _)) ?_))
  case c12 => (first | (simp [isCell]; done) | (simp [isCell, setAll, Value.cells]; done))
  case c15 => (first | (simp; done) | (simp [setAll, spl, Value.cells]; done))
  case c13 => (first | (simp; done) | (simp [setAll, spl, Value.cells]; done))
  rintro v L' rfl
  refine .an rfl (.rt ?_)
  have e : foundZ δ n = none := by unfold foundZ; rw [if_pos (by rw [hrd]; simpa using h16)]
  rw [e]
  exact .d2 rfl (.cellA rfl ag_139 (by repeat' constructor) (by simp [spl, setAll, mkC]) rfl) (.tmp rfl) ⟨rfl, rfl⟩
 refine .sk (.seq ?_)
 have hl : rd.1.length = 64 := by rw [← hrd]; exact read_len hok (by rw [hrd]; simpa using h16)
 generalize hs : rd.1 = s at *
 refine .draw [19, 20] [[0, 1, 2, 3, 4, 5, 6, 7, 8, 9, 10, 11, 12, 13, 14, 15, 16, 17, 18, 19], [20]] mixed (by kernel_rfl) (.g0 (.k rfl (.move rfl) (.k rfl (.to (v' := vstr (sub s 2 6)) (.strMid (i := 2) (j := 6) rfl rfl rfl Tryz.underlying9 (by omega)) rfl) (.m rfl (by kernel_rfl) (.c Tryz.func159 [_] (small_spec (sub s 2 6) ?hs19)) (by repeat' constructor) ?_))))
 case hs19 => rw [sub_len (by omega)]; decide
 refine D.k rfl (.move rfl) (.k rfl (.to (v' := vstr (sub s 6 7)) (.strMid (i := 6) (j := 7) rfl rfl rfl Tryz.underlying9 (by omega)) rfl) (.m rfl (by kernel_rfl) (.c Tryz.func159 [_] (small_spec (sub s 6 7) ?hs23)) (by repeat' constructor) ?_))
 case hs23 => rw [sub_len (by omega)]; decide
 refine D.k rfl (.move rfl) (.k rfl (.to (v' := vstr (sub s 7 11)) (.strMid (i := 7) (j := 11) rfl rfl rfl Tryz.underlying9 (by omega)) rfl) (.m rfl (by kernel_rfl) (.c Tryz.func159 [_] (small_spec (sub s 7 11) ?hs27)) (by repeat' constructor) ?_))
 case hs27 => rw [sub_len (by omega)]; decide
 refine D.k rfl (.move rfl) (.k rfl (.to (v' := vstr (sub s 11 15)) (.strMid (i := 11) (j := 15) rfl rfl rfl Tryz.underlying9 (by omega)) rfl) (.m rfl (by kernel_rfl) (.c Tryz.func159 [_] (small_spec (sub s 11 15) ?hs31)) (by repeat' constructor) ?_))
 case hs31 => rw [sub_len (by omega)]; decide
 refine D.k rfl (.move rfl) (.k rfl (.to (v' := vstr (sub s 15 23)) (.strMid (i := 15) (j := 23) rfl rfl rfl Tryz.underlying9 (by omega)) rfl) (.m rfl (by kernel_rfl) (.c Tryz.func159 [_] (small_spec (sub s 15 23) ?hs35)) (by repeat' constructor) ?_))
 case hs35 => rw [sub_len (by omega)]; decide
 refine D.k rfl (.move rfl) (.k rfl (.to (v' := vstr (sub s 23 31)) (.strMid (i := 23) (j := 31) rfl rfl rfl Tryz.underlying9 (by omega)) rfl) (.m rfl (by kernel_rfl) (.c Tryz.func159 [_] (small_spec (sub s 23 31) ?hs39)) (by repeat' constructor) ?_))
 case hs39 => rw [sub_len (by omega)]; decide
 refine D.k rfl (.build (us := [(0, _), (1, _), (2, _), (3, _), (4, _), (5, _)]) fl_139 ze_139 rfl rfl (by simp [isCell])) (.hh rfl (.allocA ze_139) ?_)
 rintro v L' ⟨b8, rfl, rfl⟩
 refine D.ph (.g0 (.hh rfl (.storeA rfl rfl ?c45 sz_139 ?c48 ?c46 (nfz0 _ _)) ?_))
 case c45 => (first | (simp [isCell]; done) | (simp [isCell, setAll, Value.cells]; done))
 case c48 => (first | (simp; done) | (simp [setAll, spl, Value.cells]; done))
 case c46 => (first | (simp; done) | (simp [setAll, spl, Value.cells]; done))
 rintro v L' rfl
 refine D.ph (.fin (.ptCast (l' := mkC (parseZ s)) (by repeat' constructor) rfl ?_))
 have hu0 := smallZ_nonneg (s := sub s 7 11) (by rw [sub_len (by omega)]; decide)
 generalize hm : parseZ s = m
 have hln : 0 ≤ m.len := by rw [← hm]; exact hu0.1
 refine .then_n (.seq (.seq (.draw [] [[0, 1, 2, 3, 4, 5, 6, 7, 8, 9, 10, 11, 12, 13, 14, 15, 16, 17, 18, 19, 20, 21, 22, 23, 24, 25, 26, 27, 28, 29, 30, 31, 32, 33, 34, 35, 36, 37, 38]] mixed (by kernel_rfl) (.go [ptc b8 _ _, dkR d δ] (by repeat' constructor) (.kv rfl (.fieldAddr rfl fo_139_0) (.kv rfl (.ld rfl ag_3) (.kv rfl (.int rfl rfl rfl) (.mv rfl rfl (.dec (t := 40) rfl (fun h5_40 => ?_) (fun h5_40 => ?_))))))))))
 ·refine D.kDT (t := 39) rfl h5_40 (.gz rfl (.gz rfl (.gz rfl (.gz rfl (.gz rfl (.kv rfl (.pickT rfl rfl) (.mv rfl rfl (.gz rfl (.gz rfl (.gz rfl (.kv rfl (.pickT rfl rfl) (.mv rfl rfl (.gz rfl (.gz rfl (.gz rfl (.gz rfl (.gz rfl (.gz rfl (.kv rfl (.pickT rfl rfl) (.mv rfl rfl (.gz rfl (.gz rfl (.gz rfl (.kv rfl (.pickT rfl rfl) (.mv rfl rfl (.gz rfl (.gz rfl (.gz rfl (.kv rfl (.pickT rfl rfl) (.mv rfl rfl (.gz rfl (.gz rfl (.gz rfl (.gz rfl (.kv rfl (.pickT rfl rfl) (.pf (.condT rfl (.sr (.q (.build (us := []) fl_139 ze_139 rfl rfl (by simp [isCell])) rfl (.oq (.storeA rfl rfl ?c60 sz_139 ?c63 ?c61 (nfz0 _ _)) ?_))))))))))))))))))))))))))))))))))))))))
  case c60 => (first | (simp [isCell]; done) | (simp [isCell, setAll, Value.cells]; done))
  case c63 => (first | (simp; done) | (simp [setAll, spl, Value.cells]; done))
  case c61 => (first | (simp; done) | (simp [setAll, spl, Value.cells]; done))
  rintro v L' rfl
  refine .an rfl (.rt ?_)
  have e : foundZ δ n = none := by unfold foundZ; rw [if_neg (by rw [hrd]; simpa using h16), if_pos (by rw [hrd, hs, hm]; unfold badMk; first | exact .inl h5_40 | (refine .inr ?_; first | exact .inl (by simpa using h5_47) | (refine .inr ?_; first | exact .inl h5_52 | (refine .inr ?_; first | exact .inl h5_60 | (refine .inr ?_; first | exact .inl h5_65 | (refine .inr ?_; first | exact .inl h5_70 | exact .inr (by simpa using h75)))))))]
  rw [e]
  exact .d2 rfl (.cellA rfl ag_139 (by repeat' constructor) (by simp [spl, setAll, mkC]) rfl) (.tmp rfl) ⟨rfl, rfl⟩
 refine D.kDF (t := 39) rfl h5_40 (.gv rfl (.fieldAddr rfl fo_139_0) (.gv rfl (.ld rfl ag_3) (.gv rfl (.remE rfl rfl (by omega) (by decide)) (.gv rfl (.move rfl) (.gv rfl (.int rfl rfl rfl) (.kv rfl (.pickF rfl rfl) (.mv rfl rfl (.ndec (t := 47) rfl (fun h5_47 => ?_) (fun h5_47 => ?_)))))))))
 ·refine D.kNT (t := 45) rfl h5_47 (.kNT (t := 46) rfl h5_47 (.gz rfl (.gz rfl (.gz rfl (.kv rfl (.pickT rfl rfl) (.mv rfl rfl (.gz rfl (.gz rfl (.gz rfl (.gz rfl (.gz rfl (.gz rfl (.kv rfl (.pickT rfl rfl) (.mv rfl rfl (.gz rfl (.gz rfl (.gz rfl (.kv rfl (.pickT rfl rfl) (.mv rfl rfl (.gz rfl (.gz rfl (.gz rfl (.kv rfl (.pickT rfl rfl) (.mv rfl rfl (.gz rfl (.gz rfl (.gz rfl (.gz rfl (.kv rfl (.pickT rfl rfl) (.pf (.condT rfl (.sr (.q (.build (us := []) fl_139 ze_139 rfl rfl (by simp [isCell])) rfl (.oq (.storeA rfl rfl ?c77 sz_139 ?c80 ?c78 (nfz0 _ _)) ?_))))))))))))))))))))))))))))))))))
  case c77 => (first | (simp [isCell]; done) | (simp [isCell, setAll, Value.cells]; done))
  case c80 => (first | (simp; done) | (simp [setAll, spl, Value.cells]; done))
  case c78 => (first | (simp; done) | (simp [setAll, spl, Value.cells]; done))
  rintro v L' rfl
  refine .an rfl (.rt ?_)
  have e : foundZ δ n = none := by unfold foundZ; rw [if_neg (by rw [hrd]; simpa using h16), if_pos (by rw [hrd, hs, hm]; unfold badMk; first | exact .inl h5_40 | (refine .inr ?_; first | exact .inl (by simpa using h5_47) | (refine .inr ?_; first | exact .inl h5_52 | (refine .inr ?_; first | exact .inl h5_60 | (refine .inr ?_; first | exact .inl h5_65 | (refine .inr ?_; first | exact .inl h5_70 | exact .inr (by simpa using h75)))))))]
  rw [e]
  exact .d2 rfl (.cellA rfl ag_139 (by repeat' constructor) (by simp [spl, setAll, mkC]) rfl) (.tmp rfl) ⟨rfl, rfl⟩
 refine D.kNF (t := 45) rfl h5_47 (.kNF (t := 46) rfl h5_47 (.gv rfl (.fieldAddr rfl fo_139_1) (.gv rfl (.ld rfl ag_3) (.gv rfl (.int rfl rfl rfl) (.kv rfl (.pickF rfl rfl) (.mv rfl rfl (.dec (t := 52) rfl (fun h5_52 => ?_) (fun h5_52 => ?_))))))))
 ·refine D.kDT (t := 50) rfl h5_52 (.kDT (t := 51) rfl h5_52 (.gz rfl (.gz rfl (.gz rfl (.gz rfl (.gz rfl (.gz rfl (.kv rfl (.pickT rfl rfl) (.mv rfl rfl (.gz rfl (.gz rfl (.gz rfl (.kv rfl (.pickT rfl rfl) (.mv rfl rfl (.gz rfl (.gz rfl (.gz rfl (.kv rfl (.pickT rfl rfl) (.mv rfl rfl (.gz rfl (.gz rfl (.gz rfl (.gz rfl (.kv rfl (.pickT rfl rfl) (.pf (.condT rfl (.sr (.q (.build (us := []) fl_139 ze_139 rfl rfl (by simp [isCell])) rfl (.oq (.storeA rfl rfl ?c91 sz_139 ?c94 ?c92 (nfz0 _ _)) ?_)))))))))))))))))))))))))))))
  case c91 => (first | (simp [isCell]; done) | (simp [isCell, setAll, Value.cells]; done))
  case c94 => (first | (simp; done) | (simp [setAll, spl, Value.cells]; done))
  case c92 => (first | (simp; done) | (simp [setAll, spl, Value.cells]; done))
  rintro v L' rfl
  refine .an rfl (.rt ?_)
  have e : foundZ δ n = none := by unfold foundZ; rw [if_neg (by rw [hrd]; simpa using h16), if_pos (by rw [hrd, hs, hm]; unfold badMk; first | exact .inl h5_40 | (refine .inr ?_; first | exact .inl (by simpa using h5_47) | (refine .inr ?_; first | exact .inl h5_52 | (refine .inr ?_; first | exact .inl h5_60 | (refine .inr ?_; first | exact .inl h5_65 | (refine .inr ?_; first | exact .inl h5_70 | exact .inr (by simpa using h75)))))))]
  rw [e]
  exact .d2 rfl (.cellA rfl ag_139 (by repeat' constructor) (by simp [spl, setAll, mkC]) rfl) (.tmp rfl) ⟨rfl, rfl⟩
 refine D.kDF (t := 50) rfl h5_52 (.kDF (t := 51) rfl h5_52 (.gv rfl (.fieldAddr rfl fo_139_2) (.gv rfl (.ld rfl ag_3) (.gv rfl (.move rfl) (.gm (t := 52) rfl rfl rfl (by kernel_rfl) (.c Tryz.func109 [_] (half_spec d δ hn)) (by repeat' constructor) ?_)))))
 refine D.gv rfl (.mul rfl rfl (by unfold halfZ; omega)) (.gv rfl (.int rfl rfl rfl) (.kv rfl (.pickF rfl rfl) (.mv rfl rfl (.dec (t := 60) rfl (fun h5_60 => ?_) (fun h5_60 => ?_)))))
 ·refine D.kDT (t := 58) rfl h5_60 (.kDT (t := 59) rfl h5_60 (.gz rfl (.gz rfl (.gz rfl (.kv rfl (.pickT rfl rfl) (.mv rfl rfl (.gz rfl (.gz rfl (.gz rfl (.kv rfl (.pickT rfl rfl) (.mv rfl rfl (.gz rfl (.gz rfl (.gz rfl (.gz rfl (.kv rfl (.pickT rfl rfl) (.pf (.condT rfl (.sr (.q (.build (us := []) fl_139 ze_139 rfl rfl (by simp [isCell])) rfl (.oq (.storeA rfl rfl ?c108 sz_139 ?c111 ?c109 (nfz0 _ _)) ?_)))))))))))))))))))))
  case c108 => (first | (simp [isCell]; done) | (simp [isCell, setAll, Value.cells]; done))
  case c111 => (first | (simp; done) | (simp [setAll, spl, Value.cells]; done))
  case c109 => (first | (simp; done) | (simp [setAll, spl, Value.cells]; done))
  rintro v L' rfl
  refine .an rfl (.rt ?_)
  have e : foundZ δ n = none := by unfold foundZ; rw [if_neg (by rw [hrd]; simpa using h16), if_pos (by rw [hrd, hs, hm]; unfold badMk; first | exact .inl h5_40 | (refine .inr ?_; first | exact .inl (by simpa using h5_47) | (refine .inr ?_; first | exact .inl h5_52 | (refine .inr ?_; first | exact .inl h5_60 | (refine .inr ?_; first | exact .inl h5_65 | (refine .inr ?_; first | exact .inl h5_70 | exact .inr (by simpa using h75)))))))]
  rw [e]
  exact .d2 rfl (.cellA rfl ag_139 (by repeat' constructor) (by simp [spl, setAll, mkC]) rfl) (.tmp rfl) ⟨rfl, rfl⟩
 refine D.kDF (t := 58) rfl h5_60 (.kDF (t := 59) rfl h5_60 (.gv rfl (.fieldAddr rfl fo_139_4) (.gv rfl (.ld rfl ag_3) (.gv rfl (.int rfl rfl rfl) (.kv rfl (.pickF rfl rfl) (.mv rfl rfl (.dec (t := 65) rfl (fun h5_65 => ?_) (fun h5_65 => ?_))))))))
 ·refine D.kDT (t := 63) rfl h5_65 (.kDT (t := 64) rfl h5_65 (.gz rfl (.gz rfl (.gz rfl (.kv rfl (.pickT rfl rfl) (.mv rfl rfl (.gz rfl (.gz rfl (.gz rfl (.gz rfl (.kv rfl (.pickT rfl rfl) (.pf (.condT rfl (.sr (.q (.build (us := []) fl_139 ze_139 rfl rfl (by simp [isCell])) rfl (.oq (.storeA rfl rfl ?c120 sz_139 ?c123 ?c121 (nfz0 _ _)) ?_))))))))))))))))
  case c120 => (first | (simp [isCell]; done) | (simp [isCell, setAll, Value.cells]; done))
  case c123 => (first | (simp; done) | (simp [setAll, spl, Value.cells]; done))
  case c121 => (first | (simp; done) | (simp [setAll, spl, Value.cells]; done))
  rintro v L' rfl
  refine .an rfl (.rt ?_)
  have e : foundZ δ n = none := by unfold foundZ; rw [if_neg (by rw [hrd]; simpa using h16), if_pos (by rw [hrd, hs, hm]; unfold badMk; first | exact .inl h5_40 | (refine .inr ?_; first | exact .inl (by simpa using h5_47) | (refine .inr ?_; first | exact .inl h5_52 | (refine .inr ?_; first | exact .inl h5_60 | (refine .inr ?_; first | exact .inl h5_65 | (refine .inr ?_; first | exact .inl h5_70 | exact .inr (by simpa using h75)))))))]
  rw [e]
  exact .d2 rfl (.cellA rfl ag_139 (by repeat' constructor) (by simp [spl, setAll, mkC]) rfl) (.tmp rfl) ⟨rfl, rfl⟩
 refine D.kDF (t := 63) rfl h5_65 (.kDF (t := 64) rfl h5_65 (.gv rfl (.fieldAddr rfl fo_139_5) (.gv rfl (.ld rfl ag_3) (.gv rfl (.int rfl rfl rfl) (.kv rfl (.pickF rfl rfl) (.mv rfl rfl (.dec (t := 70) rfl (fun h5_70 => ?_) (fun h5_70 => ?_))))))))
 ·refine D.kDT (t := 68) rfl h5_70 (.kDT (t := 69) rfl h5_70 (.gz rfl (.gz rfl (.gz rfl (.gz rfl (.kv rfl (.pickT rfl rfl) (.pf (.condT rfl (.sr (.q (.build (us := []) fl_139 ze_139 rfl rfl (by simp [isCell])) rfl (.oq (.storeA rfl rfl ?c131 sz_139 ?c134 ?c132 (nfz0 _ _)) ?_)))))))))))
  case c131 => (first | (simp [isCell]; done) | (simp [isCell, setAll, Value.cells]; done))
  case c134 => (first | (simp; done) | (simp [setAll, spl, Value.cells]; done))
  case c132 => (first | (simp; done) | (simp [setAll, spl, Value.cells]; done))
  rintro v L' rfl
  refine .an rfl (.rt ?_)
  have e : foundZ δ n = none := by unfold foundZ; rw [if_neg (by rw [hrd]; simpa using h16), if_pos (by rw [hrd, hs, hm]; unfold badMk; first | exact .inl h5_40 | (refine .inr ?_; first | exact .inl (by simpa using h5_47) | (refine .inr ?_; first | exact .inl h5_52 | (refine .inr ?_; first | exact .inl h5_60 | (refine .inr ?_; first | exact .inl h5_65 | (refine .inr ?_; first | exact .inl h5_70 | exact .inr (by simpa using h75)))))))]
  rw [e]
  exact .d2 rfl (.cellA rfl ag_139 (by repeat' constructor) (by simp [spl, setAll, mkC]) rfl) (.tmp rfl) ⟨rfl, rfl⟩
 refine D.kDF (t := 68) rfl h5_70 (.kDF (t := 69) rfl h5_70 (.gv rfl (.move rfl) (.gv rfl (.loadAs (vs := mkC m) rfl ag_139 (by repeat' constructor) (by simp [mkC]) rfl) (.gm (t := 70) rfl rfl rfl (by kernel_rfl) (.c Tryz.func95 [_] (sector_spec m)) (by repeat' constructor) ?_))))
 refine D.gv rfl (.strne rfl rfl) (.kv rfl (.pickF rfl rfl) (.pf (.condN rfl (fun h75 => ?_) (fun h75 => ?_))))
 ·refine .sr (.q (.build (us := []) fl_139 ze_139 rfl rfl (by simp [isCell])) rfl (.oq (.storeA rfl rfl ?c142 sz_139 ?c145 ?c143 (nfz0 _ _)) ?_))
  case c142 => (first | (simp [isCell]; done) | (simp [isCell, setAll, Value.cells]; done))
  case c145 => (first | (simp; done) | (simp [setAll, spl, Value.cells]; done))
  case c143 => (first | (simp; done) | (simp [setAll, spl, Value.cells]; done))
  rintro v L' rfl
  refine .an rfl (.rt ?_)
  have e : foundZ δ n = none := by unfold foundZ; rw [if_neg (by rw [hrd]; simpa using h16), if_pos (by rw [hrd, hs, hm]; unfold badMk; first | exact .inl h5_40 | (refine .inr ?_; first | exact .inl (by simpa using h5_47) | (refine .inr ?_; first | exact .inl h5_52 | (refine .inr ?_; first | exact .inl h5_60 | (refine .inr ?_; first | exact .inl h5_65 | (refine .inr ?_; first | exact .inl h5_70 | exact .inr (by simpa using h75)))))))]
  rw [e]
  exact .d2 rfl (.cellA rfl ag_139 (by repeat' constructor) (by simp [spl, setAll, mkC]) rfl) (.tmp rfl) ⟨rfl, rfl⟩
 refine .sk (.sr (.q (.loadAs (vs := mkC m) rfl ag_139 (by repeat' constructor) (by simp [mkC]) rfl) rfl (.oq (.storeA rfl rfl ?c149 sz_139 ?c152 ?c150 (nfz0 _ _)) ?_)))
 case c149 => simp [mkC, isCell]
 case c152 => simp [mkC]
 case c150 => simp [mkC]
 rintro v L' rfl
 refine .an rfl (.ret ?_)
 have e : foundZ δ n = some m := by unfold foundZ; rw [if_neg (by rw [hrd]; simpa using h16), if_neg (by rw [hrd, hs, hm]; unfold badMk; simp only [not_or]; refine ⟨?_, ?_, ?_, ?_, ?_, ?_, ?_⟩ <;> first | omega | simpa using h75)]; rw [hrd, hs, hm]
 rw [e]
 exact .d2 rfl (.cellA rfl ag_139 (by repeat' constructor) (by simp [spl, setAll, mkC]) rfl) (.tmp rfl) ⟨rfl, rfl⟩
theorem parted_spec (s : Bs) (num : Int) (hs : s.length ≤ 2147483648) : Fn Tryz.prog 114 #[vstr s, vint num] [] fun v L => (∃ l, partZ s num = some l ∧ (∃ a c, v = .tuple #[.slice a l.length c, .bool true] ∧ L = [strR (.slice a l.length c) l])) ∨ (partZ s num = none ∧ (∃ w, v = .tuple #[w, .bool false]) ∧ L = []) := by
 refine Fn.intro Tryz.func114 rfl rfl fun F W => ?_
 refine .sr (.a rfl (.an rfl (.sr (.an rfl (.seq (.block (.add (slR_nil 9 1) (.loopK (ι := Bs × (List Bs) × Nat × Value) (fun q E => (0, vstr q.1) :: (6, q.2.2.2) :: E) (fun q => [strR q.2.2.2 q.2.1]) (fun q => q.1.length < q.2.2.1 ∧ partF q.2.2.1 q.1 q.2.1 num = partZ s num ∧ q.2.1.length + q.1.length ≤ s.length ∧ ∃ a c, q.2.2.2 = .slice a q.2.1.length c) (fun q => q.1.length) (s, [], s.length + 1, .slice none 0 0) (ts := [1]) (.cons rfl (.nil)) (⟨Nat.lt_succ_self _, rfl, by simp, _, _, rfl⟩) ⟨rfl, rfl, rfl, trivial⟩ (by repeat' constructor) ?_))))))))
 rintro ⟨s2, out, f, u⟩ ⟨hf, hp, hle, au, cu, hu⟩
 dsimp only
 dsimp only at hf hp hle hu
 subst hu
 refine .seq (.sm rfl (.u (.strne rfl rfl) (.nt (.condN rfl (fun h10 => ?_) (fun h10 => ?_)))))
 ·obtain ⟨f, rfl⟩ : ∃ k, f = k + 1 := ⟨f - 1, by omega⟩
  simp only [partF] at hp
  rw [if_neg h10] at hp
  refine .sk (.block (.seq (.sm rfl (.q (.slen rfl Tryz.underlying46 rfl) rfl (.m rfl (.ui rfl rfl rfl (.m rfl (.dec (t := 15) rfl (fun h3_15 => ?_) (fun h3_15 => ?_)))))))))
  ·refine .kDT (t := 14) rfl h3_15 (.gk (.gk (.gk (.u (.pickT rfl rfl) (.nt (.condT rfl (.sr (.a rfl (.an rfl (.rt (.blk_r (.then_r (.blk_r (.then_r ?_))))))))))))))
   rw [if_pos (by first | exact .inl h3_15 | exact .inr (by omega))] at hp
   exact .dn rfl rfl (.inr ⟨hp.symm, ⟨_, rfl⟩, rfl⟩)
  refine .kDF (t := 14) rfl h3_15 (.grun (t := 15) rfl rfl rfl (.m rfl (.grun (t := 15) rfl rfl rfl (.q (.strlen rfl Tryz.underlying9 rfl) rfl (.grun (t := 15) rfl rfl rfl (.ui rfl rfl rfl (.u (.pickF rfl rfl) (.nt (.condD rfl (fun h19 => ?_) (fun h19 => ?_))))))))))
  ·refine .sr (.a rfl (.an rfl (.rt (.blk_r (.then_r (.blk_r (.then_r ?_)))))))
   rw [if_pos (by first | exact .inl h3_15 | exact .inr (by omega))] at hp
   exact .dn rfl rfl (.inr ⟨hp.symm, ⟨_, rfl⟩, rfl⟩)
  refine .sk (.seq ?_)
  have h6 : 6 ≤ s2.length := by omega
  rw [if_neg (by rintro (h | h) <;> omega)] at hp
  refine .region (.m rfl (.q (.to (v' := vstr (s2.take 2)) (.strTo (j := 2) rfl rfl Tryz.underlying9 (by omega)) rfl) rfl (.oq (.c Tryz.func159 [_] (small_spec (s2.take 2) ?hs20)) ?_)))
  case hs20 => rw [List.length_take]; omega
  rintro v L' ⟨rfl, rfl⟩
  refine .a rfl (.nil ?_)
  obtain ⟨hn0, hn1, -⟩ := smallZ_nonneg (s := s2.take 2) (by rw [List.length_take]; omega)
  generalize smallZ (s2.take 2) = n at *
  obtain ⟨k, rfl⟩ := Int.eq_ofNat_of_zero_le hn0
  simp only [Int.toNat_natCast] at hp
  have hn1 : k < 65536 := by rw [List.length_take, Nat.min_eq_left (by omega)] at hn1; have e : (256 : Int) ^ 2 = 65536 := rfl; omega
  refine .then_n (.seq (.sm rfl (.ui rfl rfl rfl (.m rfl (.dec (t := 25) rfl (fun h6_25 => ?_) (fun h6_25 => ?_))))))
  ·refine .kDT (t := 24) rfl h6_25 (.gk (.gk (.gk (.gk (.gk (.u (.pickT rfl rfl) (.nt (.condT rfl (.sr (.a rfl (.an rfl (.rt (.blk_r (.then_r (.blk_r (.then_r ?_))))))))))))))))
   rw [if_pos (by first | exact .inl h6_25 | exact .inr (by omega))] at hp
   exact .dn rfl rfl (.inr ⟨hp.symm, ⟨_, rfl⟩, rfl⟩)
  refine .kDF (t := 24) rfl h6_25 (.grun (t := 25) rfl rfl rfl (.m rfl (.grun (t := 25) rfl rfl rfl (.q (.add rfl rfl (by omega)) rfl (.grun (t := 25) rfl rfl rfl (.m rfl (.grun (t := 25) rfl rfl rfl (.q (.strlen rfl Tryz.underlying9 rfl) rfl (.grun (t := 25) rfl rfl rfl (.ui rfl rfl rfl (.u (.pickF rfl rfl) (.nt (.condD rfl (fun h31 => ?_) (fun h31 => ?_))))))))))))))
  ·refine .sr (.a rfl (.an rfl (.rt (.blk_r (.then_r (.blk_r (.then_r ?_)))))))
   rw [if_pos (by first | exact .inl h6_25 | exact .inr (by omega))] at hp
   exact .dn rfl rfl (.inr ⟨hp.symm, ⟨_, rfl⟩, rfl⟩)
  refine .sk (.seq ?_)
  have hk4 : k ≤ 4000 := by omega
  have hk6 : k + 6 ≤ s2.length := by omega
  rw [if_neg (by rintro (h | h) <;> omega)] at hp
  refine .region (.m rfl (.m rfl (.q (.add rfl rfl (by omega)) rfl (.q (.to (v' := vstr (sub s2 2 (k + 2))) (.strMid (i := 2) (j := (k : Int) + 2) rfl rfl rfl Tryz.underlying9 (by omega)) (by rw [show ((k : Int) + 2).toNat = k + 2 by omega]; rfl)) rfl (.an rfl (.seq (.seq (.draw [5] [[0, 1, 2, 3, 4, 5, 6], [7]] mixed (by kernel_rfl) (.g0 (.k rfl (.move rfl) (.k rfl (.move rfl) (.k rfl (.add rfl rfl (by omega)) (.k rfl (.to (v' := vstr (s2.take (k + 6))) (.strTo (j := (k : Int) + 6) rfl rfl Tryz.underlying9 (by omega)) (by rw [show ((k : Int) + 6).toNat = k + 6 by omega])) (.mv rfl rfl (.hh rfl (.c Tryz.func99 [_] (record_spec (sub s2 2 (k + 2)) (by rw [sub_len (by omega)]; omega))) ?_)))))))))))))))
  rintro v L' ⟨⟨ar, cr, rfl⟩, rfl⟩
  refine D.kv rfl (.bytesBy (cs := recZ (sub s2 2 (k + 2))) (n := (recZ (sub s2 2 (k + 2))).length) (p := bytR (.slice ar (recZ (sub s2 2 (k + 2))).length cr) (recZ (sub s2 2 (k + 2)))) rfl Tryz.underlying125 Tryz.underlying5 Tryz.underlying9 (fun h hp => slR_rd hp) (by repeat' constructor)) (.ph (.g0 (.kv rfl (.strne rfl rfl) (.pf (.condN rfl (fun h43 => ?_) (fun h43 => ?_))))))
  ·refine .sr (.a rfl (.an rfl (.rt (.blk_r (.then_r (.blk_r (.then_r ?_)))))))
   rw [if_pos h43] at hp
   exact .dn rfl rfl (.inr ⟨hp.symm, ⟨_, rfl⟩, rfl⟩)
  refine .sk (.seq ?_)
  rw [if_neg (fun hc => hc h43)] at hp
  refine .region (.m rfl (.m rfl (.oq (.buildSlice1 (vs := [_]) el_46 ze_9 rfl rfl rfl rfl rfl (by decide)) ?_)))
  rintro v L' ⟨b11_2, rfl, rfl⟩
  refine .oq (.append1 rfl rfl rfl el_46 ze_9 rfl rfl ?c48 ?c49 (Nat.le_refl _) ?c50 (by decide)) ?_
  case c48 => (first | (simp [isCell]; done) | (simp [isCell, setAll, Value.cells]; done))
  case c49 => rfl
  case c50 => omega
  rintro v L' ⟨⟨a11_3, c11_3, rfl⟩, rfl⟩
  refine .a rfl (.nil (.slCast (m' := (out ++ [sub s2 2 (k + 2)]).length) (xs' := strs (out ++ [sub s2 2 (k + 2)])) (by repeat' constructor) (by simp) (by simp [strs]) (.then_n (.region (.m rfl (.m rfl (.q (.add rfl rfl (by omega)) rfl (.q (.to (v' := vstr (s2.drop (k + 6))) (.strFrom (i := (k : Int) + 6) rfl rfl Tryz.underlying9 (by omega)) (by rw [show ((k : Int) + 6).toNat = k + 6 by omega])) rfl (.a rfl (.nil (.blk_n (.then_n ?_))))))))))))
  exact .rk ((s2.drop (k + 6), out ++ [sub s2 2 (k + 2)], f, .slice a11_3 (out.length + 1) c11_3)) (⟨by dsimp only; rw [List.length_drop]; omega, hp, by dsimp only; rw [List.length_drop, List.length_append, List.length_singleton]; omega, _, _, by rw [List.length_append, List.length_singleton]⟩) (by dsimp only; rw [List.length_drop]; omega) ⟨rfl, rfl, rfl, trivial⟩
 have h10 : s2 = [] := by simpa using h10
 subst h10
 obtain ⟨f, rfl⟩ : ∃ k, f = k + 1 := ⟨f - 1, by simp at hf; omega⟩
 simp only [partF, eq_self, if_true] at hp
 refine .exit (.then_e (.then_e (.blk_e (.then_n (.sm rfl (.m rfl (.q (.slen rfl Tryz.underlying46 rfl) rfl (.m rfl (.ui rfl rfl rfl (.a rfl (.an rfl (.ret ?_))))))))))))
 split at hp
 · rename_i hq
   exact .dn rfl rfl (.inl ⟨out, hp.symm, _, _, by rw [decide_eq_true hq], rfl⟩)
 rename_i hq
 exact .dn rfl rfl (.inr ⟨hp.symm, ⟨_, by rw [decide_eq_false hq]⟩, rfl⟩)
theorem G.nilEmpty {W : World} {k : Nat} {ds : List Deferred} {E : Env} {L R : List HP} {X : Act → World → Prop} {p : HP} {sz n c : Nat} {xs : List Value} (hr : ∀ h : Hp, p h → rdS sz h (.slice none n c) n xs) (hL : Pick p L R)
  (h : n = 0 → xs = [] → G W k ds E L X) : G W k ds E L X := by
 intro a w he hk hs
 obtain ⟨g1, -, hp⟩ := sep_head (hs.pick hL)
 rcases hr _ hp with ⟨h1, h2, -⟩ | ⟨b, off, cap, l, T, fr, hv, -⟩
 ·exact h h1 h2 a w he hk hs
 ·simp at hv
theorem clipB0_spec : Fn Tryz.prog 113 #[.slice none 0 0] [slR 5 1 (.slice none 0 0) 0 []] fun u L => u = .slice none 0 0 ∧ L = [slR 5 1 u 0 []] := by
 refine Fn.intro Tryz.func113 rfl rfl fun F W => ?_
 refine .sr (.an rfl (.sm rfl (.m rfl (.q (.slen rfl Tryz.underlying125 rfl) rfl (.m rfl (.q (.slen rfl Tryz.underlying125 rfl) rfl (.q (.clip (n := 0) rfl el_125 rfl rfl (Nat.le_refl _) (.inl rfl)) rfl (.an rfl (.ret ?_)))))))))
 exact .dn rfl rfl ⟨rfl, rfl⟩
theorem clipB1_spec (b n c : Nat) (hc : n ≤ c) (xs : List Value) : Fn Tryz.prog 113 #[.slice (some ⟨b, 0, none⟩) n c] [slR 5 1 (.slice (some ⟨b, 0, none⟩) n c) n xs] fun u L => u = .slice (some ⟨b, 0, none⟩) n n ∧ L = [slR 5 1 u n xs] := by
 refine Fn.intro Tryz.func113 rfl rfl fun F W => ?_
 refine .sr (.an rfl (.sm rfl (.m rfl (.q (.slen rfl Tryz.underlying125 rfl) rfl (.m rfl (.q (.slen rfl Tryz.underlying125 rfl) rfl (.q (.clip (n := n) rfl el_125 rfl rfl hc (.inr ⟨_, _, rfl⟩)) rfl (.an rfl (.ret (.slClip (by repeat' constructor) ?_))))))))))
 exact .dn rfl rfl ⟨rfl, rfl⟩
theorem clipB_spec (v : Value) (n : Nat) (xs : List Value) : Fn Tryz.prog 113 #[v] [slR 5 1 v n xs] fun u L => (∃ a c, u = .slice a n c) ∧ L = [slR 5 1 u n xs] := by
 intro F w hs
 obtain ⟨g1, -, hp⟩ := sep_head hs
 rcases hp with ⟨rfl, rfl, rfl⟩ | ⟨b, cap, rest, fr, rfl, -, -, -, h4, -⟩
 ·exact (clipB0_spec F w hs).mono fun e w' ⟨u, L, ⟨h1, h2⟩, h3⟩ => ⟨u, L, ⟨⟨_, _, h1⟩, h2⟩, h3⟩
 ·exact (clipB1_spec b n cap h4 xs F w hs).mono fun e w' ⟨u, L, ⟨h1, h2⟩, h3⟩ => ⟨u, L, ⟨⟨_, _, h1⟩, h2⟩, h3⟩
theorem clipT0_spec : Fn Tryz.prog 115 #[.slice none 0 0] [slR 9 1 (.slice none 0 0) 0 []] fun u L => u = .slice none 0 0 ∧ L = [slR 9 1 u 0 []] := by
 refine Fn.intro Tryz.func115 rfl rfl fun F W => ?_
 refine .sr (.an rfl (.sm rfl (.m rfl (.q (.slen rfl Tryz.underlying46 rfl) rfl (.m rfl (.q (.slen rfl Tryz.underlying46 rfl) rfl (.q (.clip (n := 0) rfl el_46 rfl rfl (Nat.le_refl _) (.inl rfl)) rfl (.an rfl (.ret ?_)))))))))
 exact .dn rfl rfl ⟨rfl, rfl⟩
theorem clipT1_spec (b n c : Nat) (hc : n ≤ c) (xs : List Value) : Fn Tryz.prog 115 #[.slice (some ⟨b, 0, none⟩) n c] [slR 9 1 (.slice (some ⟨b, 0, none⟩) n c) n xs] fun u L => u = .slice (some ⟨b, 0, none⟩) n n ∧ L = [slR 9 1 u n xs] := by
 refine Fn.intro Tryz.func115 rfl rfl fun F W => ?_
 refine .sr (.an rfl (.sm rfl (.m rfl (.q (.slen rfl Tryz.underlying46 rfl) rfl (.m rfl (.q (.slen rfl Tryz.underlying46 rfl) rfl (.q (.clip (n := n) rfl el_46 rfl rfl hc (.inr ⟨_, _, rfl⟩)) rfl (.an rfl (.ret (.slClip (by repeat' constructor) ?_))))))))))
 exact .dn rfl rfl ⟨rfl, rfl⟩
theorem clipT_spec (v : Value) (n : Nat) (xs : List Value) : Fn Tryz.prog 115 #[v] [slR 9 1 v n xs] fun u L => (∃ a c, u = .slice a n c) ∧ L = [slR 9 1 u n xs] := by
 intro F w hs
 obtain ⟨g1, -, hp⟩ := sep_head hs
 rcases hp with ⟨rfl, rfl, rfl⟩ | ⟨b, cap, rest, fr, rfl, -, -, -, h4, -⟩
 ·exact (clipT0_spec F w hs).mono fun e w' ⟨u, L, ⟨h1, h2⟩, h3⟩ => ⟨u, L, ⟨⟨_, _, h1⟩, h2⟩, h3⟩
 ·exact (clipT1_spec b n cap h4 xs F w hs).mono fun e w' ⟨u, L, ⟨h1, h2⟩, h3⟩ => ⟨u, L, ⟨⟨_, _, h1⟩, h2⟩, h3⟩
theorem cloneB_spec (v : Value) (n : Nat) (xs : List Value) (p : HP) (hr : ∀ h : Hp, p h → rdS 1 h v n xs) (hc : ∀ y ∈ xs, isCell y = true) (hb : n ≤ 4294967296) : Fn Tryz.prog 98 #[v] [p] fun u L => (∃ a c, u = .slice a n c) ∧ L = [slR 5 1 u n xs, p] := by
 refine Fn.intro Tryz.func98 rfl rfl fun F W => ?_
 refine .rdAny (p := p) hr (by repeat' constructor) fun aa ca e hlen => ?_
 subst e
 refine .sr (.an rfl (.seq (.sm rfl ?_)))
 rcases aa with _ | aa
 ·refine .q (.sleq rfl rfl Tryz.underlying125) rfl (.nt (.condT rfl (.sr (.an rfl (.rt (.nilEmpty (p := p) hr (by repeat' constructor) fun e1 e2 => ?_))))))
  subst e1; subst e2
  refine .add (slR_nil 5 1) ?_
  exact .dn rfl rfl ⟨⟨_, _, rfl⟩, rfl⟩
 refine .q (.sleq rfl rfl Tryz.underlying125) rfl (.nt (.condF rfl (.sk (.sr (.oq (.buildSlice1 (vs := []) el_125 ze_5 rfl rfl rfl rfl rfl (by decide)) ?_)))))
 rintro v L' ⟨b0, rfl, rfl⟩
 refine .m rfl (.slMake (n := 0) (c := 0) (xs := []) (b := b0) (by repeat' constructor) (Nat.le_refl _) (Nat.zero_le _) rfl (.oq (.append (n := 0) (m := n) (xs := []) (ys := xs) (p := p) rfl rfl rfl el_125 (.inl ⟨_, Tryz.underlying125⟩) ze_5 rfl rfl ?hc9 ?hr10 ?hb11 (by decide)) ?_))
 case hc9 => exact hc
 case hr10 => exact hr
 case hb11 => omega
 rintro v L' ⟨⟨a1, c1, rfl⟩, rfl⟩; rw [Nat.zero_add, List.nil_append]
 refine .an rfl (.ret ?_)
 exact .dn rfl rfl ⟨⟨_, _, rfl⟩, rfl⟩
theorem cloneT_spec (v : Value) (n : Nat) (xs : List Value) (p : HP) (hr : ∀ h : Hp, p h → rdS 1 h v n xs) (hc : ∀ y ∈ xs, isCell y = true) (hb : n ≤ 4294967296) : Fn Tryz.prog 116 #[v] [p] fun u L => (∃ a c, u = .slice a n c) ∧ L = [slR 9 1 u n xs, p] := by
 refine Fn.intro Tryz.func116 rfl rfl fun F W => ?_
 refine .rdAny (p := p) hr (by repeat' constructor) fun aa ca e hlen => ?_
 subst e
 refine .sr (.an rfl (.seq (.sm rfl ?_)))
 rcases aa with _ | aa
 ·refine .q (.sleq rfl rfl Tryz.underlying46) rfl (.nt (.condT rfl (.sr (.an rfl (.rt (.nilEmpty (p := p) hr (by repeat' constructor) fun e1 e2 => ?_))))))
  subst e1; subst e2
  refine .add (slR_nil 9 1) ?_
  exact .dn rfl rfl ⟨⟨_, _, rfl⟩, rfl⟩
 refine .q (.sleq rfl rfl Tryz.underlying46) rfl (.nt (.condF rfl (.sk (.sr (.oq (.buildSlice1 (vs := []) el_46 ze_9 rfl rfl rfl rfl rfl (by decide)) ?_)))))
 rintro v L' ⟨b0, rfl, rfl⟩
 refine .m rfl (.slMake (n := 0) (c := 0) (xs := []) (b := b0) (by repeat' constructor) (Nat.le_refl _) (Nat.zero_le _) rfl (.oq (.append (n := 0) (m := n) (xs := []) (ys := xs) (p := p) rfl rfl rfl el_46 (.inl ⟨_, Tryz.underlying46⟩) ze_9 rfl rfl ?hc9 ?hr10 ?hb11 (by decide)) ?_))
 case hc9 => exact hc
 case hr10 => exact hr
 case hb11 => omega
 rintro v L' ⟨⟨a1, c1, rfl⟩, rfl⟩; rw [Nat.zero_add, List.nil_append]
 refine .an rfl (.ret ?_)
 exact .dn rfl rfl ⟨⟨_, _, rfl⟩, rfl⟩
theorem open_spec (d : Nat) (δ : Dk) (hn : 2 ≤ δ.now.length ∧ δ.now.length ≤ 32768) (hok : δ.Ok) : Fn Tryz.prog 54 #[vptr d] [dkR d δ] fun v L => (δ.dead = true ∧ v = .tuple #[.pointer none, vint 2] ∧ L = [dkR d δ]) ∨
    (δ.dead = false ∧ openZ δ = none ∧ v = .tuple #[.pointer none, vint 31] ∧ L = [dkR d δ]) ∨ (δ.dead = false ∧ ∃ ω, openZ δ = some ω ∧ ∃ x, v = .tuple #[vptr x, vint 0] ∧ L = [dkR d δ, wlR x d ω]) := by
 refine Fn.intro Tryz.func54 rfl rfl fun F W => ?_
 have hn2 := hn.1
 refine .sr (.a rfl (.an rfl (.seq (.block (.sm rfl (.q (.ptreq rfl rfl Tryz.underlying24) rfl (.an rfl (.condF rfl (.sm rfl (.cv Tryz.func38 [_] (dead_spec d δ) ?_))))))))))
 refine .an rfl (.condB rfl (fun h17 => ?_) (fun h17 => ?_))
 ·refine .sr (.a rfl (.an rfl (.ret (.blk_r (.then_r ?_)))))
  exact .dn rfl rfl (.inl ⟨by simpa using h17, rfl, rfl⟩)
 have hd : δ.dead = false := by simpa using h17
 refine .skip (.blk_n (.then_n (.sm rfl (.cv Tryz.func112 [_, _] (found_spec d δ 0 hn hok) ?_))))
 refine .m rfl (.q (.extract (vs := [.agg (mkC ((foundZ δ 0).getD mk0)).toArray, .bool (foundZ δ 0).isSome]) rfl rfl) rfl (.q (.extract (vs := [.agg (mkC ((foundZ δ 0).getD mk0)).toArray, .bool (foundZ δ 0).isSome]) rfl rfl) rfl (.oq (.allocA ze_139) ?_)))
 rintro v L' ⟨b4, rfl, rfl⟩
 refine .oq (.storeA rfl rfl ?c17 sz_139 ?c20 ?c18 (nfz0 _ _)) ?_
 case c17 => simp [mkC, isCell]
 case c20 => simp [mkC]
 case c18 => simp [mkC]
 rintro v L' rfl
 refine .a rfl (.nil (.ptCast (b := b4) (l' := mkC ((foundZ δ 0).getD mk0)) (by repeat' constructor) rfl (.then_n (.seq (.joinK (ι := Option Mk) (fun q E => (5, .bool q.isSome) :: E) (fun q => [ptc b4 (mkC (q.getD mk0)) 139, dkR d δ]) (fun q => bestZ δ = q) (pre := [ptc b4 (mkC ((foundZ δ 0).getD mk0)) 139, dkR d δ]) (ts := [0, 2, 3, 4]) (.cons rfl (.cons rfl (.cons rfl (.cons rfl (.nil))))) (by repeat' constructor) ?_ ?_)))))
 ·refine .sr ?_
  rcases hf0 : foundZ δ 0 with _ | m0
  ·refine .m rfl (.cv Tryz.func112 [_, _] (found_spec d δ 1 hn hok) ?_)
   rcases hf1 : foundZ δ 1 with _ | m1
   ·refine .m rfl (.q (.extract (vs := [.agg (mkC mk0).toArray, .bool false]) rfl rfl) rfl (.q (.extract (vs := [.agg (mkC mk0).toArray, .bool false]) rfl rfl) rfl (.oq (.allocA ze_139) ?_)))
    rintro v L' ⟨b6, rfl, rfl⟩
    refine .oq (.storeA rfl rfl ?c29 sz_139 ?c32 ?c30 (nfz0 _ _)) ?_
    case c29 => simp [mkC, isCell]
    case c32 => simp [mkC]
    case c30 => simp [mkC]
    rintro v L' rfl
    refine .a rfl (.nil (.ptCast (b := b6) (l' := mkC mk0) (by repeat' constructor) rfl (.then_n (.sm rfl (.m rfl (.gk (.gk (.gk (.gskipU (t := 34) rfl rfl rfl (.gskipU (t := 34) rfl rfl rfl (.gskipU (t := 34) rfl rfl rfl (.gskipU (t := 34) rfl rfl rfl (.gskipU (t := 34) rfl rfl rfl (.gk (.u (.pickF rfl rfl) (.nt (.condF rfl (.sk ?_))))))))))))))))))
    exact .mk (none) (by unfold bestZ; rw [hf0, hf1]) ⟨rfl, rfl, rfl, rfl, rfl, trivial⟩
   refine .m rfl (.q (.extract (vs := [.agg (mkC m1).toArray, .bool true]) rfl rfl) rfl (.q (.extract (vs := [.agg (mkC m1).toArray, .bool true]) rfl rfl) rfl (.oq (.allocA ze_139) ?_)))
   rintro v L' ⟨b6, rfl, rfl⟩
   refine .oq (.storeA rfl rfl ?c39 sz_139 ?c42 ?c40 (nfz0 _ _)) ?_
   case c39 => simp [mkC, isCell]
   case c42 => simp [mkC]
   case c40 => simp [mkC]
   rintro v L' rfl
   refine .a rfl (.nil (.ptCast (b := b6) (l' := mkC m1) (by repeat' constructor) rfl (.then_n (.sm rfl (.m rfl (.grun (t := 31) rfl rfl rfl (.m rfl (.grun (t := 31) rfl rfl rfl (.u (.not rfl) (.grun (t := 31) rfl rfl rfl (.m rfl (.gk (.gk (.gk (.gk (.gk (.grun (t := 31) rfl rfl rfl (.u (.pickT rfl rfl) (.u (.pickT rfl rfl) (.nt (.condT rfl (.region (.q (.loadAs (vs := mkC m1) rfl ag_139 (by repeat' constructor) (by simp [mkC]) rfl) rfl (.oq (.storeA rfl rfl ?c47 sz_139 ?c50 ?c48 (nfz0 _ _)) ?_))))))))))))))))))))))))
   case c47 => simp [mkC, isCell]
   case c50 => simp [mkC]
   case c48 => simp [mkC]
   rintro v L' rfl
   refine .a rfl (.nil (.ptCast (b := b4) (l' := mkC m1) (by repeat' constructor) rfl (.then_n ?_)))
   exact .mk ((some m1)) (by unfold bestZ; rw [hf0, hf1]) ⟨rfl, rfl, rfl, rfl, rfl, trivial⟩
  refine .m rfl (.cv Tryz.func112 [_, _] (found_spec d δ 1 hn hok) ?_)
  rcases hf1 : foundZ δ 1 with _ | m1
  ·refine .m rfl (.q (.extract (vs := [.agg (mkC mk0).toArray, .bool false]) rfl rfl) rfl (.q (.extract (vs := [.agg (mkC mk0).toArray, .bool false]) rfl rfl) rfl (.oq (.allocA ze_139) ?_)))
   rintro v L' ⟨b6, rfl, rfl⟩
   refine .oq (.storeA rfl rfl ?c60 sz_139 ?c63 ?c61 (nfz0 _ _)) ?_
   case c60 => simp [mkC, isCell]
   case c63 => simp [mkC]
   case c61 => simp [mkC]
   rintro v L' rfl
   refine .a rfl (.nil (.ptCast (b := b6) (l' := mkC mk0) (by repeat' constructor) rfl (.then_n (.sm rfl (.m rfl (.gk (.gk (.gk (.gskipU (t := 34) rfl rfl rfl (.gskipU (t := 34) rfl rfl rfl (.gskipU (t := 34) rfl rfl rfl (.gskipU (t := 34) rfl rfl rfl (.gskipU (t := 34) rfl rfl rfl (.gk (.u (.pickF rfl rfl) (.nt (.condF rfl (.sk ?_))))))))))))))))))
   exact .mk ((some m0)) (by unfold bestZ; rw [hf0, hf1]) ⟨rfl, rfl, rfl, rfl, rfl, trivial⟩
  refine .m rfl (.q (.extract (vs := [.agg (mkC m1).toArray, .bool true]) rfl rfl) rfl (.q (.extract (vs := [.agg (mkC m1).toArray, .bool true]) rfl rfl) rfl (.oq (.allocA ze_139) ?_)))
  rintro v L' ⟨b6, rfl, rfl⟩
  refine .oq (.storeA rfl rfl ?c70 sz_139 ?c73 ?c71 (nfz0 _ _)) ?_
  case c70 => simp [mkC, isCell]
  case c73 => simp [mkC]
  case c71 => simp [mkC]
  rintro v L' rfl
  refine .a rfl (.nil (.ptCast (b := b6) (l' := mkC m1) (by repeat' constructor) rfl (.then_n (.sm rfl (.m rfl (.grun (t := 31) rfl rfl rfl (.m rfl (.grun (t := 31) rfl rfl rfl (.u (.not rfl) (.grun (t := 31) rfl rfl rfl (.m rfl (.grun (t := 34) rfl rfl rfl (.u (.fieldAddr rfl fo_139_0) (.grun (t := 34) rfl rfl rfl (.u (.ld rfl ag_3) (.grun (t := 34) rfl rfl rfl (.u (.fieldAddr rfl fo_139_0) (.grun (t := 34) rfl rfl rfl (.u (.ld rfl ag_3) (.grun (t := 34) rfl rfl rfl (.ui rfl rfl rfl (.grun (t := 31) rfl rfl rfl (.u (.pickF rfl rfl) (.u (.pickT rfl rfl) (.nt (.condD rfl (fun h41 => ?_) (fun h41 => ?_)))))))))))))))))))))))))))
  ·refine .region (.q (.loadAs (vs := mkC m1) rfl ag_139 (by repeat' constructor) (by simp [mkC]) rfl) rfl (.oq (.storeA rfl rfl ?c82 sz_139 ?c85 ?c83 (nfz0 _ _)) ?_))
   case c82 => simp [mkC, isCell]
   case c85 => simp [mkC]
   case c83 => simp [mkC]
   rintro v L' rfl
   refine .a rfl (.nil (.ptCast (b := b4) (l' := mkC m1) (by repeat' constructor) rfl (.then_n ?_)))
   exact .mk ((some m1)) (by unfold bestZ; rw [hf0, hf1]; exact congrArg some (if_pos h41)) ⟨rfl, rfl, rfl, rfl, rfl, trivial⟩
  refine .sk ?_
  exact .mk ((some m0)) (by unfold bestZ; rw [hf0, hf1]; exact congrArg some (if_neg h41)) ⟨rfl, rfl, rfl, rfl, rfl, trivial⟩
 rintro o hbest
 refine .seq (.sr ?_)
 rcases o with _ | m
 ·refine .m rfl (.u (.not rfl) (.nt (.condT rfl (.sr (.a rfl (.an rfl (.rt ?_)))))))
  exact .dn rfl rfl (.inr (.inl ⟨hd, openZ_none hbest, rfl, rfl⟩))
 simp only [Option.getD_some]
 have hm := bestZ_some hok hbest
 obtain ⟨e1, e2, e3, e4⟩ := bytesZ_len hok hn2 hm
 have hml := hm.len
 have hma := hm.area
 have hmn := hm.num
 have hhalf : halfZ δ ≤ 16383 := by unfold halfZ; omega
 refine .m rfl (.u (.not rfl) (.nt (.condF rfl (.sk (.seq (.add (slR_nil 5 1) (.region (.an rfl (.seq (.sr (.an rfl (.block (.loopK (ι := Nat × Value) (fun q E => (8, q.2) :: (9, vint q.1) :: E) (fun q => [bytR q.2 (areaZ δ m.area q.1)]) (fun q => q.1 ≤ secs m ∧ ∃ a c, q.2 = .slice a (areaZ δ m.area q.1).length c) (fun q => secs m - q.1) (0, .slice none 0 0) (ts := [0, 2, 3, 4]) (.cons rfl (.cons rfl (.cons rfl (.cons rfl (.nil))))) (⟨Nat.zero_le _, _, _, rfl⟩) ⟨rfl, rfl, rfl, rfl, rfl, rfl, trivial⟩ (by repeat' constructor) ?_)))))))))))))
 rintro ⟨i, u⟩ ⟨hi, au, cu, hu⟩
 dsimp only
 dsimp only at hi hu
 subst hu
 have hal := areaZ_len hok hn2 hma i (by omega)
 refine .seq (.sm rfl (.q (.slen rfl Tryz.underlying125 rfl) rfl (.u (.fieldAddr rfl fo_139_2) (.u (.ld rfl ag_3) (.ui rfl rfl rfl (.nt (.condD rfl (fun h49 => ?_) (fun h49 => ?_))))))))
 ·have hi2 : i < secs m := by unfold secs; omega
  have hrd := area_read hd hn2 hma (i := i) (by omega)
  have hix := area_idx hn2 hma (i := i) (by omega)
  have hsl := getD_mem64' hok.sec (i := (2 + m.area * halfZ δ + i).toNat) (by omega)
  have hmul : 0 ≤ m.area * halfZ δ ∧ m.area * halfZ δ ≤ 16383 := by rcases (by omega : m.area = 0 ∨ m.area = 1) with h | h <;> rw [h] <;> unfold halfZ <;> omega
  refine .sk (.seq (.block (.seq (.draw [] [[0, 1, 2, 3, 4, 5, 6, 7, 8, 9, 10, 11, 12, 13, 14]] mixed (by kernel_rfl) (.go [ptc b4 _ _, dkR d δ] (by repeat' constructor) (.mv rfl rfl (.kv rfl (.fieldAddr rfl fo_139_1) (.kv rfl (.ld rfl ag_3) (.mv rfl rfl (.m rfl (by kernel_rfl) (.c Tryz.func109 [_] (half_spec d δ hn)) (by repeat' constructor) ?_))))))))))
  refine D.kv rfl (.mul rfl rfl (by omega)) (.kv rfl (.add rfl rfl (by omega)) (.mv rfl rfl (.kv rfl (.add rfl rfl (by omega)) (.m rfl (by kernel_rfl) (.c Tryz.func91 [_, _] (read_spec d δ (2 + m.area * halfZ δ + i))) (by repeat' constructor) ?_))))
  rw [hrd]
  refine D.mv rfl rfl (.kv rfl (.extract rfl rfl) (.kv rfl (.extract rfl rfl) (.kv rfl (.assign rfl) (.kv rfl (.assign rfl) (.pf (.region (.m rfl (.m rfl (.oq (.appendS rfl rfl rfl el_125 Tryz.underlying9 ze_5 rfl rfl ?hb116 (by decide)) ?_)))))))))
  case hb116 => dsimp only; omega
  rintro v L' ⟨⟨a16, c16, rfl⟩, rfl⟩; dsimp only
  refine .a rfl (.nil (.blk_n (.then_n (.region (.m rfl (.q (.add rfl rfl (by omega)) rfl (.an rfl ?_)))))))
  rw [show bysL (areaZ δ m.area i) ++ (δ.now.getD (2 + m.area * halfZ δ + i).toNat []).map vbyte = bysL (areaZ δ m.area (i + 1)) by rw [areaZ_succ, bysL_append]; rfl, show (areaZ δ m.area i).length + (δ.now.getD (2 + m.area * halfZ δ + i).toNat []).length = (areaZ δ m.area (i + 1)).length by rw [areaZ_succ, List.length_append]]
  exact .rk ((i + 1, .slice a16 (areaZ δ m.area (i + 1)).length c16)) (⟨by dsimp only; omega, _, _, rfl⟩) (by dsimp only; omega) ⟨rfl, rfl, rfl, rfl, rfl, rfl, trivial⟩
 have hi3 : i = secs m := by unfold secs; unfold secs at hi; omega
 subst hi3
 refine .slAddr (a := au) (c := cu) (by repeat' constructor) fun hcap hadr => (.slTo (m := (areaZ δ m.area (secs m)).length) (k := m.len.toNat) (by omega) (by repeat' constructor) (.slCast (m' := (bytesZ δ m).length) (xs' := bysL (bytesZ δ m)) (by repeat' constructor) e3.symm (by rw [show bytesZ δ m = (areaZ δ m.area (secs m)).take m.len.toNat from rfl]; simp [bysL, List.map_take]) (.exit (.then_e (.then_e (.blk_e (.then_n (.sm rfl (.u (.fieldAddr rfl fo_139_2) (.u (.ld rfl ag_3) (.q (.to (v' := .slice au (bytesZ δ m).length cu) (.slTo (j := m.len) rfl el_125 rfl (by omega) hadr) (by rw [e3])) rfl ?_)))))))))))
 rw [← e3]
 refine .oq (.c Tryz.func113 [_] (clipB_spec _ _ _)) ?_
 rintro v L' ⟨⟨a17, c17, rfl⟩, rfl⟩
 refine .an rfl (.sm rfl (.q (.bytesBy (cs := bytesZ δ m) (n := (bytesZ δ m).length) (p := bytR (.slice a17 (bytesZ δ m).length c17) (bytesZ δ m)) rfl Tryz.underlying125 Tryz.underlying5 Tryz.underlying9 (fun h hp => slR_rd hp) (by repeat' constructor)) rfl (.u (.fieldAddr rfl fo_139_3) (.u (.ld rfl ag_3) (.oq (.c Tryz.func114 [_, _] (parted_spec (bytesZ δ m) m.num ?hs130)) ?_)))))
 case hs130 => omega
 rintro v L' (⟨l, hpart, ap, cp, rfl, rfl⟩ | ⟨hpart, ⟨w, rfl⟩, rfl⟩)
 ·obtain ⟨hl1, hl2⟩ := partZ_laid hpart
  have hlm := laidZ_many l
  rw [hl1] at hlm
  refine .m rfl (.u (.extract rfl rfl) (.u (.extract rfl rfl) (.a rfl (.an rfl (.seq (.sm rfl (.u (.not rfl) (.nt (.condF rfl (.sk (.sm rfl (.m rfl (.m rfl (.q (.slen rfl Tryz.underlying46 rfl) rfl (.m rfl (.u (.fieldAddr rfl fo_139_1) (.u (.ld rfl ag_3) (.u (.fieldAddr rfl fo_139_0) (.u (.ld rfl ag_3) (.u (.fieldAddr rfl fo_139_4) (.u (.ld rfl ag_3) (.u (.fieldAddr rfl fo_139_5) (.u (.ld rfl ag_3) (.q (.build (us := [(0, _), (1, _), (2, _), (3, _), (4, _), (5, _), (6, _), (7, _)]) fl_142 ze_142 rfl rfl (by simp [isCell])) rfl (.oq (.box rfl) ?_)))))))))))))))))))))))))
  rintro v L' ⟨x, rfl, rfl⟩
  refine .a rfl (.an rfl (.ret (.wlFold (x := x) (d := d) (ω := ⟨l, l.length, m.area, m.count, m.a, m.b, false⟩) (by repeat' constructor) rfl rfl rfl (by rw [hl1]) (by rw [hl1]) ?_)))
  exact .dn rfl rfl (.inr (.inr ⟨hd, _, by rw [openZ_some hbest]; unfold openB; rw [hpart], _, rfl, rfl⟩))
 refine .m rfl (.u (.extract rfl rfl) (.u (.extract rfl rfl) (.a rfl (.an rfl (.seq (.sm rfl (.u (.not rfl) (.nt (.condT rfl (.sr (.a rfl (.an rfl (.rt ?_)))))))))))))
 exact .dn rfl rfl (.inr (.inl ⟨hd, by rw [openZ_some hbest]; unfold openB; rw [hpart], rfl, rfl⟩))
def laySec (all : Bs) (i : Nat) : Bs := (all.drop (i * 64)).take 64 ++ List.replicate (64 - ((all.drop (i * 64)).take 64).length) 0
theorem laySec_len (all : Bs) (i : Nat) : (laySec all i).length = 64 := by simp [laySec]; omega
def layF : Nat → Dk → Int → Bs → Nat → Dk × Int
  | 0, δ, _, _, _ => (δ, 0)
  | f + 1, δ, area, all, i =>
    if i * 64 < all.length then
      (if (δ.write (2 + area * halfZ δ + i) (laySec all i)).2 ≠ 0 then ((δ.write (2 + area * halfZ δ + i) (laySec all i)).1, 2)
       else layF f (δ.write (2 + area * halfZ δ + i) (laySec all i)).1 area all (i + 1))
    else (δ, 0)
def layZ (δ : Dk) (area : Int) (all : Bs) (frm : Nat) : Dk × Int := layF (all.length + 1) δ area all (frm / 64)
theorem layF_end {f : Nat} {δ : Dk} {area : Int} {all : Bs} {i : Nat} (h : ¬ i * 64 < all.length) : layF f δ area all i = (δ, 0) := by
 cases f with
 | zero => rfl
 | succ f => simp only [layF]; rw [if_neg h]
theorem write_keeps (δ : Dk) (n : Int) (s : Bs) : (δ.write n s).1.now.length = δ.now.length ∧ (δ.write n s).1.acts ≤ δ.acts + 1 := by
 unfold Dk.write
 split
 ·exact ⟨rfl, by simp; omega⟩
 ·split
  ·exact ⟨rfl, by simp; omega⟩
  ·exact ⟨by simp [Dk.act, Dk.put], by simp [Dk.act, Dk.put]⟩
theorem sync_keeps (δ : Dk) : δ.sync.1.now = δ.now ∧ δ.sync.1.acts ≤ δ.acts + 1 := by
 unfold Dk.sync
 split
 ·exact ⟨rfl, by simp; omega⟩
 ·split <;> exact ⟨by simp [Dk.act], by simp [Dk.act]⟩
theorem halfZ_of {δ δ' : Dk} (h : δ'.now.length = δ.now.length) : halfZ δ' = halfZ δ := by unfold halfZ; rw [h]
def nextZ (δ : Dk) (m : Mk) : Dk × Int :=
 if (δ.write (m.count % 2) m.sec).2 ≠ 0 then ((δ.write (m.count % 2) m.sec).1, 2)
 else if (δ.write (m.count % 2) m.sec).1.sync.2 ≠ 0 then ((δ.write (m.count % 2) m.sec).1.sync.1, 2) else ((δ.write (m.count % 2) m.sec).1.sync.1, 0)
def Wl.mark (ω : Wl) (area : Int) (l : List Bs) (a b : Int) : Mk := ⟨ω.count + 1, area, (laidZ l).length, l.length, a, b⟩
def sealZ (δ : Dk) (ω : Wl) (area : Int) (l : List Bs) : Dk × Wl × Int :=
 if δ.sync.2 ≠ 0 then (δ.sync.1, ω, 2)
 else if (nextZ δ.sync.1 (ω.mark area l ω.a ω.b)).2 ≠ 0 then ((nextZ δ.sync.1 (ω.mark area l ω.a ω.b)).1, ω, 2)
 else ((nextZ δ.sync.1 (ω.mark area l ω.a ω.b)).1, { ω with recs := l, synced := l.length, area := area, count := ω.count + 1 }, 0)
def dbt (r : Dk × Wl × Int) : Dk × Wl × Int := if r.2.2 = 2 then (r.1, { r.2.1 with doubt := true }, r.2.2) else r
def appendZ (δ : Dk) (ω : Wl) (s : Bs) : Dk × Wl × Int :=
 if ω.doubt then (δ, ω, 34) else if s.length > 4000 then (δ, ω, 33) else if ¬ ((laidZ ω.recs).length + s.length + 6 : Int) ≤ 64 * halfZ δ then (δ, ω, 30)
 else if (layZ δ ω.area (laidZ ω.recs ++ recZ s) (laidZ ω.recs).length).2 ≠ 0 then dbt ((layZ δ ω.area (laidZ ω.recs ++ recZ s) (laidZ ω.recs).length).1, ω, (layZ δ ω.area (laidZ ω.recs ++ recZ s) (laidZ ω.recs).length).2)
 else ((layZ δ ω.area (laidZ ω.recs ++ recZ s) (laidZ ω.recs).length).1, { ω with recs := ω.recs ++ [s] }, 0)
def syncZ (δ : Dk) (ω : Wl) : Dk × Wl × Int :=
 if ω.doubt then (δ, ω, 34) else if ω.synced = ω.recs.length then (δ, ω, 0) else if ω.count = 4294967295 then (δ, ω, 30) else dbt (sealZ δ ω ω.area ω.recs)
def cutZ (δ : Dk) (ω : Wl) (n : Int) : Dk × Wl × Int :=
 if ω.doubt then (δ, ω, 34) else if n < 0 ∨ n > ω.recs.length then (δ, ω, 32) else if ω.count = 4294967295 then (δ, ω, 30) else dbt (sealZ δ ω ω.area (ω.recs.take n.toNat))
def renewZ (δ : Dk) (ω : Wl) (l : List Bs) : Dk × Wl × Int :=
 if ω.doubt then (δ, ω, 34) else if l.any (fun s => decide (s.length > 4000)) then (δ, ω, 33) else if ¬ ((l.length : Int) * 6 ≤ 64 * halfZ δ) ∨ ω.count = 4294967295 then (δ, ω, 30)
 else if ¬ ((laidZ l).length : Int) ≤ 64 * halfZ δ then (δ, ω, 30)
 else if (layZ δ (1 - ω.area) (laidZ l) 0).2 ≠ 0 then dbt ((layZ δ (1 - ω.area) (laidZ l) 0).1, ω, (layZ δ (1 - ω.area) (laidZ l) 0).2)
 else dbt (sealZ (layZ δ (1 - ω.area) (laidZ l) 0).1 ω (1 - ω.area) l)
def setmZ (δ : Dk) (ω : Wl) (a b : Int) : Dk × Wl × Int :=
 if ω.doubt then (δ, ω, 34) else if a < 0 ∨ b < 0 then (δ, ω, 1) else if ω.count = 4294967295 then (δ, ω, 30)
 else if (nextZ δ (ω.mark ω.area (ω.recs.take ω.synced.toNat) a b)).2 ≠ 0 then dbt ((nextZ δ (ω.mark ω.area (ω.recs.take ω.synced.toNat) a b)).1, ω, (nextZ δ (ω.mark ω.area (ω.recs.take ω.synced.toNat) a b)).2)
 else ((nextZ δ (ω.mark ω.area (ω.recs.take ω.synced.toNat) a b)).1, { ω with a := a, b := b, count := ω.count + 1 }, 0)
structure WlI (δ : Dk) (ω : Wl) : Prop where
 size : 2 ≤ δ.now.length ∧ δ.now.length ≤ 32768
 acts : δ.acts + 10000000 < 4611686018427387904
 area : 0 ≤ ω.area ∧ ω.area ≤ 1
 count : 0 ≤ ω.count ∧ ω.count ≤ 4294967295
 synced : 0 ≤ ω.synced ∧ ω.synced ≤ ω.recs.length
 fits : ((laidZ ω.recs).length : Int) ≤ 64 * halfZ δ
theorem half_le {δ : Dk} (h : 2 ≤ δ.now.length ∧ δ.now.length ≤ 32768) : 0 ≤ halfZ δ ∧ halfZ δ ≤ 16383 := by unfold halfZ; omega
abbrev wc (d : Nat) (vr : Value) (sy : Int) (vb : Value) (ar ct a b : Int) (db : Bool) : List Value := [vptr d, vr, vint sy, vb, vint ar, vint ct, vint a, vint b, .bool db]
theorem lay_cells (all : Bs) (i k : Nat) (hk : k = all.length - i * 64) : spl (List.replicate 64 zB) 0 ((bysL (all.drop (i * 64))).take (min k 64 * 1)) = bysL (laySec all i) := by
 subst hk
 unfold laySec
 rw [bysL_append, Nat.mul_one]
 have e : (bysL (all.drop (i * 64))).take (min (all.length - i * 64) 64) = bysL ((all.drop (i * 64)).take 64) := by
  rw [show bysL ((all.drop (i * 64)).take 64) = (bysL (all.drop (i * 64))).take 64 from List.map_take]
  rcases Nat.le_total (all.length - i * 64) 64 with h | h
  ·rw [Nat.min_eq_left h, List.take_of_length_le (by simp [bysL]), List.take_of_length_le (by simp [bysL]; omega)]
  ·rw [Nat.min_eq_right h]
 rw [e]
 have hl : (bysL ((all.drop (i * 64)).take 64)).length = ((all.drop (i * 64)).take 64).length := bysL_len _
 generalize (all.drop (i * 64)).take 64 = t at *
 show (List.replicate 64 zB).take 0 ++ bysL t ++ (List.replicate 64 zB).drop (0 + (bysL t).length) = bysL t ++ bysL (List.replicate (64 - t.length) 0)
 rw [hl, Nat.zero_add, List.take_zero, List.nil_append, List.drop_replicate]
 congr 1
 show _ = (List.replicate (64 - t.length) (0 : UInt8)).map vbyte
 rw [List.map_replicate]; rfl
theorem layF_err : ∀ (f : Nat) (δ : Dk) (area : Int) (all : Bs) (i : Nat), (layF f δ area all i).2 = 0 ∨ (layF f δ area all i).2 = 2 := by
 intro f
 induction f with
 | zero => intro δ area all i; exact .inl rfl
 | succ f ih =>
  intro δ area all i
  simp only [layF]
  split
  ·split
   ·exact .inr rfl
   ·exact ih _ _ _ _
  ·exact .inl rfl
theorem layZ_err (δ : Dk) (area : Int) (all : Bs) (frm : Nat) : (layZ δ area all frm).2 = 0 ∨ (layZ δ area all frm).2 = 2 := layF_err _ _ _ _ _
theorem layF_keeps : ∀ (f : Nat) (δ : Dk) (area : Int) (all : Bs) (i : Nat), (layF f δ area all i).1.now.length = δ.now.length ∧ (layF f δ area all i).1.acts ≤ δ.acts + f := by
 intro f
 induction f with
 | zero => intro δ area all i; exact ⟨rfl, by simp [layF]⟩
 | succ f ih =>
  intro δ area all i
  simp only [layF]
  have hw := write_keeps δ (2 + area * halfZ δ + i) (laySec all i)
  split
  ·split
   ·exact ⟨hw.1, by dsimp only; omega⟩
   ·have := ih (δ.write (2 + area * halfZ δ + i) (laySec all i)).1 area all (i + 1)
    exact ⟨by rw [this.1, hw.1], by omega⟩
  ·exact ⟨rfl, by dsimp only; omega⟩
theorem nextZ_keeps (δ : Dk) (m : Mk) : (nextZ δ m).1.now.length = δ.now.length ∧ (nextZ δ m).1.acts ≤ δ.acts + 2 ∧ ((nextZ δ m).2 = 0 ∨ (nextZ δ m).2 = 2) := by
 have h1 := write_keeps δ (m.count % 2) m.sec
 have h2 := sync_keeps (δ.write (m.count % 2) m.sec).1
 unfold nextZ
 split
 ·exact ⟨h1.1, by dsimp only; omega, .inr rfl⟩
 ·split
  ·exact ⟨by rw [h2.1, h1.1], by dsimp only; omega, .inr rfl⟩
  ·exact ⟨by rw [h2.1, h1.1], by dsimp only; omega, .inl rfl⟩
theorem fits_spec (x d : Nat) (vr : Value) (sy : Int) (vb : Value) (ar ct a b : Int) (db : Bool) (δ : Dk) (n : Int) (hn : 2 ≤ δ.now.length ∧ δ.now.length ≤ 32768) : Fn Tryz.prog 97 #[vptr x, vint n] [ptc x (wc d vr sy vb ar ct a b db) 142, dkR d δ] fun v L => v = .bool (decide (n ≤ 64 * halfZ δ)) ∧ L = [ptc x (wc d vr sy vb ar ct a b db) 142, dkR d δ] := by
 refine Fn.intro Tryz.func97 rfl rfl fun F W => ?_
 have hh := half_le hn
 refine .sr (.an rfl (.sm rfl (.m rfl (.nf rfl fo_142_0 (.u (.ld rfl ag_24) (.cv Tryz.func109 [_] (half_spec d δ hn) ?_))))))
 refine .q (.mul rfl rfl (by omega)) rfl (.ui rfl rfl rfl (.an rfl (.ret ?_)))
 exact .vv
theorem doubts_spec (x d : Nat) (vr : Value) (sy : Int) (vb : Value) (ar ct a b : Int) (db : Bool) (e : Nat) (er : Int) : FnD Tryz.prog 96 #[vptr x, vptr e] [ptc x (wc d vr sy vb ar ct a b db) 142, ptc e [vint er] 25] fun v L => v = .tuple #[] ∧ L = [ptc x (wc d vr sy vb ar ct a b (if er = 2 then true else db)) 142, ptc e [vint er] 25] := by
 refine FnD.intro (vs := [vptr x, vptr e]) Tryz.func96 rfl rfl ?_
 intro F W
 refine G.sm rfl (G.u (Quiet.nilp rfl) (G.u (Quiet.ld rfl ag_25) (G.ui rfl rfl rfl (G.nt (G.condD rfl (fun h7 => ?_) (fun h7 => ?_))))))
 ·refine G.region (G.m rfl (G.nf rfl fo_142_8 (G.st rfl rfl rfl sz_4 ?_)))
  refine G.nil (G.done_n ?_)
  rw [if_pos h7]
  exact G.dn rfl rfl ⟨rfl, rfl⟩
 ·refine G.skip (G.done_n ?_)
  rw [if_neg h7]
  exact G.dn rfl rfl ⟨rfl, rfl⟩
theorem lay_spec4 (x d : Nat) (vr : Value) (sy : Int) (vb : Value) (ar ct a b : Int) (db : Bool) (va : Value) (δ : Dk) (area : Int) (all : Bs) (frm : Nat) (p : HP) (hn : 2 ≤ δ.now.length ∧ δ.now.length ≤ 32768) (ha : 0 ≤ area ∧ area ≤ 1) (hA : δ.acts + 70000 < 4611686018427387904) (hr : ∀ h : Hp, p h → rdS 1 h va all.length (bysL all)) (hl0 : all.length ≤ 2000000) (hfrm : frm ≤ all.length) : Fn Tryz.prog 100 #[vptr x, vint area, va, vint frm] [ptc x (wc d vr sy vb ar ct a b db) 142, dkR d δ, p] fun v L => v = vint (layZ δ area all frm).2 ∧ L = [ptc x (wc d vr sy vb ar ct a b db) 142, dkR d (layZ δ area all frm).1, p] := by
 refine Fn.intro Tryz.func100 rfl rfl fun F W => ?_
 have hh := half_le hn
 refine .rdAny (p := p) hr (by repeat' constructor) fun aa ca e _ => ?_
 subst e
 refine .sr (.an rfl (.seq (.sm rfl (.q (.as (v' := vint ((frm / 64 : Nat) : Int)) (by exact congrArg vint (by omega)) (.quoE rfl rfl (by omega) (by omega))) rfl (.an rfl (.block (.loopK (ι := Nat × Dk × Nat) (fun q E => (9, vint q.1) :: E) (fun q => [dkR d q.2.1]) (fun q => all.length < q.2.2 + q.1 * 64 ∧ layF q.2.2 q.2.1 area all q.1 = layZ δ area all frm ∧ q.2.1.now.length = δ.now.length ∧ q.2.1.acts ≤ δ.acts + q.1 ∧ q.1 ≤ all.length / 64 + frm + 1) (fun q => all.length - q.1 * 64) (frm / 64, δ, all.length + 1) (ts := [0, 1, 2]) (.cons rfl (.cons rfl (.cons rfl (.nil)))) (⟨by dsimp only; omega, rfl, rfl, by dsimp only; omega, by dsimp only; omega⟩) ⟨rfl, rfl, rfl, rfl, trivial⟩ (by repeat' constructor) ?_)))))))
 rintro ⟨i, δ2, f⟩ ⟨hf, hl, hnl, hac, hib⟩
 dsimp only
 dsimp only at hf hl hnl hac hib
 have hhz := halfZ_of hnl
 refine .seq (.sm rfl (.q (.mul rfl rfl (by omega)) rfl (.m rfl (.q (.slen rfl Tryz.underlying125 rfl) rfl (.ui rfl rfl rfl (.nt (.condD rfl (fun h18 => ?_) (fun h18 => ?_))))))))
 ·obtain ⟨f, rfl⟩ : ∃ k, f = k + 1 := ⟨f - 1, by omega⟩
  have hi2 : i * 64 < all.length := by omega
  simp only [layF] at hl
  rw [if_pos hi2, hhz] at hl
  refine .rdShapeC (p := p) hr (by repeat' constructor) (by omega) fun ba oa e hac2 => ?_
  subst e
  have hmul : 0 ≤ area * halfZ δ ∧ area * halfZ δ ≤ 16383 := by rcases (by omega : area = 0 ∨ area = 1) with h | h <;> rw [h] <;> omega
  refine .sk (.seq (.block (.sr (.oq (.make rfl rfl el_125 ze_5 rfl ⟨by simp, by simp; rfl⟩ ?hc9) ?_))))
  case hc9 => omega
  rintro v L' ⟨bs, rfl, rfl⟩; rw [show (64 : Int).toNat = 64 from rfl]
  refine .an rfl (.sm rfl (.m rfl (.m rfl (.q (.mul rfl rfl (by omega)) rfl (.q (.to (v' := .slice (some ⟨ba, oa + i * 64 * 1, none⟩) (all.length - i * 64) (ca - i * 64)) (.slSlice (i := (i : Int) * 64) (j := all.length) rfl el_125 (by exact rfl) (by exact rfl) (by omega)) (by rw [show ((i : Int) * 64).toNat = i * 64 by omega, if_neg (by omega)]; simp)) rfl (.oq (.copy (m := all.length - i * 64) (ys := (bysL all).drop (i * 64 * 1)) (p := p) rfl rfl rfl el_125 ?h116 ?h217 ?h318 ?h419) ?_))))))
  case h116 => exact fun h hp => rdS_drop (hr h hp) hi2
  case h217 => exact fun y hy => bysL_cell _ y (List.mem_of_mem_drop hy)
  case h318 => simp
  case h419 => exact nfz0 _ _
  rintro v L' ⟨rfl, rfl⟩
  refine .nil (.ptCast (b := bs) (l' := bysL (laySec all i)) (by repeat' constructor) (by rw [show (bysL all).drop (i * 64 * 1) = bysL (all.drop (i * 64)) from by rw [Nat.mul_one]; exact List.map_drop.symm]; exact lay_cells all i _ rfl) (.then_n (.seq (.draw [16] [[0, 1, 2, 3, 4, 5, 6, 7, 8, 9, 10, 11, 12, 13, 14, 15, 16], [17]] mixed (by kernel_rfl) (.go [ptc x _ _, ptc bs _ _] (by repeat' constructor) (.mv rfl rfl (.nf rfl rfl rfl fo_142_0 (.kv rfl (.ld rfl ag_24) (.mv rfl rfl (.mv rfl rfl (.nf rfl rfl rfl fo_142_0 (.kv rfl (.ld rfl ag_24) (.mw [10, 11, 13, 16] rfl (by kernel_rfl) (.c Tryz.func109 [_] (half_spec d δ2 (by omega))) (by repeat' constructor) ?_)))))))))))))
  rw [hhz]
  refine D.kv rfl (.mul rfl rfl (by omega)) (.kv rfl (.add rfl rfl (by omega)) (.mv rfl rfl (.kv rfl (.add rfl rfl (by omega)) (.mv rfl rfl (.kv rfl (.bytesPt (cs := laySec all i) rfl Tryz.underlying125 Tryz.underlying5 Tryz.underlying9 (by repeat' constructor) (by rw [List.drop_zero]; exact List.take_of_length_le (by simp [bysL_len, laySec_len])) (by simp [bysL_len, laySec_len]) (by decide)) (.hh rfl (.c Tryz.func23 [_, _, _] (write_spec d δ2 (2 + area * halfZ δ + i) (laySec all i) (by omega))) ?_))))))
  rintro v L' ⟨rfl, rfl⟩
  refine D.ph (.g0 (.kv rfl (.assign rfl) (.pf (.sm rfl (.ui rfl rfl rfl (.nt (.condN rfl (fun h46 => ?_) (fun h46 => ?_))))))))
  ·refine .seq ?_
   have h46 : (δ2.write (2 + area * halfZ δ + i) (laySec all i)).2 ≠ 0 := by simpa using h46
   rw [if_pos h46] at hl
   rw [← hl]
   refine .region (.an rfl (.ret (.blk_r (.then_r (.then_r (.blk_r (.then_r ?_)))))))
   exact .vv
  have h46 : ¬ (δ2.write (2 + area * halfZ δ + i) (laySec all i)).2 ≠ 0 := by simpa using h46
  rw [if_neg h46] at hl
  refine .skip (.blk_n (.then_n (.region (.m rfl (.q (.add rfl rfl (by omega)) rfl (.an rfl ?_))))))
  exact .rk ((i + 1, (δ2.write (2 + area * halfZ δ + i) (laySec all i)).1, f)) (⟨by dsimp only; omega, hl, by rw [(write_keeps _ _ _).1]; exact hnl, by have := (write_keeps δ2 (2 + area * halfZ δ + i) (laySec all i)).2; dsimp only; omega, by dsimp only; omega⟩) (by dsimp only; omega) ⟨rfl, rfl, rfl, rfl, trivial⟩
 have hq := layF_end (f := f) (δ := δ2) (area := area) (all := all) (i := i) (by omega)
 rw [hq] at hl
 rw [← hl]
 refine .exit (.then_e (.then_e (.blk_e (.then_n (.sr (.an rfl (.ret ?_)))))))
 exact .vv
theorem next_spec (x d : Nat) (vr : Value) (sy : Int) (vb : Value) (ar ct a b : Int) (db : Bool) (m : Mk) (δ : Dk) (hc : 0 ≤ ct ∧ ct ≤ 4294967295) (hA : δ.acts + 2 < 4611686018427387904) : Fn Tryz.prog 140 #[vptr x, .agg (mkC m).toArray] [ptc x (wc d vr sy vb ar ct a b db) 142, dkR d δ] fun v L => v = vint (nextZ δ (⟨ct + 1, m.area, m.len, m.num, m.a, m.b⟩ : Mk)).2 ∧ L = [ptc x (wc d vr sy vb ar (if (nextZ δ (⟨ct + 1, m.area, m.len, m.num, m.a, m.b⟩ : Mk)).2 = 0 then ct + 1 else ct) a b db) 142, dkR d (nextZ δ (⟨ct + 1, m.area, m.len, m.num, m.a, m.b⟩ : Mk)).1] := by
 refine Fn.intro Tryz.func140 rfl rfl fun F W => ?_
 generalize hM : (⟨ct + 1, m.area, m.len, m.num, m.a, m.b⟩ : Mk) = M
 have hMc : M.count = ct + 1 := by rw [← hM]
 have hwk := write_keeps δ (M.count % 2) M.sec
 refine .sr (.oq (.box rfl) ?_)
 rintro v L' ⟨b3, rfl, rfl⟩
 refine .an rfl (.sm rfl (.nf rfl fo_142_5 (.u (.ld rfl ag_3) (.q (.add rfl rfl (by omega)) rfl (.u (.fieldAddr rfl fo_139_0) (.oq (.store rfl rfl rfl sz_3 ?c10 (nfz0 _ _)) ?_))))))
 case c10 => simp [Value.cells, mkC]
 rintro v L' rfl
 refine .nil (.ptCast (b := b3) (l' := mkC M) (by repeat' constructor) (by rw [← hM]; rfl) (.then_n (.seq (.seq (.draw [9, 16] [[0, 1, 2, 3, 4, 5, 6, 7, 8, 9], [10, 11, 12, 13, 14, 15, 16], [17, 18]] mixed (by kernel_rfl) (.go [ptc x _ _, ptc b3 _ _] (by repeat' constructor) (.mv rfl rfl (.nf rfl rfl rfl fo_142_0 (.kv rfl (.ld rfl ag_24) (.kv rfl (.fieldAddr rfl fo_139_0) (.kv rfl (.ld rfl ag_3) (.kv rfl (.remE (a := M.count) rfl rfl (by rw [hMc]; omega) (by decide)) (.kv rfl (.loadAs (vs := mkC M) rfl ag_139 (by repeat' constructor) (by simp [mkC]) rfl) (.m rfl (by kernel_rfl) (.c Tryz.func95 [_] (sector_spec M)) (by repeat' constructor) ?_))))))))))))))
 refine D.hh rfl (.c Tryz.func23 [_, _, _] (write_spec d δ (M.count % 2) M.sec (by omega))) ?_
 rintro v L' ⟨rfl, rfl⟩
 refine D.ph (.g0 (.kv rfl (.int rfl rfl rfl) (.mv rfl rfl (.ndec (t := 22) rfl (fun h2_22 => ?_) (fun h2_22 => ?_)))))
 ·refine D.kNT (t := 21) rfl h2_22 (.gz rfl (.gz rfl (.gz rfl (.gz rfl (.gz rfl (.ph (.g0 (.gz rfl (.kv rfl (.pickT rfl rfl) (.pf (.condT rfl (.sr (.an rfl (.rt ?_))))))))))))))
  have e : nextZ δ M = ((δ.write (M.count % 2) M.sec).1, 2) := by unfold nextZ; rw [if_pos (by simpa using h2_22)]
  rw [e]
  rw [if_neg (show ¬ (2 : Int) = 0 by decide)]
  exact .vv
 refine D.kNF (t := 21) rfl h2_22 (.gv rfl (.move rfl) (.gv rfl (.nilp rfl) (.gv rfl (.fieldAddr rfl fo_142_0) (.gv rfl (.ld rfl ag_24) (.gh (t := 22) rfl rfl rfl (by kernel_rfl) (.c Tryz.func86 [_] (sync_spec d (δ.write (M.count % 2) M.sec).1 (by omega))) (by repeat' constructor) ?_)))))
 rintro v L' ⟨rfl, rfl⟩
 refine D.ph (.g0 (.gv rfl (.int rfl rfl rfl) (.kv rfl (.pickF rfl rfl) (.pf (.condN rfl (fun h29 => ?_) (fun h29 => ?_))))))
 ·refine .sr (.an rfl (.rt ?_))
  have e : nextZ δ M = ((δ.write (M.count % 2) M.sec).1.sync.1, 2) := by unfold nextZ; rw [if_neg (by simpa using h2_22), if_pos (by simpa using h29)]
  rw [e]
  rw [if_neg (show ¬ (2 : Int) = 0 by decide)]
  exact .vv
 refine .sk (.sm rfl (.u (.fieldAddr rfl fo_139_0) (.u (.ld rfl ag_3) (.nf rfl fo_142_5 (.st rfl rfl rfl sz_3 ?_)))))
 refine .nt (.sr (.an rfl (.ret ?_)))
 have e : nextZ δ M = ((δ.write (M.count % 2) M.sec).1.sync.1, 0) := by unfold nextZ; rw [if_neg (by simpa using h2_22), if_neg (by simpa using h29)]
 rw [e]
 rw [if_pos rfl, ← hMc]
 exact .vv
theorem strs_cell (l : List Bs) : ∀ y ∈ strs l, isCell y = true := by
 intro y hy; obtain ⟨c, -, rfl⟩ := List.mem_map.1 hy; rfl
theorem seal_spec (x d : Nat) (vr vb : Value) (ω : Wl) (δ : Dk) (area : Int) (v1 v2 : Value) (l : List Bs) (p q : HP) (hc : 0 ≤ ω.count ∧ ω.count ≤ 4294967295) (hA : δ.acts + 10 < 4611686018427387904) (hl : (laidZ l).length ≤ 4000000) (hp : ∀ h : Hp, p h → rdS 1 h v1 l.length (strs l)) (hq : ∀ h : Hp, q h → rdS 1 h v2 (laidZ l).length (bysL (laidZ l))) :
    Fn Tryz.prog 105 #[vptr x, vint area, v1, v2] [ptc x (wc d vr ω.synced vb ω.area ω.count ω.a ω.b ω.doubt) 142, dkR d δ, p, q] fun v L => (∃ δ', sealZ δ ω area l = (δ', ω, 2) ∧ v = vint 2 ∧ L = [ptc x (wc d vr ω.synced vb ω.area ω.count ω.a ω.b ω.doubt) 142, dkR d δ', p, q]) ∨
      (∃ δ', sealZ δ ω area l = (δ', { ω with recs := l, synced := l.length, area := area, count := ω.count + 1 }, 0) ∧ v = vint 0 ∧ ∃ vr' vb', L = [ptc x (wc d vr' l.length vb' area (ω.count + 1) ω.a ω.b ω.doubt) 142, dkR d δ', strR vr' l, bytR vb' (laidZ l), p, q]) := by
 refine Fn.intro Tryz.func105 rfl rfl fun F W => ?_
 have hsk := sync_keeps δ
 have hll := laidZ_many l
 refine .rdAny (p := p) hp (by repeat' constructor) fun ap cp e _ => ?_
 subst e
 refine .rdAny (p := q) hq (by repeat' constructor) fun aq cq e _ => ?_
 subst e
 refine .sr (.an rfl (.seq (.sm rfl (.nf rfl fo_142_0 (.u (.ld rfl ag_24) (.cv Tryz.func86 [_] (sync_spec d δ (by omega)) ?_))))))
 refine .ui rfl rfl rfl (.nt (.condN rfl (fun h15 => ?_) (fun h15 => ?_)))
 ·refine .sr (.an rfl (.rt ?_))
  have e : sealZ δ ω area l = (δ.sync.1, ω, 2) := by unfold sealZ; rw [if_pos (by simpa using h15)]
  exact .dn rfl rfl (.inl ⟨_, e, rfl, rfl⟩)
 refine .sk (.seq (.seq (.draw [15] [[0, 1, 2, 3, 4, 5, 6, 7, 8, 9, 10, 11, 12, 13, 14, 15], [16]] mixed (by kernel_rfl) (.g0 (.mv rfl rfl (.mv rfl rfl (.mv rfl rfl (.kv rfl (.slen rfl Tryz.underlying125 rfl) (.mv rfl rfl (.kv rfl (.slen rfl Tryz.underlying46 rfl) (.mv rfl rfl (.nf rfl rfl rfl fo_142_6 (.kv rfl (.ld rfl ag_3) (.mv rfl rfl (.nf rfl rfl rfl fo_142_7 (.kv rfl (.ld rfl ag_3) (.kv rfl (.to (v' := .agg (mkC ⟨0, area, (laidZ l).length, l.length, ω.a, ω.b⟩).toArray) (.build (us := [(1, _), (2, _), (3, _), (4, _), (5, _)]) fl_139 ze_139 rfl rfl (by simp [isCell])) rfl) (.hh rfl (.c Tryz.func140 [_, _] (next_spec x d vr ω.synced vb ω.area ω.count ω.a ω.b ω.doubt ⟨0, area, (laidZ l).length, l.length, ω.a, ω.b⟩ δ.sync.1 hc (by omega))) ?_))))))))))))))))))
 rintro v L' ⟨rfl, rfl⟩; rw [show (⟨ω.count + 1, area, ((laidZ l).length : Int), (l.length : Int), ω.a, ω.b⟩ : Mk) = ω.mark area l ω.a ω.b from rfl]
 refine D.ph (.g0 (.kv rfl (.assign rfl) (.pf (.sm rfl (.ui rfl rfl rfl (.nt (.condN rfl (fun h33 => ?_) (fun h33 => ?_))))))))
 ·refine .sm rfl (.an rfl (.rt ?_))
  have e : sealZ δ ω area l = ((nextZ δ.sync.1 (ω.mark area l ω.a ω.b)).1, ω, 2) := by unfold sealZ; rw [if_neg (by simpa using h15), if_pos (by simpa using h33)]
  have hn2 : (nextZ δ.sync.1 (ω.mark area l ω.a ω.b)).2 = 2 := by rcases (nextZ_keeps δ.sync.1 (ω.mark area l ω.a ω.b)).2.2 with h | h; exact absurd h (by simpa using h33); exact h
  rw [hn2, if_neg (show ¬ (2 : Int) = 0 by decide)]
  exact .dn rfl rfl (.inl ⟨_, e, rfl, rfl⟩)
 refine .sk (.seq ?_)
 have h33b : (nextZ δ.sync.1 (ω.mark area l ω.a ω.b)).2 = 0 := by simpa using h33
 rw [if_pos h33b]
 refine .region (.m rfl (.m rfl (.m rfl (.m rfl (.m rfl (.m rfl (.oq (.c Tryz.func116 [_] (cloneT_spec _ l.length (strs l) p hp ?h134 ?h235)) ?_)))))))
 case h134 => exact strs_cell l
 case h235 => omega
 rintro v L' ⟨⟨ar', cr', rfl⟩, rfl⟩
 refine .m rfl (.oq (.c Tryz.func98 [_] (cloneB_spec _ (laidZ l).length (bysL (laidZ l)) q hq ?h139 ?h240)) ?_)
 case h139 => exact bysL_cell _
 case h240 => omega
 rintro v L' ⟨⟨ab', cb', rfl⟩, rfl⟩
 refine .m rfl (.q (.slen rfl Tryz.underlying46 rfl) rfl (.nf rfl fo_142_4 (.st rfl rfl rfl sz_3 ?_)))
 refine .nf rfl fo_142_1 (.st rfl rfl rfl sz_46 ?_)
 refine .nf rfl fo_142_3 (.st rfl rfl rfl sz_125 ?_)
 refine .nf rfl fo_142_2 (.st rfl rfl rfl sz_3 ?_)
 refine .nt (.sr (.an rfl (.ret ?_)))
 have e : sealZ δ ω area l = ((nextZ δ.sync.1 (ω.mark area l ω.a ω.b)).1, { ω with recs := l, synced := l.length, area := area, count := ω.count + 1 }, 0) := by unfold sealZ; rw [if_neg (by simpa using h15), if_neg (by simpa using h33)]
 exact .dn rfl rfl (.inr ⟨_, e, rfl, _, _, rfl⟩)
theorem rd_take {arr : Option Addr} {n crr k : Nat} {T : TypeId} {l : List Bs} (hk : k ≤ n) (hn : n = l.length) : ∀ h : Hp, slR T 1 (.slice arr n crr) n (strs l) h → rdS 1 h (.slice arr k crr) (l.take k).length (strs (l.take k)) := by
 intro h hp
 have := slR_rd (slR_to hk hp)
 rw [show (l.take k).length = k by rw [List.length_take]; omega, show strs (l.take k) = (strs l).take k from List.map_take]
 exact this
theorem wsync_spec (x d : Nat) (ω : Wl) (δ : Dk) (hI : WlI δ ω) : Fn Tryz.prog 47 #[vptr x] [wlR x d ω, dkR d δ] fun v L => v = vint (syncZ δ ω).2.2 ∧ L = [wlR x d (syncZ δ ω).2.1, dkR d (syncZ δ ω).1] := by
 refine Fn.introD (vs := [vptr x]) Tryz.func47 rfl rfl ?_
 intro F W
 refine .wlOpen (ω := ω) (by repeat' constructor) fun vr vb => (.slAny (v := vr) (by repeat' constructor) fun arr crr e _ => ?_)
 subst e
 refine .slAny (v := vb) (by repeat' constructor) fun abb cbb e _ => ?_
 subst e
 refine .slAddr (T := 9) (by repeat' constructor) fun hrc hra => ?_
 obtain ⟨hn, hA, har, hct, hsy, hfit⟩ := hI
 have hh := half_le hn
 have hll := laidZ_many ω.recs
 refine .sr (.oq (.alloc ze_25) ?_)
 rintro v L' ⟨be, rfl, rfl⟩
 refine .nil (.ptCast (b := be) (l' := [vint 0]) (by repeat' constructor) rfl (.then_n (.sm rfl (.defer (vs := [_, _]) rfl (.nt (.seq (.block (.sm rfl (.nf rfl fo_142_8 (.u (.ld rfl ag_4) (.an rfl (.condB rfl (fun h4 => ?_) (fun h4 => ?_)))))))))))))
 ·refine .sr (.st rfl rfl rfl sz_25 ?_)
  refine .nil (.ptCast (b := be) (l' := [vint 34]) (by repeat' constructor) rfl (.then_n (.ret (.blk_r (.then_r (.doneD Tryz.func96 rfl rfl (doubts_spec x d (.slice arr ω.recs.length crr) ω.synced (.slice abb (laidZ ω.recs).length cbb) ω.area ω.count ω.a ω.b ω.doubt be 34) (by repeat' constructor) ?_))))))
  rintro u L' ⟨rfl, rfl⟩
  have e : syncZ δ ω = (δ, ω, 34) := by unfold syncZ; rw [if_pos h4]
  rw [e, if_neg (show ¬ (34 : Int) = 2 by decide)]
  refine .wlFold (x := x) (d := d) (ω := ω) (by repeat' constructor) rfl rfl rfl rfl rfl ?_
  exact .d1 rfl (.cell rfl ag_25 (by repeat' constructor) rfl) ⟨rfl, rfl⟩
 have hdb : ¬ ω.doubt = true := by rw [h4]; decide
 refine .seq (.draw [] [[0, 1, 2, 3, 4, 5, 6, 7, 8, 9, 10]] mixed (by kernel_rfl) (.g0 (.mv rfl rfl (.nf rfl rfl rfl fo_142_2 (.kv rfl (.ld rfl ag_3) (.mv rfl rfl (.nf rfl rfl rfl fo_142_1 (.kv rfl (.ld rfl ag_46) (.kv rfl (.slen rfl Tryz.underlying46 rfl) (.kv rfl (.int rfl rfl rfl) (.kv rfl (.assign rfl) (.pf (.condD rfl (fun h9 => ?_) (fun h9 => ?_))))))))))))))
 ·refine .sr (.st rfl rfl rfl sz_25 ?_)
  refine .nil (.ptCast (b := be) (l' := [vint 0]) (by repeat' constructor) rfl (.then_n (.ret (.blk_r (.then_r (.doneD Tryz.func96 rfl rfl (doubts_spec x d (.slice arr ω.recs.length crr) ω.synced (.slice abb (laidZ ω.recs).length cbb) ω.area ω.count ω.a ω.b ω.doubt be 0) (by repeat' constructor) ?_))))))
  rintro u L' ⟨rfl, rfl⟩
  have e : syncZ δ ω = (δ, ω, 0) := by unfold syncZ; rw [if_neg hdb, if_pos h9]
  rw [e, if_neg (show ¬ (0 : Int) = 2 by decide)]
  refine .wlFold (x := x) (d := d) (ω := ω) (by repeat' constructor) rfl rfl rfl rfl rfl ?_
  exact .d1 rfl (.cell rfl ag_25 (by repeat' constructor) rfl) ⟨rfl, rfl⟩
 refine .sm rfl (.nf rfl fo_142_5 (.u (.ld rfl ag_3) (.ui rfl rfl rfl (.an rfl (.condD rfl (fun h20 => ?_) (fun h20 => ?_))))))
 ·refine .sr (.st rfl rfl rfl sz_25 ?_)
  refine .nil (.ptCast (b := be) (l' := [vint 30]) (by repeat' constructor) rfl (.then_n (.ret (.blk_r (.then_r (.doneD Tryz.func96 rfl rfl (doubts_spec x d (.slice arr ω.recs.length crr) ω.synced (.slice abb (laidZ ω.recs).length cbb) ω.area ω.count ω.a ω.b ω.doubt be 30) (by repeat' constructor) ?_))))))
  rintro u L' ⟨rfl, rfl⟩
  have e : syncZ δ ω = (δ, ω, 30) := by unfold syncZ; rw [if_neg hdb, if_neg h9, if_pos h20]
  rw [e, if_neg (show ¬ (30 : Int) = 2 by decide)]
  refine .wlFold (x := x) (d := d) (ω := ω) (by repeat' constructor) rfl rfl rfl rfl rfl ?_
  exact .d1 rfl (.cell rfl ag_25 (by repeat' constructor) rfl) ⟨rfl, rfl⟩
 refine .skip (.blk_n (.then_n (.seq (.draw [13, 14] [[0, 1, 2, 3, 4, 5, 6, 7, 8, 9, 10, 11, 12, 13], [14]] mixed (by kernel_rfl) (.g0 (.mv rfl rfl (.mv rfl rfl (.nf rfl rfl rfl fo_142_4 (.kv rfl (.ld rfl ag_3) (.mv rfl rfl (.nf rfl rfl rfl fo_142_1 (.kv rfl (.ld rfl ag_46) (.mv rfl rfl (.nf rfl rfl rfl fo_142_3 (.kv rfl (.ld rfl ag_125) (.hh rfl (.c Tryz.func105 [_, _, _, _] (seal_spec x d (.slice arr ω.recs.length crr) (.slice abb (laidZ ω.recs).length cbb) ω δ ω.area (.slice arr ω.recs.length crr) (.slice abb (laidZ ω.recs).length cbb) ω.recs (strR (.slice arr ω.recs.length crr) ω.recs) (bytR (.slice abb (laidZ ω.recs).length cbb) (laidZ ω.recs)) hct (by omega) ?hl45 ?hp46 ?hq47)) ?_))))))))))))))))
 case hl45 => omega
 case hp46 => exact fun h hp => slR_rd hp
 case hq47 => exact fun h hp => slR_rd hp
 rintro v L' (⟨δ', hs, rfl, rfl⟩ | ⟨δ', hs, rfl, vr', vb', rfl⟩)
 ·refine D.ph (.g0 (.hh rfl (.store rfl rfl rfl sz_25 ?c50 (nfz0 _ _)) ?_))
  case c50 => first | decide | (simp; omega) | simp
  rintro v L' rfl
  refine D.ph (.fin (.ptCast (b := be) (l' := [vint 2]) (by repeat' constructor) rfl (.then_n (.ret (.doneD Tryz.func96 rfl rfl (doubts_spec x d (.slice arr ω.recs.length crr) ω.synced (.slice abb (laidZ ω.recs).length cbb) ω.area ω.count ω.a ω.b ω.doubt be 2) (by repeat' constructor) ?_)))))
  rintro u L' ⟨rfl, rfl⟩
  have e : syncZ δ ω = (δ', { ω with doubt := true }, 2) := by unfold syncZ; rw [if_neg hdb, if_neg h9, if_neg h20, hs]; rfl
  rw [e, if_pos rfl]
  refine .wlFold (x := x) (d := d) (ω := { ω with doubt := true }) (by repeat' constructor) rfl rfl rfl rfl rfl ?_
  exact .d1 rfl (.cell rfl ag_25 (by repeat' constructor) rfl) ⟨rfl, rfl⟩
 refine D.ph (.g0 (.hh rfl (.store rfl rfl rfl sz_25 ?c54 (nfz0 _ _)) ?_))
 case c54 => first | decide | (simp; omega) | simp
 rintro v L' rfl
 refine D.ph (.fin (.ptCast (b := be) (l' := [vint 0]) (by repeat' constructor) rfl (.then_n (.ret (.doneD Tryz.func96 rfl rfl (doubts_spec x d vr' _ vb' _ _ _ _ _ be 0) (by repeat' constructor) ?_)))))
 rintro u L' ⟨rfl, rfl⟩
 have e : syncZ δ ω = (δ', { ω with synced := ω.recs.length, count := ω.count + 1 }, 0) := by unfold syncZ; rw [if_neg hdb, if_neg h9, if_neg h20, hs]; rfl
 rw [e, if_neg (show ¬ (0 : Int) = 2 by decide)]
 refine .wlFold (x := x) (d := d) (ω := { ω with synced := ω.recs.length, count := ω.count + 1 }) (by repeat' constructor) rfl rfl rfl rfl rfl ?_
 exact .d1 rfl (.cell rfl ag_25 (by repeat' constructor) rfl) ⟨rfl, rfl⟩
theorem wcut_spec (x d : Nat) (ω : Wl) (δ : Dk) (n : Int) (hI : WlI δ ω) : Fn Tryz.prog 75 #[vptr x, vint n] [wlR x d ω, dkR d δ] fun v L => v = vint (cutZ δ ω n).2.2 ∧ L = [wlR x d (cutZ δ ω n).2.1, dkR d (cutZ δ ω n).1] := by
 refine Fn.introD (vs := [vptr x, vint n]) Tryz.func75 rfl rfl ?_
 intro F W
 refine .wlOpen (ω := ω) (by repeat' constructor) fun vr vb => (.slAny (v := vr) (by repeat' constructor) fun arr crr e _ => ?_)
 subst e
 refine .slAny (v := vb) (by repeat' constructor) fun abb cbb e _ => ?_
 subst e
 refine .slAddr (T := 9) (by repeat' constructor) fun hrc hra => ?_
 obtain ⟨hn, hA, har, hct, hsy, hfit⟩ := hI
 have hh := half_le hn
 have hll := laidZ_many ω.recs
 refine .sr (.oq (.alloc ze_25) ?_)
 rintro v L' ⟨be, rfl, rfl⟩
 refine .nil (.ptCast (b := be) (l' := [vint 0]) (by repeat' constructor) rfl (.then_n (.sm rfl (.defer (vs := [_, _]) rfl (.nt (.seq (.block (.sm rfl (.nf rfl fo_142_8 (.u (.ld rfl ag_4) (.an rfl (.condB rfl (fun h6 => ?_) (fun h6 => ?_)))))))))))))
 ·refine .sr (.st rfl rfl rfl sz_25 ?_)
  refine .nil (.ptCast (b := be) (l' := [vint 34]) (by repeat' constructor) rfl (.then_n (.ret (.blk_r (.then_r (.doneD Tryz.func96 rfl rfl (doubts_spec x d (.slice arr ω.recs.length crr) ω.synced (.slice abb (laidZ ω.recs).length cbb) ω.area ω.count ω.a ω.b ω.doubt be 34) (by repeat' constructor) ?_))))))
  rintro u L' ⟨rfl, rfl⟩
  have e : cutZ δ ω n = (δ, ω, 34) := by unfold cutZ; rw [if_pos h6]
  rw [e, if_neg (show ¬ (34 : Int) = 2 by decide)]
  refine .wlFold (x := x) (d := d) (ω := ω) (by repeat' constructor) rfl rfl rfl rfl rfl ?_
  exact .d1 rfl (.cell rfl ag_25 (by repeat' constructor) rfl) ⟨rfl, rfl⟩
 have hdb : ¬ ω.doubt = true := by rw [h6]; decide
 refine .sm rfl (.ui rfl rfl rfl (.m rfl (.dec (t := 14) rfl (fun h4_14 => ?_) (fun h4_14 => ?_))))
 ·refine .kDT (t := 13) rfl h4_14 (.gk (.gk (.gk (.gk (.gk (.gk (.gk (.u (.pickT rfl rfl) (.an rfl (.condT rfl (.sr (.st rfl rfl rfl sz_25 ?_))))))))))))
  refine .nil (.ptCast (b := be) (l' := [vint 32]) (by repeat' constructor) rfl (.then_n (.ret (.blk_r (.then_r (.doneD Tryz.func96 rfl rfl (doubts_spec x d (.slice arr ω.recs.length crr) ω.synced (.slice abb (laidZ ω.recs).length cbb) ω.area ω.count ω.a ω.b ω.doubt be 32) (by repeat' constructor) ?_))))))
  rintro u L' ⟨rfl, rfl⟩
  have e : cutZ δ ω n = (δ, ω, 32) := by unfold cutZ; rw [if_neg hdb, if_pos (by first | exact .inl h4_14 | exact .inr h11)]
  rw [e, if_neg (show ¬ (32 : Int) = 2 by decide)]
  refine .wlFold (x := x) (d := d) (ω := ω) (by repeat' constructor) rfl rfl rfl rfl rfl ?_
  exact .d1 rfl (.cell rfl ag_25 (by repeat' constructor) rfl) ⟨rfl, rfl⟩
 refine .kDF (t := 13) rfl h4_14 (.grun (t := 14) rfl rfl rfl (.m rfl (.grun (t := 14) rfl rfl rfl (.m rfl (.grun (t := 14) rfl rfl rfl (.u (.nilp rfl) (.grun (t := 14) rfl rfl rfl (.u (.fieldAddr rfl fo_142_1) (.grun (t := 14) rfl rfl rfl (.u (.ld rfl ag_46) (.grun (t := 14) rfl rfl rfl (.q (.slen rfl Tryz.underlying46 rfl) rfl (.grun (t := 14) rfl rfl rfl (.ui rfl rfl rfl (.u (.pickF rfl rfl) (.an rfl (.condD rfl (fun h11 => ?_) (fun h11 => ?_))))))))))))))))))
 ·refine .sr (.st rfl rfl rfl sz_25 ?_)
  refine .nil (.ptCast (b := be) (l' := [vint 32]) (by repeat' constructor) rfl (.then_n (.ret (.blk_r (.then_r (.doneD Tryz.func96 rfl rfl (doubts_spec x d (.slice arr ω.recs.length crr) ω.synced (.slice abb (laidZ ω.recs).length cbb) ω.area ω.count ω.a ω.b ω.doubt be 32) (by repeat' constructor) ?_))))))
  rintro u L' ⟨rfl, rfl⟩
  have e : cutZ δ ω n = (δ, ω, 32) := by unfold cutZ; rw [if_neg hdb, if_pos (by first | exact .inl h4_14 | exact .inr h11)]
  rw [e, if_neg (show ¬ (32 : Int) = 2 by decide)]
  refine .wlFold (x := x) (d := d) (ω := ω) (by repeat' constructor) rfl rfl rfl rfl rfl ?_
  exact .d1 rfl (.cell rfl ag_25 (by repeat' constructor) rfl) ⟨rfl, rfl⟩
 refine .seq ?_
 have hin : ¬ (n < 0 ∨ n > ω.recs.length) := by rintro (h | h) <;> omega
 have htl := laidZ_take_len ω.recs n.toNat
 have hkl : (ω.recs.take n.toNat).length = n.toNat := by rw [List.length_take]; omega
 refine .region (.m rfl (.nf rfl fo_142_5 (.u (.ld rfl ag_3) (.ui rfl rfl rfl (.an rfl (.condD rfl (fun h23 => ?_) (fun h23 => ?_)))))))
 ·refine .sr (.st rfl rfl rfl sz_25 ?_)
  refine .nil (.ptCast (b := be) (l' := [vint 30]) (by repeat' constructor) rfl (.then_n (.ret (.blk_r (.then_r (.doneD Tryz.func96 rfl rfl (doubts_spec x d (.slice arr ω.recs.length crr) ω.synced (.slice abb (laidZ ω.recs).length cbb) ω.area ω.count ω.a ω.b ω.doubt be 30) (by repeat' constructor) ?_))))))
  rintro u L' ⟨rfl, rfl⟩
  have e : cutZ δ ω n = (δ, ω, 30) := by unfold cutZ; rw [if_neg hdb, if_neg hin, if_pos h23]
  rw [e, if_neg (show ¬ (30 : Int) = 2 by decide)]
  refine .wlFold (x := x) (d := d) (ω := ω) (by repeat' constructor) rfl rfl rfl rfl rfl ?_
  exact .d1 rfl (.cell rfl ag_25 (by repeat' constructor) rfl) ⟨rfl, rfl⟩
 refine .skip (.blk_n (.then_n (.seq (.draw [17, 18, 19] [[0, 1, 2, 3, 4, 5, 6, 7, 8, 9, 10, 11, 12, 13, 14, 15, 16, 17], [18], [19]] mixed (by kernel_rfl) (.go [ptc x _ _] (by repeat' constructor) (.k rfl (.move rfl) (.k rfl (.move rfl) (.k rfl (.nilp rfl) (.k rfl (.fieldAddr rfl fo_142_4) (.k rfl (.ld rfl ag_3) (.k rfl (.move rfl) (.k rfl (.nilp rfl) (.k rfl (.fieldAddr rfl fo_142_1) (.k rfl (.ld rfl ag_46) (.k rfl (.move rfl) (.k rfl (.slTo (j := n) rfl el_46 rfl (by omega) hra) (.mv rfl rfl (.nf rfl rfl rfl fo_142_1 (.kv rfl (.ld rfl ag_46) (.mv rfl rfl (.kv rfl (.slTo (j := n) rfl el_46 rfl (by omega) hra) (.hh rfl (.c Tryz.func134 [_] (laid_spec (.slice arr n.toNat crr) (ω.recs.take n.toNat) (strR (.slice arr ω.recs.length crr) ω.recs) ?hr52 ?hl53)) ?_))))))))))))))))))))))
 case hr52 => exact rd_take (by omega) rfl
 case hl53 => omega
 rintro v L' ⟨⟨al, cl, rfl⟩, rfl⟩
 refine D.ph (.g0 (.hh rfl (.c Tryz.func105 [_, _, _, _] (seal_spec x d (.slice arr ω.recs.length crr) (.slice abb (laidZ ω.recs).length cbb) ω δ ω.area (.slice arr n.toNat crr) (.slice al (laidZ (ω.recs.take n.toNat)).length cl) (ω.recs.take n.toNat) (strR (.slice arr ω.recs.length crr) ω.recs) (bytR (.slice al (laidZ (ω.recs.take n.toNat)).length cl) (laidZ (ω.recs.take n.toNat))) hct (by omega) ?hl56 ?hp57 ?hq58)) ?_))
 case hl56 => omega
 case hp57 => exact rd_take (by omega) rfl
 case hq58 => exact fun h hp => slR_rd hp
 rintro v L' (⟨δ', hs, rfl, rfl⟩ | ⟨δ', hs, rfl, vr', vb', rfl⟩)
 ·refine D.ph (.g0 (.hh rfl (.store rfl rfl rfl sz_25 ?c61 (nfz0 _ _)) ?_))
  case c61 => first | decide | (simp; omega) | simp
  rintro v L' rfl
  refine D.ph (.fin (.ptCast (b := be) (l' := [vint 2]) (by repeat' constructor) rfl (.then_n (.ret (.doneD Tryz.func96 rfl rfl (doubts_spec x d (.slice arr ω.recs.length crr) ω.synced (.slice abb (laidZ ω.recs).length cbb) ω.area ω.count ω.a ω.b ω.doubt be 2) (by repeat' constructor) ?_)))))
  rintro u L' ⟨rfl, rfl⟩
  have e : cutZ δ ω n = (δ', { ω with doubt := true }, 2) := by unfold cutZ; rw [if_neg hdb, if_neg hin, if_neg h23, hs]; rfl
  rw [e, if_pos rfl]
  refine .wlFold (x := x) (d := d) (ω := { ω with doubt := true }) (by repeat' constructor) rfl rfl rfl rfl rfl ?_
  exact .d1 rfl (.cell rfl ag_25 (by repeat' constructor) rfl) ⟨rfl, rfl⟩
 refine D.ph (.g0 (.hh rfl (.store rfl rfl rfl sz_25 ?c65 (nfz0 _ _)) ?_))
 case c65 => first | decide | (simp; omega) | simp
 rintro v L' rfl
 refine D.ph (.fin (.ptCast (b := be) (l' := [vint 0]) (by repeat' constructor) rfl (.then_n (.ret (.doneD Tryz.func96 rfl rfl (doubts_spec x d vr' _ vb' _ _ _ _ _ be 0) (by repeat' constructor) ?_)))))
 rintro u L' ⟨rfl, rfl⟩
 have e : cutZ δ ω n = (δ', { ω with recs := ω.recs.take n.toNat, synced := (ω.recs.take n.toNat).length, count := ω.count + 1 }, 0) := by unfold cutZ; rw [if_neg hdb, if_neg hin, if_neg h23, hs]; rfl
 rw [e, if_neg (show ¬ (0 : Int) = 2 by decide)]
 refine .wlFold (x := x) (d := d) (ω := { ω with recs := ω.recs.take n.toNat, synced := (ω.recs.take n.toNat).length, count := ω.count + 1 }) (by repeat' constructor) rfl rfl rfl rfl rfl ?_
 exact .d1 rfl (.cell rfl ag_25 (by repeat' constructor) rfl) ⟨rfl, rfl⟩
theorem wmark_spec (x d : Nat) (ω : Wl) (δ : Dk) (a b : Int) (hI : WlI δ ω) : Fn Tryz.prog 83 #[vptr x, vint a, vint b] [wlR x d ω, dkR d δ] fun v L => v = vint (setmZ δ ω a b).2.2 ∧ L = [wlR x d (setmZ δ ω a b).2.1, dkR d (setmZ δ ω a b).1] := by
 refine Fn.introD (vs := [vptr x, vint a, vint b]) Tryz.func83 rfl rfl ?_
 intro F W
 refine .wlOpen (ω := ω) (by repeat' constructor) fun vr vb => (.slAny (v := vr) (by repeat' constructor) fun arr crr e _ => ?_)
 subst e
 refine .slAny (v := vb) (by repeat' constructor) fun abb cbb e _ => ?_
 subst e
 refine .slAddr (T := 9) (by repeat' constructor) fun hrc hra => ?_
 obtain ⟨hn, hA, har, hct, hsy, hfit⟩ := hI
 have hh := half_le hn
 have hll := laidZ_many ω.recs
 refine .sr (.oq (.alloc ze_25) ?_)
 rintro v L' ⟨be, rfl, rfl⟩
 refine .nil (.ptCast (b := be) (l' := [vint 0]) (by repeat' constructor) rfl (.then_n (.sm rfl (.defer (vs := [_, _]) rfl (.nt (.seq (.block (.sm rfl (.nf rfl fo_142_8 (.u (.ld rfl ag_4) (.an rfl (.condB rfl (fun h9 => ?_) (fun h9 => ?_)))))))))))))
 ·refine .sr (.st rfl rfl rfl sz_25 ?_)
  refine .nil (.ptCast (b := be) (l' := [vint 34]) (by repeat' constructor) rfl (.then_n (.ret (.blk_r (.then_r (.doneD Tryz.func96 rfl rfl (doubts_spec x d (.slice arr ω.recs.length crr) ω.synced (.slice abb (laidZ ω.recs).length cbb) ω.area ω.count ω.a ω.b ω.doubt be 34) (by repeat' constructor) ?_))))))
  rintro u L' ⟨rfl, rfl⟩
  have e : setmZ δ ω a b = (δ, ω, 34) := by unfold setmZ; rw [if_pos h9]
  rw [e, if_neg (show ¬ (34 : Int) = 2 by decide)]
  refine .wlFold (x := x) (d := d) (ω := ω) (by repeat' constructor) rfl rfl rfl rfl rfl ?_
  exact .d1 rfl (.cell rfl ag_25 (by repeat' constructor) rfl) ⟨rfl, rfl⟩
 have hdb : ¬ ω.doubt = true := by rw [h9]; decide
 refine .sm rfl (.ui rfl rfl rfl (.m rfl (.dec (t := 17) rfl (fun h4_17 => ?_) (fun h4_17 => ?_))))
 ·refine .kDT (t := 16) rfl h4_17 (.gk (.gk (.u (.pickT rfl rfl) (.an rfl (.condT rfl (.sr (.st rfl rfl rfl sz_25 ?_)))))))
  refine .nil (.ptCast (b := be) (l' := [vint 1]) (by repeat' constructor) rfl (.then_n (.ret (.blk_r (.then_r (.doneD Tryz.func96 rfl rfl (doubts_spec x d (.slice arr ω.recs.length crr) ω.synced (.slice abb (laidZ ω.recs).length cbb) ω.area ω.count ω.a ω.b ω.doubt be 1) (by repeat' constructor) ?_))))))
  rintro u L' ⟨rfl, rfl⟩
  have e : setmZ δ ω a b = (δ, ω, 1) := by unfold setmZ; rw [if_neg hdb, if_pos (by first | exact .inl h4_17 | exact .inr h14)]
  rw [e, if_neg (show ¬ (1 : Int) = 2 by decide)]
  refine .wlFold (x := x) (d := d) (ω := ω) (by repeat' constructor) rfl rfl rfl rfl rfl ?_
  exact .d1 rfl (.cell rfl ag_25 (by repeat' constructor) rfl) ⟨rfl, rfl⟩
 refine .kDF (t := 16) rfl h4_17 (.grun (t := 17) rfl rfl rfl (.m rfl (.grun (t := 17) rfl rfl rfl (.ui rfl rfl rfl (.u (.pickF rfl rfl) (.an rfl (.condD rfl (fun h14 => ?_) (fun h14 => ?_))))))))
 ·refine .sr (.st rfl rfl rfl sz_25 ?_)
  refine .nil (.ptCast (b := be) (l' := [vint 1]) (by repeat' constructor) rfl (.then_n (.ret (.blk_r (.then_r (.doneD Tryz.func96 rfl rfl (doubts_spec x d (.slice arr ω.recs.length crr) ω.synced (.slice abb (laidZ ω.recs).length cbb) ω.area ω.count ω.a ω.b ω.doubt be 1) (by repeat' constructor) ?_))))))
  rintro u L' ⟨rfl, rfl⟩
  have e : setmZ δ ω a b = (δ, ω, 1) := by unfold setmZ; rw [if_neg hdb, if_pos (by first | exact .inl h4_17 | exact .inr h14)]
  rw [e, if_neg (show ¬ (1 : Int) = 2 by decide)]
  refine .wlFold (x := x) (d := d) (ω := ω) (by repeat' constructor) rfl rfl rfl rfl rfl ?_
  exact .d1 rfl (.cell rfl ag_25 (by repeat' constructor) rfl) ⟨rfl, rfl⟩
 refine .seq ?_
 have hin : ¬ (a < 0 ∨ b < 0) := by rintro (h | h) <;> omega
 have htl := laidZ_take_len ω.recs ω.synced.toNat
 have hkl : (ω.recs.take ω.synced.toNat).length = ω.synced.toNat := by rw [List.length_take]; omega
 refine .region (.m rfl (.nf rfl fo_142_5 (.u (.ld rfl ag_3) (.ui rfl rfl rfl (.an rfl (.condD rfl (fun h21 => ?_) (fun h21 => ?_)))))))
 ·refine .sr (.st rfl rfl rfl sz_25 ?_)
  refine .nil (.ptCast (b := be) (l' := [vint 30]) (by repeat' constructor) rfl (.then_n (.ret (.blk_r (.then_r (.doneD Tryz.func96 rfl rfl (doubts_spec x d (.slice arr ω.recs.length crr) ω.synced (.slice abb (laidZ ω.recs).length cbb) ω.area ω.count ω.a ω.b ω.doubt be 30) (by repeat' constructor) ?_))))))
  rintro u L' ⟨rfl, rfl⟩
  have e : setmZ δ ω a b = (δ, ω, 30) := by unfold setmZ; rw [if_neg hdb, if_neg hin, if_pos h21]
  rw [e, if_neg (show ¬ (30 : Int) = 2 by decide)]
  refine .wlFold (x := x) (d := d) (ω := ω) (by repeat' constructor) rfl rfl rfl rfl rfl ?_
  exact .d1 rfl (.cell rfl ag_25 (by repeat' constructor) rfl) ⟨rfl, rfl⟩
 refine .skip (.blk_n (.then_n (.seq (.seq (.draw [14, 23] [[0, 1, 2, 3, 4, 5, 6, 7, 8, 9, 10, 11, 12, 13, 16, 17, 18, 19, 20, 21, 14, 15, 22], [23], [24]] mixed (by kernel_rfl) (.go [ptc x _ _] (by repeat' constructor) (.k rfl (.move rfl) (.k rfl (.move rfl) (.k rfl (.nilp rfl) (.k rfl (.fieldAddr rfl fo_142_4) (.k rfl (.ld rfl ag_3) (.mv rfl rfl (.nf rfl rfl rfl fo_142_1 (.kv rfl (.ld rfl ag_46) (.mv rfl rfl (.nf rfl rfl rfl fo_142_2 (.kv rfl (.ld rfl ag_3) (.kv rfl (.slTo (j := ω.synced) rfl el_46 rfl (by omega) hra) (.k rfl (.move rfl) (.k rfl (.nilp rfl) (.k rfl (.fieldAddr rfl fo_142_2) (.k rfl (.ld rfl ag_3) (.k rfl (.move rfl) (.k rfl (.move rfl) (.hh rfl (.c Tryz.func134 [_] (laid_spec (.slice arr ω.synced.toNat crr) (ω.recs.take ω.synced.toNat) (strR (.slice arr ω.recs.length crr) ω.recs) ?hr50 ?hl51)) ?_)))))))))))))))))))))))))
 case hr50 => exact rd_take (by omega) rfl
 case hl51 => omega
 rintro v L' ⟨⟨al, cl, rfl⟩, rfl⟩
 refine D.kv rfl (.slen rfl Tryz.underlying125 rfl) (.kv rfl (.to (v' := .agg (mkC ⟨0, ω.area, (laidZ (ω.recs.take ω.synced.toNat)).length, ω.synced, a, b⟩).toArray) (.build (us := [(1, _), (2, _), (3, _), (4, _), (5, _)]) fl_139 ze_139 rfl rfl (by simp [isCell])) rfl) (.ph (.g0 (.hh rfl (.c Tryz.func140 [_, _] (next_spec x d (.slice arr ω.recs.length crr) ω.synced (.slice abb (laidZ ω.recs).length cbb) ω.area ω.count ω.a ω.b ω.doubt ⟨0, ω.area, (laidZ (ω.recs.take ω.synced.toNat)).length, ω.synced, a, b⟩ δ hct (by omega))) ?_))))
 rintro v L' ⟨rfl, rfl⟩; rw [show (⟨ω.count + 1, ω.area, ((laidZ (ω.recs.take ω.synced.toNat)).length : Int), ω.synced, a, b⟩ : Mk) = (ω.mark ω.area (ω.recs.take ω.synced.toNat) a b) from by unfold Wl.mark; congr 1; omega]
 refine D.ph (.g0 (.kv rfl (.assign rfl) (.pf (.sm rfl (.ui rfl rfl rfl (.nt (.condN rfl (fun h52 => ?_) (fun h52 => ?_))))))))
 ·refine .sm rfl (.st rfl rfl rfl sz_25 ?_)
  refine .nil (.ptCast (b := be) (l' := [vint (nextZ δ (ω.mark ω.area (ω.recs.take ω.synced.toNat) a b)).2]) (by repeat' constructor) rfl (.then_n (.rt (.doneD Tryz.func96 rfl rfl (doubts_spec x d (.slice arr ω.recs.length crr) ω.synced (.slice abb (laidZ ω.recs).length cbb) ω.area (if (nextZ δ (ω.mark ω.area (ω.recs.take ω.synced.toNat) a b)).2 = 0 then ω.count + 1 else ω.count) ω.a ω.b ω.doubt be (nextZ δ (ω.mark ω.area (ω.recs.take ω.synced.toNat) a b)).2) (by repeat' constructor) ?_))))
  rintro u L' ⟨rfl, rfl⟩
  have h2 : (nextZ δ (ω.mark ω.area (ω.recs.take ω.synced.toNat) a b)).2 = 2 := by rcases (nextZ_keeps δ (ω.mark ω.area (ω.recs.take ω.synced.toNat) a b)).2.2 with h | h; exact absurd h (by simpa using h52); exact h
  have e : setmZ δ ω a b = ((nextZ δ (ω.mark ω.area (ω.recs.take ω.synced.toNat) a b)).1, { ω with doubt := true }, 2) := by unfold setmZ; rw [if_neg hdb, if_neg hin, if_neg h21, if_pos (by simpa using h52), h2]; rfl
  rw [e, h2, if_pos rfl, if_neg (show ¬ (2 : Int) = 0 by decide)]
  refine .wlFold (x := x) (d := d) (ω := { ω with doubt := true }) (by repeat' constructor) rfl rfl rfl rfl rfl ?_
  exact .d1 rfl (.cell rfl ag_25 (by repeat' constructor) rfl) ⟨rfl, rfl⟩
 refine .sk (.sm rfl (.m rfl (.m rfl (.m rfl (.nf rfl fo_142_6 (.st rfl rfl rfl sz_3 ?_))))))
 refine .nf rfl fo_142_7 (.st rfl rfl rfl sz_3 ?_)
 refine .nt (.sr (.st rfl rfl rfl sz_25 ?_))
 refine .nil (.ptCast (b := be) (l' := [vint 0]) (by repeat' constructor) rfl (.then_n (.ret (.doneD Tryz.func96 rfl rfl (doubts_spec x d (.slice arr ω.recs.length crr) ω.synced (.slice abb (laidZ ω.recs).length cbb) ω.area (if (nextZ δ (ω.mark ω.area (ω.recs.take ω.synced.toNat) a b)).2 = 0 then ω.count + 1 else ω.count) a b ω.doubt be 0) (by repeat' constructor) ?_))))
 rintro u L' ⟨rfl, rfl⟩
 have h0 : (nextZ δ (ω.mark ω.area (ω.recs.take ω.synced.toNat) a b)).2 = 0 := by simpa using h52
 have e : setmZ δ ω a b = ((nextZ δ (ω.mark ω.area (ω.recs.take ω.synced.toNat) a b)).1, { ω with a := a, b := b, count := ω.count + 1 }, 0) := by unfold setmZ; rw [if_neg hdb, if_neg hin, if_neg h21, if_neg (by rw [h0]; simp)]
 rw [e, h0, if_pos rfl, if_neg (show ¬ (0 : Int) = 2 by decide)]
 refine .wlFold (x := x) (d := d) (ω := { ω with a := a, b := b, count := ω.count + 1 }) (by repeat' constructor) rfl rfl rfl rfl rfl ?_
 exact .d1 rfl (.cell rfl ag_25 (by repeat' constructor) rfl) ⟨rfl, rfl⟩
theorem wappend_spec (x d : Nat) (ω : Wl) (δ : Dk) (s : Bs) (hI : WlI δ ω) (hsl : s.length ≤ 2147483648) : Fn Tryz.prog 45 #[vptr x, vstr s] [wlR x d ω, dkR d δ] fun v L => v = vint (appendZ δ ω s).2.2 ∧ L = [wlR x d (appendZ δ ω s).2.1, dkR d (appendZ δ ω s).1] := by
 refine Fn.introD (vs := [vptr x, vstr s]) Tryz.func45 rfl rfl ?_
 intro F W
 refine .wlOpen (ω := ω) (by repeat' constructor) fun vr vb => (.slAny (v := vr) (by repeat' constructor) fun arr crr e _ => ?_)
 subst e
 refine .slAny (v := vb) (by repeat' constructor) fun abb cbb e _ => ?_
 subst e
 refine .slAddr (T := 9) (by repeat' constructor) fun hrc hra => ?_
 obtain ⟨hn, hA, har, hct, hsy, hfit⟩ := hI
 have hh := half_le hn
 have hll := laidZ_many ω.recs
 refine .sr (.oq (.alloc ze_25) ?_)
 rintro v L' ⟨be, rfl, rfl⟩
 refine .nil (.ptCast (b := be) (l' := [vint 0]) (by repeat' constructor) rfl (.then_n (.sm rfl (.defer (vs := [_, _]) rfl (.nt (.seq (.block (.sm rfl (.nf rfl fo_142_8 (.u (.ld rfl ag_4) (.an rfl (.condB rfl (fun h8 => ?_) (fun h8 => ?_)))))))))))))
 ·refine .sr (.st rfl rfl rfl sz_25 ?_)
  refine .nil (.ptCast (b := be) (l' := [vint 34]) (by repeat' constructor) rfl (.then_n (.ret (.blk_r (.then_r (.doneD Tryz.func96 rfl rfl (doubts_spec x d (.slice arr ω.recs.length crr) ω.synced (.slice abb (laidZ ω.recs).length cbb) ω.area ω.count ω.a ω.b ω.doubt be 34) (by repeat' constructor) ?_))))))
  rintro u L' ⟨rfl, rfl⟩
  have e : appendZ δ ω s = (δ, ω, 34) := by unfold appendZ; rw [if_pos h8]
  rw [e, if_neg (show ¬ (34 : Int) = 2 by decide)]
  refine .wlFold (x := x) (d := d) (ω := ω) (by repeat' constructor) rfl rfl rfl rfl rfl ?_
  exact .d1 rfl (.cell rfl ag_25 (by repeat' constructor) rfl) ⟨rfl, rfl⟩
 have hdb : ¬ ω.doubt = true := by rw [h8]; decide
 refine .sm rfl (.q (.strlen rfl Tryz.underlying9 rfl) rfl (.ui rfl rfl rfl (.an rfl (.condD rfl (fun h13 => ?_) (fun h13 => ?_)))))
 ·have hlong : s.length > 4000 := by omega
  refine .sr (.st rfl rfl rfl sz_25 ?_)
  refine .nil (.ptCast (b := be) (l' := [vint 33]) (by repeat' constructor) rfl (.then_n (.ret (.blk_r (.then_r (.doneD Tryz.func96 rfl rfl (doubts_spec x d (.slice arr ω.recs.length crr) ω.synced (.slice abb (laidZ ω.recs).length cbb) ω.area ω.count ω.a ω.b ω.doubt be 33) (by repeat' constructor) ?_))))))
  rintro u L' ⟨rfl, rfl⟩
  have e : appendZ δ ω s = (δ, ω, 33) := by unfold appendZ; rw [if_neg hdb, if_pos hlong]
  rw [e, if_neg (show ¬ (33 : Int) = 2 by decide)]
  refine .wlFold (x := x) (d := d) (ω := ω) (by repeat' constructor) rfl rfl rfl rfl rfl ?_
  exact .d1 rfl (.cell rfl ag_25 (by repeat' constructor) rfl) ⟨rfl, rfl⟩
 have hlong : ¬ s.length > 4000 := by omega
 refine .sm rfl (.m rfl (.nf rfl fo_142_3 (.u (.ld rfl ag_125) (.q (.slen rfl Tryz.underlying125 rfl) rfl (.m rfl (.q (.strlen rfl Tryz.underlying9 rfl) rfl (.q (.add rfl rfl (by omega)) rfl (.q (.add rfl rfl (by omega)) rfl (.cv Tryz.func97 [_, _] (fits_spec x d (.slice arr ω.recs.length crr) ω.synced (.slice abb (laidZ ω.recs).length cbb) ω.area ω.count ω.a ω.b ω.doubt δ ((laidZ ω.recs).length + s.length + 6) hn) ?_)))))))))
 refine .u (.not rfl) (.an rfl (.condN rfl (fun h17 => ?_) (fun h17 => ?_)))
 ·refine .sr (.st rfl rfl rfl sz_25 ?_)
  refine .nil (.ptCast (b := be) (l' := [vint 30]) (by repeat' constructor) rfl (.then_n (.ret (.blk_r (.then_r (.doneD Tryz.func96 rfl rfl (doubts_spec x d (.slice arr ω.recs.length crr) ω.synced (.slice abb (laidZ ω.recs).length cbb) ω.area ω.count ω.a ω.b ω.doubt be 30) (by repeat' constructor) ?_))))))
  rintro u L' ⟨rfl, rfl⟩
  have e : appendZ δ ω s = (δ, ω, 30) := by unfold appendZ; rw [if_neg hdb, if_neg hlong, if_pos h17]
  rw [e, if_neg (show ¬ (30 : Int) = 2 by decide)]
  refine .wlFold (x := x) (d := d) (ω := ω) (by repeat' constructor) rfl rfl rfl rfl rfl ?_
  exact .d1 rfl (.cell rfl ag_25 (by repeat' constructor) rfl) ⟨rfl, rfl⟩
 refine .skip (.blk_n (.then_n (.seq ?_)))
 have hrl := recZ_len s
 refine .region (.m rfl (.nf rfl fo_142_3 (.u (.ld rfl ag_125) (.oq (.c Tryz.func98 [_] (cloneB_spec (.slice abb (laidZ ω.recs).length cbb) (laidZ ω.recs).length (bysL (laidZ ω.recs)) (bytR (.slice abb (laidZ ω.recs).length cbb) (laidZ ω.recs)) (fun h hp => slR_rd hp) (bysL_cell _) (by omega))) ?_))))
 rintro v L' ⟨⟨ac, cc, rfl⟩, rfl⟩
 refine .m rfl (.oq (.c Tryz.func99 [_] (record_spec s (by omega))) ?_)
 rintro v L' ⟨⟨ar, cr, rfl⟩, rfl⟩
 refine .oq (.append (n := (laidZ ω.recs).length) (m := (recZ s).length) (ys := bysL (recZ s)) (p := bytR (.slice ar (recZ s).length cr) (recZ s)) rfl rfl rfl el_125 (.inl ⟨_, Tryz.underlying125⟩) ze_5 rfl rfl ?hc42 ?hr43 ?hb44 (by decide)) ?_
 case hc42 => exact bysL_cell _
 case hr43 => exact fun h hp => slR_rd hp
 case hb44 => omega
 rintro v L' ⟨⟨a8, c8, rfl⟩, rfl⟩; rw [show (laidZ ω.recs).length + (recZ s).length = (laidZ ω.recs ++ recZ s).length by rw [List.length_append], show bysL (laidZ ω.recs) ++ bysL (recZ s) = bysL (laidZ ω.recs ++ recZ s) from (bysL_append _ _).symm]
 refine .an rfl (.seq (.seq (.draw [11] [[0, 1, 2, 3, 4, 5, 6, 7, 8, 9, 10, 11], [12]] mixed (by kernel_rfl) (.g0 (.mv rfl rfl (.mv rfl rfl (.nf rfl rfl rfl fo_142_4 (.kv rfl (.ld rfl ag_3) (.mv rfl rfl (.mv rfl rfl (.nf rfl rfl rfl fo_142_3 (.kv rfl (.ld rfl ag_125) (.kv rfl (.slen rfl Tryz.underlying125 rfl) (.hh rfl (.c Tryz.func100 [_, _, _, _] (lay_spec4 x d (.slice arr ω.recs.length crr) ω.synced (.slice abb (laidZ ω.recs).length cbb) ω.area ω.count ω.a ω.b ω.doubt (.slice a8 (laidZ ω.recs ++ recZ s).length c8) δ ω.area (laidZ ω.recs ++ recZ s) (laidZ ω.recs).length (bytR (.slice a8 (laidZ ω.recs ++ recZ s).length c8) (laidZ ω.recs ++ recZ s)) hn har (by omega) (fun h hp => slR_rd hp) (by rw [List.length_append]; omega) (by rw [List.length_append]; omega))) ?_))))))))))))))
 rintro v L' ⟨rfl, rfl⟩
 refine D.ph (.g0 (.kv rfl (.assign rfl) (.pf (.sm rfl (.ui rfl rfl rfl (.nt (.condN rfl (fun h51 => ?_) (fun h51 => ?_))))))))
 ·refine .sm rfl (.st rfl rfl rfl sz_25 ?_)
  refine .nil (.ptCast (b := be) (l' := [vint (layZ δ ω.area (laidZ ω.recs ++ recZ s) (laidZ ω.recs).length).2]) (by repeat' constructor) rfl (.then_n (.rt (.doneD Tryz.func96 rfl rfl (doubts_spec x d (.slice arr ω.recs.length crr) ω.synced (.slice abb (laidZ ω.recs).length cbb) ω.area ω.count ω.a ω.b ω.doubt be (layZ δ ω.area (laidZ ω.recs ++ recZ s) (laidZ ω.recs).length).2) (by repeat' constructor) ?_))))
  rintro u L' ⟨rfl, rfl⟩
  have h2 : (layZ δ ω.area (laidZ ω.recs ++ recZ s) (laidZ ω.recs).length).2 = 2 := by rcases layZ_err δ ω.area (laidZ ω.recs ++ recZ s) (laidZ ω.recs).length with h | h; exact absurd h (by simpa using h51); exact h
  have e : appendZ δ ω s = ((layZ δ ω.area (laidZ ω.recs ++ recZ s) (laidZ ω.recs).length).1, { ω with doubt := true }, 2) := by unfold appendZ; rw [if_neg hdb, if_neg hlong, if_neg (fun h => h h17), if_pos (by simpa using h51), h2]; rfl
  rw [e, h2, if_pos rfl]
  refine .wlFold (x := x) (d := d) (ω := { ω with doubt := true }) (by repeat' constructor) rfl rfl rfl rfl rfl ?_
  exact .d1 rfl (.cell rfl ag_25 (by repeat' constructor) rfl) ⟨rfl, rfl⟩
 refine .sk (.sm rfl (.m rfl (.m rfl (.nf rfl fo_142_1 (.u (.ld rfl ag_46) (.m rfl (.oq (.buildSlice1 (vs := [_]) el_46 ze_9 rfl rfl rfl rfl rfl (by decide)) ?_)))))))
 rintro v L' ⟨b12_7, rfl, rfl⟩
 refine .oq (.append1 rfl rfl rfl el_46 ze_9 rfl rfl ?c72 ?c73 (Nat.le_refl _) ?c74 (by decide)) ?_
 case c72 => (first | (simp [isCell]; done) | (simp [isCell, setAll, Value.cells]; done))
 case c73 => rfl
 case c74 => omega
 rintro v L' ⟨⟨a12_8, c12_8, rfl⟩, rfl⟩
 refine .m rfl (.nf rfl fo_142_1 (.st rfl rfl rfl sz_46 ?_))
 refine .nf rfl fo_142_3 (.st rfl rfl rfl sz_125 ?_)
 refine .nt (.sr (.st rfl rfl rfl sz_25 ?_))
 refine .nil (.ptCast (b := be) (l' := [vint 0]) (by repeat' constructor) rfl (.then_n (.ret (.doneD Tryz.func96 rfl rfl (doubts_spec x d _ _ _ _ _ _ _ _ be 0) (by repeat' constructor) ?_))))
 rintro u L' ⟨rfl, rfl⟩
 have e : appendZ δ ω s = ((layZ δ ω.area (laidZ ω.recs ++ recZ s) (laidZ ω.recs).length).1, { ω with recs := ω.recs ++ [s] }, 0) := by unfold appendZ; rw [if_neg hdb, if_neg hlong, if_neg (fun h => h h17), if_neg (by simpa using h51)]
 rw [e, if_neg (show ¬ (0 : Int) = 2 by decide)]
 refine .wlFold (x := x) (d := d) (ω := { ω with recs := ω.recs ++ [s] }) (by repeat' constructor) rfl (by simp) (by simp [strs]) (by rw [laidZ_append]; simp [laidZ]) (by rw [laidZ_append]; simp [laidZ]) ?_
 exact .d1 rfl (.cell rfl ag_25 (by repeat' constructor) rfl) ⟨rfl, rfl⟩
/- not in this seat -/
/- not in this seat -/
theorem wmarks_spec (x d : Nat) (ω : Wl) : Fn Tryz.prog 55 #[vptr x] [wlR x d ω] fun v L => v = .tuple #[vint ω.a, vint ω.b] ∧ L = [wlR x d ω] := by
 refine Fn.intro Tryz.func55 rfl rfl fun F W => ?_
 refine .wlOpen (ω := ω) (by repeat' constructor) fun vr vb => (.slAny (v := vr) (by repeat' constructor) fun arr crr e _ => ?_)
 subst e
 refine .slAny (v := vb) (by repeat' constructor) fun abb cbb e _ => ?_
 subst e
 refine .sr (.a rfl (.an rfl (.seq (.draw [] [[0, 1, 2, 3, 4, 5, 6, 7, 8, 9]] mixed (by kernel_rfl) (.g0 (.mv rfl rfl (.nf rfl rfl rfl fo_142_6 (.kv rfl (.ld rfl ag_3) (.mv rfl rfl (.nf rfl rfl rfl fo_142_7 (.kv rfl (.ld rfl ag_3) (.kv rfl (.assign rfl) (.kv rfl (.assign rfl) (.pf (.ret (.wlFold (x := x) (d := d) (ω := ω) (by repeat' constructor) rfl rfl rfl rfl rfl ?_))))))))))))))))
 exact .vv
def roomZ (δ : Dk) (ω : Wl) : Int := max (-1) (min 4000 (64 * halfZ δ - (laidZ ω.recs).length - 6))
theorem wroom_spec (x d : Nat) (ω : Wl) (δ : Dk) (hn : 2 ≤ δ.now.length ∧ δ.now.length ≤ 32768) (hfit : (laidZ ω.recs).length ≤ 4000000) : Fn Tryz.prog 49 #[vptr x] [wlR x d ω, dkR d δ] fun v L => v = vint (roomZ δ ω) ∧ L = [wlR x d ω, dkR d δ] := by
 refine Fn.intro Tryz.func49 rfl rfl fun F W => ?_
 refine .wlOpen (ω := ω) (by repeat' constructor) fun vr vb => (.slAny (v := vr) (by repeat' constructor) fun arr crr e _ => ?_)
 subst e
 refine .slAny (v := vb) (by repeat' constructor) fun abb cbb e _ => ?_
 subst e
 have hh := half_le hn
 refine .sr (.an rfl (.seq (.draw [] [[0, 1, 2, 3, 4, 5, 6, 7, 8, 9, 10, 11, 12, 13, 14, 15]] mixed (by kernel_rfl) (.go [ptc x _ _, dkR d δ] (by repeat' constructor) (.mv rfl rfl (.nf rfl rfl rfl fo_142_0 (.kv rfl (.ld rfl ag_24) (.m rfl (by kernel_rfl) (.c Tryz.func109 [_] (half_spec d δ hn)) (by repeat' constructor) ?_))))))))
 refine D.kv rfl (.mul rfl rfl (by omega)) (.mv rfl rfl (.nf rfl rfl rfl fo_142_3 (.kv rfl (.ld rfl ag_125) (.kv rfl (.slen rfl Tryz.underlying125 rfl) (.kv rfl (.sub rfl rfl (by omega)) (.kv rfl (.sub rfl rfl (by omega)) (.kv rfl (.min2 rfl rfl) (.kv rfl (.max2 rfl rfl) (.kv rfl (.assign rfl) (.pf (.ret (.wlFold (x := x) (d := d) (ω := ω) (by repeat' constructor) rfl rfl rfl rfl rfl ?_))))))))))))
 exact .vv
theorem wrecords_spec (x d : Nat) (ω : Wl) (hl : ω.recs.length ≤ 4294967296) : Fn Tryz.prog 56 #[vptr x] [wlR x d ω] fun v L => (ω.doubt = true ∧ v = .tuple #[.slice none 0 0, vint 34] ∧ L = [wlR x d ω]) ∨ (ω.doubt = false ∧ ∃ a c, v = .tuple #[.slice a ω.recs.length c, vint 0] ∧ L = [wlR x d ω, strR (.slice a ω.recs.length c) ω.recs]) := by
 refine Fn.intro Tryz.func56 rfl rfl fun F W => ?_
 refine .wlOpen (ω := ω) (by repeat' constructor) fun vr vb => (.slAny (v := vr) (by repeat' constructor) fun arr crr e _ => ?_)
 subst e
 refine .slAny (v := vb) (by repeat' constructor) fun abb cbb e _ => ?_
 subst e
 refine .sr (.a rfl (.an rfl (.seq (.sm rfl (.nf rfl fo_142_8 (.u (.ld rfl ag_4) (.nt (.condB rfl (fun h7 => ?_) (fun h7 => ?_)))))))))
 ·refine .sr (.a rfl (.an rfl (.rt (.wlFold (x := x) (d := d) (ω := ω) (vr := (.slice arr ω.recs.length crr)) (by repeat' constructor) rfl rfl rfl rfl rfl ?_))))
  exact .dn rfl rfl (.inl ⟨h7, rfl, rfl⟩)
 refine .sk (.sm rfl (.nf rfl fo_142_1 (.u (.ld rfl ag_46) (.oq (.c Tryz.func116 [_] (cloneT_spec (.slice arr ω.recs.length crr) ω.recs.length (strs ω.recs) (strR (.slice arr ω.recs.length crr) ω.recs) (fun h hp => slR_rd hp) (strs_cell _) hl)) ?_))))
 rintro v L' ⟨⟨ac, cc, rfl⟩, rfl⟩
 refine .oq (.c Tryz.func115 [_] (clipT_spec _ _ _)) ?_
 rintro v L' ⟨⟨ad, cd, rfl⟩, rfl⟩
 refine .a rfl (.an rfl (.ret (.wlFold (x := x) (d := d) (ω := ω) (vr := (.slice arr ω.recs.length crr)) (by repeat' constructor) rfl rfl rfl rfl rfl ?_)))
 exact .dn rfl rfl (.inr ⟨by simpa using h7, _, _, rfl, rfl⟩)
end Go.Proofs.YtidjhgbdokcphaaGreat
