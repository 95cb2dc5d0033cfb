/- Own work, by program: package tree: what creates and erases: walked. -/
import Derived.Test.YtnnbelmpbmfdnaaDoorTrR
import Derived.Test.YtnnbelmpbmfdnaaDoorPaths2
import Derived.Test.YtnnbelmpbmfdnaaDoorLayS
import Derived.Test.YtnnbelmpbmfdnaaDoorSlBits
import Derived.Test.YtnnbelmpbmfdnaaDoorSlCalls
namespace Go.Proofs.YtnnbelmpbmfdnaaDoor
open Go
theorem acC_cells (l : List Ac) : ∀ y ∈ l.flatMap acC, isCell y = true := by
  intro y hy
  obtain ⟨a, -, h⟩ := List.mem_flatMap.1 hy
  simp only [acC, List.mem_cons, List.not_mem_nil, or_false] at h
  rcases h with rfl | rfl <;> rfl
theorem fill_node (d : Bs) (ad : Option Addr) (n c : Nat) (s0 s1 s2 s3 s4 s5 s6 s7 s8 : Value) : Instr.fill (fun i => [(0, 1), (1, 1), (2, 9)].toArray[i]?) ([.string (bs []), .slice none 0 0, .int .i64 0, .int .i64 0, .int .i64 0, .int .i64 0, .int .i64 0, .int .i64 0, .int .i64 0, .int .i64 0, .int .i64 0] : List Value).toArray [(0, vstr d), (1, .slice ad n c), (2, .agg ([s0, s1, s2, s3, s4, s5, s6, s7, s8] : List Value).toArray)] = some (([vstr d, .slice ad n c] ++ [s0, s1, s2, s3, s4, s5, s6, s7, s8] : List Value).toArray) := by kernel_rfl
structure PtA (p : HP) (x : Pt) : Prop where
  acl : ∀ h : Hp, p h → rdS 2 h x.aclV x.acl.length (x.acl.flatMap acC)
  few : x.acl.length ≤ 1048576
  plen : x.path.length ≤ 1048576
  subs : isCell x.subsV = true
  cell : isCell x.aclV = true
theorem PtA.all {p : HP} {x : Pt} (h : PtA p x) : ∀ v ∈ ptC x, isCell v = true := by
  intro v hv
  simp only [ptC, List.mem_cons, List.not_mem_nil, or_false] at hv
  rcases hv with rfl | rfl | rfl | rfl | rfl | rfl | rfl | rfl
  · rfl
  · rfl
  · rfl
  · exact h.cell
  · rfl
  · rfl
  · rfl
  · exact h.subs
structure TxA (p : HP) (x : Pt) (subs : List Pt) : Prop where
  own : PtA p x
  rd : ∀ h : Hp, p h → rdS 8 h x.subsV subs.length (subs.flatMap ptC)
  few : subs.length ≤ 1048576
  each : ∀ y ∈ subs, PtA p y
theorem evC_cells (l : List Ev) : ∀ y ∈ l.flatMap evC, isCell y = true := by
  intro y hy
  obtain ⟨a, -, h⟩ := List.mem_flatMap.1 hy
  simp only [evC, List.mem_cons, List.not_mem_nil, or_false] at h
  rcases h with rfl | rfl | rfl <;> rfl
set_option maxRecDepth 100000 in
theorem aclone_spec (v : Value) (xs : List Ac) (p : HP) (hp : ∀ h : Hp, p h → rdS 2 h v xs.length (xs.flatMap acC)) (hn : xs.length ≤ 1048576) : Fn Tryd.prog 41 #[v] [p] fun u L => (∃ a c, u = .slice a xs.length c) ∧ L = [p, slR 84 2 u xs.length (xs.flatMap acC)] := by
  refine Fn.intro (vs := [v]) Tryd.func41 rfl rfl ?_
  intro F W
  refine G.rdAny (p := p) hp (by (repeat (first | exact Pick.here | apply Pick.there))) fun a c e0 hl => ?_
  subst e0
  refine G.seq ?_
  refine G.region ?_
  refine G.q (Quiet.assign rfl) rfl ?_
  refine G.nil ?_
  refine G.then_n ?_
  refine G.seq ?_
  refine G.seq ?_
  refine G.region ?_
  refine G.q (Quiet.move rfl) rfl ?_
  refine G.q (Quiet.sleq rfl rfl Tryd.underlying47) rfl ?_
  refine G.nil ?_
  refine G.then_n ?_
  refine G.condB rfl (fun h4 => ?_) (fun h4 => ?_)
  · have ha : a = none := by simpa using h4
    subst ha
    refine G.rdNil (p := p) hp (by (repeat (first | exact Pick.here | apply Pick.there))) fun hx0 => ?_
    have hxs : xs = [] := List.eq_nil_of_length_eq_zero hx0
    subst hxs
    refine G.add (slR_nil 84 2) ?_
    refine G.seq ?_
    refine G.region ?_
    refine G.q (Quiet.assign rfl) rfl ?_
    refine G.nil ?_
    refine G.then_n ?_
    refine G.ret ?_
    refine G.then_r ?_
    exact G.done (l := [.tmp 2]) rfl rfl ⟨⟨_, _, rfl⟩, rfl⟩ (by (repeat (first | exact Picks.nil | (apply Picks.cons; (repeat (first | exact Pick.here | apply Pick.there)))))) (by (repeat (first | exact Suff.here | apply Suff.there)))
  · refine G.skip ?_
    refine G.then_n ?_
    refine G.seq ?_
    refine G.region ?_
    refine G.op (OpSpec.buildSlice (vs := []) el_47 ze_84 rfl rfl rfl rfl (by first | (simp [Value.cells]; done) | (intro v hv; simp only [List.mem_cons, List.not_mem_nil, or_false] at hv; (repeat (first | (subst hv; rfl) | (rcases hv with hv | hv; (subst hv; rfl)))))) (by decide)) (by (repeat (first | exact Picks.nil | (apply Picks.cons; (repeat (first | exact Pick.here | apply Pick.there)))))) rfl ?nx5
    rintro v L' ⟨b0, rfl, rfl⟩
    refine G.q (Quiet.move rfl) rfl ?_
    refine G.slMakeN 2 0 (b := b0) (xs := ([] : List Ac).flatMap acC) (by (repeat (first | exact Pick.here | apply Pick.there))) rfl rfl ?_
    refine G.op (OpSpec.append (n := 0) (m := xs.length) (ys := xs.flatMap acC) (p := p) rfl rfl rfl el_47 (.inl ⟨_, Tryd.underlying47⟩) ze_84 rfl rfl ?hc8 hp ?hb9 (by decide)) (by (repeat (first | exact Picks.nil | (apply Picks.cons; (repeat (first | exact Pick.here | apply Pick.there)))))) rfl ?nx10
    case hc8 => exact acC_cells _
    case hb9 => omega
    rintro v L' ⟨⟨a3, c3, rfl⟩, rfl⟩; rw [Nat.zero_add, show ([] : List Ac).flatMap acC ++ xs.flatMap acC = xs.flatMap acC from rfl]
    refine G.q (Quiet.assign rfl) rfl ?_
    refine G.nil ?_
    refine G.then_n ?_
    refine G.ret ?_
    exact G.done (l := [.tmp 2]) rfl rfl ⟨⟨_, _, rfl⟩, rfl⟩ (by (repeat (first | exact Picks.nil | (apply Picks.cons; (repeat (first | exact Pick.here | apply Pick.there)))))) (by (repeat (first | exact Suff.here | apply Suff.there)))

set_option maxRecDepth 100000 in
theorem able_spec (p : Bs) (hs : p.length ≤ 1048576) : Fn Tryd.prog 58 #[vstr p] [] fun v L => v = .bool (decide (ableZ p)) ∧ L = [] := by
  refine Fn.intro (vs := [vstr p]) Tryd.func58 rfl rfl ?_
  intro F W
  refine G.seq ?_
  refine G.region ?_
  refine G.q (Quiet.assign rfl) rfl ?_
  refine G.nil ?_
  refine G.then_n ?_
  refine G.seq ?_
  refine G.region ?_
  refine G.q (Quiet.move rfl) rfl ?_
  refine G.q (Quiet.strne rfl rfl) rfl ?_
  refine G.q (Quiet.move rfl) rfl ?_
  refine G.ndec (t := 5) rfl (fun h1_5 => ?_) (fun h1_5 => ?_)
  · refine G.kNT (t := 4) rfl h1_5 ?_
    refine G.grun (t := 5) rfl rfl rfl ?_
    refine G.q (Quiet.move rfl) rfl ?_
    refine G.grun (t := 5) rfl rfl rfl ?_
    refine G.op (OpSpec.call Tryd.func35 rfl rfl (vs := [_]) rfl (check_spec p hs)) (by (repeat (first | exact Picks.nil | (apply Picks.cons; (repeat (first | exact Pick.here | apply Pick.there)))))) rfl ?nx5
    rintro v L' ⟨rfl, rfl⟩
    refine G.grun (t := 5) rfl rfl rfl ?_
    refine G.q (Quiet.int rfl rfl rfl) rfl ?_
    refine G.q (Quiet.pickT rfl rfl) rfl ?_
    refine G.q (Quiet.assign rfl) rfl ?_
    refine G.nil ?_
    refine G.then_n ?_
    refine G.ret ?_
    exact G.done (l := [.tmp 2]) rfl rfl ⟨congrArg Value.bool (decide_eq_decide.2 ⟨fun e => ⟨h1_5, e⟩, fun e => e.2⟩), rfl⟩ (by (repeat (first | exact Picks.nil | (apply Picks.cons; (repeat (first | exact Pick.here | apply Pick.there)))))) (by (repeat (first | exact Suff.here | apply Suff.there)))
  · refine G.kNF (t := 4) rfl h1_5 ?_
    refine G.gskip (t := 5) rfl rfl rfl rfl ?_
    refine G.gskip (t := 5) rfl rfl rfl rfl ?_
    refine G.gskip (t := 5) rfl rfl rfl rfl ?_
    refine G.q (Quiet.pickF rfl rfl) rfl ?_
    refine G.q (Quiet.assign rfl) rfl ?_
    refine G.nil ?_
    refine G.then_n ?_
    refine G.ret ?_
    exact G.done (l := [.tmp 2]) rfl rfl ⟨by rw [decide_eq_false (fun e => e.1 h1_5)], rfl⟩ (by (repeat (first | exact Picks.nil | (apply Picks.cons; (repeat (first | exact Pick.here | apply Pick.there)))))) (by (repeat (first | exact Suff.here | apply Suff.there)))

set_option maxRecDepth 100000 in
theorem trnew_spec : Fn Tryd.prog 16 #[] [] fun v L => ∃ t, v = vptr t ∧ L = [treeR t newT] := by
  refine Fn.intro (vs := []) Tryd.func16 rfl rfl ?_
  intro F W
  refine G.seq ?_
  refine G.region ?_
  refine G.q (Quiet.assign rfl) rfl ?_
  refine G.nil ?_
  refine G.then_n ?_
  refine G.seq ?_
  refine G.region ?_
  refine G.op (OpSpec.makeMap Tryd.underlying87) (by (repeat (first | exact Picks.nil | (apply Picks.cons; (repeat (first | exact Pick.here | apply Pick.there)))))) rfl ?nx2
  rintro v L' ⟨rn, rfl, rfl⟩
  refine G.q (Quiet.build (us := [(0, _), (1, _)]) fl_84 ze_84 rfl rfl (by simp [isCell])) rfl ?_
  refine G.op (OpSpec.buildSlice (vs := [_]) el_47 ze_84 rfl rfl rfl rfl (by first | (simp [Value.cells]; done) | (intro v hv; simp only [List.mem_cons, List.not_mem_nil, or_false] at hv; (repeat (first | (subst hv; rfl) | (rcases hv with hv | hv; (subst hv; rfl)))))) (by decide)) (by (repeat (first | exact Picks.nil | (apply Picks.cons; (repeat (first | exact Pick.here | apply Pick.there)))))) rfl ?nx5
  rintro v L' ⟨ba, rfl, rfl⟩
  refine G.q (Quiet.buildN (pl := [(0, 1), (1, 1), (2, 9)]) (us := [(1, .slice (some ⟨ba, 0, none⟩) 1 1)]) (cells := ndC (.slice (some ⟨ba, 0, none⟩) 1 1) ⟨[], [(31, [119, 111, 114, 108, 100])], st0⟩) Tryd.underlying86 (by kernel_rfl) ze_86 rfl rfl) rfl ?_
  refine G.op (OpSpec.box rfl) (by (repeat (first | exact Picks.nil | (apply Picks.cons; (repeat (first | exact Pick.here | apply Pick.there)))))) rfl ?nx8
  rintro v L' ⟨tn, rfl, rfl⟩
  refine G.fold (p := mapR rn []) (.cons (p := pt rn (.map #[] 0)) (by (repeat (first | exact Pick.here | apply Pick.there))) .nil) (fun h hp => mapR_new (sep_pt hp)) ?_
  refine G.op (OpSpec.mapInsert (m := ([] : NmM)) (enc := ndV) (v := (tn, (.slice (some ⟨ba, 0, none⟩) 1 1, ⟨[], [(31, [119, 111, 114, 108, 100])], st0⟩))) (k := [47]) (KeyLaw.str Tryd.underlying9) rfl rfl rfl Tryd.underlying87 ?he10) (by (repeat (first | exact Picks.nil | (apply Picks.cons; (repeat (first | exact Pick.here | apply Pick.there)))))) rfl ?nx11
  case he10 => rfl
  rintro v L' rfl
  refine G.q (Quiet.move rfl) rfl ?_
  refine G.op (OpSpec.makeMap Tryd.underlying88) (by (repeat (first | exact Picks.nil | (apply Picks.cons; (repeat (first | exact Pick.here | apply Pick.there)))))) rfl ?nx12
  rintro v L' ⟨rs, rfl, rfl⟩
  refine G.q (Quiet.build (us := [(0, _), (1, _)]) fl_90 ze_90 rfl rfl (by simp [isCell])) rfl ?_
  refine G.op (OpSpec.box rfl) (by (repeat (first | exact Picks.nil | (apply Picks.cons; (repeat (first | exact Pick.here | apply Pick.there)))))) rfl ?nx15
  rintro v L' ⟨t, rfl, rfl⟩
  refine G.q (Quiet.assign rfl) rfl ?_
  refine G.nil ?_
  refine G.then_n ?_
  refine G.ret ?_
  refine G.fold (p := mapR rs []) (.cons (p := pt rs (.map #[] 0)) (by (repeat (first | exact Pick.here | apply Pick.there))) .nil) (fun h hp => mapR_new (sep_pt hp)) ?_
  refine G.slMakeN 2 1 (b := ba) (xs := ([(31, [119, 111, 114, 108, 100])] : List Ac).flatMap acC) (by (repeat (first | exact Pick.here | apply Pick.there))) rfl rfl ?_
  refine G.toRd (m := 1) (by (repeat (first | exact Pick.here | apply Pick.there))) ?_
  refine G.ndFold (x := (([47] : Bs), ((tn, (.slice (some ⟨ba, 0, none⟩) 1 1, ⟨[], [(31, [119, 111, 114, 108, 100])], st0⟩)) : Nm))) (by (repeat (first | exact Picks.nil | (apply Picks.cons; (repeat (first | exact Pick.here | apply Pick.there)))))) rfl rfl rfl rfl ?_
  refine G.fold (p := bigR inN [(([47] : Bs), ((tn, (.slice (some ⟨ba, 0, none⟩) 1 1, ⟨[], [(31, [119, 111, 114, 108, 100])], st0⟩)) : Nm))]) (.cons (p := inN (([47] : Bs), ((tn, (.slice (some ⟨ba, 0, none⟩) 1 1, ⟨[], [(31, [119, 111, 114, 108, 100])], st0⟩)) : Nm))) (by (repeat (first | exact Pick.here | apply Pick.there))) .nil) (fun h hp => hp) ?_
  have hI : TrI newT [(([47] : Bs), ((tn, (.slice (some ⟨ba, 0, none⟩) 1 1, ⟨[], [(31, [119, 111, 114, 108, 100])], st0⟩)) : Nm))] [] := ⟨by simp, fun q => (by unfold newT; simp only [alook]; split <;> rfl), by simp, fun i => rfl⟩
  refine G.trFold (τ := newT) hI (by (repeat (first | exact Picks.nil | (apply Picks.cons; (repeat (first | exact Pick.here | apply Pick.there)))))) rfl rfl rfl ?_
  exact G.done (l := [.tmp 0]) rfl rfl ⟨_, rfl, rfl⟩ (by (repeat (first | exact Picks.nil | (apply Picks.cons; (repeat (first | exact Pick.here | apply Pick.there)))))) (by (repeat (first | exact Suff.here | apply Suff.there)))

set_option maxRecDepth 100000 in
theorem trkid_spec (t : Nat) (τ : Tr) (p : Bs) (num zx : Int) : Fn Tryd.prog 59 #[vptr t, vstr p, vint num, vint zx] [treeR t τ] fun v L => v = .tuple #[] ∧ L = [treeR t (kidT τ p num zx)] := by
  refine Fn.intro (vs := [vptr t, vstr p, vint num, vint zx]) Tryd.func59 rfl rfl ?_
  intro F W
  refine G.trOpen (τ := τ) (by (repeat (first | exact Pick.here | apply Pick.there))) fun rn rs m s hI => ?_
  refine G.seq ?_
  refine G.region ?_
  rcases hal : alook m p with _ | x
  · refine G.q (Quiet.move rfl) rfl ?_
    refine G.q (Quiet.nilp rfl) rfl ?_
    refine G.q (Quiet.fieldAddr rfl fo_90_0) rfl ?_
    refine G.q (Quiet.load rfl ag_87 (by (repeat (first | exact Pick.here | apply Pick.there))) (rfl)) rfl ?_
    refine G.q (Quiet.move rfl) rfl ?_
    refine G.q (Quiet.lookupN (m := m) (enc := ndV) (KeyLaw.str Tryd.underlying9) (hal) rfl rfl Tryd.underlying87 ze_82 (by (repeat (first | exact Pick.here | apply Pick.there))) rfl) rfl ?_
    refine G.q (Quiet.assign rfl) rfl ?_
    refine G.nil ?_
    refine G.then_n ?_
    refine G.seq ?_
    refine G.region ?_
    refine G.q (Quiet.move rfl) rfl ?_
    refine G.q (Quiet.as (v' := .bool false) (by rfl) (Quiet.ptrne rfl rfl Tryd.underlying82)) rfl ?_
    refine G.nil ?_
    refine G.then_n ?_
    refine G.condF rfl ?_
    refine G.skip ?_
    refine G.done_n ?_
    refine G.trFold (τ := τ) hI (by (repeat (first | exact Picks.nil | (apply Picks.cons; (repeat (first | exact Pick.here | apply Pick.there)))))) rfl rfl rfl ?_
    refine G.trCast (τ' := kidT τ p num zx) (by (repeat (first | exact Pick.here | apply Pick.there))) (hI.kidN hal _) ?_
    exact G.done (l := []) rfl rfl ⟨rfl, rfl⟩ (by (repeat (first | exact Picks.nil | (apply Picks.cons; (repeat (first | exact Pick.here | apply Pick.there)))))) (by (repeat (first | exact Suff.here | apply Suff.there)))
  · refine G.q (Quiet.move rfl) rfl ?_
    refine G.q (Quiet.nilp rfl) rfl ?_
    refine G.q (Quiet.fieldAddr rfl fo_90_0) rfl ?_
    refine G.q (Quiet.load rfl ag_87 (by (repeat (first | exact Pick.here | apply Pick.there))) (rfl)) rfl ?_
    refine G.q (Quiet.move rfl) rfl ?_
    refine G.q (Quiet.lookupY (m := m) (enc := ndV) (KeyLaw.str Tryd.underlying9) (hal) rfl rfl Tryd.underlying87 ze_82 (by (repeat (first | exact Pick.here | apply Pick.there))) rfl) rfl ?_
    refine G.q (Quiet.assign rfl) rfl ?_
    refine G.nil ?_
    refine G.then_n ?_
    refine G.seq ?_
    refine G.region ?_
    refine G.q (Quiet.move rfl) rfl ?_
    refine G.q (Quiet.as (v' := .bool true) (by rfl) (Quiet.ptrne rfl rfl Tryd.underlying82)) rfl ?_
    refine G.nil ?_
    refine G.then_n ?_
    refine G.condT rfl ?_
    refine G.bigTake hal (by (repeat (first | exact Pick.here | apply Pick.there))) ?_
    refine G.ndOpen (x := (p, x)) (by (repeat (first | exact Pick.here | apply Pick.there))) ?_
    refine G.region ?_
    refine G.q (Quiet.move rfl) rfl ?_
    refine G.q (Quiet.move rfl) rfl ?_
    refine G.q (Quiet.move rfl) rfl ?_
    refine G.q (Quiet.move rfl) rfl ?_
    refine G.q (Quiet.nilp rfl) rfl ?_
    refine G.q (Quiet.fieldAddr rfl fo_86_2) rfl ?_
    refine G.q (Quiet.fieldAddr rfl fo_71_4) rfl ?_
    refine G.op (OpSpec.store rfl rfl rfl sz_3 ?c20 ?c21) (by (repeat (first | exact Picks.nil | (apply Picks.cons; (repeat (first | exact Pick.here | apply Pick.there)))))) rfl ?nx22
    case c20 => simp [ndC]
    case c21 => exact nfz0 _ _
    rintro v L' rfl
    refine G.q (Quiet.nilp rfl) rfl ?_
    refine G.q (Quiet.fieldAddr rfl fo_86_2) rfl ?_
    refine G.q (Quiet.fieldAddr rfl fo_71_2) rfl ?_
    refine G.op (OpSpec.store rfl rfl rfl sz_3 ?c26 ?c27) (by (repeat (first | exact Picks.nil | (apply Picks.cons; (repeat (first | exact Pick.here | apply Pick.there)))))) rfl ?nx28
    case c26 => simp [ndC]
    case c27 => exact nfz0 _ _
    rintro v L' rfl
    refine G.nil ?_
    refine G.done_n ?_
    refine G.ndFold (x := (p, (x.1, (x.2.1, kidN num zx x.2.2)))) (by (repeat (first | exact Picks.nil | (apply Picks.cons; (repeat (first | exact Pick.here | apply Pick.there)))))) rfl rfl rfl rfl ?_
    refine G.bigPut (f := inN) (m := m) p (x.1, (x.2.1, kidN num zx x.2.2)) rfl (by (repeat (first | exact Picks.nil | (apply Picks.cons; (repeat (first | exact Pick.here | apply Pick.there)))))) ?_
    refine G.trFold (τ := (kidT τ p num zx)) (hI.mod hal (kidN num zx) (y := (x.1, (x.2.1, kidN num zx x.2.2))) rfl) (by (repeat (first | exact Picks.nil | (apply Picks.cons; (repeat (first | exact Pick.here | apply Pick.there)))))) rfl (ndE_set (y := (x.1, (x.2.1, kidN num zx x.2.2))) hal rfl).symm rfl ?_
    exact G.done (l := []) rfl rfl ⟨rfl, rfl⟩ (by (repeat (first | exact Picks.nil | (apply Picks.cons; (repeat (first | exact Pick.here | apply Pick.there)))))) (by (repeat (first | exact Suff.here | apply Suff.there)))

set_option maxRecDepth 100000 in
theorem trcreate_spec (t : Nat) (τ : Tr) (x : Pt) (zx : Int) (p : HP) (hx : PtA p x) : Fn Tryd.prog 39 #[vptr t, .agg (ptC x).toArray, vint zx] [treeR t τ, p] fun v L => ∃ a c, v = .slice a (createZ τ x zx).2.length c ∧ L = [treeR t (createZ τ x zx).1, p, slR 35 3 v (createZ τ x zx).2.length ((createZ τ x zx).2.flatMap evC)] := by
  refine Fn.intro (vs := [vptr t, .agg (ptC x).toArray, vint zx]) Tryd.func39 rfl rfl ?_
  intro F W
  have hfew := hx.few
  have hpl := hx.plen
  have hpar := parent_len x.path
  refine G.seq ?_
  refine G.region ?_
  refine G.op (OpSpec.box rfl) (by (repeat (first | exact Picks.nil | (apply Picks.cons; (repeat (first | exact Pick.here | apply Pick.there)))))) rfl ?nx1
  rintro v L' ⟨bx, rfl, rfl⟩
  refine G.q (Quiet.assign rfl) rfl ?_
  refine G.nil ?_
  refine G.ptCast (b := bx) (l' := ptC x) (by (repeat (first | exact Pick.here | apply Pick.there))) rfl ?_
  refine G.then_n ?_
  refine G.seq ?_
  refine G.region ?_
  refine G.q (Quiet.fieldAddr rfl fo_50_1) rfl ?_
  refine G.q (Quiet.load rfl ag_9 (by (repeat (first | exact Pick.here | apply Pick.there))) (rfl)) rfl ?_
  refine G.op (OpSpec.call Tryd.func55 rfl rfl (vs := [_]) rfl (parent_spec x.path (by omega))) (by (repeat (first | exact Picks.nil | (apply Picks.cons; (repeat (first | exact Pick.here | apply Pick.there)))))) rfl ?nx6
  rintro v L' ⟨rfl, rfl⟩
  refine G.q (Quiet.assign rfl) rfl ?_
  refine G.nil ?_
  refine G.then_n ?_
  refine G.seq ?_
  refine G.seq ?_
  refine G.region ?_
  refine G.q (Quiet.fieldAddr rfl fo_50_1) rfl ?_
  refine G.q (Quiet.load rfl ag_9 (by (repeat (first | exact Pick.here | apply Pick.there))) (rfl)) rfl ?_
  refine G.op (OpSpec.call Tryd.func58 rfl rfl (vs := [_]) rfl (able_spec x.path hpl)) (by (repeat (first | exact Picks.nil | (apply Picks.cons; (repeat (first | exact Pick.here | apply Pick.there)))))) rfl ?nx10
  rintro v L' ⟨rfl, rfl⟩
  refine G.q (Quiet.not rfl) rfl ?_
  refine G.q (Quiet.move rfl) rfl ?_
  refine G.ndec (t := 16) rfl (fun h2_16 => ?_) (fun h2_16 => ?_)
  · refine G.kNT (t := 15) rfl h2_16 ?_
    refine G.gskip (t := 16) rfl rfl rfl rfl ?_
    refine G.gskip (t := 16) rfl rfl rfl rfl ?_
    refine G.gskip (t := 16) rfl rfl rfl rfl ?_
    refine G.gskip (t := 16) rfl rfl rfl rfl ?_
    refine G.gskip (t := 16) rfl rfl rfl rfl ?_
    refine G.gskip (t := 16) rfl rfl rfl rfl ?_
    refine G.gskip (t := 16) rfl rfl rfl rfl ?_
    refine G.q (Quiet.pickT rfl rfl) rfl ?_
    refine G.nil ?_
    refine G.then_n ?_
    refine G.condT rfl ?_
    refine G.seq ?_
    refine G.region ?_
    refine G.q (Quiet.assign rfl) rfl ?_
    refine G.nil ?_
    refine G.then_n ?_
    refine G.ret ?_
    refine G.then_r ?_
    refine G.add (slR_nil 35 3) ?_
    have hc : createZ τ x zx = (τ, []) := by unfold createZ; rw [if_neg (fun g => h2_16 g.1)]
    refine G.trCast (τ' := (createZ τ x zx).1) (by (repeat (first | exact Pick.here | apply Pick.there))) (by rw [hc]) ?_
    refine G.slCast (T := 35) (sz := 3) (m' := (createZ τ x zx).2.length) (xs' := (createZ τ x zx).2.flatMap evC) (by (repeat (first | exact Pick.here | apply Pick.there))) (by rw [hc]; rfl) (by first | (rw [hc]; done) | (rw [hc]; rfl)) ?_
    exact G.done (l := [.tmp 6]) rfl rfl ⟨_, _, by rw [hc]; rfl, rfl⟩ (by (repeat (first | exact Picks.nil | (apply Picks.cons; (repeat (first | exact Pick.here | apply Pick.there)))))) (by (repeat (first | exact Suff.here | apply Suff.there)))
  · refine G.kNF (t := 15) rfl h2_16 ?_
    refine G.trOpen (τ := τ) (by (repeat (first | exact Pick.here | apply Pick.there))) fun rn rs m s hI => ?_
    refine G.grun (t := 16) rfl rfl rfl ?_
    refine G.q (Quiet.move rfl) rfl ?_
    refine G.grun (t := 16) rfl rfl rfl ?_
    refine G.q (Quiet.nilp rfl) rfl ?_
    refine G.grun (t := 16) rfl rfl rfl ?_
    refine G.q (Quiet.fieldAddr rfl fo_90_0) rfl ?_
    refine G.grun (t := 16) rfl rfl rfl ?_
    refine G.q (Quiet.load rfl ag_87 (by (repeat (first | exact Pick.here | apply Pick.there))) (rfl)) rfl ?_
    refine G.grun (t := 16) rfl rfl rfl ?_
    refine G.q (Quiet.move rfl) rfl ?_
    rcases hup : alook m (parentZ x.path) with _ | pu
    · refine G.grun (t := 16) rfl rfl rfl ?_
      refine G.q (Quiet.lookupN (m := m) (enc := ndV) (KeyLaw.str Tryd.underlying9) (hup) rfl rfl Tryd.underlying87 ze_82 (by (repeat (first | exact Pick.here | apply Pick.there))) rfl) rfl ?_
      refine G.grun (t := 16) rfl rfl rfl ?_
      refine G.q (Quiet.as (v' := .bool true) (by rfl) (Quiet.ptreq rfl rfl Tryd.underlying82)) rfl ?_
      refine G.q (Quiet.pickF rfl rfl) rfl ?_
      refine G.nil ?_
      refine G.then_n ?_
      refine G.condT rfl ?_
      refine G.seq ?_
      refine G.region ?_
      refine G.q (Quiet.assign rfl) rfl ?_
      refine G.nil ?_
      refine G.then_n ?_
      refine G.ret ?_
      refine G.then_r ?_
      refine G.add (slR_nil 35 3) ?_
      have hc : createZ τ x zx = (τ, []) := by unfold createZ; rw [if_neg (fun g => hI.none_iff.1 hup g.2)]
      refine G.trFold (τ := τ) hI (by (repeat (first | exact Picks.nil | (apply Picks.cons; (repeat (first | exact Pick.here | apply Pick.there)))))) rfl rfl rfl ?_
      refine G.trCast (τ' := (createZ τ x zx).1) (by (repeat (first | exact Pick.here | apply Pick.there))) (by rw [hc]) ?_
      refine G.slCast (T := 35) (sz := 3) (m' := (createZ τ x zx).2.length) (xs' := (createZ τ x zx).2.flatMap evC) (by (repeat (first | exact Pick.here | apply Pick.there))) (by rw [hc]; rfl) (by first | (rw [hc]; done) | (rw [hc]; rfl)) ?_
      exact G.done (l := [.tmp 6]) rfl rfl ⟨_, _, by rw [hc]; rfl, rfl⟩ (by (repeat (first | exact Picks.nil | (apply Picks.cons; (repeat (first | exact Pick.here | apply Pick.there)))))) (by (repeat (first | exact Suff.here | apply Suff.there)))
    · refine G.grun (t := 16) rfl rfl rfl ?_
      refine G.q (Quiet.lookupY (m := m) (enc := ndV) (KeyLaw.str Tryd.underlying9) (hup) rfl rfl Tryd.underlying87 ze_82 (by (repeat (first | exact Pick.here | apply Pick.there))) rfl) rfl ?_
      refine G.grun (t := 16) rfl rfl rfl ?_
      refine G.q (Quiet.as (v' := .bool false) (by rfl) (Quiet.ptreq rfl rfl Tryd.underlying82)) rfl ?_
      refine G.q (Quiet.pickF rfl rfl) rfl ?_
      refine G.nil ?_
      refine G.then_n ?_
      refine G.condF rfl ?_
      refine G.skip ?_
      refine G.then_n ?_
      refine G.seq ?_
      refine G.region ?_
      refine G.q (Quiet.assign rfl) rfl ?_
      refine G.nil ?_
      refine G.then_n ?_
      refine G.seq ?_
      refine G.seq ?_
      refine G.draw [] [[0, 1, 2, 3, 4, 5, 6, 7]] mixed (by kernel_rfl) ?_
      refine Phases.go [] (by (repeat (first | exact Picks.nil | (apply Picks.cons; (repeat (first | exact Pick.here | apply Pick.there)))))) ?_
      rcases hal : alook m x.path with _ | px
      · refine D.qw [1, 2, 3, 6, 7] rfl (by kernel_rfl) (Quiet.move rfl) ?_
        refine D.qw [2, 3, 6, 7] rfl (by kernel_rfl) (Quiet.nilp rfl) ?_
        refine D.qw [3, 6, 7] rfl (by kernel_rfl) (Quiet.fieldAddr rfl fo_90_0) ?_
        refine D.qw [6, 7] rfl (by kernel_rfl) (Quiet.load rfl ag_87 (by (repeat (first | exact Pick.here | apply Pick.there))) (rfl)) ?_
        refine D.qw [5, 6, 7] rfl (by kernel_rfl) (Quiet.fieldAddr rfl fo_50_1) ?_
        refine D.qw [6, 7] rfl (by kernel_rfl) (Quiet.load rfl ag_9 (by (repeat (first | exact Pick.here | apply Pick.there))) (rfl)) ?_
        refine D.qw [7] rfl (by kernel_rfl) (Quiet.lookupN (m := m) (enc := ndV) (KeyLaw.str Tryd.underlying9) (hal) rfl rfl Tryd.underlying87 ze_82 (by (repeat (first | exact Pick.here | apply Pick.there))) rfl) ?_
        refine D.qw [] rfl (by kernel_rfl) (Quiet.as (v' := .bool false) (by rfl) (Quiet.ptrne rfl rfl Tryd.underlying82)) ?_
        refine D.ph ?_
        refine Phases.fin ?_
        refine G.then_n ?_
        refine G.condF rfl ?_
        refine G.skip ?_
        refine G.then_n ?_
        refine G.seq ?_
        refine G.draw [10, 18, 19] [[0, 1, 2, 3, 4, 5, 6, 7, 8, 9, 11, 12, 13, 14, 15, 16, 10, 17, 18], [19]] mixed (by kernel_rfl) ?_
        refine Phases.go [ptc bx _ _, ptc t _ _] (by (repeat (first | exact Picks.nil | (apply Picks.cons; (repeat (first | exact Pick.here | apply Pick.there)))))) ?_
        refine D.q rfl (by kernel_rfl) (Quiet.move rfl) ?_
        refine D.q rfl (by kernel_rfl) (Quiet.nilp rfl) ?_
        refine D.q rfl (by kernel_rfl) (Quiet.fieldAddr rfl fo_90_0) ?_
        refine D.q rfl (by kernel_rfl) (Quiet.load rfl ag_87 (by (repeat (first | exact Pick.here | apply Pick.there))) (rfl)) ?_
        refine D.q rfl (by kernel_rfl) (Quiet.fieldAddr rfl fo_50_1) ?_
        refine D.q rfl (by kernel_rfl) (Quiet.load rfl ag_9 (by (repeat (first | exact Pick.here | apply Pick.there))) (rfl)) ?_
        refine D.q rfl (by kernel_rfl) (Quiet.fieldAddr rfl fo_50_2) ?_
        refine D.q rfl (by kernel_rfl) (Quiet.load rfl ag_9 (by (repeat (first | exact Pick.here | apply Pick.there))) (rfl)) ?_
        refine D.qw [9, 10, 17, 18] rfl (by kernel_rfl) (Quiet.fieldAddr rfl fo_50_3) ?_
        refine D.qw [10, 17, 18] rfl (by kernel_rfl) (Quiet.load rfl ag_47 (by (repeat (first | exact Pick.here | apply Pick.there))) (rfl)) ?_
        refine D.q rfl (by kernel_rfl) (Quiet.move rfl) ?_
        refine D.q rfl (by kernel_rfl) (Quiet.move rfl) ?_
        refine D.q rfl (by kernel_rfl) (Quiet.move rfl) ?_
        refine D.q rfl (by kernel_rfl) (Quiet.fieldAddr rfl fo_50_4) ?_
        refine D.q rfl (by kernel_rfl) (Quiet.load rfl ag_3 (by (repeat (first | exact Pick.here | apply Pick.there))) (rfl)) ?_
        refine D.q rfl (by kernel_rfl) (Quiet.build (us := [(0, _), (1, _), (2, _), (6, _)]) fl_71 ze_71 rfl rfl (by simp [isCell])) ?_
        refine D.h rfl (by kernel_rfl) (OpSpec.call Tryd.func41 rfl rfl (vs := [_]) rfl (aclone_spec x.aclV x.acl p hx.acl hfew)) (by (repeat (first | exact Picks.nil | (apply Picks.cons; (repeat (first | exact Pick.here | apply Pick.there)))))) ?nx49
        rintro v L' ⟨⟨a7, c7, rfl⟩, rfl⟩
        refine D.qw [18] rfl (by kernel_rfl) (Quiet.buildN (pl := [(0, 1), (1, 1), (2, 9)]) (us := [(0, vstr x.data), (1, .slice a7 x.acl.length c7), (2, .agg ([vint zx, vint zx, vint zx, vint 0, vint 0, vint 0, vint x.own, vint 0, vint 0] : List Value).toArray)]) (cells := [vstr x.data, .slice a7 x.acl.length c7] ++ [vint zx, vint zx, vint zx, vint 0, vint 0, vint 0, vint x.own, vint 0, vint 0]) Tryd.underlying86 (by kernel_rfl) ze_86 rfl (fill_node _ _ _ _ _ _ _ _ _ _ _ _ _)) ?_
        refine D.h rfl (by kernel_rfl) (OpSpec.box rfl) (by (repeat (first | exact Picks.nil | (apply Picks.cons; (repeat (first | exact Pick.here | apply Pick.there)))))) ?nx52
        rintro v L' ⟨tn, rfl, rfl⟩
        refine D.ph ?_
        refine Phases.go [] (by (repeat (first | exact Picks.nil | (apply Picks.cons; (repeat (first | exact Pick.here | apply Pick.there)))))) ?_
        refine D.h rfl (by kernel_rfl) (OpSpec.mapSet (m := m) (enc := ndV) (v := ((tn, (.slice a7 x.acl.length c7, newN x zx)) : Nm)) (k := x.path) (KeyLaw.str Tryd.underlying9) rfl rfl rfl Tryd.underlying87 ?he54) (by (repeat (first | exact Picks.nil | (apply Picks.cons; (repeat (first | exact Pick.here | apply Pick.there)))))) ?nx55
        case he54 => rfl
        rintro v L' rfl
        refine D.ph ?_
        refine Phases.fin ?_
        refine G.toRd (by (repeat (first | exact Pick.here | apply Pick.there))) ?_
        refine G.ndFold (x := (x.path, ((tn, (.slice a7 x.acl.length c7, newN x zx)) : Nm))) (by (repeat (first | exact Picks.nil | (apply Picks.cons; (repeat (first | exact Pick.here | apply Pick.there)))))) rfl rfl rfl rfl ?_
        have hdel := adel_none hal
        refine G.bigPut (f := inN) (m := m) x.path ((tn, (.slice a7 x.acl.length c7, newN x zx)) : Nm) rfl (by rw [hdel]; (repeat (first | exact Picks.nil | (apply Picks.cons; (repeat (first | exact Pick.here | apply Pick.there)))))) ?_
        refine G.trFold (τ := ({ τ with nodes := sset τ.nodes x.path (newN x zx) } : Tr)) (hI.lay x.path ((tn, (.slice a7 x.acl.length c7, newN x zx)) : Nm)) (by (repeat (first | exact Picks.nil | (apply Picks.cons; (repeat (first | exact Pick.here | apply Pick.there)))))) rfl rfl rfl ?_
        refine G.then_n ?_
        refine G.seq ?_
        refine G.region ?_
        refine G.q (Quiet.move rfl) rfl ?_
        refine G.q (Quiet.move rfl) rfl ?_
        refine G.q (Quiet.fieldAddr rfl fo_50_5) rfl ?_
        refine G.q (Quiet.load rfl ag_3 (by (repeat (first | exact Pick.here | apply Pick.there))) (rfl)) rfl ?_
        refine G.q (Quiet.move rfl) rfl ?_
        refine G.op (OpSpec.call Tryd.func59 rfl rfl (vs := [_, _, _, _]) rfl (trkid_spec t ({ τ with nodes := sset τ.nodes x.path (newN x zx) } : Tr) (parentZ x.path) x.num zx)) (by (repeat (first | exact Picks.nil | (apply Picks.cons; (repeat (first | exact Pick.here | apply Pick.there)))))) rfl ?nx60
        rintro v L' ⟨rfl, rfl⟩
        refine G.nil ?_
        refine G.then_n ?_
        refine G.seq ?_
        refine G.region ?_
        refine G.q (Quiet.move rfl) rfl ?_
        refine G.q (Quiet.fieldAddr rfl fo_50_1) rfl ?_
        refine G.q (Quiet.load rfl ag_9 (by (repeat (first | exact Pick.here | apply Pick.there))) (rfl)) rfl ?_
        refine G.q (Quiet.move rfl) rfl ?_
        refine G.q (Quiet.build (us := [(0, _), (1, _), (2, _)]) fl_35 ze_35 rfl rfl (by simp [isCell])) rfl ?_
        refine G.q (Quiet.move rfl) rfl ?_
        refine G.q (Quiet.move rfl) rfl ?_
        refine G.q (Quiet.build (us := [(0, _), (1, _), (2, _)]) fl_35 ze_35 rfl rfl (by simp [isCell])) rfl ?_
        refine G.op (OpSpec.buildSlice (vs := [_, _]) el_23 ze_35 rfl rfl rfl rfl (by first | (simp [Value.cells]; done) | (intro v hv; simp only [List.mem_cons, List.not_mem_nil, or_false] at hv; (repeat (first | (subst hv; rfl) | (rcases hv with hv | hv; (subst hv; rfl)))))) (by decide)) (by (repeat (first | exact Picks.nil | (apply Picks.cons; (repeat (first | exact Pick.here | apply Pick.there)))))) rfl ?nx68
        rintro v L' ⟨bo, rfl, rfl⟩
        refine G.q (Quiet.assign rfl) rfl ?_
        refine G.nil ?_
        refine G.slMakeN 3 2 (b := bo) (xs := ([(1, (x.path, zx)), (4, (parentZ x.path, zx))] : List Ev).flatMap evC) (by (repeat (first | exact Pick.here | apply Pick.there))) rfl rfl ?_
        refine G.then_n ?_
        refine G.ret ?_
        have hc : createZ τ x zx = (kidT ({ τ with nodes := sset τ.nodes x.path (newN x zx) } : Tr) (parentZ x.path) x.num zx, [(1, (x.path, zx)), (4, (parentZ x.path, zx))]) := by unfold createZ; rw [if_pos ⟨h2_16, hI.some_iff hup⟩, if_neg (hI.none_iff.1 hal)]
        refine G.trCast (τ' := (createZ τ x zx).1) (by (repeat (first | exact Pick.here | apply Pick.there))) (by rw [hc]) ?_
        refine G.slCast (T := 35) (sz := 3) (m' := (createZ τ x zx).2.length) (xs' := (createZ τ x zx).2.flatMap evC) (by (repeat (first | exact Pick.here | apply Pick.there))) (by rw [hc]; rfl) (by first | (rw [hc]; done) | (rw [hc]; rfl)) ?_
        exact G.done (l := [.tmp 6]) rfl rfl ⟨_, _, by rw [hc]; rfl, rfl⟩ (by (repeat (first | exact Picks.nil | (apply Picks.cons; (repeat (first | exact Pick.here | apply Pick.there)))))) (by (repeat (first | exact Suff.here | apply Suff.there)))
      · refine D.qw [1, 2, 3, 6, 7] rfl (by kernel_rfl) (Quiet.move rfl) ?_
        refine D.qw [2, 3, 6, 7] rfl (by kernel_rfl) (Quiet.nilp rfl) ?_
        refine D.qw [3, 6, 7] rfl (by kernel_rfl) (Quiet.fieldAddr rfl fo_90_0) ?_
        refine D.qw [6, 7] rfl (by kernel_rfl) (Quiet.load rfl ag_87 (by (repeat (first | exact Pick.here | apply Pick.there))) (rfl)) ?_
        refine D.qw [5, 6, 7] rfl (by kernel_rfl) (Quiet.fieldAddr rfl fo_50_1) ?_
        refine D.qw [6, 7] rfl (by kernel_rfl) (Quiet.load rfl ag_9 (by (repeat (first | exact Pick.here | apply Pick.there))) (rfl)) ?_
        refine D.qw [7] rfl (by kernel_rfl) (Quiet.lookupY (m := m) (enc := ndV) (KeyLaw.str Tryd.underlying9) (hal) rfl rfl Tryd.underlying87 ze_82 (by (repeat (first | exact Pick.here | apply Pick.there))) rfl) ?_
        refine D.qw [] rfl (by kernel_rfl) (Quiet.as (v' := .bool true) (by rfl) (Quiet.ptrne rfl rfl Tryd.underlying82)) ?_
        refine D.ph ?_
        refine Phases.fin ?_
        refine G.then_n ?_
        refine G.condT rfl ?_
        refine G.region ?_
        refine G.q (Quiet.assign rfl) rfl ?_
        refine G.nil ?_
        refine G.then_n ?_
        refine G.seq ?_
        refine G.draw [10, 18, 19] [[0, 1, 2, 3, 4, 5, 6, 7, 8, 9, 11, 12, 13, 14, 15, 16, 10, 17, 18], [19]] mixed (by kernel_rfl) ?_
        refine Phases.go [ptc bx _ _, ptc t _ _] (by (repeat (first | exact Picks.nil | (apply Picks.cons; (repeat (first | exact Pick.here | apply Pick.there)))))) ?_
        refine D.q rfl (by kernel_rfl) (Quiet.move rfl) ?_
        refine D.q rfl (by kernel_rfl) (Quiet.nilp rfl) ?_
        refine D.q rfl (by kernel_rfl) (Quiet.fieldAddr rfl fo_90_0) ?_
        refine D.q rfl (by kernel_rfl) (Quiet.load rfl ag_87 (by (repeat (first | exact Pick.here | apply Pick.there))) (rfl)) ?_
        refine D.q rfl (by kernel_rfl) (Quiet.fieldAddr rfl fo_50_1) ?_
        refine D.q rfl (by kernel_rfl) (Quiet.load rfl ag_9 (by (repeat (first | exact Pick.here | apply Pick.there))) (rfl)) ?_
        refine D.q rfl (by kernel_rfl) (Quiet.fieldAddr rfl fo_50_2) ?_
        refine D.q rfl (by kernel_rfl) (Quiet.load rfl ag_9 (by (repeat (first | exact Pick.here | apply Pick.there))) (rfl)) ?_
        refine D.qw [9, 10, 17, 18] rfl (by kernel_rfl) (Quiet.fieldAddr rfl fo_50_3) ?_
        refine D.qw [10, 17, 18] rfl (by kernel_rfl) (Quiet.load rfl ag_47 (by (repeat (first | exact Pick.here | apply Pick.there))) (rfl)) ?_
        refine D.q rfl (by kernel_rfl) (Quiet.move rfl) ?_
        refine D.q rfl (by kernel_rfl) (Quiet.move rfl) ?_
        refine D.q rfl (by kernel_rfl) (Quiet.move rfl) ?_
        refine D.q rfl (by kernel_rfl) (Quiet.fieldAddr rfl fo_50_4) ?_
        refine D.q rfl (by kernel_rfl) (Quiet.load rfl ag_3 (by (repeat (first | exact Pick.here | apply Pick.there))) (rfl)) ?_
        refine D.q rfl (by kernel_rfl) (Quiet.build (us := [(0, _), (1, _), (2, _), (6, _)]) fl_71 ze_71 rfl rfl (by simp [isCell])) ?_
        refine D.h rfl (by kernel_rfl) (OpSpec.call Tryd.func41 rfl rfl (vs := [_]) rfl (aclone_spec x.aclV x.acl p hx.acl hfew)) (by (repeat (first | exact Picks.nil | (apply Picks.cons; (repeat (first | exact Pick.here | apply Pick.there)))))) ?nx95
        rintro v L' ⟨⟨a7, c7, rfl⟩, rfl⟩
        refine D.qw [18] rfl (by kernel_rfl) (Quiet.buildN (pl := [(0, 1), (1, 1), (2, 9)]) (us := [(0, vstr x.data), (1, .slice a7 x.acl.length c7), (2, .agg ([vint zx, vint zx, vint zx, vint 0, vint 0, vint 0, vint x.own, vint 0, vint 0] : List Value).toArray)]) (cells := [vstr x.data, .slice a7 x.acl.length c7] ++ [vint zx, vint zx, vint zx, vint 0, vint 0, vint 0, vint x.own, vint 0, vint 0]) Tryd.underlying86 (by kernel_rfl) ze_86 rfl (fill_node _ _ _ _ _ _ _ _ _ _ _ _ _)) ?_
        refine D.h rfl (by kernel_rfl) (OpSpec.box rfl) (by (repeat (first | exact Picks.nil | (apply Picks.cons; (repeat (first | exact Pick.here | apply Pick.there)))))) ?nx98
        rintro v L' ⟨tn, rfl, rfl⟩
        refine D.ph ?_
        refine Phases.go [] (by (repeat (first | exact Picks.nil | (apply Picks.cons; (repeat (first | exact Pick.here | apply Pick.there)))))) ?_
        refine D.h rfl (by kernel_rfl) (OpSpec.mapSet (m := m) (enc := ndV) (v := ((tn, (.slice a7 x.acl.length c7, newN x zx)) : Nm)) (k := x.path) (KeyLaw.str Tryd.underlying9) rfl rfl rfl Tryd.underlying87 ?he100) (by (repeat (first | exact Picks.nil | (apply Picks.cons; (repeat (first | exact Pick.here | apply Pick.there)))))) ?nx101
        case he100 => rfl
        rintro v L' rfl
        refine D.ph ?_
        refine Phases.fin ?_
        refine G.toRd (by (repeat (first | exact Pick.here | apply Pick.there))) ?_
        refine G.ndFold (x := (x.path, ((tn, (.slice a7 x.acl.length c7, newN x zx)) : Nm))) (by (repeat (first | exact Picks.nil | (apply Picks.cons; (repeat (first | exact Pick.here | apply Pick.there)))))) rfl rfl rfl rfl ?_
        refine G.bigTake hal (by (repeat (first | exact Pick.here | apply Pick.there))) ?_
        refine G.bigPut (f := inN) (m := m) x.path ((tn, (.slice a7 x.acl.length c7, newN x zx)) : Nm) rfl (by (repeat (first | exact Picks.nil | (apply Picks.cons; (repeat (first | exact Pick.here | apply Pick.there)))))) ?_
        refine G.trFold (τ := ({ τ with nodes := sset τ.nodes x.path (newN x zx) } : Tr)) (hI.lay x.path ((tn, (.slice a7 x.acl.length c7, newN x zx)) : Nm)) (by (repeat (first | exact Picks.nil | (apply Picks.cons; (repeat (first | exact Pick.here | apply Pick.there)))))) rfl rfl rfl ?_
        refine G.then_n ?_
        refine G.seq ?_
        refine G.region ?_
        refine G.q (Quiet.move rfl) rfl ?_
        refine G.q (Quiet.move rfl) rfl ?_
        refine G.q (Quiet.fieldAddr rfl fo_50_5) rfl ?_
        refine G.q (Quiet.load rfl ag_3 (by (repeat (first | exact Pick.here | apply Pick.there))) (rfl)) rfl ?_
        refine G.q (Quiet.move rfl) rfl ?_
        refine G.op (OpSpec.call Tryd.func59 rfl rfl (vs := [_, _, _, _]) rfl (trkid_spec t ({ τ with nodes := sset τ.nodes x.path (newN x zx) } : Tr) (parentZ x.path) x.num zx)) (by (repeat (first | exact Picks.nil | (apply Picks.cons; (repeat (first | exact Pick.here | apply Pick.there)))))) rfl ?nx106
        rintro v L' ⟨rfl, rfl⟩
        refine G.nil ?_
        refine G.then_n ?_
        refine G.seq ?_
        refine G.region ?_
        refine G.q (Quiet.move rfl) rfl ?_
        refine G.q (Quiet.fieldAddr rfl fo_50_1) rfl ?_
        refine G.q (Quiet.load rfl ag_9 (by (repeat (first | exact Pick.here | apply Pick.there))) (rfl)) rfl ?_
        refine G.q (Quiet.move rfl) rfl ?_
        refine G.q (Quiet.build (us := [(0, _), (1, _), (2, _)]) fl_35 ze_35 rfl rfl (by simp [isCell])) rfl ?_
        refine G.q (Quiet.move rfl) rfl ?_
        refine G.q (Quiet.move rfl) rfl ?_
        refine G.q (Quiet.build (us := [(0, _), (1, _), (2, _)]) fl_35 ze_35 rfl rfl (by simp [isCell])) rfl ?_
        refine G.op (OpSpec.buildSlice (vs := [_, _]) el_23 ze_35 rfl rfl rfl rfl (by first | (simp [Value.cells]; done) | (intro v hv; simp only [List.mem_cons, List.not_mem_nil, or_false] at hv; (repeat (first | (subst hv; rfl) | (rcases hv with hv | hv; (subst hv; rfl)))))) (by decide)) (by (repeat (first | exact Picks.nil | (apply Picks.cons; (repeat (first | exact Pick.here | apply Pick.there)))))) rfl ?nx114
        rintro v L' ⟨bo, rfl, rfl⟩
        refine G.q (Quiet.assign rfl) rfl ?_
        refine G.nil ?_
        refine G.slMakeN 3 2 (b := bo) (xs := ([(3, (x.path, zx)), (4, (parentZ x.path, zx))] : List Ev).flatMap evC) (by (repeat (first | exact Pick.here | apply Pick.there))) rfl rfl ?_
        refine G.then_n ?_
        refine G.ret ?_
        have hc : createZ τ x zx = (kidT ({ τ with nodes := sset τ.nodes x.path (newN x zx) } : Tr) (parentZ x.path) x.num zx, [(3, (x.path, zx)), (4, (parentZ x.path, zx))]) := by unfold createZ; rw [if_pos ⟨h2_16, hI.some_iff hup⟩, if_pos (hI.some_iff hal)]
        refine G.trCast (τ' := (createZ τ x zx).1) (by (repeat (first | exact Pick.here | apply Pick.there))) (by rw [hc]) ?_
        refine G.slCast (T := 35) (sz := 3) (m' := (createZ τ x zx).2.length) (xs' := (createZ τ x zx).2.flatMap evC) (by (repeat (first | exact Pick.here | apply Pick.there))) (by rw [hc]; rfl) (by first | (rw [hc]; done) | (rw [hc]; rfl)) ?_
        exact G.done (l := [.tmp 6]) rfl rfl ⟨_, _, by rw [hc]; rfl, rfl⟩ (by (repeat (first | exact Picks.nil | (apply Picks.cons; (repeat (first | exact Pick.here | apply Pick.there)))))) (by (repeat (first | exact Suff.here | apply Suff.there)))

end Go.Proofs.YtnnbelmpbmfdnaaDoor
