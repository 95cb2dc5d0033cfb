/- Own work, by program: package session, walked. -/
import Derived.Test.YtepncdidkjjllaaSess
import Derived.Test.YtepncdidkjjllaaLay
namespace Go.Proofs.Ytepncdidkjjllaa
open Go
set_option maxRecDepth 100000 in
theorem clipI0_spec : Fn Try.prog 99 #[.slice none 0 0] [slR 3 1 (.slice none 0 0) 0 []] fun u L => u = .slice none 0 0 ∧ L = [slR 3 1 u 0 []] := by
  refine Fn.intro (vs := [.slice none 0 0]) Try.func99 rfl rfl ?_
  intro F W
  refine G.seq ?_
  refine G.region ?_
  refine G.q (Quiet.assign rfl) rfl ?_
  refine G.nil ?_
  refine G.then_n ?_
  refine G.seq ?_
  refine G.region ?_
  refine G.q (Quiet.move rfl) rfl ?_
  refine G.q (Quiet.move rfl) rfl ?_
  refine G.q (Quiet.slen rfl Try.underlying40 rfl) rfl ?_
  refine G.q (Quiet.move rfl) rfl ?_
  refine G.q (Quiet.slen rfl Try.underlying40 rfl) rfl ?_
  refine G.q (Quiet.clip (n := 0) rfl el_40 rfl rfl (Nat.le_refl _) (.inl rfl)) rfl ?_
  refine G.q (Quiet.assign rfl) rfl ?_
  refine G.nil ?_
  refine G.then_n ?_
  refine G.ret ?_
  exact G.done (l := [.tmp 2]) rfl rfl ⟨rfl, rfl⟩ (by (repeat (first | exact Picks.nil | (apply Picks.cons; (repeat (first | exact Pick.here | apply Pick.there)))))) (by (repeat (first | exact Suff.here | apply Suff.there)))

set_option maxRecDepth 100000 in
theorem clipI1_spec (b n c : Nat) (hc : n ≤ c) (xs : List Value) : Fn Try.prog 99 #[.slice (some ⟨b, 0, none⟩) n c] [slR 3 1 (.slice (some ⟨b, 0, none⟩) n c) n xs] fun u L => u = .slice (some ⟨b, 0, none⟩) n n ∧ L = [slR 3 1 u n xs] := by
  refine Fn.intro (vs := [.slice (some ⟨b, 0, none⟩) n c]) Try.func99 rfl rfl ?_
  intro F W
  refine G.seq ?_
  refine G.region ?_
  refine G.q (Quiet.assign rfl) rfl ?_
  refine G.nil ?_
  refine G.then_n ?_
  refine G.seq ?_
  refine G.region ?_
  refine G.q (Quiet.move rfl) rfl ?_
  refine G.q (Quiet.move rfl) rfl ?_
  refine G.q (Quiet.slen rfl Try.underlying40 rfl) rfl ?_
  refine G.q (Quiet.move rfl) rfl ?_
  refine G.q (Quiet.slen rfl Try.underlying40 rfl) rfl ?_
  refine G.q (Quiet.clip (n := n) rfl el_40 rfl rfl hc (.inr ⟨_, _, rfl⟩)) rfl ?_
  refine G.q (Quiet.assign rfl) rfl ?_
  refine G.nil ?_
  refine G.then_n ?_
  refine G.ret ?_
  refine G.slClip (by (repeat (first | exact Pick.here | apply Pick.there))) ?_
  exact G.done (l := [.tmp 2]) rfl rfl ⟨rfl, rfl⟩ (by (repeat (first | exact Picks.nil | (apply Picks.cons; (repeat (first | exact Pick.here | apply Pick.there)))))) (by (repeat (first | exact Suff.here | apply Suff.there)))

theorem clipI_spec (v : Value) (n : Nat) (xs : List Value) : Fn Try.prog 99 #[v] [slR 3 1 v n xs] fun u L => (∃ a c, u = .slice a n c) ∧ L = [slR 3 1 u n xs] := by
  intro F w hs
  obtain ⟨g1, -, hp⟩ := sep_head hs
  rcases hp with ⟨rfl, rfl, rfl⟩ | ⟨b, cap, rest, fr, rfl, -, -, -, h4, -⟩
  · exact (clipI0_spec F w hs).mono fun e w' ⟨u, L, ⟨h1, h2⟩, h3⟩ => ⟨u, L, ⟨⟨_, _, h1⟩, h2⟩, h3⟩
  · exact (clipI1_spec b n cap h4 xs F w hs).mono fun e w' ⟨u, L, ⟨h1, h2⟩, h3⟩ => ⟨u, L, ⟨⟨_, _, h1⟩, h2⟩, h3⟩
theorem keysS_spec (mb : Option Nat) : Fn Try.prog 101 #[.map mb] [] fun v L => ∃ b, v = .func (.func 128) #[] #[vptr b] ∧ L = [ptc b [.map mb] 133] :=
  keys_fn Try.keysB mb
theorem sortedS_spec {b r : Nat} {T : TypeId} (m : List (Int × (Int × Int))) (hnd : (m.map (·.1)).Nodup) (hbd : ∀ x ∈ m, -9223372036854775808 ≤ x.1 ∧ x.1 ≤ 9223372036854775807) (hlen : m.length ≤ 1099511627776) :
    Fn Try.prog 100 #[.func (.func 128) #[] #[vptr b]] [ptc b [.map (some r)] T, mapR r (sesM m)] fun v L => (∃ a c, v = .slice a m.length c) ∧ L = [slR 3 1 v m.length (ints (sortI (m.map (·.1)))), mapR r (sesM m)] :=
  sorted_fn Try.keysB Try.sortedA Try.sortA rfl (enters_of Try.func98 rfl rfl) (enters_of Try.func128 rfl rfl) Try.underlying3 (enc := entV) (b := b) (r := r) (T := T) m hnd hbd hlen
theorem sortI_spec (v : Value) (n : Nat) (xs : List Int) (hn : n < 4611686018427387904) : Fn Try.prog 98 #[v] [slR 3 1 v n (ints xs)] fun u L => u = .tuple #[] ∧ L = [slR 3 1 v n (ints (sortI xs))] :=
  sort_fn Try.sortA 3 v n xs hn
set_option maxRecDepth 100000 in
theorem tnew_spec : Fn Try.prog 33 #[] [] fun v L => ∃ t, v = vptr t ∧ L = [tkR t []] := by
  refine Fn.intro (vs := []) Try.func33 rfl rfl ?_
  intro F W
  refine G.seq ?_
  refine G.region ?_
  refine G.q (Quiet.assign rfl) rfl ?_
  refine G.nil ?_
  refine G.then_n ?_
  refine G.seq ?_
  refine G.region ?_
  refine G.op (OpSpec.makeMap Try.underlying133) (by (repeat (first | exact Picks.nil | (apply Picks.cons; (repeat (first | exact Pick.here | apply Pick.there)))))) rfl ?nx2
  rintro v L' ⟨rs, rfl, rfl⟩
  refine G.op (OpSpec.makeMap Try.underlying134) (by (repeat (first | exact Picks.nil | (apply Picks.cons; (repeat (first | exact Pick.here | apply Pick.there)))))) rfl ?nx4
  rintro v L' ⟨rb, rfl, rfl⟩
  refine G.q (Quiet.build (us := [(0, _), (1, _)]) fl_136 ze_136 rfl rfl (by simp [isCell])) rfl ?_
  refine G.op (OpSpec.box rfl) (by (repeat (first | exact Picks.nil | (apply Picks.cons; (repeat (first | exact Pick.here | apply Pick.there)))))) rfl ?nx7
  rintro v L' ⟨t, rfl, rfl⟩
  refine G.q (Quiet.assign rfl) rfl ?_
  refine G.nil ?_
  refine G.then_n ?_
  refine G.ret ?_
  refine G.fold (p := mapR rs []) (.cons (p := pt rs (.map #[] 0)) (by (repeat (first | exact Pick.here | apply Pick.there))) .nil) (fun h hp => mapR_new (sep_pt hp)) ?_
  refine G.fold (p := mapR rb []) (.cons (p := pt rb (.map #[] 0)) (by (repeat (first | exact Pick.here | apply Pick.there))) .nil) (fun h hp => mapR_new (sep_pt hp)) ?_
  refine G.add (p := bigR inR []) big_nil ?_
  have hI : TkI [] [] [] := ⟨SOk.nil, .refl _, by simp, fun d y h => (by cases h), fun id to d h => (by cases h)⟩
  refine G.tkFold hI (by (repeat (first | exact Picks.nil | (apply Picks.cons; (repeat (first | exact Pick.here | apply Pick.there)))))) rfl rfl ?_
  exact G.done (l := [.tmp 0]) rfl rfl ⟨_, rfl, rfl⟩ (by (repeat (first | exact Picks.nil | (apply Picks.cons; (repeat (first | exact Pick.here | apply Pick.there)))))) (by (repeat (first | exact Suff.here | apply Suff.there)))

set_option maxRecDepth 100000 in
theorem isTime_spec (now : Int) : Fn Try.prog 90 #[vint now] [] fun v L => v = .bool (decide (¬ badTime now)) ∧ L = [] := by
  refine Fn.intro (vs := [vint now]) Try.func90 rfl rfl ?_
  intro F W
  refine G.seq ?_
  refine G.region ?_
  refine G.q (Quiet.assign rfl) rfl ?_
  refine G.nil ?_
  refine G.then_n ?_
  refine G.seq ?_
  refine G.region ?_
  refine G.q (Quiet.move rfl) rfl ?_
  refine G.q (Quiet.int rfl rfl rfl) rfl ?_
  refine G.q (Quiet.move rfl) rfl ?_
  refine G.dec (t := 5) rfl (fun h1_5 => ?_) (fun h1_5 => ?_)
  · refine G.kDT (t := 4) rfl h1_5 ?_
    refine G.grun (t := 5) rfl rfl rfl ?_
    refine G.q (Quiet.move rfl) rfl ?_
    refine G.grun (t := 5) rfl rfl rfl ?_
    refine G.q (Quiet.int rfl rfl rfl) rfl ?_
    refine G.q (Quiet.pickT rfl rfl) rfl ?_
    refine G.q (Quiet.assign rfl) rfl ?_
    refine G.nil ?_
    refine G.then_n ?_
    refine G.ret ?_
    exact G.done (l := [.tmp 2]) rfl rfl ⟨congrArg Value.bool (decide_eq_decide.2 (by unfold badTime; omega)), rfl⟩ (by (repeat (first | exact Picks.nil | (apply Picks.cons; (repeat (first | exact Pick.here | apply Pick.there)))))) (by (repeat (first | exact Suff.here | apply Suff.there)))
  · refine G.kDF (t := 4) rfl h1_5 ?_
    refine G.gskip (t := 5) rfl rfl rfl rfl ?_
    refine G.gskip (t := 5) rfl rfl rfl rfl ?_
    refine G.q (Quiet.pickF rfl rfl) rfl ?_
    refine G.q (Quiet.assign rfl) rfl ?_
    refine G.nil ?_
    refine G.then_n ?_
    refine G.ret ?_
    exact G.done (l := [.tmp 2]) rfl rfl ⟨by rw [decide_eq_false (by unfold badTime; omega)], rfl⟩ (by (repeat (first | exact Picks.nil | (apply Picks.cons; (repeat (first | exact Pick.here | apply Pick.there)))))) (by (repeat (first | exact Suff.here | apply Suff.there)))

set_option maxRecDepth 100000 in
theorem ends_spec (now to : Int) (h : ¬ badTime now) (h1 : 4 ≤ to) (h2 : to ≤ 60) : Fn Try.prog 91 #[vint now, vint to] [] fun v L => v = vint (endsZ now to) ∧ L = [] := by
  refine Fn.intro (vs := [vint now, vint to]) Try.func91 rfl rfl ?_
  intro F W
  unfold badTime at h
  refine G.seq ?_
  refine G.region ?_
  refine G.q (Quiet.assign rfl) rfl ?_
  refine G.nil ?_
  refine G.then_n ?_
  refine G.seq ?_
  refine G.region ?_
  refine G.q (Quiet.move rfl) rfl ?_
  refine G.q (Quiet.move rfl) rfl ?_
  refine G.q (Quiet.add rfl rfl (by omega)) rfl ?_
  refine G.q (Quiet.add rfl rfl (by omega)) rfl ?_
  refine G.q (Quiet.sub rfl rfl (by omega)) rfl ?_
  refine G.q (Quiet.quoE rfl rfl (by omega) (by omega)) rfl ?_
  refine G.q (Quiet.mul rfl rfl (by omega)) rfl ?_
  refine G.q (Quiet.assign rfl) rfl ?_
  refine G.nil ?_
  refine G.then_n ?_
  refine G.ret ?_
  exact G.done (l := [.tmp 4]) rfl rfl ⟨congrArg vint (by unfold endsZ; omega), rfl⟩ (by (repeat (first | exact Picks.nil | (apply Picks.cons; (repeat (first | exact Pick.here | apply Pick.there)))))) (by (repeat (first | exact Suff.here | apply Suff.there)))

set_option maxRecDepth 100000 in
theorem lift_spec (t : Nat) (σ : Ses) (id : Int) : Fn Try.prog 93 #[vptr t, vint id] [tkR t σ] fun v L => v = .tuple #[] ∧ L = [tkR t (adel σ id)] := by
  refine Fn.intro (vs := [vptr t, vint id]) Try.func93 rfl rfl ?_
  intro F W
  refine G.tkOpen (σ := σ) (by (repeat (first | exact Pick.here | apply Pick.there))) fun rs rb ms bm hI => ?_
  refine G.seq ?_
  refine G.region ?_
  refine G.q (Quiet.move rfl) rfl ?_
  refine G.q (Quiet.nilp rfl) rfl ?_
  refine G.q (Quiet.fieldAddr rfl fo_136_0) rfl ?_
  refine G.q (Quiet.load rfl ag_133 (by (repeat (first | exact Pick.here | apply Pick.there))) (rfl)) rfl ?_
  refine G.q (Quiet.move rfl) rfl ?_
  rcases hal : alook σ id with _ | ⟨to, d⟩
  · refine G.q (Quiet.lookupOkN (m := ms) (enc := entV) (KeyLaw.int Try.underlying3) (by rw [hI.look]; exact hal) rfl rfl Try.underlying133 ze_138 (by (repeat (first | exact Pick.here | apply Pick.there))) rfl) rfl ?_
    refine G.q (Quiet.move rfl) rfl ?_
    refine G.q (Quiet.extract rfl rfl) rfl ?_
    refine G.q (Quiet.extract rfl rfl) rfl ?_
    refine G.op (OpSpec.allocA ze_138) (by (repeat (first | exact Picks.nil | (apply Picks.cons; (repeat (first | exact Pick.here | apply Pick.there)))))) rfl ?nx9
    rintro v L' ⟨be, rfl, rfl⟩
    refine G.op (OpSpec.storeA rfl rfl ?c11 sz_138 ?c14 ?c12 ?c13) (by (repeat (first | exact Picks.nil | (apply Picks.cons; (repeat (first | exact Pick.here | apply Pick.there)))))) rfl ?nx15
    case c11 => (first | (simp [isCell]; done) | (simp [isCell, setAll, Value.cells]; done))
    case c14 => (first | (simp; done) | (simp [setAll, spl, Value.cells]; done))
    case c12 => (first | (simp; done) | (simp [setAll, spl, Value.cells]; done))
    case c13 => exact nfz0 _ _
    rintro v L' rfl
    refine G.q (Quiet.assign rfl) rfl ?_
    refine G.nil ?_
    refine G.then_n ?_
    refine G.seq ?_
    refine G.seq ?_
    refine G.region ?_
    refine G.q (Quiet.move rfl) rfl ?_
    refine G.q (Quiet.not rfl) rfl ?_
    refine G.nil ?_
    refine G.then_n ?_
    refine G.condT rfl ?_
    refine G.ret ?_
    refine G.then_r ?_
    rw [adel_none hal]
    refine G.tkFold hI (by (repeat (first | exact Picks.nil | (apply Picks.cons; (repeat (first | exact Pick.here | apply Pick.there)))))) rfl rfl ?_
    exact G.done (l := []) rfl rfl ⟨rfl, rfl⟩ (by (repeat (first | exact Picks.nil | (apply Picks.cons; (repeat (first | exact Pick.here | apply Pick.there)))))) (by (repeat (first | exact Suff.here | apply Suff.there)))
  · obtain ⟨fa, fb, fc, fd, fe, ff⟩ := hI.ok.look hal
    dsimp only at fa fb fc fd fe ff
    obtain ⟨⟨p, l⟩, hbk⟩ := Option.isSome_iff_exists.1 (hI.has id to d hal)
    refine G.bigTake hbk (by (repeat (first | exact Pick.here | apply Pick.there))) ?_
    refine G.q (Quiet.lookupOkY (m := ms) (enc := entV) (KeyLaw.int Try.underlying3) (by rw [hI.look]; exact hal) rfl rfl Try.underlying133 ze_138 (by (repeat (first | exact Pick.here | apply Pick.there))) rfl) rfl ?_
    refine G.q (Quiet.move rfl) rfl ?_
    refine G.q (Quiet.extract rfl rfl) rfl ?_
    refine G.q (Quiet.extract rfl rfl) rfl ?_
    refine G.op (OpSpec.allocA ze_138) (by (repeat (first | exact Picks.nil | (apply Picks.cons; (repeat (first | exact Pick.here | apply Pick.there)))))) rfl ?nx20
    rintro v L' ⟨be, rfl, rfl⟩
    refine G.op (OpSpec.storeA rfl rfl ?c22 sz_138 ?c25 ?c23 ?c24) (by (repeat (first | exact Picks.nil | (apply Picks.cons; (repeat (first | exact Pick.here | apply Pick.there)))))) rfl ?nx26
    case c22 => (first | (simp [isCell]; done) | (simp [isCell, setAll, Value.cells]; done))
    case c25 => (first | (simp; done) | (simp [setAll, spl, Value.cells]; done))
    case c23 => (first | (simp; done) | (simp [setAll, spl, Value.cells]; done))
    case c24 => exact nfz0 _ _
    rintro v L' rfl
    refine G.q (Quiet.assign rfl) rfl ?_
    refine G.nil ?_
    refine G.then_n ?_
    refine G.seq ?_
    refine G.seq ?_
    refine G.region ?_
    refine G.q (Quiet.move rfl) rfl ?_
    refine G.q (Quiet.not rfl) rfl ?_
    refine G.nil ?_
    refine G.then_n ?_
    refine G.condF rfl ?_
    refine G.skip ?_
    refine G.then_n ?_
    refine G.seq ?_
    refine G.draw [8] [[0, 1, 2, 3, 4, 5, 6, 7, 8]] mixed (by kernel_rfl) ?_
    refine Phases.go [] (by (repeat (first | exact Picks.nil | (apply Picks.cons; (repeat (first | exact Pick.here | apply Pick.there)))))) ?_
    refine D.qw [1, 2, 3, 6, 8] rfl (by kernel_rfl) (Quiet.move rfl) ?_
    refine D.qw [2, 3, 6, 8] rfl (by kernel_rfl) (Quiet.nilp rfl) ?_
    refine D.qw [3, 6, 8] rfl (by kernel_rfl) (Quiet.fieldAddr rfl fo_136_1) ?_
    refine D.qw [6, 8] rfl (by kernel_rfl) (Quiet.load rfl ag_134 (by (repeat (first | exact Pick.here | apply Pick.there))) (rfl)) ?_
    refine D.qw [5, 6, 8] rfl (by kernel_rfl) (Quiet.fieldAddr rfl fo_138_1) ?_
    refine D.qw [6, 8] rfl (by kernel_rfl) (Quiet.load rfl ag_3 (by (repeat (first | exact Pick.here | apply Pick.there))) (rfl)) ?_
    refine D.qw [8] rfl (by kernel_rfl) (Quiet.lookupY (m := bm) (enc := bkV) (KeyLaw.int Try.underlying3) (hbk) rfl rfl Try.underlying134 ze_148 (by (repeat (first | exact Pick.here | apply Pick.there))) rfl) ?_
    refine D.qw [8] rfl (by kernel_rfl) (Quiet.move rfl) ?_
    refine D.h rfl (by kernel_rfl) (OpSpec.mapDel (m := l) (enc := unitV) (KeyLaw.int Try.underlying3) rfl rfl rfl Try.underlying148 ?he36) (by (repeat (first | exact Picks.nil | (apply Picks.cons; (repeat (first | exact Pick.here | apply Pick.there)))))) ?nx37
    case he36 => rfl
    rintro v L' rfl
    refine D.ph ?_
    refine Phases.fin ?_
    refine G.then_n ?_
    refine G.seq ?_
    refine G.seq ?_
    refine G.draw [] [[0, 1, 2, 3, 4, 5, 6, 7, 8]] mixed (by kernel_rfl) ?_
    refine Phases.go [] (by (repeat (first | exact Picks.nil | (apply Picks.cons; (repeat (first | exact Pick.here | apply Pick.there)))))) ?_
    refine D.qw [1, 2, 3, 6, 7, 8] rfl (by kernel_rfl) (Quiet.move rfl) ?_
    refine D.qw [2, 3, 6, 7, 8] rfl (by kernel_rfl) (Quiet.nilp rfl) ?_
    refine D.qw [3, 6, 7, 8] rfl (by kernel_rfl) (Quiet.fieldAddr rfl fo_136_1) ?_
    refine D.qw [6, 7, 8] rfl (by kernel_rfl) (Quiet.load rfl ag_134 (by (repeat (first | exact Pick.here | apply Pick.there))) (rfl)) ?_
    refine D.qw [5, 6, 7, 8] rfl (by kernel_rfl) (Quiet.fieldAddr rfl fo_138_1) ?_
    refine D.qw [6, 7, 8] rfl (by kernel_rfl) (Quiet.load rfl ag_3 (by (repeat (first | exact Pick.here | apply Pick.there))) (rfl)) ?_
    refine D.qw [7, 8] rfl (by kernel_rfl) (Quiet.lookupY (m := bm) (enc := bkV) (KeyLaw.int Try.underlying3) (hbk) rfl rfl Try.underlying134 ze_148 (by (repeat (first | exact Pick.here | apply Pick.there))) rfl) ?_
    refine D.qw [8] rfl (by kernel_rfl) (Quiet.maplen rfl Try.underlying148 rfl (by (repeat (first | exact Pick.here | apply Pick.there)))) ?_
    refine D.qw [] rfl (by kernel_rfl) (Quiet.int rfl rfl rfl) ?_
    refine D.ph ?_
    refine Phases.fin ?_
    refine G.then_n ?_
    refine G.condD rfl (fun h33 => ?_) (fun h33 => ?_)
    · refine G.draw [6] [[0, 1, 2, 3, 4, 5, 6]] mixed (by kernel_rfl) ?_
      refine Phases.go [] (by (repeat (first | exact Picks.nil | (apply Picks.cons; (repeat (first | exact Pick.here | apply Pick.there)))))) ?_
      refine D.qw [1, 2, 3, 6] rfl (by kernel_rfl) (Quiet.move rfl) ?_
      refine D.qw [2, 3, 6] rfl (by kernel_rfl) (Quiet.nilp rfl) ?_
      refine D.qw [3, 6] rfl (by kernel_rfl) (Quiet.fieldAddr rfl fo_136_1) ?_
      refine D.qw [6] rfl (by kernel_rfl) (Quiet.load rfl ag_134 (by (repeat (first | exact Pick.here | apply Pick.there))) (rfl)) ?_
      refine D.qw [5, 6] rfl (by kernel_rfl) (Quiet.fieldAddr rfl fo_138_1) ?_
      refine D.qw [6] rfl (by kernel_rfl) (Quiet.load rfl ag_3 (by (repeat (first | exact Pick.here | apply Pick.there))) (rfl)) ?_
      refine D.h rfl (by kernel_rfl) (OpSpec.mapDel (m := bm) (enc := bkV) (KeyLaw.int Try.underlying3) rfl rfl rfl Try.underlying134 ?he53) (by (repeat (first | exact Picks.nil | (apply Picks.cons; (repeat (first | exact Pick.here | apply Pick.there)))))) ?nx54
      case he53 => rfl
      rintro v L' rfl
      refine D.ph ?_
      refine Phases.fin ?_
      refine G.then_n ?_
      refine G.region ?_
      refine G.q (Quiet.move rfl) rfl ?_
      refine G.q (Quiet.nilp rfl) rfl ?_
      refine G.q (Quiet.fieldAddr rfl fo_136_0) rfl ?_
      refine G.q (Quiet.load rfl ag_133 (by (repeat (first | exact Pick.here | apply Pick.there))) (rfl)) rfl ?_
      refine G.q (Quiet.move rfl) rfl ?_
      refine G.op (OpSpec.mapDel (m := ms) (enc := entV) (KeyLaw.int Try.underlying3) rfl rfl rfl Try.underlying133 ?he60) (by (repeat (first | exact Picks.nil | (apply Picks.cons; (repeat (first | exact Pick.here | apply Pick.there)))))) rfl ?nx61
      case he60 => rfl
      rintro v L' rfl
      refine G.nil ?_
      refine G.done_n ?_
      have hI2 := hI.del (bm' := adel bm d) hal hbk (by rw [if_pos (by simpa using h33)])
      refine G.tkFold hI2 (by (repeat (first | exact Picks.nil | (apply Picks.cons; (repeat (first | exact Pick.here | apply Pick.there)))))) rfl rfl ?_
      exact G.done (l := []) rfl rfl ⟨rfl, rfl⟩ (by (repeat (first | exact Picks.nil | (apply Picks.cons; (repeat (first | exact Pick.here | apply Pick.there)))))) (by (repeat (first | exact Suff.here | apply Suff.there)))
    · refine G.skip ?_
      refine G.then_n ?_
      refine G.region ?_
      refine G.q (Quiet.move rfl) rfl ?_
      refine G.q (Quiet.nilp rfl) rfl ?_
      refine G.q (Quiet.fieldAddr rfl fo_136_0) rfl ?_
      refine G.q (Quiet.load rfl ag_133 (by (repeat (first | exact Pick.here | apply Pick.there))) (rfl)) rfl ?_
      refine G.q (Quiet.move rfl) rfl ?_
      refine G.op (OpSpec.mapDel (m := ms) (enc := entV) (KeyLaw.int Try.underlying3) rfl rfl rfl Try.underlying133 ?he67) (by (repeat (first | exact Picks.nil | (apply Picks.cons; (repeat (first | exact Pick.here | apply Pick.there)))))) rfl ?nx68
      case he67 => rfl
      rintro v L' rfl
      refine G.nil ?_
      refine G.done_n ?_
      have hI2 := hI.del (bm' := aset bm d (p, adel l id)) hal hbk (by rw [if_neg (by simpa using h33)])
      refine G.bigPut (f := inR) (m := bm) d (p, adel l id) rfl (by (repeat (first | exact Picks.nil | (apply Picks.cons; (repeat (first | exact Pick.here | apply Pick.there)))))) ?_
      refine G.tkFold hI2 (by (repeat (first | exact Picks.nil | (apply Picks.cons; (repeat (first | exact Pick.here | apply Pick.there)))))) rfl (bksM_set (y' := (p, adel l id)) hbk rfl).symm ?_
      exact G.done (l := []) rfl rfl ⟨rfl, rfl⟩ (by (repeat (first | exact Picks.nil | (apply Picks.cons; (repeat (first | exact Pick.here | apply Pick.there)))))) (by (repeat (first | exact Suff.here | apply Suff.there)))

set_option maxRecDepth 100000 in
theorem lay_spec (t : Nat) (σ : Ses) (id to d : Int) (hσ : Sorted σ) (hok : SOk (sins σ id (to, d))) : Fn Try.prog 92 #[vptr t, vint id, vint to, vint d] [tkR t σ] fun v L => v = .tuple #[] ∧ L = [tkR t (sins σ id (to, d))] := by
  refine Fn.intro (vs := [vptr t, vint id, vint to, vint d]) Try.func92 rfl rfl ?_
  intro F W
  have hal : alook (adel σ id) id = none := by rw [al_adel hσ.nodup, if_pos rfl]
  have hok2 : SOk (sins (adel σ id) id (to, d)) := by rw [sins_adel hσ]; exact hok
  rw [← sins_adel hσ]
  refine G.seq ?_
  refine G.region ?_
  refine G.q (Quiet.move rfl) rfl ?_
  refine G.q (Quiet.move rfl) rfl ?_
  refine G.op (OpSpec.call Try.func93 rfl rfl (vs := [_, _]) rfl (lift_spec _ _ _)) (by (repeat (first | exact Picks.nil | (apply Picks.cons; (repeat (first | exact Pick.here | apply Pick.there)))))) rfl ?nx3
  rintro v L' ⟨rfl, rfl⟩
  refine G.nil ?_
  refine G.then_n ?_
  refine G.seq ?_
  refine G.tkOpen (σ := adel σ id) (by (repeat (first | exact Pick.here | apply Pick.there))) fun rs rb ms bm hI => ?_
  refine G.region ?_
  refine G.q (Quiet.move rfl) rfl ?_
  refine G.q (Quiet.nilp rfl) rfl ?_
  refine G.q (Quiet.fieldAddr rfl fo_136_0) rfl ?_
  refine G.q (Quiet.load rfl ag_133 (by (repeat (first | exact Pick.here | apply Pick.there))) (rfl)) rfl ?_
  refine G.q (Quiet.move rfl) rfl ?_
  refine G.q (Quiet.move rfl) rfl ?_
  refine G.q (Quiet.move rfl) rfl ?_
  refine G.q (Quiet.build (us := [(0, _), (1, _)]) fl_138 ze_138 rfl rfl (by simp [isCell])) rfl ?_
  refine G.op (OpSpec.mapSet (m := ms) (enc := entV) (v := (to, d)) (KeyLaw.int Try.underlying3) rfl rfl rfl Try.underlying133 ?he13) (by (repeat (first | exact Picks.nil | (apply Picks.cons; (repeat (first | exact Pick.here | apply Pick.there)))))) rfl ?nx14
  case he13 => rfl
  rintro v L' rfl
  refine G.nil ?_
  refine G.then_n ?_
  refine G.seq ?_
  refine G.seq ?_
  refine G.region ?_
  refine G.q (Quiet.move rfl) rfl ?_
  refine G.q (Quiet.nilp rfl) rfl ?_
  refine G.q (Quiet.fieldAddr rfl fo_136_1) rfl ?_
  refine G.q (Quiet.load rfl ag_134 (by (repeat (first | exact Pick.here | apply Pick.there))) (rfl)) rfl ?_
  refine G.q (Quiet.move rfl) rfl ?_
  rcases hbk : alook bm d with _ | ⟨p, l⟩
  · refine G.q (Quiet.lookupN (m := bm) (enc := bkV) (KeyLaw.int Try.underlying3) (hbk) rfl rfl Try.underlying134 ze_148 (by (repeat (first | exact Pick.here | apply Pick.there))) rfl) rfl ?_
    refine G.q (Quiet.mapeq rfl rfl Try.underlying148) rfl ?_
    refine G.nil ?_
    refine G.then_n ?_
    refine G.condT rfl ?_
    refine G.region ?_
    refine G.q (Quiet.move rfl) rfl ?_
    refine G.q (Quiet.nilp rfl) rfl ?_
    refine G.q (Quiet.fieldAddr rfl fo_136_1) rfl ?_
    refine G.q (Quiet.load rfl ag_134 (by (repeat (first | exact Pick.here | apply Pick.there))) (rfl)) rfl ?_
    refine G.q (Quiet.move rfl) rfl ?_
    refine G.op (OpSpec.makeMap Try.underlying148) (by (repeat (first | exact Picks.nil | (apply Picks.cons; (repeat (first | exact Pick.here | apply Pick.there)))))) rfl ?nx27
    rintro v L' ⟨p, rfl, rfl⟩
    refine G.op (OpSpec.mapSet (m := bm) (enc := bkV) (v := (p, [])) (KeyLaw.int Try.underlying3) rfl rfl rfl Try.underlying134 ?he29) (by (repeat (first | exact Picks.nil | (apply Picks.cons; (repeat (first | exact Pick.here | apply Pick.there)))))) rfl ?nx30
    case he29 => rfl
    rintro v L' rfl
    refine G.nil ?_
    refine G.fold (p := mapR p []) (.cons (p := pt p (.map #[] 0)) (by (repeat (first | exact Pick.here | apply Pick.there))) .nil) (fun h hp => mapR_new (sep_pt hp)) ?_
    refine G.then_n ?_
    refine G.region ?_
    refine G.q (Quiet.move rfl) rfl ?_
    refine G.q (Quiet.nilp rfl) rfl ?_
    refine G.q (Quiet.fieldAddr rfl fo_136_1) rfl ?_
    refine G.q (Quiet.load rfl ag_134 (by (repeat (first | exact Pick.here | apply Pick.there))) (rfl)) rfl ?_
    refine G.q (Quiet.move rfl) rfl ?_
    refine G.q (Quiet.lookupY (m := aset bm d (p, [])) (enc := bkV) (KeyLaw.int Try.underlying3) (by rw [al_aset, if_pos rfl]) rfl rfl Try.underlying134 ze_148 (by (repeat (first | exact Pick.here | apply Pick.there))) rfl) rfl ?_
    refine G.q (Quiet.move rfl) rfl ?_
    refine G.q (Quiet.build (us := []) fl_169 ze_169 rfl rfl (by simp [isCell])) rfl ?_
    refine G.op (OpSpec.mapSet (m := []) (enc := unitV) (v := ()) (KeyLaw.int Try.underlying3) rfl rfl rfl Try.underlying148 ?he39) (by (repeat (first | exact Picks.nil | (apply Picks.cons; (repeat (first | exact Pick.here | apply Pick.there)))))) rfl ?nx40
    case he39 => rfl
    rintro v L' rfl
    refine G.nil ?_
    refine G.done_n ?_
    have hI2 := hI.ins (y := (p, [])) hal hok2 (.inl ⟨hbk, rfl⟩) rfl
    refine G.bigPut (f := inR) (m := bm) d (p, aset [] id ()) rfl (by rw [adel_none hbk]; (repeat (first | exact Picks.nil | (apply Picks.cons; (repeat (first | exact Pick.here | apply Pick.there)))))) ?_
    refine G.tkFold hI2 (by (repeat (first | exact Picks.nil | (apply Picks.cons; (repeat (first | exact Pick.here | apply Pick.there)))))) rfl (by show bksM (aset bm d (p, [])) = bksM (aset bm d (p, aset [] id ())); rw [← aset_aset (v := (p, [])) (w := (p, aset [] id ()))]; exact (bksM_set (y := (p, [])) (y' := (p, aset [] id ())) (by rw [al_aset, if_pos rfl]) rfl).symm) ?_
    exact G.done (l := []) rfl rfl ⟨rfl, rfl⟩ (by (repeat (first | exact Picks.nil | (apply Picks.cons; (repeat (first | exact Pick.here | apply Pick.there)))))) (by (repeat (first | exact Suff.here | apply Suff.there)))
  · refine G.bigTake hbk (by (repeat (first | exact Pick.here | apply Pick.there))) ?_
    refine G.q (Quiet.lookupY (m := bm) (enc := bkV) (KeyLaw.int Try.underlying3) (hbk) rfl rfl Try.underlying134 ze_148 (by (repeat (first | exact Pick.here | apply Pick.there))) rfl) rfl ?_
    refine G.q (Quiet.mapeq rfl rfl Try.underlying148) rfl ?_
    refine G.nil ?_
    refine G.then_n ?_
    refine G.condF rfl ?_
    refine G.skip ?_
    refine G.then_n ?_
    refine G.region ?_
    refine G.q (Quiet.move rfl) rfl ?_
    refine G.q (Quiet.nilp rfl) rfl ?_
    refine G.q (Quiet.fieldAddr rfl fo_136_1) rfl ?_
    refine G.q (Quiet.load rfl ag_134 (by (repeat (first | exact Pick.here | apply Pick.there))) (rfl)) rfl ?_
    refine G.q (Quiet.move rfl) rfl ?_
    refine G.q (Quiet.lookupY (m := bm) (enc := bkV) (KeyLaw.int Try.underlying3) (hbk) rfl rfl Try.underlying134 ze_148 (by (repeat (first | exact Pick.here | apply Pick.there))) rfl) rfl ?_
    refine G.q (Quiet.move rfl) rfl ?_
    refine G.q (Quiet.build (us := []) fl_169 ze_169 rfl rfl (by simp [isCell])) rfl ?_
    refine G.op (OpSpec.mapSet (m := l) (enc := unitV) (v := ()) (KeyLaw.int Try.underlying3) rfl rfl rfl Try.underlying148 ?he51) (by (repeat (first | exact Picks.nil | (apply Picks.cons; (repeat (first | exact Pick.here | apply Pick.there)))))) rfl ?nx52
    case he51 => rfl
    rintro v L' rfl
    refine G.nil ?_
    refine G.done_n ?_
    have hI2 := hI.ins (y := (p, l)) hal hok2 (.inr hbk) rfl
    refine G.bigPut (f := inR) (m := bm) d (p, aset l id ()) rfl (by (repeat (first | exact Picks.nil | (apply Picks.cons; (repeat (first | exact Pick.here | apply Pick.there)))))) ?_
    refine G.tkFold hI2 (by (repeat (first | exact Picks.nil | (apply Picks.cons; (repeat (first | exact Pick.here | apply Pick.there)))))) rfl (bksM_set (y' := (p, aset l id ())) hbk rfl).symm ?_
    exact G.done (l := []) rfl rfl ⟨rfl, rfl⟩ (by (repeat (first | exact Picks.nil | (apply Picks.cons; (repeat (first | exact Pick.here | apply Pick.there)))))) (by (repeat (first | exact Suff.here | apply Suff.there)))

set_option maxRecDepth 100000 in
theorem topen_spec (t : Nat) (σ : Ses) (id to now : Int) (hid : id ≤ 9223372036854775807) : Fn Try.prog 37 #[vptr t, vint id, vint to, vint now] [tkR t σ] fun v L => v = vint (sOpen σ id to now).2 ∧ L = [tkR t (sOpen σ id to now).1] := by
  refine Fn.intro (vs := [vptr t, vint id, vint to, vint now]) Try.func37 rfl rfl ?_
  intro F W
  refine G.tkOpen (σ := σ) (by (repeat (first | exact Pick.here | apply Pick.there))) fun rs rb ms bm hI => ?_
  refine G.seq ?_
  refine G.region ?_
  refine G.q (Quiet.assign rfl) rfl ?_
  refine G.nil ?_
  refine G.then_n ?_
  refine G.seq ?_
  refine G.seq ?_
  refine G.region ?_
  refine G.q (Quiet.move rfl) rfl ?_
  refine G.q (Quiet.int rfl rfl rfl) rfl ?_
  refine G.q (Quiet.move rfl) rfl ?_
  refine G.dec (t := 13) rfl (fun h1_13 => ?_) (fun h1_13 => ?_)
  · refine G.kDT (t := 12) rfl h1_13 ?_
    refine G.gskip (t := 13) rfl rfl rfl rfl ?_
    refine G.gskip (t := 13) rfl rfl rfl rfl ?_
    refine G.q (Quiet.pickT rfl rfl) rfl ?_
    refine G.q (Quiet.move rfl) rfl ?_
    refine G.gskip (t := 17) rfl rfl rfl rfl ?_
    refine G.gskip (t := 17) rfl rfl rfl rfl ?_
    refine G.q (Quiet.pickT rfl rfl) rfl ?_
    refine G.q (Quiet.move rfl) rfl ?_
    refine G.gskip (t := 21) rfl rfl rfl rfl ?_
    refine G.gskip (t := 21) rfl rfl rfl rfl ?_
    refine G.gskip (t := 21) rfl rfl rfl rfl ?_
    refine G.q (Quiet.pickT rfl rfl) rfl ?_
    refine G.nil ?_
    refine G.then_n ?_
    refine G.condT rfl ?_
    refine G.seq ?_
    refine G.region ?_
    refine G.q (Quiet.assign rfl) rfl ?_
    refine G.nil ?_
    refine G.then_n ?_
    refine G.ret ?_
    refine G.then_r ?_
    have e : sOpen σ id to now = (σ, 1) := by unfold sOpen; rw [if_pos (by first | exact .inl h1_13 | exact .inr (.inl h1_17) | exact .inr (.inr (.inl h1_21)) | (simp at h25; exact .inr (.inr (.inr h25))))]
    rw [e]
    refine G.tkFold hI (by (repeat (first | exact Picks.nil | (apply Picks.cons; (repeat (first | exact Pick.here | apply Pick.there)))))) rfl rfl ?_
    exact G.done (l := [.tmp 8]) rfl rfl ⟨rfl, rfl⟩ (by (repeat (first | exact Picks.nil | (apply Picks.cons; (repeat (first | exact Pick.here | apply Pick.there)))))) (by (repeat (first | exact Suff.here | apply Suff.there)))
  · refine G.kDF (t := 12) rfl h1_13 ?_
    refine G.grun (t := 13) rfl rfl rfl ?_
    refine G.q (Quiet.move rfl) rfl ?_
    refine G.grun (t := 13) rfl rfl rfl ?_
    refine G.q (Quiet.int rfl rfl rfl) rfl ?_
    refine G.q (Quiet.pickF rfl rfl) rfl ?_
    refine G.q (Quiet.move rfl) rfl ?_
    refine G.dec (t := 17) rfl (fun h1_17 => ?_) (fun h1_17 => ?_)
    · refine G.kDT (t := 15) rfl h1_17 ?_
      refine G.kDT (t := 16) rfl h1_17 ?_
      refine G.gskip (t := 17) rfl rfl rfl rfl ?_
      refine G.gskip (t := 17) rfl rfl rfl rfl ?_
      refine G.q (Quiet.pickT rfl rfl) rfl ?_
      refine G.q (Quiet.move rfl) rfl ?_
      refine G.gskip (t := 21) rfl rfl rfl rfl ?_
      refine G.gskip (t := 21) rfl rfl rfl rfl ?_
      refine G.gskip (t := 21) rfl rfl rfl rfl ?_
      refine G.q (Quiet.pickT rfl rfl) rfl ?_
      refine G.nil ?_
      refine G.then_n ?_
      refine G.condT rfl ?_
      refine G.seq ?_
      refine G.region ?_
      refine G.q (Quiet.assign rfl) rfl ?_
      refine G.nil ?_
      refine G.then_n ?_
      refine G.ret ?_
      refine G.then_r ?_
      have e : sOpen σ id to now = (σ, 1) := by unfold sOpen; rw [if_pos (by first | exact .inl h1_13 | exact .inr (.inl h1_17) | exact .inr (.inr (.inl h1_21)) | (simp at h25; exact .inr (.inr (.inr h25))))]
      rw [e]
      refine G.tkFold hI (by (repeat (first | exact Picks.nil | (apply Picks.cons; (repeat (first | exact Pick.here | apply Pick.there)))))) rfl rfl ?_
      exact G.done (l := [.tmp 8]) rfl rfl ⟨rfl, rfl⟩ (by (repeat (first | exact Picks.nil | (apply Picks.cons; (repeat (first | exact Pick.here | apply Pick.there)))))) (by (repeat (first | exact Suff.here | apply Suff.there)))
    · refine G.kDF (t := 15) rfl h1_17 ?_
      refine G.kDF (t := 16) rfl h1_17 ?_
      refine G.grun (t := 17) rfl rfl rfl ?_
      refine G.q (Quiet.move rfl) rfl ?_
      refine G.grun (t := 17) rfl rfl rfl ?_
      refine G.q (Quiet.int rfl rfl rfl) rfl ?_
      refine G.q (Quiet.pickF rfl rfl) rfl ?_
      refine G.q (Quiet.move rfl) rfl ?_
      refine G.dec (t := 21) rfl (fun h1_21 => ?_) (fun h1_21 => ?_)
      · refine G.kDT (t := 19) rfl h1_21 ?_
        refine G.kDT (t := 20) rfl h1_21 ?_
        refine G.gskip (t := 21) rfl rfl rfl rfl ?_
        refine G.gskip (t := 21) rfl rfl rfl rfl ?_
        refine G.gskip (t := 21) rfl rfl rfl rfl ?_
        refine G.q (Quiet.pickT rfl rfl) rfl ?_
        refine G.nil ?_
        refine G.then_n ?_
        refine G.condT rfl ?_
        refine G.seq ?_
        refine G.region ?_
        refine G.q (Quiet.assign rfl) rfl ?_
        refine G.nil ?_
        refine G.then_n ?_
        refine G.ret ?_
        refine G.then_r ?_
        have e : sOpen σ id to now = (σ, 1) := by unfold sOpen; rw [if_pos (by first | exact .inl h1_13 | exact .inr (.inl h1_17) | exact .inr (.inr (.inl h1_21)) | (simp at h25; exact .inr (.inr (.inr h25))))]
        rw [e]
        refine G.tkFold hI (by (repeat (first | exact Picks.nil | (apply Picks.cons; (repeat (first | exact Pick.here | apply Pick.there)))))) rfl rfl ?_
        exact G.done (l := [.tmp 8]) rfl rfl ⟨rfl, rfl⟩ (by (repeat (first | exact Picks.nil | (apply Picks.cons; (repeat (first | exact Pick.here | apply Pick.there)))))) (by (repeat (first | exact Suff.here | apply Suff.there)))
      · refine G.kDF (t := 19) rfl h1_21 ?_
        refine G.kDF (t := 20) rfl h1_21 ?_
        refine G.grun (t := 21) rfl rfl rfl ?_
        refine G.q (Quiet.move rfl) rfl ?_
        refine G.grun (t := 21) rfl rfl rfl ?_
        refine G.op (OpSpec.call Try.func90 rfl rfl (vs := [_]) rfl (isTime_spec _)) (by (repeat (first | exact Picks.nil | (apply Picks.cons; (repeat (first | exact Pick.here | apply Pick.there)))))) rfl ?nx18
        rintro v L' ⟨rfl, rfl⟩
        refine G.grun (t := 21) rfl rfl rfl ?_
        refine G.q (Quiet.not rfl) rfl ?_
        refine G.q (Quiet.pickF rfl rfl) rfl ?_
        refine G.nil ?_
        refine G.then_n ?_
        refine G.condN rfl (fun h25 => ?_) (fun h25 => ?_)
        · refine G.seq ?_
          refine G.region ?_
          refine G.q (Quiet.assign rfl) rfl ?_
          refine G.nil ?_
          refine G.then_n ?_
          refine G.ret ?_
          refine G.then_r ?_
          have e : sOpen σ id to now = (σ, 1) := by unfold sOpen; rw [if_pos (by first | exact .inl h1_13 | exact .inr (.inl h1_17) | exact .inr (.inr (.inl h1_21)) | (simp at h25; exact .inr (.inr (.inr h25))))]
          rw [e]
          refine G.tkFold hI (by (repeat (first | exact Picks.nil | (apply Picks.cons; (repeat (first | exact Pick.here | apply Pick.there)))))) rfl rfl ?_
          exact G.done (l := [.tmp 8]) rfl rfl ⟨rfl, rfl⟩ (by (repeat (first | exact Picks.nil | (apply Picks.cons; (repeat (first | exact Pick.here | apply Pick.there)))))) (by (repeat (first | exact Suff.here | apply Suff.there)))
        · refine G.skip ?_
          refine G.then_n ?_
          refine G.seq ?_
          refine G.seq ?_
          have hbad : ¬ badTime now := by simpa using h25
          have hnot : ¬ (id < 1 ∨ to < 4 ∨ to > 60 ∨ badTime now) := by rintro (h | h | h | h) <;> first | omega | exact hbad h
          have hms : ms.length = σ.length := hI.perm.length_eq
          have hf := hI.ok.few
          refine G.region ?_
          refine G.q (Quiet.move rfl) rfl ?_
          refine G.q (Quiet.nilp rfl) rfl ?_
          refine G.q (Quiet.fieldAddr rfl fo_136_0) rfl ?_
          refine G.q (Quiet.load rfl ag_133 (by (repeat (first | exact Pick.here | apply Pick.there))) (rfl)) rfl ?_
          refine G.q (Quiet.move rfl) rfl ?_
          rcases hal : alook σ id with _ | ⟨to0, d0⟩
          · refine G.q (Quiet.lookupOkN (m := ms) (enc := entV) (KeyLaw.int Try.underlying3) (by rw [hI.look]; exact hal) rfl rfl Try.underlying133 ze_138 (by (repeat (first | exact Pick.here | apply Pick.there))) rfl) rfl ?_
            refine G.q (Quiet.move rfl) rfl ?_
            refine G.q (Quiet.extract rfl rfl) rfl ?_
            refine G.q (Quiet.extract rfl rfl) rfl ?_
            refine G.op (OpSpec.allocA ze_138) (by (repeat (first | exact Picks.nil | (apply Picks.cons; (repeat (first | exact Pick.here | apply Pick.there)))))) rfl ?nx30
            rintro v L' ⟨be, rfl, rfl⟩
            refine G.op (OpSpec.storeA rfl rfl ?c32 sz_138 ?c35 ?c33 ?c34) (by (repeat (first | exact Picks.nil | (apply Picks.cons; (repeat (first | exact Pick.here | apply Pick.there)))))) rfl ?nx36
            case c32 => (first | (simp [isCell]; done) | (simp [isCell, setAll, Value.cells]; done))
            case c35 => (first | (simp; done) | (simp [setAll, spl, Value.cells]; done))
            case c33 => (first | (simp; done) | (simp [setAll, spl, Value.cells]; done))
            case c34 => exact nfz0 _ _
            rintro v L' rfl
            refine G.q (Quiet.assign rfl) rfl ?_
            refine G.nil ?_
            refine G.then_n ?_
            refine G.seq ?_
            refine G.region ?_
            refine G.q (Quiet.move rfl) rfl ?_
            refine G.q (Quiet.not rfl) rfl ?_
            refine G.q (Quiet.move rfl) rfl ?_
            refine G.grun (t := 37) rfl rfl rfl ?_
            refine G.q (Quiet.move rfl) rfl ?_
            refine G.grun (t := 37) rfl rfl rfl ?_
            refine G.q (Quiet.nilp rfl) rfl ?_
            refine G.grun (t := 37) rfl rfl rfl ?_
            refine G.q (Quiet.fieldAddr rfl fo_136_0) rfl ?_
            refine G.grun (t := 37) rfl rfl rfl ?_
            refine G.q (Quiet.load rfl ag_133 (by (repeat (first | exact Pick.here | apply Pick.there))) (rfl)) rfl ?_
            refine G.grun (t := 37) rfl rfl rfl ?_
            refine G.q (Quiet.maplen rfl Try.underlying133 rfl (by (repeat (first | exact Pick.here | apply Pick.there)))) rfl ?_
            refine G.grun (t := 37) rfl rfl rfl ?_
            refine G.q (Quiet.int rfl rfl rfl) rfl ?_
            refine G.q (Quiet.pickT rfl rfl) rfl ?_
            refine G.nil ?_
            refine G.then_n ?_
            refine G.condD rfl (fun h44 => ?_) (fun h44 => ?_)
            · refine G.seq ?_
              refine G.region ?_
              refine G.q (Quiet.assign rfl) rfl ?_
              refine G.nil ?_
              refine G.then_n ?_
              refine G.ret ?_
              refine G.then_r ?_
              have e : sOpen σ id to now = (σ, 91) := by unfold sOpen; rw [if_neg hnot, if_pos ⟨hal, by simp at h44; omega⟩]
              rw [e]
              refine G.tkFold hI (by (repeat (first | exact Picks.nil | (apply Picks.cons; (repeat (first | exact Pick.here | apply Pick.there)))))) rfl rfl ?_
              exact G.done (l := [.tmp 8]) rfl rfl ⟨rfl, rfl⟩ (by (repeat (first | exact Picks.nil | (apply Picks.cons; (repeat (first | exact Pick.here | apply Pick.there)))))) (by (repeat (first | exact Suff.here | apply Suff.there)))
            · refine G.skip ?_
              refine G.then_n ?_
              refine G.seq ?_
              have e : sOpen σ id to now = (sins σ id (to, endsZ now to), 0) := by unfold sOpen; rw [if_neg hnot, if_neg (by rintro ⟨h1, h2⟩; simp at h44; omega)]
              have hok := hI.ok.opened id to now hid
              rw [e] at hok
              refine G.tkFold hI (by (repeat (first | exact Picks.nil | (apply Picks.cons; (repeat (first | exact Pick.here | apply Pick.there)))))) rfl rfl ?_
              refine G.region ?_
              refine G.q (Quiet.move rfl) rfl ?_
              refine G.q (Quiet.move rfl) rfl ?_
              refine G.q (Quiet.move rfl) rfl ?_
              refine G.q (Quiet.move rfl) rfl ?_
              refine G.q (Quiet.move rfl) rfl ?_
              refine G.op (OpSpec.call Try.func91 rfl rfl (vs := [_, _]) rfl (ends_spec _ _ ?hb50 ?h151 ?h252)) (by (repeat (first | exact Picks.nil | (apply Picks.cons; (repeat (first | exact Pick.here | apply Pick.there)))))) rfl ?nx53
              case hb50 => assumption
              case h151 => omega
              case h252 => omega
              rintro v L' ⟨rfl, rfl⟩
              refine G.op (OpSpec.call Try.func92 rfl rfl (vs := [_, _, _, _]) rfl (lay_spec _ _ _ _ _ ?hs55 ?hok56)) (by (repeat (first | exact Picks.nil | (apply Picks.cons; (repeat (first | exact Pick.here | apply Pick.there)))))) rfl ?nx57
              case hs55 => exact hI.ok.sorted
              case hok56 => assumption
              rintro v L' ⟨rfl, rfl⟩
              refine G.nil ?_
              refine G.then_n ?_
              refine G.seq ?_
              refine G.region ?_
              refine G.q (Quiet.assign rfl) rfl ?_
              refine G.nil ?_
              refine G.then_n ?_
              refine G.ret ?_
              rw [e]
              exact G.done (l := [.tmp 8]) rfl rfl ⟨rfl, rfl⟩ (by (repeat (first | exact Picks.nil | (apply Picks.cons; (repeat (first | exact Pick.here | apply Pick.there)))))) (by (repeat (first | exact Suff.here | apply Suff.there)))
          · refine G.q (Quiet.lookupOkY (m := ms) (enc := entV) (KeyLaw.int Try.underlying3) (by rw [hI.look]; exact hal) rfl rfl Try.underlying133 ze_138 (by (repeat (first | exact Pick.here | apply Pick.there))) rfl) rfl ?_
            refine G.q (Quiet.move rfl) rfl ?_
            refine G.q (Quiet.extract rfl rfl) rfl ?_
            refine G.q (Quiet.extract rfl rfl) rfl ?_
            refine G.op (OpSpec.allocA ze_138) (by (repeat (first | exact Picks.nil | (apply Picks.cons; (repeat (first | exact Pick.here | apply Pick.there)))))) rfl ?nx63
            rintro v L' ⟨be, rfl, rfl⟩
            refine G.op (OpSpec.storeA rfl rfl ?c65 sz_138 ?c68 ?c66 ?c67) (by (repeat (first | exact Picks.nil | (apply Picks.cons; (repeat (first | exact Pick.here | apply Pick.there)))))) rfl ?nx69
            case c65 => (first | (simp [isCell]; done) | (simp [isCell, setAll, Value.cells]; done))
            case c68 => (first | (simp; done) | (simp [setAll, spl, Value.cells]; done))
            case c66 => (first | (simp; done) | (simp [setAll, spl, Value.cells]; done))
            case c67 => exact nfz0 _ _
            rintro v L' rfl
            refine G.q (Quiet.assign rfl) rfl ?_
            refine G.nil ?_
            refine G.then_n ?_
            refine G.seq ?_
            refine G.region ?_
            refine G.q (Quiet.move rfl) rfl ?_
            refine G.q (Quiet.not rfl) rfl ?_
            refine G.q (Quiet.move rfl) rfl ?_
            refine G.gskip (t := 37) rfl rfl rfl rfl ?_
            refine G.gskip (t := 37) rfl rfl rfl rfl ?_
            refine G.gskip (t := 37) rfl rfl rfl rfl ?_
            refine G.gskip (t := 37) rfl rfl rfl rfl ?_
            refine G.gskip (t := 37) rfl rfl rfl rfl ?_
            refine G.gskip (t := 37) rfl rfl rfl rfl ?_
            refine G.q (Quiet.pickF rfl rfl) rfl ?_
            refine G.nil ?_
            refine G.then_n ?_
            refine G.condF rfl ?_
            refine G.skip ?_
            refine G.then_n ?_
            refine G.seq ?_
            have e : sOpen σ id to now = (sins σ id (to, endsZ now to), 0) := by unfold sOpen; rw [if_neg hnot, if_neg (by rintro ⟨h1, h2⟩; rw [hal] at h1; cases h1)]
            have hok := hI.ok.opened id to now hid
            rw [e] at hok
            refine G.tkFold hI (by (repeat (first | exact Picks.nil | (apply Picks.cons; (repeat (first | exact Pick.here | apply Pick.there)))))) rfl rfl ?_
            refine G.region ?_
            refine G.q (Quiet.move rfl) rfl ?_
            refine G.q (Quiet.move rfl) rfl ?_
            refine G.q (Quiet.move rfl) rfl ?_
            refine G.q (Quiet.move rfl) rfl ?_
            refine G.q (Quiet.move rfl) rfl ?_
            refine G.op (OpSpec.call Try.func91 rfl rfl (vs := [_, _]) rfl (ends_spec _ _ ?hb77 ?h178 ?h279)) (by (repeat (first | exact Picks.nil | (apply Picks.cons; (repeat (first | exact Pick.here | apply Pick.there)))))) rfl ?nx80
            case hb77 => assumption
            case h178 => omega
            case h279 => omega
            rintro v L' ⟨rfl, rfl⟩
            refine G.op (OpSpec.call Try.func92 rfl rfl (vs := [_, _, _, _]) rfl (lay_spec _ _ _ _ _ ?hs82 ?hok83)) (by (repeat (first | exact Picks.nil | (apply Picks.cons; (repeat (first | exact Pick.here | apply Pick.there)))))) rfl ?nx84
            case hs82 => exact hI.ok.sorted
            case hok83 => assumption
            rintro v L' ⟨rfl, rfl⟩
            refine G.nil ?_
            refine G.then_n ?_
            refine G.seq ?_
            refine G.region ?_
            refine G.q (Quiet.assign rfl) rfl ?_
            refine G.nil ?_
            refine G.then_n ?_
            refine G.ret ?_
            rw [e]
            exact G.done (l := [.tmp 8]) rfl rfl ⟨rfl, rfl⟩ (by (repeat (first | exact Picks.nil | (apply Picks.cons; (repeat (first | exact Pick.here | apply Pick.there)))))) (by (repeat (first | exact Suff.here | apply Suff.there)))

set_option maxRecDepth 100000 in
theorem ttouch_spec (t : Nat) (σ : Ses) (id now : Int) : Fn Try.prog 35 #[vptr t, vint id, vint now] [tkR t σ] fun v L => v = vint (sTouch σ id now).2 ∧ L = [tkR t (sTouch σ id now).1] := by
  refine Fn.intro (vs := [vptr t, vint id, vint now]) Try.func35 rfl rfl ?_
  intro F W
  refine G.tkOpen (σ := σ) (by (repeat (first | exact Pick.here | apply Pick.there))) fun rs rb ms bm hI => ?_
  refine G.seq ?_
  refine G.region ?_
  refine G.q (Quiet.assign rfl) rfl ?_
  refine G.nil ?_
  refine G.then_n ?_
  refine G.seq ?_
  refine G.region ?_
  refine G.q (Quiet.move rfl) rfl ?_
  refine G.q (Quiet.nilp rfl) rfl ?_
  refine G.q (Quiet.fieldAddr rfl fo_136_0) rfl ?_
  refine G.q (Quiet.load rfl ag_133 (by (repeat (first | exact Pick.here | apply Pick.there))) (rfl)) rfl ?_
  refine G.q (Quiet.move rfl) rfl ?_
  rcases hal : alook σ id with _ | ⟨to, d⟩
  · refine G.q (Quiet.lookupOkN (m := ms) (enc := entV) (KeyLaw.int Try.underlying3) (by rw [hI.look]; exact hal) rfl rfl Try.underlying133 ze_138 (by (repeat (first | exact Pick.here | apply Pick.there))) rfl) rfl ?_
    refine G.q (Quiet.move rfl) rfl ?_
    refine G.q (Quiet.extract rfl rfl) rfl ?_
    refine G.q (Quiet.extract rfl rfl) rfl ?_
    refine G.op (OpSpec.allocA ze_138) (by (repeat (first | exact Picks.nil | (apply Picks.cons; (repeat (first | exact Pick.here | apply Pick.there)))))) rfl ?nx10
    rintro v L' ⟨be, rfl, rfl⟩
    refine G.op (OpSpec.storeA rfl rfl ?c12 sz_138 ?c15 ?c13 ?c14) (by (repeat (first | exact Picks.nil | (apply Picks.cons; (repeat (first | exact Pick.here | apply Pick.there)))))) rfl ?nx16
    case c12 => (first | (simp [isCell]; done) | (simp [isCell, setAll, Value.cells]; done))
    case c15 => (first | (simp; done) | (simp [setAll, spl, Value.cells]; done))
    case c13 => (first | (simp; done) | (simp [setAll, spl, Value.cells]; done))
    case c14 => exact nfz0 _ _
    rintro v L' rfl
    refine G.q (Quiet.assign rfl) rfl ?_
    refine G.nil ?_
    refine G.then_n ?_
    refine G.seq ?_
    refine G.block ?_
    refine G.seq ?_
    refine G.region ?_
    refine G.q (Quiet.move rfl) rfl ?_
    refine G.q (Quiet.not rfl) rfl ?_
    refine G.q (Quiet.assign rfl) rfl ?_
    refine G.nil ?_
    refine G.then_n ?_
    refine G.condT rfl ?_
    refine G.seq ?_
    refine G.region ?_
    refine G.q (Quiet.assign rfl) rfl ?_
    refine G.nil ?_
    refine G.then_n ?_
    refine G.ret ?_
    refine G.blk_r ?_
    refine G.then_r ?_
    have e : sTouch σ id now = (σ, 90) := by unfold sTouch; rw [hal]
    rw [e]
    refine G.tkFold hI (by (repeat (first | exact Picks.nil | (apply Picks.cons; (repeat (first | exact Pick.here | apply Pick.there)))))) rfl rfl ?_
    exact G.done (l := [.tmp 6]) rfl rfl ⟨rfl, rfl⟩ (by (repeat (first | exact Picks.nil | (apply Picks.cons; (repeat (first | exact Pick.here | apply Pick.there)))))) (by (repeat (first | exact Suff.here | apply Suff.there)))
  · obtain ⟨fa, fb, fc, fd, fe, ff⟩ := hI.ok.look hal
    dsimp only at fa fb fc fd fe ff
    refine G.q (Quiet.lookupOkY (m := ms) (enc := entV) (KeyLaw.int Try.underlying3) (by rw [hI.look]; exact hal) rfl rfl Try.underlying133 ze_138 (by (repeat (first | exact Pick.here | apply Pick.there))) rfl) rfl ?_
    refine G.q (Quiet.move rfl) rfl ?_
    refine G.q (Quiet.extract rfl rfl) rfl ?_
    refine G.q (Quiet.extract rfl rfl) rfl ?_
    refine G.op (OpSpec.allocA ze_138) (by (repeat (first | exact Picks.nil | (apply Picks.cons; (repeat (first | exact Pick.here | apply Pick.there)))))) rfl ?nx22
    rintro v L' ⟨be, rfl, rfl⟩
    refine G.op (OpSpec.storeA rfl rfl ?c24 sz_138 ?c27 ?c25 ?c26) (by (repeat (first | exact Picks.nil | (apply Picks.cons; (repeat (first | exact Pick.here | apply Pick.there)))))) rfl ?nx28
    case c24 => (first | (simp [isCell]; done) | (simp [isCell, setAll, Value.cells]; done))
    case c27 => (first | (simp; done) | (simp [setAll, spl, Value.cells]; done))
    case c25 => (first | (simp; done) | (simp [setAll, spl, Value.cells]; done))
    case c26 => exact nfz0 _ _
    rintro v L' rfl
    refine G.q (Quiet.assign rfl) rfl ?_
    refine G.nil ?_
    refine G.then_n ?_
    refine G.seq ?_
    refine G.block ?_
    refine G.seq ?_
    refine G.region ?_
    refine G.q (Quiet.move rfl) rfl ?_
    refine G.q (Quiet.not rfl) rfl ?_
    refine G.q (Quiet.assign rfl) rfl ?_
    refine G.nil ?_
    refine G.then_n ?_
    refine G.condF rfl ?_
    refine G.seq ?_
    refine G.region ?_
    refine G.q (Quiet.move rfl) rfl ?_
    refine G.op (OpSpec.call Try.func90 rfl rfl (vs := [_]) rfl (isTime_spec _)) (by (repeat (first | exact Picks.nil | (apply Picks.cons; (repeat (first | exact Pick.here | apply Pick.there)))))) rfl ?nx31
    rintro v L' ⟨rfl, rfl⟩
    refine G.q (Quiet.not rfl) rfl ?_
    refine G.q (Quiet.assign rfl) rfl ?_
    refine G.nil ?_
    refine G.then_n ?_
    refine G.condN rfl (fun h22 => ?_) (fun h22 => ?_)
    · refine G.seq ?_
      refine G.region ?_
      refine G.q (Quiet.assign rfl) rfl ?_
      refine G.nil ?_
      refine G.then_n ?_
      refine G.ret ?_
      refine G.blk_r ?_
      refine G.then_r ?_
      have e : sTouch σ id now = (σ, 1) := by unfold sTouch; rw [hal]; dsimp only; rw [if_pos (by simpa using h22)]
      rw [e]
      refine G.tkFold hI (by (repeat (first | exact Picks.nil | (apply Picks.cons; (repeat (first | exact Pick.here | apply Pick.there)))))) rfl rfl ?_
      exact G.done (l := [.tmp 6]) rfl rfl ⟨rfl, rfl⟩ (by (repeat (first | exact Picks.nil | (apply Picks.cons; (repeat (first | exact Pick.here | apply Pick.there)))))) (by (repeat (first | exact Suff.here | apply Suff.there)))
    · refine G.skip ?_
      refine G.blk_n ?_
      refine G.then_n ?_
      refine G.seq ?_
      refine G.seq ?_
      have hbad : ¬ badTime now := by simpa using h22
      refine G.region ?_
      refine G.q (Quiet.move rfl) rfl ?_
      refine G.q (Quiet.fieldAddr rfl fo_138_0) rfl ?_
      refine G.q (Quiet.load rfl ag_3 (by (repeat (first | exact Pick.here | apply Pick.there))) (rfl)) rfl ?_
      refine G.op (OpSpec.call Try.func91 rfl rfl (vs := [_, _]) rfl (ends_spec _ _ ?hb38 ?h139 ?h240)) (by (repeat (first | exact Picks.nil | (apply Picks.cons; (repeat (first | exact Pick.here | apply Pick.there)))))) rfl ?nx41
      case hb38 => assumption
      case h139 => omega
      case h240 => omega
      rintro v L' ⟨rfl, rfl⟩
      refine G.q (Quiet.assign rfl) rfl ?_
      refine G.nil ?_
      refine G.then_n ?_
      refine G.seq ?_
      refine G.region ?_
      refine G.q (Quiet.move rfl) rfl ?_
      refine G.q (Quiet.fieldAddr rfl fo_138_1) rfl ?_
      refine G.q (Quiet.load rfl ag_3 (by (repeat (first | exact Pick.here | apply Pick.there))) (rfl)) rfl ?_
      refine G.q (Quiet.int rfl rfl rfl) rfl ?_
      refine G.nil ?_
      refine G.then_n ?_
      refine G.condD rfl (fun h33 => ?_) (fun h33 => ?_)
      · dsimp only at h33
        have e : sTouch σ id now = (sins σ id (to, endsZ now to), 0) := by unfold sTouch; rw [hal]; show (if badTime now then (σ, (1:Int)) else (sins σ id (to, max d (endsZ now to)), 0)) = _; rw [if_neg hbad, Int.max_eq_right (by omega)]
        have hok := hI.ok.touched id now
        rw [e] at hok
        refine G.tkFold hI (by (repeat (first | exact Picks.nil | (apply Picks.cons; (repeat (first | exact Pick.here | apply Pick.there)))))) rfl rfl ?_
        refine G.region ?_
        refine G.q (Quiet.move rfl) rfl ?_
        refine G.q (Quiet.move rfl) rfl ?_
        refine G.q (Quiet.fieldAddr rfl fo_138_0) rfl ?_
        refine G.q (Quiet.load rfl ag_3 (by (repeat (first | exact Pick.here | apply Pick.there))) (rfl)) rfl ?_
        refine G.q (Quiet.move rfl) rfl ?_
        refine G.op (OpSpec.call Try.func92 rfl rfl (vs := [_, _, _, _]) rfl (lay_spec _ _ _ _ _ ?hs50 ?hok51)) (by (repeat (first | exact Picks.nil | (apply Picks.cons; (repeat (first | exact Pick.here | apply Pick.there)))))) rfl ?nx52
        case hs50 => exact hI.ok.sorted
        case hok51 => assumption
        rintro v L' ⟨rfl, rfl⟩
        refine G.nil ?_
        refine G.then_n ?_
        refine G.seq ?_
        refine G.region ?_
        refine G.q (Quiet.assign rfl) rfl ?_
        refine G.nil ?_
        refine G.then_n ?_
        refine G.ret ?_
        rw [e]
        exact G.done (l := [.tmp 6]) rfl rfl ⟨rfl, rfl⟩ (by (repeat (first | exact Picks.nil | (apply Picks.cons; (repeat (first | exact Pick.here | apply Pick.there)))))) (by (repeat (first | exact Suff.here | apply Suff.there)))
      · dsimp only at h33
        refine G.skip ?_
        refine G.then_n ?_
        refine G.seq ?_
        refine G.region ?_
        refine G.q (Quiet.assign rfl) rfl ?_
        refine G.nil ?_
        refine G.then_n ?_
        refine G.ret ?_
        have e : sTouch σ id now = (σ, 0) := by unfold sTouch; rw [hal]; show (if badTime now then (σ, (1:Int)) else (sins σ id (to, max d (endsZ now to)), 0)) = _; rw [if_neg hbad, Int.max_eq_left (by omega), sins_self hI.ok.sorted hal]
        rw [e]
        refine G.tkFold hI (by (repeat (first | exact Picks.nil | (apply Picks.cons; (repeat (first | exact Pick.here | apply Pick.there)))))) rfl rfl ?_
        exact G.done (l := [.tmp 6]) rfl rfl ⟨rfl, rfl⟩ (by (repeat (first | exact Picks.nil | (apply Picks.cons; (repeat (first | exact Pick.here | apply Pick.there)))))) (by (repeat (first | exact Suff.here | apply Suff.there)))

set_option maxRecDepth 100000 in
theorem tclose_spec (t : Nat) (σ : Ses) (id : Int) : Fn Try.prog 36 #[vptr t, vint id] [tkR t σ] fun v L => v = vint (sClose σ id).2 ∧ L = [tkR t (sClose σ id).1] := by
  refine Fn.intro (vs := [vptr t, vint id]) Try.func36 rfl rfl ?_
  intro F W
  refine G.tkOpen (σ := σ) (by (repeat (first | exact Pick.here | apply Pick.there))) fun rs rb ms bm hI => ?_
  refine G.seq ?_
  refine G.region ?_
  refine G.q (Quiet.assign rfl) rfl ?_
  refine G.nil ?_
  refine G.then_n ?_
  refine G.seq ?_
  refine G.seq ?_
  refine G.region ?_
  refine G.q (Quiet.move rfl) rfl ?_
  refine G.q (Quiet.nilp rfl) rfl ?_
  refine G.q (Quiet.fieldAddr rfl fo_136_0) rfl ?_
  refine G.q (Quiet.load rfl ag_133 (by (repeat (first | exact Pick.here | apply Pick.there))) (rfl)) rfl ?_
  refine G.q (Quiet.move rfl) rfl ?_
  rcases hal : alook σ id with _ | ⟨to, d⟩
  · refine G.q (Quiet.lookupOkN (m := ms) (enc := entV) (KeyLaw.int Try.underlying3) (by rw [hI.look]; exact hal) rfl rfl Try.underlying133 ze_138 (by (repeat (first | exact Pick.here | apply Pick.there))) rfl) rfl ?_
    refine G.q (Quiet.move rfl) rfl ?_
    refine G.q (Quiet.extract rfl rfl) rfl ?_
    refine G.q (Quiet.extract rfl rfl) rfl ?_
    refine G.op (OpSpec.allocA ze_138) (by (repeat (first | exact Picks.nil | (apply Picks.cons; (repeat (first | exact Pick.here | apply Pick.there)))))) rfl ?nx10
    rintro v L' ⟨be, rfl, rfl⟩
    refine G.op (OpSpec.storeA rfl rfl ?c12 sz_138 ?c15 ?c13 ?c14) (by (repeat (first | exact Picks.nil | (apply Picks.cons; (repeat (first | exact Pick.here | apply Pick.there)))))) rfl ?nx16
    case c12 => (first | (simp [isCell]; done) | (simp [isCell, setAll, Value.cells]; done))
    case c15 => (first | (simp; done) | (simp [setAll, spl, Value.cells]; done))
    case c13 => (first | (simp; done) | (simp [setAll, spl, Value.cells]; done))
    case c14 => exact nfz0 _ _
    rintro v L' rfl
    refine G.q (Quiet.assign rfl) rfl ?_
    refine G.nil ?_
    refine G.then_n ?_
    refine G.seq ?_
    refine G.region ?_
    refine G.q (Quiet.move rfl) rfl ?_
    refine G.q (Quiet.not rfl) rfl ?_
    refine G.nil ?_
    refine G.then_n ?_
    refine G.condT rfl ?_
    refine G.seq ?_
    refine G.region ?_
    refine G.q (Quiet.assign rfl) rfl ?_
    refine G.nil ?_
    refine G.then_n ?_
    refine G.ret ?_
    refine G.then_r ?_
    have e : sClose σ id = (σ, 90) := by unfold sClose; rw [if_pos hal]
    rw [e]
    refine G.tkFold hI (by (repeat (first | exact Picks.nil | (apply Picks.cons; (repeat (first | exact Pick.here | apply Pick.there)))))) rfl rfl ?_
    exact G.done (l := [.tmp 4]) rfl rfl ⟨rfl, rfl⟩ (by (repeat (first | exact Picks.nil | (apply Picks.cons; (repeat (first | exact Pick.here | apply Pick.there)))))) (by (repeat (first | exact Suff.here | apply Suff.there)))
  · obtain ⟨fa, fb, fc, fd, fe, ff⟩ := hI.ok.look hal
    dsimp only at fa fb fc fd fe ff
    refine G.q (Quiet.lookupOkY (m := ms) (enc := entV) (KeyLaw.int Try.underlying3) (by rw [hI.look]; exact hal) rfl rfl Try.underlying133 ze_138 (by (repeat (first | exact Pick.here | apply Pick.there))) rfl) rfl ?_
    refine G.q (Quiet.move rfl) rfl ?_
    refine G.q (Quiet.extract rfl rfl) rfl ?_
    refine G.q (Quiet.extract rfl rfl) rfl ?_
    refine G.op (OpSpec.allocA ze_138) (by (repeat (first | exact Picks.nil | (apply Picks.cons; (repeat (first | exact Pick.here | apply Pick.there)))))) rfl ?nx22
    rintro v L' ⟨be, rfl, rfl⟩
    refine G.op (OpSpec.storeA rfl rfl ?c24 sz_138 ?c27 ?c25 ?c26) (by (repeat (first | exact Picks.nil | (apply Picks.cons; (repeat (first | exact Pick.here | apply Pick.there)))))) rfl ?nx28
    case c24 => (first | (simp [isCell]; done) | (simp [isCell, setAll, Value.cells]; done))
    case c27 => (first | (simp; done) | (simp [setAll, spl, Value.cells]; done))
    case c25 => (first | (simp; done) | (simp [setAll, spl, Value.cells]; done))
    case c26 => exact nfz0 _ _
    rintro v L' rfl
    refine G.q (Quiet.assign rfl) rfl ?_
    refine G.nil ?_
    refine G.then_n ?_
    refine G.seq ?_
    refine G.region ?_
    refine G.q (Quiet.move rfl) rfl ?_
    refine G.q (Quiet.not rfl) rfl ?_
    refine G.nil ?_
    refine G.then_n ?_
    refine G.condF rfl ?_
    refine G.skip ?_
    refine G.then_n ?_
    refine G.seq ?_
    refine G.tkFold hI (by (repeat (first | exact Picks.nil | (apply Picks.cons; (repeat (first | exact Pick.here | apply Pick.there)))))) rfl rfl ?_
    refine G.region ?_
    refine G.q (Quiet.move rfl) rfl ?_
    refine G.q (Quiet.move rfl) rfl ?_
    refine G.op (OpSpec.call Try.func93 rfl rfl (vs := [_, _]) rfl (lift_spec _ _ _)) (by (repeat (first | exact Picks.nil | (apply Picks.cons; (repeat (first | exact Pick.here | apply Pick.there)))))) rfl ?nx32
    rintro v L' ⟨rfl, rfl⟩
    refine G.nil ?_
    refine G.then_n ?_
    refine G.seq ?_
    refine G.region ?_
    refine G.q (Quiet.assign rfl) rfl ?_
    refine G.nil ?_
    refine G.then_n ?_
    refine G.ret ?_
    have e : sClose σ id = (adel σ id, 0) := by unfold sClose; rw [if_neg (by rw [hal]; simp)]
    rw [e]
    exact G.done (l := [.tmp 4]) rfl rfl ⟨rfl, rfl⟩ (by (repeat (first | exact Picks.nil | (apply Picks.cons; (repeat (first | exact Pick.here | apply Pick.there)))))) (by (repeat (first | exact Suff.here | apply Suff.there)))

set_option maxRecDepth 100000 in
theorem tdead_spec (t : Nat) (σ : Ses) (id : Int) : Fn Try.prog 38 #[vptr t, vint id] [tkR t σ] fun v L => v = .tuple #[vint (sDead σ id).1, vint (sDead σ id).2] ∧ L = [tkR t σ] := by
  refine Fn.intro (vs := [vptr t, vint id]) Try.func38 rfl rfl ?_
  intro F W
  refine G.tkOpen (σ := σ) (by (repeat (first | exact Pick.here | apply Pick.there))) fun rs rb ms bm hI => ?_
  refine G.seq ?_
  refine G.region ?_
  refine G.q (Quiet.assign rfl) rfl ?_
  refine G.q (Quiet.assign rfl) rfl ?_
  refine G.nil ?_
  refine G.then_n ?_
  refine G.seq ?_
  refine G.region ?_
  refine G.q (Quiet.move rfl) rfl ?_
  refine G.q (Quiet.nilp rfl) rfl ?_
  refine G.q (Quiet.fieldAddr rfl fo_136_0) rfl ?_
  refine G.q (Quiet.load rfl ag_133 (by (repeat (first | exact Pick.here | apply Pick.there))) (rfl)) rfl ?_
  refine G.q (Quiet.move rfl) rfl ?_
  rcases hal : alook σ id with _ | ⟨to, d⟩
  · refine G.q (Quiet.lookupOkN (m := ms) (enc := entV) (KeyLaw.int Try.underlying3) (by rw [hI.look]; exact hal) rfl rfl Try.underlying133 ze_138 (by (repeat (first | exact Pick.here | apply Pick.there))) rfl) rfl ?_
    refine G.q (Quiet.move rfl) rfl ?_
    refine G.q (Quiet.extract rfl rfl) rfl ?_
    refine G.q (Quiet.extract rfl rfl) rfl ?_
    refine G.op (OpSpec.allocA ze_138) (by (repeat (first | exact Picks.nil | (apply Picks.cons; (repeat (first | exact Pick.here | apply Pick.there)))))) rfl ?nx11
    rintro v L' ⟨be, rfl, rfl⟩
    refine G.op (OpSpec.storeA rfl rfl ?c13 sz_138 ?c16 ?c14 ?c15) (by (repeat (first | exact Picks.nil | (apply Picks.cons; (repeat (first | exact Pick.here | apply Pick.there)))))) rfl ?nx17
    case c13 => (first | (simp [isCell]; done) | (simp [isCell, setAll, Value.cells]; done))
    case c16 => (first | (simp; done) | (simp [setAll, spl, Value.cells]; done))
    case c14 => (first | (simp; done) | (simp [setAll, spl, Value.cells]; done))
    case c15 => exact nfz0 _ _
    rintro v L' rfl
    refine G.q (Quiet.assign rfl) rfl ?_
    refine G.nil ?_
    refine G.then_n ?_
    refine G.seq ?_
    refine G.seq ?_
    refine G.region ?_
    refine G.q (Quiet.move rfl) rfl ?_
    refine G.q (Quiet.not rfl) rfl ?_
    refine G.nil ?_
    refine G.then_n ?_
    refine G.condT rfl ?_
    refine G.seq ?_
    refine G.region ?_
    refine G.q (Quiet.assign rfl) rfl ?_
    refine G.q (Quiet.assign rfl) rfl ?_
    refine G.nil ?_
    refine G.then_n ?_
    refine G.ret ?_
    refine G.then_r ?_
    refine G.tkFold hI (by (repeat (first | exact Picks.nil | (apply Picks.cons; (repeat (first | exact Pick.here | apply Pick.there)))))) rfl rfl ?_
    have e : sDead σ id = (0, 90) := by unfold sDead; rw [hal]
    rw [e]
    exact G.done (l := [.tmp 4, .tmp 5]) rfl rfl ⟨rfl, rfl⟩ (by (repeat (first | exact Picks.nil | (apply Picks.cons; (repeat (first | exact Pick.here | apply Pick.there)))))) (by (repeat (first | exact Suff.here | apply Suff.there)))
  · obtain ⟨fa, fb, fc, fd, fe, ff⟩ := hI.ok.look hal
    dsimp only at fa fb fc fd fe ff
    refine G.q (Quiet.lookupOkY (m := ms) (enc := entV) (KeyLaw.int Try.underlying3) (by rw [hI.look]; exact hal) rfl rfl Try.underlying133 ze_138 (by (repeat (first | exact Pick.here | apply Pick.there))) rfl) rfl ?_
    refine G.q (Quiet.move rfl) rfl ?_
    refine G.q (Quiet.extract rfl rfl) rfl ?_
    refine G.q (Quiet.extract rfl rfl) rfl ?_
    refine G.op (OpSpec.allocA ze_138) (by (repeat (first | exact Picks.nil | (apply Picks.cons; (repeat (first | exact Pick.here | apply Pick.there)))))) rfl ?nx24
    rintro v L' ⟨be, rfl, rfl⟩
    refine G.op (OpSpec.storeA rfl rfl ?c26 sz_138 ?c29 ?c27 ?c28) (by (repeat (first | exact Picks.nil | (apply Picks.cons; (repeat (first | exact Pick.here | apply Pick.there)))))) rfl ?nx30
    case c26 => (first | (simp [isCell]; done) | (simp [isCell, setAll, Value.cells]; done))
    case c29 => (first | (simp; done) | (simp [setAll, spl, Value.cells]; done))
    case c27 => (first | (simp; done) | (simp [setAll, spl, Value.cells]; done))
    case c28 => exact nfz0 _ _
    rintro v L' rfl
    refine G.q (Quiet.assign rfl) rfl ?_
    refine G.nil ?_
    refine G.then_n ?_
    refine G.seq ?_
    refine G.seq ?_
    refine G.region ?_
    refine G.q (Quiet.move rfl) rfl ?_
    refine G.q (Quiet.not rfl) rfl ?_
    refine G.nil ?_
    refine G.then_n ?_
    refine G.condF rfl ?_
    refine G.skip ?_
    refine G.then_n ?_
    refine G.seq ?_
    refine G.region ?_
    refine G.q (Quiet.fieldAddr rfl fo_138_1) rfl ?_
    refine G.q (Quiet.load rfl ag_3 (by (repeat (first | exact Pick.here | apply Pick.there))) (rfl)) rfl ?_
    refine G.q (Quiet.assign rfl) rfl ?_
    refine G.q (Quiet.assign rfl) rfl ?_
    refine G.nil ?_
    refine G.then_n ?_
    refine G.ret ?_
    refine G.tkFold hI (by (repeat (first | exact Picks.nil | (apply Picks.cons; (repeat (first | exact Pick.here | apply Pick.there)))))) rfl rfl ?_
    have e : sDead σ id = (d, 0) := by unfold sDead; rw [hal]
    rw [e]
    exact G.done (l := [.tmp 4, .tmp 5]) rfl rfl ⟨rfl, rfl⟩ (by (repeat (first | exact Picks.nil | (apply Picks.cons; (repeat (first | exact Pick.here | apply Pick.there)))))) (by (repeat (first | exact Suff.here | apply Suff.there)))

set_option maxRecDepth 100000 in
theorem tall_spec (t : Nat) (σ : Ses) : Fn Try.prog 43 #[vptr t] [tkR t σ] fun v L => (∃ a c, v = .slice a (sAll σ).length c) ∧ L = [tkR t σ, intR v (sAll σ)] := by
  refine Fn.intro (vs := [vptr t]) Try.func43 rfl rfl ?_
  intro F W
  refine G.tkOpen (σ := σ) (by (repeat (first | exact Pick.here | apply Pick.there))) fun rs rb ms bm hI => ?_
  have hnd := hI.nodup
  have hlen := hI.perm.length_eq
  have hfew := hI.ok.few
  refine G.seq ?_
  refine G.region ?_
  refine G.q (Quiet.assign rfl) rfl ?_
  refine G.nil ?_
  refine G.then_n ?_
  refine G.seq ?_
  refine G.region ?_
  refine G.q (Quiet.move rfl) rfl ?_
  refine G.q (Quiet.nilp rfl) rfl ?_
  refine G.q (Quiet.fieldAddr rfl fo_136_0) rfl ?_
  refine G.q (Quiet.load rfl ag_133 (by (repeat (first | exact Pick.here | apply Pick.there))) (rfl)) rfl ?_
  refine G.op (OpSpec.call Try.func101 rfl rfl (vs := [_]) rfl (keysS_spec _)) (by (repeat (first | exact Picks.nil | (apply Picks.cons; (repeat (first | exact Pick.here | apply Pick.there)))))) rfl ?nx6
  rintro v L' ⟨bk, rfl, rfl⟩
  refine G.op (OpSpec.call Try.func100 rfl rfl (vs := [_]) rfl (sortedS_spec ms hnd ?hb8 ?hl9)) (by (repeat (first | exact Picks.nil | (apply Picks.cons; (repeat (first | exact Pick.here | apply Pick.there)))))) rfl ?nx10
  case hb8 => exact fun x hx => by have := hI.ok.fit x (hI.perm.mem_iff.1 hx); omega
  case hl9 => omega
  rintro v L' ⟨⟨aa, ca, rfl⟩, rfl⟩
  refine G.op (OpSpec.call Try.func99 rfl rfl (vs := [_]) rfl (clipI_spec _ _ _)) (by (repeat (first | exact Picks.nil | (apply Picks.cons; (repeat (first | exact Pick.here | apply Pick.there)))))) rfl ?nx12
  rintro v L' ⟨⟨ac, cc, rfl⟩, rfl⟩
  refine G.q (Quiet.assign rfl) rfl ?_
  refine G.nil ?_
  refine G.then_n ?_
  refine G.ret ?_
  have e1 : sortI (ms.map (·.1)) = sAll σ := sortI_of_perm (hI.perm.map _) (List.pairwise_map.2 hI.ok.sorted)
  have e2 : ms.length = (sAll σ).length := by rw [hlen, sAll, List.length_map]
  rw [e1, e2]
  refine G.tkFold hI (by (repeat (first | exact Picks.nil | (apply Picks.cons; (repeat (first | exact Pick.here | apply Pick.there)))))) rfl rfl ?_
  exact G.done (l := [.tmp 2]) rfl rfl ⟨⟨_, _, rfl⟩, rfl⟩ (by (repeat (first | exact Picks.nil | (apply Picks.cons; (repeat (first | exact Pick.here | apply Pick.there)))))) (by (repeat (first | exact Suff.here | apply Suff.there)))

set_option maxRecDepth 100000 in
theorem texp_spec (t : Nat) (σ : Ses) (now : Int) : Fn Try.prog 42 #[vptr t, vint now] [tkR t σ] fun v L => (∃ a c, v = .slice a (sExp σ now).length c) ∧ L = [tkR t σ, intR v (sExp σ now)] := by
  refine Fn.intro (vs := [vptr t, vint now]) Try.func42 rfl rfl ?_
  intro F W
  refine G.tkOpen (σ := σ) (by (repeat (first | exact Pick.here | apply Pick.there))) fun rs rb ms bm hI => ?_
  have hnd := hI.nodup
  have hlen := hI.perm.length_eq
  have hfew := hI.ok.few
  refine G.seq ?_
  refine G.region ?_
  refine G.q (Quiet.assign rfl) rfl ?_
  refine G.nil ?_
  refine G.then_n ?_
  refine G.seq ?_
  refine G.region ?_
  refine G.q (Quiet.assign rfl) rfl ?_
  refine G.nil ?_
  refine G.then_n ?_
  refine G.seq ?_
  refine G.seq ?_
  refine G.add (slR_nil 3 1) ?_
  refine G.region ?_
  refine G.q (Quiet.move rfl) rfl ?_
  refine G.q (Quiet.nilp rfl) rfl ?_
  refine G.q (Quiet.fieldAddr rfl fo_136_1) rfl ?_
  refine G.q (Quiet.load rfl ag_134 (by (repeat (first | exact Pick.here | apply Pick.there))) (rfl)) rfl ?_
  refine G.op (OpSpec.range (f := fun x : Int × (Nat × List (Int × Unit)) => (vint x.1, bkV x.2)) (m := bm) rfl Try.underlying134 ?he7) (by (repeat (first | exact Picks.nil | (apply Picks.cons; (repeat (first | exact Pick.here | apply Pick.there)))))) rfl ?nx8
  case he7 => rfl
  rintro v L' ⟨it, rfl, rfl⟩
  refine G.nil ?_
  refine G.then_n ?_
  refine G.block ?_
  refine G.loopK (ι := Bks × Value × (List Int)) (fun q E => (5, q.2.1) :: E) (fun q => [rangeR (fun x : Int × (Nat × List (Int × Unit)) => (vint x.1, bkV x.2)) it rb bm q.1, bigR inR bm, slR 3 1 q.2.1 q.2.2.length (ints q.2.2)]) (fun q => q.2.2.Perm (expOf now q.1) ∧ ∃ rest, bm.Perm (q.1 ++ rest)) (fun q => bm.length - q.1.length) (([], .slice none 0 0, [])) (ts := [1, 4, 13]) (.cons rfl (.cons rfl (.cons rfl (.nil)))) (⟨.refl _, bm, .refl _⟩) ⟨rfl, rfl, rfl, rfl, trivial⟩ (by (repeat (first | exact Picks.nil | (apply Picks.cons; (repeat (first | exact Pick.here | apply Pick.there)))))) ?_
  rintro ⟨s, v, acc⟩ ⟨hacc, rest, hbm⟩
  dsimp only
  dsimp only at hacc hbm
  refine G.seq ?_
  refine G.region ?_
  refine G.op (OpSpec.next rfl) (by (repeat (first | exact Picks.nil | (apply Picks.cons; (repeat (first | exact Pick.here | apply Pick.there)))))) rfl ?nx10
  rintro v L' (⟨rfl, hp3, rfl⟩ | ⟨x, rest3, rfl, hp3, rfl⟩)
  · refine G.rangeDone (by (repeat (first | exact Pick.here | apply Pick.there))) ?_
    refine G.tkFold hI (by (repeat (first | exact Picks.nil | (apply Picks.cons; (repeat (first | exact Pick.here | apply Pick.there)))))) rfl rfl ?_
    have e1 : sortI acc = sExp σ now := sortI_of_perm (hacc.trans ((expOf_perm hp3.symm).trans (hI.exp now))) (sExp_sorted hI.ok.sorted now)
    have e2 : acc.length = (sExp σ now).length := by rw [← e1, sortI_length]
    have e3 : (sExp σ now).length ≤ 16 := by unfold sExp; rw [List.length_map]; exact Nat.le_trans (List.length_filter_le _ _) hfew
    refine G.q (Quiet.extract rfl rfl) rfl ?_
    refine G.nil ?_
    refine G.then_n ?_
    refine G.seq ?_
    refine G.condF rfl ?_
    refine G.exit ?_
    refine G.then_e ?_
    refine G.then_e ?_
    refine G.blk_e ?_
    refine G.then_n ?_
    refine G.seq ?_
    refine G.region ?_
    refine G.q (Quiet.move rfl) rfl ?_
    refine G.op (OpSpec.call Try.func98 rfl rfl (vs := [_]) rfl (sortI_spec v acc.length acc (by omega))) (by (repeat (first | exact Picks.nil | (apply Picks.cons; (repeat (first | exact Pick.here | apply Pick.there)))))) rfl ?nx14
    rintro v L' ⟨rfl, rfl⟩; rw [e1, e2]
    refine G.nil ?_
    refine G.then_n ?_
    refine G.seq ?_
    refine G.region ?_
    refine G.q (Quiet.move rfl) rfl ?_
    refine G.op (OpSpec.call Try.func99 rfl rfl (vs := [_]) rfl (clipI_spec _ _ _)) (by (repeat (first | exact Picks.nil | (apply Picks.cons; (repeat (first | exact Pick.here | apply Pick.there)))))) rfl ?nx17
    rintro v L' ⟨⟨ac, cc, rfl⟩, rfl⟩
    refine G.q (Quiet.assign rfl) rfl ?_
    refine G.nil ?_
    refine G.then_n ?_
    refine G.ret ?_
    exact G.done (l := [.tmp 4]) rfl rfl ⟨⟨_, _, rfl⟩, rfl⟩ (by (repeat (first | exact Picks.nil | (apply Picks.cons; (repeat (first | exact Pick.here | apply Pick.there)))))) (by (repeat (first | exact Suff.here | apply Suff.there)))
  · refine G.q (Quiet.extract rfl rfl) rfl ?_
    refine G.nil ?_
    refine G.then_n ?_
    refine G.seq ?_
    refine G.condT rfl ?_
    refine G.skip ?_
    refine G.then_n ?_
    refine G.block ?_
    refine G.seq ?_
    refine G.region ?_
    refine G.q (Quiet.entryE (v := .tuple #[vint x.1, bkV x.2]) rfl (by (repeat (first | exact Pick.here | apply Pick.there))) rfl) rfl ?_
    refine G.q (Quiet.extract rfl rfl) rfl ?_
    refine G.q (Quiet.extract rfl rfl) rfl ?_
    refine G.q (Quiet.assign rfl) rfl ?_
    refine G.q (Quiet.assign rfl) rfl ?_
    refine G.nil ?_
    refine G.then_n ?_
    refine G.seq ?_
    refine G.seq ?_
    refine G.region ?_
    refine G.q (Quiet.move rfl) rfl ?_
    refine G.q (Quiet.move rfl) rfl ?_
    refine G.q (Quiet.int rfl rfl rfl) rfl ?_
    refine G.nil ?_
    refine G.then_n ?_
    refine G.condD rfl (fun h21 => ?_) (fun h21 => ?_)
    · refine G.exit ?_
      refine G.then_e ?_
      refine G.blk_e ?_
      refine G.then_n ?_
      have hl := hp3.length_eq
      simp at hl
      exact G.roundK ((s ++ [x], v, acc)) (⟨by rw [expOf_skip h21]; exact hacc, _, by simpa using hp3⟩) (by dsimp only; simp; omega) ⟨rfl, rfl, rfl, rfl, trivial⟩ (by (repeat (first | exact Picks.nil | (apply Picks.cons; (repeat (first | exact Pick.here | apply Pick.there)))))) (by ((repeat (apply Have.cons; (repeat (first | exact Pick.here | apply Pick.there)))); apply Have.base; repeat (first | exact Suff.here | apply Suff.there)))
    · have hxm : x ∈ bm := hp3.mem_iff.2 (by simp)
      have hxb : alook bm x.1 = some x.2 := al_of_mem hI.keys hxm
      obtain ⟨hxn, -, hxi⟩ := hI.bk _ _ hxb
      have hsz : acc.length + x.2.2.length ≤ 16 := expOf_size hI hacc hp3 h21
      refine G.bigTake hxb (by (repeat (first | exact Pick.here | apply Pick.there))) ?_
      refine G.skip ?_
      refine G.then_n ?_
      refine G.seq ?_
      refine G.region ?_
      refine G.q (Quiet.move rfl) rfl ?_
      refine G.op (OpSpec.range (f := fun x : Int × Unit => (vint x.1, unitV x.2)) (m := x.2.2) rfl Try.underlying148 ?he26) (by (repeat (first | exact Picks.nil | (apply Picks.cons; (repeat (first | exact Pick.here | apply Pick.there)))))) rfl ?nx27
      case he26 => rfl
      rintro v L' ⟨it2, rfl, rfl⟩
      refine G.nil ?_
      refine G.then_n ?_
      refine G.block ?_
      refine G.loopK (ι := (List (Int × Unit)) × Value × (List Int)) (fun q E => (5, q.2.1) :: E) (fun q => [rangeR (fun x : Int × Unit => (vint x.1, unitV x.2)) it2 x.2.1 x.2.2 q.1, slR 3 1 q.2.1 q.2.2.length (ints q.2.2)]) (fun q => q.2.2 = acc ++ q.1.map (·.1) ∧ ∃ rest, x.2.2.Perm (q.1 ++ rest)) (fun q => x.2.2.length - q.1.length) (([], v, acc)) (ts := [1, 4, 6, 7, 13, 14, 15, 16, 17, 18, 19, 20, 21, 22, 23]) (.cons rfl (.cons rfl (.cons rfl (.cons rfl (.cons rfl (.cons rfl (.cons rfl (.cons rfl (.cons rfl (.cons rfl (.cons rfl (.cons rfl (.cons rfl (.cons rfl (.cons rfl (.nil)))))))))))))))) (⟨by simp, _, .refl _⟩) ⟨rfl, rfl, rfl, rfl, rfl, rfl, rfl, rfl, rfl, rfl, rfl, rfl, rfl, rfl, rfl, rfl, trivial⟩ (by (repeat (first | exact Picks.nil | (apply Picks.cons; (repeat (first | exact Pick.here | apply Pick.there)))))) ?_
      rintro ⟨u, v2, acc2⟩ ⟨ha2, rest2, hu⟩
      dsimp only
      dsimp only at ha2 hu
      have hul := hu.length_eq
      simp at hul
      have hal2 : acc2.length = acc.length + u.length := by rw [ha2]; simp
      refine G.seq ?_
      refine G.region ?_
      refine G.op (OpSpec.next rfl) (by (repeat (first | exact Picks.nil | (apply Picks.cons; (repeat (first | exact Pick.here | apply Pick.there)))))) rfl ?nx29
      rintro v L' (⟨rfl, hp7, rfl⟩ | ⟨z, rest7, rfl, hp7, rfl⟩)
      · refine G.rangeDone (by (repeat (first | exact Pick.here | apply Pick.there))) ?_
        refine G.bigPut (f := inR) (m := bm) x.1 x.2 (p := mapR x.2.1 (setV x.2.2)) rfl (by (repeat (first | exact Picks.nil | (apply Picks.cons; (repeat (first | exact Pick.here | apply Pick.there)))))) ?_
        rw [aset_self hxb]
        refine G.q (Quiet.extract rfl rfl) rfl ?_
        refine G.nil ?_
        refine G.then_n ?_
        refine G.seq ?_
        refine G.condF rfl ?_
        refine G.exit ?_
        refine G.then_e ?_
        refine G.then_e ?_
        refine G.blk_e ?_
        refine G.blk_n ?_
        refine G.then_n ?_
        have hl := hp3.length_eq
        simp at hl
        exact G.roundK ((s ++ [x], v2, acc2)) (⟨by rw [expOf_add h21, ha2]; exact hacc.append (hp7.map _).symm, _, by simpa using hp3⟩) (by dsimp only; simp; omega) ⟨rfl, rfl, rfl, rfl, trivial⟩ (by (repeat (first | exact Picks.nil | (apply Picks.cons; (repeat (first | exact Pick.here | apply Pick.there)))))) (by ((repeat (apply Have.cons; (repeat (first | exact Pick.here | apply Pick.there)))); apply Have.base; repeat (first | exact Suff.here | apply Suff.there)))
      · refine G.q (Quiet.extract rfl rfl) rfl ?_
        refine G.nil ?_
        refine G.then_n ?_
        refine G.seq ?_
        refine G.condT rfl ?_
        refine G.skip ?_
        refine G.then_n ?_
        refine G.block ?_
        refine G.seq ?_
        refine G.region ?_
        refine G.q (Quiet.entryE (v := .tuple #[vint z.1, unitV z.2]) rfl (by (repeat (first | exact Pick.here | apply Pick.there))) rfl) rfl ?_
        refine G.q (Quiet.extract rfl rfl) rfl ?_
        refine G.q (Quiet.assign rfl) rfl ?_
        refine G.nil ?_
        refine G.then_n ?_
        refine G.region ?_
        refine G.q (Quiet.move rfl) rfl ?_
        refine G.q (Quiet.move rfl) rfl ?_
        refine G.op (OpSpec.buildSlice1 (vs := [_]) el_40 ze_3 rfl rfl rfl rfl rfl (by decide)) (by (repeat (first | exact Picks.nil | (apply Picks.cons; (repeat (first | exact Pick.here | apply Pick.there)))))) rfl ?nx37
        rintro v L' ⟨b9_2, rfl, rfl⟩
        refine G.op (OpSpec.append1 rfl rfl rfl el_40 ze_3 rfl rfl ?c39 ?c40 (Nat.le_refl _) ?c41 (by decide)) (by (repeat (first | exact Picks.nil | (apply Picks.cons; (repeat (first | exact Pick.here | apply Pick.there)))))) rfl ?nx42
        case c39 => (first | (simp [isCell]; done) | (simp [isCell, setAll, Value.cells]; done))
        case c40 => rfl
        case c41 => omega
        rintro v L' ⟨⟨a9_3, c9_3, rfl⟩, rfl⟩
        refine G.q (Quiet.assign rfl) rfl ?_
        refine G.nil ?_
        refine G.blk_n ?_
        refine G.then_n ?_
        have hl := hp7.length_eq
        simp at hl
        have e : ints acc2 ++ [vint z.1] = ints (acc2 ++ [z.1]) := by simp [ints]
        have e2 : acc2.length + 1 = (acc2 ++ [z.1]).length := by simp
        rw [e, e2]
        exact G.roundK ((u ++ [z], .slice a9_3 (acc2 ++ [z.1]).length c9_3, acc2 ++ [z.1])) (⟨by simp [ha2], _, by simpa using hp7⟩) (by dsimp only; simp; omega) ⟨rfl, rfl, rfl, rfl, rfl, rfl, rfl, rfl, rfl, rfl, rfl, rfl, rfl, rfl, rfl, rfl, trivial⟩ (by (repeat (first | exact Picks.nil | (apply Picks.cons; (repeat (first | exact Pick.here | apply Pick.there)))))) (by ((repeat (apply Have.cons; (repeat (first | exact Pick.here | apply Pick.there)))); apply Have.base; repeat (first | exact Suff.here | apply Suff.there)))

end Go.Proofs.Ytepncdidkjjllaa
