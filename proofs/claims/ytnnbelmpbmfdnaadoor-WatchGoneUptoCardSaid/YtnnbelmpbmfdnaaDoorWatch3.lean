/- Own work, by program: package watch: Fire: walked. -/
import Derived.Test.YtnnbelmpbmfdnaaDoorWatch2
namespace Go.Proofs.YtnnbelmpbmfdnaaDoor
open Go
theorem spot_mem (ω : List Wt) (sp : Spot) (x : Int) : (x, sp) ∈ ω ↔ x ∈ (ω.filter fun w => decide (w.2 = sp)).map (·.1) := by
  constructor
  · intro h; exact List.mem_map.2 ⟨(x, sp), List.mem_filter.2 ⟨h, by simp⟩, rfl⟩
  · intro h
    obtain ⟨w, hw, rfl⟩ := List.mem_map.1 h
    obtain ⟨h1, h2⟩ := List.mem_filter.1 hw
    have h2 : w.2 = sp := by simpa using h2
    rw [← h2]; exact h1
theorem spot_nodup {ω : List Wt} {m : By} {n : List (Int × Int)} (h : TbI ω m n) {sp : Spot} : ((ω.filter fun w => decide (w.2 = sp)).map (·.1)).Nodup := by
  refine List.pairwise_map.2 (List.Pairwise.imp_of_mem ?_ (h.nod.filter _))
  intro a b ha hb hne e
  apply hne
  have h1 := (List.mem_filter.1 ha).2
  have h2 := (List.mem_filter.1 hb).2
  simp at h1 h2
  obtain ⟨a1, a2⟩ := a; obtain ⟨b1, b2⟩ := b
  dsimp only at *
  rw [e, h1, h2]
set_option maxRecDepth 100000 in
theorem wfire_spec (t : Nat) (ω : List Wt) (va : Value) (es : List Ev) (p : HP) (hp : ∀ h : Hp, p h → rdS 3 h va es.length (es.flatMap evC)) (hl : ω.length ≤ 1048576) (hel : es.length ≤ 1048576) : Fn Tryd.prog 11 #[vptr t, va] [tbR t ω, p] fun v L => ∃ a c, v = .slice a (fireL ω es).2.length c ∧ L = [tbR t (fireL ω es).1, p, slR 37 4 v (fireL ω es).2.length ((fireL ω es).2.flatMap tldC)] := by
  refine Fn.intro (vs := [vptr t, va]) Tryd.func11 rfl rfl ?_
  intro F W
  refine G.rdAny (p := p) hp (by (repeat (first | exact Pick.here | apply Pick.there))) fun aa ca e0 _ => ?_
  subst e0
  refine G.seq ?_
  refine G.region ?_
  refine G.q (Quiet.assign rfl) rfl ?_
  refine G.nil ?_
  refine G.then_n ?_
  refine G.seq ?_
  refine G.add (slR_nil 37 4) ?_
  refine G.region ?_
  refine G.q (Quiet.assign rfl) rfl ?_
  refine G.nil ?_
  refine G.then_n ?_
  refine G.seq ?_
  refine G.seq ?_
  refine G.region ?_
  refine G.q (Quiet.move rfl) rfl ?_
  refine G.q (Quiet.slen rfl Tryd.underlying23 rfl) rfl ?_
  refine G.q (Quiet.move rfl) rfl ?_
  refine G.nil ?_
  refine G.then_n ?_
  refine G.block ?_
  refine G.tbCast (ω' := (fireTo ω es 0).1) (by (repeat (first | exact Pick.here | apply Pick.there))) rfl ?_
  refine G.loopK (ι := Nat × Value) (fun q E => (20, vint q.1) :: (5, q.2) :: E) (fun q => [tbR t (fireTo ω es q.1).1, slR 37 4 q.2 (fireTo ω es q.1).2.length ((fireTo ω es q.1).2.flatMap tldC)]) (fun q => q.1 ≤ es.length ∧ ∃ a c, q.2 = .slice a (fireTo ω es q.1).2.length c) (fun q => es.length - q.1) (0, .slice none 0 0) (ts := [0, 4, 18, 19]) (.cons rfl (.cons rfl (.cons rfl (.cons rfl (.nil))))) (⟨Nat.zero_le _, none, 0, rfl⟩) ⟨rfl, rfl, rfl, rfl, rfl, rfl, trivial⟩ (by (repeat (first | exact Picks.nil | (apply Picks.cons; (repeat (first | exact Pick.here | apply Pick.there)))))) ?_
  rintro ⟨i, u⟩ ⟨hi, au, cu, hu⟩
  dsimp only
  dsimp only at hi hu
  subst hu
  obtain ⟨hwl, hol⟩ := fire_len ω es i
  have hol2 : i * ω.length ≤ 1048576 * 1048576 := Nat.mul_le_mul (by omega) hl
  refine G.seq ?_
  refine G.region ?_
  refine G.q (Quiet.int rfl rfl rfl) rfl ?_
  refine G.nil ?_
  refine G.then_n ?_
  refine G.seq ?_
  refine G.condD rfl (fun h21 => ?_) (fun h21 => ?_)
  · have hi2 : i < es.length := by omega
    refine G.rdShape (p := p) hp (by (repeat (first | exact Pick.here | apply Pick.there))) (by omega) fun ba oa e0 => ?_
    subst e0
    have hes : es.getD i (0, ([], 0)) = es[i] := by simp [hi2]
    have hat : ((es.flatMap evC).drop (i * 3)).take 3 = evC es[i] := flatMap_at (f := evC) (sz := 3) (fun _ _ => rfl) hi2
    generalize es[i] = e at hes hat
    have hat : ((es.flatMap evC).drop (i * 3)).take 3 = [vint e.1, vstr e.2.1, vint e.2.2] := hat
    have hkn := kinds_nodup e.1
    have hkl := kinds_len e.1
    refine G.skip ?_
    refine G.then_n ?_
    refine G.seq ?_
    refine G.block ?_
    refine G.seq ?_
    refine G.region ?_
    refine G.q (Quiet.indexAddr rfl rfl el_23 (by omega)) rfl ?_
    refine G.q (Quiet.loadRdA (sz := 3) (j := i * 3) (k := 3) (p := p) (vs := [vint e.1, vstr e.2.1, vint e.2.2]) rfl ag_35 (by (repeat (first | exact Pick.here | apply Pick.there))) hp (by simp) (by omega) (by omega) hat) rfl ?_
    refine G.op (OpSpec.allocA ze_35) (by (repeat (first | exact Picks.nil | (apply Picks.cons; (repeat (first | exact Pick.here | apply Pick.there)))))) rfl ?nx9
    rintro v L' ⟨be, rfl, rfl⟩
    refine G.op (OpSpec.storeA rfl rfl ?c11 sz_35 ?c14 ?c12 ?c13) (by (repeat (first | exact Picks.nil | (apply Picks.cons; (repeat (first | exact Pick.here | apply Pick.there)))))) rfl ?nx15
    case c11 => (first | (simp [isCell]; done) | (simp [isCell, setAll, Value.cells]; done))
    case c14 => (first | (simp; done) | (simp [setAll, spl, Value.cells]; done))
    case c12 => (first | (simp; done) | (simp [setAll, spl, Value.cells]; done))
    case c13 => exact nfz0 _ _
    rintro v L' rfl
    refine G.nil ?_
    refine G.ptCast (b := be) (l' := [vint e.1, vstr e.2.1, vint e.2.2]) (by (repeat (first | exact Pick.here | apply Pick.there))) rfl ?_
    refine G.then_n ?_
    refine G.seq ?_
    refine G.add (slR_nil 3 1) ?_
    refine G.region ?_
    refine G.q (Quiet.assign rfl) rfl ?_
    refine G.nil ?_
    refine G.then_n ?_
    refine G.seq ?_
    refine G.seq ?_
    refine G.region ?_
    refine G.q (Quiet.fieldAddr rfl fo_35_0) rfl ?_
    refine G.q (Quiet.load rfl ag_3 (by (repeat (first | exact Pick.here | apply Pick.there))) (rfl)) rfl ?_
    refine G.op (OpSpec.call Tryd.func21 rfl rfl (vs := [_]) rfl (wkinds_spec e.1)) (by (repeat (first | exact Picks.nil | (apply Picks.cons; (repeat (first | exact Pick.here | apply Pick.there)))))) rfl ?nx19
    rintro v L' ⟨⟨ak, ck, rfl⟩, rfl⟩
    refine G.q (Quiet.slen rfl Tryd.underlying64 rfl) rfl ?_
    refine G.q (Quiet.move rfl) rfl ?_
    refine G.nil ?_
    refine G.then_n ?_
    refine G.block ?_
    refine G.tbCast (ω' := outK (fireTo ω es i).1 e.2.1 ((kindsZ e.1).take 0)) (by (repeat (first | exact Pick.here | apply Pick.there))) (by rw [List.take_zero, outK_nil]) ?_
    refine G.loopK (ι := Nat × Value × (List Int)) (fun q E => (28, vint q.1) :: (8, q.2.1) :: E) (fun q => [tbR t (outK (fireTo ω es i).1 e.2.1 ((kindsZ e.1).take q.1)), slR 3 1 q.2.1 q.2.2.length (ints q.2.2)]) (fun q => q.1 ≤ (kindsZ e.1).length ∧ q.2.2.Perm (idsK (fireTo ω es i).1 e.2.1 ((kindsZ e.1).take q.1)) ∧ ∃ a c, q.2.1 = .slice a q.2.2.length c) (fun q => (kindsZ e.1).length - q.1) (0, .slice none 0 0, []) (ts := [0, 4, 5, 7, 18, 19, 20, 21, 22, 23, 24, 25, 26, 27]) (.cons rfl (.cons rfl (.cons rfl (.cons rfl (.cons rfl (.cons rfl (.cons rfl (.cons rfl (.cons rfl (.cons rfl (.cons rfl (.cons rfl (.cons rfl (.cons rfl (.nil))))))))))))))) (⟨Nat.zero_le _, by dsimp only; rw [List.take_zero]; simp [idsK], none, 0, rfl⟩) ⟨rfl, rfl, rfl, rfl, rfl, rfl, rfl, rfl, rfl, rfl, rfl, rfl, rfl, rfl, rfl, rfl, trivial⟩ (by (repeat (first | exact Picks.nil | (apply Picks.cons; (repeat (first | exact Pick.here | apply Pick.there)))))) ?_
    rintro ⟨j, w, who⟩ ⟨hj, hwho, aw, cw, hw⟩
    dsimp only
    dsimp only at hj hwho hw
    subst hw
    have hwhl := hwho.length_eq
    have hwhl2 := ids_len (fireTo ω es i).1 e.2.1 ((kindsZ e.1).take j)
    refine G.seq ?_
    refine G.region ?_
    refine G.q (Quiet.int rfl rfl rfl) rfl ?_
    refine G.nil ?_
    refine G.then_n ?_
    refine G.seq ?_
    refine G.condD rfl (fun h29 => ?_) (fun h29 => ?_)
    · have hj2 : j < (kindsZ e.1).length := by omega
      refine G.slShape (v := .slice ak _ ck) (by (repeat (first | exact Pick.here | apply Pick.there))) (by omega) fun bk ck' e0 mk _ => ?_
      simp only [Value.slice.injEq, true_and] at e0
      obtain ⟨rfl, rfl⟩ := e0
      refine G.skip ?_
      refine G.then_n ?_
      refine G.seq ?_
      refine G.block ?_
      refine G.seq ?_
      refine G.region ?_
      refine G.q (Quiet.indexAddr rfl rfl el_64 (by omega)) rfl ?_
      refine G.q (Quiet.loadSl (v := vint (kindsZ e.1)[j]) (i := j * 1) rfl ag_3 (by (repeat (first | exact Pick.here | apply Pick.there))) (by simp [hj2])) rfl ?_
      refine G.q (Quiet.assign rfl) rfl ?_
      refine G.nil ?_
      refine G.then_n ?_
      refine G.seq ?_
      refine G.region ?_
      refine G.q (Quiet.move rfl) rfl ?_
      refine G.q (Quiet.fieldAddr rfl fo_35_1) rfl ?_
      refine G.q (Quiet.load rfl ag_9 (by (repeat (first | exact Pick.here | apply Pick.there))) (rfl)) rfl ?_
      refine G.q (Quiet.build (us := [(0, _), (1, _)]) fl_63 ze_63 rfl rfl (by simp [isCell])) rfl ?_
      refine G.op (OpSpec.allocA ze_63) (by (repeat (first | exact Picks.nil | (apply Picks.cons; (repeat (first | exact Pick.here | apply Pick.there)))))) rfl ?nx29
      rintro v L' ⟨bs, rfl, rfl⟩
      refine G.op (OpSpec.storeA rfl rfl ?c31 sz_63 ?c34 ?c32 ?c33) (by (repeat (first | exact Picks.nil | (apply Picks.cons; (repeat (first | exact Pick.here | apply Pick.there)))))) rfl ?nx35
      case c31 => (first | (simp [isCell]; done) | (simp [isCell, setAll, Value.cells]; done))
      case c34 => (first | (simp; done) | (simp [setAll, spl, Value.cells]; done))
      case c32 => (first | (simp; done) | (simp [setAll, spl, Value.cells]; done))
      case c33 => exact nfz0 _ _
      rintro v L' rfl
      refine G.nil ?_
      refine G.ptCast (b := bs) (l' := [vint (kindsZ e.1)[j], vstr e.2.1]) (by (repeat (first | exact Pick.here | apply Pick.there))) rfl ?_
      refine G.then_n ?_
      refine G.seq ?_
      refine G.add (slR_nil 3 1) ?_
      refine G.tbOpen (ω := (outK (fireTo ω es i).1 e.2.1 ((kindsZ e.1).take j))) (by (repeat (first | exact Pick.here | apply Pick.there))) fun rb rm m q hI => ?_
      refine G.region ?_
      rcases hal : alook m ((kindsZ e.1)[j], e.2.1) with _ | ⟨pb, l⟩
      · refine G.q (Quiet.assign rfl) rfl ?_
        refine G.nil ?_
        refine G.then_n ?_
        refine G.seq ?_
        refine G.seq ?_
        refine G.draw [6] [[0, 1, 2, 3, 4, 5, 6]] mixed (by kernel_rfl) ?_
        refine Phases.go [] (by (repeat (first | exact Picks.nil | (apply Picks.cons; (repeat (first | exact Pick.here | apply Pick.there)))))) ?_
        refine D.qw [1, 2, 3, 5, 6] rfl (by kernel_rfl) (Quiet.move rfl) ?_
        refine D.qw [2, 3, 5, 6] rfl (by kernel_rfl) (Quiet.nilp rfl) ?_
        refine D.qw [3, 5, 6] rfl (by kernel_rfl) (Quiet.fieldAddr rfl fo_60_0) ?_
        refine D.qw [5, 6] rfl (by kernel_rfl) (Quiet.load rfl ag_57 (by (repeat (first | exact Pick.here | apply Pick.there))) (rfl)) ?_
        refine D.qw [5, 6] rfl (by kernel_rfl) (Quiet.loadAs (vs := [vint (kindsZ e.1)[j], vstr e.2.1]) rfl ag_63 (by (repeat (first | exact Pick.here | apply Pick.there))) (by simp) rfl) ?_
        refine D.qw [6] rfl (by kernel_rfl) (Quiet.lookupN (m := m) (enc := byV) spotK (hal) rfl rfl Tryd.underlying57 ze_58 (by (repeat (first | exact Pick.here | apply Pick.there))) rfl) ?_
        refine D.h rfl (by kernel_rfl) (OpSpec.rangeNil rfl Tryd.underlying58) (by (repeat (first | exact Picks.nil | (apply Picks.cons; (repeat (first | exact Pick.here | apply Pick.there)))))) ?nx43
        rintro v L' ⟨it, rfl, rfl⟩
        refine D.ph ?_
        refine Phases.fin ?_
        refine G.then_n ?_
        refine G.block ?_
        refine G.loopK (ι := Unit) (fun q E => (12, .slice none 0 0) :: E) (fun q => [nilR it]) (fun q => True) (fun q => 0) (()) (ts := [0, 4, 5, 7, 8, 10, 11, 18, 19, 20, 21, 22, 23, 24, 25, 26, 27, 28, 29, 30, 31, 32, 33, 34, 35, 36, 37, 38, 39, 40, 41, 42]) (.cons rfl (.cons rfl (.cons rfl (.cons rfl (.cons rfl (.cons rfl (.cons rfl (.cons rfl (.cons rfl (.cons rfl (.cons rfl (.cons rfl (.cons rfl (.cons rfl (.cons rfl (.cons rfl (.cons rfl (.cons rfl (.cons rfl (.cons rfl (.cons rfl (.cons rfl (.cons rfl (.cons rfl (.cons rfl (.cons rfl (.cons rfl (.cons rfl (.cons rfl (.cons rfl (.cons rfl (.cons rfl (.nil))))))))))))))))))))))))))))))))) (trivial) ⟨rfl, rfl, rfl, rfl, rfl, rfl, rfl, rfl, rfl, rfl, rfl, rfl, rfl, rfl, rfl, rfl, rfl, rfl, rfl, rfl, rfl, rfl, rfl, rfl, rfl, rfl, rfl, rfl, rfl, rfl, rfl, rfl, rfl, trivial⟩ (by (repeat (first | exact Picks.nil | (apply Picks.cons; (repeat (first | exact Pick.here | apply Pick.there)))))) ?_
        rintro u0 -
        refine G.seq ?_
        refine G.region ?_
        refine G.op (OpSpec.nextNil rfl) (by (repeat (first | exact Picks.nil | (apply Picks.cons; (repeat (first | exact Pick.here | apply Pick.there)))))) rfl ?nx45
        rintro v L' ⟨rfl, rfl⟩
        refine G.q (Quiet.extract rfl rfl) rfl ?_
        refine G.nil ?_
        refine G.then_n ?_
        refine G.seq ?_
        refine G.condF rfl ?_
        refine G.exit ?_
        refine G.then_e ?_
        refine G.then_e ?_
        refine G.blk_e ?_
        refine G.then_n ?_
        refine G.seq ?_
        refine G.seq ?_
        refine G.tbFold hI (by (repeat (first | exact Picks.nil | (apply Picks.cons; (repeat (first | exact Pick.here | apply Pick.there)))))) rfl rfl rfl ?_
        have hids : ([] : List Int).Perm (((outK (fireTo ω es i).1 e.2.1 ((kindsZ e.1).take j)).filter fun w => decide (w.2 = ((kindsZ e.1)[j], e.2.1))).map (·.1)) := by rw [spot_none hI hal]; exact .refl _
        have hand : ([] : List Int).Nodup := hids.nodup_iff.2 (spot_nodup hI)
        have hamem : ∀ x, (x, ((kindsZ e.1)[j], e.2.1)) ∈ (outK (fireTo ω es i).1 e.2.1 ((kindsZ e.1).take j)) ↔ x ∈ ([] : List Int) := fun x => (spot_mem _ _ _).trans hids.mem_iff.symm
        have halen : ([] : List Int).length ≤ 1048576 := by have h1 := hids.length_eq; have h2 := List.length_filter_le (fun w : Wt => decide (w.2 = ((kindsZ e.1)[j], e.2.1))) (outK (fireTo ω es i).1 e.2.1 ((kindsZ e.1).take j)); rw [List.length_map] at h1; have h3 : (outK (fireTo ω es i).1 e.2.1 ((kindsZ e.1).take j)).length ≤ (fireTo ω es i).1.length := List.length_filter_le _ _; omega
        refine G.tbCast (ω' := goneL (outK (fireTo ω es i).1 e.2.1 ((kindsZ e.1).take j)) ((kindsZ e.1)[j], e.2.1) (([] : List Int).take 0)) (by (repeat (first | exact Pick.here | apply Pick.there))) (by rw [List.take_zero, goneL_nil]) ?_
        refine G.region ?_
        refine G.q (Quiet.move rfl) rfl ?_
        refine G.q (Quiet.slen rfl Tryd.underlying64 rfl) rfl ?_
        refine G.q (Quiet.move rfl) rfl ?_
        refine G.nil ?_
        refine G.then_n ?_
        refine G.block ?_
        refine G.loopK (ι := Nat) (fun q E => (53, vint q) :: E) (fun q => [tbR t (goneL (outK (fireTo ω es i).1 e.2.1 ((kindsZ e.1).take j)) ((kindsZ e.1)[j], e.2.1) (([] : List Int).take q))]) (fun q => q ≤ ([] : List Int).length) (fun q => ([] : List Int).length - q) (0) (ts := [0, 4, 5, 7, 8, 10, 11, 12, 18, 19, 20, 21, 22, 23, 24, 25, 26, 27, 28, 29, 30, 31, 32, 33, 34, 35, 36, 37, 38, 39, 40, 41, 42, 43, 44, 51, 52]) (.cons rfl (.cons rfl (.cons rfl (.cons rfl (.cons rfl (.cons rfl (.cons rfl (.cons rfl (.cons rfl (.cons rfl (.cons rfl (.cons rfl (.cons rfl (.cons rfl (.cons rfl (.cons rfl (.cons rfl (.cons rfl (.cons rfl (.cons rfl (.cons rfl (.cons rfl (.cons rfl (.cons rfl (.cons rfl (.cons rfl (.cons rfl (.cons rfl (.cons rfl (.cons rfl (.cons rfl (.cons rfl (.cons rfl (.cons rfl (.cons rfl (.cons rfl (.cons rfl (.nil)))))))))))))))))))))))))))))))))))))) (Nat.zero_le _) ⟨rfl, rfl, rfl, rfl, rfl, rfl, rfl, rfl, rfl, rfl, rfl, rfl, rfl, rfl, rfl, rfl, rfl, rfl, rfl, rfl, rfl, rfl, rfl, rfl, rfl, rfl, rfl, rfl, rfl, rfl, rfl, rfl, rfl, rfl, rfl, rfl, rfl, rfl, trivial⟩ (by (repeat (first | exact Picks.nil | (apply Picks.cons; (repeat (first | exact Pick.here | apply Pick.there)))))) ?_
        rintro i2 hi2b
        refine G.seq ?_
        refine G.region ?_
        refine G.q (Quiet.int rfl rfl rfl) rfl ?_
        refine G.nil ?_
        refine G.then_n ?_
        refine G.seq ?_
        refine G.condD rfl (fun h54 => ?_) (fun h54 => ?_)
        · exfalso; simp at h54; omega
        · have hii : i2 = ([] : List Int).length := by simp at hi2b ⊢; omega
          rw [hii, List.take_length, goneL_all (fun x hx => (hamem x).1 hx), ← List.take_succ_eq_append_getElem hj2]
          refine G.exit ?_
          refine G.then_e ?_
          refine G.then_e ?_
          refine G.blk_e ?_
          refine G.then_n ?_
          refine G.region ?_
          refine G.q (Quiet.move rfl) rfl ?_
          refine G.q (Quiet.move rfl) rfl ?_
          refine G.op (OpSpec.append (n := who.length) (m := ([] : List Int).length) (ys := ints ([] : List Int)) (p := slR 3 1 (.slice none 0 0) ([] : List Int).length (ints ([] : List Int))) rfl rfl rfl el_64 (.inl ⟨_, Tryd.underlying64⟩) ze_3 rfl rfl ?hc54 ?hr55 ?hb56 (by decide)) (by (repeat (first | exact Picks.nil | (apply Picks.cons; (repeat (first | exact Pick.here | apply Pick.there)))))) rfl ?nx57
          case hc54 => intro y hy; obtain ⟨c, -, rfl⟩ := List.mem_map.1 hy; rfl
          case hr55 => exact fun h hp => slR_rd hp
          case hb56 => omega
          rintro v L' ⟨⟨a20, c20, rfl⟩, rfl⟩
          refine G.q (Quiet.assign rfl) rfl ?_
          refine G.nil ?_
          refine G.blk_n ?_
          refine G.then_n ?_
          refine G.region ?_
          refine G.q (Quiet.add rfl rfl (by omega)) rfl ?_
          refine G.q (Quiet.move rfl) rfl ?_
          refine G.nil ?_
          refine G.then_n ?_
          rw [show ints who ++ ints ([] : List Int) = ints (who ++ ([] : List Int)) by simp [ints], show who.length + ([] : List Int).length = (who ++ ([] : List Int)).length by simp]
          exact G.roundK ((j + 1, .slice a20 (who ++ ([] : List Int)).length c20, who ++ ([] : List Int))) (⟨by dsimp only; omega, by dsimp only; rw [List.take_succ_eq_append_getElem hj2]; exact (hwho.append hids).trans (idsK_step _ _ (take_not hkn hj2)).symm, _, _, rfl⟩) (by dsimp only; omega) ⟨rfl, rfl, rfl, rfl, rfl, rfl, rfl, rfl, rfl, rfl, rfl, rfl, rfl, rfl, rfl, rfl, trivial⟩ (by (repeat (first | exact Picks.nil | (apply Picks.cons; (repeat (first | exact Pick.here | apply Pick.there)))))) (by ((repeat (apply Have.cons; (repeat (first | exact Pick.here | apply Pick.there)))); apply Have.base; repeat (first | exact Suff.here | apply Suff.there)))
      · refine G.bigTake hal (by (repeat (first | exact Pick.here | apply Pick.there))) ?_
        refine G.q (Quiet.assign rfl) rfl ?_
        refine G.nil ?_
        refine G.then_n ?_
        refine G.seq ?_
        refine G.seq ?_
        refine G.draw [6] [[0, 1, 2, 3, 4, 5, 6]] mixed (by kernel_rfl) ?_
        refine Phases.go [] (by (repeat (first | exact Picks.nil | (apply Picks.cons; (repeat (first | exact Pick.here | apply Pick.there)))))) ?_
        refine D.qw [1, 2, 3, 5, 6] rfl (by kernel_rfl) (Quiet.move rfl) ?_
        refine D.qw [2, 3, 5, 6] rfl (by kernel_rfl) (Quiet.nilp rfl) ?_
        refine D.qw [3, 5, 6] rfl (by kernel_rfl) (Quiet.fieldAddr rfl fo_60_0) ?_
        refine D.qw [5, 6] rfl (by kernel_rfl) (Quiet.load rfl ag_57 (by (repeat (first | exact Pick.here | apply Pick.there))) (rfl)) ?_
        refine D.qw [5, 6] rfl (by kernel_rfl) (Quiet.loadAs (vs := [vint (kindsZ e.1)[j], vstr e.2.1]) rfl ag_63 (by (repeat (first | exact Pick.here | apply Pick.there))) (by simp) rfl) ?_
        refine D.qw [6] rfl (by kernel_rfl) (Quiet.lookupY (m := m) (enc := byV) spotK (hal) rfl rfl Tryd.underlying57 ze_58 (by (repeat (first | exact Pick.here | apply Pick.there))) rfl) ?_
        refine D.h rfl (by kernel_rfl) (OpSpec.range (f := fun x : Int × Int => (vint x.1, idV x.2)) (m := l) rfl Tryd.underlying58 ?he67) (by (repeat (first | exact Picks.nil | (apply Picks.cons; (repeat (first | exact Pick.here | apply Pick.there)))))) ?nx68
        case he67 => rfl
        rintro v L' ⟨it, rfl, rfl⟩
        refine D.ph ?_
        refine Phases.fin ?_
        refine G.then_n ?_
        refine G.block ?_
        refine G.loopK (ι := (List (Int × Int)) × Value × (List Int)) (fun q E => (12, q.2.1) :: E) (fun q => [rangeR (fun x : Int × Int => (vint x.1, idV x.2)) it pb l q.1, slR 3 1 q.2.1 q.2.2.length (ints q.2.2)]) (fun q => q.2.2 = q.1.map (·.1) ∧ (∃ rest, l.Perm (q.1 ++ rest)) ∧ ∃ a c, q.2.1 = .slice a q.2.2.length c) (fun q => l.length - q.1.length) ([], .slice none 0 0, []) (ts := [0, 4, 5, 7, 8, 10, 11, 18, 19, 20, 21, 22, 23, 24, 25, 26, 27, 28, 29, 30, 31, 32, 33, 34, 35, 36, 37, 38, 39, 40, 41, 42]) (.cons rfl (.cons rfl (.cons rfl (.cons rfl (.cons rfl (.cons rfl (.cons rfl (.cons rfl (.cons rfl (.cons rfl (.cons rfl (.cons rfl (.cons rfl (.cons rfl (.cons rfl (.cons rfl (.cons rfl (.cons rfl (.cons rfl (.cons rfl (.cons rfl (.cons rfl (.cons rfl (.cons rfl (.cons rfl (.cons rfl (.cons rfl (.cons rfl (.cons rfl (.cons rfl (.cons rfl (.cons rfl (.nil))))))))))))))))))))))))))))))))) (⟨rfl, ⟨l, .refl _⟩, none, 0, rfl⟩) ⟨rfl, rfl, rfl, rfl, rfl, rfl, rfl, rfl, rfl, rfl, rfl, rfl, rfl, rfl, rfl, rfl, rfl, rfl, rfl, rfl, rfl, rfl, rfl, rfl, rfl, rfl, rfl, rfl, rfl, rfl, rfl, rfl, rfl, trivial⟩ (by (repeat (first | exact Picks.nil | (apply Picks.cons; (repeat (first | exact Pick.here | apply Pick.there)))))) ?_
        rintro ⟨s, w2, acc⟩ ⟨hacc, ⟨rest, hl⟩, av, cv, hw2⟩
        dsimp only
        dsimp only at hacc hl hw2
        subst hw2
        have hll := hl.length_eq
        rw [List.length_append] at hll
        have hal2 : acc.length = s.length := by rw [hacc, List.length_map]
        refine G.seq ?_
        refine G.region ?_
        refine G.op (OpSpec.next rfl) (by (repeat (first | exact Picks.nil | (apply Picks.cons; (repeat (first | exact Pick.here | apply Pick.there)))))) rfl ?nx70
        rintro v L' (⟨rfl, hp12, rfl⟩ | ⟨z, rest12, rfl, hp12, rfl⟩)
        · refine G.rangeDone (by (repeat (first | exact Pick.here | apply Pick.there))) ?_
          refine G.bigPut (f := inW) (m := m) ((kindsZ e.1)[j], e.2.1) (pb, l) (p := mapR pb (intM l)) rfl (by (repeat (first | exact Picks.nil | (apply Picks.cons; (repeat (first | exact Pick.here | apply Pick.there)))))) ?_
          rw [aset_self hal]
          refine G.tbFold hI (by (repeat (first | exact Picks.nil | (apply Picks.cons; (repeat (first | exact Pick.here | apply Pick.there)))))) rfl rfl rfl ?_
          have hids : acc.Perm (((outK (fireTo ω es i).1 e.2.1 ((kindsZ e.1).take j)).filter fun w => decide (w.2 = ((kindsZ e.1)[j], e.2.1))).map (·.1)) := by rw [hacc]; exact (hp12.symm.map _).trans (spot_ids hI hal)
          refine G.q (Quiet.extract rfl rfl) rfl ?_
          refine G.nil ?_
          refine G.then_n ?_
          refine G.seq ?_
          refine G.condF rfl ?_
          refine G.exit ?_
          refine G.then_e ?_
          refine G.then_e ?_
          refine G.blk_e ?_
          refine G.then_n ?_
          refine G.seq ?_
          refine G.seq ?_
          have hand : acc.Nodup := hids.nodup_iff.2 (spot_nodup hI)
          have hamem : ∀ x, (x, ((kindsZ e.1)[j], e.2.1)) ∈ (outK (fireTo ω es i).1 e.2.1 ((kindsZ e.1).take j)) ↔ x ∈ acc := fun x => (spot_mem _ _ _).trans hids.mem_iff.symm
          have halen : acc.length ≤ 1048576 := by have h1 := hids.length_eq; have h2 := List.length_filter_le (fun w : Wt => decide (w.2 = ((kindsZ e.1)[j], e.2.1))) (outK (fireTo ω es i).1 e.2.1 ((kindsZ e.1).take j)); rw [List.length_map] at h1; have h3 : (outK (fireTo ω es i).1 e.2.1 ((kindsZ e.1).take j)).length ≤ (fireTo ω es i).1.length := List.length_filter_le _ _; omega
          refine G.tbCast (ω' := goneL (outK (fireTo ω es i).1 e.2.1 ((kindsZ e.1).take j)) ((kindsZ e.1)[j], e.2.1) (acc.take 0)) (by (repeat (first | exact Pick.here | apply Pick.there))) (by rw [List.take_zero, goneL_nil]) ?_
          refine G.region ?_
          refine G.q (Quiet.move rfl) rfl ?_
          refine G.q (Quiet.slen rfl Tryd.underlying64 rfl) rfl ?_
          refine G.q (Quiet.move rfl) rfl ?_
          refine G.nil ?_
          refine G.then_n ?_
          refine G.block ?_
          refine G.loopK (ι := Nat) (fun q E => (53, vint q) :: E) (fun q => [tbR t (goneL (outK (fireTo ω es i).1 e.2.1 ((kindsZ e.1).take j)) ((kindsZ e.1)[j], e.2.1) (acc.take q))]) (fun q => q ≤ acc.length) (fun q => acc.length - q) (0) (ts := [0, 4, 5, 7, 8, 10, 11, 12, 18, 19, 20, 21, 22, 23, 24, 25, 26, 27, 28, 29, 30, 31, 32, 33, 34, 35, 36, 37, 38, 39, 40, 41, 42, 43, 44, 51, 52]) (.cons rfl (.cons rfl (.cons rfl (.cons rfl (.cons rfl (.cons rfl (.cons rfl (.cons rfl (.cons rfl (.cons rfl (.cons rfl (.cons rfl (.cons rfl (.cons rfl (.cons rfl (.cons rfl (.cons rfl (.cons rfl (.cons rfl (.cons rfl (.cons rfl (.cons rfl (.cons rfl (.cons rfl (.cons rfl (.cons rfl (.cons rfl (.cons rfl (.cons rfl (.cons rfl (.cons rfl (.cons rfl (.cons rfl (.cons rfl (.cons rfl (.cons rfl (.cons rfl (.nil)))))))))))))))))))))))))))))))))))))) (Nat.zero_le _) ⟨rfl, rfl, rfl, rfl, rfl, rfl, rfl, rfl, rfl, rfl, rfl, rfl, rfl, rfl, rfl, rfl, rfl, rfl, rfl, rfl, rfl, rfl, rfl, rfl, rfl, rfl, rfl, rfl, rfl, rfl, rfl, rfl, rfl, rfl, rfl, rfl, rfl, rfl, trivial⟩ (by (repeat (first | exact Picks.nil | (apply Picks.cons; (repeat (first | exact Pick.here | apply Pick.there)))))) ?_
          rintro i2 hi2b
          refine G.seq ?_
          refine G.region ?_
          refine G.q (Quiet.int rfl rfl rfl) rfl ?_
          refine G.nil ?_
          refine G.then_n ?_
          refine G.seq ?_
          refine G.condD rfl (fun h54 => ?_) (fun h54 => ?_)
          · have hi3 : i2 < acc.length := by omega
            refine G.slShape (v := .slice av _ cv) (by (repeat (first | exact Pick.here | apply Pick.there))) (by omega) fun bl cl' e0 ml _ => ?_
            simp only [Value.slice.injEq, true_and] at e0
            obtain ⟨rfl, rfl⟩ := e0
            refine G.skip ?_
            refine G.then_n ?_
            refine G.seq ?_
            refine G.block ?_
            refine G.seq ?_
            refine G.region ?_
            refine G.q (Quiet.indexAddr rfl rfl el_64 (by omega)) rfl ?_
            refine G.q (Quiet.loadSl (v := vint acc[i2]) (i := i2 * 1) rfl ag_3 (by (repeat (first | exact Pick.here | apply Pick.there))) (by simp [hi3])) rfl ?_
            refine G.q (Quiet.assign rfl) rfl ?_
            refine G.nil ?_
            refine G.then_n ?_
            refine G.region ?_
            refine G.q (Quiet.move rfl) rfl ?_
            refine G.q (Quiet.loadAs (vs := [vint (kindsZ e.1)[j], vstr e.2.1]) rfl ag_63 (by (repeat (first | exact Pick.here | apply Pick.there))) (by simp) rfl) rfl ?_
            refine G.q (Quiet.move rfl) rfl ?_
            refine G.op (OpSpec.call Tryd.func22 rfl rfl (vs := [_, _, _]) rfl (wgone_spec t (goneL (outK (fireTo ω es i).1 e.2.1 ((kindsZ e.1).take j)) ((kindsZ e.1)[j], e.2.1) (acc.take i2)) ((kindsZ e.1)[j], e.2.1) acc[i2] (goneL_mem ((hamem _).2 (List.getElem_mem hi3)) (take_not hand hi3)))) (by (repeat (first | exact Picks.nil | (apply Picks.cons; (repeat (first | exact Pick.here | apply Pick.there)))))) rfl ?nx81
            rintro v L' ⟨rfl, rfl⟩
            refine G.nil ?_
            refine G.blk_n ?_
            refine G.then_n ?_
            refine G.region ?_
            refine G.q (Quiet.add rfl rfl (by omega)) rfl ?_
            refine G.q (Quiet.move rfl) rfl ?_
            refine G.nil ?_
            refine G.then_n ?_
            rw [goneL_step, ← List.take_succ_eq_append_getElem hi3]
            exact G.roundK (i2 + 1) (by omega) (by omega) ⟨rfl, rfl, rfl, rfl, rfl, rfl, rfl, rfl, rfl, rfl, rfl, rfl, rfl, rfl, rfl, rfl, rfl, rfl, rfl, rfl, rfl, rfl, rfl, rfl, rfl, rfl, rfl, rfl, rfl, rfl, rfl, rfl, rfl, rfl, rfl, rfl, rfl, rfl, trivial⟩ (by (repeat (first | exact Picks.nil | (apply Picks.cons; (repeat (first | exact Pick.here | apply Pick.there)))))) (by ((repeat (apply Have.cons; (repeat (first | exact Pick.here | apply Pick.there)))); apply Have.base; repeat (first | exact Suff.here | apply Suff.there)))
          · have hii : i2 = acc.length := by omega
            rw [hii, List.take_length, goneL_all (fun x hx => (hamem x).1 hx), ← List.take_succ_eq_append_getElem hj2]
            refine G.exit ?_
            refine G.then_e ?_
            refine G.then_e ?_
            refine G.blk_e ?_
            refine G.then_n ?_
            refine G.region ?_
            refine G.q (Quiet.move rfl) rfl ?_
            refine G.q (Quiet.move rfl) rfl ?_
            refine G.op (OpSpec.append (n := who.length) (m := acc.length) (ys := ints acc) (p := slR 3 1 (.slice av acc.length cv) acc.length (ints acc)) rfl rfl rfl el_64 (.inl ⟨_, Tryd.underlying64⟩) ze_3 rfl rfl ?hc86 ?hr87 ?hb88 (by decide)) (by (repeat (first | exact Picks.nil | (apply Picks.cons; (repeat (first | exact Pick.here | apply Pick.there)))))) rfl ?nx89
            case hc86 => intro y hy; obtain ⟨c, -, rfl⟩ := List.mem_map.1 hy; rfl
            case hr87 => exact fun h hp => slR_rd hp
            case hb88 => omega
            rintro v L' ⟨⟨a20, c20, rfl⟩, rfl⟩
            refine G.q (Quiet.assign rfl) rfl ?_
            refine G.nil ?_
            refine G.blk_n ?_
            refine G.then_n ?_
            refine G.region ?_
            refine G.q (Quiet.add rfl rfl (by omega)) rfl ?_
            refine G.q (Quiet.move rfl) rfl ?_
            refine G.nil ?_
            refine G.then_n ?_
            rw [show ints who ++ ints acc = ints (who ++ acc) by simp [ints], show who.length + acc.length = (who ++ acc).length by simp]
            exact G.roundK ((j + 1, .slice a20 (who ++ acc).length c20, who ++ acc)) (⟨by dsimp only; omega, by dsimp only; rw [List.take_succ_eq_append_getElem hj2]; exact (hwho.append hids).trans (idsK_step _ _ (take_not hkn hj2)).symm, _, _, rfl⟩) (by dsimp only; omega) ⟨rfl, rfl, rfl, rfl, rfl, rfl, rfl, rfl, rfl, rfl, rfl, rfl, rfl, rfl, rfl, rfl, trivial⟩ (by (repeat (first | exact Picks.nil | (apply Picks.cons; (repeat (first | exact Pick.here | apply Pick.there)))))) (by ((repeat (apply Have.cons; (repeat (first | exact Pick.here | apply Pick.there)))); apply Have.base; repeat (first | exact Suff.here | apply Suff.there)))
        · have hzl : l.length ≤ 1048576 := by have h1 := (spot_ids hI hal).length_eq; dsimp only at h1; rw [List.length_map, List.length_map] at h1; have h2 := List.length_filter_le (fun w : Wt => decide (w.2 = ((kindsZ e.1)[j], e.2.1))) (outK (fireTo ω es i).1 e.2.1 ((kindsZ e.1).take j)); have h3 : (outK (fireTo ω es i).1 e.2.1 ((kindsZ e.1).take j)).length ≤ (fireTo ω es i).1.length := List.length_filter_le _ _; omega
          refine G.q (Quiet.extract rfl rfl) rfl ?_
          refine G.nil ?_
          refine G.then_n ?_
          refine G.seq ?_
          refine G.condT rfl ?_
          refine G.skip ?_
          refine G.then_n ?_
          refine G.block ?_
          refine G.seq ?_
          refine G.region ?_
          refine G.q (Quiet.entryE (v := .tuple #[vint z.1, idV z.2]) rfl (by (repeat (first | exact Pick.here | apply Pick.there))) rfl) rfl ?_
          refine G.q (Quiet.extract rfl rfl) rfl ?_
          refine G.q (Quiet.assign rfl) rfl ?_
          refine G.nil ?_
          refine G.then_n ?_
          refine G.region ?_
          refine G.q (Quiet.move rfl) rfl ?_
          refine G.q (Quiet.move rfl) rfl ?_
          refine G.op (OpSpec.buildSlice1 (vs := [_]) el_64 ze_3 rfl rfl rfl rfl rfl (by decide)) (by (repeat (first | exact Picks.nil | (apply Picks.cons; (repeat (first | exact Pick.here | apply Pick.there)))))) rfl ?nx97
          rintro v L' ⟨b14_2, rfl, rfl⟩
          refine G.op (OpSpec.append1 rfl rfl rfl el_64 ze_3 rfl rfl ?c99 ?c100 (Nat.le_refl _) ?c101 (by decide)) (by (repeat (first | exact Picks.nil | (apply Picks.cons; (repeat (first | exact Pick.here | apply Pick.there)))))) rfl ?nx102
          case c99 => (first | (simp [isCell]; done) | (simp [isCell, setAll, Value.cells]; done))
          case c100 => rfl
          case c101 => omega
          rintro v L' ⟨⟨a14_3, c14_3, rfl⟩, rfl⟩
          refine G.q (Quiet.assign rfl) rfl ?_
          refine G.nil ?_
          refine G.blk_n ?_
          refine G.then_n ?_
          have hl2 := hp12.length_eq
          simp at hl2
          rw [show ints acc ++ [vint z.1] = ints (acc ++ [z.1]) by simp [ints], show acc.length + 1 = (acc ++ [z.1]).length by simp]
          exact G.roundK ((s ++ [z], .slice a14_3 (acc ++ [z.1]).length c14_3, acc ++ [z.1])) (⟨by dsimp only; simp [hacc], ⟨_, by simpa using hp12⟩, _, _, rfl⟩) (by dsimp only; simp; omega) ⟨rfl, rfl, rfl, rfl, rfl, rfl, rfl, rfl, rfl, rfl, rfl, rfl, rfl, rfl, rfl, rfl, rfl, rfl, rfl, rfl, rfl, rfl, rfl, rfl, rfl, rfl, rfl, rfl, rfl, rfl, rfl, rfl, rfl, trivial⟩ (by (repeat (first | exact Picks.nil | (apply Picks.cons; (repeat (first | exact Pick.here | apply Pick.there)))))) (by ((repeat (apply Have.cons; (repeat (first | exact Pick.here | apply Pick.there)))); apply Have.base; repeat (first | exact Suff.here | apply Suff.there)))
    · have hjj : j = (kindsZ e.1).length := by omega
      rw [hjj, List.take_length, out_all]
      rw [hjj, List.take_length, ids_all] at hwho
      have htw : compI (sortI who) = (tellW (fireTo ω es i).1 e.1 e.2.1) := by unfold tellW; rw [sortI_perm_eq hwho]
      have htl := tell_len (fireTo ω es i).1 e.1 e.2.1
      refine G.exit ?_
      refine G.then_e ?_
      refine G.then_e ?_
      refine G.blk_e ?_
      refine G.then_n ?_
      refine G.seq ?_
      refine G.region ?_
      refine G.q (Quiet.move rfl) rfl ?_
      refine G.op (OpSpec.call Tryd.func23 rfl rfl (vs := [_]) rfl (sortI_spec _ who.length who (by omega))) (by (repeat (first | exact Picks.nil | (apply Picks.cons; (repeat (first | exact Pick.here | apply Pick.there)))))) rfl ?nx105
      rintro v L' ⟨rfl, rfl⟩
      refine G.nil ?_
      refine G.then_n ?_
      refine G.seq ?_
      refine G.region ?_
      refine G.q (Quiet.move rfl) rfl ?_
      refine G.op (OpSpec.call Tryd.func24 rfl rfl (vs := [_]) rfl (compI_spec _ who.length (sortI who) (by omega))) (by (repeat (first | exact Picks.nil | (apply Picks.cons; (repeat (first | exact Pick.here | apply Pick.there)))))) rfl ?nx108
      rintro v L' ⟨⟨ac, cc, rfl⟩, rfl⟩; rw [htw]
      refine G.q (Quiet.slen rfl Tryd.underlying64 rfl) rfl ?_
      refine G.q (Quiet.move rfl) rfl ?_
      refine G.nil ?_
      refine G.then_n ?_
      refine G.block ?_
      refine G.slCast (T := 37) (sz := 4) (m' := ((fireTo ω es i).2 ++ ((tellW (fireTo ω es i).1 e.1 e.2.1).take 0).map fun x => (x, e)).length) (xs' := ((fireTo ω es i).2 ++ ((tellW (fireTo ω es i).1 e.1 e.2.1).take 0).map fun x => (x, e)).flatMap tldC) (by (repeat (first | exact Pick.here | apply Pick.there))) (by simp) (by simp) ?_
      refine G.loopK (ι := Nat × Value) (fun q E => (71, vint q.1) :: (5, q.2) :: E) (fun q => [slR 37 4 q.2 ((fireTo ω es i).2 ++ ((tellW (fireTo ω es i).1 e.1 e.2.1).take q.1).map fun x => (x, e)).length (((fireTo ω es i).2 ++ ((tellW (fireTo ω es i).1 e.1 e.2.1).take q.1).map fun x => (x, e)).flatMap tldC)]) (fun q => q.1 ≤ (tellW (fireTo ω es i).1 e.1 e.2.1).length ∧ ∃ a c, q.2 = .slice a ((fireTo ω es i).2 ++ ((tellW (fireTo ω es i).1 e.1 e.2.1).take q.1).map fun x => (x, e)).length c) (fun q => (tellW (fireTo ω es i).1 e.1 e.2.1).length - q.1) (0, .slice au (fireTo ω es i).2.length cu) (ts := [0, 4, 7, 8, 18, 19, 20, 21, 22, 23, 24, 25, 26, 27, 28, 29, 66, 68, 69, 70]) (.cons rfl (.cons rfl (.cons rfl (.cons rfl (.cons rfl (.cons rfl (.cons rfl (.cons rfl (.cons rfl (.cons rfl (.cons rfl (.cons rfl (.cons rfl (.cons rfl (.cons rfl (.cons rfl (.cons rfl (.cons rfl (.cons rfl (.cons rfl (.nil))))))))))))))))))))) (⟨Nat.zero_le _, au, cu, by simp⟩) ⟨rfl, rfl, rfl, rfl, rfl, rfl, rfl, rfl, rfl, rfl, rfl, rfl, rfl, rfl, rfl, rfl, rfl, rfl, rfl, rfl, rfl, rfl, trivial⟩ (by (repeat (first | exact Picks.nil | (apply Picks.cons; (repeat (first | exact Pick.here | apply Pick.there)))))) ?_
      rintro ⟨k, u2⟩ ⟨hk, au2, cu2, hu2⟩
      dsimp only
      dsimp only at hk hu2
      subst hu2
      have hoal : ((fireTo ω es i).2 ++ ((tellW (fireTo ω es i).1 e.1 e.2.1).take k).map fun x => (x, e)).length = (fireTo ω es i).2.length + k := by rw [List.length_append, List.length_map, List.length_take]; omega
      refine G.seq ?_
      refine G.region ?_
      refine G.q (Quiet.int rfl rfl rfl) rfl ?_
      refine G.nil ?_
      refine G.then_n ?_
      refine G.seq ?_
      refine G.condD rfl (fun h72 => ?_) (fun h72 => ?_)
      · have hk2 : k < (tellW (fireTo ω es i).1 e.1 e.2.1).length := by omega
        refine G.slShape (v := .slice ac _ cc) (by (repeat (first | exact Pick.here | apply Pick.there))) (by omega) fun bc cc' e0 mc _ => ?_
        simp only [Value.slice.injEq, true_and] at e0
        obtain ⟨rfl, rfl⟩ := e0
        refine G.skip ?_
        refine G.then_n ?_
        refine G.seq ?_
        refine G.block ?_
        refine G.seq ?_
        refine G.region ?_
        refine G.q (Quiet.indexAddr rfl rfl el_64 (by omega)) rfl ?_
        refine G.q (Quiet.loadSl (v := vint (tellW (fireTo ω es i).1 e.1 e.2.1)[k]) (i := k * 1) rfl ag_3 (by (repeat (first | exact Pick.here | apply Pick.there))) (by simp [hk2])) rfl ?_
        refine G.q (Quiet.assign rfl) rfl ?_
        refine G.nil ?_
        refine G.then_n ?_
        refine G.region ?_
        refine G.q (Quiet.move rfl) rfl ?_
        refine G.q (Quiet.move rfl) rfl ?_
        refine G.q (Quiet.loadAs (vs := [vint e.1, vstr e.2.1, vint e.2.2]) rfl ag_35 (by (repeat (first | exact Pick.here | apply Pick.there))) (by simp) rfl) rfl ?_
        refine G.q (Quiet.buildN (pl := [(0, 1), (1, 3)]) (us := [(0, vint (tellW (fireTo ω es i).1 e.1 e.2.1)[k]), (1, .agg ([vint e.1, vstr e.2.1, vint e.2.2] : List Value).toArray)]) (cells := [vint (tellW (fireTo ω es i).1 e.1 e.2.1)[k], vint e.1, vstr e.2.1, vint e.2.2]) Tryd.underlying37 (by kernel_rfl) ze_37 rfl rfl) rfl ?_
        refine G.op (OpSpec.buildSlice (vs := [_]) el_32 ze_37 rfl rfl rfl rfl (by simp [Value.cells]) (by decide)) (by (repeat (first | exact Picks.nil | (apply Picks.cons; (repeat (first | exact Pick.here | apply Pick.there)))))) rfl ?nx118
        rintro v L' ⟨b26_4, rfl, rfl⟩
        refine G.op (OpSpec.append1 rfl rfl rfl el_32 ze_37 rfl rfl ?c120 ?c121 (Nat.le_refl _) ?c122 (by decide)) (by (repeat (first | exact Picks.nil | (apply Picks.cons; (repeat (first | exact Pick.here | apply Pick.there)))))) rfl ?nx123
        case c120 => (first | (simp [isCell]; done) | (simp [isCell, setAll, Value.cells]; done))
        case c121 => rfl
        case c122 => omega
        rintro v L' ⟨⟨a26_5, c26_5, rfl⟩, rfl⟩
        refine G.q (Quiet.assign rfl) rfl ?_
        refine G.nil ?_
        refine G.blk_n ?_
        refine G.then_n ?_
        refine G.region ?_
        refine G.q (Quiet.add rfl rfl (by omega)) rfl ?_
        refine G.q (Quiet.move rfl) rfl ?_
        refine G.nil ?_
        refine G.then_n ?_
        have hstep : ((fireTo ω es i).2 ++ ((tellW (fireTo ω es i).1 e.1 e.2.1).take (k + 1)).map fun x => (x, e)) = ((fireTo ω es i).2 ++ ((tellW (fireTo ω es i).1 e.1 e.2.1).take k).map fun x => (x, e)) ++ [((tellW (fireTo ω es i).1 e.1 e.2.1)[k], e)] := by rw [List.take_succ_eq_append_getElem hk2, List.map_append, ← List.append_assoc]; rfl
        rw [show ((fireTo ω es i).2 ++ ((tellW (fireTo ω es i).1 e.1 e.2.1).take k).map fun x => (x, e)).flatMap tldC ++ (List.map (fun v => v.cells.toList) [Value.agg [vint (tellW (fireTo ω es i).1 e.1 e.2.1)[k], vint e.1, vstr e.2.1, vint e.2.2].toArray]).flatten = ((fireTo ω es i).2 ++ ((tellW (fireTo ω es i).1 e.1 e.2.1).take (k + 1)).map fun x => (x, e)).flatMap tldC by rw [hstep]; simp [tldC, Value.cells], show ((fireTo ω es i).2 ++ ((tellW (fireTo ω es i).1 e.1 e.2.1).take k).map fun x => (x, e)).length + 1 = ((fireTo ω es i).2 ++ ((tellW (fireTo ω es i).1 e.1 e.2.1).take (k + 1)).map fun x => (x, e)).length by rw [hstep, List.length_append (bs := [_])]; rfl]
        exact G.roundK ((k + 1, .slice a26_5 ((fireTo ω es i).2 ++ ((tellW (fireTo ω es i).1 e.1 e.2.1).take (k + 1)).map fun x => (x, e)).length c26_5)) (⟨by dsimp only; omega, _, _, rfl⟩) (by dsimp only; omega) ⟨rfl, rfl, rfl, rfl, rfl, rfl, rfl, rfl, rfl, rfl, rfl, rfl, rfl, rfl, rfl, rfl, rfl, rfl, rfl, rfl, rfl, rfl, trivial⟩ (by (repeat (first | exact Picks.nil | (apply Picks.cons; (repeat (first | exact Pick.here | apply Pick.there)))))) (by ((repeat (apply Have.cons; (repeat (first | exact Pick.here | apply Pick.there)))); apply Have.base; repeat (first | exact Suff.here | apply Suff.there)))
      · have hkk : k = (tellW (fireTo ω es i).1 e.1 e.2.1).length := by omega
        rw [hkk, List.take_length]
        refine G.tbCast (ω' := (fireTo ω es (i + 1)).1) (by (repeat (first | exact Pick.here | apply Pick.there))) (by rw [fire_succ hes]) ?_
        refine G.slCast (T := 37) (sz := 4) (m' := (fireTo ω es (i + 1)).2.length) (xs' := (fireTo ω es (i + 1)).2.flatMap tldC) (by (repeat (first | exact Pick.here | apply Pick.there))) (by rw [fire_succ hes]) (by rw [fire_succ hes]) ?_
        refine G.exit ?_
        refine G.then_e ?_
        refine G.then_e ?_
        refine G.blk_e ?_
        refine G.blk_n ?_
        refine G.then_n ?_
        refine G.region ?_
        refine G.q (Quiet.add rfl rfl (by omega)) rfl ?_
        refine G.q (Quiet.move rfl) rfl ?_
        refine G.nil ?_
        refine G.then_n ?_
        exact G.roundK ((i + 1, _)) (⟨by dsimp only; omega, _, _, by rw [fire_succ hes]⟩) (by dsimp only; omega) ⟨rfl, rfl, rfl, rfl, rfl, rfl, trivial⟩ (by (repeat (first | exact Picks.nil | (apply Picks.cons; (repeat (first | exact Pick.here | apply Pick.there)))))) (by ((repeat (apply Have.cons; (repeat (first | exact Pick.here | apply Pick.there)))); apply Have.base; repeat (first | exact Suff.here | apply Suff.there)))
  · have hii : i = es.length := by omega
    subst hii
    refine G.exit ?_
    refine G.then_e ?_
    refine G.then_e ?_
    refine G.blk_e ?_
    refine G.then_n ?_
    refine G.seq ?_
    refine G.region ?_
    refine G.q (Quiet.move rfl) rfl ?_
    refine G.q (Quiet.assign rfl) rfl ?_
    refine G.nil ?_
    refine G.then_n ?_
    refine G.ret ?_
    exact G.done (l := [.tmp 4]) rfl rfl ⟨_, _, rfl, rfl⟩ (by (repeat (first | exact Picks.nil | (apply Picks.cons; (repeat (first | exact Pick.here | apply Pick.there)))))) (by (repeat (first | exact Suff.here | apply Suff.there)))

end Go.Proofs.YtnnbelmpbmfdnaaDoor
