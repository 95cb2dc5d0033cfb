/- Own work, some of it printed by program, texts that were built one by one and are laid one behind the other here: package watch: Fire: walked. | law 11: rows of watches and events as arguments; what the walks of WatchOnce, WatchApart, WatchGone need. | the document's paths: walked. | the document's tree: walked. | the document's tree: what creates and erases: walked. | the document's tree: parts, sessions, entries: walked. | the document's tree: kids, owners, clones, soundness: walked. | the document's tree: entries, and what is told: walked. | package tree: Acl, Sessions, Lay, LaySession: walked. | the document's tree: Stat, layings, Same: walked. -/
import Derived.Test.YtnnbelmpbmfdnaaGreatDoorCWPlaysP2
import Derived.Test.YtnnbelmpbmfdnaaGreatDoorCWPlaysP1
import Derived.Test.YtnnbelmpbmfdnaaGreatDoorCWPlaysP0
set_option linter.unusedSimpArgs false
set_option linter.unusedVariables false
/- Own work, by program: package watch: Fire: walked. -/

namespace Go.Proofs.YtnnbelmpbmfdnaaGreatDoor
open Go
theorem spot_mem (ω : List Wt) (sp : Spot) (x : Int) : (x, sp) ∈ ω ↔ x ∈ (ω.filter fun w => decide (w.2 = sp)).map (·.1) := by
  constructor
  · intro h; exact List.mem_map.2 ⟨(x, sp), List.mem_filter.2 ⟨h, by simp⟩, rfl⟩
  · intro h
    obtain ⟨w, hw, rfl⟩ := List.mem_map.1 h
    obtain ⟨h1, h2⟩ := List.mem_filter.1 hw
    have h2 : w.2 = sp := by simpa using h2
    rw [← h2]; exact h1
theorem spot_nodup {ω : List Wt} {m : By} {n : List (Int × Int)} (h : TbI ω m n) {sp : Spot} : ((ω.filter fun w => decide (w.2 = sp)).map (·.1)).Nodup := by
  refine List.pairwise_map.2 (List.Pairwise.imp_of_mem ?_ (h.nod.filter _))
  intro a b ha hb hne e
  apply hne
  have h1 := (List.mem_filter.1 ha).2
  have h2 := (List.mem_filter.1 hb).2
  simp at h1 h2
  obtain ⟨a1, a2⟩ := a; obtain ⟨b1, b2⟩ := b
  dsimp only at *
  rw [e, h1, h2]
set_option maxRecDepth 100000 in
theorem wfire_spec (t : Nat) (ω : List Wt) (va : Value) (es : List Ev) (p : HP) (hp : ∀ h : Hp, p h → rdS 3 h va es.length (es.flatMap evC)) (hl : ω.length ≤ 1048576) (hel : es.length ≤ 3145728) : Fn Tryz.prog 37 #[vptr t, va] [tbR t ω, p] fun v L => ∃ a c, v = .slice a (fireL ω es).2.length c ∧ L = [tbR t (fireL ω es).1, p, slR 147 4 v (fireL ω es).2.length ((fireL ω es).2.flatMap tldC)] := by
 refine Fn.intro (vs := [vptr t, va]) Tryz.func37 rfl rfl ?_
 intro F W
 refine G.rdAny (p := p) hp (by (repeat' constructor)) fun aa ca e0 _ => ?_
 subst e0
 refine G.seq (G.region (G.q (Quiet.assign rfl) rfl (G.nil (G.then_n (G.seq (G.add (slR_nil 147 4) (G.region (G.q (Quiet.assign rfl) rfl (G.nil (G.then_n (G.seq (G.seq (G.region (G.q (Quiet.move rfl) rfl (G.q (Quiet.slen rfl Tryz.underlying30 rfl) rfl (G.q (Quiet.move rfl) rfl (G.nil (G.then_n (G.block ?_)))))))))))))))))))
 refine G.tbCast (ω' := (fireTo ω es 0).1) (by (repeat' constructor)) rfl ?_
 refine G.loopK (ι := Nat × Value) (fun q E => (20, vint q.1) :: (5, q.2) :: E) (fun q => [tbR t (fireTo ω es q.1).1, slR 147 4 q.2 (fireTo ω es q.1).2.length ((fireTo ω es q.1).2.flatMap tldC)]) (fun q => q.1 ≤ es.length ∧ ∃ a c, q.2 = .slice a (fireTo ω es q.1).2.length c) (fun q => es.length - q.1) (0, .slice none 0 0) (ts := [0, 4, 18, 19]) (.cons rfl (.cons rfl (.cons rfl (.cons rfl (.nil))))) (⟨Nat.zero_le _, none, 0, rfl⟩) ⟨rfl, rfl, rfl, rfl, rfl, rfl, trivial⟩ (by (repeat' constructor)) ?_
 rintro ⟨i, u⟩ ⟨hi, au, cu, hu⟩
 dsimp only
 dsimp only at hi hu
 subst hu
 obtain ⟨hwl, hol⟩ := fire_len ω es i
 have hol2 : i * ω.length ≤ 3145728 * 1048576 := Nat.mul_le_mul (by omega) hl
 refine G.seq (G.region (G.q (Quiet.int rfl rfl rfl) rfl (G.nil (G.then_n (G.seq ?_)))))
 refine G.condD rfl (fun h21 => ?_) (fun h21 => ?_)
 ·have hi2 : i < es.length := by omega
  refine G.rdShape (p := p) hp (by (repeat' constructor)) (by omega) fun ba oa e0 => ?_
  subst e0
  have hes : es.getD i (0, ([], 0)) = es[i] := by simp [hi2]
  have hat : ((es.flatMap evC).drop (i * 3)).take 3 = evC es[i] := flatMap_at (f := evC) (sz := 3) (fun _ _ => rfl) hi2
  generalize es[i] = e at hes hat
  have hat : ((es.flatMap evC).drop (i * 3)).take 3 = [vint e.1, vstr e.2.1, vint e.2.2] := hat
  have hkn := kinds_nodup e.1
  have hkl := kinds_len e.1
  refine G.skip (G.then_n (G.seq (G.block (G.seq (G.region ?_)))))
  refine G.q (Quiet.indexAddr rfl rfl el_30 (by omega)) rfl ?_
  refine G.q (Quiet.loadRdA (sz := 3) (j := i * 3) (k := 3) (p := p) (vs := [vint e.1, vstr e.2.1, vint e.2.2]) rfl ag_75 (by (repeat' constructor)) hp (by simp) (by omega) (by omega) hat) rfl ?_
  refine G.op (OpSpec.allocA ze_75) (by (repeat' constructor)) rfl ?nx9
  rintro v L' ⟨be, rfl, rfl⟩
  refine G.op (OpSpec.storeA rfl rfl ?c11 sz_75 ?c14 ?c12 ?c13) (by (repeat' constructor)) rfl ?nx15
  case c11 => (first | (simp [isCell]; done) | (simp [isCell, setAll, Value.cells]; done))
  case c14 => (first | (simp; done) | (simp [setAll, spl, Value.cells]; done))
  case c12 => (first | (simp; done) | (simp [setAll, spl, Value.cells]; done))
  case c13 => exact nfz0 _ _
  rintro v L' rfl
  refine G.nil ?_
  refine G.ptCast (b := be) (l' := [vint e.1, vstr e.2.1, vint e.2.2]) (by (repeat' constructor)) rfl ?_
  refine G.then_n (G.seq (G.add (slR_nil 3 1) (G.region (G.q (Quiet.assign rfl) rfl (G.nil (G.then_n (G.seq (G.seq (G.region (G.q (Quiet.fieldAddr rfl fo_75_0) rfl ?_))))))))))
  refine G.q (Quiet.load rfl ag_3 (by (repeat' constructor)) (rfl)) rfl ?_
  refine G.op (OpSpec.call Tryz.func82 rfl rfl (vs := [_]) rfl (wkinds_spec e.1)) (by (repeat' constructor)) rfl ?nx19
  rintro v L' ⟨⟨ak, ck, rfl⟩, rfl⟩
  refine G.q (Quiet.slen rfl Tryz.underlying52 rfl) rfl (G.q (Quiet.move rfl) rfl (G.nil (G.then_n (G.block ?_))))
  refine G.tbCast (ω' := outK (fireTo ω es i).1 e.2.1 ((kindsZ e.1).take 0)) (by (repeat' constructor)) (by rw [List.take_zero, outK_nil]) ?_
  refine G.loopK (ι := Nat × Value × (List Int)) (fun q E => (28, vint q.1) :: (8, q.2.1) :: E) (fun q => [tbR t (outK (fireTo ω es i).1 e.2.1 ((kindsZ e.1).take q.1)), slR 3 1 q.2.1 q.2.2.length (ints q.2.2)]) (fun q => q.1 ≤ (kindsZ e.1).length ∧ q.2.2.Perm (idsK (fireTo ω es i).1 e.2.1 ((kindsZ e.1).take q.1)) ∧ ∃ a c, q.2.1 = .slice a q.2.2.length c) (fun q => (kindsZ e.1).length - q.1) (0, .slice none 0 0, []) (ts := [0, 4, 5, 7, 18, 19, 20, 21, 22, 23, 24, 25, 26, 27]) (.cons rfl (.cons rfl (.cons rfl (.cons rfl (.cons rfl (.cons rfl (.cons rfl (.cons rfl (.cons rfl (.cons rfl (.cons rfl (.cons rfl (.cons rfl (.cons rfl (.nil))))))))))))))) (⟨Nat.zero_le _, by dsimp only; rw [List.take_zero]; simp [idsK], none, 0, rfl⟩) ⟨rfl, rfl, rfl, rfl, rfl, rfl, rfl, rfl, rfl, rfl, rfl, rfl, rfl, rfl, rfl, rfl, trivial⟩ (by (repeat' constructor)) ?_
  rintro ⟨j, w, who⟩ ⟨hj, hwho, aw, cw, hw⟩
  dsimp only
  dsimp only at hj hwho hw
  subst hw
  have hwhl := hwho.length_eq
  have hwhl2 := ids_len (fireTo ω es i).1 e.2.1 ((kindsZ e.1).take j)
  refine G.seq (G.region (G.q (Quiet.int rfl rfl rfl) rfl (G.nil (G.then_n (G.seq ?_)))))
  refine G.condD rfl (fun h29 => ?_) (fun h29 => ?_)
  ·have hj2 : j < (kindsZ e.1).length := by omega
   refine G.slShape (v := .slice ak _ ck) (by (repeat' constructor)) (by omega) fun bk ck' e0 mk _ => ?_
   simp only [Value.slice.injEq, true_and] at e0
   obtain ⟨rfl, rfl⟩ := e0
   refine G.skip (G.then_n (G.seq (G.block (G.seq (G.region ?_)))))
   refine G.q (Quiet.indexAddr rfl rfl el_52 (by omega)) rfl ?_
   refine G.q (Quiet.loadSl (v := vint (kindsZ e.1)[j]) (i := j * 1) rfl ag_3 (by (repeat' constructor)) (by simp [hj2])) rfl ?_
   refine G.q (Quiet.assign rfl) rfl (G.nil (G.then_n (G.seq (G.region (G.q (Quiet.move rfl) rfl (G.q (Quiet.fieldAddr rfl fo_75_1) rfl ?_))))))
   refine G.q (Quiet.load rfl ag_9 (by (repeat' constructor)) (rfl)) rfl ?_
   refine G.q (Quiet.build (us := [(0, _), (1, _)]) fl_154 ze_154 rfl rfl (by simp [isCell])) rfl ?_
   refine G.op (OpSpec.allocA ze_154) (by (repeat' constructor)) rfl ?nx29
   rintro v L' ⟨bs, rfl, rfl⟩
   refine G.op (OpSpec.storeA rfl rfl ?c31 sz_154 ?c34 ?c32 ?c33) (by (repeat' constructor)) rfl ?nx35
   case c31 => (first | (simp [isCell]; done) | (simp [isCell, setAll, Value.cells]; done))
   case c34 => (first | (simp; done) | (simp [setAll, spl, Value.cells]; done))
   case c32 => (first | (simp; done) | (simp [setAll, spl, Value.cells]; done))
   case c33 => exact nfz0 _ _
   rintro v L' rfl
   refine G.nil ?_
   refine G.ptCast (b := bs) (l' := [vint (kindsZ e.1)[j], vstr e.2.1]) (by (repeat' constructor)) rfl ?_
   refine G.then_n (G.seq (G.add (slR_nil 3 1) ?_))
   refine G.tbOpen (ω := (outK (fireTo ω es i).1 e.2.1 ((kindsZ e.1).take j))) (by (repeat' constructor)) fun rb rm m q hI => ?_
   refine G.region ?_
   rcases hal : alook m ((kindsZ e.1)[j], e.2.1) with _ | ⟨pb, l⟩
   ·refine G.q (Quiet.assign rfl) rfl (G.nil (G.then_n (G.seq (G.seq ?_))))
    refine G.draw [6] [[0, 1, 2, 3, 4, 5, 6]] mixed (by kernel_rfl) ?_
    refine Phases.go [] (by (repeat' constructor)) ?_
    refine D.qw [1, 2, 3, 5, 6] rfl (by kernel_rfl) (Quiet.move rfl) ?_
    refine D.qw [2, 3, 5, 6] rfl (by kernel_rfl) (Quiet.nilp rfl) ?_
    refine D.qw [3, 5, 6] rfl (by kernel_rfl) (Quiet.fieldAddr rfl fo_151_0) ?_
    refine D.qw [5, 6] rfl (by kernel_rfl) (Quiet.load rfl ag_148 (by (repeat' constructor)) (rfl)) ?_
    refine D.qw [5, 6] rfl (by kernel_rfl) (Quiet.loadAs (vs := [vint (kindsZ e.1)[j], vstr e.2.1]) rfl ag_154 (by (repeat' constructor)) (by simp) rfl) ?_
    refine D.qw [6] rfl (by kernel_rfl) (Quiet.lookupN (m := m) (enc := byV) spotK (hal) rfl rfl Tryz.underlying148 ze_149 (by (repeat' constructor)) rfl) ?_
    refine D.h rfl (by kernel_rfl) (OpSpec.rangeNil rfl Tryz.underlying149) (by (repeat' constructor)) ?nx43
    rintro v L' ⟨it, rfl, rfl⟩
    refine D.ph (Phases.fin (G.then_n (G.block ?_)))
    refine G.loopK (ι := Unit) (fun q E => (12, .slice none 0 0) :: E) (fun q => [nilR it]) (fun q => True) (fun q => 0) (()) (ts := [0, 4, 5, 7, 8, 10, 11, 18, 19, 20, 21, 22, 23, 24, 25, 26, 27, 28, 29, 30, 31, 32, 33, 34, 35, 36, 37, 38, 39, 40, 41, 42]) (.cons rfl (.cons rfl (.cons rfl (.cons rfl (.cons rfl (.cons rfl (.cons rfl (.cons rfl (.cons rfl (.cons rfl (.cons rfl (.cons rfl (.cons rfl (.cons rfl (.cons rfl (.cons rfl (.cons rfl (.cons rfl (.cons rfl (.cons rfl (.cons rfl (.cons rfl (.cons rfl (.cons rfl (.cons rfl (.cons rfl (.cons rfl (.cons rfl (.cons rfl (.cons rfl (.cons rfl (.cons rfl (.nil))))))))))))))))))))))))))))))))) (trivial) ⟨rfl, rfl, rfl, rfl, rfl, rfl, rfl, rfl, rfl, rfl, rfl, rfl, rfl, rfl, rfl, rfl, rfl, rfl, rfl, rfl, rfl, rfl, rfl, rfl, rfl, rfl, rfl, rfl, rfl, rfl, rfl, rfl, rfl, trivial⟩ (by (repeat' constructor)) ?_
    rintro u0 -
    refine G.seq (G.region ?_)
    refine G.op (OpSpec.nextNil rfl) (by (repeat' constructor)) rfl ?nx45
    rintro v L' ⟨rfl, rfl⟩
    refine G.q (Quiet.extract rfl rfl) rfl (G.nil (G.then_n (G.seq (G.condF rfl (G.exit (G.then_e (G.then_e (G.blk_e (G.then_n (G.seq (G.seq ?_)))))))))))
    refine G.tbFold hI (by (repeat' constructor)) rfl rfl rfl ?_
    have hids : ([] : List Int).Perm (((outK (fireTo ω es i).1 e.2.1 ((kindsZ e.1).take j)).filter fun w => decide (w.2 = ((kindsZ e.1)[j], e.2.1))).map (·.1)) := by rw [spot_none hI hal]; exact .refl _
    have hand : ([] : List Int).Nodup := hids.nodup_iff.2 (spot_nodup hI)
    have hamem : ∀ x, (x, ((kindsZ e.1)[j], e.2.1)) ∈ (outK (fireTo ω es i).1 e.2.1 ((kindsZ e.1).take j)) ↔ x ∈ ([] : List Int) := fun x => (spot_mem _ _ _).trans hids.mem_iff.symm
    have halen : ([] : List Int).length ≤ 1048576 := by have h1 := hids.length_eq; have h2 := List.length_filter_le (fun w : Wt => decide (w.2 = ((kindsZ e.1)[j], e.2.1))) (outK (fireTo ω es i).1 e.2.1 ((kindsZ e.1).take j)); rw [List.length_map] at h1; have h3 : (outK (fireTo ω es i).1 e.2.1 ((kindsZ e.1).take j)).length ≤ (fireTo ω es i).1.length := List.length_filter_le _ _; omega
    refine G.tbCast (ω' := goneL (outK (fireTo ω es i).1 e.2.1 ((kindsZ e.1).take j)) ((kindsZ e.1)[j], e.2.1) (([] : List Int).take 0)) (by (repeat' constructor)) (by rw [List.take_zero, goneL_nil]) ?_
    refine G.region (G.q (Quiet.move rfl) rfl (G.q (Quiet.slen rfl Tryz.underlying52 rfl) rfl (G.q (Quiet.move rfl) rfl (G.nil (G.then_n (G.block ?_))))))
    refine G.loopK (ι := Nat) (fun q E => (53, vint q) :: E) (fun q => [tbR t (goneL (outK (fireTo ω es i).1 e.2.1 ((kindsZ e.1).take j)) ((kindsZ e.1)[j], e.2.1) (([] : List Int).take q))]) (fun q => q ≤ ([] : List Int).length) (fun q => ([] : List Int).length - q) (0) (ts := [0, 4, 5, 7, 8, 10, 11, 12, 18, 19, 20, 21, 22, 23, 24, 25, 26, 27, 28, 29, 30, 31, 32, 33, 34, 35, 36, 37, 38, 39, 40, 41, 42, 43, 44, 51, 52]) (.cons rfl (.cons rfl (.cons rfl (.cons rfl (.cons rfl (.cons rfl (.cons rfl (.cons rfl (.cons rfl (.cons rfl (.cons rfl (.cons rfl (.cons rfl (.cons rfl (.cons rfl (.cons rfl (.cons rfl (.cons rfl (.cons rfl (.cons rfl (.cons rfl (.cons rfl (.cons rfl (.cons rfl (.cons rfl (.cons rfl (.cons rfl (.cons rfl (.cons rfl (.cons rfl (.cons rfl (.cons rfl (.cons rfl (.cons rfl (.cons rfl (.cons rfl (.cons rfl (.nil)))))))))))))))))))))))))))))))))))))) (Nat.zero_le _) ⟨rfl, rfl, rfl, rfl, rfl, rfl, rfl, rfl, rfl, rfl, rfl, rfl, rfl, rfl, rfl, rfl, rfl, rfl, rfl, rfl, rfl, rfl, rfl, rfl, rfl, rfl, rfl, rfl, rfl, rfl, rfl, rfl, rfl, rfl, rfl, rfl, rfl, rfl, trivial⟩ (by (repeat' constructor)) ?_
    rintro i2 hi2b
    refine G.seq (G.region (G.q (Quiet.int rfl rfl rfl) rfl (G.nil (G.then_n (G.seq ?_)))))
    refine G.condD rfl (fun h54 => ?_) (fun h54 => ?_)
    ·exfalso; simp at h54; omega
    ·have hii : i2 = ([] : List Int).length := by simp at hi2b ⊢; omega
     rw [hii, List.take_length, goneL_all (fun x hx => (hamem x).1 hx), ← List.take_succ_eq_append_getElem hj2]
     refine G.exit (G.then_e (G.then_e (G.blk_e (G.then_n (G.region (G.q (Quiet.move rfl) rfl (G.q (Quiet.move rfl) rfl ?_)))))))
     refine G.op (OpSpec.append (n := who.length) (m := ([] : List Int).length) (ys := ints ([] : List Int)) (p := slR 3 1 (.slice none 0 0) ([] : List Int).length (ints ([] : List Int))) rfl rfl rfl el_52 (.inl ⟨_, Tryz.underlying52⟩) ze_3 rfl rfl ?hc54 ?hr55 ?hb56 (by decide)) (by (repeat' constructor)) rfl ?nx57
     case hc54 => intro y hy; obtain ⟨c, -, rfl⟩ := List.mem_map.1 hy; rfl
     case hr55 => exact fun h hp => slR_rd hp
     case hb56 => omega
     rintro v L' ⟨⟨a20, c20, rfl⟩, rfl⟩
     refine G.q (Quiet.assign rfl) rfl (G.nil (G.blk_n (G.then_n (G.region ?_))))
     refine G.q (Quiet.add rfl rfl (by omega)) rfl ?_
     refine G.q (Quiet.move rfl) rfl (G.nil (G.then_n ?_))
     rw [show ints who ++ ints ([] : List Int) = ints (who ++ ([] : List Int)) by simp [ints], show who.length + ([] : List Int).length = (who ++ ([] : List Int)).length by simp]
     exact G.roundK ((j + 1, .slice a20 (who ++ ([] : List Int)).length c20, who ++ ([] : List Int))) (⟨by dsimp only; omega, by dsimp only; rw [List.take_succ_eq_append_getElem hj2]; exact (hwho.append hids).trans (idsK_step _ _ (take_not hkn hj2)).symm, _, _, rfl⟩) (by dsimp only; omega) ⟨rfl, rfl, rfl, rfl, rfl, rfl, rfl, rfl, rfl, rfl, rfl, rfl, rfl, rfl, rfl, rfl, trivial⟩ (by (repeat' constructor)) (by ((repeat (apply Have.cons; (repeat (first | exact Pick.here | apply Pick.there)))); apply Have.base; repeat' constructor))
   ·refine G.bigTake hal (by (repeat' constructor)) ?_
    refine G.q (Quiet.assign rfl) rfl (G.nil (G.then_n (G.seq (G.seq ?_))))
    refine G.draw [6] [[0, 1, 2, 3, 4, 5, 6]] mixed (by kernel_rfl) ?_
    refine Phases.go [] (by (repeat' constructor)) ?_
    refine D.qw [1, 2, 3, 5, 6] rfl (by kernel_rfl) (Quiet.move rfl) ?_
    refine D.qw [2, 3, 5, 6] rfl (by kernel_rfl) (Quiet.nilp rfl) ?_
    refine D.qw [3, 5, 6] rfl (by kernel_rfl) (Quiet.fieldAddr rfl fo_151_0) ?_
    refine D.qw [5, 6] rfl (by kernel_rfl) (Quiet.load rfl ag_148 (by (repeat' constructor)) (rfl)) ?_
    refine D.qw [5, 6] rfl (by kernel_rfl) (Quiet.loadAs (vs := [vint (kindsZ e.1)[j], vstr e.2.1]) rfl ag_154 (by (repeat' constructor)) (by simp) rfl) ?_
    refine D.qw [6] rfl (by kernel_rfl) (Quiet.lookupY (m := m) (enc := byV) spotK (hal) rfl rfl Tryz.underlying148 ze_149 (by (repeat' constructor)) rfl) ?_
    refine D.h rfl (by kernel_rfl) (OpSpec.range (f := fun x : Int × Int => (vint x.1, idV x.2)) (m := l) rfl Tryz.underlying149 ?he67) (by (repeat' constructor)) ?nx68
    case he67 => rfl
    rintro v L' ⟨it, rfl, rfl⟩
    refine D.ph (Phases.fin (G.then_n (G.block ?_)))
    refine G.loopK (ι := (List (Int × Int)) × Value × (List Int)) (fun q E => (12, q.2.1) :: E) (fun q => [rangeR (fun x : Int × Int => (vint x.1, idV x.2)) it pb l q.1, slR 3 1 q.2.1 q.2.2.length (ints q.2.2)]) (fun q => q.2.2 = q.1.map (·.1) ∧ (∃ rest, l.Perm (q.1 ++ rest)) ∧ ∃ a c, q.2.1 = .slice a q.2.2.length c) (fun q => l.length - q.1.length) ([], .slice none 0 0, []) (ts := [0, 4, 5, 7, 8, 10, 11, 18, 19, 20, 21, 22, 23, 24, 25, 26, 27, 28, 29, 30, 31, 32, 33, 34, 35, 36, 37, 38, 39, 40, 41, 42]) (.cons rfl (.cons rfl (.cons rfl (.cons rfl (.cons rfl (.cons rfl (.cons rfl (.cons rfl (.cons rfl (.cons rfl (.cons rfl (.cons rfl (.cons rfl (.cons rfl (.cons rfl (.cons rfl (.cons rfl (.cons rfl (.cons rfl (.cons rfl (.cons rfl (.cons rfl (.cons rfl (.cons rfl (.cons rfl (.cons rfl (.cons rfl (.cons rfl (.cons rfl (.cons rfl (.cons rfl (.cons rfl (.nil))))))))))))))))))))))))))))))))) (⟨rfl, ⟨l, .refl _⟩, none, 0, rfl⟩) ⟨rfl, rfl, rfl, rfl, rfl, rfl, rfl, rfl, rfl, rfl, rfl, rfl, rfl, rfl, rfl, rfl, rfl, rfl, rfl, rfl, rfl, rfl, rfl, rfl, rfl, rfl, rfl, rfl, rfl, rfl, rfl, rfl, rfl, trivial⟩ (by (repeat' constructor)) ?_
    rintro ⟨s, w2, acc⟩ ⟨hacc, ⟨rest, hl⟩, av, cv, hw2⟩
    dsimp only
    dsimp only at hacc hl hw2
    subst hw2
    have hll := hl.length_eq
    rw [List.length_append] at hll
    have hal2 : acc.length = s.length := by rw [hacc, List.length_map]
    refine G.seq (G.region ?_)
    refine G.op (OpSpec.next rfl) (by (repeat' constructor)) rfl ?nx70
    rintro v L' (⟨rfl, hp12, rfl⟩ | ⟨z, rest12, rfl, hp12, rfl⟩)
    ·refine G.rangeDone (by (repeat' constructor)) ?_
     refine G.bigPut (f := inW) (m := m) ((kindsZ e.1)[j], e.2.1) (pb, l) (p := mapR pb (intM l)) rfl (by (repeat' constructor)) ?_
     rw [aset_self hal]
     refine G.tbFold hI (by (repeat' constructor)) rfl rfl rfl ?_
     have hids : acc.Perm (((outK (fireTo ω es i).1 e.2.1 ((kindsZ e.1).take j)).filter fun w => decide (w.2 = ((kindsZ e.1)[j], e.2.1))).map (·.1)) := by rw [hacc]; exact (hp12.symm.map _).trans (spot_ids hI hal)
     refine G.q (Quiet.extract rfl rfl) rfl (G.nil (G.then_n (G.seq (G.condF rfl (G.exit (G.then_e (G.then_e (G.blk_e (G.then_n (G.seq (G.seq ?_)))))))))))
     have hand : acc.Nodup := hids.nodup_iff.2 (spot_nodup hI)
     have hamem : ∀ x, (x, ((kindsZ e.1)[j], e.2.1)) ∈ (outK (fireTo ω es i).1 e.2.1 ((kindsZ e.1).take j)) ↔ x ∈ acc := fun x => (spot_mem _ _ _).trans hids.mem_iff.symm
     have halen : acc.length ≤ 1048576 := by have h1 := hids.length_eq; have h2 := List.length_filter_le (fun w : Wt => decide (w.2 = ((kindsZ e.1)[j], e.2.1))) (outK (fireTo ω es i).1 e.2.1 ((kindsZ e.1).take j)); rw [List.length_map] at h1; have h3 : (outK (fireTo ω es i).1 e.2.1 ((kindsZ e.1).take j)).length ≤ (fireTo ω es i).1.length := List.length_filter_le _ _; omega
     refine G.tbCast (ω' := goneL (outK (fireTo ω es i).1 e.2.1 ((kindsZ e.1).take j)) ((kindsZ e.1)[j], e.2.1) (acc.take 0)) (by (repeat' constructor)) (by rw [List.take_zero, goneL_nil]) ?_
     refine G.region (G.q (Quiet.move rfl) rfl (G.q (Quiet.slen rfl Tryz.underlying52 rfl) rfl (G.q (Quiet.move rfl) rfl (G.nil (G.then_n (G.block ?_))))))
     refine G.loopK (ι := Nat) (fun q E => (53, vint q) :: E) (fun q => [tbR t (goneL (outK (fireTo ω es i).1 e.2.1 ((kindsZ e.1).take j)) ((kindsZ e.1)[j], e.2.1) (acc.take q))]) (fun q => q ≤ acc.length) (fun q => acc.length - q) (0) (ts := [0, 4, 5, 7, 8, 10, 11, 12, 18, 19, 20, 21, 22, 23, 24, 25, 26, 27, 28, 29, 30, 31, 32, 33, 34, 35, 36, 37, 38, 39, 40, 41, 42, 43, 44, 51, 52]) (.cons rfl (.cons rfl (.cons rfl (.cons rfl (.cons rfl (.cons rfl (.cons rfl (.cons rfl (.cons rfl (.cons rfl (.cons rfl (.cons rfl (.cons rfl (.cons rfl (.cons rfl (.cons rfl (.cons rfl (.cons rfl (.cons rfl (.cons rfl (.cons rfl (.cons rfl (.cons rfl (.cons rfl (.cons rfl (.cons rfl (.cons rfl (.cons rfl (.cons rfl (.cons rfl (.cons rfl (.cons rfl (.cons rfl (.cons rfl (.cons rfl (.cons rfl (.cons rfl (.nil)))))))))))))))))))))))))))))))))))))) (Nat.zero_le _) ⟨rfl, rfl, rfl, rfl, rfl, rfl, rfl, rfl, rfl, rfl, rfl, rfl, rfl, rfl, rfl, rfl, rfl, rfl, rfl, rfl, rfl, rfl, rfl, rfl, rfl, rfl, rfl, rfl, rfl, rfl, rfl, rfl, rfl, rfl, rfl, rfl, rfl, rfl, trivial⟩ (by (repeat' constructor)) ?_
     rintro i2 hi2b
     refine G.seq (G.region (G.q (Quiet.int rfl rfl rfl) rfl (G.nil (G.then_n (G.seq ?_)))))
     refine G.condD rfl (fun h54 => ?_) (fun h54 => ?_)
     ·have hi3 : i2 < acc.length := by omega
      refine G.slShape (v := .slice av _ cv) (by (repeat' constructor)) (by omega) fun bl cl' e0 ml _ => ?_
      simp only [Value.slice.injEq, true_and] at e0
      obtain ⟨rfl, rfl⟩ := e0
      refine G.skip (G.then_n (G.seq (G.block (G.seq (G.region ?_)))))
      refine G.q (Quiet.indexAddr rfl rfl el_52 (by omega)) rfl ?_
      refine G.q (Quiet.loadSl (v := vint acc[i2]) (i := i2 * 1) rfl ag_3 (by (repeat' constructor)) (by simp [hi3])) rfl ?_
      refine G.q (Quiet.assign rfl) rfl (G.nil (G.then_n (G.region (G.q (Quiet.move rfl) rfl ?_))))
      refine G.q (Quiet.loadAs (vs := [vint (kindsZ e.1)[j], vstr e.2.1]) rfl ag_154 (by (repeat' constructor)) (by simp) rfl) rfl ?_
      refine G.q (Quiet.move rfl) rfl ?_
      refine G.op (OpSpec.call Tryz.func83 rfl rfl (vs := [_, _, _]) rfl (wgone_spec t (goneL (outK (fireTo ω es i).1 e.2.1 ((kindsZ e.1).take j)) ((kindsZ e.1)[j], e.2.1) (acc.take i2)) ((kindsZ e.1)[j], e.2.1) acc[i2] (goneL_mem ((hamem _).2 (List.getElem_mem hi3)) (take_not hand hi3)))) (by (repeat' constructor)) rfl ?nx81
      rintro v L' ⟨rfl, rfl⟩
      refine G.nil (G.blk_n (G.then_n (G.region ?_)))
      refine G.q (Quiet.add rfl rfl (by omega)) rfl ?_
      refine G.q (Quiet.move rfl) rfl (G.nil (G.then_n ?_))
      rw [goneL_step, ← List.take_succ_eq_append_getElem hi3]
      exact G.roundK (i2 + 1) (by omega) (by omega) ⟨rfl, rfl, rfl, rfl, rfl, rfl, rfl, rfl, rfl, rfl, rfl, rfl, rfl, rfl, rfl, rfl, rfl, rfl, rfl, rfl, rfl, rfl, rfl, rfl, rfl, rfl, rfl, rfl, rfl, rfl, rfl, rfl, rfl, rfl, rfl, rfl, rfl, rfl, trivial⟩ (by (repeat' constructor)) (by ((repeat (apply Have.cons; (repeat (first | exact Pick.here | apply Pick.there)))); apply Have.base; repeat' constructor))
     ·have hii : i2 = acc.length := by omega
      rw [hii, List.take_length, goneL_all (fun x hx => (hamem x).1 hx), ← List.take_succ_eq_append_getElem hj2]
      refine G.exit (G.then_e (G.then_e (G.blk_e (G.then_n (G.region (G.q (Quiet.move rfl) rfl (G.q (Quiet.move rfl) rfl ?_)))))))
      refine G.op (OpSpec.append (n := who.length) (m := acc.length) (ys := ints acc) (p := slR 3 1 (.slice av acc.length cv) acc.length (ints acc)) rfl rfl rfl el_52 (.inl ⟨_, Tryz.underlying52⟩) ze_3 rfl rfl ?hc86 ?hr87 ?hb88 (by decide)) (by (repeat' constructor)) rfl ?nx89
      case hc86 => intro y hy; obtain ⟨c, -, rfl⟩ := List.mem_map.1 hy; rfl
      case hr87 => exact fun h hp => slR_rd hp
      case hb88 => omega
      rintro v L' ⟨⟨a20, c20, rfl⟩, rfl⟩
      refine G.q (Quiet.assign rfl) rfl (G.nil (G.blk_n (G.then_n (G.region ?_))))
      refine G.q (Quiet.add rfl rfl (by omega)) rfl ?_
      refine G.q (Quiet.move rfl) rfl (G.nil (G.then_n ?_))
      rw [show ints who ++ ints acc = ints (who ++ acc) by simp [ints], show who.length + acc.length = (who ++ acc).length by simp]
      exact G.roundK ((j + 1, .slice a20 (who ++ acc).length c20, who ++ acc)) (⟨by dsimp only; omega, by dsimp only; rw [List.take_succ_eq_append_getElem hj2]; exact (hwho.append hids).trans (idsK_step _ _ (take_not hkn hj2)).symm, _, _, rfl⟩) (by dsimp only; omega) ⟨rfl, rfl, rfl, rfl, rfl, rfl, rfl, rfl, rfl, rfl, rfl, rfl, rfl, rfl, rfl, rfl, trivial⟩ (by (repeat' constructor)) (by ((repeat (apply Have.cons; (repeat (first | exact Pick.here | apply Pick.there)))); apply Have.base; repeat' constructor))
    ·have hzl : l.length ≤ 1048576 := by have h1 := (spot_ids hI hal).length_eq; dsimp only at h1; rw [List.length_map, List.length_map] at h1; have h2 := List.length_filter_le (fun w : Wt => decide (w.2 = ((kindsZ e.1)[j], e.2.1))) (outK (fireTo ω es i).1 e.2.1 ((kindsZ e.1).take j)); have h3 : (outK (fireTo ω es i).1 e.2.1 ((kindsZ e.1).take j)).length ≤ (fireTo ω es i).1.length := List.length_filter_le _ _; omega
     refine G.q (Quiet.extract rfl rfl) rfl (G.nil (G.then_n (G.seq (G.condT rfl (G.skip (G.then_n (G.block (G.seq (G.region ?_)))))))))
     refine G.q (Quiet.entryE (v := .tuple #[vint z.1, idV z.2]) rfl (by (repeat' constructor)) rfl) rfl ?_
     refine G.q (Quiet.extract rfl rfl) rfl (G.q (Quiet.assign rfl) rfl (G.nil (G.then_n (G.region (G.q (Quiet.move rfl) rfl (G.q (Quiet.move rfl) rfl ?_))))))
     refine G.op (OpSpec.buildSlice1 (vs := [_]) el_52 ze_3 rfl rfl rfl rfl rfl (by decide)) (by (repeat' constructor)) rfl ?nx97
     rintro v L' ⟨b14_2, rfl, rfl⟩
     refine G.op (OpSpec.append1 rfl rfl rfl el_52 ze_3 rfl rfl ?c99 ?c100 (Nat.le_refl _) ?c101 (by decide)) (by (repeat' constructor)) rfl ?nx102
     case c99 => (first | (simp [isCell]; done) | (simp [isCell, setAll, Value.cells]; done))
     case c100 => rfl
     case c101 => omega
     rintro v L' ⟨⟨a14_3, c14_3, rfl⟩, rfl⟩
     refine G.q (Quiet.assign rfl) rfl (G.nil (G.blk_n (G.then_n ?_)))
     have hl2 := hp12.length_eq
     simp at hl2
     rw [show ints acc ++ [vint z.1] = ints (acc ++ [z.1]) by simp [ints], show acc.length + 1 = (acc ++ [z.1]).length by simp]
     exact G.roundK ((s ++ [z], .slice a14_3 (acc ++ [z.1]).length c14_3, acc ++ [z.1])) (⟨by dsimp only; simp [hacc], ⟨_, by simpa using hp12⟩, _, _, rfl⟩) (by dsimp only; simp; omega) ⟨rfl, rfl, rfl, rfl, rfl, rfl, rfl, rfl, rfl, rfl, rfl, rfl, rfl, rfl, rfl, rfl, rfl, rfl, rfl, rfl, rfl, rfl, rfl, rfl, rfl, rfl, rfl, rfl, rfl, rfl, rfl, rfl, rfl, trivial⟩ (by (repeat' constructor)) (by ((repeat (apply Have.cons; (repeat (first | exact Pick.here | apply Pick.there)))); apply Have.base; repeat' constructor))
  ·have hjj : j = (kindsZ e.1).length := by omega
   rw [hjj, List.take_length, out_all]
   rw [hjj, List.take_length, ids_all] at hwho
   have htw : compI (sortI who) = (tellW (fireTo ω es i).1 e.1 e.2.1) := by unfold tellW; rw [sortI_perm_eq hwho]
   have htl := tell_len (fireTo ω es i).1 e.1 e.2.1
   refine G.exit (G.then_e (G.then_e (G.blk_e (G.then_n (G.seq (G.region (G.q (Quiet.move rfl) rfl ?_)))))))
   refine G.op (OpSpec.call Tryz.func84 rfl rfl (vs := [_]) rfl (sortI_spec _ who.length who (by omega))) (by (repeat' constructor)) rfl ?nx105
   rintro v L' ⟨rfl, rfl⟩
   refine G.nil (G.then_n (G.seq (G.region (G.q (Quiet.move rfl) rfl ?_))))
   refine G.op (OpSpec.call Tryz.func85 rfl rfl (vs := [_]) rfl (compI_spec _ who.length (sortI who) (by omega))) (by (repeat' constructor)) rfl ?nx108
   rintro v L' ⟨⟨ac, cc, rfl⟩, rfl⟩; rw [htw]
   refine G.q (Quiet.slen rfl Tryz.underlying52 rfl) rfl (G.q (Quiet.move rfl) rfl (G.nil (G.then_n (G.block ?_))))
   refine G.slCast (T := 147) (sz := 4) (m' := ((fireTo ω es i).2 ++ ((tellW (fireTo ω es i).1 e.1 e.2.1).take 0).map fun x => (x, e)).length) (xs' := ((fireTo ω es i).2 ++ ((tellW (fireTo ω es i).1 e.1 e.2.1).take 0).map fun x => (x, e)).flatMap tldC) (by (repeat' constructor)) (by simp) (by simp) ?_
   refine G.loopK (ι := Nat × Value) (fun q E => (71, vint q.1) :: (5, q.2) :: E) (fun q => [slR 147 4 q.2 ((fireTo ω es i).2 ++ ((tellW (fireTo ω es i).1 e.1 e.2.1).take q.1).map fun x => (x, e)).length (((fireTo ω es i).2 ++ ((tellW (fireTo ω es i).1 e.1 e.2.1).take q.1).map fun x => (x, e)).flatMap tldC)]) (fun q => q.1 ≤ (tellW (fireTo ω es i).1 e.1 e.2.1).length ∧ ∃ a c, q.2 = .slice a ((fireTo ω es i).2 ++ ((tellW (fireTo ω es i).1 e.1 e.2.1).take q.1).map fun x => (x, e)).length c) (fun q => (tellW (fireTo ω es i).1 e.1 e.2.1).length - q.1) (0, .slice au (fireTo ω es i).2.length cu) (ts := [0, 4, 7, 8, 18, 19, 20, 21, 22, 23, 24, 25, 26, 27, 28, 29, 66, 68, 69, 70]) (.cons rfl (.cons rfl (.cons rfl (.cons rfl (.cons rfl (.cons rfl (.cons rfl (.cons rfl (.cons rfl (.cons rfl (.cons rfl (.cons rfl (.cons rfl (.cons rfl (.cons rfl (.cons rfl (.cons rfl (.cons rfl (.cons rfl (.cons rfl (.nil))))))))))))))))))))) (⟨Nat.zero_le _, au, cu, by simp⟩) ⟨rfl, rfl, rfl, rfl, rfl, rfl, rfl, rfl, rfl, rfl, rfl, rfl, rfl, rfl, rfl, rfl, rfl, rfl, rfl, rfl, rfl, rfl, trivial⟩ (by (repeat' constructor)) ?_
   rintro ⟨k, u2⟩ ⟨hk, au2, cu2, hu2⟩
   dsimp only
   dsimp only at hk hu2
   subst hu2
   have hoal : ((fireTo ω es i).2 ++ ((tellW (fireTo ω es i).1 e.1 e.2.1).take k).map fun x => (x, e)).length = (fireTo ω es i).2.length + k := by rw [List.length_append, List.length_map, List.length_take]; omega
   refine G.seq (G.region (G.q (Quiet.int rfl rfl rfl) rfl (G.nil (G.then_n (G.seq ?_)))))
   refine G.condD rfl (fun h72 => ?_) (fun h72 => ?_)
   ·have hk2 : k < (tellW (fireTo ω es i).1 e.1 e.2.1).length := by omega
    refine G.slShape (v := .slice ac _ cc) (by (repeat' constructor)) (by omega) fun bc cc' e0 mc _ => ?_
    simp only [Value.slice.injEq, true_and] at e0
    obtain ⟨rfl, rfl⟩ := e0
    refine G.skip (G.then_n (G.seq (G.block (G.seq (G.region ?_)))))
    refine G.q (Quiet.indexAddr rfl rfl el_52 (by omega)) rfl ?_
    refine G.q (Quiet.loadSl (v := vint (tellW (fireTo ω es i).1 e.1 e.2.1)[k]) (i := k * 1) rfl ag_3 (by (repeat' constructor)) (by simp [hk2])) rfl ?_
    refine G.q (Quiet.assign rfl) rfl (G.nil (G.then_n (G.region (G.q (Quiet.move rfl) rfl (G.q (Quiet.move rfl) rfl ?_)))))
    refine G.q (Quiet.loadAs (vs := [vint e.1, vstr e.2.1, vint e.2.2]) rfl ag_75 (by (repeat' constructor)) (by simp) rfl) rfl ?_
    refine G.q (Quiet.buildN (pl := [(0, 1), (1, 3)]) (us := [(0, vint (tellW (fireTo ω es i).1 e.1 e.2.1)[k]), (1, .agg ([vint e.1, vstr e.2.1, vint e.2.2] : List Value).toArray)]) (cells := [vint (tellW (fireTo ω es i).1 e.1 e.2.1)[k], vint e.1, vstr e.2.1, vint e.2.2]) Tryz.underlying147 (by kernel_rfl) ze_147 rfl rfl) rfl ?_
    refine G.op (OpSpec.buildSlice (vs := [_]) el_76 ze_147 rfl rfl rfl rfl (by first | (simp [Value.cells]; done) | (intro v hv; simp only [List.mem_cons, List.not_mem_nil, or_false] at hv; (repeat (first | (subst hv; rfl) | (rcases hv with hv | hv; (subst hv; rfl)))))) (by decide)) (by (repeat' constructor)) rfl ?nx118
    rintro v L' ⟨b26_4, rfl, rfl⟩
    refine G.op (OpSpec.append1 rfl rfl rfl el_76 ze_147 rfl rfl ?c120 ?c121 (Nat.le_refl _) ?c122 (by decide)) (by (repeat' constructor)) rfl ?nx123
    case c120 => (first | (simp [isCell]; done) | (simp [isCell, setAll, Value.cells]; done))
    case c121 => rfl
    case c122 => omega
    rintro v L' ⟨⟨a26_5, c26_5, rfl⟩, rfl⟩
    refine G.q (Quiet.assign rfl) rfl (G.nil (G.blk_n (G.then_n (G.region ?_))))
    refine G.q (Quiet.add rfl rfl (by omega)) rfl ?_
    refine G.q (Quiet.move rfl) rfl (G.nil (G.then_n ?_))
    have hstep : ((fireTo ω es i).2 ++ ((tellW (fireTo ω es i).1 e.1 e.2.1).take (k + 1)).map fun x => (x, e)) = ((fireTo ω es i).2 ++ ((tellW (fireTo ω es i).1 e.1 e.2.1).take k).map fun x => (x, e)) ++ [((tellW (fireTo ω es i).1 e.1 e.2.1)[k], e)] := by rw [List.take_succ_eq_append_getElem hk2, List.map_append, ← List.append_assoc]; rfl
    rw [show ((fireTo ω es i).2 ++ ((tellW (fireTo ω es i).1 e.1 e.2.1).take k).map fun x => (x, e)).flatMap tldC ++ (List.map (fun v => v.cells.toList) [Value.agg [vint (tellW (fireTo ω es i).1 e.1 e.2.1)[k], vint e.1, vstr e.2.1, vint e.2.2].toArray]).flatten = ((fireTo ω es i).2 ++ ((tellW (fireTo ω es i).1 e.1 e.2.1).take (k + 1)).map fun x => (x, e)).flatMap tldC by rw [hstep]; simp [tldC, Value.cells], show ((fireTo ω es i).2 ++ ((tellW (fireTo ω es i).1 e.1 e.2.1).take k).map fun x => (x, e)).length + 1 = ((fireTo ω es i).2 ++ ((tellW (fireTo ω es i).1 e.1 e.2.1).take (k + 1)).map fun x => (x, e)).length by rw [hstep, List.length_append (bs := [_])]; rfl]
    exact G.roundK ((k + 1, .slice a26_5 ((fireTo ω es i).2 ++ ((tellW (fireTo ω es i).1 e.1 e.2.1).take (k + 1)).map fun x => (x, e)).length c26_5)) (⟨by dsimp only; omega, _, _, rfl⟩) (by dsimp only; omega) ⟨rfl, rfl, rfl, rfl, rfl, rfl, rfl, rfl, rfl, rfl, rfl, rfl, rfl, rfl, rfl, rfl, rfl, rfl, rfl, rfl, rfl, rfl, trivial⟩ (by (repeat' constructor)) (by ((repeat (apply Have.cons; (repeat (first | exact Pick.here | apply Pick.there)))); apply Have.base; repeat' constructor))
   ·have hkk : k = (tellW (fireTo ω es i).1 e.1 e.2.1).length := by omega
    rw [hkk, List.take_length]
    refine G.tbCast (ω' := (fireTo ω es (i + 1)).1) (by (repeat' constructor)) (by rw [fire_succ hes]) ?_
    refine G.slCast (T := 147) (sz := 4) (m' := (fireTo ω es (i + 1)).2.length) (xs' := (fireTo ω es (i + 1)).2.flatMap tldC) (by (repeat' constructor)) (by rw [fire_succ hes]) (by rw [fire_succ hes]) ?_
    refine G.exit (G.then_e (G.then_e (G.blk_e (G.blk_n (G.then_n (G.region ?_))))))
    refine G.q (Quiet.add rfl rfl (by omega)) rfl ?_
    refine G.q (Quiet.move rfl) rfl (G.nil (G.then_n ?_))
    exact G.roundK ((i + 1, _)) (⟨by dsimp only; omega, _, _, by rw [fire_succ hes]⟩) (by dsimp only; omega) ⟨rfl, rfl, rfl, rfl, rfl, rfl, trivial⟩ (by (repeat' constructor)) (by ((repeat (apply Have.cons; (repeat (first | exact Pick.here | apply Pick.there)))); apply Have.base; repeat' constructor))
 ·have hii : i = es.length := by omega
  subst hii
  refine G.exit (G.then_e (G.then_e (G.blk_e (G.then_n (G.seq (G.region (G.q (Quiet.move rfl) rfl (G.q (Quiet.assign rfl) rfl (G.nil (G.then_n (G.ret ?_)))))))))))
  exact G.done (l := [.tmp 4]) rfl rfl ⟨_, _, rfl, rfl⟩ (by (repeat' constructor)) (by (repeat' constructor))

end Go.Proofs.YtnnbelmpbmfdnaaGreatDoor

/- Own work: law 11: rows of watches and events as arguments; what the walks of WatchOnce, WatchApart, WatchGone need. -/
namespace Go.Proofs.YtnnbelmpbmfdnaaGreatDoor
open Go

abbrev Arm := Int × (Bs × (Int × (Int × Int)))
def armC (a : Arm) : List Value := [vint a.1, vstr a.2.1, vint a.2.2.1, vint a.2.2.2.1, vint a.2.2.2.2]
theorem tld_cell {l : List Tld} {i k : Nat} (hi : i < l.length) (hk : k < 4) : (l.flatMap tldC)[i * 4 + k]? = (tldC l[i])[k]? := flatMap_cell (f := tldC) (sz := 4) (fun _ _ => rfl) hi hk
structure ArmsA (p : HP) (v : Value) (xs : List Arm) : Prop where
  cells : ∀ h : Hp, p h → rdS 5 h v xs.length (xs.flatMap armC)
  len : xs.length ≤ 1048576
  paths : ∀ a ∈ xs, a.2.1.length ≤ 1048576
structure EvsA (p : HP) (v : Value) (xs : List Ev) : Prop where
  cells : ∀ h : Hp, p h → rdS 3 h v xs.length (xs.flatMap evC)
  len : xs.length ≤ 1048576
  paths : ∀ a ∈ xs, a.2.1.length ≤ 1048576
/-! ### Structs compared -/
theorem tld_eq (d : Nat) (a b : Tld) : EqAt Tryz.prog (d + 3) 147 (.agg (tldC a).toArray) (.agg (tldC b).toArray) (decide (a = b)) := by
  have h := EqAt.struct (d := d + 2) (xs := tldC a) (ys := tldC b) Tryz.underlying147 (by kernel_rfl)
    (.cons (FEq.cell (by decide) ag_3 rfl rfl (EqAt.int Tryz.underlying3 a.1 b.1)) (.cons (FEq.agg (by decide) ag_75 (ev_eq d a.2 b.2)) .nil))
  have e : ([decide (a.1 = b.1), decide (a.2 = b.2)].all id) = decide (a = b) := by
    obtain ⟨a1, a2⟩ := a; obtain ⟨b1, b2⟩ := b
    simp [Bool.decide_and]
  rw [← e]; exact h
/-! ### The first example -/
def wA : Bs := [47, 97]
def wB : Bs := [47, 98]
def aw1 : List Wt := [(1, (1, wA))]
def aw2 : List Wt := [(1, (1, wA)), (1, (3, wA))]
def aw3 : List Wt := [(1, (1, wA)), (1, (3, wA)), (2, (1, wA))]
def aw4 : List Wt := [(1, (1, wA)), (1, (3, wA)), (2, (1, wA)), (2, (2, wB))]
def aw5 : List Wt := [(1, (3, wA)), (2, (2, wB))]
theorem isWt_a : ∀ k : Int, 1 ≤ k → k ≤ 3 → isWt k wA := fun k h1 h2 => ⟨h1, h2, by decide⟩
theorem isWt_b : ∀ k : Int, 1 ≤ k → k ≤ 3 → isWt k wB := fun k h1 h2 => ⟨h1, h2, by decide⟩
theorem add_new {ω : List Wt} {s k : Int} {p : Bs} (h1 : 1 ≤ s) (h2 : isWt k p) (h3 : (s, (k, p)) ∉ ω) (h4 : cntW ω s ≠ 64) : addW ω s k p = (ω ++ [(s, (k, p))], 0) := by
  unfold addW
  rw [if_neg (by rintro (h | h); omega; exact h h2), if_neg h3, if_neg h4]
theorem awake_1 : addW [] 1 1 wA = (aw1, 0) := add_new (by decide) (isWt_a _ (by decide) (by decide)) (by decide) (by decide)
theorem awake_2 : addW aw1 1 3 wA = (aw2, 0) := add_new (by decide) (isWt_a _ (by decide) (by decide)) (by decide) (by decide)
theorem awake_3 : addW aw2 2 1 wA = (aw3, 0) := add_new (by decide) (isWt_a _ (by decide) (by decide)) (by decide) (by decide)
theorem awake_4 : addW aw3 2 2 wB = (aw4, 0) := add_new (by decide) (isWt_b _ (by decide) (by decide)) (by decide) (by decide)
theorem awake_5 : fireL aw4 [(3, (wA, 4))] = (aw5, [(1, (3, (wA, 4))), (2, (3, (wA, 4)))]) := by
  rw [fire_one]
  unfold fire1
  have h1 : leftW aw4 3 wA = aw5 := by decide
  have h2 : tellW aw4 3 wA = [1, 2] := by
    refine sorted_ext (tell_sorted _ _ _) (by simp) fun x => ?_
    rw [tell_mem]
    constructor
    · rintro ⟨w, hw, hm, rfl⟩
      simp only [aw4, List.mem_cons, List.not_mem_nil, or_false] at hw
      rcases hw with rfl | rfl | rfl | rfl
      · simp
      · simp
      · simp
      · simp
    · intro hx
      simp only [List.mem_cons, List.not_mem_nil, or_false] at hx
      rcases hx with rfl | rfl
      · exact ⟨(1, (1, wA)), by simp [aw4], by decide, rfl⟩
      · exact ⟨(2, (1, wA)), by simp [aw4], by decide, rfl⟩
  dsimp only
  rw [h1, h2]
  rfl
theorem awake_6 : cntW aw5 1 = 1 ∧ cntW aw5 2 = 1 := by decide
/-! ### Gone -/
/-! ### Once -/
def isPath (xs : List Arm) (p : Bs) : Bool := xs.any fun a => decide (a.2.1 = p)
theorem isPath_at {xs : List Arm} {j : Nat} (hj : j < xs.length) : isPath xs xs[j].2.1 = true := by
  unfold isPath
  rw [List.any_eq_true]
  exact ⟨xs[j], List.getElem_mem hj, by simp⟩
/-- A table of session 1 alone, on paths of the row. -/
structure OnceI (xs : List Arm) (ω : List Wt) : Prop where
  nod : ω.Nodup
  one : ∀ w ∈ ω, w.1 = 1 ∧ 1 ≤ w.2.1 ∧ w.2.1 ≤ 3
  path : ∀ w ∈ ω, isPath xs w.2.2 = true
theorem OnceI.nil (xs : List Arm) : OnceI xs [] := ⟨by simp, by simp, by simp⟩
theorem OnceI.add {xs : List Arm} {ω : List Wt} (h : OnceI xs ω) {j : Nat} (hj : j < xs.length) : OnceI xs (addW ω 1 xs[j].1 xs[j].2.1).1 := by
  rcases add_cases ω 1 xs[j].1 xs[j].2.1 with e | e | e | ⟨h1, h2, h3, e⟩ <;> rw [e]
  · exact h
  · exact h
  · exact h
  · refine ⟨List.nodup_append.2 ⟨h.nod, by simp, fun a ha b hb => by simp at hb; subst hb; exact fun e => h3 (e ▸ ha)⟩, fun w hw => ?_, fun w hw => ?_⟩
    · rcases List.mem_append.1 hw with hw | hw
      · exact h.one w hw
      · simp at hw; subst hw; exact ⟨rfl, h2.1, h2.2.1⟩
    · rcases List.mem_append.1 hw with hw | hw
      · exact h.path w hw
      · simp at hw; subst hw; exact isPath_at hj
theorem OnceI.left {xs : List Arm} {ω : List Wt} (h : OnceI xs ω) (k : Int) (p : Bs) : OnceI xs (leftW ω k p) :=
  ⟨h.nod.filter _, fun w hw => h.one w (left_mem hw), fun w hw => h.path w (left_mem hw)⟩
/-- What one event does to such a table. -/
theorem OnceI.fire {xs : List Arm} {ω : List Wt} (h : OnceI xs ω) (e : Ev) : ((fireL ω [e]).2 = [] ∧ (fireL ω [e]).1 = ω) ∨ ((fireL ω [e]).2 = [(1, e)] ∧ (fireL ω [e]).1.length < ω.length ∧ ω.length - (fireL ω [e]).1.length ≤ 3 ∧ isPath xs e.2.1 = true) := by
  rw [fire_one]
  unfold fire1
  dsimp only
  rcases tell_one (fun w hw => (h.one w hw).1) e.1 e.2.1 with ⟨h1, h2⟩ | ⟨h1, h2⟩
  · exact .inl ⟨by rw [h1]; rfl, h2⟩
  · obtain ⟨c1, c2, c3⟩ := met_few h.nod h.one (k := e.1) (p := e.2.1)
    refine .inr ⟨by rw [h1]; rfl, c3 h2, c1, ?_⟩
    obtain ⟨w, hw, hm⟩ := h2
    have hp := h.path w hw
    have : w.2.2 = e.2.1 := by simp [meetW] at hm; exact hm.1
    rw [← this]; exact hp
theorem OnceI.again (ω : List Wt) (e : Ev) : (fireL (fireL ω [e]).1 [e]).2 = [] ∧ (fireL (fireL ω [e]).1 [e]).1 = (fireL ω [e]).1 := by
  rw [fire_one, fire_one]
  unfold fire1
  dsimp only
  obtain ⟨h1, h2⟩ := left_again ω e.1 e.2.1
  rw [h1, h2]; exact ⟨rfl, rfl⟩
/-! ### Apart -/
def onlyW (ω : List Wt) (s : Int) : List Wt := ω.filter fun w => decide (w.1 = s)
def lastZ (l : List Int) : Nat → Int
  | 0 => 0
  | i + 1 => l.getD i 0
def hasZ (l : List Int) (s : Int) : Nat → Bool
  | 0 => false
  | i + 1 => hasZ l s i || decide (l.getD i 0 = s)
end Go.Proofs.YtnnbelmpbmfdnaaGreatDoor

/- Own work, by program: the document's paths: walked. -/
namespace Go.Proofs.YtnnbelmpbmfdnaaGreatDoor
open Go
def segsZ : Bs → List Bs
  | [] => []
  | _ :: r => splitZ r
def okZ (s : Bs) : Bool := decide (s.head? = some 47) && (segsZ s).all isNameZ
theorem seg_step {r : Bs} {k : Nat} (hk : k ≤ r.length) (h1 : ∀ j, j < k → r.getD j 0 ≠ 47) (h2 : k = r.length ∨ r.getD k 0 = 47) : splitZ r = r.take k :: segsZ (r.drop k) := by
  have hno : (47 : UInt8) ∉ r.take k := fun hm => by
    obtain ⟨i, hi, e⟩ := List.mem_iff_getElem.1 hm
    rw [List.length_take] at hi
    rw [List.getElem_take] at e
    refine h1 i (by omega) ?_
    rw [List.getD_eq_getElem?_getD, List.getElem?_eq_getElem (by omega), Option.getD_some]; exact e
  rcases Nat.lt_or_ge k r.length with hlt | hge
  · have h3 : r[k] = 47 := by
      rcases h2 with h2 | h2
      · omega
      · rw [List.getD_eq_getElem?_getD, List.getElem?_eq_getElem hlt, Option.getD_some] at h2; exact h2
    have e : r = r.take k ++ 47 :: r.drop (k + 1) := by
      have := (List.take_append_drop k r).symm
      rw [List.drop_eq_getElem_cons hlt, h3] at this; exact this
    have e2 : r.drop k = 47 :: r.drop (k + 1) := by rw [List.drop_eq_getElem_cons hlt, h3]
    rw [e2]
    conv => lhs; rw [e]
    exact split_at hno
  · have : k = r.length := by omega
    subst this
    rw [List.take_length] at hno ⊢
    rw [List.drop_length, split_none hno]; rfl
theorem check_ok {p : Bs} (h1 : p ≠ [47]) : checkZ p = if okZ p = true then (if p.length > 60 ∨ (segsZ p).length > 6 then 41 else 0) else 40 := by
  unfold checkZ
  rw [if_neg h1]
  cases p with
  | nil => decide
  | cons c r =>
    by_cases hc : c = 47
    · subst hc
      have e : splitZ (47 :: r) = [] :: splitZ r := by rw [split_cons, if_pos rfl]
      have hne := splitZ_ne r
      rw [e]
      unfold okZ
      rw [show segsZ (47 :: r) = splitZ r from rfl]
      by_cases ha : (splitZ r).all isNameZ = true
      · rw [if_neg, ha, if_pos (show (decide ((47 :: r).head? = some 47) && true) = true from by simp)]
        · have e7 : ([] :: splitZ r).length = (splitZ r).length + 1 := rfl
          by_cases h60 : (47 :: r).length > 60 ∨ (splitZ r).length > 6
          · rw [if_pos h60, if_pos (by rw [e7]; omega)]
          · rw [if_neg h60, if_neg (by rw [e7]; omega)]
        · simp only [List.head?_cons, List.tail_cons, List.length_cons]
          rintro (g | g | g)
          · exact g rfl
          · exact hne (List.eq_nil_of_length_eq_zero (by omega))
          · rw [ha] at g; cases g
      · rw [if_pos (.inr (.inr (by rw [List.tail_cons]; simpa using ha))), if_neg]
        simp; simpa using ha
    · rw [if_pos, if_neg]
      · unfold okZ; simp [hc]
      · left
        rw [split_cons, if_neg hc]
        rcases e : splitZ r with _ | ⟨h, t⟩ <;> simp
set_option maxRecDepth 100000 in
theorem rletter_spec (c : UInt8) : Fn Tryz.prog 177 #[vbyte c] [] fun v L => v = .bool (letterB c) ∧ L = [] := by
 refine Fn.intro (vs := [vbyte c]) Tryz.func177 rfl rfl ?_
 intro F W
 refine G.seq (G.region (G.q (Quiet.assign rfl) rfl (G.nil (G.then_n (G.seq (G.region (G.q (Quiet.move rfl) rfl (G.q (Quiet.int rfl rfl rfl) rfl (G.q (Quiet.move rfl) rfl ?_)))))))))
 refine G.dec (t := 5) rfl (fun h1_5 => ?_) (fun h1_5 => ?_)
 ·refine G.kDT (t := 4) rfl h1_5 (G.grun (t := 5) rfl rfl rfl (G.q (Quiet.move rfl) rfl (G.grun (t := 5) rfl rfl rfl (G.q (Quiet.int rfl rfl rfl) rfl (G.q (Quiet.pickT rfl rfl) rfl (G.q (Quiet.move rfl) rfl ?_))))))
  refine G.dec (t := 9) rfl (fun h1_9 => ?_) (fun h1_9 => ?_)
  ·refine G.kDT (t := 7) rfl h1_9 (G.kDT (t := 8) rfl h1_9 (G.gskip (t := 9) rfl rfl rfl rfl (G.gskip (t := 9) rfl rfl rfl rfl (G.gskip (t := 9) rfl rfl rfl rfl (G.gskipU (t := 12) rfl rfl rfl (G.gskipU (t := 12) rfl rfl rfl (G.gskip (t := 9) rfl rfl rfl rfl (G.q (Quiet.pickT rfl rfl) rfl (G.q (Quiet.move rfl) rfl (G.gskip (t := 17) rfl rfl rfl rfl (G.gskip (t := 17) rfl rfl rfl rfl (G.gskip (t := 17) rfl rfl rfl rfl (G.gskipU (t := 20) rfl rfl rfl (G.gskipU (t := 20) rfl rfl rfl (G.gskip (t := 17) rfl rfl rfl rfl (G.q (Quiet.pickT rfl rfl) rfl (G.q (Quiet.move rfl) rfl (G.gskip (t := 25) rfl rfl rfl rfl (G.gskip (t := 25) rfl rfl rfl rfl (G.q (Quiet.pickT rfl rfl) rfl (G.q (Quiet.move rfl) rfl (G.gskip (t := 29) rfl rfl rfl rfl (G.gskip (t := 29) rfl rfl rfl rfl (G.q (Quiet.pickT rfl rfl) rfl (G.q (Quiet.move rfl) rfl (G.gskip (t := 33) rfl rfl rfl rfl (G.gskip (t := 33) rfl rfl rfl rfl (G.q (Quiet.pickT rfl rfl) rfl (G.q (Quiet.assign rfl) rfl (G.nil (G.then_n (G.ret ?_))))))))))))))))))))))))))))))))
   exact G.done (l := [.tmp 2]) rfl rfl ⟨by first | (rw [letter_of (by omega)]; done) | (rcases Decidable.em ((c.toNat : Int) = 46) with hd | hd; (rw [decide_eq_true hd, letter_of (by omega)]); (rw [decide_eq_false hd, letter_not (by omega)])), rfl⟩ (by (repeat' constructor)) (by (repeat' constructor))
  ·refine G.kDF (t := 7) rfl h1_9 (G.kDF (t := 8) rfl h1_9 (G.grun (t := 9) rfl rfl rfl (G.q (Quiet.move rfl) rfl (G.grun (t := 9) rfl rfl rfl (G.q (Quiet.int rfl rfl rfl) rfl (G.grun (t := 9) rfl rfl rfl (G.q (Quiet.move rfl) rfl ?_)))))))
   refine G.dec (t := 12) rfl (fun h1_12 => ?_) (fun h1_12 => ?_)
   ·refine G.kDT (t := 11) rfl h1_12 (G.grun (t := 12) rfl rfl rfl (G.q (Quiet.move rfl) rfl (G.grun (t := 12) rfl rfl rfl (G.q (Quiet.int rfl rfl rfl) rfl (G.grun (t := 9) rfl rfl rfl (G.q (Quiet.pickT rfl rfl) rfl (G.q (Quiet.pickF rfl rfl) rfl (G.q (Quiet.move rfl) rfl ?_))))))))
    refine G.dec (t := 17) rfl (fun h1_17 => ?_) (fun h1_17 => ?_)
    ·refine G.kDT (t := 14) rfl h1_17 (G.kDT (t := 15) rfl h1_17 (G.kDT (t := 16) rfl h1_17 (G.gskip (t := 17) rfl rfl rfl rfl (G.gskip (t := 17) rfl rfl rfl rfl (G.gskip (t := 17) rfl rfl rfl rfl (G.gskipU (t := 20) rfl rfl rfl (G.gskipU (t := 20) rfl rfl rfl (G.gskip (t := 17) rfl rfl rfl rfl (G.q (Quiet.pickT rfl rfl) rfl (G.q (Quiet.move rfl) rfl (G.gskip (t := 25) rfl rfl rfl rfl (G.gskip (t := 25) rfl rfl rfl rfl (G.q (Quiet.pickT rfl rfl) rfl (G.q (Quiet.move rfl) rfl (G.gskip (t := 29) rfl rfl rfl rfl (G.gskip (t := 29) rfl rfl rfl rfl (G.q (Quiet.pickT rfl rfl) rfl (G.q (Quiet.move rfl) rfl (G.gskip (t := 33) rfl rfl rfl rfl (G.gskip (t := 33) rfl rfl rfl rfl (G.q (Quiet.pickT rfl rfl) rfl (G.q (Quiet.assign rfl) rfl (G.nil (G.then_n (G.ret ?_)))))))))))))))))))))))))
     exact G.done (l := [.tmp 2]) rfl rfl ⟨by first | (rw [letter_of (by omega)]; done) | (rcases Decidable.em ((c.toNat : Int) = 46) with hd | hd; (rw [decide_eq_true hd, letter_of (by omega)]); (rw [decide_eq_false hd, letter_not (by omega)])), rfl⟩ (by (repeat' constructor)) (by (repeat' constructor))
    ·refine G.kDF (t := 14) rfl h1_17 (G.kDF (t := 15) rfl h1_17 (G.kDF (t := 16) rfl h1_17 (G.grun (t := 17) rfl rfl rfl (G.q (Quiet.move rfl) rfl (G.grun (t := 17) rfl rfl rfl (G.q (Quiet.int rfl rfl rfl) rfl (G.grun (t := 17) rfl rfl rfl (G.q (Quiet.move rfl) rfl ?_))))))))
     refine G.dec (t := 20) rfl (fun h1_20 => ?_) (fun h1_20 => ?_)
     ·refine G.kDT (t := 19) rfl h1_20 (G.grun (t := 20) rfl rfl rfl (G.q (Quiet.move rfl) rfl (G.grun (t := 20) rfl rfl rfl (G.q (Quiet.int rfl rfl rfl) rfl (G.grun (t := 17) rfl rfl rfl (G.q (Quiet.pickT rfl rfl) rfl (G.q (Quiet.pickF rfl rfl) rfl (G.q (Quiet.move rfl) rfl ?_))))))))
      refine G.dec (t := 25) rfl (fun h1_25 => ?_) (fun h1_25 => ?_)
      ·refine G.kDT (t := 22) rfl h1_25 (G.kDT (t := 23) rfl h1_25 (G.kDT (t := 24) rfl h1_25 (G.gskip (t := 25) rfl rfl rfl rfl (G.gskip (t := 25) rfl rfl rfl rfl (G.q (Quiet.pickT rfl rfl) rfl (G.q (Quiet.move rfl) rfl (G.gskip (t := 29) rfl rfl rfl rfl (G.gskip (t := 29) rfl rfl rfl rfl (G.q (Quiet.pickT rfl rfl) rfl (G.q (Quiet.move rfl) rfl (G.gskip (t := 33) rfl rfl rfl rfl (G.gskip (t := 33) rfl rfl rfl rfl (G.q (Quiet.pickT rfl rfl) rfl (G.q (Quiet.assign rfl) rfl (G.nil (G.then_n (G.ret ?_)))))))))))))))))
       exact G.done (l := [.tmp 2]) rfl rfl ⟨by first | (rw [letter_of (by omega)]; done) | (rcases Decidable.em ((c.toNat : Int) = 46) with hd | hd; (rw [decide_eq_true hd, letter_of (by omega)]); (rw [decide_eq_false hd, letter_not (by omega)])), rfl⟩ (by (repeat' constructor)) (by (repeat' constructor))
      ·refine G.kDF (t := 22) rfl h1_25 (G.kDF (t := 23) rfl h1_25 (G.kDF (t := 24) rfl h1_25 (G.grun (t := 25) rfl rfl rfl (G.q (Quiet.move rfl) rfl (G.grun (t := 25) rfl rfl rfl (G.q (Quiet.int rfl rfl rfl) rfl (G.q (Quiet.pickF rfl rfl) rfl (G.q (Quiet.move rfl) rfl ?_))))))))
       refine G.dec (t := 29) rfl (fun h1_29 => ?_) (fun h1_29 => ?_)
       ·refine G.kDT (t := 27) rfl h1_29 (G.kDT (t := 28) rfl h1_29 (G.gskip (t := 29) rfl rfl rfl rfl (G.gskip (t := 29) rfl rfl rfl rfl (G.q (Quiet.pickT rfl rfl) rfl (G.q (Quiet.move rfl) rfl (G.gskip (t := 33) rfl rfl rfl rfl (G.gskip (t := 33) rfl rfl rfl rfl (G.q (Quiet.pickT rfl rfl) rfl (G.q (Quiet.assign rfl) rfl (G.nil (G.then_n (G.ret ?_))))))))))))
        exact G.done (l := [.tmp 2]) rfl rfl ⟨by first | (rw [letter_of (by omega)]; done) | (rcases Decidable.em ((c.toNat : Int) = 46) with hd | hd; (rw [decide_eq_true hd, letter_of (by omega)]); (rw [decide_eq_false hd, letter_not (by omega)])), rfl⟩ (by (repeat' constructor)) (by (repeat' constructor))
       ·refine G.kDF (t := 27) rfl h1_29 (G.kDF (t := 28) rfl h1_29 (G.grun (t := 29) rfl rfl rfl (G.q (Quiet.move rfl) rfl (G.grun (t := 29) rfl rfl rfl (G.q (Quiet.int rfl rfl rfl) rfl (G.q (Quiet.pickF rfl rfl) rfl (G.q (Quiet.move rfl) rfl ?_)))))))
        refine G.dec (t := 33) rfl (fun h1_33 => ?_) (fun h1_33 => ?_)
        ·refine G.kDT (t := 31) rfl h1_33 (G.kDT (t := 32) rfl h1_33 (G.gskip (t := 33) rfl rfl rfl rfl (G.gskip (t := 33) rfl rfl rfl rfl (G.q (Quiet.pickT rfl rfl) rfl (G.q (Quiet.assign rfl) rfl (G.nil (G.then_n (G.ret ?_))))))))
         exact G.done (l := [.tmp 2]) rfl rfl ⟨by first | (rw [letter_of (by omega)]; done) | (rcases Decidable.em ((c.toNat : Int) = 46) with hd | hd; (rw [decide_eq_true hd, letter_of (by omega)]); (rw [decide_eq_false hd, letter_not (by omega)])), rfl⟩ (by (repeat' constructor)) (by (repeat' constructor))
        ·refine G.kDF (t := 31) rfl h1_33 (G.kDF (t := 32) rfl h1_33 (G.grun (t := 33) rfl rfl rfl (G.q (Quiet.move rfl) rfl (G.grun (t := 33) rfl rfl rfl (G.q (Quiet.int rfl rfl rfl) rfl (G.q (Quiet.pickF rfl rfl) rfl (G.q (Quiet.assign rfl) rfl (G.nil (G.then_n (G.ret ?_))))))))))
         exact G.done (l := [.tmp 2]) rfl rfl ⟨by first | (rw [letter_of (by omega)]; done) | (rcases Decidable.em ((c.toNat : Int) = 46) with hd | hd; (rw [decide_eq_true hd, letter_of (by omega)]); (rw [decide_eq_false hd, letter_not (by omega)])), rfl⟩ (by (repeat' constructor)) (by (repeat' constructor))
     ·refine G.kDF (t := 19) rfl h1_20 (G.gskip (t := 20) rfl rfl rfl rfl (G.gskip (t := 20) rfl rfl rfl rfl (G.grun (t := 17) rfl rfl rfl (G.q (Quiet.pickF rfl rfl) rfl (G.q (Quiet.pickF rfl rfl) rfl (G.q (Quiet.move rfl) rfl (G.grun (t := 25) rfl rfl rfl (G.q (Quiet.move rfl) rfl (G.grun (t := 25) rfl rfl rfl (G.q (Quiet.int rfl rfl rfl) rfl (G.q (Quiet.pickF rfl rfl) rfl (G.q (Quiet.move rfl) rfl ?_))))))))))))
      refine G.dec (t := 29) rfl (fun h1_29 => ?_) (fun h1_29 => ?_)
      ·refine G.kDT (t := 27) rfl h1_29 (G.kDT (t := 28) rfl h1_29 (G.gskip (t := 29) rfl rfl rfl rfl (G.gskip (t := 29) rfl rfl rfl rfl (G.q (Quiet.pickT rfl rfl) rfl (G.q (Quiet.move rfl) rfl (G.gskip (t := 33) rfl rfl rfl rfl (G.gskip (t := 33) rfl rfl rfl rfl (G.q (Quiet.pickT rfl rfl) rfl (G.q (Quiet.assign rfl) rfl (G.nil (G.then_n (G.ret ?_))))))))))))
       exact G.done (l := [.tmp 2]) rfl rfl ⟨by first | (rw [letter_of (by omega)]; done) | (rcases Decidable.em ((c.toNat : Int) = 46) with hd | hd; (rw [decide_eq_true hd, letter_of (by omega)]); (rw [decide_eq_false hd, letter_not (by omega)])), rfl⟩ (by (repeat' constructor)) (by (repeat' constructor))
      ·refine G.kDF (t := 27) rfl h1_29 (G.kDF (t := 28) rfl h1_29 (G.grun (t := 29) rfl rfl rfl (G.q (Quiet.move rfl) rfl (G.grun (t := 29) rfl rfl rfl (G.q (Quiet.int rfl rfl rfl) rfl (G.q (Quiet.pickF rfl rfl) rfl (G.q (Quiet.move rfl) rfl ?_)))))))
       refine G.dec (t := 33) rfl (fun h1_33 => ?_) (fun h1_33 => ?_)
       ·refine G.kDT (t := 31) rfl h1_33 (G.kDT (t := 32) rfl h1_33 (G.gskip (t := 33) rfl rfl rfl rfl (G.gskip (t := 33) rfl rfl rfl rfl (G.q (Quiet.pickT rfl rfl) rfl (G.q (Quiet.assign rfl) rfl (G.nil (G.then_n (G.ret ?_))))))))
        exact G.done (l := [.tmp 2]) rfl rfl ⟨by first | (rw [letter_of (by omega)]; done) | (rcases Decidable.em ((c.toNat : Int) = 46) with hd | hd; (rw [decide_eq_true hd, letter_of (by omega)]); (rw [decide_eq_false hd, letter_not (by omega)])), rfl⟩ (by (repeat' constructor)) (by (repeat' constructor))
       ·refine G.kDF (t := 31) rfl h1_33 (G.kDF (t := 32) rfl h1_33 (G.grun (t := 33) rfl rfl rfl (G.q (Quiet.move rfl) rfl (G.grun (t := 33) rfl rfl rfl (G.q (Quiet.int rfl rfl rfl) rfl (G.q (Quiet.pickF rfl rfl) rfl (G.q (Quiet.assign rfl) rfl (G.nil (G.then_n (G.ret ?_))))))))))
        exact G.done (l := [.tmp 2]) rfl rfl ⟨by first | (rw [letter_of (by omega)]; done) | (rcases Decidable.em ((c.toNat : Int) = 46) with hd | hd; (rw [decide_eq_true hd, letter_of (by omega)]); (rw [decide_eq_false hd, letter_not (by omega)])), rfl⟩ (by (repeat' constructor)) (by (repeat' constructor))
   ·refine G.kDF (t := 11) rfl h1_12 (G.gskip (t := 12) rfl rfl rfl rfl (G.gskip (t := 12) rfl rfl rfl rfl (G.grun (t := 9) rfl rfl rfl (G.q (Quiet.pickF rfl rfl) rfl (G.q (Quiet.pickF rfl rfl) rfl (G.q (Quiet.move rfl) rfl (G.grun (t := 17) rfl rfl rfl (G.q (Quiet.move rfl) rfl (G.grun (t := 17) rfl rfl rfl (G.q (Quiet.int rfl rfl rfl) rfl (G.grun (t := 17) rfl rfl rfl (G.q (Quiet.move rfl) rfl ?_))))))))))))
    refine G.dec (t := 20) rfl (fun h1_20 => ?_) (fun h1_20 => ?_)
    ·refine G.kDT (t := 19) rfl h1_20 (G.grun (t := 20) rfl rfl rfl (G.q (Quiet.move rfl) rfl (G.grun (t := 20) rfl rfl rfl (G.q (Quiet.int rfl rfl rfl) rfl (G.grun (t := 17) rfl rfl rfl (G.q (Quiet.pickT rfl rfl) rfl (G.q (Quiet.pickF rfl rfl) rfl (G.q (Quiet.move rfl) rfl ?_))))))))
     refine G.dec (t := 25) rfl (fun h1_25 => ?_) (fun h1_25 => ?_)
     ·refine G.kDT (t := 22) rfl h1_25 (G.kDT (t := 23) rfl h1_25 (G.kDT (t := 24) rfl h1_25 (G.gskip (t := 25) rfl rfl rfl rfl (G.gskip (t := 25) rfl rfl rfl rfl (G.q (Quiet.pickT rfl rfl) rfl (G.q (Quiet.move rfl) rfl (G.gskip (t := 29) rfl rfl rfl rfl (G.gskip (t := 29) rfl rfl rfl rfl (G.q (Quiet.pickT rfl rfl) rfl (G.q (Quiet.move rfl) rfl (G.gskip (t := 33) rfl rfl rfl rfl (G.gskip (t := 33) rfl rfl rfl rfl (G.q (Quiet.pickT rfl rfl) rfl (G.q (Quiet.assign rfl) rfl (G.nil (G.then_n (G.ret ?_)))))))))))))))))
      exact G.done (l := [.tmp 2]) rfl rfl ⟨by first | (rw [letter_of (by omega)]; done) | (rcases Decidable.em ((c.toNat : Int) = 46) with hd | hd; (rw [decide_eq_true hd, letter_of (by omega)]); (rw [decide_eq_false hd, letter_not (by omega)])), rfl⟩ (by (repeat' constructor)) (by (repeat' constructor))
     ·refine G.kDF (t := 22) rfl h1_25 (G.kDF (t := 23) rfl h1_25 (G.kDF (t := 24) rfl h1_25 (G.grun (t := 25) rfl rfl rfl (G.q (Quiet.move rfl) rfl (G.grun (t := 25) rfl rfl rfl (G.q (Quiet.int rfl rfl rfl) rfl (G.q (Quiet.pickF rfl rfl) rfl (G.q (Quiet.move rfl) rfl ?_))))))))
      refine G.dec (t := 29) rfl (fun h1_29 => ?_) (fun h1_29 => ?_)
      ·refine G.kDT (t := 27) rfl h1_29 (G.kDT (t := 28) rfl h1_29 (G.gskip (t := 29) rfl rfl rfl rfl (G.gskip (t := 29) rfl rfl rfl rfl (G.q (Quiet.pickT rfl rfl) rfl (G.q (Quiet.move rfl) rfl (G.gskip (t := 33) rfl rfl rfl rfl (G.gskip (t := 33) rfl rfl rfl rfl (G.q (Quiet.pickT rfl rfl) rfl (G.q (Quiet.assign rfl) rfl (G.nil (G.then_n (G.ret ?_))))))))))))
       exact G.done (l := [.tmp 2]) rfl rfl ⟨by first | (rw [letter_of (by omega)]; done) | (rcases Decidable.em ((c.toNat : Int) = 46) with hd | hd; (rw [decide_eq_true hd, letter_of (by omega)]); (rw [decide_eq_false hd, letter_not (by omega)])), rfl⟩ (by (repeat' constructor)) (by (repeat' constructor))
      ·refine G.kDF (t := 27) rfl h1_29 (G.kDF (t := 28) rfl h1_29 (G.grun (t := 29) rfl rfl rfl (G.q (Quiet.move rfl) rfl (G.grun (t := 29) rfl rfl rfl (G.q (Quiet.int rfl rfl rfl) rfl (G.q (Quiet.pickF rfl rfl) rfl (G.q (Quiet.move rfl) rfl ?_)))))))
       refine G.dec (t := 33) rfl (fun h1_33 => ?_) (fun h1_33 => ?_)
       ·refine G.kDT (t := 31) rfl h1_33 (G.kDT (t := 32) rfl h1_33 (G.gskip (t := 33) rfl rfl rfl rfl (G.gskip (t := 33) rfl rfl rfl rfl (G.q (Quiet.pickT rfl rfl) rfl (G.q (Quiet.assign rfl) rfl (G.nil (G.then_n (G.ret ?_))))))))
        exact G.done (l := [.tmp 2]) rfl rfl ⟨by first | (rw [letter_of (by omega)]; done) | (rcases Decidable.em ((c.toNat : Int) = 46) with hd | hd; (rw [decide_eq_true hd, letter_of (by omega)]); (rw [decide_eq_false hd, letter_not (by omega)])), rfl⟩ (by (repeat' constructor)) (by (repeat' constructor))
       ·refine G.kDF (t := 31) rfl h1_33 (G.kDF (t := 32) rfl h1_33 (G.grun (t := 33) rfl rfl rfl (G.q (Quiet.move rfl) rfl (G.grun (t := 33) rfl rfl rfl (G.q (Quiet.int rfl rfl rfl) rfl (G.q (Quiet.pickF rfl rfl) rfl (G.q (Quiet.assign rfl) rfl (G.nil (G.then_n (G.ret ?_))))))))))
        exact G.done (l := [.tmp 2]) rfl rfl ⟨by first | (rw [letter_of (by omega)]; done) | (rcases Decidable.em ((c.toNat : Int) = 46) with hd | hd; (rw [decide_eq_true hd, letter_of (by omega)]); (rw [decide_eq_false hd, letter_not (by omega)])), rfl⟩ (by (repeat' constructor)) (by (repeat' constructor))
    ·refine G.kDF (t := 19) rfl h1_20 (G.gskip (t := 20) rfl rfl rfl rfl (G.gskip (t := 20) rfl rfl rfl rfl (G.grun (t := 17) rfl rfl rfl (G.q (Quiet.pickF rfl rfl) rfl (G.q (Quiet.pickF rfl rfl) rfl (G.q (Quiet.move rfl) rfl (G.grun (t := 25) rfl rfl rfl (G.q (Quiet.move rfl) rfl (G.grun (t := 25) rfl rfl rfl (G.q (Quiet.int rfl rfl rfl) rfl (G.q (Quiet.pickF rfl rfl) rfl (G.q (Quiet.move rfl) rfl ?_))))))))))))
     refine G.dec (t := 29) rfl (fun h1_29 => ?_) (fun h1_29 => ?_)
     ·refine G.kDT (t := 27) rfl h1_29 (G.kDT (t := 28) rfl h1_29 (G.gskip (t := 29) rfl rfl rfl rfl (G.gskip (t := 29) rfl rfl rfl rfl (G.q (Quiet.pickT rfl rfl) rfl (G.q (Quiet.move rfl) rfl (G.gskip (t := 33) rfl rfl rfl rfl (G.gskip (t := 33) rfl rfl rfl rfl (G.q (Quiet.pickT rfl rfl) rfl (G.q (Quiet.assign rfl) rfl (G.nil (G.then_n (G.ret ?_))))))))))))
      exact G.done (l := [.tmp 2]) rfl rfl ⟨by first | (rw [letter_of (by omega)]; done) | (rcases Decidable.em ((c.toNat : Int) = 46) with hd | hd; (rw [decide_eq_true hd, letter_of (by omega)]); (rw [decide_eq_false hd, letter_not (by omega)])), rfl⟩ (by (repeat' constructor)) (by (repeat' constructor))
     ·refine G.kDF (t := 27) rfl h1_29 (G.kDF (t := 28) rfl h1_29 (G.grun (t := 29) rfl rfl rfl (G.q (Quiet.move rfl) rfl (G.grun (t := 29) rfl rfl rfl (G.q (Quiet.int rfl rfl rfl) rfl (G.q (Quiet.pickF rfl rfl) rfl (G.q (Quiet.move rfl) rfl ?_)))))))
      refine G.dec (t := 33) rfl (fun h1_33 => ?_) (fun h1_33 => ?_)
      ·refine G.kDT (t := 31) rfl h1_33 (G.kDT (t := 32) rfl h1_33 (G.gskip (t := 33) rfl rfl rfl rfl (G.gskip (t := 33) rfl rfl rfl rfl (G.q (Quiet.pickT rfl rfl) rfl (G.q (Quiet.assign rfl) rfl (G.nil (G.then_n (G.ret ?_))))))))
       exact G.done (l := [.tmp 2]) rfl rfl ⟨by first | (rw [letter_of (by omega)]; done) | (rcases Decidable.em ((c.toNat : Int) = 46) with hd | hd; (rw [decide_eq_true hd, letter_of (by omega)]); (rw [decide_eq_false hd, letter_not (by omega)])), rfl⟩ (by (repeat' constructor)) (by (repeat' constructor))
      ·refine G.kDF (t := 31) rfl h1_33 (G.kDF (t := 32) rfl h1_33 (G.grun (t := 33) rfl rfl rfl (G.q (Quiet.move rfl) rfl (G.grun (t := 33) rfl rfl rfl (G.q (Quiet.int rfl rfl rfl) rfl (G.q (Quiet.pickF rfl rfl) rfl (G.q (Quiet.assign rfl) rfl (G.nil (G.then_n (G.ret ?_))))))))))
       exact G.done (l := [.tmp 2]) rfl rfl ⟨by first | (rw [letter_of (by omega)]; done) | (rcases Decidable.em ((c.toNat : Int) = 46) with hd | hd; (rw [decide_eq_true hd, letter_of (by omega)]); (rw [decide_eq_false hd, letter_not (by omega)])), rfl⟩ (by (repeat' constructor)) (by (repeat' constructor))
 ·refine G.kDF (t := 4) rfl h1_5 (G.gskip (t := 5) rfl rfl rfl rfl (G.gskip (t := 5) rfl rfl rfl rfl (G.q (Quiet.pickF rfl rfl) rfl (G.q (Quiet.move rfl) rfl (G.grun (t := 9) rfl rfl rfl (G.q (Quiet.move rfl) rfl (G.grun (t := 9) rfl rfl rfl (G.q (Quiet.int rfl rfl rfl) rfl (G.grun (t := 9) rfl rfl rfl (G.q (Quiet.move rfl) rfl ?_))))))))))
  refine G.dec (t := 12) rfl (fun h1_12 => ?_) (fun h1_12 => ?_)
  ·refine G.kDT (t := 11) rfl h1_12 (G.grun (t := 12) rfl rfl rfl (G.q (Quiet.move rfl) rfl (G.grun (t := 12) rfl rfl rfl (G.q (Quiet.int rfl rfl rfl) rfl (G.grun (t := 9) rfl rfl rfl (G.q (Quiet.pickT rfl rfl) rfl (G.q (Quiet.pickF rfl rfl) rfl (G.q (Quiet.move rfl) rfl ?_))))))))
   refine G.dec (t := 17) rfl (fun h1_17 => ?_) (fun h1_17 => ?_)
   ·refine G.kDT (t := 14) rfl h1_17 (G.kDT (t := 15) rfl h1_17 (G.kDT (t := 16) rfl h1_17 (G.gskip (t := 17) rfl rfl rfl rfl (G.gskip (t := 17) rfl rfl rfl rfl (G.gskip (t := 17) rfl rfl rfl rfl (G.gskipU (t := 20) rfl rfl rfl (G.gskipU (t := 20) rfl rfl rfl (G.gskip (t := 17) rfl rfl rfl rfl (G.q (Quiet.pickT rfl rfl) rfl (G.q (Quiet.move rfl) rfl (G.gskip (t := 25) rfl rfl rfl rfl (G.gskip (t := 25) rfl rfl rfl rfl (G.q (Quiet.pickT rfl rfl) rfl (G.q (Quiet.move rfl) rfl (G.gskip (t := 29) rfl rfl rfl rfl (G.gskip (t := 29) rfl rfl rfl rfl (G.q (Quiet.pickT rfl rfl) rfl (G.q (Quiet.move rfl) rfl (G.gskip (t := 33) rfl rfl rfl rfl (G.gskip (t := 33) rfl rfl rfl rfl (G.q (Quiet.pickT rfl rfl) rfl (G.q (Quiet.assign rfl) rfl (G.nil (G.then_n (G.ret ?_)))))))))))))))))))))))))
    exact G.done (l := [.tmp 2]) rfl rfl ⟨by first | (rw [letter_of (by omega)]; done) | (rcases Decidable.em ((c.toNat : Int) = 46) with hd | hd; (rw [decide_eq_true hd, letter_of (by omega)]); (rw [decide_eq_false hd, letter_not (by omega)])), rfl⟩ (by (repeat' constructor)) (by (repeat' constructor))
   ·refine G.kDF (t := 14) rfl h1_17 (G.kDF (t := 15) rfl h1_17 (G.kDF (t := 16) rfl h1_17 (G.grun (t := 17) rfl rfl rfl (G.q (Quiet.move rfl) rfl (G.grun (t := 17) rfl rfl rfl (G.q (Quiet.int rfl rfl rfl) rfl (G.grun (t := 17) rfl rfl rfl (G.q (Quiet.move rfl) rfl ?_))))))))
    refine G.dec (t := 20) rfl (fun h1_20 => ?_) (fun h1_20 => ?_)
    ·refine G.kDT (t := 19) rfl h1_20 (G.grun (t := 20) rfl rfl rfl (G.q (Quiet.move rfl) rfl (G.grun (t := 20) rfl rfl rfl (G.q (Quiet.int rfl rfl rfl) rfl (G.grun (t := 17) rfl rfl rfl (G.q (Quiet.pickT rfl rfl) rfl (G.q (Quiet.pickF rfl rfl) rfl (G.q (Quiet.move rfl) rfl ?_))))))))
     refine G.dec (t := 25) rfl (fun h1_25 => ?_) (fun h1_25 => ?_)
     ·refine G.kDT (t := 22) rfl h1_25 (G.kDT (t := 23) rfl h1_25 (G.kDT (t := 24) rfl h1_25 (G.gskip (t := 25) rfl rfl rfl rfl (G.gskip (t := 25) rfl rfl rfl rfl (G.q (Quiet.pickT rfl rfl) rfl (G.q (Quiet.move rfl) rfl (G.gskip (t := 29) rfl rfl rfl rfl (G.gskip (t := 29) rfl rfl rfl rfl (G.q (Quiet.pickT rfl rfl) rfl (G.q (Quiet.move rfl) rfl (G.gskip (t := 33) rfl rfl rfl rfl (G.gskip (t := 33) rfl rfl rfl rfl (G.q (Quiet.pickT rfl rfl) rfl (G.q (Quiet.assign rfl) rfl (G.nil (G.then_n (G.ret ?_)))))))))))))))))
      exact G.done (l := [.tmp 2]) rfl rfl ⟨by first | (rw [letter_of (by omega)]; done) | (rcases Decidable.em ((c.toNat : Int) = 46) with hd | hd; (rw [decide_eq_true hd, letter_of (by omega)]); (rw [decide_eq_false hd, letter_not (by omega)])), rfl⟩ (by (repeat' constructor)) (by (repeat' constructor))
     ·refine G.kDF (t := 22) rfl h1_25 (G.kDF (t := 23) rfl h1_25 (G.kDF (t := 24) rfl h1_25 (G.grun (t := 25) rfl rfl rfl (G.q (Quiet.move rfl) rfl (G.grun (t := 25) rfl rfl rfl (G.q (Quiet.int rfl rfl rfl) rfl (G.q (Quiet.pickF rfl rfl) rfl (G.q (Quiet.move rfl) rfl ?_))))))))
      refine G.dec (t := 29) rfl (fun h1_29 => ?_) (fun h1_29 => ?_)
      ·refine G.kDT (t := 27) rfl h1_29 (G.kDT (t := 28) rfl h1_29 (G.gskip (t := 29) rfl rfl rfl rfl (G.gskip (t := 29) rfl rfl rfl rfl (G.q (Quiet.pickT rfl rfl) rfl (G.q (Quiet.move rfl) rfl (G.gskip (t := 33) rfl rfl rfl rfl (G.gskip (t := 33) rfl rfl rfl rfl (G.q (Quiet.pickT rfl rfl) rfl (G.q (Quiet.assign rfl) rfl (G.nil (G.then_n (G.ret ?_))))))))))))
       exact G.done (l := [.tmp 2]) rfl rfl ⟨by first | (rw [letter_of (by omega)]; done) | (rcases Decidable.em ((c.toNat : Int) = 46) with hd | hd; (rw [decide_eq_true hd, letter_of (by omega)]); (rw [decide_eq_false hd, letter_not (by omega)])), rfl⟩ (by (repeat' constructor)) (by (repeat' constructor))
      ·refine G.kDF (t := 27) rfl h1_29 (G.kDF (t := 28) rfl h1_29 (G.grun (t := 29) rfl rfl rfl (G.q (Quiet.move rfl) rfl (G.grun (t := 29) rfl rfl rfl (G.q (Quiet.int rfl rfl rfl) rfl (G.q (Quiet.pickF rfl rfl) rfl (G.q (Quiet.move rfl) rfl ?_)))))))
       refine G.dec (t := 33) rfl (fun h1_33 => ?_) (fun h1_33 => ?_)
       ·refine G.kDT (t := 31) rfl h1_33 (G.kDT (t := 32) rfl h1_33 (G.gskip (t := 33) rfl rfl rfl rfl (G.gskip (t := 33) rfl rfl rfl rfl (G.q (Quiet.pickT rfl rfl) rfl (G.q (Quiet.assign rfl) rfl (G.nil (G.then_n (G.ret ?_))))))))
        exact G.done (l := [.tmp 2]) rfl rfl ⟨by first | (rw [letter_of (by omega)]; done) | (rcases Decidable.em ((c.toNat : Int) = 46) with hd | hd; (rw [decide_eq_true hd, letter_of (by omega)]); (rw [decide_eq_false hd, letter_not (by omega)])), rfl⟩ (by (repeat' constructor)) (by (repeat' constructor))
       ·refine G.kDF (t := 31) rfl h1_33 (G.kDF (t := 32) rfl h1_33 (G.grun (t := 33) rfl rfl rfl (G.q (Quiet.move rfl) rfl (G.grun (t := 33) rfl rfl rfl (G.q (Quiet.int rfl rfl rfl) rfl (G.q (Quiet.pickF rfl rfl) rfl (G.q (Quiet.assign rfl) rfl (G.nil (G.then_n (G.ret ?_))))))))))
        exact G.done (l := [.tmp 2]) rfl rfl ⟨by first | (rw [letter_of (by omega)]; done) | (rcases Decidable.em ((c.toNat : Int) = 46) with hd | hd; (rw [decide_eq_true hd, letter_of (by omega)]); (rw [decide_eq_false hd, letter_not (by omega)])), rfl⟩ (by (repeat' constructor)) (by (repeat' constructor))
    ·refine G.kDF (t := 19) rfl h1_20 (G.gskip (t := 20) rfl rfl rfl rfl (G.gskip (t := 20) rfl rfl rfl rfl (G.grun (t := 17) rfl rfl rfl (G.q (Quiet.pickF rfl rfl) rfl (G.q (Quiet.pickF rfl rfl) rfl (G.q (Quiet.move rfl) rfl (G.grun (t := 25) rfl rfl rfl (G.q (Quiet.move rfl) rfl (G.grun (t := 25) rfl rfl rfl (G.q (Quiet.int rfl rfl rfl) rfl (G.q (Quiet.pickF rfl rfl) rfl (G.q (Quiet.move rfl) rfl ?_))))))))))))
     refine G.dec (t := 29) rfl (fun h1_29 => ?_) (fun h1_29 => ?_)
     ·refine G.kDT (t := 27) rfl h1_29 (G.kDT (t := 28) rfl h1_29 (G.gskip (t := 29) rfl rfl rfl rfl (G.gskip (t := 29) rfl rfl rfl rfl (G.q (Quiet.pickT rfl rfl) rfl (G.q (Quiet.move rfl) rfl (G.gskip (t := 33) rfl rfl rfl rfl (G.gskip (t := 33) rfl rfl rfl rfl (G.q (Quiet.pickT rfl rfl) rfl (G.q (Quiet.assign rfl) rfl (G.nil (G.then_n (G.ret ?_))))))))))))
      exact G.done (l := [.tmp 2]) rfl rfl ⟨by first | (rw [letter_of (by omega)]; done) | (rcases Decidable.em ((c.toNat : Int) = 46) with hd | hd; (rw [decide_eq_true hd, letter_of (by omega)]); (rw [decide_eq_false hd, letter_not (by omega)])), rfl⟩ (by (repeat' constructor)) (by (repeat' constructor))
     ·refine G.kDF (t := 27) rfl h1_29 (G.kDF (t := 28) rfl h1_29 (G.grun (t := 29) rfl rfl rfl (G.q (Quiet.move rfl) rfl (G.grun (t := 29) rfl rfl rfl (G.q (Quiet.int rfl rfl rfl) rfl (G.q (Quiet.pickF rfl rfl) rfl (G.q (Quiet.move rfl) rfl ?_)))))))
      refine G.dec (t := 33) rfl (fun h1_33 => ?_) (fun h1_33 => ?_)
      ·refine G.kDT (t := 31) rfl h1_33 (G.kDT (t := 32) rfl h1_33 (G.gskip (t := 33) rfl rfl rfl rfl (G.gskip (t := 33) rfl rfl rfl rfl (G.q (Quiet.pickT rfl rfl) rfl (G.q (Quiet.assign rfl) rfl (G.nil (G.then_n (G.ret ?_))))))))
       exact G.done (l := [.tmp 2]) rfl rfl ⟨by first | (rw [letter_of (by omega)]; done) | (rcases Decidable.em ((c.toNat : Int) = 46) with hd | hd; (rw [decide_eq_true hd, letter_of (by omega)]); (rw [decide_eq_false hd, letter_not (by omega)])), rfl⟩ (by (repeat' constructor)) (by (repeat' constructor))
      ·refine G.kDF (t := 31) rfl h1_33 (G.kDF (t := 32) rfl h1_33 (G.grun (t := 33) rfl rfl rfl (G.q (Quiet.move rfl) rfl (G.grun (t := 33) rfl rfl rfl (G.q (Quiet.int rfl rfl rfl) rfl (G.q (Quiet.pickF rfl rfl) rfl (G.q (Quiet.assign rfl) rfl (G.nil (G.then_n (G.ret ?_))))))))))
       exact G.done (l := [.tmp 2]) rfl rfl ⟨by first | (rw [letter_of (by omega)]; done) | (rcases Decidable.em ((c.toNat : Int) = 46) with hd | hd; (rw [decide_eq_true hd, letter_of (by omega)]); (rw [decide_eq_false hd, letter_not (by omega)])), rfl⟩ (by (repeat' constructor)) (by (repeat' constructor))
  ·refine G.kDF (t := 11) rfl h1_12 (G.gskip (t := 12) rfl rfl rfl rfl (G.gskip (t := 12) rfl rfl rfl rfl (G.grun (t := 9) rfl rfl rfl (G.q (Quiet.pickF rfl rfl) rfl (G.q (Quiet.pickF rfl rfl) rfl (G.q (Quiet.move rfl) rfl (G.grun (t := 17) rfl rfl rfl (G.q (Quiet.move rfl) rfl (G.grun (t := 17) rfl rfl rfl (G.q (Quiet.int rfl rfl rfl) rfl (G.grun (t := 17) rfl rfl rfl (G.q (Quiet.move rfl) rfl ?_))))))))))))
   refine G.dec (t := 20) rfl (fun h1_20 => ?_) (fun h1_20 => ?_)
   ·refine G.kDT (t := 19) rfl h1_20 (G.grun (t := 20) rfl rfl rfl (G.q (Quiet.move rfl) rfl (G.grun (t := 20) rfl rfl rfl (G.q (Quiet.int rfl rfl rfl) rfl (G.grun (t := 17) rfl rfl rfl (G.q (Quiet.pickT rfl rfl) rfl (G.q (Quiet.pickF rfl rfl) rfl (G.q (Quiet.move rfl) rfl ?_))))))))
    refine G.dec (t := 25) rfl (fun h1_25 => ?_) (fun h1_25 => ?_)
    ·refine G.kDT (t := 22) rfl h1_25 (G.kDT (t := 23) rfl h1_25 (G.kDT (t := 24) rfl h1_25 (G.gskip (t := 25) rfl rfl rfl rfl (G.gskip (t := 25) rfl rfl rfl rfl (G.q (Quiet.pickT rfl rfl) rfl (G.q (Quiet.move rfl) rfl (G.gskip (t := 29) rfl rfl rfl rfl (G.gskip (t := 29) rfl rfl rfl rfl (G.q (Quiet.pickT rfl rfl) rfl (G.q (Quiet.move rfl) rfl (G.gskip (t := 33) rfl rfl rfl rfl (G.gskip (t := 33) rfl rfl rfl rfl (G.q (Quiet.pickT rfl rfl) rfl (G.q (Quiet.assign rfl) rfl (G.nil (G.then_n (G.ret ?_)))))))))))))))))
     exact G.done (l := [.tmp 2]) rfl rfl ⟨by first | (rw [letter_of (by omega)]; done) | (rcases Decidable.em ((c.toNat : Int) = 46) with hd | hd; (rw [decide_eq_true hd, letter_of (by omega)]); (rw [decide_eq_false hd, letter_not (by omega)])), rfl⟩ (by (repeat' constructor)) (by (repeat' constructor))
    ·refine G.kDF (t := 22) rfl h1_25 (G.kDF (t := 23) rfl h1_25 (G.kDF (t := 24) rfl h1_25 (G.grun (t := 25) rfl rfl rfl (G.q (Quiet.move rfl) rfl (G.grun (t := 25) rfl rfl rfl (G.q (Quiet.int rfl rfl rfl) rfl (G.q (Quiet.pickF rfl rfl) rfl (G.q (Quiet.move rfl) rfl ?_))))))))
     refine G.dec (t := 29) rfl (fun h1_29 => ?_) (fun h1_29 => ?_)
     ·refine G.kDT (t := 27) rfl h1_29 (G.kDT (t := 28) rfl h1_29 (G.gskip (t := 29) rfl rfl rfl rfl (G.gskip (t := 29) rfl rfl rfl rfl (G.q (Quiet.pickT rfl rfl) rfl (G.q (Quiet.move rfl) rfl (G.gskip (t := 33) rfl rfl rfl rfl (G.gskip (t := 33) rfl rfl rfl rfl (G.q (Quiet.pickT rfl rfl) rfl (G.q (Quiet.assign rfl) rfl (G.nil (G.then_n (G.ret ?_))))))))))))
      exact G.done (l := [.tmp 2]) rfl rfl ⟨by first | (rw [letter_of (by omega)]; done) | (rcases Decidable.em ((c.toNat : Int) = 46) with hd | hd; (rw [decide_eq_true hd, letter_of (by omega)]); (rw [decide_eq_false hd, letter_not (by omega)])), rfl⟩ (by (repeat' constructor)) (by (repeat' constructor))
     ·refine G.kDF (t := 27) rfl h1_29 (G.kDF (t := 28) rfl h1_29 (G.grun (t := 29) rfl rfl rfl (G.q (Quiet.move rfl) rfl (G.grun (t := 29) rfl rfl rfl (G.q (Quiet.int rfl rfl rfl) rfl (G.q (Quiet.pickF rfl rfl) rfl (G.q (Quiet.move rfl) rfl ?_)))))))
      refine G.dec (t := 33) rfl (fun h1_33 => ?_) (fun h1_33 => ?_)
      ·refine G.kDT (t := 31) rfl h1_33 (G.kDT (t := 32) rfl h1_33 (G.gskip (t := 33) rfl rfl rfl rfl (G.gskip (t := 33) rfl rfl rfl rfl (G.q (Quiet.pickT rfl rfl) rfl (G.q (Quiet.assign rfl) rfl (G.nil (G.then_n (G.ret ?_))))))))
       exact G.done (l := [.tmp 2]) rfl rfl ⟨by first | (rw [letter_of (by omega)]; done) | (rcases Decidable.em ((c.toNat : Int) = 46) with hd | hd; (rw [decide_eq_true hd, letter_of (by omega)]); (rw [decide_eq_false hd, letter_not (by omega)])), rfl⟩ (by (repeat' constructor)) (by (repeat' constructor))
      ·refine G.kDF (t := 31) rfl h1_33 (G.kDF (t := 32) rfl h1_33 (G.grun (t := 33) rfl rfl rfl (G.q (Quiet.move rfl) rfl (G.grun (t := 33) rfl rfl rfl (G.q (Quiet.int rfl rfl rfl) rfl (G.q (Quiet.pickF rfl rfl) rfl (G.q (Quiet.assign rfl) rfl (G.nil (G.then_n (G.ret ?_))))))))))
       exact G.done (l := [.tmp 2]) rfl rfl ⟨by first | (rw [letter_of (by omega)]; done) | (rcases Decidable.em ((c.toNat : Int) = 46) with hd | hd; (rw [decide_eq_true hd, letter_of (by omega)]); (rw [decide_eq_false hd, letter_not (by omega)])), rfl⟩ (by (repeat' constructor)) (by (repeat' constructor))
   ·refine G.kDF (t := 19) rfl h1_20 (G.gskip (t := 20) rfl rfl rfl rfl (G.gskip (t := 20) rfl rfl rfl rfl (G.grun (t := 17) rfl rfl rfl (G.q (Quiet.pickF rfl rfl) rfl (G.q (Quiet.pickF rfl rfl) rfl (G.q (Quiet.move rfl) rfl (G.grun (t := 25) rfl rfl rfl (G.q (Quiet.move rfl) rfl (G.grun (t := 25) rfl rfl rfl (G.q (Quiet.int rfl rfl rfl) rfl (G.q (Quiet.pickF rfl rfl) rfl (G.q (Quiet.move rfl) rfl ?_))))))))))))
    refine G.dec (t := 29) rfl (fun h1_29 => ?_) (fun h1_29 => ?_)
    ·refine G.kDT (t := 27) rfl h1_29 (G.kDT (t := 28) rfl h1_29 (G.gskip (t := 29) rfl rfl rfl rfl (G.gskip (t := 29) rfl rfl rfl rfl (G.q (Quiet.pickT rfl rfl) rfl (G.q (Quiet.move rfl) rfl (G.gskip (t := 33) rfl rfl rfl rfl (G.gskip (t := 33) rfl rfl rfl rfl (G.q (Quiet.pickT rfl rfl) rfl (G.q (Quiet.assign rfl) rfl (G.nil (G.then_n (G.ret ?_))))))))))))
     exact G.done (l := [.tmp 2]) rfl rfl ⟨by first | (rw [letter_of (by omega)]; done) | (rcases Decidable.em ((c.toNat : Int) = 46) with hd | hd; (rw [decide_eq_true hd, letter_of (by omega)]); (rw [decide_eq_false hd, letter_not (by omega)])), rfl⟩ (by (repeat' constructor)) (by (repeat' constructor))
    ·refine G.kDF (t := 27) rfl h1_29 (G.kDF (t := 28) rfl h1_29 (G.grun (t := 29) rfl rfl rfl (G.q (Quiet.move rfl) rfl (G.grun (t := 29) rfl rfl rfl (G.q (Quiet.int rfl rfl rfl) rfl (G.q (Quiet.pickF rfl rfl) rfl (G.q (Quiet.move rfl) rfl ?_)))))))
     refine G.dec (t := 33) rfl (fun h1_33 => ?_) (fun h1_33 => ?_)
     ·refine G.kDT (t := 31) rfl h1_33 (G.kDT (t := 32) rfl h1_33 (G.gskip (t := 33) rfl rfl rfl rfl (G.gskip (t := 33) rfl rfl rfl rfl (G.q (Quiet.pickT rfl rfl) rfl (G.q (Quiet.assign rfl) rfl (G.nil (G.then_n (G.ret ?_))))))))
      exact G.done (l := [.tmp 2]) rfl rfl ⟨by first | (rw [letter_of (by omega)]; done) | (rcases Decidable.em ((c.toNat : Int) = 46) with hd | hd; (rw [decide_eq_true hd, letter_of (by omega)]); (rw [decide_eq_false hd, letter_not (by omega)])), rfl⟩ (by (repeat' constructor)) (by (repeat' constructor))
     ·refine G.kDF (t := 31) rfl h1_33 (G.kDF (t := 32) rfl h1_33 (G.grun (t := 33) rfl rfl rfl (G.q (Quiet.move rfl) rfl (G.grun (t := 33) rfl rfl rfl (G.q (Quiet.int rfl rfl rfl) rfl (G.q (Quiet.pickF rfl rfl) rfl (G.q (Quiet.assign rfl) rfl (G.nil (G.then_n (G.ret ?_))))))))))
      exact G.done (l := [.tmp 2]) rfl rfl ⟨by first | (rw [letter_of (by omega)]; done) | (rcases Decidable.em ((c.toNat : Int) = 46) with hd | hd; (rw [decide_eq_true hd, letter_of (by omega)]); (rw [decide_eq_false hd, letter_not (by omega)])), rfl⟩ (by (repeat' constructor)) (by (repeat' constructor))

set_option maxRecDepth 100000 in
theorem risname_spec (s : Bs) (hs : s.length ≤ 1099511627776) : Fn Tryz.prog 159 #[vstr s] [] fun v L => v = .bool (isNameZ s) ∧ L = [] := by
 refine Fn.intro (vs := [vstr s]) Tryz.func159 rfl rfl ?_
 intro F W
 have hbs := bs_size s
 refine G.seq (G.region (G.q (Quiet.assign rfl) rfl (G.nil (G.then_n (G.seq (G.seq (G.region (G.q (Quiet.move rfl) rfl (G.q (Quiet.streq rfl rfl) rfl (G.q (Quiet.move rfl) rfl ?_))))))))))
 refine G.dec (t := 7) rfl (fun h1_7 => ?_) (fun h1_7 => ?_)
 ·refine G.kDT (t := 6) rfl h1_7 (G.gskip (t := 7) rfl rfl rfl rfl (G.gskip (t := 7) rfl rfl rfl rfl (G.q (Quiet.pickT rfl rfl) rfl (G.q (Quiet.move rfl) rfl (G.gskip (t := 11) rfl rfl rfl rfl (G.gskip (t := 11) rfl rfl rfl rfl (G.q (Quiet.pickT rfl rfl) rfl (G.nil (G.then_n (G.condT rfl (G.seq (G.region (G.q (Quiet.assign rfl) rfl (G.nil (G.then_n (G.ret (G.then_r ?_)))))))))))))))))
  exact G.done (l := [.tmp 2]) rfl rfl ⟨by rw [show isNameZ s = false by unfold isNameZ; first | (rw [show s = [] from by assumption]; rfl) | (rw [show s = [46] from by assumption]; rfl) | (rw [show s = [46, 46] from by assumption]; rfl)], rfl⟩ (by (repeat' constructor)) (by (repeat' constructor))
 ·refine G.kDF (t := 6) rfl h1_7 (G.grun (t := 7) rfl rfl rfl (G.q (Quiet.move rfl) rfl (G.grun (t := 7) rfl rfl rfl (G.q (Quiet.streq rfl rfl) rfl (G.q (Quiet.pickF rfl rfl) rfl (G.q (Quiet.move rfl) rfl ?_))))))
  refine G.dec (t := 11) rfl (fun h1_11 => ?_) (fun h1_11 => ?_)
  ·refine G.kDT (t := 9) rfl h1_11 (G.kDT (t := 10) rfl h1_11 (G.gskip (t := 11) rfl rfl rfl rfl (G.gskip (t := 11) rfl rfl rfl rfl (G.q (Quiet.pickT rfl rfl) rfl (G.nil (G.then_n (G.condT rfl (G.seq (G.region (G.q (Quiet.assign rfl) rfl (G.nil (G.then_n (G.ret (G.then_r ?_))))))))))))))
   exact G.done (l := [.tmp 2]) rfl rfl ⟨by rw [show isNameZ s = false by unfold isNameZ; first | (rw [show s = [] from by assumption]; rfl) | (rw [show s = [46] from by assumption]; rfl) | (rw [show s = [46, 46] from by assumption]; rfl)], rfl⟩ (by (repeat' constructor)) (by (repeat' constructor))
  ·refine G.kDF (t := 9) rfl h1_11 (G.kDF (t := 10) rfl h1_11 (G.grun (t := 11) rfl rfl rfl (G.q (Quiet.move rfl) rfl (G.grun (t := 11) rfl rfl rfl (G.q (Quiet.streq rfl rfl) rfl (G.q (Quiet.pickF rfl rfl) rfl (G.nil (G.then_n ?_))))))))
   refine G.condD rfl (fun h14 => ?_) (fun h14 => ?_)
   ·refine G.seq (G.region (G.q (Quiet.assign rfl) rfl (G.nil (G.then_n (G.ret (G.then_r ?_))))))
    exact G.done (l := [.tmp 2]) rfl rfl ⟨by rw [show isNameZ s = false by unfold isNameZ; first | (rw [show s = [] from by assumption]; rfl) | (rw [show s = [46] from by assumption]; rfl) | (rw [show s = [46, 46] from by assumption]; rfl)], rfl⟩ (by (repeat' constructor)) (by (repeat' constructor))
   ·refine G.skip (G.then_n (G.seq (G.seq (G.region (G.q (Quiet.assign rfl) rfl (G.nil (G.then_n (G.block ?_))))))))
    refine G.loopK (ι := Nat) (fun q E => (3, vint q) :: E) (fun q => []) (fun q => q ≤ s.length ∧ (s.take q).all letterB = true) (fun q => s.length - q) (0) (ts := [0]) (.cons rfl (.nil)) (⟨Nat.zero_le _, rfl⟩) ⟨rfl, rfl, trivial⟩ (by (repeat' constructor)) ?_
    rintro i ⟨hi, hall⟩
    refine G.seq (G.seq (G.region (G.q (Quiet.move rfl) rfl (G.q (Quiet.move rfl) rfl (G.q (Quiet.strlen rfl Tryz.underlying9 rfl) rfl (G.q (Quiet.int rfl rfl rfl) rfl (G.nil (G.then_n ?_))))))))
    refine G.condD rfl (fun h18 => ?_) (fun h18 => ?_)
    ·have hi2 : i < s.length := by omega
     refine G.skip (G.then_n (G.seq (G.block (G.seq (G.region (G.q (Quiet.move rfl) rfl (G.q (Quiet.move rfl) rfl ?_)))))))
     refine G.q (Quiet.strIndex (c := s[i]) rfl rfl Tryz.underlying9 (by omega) (by simp)) rfl ?_
     refine G.op (OpSpec.call Tryz.func177 rfl rfl (vs := [_]) rfl (rletter_spec _)) (by (repeat' constructor)) rfl ?nx22
     rintro v L' ⟨rfl, rfl⟩
     refine G.q (Quiet.assign rfl) rfl (G.nil (G.then_n (G.seq (G.region (G.q (Quiet.move rfl) rfl (G.q (Quiet.not rfl) rfl (G.nil (G.then_n ?_))))))))
     refine G.condB rfl (fun h26 => ?_) (fun h26 => ?_)
     ·refine G.seq (G.region (G.q (Quiet.assign rfl) rfl (G.nil (G.then_n (G.ret (G.blk_r (G.then_r (G.then_r (G.blk_r (G.then_r ?_))))))))))
      exact G.done (l := [.tmp 2]) rfl rfl ⟨by rw [name_bad hi2 (by simpa using h26)], rfl⟩ (by (repeat' constructor)) (by (repeat' constructor))
     ·refine G.skip (G.blk_n (G.then_n (G.region (G.q (Quiet.move rfl) rfl ?_))))
      refine G.q (Quiet.add rfl rfl (by omega)) rfl ?_
      refine G.q (Quiet.assign rfl) rfl (G.nil (G.then_n ?_))
      exact G.roundK (i + 1) (⟨by omega, all_next hi2 hall (by simpa using h26)⟩) (by omega) ⟨rfl, rfl, trivial⟩ (by (repeat' constructor)) (by ((repeat (apply Have.cons; (repeat (first | exact Pick.here | apply Pick.there)))); apply Have.base; repeat' constructor))
    ·have hii : i = s.length := by omega
     rw [hii, List.take_length] at hall
     refine G.exit (G.then_e (G.then_e (G.blk_e (G.then_n (G.seq (G.region (G.q (Quiet.assign rfl) rfl (G.nil (G.then_n (G.ret ?_))))))))))
     exact G.done (l := [.tmp 2]) rfl rfl ⟨by rw [show isNameZ s = true by unfold isNameZ; rw [decide_eq_false h1_7, decide_eq_false h1_11, decide_eq_false h14, hall]; rfl], rfl⟩ (by (repeat' constructor)) (by (repeat' constructor))

set_option maxRecDepth 100000 in
theorem rnames_spec (s : Bs) (hs : s.length ≤ 1099511627776) : Fn Tryz.prog 131 #[vstr s] [] fun v L => ∃ (n : Nat) (b : Bool), (∃ a c, v = .tuple #[.slice a n c, .bool b]) ∧ b = okZ s ∧ (b = true → n = (segsZ s).length) ∧ L = [] := by
 refine Fn.intro (vs := [vstr s]) Tryz.func131 rfl rfl ?_
 intro F W
 refine G.add (slR_nil 9 1) ?_
 refine G.seq (G.region (G.q (Quiet.assign rfl) rfl (G.q (Quiet.assign rfl) rfl (G.nil (G.then_n (G.seq (G.region (G.q (Quiet.assign rfl) rfl (G.nil (G.then_n (G.seq (G.block ?_))))))))))))
 refine G.loopK (ι := Bs × Value × (List Bs)) (fun q E => (0, vstr q.1) :: (4, q.2.1) :: E) (fun q => [slR 9 1 q.2.1 q.2.2.length (strs q.2.2)]) (fun q => (∃ a c, q.2.1 = .slice a q.2.2.length c) ∧ q.2.2.all isNameZ = true ∧ segsZ s = q.2.2 ++ segsZ q.1 ∧ q.1.length + q.2.2.length ≤ s.length ∧ (q.2.2 = [] → q.1 = s) ∧ (q.2.2 ≠ [] → s.head? = some 47 ∧ (q.1 = [] ∨ q.1.head? = some 47))) (fun q => q.1.length) (s, .slice none 0 0, []) (ts := []) (.nil) (⟨⟨none, 0, rfl⟩, rfl, rfl, by simp, fun _ => rfl, fun h => absurd rfl h⟩) ⟨rfl, rfl, trivial⟩ (by (repeat' constructor)) ?_
 rintro ⟨cur, u, acc⟩ ⟨⟨au, cu, hu⟩, hall, hseg, hcl, hfst, hrest⟩
 dsimp only
 dsimp only at hu hall hseg hcl hfst hrest
 subst hu
 have hbs := bs_size cur
 refine G.seq (G.seq (G.region (G.q (Quiet.move rfl) rfl (G.q (Quiet.strne rfl rfl) rfl (G.nil (G.then_n ?_))))))
 refine G.condN rfl (fun h8 => ?_) (fun h8 => ?_)
 ·obtain ⟨c0, r, rfl⟩ : ∃ c0 r, cur = c0 :: r := by cases cur with | nil => exact absurd rfl h8 | cons c r => exact ⟨c, r, rfl⟩
  have hrl : (c0 :: r).length = r.length + 1 := rfl
  refine G.skip (G.then_n (G.block (G.seq (G.seq (G.region (G.q (Quiet.move rfl) rfl ?_))))))
  refine G.q (Quiet.strIndex (c := c0) rfl rfl Tryz.underlying9 (by omega) (by simp)) rfl ?_
  refine G.q (Quiet.int rfl rfl rfl) rfl (G.nil (G.then_n ?_))
  refine G.condN rfl (fun h11 => ?_) (fun h11 => ?_)
  ·refine G.seq (G.region (G.q (Quiet.assign rfl) rfl (G.q (Quiet.assign rfl) rfl (G.nil (G.then_n (G.ret (G.then_r (G.blk_r (G.then_r (G.blk_r (G.then_r ?_)))))))))))
   exact G.done (l := [.tmp 2, .tmp 3]) rfl rfl ⟨_, _, ⟨_, _, rfl⟩, (by rw [show okZ s = false by unfold okZ; rcases acc with _ | ⟨x, l⟩; (rw [← hfst rfl]; simp; intro e; exact absurd (by rw [e]; rfl) h11); (obtain ⟨-, g⟩ := hrest (by simp); rcases g with g | g; (cases g); (simp at g; exact absurd (by rw [g]; rfl) h11))]), (fun h => by cases h), rfl⟩ (by (repeat' constructor)) (by (repeat' constructor))
  ·have hc0 : c0 = 47 := byte_eq (d := 47) (by first | exact h11 | simpa using h11)
   subst hc0
   have hs47 : s.head? = some 47 := by rcases acc with _ | ⟨x, l⟩; rw [← hfst rfl]; rfl; exact (hrest (by simp)).1
   refine G.skip (G.then_n (G.seq (G.region (G.q (Quiet.assign rfl) rfl (G.nil (G.then_n (G.seq ?_)))))))
   refine G.joinK (ι := Nat) (fun q E => (5, vint q) :: E) (fun q => []) (fun q => 1 ≤ q ∧ q ≤ r.length + 1 ∧ (∀ j, j < q - 1 → r.getD j 0 ≠ 47) ∧ (q - 1 = r.length ∨ r.getD (q - 1) 0 = 47)) (pre := []) (ts := [0, 4, 7, 8, 9, 10, 11]) (.cons rfl (.cons rfl (.cons rfl (.cons rfl (.cons rfl (.cons rfl (.cons rfl (.nil)))))))) (by (repeat' constructor)) ?_ ?_
   ·refine G.block ?_
    refine G.loopK (ι := Nat) (fun q E => (5, vint q) :: E) (fun q => []) (fun q => 1 ≤ q ∧ q ≤ r.length + 1 ∧ ∀ j, j < q - 1 → r.getD j 0 ≠ 47) (fun q => r.length + 1 - q) (1) (ts := [0, 4, 7, 8, 9, 10, 11]) (.cons rfl (.cons rfl (.cons rfl (.cons rfl (.cons rfl (.cons rfl (.cons rfl (.nil)))))))) (⟨by omega, by omega, fun j hj => by omega⟩) ⟨rfl, rfl, rfl, rfl, rfl, rfl, rfl, rfl, trivial⟩ (by (repeat' constructor)) ?_
    rintro n ⟨hn1, hn2, hno⟩
    refine G.seq (G.seq (G.region (G.q (Quiet.move rfl) rfl (G.q (Quiet.move rfl) rfl (G.q (Quiet.strlen rfl Tryz.underlying9 rfl) rfl (G.q (Quiet.int rfl rfl rfl) rfl (G.q (Quiet.move rfl) rfl ?_)))))))
    refine G.dec (t := 16) rfl (fun h6_16 => ?_) (fun h6_16 => ?_)
    ·have hn3 : n < r.length + 1 := by omega
     have hn4 : n - 1 < r.length := by omega
     have hat : (47 :: r)[n]? = some r[n - 1] := by obtain ⟨m, rfl⟩ : ∃ m, n = m + 1 := ⟨n - 1, by omega⟩; simp [show m < r.length by omega]
     refine G.kDT (t := 15) rfl h6_16 (G.grun (t := 16) rfl rfl rfl (G.q (Quiet.move rfl) rfl (G.grun (t := 16) rfl rfl rfl (G.q (Quiet.move rfl) rfl (G.grun (t := 16) rfl rfl rfl ?_)))))
     refine G.q (Quiet.strIndex (c := r[n - 1]) rfl rfl Tryz.underlying9 (by omega) (by rw [Int.toNat_natCast]; exact hat)) rfl ?_
     refine G.grun (t := 16) rfl rfl rfl (G.q (Quiet.int rfl rfl rfl) rfl (G.q (Quiet.pickT rfl rfl) rfl (G.nil (G.then_n ?_))))
     refine G.condN rfl (fun h21 => ?_) (fun h21 => ?_)
     ·have hne : r[n - 1] ≠ 47 := fun e => h21 (by rw [e]; rfl)
      refine G.skip (G.then_n (G.block (G.region (G.q (Quiet.move rfl) rfl ?_))))
      refine G.q (Quiet.add rfl rfl (by omega)) rfl ?_
      refine G.q (Quiet.assign rfl) rfl (G.nil (G.blk_n (G.then_n ?_)))
      exact G.roundK (n + 1) (⟨by omega, by omega, fun j hj => by by_cases e : j = n - 1; (subst e; rw [List.getD_eq_getElem?_getD, List.getElem?_eq_getElem hn4, Option.getD_some]; exact hne); exact hno j (by omega)⟩) (by omega) ⟨rfl, rfl, rfl, rfl, rfl, rfl, rfl, rfl, trivial⟩ (by (repeat' constructor)) (by ((repeat (apply Have.cons; (repeat (first | exact Pick.here | apply Pick.there)))); apply Have.base; repeat' constructor))
     ·have hlast : r[n - 1] = 47 := byte_eq (d := 47) (by first | exact h21 | simpa using h21)
      refine G.exit (G.then_e (G.then_e (G.blk_e (G.then_n ?_))))
      exact G.meetK (n) (⟨hn1, hn2, hno, .inr (by rw [List.getD_eq_getElem?_getD, List.getElem?_eq_getElem hn4, Option.getD_some]; exact hlast)⟩) ⟨rfl, rfl, rfl, rfl, rfl, rfl, rfl, rfl, trivial⟩ (by (repeat' constructor)) (by ((repeat (apply Have.cons; (repeat (first | exact Pick.here | apply Pick.there)))); apply Have.base; repeat' constructor))
    ·refine G.kDF (t := 15) rfl h6_16 (G.gskip (t := 16) rfl rfl rfl rfl (G.gskip (t := 16) rfl rfl rfl rfl (G.gskip (t := 16) rfl rfl rfl rfl (G.gskip (t := 16) rfl rfl rfl rfl (G.q (Quiet.pickF rfl rfl) rfl (G.nil (G.then_n (G.condF rfl (G.exit (G.then_e (G.then_e (G.blk_e (G.then_n ?_)))))))))))))
     exact G.meetK (n) (⟨hn1, hn2, hno, .inl (by omega)⟩) ⟨rfl, rfl, rfl, rfl, rfl, rfl, rfl, rfl, trivial⟩ (by (repeat' constructor)) (by ((repeat (apply Have.cons; (repeat (first | exact Pick.here | apply Pick.there)))); apply Have.base; repeat' constructor))
   ·rintro n ⟨hn1, hn2, hno, hend⟩
    have hstep := seg_step (r := r) (k := n - 1) (by omega) hno hend
    have htk : ((47 :: r).take n).drop 1 = r.take (n - 1) := by obtain ⟨m, rfl⟩ : ∃ m, n = m + 1 := ⟨n - 1, by omega⟩; simp
    have hdr : (47 :: r).drop n = r.drop (n - 1) := by obtain ⟨m, rfl⟩ : ∃ m, n = m + 1 := ⟨n - 1, by omega⟩; simp
    have hsplit : segsZ (47 :: r) = ((47 :: r).take n).drop 1 :: segsZ ((47 :: r).drop n) := by rw [htk, hdr]; exact hstep
    have hdrop : (47 :: r).drop n = [] ∨ ((47 :: r).drop n).head? = some 47 := by rw [hdr]; rcases hend with h | h; (left; rw [h, List.drop_length]); (rcases Nat.lt_or_ge (n - 1) r.length with g | g; (right; rw [List.drop_eq_getElem_cons g]; rw [List.getD_eq_getElem?_getD, List.getElem?_eq_getElem g, Option.getD_some] at h; rw [h]; rfl); (left; exact List.drop_eq_nil_of_le g))
    refine G.seq (G.region (G.q (Quiet.move rfl) rfl (G.q (Quiet.move rfl) rfl ?_)))
    refine G.q (Quiet.to (v' := vstr (((47 :: r).take n).drop 1)) (Quiet.strMid (i := 1) (j := n) rfl rfl rfl Tryz.underlying9 (by omega)) (by rw [Int.toNat_natCast]; rfl)) rfl ?_
    refine G.op (OpSpec.call Tryz.func159 rfl rfl (vs := [_]) rfl (risname_spec _ (by simp; omega))) (by (repeat' constructor)) rfl ?nx26
    rintro v L' ⟨rfl, rfl⟩
    refine G.q (Quiet.assign rfl) rfl (G.nil (G.then_n (G.seq (G.seq (G.region (G.q (Quiet.move rfl) rfl (G.q (Quiet.not rfl) rfl (G.nil (G.then_n ?_)))))))))
    refine G.condB rfl (fun h29 => ?_) (fun h29 => ?_)
    ·refine G.seq (G.region (G.q (Quiet.assign rfl) rfl (G.q (Quiet.assign rfl) rfl (G.nil (G.then_n (G.ret (G.then_r (G.blk_r (G.then_r (G.blk_r (G.then_r ?_)))))))))))
     exact G.done (l := [.tmp 2, .tmp 3]) rfl rfl ⟨_, _, ⟨_, _, rfl⟩, (by rw [show okZ s = false by unfold okZ; rw [hseg, hsplit, List.all_append, List.all_cons]; rw [show isNameZ (((47 :: r).take n).drop 1) = false by simpa using h29]; simp]), (fun h => by cases h), rfl⟩ (by (repeat' constructor)) (by (repeat' constructor))
    ·refine G.skip (G.then_n (G.seq (G.region (G.q (Quiet.move rfl) rfl (G.q (Quiet.move rfl) rfl (G.q (Quiet.move rfl) rfl ?_))))))
     refine G.q (Quiet.to (v' := vstr (((47 :: r).take n).drop 1)) (Quiet.strMid (i := 1) (j := n) rfl rfl rfl Tryz.underlying9 (by omega)) (by rw [Int.toNat_natCast]; rfl)) rfl ?_
     refine G.op (OpSpec.buildSlice1 (vs := [_]) el_40 ze_9 rfl rfl rfl rfl rfl (by decide)) (by (repeat' constructor)) rfl ?nx35
     rintro v L' ⟨b11_4, rfl, rfl⟩
     refine G.op (OpSpec.append1 rfl rfl rfl el_40 ze_9 rfl rfl ?c37 ?c38 (Nat.le_refl _) ?c39 (by decide)) (by (repeat' constructor)) rfl ?nx40
     case c37 => (first | (simp [isCell]; done) | (simp [isCell, setAll, Value.cells]; done))
     case c38 => rfl
     case c39 => omega
     rintro v L' ⟨⟨a11_5, c11_5, rfl⟩, rfl⟩
     refine G.q (Quiet.assign rfl) rfl (G.nil (G.then_n (G.region (G.q (Quiet.move rfl) rfl (G.q (Quiet.move rfl) rfl ?_)))))
     refine G.q (Quiet.to (v' := vstr ((47 :: r).drop n)) (Quiet.strFrom (i := n) rfl rfl Tryz.underlying9 (by omega)) (by simp)) rfl ?_
     refine G.q (Quiet.assign rfl) rfl (G.nil (G.blk_n (G.then_n ?_)))
     have hin := h29
     rw [show strs acc ++ [vstr (((47 :: r).take n).drop 1)] = strs (acc ++ [((47 :: r).take n).drop 1]) by simp [strs], show acc.length + 1 = (acc ++ [((47 :: r).take n).drop 1]).length by simp]
     exact G.roundK (((47 :: r).drop n, .slice a11_5 (acc ++ [((47 :: r).take n).drop 1]).length c11_5, acc ++ [((47 :: r).take n).drop 1])) (⟨⟨_, _, rfl⟩, by dsimp only; rw [List.all_append, hall]; simpa using hin, by dsimp only; rw [hseg, hsplit, List.append_assoc]; rfl, by dsimp only; rw [List.length_drop, List.length_append]; simp; omega, fun h => by simp at h, fun _ => ⟨hs47, hdrop⟩⟩) (by dsimp only; rw [List.length_drop]; omega) ⟨rfl, rfl, trivial⟩ (by (repeat' constructor)) (by ((repeat (apply Have.cons; (repeat (first | exact Pick.here | apply Pick.there)))); apply Have.base; repeat' constructor))
 ·have hcn : cur = [] := h8
  subst hcn
  refine G.exit (G.then_e (G.then_e (G.blk_e (G.then_n (G.seq (G.region (G.q (Quiet.move rfl) rfl (G.q (Quiet.move rfl) rfl (G.q (Quiet.slen rfl Tryz.underlying40 rfl) rfl (G.q (Quiet.int rfl rfl rfl) rfl (G.q (Quiet.assign rfl) rfl (G.q (Quiet.assign rfl) rfl (G.nil (G.then_n (G.ret ?_)))))))))))))))
  exact G.done (l := [.tmp 2, .tmp 3]) rfl rfl ⟨_, _, ⟨_, _, rfl⟩, (by unfold okZ; rw [hseg, show segsZ [] = [] from rfl, List.append_nil, hall, Bool.and_true]; refine decide_eq_decide.2 ?_; rcases acc with _ | ⟨x, l⟩; (rw [← hfst rfl]; simp); (simp only [(hrest (by simp)).1, iff_true, List.length_cons]; omega)), (fun _ => by rw [hseg]; simp [segsZ]), rfl⟩ (by (repeat' constructor)) (by (repeat' constructor))

set_option maxRecDepth 100000 in
theorem rcheck_spec (s : Bs) (hs : s.length ≤ 1099511627776) : Fn Tryz.prog 111 #[vstr s] [] fun v L => v = vint (checkZ s) ∧ L = [] := by
 refine Fn.intro (vs := [vstr s]) Tryz.func111 rfl rfl ?_
 intro F W
 have hbs := bs_size s
 refine G.seq (G.region (G.q (Quiet.assign rfl) rfl (G.nil (G.then_n (G.seq (G.seq (G.region (G.q (Quiet.move rfl) rfl (G.q (Quiet.streq rfl rfl) rfl (G.nil (G.then_n ?_)))))))))))
 refine G.condD rfl (fun h6 => ?_) (fun h6 => ?_)
 ·refine G.seq (G.region (G.q (Quiet.assign rfl) rfl (G.nil (G.then_n (G.ret (G.then_r ?_))))))
  exact G.done (l := [.tmp 2]) rfl rfl ⟨by rw [show s = [47] from h6]; rfl, rfl⟩ (by (repeat' constructor)) (by (repeat' constructor))
 ·have hchk := check_ok h6
  refine G.skip (G.then_n (G.seq (G.region (G.q (Quiet.move rfl) rfl ?_))))
  refine G.op (OpSpec.call Tryz.func131 rfl rfl (vs := [_]) rfl (rnames_spec s hs)) (by (repeat' constructor)) rfl ?nx6
  rintro v L' ⟨nn, b, ⟨a3, c3, rfl⟩, hb, hnn, rfl⟩
  refine G.q (Quiet.move rfl) rfl (G.q (Quiet.extract rfl rfl) rfl (G.q (Quiet.extract rfl rfl) rfl (G.q (Quiet.assign rfl) rfl (G.q (Quiet.assign rfl) rfl (G.nil (G.then_n (G.seq (G.seq (G.region (G.q (Quiet.move rfl) rfl (G.q (Quiet.not rfl) rfl (G.nil (G.then_n ?_)))))))))))))
  refine G.condB rfl (fun h13 => ?_) (fun h13 => ?_)
  ·have hbf : b = false := by simpa using h13
   rw [← hb, hbf, if_neg (by simp)] at hchk
   refine G.seq (G.region (G.q (Quiet.assign rfl) rfl (G.nil (G.then_n (G.ret (G.then_r ?_))))))
   exact G.done (l := [.tmp 2]) rfl rfl ⟨by rw [hchk], rfl⟩ (by (repeat' constructor)) (by (repeat' constructor))
  ·have hbt : b = true := by simpa using h13
   have hnl := hnn hbt
   rw [← hb, hbt, if_pos rfl] at hchk
   refine G.skip (G.then_n (G.seq (G.seq (G.region (G.q (Quiet.move rfl) rfl (G.q (Quiet.strlen rfl Tryz.underlying9 rfl) rfl (G.q (Quiet.int rfl rfl rfl) rfl (G.q (Quiet.move rfl) rfl ?_))))))))
   refine G.dec (t := 17) rfl (fun h6_17 => ?_) (fun h6_17 => ?_)
   ·refine G.kDT (t := 16) rfl h6_17 (G.gskip (t := 17) rfl rfl rfl rfl (G.gskip (t := 17) rfl rfl rfl rfl (G.gskip (t := 17) rfl rfl rfl rfl (G.q (Quiet.pickT rfl rfl) rfl (G.nil (G.then_n (G.condT rfl (G.seq (G.region (G.q (Quiet.assign rfl) rfl (G.nil (G.then_n (G.ret (G.then_r ?_))))))))))))))
    exact G.done (l := [.tmp 2]) rfl rfl ⟨by rw [hchk, if_pos (by left; omega)], rfl⟩ (by (repeat' constructor)) (by (repeat' constructor))
   ·refine G.kDF (t := 16) rfl h6_17 (G.grun (t := 17) rfl rfl rfl (G.q (Quiet.move rfl) rfl (G.grun (t := 17) rfl rfl rfl (G.q (Quiet.slen rfl Tryz.underlying40 rfl) rfl (G.grun (t := 17) rfl rfl rfl (G.q (Quiet.int rfl rfl rfl) rfl (G.q (Quiet.pickF rfl rfl) rfl (G.nil (G.then_n ?_)))))))))
    refine G.condD rfl (fun h21 => ?_) (fun h21 => ?_)
    ·refine G.seq (G.region (G.q (Quiet.assign rfl) rfl (G.nil (G.then_n (G.ret (G.then_r ?_))))))
     exact G.done (l := [.tmp 2]) rfl rfl ⟨by rw [hchk, if_pos (by right; omega)], rfl⟩ (by (repeat' constructor)) (by (repeat' constructor))
    ·refine G.skip (G.then_n (G.seq (G.region (G.q (Quiet.assign rfl) rfl (G.nil (G.then_n (G.ret ?_)))))))
     exact G.done (l := [.tmp 2]) rfl rfl ⟨by rw [hchk, if_neg (by omega)], rfl⟩ (by (repeat' constructor)) (by (repeat' constructor))

set_option maxRecDepth 100000 in
theorem rslash_spec (s : Bs) (hs : s.length ≤ 1099511627776) : Fn Tryz.prog 101 #[vstr s] [] fun v L => v = vint (lidxZ s) ∧ L = [] := by
 refine Fn.intro (vs := [vstr s]) Tryz.func101 rfl rfl ?_
 intro F W
 have hbs := bs_size s
 refine G.seq (G.region (G.q (Quiet.assign rfl) rfl (G.nil (G.then_n (G.seq (G.seq (G.region (G.q (Quiet.move rfl) rfl (G.q (Quiet.strlen rfl Tryz.underlying9 rfl) rfl ?_)))))))))
 refine G.q (Quiet.sub rfl rfl (by omega)) rfl ?_
 refine G.q (Quiet.assign rfl) rfl (G.nil (G.then_n (G.block ?_)))
 refine G.loopK (ι := Nat) (fun q E => (3, vint (dnL s.length q)) :: E) (fun q => []) (fun q => q ≤ s.length ∧ lidxTo s (s.length - q) = lidxZ s) (fun q => s.length - q) (0) (ts := [0]) (.cons rfl (.nil)) (⟨Nat.zero_le _, rfl⟩) ⟨rfl, rfl, trivial⟩ (by (repeat' constructor)) ?_
 rintro k ⟨hk, hl⟩
 have hdn := dnL_eq s.length k
 refine G.seq (G.seq (G.region (G.q (Quiet.move rfl) rfl (G.q (Quiet.int rfl rfl rfl) rfl (G.nil (G.then_n ?_))))))
 refine G.condD rfl (fun h8 => ?_) (fun h8 => ?_)
 ·have hk2 : k < s.length := by omega
  have hat : s[s.length - (k + 1)] = s.getD (s.length - (k + 1)) 0 := by rw [List.getD_eq_getElem?_getD, List.getElem?_eq_getElem (by omega), Option.getD_some]
  refine G.skip (G.then_n (G.seq (G.block (G.seq (G.region (G.q (Quiet.move rfl) rfl (G.q (Quiet.move rfl) rfl ?_)))))))
  refine G.q (Quiet.strIndex (c := s[s.length - (k + 1)]) rfl rfl Tryz.underlying9 (by omega) (by rw [show (dnL s.length k).toNat = s.length - (k + 1) by omega]; simp [show s.length - (k + 1) < s.length by omega])) rfl ?_
  refine G.q (Quiet.int rfl rfl rfl) rfl (G.nil (G.then_n ?_))
  refine G.condD rfl (fun h14 => ?_) (fun h14 => ?_)
  ·have he : s.getD (s.length - (k + 1)) 0 = 47 := by rw [← hat]; exact byte_eq h14
   refine G.seq (G.region (G.q (Quiet.move rfl) rfl (G.q (Quiet.assign rfl) rfl (G.nil (G.then_n (G.ret (G.blk_r (G.then_r (G.then_r (G.blk_r (G.then_r ?_)))))))))))
   exact G.done (l := [.tmp 2]) rfl rfl ⟨by rw [← hl, show s.length - k = (s.length - (k + 1)) + 1 by omega, lidxTo, if_pos he, hdn]; congr 1; omega, rfl⟩ (by (repeat' constructor)) (by (repeat' constructor))
  ·have hne : ¬ s.getD (s.length - (k + 1)) 0 = 47 := by rw [← hat]; exact fun e => h14 (by rw [e]; rfl)
   refine G.skip (G.blk_n (G.then_n (G.region (G.q (Quiet.move rfl) rfl ?_))))
   refine G.q (Quiet.sub rfl rfl (by omega)) rfl ?_
   refine G.q (Quiet.assign rfl) rfl (G.nil (G.then_n ?_))
   exact G.roundK (k + 1) (⟨by omega, by rw [← hl, show s.length - k = (s.length - (k + 1)) + 1 by omega, lidxTo, if_neg hne]⟩) (by omega) ⟨rfl, rfl, trivial⟩ (by (repeat' constructor)) (by ((repeat (apply Have.cons; (repeat (first | exact Pick.here | apply Pick.there)))); apply Have.base; repeat' constructor))
 ·refine G.exit (G.then_e (G.then_e (G.blk_e (G.then_n (G.seq (G.region (G.q (Quiet.assign rfl) rfl (G.nil (G.then_n (G.ret ?_))))))))))
  exact G.done (l := [.tmp 2]) rfl rfl ⟨by rw [← hl, show s.length - k = 0 by omega]; rfl, rfl⟩ (by (repeat' constructor)) (by (repeat' constructor))

set_option maxRecDepth 100000 in
theorem rparent_spec (s : Bs) (hs : s.length ≤ 1099511627776) : Fn Tryz.prog 51 #[vstr s] [] fun v L => v = vstr (parentZ s) ∧ L = [] := by
 refine Fn.intro (vs := [vstr s]) Tryz.func51 rfl rfl ?_
 intro F W
 have hr := lidx_range s
 refine G.seq (G.region (G.q (Quiet.assign rfl) rfl (G.nil (G.then_n (G.seq (G.region (G.q (Quiet.move rfl) rfl ?_)))))))
 refine G.op (OpSpec.call Tryz.func101 rfl rfl (vs := [_]) rfl (rslash_spec _ ?hs3)) (by (repeat' constructor)) rfl ?nx4
 case hs3 => first | assumption | omega
 rintro v L' ⟨rfl, rfl⟩
 refine G.q (Quiet.assign rfl) rfl (G.nil (G.then_n (G.seq (G.seq (G.region (G.q (Quiet.move rfl) rfl (G.q (Quiet.int rfl rfl rfl) rfl (G.q (Quiet.move rfl) rfl ?_))))))))
 refine G.dec (t := 8) rfl (fun h2_8 => ?_) (fun h2_8 => ?_)
 ·refine G.kDT (t := 7) rfl h2_8 (G.gskip (t := 8) rfl rfl rfl rfl (G.gskip (t := 8) rfl rfl rfl rfl (G.q (Quiet.pickT rfl rfl) rfl (G.nil (G.then_n (G.condT rfl (G.seq (G.region (G.q (Quiet.assign rfl) rfl (G.nil (G.then_n (G.ret (G.then_r ?_)))))))))))))
  exact G.done (l := [.tmp 2]) rfl rfl ⟨by unfold parentZ; rw [if_pos (by first | exact .inl (by omega) | exact .inr (by assumption))], rfl⟩ (by (repeat' constructor)) (by (repeat' constructor))
 ·refine G.kDF (t := 7) rfl h2_8 (G.grun (t := 8) rfl rfl rfl (G.q (Quiet.move rfl) rfl (G.grun (t := 8) rfl rfl rfl (G.q (Quiet.streq rfl rfl) rfl (G.q (Quiet.pickF rfl rfl) rfl (G.nil (G.then_n ?_)))))))
  refine G.dec (t := 11) rfl (fun h11 => ?_) (fun h11 => ?_)
  ·refine G.condT rfl (G.seq (G.region (G.q (Quiet.assign rfl) rfl (G.nil (G.then_n (G.ret (G.then_r ?_)))))))
   exact G.done (l := [.tmp 2]) rfl rfl ⟨by unfold parentZ; rw [if_pos (by first | exact .inl (by omega) | exact .inr (by assumption))], rfl⟩ (by (repeat' constructor)) (by (repeat' constructor))
  ·refine G.condF rfl (G.skip (G.then_n (G.seq (G.seq (G.region (G.q (Quiet.move rfl) rfl (G.q (Quiet.int rfl rfl rfl) rfl (G.nil (G.then_n ?_)))))))))
   refine G.condD rfl (fun h13 => ?_) (fun h13 => ?_)
   ·refine G.seq (G.region (G.q (Quiet.assign rfl) rfl (G.nil (G.then_n (G.ret (G.then_r ?_))))))
    exact G.done (l := [.tmp 2]) rfl rfl ⟨by unfold parentZ; rw [if_neg (by rintro (g | g); omega; exact absurd g h11), if_pos h13], rfl⟩ (by (repeat' constructor)) (by (repeat' constructor))
   ·refine G.skip (G.then_n (G.seq (G.region (G.q (Quiet.move rfl) rfl (G.q (Quiet.move rfl) rfl ?_)))))
    refine G.q (Quiet.strTo rfl rfl Tryz.underlying9 (by omega)) rfl ?_
    refine G.q (Quiet.assign rfl) rfl (G.nil (G.then_n (G.ret ?_)))
    exact G.done (l := [.tmp 2]) rfl rfl ⟨by unfold parentZ; rw [if_neg (by rintro (g | g); omega; exact absurd g h11), if_neg h13], rfl⟩ (by (repeat' constructor)) (by (repeat' constructor))

set_option maxRecDepth 100000 in
theorem rbase_spec (s : Bs) (hs : s.length ≤ 1099511627776) : Fn Tryz.prog 107 #[vstr s] [] fun v L => v = vstr (baseZ s) ∧ L = [] := by
 refine Fn.intro (vs := [vstr s]) Tryz.func107 rfl rfl ?_
 intro F W
 have hr := lidx_range s
 refine G.seq (G.region (G.q (Quiet.assign rfl) rfl (G.nil (G.then_n (G.seq (G.region (G.q (Quiet.move rfl) rfl (G.q (Quiet.move rfl) rfl ?_))))))))
 refine G.op (OpSpec.call Tryz.func101 rfl rfl (vs := [_]) rfl (rslash_spec _ ?hs4)) (by (repeat' constructor)) rfl ?nx5
 case hs4 => first | assumption | omega
 rintro v L' ⟨rfl, rfl⟩
 refine G.q (Quiet.add rfl rfl (by omega)) rfl ?_
 refine G.q (Quiet.strFrom rfl rfl Tryz.underlying9 (by omega)) rfl ?_
 refine G.q (Quiet.assign rfl) rfl (G.nil (G.then_n (G.ret ?_)))
 exact G.done (l := [.tmp 2]) rfl rfl ⟨rfl, rfl⟩ (by (repeat' constructor)) (by (repeat' constructor))

set_option maxRecDepth 100000 in
theorem rkid_spec (s name : Bs) (hs : s.length ≤ 1099511627776) (hn : name.length ≤ 1099511627776) : Fn Tryz.prog 52 #[vstr s, vstr name] [] fun v L => v = vstr (kidZ s name) ∧ L = [] := by
 refine Fn.intro (vs := [vstr s, vstr name]) Tryz.func52 rfl rfl ?_
 intro F W
 refine G.seq (G.region (G.q (Quiet.assign rfl) rfl (G.nil (G.then_n (G.seq (G.seq (G.region (G.q (Quiet.move rfl) rfl (G.q (Quiet.streq rfl rfl) rfl (G.nil (G.then_n ?_)))))))))))
 refine G.condD rfl (fun h6 => ?_) (fun h6 => ?_)
 ·refine G.seq (G.region (G.q (Quiet.move rfl) rfl (G.q (Quiet.move rfl) rfl ?_)))
  refine G.q (Quiet.concat rfl rfl (by omega)) rfl ?_
  refine G.q (Quiet.assign rfl) rfl (G.nil (G.then_n (G.ret (G.then_r ?_))))
  exact G.done (l := [.tmp 4]) rfl rfl ⟨by unfold kidZ; rw [if_pos h6, h6], rfl⟩ (by (repeat' constructor)) (by (repeat' constructor))
 ·refine G.skip (G.then_n (G.seq (G.region (G.q (Quiet.move rfl) rfl ?_))))
  refine G.q (Quiet.concat rfl rfl (by simp; omega)) rfl ?_
  refine G.q (Quiet.move rfl) rfl ?_
  refine G.q (Quiet.concat rfl rfl (by simp; omega)) rfl ?_
  refine G.q (Quiet.assign rfl) rfl (G.nil (G.then_n (G.ret ?_)))
  exact G.done (l := [.tmp 4]) rfl rfl ⟨by unfold kidZ; rw [if_neg h6], rfl⟩ (by (repeat' constructor)) (by (repeat' constructor))

set_option maxRecDepth 100000 in
theorem runder_spec (s q0 : Bs) (hq : q0.length ≤ 1099511627776) : Fn Tryz.prog 126 #[vstr s, vstr q0] [] fun v L => v = .bool (decide (underZ s q0)) ∧ L = [] := by
 refine Fn.intro (vs := [vstr s, vstr q0]) Tryz.func126 rfl rfl ?_
 intro F W
 have hb1 := bs_size s
 have hb2 := bs_size (kidZ q0 [])
 have hkl := kid_len q0 []
 refine G.seq (G.region (G.q (Quiet.assign rfl) rfl (G.nil (G.then_n (G.seq (G.region (G.q (Quiet.move rfl) rfl ?_)))))))
 refine G.op (OpSpec.call Tryz.func52 rfl rfl (vs := [_, _]) rfl (rkid_spec q0 [] (by omega) (by simp))) (by (repeat' constructor)) rfl ?nx3
 rintro v L' ⟨rfl, rfl⟩
 refine G.q (Quiet.assign rfl) rfl (G.nil (G.then_n (G.seq (G.region (G.q (Quiet.move rfl) rfl (G.q (Quiet.strlen rfl Tryz.underlying9 rfl) rfl (G.q (Quiet.move rfl) rfl (G.q (Quiet.strlen rfl Tryz.underlying9 rfl) rfl (G.q (Quiet.int rfl rfl rfl) rfl (G.q (Quiet.move rfl) rfl ?_))))))))))
 refine G.dec (t := 13) rfl (fun h2_13 => ?_) (fun h2_13 => ?_)
 ·refine G.kDT (t := 12) rfl h2_13 (G.grun (t := 13) rfl rfl rfl (G.q (Quiet.move rfl) rfl (G.grun (t := 13) rfl rfl rfl (G.q (Quiet.move rfl) rfl (G.grun (t := 13) rfl rfl rfl (G.q (Quiet.strlen rfl Tryz.underlying9 rfl) rfl (G.grun (t := 13) rfl rfl rfl ?_)))))))
  refine G.q (Quiet.to (v' := vstr (s.take (kidZ q0 []).length)) (Quiet.strTo rfl rfl Tryz.underlying9 (by omega)) (by rw [Int.toNat_natCast])) rfl ?_
  refine G.grun (t := 13) rfl rfl rfl (G.q (Quiet.move rfl) rfl (G.grun (t := 13) rfl rfl rfl (G.q (Quiet.streq rfl rfl) rfl (G.q (Quiet.pickT rfl rfl) rfl (G.q (Quiet.assign rfl) rfl (G.nil (G.then_n (G.ret ?_))))))))
  exact G.done (l := [.tmp 4]) rfl rfl ⟨by congr 1; exact decide_eq_decide.2 ⟨fun e => ⟨e, fun g => by rw [g] at h2_13; omega⟩, fun e => e.1⟩, rfl⟩ (by (repeat' constructor)) (by (repeat' constructor))
 ·refine G.kDF (t := 12) rfl h2_13 (G.gskip (t := 13) rfl rfl rfl rfl (G.gskip (t := 13) rfl rfl rfl rfl (G.gskip (t := 13) rfl rfl rfl rfl (G.gskip (t := 13) rfl rfl rfl rfl (G.gskip (t := 13) rfl rfl rfl rfl (G.gskip (t := 13) rfl rfl rfl rfl (G.q (Quiet.pickF rfl rfl) rfl (G.q (Quiet.assign rfl) rfl (G.nil (G.then_n (G.ret ?_)))))))))))
  exact G.done (l := [.tmp 4]) rfl rfl ⟨by rw [decide_eq_false (fun e => by obtain ⟨e1, e2⟩ := e; unfold pfx at e1; have h3 := congrArg List.length e1; rw [List.length_take] at h3; exact e2 (by rw [← e1, List.take_of_length_le (by omega)]))], rfl⟩ (by (repeat' constructor)) (by (repeat' constructor))

end Go.Proofs.YtnnbelmpbmfdnaaGreatDoor

/- Own work, by program: the document's tree: walked. -/

namespace Go.Proofs.YtnnbelmpbmfdnaaGreatDoor
open Go
set_option maxRecDepth 100000 in
theorem rplace_spec (x : Nat) (τ : Tr) (p : Bs) (hn : τ.nodes.length ≤ 1099511627776) : Fn Tryz.prog 69 #[vptr x, vstr p] [refR x τ] fun v L => v = vint (placeZ τ p) ∧ L = [refR x τ] := by
 refine Fn.intro (vs := [vptr x, vstr p]) Tryz.func69 rfl rfl ?_
 intro F W
 refine G.rfOpen (x := x) (τ := τ) (by (repeat' constructor)) fun an cn as1 cs l hl => ?_
 have hll := nds_len hl
 refine G.seq (G.region (G.q (Quiet.assign rfl) rfl (G.nil (G.then_n (G.seq (G.seq (G.region (G.q (Quiet.assign rfl) rfl (G.nil (G.then_n (G.block ?_)))))))))))
 refine G.loopK (ι := Nat) (fun q E => (5, vint q) :: E) (fun q => []) (fun q => q ≤ l.length ∧ ∀ j (hj : j < q), ∀ (hj2 : j < l.length), l[j].1 ≠ p) (fun q => l.length - q) (0) (ts := [0, 1]) (.cons rfl (.cons rfl (.nil))) (⟨Nat.zero_le _, fun j hj => by omega⟩) ⟨rfl, rfl, rfl, trivial⟩ (by (repeat' constructor)) ?_
 rintro i ⟨hi, hno⟩
 refine G.seq (G.seq (G.region (G.q (Quiet.move rfl) rfl (G.q (Quiet.move rfl) rfl (G.q (Quiet.nilp rfl) rfl (G.q (Quiet.fieldAddr rfl fo_101_0) rfl ?_))))))
 refine G.q (Quiet.load rfl ag_98 (by (repeat' constructor)) (rfl)) rfl ?_
 refine G.q (Quiet.slen rfl Tryz.underlying98 rfl) rfl (G.q (Quiet.int rfl rfl rfl) rfl (G.nil (G.then_n ?_)))
 refine G.condD rfl (fun h12 => ?_) (fun h12 => ?_)
 ·have hi2 : i < l.length := by omega
  refine G.slShape (T := 131) (sz := 12) (v := .slice an l.length cn) (xs := l.flatMap rnC) (by (repeat' constructor)) (by omega) fun bn bn' e0 mbn _ => ?_
  simp only [Value.slice.injEq, true_and] at e0
  obtain ⟨rfl, rfl⟩ := e0
  refine G.skip (G.then_n (G.seq (G.block (G.seq (G.region (G.q (Quiet.move rfl) rfl (G.q (Quiet.nilp rfl) rfl (G.q (Quiet.fieldAddr rfl fo_101_0) rfl ?_))))))))
  refine G.q (Quiet.load rfl ag_98 (by (repeat' constructor)) (rfl)) rfl ?_
  refine G.q (Quiet.move rfl) rfl ?_
  refine G.q (Quiet.indexAddr rfl rfl el_98 (by omega)) rfl ?_
  refine G.q (Quiet.fieldAddr rfl fo_131_0) rfl ?_
  refine G.q (Quiet.loadRd (sz := 12) (j := i * 12 + 0) (p := rnR _ l) rfl ag_9 (by (repeat' constructor)) (fun h hp => slR_rd hp) (by omega) ((rn_cell (l := l) (i := i) (k := 0) (by omega) (by decide)).trans rfl)) rfl ?_
  refine G.q (Quiet.move rfl) rfl (G.q (Quiet.streq rfl rfl) rfl (G.nil (G.then_n ?_)))
  refine G.condD rfl (fun h24 => ?_) (fun h24 => ?_)
  ·refine G.seq (G.region (G.q (Quiet.move rfl) rfl (G.q (Quiet.assign rfl) rfl (G.nil (G.then_n (G.ret (G.blk_r (G.then_r (G.then_r (G.blk_r (G.then_r ?_)))))))))))
   have hz : placeZ τ p = (i : Int) := by unfold placeZ; rw [← hl, place_nds]; exact place_at hi2 h24 (fun j hj => hno j hj (by omega))
   refine G.rfFold (x := x) (τ := τ) (l := l) hl (by (repeat' constructor)) rfl rfl rfl rfl rfl ?_
   exact G.done (l := [.tmp 4]) rfl rfl ⟨by rw [hz], rfl⟩ (by (repeat' constructor)) (by (repeat' constructor))
  ·refine G.skip (G.blk_n (G.then_n (G.region (G.q (Quiet.move rfl) rfl ?_))))
   refine G.q (Quiet.add rfl rfl (by omega)) rfl ?_
   refine G.q (Quiet.assign rfl) rfl (G.nil (G.then_n ?_))
   exact G.roundK (i + 1) (⟨by omega, fun j hj hj2 => by by_cases e : j = i; (subst e; exact h24); exact hno j (by omega) hj2⟩) (by omega) ⟨rfl, rfl, rfl, trivial⟩ (by (repeat' constructor)) (by ((repeat (apply Have.cons; (repeat (first | exact Pick.here | apply Pick.there)))); apply Have.base; repeat' constructor))
 ·refine G.exit (G.then_e (G.then_e (G.blk_e (G.then_n (G.seq (G.region (G.q (Quiet.assign rfl) rfl (G.nil (G.then_n (G.ret ?_))))))))))
  have hz : placeZ τ p = -1 := by unfold placeZ; rw [← hl, place_nds]; exact place_none (fun j hj => hno j (by omega) hj)
  refine G.rfFold (x := x) (τ := τ) (l := l) hl (by (repeat' constructor)) rfl rfl rfl rfl rfl ?_
  exact G.done (l := [.tmp 4]) rfl rfl ⟨by rw [hz], rfl⟩ (by (repeat' constructor)) (by (repeat' constructor))

set_option maxRecDepth 100000 in
theorem rable_spec (p : Bs) (hs : p.length ≤ 1099511627776) : Fn Tryz.prog 118 #[vstr p] [] fun v L => v = .bool (decide (ableZ p)) ∧ L = [] := by
 refine Fn.intro (vs := [vstr p]) Tryz.func118 rfl rfl ?_
 intro F W
 refine G.seq (G.region (G.q (Quiet.assign rfl) rfl (G.nil (G.then_n (G.seq (G.region (G.q (Quiet.move rfl) rfl (G.q (Quiet.strne rfl rfl) rfl (G.q (Quiet.move rfl) rfl ?_)))))))))
 refine G.ndec (t := 5) rfl (fun h1_5 => ?_) (fun h1_5 => ?_)
 ·refine G.kNT (t := 4) rfl h1_5 (G.grun (t := 5) rfl rfl rfl (G.q (Quiet.move rfl) rfl (G.grun (t := 5) rfl rfl rfl ?_)))
  refine G.op (OpSpec.call Tryz.func111 rfl rfl (vs := [_]) rfl (rcheck_spec p hs)) (by (repeat' constructor)) rfl ?nx5
  rintro v L' ⟨rfl, rfl⟩
  refine G.grun (t := 5) rfl rfl rfl (G.q (Quiet.int rfl rfl rfl) rfl (G.q (Quiet.pickT rfl rfl) rfl (G.q (Quiet.assign rfl) rfl (G.nil (G.then_n (G.ret ?_))))))
  exact G.done (l := [.tmp 2]) rfl rfl ⟨congrArg Value.bool (decide_eq_decide.2 ⟨fun e => ⟨h1_5, e⟩, fun e => e.2⟩), rfl⟩ (by (repeat' constructor)) (by (repeat' constructor))
 ·refine G.kNF (t := 4) rfl h1_5 (G.gskip (t := 5) rfl rfl rfl rfl (G.gskip (t := 5) rfl rfl rfl rfl (G.gskip (t := 5) rfl rfl rfl rfl (G.q (Quiet.pickF rfl rfl) rfl (G.q (Quiet.assign rfl) rfl (G.nil (G.then_n (G.ret ?_))))))))
  exact G.done (l := [.tmp 2]) rfl rfl ⟨by rw [decide_eq_false (fun e => e.1 h1_5)], rfl⟩ (by (repeat' constructor)) (by (repeat' constructor))

set_option maxRecDepth 100000 in
theorem rrows_spec (v : Value) (xs : List Ac) (p : HP) (hp : ∀ h : Hp, p h → rdS 2 h v xs.length (xs.flatMap acC)) (hn : xs.length ≤ 1048576) : Fn Tryz.prog 105 #[v] [p] fun u L => (∃ a c, u = .slice a xs.length c) ∧ L = [p, slR 104 2 u xs.length (xs.flatMap acC)] := by
 refine Fn.intro (vs := [v]) Tryz.func105 rfl rfl ?_
 intro F W
 refine G.rdAny (p := p) hp (by (repeat' constructor)) fun a c e0 hl => ?_
 subst e0
 refine G.add (slR_nil 104 2) ?_
 refine G.seq (G.region (G.q (Quiet.assign rfl) rfl (G.nil (G.then_n (G.seq (G.region (G.q (Quiet.assign rfl) rfl (G.nil (G.then_n (G.seq (G.region (G.q (Quiet.move rfl) rfl (G.q (Quiet.move rfl) rfl ?_)))))))))))))
 refine G.op (OpSpec.append (n := 0) (m := xs.length) (ys := xs.flatMap acC) (p := p) rfl rfl rfl el_34 (.inl ⟨_, Tryz.underlying34⟩) ze_104 rfl rfl ?hc4 hp ?hb5 (by decide)) (by (repeat' constructor)) rfl ?nx6
 case hc4 => exact acC_cells _
 case hb5 => omega
 rintro v L' ⟨⟨a3, c3, rfl⟩, rfl⟩; rw [Nat.zero_add, List.nil_append]
 refine G.q (Quiet.assign rfl) rfl (G.nil (G.then_n (G.ret ?_)))
 exact G.done (l := [.tmp 2]) rfl rfl ⟨⟨_, _, rfl⟩, rfl⟩ (by (repeat' constructor)) (by (repeat' constructor))

theorem fill_rnode0 (p : Bs) (ad : Option Addr) (n c : Nat) : Instr.fill (fun i => [(0, 1), (1, 1), (2, 1), (3, 9)].toArray[i]?) ([.string (bs []), .string (bs []), .slice none 0 0, .int .i64 0, .int .i64 0, .int .i64 0, .int .i64 0, .int .i64 0, .int .i64 0, .int .i64 0, .int .i64 0, .int .i64 0] : List Value).toArray [(0, vstr p), (2, .slice ad n c)] = some (([vstr p, .string (bs []), .slice ad n c, vint 0, vint 0, vint 0, vint 0, vint 0, vint 0, vint 0, vint 0, vint 0] : List Value).toArray) := by kernel_rfl
theorem fill_rnode (p d : Bs) (ad : Option Addr) (n c : Nat) (s0 s1 s2 s3 s4 s5 s6 s7 s8 : Value) : Instr.fill (fun i => [(0, 1), (1, 1), (2, 1), (3, 9)].toArray[i]?) ([.string (bs []), .string (bs []), .slice none 0 0, .int .i64 0, .int .i64 0, .int .i64 0, .int .i64 0, .int .i64 0, .int .i64 0, .int .i64 0, .int .i64 0, .int .i64 0] : List Value).toArray [(0, vstr p), (1, vstr d), (2, .slice ad n c), (3, .agg ([s0, s1, s2, s3, s4, s5, s6, s7, s8] : List Value).toArray)] = some (([vstr p, vstr d, .slice ad n c] ++ [s0, s1, s2, s3, s4, s5, s6, s7, s8] : List Value).toArray) := by kernel_rfl
set_option maxRecDepth 100000 in
theorem rfnew_spec : Fn Tryz.prog 25 #[] [] fun v L => ∃ x, v = vptr x ∧ L = [refR x newT] := by
 refine Fn.intro (vs := []) Tryz.func25 rfl rfl ?_
 intro F W
 refine G.seq (G.region (G.q (Quiet.assign rfl) rfl (G.nil (G.then_n (G.seq (G.region ?_))))))
 refine G.q (Quiet.build (us := [(0, _), (1, _)]) fl_104 ze_104 rfl rfl (by simp [isCell])) rfl ?_
 refine G.op (OpSpec.buildSlice (vs := [_]) el_34 ze_104 rfl rfl rfl rfl (by first | (simp [Value.cells]; done) | (intro v hv; simp only [List.mem_cons, List.not_mem_nil, or_false] at hv; (repeat (first | (subst hv; rfl) | (rcases hv with hv | hv; (subst hv; rfl)))))) (by decide)) (by (repeat' constructor)) rfl ?nx3
 rintro v L' ⟨ba, rfl, rfl⟩
 refine G.q (Quiet.buildN (pl := [(0, 1), (1, 1), (2, 1), (3, 9)]) (us := [(0, vstr [47]), (2, .slice (some ⟨ba, 0, none⟩) 1 1)]) (cells := rnC (([47], (.slice (some ⟨ba, 0, none⟩) 1 1, ⟨[], [(31, [119, 111, 114, 108, 100])], st0⟩)) : Rn)) Tryz.underlying131 (by kernel_rfl) ze_131 rfl (fill_rnode0 _ _ _ _)) rfl ?_
 refine G.op (OpSpec.buildSlice (vs := [_]) el_98 ze_131 rfl rfl rfl rfl (by first | (simp [Value.cells]; done) | (intro v hv; simp only [List.mem_cons, List.not_mem_nil, or_false] at hv; (repeat (first | (subst hv; rfl) | (rcases hv with hv | hv; (subst hv; rfl)))))) (by decide)) (by (repeat' constructor)) rfl ?nx6
 rintro v L' ⟨bn, rfl, rfl⟩
 refine G.q (Quiet.build (us := [(0, _)]) fl_101 ze_101 rfl rfl (by simp [isCell])) rfl ?_
 refine G.op (OpSpec.box rfl) (by (repeat' constructor)) rfl ?nx9
 rintro v L' ⟨x, rfl, rfl⟩
 refine G.q (Quiet.assign rfl) rfl (G.nil (G.then_n (G.ret ?_)))
 refine G.slMakeN 2 1 (b := ba) (xs := ([(31, [119, 111, 114, 108, 100])] : List Ac).flatMap acC) (by (repeat' constructor)) rfl rfl ?_
 refine G.toRd (m := 1) (by (repeat' constructor)) ?_
 refine G.slMakeN 12 1 (b := bn) (xs := [(([47], (.slice (some ⟨ba, 0, none⟩) 1 1, ⟨[], [(31, [119, 111, 114, 108, 100])], st0⟩)) : Rn)].flatMap rnC) (by (repeat' constructor)) rfl rfl ?_
 refine G.add (slR_nil 134 3) ?_
 refine G.fold (p := bigR inA [(([47], (.slice (some ⟨ba, 0, none⟩) 1 1, ⟨[], [(31, [119, 111, 114, 108, 100])], st0⟩)) : Rn)]) (.cons (p := rdO 2 (.slice (some ⟨ba, 0, none⟩) 1 1) 1 (([(31, [119, 111, 114, 108, 100])] : List Ac).flatMap acC)) (by (repeat' constructor)) .nil) (fun h hp => hp) ?_
 refine G.rfFold (x := x) (τ := newT) (l := [(([47], (.slice (some ⟨ba, 0, none⟩) 1 1, ⟨[], [(31, [119, 111, 114, 108, 100])], st0⟩)) : Rn)]) rfl (by (repeat' constructor)) rfl rfl rfl rfl rfl ?_
 exact G.done (l := [.tmp 0]) rfl rfl ⟨_, rfl, rfl⟩ (by (repeat' constructor)) (by (repeat' constructor))

theorem rn_cells {z : Rn} (hz : isCell z.2.1 = true) : ∀ y ∈ (Value.agg (rnC z).toArray).cells.toList, isCell y = true := by
  intro v hv
  simp only [Value.cells, rnC, List.mem_cons, List.not_mem_nil, or_false] at hv
  rcases hv with rfl | rfl | rfl | rfl | rfl | rfl | rfl | rfl | rfl | rfl | rfl | rfl
  case inr.inr.inl => exact hz
  all_goals rfl
theorem rdO_cell {sz n : Nat} {v : Value} {ys : List Value} {h : Hp} (hr : rdO sz v n ys h) : isCell v = true := by
  rcases hr with ⟨-, -, a, c, rfl⟩ | ⟨b, off, cap, l, T, fr, rfl, -⟩ <;> rfl
theorem big_get {α : Type} {f : α → HP} {l : List α} {i : Nat} (hi : i < l.length) {h : Hp} (hs : bigR f l h) : ∃ h1, f l[i] h1 := by
  induction l generalizing i h with
  | nil => simp at hi
  | cons x l ih =>
    obtain ⟨h1, h2, -, -, -, p1, p2⟩ := hs
    cases i with
    | zero => exact ⟨h1, p1⟩
    | succ i => exact ih (by simpa using hi) p2
theorem G.aclShape {W : World} {n : Nat} {ds : List Deferred} {E : Env} {L R : List HP} {X : Act → World → Prop} {l : List Rn} {i : Nat} (hi : i < l.length) (hL : Pick (bigR inA l) L R) (h : isCell l[i].2.1 = true → G W n ds E L X) : G W n ds E L X := by
  intro a w he hk hs
  obtain ⟨h1, -, hp⟩ := sep_head (hs.pick hL)
  obtain ⟨h2, hq⟩ := big_get hi hp
  exact h (rdO_cell hq) a w he hk hs
set_option maxRecDepth 100000 in
theorem rlay_spec (x : Nat) (τ : Tr) (z : Rn) (hzc : isCell z.2.1 = true) (N : Nat) (ho : τ.Ok N) (hN : N ≤ 1073741824) : Fn Tryz.prog 112 #[vptr x, .agg (rnC z).toArray] [refR x τ, inA z] fun v L => v = .tuple #[] ∧ L = [refR x { τ with nodes := sset τ.nodes z.1 z.2.2 }] := by
 refine Fn.intro (vs := [vptr x, .agg (rnC z).toArray]) Tryz.func112 rfl rfl ?_
 intro F W
 refine G.rfOpen (x := x) (τ := τ) (by (repeat' constructor)) fun an cn as1 cs l hl => ?_
 have hsrt := nds_sorted (hl ▸ ho.sorted)
 have hll := nds_len hl
 have hofew := ho.few
 refine G.seq (G.region ?_)
 refine G.op (OpSpec.box rfl) (by (repeat' constructor)) rfl ?nx1
 rintro v L' ⟨bz, rfl, rfl⟩
 refine G.nil ?_
 refine G.ptCast (b := bz) (l' := rnC z) (by (repeat' constructor)) rfl ?_
 refine G.then_n (G.seq (G.add (slR_nil 131 12) (G.region (G.q (Quiet.assign rfl) rfl (G.nil (G.then_n (G.seq (G.region (G.q (Quiet.assign rfl) rfl (G.nil (G.then_n (G.seq (G.seq (G.region (G.q (Quiet.assign rfl) rfl (G.nil (G.then_n (G.block ?_))))))))))))))))))
 refine G.loopK (ι := Nat × Bool × Value × (List Rn)) (fun q E => (6, vint q.1) :: (5, .bool q.2.1) :: (4, q.2.2.1) :: E) (fun q => [rnR q.2.2.1 q.2.2.2]) (fun q => q.1 ≤ l.length ∧ LayI l z.1 z.2 q.1 q.2.1 q.2.2.2 ∧ (∃ a c, q.2.2.1 = .slice a q.2.2.2.length c) ∧ q.2.2.2.length ≤ q.1 + q.2.1.toNat) (fun q => l.length - q.1) (0, false, .slice none 0 0, []) (ts := [0, 3]) (.cons rfl (.cons rfl (.nil))) (⟨Nat.zero_le _, LayI.start _ _ _, ⟨none, 0, rfl⟩, by simp⟩) ⟨rfl, rfl, rfl, rfl, rfl, trivial⟩ (by (repeat' constructor)) ?_
 rintro ⟨i, b, u, acc⟩ ⟨hi, hLay, ⟨au, cu, hu⟩, hal⟩
 dsimp only
 dsimp only at hi hLay hu hal
 subst hu
 refine G.seq (G.seq (G.region (G.q (Quiet.move rfl) rfl (G.q (Quiet.move rfl) rfl (G.q (Quiet.nilp rfl) rfl (G.q (Quiet.fieldAddr rfl fo_101_0) rfl ?_))))))
 refine G.q (Quiet.load rfl ag_98 (by (repeat' constructor)) (rfl)) rfl ?_
 refine G.q (Quiet.slen rfl Tryz.underlying98 rfl) rfl (G.q (Quiet.int rfl rfl rfl) rfl (G.nil (G.then_n ?_)))
 refine G.condD rfl (fun h13 => ?_) (fun h13 => ?_)
 ·have hi2 : i < l.length := by omega
  refine G.slShape (T := 131) (sz := 12) (v := .slice an l.length cn) (xs := l.flatMap rnC) (by (repeat' constructor)) (by omega) fun bn bn' e0 mbn _ => ?_
  simp only [Value.slice.injEq, true_and] at e0
  obtain ⟨rfl, rfl⟩ := e0
  refine G.skip (G.then_n (G.seq (G.block (G.seq (G.seq ?_)))))
  refine G.draw [] [[0, 1, 2, 3, 4, 5, 6, 7, 8, 9, 10, 11, 12, 13, 14]] mixed (by kernel_rfl) ?_
  refine Phases.go [] (by (repeat' constructor)) ?_
  refine D.qw [1, 2, 3, 4, 5, 6, 7, 8, 9, 10, 11, 12, 13, 14] rfl (by kernel_rfl) (Quiet.move rfl) ?_
  refine D.qw [2, 3, 4, 5, 6, 7, 8, 9, 10, 11, 12, 13, 14] rfl (by kernel_rfl) (Quiet.not rfl) ?_
  refine D.qw [3, 4, 5, 6, 7, 8, 9, 10, 11, 12, 13, 14] rfl (by kernel_rfl) (Quiet.move rfl) ?_
  refine D.bool (t := 18) rfl (fun h6_18 => ?_) (fun h6_18 => ?_)
  ·have hbf : b = false := by simpa using h6_18
   subst hbf
   have hal : acc.length ≤ i + 0 := hal
   refine D.kB (t := 17) rfl h6_18 ?_
   refine D.gqw [4, 5, 6, 8, 9, 10, 13, 14] (t := 18) rfl rfl rfl (by kernel_rfl) (Quiet.move rfl) ?_
   refine D.gqw [5, 6, 8, 9, 10, 13, 14] (t := 18) rfl rfl rfl (by kernel_rfl) (Quiet.nilp rfl) ?_
   refine D.gqw [6, 8, 9, 10, 13, 14] (t := 18) rfl rfl rfl (by kernel_rfl) (Quiet.fieldAddr rfl fo_101_0) ?_
   refine D.gqw [8, 9, 10, 13, 14] (t := 18) rfl rfl rfl (by kernel_rfl) (Quiet.load rfl ag_98 (by (repeat' constructor)) (rfl)) ?_
   refine D.gqw [8, 9, 10, 13, 14] (t := 18) rfl rfl rfl (by kernel_rfl) (Quiet.move rfl) ?_
   refine D.gqw [9, 10, 13, 14] (t := 18) rfl rfl rfl (by kernel_rfl) (Quiet.indexAddr rfl rfl el_98 (by omega)) ?_
   refine D.gqw [10, 13, 14] (t := 18) rfl rfl rfl (by kernel_rfl) (Quiet.fieldAddr rfl fo_131_0) ?_
   refine D.gqw [13, 14] (t := 18) rfl rfl rfl (by kernel_rfl) (Quiet.loadRd (sz := 12) (j := i * 12 + 0) (p := rnR _ l) rfl ag_9 (by (repeat' constructor)) (fun h hp => slR_rd hp) (by omega) ((rn_cell (l := l) (i := i) (k := 0) (by omega) (by decide)).trans rfl)) ?_
   refine D.gqw [12, 13, 14] (t := 18) rfl rfl rfl (by kernel_rfl) (Quiet.fieldAddr rfl fo_131_0) ?_
   refine D.gqw [13, 14] (t := 18) rfl rfl rfl (by kernel_rfl) (Quiet.load rfl ag_9 (by (repeat' constructor)) rfl) ?_
   refine D.gqw [14] (t := 18) rfl rfl rfl (by kernel_rfl) (Quiet.strge rfl rfl) ?_
   refine D.qw [] rfl (by kernel_rfl) (Quiet.pickT rfl rfl) ?_
   refine D.ph (Phases.fin (G.then_n ?_))
   refine G.condD rfl (fun h30 => ?_) (fun h30 => ?_)
   ·refine G.seq (G.region (G.q (Quiet.move rfl) rfl ?_))
    refine G.q (Quiet.loadAs (vs := rnC z) rfl ag_131 (by (repeat' constructor)) (by simp [rnC]) rfl) rfl ?_
    refine G.op (OpSpec.buildSlice (vs := [_]) el_98 ze_131 rfl rfl rfl rfl (by first | (simp [Value.cells]; done) | (intro v hv; simp only [List.mem_cons, List.not_mem_nil, or_false] at hv; (repeat (first | (subst hv; rfl) | (rcases hv with hv | hv; (subst hv; rfl)))))) (by decide)) (by (repeat' constructor)) rfl ?nx28
    rintro v L' ⟨b7_2, rfl, rfl⟩
    refine G.op (OpSpec.append1 rfl rfl rfl el_98 ze_131 rfl rfl ?c30 ?c31 (Nat.le_refl _) ?c32 (by decide)) (by (repeat' constructor)) rfl ?nx33
    case c30 => first | exact rn_cells hzc | (simp only [List.map_cons, List.map_nil, List.flatten_cons, List.flatten_nil, List.append_nil]; exact rn_cells hzc)
    case c31 => rfl
    case c32 => first | omega | (simp; omega)
    rintro v L' ⟨⟨a7_3, c7_3, rfl⟩, rfl⟩
    refine G.q (Quiet.assign rfl) rfl (G.nil ?_)
    rw [show acc.length + 1 = (acc ++ [z]).length by rw [List.length_append]; rfl]
    refine G.slCast (T := 131) (sz := 12) (m' := (acc ++ [z]).length) (xs' := (acc ++ [z]).flatMap rnC) (by (repeat' constructor)) rfl (by simp; rfl) ?_
    refine G.then_n (G.region (G.q (Quiet.assign rfl) rfl (G.nil (G.then_n (G.seq ?_)))))
    refine G.draw [] [[0, 1, 2, 3, 4, 5, 6, 7, 8, 9, 10]] mixed (by kernel_rfl) ?_
    refine Phases.go [] (by (repeat' constructor)) ?_
    refine D.qw [1, 2, 3, 5, 6, 7, 10] rfl (by kernel_rfl) (Quiet.move rfl) ?_
    refine D.qw [2, 3, 5, 6, 7, 10] rfl (by kernel_rfl) (Quiet.nilp rfl) ?_
    refine D.qw [3, 5, 6, 7, 10] rfl (by kernel_rfl) (Quiet.fieldAddr rfl fo_101_0) ?_
    refine D.qw [5, 6, 7, 10] rfl (by kernel_rfl) (Quiet.load rfl ag_98 (by (repeat' constructor)) (rfl)) ?_
    refine D.qw [5, 6, 7, 10] rfl (by kernel_rfl) (Quiet.move rfl) ?_
    refine D.qw [6, 7, 10] rfl (by kernel_rfl) (Quiet.indexAddr rfl rfl el_98 (by omega)) ?_
    refine D.qw [7, 10] rfl (by kernel_rfl) (Quiet.fieldAddr rfl fo_131_0) ?_
    refine D.qw [10] rfl (by kernel_rfl) (Quiet.loadRd (sz := 12) (j := i * 12 + 0) (p := rnR _ l) rfl ag_9 (by (repeat' constructor)) (fun h hp => slR_rd hp) (by omega) ((rn_cell (l := l) (i := i) (k := 0) (by omega) (by decide)).trans rfl)) ?_
    refine D.qw [9, 10] rfl (by kernel_rfl) (Quiet.fieldAddr rfl fo_131_0) ?_
    refine D.qw [10] rfl (by kernel_rfl) (Quiet.load rfl ag_9 (by (repeat' constructor)) (rfl)) ?_
    refine D.qw [] rfl (by kernel_rfl) (Quiet.strne rfl rfl) ?_
    refine D.ph (Phases.fin (G.then_n ?_))
    refine G.condN rfl (fun h45 => ?_) (fun h45 => ?_)
    ·refine G.aclShape (l := l) (i := i) hi2 (by (repeat' constructor)) fun hcl => ?_
     refine G.region (G.q (Quiet.move rfl) rfl (G.q (Quiet.move rfl) rfl (G.q (Quiet.nilp rfl) rfl (G.q (Quiet.fieldAddr rfl fo_101_0) rfl ?_))))
     refine G.q (Quiet.load rfl ag_98 (by (repeat' constructor)) (rfl)) rfl ?_
     refine G.q (Quiet.move rfl) rfl ?_
     refine G.q (Quiet.indexAddr rfl rfl el_98 (by omega)) rfl ?_
     refine G.q (Quiet.loadRdA (sz := 12) (j := i * 12) (k := 12) (p := rnR _ l) (vs := rnC l[i]) rfl ag_131 (by (repeat' constructor)) (fun h hp => slR_rd hp) (by omega) (by omega) (by omega) (flatMap_at (f := rnC) (sz := 12) (fun _ _ => rfl) (by omega))) rfl ?_
     refine G.op (OpSpec.buildSlice (vs := [_]) el_98 ze_131 rfl rfl rfl rfl (by first | (simp [Value.cells]; done) | (intro v hv; simp only [List.mem_cons, List.not_mem_nil, or_false] at hv; (repeat (first | (subst hv; rfl) | (rcases hv with hv | hv; (subst hv; rfl)))))) (by decide)) (by (repeat' constructor)) rfl ?nx54
     rintro v L' ⟨b10_8, rfl, rfl⟩
     refine G.op (OpSpec.append1 rfl rfl rfl el_98 ze_131 rfl rfl ?c56 ?c57 (Nat.le_refl _) ?c58 (by decide)) (by (repeat' constructor)) rfl ?nx59
     case c56 => first | exact rn_cells hcl | (simp only [List.map_cons, List.map_nil, List.flatten_cons, List.flatten_nil, List.append_nil]; exact rn_cells hcl)
     case c57 => rfl
     case c58 => first | omega | (simp; omega)
     rintro v L' ⟨⟨a10_9, c10_9, rfl⟩, rfl⟩
     refine G.q (Quiet.assign rfl) rfl (G.nil ?_)
     rw [show (acc ++ [z]).length + 1 = ((acc ++ [z]) ++ [l[i]]).length by simp]
     refine G.slCast (T := 131) (sz := 12) (m' := ((acc ++ [z]) ++ [l[i]]).length) (xs' := ((acc ++ [z]) ++ [l[i]]).flatMap rnC) (by (repeat' constructor)) rfl (by simp; rfl) ?_
     refine G.blk_n (G.then_n (G.region (G.q (Quiet.move rfl) rfl ?_)))
     refine G.q (Quiet.add rfl rfl (by omega)) rfl ?_
     refine G.q (Quiet.assign rfl) rfl (G.nil (G.then_n ?_))
     exact G.roundK ((i + 1, true, .slice a10_9 ((acc ++ [z]) ++ [l[i]]).length c10_9, ((acc ++ [z]) ++ [l[i]]))) (⟨by dsimp only; omega, by dsimp only; exact hLay.put hi2 h30 h45, ⟨_, _, rfl⟩, by dsimp only; simp; omega⟩) (by dsimp only; omega) ⟨rfl, rfl, rfl, rfl, rfl, trivial⟩ (by (repeat' constructor)) (by ((repeat (apply Have.cons; (repeat (first | exact Pick.here | apply Pick.there)))); apply Have.base; repeat' constructor))
    ·refine G.skip (G.blk_n (G.then_n (G.region (G.q (Quiet.move rfl) rfl ?_))))
     refine G.q (Quiet.add rfl rfl (by omega)) rfl ?_
     refine G.q (Quiet.assign rfl) rfl (G.nil (G.then_n ?_))
     exact G.roundK ((i + 1, true, .slice a7_3 (acc ++ [z]).length c7_3, (acc ++ [z]))) (⟨by dsimp only; omega, by dsimp only; exact hLay.sub hi2 h45, ⟨_, _, rfl⟩, by dsimp only; simp; omega⟩) (by dsimp only; omega) ⟨rfl, rfl, rfl, rfl, rfl, trivial⟩ (by (repeat' constructor)) (by ((repeat (apply Have.cons; (repeat (first | exact Pick.here | apply Pick.there)))); apply Have.base; repeat' constructor))
   ·refine G.skip (G.then_n (G.seq ?_))
    refine G.draw [] [[0, 1, 2, 3, 4, 5, 6, 7, 8, 9, 10]] mixed (by kernel_rfl) ?_
    refine Phases.go [] (by (repeat' constructor)) ?_
    refine D.qw [1, 2, 3, 5, 6, 7, 10] rfl (by kernel_rfl) (Quiet.move rfl) ?_
    refine D.qw [2, 3, 5, 6, 7, 10] rfl (by kernel_rfl) (Quiet.nilp rfl) ?_
    refine D.qw [3, 5, 6, 7, 10] rfl (by kernel_rfl) (Quiet.fieldAddr rfl fo_101_0) ?_
    refine D.qw [5, 6, 7, 10] rfl (by kernel_rfl) (Quiet.load rfl ag_98 (by (repeat' constructor)) (rfl)) ?_
    refine D.qw [5, 6, 7, 10] rfl (by kernel_rfl) (Quiet.move rfl) ?_
    refine D.qw [6, 7, 10] rfl (by kernel_rfl) (Quiet.indexAddr rfl rfl el_98 (by omega)) ?_
    refine D.qw [7, 10] rfl (by kernel_rfl) (Quiet.fieldAddr rfl fo_131_0) ?_
    refine D.qw [10] rfl (by kernel_rfl) (Quiet.loadRd (sz := 12) (j := i * 12 + 0) (p := rnR _ l) rfl ag_9 (by (repeat' constructor)) (fun h hp => slR_rd hp) (by omega) ((rn_cell (l := l) (i := i) (k := 0) (by omega) (by decide)).trans rfl)) ?_
    refine D.qw [9, 10] rfl (by kernel_rfl) (Quiet.fieldAddr rfl fo_131_0) ?_
    refine D.qw [10] rfl (by kernel_rfl) (Quiet.load rfl ag_9 (by (repeat' constructor)) (rfl)) ?_
    refine D.qw [] rfl (by kernel_rfl) (Quiet.strne rfl rfl) ?_
    refine D.ph (Phases.fin (G.then_n ?_))
    refine G.condN rfl (fun h45 => ?_) (fun h45 => ?_)
    ·refine G.aclShape (l := l) (i := i) hi2 (by (repeat' constructor)) fun hcl => ?_
     refine G.region (G.q (Quiet.move rfl) rfl (G.q (Quiet.move rfl) rfl (G.q (Quiet.nilp rfl) rfl (G.q (Quiet.fieldAddr rfl fo_101_0) rfl ?_))))
     refine G.q (Quiet.load rfl ag_98 (by (repeat' constructor)) (rfl)) rfl ?_
     refine G.q (Quiet.move rfl) rfl ?_
     refine G.q (Quiet.indexAddr rfl rfl el_98 (by omega)) rfl ?_
     refine G.q (Quiet.loadRdA (sz := 12) (j := i * 12) (k := 12) (p := rnR _ l) (vs := rnC l[i]) rfl ag_131 (by (repeat' constructor)) (fun h hp => slR_rd hp) (by omega) (by omega) (by omega) (flatMap_at (f := rnC) (sz := 12) (fun _ _ => rfl) (by omega))) rfl ?_
     refine G.op (OpSpec.buildSlice (vs := [_]) el_98 ze_131 rfl rfl rfl rfl (by first | (simp [Value.cells]; done) | (intro v hv; simp only [List.mem_cons, List.not_mem_nil, or_false] at hv; (repeat (first | (subst hv; rfl) | (rcases hv with hv | hv; (subst hv; rfl)))))) (by decide)) (by (repeat' constructor)) rfl ?nx84
     rintro v L' ⟨b10_8, rfl, rfl⟩
     refine G.op (OpSpec.append1 rfl rfl rfl el_98 ze_131 rfl rfl ?c86 ?c87 (Nat.le_refl _) ?c88 (by decide)) (by (repeat' constructor)) rfl ?nx89
     case c86 => first | exact rn_cells hcl | (simp only [List.map_cons, List.map_nil, List.flatten_cons, List.flatten_nil, List.append_nil]; exact rn_cells hcl)
     case c87 => rfl
     case c88 => first | omega | (simp; omega)
     rintro v L' ⟨⟨a10_9, c10_9, rfl⟩, rfl⟩
     refine G.q (Quiet.assign rfl) rfl (G.nil ?_)
     rw [show acc.length + 1 = (acc ++ [l[i]]).length by simp]
     refine G.slCast (T := 131) (sz := 12) (m' := (acc ++ [l[i]]).length) (xs' := (acc ++ [l[i]]).flatMap rnC) (by (repeat' constructor)) rfl (by simp; rfl) ?_
     refine G.blk_n (G.then_n (G.region (G.q (Quiet.move rfl) rfl ?_)))
     refine G.q (Quiet.add rfl rfl (by omega)) rfl ?_
     refine G.q (Quiet.assign rfl) rfl (G.nil (G.then_n ?_))
     exact G.roundK ((i + 1, false, .slice a10_9 (acc ++ [l[i]]).length c10_9, (acc ++ [l[i]]))) (⟨by dsimp only; omega, by dsimp only; exact hLay.low hi2 (Decidable.byContradiction h30), ⟨_, _, rfl⟩, by dsimp only; simp; omega⟩) (by dsimp only; omega) ⟨rfl, rfl, rfl, rfl, rfl, trivial⟩ (by (repeat' constructor)) (by ((repeat (apply Have.cons; (repeat (first | exact Pick.here | apply Pick.there)))); apply Have.base; repeat' constructor))
    ·refine G.skip (G.blk_n (G.then_n (G.region (G.q (Quiet.move rfl) rfl ?_))))
     refine G.q (Quiet.add rfl rfl (by omega)) rfl ?_
     refine G.q (Quiet.assign rfl) rfl (G.nil (G.then_n ?_))
     exact G.roundK ((i + 1, false, .slice au acc.length cu, acc)) (⟨by dsimp only; omega, by dsimp only; exact absurd (by rw [h45]; exact linB.irr z.1) h30, ⟨_, _, rfl⟩, by dsimp only; simp; omega⟩) (by dsimp only; omega) ⟨rfl, rfl, rfl, rfl, rfl, trivial⟩ (by (repeat' constructor)) (by ((repeat (apply Have.cons; (repeat (first | exact Pick.here | apply Pick.there)))); apply Have.base; repeat' constructor))
  ·have hbt : b = true := by simpa using h6_18
   subst hbt
   have hal : acc.length ≤ i + 1 := hal
   refine D.kB (t := 17) rfl h6_18 ?_
   refine D.gs (t := 18) rfl rfl rfl rfl (by kernel_rfl) ?_
   refine D.gs (t := 18) rfl rfl rfl rfl (by kernel_rfl) ?_
   refine D.gs (t := 18) rfl rfl rfl rfl (by kernel_rfl) ?_
   refine D.gs (t := 18) rfl rfl rfl rfl (by kernel_rfl) ?_
   refine D.gs (t := 18) rfl rfl rfl rfl (by kernel_rfl) ?_
   refine D.gs (t := 18) rfl rfl rfl rfl (by kernel_rfl) ?_
   refine D.gs (t := 18) rfl rfl rfl rfl (by kernel_rfl) ?_
   refine D.gs (t := 18) rfl rfl rfl rfl (by kernel_rfl) ?_
   refine D.gs (t := 18) rfl rfl rfl rfl (by kernel_rfl) ?_
   refine D.gs (t := 18) rfl rfl rfl rfl (by kernel_rfl) ?_
   refine D.gs (t := 18) rfl rfl rfl rfl (by kernel_rfl) ?_
   refine D.qw [] rfl (by kernel_rfl) (Quiet.pickF rfl rfl) ?_
   refine D.ph (Phases.fin (G.then_n (G.condF rfl (G.skip (G.then_n (G.seq ?_))))))
   refine G.draw [] [[0, 1, 2, 3, 4, 5, 6, 7, 8, 9, 10]] mixed (by kernel_rfl) ?_
   refine Phases.go [] (by (repeat' constructor)) ?_
   refine D.qw [1, 2, 3, 5, 6, 7, 10] rfl (by kernel_rfl) (Quiet.move rfl) ?_
   refine D.qw [2, 3, 5, 6, 7, 10] rfl (by kernel_rfl) (Quiet.nilp rfl) ?_
   refine D.qw [3, 5, 6, 7, 10] rfl (by kernel_rfl) (Quiet.fieldAddr rfl fo_101_0) ?_
   refine D.qw [5, 6, 7, 10] rfl (by kernel_rfl) (Quiet.load rfl ag_98 (by (repeat' constructor)) (rfl)) ?_
   refine D.qw [5, 6, 7, 10] rfl (by kernel_rfl) (Quiet.move rfl) ?_
   refine D.qw [6, 7, 10] rfl (by kernel_rfl) (Quiet.indexAddr rfl rfl el_98 (by omega)) ?_
   refine D.qw [7, 10] rfl (by kernel_rfl) (Quiet.fieldAddr rfl fo_131_0) ?_
   refine D.qw [10] rfl (by kernel_rfl) (Quiet.loadRd (sz := 12) (j := i * 12 + 0) (p := rnR _ l) rfl ag_9 (by (repeat' constructor)) (fun h hp => slR_rd hp) (by omega) ((rn_cell (l := l) (i := i) (k := 0) (by omega) (by decide)).trans rfl)) ?_
   refine D.qw [9, 10] rfl (by kernel_rfl) (Quiet.fieldAddr rfl fo_131_0) ?_
   refine D.qw [10] rfl (by kernel_rfl) (Quiet.load rfl ag_9 (by (repeat' constructor)) (rfl)) ?_
   refine D.qw [] rfl (by kernel_rfl) (Quiet.strne rfl rfl) ?_
   refine D.ph (Phases.fin (G.then_n ?_))
   refine G.condN rfl (fun h45 => ?_) (fun h45 => ?_)
   ·refine G.aclShape (l := l) (i := i) hi2 (by (repeat' constructor)) fun hcl => ?_
    refine G.region (G.q (Quiet.move rfl) rfl (G.q (Quiet.move rfl) rfl (G.q (Quiet.nilp rfl) rfl (G.q (Quiet.fieldAddr rfl fo_101_0) rfl ?_))))
    refine G.q (Quiet.load rfl ag_98 (by (repeat' constructor)) (rfl)) rfl ?_
    refine G.q (Quiet.move rfl) rfl ?_
    refine G.q (Quiet.indexAddr rfl rfl el_98 (by omega)) rfl ?_
    refine G.q (Quiet.loadRdA (sz := 12) (j := i * 12) (k := 12) (p := rnR _ l) (vs := rnC l[i]) rfl ag_131 (by (repeat' constructor)) (fun h hp => slR_rd hp) (by omega) (by omega) (by omega) (flatMap_at (f := rnC) (sz := 12) (fun _ _ => rfl) (by omega))) rfl ?_
    refine G.op (OpSpec.buildSlice (vs := [_]) el_98 ze_131 rfl rfl rfl rfl (by first | (simp [Value.cells]; done) | (intro v hv; simp only [List.mem_cons, List.not_mem_nil, or_false] at hv; (repeat (first | (subst hv; rfl) | (rcases hv with hv | hv; (subst hv; rfl)))))) (by decide)) (by (repeat' constructor)) rfl ?nx115
    rintro v L' ⟨b10_8, rfl, rfl⟩
    refine G.op (OpSpec.append1 rfl rfl rfl el_98 ze_131 rfl rfl ?c117 ?c118 (Nat.le_refl _) ?c119 (by decide)) (by (repeat' constructor)) rfl ?nx120
    case c117 => first | exact rn_cells hcl | (simp only [List.map_cons, List.map_nil, List.flatten_cons, List.flatten_nil, List.append_nil]; exact rn_cells hcl)
    case c118 => rfl
    case c119 => first | omega | (simp; omega)
    rintro v L' ⟨⟨a10_9, c10_9, rfl⟩, rfl⟩
    refine G.q (Quiet.assign rfl) rfl (G.nil ?_)
    rw [show acc.length + 1 = (acc ++ [l[i]]).length by simp]
    refine G.slCast (T := 131) (sz := 12) (m' := (acc ++ [l[i]]).length) (xs' := (acc ++ [l[i]]).flatMap rnC) (by (repeat' constructor)) rfl (by simp; rfl) ?_
    refine G.blk_n (G.then_n (G.region (G.q (Quiet.move rfl) rfl ?_)))
    refine G.q (Quiet.add rfl rfl (by omega)) rfl ?_
    refine G.q (Quiet.assign rfl) rfl (G.nil (G.then_n ?_))
    exact G.roundK ((i + 1, true, .slice a10_9 (acc ++ [l[i]]).length c10_9, (acc ++ [l[i]]))) (⟨by dsimp only; omega, by dsimp only; exact hLay.more hi2, ⟨_, _, rfl⟩, by dsimp only; simp; omega⟩) (by dsimp only; omega) ⟨rfl, rfl, rfl, rfl, rfl, trivial⟩ (by (repeat' constructor)) (by ((repeat (apply Have.cons; (repeat (first | exact Pick.here | apply Pick.there)))); apply Have.base; repeat' constructor))
   ·refine G.skip (G.blk_n (G.then_n (G.region (G.q (Quiet.move rfl) rfl ?_))))
    refine G.q (Quiet.add rfl rfl (by omega)) rfl ?_
    refine G.q (Quiet.assign rfl) rfl (G.nil (G.then_n ?_))
    exact G.roundK ((i + 1, true, .slice au acc.length cu, acc)) (⟨by dsimp only; omega, by dsimp only; exact absurd h45 (hLay.not hsrt hi2), ⟨_, _, rfl⟩, by dsimp only; simp; omega⟩) (by dsimp only; omega) ⟨rfl, rfl, rfl, rfl, rfl, trivial⟩ (by (repeat' constructor)) (by ((repeat (apply Have.cons; (repeat (first | exact Pick.here | apply Pick.there)))); apply Have.base; repeat' constructor))
 ·have hii : i = l.length := by omega
  rw [hii] at hLay
  have hlast := hLay.last
  refine G.exit (G.then_e (G.then_e (G.blk_e (G.then_n (G.seq (G.seq (G.region (G.q (Quiet.move rfl) rfl (G.q (Quiet.not rfl) rfl (G.nil (G.then_n ?_)))))))))))
  refine G.condB rfl (fun h57 => ?_) (fun h57 => ?_)
  ·refine G.region (G.q (Quiet.move rfl) rfl ?_)
   refine G.q (Quiet.loadAs (vs := rnC z) rfl ag_131 (by (repeat' constructor)) (by simp [rnC]) rfl) rfl ?_
   refine G.op (OpSpec.buildSlice (vs := [_]) el_98 ze_131 rfl rfl rfl rfl (by first | (simp [Value.cells]; done) | (intro v hv; simp only [List.mem_cons, List.not_mem_nil, or_false] at hv; (repeat (first | (subst hv; rfl) | (rcases hv with hv | hv; (subst hv; rfl)))))) (by decide)) (by (repeat' constructor)) rfl ?nx130
   rintro v L' ⟨b12_2, rfl, rfl⟩
   refine G.op (OpSpec.append1 rfl rfl rfl el_98 ze_131 rfl rfl ?c132 ?c133 (Nat.le_refl _) ?c134 (by decide)) (by (repeat' constructor)) rfl ?nx135
   case c132 => first | exact rn_cells hzc | (simp only [List.map_cons, List.map_nil, List.flatten_cons, List.flatten_nil, List.append_nil]; exact rn_cells hzc)
   case c133 => rfl
   case c134 => have := Bool.toNat_le b; omega
   rintro v L' ⟨⟨a12_3, c12_3, rfl⟩, rfl⟩
   refine G.q (Quiet.assign rfl) rfl (G.nil ?_)
   rw [show acc.length + 1 = (acc ++ [z]).length by rw [List.length_append]; rfl]
   refine G.slCast (T := 131) (sz := 12) (m' := (acc ++ [z]).length) (xs' := (acc ++ [z]).flatMap rnC) (by (repeat' constructor)) rfl (by simp; rfl) ?_
   refine G.then_n (G.region (G.q (Quiet.move rfl) rfl (G.q (Quiet.move rfl) rfl (G.q (Quiet.nilp rfl) rfl (G.q (Quiet.fieldAddr rfl fo_101_0) rfl ?_)))))
   refine G.op (OpSpec.store rfl rfl rfl sz_98 ?c140 ?c141) (by (repeat' constructor)) rfl ?nx142
   case c140 => first | decide | (simp; omega) | simp
   case c141 => exact nfz0 _ _
   rintro v L' rfl
   refine G.nil (G.done_n ?_)
   refine G.bigSset hsrt z.1 z.2 (p := inA z) rfl (by (repeat' constructor)) ?_
   have hb : b = false := by simpa using h57
   subst hb
   have hfin : (acc ++ [z]) = sset l z.1 z.2 := hlast
   refine G.rfFold (x := x) (τ := ({ τ with nodes := sset τ.nodes z.1 z.2.2 } : Tr)) (l := (sset l z.1 z.2)) (by rw [nds_sset, hl]) (by (repeat' constructor)) rfl (by rw [hfin]) (by rw [hfin]) rfl rfl ?_
   exact G.done (l := []) rfl rfl ⟨rfl, rfl⟩ (by (repeat' constructor)) (by (repeat' constructor))
  ·refine G.skip (G.then_n (G.region (G.q (Quiet.move rfl) rfl (G.q (Quiet.move rfl) rfl (G.q (Quiet.nilp rfl) rfl (G.q (Quiet.fieldAddr rfl fo_101_0) rfl ?_))))))
   refine G.op (OpSpec.store rfl rfl rfl sz_98 ?c147 ?c148) (by (repeat' constructor)) rfl ?nx149
   case c147 => first | decide | (simp; omega) | simp
   case c148 => exact nfz0 _ _
   rintro v L' rfl
   refine G.nil (G.done_n ?_)
   refine G.bigSset hsrt z.1 z.2 (p := inA z) rfl (by (repeat' constructor)) ?_
   have hb : b = true := by simpa using h57
   subst hb
   have hfin : acc = sset l z.1 z.2 := hlast
   refine G.rfFold (x := x) (τ := ({ τ with nodes := sset τ.nodes z.1 z.2.2 } : Tr)) (l := (sset l z.1 z.2)) (by rw [nds_sset, hl]) (by (repeat' constructor)) rfl (by rw [hfin]) (by rw [hfin]) rfl rfl ?_
   exact G.done (l := []) rfl rfl ⟨rfl, rfl⟩ (by (repeat' constructor)) (by (repeat' constructor))

end Go.Proofs.YtnnbelmpbmfdnaaGreatDoor

/- Own work, by program: the document's tree: what creates and erases: walked. -/

namespace Go.Proofs.YtnnbelmpbmfdnaaGreatDoor
open Go
set_option maxRecDepth 100000 in
theorem rkid7_spec (x : Nat) (τ : Tr) (p : Bs) (num zx : Int) (N : Nat) (ho : τ.Ok N) (hN : N ≤ 1073741824) : Fn Tryz.prog 125 #[vptr x, vstr p, vint num, vint zx] [refR x τ] fun v L => v = .tuple #[] ∧ L = [refR x (kidT τ p num zx)] := by
 refine Fn.intro (vs := [vptr x, vstr p, vint num, vint zx]) Tryz.func125 rfl rfl ?_
 intro F W
 have hfew := ho.few
 have hnd := ho.sorted.nodup linB
 refine G.seq (G.region (G.q (Quiet.move rfl) rfl (G.q (Quiet.move rfl) rfl ?_)))
 refine G.op (OpSpec.call Tryz.func69 rfl rfl (vs := [_, _]) rfl (rplace_spec x τ p (by omega))) (by (repeat' constructor)) rfl ?nx3
 rintro v L' ⟨rfl, rfl⟩
 refine G.q (Quiet.assign rfl) rfl (G.nil (G.then_n (G.seq (G.region (G.q (Quiet.move rfl) rfl (G.q (Quiet.int rfl rfl rfl) rfl (G.nil (G.then_n ?_))))))))
 refine G.condD rfl (fun h13 => ?_) (fun h13 => ?_)
 ·obtain ⟨k, hk, hpk, hkp⟩ := place_get (l := τ.nodes) h13
  have hpz : placeZ τ p = k := hpk
  rw [hpz]
  refine G.rfOpen (x := x) (τ := τ) (by (repeat' constructor)) fun an cn as1 cs l hl => ?_
  have hll := nds_len hl
  have hkl : k < l.length := by omega
  have hlk : l[k].1 = p := by have := nds_get hl hkl; rw [← hkp]; simp only [this]
  refine G.slShape (T := 131) (sz := 12) (v := .slice an l.length cn) (xs := l.flatMap rnC) (by (repeat' constructor)) (by omega) fun bn bn' e0 mbn _ => ?_
  simp only [Value.slice.injEq, true_and] at e0
  obtain ⟨rfl, rfl⟩ := e0
  refine G.seq (G.region (G.q (Quiet.move rfl) rfl (G.q (Quiet.nilp rfl) rfl (G.q (Quiet.fieldAddr rfl fo_101_0) rfl ?_))))
  refine G.q (Quiet.load rfl ag_98 (by (repeat' constructor)) (rfl)) rfl ?_
  refine G.q (Quiet.move rfl) rfl (G.q (Quiet.move rfl) rfl ?_)
  refine G.q (Quiet.indexAddr rfl rfl el_98 (by omega)) rfl ?_
  refine G.q (Quiet.fieldAddr rfl fo_131_3) rfl (G.q (Quiet.fieldAddr rfl fo_43_4) rfl ?_)
  refine G.op (OpSpec.storeRd (sz := 12) (j := k * 12 + 7) rfl rfl ?hv14 sz_3 ?ho15 ?hi16) (by (repeat' constructor)) rfl ?nx17
  case hv14 => first | rfl | assumption
  case ho15 => omega
  case hi16 => omega
  rintro v L' rfl
  refine G.nil ?_
  refine G.slCast (T := 131) (sz := 12) (m' := l.length) (xs' := (l.set k (l[k].1, (l[k].2.1, { l[k].2.2 with st := { l[k].2.2.st with cver := num } }))).flatMap rnC) (by (repeat' constructor)) rfl (flatMap_set (f := rnC) (sz := 12) (fun _ => rfl) (by simpa using hkl) (by decide) (by rfl)) ?_
  refine G.then_n (G.region (G.q (Quiet.move rfl) rfl (G.q (Quiet.nilp rfl) rfl (G.q (Quiet.fieldAddr rfl fo_101_0) rfl ?_))))
  refine G.q (Quiet.load rfl ag_98 (by (repeat' constructor)) (rfl)) rfl ?_
  refine G.q (Quiet.move rfl) rfl (G.q (Quiet.move rfl) rfl ?_)
  refine G.q (Quiet.indexAddr rfl rfl el_98 (by omega)) rfl ?_
  refine G.q (Quiet.fieldAddr rfl fo_131_3) rfl (G.q (Quiet.fieldAddr rfl fo_43_2) rfl ?_)
  refine G.op (OpSpec.storeRd (sz := 12) (j := k * 12 + 5) rfl rfl ?hv26 sz_3 ?ho27 ?hi28) (by (repeat' constructor)) rfl ?nx29
  case hv26 => first | rfl | assumption
  case ho27 => omega
  case hi28 => omega
  rintro v L' rfl
  refine G.nil ?_
  refine G.slCast (T := 131) (sz := 12) (m' := l.length) (xs' := ((l.set k (l[k].1, (l[k].2.1, { l[k].2.2 with st := { l[k].2.2.st with cver := num } }))).set k (l[k].1, (l[k].2.1, kidN num zx l[k].2.2))).flatMap rnC) (by (repeat' constructor)) rfl (flatMap_set (f := rnC) (sz := 12) (fun _ => rfl) (by simpa using hkl) (by decide) (by rw [List.getElem_set_self]; rfl)) ?_
  rw [List.set_set]
  refine G.done_n ?_
  refine G.bigSet (y := (l[k].1, (l[k].2.1, kidN num zx l[k].2.2))) hkl (by rfl) (by (repeat' constructor)) ?_
  refine G.rfFold (x := x) (τ := (kidT τ p num zx)) (l := (l.set k (l[k].1, (l[k].2.1, kidN num zx l[k].2.2)))) (nds_mod hl hnd hkl hlk (kidN num zx) rfl) (by (repeat' constructor)) rfl (by simp) rfl rfl rfl ?_
  exact G.done (l := []) rfl rfl ⟨rfl, rfl⟩ (by (repeat' constructor)) (by (repeat' constructor))
 ·refine G.skip (G.done_n ?_)
  refine G.rfCast (x := x) (τ' := kidT τ p num zx) (by (repeat' constructor)) (by unfold kidT; rw [amod_none (by have h0 : ¬ 0 ≤ placeTo τ.nodes p := h13; rw [place_iff] at h0; simpa using h0)]) ?_
  exact G.done (l := []) rfl rfl ⟨rfl, rfl⟩ (by (repeat' constructor)) (by (repeat' constructor))

theorem rlay2_spec (x : Nat) (τ : Tr) (z : Rn) (hzc : isCell z.2.1 = true) (N : Nat) (ho : τ.Ok N) (hN : N ≤ 1073741824) {T : TypeId} : Fn Tryz.prog 112 #[vptr x, .agg (rnC z).toArray] [refR x τ, slR T 2 z.2.1 z.2.2.acl.length (z.2.2.acl.flatMap acC)] fun v L => v = .tuple #[] ∧ L = [refR x { τ with nodes := sset τ.nodes z.1 z.2.2 }] :=
  Fn.pre2 (rlay_spec x τ z hzc N ho hN) fun F w hs => by
    have h1 := sep_imp (q := inA z) (fun h hp => slR_rd hp) (sep_swap hs)
    exact sep_swap h1
set_option maxRecDepth 100000 in
theorem rcreate_spec (x : Nat) (τ : Tr) (y : Pt) (zx : Int) (p : HP) (hy : PtA p y) (N : Nat) (ho : τ.Ok N) (hN : N + 1 ≤ 1073741824) : Fn Tryz.prog 103 #[vptr x, .agg (ptC y).toArray, vint zx] [refR x τ, p] fun v L => ∃ a c, v = .slice a (createZ τ y zx).2.length c ∧ L = [refR x (createZ τ y zx).1, p, slR 75 3 v (createZ τ y zx).2.length ((createZ τ y zx).2.flatMap evC)] := by
 refine Fn.intro (vs := [vptr x, .agg (ptC y).toArray, vint zx]) Tryz.func103 rfl rfl ?_
 intro F W
 have hfew := hy.few
 have hpl := hy.plen
 have hpar := parent_len y.path
 have hof := ho.few
 refine G.seq (G.region ?_)
 refine G.op (OpSpec.box rfl) (by (repeat' constructor)) rfl ?nx1
 rintro v L' ⟨bx, rfl, rfl⟩
 refine G.q (Quiet.assign rfl) rfl (G.nil ?_)
 refine G.ptCast (b := bx) (l' := ptC y) (by (repeat' constructor)) rfl ?_
 refine G.then_n (G.seq (G.region (G.q (Quiet.fieldAddr rfl fo_37_1) rfl ?_)))
 refine G.q (Quiet.load rfl ag_9 (by (repeat' constructor)) (rfl)) rfl ?_
 refine G.op (OpSpec.call Tryz.func51 rfl rfl (vs := [_]) rfl (rparent_spec y.path (by omega))) (by (repeat' constructor)) rfl ?nx6
 rintro v L' ⟨rfl, rfl⟩
 refine G.q (Quiet.assign rfl) rfl (G.nil (G.then_n (G.seq (G.region (G.q (Quiet.fieldAddr rfl fo_37_1) rfl ?_)))))
 refine G.q (Quiet.load rfl ag_9 (by (repeat' constructor)) (rfl)) rfl ?_
 refine G.op (OpSpec.call Tryz.func118 rfl rfl (vs := [_]) rfl (rable_spec y.path (by omega))) (by (repeat' constructor)) rfl ?nx10
 rintro v L' ⟨rfl, rfl⟩
 refine G.q (Quiet.assign rfl) rfl (G.nil (G.then_n (G.seq (G.seq (G.region (G.q (Quiet.move rfl) rfl (G.q (Quiet.not rfl) rfl (G.q (Quiet.move rfl) rfl ?_))))))))
 refine G.ndec (t := 18) rfl (fun h3_18 => ?_) (fun h3_18 => ?_)
 ·refine G.kNT (t := 17) rfl h3_18 (G.gskip (t := 18) rfl rfl rfl rfl (G.gskip (t := 18) rfl rfl rfl rfl (G.gskip (t := 18) rfl rfl rfl rfl (G.gskip (t := 18) rfl rfl rfl rfl (G.q (Quiet.pickT rfl rfl) rfl (G.nil (G.then_n (G.condT rfl (G.seq (G.region (G.q (Quiet.assign rfl) rfl (G.nil (G.then_n (G.ret (G.then_r (G.add (slR_nil 75 3) ?_))))))))))))))))
  have hc : createZ τ y zx = (τ, []) := by unfold createZ; rw [if_neg (fun g => h3_18 g.1)]
  refine G.rfCast (x := x) (τ' := (createZ τ y zx).1) (by (repeat' constructor)) (by rw [hc]) ?_
  refine G.slCast (T := 75) (sz := 3) (m' := (createZ τ y zx).2.length) (xs' := (createZ τ y zx).2.flatMap evC) (by (repeat' constructor)) (by (rw [hc]; try rfl)) (by (rw [hc]; try rfl)) ?_
  exact G.done (l := [.tmp 6]) rfl rfl ⟨_, _, by (rw [hc]; try rfl), rfl⟩ (by (repeat' constructor)) (by (repeat' constructor))
 ·refine G.kNF (t := 17) rfl h3_18 (G.grun (t := 18) rfl rfl rfl (G.q (Quiet.move rfl) rfl (G.grun (t := 18) rfl rfl rfl (G.q (Quiet.move rfl) rfl (G.grun (t := 18) rfl rfl rfl ?_)))))
  refine G.op (OpSpec.call Tryz.func69 rfl rfl (vs := [_, _]) rfl (rplace_spec x τ (parentZ y.path) (by omega))) (by (repeat' constructor)) rfl ?nx16
  rintro v L' ⟨rfl, rfl⟩
  refine G.grun (t := 18) rfl rfl rfl (G.q (Quiet.int rfl rfl rfl) rfl (G.q (Quiet.pickF rfl rfl) rfl (G.nil (G.then_n ?_))))
  refine G.condD rfl (fun h23 => ?_) (fun h23 => ?_)
  ·refine G.seq (G.region (G.q (Quiet.assign rfl) rfl (G.nil (G.then_n (G.ret (G.then_r (G.add (slR_nil 75 3) ?_)))))))
   have hc : createZ τ y zx = (τ, []) := by unfold createZ; rw [if_neg (fun g => absurd (place_iff.2 g.2) (by have h0 : placeTo τ.nodes (parentZ y.path) < 0 := h23; omega))]
   refine G.rfCast (x := x) (τ' := (createZ τ y zx).1) (by (repeat' constructor)) (by rw [hc]) ?_
   refine G.slCast (T := 75) (sz := 3) (m' := (createZ τ y zx).2.length) (xs' := (createZ τ y zx).2.flatMap evC) (by (repeat' constructor)) (by (rw [hc]; try rfl)) (by (rw [hc]; try rfl)) ?_
   exact G.done (l := [.tmp 6]) rfl rfl ⟨_, _, by (rw [hc]; try rfl), rfl⟩ (by (repeat' constructor)) (by (repeat' constructor))
  ·have hup : thereT τ (parentZ y.path) := place_iff.1 (by have h0 : ¬ placeTo τ.nodes (parentZ y.path) < 0 := h23; omega)
   have hab : ableZ y.path := h3_18
   refine G.skip (G.then_n (G.seq (G.region (G.q (Quiet.assign rfl) rfl (G.nil (G.then_n (G.seq (G.seq (G.region (G.q (Quiet.move rfl) rfl (G.q (Quiet.fieldAddr rfl fo_37_1) rfl ?_)))))))))))
   refine G.q (Quiet.load rfl ag_9 (by (repeat' constructor)) (rfl)) rfl ?_
   refine G.op (OpSpec.call Tryz.func69 rfl rfl (vs := [_, _]) rfl (rplace_spec x τ y.path (by omega))) (by (repeat' constructor)) rfl ?nx24
   rintro v L' ⟨rfl, rfl⟩
   refine G.q (Quiet.int rfl rfl rfl) rfl (G.nil (G.then_n ?_))
   refine G.condD rfl (fun h28 => ?_) (fun h28 => ?_)
   ·refine G.region (G.q (Quiet.assign rfl) rfl (G.nil (G.then_n (G.seq ?_))))
    refine G.draw [7, 15] [[0, 1, 2, 3, 4, 5, 6, 8, 9, 10, 11, 12, 13, 7, 14], [15]] mixed (by kernel_rfl) ?_
    refine Phases.go [ptc bx _ _] (by (repeat' constructor)) ?_
    refine D.q rfl (by kernel_rfl) (Quiet.move rfl) ?_
    refine D.q rfl (by kernel_rfl) (Quiet.fieldAddr rfl fo_37_1) ?_
    refine D.q rfl (by kernel_rfl) (Quiet.load rfl ag_9 (by (repeat' constructor)) (rfl)) ?_
    refine D.q rfl (by kernel_rfl) (Quiet.fieldAddr rfl fo_37_2) ?_
    refine D.q rfl (by kernel_rfl) (Quiet.load rfl ag_9 (by (repeat' constructor)) (rfl)) ?_
    refine D.qw [6, 7, 14] rfl (by kernel_rfl) (Quiet.fieldAddr rfl fo_37_3) ?_
    refine D.qw [7, 14] rfl (by kernel_rfl) (Quiet.load rfl ag_34 (by (repeat' constructor)) (rfl)) ?_
    refine D.q rfl (by kernel_rfl) (Quiet.move rfl) ?_
    refine D.q rfl (by kernel_rfl) (Quiet.move rfl) ?_
    refine D.q rfl (by kernel_rfl) (Quiet.move rfl) ?_
    refine D.q rfl (by kernel_rfl) (Quiet.fieldAddr rfl fo_37_4) ?_
    refine D.q rfl (by kernel_rfl) (Quiet.load rfl ag_3 (by (repeat' constructor)) (rfl)) ?_
    refine D.q rfl (by kernel_rfl) (Quiet.build (us := [(0, _), (1, _), (2, _), (6, _)]) fl_43 ze_43 rfl rfl (by simp [isCell])) ?_
    refine D.h rfl (by kernel_rfl) (OpSpec.call Tryz.func105 rfl rfl (vs := [_]) rfl (rrows_spec y.aclV y.acl p hy.acl hfew)) (by (repeat' constructor)) ?nx41
    rintro v L' ⟨⟨a8, c8, rfl⟩, rfl⟩
    refine D.qw [] rfl (by kernel_rfl) (Quiet.buildN (pl := [(0, 1), (1, 1), (2, 1), (3, 9)]) (us := [(0, vstr y.path), (1, vstr y.data), (2, .slice a8 y.acl.length c8), (3, .agg ([vint zx, vint zx, vint zx, vint 0, vint 0, vint 0, vint y.own, vint 0, vint 0] : List Value).toArray)]) (cells := [vstr y.path, vstr y.data, .slice a8 y.acl.length c8] ++ [vint zx, vint zx, vint zx, vint 0, vint 0, vint 0, vint y.own, vint 0, vint 0]) Tryz.underlying131 (by kernel_rfl) ze_131 rfl (fill_rnode _ _ _ _ _ _ _ _ _ _ _ _ _ _)) ?_
    refine D.ph ?_
    refine Phases.go [] (by (repeat' constructor)) ?_
    refine D.h rfl (by kernel_rfl) (OpSpec.call Tryz.func112 rfl rfl (vs := [_, _]) rfl (rlay2_spec x τ ((y.path, (.slice a8 y.acl.length c8, newN y zx)) : Rn) rfl N ho (by omega))) (by (repeat' constructor)) ?nx44
    rintro v L' ⟨rfl, rfl⟩
    refine D.ph (Phases.fin ?_)
    refine G.rfCast (x := x) (τ' := ({ τ with nodes := sset τ.nodes y.path (newN y zx) } : Tr)) (by (repeat' constructor)) (rfl) ?_
    have hoL := ho.lay (.inr hab) (newN y zx) hfew
    refine G.then_n (G.seq (G.region (G.q (Quiet.move rfl) rfl (G.q (Quiet.move rfl) rfl (G.q (Quiet.fieldAddr rfl fo_37_5) rfl ?_)))))
    refine G.q (Quiet.load rfl ag_3 (by (repeat' constructor)) (rfl)) rfl ?_
    refine G.q (Quiet.move rfl) rfl ?_
    refine G.op (OpSpec.call Tryz.func125 rfl rfl (vs := [_, _, _, _]) rfl (rkid7_spec x ({ τ with nodes := sset τ.nodes y.path (newN y zx) } : Tr) (parentZ y.path) y.num zx (N + 1) hoL (by omega))) (by (repeat' constructor)) rfl ?nx50
    rintro v L' ⟨rfl, rfl⟩
    refine G.nil (G.then_n (G.seq (G.region (G.q (Quiet.move rfl) rfl (G.q (Quiet.fieldAddr rfl fo_37_1) rfl ?_)))))
    refine G.q (Quiet.load rfl ag_9 (by (repeat' constructor)) (rfl)) rfl ?_
    refine G.q (Quiet.move rfl) rfl ?_
    refine G.q (Quiet.build (us := [(0, _), (1, _), (2, _)]) fl_75 ze_75 rfl rfl (by simp [isCell])) rfl ?_
    refine G.q (Quiet.move rfl) rfl (G.q (Quiet.move rfl) rfl ?_)
    refine G.q (Quiet.build (us := [(0, _), (1, _), (2, _)]) fl_75 ze_75 rfl rfl (by simp [isCell])) rfl ?_
    refine G.op (OpSpec.buildSlice (vs := [_, _]) el_30 ze_75 rfl rfl rfl rfl (by first | (simp [Value.cells]; done) | (intro v hv; simp only [List.mem_cons, List.not_mem_nil, or_false] at hv; (repeat (first | (subst hv; rfl) | (rcases hv with hv | hv; (subst hv; rfl)))))) (by decide)) (by (repeat' constructor)) rfl ?nx58
    rintro v L' ⟨bo, rfl, rfl⟩
    refine G.q (Quiet.assign rfl) rfl (G.nil ?_)
    refine G.slMakeN 3 2 (b := bo) (xs := ([(3, (y.path, zx)), (4, (parentZ y.path, zx))] : List Ev).flatMap evC) (by (repeat' constructor)) rfl rfl ?_
    refine G.then_n (G.ret ?_)
    have hc : createZ τ y zx = (kidT ({ τ with nodes := sset τ.nodes y.path (newN y zx) } : Tr) (parentZ y.path) y.num zx, [(3, (y.path, zx)), (4, (parentZ y.path, zx))]) := by unfold createZ; rw [if_pos ⟨hab, hup⟩, if_pos (show thereT τ y.path from place_iff.1 h28)]
    refine G.rfCast (x := x) (τ' := (createZ τ y zx).1) (by (repeat' constructor)) (by rw [hc]) ?_
    refine G.slCast (T := 75) (sz := 3) (m' := (createZ τ y zx).2.length) (xs' := (createZ τ y zx).2.flatMap evC) (by (repeat' constructor)) (by (rw [hc]; try rfl)) (by (rw [hc]; try rfl)) ?_
    exact G.done (l := [.tmp 6]) rfl rfl ⟨_, _, by (rw [hc]; try rfl), rfl⟩ (by (repeat' constructor)) (by (repeat' constructor))
   ·refine G.skip (G.then_n (G.seq ?_))
    refine G.draw [7, 15] [[0, 1, 2, 3, 4, 5, 6, 8, 9, 10, 11, 12, 13, 7, 14], [15]] mixed (by kernel_rfl) ?_
    refine Phases.go [ptc bx _ _] (by (repeat' constructor)) ?_
    refine D.q rfl (by kernel_rfl) (Quiet.move rfl) ?_
    refine D.q rfl (by kernel_rfl) (Quiet.fieldAddr rfl fo_37_1) ?_
    refine D.q rfl (by kernel_rfl) (Quiet.load rfl ag_9 (by (repeat' constructor)) (rfl)) ?_
    refine D.q rfl (by kernel_rfl) (Quiet.fieldAddr rfl fo_37_2) ?_
    refine D.q rfl (by kernel_rfl) (Quiet.load rfl ag_9 (by (repeat' constructor)) (rfl)) ?_
    refine D.qw [6, 7, 14] rfl (by kernel_rfl) (Quiet.fieldAddr rfl fo_37_3) ?_
    refine D.qw [7, 14] rfl (by kernel_rfl) (Quiet.load rfl ag_34 (by (repeat' constructor)) (rfl)) ?_
    refine D.q rfl (by kernel_rfl) (Quiet.move rfl) ?_
    refine D.q rfl (by kernel_rfl) (Quiet.move rfl) ?_
    refine D.q rfl (by kernel_rfl) (Quiet.move rfl) ?_
    refine D.q rfl (by kernel_rfl) (Quiet.fieldAddr rfl fo_37_4) ?_
    refine D.q rfl (by kernel_rfl) (Quiet.load rfl ag_3 (by (repeat' constructor)) (rfl)) ?_
    refine D.q rfl (by kernel_rfl) (Quiet.build (us := [(0, _), (1, _), (2, _), (6, _)]) fl_43 ze_43 rfl rfl (by simp [isCell])) ?_
    refine D.h rfl (by kernel_rfl) (OpSpec.call Tryz.func105 rfl rfl (vs := [_]) rfl (rrows_spec y.aclV y.acl p hy.acl hfew)) (by (repeat' constructor)) ?nx73
    rintro v L' ⟨⟨a8, c8, rfl⟩, rfl⟩
    refine D.qw [] rfl (by kernel_rfl) (Quiet.buildN (pl := [(0, 1), (1, 1), (2, 1), (3, 9)]) (us := [(0, vstr y.path), (1, vstr y.data), (2, .slice a8 y.acl.length c8), (3, .agg ([vint zx, vint zx, vint zx, vint 0, vint 0, vint 0, vint y.own, vint 0, vint 0] : List Value).toArray)]) (cells := [vstr y.path, vstr y.data, .slice a8 y.acl.length c8] ++ [vint zx, vint zx, vint zx, vint 0, vint 0, vint 0, vint y.own, vint 0, vint 0]) Tryz.underlying131 (by kernel_rfl) ze_131 rfl (fill_rnode _ _ _ _ _ _ _ _ _ _ _ _ _ _)) ?_
    refine D.ph ?_
    refine Phases.go [] (by (repeat' constructor)) ?_
    refine D.h rfl (by kernel_rfl) (OpSpec.call Tryz.func112 rfl rfl (vs := [_, _]) rfl (rlay2_spec x τ ((y.path, (.slice a8 y.acl.length c8, newN y zx)) : Rn) rfl N ho (by omega))) (by (repeat' constructor)) ?nx76
    rintro v L' ⟨rfl, rfl⟩
    refine D.ph (Phases.fin ?_)
    refine G.rfCast (x := x) (τ' := ({ τ with nodes := sset τ.nodes y.path (newN y zx) } : Tr)) (by (repeat' constructor)) (rfl) ?_
    have hoL := ho.lay (.inr hab) (newN y zx) hfew
    refine G.then_n (G.seq (G.region (G.q (Quiet.move rfl) rfl (G.q (Quiet.move rfl) rfl (G.q (Quiet.fieldAddr rfl fo_37_5) rfl ?_)))))
    refine G.q (Quiet.load rfl ag_3 (by (repeat' constructor)) (rfl)) rfl ?_
    refine G.q (Quiet.move rfl) rfl ?_
    refine G.op (OpSpec.call Tryz.func125 rfl rfl (vs := [_, _, _, _]) rfl (rkid7_spec x ({ τ with nodes := sset τ.nodes y.path (newN y zx) } : Tr) (parentZ y.path) y.num zx (N + 1) hoL (by omega))) (by (repeat' constructor)) rfl ?nx82
    rintro v L' ⟨rfl, rfl⟩
    refine G.nil (G.then_n (G.seq (G.region (G.q (Quiet.move rfl) rfl (G.q (Quiet.fieldAddr rfl fo_37_1) rfl ?_)))))
    refine G.q (Quiet.load rfl ag_9 (by (repeat' constructor)) (rfl)) rfl ?_
    refine G.q (Quiet.move rfl) rfl ?_
    refine G.q (Quiet.build (us := [(0, _), (1, _), (2, _)]) fl_75 ze_75 rfl rfl (by simp [isCell])) rfl ?_
    refine G.q (Quiet.move rfl) rfl (G.q (Quiet.move rfl) rfl ?_)
    refine G.q (Quiet.build (us := [(0, _), (1, _), (2, _)]) fl_75 ze_75 rfl rfl (by simp [isCell])) rfl ?_
    refine G.op (OpSpec.buildSlice (vs := [_, _]) el_30 ze_75 rfl rfl rfl rfl (by first | (simp [Value.cells]; done) | (intro v hv; simp only [List.mem_cons, List.not_mem_nil, or_false] at hv; (repeat (first | (subst hv; rfl) | (rcases hv with hv | hv; (subst hv; rfl)))))) (by decide)) (by (repeat' constructor)) rfl ?nx90
    rintro v L' ⟨bo, rfl, rfl⟩
    refine G.q (Quiet.assign rfl) rfl (G.nil ?_)
    refine G.slMakeN 3 2 (b := bo) (xs := ([(1, (y.path, zx)), (4, (parentZ y.path, zx))] : List Ev).flatMap evC) (by (repeat' constructor)) rfl rfl ?_
    refine G.then_n (G.ret ?_)
    have hc : createZ τ y zx = (kidT ({ τ with nodes := sset τ.nodes y.path (newN y zx) } : Tr) (parentZ y.path) y.num zx, [(1, (y.path, zx)), (4, (parentZ y.path, zx))]) := by unfold createZ; rw [if_pos ⟨hab, hup⟩, if_neg (show ¬ thereT τ y.path from fun g => h28 (place_iff.2 g))]
    refine G.rfCast (x := x) (τ' := (createZ τ y zx).1) (by (repeat' constructor)) (by rw [hc]) ?_
    refine G.slCast (T := 75) (sz := 3) (m' := (createZ τ y zx).2.length) (xs' := (createZ τ y zx).2.flatMap evC) (by (repeat' constructor)) (by (rw [hc]; try rfl)) (by (rw [hc]; try rfl)) ?_
    exact G.done (l := [.tmp 6]) rfl rfl ⟨_, _, by (rw [hc]; try rfl), rfl⟩ (by (repeat' constructor)) (by (repeat' constructor))

set_option maxRecDepth 100000 in
theorem rerase_spec (x : Nat) (τ : Tr) (y : Pt) (zx : Int) (p : HP) (hy : PtA p y) (N : Nat) (ho : τ.Ok N) (hN : N + 1 ≤ 1073741824) : Fn Tryz.prog 104 #[vptr x, .agg (ptC y).toArray, vint zx] [refR x τ] fun v L => ∃ a c, v = .slice a (eraseZ τ y zx).2.length c ∧ L = [refR x (eraseZ τ y zx).1, slR 75 3 v (eraseZ τ y zx).2.length ((eraseZ τ y zx).2.flatMap evC)] := by
 refine Fn.intro (vs := [vptr x, .agg (ptC y).toArray, vint zx]) Tryz.func104 rfl rfl ?_
 intro F W
 have hfew := hy.few
 have hpl := hy.plen
 have hpar := parent_len y.path
 have hof := ho.few
 refine G.seq (G.region ?_)
 refine G.op (OpSpec.box rfl) (by (repeat' constructor)) rfl ?nx1
 rintro v L' ⟨bx, rfl, rfl⟩
 refine G.q (Quiet.assign rfl) rfl (G.nil ?_)
 refine G.ptCast (b := bx) (l' := ptC y) (by (repeat' constructor)) rfl ?_
 refine G.then_n (G.seq (G.region (G.q (Quiet.fieldAddr rfl fo_37_1) rfl ?_)))
 refine G.q (Quiet.load rfl ag_9 (by (repeat' constructor)) (rfl)) rfl ?_
 refine G.op (OpSpec.call Tryz.func118 rfl rfl (vs := [_]) rfl (rable_spec y.path (by omega))) (by (repeat' constructor)) rfl ?nx6
 rintro v L' ⟨rfl, rfl⟩
 refine G.q (Quiet.assign rfl) rfl (G.nil (G.then_n (G.seq (G.seq (G.region (G.q (Quiet.move rfl) rfl (G.q (Quiet.not rfl) rfl (G.nil (G.then_n ?_)))))))))
 refine G.condN rfl (fun h18 => ?_) (fun h18 => ?_)
 ·refine G.seq (G.region (G.q (Quiet.assign rfl) rfl (G.nil (G.then_n (G.ret (G.then_r (G.add (slR_nil 75 3) ?_)))))))
  have hc : eraseZ τ y zx = (τ, []) := by unfold eraseZ; rw [if_neg h18]
  refine G.rfCast (x := x) (τ' := (eraseZ τ y zx).1) (by (repeat' constructor)) (by rw [hc]) ?_
  refine G.slCast (T := 75) (sz := 3) (m' := (eraseZ τ y zx).2.length) (xs' := (eraseZ τ y zx).2.flatMap evC) (by (repeat' constructor)) (by (rw [hc]; try rfl)) (by (rw [hc]; try rfl)) ?_
  exact G.done (l := [.tmp 6]) rfl rfl ⟨_, _, by (rw [hc]; try rfl), rfl⟩ (by (repeat' constructor)) (by (repeat' constructor))
 ·refine G.skip (G.then_n (G.seq (G.region (G.q (Quiet.fieldAddr rfl fo_37_1) rfl ?_))))
  refine G.q (Quiet.load rfl ag_9 (by (repeat' constructor)) (rfl)) rfl ?_
  refine G.op (OpSpec.call Tryz.func51 rfl rfl (vs := [_]) rfl (rparent_spec y.path (by omega))) (by (repeat' constructor)) rfl ?nx12
  rintro v L' ⟨rfl, rfl⟩
  refine G.q (Quiet.assign rfl) rfl (G.nil (G.then_n (G.seq (G.region (G.q (Quiet.move rfl) rfl (G.q (Quiet.fieldAddr rfl fo_37_1) rfl ?_))))))
  refine G.q (Quiet.load rfl ag_9 (by (repeat' constructor)) (rfl)) rfl ?_
  refine G.op (OpSpec.call Tryz.func69 rfl rfl (vs := [_, _]) rfl (rplace_spec x τ y.path (by omega))) (by (repeat' constructor)) rfl ?nx17
  rintro v L' ⟨rfl, rfl⟩
  refine G.q (Quiet.int rfl rfl rfl) rfl (G.q (Quiet.assign rfl) rfl (G.nil (G.then_n (G.seq (G.add (slR_nil 131 12) ?_)))))
  refine G.rfOpen (x := x) (τ := τ) (by (repeat' constructor)) fun an cn as1 cs l hl => ?_
  have hll := nds_len hl
  refine G.region (G.q (Quiet.assign rfl) rfl (G.nil (G.then_n (G.seq (G.seq (G.region (G.q (Quiet.assign rfl) rfl (G.nil (G.then_n (G.block ?_))))))))))
  refine G.loopK (ι := Nat × Value) (fun q E => (11, vint q.1) :: (10, q.2) :: E) (fun q => [rnR q.2 ((l.take q.1).filter fun w => !hitT w.1 y.path)]) (fun q => q.1 ≤ l.length ∧ ∃ a c, q.2 = .slice a ((l.take q.1).filter fun w => !hitT w.1 y.path).length c) (fun q => l.length - q.1) (0, .slice none 0 0) (ts := [0, 2, 4, 6, 8, 9]) (.cons rfl (.cons rfl (.cons rfl (.cons rfl (.cons rfl (.cons rfl (.nil))))))) (⟨Nat.zero_le _, none, 0, rfl⟩) ⟨rfl, rfl, rfl, rfl, rfl, rfl, rfl, rfl, trivial⟩ (by (repeat' constructor)) ?_
  rintro ⟨i, u⟩ ⟨hi, au, cu, hu⟩
  dsimp only
  dsimp only at hi hu
  subst hu
  have hfl := List.length_filter_le (fun w : Rn => !hitT w.1 y.path) (l.take i)
  rw [List.length_take] at hfl
  refine G.seq (G.seq (G.region (G.q (Quiet.move rfl) rfl (G.q (Quiet.move rfl) rfl (G.q (Quiet.nilp rfl) rfl (G.q (Quiet.fieldAddr rfl fo_101_0) rfl ?_))))))
  refine G.q (Quiet.load rfl ag_98 (by (repeat' constructor)) (rfl)) rfl ?_
  refine G.q (Quiet.slen rfl Tryz.underlying98 rfl) rfl (G.q (Quiet.int rfl rfl rfl) rfl (G.nil (G.then_n ?_)))
  refine G.condD rfl (fun h33 => ?_) (fun h33 => ?_)
  ·have hi2 : i < l.length := by omega
   have hpi : l[i].1.length ≤ 60 := by have := nds_get hl hi2; have h2 := able_len (ho.able _ (List.getElem_mem (l := τ.nodes) (n := i) (by omega))); rw [this] at h2; exact h2
   refine G.slShape (T := 131) (sz := 12) (v := .slice an l.length cn) (xs := l.flatMap rnC) (by (repeat' constructor)) (by omega) fun bn bn' e0 mbn _ => ?_
   simp only [Value.slice.injEq, true_and] at e0
   obtain ⟨rfl, rfl⟩ := e0
   refine G.skip (G.then_n (G.seq (G.block (G.seq ?_))))
   refine G.draw [10] [[0, 1, 2, 3, 4, 5, 6, 7, 8, 9, 10], [11]] mixed (by kernel_rfl) ?_
   refine Phases.go [] (by (repeat' constructor)) ?_
   refine D.qw [1, 2, 3, 5, 6, 7, 10] rfl (by kernel_rfl) (Quiet.move rfl) ?_
   refine D.qw [2, 3, 5, 6, 7, 10] rfl (by kernel_rfl) (Quiet.nilp rfl) ?_
   refine D.qw [3, 5, 6, 7, 10] rfl (by kernel_rfl) (Quiet.fieldAddr rfl fo_101_0) ?_
   refine D.qw [5, 6, 7, 10] rfl (by kernel_rfl) (Quiet.load rfl ag_98 (by (repeat' constructor)) (rfl)) ?_
   refine D.qw [5, 6, 7, 10] rfl (by kernel_rfl) (Quiet.move rfl) ?_
   refine D.qw [6, 7, 10] rfl (by kernel_rfl) (Quiet.indexAddr rfl rfl el_98 (by omega)) ?_
   refine D.qw [7, 10] rfl (by kernel_rfl) (Quiet.fieldAddr rfl fo_131_0) ?_
   refine D.qw [10] rfl (by kernel_rfl) (Quiet.loadRd (sz := 12) (j := i * 12 + 0) (p := rnR _ l) rfl ag_9 (by (repeat' constructor)) (fun h hp => slR_rd hp) (by omega) ((rn_cell (l := l) (i := i) (k := 0) (by omega) (by decide)).trans rfl)) ?_
   refine D.qw [9, 10] rfl (by kernel_rfl) (Quiet.fieldAddr rfl fo_37_1) ?_
   refine D.qw [10] rfl (by kernel_rfl) (Quiet.load rfl ag_9 (by (repeat' constructor)) (rfl)) ?_
   refine D.h rfl (by kernel_rfl) (OpSpec.call Tryz.func126 rfl rfl (vs := [_, _]) rfl (runder_spec l[i].1 y.path (by omega))) (by (repeat' constructor)) ?nx39
   rintro v L' ⟨rfl, rfl⟩
   refine D.ph ?_
   refine Phases.go [] (by (repeat' constructor)) ?_
   refine D.qw [] rfl (by kernel_rfl) (Quiet.assign rfl) ?_
   refine D.ph (Phases.fin (G.then_n (G.seq ?_)))
   refine G.draw [] [[0, 1, 2, 3, 4, 5, 6, 7, 8, 9, 10, 11, 12, 13, 14]] mixed (by kernel_rfl) ?_
   refine Phases.go [] (by (repeat' constructor)) ?_
   refine D.qw [1, 2, 3, 5, 6, 7, 10, 11, 12, 13, 14] rfl (by kernel_rfl) (Quiet.move rfl) ?_
   refine D.qw [2, 3, 5, 6, 7, 10, 11, 12, 13, 14] rfl (by kernel_rfl) (Quiet.nilp rfl) ?_
   refine D.qw [3, 5, 6, 7, 10, 11, 12, 13, 14] rfl (by kernel_rfl) (Quiet.fieldAddr rfl fo_101_0) ?_
   refine D.qw [5, 6, 7, 10, 11, 12, 13, 14] rfl (by kernel_rfl) (Quiet.load rfl ag_98 (by (repeat' constructor)) (rfl)) ?_
   refine D.qw [5, 6, 7, 10, 11, 12, 13, 14] rfl (by kernel_rfl) (Quiet.move rfl) ?_
   refine D.qw [6, 7, 10, 11, 12, 13, 14] rfl (by kernel_rfl) (Quiet.indexAddr rfl rfl el_98 (by omega)) ?_
   refine D.qw [7, 10, 11, 12, 13, 14] rfl (by kernel_rfl) (Quiet.fieldAddr rfl fo_131_0) ?_
   refine D.qw [10, 11, 12, 13, 14] rfl (by kernel_rfl) (Quiet.loadRd (sz := 12) (j := i * 12 + 0) (p := rnR _ l) rfl ag_9 (by (repeat' constructor)) (fun h hp => slR_rd hp) (by omega) ((rn_cell (l := l) (i := i) (k := 0) (by omega) (by decide)).trans rfl)) ?_
   refine D.qw [9, 10, 11, 12, 13, 14] rfl (by kernel_rfl) (Quiet.fieldAddr rfl fo_37_1) ?_
   refine D.qw [10, 11, 12, 13, 14] rfl (by kernel_rfl) (Quiet.load rfl ag_9 (by (repeat' constructor)) (rfl)) ?_
   refine D.qw [11, 12, 13, 14] rfl (by kernel_rfl) (Quiet.strne rfl rfl) ?_
   refine D.qw [12, 13, 14] rfl (by kernel_rfl) (Quiet.move rfl) ?_
   refine D.ndec (t := 58) rfl (fun h11_58 => ?_) (fun h11_58 => ?_)
   ·refine D.kNT (t := 57) rfl h11_58 ?_
    refine D.gqw [13, 14] (t := 58) rfl rfl rfl (by kernel_rfl) (Quiet.move rfl) ?_
    refine D.gqw [14] (t := 58) rfl rfl rfl (by kernel_rfl) (Quiet.not rfl) ?_
    refine D.qw [] rfl (by kernel_rfl) (Quiet.pickT rfl rfl) ?_
    refine D.ph (Phases.fin (G.then_n ?_))
    refine G.condN rfl (fun h61 => ?_) (fun h61 => ?_)
    ·have hhit : hitT l[i].1 y.path = false := by unfold hitT; rw [decide_eq_false h11_58, decide_eq_false h61]; rfl
     refine G.aclShape (l := l) (i := i) hi2 (by (repeat' constructor)) fun hcl => ?_
     refine G.region (G.q (Quiet.move rfl) rfl (G.q (Quiet.move rfl) rfl (G.q (Quiet.nilp rfl) rfl (G.q (Quiet.fieldAddr rfl fo_101_0) rfl ?_))))
     refine G.q (Quiet.load rfl ag_98 (by (repeat' constructor)) (rfl)) rfl ?_
     refine G.q (Quiet.move rfl) rfl ?_
     refine G.q (Quiet.indexAddr rfl rfl el_98 (by omega)) rfl ?_
     refine G.q (Quiet.loadRdA (sz := 12) (j := i * 12) (k := 12) (p := rnR _ l) (vs := rnC l[i]) rfl ag_131 (by (repeat' constructor)) (fun h hp => slR_rd hp) (by omega) (by omega) (by omega) (flatMap_at (f := rnC) (sz := 12) (fun _ _ => rfl) (by omega))) rfl ?_
     refine G.op (OpSpec.buildSlice (vs := [_]) el_98 ze_131 rfl rfl rfl rfl (by first | (simp [Value.cells]; done) | (intro v hv; simp only [List.mem_cons, List.not_mem_nil, or_false] at hv; (repeat (first | (subst hv; rfl) | (rcases hv with hv | hv; (subst hv; rfl)))))) (by decide)) (by (repeat' constructor)) rfl ?nx61
     rintro v L' ⟨b12_8, rfl, rfl⟩
     refine G.op (OpSpec.append1 rfl rfl rfl el_98 ze_131 rfl rfl ?c63 ?c64 (Nat.le_refl _) ?c65 (by decide)) (by (repeat' constructor)) rfl ?nx66
     case c63 => first | exact rn_cells hcl | (simp only [List.map_cons, List.map_nil, List.flatten_cons, List.flatten_nil, List.append_nil]; exact rn_cells hcl)
     case c64 => rfl
     case c65 => first | omega | (simp; omega)
     rintro v L' ⟨⟨a12_9, c12_9, rfl⟩, rfl⟩
     refine G.q (Quiet.assign rfl) rfl (G.nil (G.blk_n (G.then_n (G.region (G.q (Quiet.move rfl) rfl ?_)))))
     refine G.q (Quiet.add rfl rfl (by omega)) rfl ?_
     refine G.q (Quiet.assign rfl) rfl (G.nil (G.then_n ?_))
     have hst : ((l.take (i + 1)).filter fun w => !hitT w.1 y.path) = ((l.take i).filter fun w => !hitT w.1 y.path) ++ [l[i]] := by rw [List.take_succ_eq_append_getElem hi2, List.filter_append]; simp [hhit]
     rw [show ((l.take i).filter fun w => !hitT w.1 y.path).length + 1 = ((l.take (i + 1)).filter fun w => !hitT w.1 y.path).length by rw [hst, List.length_append]; rfl]
     refine G.slCast (T := 131) (sz := 12) (m' := ((l.take (i + 1)).filter fun w => !hitT w.1 y.path).length) (xs' := ((l.take (i + 1)).filter fun w => !hitT w.1 y.path).flatMap rnC) (by (repeat' constructor)) rfl (by rw [hst, List.flatMap_append]; simp; rfl) ?_
     exact G.roundK ((i + 1, .slice a12_9 ((l.take (i + 1)).filter fun w => !hitT w.1 y.path).length c12_9)) (⟨by dsimp only; omega, _, _, rfl⟩) (by dsimp only; omega) ⟨rfl, rfl, rfl, rfl, rfl, rfl, rfl, rfl, trivial⟩ (by (repeat' constructor)) (by ((repeat (apply Have.cons; (repeat (first | exact Pick.here | apply Pick.there)))); apply Have.base; repeat' constructor))
    ·refine G.skip (G.blk_n (G.then_n (G.region (G.q (Quiet.move rfl) rfl ?_))))
     refine G.q (Quiet.add rfl rfl (by omega)) rfl ?_
     refine G.q (Quiet.assign rfl) rfl (G.nil (G.then_n ?_))
     have hhit : hitT l[i].1 y.path = true := by unfold hitT; rw [decide_eq_true (p := underZ l[i].1 y.path) (by simpa using h61), Bool.or_true]
     have hst : ((l.take (i + 1)).filter fun w => !hitT w.1 y.path) = ((l.take i).filter fun w => !hitT w.1 y.path) := by rw [List.take_succ_eq_append_getElem hi2, List.filter_append]; simp [hhit]
     rw [← hst]
     exact G.roundK ((i + 1, .slice au ((l.take (i + 1)).filter fun w => !hitT w.1 y.path).length cu)) (⟨by dsimp only; omega, _, _, rfl⟩) (by dsimp only; omega) ⟨rfl, rfl, rfl, rfl, rfl, rfl, rfl, rfl, trivial⟩ (by (repeat' constructor)) (by ((repeat (apply Have.cons; (repeat (first | exact Pick.here | apply Pick.there)))); apply Have.base; repeat' constructor))
   ·refine D.kNF (t := 57) rfl h11_58 ?_
    refine D.gs (t := 58) rfl rfl rfl rfl (by kernel_rfl) ?_
    refine D.gs (t := 58) rfl rfl rfl rfl (by kernel_rfl) ?_
    refine D.qw [] rfl (by kernel_rfl) (Quiet.pickF rfl rfl) ?_
    refine D.ph (Phases.fin (G.then_n (G.condF rfl (G.skip (G.blk_n (G.then_n (G.region (G.q (Quiet.move rfl) rfl ?_))))))))
    refine G.q (Quiet.add rfl rfl (by omega)) rfl ?_
    refine G.q (Quiet.assign rfl) rfl (G.nil (G.then_n ?_))
    have hhit : hitT l[i].1 y.path = true := by unfold hitT; rw [decide_eq_true h11_58]; rfl
    have hst : ((l.take (i + 1)).filter fun w => !hitT w.1 y.path) = ((l.take i).filter fun w => !hitT w.1 y.path) := by rw [List.take_succ_eq_append_getElem hi2, List.filter_append]; simp [hhit]
    rw [← hst]
    exact G.roundK ((i + 1, .slice au ((l.take (i + 1)).filter fun w => !hitT w.1 y.path).length cu)) (⟨by dsimp only; omega, _, _, rfl⟩) (by dsimp only; omega) ⟨rfl, rfl, rfl, rfl, rfl, rfl, rfl, rfl, trivial⟩ (by (repeat' constructor)) (by ((repeat (apply Have.cons; (repeat (first | exact Pick.here | apply Pick.there)))); apply Have.base; repeat' constructor))
  ·have hii : i = l.length := by omega
   subst hii
   rw [List.take_length]
   refine G.exit (G.then_e (G.then_e (G.blk_e (G.then_n (G.seq (G.region (G.q (Quiet.move rfl) rfl (G.q (Quiet.move rfl) rfl (G.q (Quiet.nilp rfl) rfl (G.q (Quiet.fieldAddr rfl fo_101_0) rfl ?_))))))))))
   refine G.op (OpSpec.store rfl rfl rfl sz_98 ?c79 ?c80) (by (repeat' constructor)) rfl ?nx81
   case c79 => first | decide | (simp; omega) | simp
   case c80 => exact nfz0 _ _
   rintro v L' rfl
   refine G.nil ?_
   refine G.bigSub (l := (l.filter fun w => !hitT w.1 y.path)) List.filter_sublist (by (repeat' constructor)) ?_
   refine G.rfFold (x := x) (τ := (cutT τ y.path)) (l := (l.filter fun w => !hitT w.1 y.path)) (by rw [nds_filter (fun q => !hitT q y.path), hl]; rfl) (by (repeat' constructor)) rfl rfl rfl rfl rfl ?_
   refine G.then_n (G.seq (G.region (G.q (Quiet.move rfl) rfl (G.q (Quiet.move rfl) rfl (G.q (Quiet.fieldAddr rfl fo_37_5) rfl ?_)))))
   refine G.q (Quiet.load rfl ag_3 (by (repeat' constructor)) (rfl)) rfl ?_
   refine G.q (Quiet.move rfl) rfl ?_
   refine G.op (OpSpec.call Tryz.func125 rfl rfl (vs := [_, _, _, _]) rfl (rkid7_spec x (cutT τ y.path) (parentZ y.path) y.num zx N (ho.cut y.path) (by omega))) (by (repeat' constructor)) rfl ?nx87
   rintro v L' ⟨rfl, rfl⟩; have hoK := (ho.cut y.path).kid (parentZ y.path) y.num zx; have hofk := hoK.few
   refine G.nil (G.then_n (G.seq (G.seq (G.region (G.q (Quiet.move rfl) rfl (G.q (Quiet.not rfl) rfl (G.nil (G.then_n ?_))))))))
   refine G.condN rfl (fun h83 => ?_) (fun h83 => ?_)
   ·have hth : ¬ thereT τ y.path := fun g => h83 (place_iff.2 g)
    refine G.seq (G.region (G.q (Quiet.assign rfl) rfl (G.nil (G.then_n (G.ret (G.then_r (G.add (slR_nil 75 3) ?_)))))))
    have hc : eraseZ τ y zx = ((kidT (cutT τ y.path) (parentZ y.path) y.num zx), []) := by unfold eraseZ; rw [if_pos h18, if_neg hth]
    refine G.rfCast (x := x) (τ' := (eraseZ τ y zx).1) (by (repeat' constructor)) (by rw [hc]) ?_
    refine G.slCast (T := 75) (sz := 3) (m' := (eraseZ τ y zx).2.length) (xs' := (eraseZ τ y zx).2.flatMap evC) (by (repeat' constructor)) (by (rw [hc]; try rfl)) (by (rw [hc]; try rfl)) ?_
    exact G.done (l := [.tmp 6]) rfl rfl ⟨_, _, by (rw [hc]; try rfl), rfl⟩ (by (repeat' constructor)) (by (repeat' constructor))
   ·have hth : thereT τ y.path := place_iff.1 h83
    refine G.skip (G.then_n (G.seq (G.region (G.q (Quiet.fieldAddr rfl fo_37_1) rfl ?_))))
    refine G.q (Quiet.load rfl ag_9 (by (repeat' constructor)) (rfl)) rfl ?_
    refine G.q (Quiet.move rfl) rfl ?_
    refine G.q (Quiet.build (us := [(0, _), (1, _), (2, _)]) fl_75 ze_75 rfl rfl (by simp [isCell])) rfl ?_
    refine G.op (OpSpec.buildSlice (vs := [_]) el_30 ze_75 rfl rfl rfl rfl (by first | (simp [Value.cells]; done) | (intro v hv; simp only [List.mem_cons, List.not_mem_nil, or_false] at hv; (repeat (first | (subst hv; rfl) | (rcases hv with hv | hv; (subst hv; rfl)))))) (by decide)) (by (repeat' constructor)) rfl ?nx96
    rintro v L' ⟨bo, rfl, rfl⟩
    refine G.q (Quiet.assign rfl) rfl (G.nil ?_)
    refine G.slMakeN 3 1 (b := bo) (xs := ([(2, (y.path, zx))] : List Ev).flatMap evC) (by (repeat' constructor)) rfl rfl ?_
    refine G.then_n (G.seq (G.seq (G.region (G.q (Quiet.move rfl) rfl (G.q (Quiet.move rfl) rfl ?_)))))
    refine G.op (OpSpec.call Tryz.func69 rfl rfl (vs := [_, _]) rfl (rplace_spec x (kidT (cutT τ y.path) (parentZ y.path) y.num zx) (parentZ y.path) (by omega))) (by (repeat' constructor)) rfl ?nx100
    rintro v L' ⟨rfl, rfl⟩
    refine G.q (Quiet.int rfl rfl rfl) rfl (G.nil (G.then_n ?_))
    refine G.condD rfl (fun h92 => ?_) (fun h92 => ?_)
    ·refine G.region (G.q (Quiet.move rfl) rfl (G.q (Quiet.move rfl) rfl (G.q (Quiet.move rfl) rfl ?_)))
     refine G.q (Quiet.build (us := [(0, _), (1, _), (2, _)]) fl_75 ze_75 rfl rfl (by simp [isCell])) rfl ?_
     refine G.op (OpSpec.buildSlice (vs := [_]) el_30 ze_75 rfl rfl rfl rfl (by first | (simp [Value.cells]; done) | (intro v hv; simp only [List.mem_cons, List.not_mem_nil, or_false] at hv; (repeat (first | (subst hv; rfl) | (rcases hv with hv | hv; (subst hv; rfl)))))) (by decide)) (by (repeat' constructor)) rfl ?nx106
     rintro v L' ⟨b19_4, rfl, rfl⟩
     refine G.op (OpSpec.append1 rfl rfl rfl el_30 ze_75 rfl rfl ?c108 ?c109 (Nat.le_refl _) ?c110 (by decide)) (by (repeat' constructor)) rfl ?nx111
     case c108 => (first | (simp [isCell]; done) | (simp [isCell, setAll, Value.cells]; done))
     case c109 => rfl
     case c110 => omega
     rintro v L' ⟨⟨a19_5, c19_5, rfl⟩, rfl⟩
     refine G.q (Quiet.assign rfl) rfl (G.nil (G.then_n (G.seq (G.region (G.q (Quiet.move rfl) rfl (G.q (Quiet.assign rfl) rfl (G.nil (G.then_n (G.ret ?_)))))))))
     have hc : eraseZ τ y zx = ((kidT (cutT τ y.path) (parentZ y.path) y.num zx), [(2, (y.path, zx)), (4, (parentZ y.path, zx))]) := by unfold eraseZ; rw [if_pos h18, if_pos hth, if_pos (show thereT (cutT τ y.path) (parentZ y.path) from kid_there.1 (place_iff.1 h92))]
     refine G.rfCast (x := x) (τ' := (eraseZ τ y zx).1) (by (repeat' constructor)) (by rw [hc]) ?_
     refine G.slCast (T := 75) (sz := 3) (m' := (eraseZ τ y zx).2.length) (xs' := (eraseZ τ y zx).2.flatMap evC) (by (repeat' constructor)) (by (rw [hc]; try rfl)) (by (rw [hc]; try rfl)) ?_
     exact G.done (l := [.tmp 6]) rfl rfl ⟨_, _, by (rw [hc]; try rfl), rfl⟩ (by (repeat' constructor)) (by (repeat' constructor))
    ·refine G.skip (G.then_n (G.seq (G.region (G.q (Quiet.move rfl) rfl (G.q (Quiet.assign rfl) rfl (G.nil (G.then_n (G.ret ?_))))))))
     have hc : eraseZ τ y zx = ((kidT (cutT τ y.path) (parentZ y.path) y.num zx), [(2, (y.path, zx))]) := by unfold eraseZ; rw [if_pos h18, if_pos hth, if_neg (show ¬ thereT (cutT τ y.path) (parentZ y.path) from fun g => h92 (place_iff.2 (kid_there.2 g)))]
     refine G.rfCast (x := x) (τ' := (eraseZ τ y zx).1) (by (repeat' constructor)) (by rw [hc]) ?_
     refine G.slCast (T := 75) (sz := 3) (m' := (eraseZ τ y zx).2.length) (xs' := (eraseZ τ y zx).2.flatMap evC) (by (repeat' constructor)) (by (rw [hc]; try rfl)) (by (rw [hc]; try rfl)) ?_
     exact G.done (l := [.tmp 6]) rfl rfl ⟨_, _, by (rw [hc]; try rfl), rfl⟩ (by (repeat' constructor)) (by (repeat' constructor))

end Go.Proofs.YtnnbelmpbmfdnaaGreatDoor

/- Own work, by program: the document's tree: parts, sessions, entries: walked. -/

namespace Go.Proofs.YtnnbelmpbmfdnaaGreatDoor
open Go
set_option maxRecDepth 100000 in
theorem rpart_spec (x : Nat) (τ : Tr) (y : Pt) (zx : Int) (p : HP) (hy : PtA p y) (N : Nat) (ho : τ.Ok N) (hN : N + 1 ≤ 1073741824) : Fn Tryz.prog 60 #[vptr x, .agg (ptC y).toArray, vint zx] [refR x τ, p] fun v L => ∃ a c, v = .slice a (partZ τ y zx).2.length c ∧ L = [refR x (partZ τ y zx).1, p, slR 75 3 v (partZ τ y zx).2.length ((partZ τ y zx).2.flatMap evC)] := by
 refine Fn.intro (vs := [vptr x, .agg (ptC y).toArray, vint zx]) Tryz.func60 rfl rfl ?_
 intro F W
 have hfew := hy.few
 have hpl := hy.plen
 have hof := ho.few
 have hnd := ho.sorted.nodup linB
 refine G.seq (G.region ?_)
 refine G.op (OpSpec.box rfl) (by (repeat' constructor)) rfl ?nx1
 rintro v L' ⟨bx, rfl, rfl⟩
 refine G.q (Quiet.assign rfl) rfl (G.nil ?_)
 refine G.ptCast (b := bx) (l' := ptC y) (by (repeat' constructor)) rfl ?_
 refine G.then_n (G.seq (G.region (G.q (Quiet.move rfl) rfl (G.q (Quiet.fieldAddr rfl fo_37_1) rfl ?_))))
 refine G.q (Quiet.load rfl ag_9 (by (repeat' constructor)) (rfl)) rfl ?_
 refine G.op (OpSpec.call Tryz.func69 rfl rfl (vs := [_, _]) rfl (rplace_spec x τ y.path (by omega))) (by (repeat' constructor)) rfl ?nx7
 rintro v L' ⟨rfl, rfl⟩
 refine G.q (Quiet.assign rfl) rfl (G.nil (G.then_n (G.seq (G.seq (G.region (G.q (Quiet.fieldAddr rfl fo_37_0) rfl ?_))))))
 refine G.q (Quiet.load rfl ag_3 (by (repeat' constructor)) (rfl)) rfl ?_
 refine G.nil (G.then_n (G.block (G.seq (G.region (G.q (Quiet.int rfl rfl rfl) rfl (G.q (Quiet.assign rfl) rfl (G.nil (G.then_n ?_))))))))
 refine G.condD rfl (fun h14 => ?_) (fun h14 => ?_)
 ·refine G.seq (G.region (G.q (Quiet.move rfl) rfl ?_))
  refine G.q (Quiet.loadAs (vs := ptC y) rfl ag_37 (by (repeat' constructor)) (by simp [ptC]) rfl) rfl ?_
  refine G.q (Quiet.move rfl) rfl ?_
  refine G.op (OpSpec.call Tryz.func103 rfl rfl (vs := [_, _, _]) rfl (rcreate_spec x τ y zx p hy N ho hN)) (by (repeat' constructor)) rfl ?nx15
  rintro v L' ⟨a4, c4, rfl, rfl⟩
  refine G.q (Quiet.assign rfl) rfl (G.nil (G.then_n (G.ret (G.blk_r (G.then_r ?_)))))
  have hc : partZ τ y zx = createZ τ y zx := by unfold partZ; rw [if_pos h14]
  refine G.rfCast (x := x) (τ' := (partZ τ y zx).1) (by (repeat' constructor)) (by rw [hc]) ?_
  refine G.slCast (T := 75) (sz := 3) (m' := (partZ τ y zx).2.length) (xs' := (partZ τ y zx).2.flatMap evC) (by (repeat' constructor)) (by (rw [hc]; try rfl)) (by (rw [hc]; try rfl)) ?_
  exact G.done (l := [.tmp 6]) rfl rfl ⟨_, _, by (rw [hc]; try rfl), rfl⟩ (by (repeat' constructor)) (by (repeat' constructor))
 ·refine G.seq (G.region (G.q (Quiet.int rfl rfl rfl) rfl (G.q (Quiet.assign rfl) rfl (G.nil (G.then_n ?_)))))
  refine G.condD rfl (fun h20 => ?_) (fun h20 => ?_)
  ·refine G.seq (G.region (G.q (Quiet.move rfl) rfl ?_))
   refine G.q (Quiet.loadAs (vs := ptC y) rfl ag_37 (by (repeat' constructor)) (by simp [ptC]) rfl) rfl ?_
   refine G.q (Quiet.move rfl) rfl ?_
   refine G.op (OpSpec.call Tryz.func104 rfl rfl (vs := [_, _, _]) rfl (rerase_spec x τ y zx p hy N ho hN)) (by (repeat' constructor)) rfl ?nx21
   rintro v L' ⟨a6, c6, rfl, rfl⟩
   refine G.q (Quiet.assign rfl) rfl (G.nil (G.then_n (G.ret (G.blk_r (G.then_r ?_)))))
   have hc : partZ τ y zx = eraseZ τ y zx := by unfold partZ; rw [if_neg h14, if_pos h20]
   refine G.rfCast (x := x) (τ' := (partZ τ y zx).1) (by (repeat' constructor)) (by rw [hc]) ?_
   refine G.slCast (T := 75) (sz := 3) (m' := (partZ τ y zx).2.length) (xs' := (partZ τ y zx).2.flatMap evC) (by (repeat' constructor)) (by (rw [hc]; try rfl)) (by (rw [hc]; try rfl)) ?_
   exact G.done (l := [.tmp 6]) rfl rfl ⟨_, _, by (rw [hc]; try rfl), rfl⟩ (by (repeat' constructor)) (by (repeat' constructor))
  ·refine G.seq (G.region (G.q (Quiet.int rfl rfl rfl) rfl (G.q (Quiet.assign rfl) rfl (G.nil (G.then_n ?_)))))
   refine G.condD rfl (fun h26 => ?_) (fun h26 => ?_)
   ·refine G.seq (G.region (G.q (Quiet.move rfl) rfl (G.q (Quiet.int rfl rfl rfl) rfl (G.nil (G.then_n ?_)))))
    refine G.condD rfl (fun h29 => ?_) (fun h29 => ?_)
    ·obtain ⟨k, hk, hpk, hkp⟩ := place_get (l := τ.nodes) h29
     have hpz : placeZ τ y.path = k := hpk
     rw [hpz]
     refine G.rfOpen (x := x) (τ := τ) (by (repeat' constructor)) fun an cn as1 cs l hl => ?_
     have hll := nds_len hl
     have hkl : k < l.length := by omega
     have hlk : l[k].1 = y.path := by have := nds_get hl hkl; rw [← hkp]; simp only [this]
     refine G.slShape (T := 131) (sz := 12) (v := .slice an l.length cn) (xs := l.flatMap rnC) (by (repeat' constructor)) (by omega) fun bn bn' e0 mbn _ => ?_
     simp only [Value.slice.injEq, true_and] at e0
     obtain ⟨rfl, rfl⟩ := e0
     refine G.seq ?_
     refine G.draw [9] [[0, 1, 2, 3, 4, 5, 6, 7, 8, 9]] mixed (by kernel_rfl) ?_
     refine Phases.go [] (by (repeat' constructor)) ?_
     refine D.qw [1, 2, 3, 7, 8, 9] rfl (by kernel_rfl) (Quiet.move rfl) ?_
     refine D.qw [2, 3, 7, 8, 9] rfl (by kernel_rfl) (Quiet.nilp rfl) ?_
     refine D.qw [3, 7, 8, 9] rfl (by kernel_rfl) (Quiet.fieldAddr rfl fo_101_0) ?_
     refine D.qw [7, 8, 9] rfl (by kernel_rfl) (Quiet.load rfl ag_98 (by (repeat' constructor)) (rfl)) ?_
     refine D.qw [7, 8, 9] rfl (by kernel_rfl) (Quiet.move rfl) ?_
     refine D.qw [6, 7, 8, 9] rfl (by kernel_rfl) (Quiet.fieldAddr rfl fo_37_2) ?_
     refine D.qw [7, 8, 9] rfl (by kernel_rfl) (Quiet.load rfl ag_9 (by (repeat' constructor)) (rfl)) ?_
     refine D.qw [8, 9] rfl (by kernel_rfl) (Quiet.indexAddr rfl rfl el_98 (by omega)) ?_
     refine D.qw [9] rfl (by kernel_rfl) (Quiet.fieldAddr rfl fo_131_1) ?_
     refine D.h rfl (by kernel_rfl) (OpSpec.storeRd (sz := 12) (j := k * 12 + 1) rfl rfl ?hv33 sz_9 ?ho34 ?hi35) (by (repeat' constructor)) ?nx36
     case hv33 => first | rfl | assumption
     case ho34 => omega
     case hi35 => omega
     rintro v L' rfl
     refine D.ph (Phases.fin ?_)
     refine G.slCast (T := 131) (sz := 12) (m' := l.length) (xs' := (l.set k (l[k].1, (l[k].2.1, { l[k].2.2 with data := y.data }))).flatMap rnC) (by (repeat' constructor)) rfl (flatMap_set (f := rnC) (sz := 12) (fun _ => rfl) (by simpa using hkl) (by decide) (by rfl)) ?_
     refine G.then_n (G.seq ?_)
     refine G.draw [10] [[0, 1, 2, 3, 4, 5, 6, 7, 8, 9, 10]] mixed (by kernel_rfl) ?_
     refine Phases.go [] (by (repeat' constructor)) ?_
     refine D.qw [1, 2, 3, 7, 8, 9, 10] rfl (by kernel_rfl) (Quiet.move rfl) ?_
     refine D.qw [2, 3, 7, 8, 9, 10] rfl (by kernel_rfl) (Quiet.nilp rfl) ?_
     refine D.qw [3, 7, 8, 9, 10] rfl (by kernel_rfl) (Quiet.fieldAddr rfl fo_101_0) ?_
     refine D.qw [7, 8, 9, 10] rfl (by kernel_rfl) (Quiet.load rfl ag_98 (by (repeat' constructor)) (rfl)) ?_
     refine D.qw [7, 8, 9, 10] rfl (by kernel_rfl) (Quiet.move rfl) ?_
     refine D.qw [6, 7, 8, 9, 10] rfl (by kernel_rfl) (Quiet.fieldAddr rfl fo_37_5) ?_
     refine D.qw [7, 8, 9, 10] rfl (by kernel_rfl) (Quiet.load rfl ag_3 (by (repeat' constructor)) (rfl)) ?_
     refine D.qw [8, 9, 10] rfl (by kernel_rfl) (Quiet.indexAddr rfl rfl el_98 (by omega)) ?_
     refine D.qw [9, 10] rfl (by kernel_rfl) (Quiet.fieldAddr rfl fo_131_3) ?_
     refine D.qw [10] rfl (by kernel_rfl) (Quiet.fieldAddr rfl fo_43_3) ?_
     refine D.h rfl (by kernel_rfl) (OpSpec.storeRd (sz := 12) (j := k * 12 + 6) rfl rfl ?hv46 sz_3 ?ho47 ?hi48) (by (repeat' constructor)) ?nx49
     case hv46 => first | rfl | assumption
     case ho47 => omega
     case hi48 => omega
     rintro v L' rfl
     refine D.ph (Phases.fin ?_)
     refine G.slCast (T := 131) (sz := 12) (m' := l.length) (xs' := ((l.set k (l[k].1, (l[k].2.1, { l[k].2.2 with data := y.data }))).set k (l[k].1, (l[k].2.1, { l[k].2.2 with data := y.data, st := { l[k].2.2.st with ver := y.num } }))).flatMap rnC) (by (repeat' constructor)) rfl (flatMap_set (f := rnC) (sz := 12) (fun _ => rfl) (by simpa using hkl) (by decide) (by rw [List.getElem_set_self]; rfl)) ?_
     rw [List.set_set]
     refine G.then_n (G.seq (G.region (G.q (Quiet.move rfl) rfl (G.q (Quiet.nilp rfl) rfl (G.q (Quiet.fieldAddr rfl fo_101_0) rfl ?_)))))
     refine G.q (Quiet.load rfl ag_98 (by (repeat' constructor)) (rfl)) rfl ?_
     refine G.q (Quiet.move rfl) rfl (G.q (Quiet.move rfl) rfl ?_)
     refine G.q (Quiet.indexAddr rfl rfl el_98 (by omega)) rfl ?_
     refine G.q (Quiet.fieldAddr rfl fo_131_3) rfl (G.q (Quiet.fieldAddr rfl fo_43_1) rfl ?_)
     refine G.op (OpSpec.storeRd (sz := 12) (j := k * 12 + 4) rfl rfl ?hv58 sz_3 ?ho59 ?hi60) (by (repeat' constructor)) rfl ?nx61
     case hv58 => first | rfl | assumption
     case ho59 => omega
     case hi60 => omega
     rintro v L' rfl
     refine G.nil ?_
     refine G.slCast (T := 131) (sz := 12) (m' := l.length) (xs' := ((l.set k (l[k].1, (l[k].2.1, { l[k].2.2 with data := y.data, st := { l[k].2.2.st with ver := y.num } }))).set k (l[k].1, (l[k].2.1, setN y.data y.num zx l[k].2.2))).flatMap rnC) (by (repeat' constructor)) rfl (flatMap_set (f := rnC) (sz := 12) (fun _ => rfl) (by simpa using hkl) (by decide) (by rw [List.getElem_set_self]; rfl)) ?_
     rw [List.set_set]
     refine G.bigSet (y := (l[k].1, (l[k].2.1, setN y.data y.num zx l[k].2.2))) hkl (by rfl) (by (repeat' constructor)) ?_
     refine G.rfFold (x := x) (τ := ({ τ with nodes := amod τ.nodes y.path (setN y.data y.num zx) } : Tr)) (l := (l.set k (l[k].1, (l[k].2.1, setN y.data y.num zx l[k].2.2)))) (nds_mod hl hnd hkl hlk (setN y.data y.num zx) rfl) (by (repeat' constructor)) rfl (by simp) rfl rfl rfl ?_
     refine G.then_n (G.seq (G.region (G.q (Quiet.fieldAddr rfl fo_37_1) rfl ?_)))
     refine G.q (Quiet.load rfl ag_9 (by (repeat' constructor)) (rfl)) rfl ?_
     refine G.q (Quiet.move rfl) rfl ?_
     refine G.q (Quiet.build (us := [(0, _), (1, _), (2, _)]) fl_75 ze_75 rfl rfl (by simp [isCell])) rfl ?_
     refine G.op (OpSpec.buildSlice (vs := [_]) el_30 ze_75 rfl rfl rfl rfl (by first | (simp [Value.cells]; done) | (intro v hv; simp only [List.mem_cons, List.not_mem_nil, or_false] at hv; (repeat (first | (subst hv; rfl) | (rcases hv with hv | hv; (subst hv; rfl)))))) (by decide)) (by (repeat' constructor)) rfl ?nx66
     rintro v L' ⟨bo, rfl, rfl⟩
     refine G.q (Quiet.assign rfl) rfl (G.nil ?_)
     refine G.slMakeN 3 1 (b := bo) (xs := ([(3, (y.path, zx))] : List Ev).flatMap evC) (by (repeat' constructor)) rfl rfl ?_
     refine G.then_n (G.ret (G.blk_r (G.then_r ?_)))
     have hc : partZ τ y zx = (({ τ with nodes := amod τ.nodes y.path (setN y.data y.num zx) } : Tr), [(3, (y.path, zx))]) := by unfold partZ; rw [if_neg h14, if_neg h20, if_pos ⟨h26, place_iff.1 h29⟩]
     refine G.rfCast (x := x) (τ' := (partZ τ y zx).1) (by (repeat' constructor)) (by rw [hc]) ?_
     refine G.slCast (T := 75) (sz := 3) (m' := (partZ τ y zx).2.length) (xs' := (partZ τ y zx).2.flatMap evC) (by (repeat' constructor)) (by (rw [hc]; try rfl)) (by (rw [hc]; try rfl)) ?_
     exact G.done (l := [.tmp 6]) rfl rfl ⟨_, _, by (rw [hc]; try rfl), rfl⟩ (by (repeat' constructor)) (by (repeat' constructor))
    ·refine G.skip (G.blk_n (G.then_n (G.seq (G.region (G.q (Quiet.assign rfl) rfl (G.nil (G.then_n (G.ret (G.add (slR_nil 75 3) ?_)))))))))
     have hc : partZ τ y zx = (τ, []) := by unfold partZ; rw [if_neg h14, if_neg h20, if_neg (fun g => h29 (place_iff.2 g.2)), if_neg (fun g => h29 (place_iff.2 g.2))]
     refine G.rfCast (x := x) (τ' := (partZ τ y zx).1) (by (repeat' constructor)) (by rw [hc]) ?_
     refine G.slCast (T := 75) (sz := 3) (m' := (partZ τ y zx).2.length) (xs' := (partZ τ y zx).2.flatMap evC) (by (repeat' constructor)) (by (rw [hc]; try rfl)) (by (rw [hc]; try rfl)) ?_
     exact G.done (l := [.tmp 6]) rfl rfl ⟨_, _, by (rw [hc]; try rfl), rfl⟩ (by (repeat' constructor)) (by (repeat' constructor))
   ·refine G.seq (G.region (G.q (Quiet.int rfl rfl rfl) rfl (G.q (Quiet.assign rfl) rfl (G.nil (G.then_n ?_)))))
    refine G.condD rfl (fun h63 => ?_) (fun h63 => ?_)
    ·refine G.seq (G.region (G.q (Quiet.move rfl) rfl (G.q (Quiet.int rfl rfl rfl) rfl (G.nil (G.then_n ?_)))))
     refine G.condD rfl (fun h66 => ?_) (fun h66 => ?_)
     ·obtain ⟨k, hk, hpk, hkp⟩ := place_get (l := τ.nodes) h66
      have hpz : placeZ τ y.path = k := hpk
      rw [hpz]
      refine G.rfOpen (x := x) (τ := τ) (by (repeat' constructor)) fun an cn as1 cs l hl => ?_
      have hll := nds_len hl
      have hkl : k < l.length := by omega
      have hlk : l[k].1 = y.path := by have := nds_get hl hkl; rw [← hkp]; simp only [this]
      refine G.slShape (T := 131) (sz := 12) (v := .slice an l.length cn) (xs := l.flatMap rnC) (by (repeat' constructor)) (by omega) fun bn bn' e0 mbn _ => ?_
      simp only [Value.slice.injEq, true_and] at e0
      obtain ⟨rfl, rfl⟩ := e0
      refine G.seq ?_
      refine G.draw [7, 10] [[0, 1, 2, 3, 4, 5, 6, 7], [8, 9, 10]] mixed (by kernel_rfl) ?_
      refine Phases.go [ptc bx _ _, ptc x _ _] (by (repeat' constructor)) ?_
      refine D.q rfl (by kernel_rfl) (Quiet.move rfl) ?_
      refine D.q rfl (by kernel_rfl) (Quiet.nilp rfl) ?_
      refine D.q rfl (by kernel_rfl) (Quiet.fieldAddr rfl fo_101_0) ?_
      refine D.q rfl (by kernel_rfl) (Quiet.load rfl ag_98 (by (repeat' constructor)) (rfl)) ?_
      refine D.q rfl (by kernel_rfl) (Quiet.move rfl) ?_
      refine D.qw [6, 7] rfl (by kernel_rfl) (Quiet.fieldAddr rfl fo_37_3) ?_
      refine D.qw [7] rfl (by kernel_rfl) (Quiet.load rfl ag_34 (by (repeat' constructor)) (rfl)) ?_
      refine D.h rfl (by kernel_rfl) (OpSpec.call Tryz.func105 rfl rfl (vs := [_]) rfl (rrows_spec y.aclV y.acl p hy.acl hfew)) (by (repeat' constructor)) ?nx77
      rintro v L' ⟨⟨a15, c15, rfl⟩, rfl⟩
      refine D.ph ?_
      refine Phases.go [] (by (repeat' constructor)) ?_
      refine D.qw [9, 10] rfl (by kernel_rfl) (Quiet.indexAddr rfl rfl el_98 (by omega)) ?_
      refine D.qw [10] rfl (by kernel_rfl) (Quiet.fieldAddr rfl fo_131_2) ?_
      refine D.h rfl (by kernel_rfl) (OpSpec.storeRd (sz := 12) (j := k * 12 + 2) rfl rfl ?hv81 sz_34 ?ho82 ?hi83) (by (repeat' constructor)) ?nx84
      case hv81 => first | rfl | assumption
      case ho82 => omega
      case hi83 => omega
      rintro v L' rfl
      refine D.ph (Phases.fin ?_)
      refine G.slCast (T := 131) (sz := 12) (m' := l.length) (xs' := (l.set k (l[k].1, (.slice a15 y.acl.length c15, { l[k].2.2 with acl := y.acl }))).flatMap rnC) (by (repeat' constructor)) rfl (flatMap_set (f := rnC) (sz := 12) (fun _ => rfl) (by simpa using hkl) (by decide) (by rfl)) ?_
      refine G.then_n ?_
      refine G.draw [10] [[0, 1, 2, 3, 4, 5, 6, 7, 8, 9, 10]] mixed (by kernel_rfl) ?_
      refine Phases.go [] (by (repeat' constructor)) ?_
      refine D.qw [1, 2, 3, 7, 8, 9, 10] rfl (by kernel_rfl) (Quiet.move rfl) ?_
      refine D.qw [2, 3, 7, 8, 9, 10] rfl (by kernel_rfl) (Quiet.nilp rfl) ?_
      refine D.qw [3, 7, 8, 9, 10] rfl (by kernel_rfl) (Quiet.fieldAddr rfl fo_101_0) ?_
      refine D.qw [7, 8, 9, 10] rfl (by kernel_rfl) (Quiet.load rfl ag_98 (by (repeat' constructor)) (rfl)) ?_
      refine D.qw [7, 8, 9, 10] rfl (by kernel_rfl) (Quiet.move rfl) ?_
      refine D.qw [6, 7, 8, 9, 10] rfl (by kernel_rfl) (Quiet.fieldAddr rfl fo_37_5) ?_
      refine D.qw [7, 8, 9, 10] rfl (by kernel_rfl) (Quiet.load rfl ag_3 (by (repeat' constructor)) (rfl)) ?_
      refine D.qw [8, 9, 10] rfl (by kernel_rfl) (Quiet.indexAddr rfl rfl el_98 (by omega)) ?_
      refine D.qw [9, 10] rfl (by kernel_rfl) (Quiet.fieldAddr rfl fo_131_3) ?_
      refine D.qw [10] rfl (by kernel_rfl) (Quiet.fieldAddr rfl fo_43_5) ?_
      refine D.h rfl (by kernel_rfl) (OpSpec.storeRd (sz := 12) (j := k * 12 + 8) rfl rfl ?hv94 sz_3 ?ho95 ?hi96) (by (repeat' constructor)) ?nx97
      case hv94 => first | rfl | assumption
      case ho95 => omega
      case hi96 => omega
      rintro v L' rfl
      refine D.ph (Phases.fin ?_)
      refine G.slCast (T := 131) (sz := 12) (m' := l.length) (xs' := ((l.set k (l[k].1, (.slice a15 y.acl.length c15, { l[k].2.2 with acl := y.acl }))).set k (l[k].1, (.slice a15 y.acl.length c15, aclN y.acl y.num l[k].2.2))).flatMap rnC) (by (repeat' constructor)) rfl (flatMap_set (f := rnC) (sz := 12) (fun _ => rfl) (by simpa using hkl) (by decide) (by rw [List.getElem_set_self]; rfl)) ?_
      rw [List.set_set]
      refine G.toRd (v := .slice a15 y.acl.length c15) (by (repeat' constructor)) ?_
      refine G.bigRep (l[k].1, (.slice a15 y.acl.length c15, aclN y.acl y.num l[k].2.2)) hkl (p := rdO 2 (.slice a15 y.acl.length c15) y.acl.length (y.acl.flatMap acC)) rfl (by (repeat' constructor)) ?_
      refine G.rfFold (x := x) (τ := ({ τ with nodes := amod τ.nodes y.path (aclN y.acl y.num) } : Tr)) (l := (l.set k (l[k].1, (.slice a15 y.acl.length c15, aclN y.acl y.num l[k].2.2)))) (nds_mod hl hnd hkl hlk (aclN y.acl y.num) rfl) (by (repeat' constructor)) rfl (by simp) rfl rfl rfl ?_
      refine G.blk_n (G.then_n (G.seq (G.region (G.q (Quiet.assign rfl) rfl (G.nil (G.then_n (G.ret (G.add (slR_nil 75 3) ?_))))))))
      have hc : partZ τ y zx = (({ τ with nodes := amod τ.nodes y.path (aclN y.acl y.num) } : Tr), []) := by unfold partZ; rw [if_neg h14, if_neg h20, if_neg (fun g => h26 g.1), if_pos ⟨h63, place_iff.1 h66⟩]
      refine G.rfCast (x := x) (τ' := (partZ τ y zx).1) (by (repeat' constructor)) (by rw [hc]) ?_
      refine G.slCast (T := 75) (sz := 3) (m' := (partZ τ y zx).2.length) (xs' := (partZ τ y zx).2.flatMap evC) (by (repeat' constructor)) (by (rw [hc]; try rfl)) (by (rw [hc]; try rfl)) ?_
      exact G.done (l := [.tmp 6]) rfl rfl ⟨_, _, by (rw [hc]; try rfl), rfl⟩ (by (repeat' constructor)) (by (repeat' constructor))
     ·refine G.skip (G.blk_n (G.then_n (G.seq (G.region (G.q (Quiet.assign rfl) rfl (G.nil (G.then_n (G.ret (G.add (slR_nil 75 3) ?_)))))))))
      have hc : partZ τ y zx = (τ, []) := by unfold partZ; rw [if_neg h14, if_neg h20, if_neg (fun g => h26 g.1), if_neg (fun g => h66 (place_iff.2 g.2))]
      refine G.rfCast (x := x) (τ' := (partZ τ y zx).1) (by (repeat' constructor)) (by rw [hc]) ?_
      refine G.slCast (T := 75) (sz := 3) (m' := (partZ τ y zx).2.length) (xs' := (partZ τ y zx).2.flatMap evC) (by (repeat' constructor)) (by (rw [hc]; try rfl)) (by (rw [hc]; try rfl)) ?_
      exact G.done (l := [.tmp 6]) rfl rfl ⟨_, _, by (rw [hc]; try rfl), rfl⟩ (by (repeat' constructor)) (by (repeat' constructor))
    ·refine G.skip (G.blk_n (G.then_n (G.seq (G.region (G.q (Quiet.assign rfl) rfl (G.nil (G.then_n (G.ret (G.add (slR_nil 75 3) ?_)))))))))
     have hc : partZ τ y zx = (τ, []) := by unfold partZ; rw [if_neg h14, if_neg h20, if_neg (fun g => h26 g.1), if_neg (fun g => h63 g.1)]
     refine G.rfCast (x := x) (τ' := (partZ τ y zx).1) (by (repeat' constructor)) (by rw [hc]) ?_
     refine G.slCast (T := 75) (sz := 3) (m' := (partZ τ y zx).2.length) (xs' := (partZ τ y zx).2.flatMap evC) (by (repeat' constructor)) (by (rw [hc]; try rfl)) (by (rw [hc]; try rfl)) ?_
     exact G.done (l := [.tmp 6]) rfl rfl ⟨_, _, by (rw [hc]; try rfl), rfl⟩ (by (repeat' constructor)) (by (repeat' constructor))

theorem rs_cells (z : Int × (Int × Bs)) : ∀ y ∈ (Value.agg (rsC z).toArray).cells.toList, isCell y = true := by
  intro v hv
  simp only [Value.cells, rsC, List.mem_cons, List.not_mem_nil, or_false] at hv
  rcases hv with rfl | rfl | rfl <;> rfl
theorem rsl_cells (l : SsM) : ∀ y ∈ l.flatMap rsC, isCell y = true := by
  intro y hy
  obtain ⟨a, -, h⟩ := List.mem_flatMap.1 hy
  simp only [rsC, List.mem_cons, List.not_mem_nil, or_false] at h
  rcases h with rfl | rfl | rfl <;> rfl
set_option maxRecDepth 100000 in
theorem rdrop_spec (x : Nat) (τ : Tr) (id : Int) (hN : τ.sess.length ≤ 1073741824) : Fn Tryz.prog 61 #[vptr x, vint id] [refR x τ] fun v L => v = .tuple #[] ∧ L = [refR x (dropS τ id)] := by
 refine Fn.intro (vs := [vptr x, vint id]) Tryz.func61 rfl rfl ?_
 intro F W
 refine G.rfOpen (x := x) (τ := τ) (by (repeat' constructor)) fun an cn as1 cs l hl => ?_
 refine G.add (slR_nil 134 3) ?_
 refine G.seq (G.region (G.q (Quiet.assign rfl) rfl (G.nil (G.then_n (G.seq (G.seq (G.region (G.q (Quiet.assign rfl) rfl (G.nil (G.then_n (G.block ?_)))))))))))
 refine G.loopK (ι := Nat × Value) (fun q E => (5, vint q.1) :: (4, q.2) :: E) (fun q => [rsR q.2 ((τ.sess.take q.1).filter fun w => !decide (w.1 = id))]) (fun q => q.1 ≤ τ.sess.length ∧ ∃ a c, q.2 = .slice a ((τ.sess.take q.1).filter fun w => !decide (w.1 = id)).length c) (fun q => τ.sess.length - q.1) (0, .slice none 0 0) (ts := [0, 1]) (.cons rfl (.cons rfl (.nil))) (⟨Nat.zero_le _, none, 0, rfl⟩) ⟨rfl, rfl, rfl, rfl, trivial⟩ (by (repeat' constructor)) ?_
 rintro ⟨i, u⟩ ⟨hi, au, cu, hu⟩
 dsimp only
 dsimp only at hi hu
 subst hu
 have hfl := List.length_filter_le (fun w : Int × (Int × Bs) => !decide (w.1 = id)) (τ.sess.take i)
 rw [List.length_take] at hfl
 refine G.seq (G.seq (G.region (G.q (Quiet.move rfl) rfl (G.q (Quiet.move rfl) rfl (G.q (Quiet.nilp rfl) rfl (G.q (Quiet.fieldAddr rfl fo_101_1) rfl ?_))))))
 refine G.q (Quiet.load rfl ag_99 (by (repeat' constructor)) (rfl)) rfl ?_
 refine G.q (Quiet.slen rfl Tryz.underlying99 rfl) rfl (G.q (Quiet.int rfl rfl rfl) rfl (G.nil (G.then_n ?_)))
 refine G.condD rfl (fun h12 => ?_) (fun h12 => ?_)
 ·have hi2 : i < τ.sess.length := by omega
  refine G.slShape (T := 134) (sz := 3) (v := .slice as1 τ.sess.length cs) (xs := τ.sess.flatMap rsC) (by (repeat' constructor)) (by omega) fun bs bs' e0 mbs _ => ?_
  simp only [Value.slice.injEq, true_and] at e0
  obtain ⟨rfl, rfl⟩ := e0
  refine G.skip (G.then_n (G.seq (G.block (G.seq (G.region (G.q (Quiet.move rfl) rfl (G.q (Quiet.nilp rfl) rfl (G.q (Quiet.fieldAddr rfl fo_101_1) rfl ?_))))))))
  refine G.q (Quiet.load rfl ag_99 (by (repeat' constructor)) (rfl)) rfl ?_
  refine G.q (Quiet.move rfl) rfl ?_
  refine G.q (Quiet.indexAddr rfl rfl el_99 (by omega)) rfl ?_
  refine G.q (Quiet.fieldAddr rfl fo_134_0) rfl ?_
  refine G.q (Quiet.loadRd (sz := 3) (j := i * 3 + 0) (p := rsR _ τ.sess) rfl ag_3 (by (repeat' constructor)) (fun h hp => slR_rd hp) (by omega) ((rs_cell (l := τ.sess) (i := i) (k := 0) (by omega) (by decide)).trans rfl)) rfl ?_
  refine G.q (Quiet.move rfl) rfl (G.q (Quiet.int rfl rfl rfl) rfl (G.nil (G.then_n ?_)))
  refine G.condN rfl (fun h24 => ?_) (fun h24 => ?_)
  ·refine G.region (G.q (Quiet.move rfl) rfl (G.q (Quiet.move rfl) rfl (G.q (Quiet.nilp rfl) rfl (G.q (Quiet.fieldAddr rfl fo_101_1) rfl ?_))))
   refine G.q (Quiet.load rfl ag_99 (by (repeat' constructor)) (rfl)) rfl ?_
   refine G.q (Quiet.move rfl) rfl ?_
   refine G.q (Quiet.indexAddr rfl rfl el_99 (by omega)) rfl ?_
   refine G.q (Quiet.loadRdA (sz := 3) (j := i * 3) (k := 3) (p := rsR _ τ.sess) (vs := rsC τ.sess[i]) rfl ag_134 (by (repeat' constructor)) (fun h hp => slR_rd hp) (by omega) (by omega) (by omega) (flatMap_at (f := rsC) (sz := 3) (fun _ _ => rfl) (by omega))) rfl ?_
   refine G.op (OpSpec.buildSlice (vs := [_]) el_99 ze_134 rfl rfl rfl rfl (by first | (simp [Value.cells]; done) | (intro v hv; simp only [List.mem_cons, List.not_mem_nil, or_false] at hv; (repeat (first | (subst hv; rfl) | (rcases hv with hv | hv; (subst hv; rfl)))))) (by decide)) (by (repeat' constructor)) rfl ?nx28
   rintro v L' ⟨b5_8, rfl, rfl⟩
   refine G.op (OpSpec.append1 rfl rfl rfl el_99 ze_134 rfl rfl ?c30 ?c31 (Nat.le_refl _) ?c32 (by decide)) (by (repeat' constructor)) rfl ?nx33
   case c30 => first | exact rs_cells _ | (simp only [List.map_cons, List.map_nil, List.flatten_cons, List.flatten_nil, List.append_nil]; exact rs_cells _)
   case c31 => rfl
   case c32 => first | omega | (simp; omega)
   rintro v L' ⟨⟨a5_9, c5_9, rfl⟩, rfl⟩
   refine G.q (Quiet.assign rfl) rfl (G.nil (G.blk_n (G.then_n (G.region (G.q (Quiet.move rfl) rfl ?_)))))
   refine G.q (Quiet.add rfl rfl (by omega)) rfl ?_
   refine G.q (Quiet.assign rfl) rfl (G.nil (G.then_n ?_))
   have hst : ((τ.sess.take (i + 1)).filter fun w => !decide (w.1 = id)) = ((τ.sess.take i).filter fun w => !decide (w.1 = id)) ++ [τ.sess[i]] := by rw [List.take_succ_eq_append_getElem hi2, List.filter_append]; simp [show ¬ τ.sess[i].1 = id from h24]
   rw [show ((τ.sess.take i).filter fun w => !decide (w.1 = id)).length + 1 = ((τ.sess.take (i + 1)).filter fun w => !decide (w.1 = id)).length by rw [hst, List.length_append]; rfl]
   refine G.slCast (T := 134) (sz := 3) (m' := ((τ.sess.take (i + 1)).filter fun w => !decide (w.1 = id)).length) (xs' := ((τ.sess.take (i + 1)).filter fun w => !decide (w.1 = id)).flatMap rsC) (by (repeat' constructor)) rfl (by rw [hst, List.flatMap_append]; simp; rfl) ?_
   exact G.roundK ((i + 1, .slice a5_9 ((τ.sess.take (i + 1)).filter fun w => !decide (w.1 = id)).length c5_9)) (⟨by dsimp only; omega, _, _, rfl⟩) (by dsimp only; omega) ⟨rfl, rfl, rfl, rfl, trivial⟩ (by (repeat' constructor)) (by ((repeat (apply Have.cons; (repeat (first | exact Pick.here | apply Pick.there)))); apply Have.base; repeat' constructor))
  ·refine G.skip (G.blk_n (G.then_n (G.region (G.q (Quiet.move rfl) rfl ?_))))
   refine G.q (Quiet.add rfl rfl (by omega)) rfl ?_
   refine G.q (Quiet.assign rfl) rfl (G.nil (G.then_n ?_))
   have hst : ((τ.sess.take (i + 1)).filter fun w => !decide (w.1 = id)) = ((τ.sess.take i).filter fun w => !decide (w.1 = id)) := by rw [List.take_succ_eq_append_getElem hi2, List.filter_append]; simp [show τ.sess[i].1 = id from h24]
   rw [← hst]
   exact G.roundK ((i + 1, .slice au ((τ.sess.take (i + 1)).filter fun w => !decide (w.1 = id)).length cu)) (⟨by dsimp only; omega, _, _, rfl⟩) (by dsimp only; omega) ⟨rfl, rfl, rfl, rfl, trivial⟩ (by (repeat' constructor)) (by ((repeat (apply Have.cons; (repeat (first | exact Pick.here | apply Pick.there)))); apply Have.base; repeat' constructor))
 ·have hii : i = τ.sess.length := by omega
  subst hii
  rw [List.take_length]
  refine G.exit (G.then_e (G.then_e (G.blk_e (G.then_n (G.region (G.q (Quiet.move rfl) rfl (G.q (Quiet.move rfl) rfl (G.q (Quiet.nilp rfl) rfl (G.q (Quiet.fieldAddr rfl fo_101_1) rfl ?_)))))))))
  refine G.op (OpSpec.store rfl rfl rfl sz_99 ?c43 ?c44) (by (repeat' constructor)) rfl ?nx45
  case c43 => first | decide | (simp; omega) | simp
  case c44 => exact nfz0 _ _
  rintro v L' rfl
  refine G.nil (G.done_n ?_)
  refine G.rfFold (x := x) (τ := (dropS τ id)) (l := l) hl (by (repeat' constructor)) rfl rfl rfl rfl rfl ?_
  exact G.done (l := []) rfl rfl ⟨rfl, rfl⟩ (by (repeat' constructor)) (by (repeat' constructor))

set_option maxRecDepth 100000 in
theorem ropen_spec (x : Nat) (τ : Tr) (id n : Int) (s : Bs) (N : Nat) (ho : τ.Ok N) (hN : τ.sess.length ≤ 1073741824) : Fn Tryz.prog 59 #[vptr x, .agg (rsC (id, (n, s))).toArray] [refR x τ] fun v L => v = .tuple #[] ∧ L = [refR x (openS τ id n s)] := by
 refine Fn.intro (vs := [vptr x, .agg (rsC (id, (n, s))).toArray]) Tryz.func59 rfl rfl ?_
 intro F W
 have hsl : (dropS τ id).sess.length ≤ τ.sess.length := List.length_filter_le _ _
 refine G.seq (G.region ?_)
 refine G.op (OpSpec.box rfl) (by (repeat' constructor)) rfl ?nx1
 rintro v L' ⟨bz, rfl, rfl⟩
 refine G.nil ?_
 refine G.ptCast (b := bz) (l' := rsC (id, (n, s))) (by (repeat' constructor)) rfl ?_
 refine G.then_n (G.seq (G.region (G.q (Quiet.move rfl) rfl (G.q (Quiet.fieldAddr rfl fo_134_0) rfl ?_))))
 refine G.q (Quiet.load rfl ag_3 (by (repeat' constructor)) (rfl)) rfl ?_
 refine G.op (OpSpec.call Tryz.func61 rfl rfl (vs := [_, _]) rfl (rdrop_spec x τ id hN)) (by (repeat' constructor)) rfl ?nx6
 rintro v L' ⟨rfl, rfl⟩
 refine G.nil (G.then_n (G.seq ?_))
 refine G.rfOpen (x := x) (τ := (dropS τ id)) (by (repeat' constructor)) fun an cn as1 cs l hl => ?_
 refine G.region ?_
 refine G.slForm (T := 134) (sz := 3) (a := as1) (m := (dropS τ id).sess.length) (c := cs) (by (repeat' constructor)) (fun e0 e1 e2 => ?_) (fun bs e0 e1 => ?_)
 ·subst e0
  refine G.q (Quiet.assign rfl) rfl (G.nil (G.then_n (G.seq ?_)))
  refine G.joinK (ι := Nat) (fun q E => (4, vint q) :: E) (fun q => []) (fun q => q ≤ (dropS τ id).sess.length ∧ (∀ w ∈ ((dropS τ id).sess.take q), w.1 < id) ∧ ∀ h : q < (dropS τ id).sess.length, ¬ (dropS τ id).sess[q].1 < id) (pre := []) (ts := [0, 3]) (.cons rfl (.cons rfl (.nil))) (by (repeat' constructor)) ?_ ?_
  ·refine G.block ?_
   refine G.loopK (ι := Nat) (fun q E => (4, vint q) :: E) (fun q => []) (fun q => q ≤ (dropS τ id).sess.length ∧ ∀ w ∈ ((dropS τ id).sess.take q), w.1 < id) (fun q => (dropS τ id).sess.length - q) (0) (ts := [0, 3]) (.cons rfl (.cons rfl (.nil))) (⟨Nat.zero_le _, by simp⟩) ⟨rfl, rfl, rfl, trivial⟩ (by (repeat' constructor)) ?_
   rintro i ⟨hi, hlow⟩
   refine G.seq (G.seq ?_)
   refine G.draw [] [[0, 1, 2, 3, 4, 5, 6, 7, 8, 9, 10, 11, 12, 13, 14, 15, 16, 17, 18, 19]] mixed (by kernel_rfl) ?_
   refine Phases.go [] (by (repeat' constructor)) ?_
   refine D.qw [6, 7, 8, 9, 10, 11, 12, 13, 14, 15, 16, 17, 18, 19] rfl (by kernel_rfl) (Quiet.move rfl) ?_
   refine D.qw [2, 3, 4, 5, 6, 7, 8, 9, 10, 11, 12, 13, 14, 15, 16, 17, 18, 19] rfl (by kernel_rfl) (Quiet.move rfl) ?_
   refine D.qw [3, 4, 5, 6, 7, 8, 9, 10, 11, 12, 13, 14, 15, 16, 17, 18, 19] rfl (by kernel_rfl) (Quiet.nilp rfl) ?_
   refine D.qw [4, 5, 6, 7, 8, 9, 10, 11, 12, 13, 14, 15, 16, 17, 18, 19] rfl (by kernel_rfl) (Quiet.fieldAddr rfl fo_101_1) ?_
   refine D.qw [5, 6, 7, 8, 9, 10, 11, 12, 13, 14, 15, 16, 17, 18, 19] rfl (by kernel_rfl) (Quiet.load rfl ag_99 (by (repeat' constructor)) (rfl)) ?_
   refine D.qw [6, 7, 8, 9, 10, 11, 12, 13, 14, 15, 16, 17, 18, 19] rfl (by kernel_rfl) (Quiet.slen rfl Tryz.underlying99 rfl) ?_
   refine D.qw [7, 8, 9, 10, 11, 12, 13, 14, 15, 16, 17, 18, 19] rfl (by kernel_rfl) (Quiet.int rfl rfl rfl) ?_
   refine D.qw [8, 9, 10, 11, 12, 13, 14, 15, 16, 17, 18, 19] rfl (by kernel_rfl) (Quiet.move rfl) ?_
   refine D.dec (t := 17) rfl (fun h3_17 => ?_) (fun h3_17 => ?_)
   ·exfalso; omega
   ·refine D.kDF (t := 16) rfl h3_17 ?_
    refine D.gs (t := 17) rfl rfl rfl rfl (by kernel_rfl) ?_
    refine D.gs (t := 17) rfl rfl rfl rfl (by kernel_rfl) ?_
    refine D.gs (t := 17) rfl rfl rfl rfl (by kernel_rfl) ?_
    refine D.gs (t := 17) rfl rfl rfl rfl (by kernel_rfl) ?_
    refine D.gs (t := 17) rfl rfl rfl rfl (by kernel_rfl) ?_
    refine D.gs (t := 17) rfl rfl rfl rfl (by kernel_rfl) ?_
    refine D.gs (t := 17) rfl rfl rfl rfl (by kernel_rfl) ?_
    refine D.gs (t := 17) rfl rfl rfl rfl (by kernel_rfl) ?_
    refine D.gs (t := 17) rfl rfl rfl rfl (by kernel_rfl) ?_
    refine D.gs (t := 17) rfl rfl rfl rfl (by kernel_rfl) ?_
    refine D.gs (t := 17) rfl rfl rfl rfl (by kernel_rfl) ?_
    refine D.qw [] rfl (by kernel_rfl) (Quiet.pickF rfl rfl) ?_
    refine D.ph (Phases.fin (G.then_n (G.condF rfl (G.exit (G.then_e (G.then_e (G.blk_e (G.then_n ?_))))))))
    exact G.meetK (i) (⟨hi, hlow, fun h => absurd h (by omega)⟩) ⟨rfl, rfl, rfl, trivial⟩ (by (repeat' constructor)) (by ((repeat (apply Have.cons; (repeat (first | exact Pick.here | apply Pick.there)))); apply Have.base; repeat' constructor))
  ·rintro i ⟨hi, hlow, hhigh⟩
   refine G.seq (G.add (slR_nil 134 3) (G.region (G.q (Quiet.assign rfl) rfl (G.nil (G.then_n (G.seq ?_))))))
   have hadr : (none : Option Addr) = none ∨ ∃ b off, (none : Option Addr) = some (⟨b, off, none⟩ : Addr) := .inl rfl
   refine G.region (G.q (Quiet.move rfl) rfl (G.q (Quiet.move rfl) rfl (G.q (Quiet.nilp rfl) rfl (G.q (Quiet.fieldAddr rfl fo_101_1) rfl ?_))))
   refine G.q (Quiet.load rfl ag_99 (by (repeat' constructor)) (rfl)) rfl ?_
   refine G.q (Quiet.move rfl) rfl ?_
   refine G.q (Quiet.to (v' := .slice (none : Option Addr) i cs) (Quiet.slTo (j := (i : Int)) rfl el_99 rfl (by omega) hadr) (by rw [Int.toNat_natCast])) rfl ?_
   refine G.op (OpSpec.append (n := 0) (m := i) (ys := ((dropS τ id).sess.take i).flatMap rsC) (p := slR 134 3 (.slice (none : Option Addr) (dropS τ id).sess.length cs) (dropS τ id).sess.length ((dropS τ id).sess.flatMap rsC)) rfl rfl rfl el_99 (.inl ⟨_, Tryz.underlying99⟩) ze_134 rfl rfl ?hc24 ?hr25 ?hb26 (by decide)) (by (repeat' constructor)) rfl ?nx27
   case hc24 => exact rsl_cells _
   case hr25 => exact fun h hp => by have := slR_rd_to hi hp; rw [(flat_take (f := rsC) (sz := 3) (fun _ => rfl) _ i).1] at this; exact this
   case hb26 => omega
   rintro v L' ⟨⟨a6, c6, rfl⟩, rfl⟩; rw [Nat.zero_add, List.nil_append]
   refine G.q (Quiet.assign rfl) rfl (G.nil (G.then_n (G.seq (G.region (G.q (Quiet.move rfl) rfl ?_)))))
   refine G.q (Quiet.loadAs (vs := rsC (id, (n, s))) rfl ag_134 (by (repeat' constructor)) (by simp [rsC]) rfl) rfl ?_
   refine G.op (OpSpec.buildSlice (vs := [_]) el_99 ze_134 rfl rfl rfl rfl (by first | (simp [Value.cells]; done) | (intro v hv; simp only [List.mem_cons, List.not_mem_nil, or_false] at hv; (repeat (first | (subst hv; rfl) | (rcases hv with hv | hv; (subst hv; rfl)))))) (by decide)) (by (repeat' constructor)) rfl ?nx30
   rintro v L' ⟨b7_2, rfl, rfl⟩
   refine G.op (OpSpec.append1 rfl rfl rfl el_99 ze_134 rfl rfl ?c32 ?c33 (Nat.le_refl _) ?c34 (by decide)) (by (repeat' constructor)) rfl ?nx35
   case c32 => first | exact rs_cells _ | (simp only [List.map_cons, List.map_nil, List.flatten_cons, List.flatten_nil, List.append_nil]; exact rs_cells _)
   case c33 => rfl
   case c34 => first | omega | (simp; omega)
   rintro v L' ⟨⟨a7_3, c7_3, rfl⟩, rfl⟩
   refine G.q (Quiet.assign rfl) rfl (G.nil ?_)
   refine G.slCast (T := 134) (sz := 3) (m' := i + 1) (xs' := (((dropS τ id).sess.take i) ++ [(id, (n, s))]).flatMap rsC) (by (repeat' constructor)) rfl (by rw [List.flatMap_append]; simp; rfl) ?_
   refine G.then_n (G.region (G.q (Quiet.move rfl) rfl (G.q (Quiet.move rfl) rfl (G.q (Quiet.move rfl) rfl (G.q (Quiet.nilp rfl) rfl (G.q (Quiet.fieldAddr rfl fo_101_1) rfl ?_))))))
   refine G.q (Quiet.load rfl ag_99 (by (repeat' constructor)) (rfl)) rfl ?_
   refine G.q (Quiet.move rfl) rfl ?_
   refine G.q (Quiet.slFromO (i := (i : Int)) rfl el_99 rfl (by omega)) rfl ?_
   refine G.op (OpSpec.append (n := i + 1) (m := (dropS τ id).sess.length - (i : Int).toNat) (ys := ((dropS τ id).sess.drop i).flatMap rsC) (p := slR 134 3 (.slice (none : Option Addr) (dropS τ id).sess.length cs) (dropS τ id).sess.length ((dropS τ id).sess.flatMap rsC)) rfl rfl rfl el_99 (.inl ⟨_, Tryz.underlying99⟩) ze_134 rfl rfl ?hc44 ?hr45 ?hb46 (by decide)) (by (repeat' constructor)) rfl ?nx47
   case hc44 => exact rsl_cells _
   case hr45 => exact fun h hp => by rw [Int.toNat_natCast]; have := slR_rd_from hi hp; rw [(flat_take (f := rsC) (sz := 3) (fun _ => rfl) _ i).2] at this; exact this
   case hb46 => omega
   rintro v L' ⟨⟨a8, c8, rfl⟩, rfl⟩
   refine G.q (Quiet.nilp rfl) rfl (G.q (Quiet.fieldAddr rfl fo_101_1) rfl ?_)
   refine G.op (OpSpec.store rfl rfl rfl sz_99 ?c51 ?c52) (by (repeat' constructor)) rfl ?nx53
   case c51 => first | decide | (simp; omega) | simp
   case c52 => exact nfz0 _ _
   rintro v L' rfl
   refine G.nil (G.done_n ?_)
   have hfin : ((dropS τ id).sess.take i) ++ [(id, (n, s))] ++ ((dropS τ id).sess.drop i) = (openS τ id n s).sess := by rw [sset_at hi hlow hhigh (fun w hw => by have := (List.mem_filter.1 hw).2; simpa using this), ← open_drop ho id n s]; rfl
   have hlen : i + 1 + ((dropS τ id).sess.length - (i : Int).toNat) = (openS τ id n s).sess.length := by rw [← hfin]; simp; omega
   refine G.rfFold (x := x) (τ := (openS τ id n s)) (l := l) hl (by (repeat' constructor)) rfl rfl rfl hlen (by rw [← List.flatMap_append, hfin]) ?_
   exact G.done (l := []) rfl rfl ⟨rfl, rfl⟩ (by (repeat' constructor)) (by (repeat' constructor))
 ·subst e0
  refine G.q (Quiet.assign rfl) rfl (G.nil (G.then_n (G.seq ?_)))
  refine G.joinK (ι := Nat) (fun q E => (4, vint q) :: E) (fun q => []) (fun q => q ≤ (dropS τ id).sess.length ∧ (∀ w ∈ ((dropS τ id).sess.take q), w.1 < id) ∧ ∀ h : q < (dropS τ id).sess.length, ¬ (dropS τ id).sess[q].1 < id) (pre := []) (ts := [0, 3]) (.cons rfl (.cons rfl (.nil))) (by (repeat' constructor)) ?_ ?_
  ·refine G.block ?_
   refine G.loopK (ι := Nat) (fun q E => (4, vint q) :: E) (fun q => []) (fun q => q ≤ (dropS τ id).sess.length ∧ ∀ w ∈ ((dropS τ id).sess.take q), w.1 < id) (fun q => (dropS τ id).sess.length - q) (0) (ts := [0, 3]) (.cons rfl (.cons rfl (.nil))) (⟨Nat.zero_le _, by simp⟩) ⟨rfl, rfl, rfl, trivial⟩ (by (repeat' constructor)) ?_
   rintro i ⟨hi, hlow⟩
   refine G.seq (G.seq ?_)
   refine G.draw [] [[0, 1, 2, 3, 4, 5, 6, 7, 8, 9, 10, 11, 12, 13, 14, 15, 16, 17, 18, 19]] mixed (by kernel_rfl) ?_
   refine Phases.go [] (by (repeat' constructor)) ?_
   refine D.qw [6, 7, 8, 9, 10, 11, 12, 13, 14, 15, 16, 17, 18, 19] rfl (by kernel_rfl) (Quiet.move rfl) ?_
   refine D.qw [2, 3, 4, 5, 6, 7, 8, 9, 10, 11, 12, 13, 14, 15, 16, 17, 18, 19] rfl (by kernel_rfl) (Quiet.move rfl) ?_
   refine D.qw [3, 4, 5, 6, 7, 8, 9, 10, 11, 12, 13, 14, 15, 16, 17, 18, 19] rfl (by kernel_rfl) (Quiet.nilp rfl) ?_
   refine D.qw [4, 5, 6, 7, 8, 9, 10, 11, 12, 13, 14, 15, 16, 17, 18, 19] rfl (by kernel_rfl) (Quiet.fieldAddr rfl fo_101_1) ?_
   refine D.qw [5, 6, 7, 8, 9, 10, 11, 12, 13, 14, 15, 16, 17, 18, 19] rfl (by kernel_rfl) (Quiet.load rfl ag_99 (by (repeat' constructor)) (rfl)) ?_
   refine D.qw [6, 7, 8, 9, 10, 11, 12, 13, 14, 15, 16, 17, 18, 19] rfl (by kernel_rfl) (Quiet.slen rfl Tryz.underlying99 rfl) ?_
   refine D.qw [7, 8, 9, 10, 11, 12, 13, 14, 15, 16, 17, 18, 19] rfl (by kernel_rfl) (Quiet.int rfl rfl rfl) ?_
   refine D.qw [8, 9, 10, 11, 12, 13, 14, 15, 16, 17, 18, 19] rfl (by kernel_rfl) (Quiet.move rfl) ?_
   refine D.dec (t := 17) rfl (fun h3_17 => ?_) (fun h3_17 => ?_)
   ·have hi2 : i < (dropS τ id).sess.length := by omega
    refine D.kDT (t := 16) rfl h3_17 ?_
    refine D.gqw [9, 10, 11, 13, 14, 15, 18, 19] (t := 17) rfl rfl rfl (by kernel_rfl) (Quiet.move rfl) ?_
    refine D.gqw [10, 11, 13, 14, 15, 18, 19] (t := 17) rfl rfl rfl (by kernel_rfl) (Quiet.nilp rfl) ?_
    refine D.gqw [11, 13, 14, 15, 18, 19] (t := 17) rfl rfl rfl (by kernel_rfl) (Quiet.fieldAddr rfl fo_101_1) ?_
    refine D.gqw [13, 14, 15, 18, 19] (t := 17) rfl rfl rfl (by kernel_rfl) (Quiet.load rfl ag_99 (by (repeat' constructor)) (rfl)) ?_
    refine D.gqw [13, 14, 15, 18, 19] (t := 17) rfl rfl rfl (by kernel_rfl) (Quiet.move rfl) ?_
    refine D.gqw [14, 15, 18, 19] (t := 17) rfl rfl rfl (by kernel_rfl) (Quiet.indexAddr rfl rfl el_99 (by omega)) ?_
    refine D.gqw [15, 18, 19] (t := 17) rfl rfl rfl (by kernel_rfl) (Quiet.fieldAddr rfl fo_134_0) ?_
    refine D.gqw [18, 19] (t := 17) rfl rfl rfl (by kernel_rfl) (Quiet.loadRd (sz := 3) (j := i * 3 + 0) (p := rsR _ (dropS τ id).sess) rfl ag_3 (by (repeat' constructor)) (fun h hp => slR_rd hp) (by omega) ((rs_cell (l := (dropS τ id).sess) (i := i) (k := 0) (by omega) (by decide)).trans rfl)) ?_
    refine D.gqw [17, 18, 19] (t := 17) rfl rfl rfl (by kernel_rfl) (Quiet.fieldAddr rfl fo_134_0) ?_
    refine D.gqw [18, 19] (t := 17) rfl rfl rfl (by kernel_rfl) (Quiet.load rfl ag_3 (by (repeat' constructor)) rfl) ?_
    refine D.gqw [19] (t := 17) rfl rfl rfl (by kernel_rfl) (Quiet.int rfl rfl rfl) ?_
    refine D.qw [] rfl (by kernel_rfl) (Quiet.pickT rfl rfl) ?_
    refine D.ph (Phases.fin (G.then_n ?_))
    refine G.condD rfl (fun h29 => ?_) (fun h29 => ?_)
    ·refine G.skip (G.then_n (G.block (G.region (G.q (Quiet.move rfl) rfl ?_))))
     refine G.q (Quiet.add rfl rfl (by omega)) rfl ?_
     refine G.q (Quiet.assign rfl) rfl (G.nil (G.blk_n (G.then_n ?_)))
     exact G.roundK (i + 1) (⟨by omega, fun w hw => by rw [List.take_succ_eq_append_getElem hi2] at hw; rcases List.mem_append.1 hw with hw | hw; (exact hlow w hw); (rw [List.mem_singleton] at hw; rw [hw]; exact h29)⟩) (by omega) ⟨rfl, rfl, rfl, trivial⟩ (by (repeat' constructor)) (by ((repeat (apply Have.cons; (repeat (first | exact Pick.here | apply Pick.there)))); apply Have.base; repeat' constructor))
    ·refine G.exit (G.then_e (G.then_e (G.blk_e (G.then_n ?_))))
     exact G.meetK (i) (⟨hi, hlow, fun h => h29⟩) ⟨rfl, rfl, rfl, trivial⟩ (by (repeat' constructor)) (by ((repeat (apply Have.cons; (repeat (first | exact Pick.here | apply Pick.there)))); apply Have.base; repeat' constructor))
   ·refine D.kDF (t := 16) rfl h3_17 ?_
    refine D.gs (t := 17) rfl rfl rfl rfl (by kernel_rfl) ?_
    refine D.gs (t := 17) rfl rfl rfl rfl (by kernel_rfl) ?_
    refine D.gs (t := 17) rfl rfl rfl rfl (by kernel_rfl) ?_
    refine D.gs (t := 17) rfl rfl rfl rfl (by kernel_rfl) ?_
    refine D.gs (t := 17) rfl rfl rfl rfl (by kernel_rfl) ?_
    refine D.gs (t := 17) rfl rfl rfl rfl (by kernel_rfl) ?_
    refine D.gs (t := 17) rfl rfl rfl rfl (by kernel_rfl) ?_
    refine D.gs (t := 17) rfl rfl rfl rfl (by kernel_rfl) ?_
    refine D.gs (t := 17) rfl rfl rfl rfl (by kernel_rfl) ?_
    refine D.gs (t := 17) rfl rfl rfl rfl (by kernel_rfl) ?_
    refine D.gs (t := 17) rfl rfl rfl rfl (by kernel_rfl) ?_
    refine D.qw [] rfl (by kernel_rfl) (Quiet.pickF rfl rfl) ?_
    refine D.ph (Phases.fin (G.then_n (G.condF rfl (G.exit (G.then_e (G.then_e (G.blk_e (G.then_n ?_))))))))
    exact G.meetK (i) (⟨hi, hlow, fun h => absurd h (by omega)⟩) ⟨rfl, rfl, rfl, trivial⟩ (by (repeat' constructor)) (by ((repeat (apply Have.cons; (repeat (first | exact Pick.here | apply Pick.there)))); apply Have.base; repeat' constructor))
  ·rintro i ⟨hi, hlow, hhigh⟩
   refine G.seq (G.add (slR_nil 134 3) (G.region (G.q (Quiet.assign rfl) rfl (G.nil (G.then_n (G.seq ?_))))))
   have hadr : (some (⟨bs, 0, none⟩ : Addr)) = none ∨ ∃ b off, (some (⟨bs, 0, none⟩ : Addr)) = some (⟨b, off, none⟩ : Addr) := .inr ⟨_, _, rfl⟩
   refine G.region (G.q (Quiet.move rfl) rfl (G.q (Quiet.move rfl) rfl (G.q (Quiet.nilp rfl) rfl (G.q (Quiet.fieldAddr rfl fo_101_1) rfl ?_))))
   refine G.q (Quiet.load rfl ag_99 (by (repeat' constructor)) (rfl)) rfl ?_
   refine G.q (Quiet.move rfl) rfl ?_
   refine G.q (Quiet.to (v' := .slice (some (⟨bs, 0, none⟩ : Addr)) i cs) (Quiet.slTo (j := (i : Int)) rfl el_99 rfl (by omega) hadr) (by rw [Int.toNat_natCast])) rfl ?_
   refine G.op (OpSpec.append (n := 0) (m := i) (ys := ((dropS τ id).sess.take i).flatMap rsC) (p := slR 134 3 (.slice (some (⟨bs, 0, none⟩ : Addr)) (dropS τ id).sess.length cs) (dropS τ id).sess.length ((dropS τ id).sess.flatMap rsC)) rfl rfl rfl el_99 (.inl ⟨_, Tryz.underlying99⟩) ze_134 rfl rfl ?hc83 ?hr84 ?hb85 (by decide)) (by (repeat' constructor)) rfl ?nx86
   case hc83 => exact rsl_cells _
   case hr84 => exact fun h hp => by have := slR_rd_to hi hp; rw [(flat_take (f := rsC) (sz := 3) (fun _ => rfl) _ i).1] at this; exact this
   case hb85 => omega
   rintro v L' ⟨⟨a6, c6, rfl⟩, rfl⟩; rw [Nat.zero_add, List.nil_append]
   refine G.q (Quiet.assign rfl) rfl (G.nil (G.then_n (G.seq (G.region (G.q (Quiet.move rfl) rfl ?_)))))
   refine G.q (Quiet.loadAs (vs := rsC (id, (n, s))) rfl ag_134 (by (repeat' constructor)) (by simp [rsC]) rfl) rfl ?_
   refine G.op (OpSpec.buildSlice (vs := [_]) el_99 ze_134 rfl rfl rfl rfl (by first | (simp [Value.cells]; done) | (intro v hv; simp only [List.mem_cons, List.not_mem_nil, or_false] at hv; (repeat (first | (subst hv; rfl) | (rcases hv with hv | hv; (subst hv; rfl)))))) (by decide)) (by (repeat' constructor)) rfl ?nx89
   rintro v L' ⟨b7_2, rfl, rfl⟩
   refine G.op (OpSpec.append1 rfl rfl rfl el_99 ze_134 rfl rfl ?c91 ?c92 (Nat.le_refl _) ?c93 (by decide)) (by (repeat' constructor)) rfl ?nx94
   case c91 => first | exact rs_cells _ | (simp only [List.map_cons, List.map_nil, List.flatten_cons, List.flatten_nil, List.append_nil]; exact rs_cells _)
   case c92 => rfl
   case c93 => first | omega | (simp; omega)
   rintro v L' ⟨⟨a7_3, c7_3, rfl⟩, rfl⟩
   refine G.q (Quiet.assign rfl) rfl (G.nil ?_)
   refine G.slCast (T := 134) (sz := 3) (m' := i + 1) (xs' := (((dropS τ id).sess.take i) ++ [(id, (n, s))]).flatMap rsC) (by (repeat' constructor)) rfl (by rw [List.flatMap_append]; simp; rfl) ?_
   refine G.then_n (G.region (G.q (Quiet.move rfl) rfl (G.q (Quiet.move rfl) rfl (G.q (Quiet.move rfl) rfl (G.q (Quiet.nilp rfl) rfl (G.q (Quiet.fieldAddr rfl fo_101_1) rfl ?_))))))
   refine G.q (Quiet.load rfl ag_99 (by (repeat' constructor)) (rfl)) rfl ?_
   refine G.q (Quiet.move rfl) rfl ?_
   refine G.q (Quiet.slFromO (i := (i : Int)) rfl el_99 rfl (by omega)) rfl ?_
   refine G.op (OpSpec.append (n := i + 1) (m := (dropS τ id).sess.length - (i : Int).toNat) (ys := ((dropS τ id).sess.drop i).flatMap rsC) (p := slR 134 3 (.slice (some (⟨bs, 0, none⟩ : Addr)) (dropS τ id).sess.length cs) (dropS τ id).sess.length ((dropS τ id).sess.flatMap rsC)) rfl rfl rfl el_99 (.inl ⟨_, Tryz.underlying99⟩) ze_134 rfl rfl ?hc103 ?hr104 ?hb105 (by decide)) (by (repeat' constructor)) rfl ?nx106
   case hc103 => exact rsl_cells _
   case hr104 => exact fun h hp => by rw [Int.toNat_natCast]; have := slR_rd_from hi hp; rw [(flat_take (f := rsC) (sz := 3) (fun _ => rfl) _ i).2] at this; exact this
   case hb105 => omega
   rintro v L' ⟨⟨a8, c8, rfl⟩, rfl⟩
   refine G.q (Quiet.nilp rfl) rfl (G.q (Quiet.fieldAddr rfl fo_101_1) rfl ?_)
   refine G.op (OpSpec.store rfl rfl rfl sz_99 ?c110 ?c111) (by (repeat' constructor)) rfl ?nx112
   case c110 => first | decide | (simp; omega) | simp
   case c111 => exact nfz0 _ _
   rintro v L' rfl
   refine G.nil (G.done_n ?_)
   have hfin : ((dropS τ id).sess.take i) ++ [(id, (n, s))] ++ ((dropS τ id).sess.drop i) = (openS τ id n s).sess := by rw [sset_at hi hlow hhigh (fun w hw => by have := (List.mem_filter.1 hw).2; simpa using this), ← open_drop ho id n s]; rfl
   have hlen : i + 1 + ((dropS τ id).sess.length - (i : Int).toNat) = (openS τ id n s).sess.length := by rw [← hfin]; simp; omega
   refine G.rfFold (x := x) (τ := (openS τ id n s)) (l := l) hl (by (repeat' constructor)) rfl rfl rfl hlen (by rw [← List.flatMap_append, hfin]) ?_
   exact G.done (l := []) rfl rfl ⟨rfl, rfl⟩ (by (repeat' constructor)) (by (repeat' constructor))

end Go.Proofs.YtnnbelmpbmfdnaaGreatDoor

/- Own work, by program: the document's tree: kids, owners, clones, soundness: walked. -/

namespace Go.Proofs.YtnnbelmpbmfdnaaGreatDoor
open Go
set_option maxRecDepth 100000 in
theorem rkids_spec (x : Nat) (τ : Tr) (p : Bs) (N : Nat) (ho : τ.Ok N) (hN : N ≤ 1073741824) : Fn Tryz.prog 65 #[vptr x, vstr p] [refR x τ] fun v L => (∃ a c, v = .slice a (kidsZ τ p).length c) ∧ L = [refR x τ, slR 9 1 v (kidsZ τ p).length (strs (kidsZ τ p))] := by
 refine Fn.intro (vs := [vptr x, vstr p]) Tryz.func65 rfl rfl ?_
 intro F W
 refine G.rfOpen (x := x) (τ := τ) (by (repeat' constructor)) fun an cn as1 cs l hl => ?_
 have hll := nds_len hl
 have hofew := ho.few
 refine G.add (slR_nil 9 1) ?_
 refine G.seq (G.region (G.q (Quiet.assign rfl) rfl (G.nil (G.then_n (G.seq (G.region (G.q (Quiet.assign rfl) rfl (G.nil (G.then_n (G.seq (G.seq (G.region (G.q (Quiet.assign rfl) rfl (G.nil (G.then_n (G.block ?_))))))))))))))))
 refine G.loopK (ι := Nat × Value) (fun q E => (6, vint q.1) :: (5, q.2) :: E) (fun q => [slR 9 1 q.2 (kidsN (l.take q.1) p).length (strs (kidsN (l.take q.1) p))]) (fun q => q.1 ≤ l.length ∧ ∃ a c, q.2 = .slice a (kidsN (l.take q.1) p).length c) (fun q => l.length - q.1) (0, .slice none 0 0) (ts := [0, 1, 4]) (.cons rfl (.cons rfl (.cons rfl (.nil)))) (⟨Nat.zero_le _, none, 0, rfl⟩) ⟨rfl, rfl, rfl, rfl, rfl, trivial⟩ (by (repeat' constructor)) ?_
 rintro ⟨i, u⟩ ⟨hi, au, cu, hu⟩
 dsimp only
 dsimp only at hi hu
 subst hu
 have hkl := kidsN_len (l.take i) p
 rw [List.length_take] at hkl
 refine G.seq (G.seq (G.region (G.q (Quiet.move rfl) rfl (G.q (Quiet.move rfl) rfl (G.q (Quiet.nilp rfl) rfl (G.q (Quiet.fieldAddr rfl fo_101_0) rfl ?_))))))
 refine G.q (Quiet.load rfl ag_98 (by (repeat' constructor)) (rfl)) rfl ?_
 refine G.q (Quiet.slen rfl Tryz.underlying98 rfl) rfl (G.q (Quiet.int rfl rfl rfl) rfl (G.nil (G.then_n ?_)))
 refine G.condD rfl (fun h13 => ?_) (fun h13 => ?_)
 ·have hi2 : i < l.length := by omega
  have hpi : l[i].1.length ≤ 60 := by have := nds_get hl hi2; have h2 := able_len (ho.able _ (List.getElem_mem (l := τ.nodes) (n := i) (by omega))); rw [this] at h2; exact h2
  refine G.slShape (T := 131) (sz := 12) (v := .slice an l.length cn) (xs := l.flatMap rnC) (by (repeat' constructor)) (by omega) fun bn bn' e0 mbn _ => ?_
  simp only [Value.slice.injEq, true_and] at e0
  obtain ⟨rfl, rfl⟩ := e0
  refine G.skip (G.then_n (G.seq (G.block (G.seq (G.region (G.q (Quiet.move rfl) rfl (G.q (Quiet.nilp rfl) rfl (G.q (Quiet.fieldAddr rfl fo_101_0) rfl ?_))))))))
  refine G.q (Quiet.load rfl ag_98 (by (repeat' constructor)) (rfl)) rfl ?_
  refine G.q (Quiet.move rfl) rfl ?_
  refine G.q (Quiet.indexAddr rfl rfl el_98 (by omega)) rfl ?_
  refine G.q (Quiet.fieldAddr rfl fo_131_0) rfl ?_
  refine G.q (Quiet.loadRd (sz := 12) (j := i * 12 + 0) (p := rnR _ l) rfl ag_9 (by (repeat' constructor)) (fun h hp => slR_rd hp) (by omega) ((rn_cell (l := l) (i := i) (k := 0) (by omega) (by decide)).trans rfl)) rfl ?_
  refine G.q (Quiet.strne rfl rfl) rfl (G.q (Quiet.move rfl) rfl ?_)
  refine G.ndec (t := 25) rfl (fun h5_25 => ?_) (fun h5_25 => ?_)
  ·refine G.kNT (t := 24) rfl h5_25 (G.grun (t := 25) rfl rfl rfl (G.q (Quiet.move rfl) rfl (G.grun (t := 25) rfl rfl rfl (G.q (Quiet.nilp rfl) rfl (G.grun (t := 25) rfl rfl rfl (G.q (Quiet.fieldAddr rfl fo_101_0) rfl (G.grun (t := 25) rfl rfl rfl ?_)))))))
   refine G.q (Quiet.load rfl ag_98 (by (repeat' constructor)) (rfl)) rfl ?_
   refine G.grun (t := 25) rfl rfl rfl (G.q (Quiet.move rfl) rfl (G.grun (t := 25) rfl rfl rfl ?_))
   refine G.q (Quiet.indexAddr rfl rfl el_98 (by omega)) rfl ?_
   refine G.grun (t := 25) rfl rfl rfl (G.q (Quiet.fieldAddr rfl fo_131_0) rfl (G.grun (t := 25) rfl rfl rfl ?_))
   refine G.q (Quiet.loadRd (sz := 12) (j := i * 12 + 0) (p := rnR _ l) rfl ag_9 (by (repeat' constructor)) (fun h hp => slR_rd hp) (by omega) ((rn_cell (l := l) (i := i) (k := 0) (by omega) (by decide)).trans rfl)) rfl ?_
   refine G.grun (t := 25) rfl rfl rfl ?_
   refine G.op (OpSpec.call Tryz.func51 rfl rfl (vs := [_]) rfl (rparent_spec l[i].1 (by omega))) (by (repeat' constructor)) rfl ?nx28
   rintro v L' ⟨rfl, rfl⟩
   refine G.grun (t := 25) rfl rfl rfl (G.q (Quiet.move rfl) rfl (G.grun (t := 25) rfl rfl rfl (G.q (Quiet.streq rfl rfl) rfl (G.q (Quiet.pickT rfl rfl) rfl (G.nil (G.then_n ?_))))))
   refine G.condD rfl (fun h37 => ?_) (fun h37 => ?_)
   ·refine G.region (G.q (Quiet.move rfl) rfl (G.q (Quiet.move rfl) rfl (G.q (Quiet.nilp rfl) rfl (G.q (Quiet.fieldAddr rfl fo_101_0) rfl ?_))))
    refine G.q (Quiet.load rfl ag_98 (by (repeat' constructor)) (rfl)) rfl ?_
    refine G.q (Quiet.move rfl) rfl ?_
    refine G.q (Quiet.indexAddr rfl rfl el_98 (by omega)) rfl ?_
    refine G.q (Quiet.fieldAddr rfl fo_131_0) rfl ?_
    refine G.q (Quiet.loadRd (sz := 12) (j := i * 12 + 0) (p := rnR _ l) rfl ag_9 (by (repeat' constructor)) (fun h hp => slR_rd hp) (by omega) ((rn_cell (l := l) (i := i) (k := 0) (by omega) (by decide)).trans rfl)) rfl ?_
    refine G.op (OpSpec.call Tryz.func107 rfl rfl (vs := [_]) rfl (rbase_spec l[i].1 (by omega))) (by (repeat' constructor)) rfl ?nx41
    rintro v L' ⟨rfl, rfl⟩
    refine G.op (OpSpec.buildSlice1 (vs := [_]) el_40 ze_9 rfl rfl rfl rfl rfl (by decide)) (by (repeat' constructor)) rfl ?nx43
    rintro v L' ⟨b6_10, rfl, rfl⟩
    refine G.op (OpSpec.append1 rfl rfl rfl el_40 ze_9 rfl rfl ?c45 ?c46 (Nat.le_refl _) ?c47 (by decide)) (by (repeat' constructor)) rfl ?nx48
    case c45 => (first | (simp [isCell]; done) | (simp [isCell, setAll, Value.cells]; done))
    case c46 => rfl
    case c47 => first | omega | (simp; omega)
    rintro v L' ⟨⟨a6_11, c6_11, rfl⟩, rfl⟩
    refine G.q (Quiet.assign rfl) rfl (G.nil (G.blk_n (G.then_n (G.region (G.q (Quiet.move rfl) rfl ?_)))))
    refine G.q (Quiet.add rfl rfl (by omega)) rfl ?_
    refine G.q (Quiet.assign rfl) rfl (G.nil (G.then_n ?_))
    have hst : (kidsN (l.take (i + 1)) p) = (kidsN (l.take i) p) ++ [baseZ l[i].1] := by unfold kidsN; rw [List.take_succ_eq_append_getElem hi2, List.filter_append, List.map_append]; simp [show ¬ l[i].1 = [47] from h5_25, show parentZ l[i].1 = p from h37]
    rw [show strs (kidsN (l.take i) p) ++ [vstr (baseZ l[i].1)] = strs (kidsN (l.take (i + 1)) p) by rw [hst]; simp [strs], show (kidsN (l.take i) p).length + 1 = (kidsN (l.take (i + 1)) p).length by rw [hst, List.length_append]; rfl]
    exact G.roundK ((i + 1, .slice a6_11 (kidsN (l.take (i + 1)) p).length c6_11)) (⟨by dsimp only; omega, _, _, rfl⟩) (by dsimp only; omega) ⟨rfl, rfl, rfl, rfl, rfl, trivial⟩ (by (repeat' constructor)) (by ((repeat (apply Have.cons; (repeat (first | exact Pick.here | apply Pick.there)))); apply Have.base; repeat' constructor))
   ·refine G.skip (G.blk_n (G.then_n (G.region (G.q (Quiet.move rfl) rfl ?_))))
    refine G.q (Quiet.add rfl rfl (by omega)) rfl ?_
    refine G.q (Quiet.assign rfl) rfl (G.nil (G.then_n ?_))
    have hst : (kidsN (l.take (i + 1)) p) = (kidsN (l.take i) p) := by unfold kidsN; rw [List.take_succ_eq_append_getElem hi2, List.filter_append, List.map_append]; simp; exact fun g1 g2 => h37 g2
    rw [← hst]
    exact G.roundK ((i + 1, .slice au (kidsN (l.take (i + 1)) p).length cu)) (⟨by dsimp only; omega, _, _, rfl⟩) (by dsimp only; omega) ⟨rfl, rfl, rfl, rfl, rfl, trivial⟩ (by (repeat' constructor)) (by ((repeat (apply Have.cons; (repeat (first | exact Pick.here | apply Pick.there)))); apply Have.base; repeat' constructor))
  ·refine G.kNF (t := 24) rfl h5_25 (G.gskip (t := 25) rfl rfl rfl rfl (G.gskip (t := 25) rfl rfl rfl rfl (G.gskip (t := 25) rfl rfl rfl rfl (G.gskip (t := 25) rfl rfl rfl rfl (G.gskip (t := 25) rfl rfl rfl rfl (G.gskip (t := 25) rfl rfl rfl rfl (G.gskip (t := 25) rfl rfl rfl rfl (G.gskip (t := 25) rfl rfl rfl rfl (G.gskip (t := 25) rfl rfl rfl rfl (G.gskip (t := 25) rfl rfl rfl rfl (G.gskip (t := 25) rfl rfl rfl rfl (G.q (Quiet.pickF rfl rfl) rfl (G.nil (G.then_n (G.condF rfl (G.skip (G.blk_n (G.then_n (G.region (G.q (Quiet.move rfl) rfl ?_))))))))))))))))))))
   refine G.q (Quiet.add rfl rfl (by omega)) rfl ?_
   refine G.q (Quiet.assign rfl) rfl (G.nil (G.then_n ?_))
   have hst : (kidsN (l.take (i + 1)) p) = (kidsN (l.take i) p) := by unfold kidsN; rw [List.take_succ_eq_append_getElem hi2, List.filter_append, List.map_append]; simp; exact fun g1 _ => g1 h5_25
   rw [← hst]
   exact G.roundK ((i + 1, .slice au (kidsN (l.take (i + 1)) p).length cu)) (⟨by dsimp only; omega, _, _, rfl⟩) (by dsimp only; omega) ⟨rfl, rfl, rfl, rfl, rfl, trivial⟩ (by (repeat' constructor)) (by ((repeat (apply Have.cons; (repeat (first | exact Pick.here | apply Pick.there)))); apply Have.base; repeat' constructor))
 ·have hii : i = l.length := by omega
  rw [hii, List.take_length, kidsN_eq hl]
  refine G.exit (G.then_e (G.then_e (G.blk_e (G.then_n (G.seq (G.region (G.q (Quiet.move rfl) rfl (G.q (Quiet.assign rfl) rfl (G.nil (G.then_n (G.ret ?_)))))))))))
  refine G.rfFold (x := x) (τ := τ) (l := l) hl (by (repeat' constructor)) rfl rfl rfl rfl rfl ?_
  exact G.done (l := [.tmp 4]) rfl rfl ⟨⟨_, _, rfl⟩, rfl⟩ (by (repeat' constructor)) (by (repeat' constructor))

end Go.Proofs.YtnnbelmpbmfdnaaGreatDoor

/- Own work, by program: the document's tree: entries, and what is told: walked. -/
namespace Go.Proofs.YtnnbelmpbmfdnaaGreatDoor
open Go
def applyZ0 (τ : Tr) (zx : Int) (x : Pt) (subs : List Pt) : Tr × (List Ev × Int) :=
  if x.kind = 5 then (if 0 < x.own then openS τ x.own x.num x.data else τ, ([], 0))
  else if x.kind = 6 then (dropS (partsZ τ zx (subs.filter isDel)).1 x.own, ((partsZ τ zx (subs.filter isDel)).2, 0))
  else if x.kind = 7 then ((partsZ τ zx subs).1, ((partsZ τ zx subs).2, 0))
  else if x.kind = 8 then (τ, ([], x.err))
  else ((partZ τ x zx).1, ((partZ τ x zx).2, 0))
theorem part_zx (τ : Tr) (x : Pt) (zx z : Int) : partZ (zxT τ z) x zx = (zxT (partZ τ x zx).1 z, (partZ τ x zx).2) := by
  unfold partZ createZ eraseZ
  have h : ∀ p, thereT (zxT τ z) p ↔ thereT τ p := fun p => Iff.rfl
  simp only [h]
  repeat' split
  all_goals first | rfl | contradiction
theorem parts_zx (τ : Tr) (zx z : Int) (l : List Pt) : partsZ (zxT τ z) zx l = (zxT (partsZ τ zx l).1 z, (partsZ τ zx l).2) := by
  have key : ∀ (l : List Pt) (r : Tr × List Ev), l.foldl (fun r x => ((partZ r.1 x zx).1, r.2 ++ (partZ r.1 x zx).2)) (zxT r.1 z, r.2) = (zxT (l.foldl (fun r x => ((partZ r.1 x zx).1, r.2 ++ (partZ r.1 x zx).2)) r).1 z, (l.foldl (fun r x => ((partZ r.1 x zx).1, r.2 ++ (partZ r.1 x zx).2)) r).2) := by
    intro l
    induction l with
    | nil => intro r; rfl
    | cons x l ih =>
      intro r
      rw [List.foldl_cons, List.foldl_cons]
      dsimp only
      rw [part_zx]
      exact ih ((partZ r.1 x zx).1, r.2 ++ (partZ r.1 x zx).2)
  exact key l (τ, [])
theorem apply_zx (τ : Tr) (zx : Int) (x : Pt) (subs : List Pt) : applyZ τ zx x subs = (zxT (applyZ0 τ zx x subs).1 zx, (applyZ0 τ zx x subs).2) := by
  unfold applyZ applyZ0
  dsimp only
  rw [part_zx, parts_zx, parts_zx]
  repeat' split
  all_goals rfl
set_option maxRecDepth 100000 in
theorem rapply_spec (x : Nat) (τ : Tr) (zx ses xid : Int) (y : Pt) (subs : List Pt) (p : HP) (hx : TxA p y subs) (N : Nat) (ho : τ.Ok N) (hN : N + subs.length + 1 ≤ 1073741824) : Fn Tryz.prog 26 #[vptr x, .agg ([vint zx, vint ses, vint xid] ++ ptC y).toArray] [refR x τ, p] fun v L => ∃ u e, v = .tuple #[u, vint e] ∧ e = (applyZ τ zx y subs).2.2 ∧ (∃ a c, u = .slice a (applyZ τ zx y subs).2.1.length c) ∧ L = [refR x (applyZ τ zx y subs).1, p, slR 75 3 u (applyZ τ zx y subs).2.1.length ((applyZ τ zx y subs).2.1.flatMap evC)] := by
 refine Fn.intro (vs := [vptr x, .agg ([vint zx, vint ses, vint xid] ++ ptC y).toArray]) Tryz.func26 rfl rfl ?_
 intro F W
 refine G.rdAny (p := p) hx.rd (by (repeat' constructor)) fun asb csb esub _ => ?_
 have hrd := hx.rd
 rw [esub] at hrd
 have hfs := hx.few
 have hosf := ho.sfew
 refine G.seq (G.region ?_)
 refine G.op (OpSpec.box rfl) (by (repeat' constructor)) rfl ?nx1
 rintro v L' ⟨be, rfl, rfl⟩
 refine G.q (Quiet.assign rfl) rfl (G.q (Quiet.assign rfl) rfl (G.nil ?_))
 refine G.ptCast (b := be) (l' := ([vint zx, vint ses, vint xid] ++ ptC y)) (by (repeat' constructor)) rfl ?_
 refine G.then_n (G.seq (G.region (G.q (Quiet.fieldAddr rfl fo_39_3) rfl ?_)))
 refine G.q (Quiet.loadAs (vs := ptC y) rfl ag_37 (by (repeat' constructor)) (by simp [ptC]) rfl) rfl ?_
 refine G.op (OpSpec.allocA ze_37) (by (repeat' constructor)) rfl ?nx7
 rintro v L' ⟨bx, rfl, rfl⟩
 refine G.op (OpSpec.storeA rfl rfl ?c9 sz_37 ?c12 ?c10 ?c11) (by (repeat' constructor)) rfl ?nx13
 case c9 => exact hx.own.all
 case c12 => rfl
 case c10 => simp [ptC]
 case c11 => exact nfz0 _ _
 rintro v L' rfl
 refine G.nil ?_
 refine G.ptCast (b := bx) (l' := ptC y) (by (repeat' constructor)) rfl ?_
 refine G.then_n (G.seq (G.region (G.q (Quiet.assign rfl) rfl (G.nil (G.then_n (G.seq (G.region (G.q (Quiet.assign rfl) rfl (G.nil (G.then_n (G.seq (G.seq (G.region (G.q (Quiet.fieldAddr rfl fo_37_0) rfl ?_))))))))))))))
 refine G.q (Quiet.load rfl ag_3 (by (repeat' constructor)) (rfl)) rfl ?_
 refine G.nil (G.then_n (G.block (G.seq (G.region (G.q (Quiet.int rfl rfl rfl) rfl (G.q (Quiet.assign rfl) rfl (G.nil (G.then_n ?_))))))))
 refine G.condD rfl (fun h20 => ?_) (fun h20 => ?_)
 ·refine G.seq (G.region (G.q (Quiet.fieldAddr rfl fo_37_4) rfl ?_))
  refine G.q (Quiet.load rfl ag_3 (by (repeat' constructor)) (rfl)) rfl ?_
  refine G.q (Quiet.int rfl rfl rfl) rfl (G.nil (G.then_n ?_))
  refine G.condD rfl (fun h24 => ?_) (fun h24 => ?_)
  ·refine G.region (G.q (Quiet.move rfl) rfl (G.q (Quiet.fieldAddr rfl fo_37_4) rfl ?_))
   refine G.q (Quiet.load rfl ag_3 (by (repeat' constructor)) (rfl)) rfl ?_
   refine G.q (Quiet.fieldAddr rfl fo_37_5) rfl ?_
   refine G.q (Quiet.load rfl ag_3 (by (repeat' constructor)) (rfl)) rfl ?_
   refine G.q (Quiet.fieldAddr rfl fo_37_2) rfl ?_
   refine G.q (Quiet.load rfl ag_9 (by (repeat' constructor)) (rfl)) rfl ?_
   refine G.q (Quiet.to (v' := .agg (rsC (y.own, (y.num, y.data))).toArray) (Quiet.build (us := [(0, _), (1, _), (2, _)]) fl_134 ze_134 rfl rfl (by simp [isCell])) rfl) rfl ?_
   refine G.op (OpSpec.call Tryz.func59 rfl rfl (vs := [_, _]) rfl (ropen_spec x τ y.own y.num y.data N ho (by omega))) (by (repeat' constructor)) rfl ?nx30
   rintro v L' ⟨rfl, rfl⟩
   refine G.nil (G.blk_n (G.then_n (G.seq (G.add (slR_nil 75 3) ?_))))
   have hz : (applyZ τ zx y subs) = (zxT (openS τ y.own y.num y.data) zx, ([], 0)) := by rw [apply_zx]; unfold applyZ0; rw [if_pos h20, if_pos (show 0 < y.own by omega)]
   refine G.rfOpen (x := x) (τ := (openS τ y.own y.num y.data)) (by (repeat' constructor)) fun an cn as1 cs l hl => ?_
   refine G.region (G.q (Quiet.move rfl) rfl (G.q (Quiet.fieldAddr rfl fo_39_0) rfl ?_))
   refine G.q (Quiet.load rfl ag_3 (by (repeat' constructor)) (rfl)) rfl ?_
   refine G.q (Quiet.nilp rfl) rfl (G.q (Quiet.fieldAddr rfl fo_101_2) rfl ?_)
   refine G.op (OpSpec.store rfl rfl rfl sz_3 ?c37 ?c38) (by (repeat' constructor)) rfl ?nx39
   case c37 => first | decide | (simp; omega) | simp
   case c38 => exact nfz0 _ _
   rintro v L' rfl
   refine G.nil ?_
   refine G.rfFold (x := x) (τ := (zxT (openS τ y.own y.num y.data) zx)) (l := l) hl (by (repeat' constructor)) rfl rfl rfl rfl rfl ?_
   refine G.then_n (G.seq (G.region (G.q (Quiet.move rfl) rfl (G.q (Quiet.move rfl) rfl (G.q (Quiet.assign rfl) rfl (G.q (Quiet.assign rfl) rfl (G.nil (G.then_n (G.ret ?_)))))))))
   refine G.rfCast (x := x) (τ' := (applyZ τ zx y subs).1) (by (repeat' constructor)) (by rw [hz]) ?_
   refine G.slCast (T := 75) (sz := 3) (m' := (applyZ τ zx y subs).2.1.length) (xs' := (applyZ τ zx y subs).2.1.flatMap evC) (by (repeat' constructor)) (by (rw [hz]; try rfl)) (by (rw [hz]; try rfl)) ?_
   exact G.done (l := [.tmp 4, .tmp 5]) rfl rfl ⟨_, _, rfl, by rw [hz], ⟨_, _, by (rw [hz]; try rfl)⟩, rfl⟩ (by (repeat' constructor)) (by (repeat' constructor))
  ·refine G.skip (G.blk_n (G.then_n (G.seq (G.add (slR_nil 75 3) ?_))))
   have hz : (applyZ τ zx y subs) = (zxT (τ) zx, ([], 0)) := by rw [apply_zx]; unfold applyZ0; rw [if_pos h20, if_neg (show ¬ 0 < y.own by omega)]
   refine G.rfOpen (x := x) (τ := (τ)) (by (repeat' constructor)) fun an cn as1 cs l hl => ?_
   refine G.region (G.q (Quiet.move rfl) rfl (G.q (Quiet.fieldAddr rfl fo_39_0) rfl ?_))
   refine G.q (Quiet.load rfl ag_3 (by (repeat' constructor)) (rfl)) rfl ?_
   refine G.q (Quiet.nilp rfl) rfl (G.q (Quiet.fieldAddr rfl fo_101_2) rfl ?_)
   refine G.op (OpSpec.store rfl rfl rfl sz_3 ?c45 ?c46) (by (repeat' constructor)) rfl ?nx47
   case c45 => first | decide | (simp; omega) | simp
   case c46 => exact nfz0 _ _
   rintro v L' rfl
   refine G.nil ?_
   refine G.rfFold (x := x) (τ := (zxT (τ) zx)) (l := l) hl (by (repeat' constructor)) rfl rfl rfl rfl rfl ?_
   refine G.then_n (G.seq (G.region (G.q (Quiet.move rfl) rfl (G.q (Quiet.move rfl) rfl (G.q (Quiet.assign rfl) rfl (G.q (Quiet.assign rfl) rfl (G.nil (G.then_n (G.ret ?_)))))))))
   refine G.rfCast (x := x) (τ' := (applyZ τ zx y subs).1) (by (repeat' constructor)) (by rw [hz]) ?_
   refine G.slCast (T := 75) (sz := 3) (m' := (applyZ τ zx y subs).2.1.length) (xs' := (applyZ τ zx y subs).2.1.flatMap evC) (by (repeat' constructor)) (by (rw [hz]; try rfl)) (by (rw [hz]; try rfl)) ?_
   exact G.done (l := [.tmp 4, .tmp 5]) rfl rfl ⟨_, _, rfl, by rw [hz], ⟨_, _, by (rw [hz]; try rfl)⟩, rfl⟩ (by (repeat' constructor)) (by (repeat' constructor))
 ·refine G.seq (G.seq (G.region ?_))
  rcases Decidable.em (y.kind = 6) with hk6 | hk6
  ·refine G.q (Quiet.as (v' := .bool true) (by exact congrArg Value.bool (decide_eq_true hk6)) (Quiet.int rfl rfl rfl)) rfl ?_
   refine G.q (Quiet.assign rfl) rfl (G.nil (G.then_n (G.condT rfl (G.skip (G.then_n (G.condT rfl (G.seq (G.seq (G.region (G.q (Quiet.assign rfl) rfl (G.nil (G.then_n (G.block (G.add (slR_nil 75 3) ?_))))))))))))))
   refine G.rfCast (x := x) (τ' := (partsZ τ zx ((subs.take 0).filter isDel)).1) (by (repeat' constructor)) (by rw [List.take_zero]; rfl) ?_
   refine G.slCast (T := 75) (sz := 3) (m' := (partsZ τ zx ((subs.take 0).filter isDel)).2.length) (xs' := (partsZ τ zx ((subs.take 0).filter isDel)).2.flatMap evC) (by (repeat' constructor)) (by rw [List.take_zero]; rfl) (by rw [List.take_zero]; rfl) ?_
   refine G.loopK (ι := Nat × Value) (fun q E => (9, vint q.1) :: (7, q.2) :: E) (fun q => [refR x (partsZ τ zx ((subs.take q.1).filter isDel)).1, slR 75 3 q.2 (partsZ τ zx ((subs.take q.1).filter isDel)).2.length ((partsZ τ zx ((subs.take q.1).filter isDel)).2.flatMap evC)]) (fun q => q.1 ≤ subs.length ∧ ∃ a c, q.2 = .slice a (partsZ τ zx ((subs.take q.1).filter isDel)).2.length c) (fun q => subs.length - q.1) (0, .slice none 0 0) (ts := [0, 3, 4, 5, 6, 8]) (.cons rfl (.cons rfl (.cons rfl (.cons rfl (.cons rfl (.cons rfl (.nil))))))) (⟨Nat.zero_le _, none, 0, by rw [List.take_zero]; rfl⟩) ⟨rfl, rfl, rfl, rfl, rfl, rfl, rfl, rfl, trivial⟩ (by (repeat' constructor)) ?_
   rintro ⟨i, u⟩ ⟨hi, au, cu, hu⟩
   dsimp only
   dsimp only at hi hu
   subst hu
   have hev := parts_ev τ zx ((subs.take i).filter isDel)
   have hfl := List.length_filter_le isDel (subs.take i)
   rw [List.length_take] at hfl
   have hok : (partsZ τ zx ((subs.take i).filter isDel)).1.Ok (N + subs.length) := (ho.parts zx _ (fun w hw => (hx.each w (List.mem_of_mem_take (List.mem_filter.1 hw).1)).few)).more (by omega)
   refine G.seq (G.seq (G.region (G.q (Quiet.move rfl) rfl (G.q (Quiet.fieldAddr rfl fo_37_7) rfl ?_))))
   refine G.q (Quiet.as (v' := .slice asb subs.length csb) (by exact esub) (Quiet.load rfl ag_35 (by (repeat' constructor)) (rfl))) rfl ?_
   refine G.q (Quiet.slen rfl Tryz.underlying35 rfl) rfl (G.q (Quiet.int rfl rfl rfl) rfl (G.nil (G.then_n ?_)))
   refine G.condD rfl (fun h41 => ?_) (fun h41 => ?_)
   ·have hi2 : i < subs.length := by omega
    refine G.rdShape (p := p) hrd (by (repeat' constructor)) (by omega) fun bs os e1 => ?_
    subst e1
    have hys := hx.each _ (List.getElem_mem hi2)
    refine G.skip (G.then_n (G.seq (G.block (G.seq (G.region (G.q (Quiet.fieldAddr rfl fo_37_0) rfl ?_))))))
    refine G.q (Quiet.load rfl ag_3 (by (repeat' constructor)) (rfl)) rfl ?_
    refine G.q (Quiet.as (v' := .bool false) (by exact congrArg Value.bool (decide_eq_false (by omega))) (Quiet.int rfl rfl rfl)) rfl ?_
    refine G.q (Quiet.move rfl) rfl (G.grun (t := 47) rfl rfl rfl (G.q (Quiet.fieldAddr rfl fo_37_7) rfl (G.grun (t := 47) rfl rfl rfl ?_)))
    refine G.q (Quiet.as (v' := .slice (some ⟨bs, os, none⟩) subs.length csb) (by exact esub) (Quiet.load rfl ag_35 (by (repeat' constructor)) (rfl))) rfl ?_
    refine G.grun (t := 47) rfl rfl rfl (G.q (Quiet.move rfl) rfl (G.grun (t := 47) rfl rfl rfl ?_))
    refine G.q (Quiet.indexAddr rfl rfl el_35 (by omega)) rfl ?_
    refine G.grun (t := 47) rfl rfl rfl (G.q (Quiet.fieldAddr rfl fo_37_0) rfl (G.grun (t := 47) rfl rfl rfl ?_))
    refine G.q (Quiet.loadRd (sz := 8) (j := i * 8 + 0) (p := p) rfl ag_3 (by (repeat' constructor)) hrd (by omega) ((flatMap_cell (f := ptC) (sz := 8) (l := subs) (i := i) (k := 0) (fun _ _ => rfl) (by omega) (by decide)).trans rfl)) rfl ?_
    refine G.grun (t := 47) rfl rfl rfl (G.q (Quiet.int rfl rfl rfl) rfl (G.q (Quiet.pickF rfl rfl) rfl (G.nil (G.then_n ?_))))
    refine G.condD rfl (fun h55 => ?_) (fun h55 => ?_)
    ·refine G.seq ?_
     refine G.draw [8] [[0, 1, 2, 3, 4, 5, 6, 7, 8], [9]] mixed (by kernel_rfl) ?_
     refine Phases.go [] (by (repeat' constructor)) ?_
     refine D.qw [8] rfl (by kernel_rfl) (Quiet.move rfl) ?_
     refine D.qw [2, 4, 5, 8] rfl (by kernel_rfl) (Quiet.fieldAddr rfl fo_37_7) ?_
     refine D.qw [4, 5, 8] rfl (by kernel_rfl) (Quiet.as (v' := .slice (some ⟨bs, os, none⟩) subs.length csb) (by exact esub) (Quiet.load rfl ag_35 (by (repeat' constructor)) (rfl))) ?_
     refine D.qw [4, 5, 8] rfl (by kernel_rfl) (Quiet.move rfl) ?_
     refine D.qw [5, 8] rfl (by kernel_rfl) (Quiet.indexAddr rfl rfl el_35 (by omega)) ?_
     refine D.qw [8] rfl (by kernel_rfl) (Quiet.loadRdA (sz := 8) (j := i * 8) (k := 8) (p := p) (vs := ptC subs[i]) rfl ag_37 (by (repeat' constructor)) hrd (by simp) (by omega) (by omega) (flatMap_at (f := ptC) (sz := 8) (fun _ _ => rfl) (by omega))) ?_
     refine D.qw [7, 8] rfl (by kernel_rfl) (Quiet.fieldAddr rfl fo_39_0) ?_
     refine D.qw [8] rfl (by kernel_rfl) (Quiet.load rfl ag_3 (by (repeat' constructor)) (rfl)) ?_
     refine D.h rfl (by kernel_rfl) (OpSpec.call Tryz.func60 rfl rfl (vs := [_, _, _]) rfl (rpart_spec x (partsZ τ zx ((subs.take i).filter isDel)).1 subs[i] zx p hys (N + subs.length) hok (by omega))) (by (repeat' constructor)) ?nx73
     rintro v L' ⟨a15, c15, rfl, rfl⟩
     refine D.ph ?_
     refine Phases.go [] (by (repeat' constructor)) ?_
     refine D.qw [] rfl (by kernel_rfl) (Quiet.assign rfl) ?_
     refine D.ph (Phases.fin (G.then_n (G.region (G.q (Quiet.move rfl) rfl (G.q (Quiet.move rfl) rfl ?_)))))
     refine G.op (OpSpec.append (n := (partsZ τ zx ((subs.take i).filter isDel)).2.length) (m := (partZ (partsZ τ zx ((subs.take i).filter isDel)).1 subs[i] zx).2.length) (ys := (partZ (partsZ τ zx ((subs.take i).filter isDel)).1 subs[i] zx).2.flatMap evC) (p := slR 75 3 (.slice a15 (partZ (partsZ τ zx ((subs.take i).filter isDel)).1 subs[i] zx).2.length c15) (partZ (partsZ τ zx ((subs.take i).filter isDel)).1 subs[i] zx).2.length ((partZ (partsZ τ zx ((subs.take i).filter isDel)).1 subs[i] zx).2.flatMap evC)) rfl rfl rfl el_30 (.inl ⟨_, Tryz.underlying30⟩) ze_75 rfl rfl ?hc76 ?hr77 ?hb78 (by decide)) (by (repeat' constructor)) rfl ?nx79
     case hc76 => exact evC_cells _
     case hr77 => exact fun h hp => slR_rd hp
     case hb78 => have := part_ev (partsZ τ zx ((subs.take i).filter isDel)).1 subs[i] zx; omega
     rintro v L' ⟨⟨a16_2, c16_2, rfl⟩, rfl⟩
     refine G.q (Quiet.assign rfl) rfl (G.nil (G.blk_n (G.then_n (G.region (G.q (Quiet.move rfl) rfl ?_)))))
     refine G.q (Quiet.add rfl rfl (by omega)) rfl ?_
     refine G.q (Quiet.assign rfl) rfl (G.nil (G.then_n ?_))
     have hst := filter_take_yes (f := isDel) hi2 (by unfold isDel; rw [decide_eq_true h55])
     refine G.rfCast (x := x) (τ' := (partsZ τ zx ((subs.take (i + 1)).filter isDel)).1) (by (repeat' constructor)) (by rw [hst, parts_snoc]) ?_
     refine G.slCast (T := 75) (sz := 3) (m' := (partsZ τ zx ((subs.take (i + 1)).filter isDel)).2.length) (xs' := (partsZ τ zx ((subs.take (i + 1)).filter isDel)).2.flatMap evC) (by (repeat' constructor)) (by rw [hst, parts_snoc]; simp) (by rw [hst, parts_snoc]; simp) ?_
     exact G.roundK ((i + 1, .slice a16_2 ((partsZ τ zx ((subs.take i).filter isDel)).2.length + (partZ (partsZ τ zx ((subs.take i).filter isDel)).1 subs[i] zx).2.length) c16_2)) (⟨by dsimp only; omega, _, _, by rw [hst, parts_snoc, List.length_append]⟩) (by dsimp only; omega) ⟨rfl, rfl, rfl, rfl, rfl, rfl, rfl, rfl, trivial⟩ (by (repeat' constructor)) (by ((repeat (apply Have.cons; (repeat (first | exact Pick.here | apply Pick.there)))); apply Have.base; repeat' constructor))
    ·refine G.skip (G.blk_n (G.then_n (G.region (G.q (Quiet.move rfl) rfl ?_))))
     refine G.q (Quiet.add rfl rfl (by omega)) rfl ?_
     refine G.q (Quiet.assign rfl) rfl (G.nil (G.then_n ?_))
     have hst := filter_take_no (f := isDel) hi2 (by unfold isDel; rw [decide_eq_false h55])
     refine G.rfCast (x := x) (τ' := (partsZ τ zx ((subs.take (i + 1)).filter isDel)).1) (by (repeat' constructor)) (by rw [hst]) ?_
     refine G.slCast (T := 75) (sz := 3) (m' := (partsZ τ zx ((subs.take (i + 1)).filter isDel)).2.length) (xs' := (partsZ τ zx ((subs.take (i + 1)).filter isDel)).2.flatMap evC) (by (repeat' constructor)) (by rw [hst]) (by rw [hst]) ?_
     exact G.roundK ((i + 1, .slice au (partsZ τ zx ((subs.take i).filter isDel)).2.length cu)) (⟨by dsimp only; omega, _, _, by rw [hst]⟩) (by dsimp only; omega) ⟨rfl, rfl, rfl, rfl, rfl, rfl, rfl, rfl, trivial⟩ (by (repeat' constructor)) (by ((repeat (apply Have.cons; (repeat (first | exact Pick.here | apply Pick.there)))); apply Have.base; repeat' constructor))
   ·have hii : i = subs.length := by omega
    rw [hii, List.take_length]
    refine G.exit (G.then_e (G.then_e (G.blk_e (G.then_n (G.seq (G.region (G.q (Quiet.fieldAddr rfl fo_37_0) rfl ?_)))))))
    refine G.q (Quiet.load rfl ag_3 (by (repeat' constructor)) (rfl)) rfl ?_
    refine G.q (Quiet.as (v' := .bool true) (by exact congrArg Value.bool (decide_eq_true hk6)) (Quiet.int rfl rfl rfl)) rfl ?_
    refine G.nil (G.then_n (G.condT rfl (G.region (G.q (Quiet.move rfl) rfl (G.q (Quiet.fieldAddr rfl fo_37_4) rfl ?_)))))
    refine G.q (Quiet.load rfl ag_3 (by (repeat' constructor)) (rfl)) rfl ?_
    refine G.op (OpSpec.call Tryz.func61 rfl rfl (vs := [_, _]) rfl (rdrop_spec x (partsZ τ zx (subs.filter isDel)).1 y.own (by have := (ho.parts zx (subs.filter isDel) (fun w hw => (hx.each w (List.mem_filter.1 hw).1).few)).sfew; have := List.length_filter_le isDel subs; omega))) (by (repeat' constructor)) rfl ?nx91
    rintro v L' ⟨rfl, rfl⟩
    refine G.nil (G.blk_n (G.then_n (G.seq ?_)))
    have hz : (applyZ τ zx y subs) = (zxT (dropS (partsZ τ zx (subs.filter isDel)).1 y.own) zx, ((partsZ τ zx (subs.filter isDel)).2, 0)) := by rw [apply_zx]; unfold applyZ0; rw [if_neg h20, if_pos hk6]
    refine G.rfOpen (x := x) (τ := (dropS (partsZ τ zx (subs.filter isDel)).1 y.own)) (by (repeat' constructor)) fun an cn as1 cs l hl => ?_
    refine G.region (G.q (Quiet.move rfl) rfl (G.q (Quiet.fieldAddr rfl fo_39_0) rfl ?_))
    refine G.q (Quiet.load rfl ag_3 (by (repeat' constructor)) (rfl)) rfl ?_
    refine G.q (Quiet.nilp rfl) rfl (G.q (Quiet.fieldAddr rfl fo_101_2) rfl ?_)
    refine G.op (OpSpec.store rfl rfl rfl sz_3 ?c98 ?c99) (by (repeat' constructor)) rfl ?nx100
    case c98 => first | decide | (simp; omega) | simp
    case c99 => exact nfz0 _ _
    rintro v L' rfl
    refine G.nil ?_
    refine G.rfFold (x := x) (τ := (zxT (dropS (partsZ τ zx (subs.filter isDel)).1 y.own) zx)) (l := l) hl (by (repeat' constructor)) rfl rfl rfl rfl rfl ?_
    refine G.then_n (G.seq (G.region (G.q (Quiet.move rfl) rfl (G.q (Quiet.move rfl) rfl (G.q (Quiet.assign rfl) rfl (G.q (Quiet.assign rfl) rfl (G.nil (G.then_n (G.ret ?_)))))))))
    refine G.rfCast (x := x) (τ' := (applyZ τ zx y subs).1) (by (repeat' constructor)) (by rw [hz]) ?_
    refine G.slCast (T := 75) (sz := 3) (m' := (applyZ τ zx y subs).2.1.length) (xs' := (applyZ τ zx y subs).2.1.flatMap evC) (by (repeat' constructor)) (by (rw [hz]; try rfl)) (by (rw [hz]; try rfl)) ?_
    exact G.done (l := [.tmp 4, .tmp 5]) rfl rfl ⟨_, _, rfl, by rw [hz], ⟨_, _, by (rw [hz]; try rfl)⟩, rfl⟩ (by (repeat' constructor)) (by (repeat' constructor))
  ·refine G.q (Quiet.as (v' := .bool false) (by exact congrArg Value.bool (decide_eq_false hk6)) (Quiet.int rfl rfl rfl)) rfl ?_
   refine G.q (Quiet.assign rfl) rfl (G.nil (G.then_n (G.condF rfl (G.region ?_))))
   rcases Decidable.em (y.kind = 7) with hk7 | hk7
   ·refine G.q (Quiet.as (v' := .bool true) (by exact congrArg Value.bool (decide_eq_true hk7)) (Quiet.int rfl rfl rfl)) rfl ?_
    refine G.q (Quiet.assign rfl) rfl (G.nil (G.then_n (G.condT rfl (G.seq (G.seq (G.region (G.q (Quiet.assign rfl) rfl (G.nil (G.then_n (G.block (G.add (slR_nil 75 3) ?_)))))))))))
    refine G.rfCast (x := x) (τ' := (partsZ τ zx (subs.take 0)).1) (by (repeat' constructor)) (by rw [List.take_zero]; rfl) ?_
    refine G.slCast (T := 75) (sz := 3) (m' := (partsZ τ zx (subs.take 0)).2.length) (xs' := (partsZ τ zx (subs.take 0)).2.flatMap evC) (by (repeat' constructor)) (by rw [List.take_zero]; rfl) (by rw [List.take_zero]; rfl) ?_
    refine G.loopK (ι := Nat × Value) (fun q E => (9, vint q.1) :: (7, q.2) :: E) (fun q => [refR x (partsZ τ zx (subs.take q.1)).1, slR 75 3 q.2 (partsZ τ zx (subs.take q.1)).2.length ((partsZ τ zx (subs.take q.1)).2.flatMap evC)]) (fun q => q.1 ≤ subs.length ∧ ∃ a c, q.2 = .slice a (partsZ τ zx (subs.take q.1)).2.length c) (fun q => subs.length - q.1) (0, .slice none 0 0) (ts := [0, 3, 4, 5, 6, 8]) (.cons rfl (.cons rfl (.cons rfl (.cons rfl (.cons rfl (.cons rfl (.nil))))))) (⟨Nat.zero_le _, none, 0, by rw [List.take_zero]; rfl⟩) ⟨rfl, rfl, rfl, rfl, rfl, rfl, rfl, rfl, trivial⟩ (by (repeat' constructor)) ?_
    rintro ⟨i, u⟩ ⟨hi, au, cu, hu⟩
    dsimp only
    dsimp only at hi hu
    subst hu
    have hev := parts_ev τ zx (subs.take i)
    have hfl := List.length_take_le i subs
    have hok : (partsZ τ zx (subs.take i)).1.Ok (N + subs.length) := (ho.parts zx _ (fun w hw => (hx.each w (List.mem_of_mem_take hw)).few)).more (by rw [List.length_take]; omega)
    refine G.seq (G.seq (G.region (G.q (Quiet.move rfl) rfl (G.q (Quiet.fieldAddr rfl fo_37_7) rfl ?_))))
    refine G.q (Quiet.as (v' := .slice asb subs.length csb) (by exact esub) (Quiet.load rfl ag_35 (by (repeat' constructor)) (rfl))) rfl ?_
    refine G.q (Quiet.slen rfl Tryz.underlying35 rfl) rfl (G.q (Quiet.int rfl rfl rfl) rfl (G.nil (G.then_n ?_)))
    refine G.condD rfl (fun h41 => ?_) (fun h41 => ?_)
    ·have hi2 : i < subs.length := by omega
     refine G.rdShape (p := p) hrd (by (repeat' constructor)) (by omega) fun bs os e1 => ?_
     subst e1
     have hys := hx.each _ (List.getElem_mem hi2)
     refine G.skip (G.then_n (G.seq (G.block (G.seq (G.region (G.q (Quiet.fieldAddr rfl fo_37_0) rfl ?_))))))
     refine G.q (Quiet.load rfl ag_3 (by (repeat' constructor)) (rfl)) rfl ?_
     refine G.q (Quiet.as (v' := .bool true) (by exact congrArg Value.bool (decide_eq_true hk7)) (Quiet.int rfl rfl rfl)) rfl ?_
     refine G.q (Quiet.move rfl) rfl (G.gskip (t := 47) rfl rfl rfl rfl (G.gskip (t := 47) rfl rfl rfl rfl (G.gskip (t := 47) rfl rfl rfl rfl (G.gskip (t := 47) rfl rfl rfl rfl (G.gskip (t := 47) rfl rfl rfl rfl (G.gskip (t := 47) rfl rfl rfl rfl (G.gskip (t := 47) rfl rfl rfl rfl (G.q (Quiet.pickT rfl rfl) rfl (G.nil (G.then_n (G.condT rfl (G.seq ?_))))))))))))
     refine G.draw [8] [[0, 1, 2, 3, 4, 5, 6, 7, 8], [9]] mixed (by kernel_rfl) ?_
     refine Phases.go [] (by (repeat' constructor)) ?_
     refine D.qw [8] rfl (by kernel_rfl) (Quiet.move rfl) ?_
     refine D.qw [2, 4, 5, 8] rfl (by kernel_rfl) (Quiet.fieldAddr rfl fo_37_7) ?_
     refine D.qw [4, 5, 8] rfl (by kernel_rfl) (Quiet.as (v' := .slice (some ⟨bs, os, none⟩) subs.length csb) (by exact esub) (Quiet.load rfl ag_35 (by (repeat' constructor)) (rfl))) ?_
     refine D.qw [4, 5, 8] rfl (by kernel_rfl) (Quiet.move rfl) ?_
     refine D.qw [5, 8] rfl (by kernel_rfl) (Quiet.indexAddr rfl rfl el_35 (by omega)) ?_
     refine D.qw [8] rfl (by kernel_rfl) (Quiet.loadRdA (sz := 8) (j := i * 8) (k := 8) (p := p) (vs := ptC subs[i]) rfl ag_37 (by (repeat' constructor)) hrd (by simp) (by omega) (by omega) (flatMap_at (f := ptC) (sz := 8) (fun _ _ => rfl) (by omega))) ?_
     refine D.qw [7, 8] rfl (by kernel_rfl) (Quiet.fieldAddr rfl fo_39_0) ?_
     refine D.qw [8] rfl (by kernel_rfl) (Quiet.load rfl ag_3 (by (repeat' constructor)) (rfl)) ?_
     refine D.h rfl (by kernel_rfl) (OpSpec.call Tryz.func60 rfl rfl (vs := [_, _, _]) rfl (rpart_spec x (partsZ τ zx (subs.take i)).1 subs[i] zx p hys (N + subs.length) hok (by omega))) (by (repeat' constructor)) ?nx123
     rintro v L' ⟨a15, c15, rfl, rfl⟩
     refine D.ph ?_
     refine Phases.go [] (by (repeat' constructor)) ?_
     refine D.qw [] rfl (by kernel_rfl) (Quiet.assign rfl) ?_
     refine D.ph (Phases.fin (G.then_n (G.region (G.q (Quiet.move rfl) rfl (G.q (Quiet.move rfl) rfl ?_)))))
     refine G.op (OpSpec.append (n := (partsZ τ zx (subs.take i)).2.length) (m := (partZ (partsZ τ zx (subs.take i)).1 subs[i] zx).2.length) (ys := (partZ (partsZ τ zx (subs.take i)).1 subs[i] zx).2.flatMap evC) (p := slR 75 3 (.slice a15 (partZ (partsZ τ zx (subs.take i)).1 subs[i] zx).2.length c15) (partZ (partsZ τ zx (subs.take i)).1 subs[i] zx).2.length ((partZ (partsZ τ zx (subs.take i)).1 subs[i] zx).2.flatMap evC)) rfl rfl rfl el_30 (.inl ⟨_, Tryz.underlying30⟩) ze_75 rfl rfl ?hc126 ?hr127 ?hb128 (by decide)) (by (repeat' constructor)) rfl ?nx129
     case hc126 => exact evC_cells _
     case hr127 => exact fun h hp => slR_rd hp
     case hb128 => have := part_ev (partsZ τ zx (subs.take i)).1 subs[i] zx; omega
     rintro v L' ⟨⟨a16_2, c16_2, rfl⟩, rfl⟩
     refine G.q (Quiet.assign rfl) rfl (G.nil (G.blk_n (G.then_n (G.region (G.q (Quiet.move rfl) rfl ?_)))))
     refine G.q (Quiet.add rfl rfl (by omega)) rfl ?_
     refine G.q (Quiet.assign rfl) rfl (G.nil (G.then_n ?_))
     have hst := List.take_succ_eq_append_getElem hi2
     refine G.rfCast (x := x) (τ' := (partsZ τ zx (subs.take (i + 1))).1) (by (repeat' constructor)) (by rw [hst, parts_snoc]) ?_
     refine G.slCast (T := 75) (sz := 3) (m' := (partsZ τ zx (subs.take (i + 1))).2.length) (xs' := (partsZ τ zx (subs.take (i + 1))).2.flatMap evC) (by (repeat' constructor)) (by rw [hst, parts_snoc]; simp) (by rw [hst, parts_snoc]; simp) ?_
     exact G.roundK ((i + 1, .slice a16_2 ((partsZ τ zx (subs.take i)).2.length + (partZ (partsZ τ zx (subs.take i)).1 subs[i] zx).2.length) c16_2)) (⟨by dsimp only; omega, _, _, by rw [hst, parts_snoc, List.length_append]⟩) (by dsimp only; omega) ⟨rfl, rfl, rfl, rfl, rfl, rfl, rfl, rfl, trivial⟩ (by (repeat' constructor)) (by ((repeat (apply Have.cons; (repeat (first | exact Pick.here | apply Pick.there)))); apply Have.base; repeat' constructor))
    ·have hii : i = subs.length := by omega
     rw [hii, List.take_length]
     refine G.exit (G.then_e (G.then_e (G.blk_e (G.then_n (G.seq (G.region (G.q (Quiet.fieldAddr rfl fo_37_0) rfl ?_)))))))
     refine G.q (Quiet.load rfl ag_3 (by (repeat' constructor)) (rfl)) rfl ?_
     refine G.q (Quiet.as (v' := .bool false) (by exact congrArg Value.bool (decide_eq_false (by omega))) (Quiet.int rfl rfl rfl)) rfl ?_
     refine G.nil (G.then_n (G.condF rfl (G.skip (G.blk_n (G.then_n (G.seq ?_))))))
     have hz : (applyZ τ zx y subs) = (zxT ((partsZ τ zx subs).1) zx, ((partsZ τ zx subs).2, 0)) := by rw [apply_zx]; unfold applyZ0; rw [if_neg h20, if_neg hk6, if_pos hk7]
     refine G.rfOpen (x := x) (τ := ((partsZ τ zx subs).1)) (by (repeat' constructor)) fun an cn as1 cs l hl => ?_
     refine G.region (G.q (Quiet.move rfl) rfl (G.q (Quiet.fieldAddr rfl fo_39_0) rfl ?_))
     refine G.q (Quiet.load rfl ag_3 (by (repeat' constructor)) (rfl)) rfl ?_
     refine G.q (Quiet.nilp rfl) rfl (G.q (Quiet.fieldAddr rfl fo_101_2) rfl ?_)
     refine G.op (OpSpec.store rfl rfl rfl sz_3 ?c141 ?c142) (by (repeat' constructor)) rfl ?nx143
     case c141 => first | decide | (simp; omega) | simp
     case c142 => exact nfz0 _ _
     rintro v L' rfl
     refine G.nil ?_
     refine G.rfFold (x := x) (τ := (zxT ((partsZ τ zx subs).1) zx)) (l := l) hl (by (repeat' constructor)) rfl rfl rfl rfl rfl ?_
     refine G.then_n (G.seq (G.region (G.q (Quiet.move rfl) rfl (G.q (Quiet.move rfl) rfl (G.q (Quiet.assign rfl) rfl (G.q (Quiet.assign rfl) rfl (G.nil (G.then_n (G.ret ?_)))))))))
     refine G.rfCast (x := x) (τ' := (applyZ τ zx y subs).1) (by (repeat' constructor)) (by rw [hz]) ?_
     refine G.slCast (T := 75) (sz := 3) (m' := (applyZ τ zx y subs).2.1.length) (xs' := (applyZ τ zx y subs).2.1.flatMap evC) (by (repeat' constructor)) (by (rw [hz]; try rfl)) (by (rw [hz]; try rfl)) ?_
     exact G.done (l := [.tmp 4, .tmp 5]) rfl rfl ⟨_, _, rfl, by rw [hz], ⟨_, _, by (rw [hz]; try rfl)⟩, rfl⟩ (by (repeat' constructor)) (by (repeat' constructor))
   ·refine G.q (Quiet.as (v' := .bool false) (by exact congrArg Value.bool (decide_eq_false hk7)) (Quiet.int rfl rfl rfl)) rfl ?_
    refine G.q (Quiet.assign rfl) rfl (G.nil (G.then_n (G.condF rfl (G.seq (G.region (G.q (Quiet.int rfl rfl rfl) rfl (G.q (Quiet.assign rfl) rfl (G.nil (G.then_n ?_)))))))))
    refine G.condD rfl (fun h75 => ?_) (fun h75 => ?_)
    ·refine G.region (G.q (Quiet.fieldAddr rfl fo_37_6) rfl ?_)
     refine G.q (Quiet.load rfl ag_31 (by (repeat' constructor)) (rfl)) rfl ?_
     refine G.q (Quiet.assign rfl) rfl (G.nil (G.blk_n (G.then_n (G.seq (G.add (slR_nil 75 3) ?_)))))
     have hz : (applyZ τ zx y subs) = (zxT (τ) zx, ([], y.err)) := by rw [apply_zx]; unfold applyZ0; rw [if_neg h20, if_neg hk6, if_neg hk7, if_pos h75]
     refine G.rfOpen (x := x) (τ := (τ)) (by (repeat' constructor)) fun an cn as1 cs l hl => ?_
     refine G.region (G.q (Quiet.move rfl) rfl (G.q (Quiet.fieldAddr rfl fo_39_0) rfl ?_))
     refine G.q (Quiet.load rfl ag_3 (by (repeat' constructor)) (rfl)) rfl ?_
     refine G.q (Quiet.nilp rfl) rfl (G.q (Quiet.fieldAddr rfl fo_101_2) rfl ?_)
     refine G.op (OpSpec.store rfl rfl rfl sz_3 ?c155 ?c156) (by (repeat' constructor)) rfl ?nx157
     case c155 => first | decide | (simp; omega) | simp
     case c156 => exact nfz0 _ _
     rintro v L' rfl
     refine G.nil ?_
     refine G.rfFold (x := x) (τ := (zxT (τ) zx)) (l := l) hl (by (repeat' constructor)) rfl rfl rfl rfl rfl ?_
     refine G.then_n (G.seq (G.region (G.q (Quiet.move rfl) rfl (G.q (Quiet.move rfl) rfl (G.q (Quiet.assign rfl) rfl (G.q (Quiet.assign rfl) rfl (G.nil (G.then_n (G.ret ?_)))))))))
     refine G.rfCast (x := x) (τ' := (applyZ τ zx y subs).1) (by (repeat' constructor)) (by rw [hz]) ?_
     refine G.slCast (T := 75) (sz := 3) (m' := (applyZ τ zx y subs).2.1.length) (xs' := (applyZ τ zx y subs).2.1.flatMap evC) (by (repeat' constructor)) (by (rw [hz]; try rfl)) (by (rw [hz]; try rfl)) ?_
     exact G.done (l := [.tmp 4, .tmp 5]) rfl rfl ⟨_, _, rfl, by rw [hz], ⟨_, _, by (rw [hz]; try rfl)⟩, rfl⟩ (by (repeat' constructor)) (by (repeat' constructor))
    ·refine G.region (G.q (Quiet.move rfl) rfl ?_)
     refine G.q (Quiet.loadAs (vs := ptC y) rfl ag_37 (by (repeat' constructor)) (by simp [ptC]) rfl) rfl ?_
     refine G.q (Quiet.fieldAddr rfl fo_39_0) rfl ?_
     refine G.q (Quiet.load rfl ag_3 (by (repeat' constructor)) (rfl)) rfl ?_
     refine G.op (OpSpec.call Tryz.func60 rfl rfl (vs := [_, _, _]) rfl (rpart_spec x τ y zx p hx.own N ho (by omega))) (by (repeat' constructor)) rfl ?nx162
     rintro v L' ⟨a5, c5, rfl, rfl⟩
     refine G.q (Quiet.assign rfl) rfl (G.nil (G.blk_n (G.then_n (G.seq ?_))))
     have hz : (applyZ τ zx y subs) = (zxT ((partZ τ y zx).1) zx, ((partZ τ y zx).2, 0)) := by rw [apply_zx]; unfold applyZ0; rw [if_neg h20, if_neg hk6, if_neg hk7, if_neg h75]
     refine G.rfOpen (x := x) (τ := ((partZ τ y zx).1)) (by (repeat' constructor)) fun an cn as1 cs l hl => ?_
     refine G.region (G.q (Quiet.move rfl) rfl (G.q (Quiet.fieldAddr rfl fo_39_0) rfl ?_))
     refine G.q (Quiet.load rfl ag_3 (by (repeat' constructor)) (rfl)) rfl ?_
     refine G.q (Quiet.nilp rfl) rfl (G.q (Quiet.fieldAddr rfl fo_101_2) rfl ?_)
     refine G.op (OpSpec.store rfl rfl rfl sz_3 ?c169 ?c170) (by (repeat' constructor)) rfl ?nx171
     case c169 => first | decide | (simp; omega) | simp
     case c170 => exact nfz0 _ _
     rintro v L' rfl
     refine G.nil ?_
     refine G.rfFold (x := x) (τ := (zxT ((partZ τ y zx).1) zx)) (l := l) hl (by (repeat' constructor)) rfl rfl rfl rfl rfl ?_
     refine G.then_n (G.seq (G.region (G.q (Quiet.move rfl) rfl (G.q (Quiet.move rfl) rfl (G.q (Quiet.assign rfl) rfl (G.q (Quiet.assign rfl) rfl (G.nil (G.then_n (G.ret ?_)))))))))
     refine G.rfCast (x := x) (τ' := (applyZ τ zx y subs).1) (by (repeat' constructor)) (by rw [hz]) ?_
     refine G.slCast (T := 75) (sz := 3) (m' := (applyZ τ zx y subs).2.1.length) (xs' := (applyZ τ zx y subs).2.1.flatMap evC) (by (repeat' constructor)) (by (rw [hz]; try rfl)) (by (rw [hz]; try rfl)) ?_
     exact G.done (l := [.tmp 4, .tmp 5]) rfl rfl ⟨_, _, rfl, by rw [hz], ⟨_, _, by (rw [hz]; try rfl)⟩, rfl⟩ (by (repeat' constructor)) (by (repeat' constructor))

end Go.Proofs.YtnnbelmpbmfdnaaGreatDoor

/- Own work, by program: package tree: Acl, Sessions, Lay, LaySession: walked. -/
namespace Go.Proofs.YtnnbelmpbmfdnaaGreatDoor
open Go
def aclD (τ : Tr) (p : Bs) : List Ac := ((alook τ.nodes p).map (·.acl)).getD []
def idsZ (τ : Tr) : List Int := τ.sess.map (·.1)
theorem sortI_id {l : List Int} (h : l.Pairwise (· < ·)) : sortI l = l := by
  unfold sortI
  refine List.mergeSort_of_pairwise (h.imp fun hab => ?_)
  simp only [decide_eq_true_eq]; omega
theorem TrI.ids {τ : Tr} {m : NmM} {s : SsM} (h : TrI τ m s) {N : Nat} (ho : τ.Ok N) : sortI (s.map (·.1)) = idsZ τ := by
  have hp : (s.map (·.1)).Perm (idsZ τ) := (h.sperm ho).map _
  unfold sortI
  rw [mergeSort_of_perm_i hp]
  exact sortI_id ho.ssorted
def laidN (d : Bs) (acl : List Ac) (s : Stt) : Nd := ⟨d, acl, { s with len := 0, kids := 0 }⟩
def layZ (τ : Tr) (p d : Bs) (acl : List Ac) (s : Stt) : Tr := if checkZ p = 0 then { τ with nodes := sset τ.nodes p (laidN d acl s) } else τ
theorem check_able {p : Bs} (h : checkZ p = 0) : p = [47] ∨ ableZ p := by
  by_cases e : p = [47]
  · exact .inl e
  · exact .inr ⟨e, h⟩
theorem Tr.Ok.layZ {τ : Tr} {N : Nat} (h : τ.Ok N) (p d : Bs) {acl : List Ac} (s : Stt) (ha : acl.length ≤ 1048576) : (layZ τ p d acl s).Ok (N + 1) := by
  unfold Go.Proofs.YtnnbelmpbmfdnaaGreatDoor.layZ
  split
  · rename_i e; exact h.lay (check_able e) _ ha
  · exact h.more (by omega)
def layS (τ : Tr) (id n : Int) (s : Bs) : Tr := if 0 < id then openS τ id n s else τ
end Go.Proofs.YtnnbelmpbmfdnaaGreatDoor

/- Own work, by program: the document's tree: Stat, layings, Same: walked. -/

namespace Go.Proofs.YtnnbelmpbmfdnaaGreatDoor
open Go
theorem rn_stat {l : List Rn} {k : Nat} (hk : k < l.length) : ((l.flatMap rnC).drop (k * 12 + 3)).take 9 = stC l[k].2.2.st := by
  have h := flatMap_at (f := rnC) (sz := 12) (l := l) (i := k) (fun _ _ => rfl) hk
  have h2 := congrArg (List.drop 3) h
  rw [List.drop_take, List.drop_drop] at h2
  exact h2
theorem al_get' {β : Type} {l : List (Bs × β)} (hn : (l.map (·.1)).Nodup) {i : Nat} (hi : i < l.length) : alook l l[i].1 = some l[i].2 := al_of_mem hn (List.getElem_mem hi)
theorem stat_none {τ : Tr} {p : Bs} (h : ¬ thereT τ p) : statD τ p = st0 := by
  unfold statD statZ
  unfold thereT at h
  cases e : alook τ.nodes p with
  | none => rfl
  | some y => rw [e] at h; exact absurd rfl h
theorem stat_some {τ : Tr} {p : Bs} {n : Nd} (h : alook τ.nodes p = some n) : statD τ p = { n.st with len := n.data.length, kids := (kidsZ τ p).length } := by
  unfold statD statZ; rw [h]; rfl
theorem there_some' {τ : Tr} {p : Bs} : thereT τ p ↔ ∃ n, alook τ.nodes p = some n := Option.isSome_iff_exists
set_option maxRecDepth 100000 in
theorem rstat_spec (x : Nat) (τ : Tr) (p : Bs) (N : Nat) (ho : τ.Ok N) (hN : N ≤ 1073741824) : Fn Tryz.prog 62 #[vptr x, vstr p] [refR x τ] fun v L => v = .tuple #[.agg (stC (statD τ p)).toArray, .bool (decide (thereT τ p))] ∧ L = [refR x τ] := by
 refine Fn.intro (vs := [vptr x, vstr p]) Tryz.func62 rfl rfl ?_
 intro F W
 have hof := ho.few
 refine G.seq (G.region ?_)
 refine G.op (OpSpec.allocA ze_43) (by (repeat' constructor)) rfl ?nx1
 rintro v L' ⟨b4, rfl, rfl⟩
 refine G.q (Quiet.assign rfl) rfl (G.nil (G.then_n (G.seq (G.region (G.q (Quiet.move rfl) rfl (G.q (Quiet.move rfl) rfl ?_))))))
 refine G.op (OpSpec.call Tryz.func69 rfl rfl (vs := [_, _]) rfl (rplace_spec x τ p (by omega))) (by (repeat' constructor)) rfl ?nx6
 rintro v L' ⟨rfl, rfl⟩
 refine G.q (Quiet.assign rfl) rfl (G.nil (G.then_n (G.seq (G.seq (G.region (G.q (Quiet.move rfl) rfl (G.q (Quiet.int rfl rfl rfl) rfl (G.nil (G.then_n ?_)))))))))
 refine G.condD rfl (fun h12 => ?_) (fun h12 => ?_)
 ·refine G.seq (G.region ?_)
  refine G.q (Quiet.to (v' := .agg (stC st0).toArray) (Quiet.build (us := []) fl_43 ze_43 rfl rfl (by simp [isCell])) rfl) rfl ?_
  refine G.op (OpSpec.storeA rfl rfl ?c10 sz_43 ?c13 ?c11 ?c12) (by (repeat' constructor)) rfl ?nx14
  case c10 => intro v hv; simp only [stC, List.mem_cons, List.not_mem_nil, or_false] at hv; rcases hv with rfl | rfl | rfl | rfl | rfl | rfl | rfl | rfl | rfl <;> rfl
  case c13 => rfl
  case c11 => simp [stC]
  case c12 => exact nfz0 _ _
  rintro v L' rfl
  refine G.q (Quiet.assign rfl) rfl (G.nil (G.then_n (G.ret (G.then_r ?_))))
  have hth : ¬ thereT τ p := fun g => absurd (place_iff.2 g) (by have h0 : placeTo τ.nodes p < 0 := h12; omega)
  refine G.ptCast (b := b4) (l' := stC (statD τ p)) (by (repeat' constructor)) (by rw [stat_none hth]; rfl) ?_
  exact G.done2 rfl (.cellA rfl ag_43 (by (repeat' constructor)) (by simp [stC]) rfl) (.tmp rfl) ⟨by rw [decide_eq_false hth]; rfl, rfl⟩ (by (repeat' constructor)) (by (repeat' constructor))
 ·have h12b : 0 ≤ placeTo τ.nodes p := by have h0 : ¬ placeTo τ.nodes p < 0 := h12; omega
  obtain ⟨k, hk, hpk, hkp⟩ := place_get (l := τ.nodes) h12b
  have hpz : placeZ τ p = k := hpk
  rw [hpz]
  obtain ⟨nd, hnd⟩ : ∃ nd, alook τ.nodes p = some nd := by have g2 : alook τ.nodes (τ.nodes[k]).1 = some (τ.nodes[k]).2 := al_get' (ho.sorted.nodup linB) (i := k) hk; rw [hkp] at g2; exact ⟨_, g2⟩
  have hsd := stat_some hnd
  refine G.skip (G.then_n (G.seq ?_))
  refine G.rfOpen (x := x) (τ := τ) (by (repeat' constructor)) fun am cm as2 cs2 m hm => ?_
  have hml := nds_len hm
  have hkm : k < m.length := by omega
  refine G.slShape (T := 131) (sz := 12) (v := .slice am m.length cm) (xs := m.flatMap rnC) (by (repeat' constructor)) (by omega) fun bm bm' e0 mbm _ => ?_
  simp only [Value.slice.injEq, true_and] at e0
  obtain ⟨rfl, rfl⟩ := e0
  have hlk : alook τ.nodes p = some m[k].2.2 := by have g := nds_get hm (i := k) hkm; have g2 : alook τ.nodes (τ.nodes[k]).1 = some (τ.nodes[k]).2 := al_get' (ho.sorted.nodup linB) (i := k) hk; rw [hkp, show τ.nodes[k] = (m[k].1, m[k].2.2) from g] at g2; exact g2
  have hmn : m[k].2.2 = nd := by rw [hnd] at hlk; exact (Option.some.inj hlk).symm
  refine G.region (G.q (Quiet.move rfl) rfl (G.q (Quiet.nilp rfl) rfl (G.q (Quiet.fieldAddr rfl fo_101_0) rfl ?_)))
  refine G.q (Quiet.load rfl ag_98 (by (repeat' constructor)) (rfl)) rfl ?_
  refine G.q (Quiet.move rfl) rfl ?_
  refine G.q (Quiet.indexAddr rfl rfl el_98 (by omega)) rfl ?_
  refine G.q (Quiet.fieldAddr rfl fo_131_3) rfl ?_
  refine G.q (Quiet.loadRdA (sz := 12) (j := k * 12 + 3) (k := 9) (p := rnR _ m) (vs := stC m[k].2.2.st) rfl ag_43 (by (repeat' constructor)) (fun h hp => slR_rd hp) (by simp) (by omega) (by omega) (rn_stat hkm)) rfl ?_
  refine G.op (OpSpec.allocA ze_43) (by (repeat' constructor)) rfl ?nx23
  rintro v L' ⟨b7, rfl, rfl⟩
  refine G.op (OpSpec.storeA rfl rfl ?c25 sz_43 ?c28 ?c26 ?c27) (by (repeat' constructor)) rfl ?nx29
  case c25 => intro v hv; simp only [stC, List.mem_cons, List.not_mem_nil, or_false] at hv; rcases hv with rfl | rfl | rfl | rfl | rfl | rfl | rfl | rfl | rfl <;> rfl
  case c28 => rfl
  case c26 => simp [stC]
  case c27 => exact nfz0 _ _
  rintro v L' rfl
  refine G.nil ?_
  refine G.ptCast (b := b7) (l' := stC nd.st) (by (repeat' constructor)) (by rw [hmn]; rfl) ?_
  refine G.then_n (G.seq (G.region (G.q (Quiet.move rfl) rfl (G.q (Quiet.nilp rfl) rfl (G.q (Quiet.fieldAddr rfl fo_101_0) rfl ?_)))))
  refine G.q (Quiet.load rfl ag_98 (by (repeat' constructor)) (rfl)) rfl ?_
  refine G.q (Quiet.move rfl) rfl ?_
  refine G.q (Quiet.indexAddr rfl rfl el_98 (by omega)) rfl ?_
  refine G.q (Quiet.fieldAddr rfl fo_131_1) rfl ?_
  refine G.q (Quiet.loadRd (sz := 12) (j := k * 12 + 1) (p := rnR _ m) rfl ag_9 (by (repeat' constructor)) (fun h hp => slR_rd hp) (by omega) ((rn_cell (l := m) (i := k) (k := 1) (by omega) (by decide)).trans rfl)) rfl ?_
  refine G.q (Quiet.strlen rfl Tryz.underlying9 rfl) rfl (G.q (Quiet.fieldAddr rfl fo_43_7) rfl ?_)
  refine G.op (OpSpec.store rfl rfl rfl sz_3 ?c39 ?c40) (by (repeat' constructor)) rfl ?nx41
  case c39 => simp [stC]
  case c40 => exact nfz0 _ _
  rintro v L' rfl
  refine G.nil ?_
  refine G.ptCast (b := b7) (l' := stC { nd.st with len := nd.data.length }) (by (repeat' constructor)) (by rw [hmn]; rfl) ?_
  refine G.rfFold (x := x) (τ := τ) (l := m) hm (by (repeat' constructor)) rfl rfl rfl rfl rfl ?_
  refine G.then_n (G.seq (G.region (G.q (Quiet.move rfl) rfl (G.q (Quiet.move rfl) rfl ?_))))
  refine G.op (OpSpec.call Tryz.func65 rfl rfl (vs := [_, _]) rfl (rkids_spec x τ p N ho (by omega))) (by (repeat' constructor)) rfl ?nx44
  rintro v L' ⟨⟨a7, c7, rfl⟩, rfl⟩
  refine G.q (Quiet.slen rfl Tryz.underlying40 rfl) rfl (G.q (Quiet.fieldAddr rfl fo_43_8) rfl ?_)
  refine G.op (OpSpec.store rfl rfl rfl sz_3 ?c48 ?c49) (by (repeat' constructor)) rfl ?nx50
  case c48 => simp [stC]
  case c49 => exact nfz0 _ _
  rintro v L' rfl
  refine G.nil ?_
  refine G.ptCast (b := b7) (l' := stC (statD τ p)) (by (repeat' constructor)) (by rw [hsd]; rfl) ?_
  refine G.then_n (G.seq (G.region ?_))
  refine G.q (Quiet.loadAs (vs := stC (statD τ p)) rfl ag_43 (by (repeat' constructor)) (by simp [stC]) rfl) rfl ?_
  refine G.op (OpSpec.storeA rfl rfl ?c52 sz_43 ?c55 ?c53 ?c54) (by (repeat' constructor)) rfl ?nx56
  case c52 => intro v hv; simp only [stC, List.mem_cons, List.not_mem_nil, or_false] at hv; rcases hv with rfl | rfl | rfl | rfl | rfl | rfl | rfl | rfl | rfl <;> rfl
  case c55 => rfl
  case c53 => simp [stC]
  case c54 => exact nfz0 _ _
  rintro v L' rfl
  refine G.q (Quiet.assign rfl) rfl (G.nil (G.then_n (G.ret ?_)))
  have hth : thereT τ p := there_some'.2 ⟨nd, hnd⟩
  refine G.ptCast (b := b4) (l' := stC (statD τ p)) (by (repeat' constructor)) rfl ?_
  exact G.done2 rfl (.cellA rfl ag_43 (by (repeat' constructor)) (by simp [stC]) rfl) (.tmp rfl) ⟨by rw [decide_eq_true hth]; rfl, rfl⟩ (by (repeat' constructor)) (by (repeat' constructor))

end Go.Proofs.YtnnbelmpbmfdnaaGreatDoor

