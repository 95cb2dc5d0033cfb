/- Own work, by program: package watch: gone, Drop, Fire: walked. -/
import Derived.Test.YtnnbelmpbmfdnaaDoorWatch
import Derived.Test.YtnnbelmpbmfdnaaDoorWt2
namespace Go.Proofs.YtnnbelmpbmfdnaaDoor
open Go
set_option maxRecDepth 100000 in
theorem wgone_spec (t : Nat) (ω : List Wt) (sp : Spot) (id : Int) (hm : (id, sp) ∈ ω) : Fn Tryd.prog 22 #[vptr t, .agg #[vint sp.1, vstr sp.2], vint id] [tbR t ω] fun v L => v = .tuple #[] ∧ L = [tbR t (rmW ω (id, sp))] := by
  refine Fn.intro (vs := [vptr t, .agg #[vint sp.1, vstr sp.2], vint id]) Tryd.func22 rfl rfl ?_
  intro F W
  refine G.tbOpen (ω := ω) (by (repeat (first | exact Pick.here | apply Pick.there))) fun rb rm m q hI => ?_
  obtain ⟨⟨pb, l⟩, hb, hin⟩ := (hI.mem id sp).1 hm
  dsimp only at hin
  have hfew := hI.few id
  refine G.bigTake hb (by (repeat (first | exact Pick.here | apply Pick.there))) ?_
  refine G.seq ?_
  refine G.region ?_
  refine G.op (OpSpec.box rfl) (by (repeat (first | exact Picks.nil | (apply Picks.cons; (repeat (first | exact Pick.here | apply Pick.there)))))) rfl ?nx1
  rintro v L' ⟨bsp, rfl, rfl⟩
  refine G.nil ?_
  refine G.ptCast (b := bsp) (l' := [vint sp.1, vstr sp.2]) (by (repeat (first | exact Pick.here | apply Pick.there))) rfl ?_
  refine G.then_n ?_
  refine G.seq ?_
  refine G.draw [7] [[0, 1, 2, 3, 4, 5, 6, 7]] mixed (by kernel_rfl) ?_
  refine Phases.go [] (by (repeat (first | exact Picks.nil | (apply Picks.cons; (repeat (first | exact Pick.here | apply Pick.there)))))) ?_
  refine D.qw [1, 2, 3, 5, 7] rfl (by kernel_rfl) (Quiet.move rfl) ?_
  refine D.qw [2, 3, 5, 7] rfl (by kernel_rfl) (Quiet.nilp rfl) ?_
  refine D.qw [3, 5, 7] rfl (by kernel_rfl) (Quiet.fieldAddr rfl fo_60_0) ?_
  refine D.qw [5, 7] rfl (by kernel_rfl) (Quiet.load rfl ag_57 (by (repeat (first | exact Pick.here | apply Pick.there))) (rfl)) ?_
  refine D.qw [5, 7] rfl (by kernel_rfl) (Quiet.loadAs (vs := [vint sp.1, vstr sp.2]) rfl ag_63 (by (repeat (first | exact Pick.here | apply Pick.there))) (by simp) rfl) ?_
  refine D.qw [7] rfl (by kernel_rfl) (Quiet.lookupY (m := m) (enc := byV) spotK (hb) rfl rfl Tryd.underlying57 ze_58 (by (repeat (first | exact Pick.here | apply Pick.there))) rfl) ?_
  refine D.qw [7] rfl (by kernel_rfl) (Quiet.move rfl) ?_
  refine D.h rfl (by kernel_rfl) (OpSpec.mapDel (m := l) (enc := idV) (k := id) (KeyLaw.int Tryd.underlying3) rfl rfl rfl Tryd.underlying58 ?he10) (by (repeat (first | exact Picks.nil | (apply Picks.cons; (repeat (first | exact Pick.here | apply Pick.there)))))) ?nx11
  case he10 => rfl
  rintro v L' rfl
  refine D.ph ?_
  refine Phases.fin ?_
  refine G.then_n ?_
  refine G.seq ?_
  refine G.seq ?_
  refine G.draw [] [[0, 1, 2, 3, 4, 5, 6, 7]] mixed (by kernel_rfl) ?_
  refine Phases.go [] (by (repeat (first | exact Picks.nil | (apply Picks.cons; (repeat (first | exact Pick.here | apply Pick.there)))))) ?_
  refine D.qw [1, 2, 3, 5, 6, 7] rfl (by kernel_rfl) (Quiet.move rfl) ?_
  refine D.qw [2, 3, 5, 6, 7] rfl (by kernel_rfl) (Quiet.nilp rfl) ?_
  refine D.qw [3, 5, 6, 7] rfl (by kernel_rfl) (Quiet.fieldAddr rfl fo_60_0) ?_
  refine D.qw [5, 6, 7] rfl (by kernel_rfl) (Quiet.load rfl ag_57 (by (repeat (first | exact Pick.here | apply Pick.there))) (rfl)) ?_
  refine D.qw [5, 6, 7] rfl (by kernel_rfl) (Quiet.loadAs (vs := [vint sp.1, vstr sp.2]) rfl ag_63 (by (repeat (first | exact Pick.here | apply Pick.there))) (by simp) rfl) ?_
  refine D.qw [6, 7] rfl (by kernel_rfl) (Quiet.lookupY (m := m) (enc := byV) spotK (hb) rfl rfl Tryd.underlying57 ze_58 (by (repeat (first | exact Pick.here | apply Pick.there))) rfl) ?_
  refine D.qw [7] rfl (by kernel_rfl) (Quiet.maplen rfl Tryd.underlying58 rfl (by (repeat (first | exact Pick.here | apply Pick.there)))) ?_
  refine D.qw [] rfl (by kernel_rfl) (Quiet.int rfl rfl rfl) ?_
  refine D.ph ?_
  refine Phases.fin ?_
  refine G.then_n ?_
  refine G.condD rfl (fun h20 => ?_) (fun h20 => ?_)
  · refine G.draw [5] [[0, 1, 2, 3, 4, 5]] mixed (by kernel_rfl) ?_
    refine Phases.go [] (by (repeat (first | exact Picks.nil | (apply Picks.cons; (repeat (first | exact Pick.here | apply Pick.there)))))) ?_
    refine D.qw [1, 2, 3, 5] rfl (by kernel_rfl) (Quiet.move rfl) ?_
    refine D.qw [2, 3, 5] rfl (by kernel_rfl) (Quiet.nilp rfl) ?_
    refine D.qw [3, 5] rfl (by kernel_rfl) (Quiet.fieldAddr rfl fo_60_0) ?_
    refine D.qw [5] rfl (by kernel_rfl) (Quiet.load rfl ag_57 (by (repeat (first | exact Pick.here | apply Pick.there))) (rfl)) ?_
    refine D.qw [5] rfl (by kernel_rfl) (Quiet.loadAs (vs := [vint sp.1, vstr sp.2]) rfl ag_63 (by (repeat (first | exact Pick.here | apply Pick.there))) (by simp) rfl) ?_
    refine D.h rfl (by kernel_rfl) (OpSpec.mapDel (m := m) (enc := byV) (k := sp) spotK rfl rfl rfl Tryd.underlying57 ?he25) (by (repeat (first | exact Picks.nil | (apply Picks.cons; (repeat (first | exact Pick.here | apply Pick.there)))))) ?nx26
    case he25 => rfl
    rintro v L' rfl
    refine D.ph ?_
    refine Phases.fin ?_
    refine G.then_n ?_
    refine G.seq ?_
    refine G.region ?_
    refine G.q (Quiet.move rfl) rfl ?_
    refine G.q (Quiet.nilp rfl) rfl ?_
    refine G.q (Quiet.fieldAddr rfl fo_60_1) rfl ?_
    refine G.q (Quiet.load rfl ag_58 (by (repeat (first | exact Pick.here | apply Pick.there))) (rfl)) rfl ?_
    refine G.q (Quiet.move rfl) rfl ?_
    refine G.q (Quiet.lookupV (m := q) (enc := idV) (KeyLaw.int Tryd.underlying3) (v := vint (cntW ω id : Nat)) (many_some hI id) (many_none hI id) rfl rfl Tryd.underlying58 ze_3 (by (repeat (first | exact Pick.here | apply Pick.there))) rfl) rfl ?_
    refine G.q (Quiet.sub rfl rfl (by omega)) rfl ?_
    refine G.op (OpSpec.mapSet (m := q) (enc := idV) (v := ((cntW ω id : Nat) : Int) - 1) (k := id) (KeyLaw.int Tryd.underlying3) rfl rfl rfl Tryd.underlying58 ?he34) (by (repeat (first | exact Picks.nil | (apply Picks.cons; (repeat (first | exact Pick.here | apply Pick.there)))))) rfl ?nx35
    case he34 => rfl
    rintro v L' rfl
    refine G.nil ?_
    refine G.then_n ?_
    refine G.seq ?_
    refine G.region ?_
    refine G.q (Quiet.move rfl) rfl ?_
    refine G.q (Quiet.nilp rfl) rfl ?_
    refine G.q (Quiet.fieldAddr rfl fo_60_1) rfl ?_
    refine G.q (Quiet.load rfl ag_58 (by (repeat (first | exact Pick.here | apply Pick.there))) (rfl)) rfl ?_
    refine G.q (Quiet.move rfl) rfl ?_
    refine G.q (Quiet.lookupY (m := aset q id (((cntW ω id : Nat) : Int) - 1)) (enc := idV) (KeyLaw.int Tryd.underlying3) (by rw [al_aset, if_pos rfl]) rfl rfl Tryd.underlying58 ze_3 (by (repeat (first | exact Pick.here | apply Pick.there))) rfl) rfl ?_
    refine G.q (Quiet.int rfl rfl rfl) rfl ?_
    refine G.nil ?_
    refine G.then_n ?_
    refine G.condD rfl (fun h39 => ?_) (fun h39 => ?_)
    · refine G.region ?_
      refine G.q (Quiet.move rfl) rfl ?_
      refine G.q (Quiet.nilp rfl) rfl ?_
      refine G.q (Quiet.fieldAddr rfl fo_60_1) rfl ?_
      refine G.q (Quiet.load rfl ag_58 (by (repeat (first | exact Pick.here | apply Pick.there))) (rfl)) rfl ?_
      refine G.q (Quiet.move rfl) rfl ?_
      refine G.op (OpSpec.mapDel (m := aset q id (((cntW ω id : Nat) : Int) - 1)) (enc := idV) (k := id) (KeyLaw.int Tryd.underlying3) rfl rfl rfl Tryd.underlying58 ?he48) (by (repeat (first | exact Picks.nil | (apply Picks.cons; (repeat (first | exact Pick.here | apply Pick.there)))))) rfl ?nx49
      case he48 => rfl
      rintro v L' rfl
      refine G.nil ?_
      refine G.done_n ?_
      have hnil : adel l id = [] := by exact List.length_eq_zero_iff.1 (by simpa using h20)
      have hI2 := hI.gone hm hb (m' := adel m sp) (n' := adel (aset q id (((cntW ω id : Nat) : Int) - 1)) id) (by rw [if_pos hnil]) (by rw [if_pos (by omega)])
      refine G.tbFold hI2 (by (repeat (first | exact Picks.nil | (apply Picks.cons; (repeat (first | exact Pick.here | apply Pick.there)))))) rfl rfl rfl ?_
      exact G.done (l := []) rfl rfl ⟨rfl, rfl⟩ (by (repeat (first | exact Picks.nil | (apply Picks.cons; (repeat (first | exact Pick.here | apply Pick.there)))))) (by (repeat (first | exact Suff.here | apply Suff.there)))
    · refine G.skip ?_
      refine G.done_n ?_
      have hnil : adel l id = [] := by exact List.length_eq_zero_iff.1 (by simpa using h20)
      have hI2 := hI.gone hm hb (m' := adel m sp) (n' := aset q id (((cntW ω id : Nat) : Int) - 1)) (by rw [if_pos hnil]) (by rw [if_neg (by omega)])
      refine G.tbFold hI2 (by (repeat (first | exact Picks.nil | (apply Picks.cons; (repeat (first | exact Pick.here | apply Pick.there)))))) rfl rfl rfl ?_
      exact G.done (l := []) rfl rfl ⟨rfl, rfl⟩ (by (repeat (first | exact Picks.nil | (apply Picks.cons; (repeat (first | exact Pick.here | apply Pick.there)))))) (by (repeat (first | exact Suff.here | apply Suff.there)))
  · refine G.skip ?_
    refine G.then_n ?_
    refine G.seq ?_
    refine G.region ?_
    refine G.q (Quiet.move rfl) rfl ?_
    refine G.q (Quiet.nilp rfl) rfl ?_
    refine G.q (Quiet.fieldAddr rfl fo_60_1) rfl ?_
    refine G.q (Quiet.load rfl ag_58 (by (repeat (first | exact Pick.here | apply Pick.there))) (rfl)) rfl ?_
    refine G.q (Quiet.move rfl) rfl ?_
    refine G.q (Quiet.lookupV (m := q) (enc := idV) (KeyLaw.int Tryd.underlying3) (v := vint (cntW ω id : Nat)) (many_some hI id) (many_none hI id) rfl rfl Tryd.underlying58 ze_3 (by (repeat (first | exact Pick.here | apply Pick.there))) rfl) rfl ?_
    refine G.q (Quiet.sub rfl rfl (by omega)) rfl ?_
    refine G.op (OpSpec.mapSet (m := q) (enc := idV) (v := ((cntW ω id : Nat) : Int) - 1) (k := id) (KeyLaw.int Tryd.underlying3) rfl rfl rfl Tryd.underlying58 ?he57) (by (repeat (first | exact Picks.nil | (apply Picks.cons; (repeat (first | exact Pick.here | apply Pick.there)))))) rfl ?nx58
    case he57 => rfl
    rintro v L' rfl
    refine G.nil ?_
    refine G.then_n ?_
    refine G.seq ?_
    refine G.region ?_
    refine G.q (Quiet.move rfl) rfl ?_
    refine G.q (Quiet.nilp rfl) rfl ?_
    refine G.q (Quiet.fieldAddr rfl fo_60_1) rfl ?_
    refine G.q (Quiet.load rfl ag_58 (by (repeat (first | exact Pick.here | apply Pick.there))) (rfl)) rfl ?_
    refine G.q (Quiet.move rfl) rfl ?_
    refine G.q (Quiet.lookupY (m := aset q id (((cntW ω id : Nat) : Int) - 1)) (enc := idV) (KeyLaw.int Tryd.underlying3) (by rw [al_aset, if_pos rfl]) rfl rfl Tryd.underlying58 ze_3 (by (repeat (first | exact Pick.here | apply Pick.there))) rfl) rfl ?_
    refine G.q (Quiet.int rfl rfl rfl) rfl ?_
    refine G.nil ?_
    refine G.then_n ?_
    refine G.condD rfl (fun h39 => ?_) (fun h39 => ?_)
    · refine G.region ?_
      refine G.q (Quiet.move rfl) rfl ?_
      refine G.q (Quiet.nilp rfl) rfl ?_
      refine G.q (Quiet.fieldAddr rfl fo_60_1) rfl ?_
      refine G.q (Quiet.load rfl ag_58 (by (repeat (first | exact Pick.here | apply Pick.there))) (rfl)) rfl ?_
      refine G.q (Quiet.move rfl) rfl ?_
      refine G.op (OpSpec.mapDel (m := aset q id (((cntW ω id : Nat) : Int) - 1)) (enc := idV) (k := id) (KeyLaw.int Tryd.underlying3) rfl rfl rfl Tryd.underlying58 ?he71) (by (repeat (first | exact Picks.nil | (apply Picks.cons; (repeat (first | exact Pick.here | apply Pick.there)))))) rfl ?nx72
      case he71 => rfl
      rintro v L' rfl
      refine G.nil ?_
      refine G.done_n ?_
      have hnil : ¬ adel l id = [] := by intro e; apply h20; rw [e]; rfl
      have hI2 := hI.gone hm hb (m' := aset m sp (pb, adel l id)) (n' := adel (aset q id (((cntW ω id : Nat) : Int) - 1)) id) (by rw [if_neg hnil]) (by rw [if_pos (by omega)])
      refine G.bigPut (f := inW) (m := m) sp (pb, adel l id) rfl (by (repeat (first | exact Picks.nil | (apply Picks.cons; (repeat (first | exact Pick.here | apply Pick.there)))))) ?_
      refine G.tbFold hI2 (by (repeat (first | exact Picks.nil | (apply Picks.cons; (repeat (first | exact Pick.here | apply Pick.there)))))) rfl (byM_set (y' := (pb, adel l id)) hb rfl).symm rfl ?_
      exact G.done (l := []) rfl rfl ⟨rfl, rfl⟩ (by (repeat (first | exact Picks.nil | (apply Picks.cons; (repeat (first | exact Pick.here | apply Pick.there)))))) (by (repeat (first | exact Suff.here | apply Suff.there)))
    · refine G.skip ?_
      refine G.done_n ?_
      have hnil : ¬ adel l id = [] := by intro e; apply h20; rw [e]; rfl
      have hI2 := hI.gone hm hb (m' := aset m sp (pb, adel l id)) (n' := aset q id (((cntW ω id : Nat) : Int) - 1)) (by rw [if_neg hnil]) (by rw [if_neg (by omega)])
      refine G.bigPut (f := inW) (m := m) sp (pb, adel l id) rfl (by (repeat (first | exact Picks.nil | (apply Picks.cons; (repeat (first | exact Pick.here | apply Pick.there)))))) ?_
      refine G.tbFold hI2 (by (repeat (first | exact Picks.nil | (apply Picks.cons; (repeat (first | exact Pick.here | apply Pick.there)))))) rfl (byM_set (y' := (pb, adel l id)) hb rfl).symm rfl ?_
      exact G.done (l := []) rfl rfl ⟨rfl, rfl⟩ (by (repeat (first | exact Picks.nil | (apply Picks.cons; (repeat (first | exact Pick.here | apply Pick.there)))))) (by (repeat (first | exact Suff.here | apply Suff.there)))

theorem G.tbCast {W : World} {n : Nat} {ds : List Deferred} {E : Env} {L R : List HP} {X : Act → World → Prop} {t : Nat} {ω ω' : List Wt} (hL : Pick (tbR t ω) L R) (hw : ω' = ω) (h : G W n ds E (tbR t ω' :: R) X) : G W n ds E L X := by
  subst hw; exact G.focus hL h
set_option maxRecDepth 100000 in
theorem wdrop_spec (t : Nat) (ω : List Wt) (s : Int) (hlen : ω.length ≤ 1048576) : Fn Tryd.prog 12 #[vptr t, vint s] [tbR t ω] fun v L => v = .tuple #[] ∧ L = [tbR t (dropW ω s)] := by
  refine Fn.intro (vs := [vptr t, vint s]) Tryd.func12 rfl rfl ?_
  intro F W
  refine G.tbOpen (ω := ω) (by (repeat (first | exact Pick.here | apply Pick.there))) fun rb rm m q hI => ?_
  have hnd := hI.keys
  refine G.seq ?_
  refine G.region ?_
  refine G.q (Quiet.assign rfl) rfl ?_
  refine G.nil ?_
  refine G.then_n ?_
  refine G.seq ?_
  refine G.seq ?_
  refine G.add (slR_nil 63 2) ?_
  refine G.region ?_
  refine G.q (Quiet.move rfl) rfl ?_
  refine G.q (Quiet.nilp rfl) rfl ?_
  refine G.q (Quiet.fieldAddr rfl fo_60_0) rfl ?_
  refine G.q (Quiet.load rfl ag_57 (by (repeat (first | exact Pick.here | apply Pick.there))) (rfl)) rfl ?_
  refine G.op (OpSpec.range (f := fun x : Spot × (Nat × List (Int × Int)) => (spotV x.1, byV x.2)) (m := m) rfl Tryd.underlying57 ?he6) (by (repeat (first | exact Picks.nil | (apply Picks.cons; (repeat (first | exact Pick.here | apply Pick.there)))))) rfl ?nx7
  case he6 => rfl
  rintro v L' ⟨it, rfl, rfl⟩
  refine G.nil ?_
  refine G.then_n ?_
  refine G.block ?_
  refine G.loopK (ι := By × Value × (List Spot)) (fun q E => (4, q.2.1) :: E) (fun q => [rangeR (fun x : Spot × (Nat × List (Int × Int)) => (spotV x.1, byV x.2)) it rb m q.1, bigR inW m, slR 63 2 q.2.1 q.2.2.length (q.2.2.flatMap spotC)]) (fun q => q.2.2 = (q.1.filter (hasW s)).map (·.1) ∧ (∃ rest, m.Perm (q.1 ++ rest)) ∧ ∃ a c, q.2.1 = .slice a q.2.2.length c) (fun q => m.length - q.1.length) (([], .slice none 0 0, [])) (ts := [0, 1, 13]) (.cons rfl (.cons rfl (.cons rfl (.nil)))) (⟨rfl, ⟨m, .refl _⟩, none, 0, rfl⟩) ⟨rfl, rfl, rfl, rfl, trivial⟩ (by (repeat (first | exact Picks.nil | (apply Picks.cons; (repeat (first | exact Pick.here | apply Pick.there)))))) ?_
  rintro ⟨ss, u, acc⟩ ⟨hacc, ⟨rest, hm⟩, au, cu, hu⟩
  dsimp only
  dsimp only at hacc hm hu
  subst hu
  have hml := hm.length_eq
  rw [List.length_append] at hml
  obtain ⟨hafew, hanod⟩ := acc_few hI hm s
  rw [← hacc] at hafew hanod
  refine G.seq ?_
  refine G.region ?_
  refine G.op (OpSpec.next rfl) (by (repeat (first | exact Picks.nil | (apply Picks.cons; (repeat (first | exact Pick.here | apply Pick.there)))))) rfl ?nx9
  rintro v L' (⟨rfl, hp2, rfl⟩ | ⟨x, rest2, rfl, hp2, rfl⟩)
  · refine G.rangeDone (by (repeat (first | exact Pick.here | apply Pick.there))) ?_
    refine G.tbFold hI (by (repeat (first | exact Picks.nil | (apply Picks.cons; (repeat (first | exact Pick.here | apply Pick.there)))))) rfl rfl rfl ?_
    have hacc2 : ∀ sp, (s, sp) ∈ ω ↔ sp ∈ acc := fun sp => by rw [has_mem hI, hacc]; exact ((hp2.filter _).map _).mem_iff
    refine G.q (Quiet.extract rfl rfl) rfl ?_
    refine G.nil ?_
    refine G.then_n ?_
    refine G.seq ?_
    refine G.condF rfl ?_
    refine G.exit ?_
    refine G.then_e ?_
    refine G.then_e ?_
    refine G.blk_e ?_
    refine G.then_n ?_
    refine G.seq ?_
    refine G.region ?_
    refine G.q (Quiet.move rfl) rfl ?_
    refine G.q (Quiet.slen rfl Tryd.underlying69 rfl) rfl ?_
    refine G.q (Quiet.move rfl) rfl ?_
    refine G.nil ?_
    refine G.then_n ?_
    refine G.block ?_
    refine G.tbCast (ω' := dropL ω s (acc.take 0)) (by (repeat (first | exact Pick.here | apply Pick.there))) (by rw [List.take_zero, dropL_nil]) ?_
    refine G.loopK (ι := Nat) (fun q E => (29, vint q) :: E) (fun q => [tbR t (dropL ω s (acc.take q))]) (fun q => q ≤ acc.length) (fun q => acc.length - q) (0) (ts := [0, 1, 27, 28]) (.cons rfl (.cons rfl (.cons rfl (.cons rfl (.nil))))) (Nat.zero_le _) ⟨rfl, rfl, rfl, rfl, rfl, trivial⟩ (by (repeat (first | exact Picks.nil | (apply Picks.cons; (repeat (first | exact Pick.here | apply Pick.there)))))) ?_
    rintro i hi
    refine G.seq ?_
    refine G.region ?_
    refine G.q (Quiet.int rfl rfl rfl) rfl ?_
    refine G.nil ?_
    refine G.then_n ?_
    refine G.seq ?_
    refine G.condD rfl (fun h30 => ?_) (fun h30 => ?_)
    · have hi2 : i < acc.length := by omega
      refine G.slShape (v := .slice au _ cu) (by (repeat (first | exact Pick.here | apply Pick.there))) (by omega) fun b4 c4' e m4 _ => ?_
      simp only [Value.slice.injEq, true_and] at e
      obtain ⟨rfl, rfl⟩ := e
      have hnot : acc[i] ∉ acc.take i := take_not hanod hi2
      refine G.skip ?_
      refine G.then_n ?_
      refine G.seq ?_
      refine G.block ?_
      refine G.seq ?_
      refine G.region ?_
      refine G.q (Quiet.indexAddr rfl rfl el_69 (by omega)) rfl ?_
      refine G.q (Quiet.loadRdA (sz := 2) (j := i * 2) (k := 2) (p := slR 63 2 _ acc.length (acc.flatMap spotC)) (vs := [vint acc[i].1, vstr acc[i].2]) rfl ag_63 (by (repeat (first | exact Pick.here | apply Pick.there))) (fun h hp => slR_rd hp) (by simp) (by omega) (by omega) (flatMap_at (f := spotC) (sz := 2) (fun _ _ => rfl) hi2)) rfl ?_
      refine G.op (OpSpec.allocA ze_63) (by (repeat (first | exact Picks.nil | (apply Picks.cons; (repeat (first | exact Pick.here | apply Pick.there)))))) rfl ?nx18
      rintro v L' ⟨b8, rfl, rfl⟩
      refine G.op (OpSpec.storeA rfl rfl ?c20 sz_63 ?c23 ?c21 ?c22) (by (repeat (first | exact Picks.nil | (apply Picks.cons; (repeat (first | exact Pick.here | apply Pick.there)))))) rfl ?nx24
      case c20 => (first | (simp [isCell]; done) | (simp [isCell, setAll, Value.cells]; done))
      case c23 => (first | (simp; done) | (simp [setAll, spl, Value.cells]; done))
      case c21 => (first | (simp; done) | (simp [setAll, spl, Value.cells]; done))
      case c22 => exact nfz0 _ _
      rintro v L' rfl
      refine G.nil ?_
      refine G.ptCast (b := b8) (l' := [vint acc[i].1, vstr acc[i].2]) (by (repeat (first | exact Pick.here | apply Pick.there))) rfl ?_
      refine G.then_n ?_
      refine G.region ?_
      refine G.q (Quiet.move rfl) rfl ?_
      refine G.q (Quiet.loadAs (vs := [vint acc[i].1, vstr acc[i].2]) rfl ag_63 (by (repeat (first | exact Pick.here | apply Pick.there))) (by simp) rfl) rfl ?_
      refine G.q (Quiet.move rfl) rfl ?_
      refine G.op (OpSpec.call Tryd.func22 rfl rfl (vs := [_, _, _]) rfl (wgone_spec t (dropL ω s (acc.take i)) acc[i] s (dropL_mem ((hacc2 _).2 (List.getElem_mem hi2)) hnot))) (by (repeat (first | exact Picks.nil | (apply Picks.cons; (repeat (first | exact Pick.here | apply Pick.there)))))) rfl ?nx28
      rintro v L' ⟨rfl, rfl⟩
      refine G.nil ?_
      refine G.blk_n ?_
      refine G.then_n ?_
      refine G.region ?_
      refine G.q (Quiet.add rfl rfl (by omega)) rfl ?_
      refine G.q (Quiet.move rfl) rfl ?_
      refine G.nil ?_
      refine G.then_n ?_
      rw [dropL_step, ← List.take_succ_eq_append_getElem hi2]
      exact G.roundK (i + 1) (by omega) (by omega) ⟨rfl, rfl, rfl, rfl, rfl, trivial⟩ (by (repeat (first | exact Picks.nil | (apply Picks.cons; (repeat (first | exact Pick.here | apply Pick.there)))))) (by ((repeat (apply Have.cons; (repeat (first | exact Pick.here | apply Pick.there)))); apply Have.base; repeat (first | exact Suff.here | apply Suff.there)))
    · have hii : i = acc.length := by omega
      rw [hii, List.take_length, dropL_all (fun sp h => (hacc2 sp).1 h)]
      refine G.exit ?_
      refine G.then_e ?_
      refine G.then_e ?_
      refine G.blk_e ?_
      refine G.done_n ?_
      exact G.done (l := []) rfl rfl ⟨rfl, rfl⟩ (by (repeat (first | exact Picks.nil | (apply Picks.cons; (repeat (first | exact Pick.here | apply Pick.there)))))) (by (repeat (first | exact Suff.here | apply Suff.there)))
  · refine G.q (Quiet.extract rfl rfl) rfl ?_
    refine G.nil ?_
    refine G.then_n ?_
    refine G.seq ?_
    refine G.condT rfl ?_
    refine G.skip ?_
    refine G.then_n ?_
    refine G.block ?_
    refine G.seq ?_
    refine G.region ?_
    refine G.q (Quiet.entryE (v := .tuple #[spotV x.1, byV x.2]) rfl (by (repeat (first | exact Pick.here | apply Pick.there))) rfl) rfl ?_
    refine G.q (Quiet.extract rfl rfl) rfl ?_
    refine G.q (Quiet.extract rfl rfl) rfl ?_
    refine G.op (OpSpec.allocA ze_63) (by (repeat (first | exact Picks.nil | (apply Picks.cons; (repeat (first | exact Pick.here | apply Pick.there)))))) rfl ?nx36
    rintro v L' ⟨bs5, rfl, rfl⟩
    refine G.op (OpSpec.storeA rfl rfl ?c38 sz_63 ?c41 ?c39 ?c40) (by (repeat (first | exact Picks.nil | (apply Picks.cons; (repeat (first | exact Pick.here | apply Pick.there)))))) rfl ?nx42
    case c38 => (first | (simp [isCell]; done) | (simp [isCell, setAll, Value.cells]; done))
    case c41 => (first | (simp; done) | (simp [setAll, spl, Value.cells]; done))
    case c39 => (first | (simp; done) | (simp [setAll, spl, Value.cells]; done))
    case c40 => exact nfz0 _ _
    rintro v L' rfl
    refine G.q (Quiet.assign rfl) rfl ?_
    refine G.nil ?_
    refine G.ptCast (b := bs5) (l' := [vint x.1.1, vstr x.1.2]) (by (repeat (first | exact Pick.here | apply Pick.there))) rfl ?_
    have hxm : x ∈ m := hp2.mem_iff.2 (by simp)
    have hxb : alook m x.1 = some x.2 := al_of_mem hnd hxm
    refine G.bigTake hxb (by (repeat (first | exact Pick.here | apply Pick.there))) ?_
    refine G.then_n ?_
    refine G.seq ?_
    refine G.region ?_
    refine G.q (Quiet.move rfl) rfl ?_
    refine G.q (Quiet.move rfl) rfl ?_
    refine G.q (Quiet.lookupV (m := x.2.2) (enc := idV) (v := vint (if s ∈ x.2.2.map (·.1) then s else 0)) (KeyLaw.int Tryd.underlying3) (fun b hb => by rw [if_pos (al_isSome.1 (by rw [hb]; rfl))]; exact congrArg vint ((hI.inn _ _ hxb).2.2 _ (al_mem hb))) (fun h0 => by rw [if_neg (al_none.1 h0)]) rfl rfl Tryd.underlying58 ze_3 (by (repeat (first | exact Pick.here | apply Pick.there))) rfl) rfl ?_
    refine G.q (Quiet.int rfl rfl rfl) rfl ?_
    refine G.nil ?_
    refine G.then_n ?_
    refine G.condN rfl (fun h22 => ?_) (fun h22 => ?_)
    · have hin : s ∈ x.2.2.map (·.1) := Decidable.byContradiction fun e => by rw [if_neg e] at h22; exact h22 rfl
      refine G.region ?_
      refine G.q (Quiet.move rfl) rfl ?_
      refine G.q (Quiet.loadAs (vs := [vint x.1.1, vstr x.1.2]) rfl ag_63 (by (repeat (first | exact Pick.here | apply Pick.there))) (by simp) rfl) rfl ?_
      refine G.op (OpSpec.buildSlice (vs := [_]) el_69 ze_63 rfl rfl rfl rfl (by simp [Value.cells]) (by decide)) (by (repeat (first | exact Picks.nil | (apply Picks.cons; (repeat (first | exact Pick.here | apply Pick.there)))))) rfl ?nx48
      rintro v L' ⟨b5_2, rfl, rfl⟩
      refine G.op (OpSpec.append1 rfl rfl rfl el_69 ze_63 rfl rfl ?c50 ?c51 (Nat.le_refl _) ?c52 (by decide)) (by (repeat (first | exact Picks.nil | (apply Picks.cons; (repeat (first | exact Pick.here | apply Pick.there)))))) rfl ?nx53
      case c50 => (first | (simp [isCell]; done) | (simp [isCell, setAll, Value.cells]; done))
      case c51 => rfl
      case c52 => omega
      rintro v L' ⟨⟨a5_3, c5_3, rfl⟩, rfl⟩
      refine G.q (Quiet.assign rfl) rfl ?_
      refine G.nil ?_
      refine G.blk_n ?_
      refine G.then_n ?_
      have hl := hp2.length_eq
      simp at hl
      refine G.bigPut (f := inW) (m := m) x.1 x.2 (p := mapR x.2.1 (intM x.2.2)) rfl (by (repeat (first | exact Picks.nil | (apply Picks.cons; (repeat (first | exact Pick.here | apply Pick.there)))))) ?_
      rw [aset_self hxb]
      rw [show acc.flatMap spotC ++ (List.map (fun v => v.cells.toList) [Value.agg #[vint x.1.1, vstr x.1.2]]).flatten = (acc ++ [x.1]).flatMap spotC by simp [spotC, Value.cells], show acc.length + 1 = (acc ++ [x.1]).length by simp]
      exact G.roundK ((ss ++ [x], .slice a5_3 (acc ++ [x.1]).length c5_3, acc ++ [x.1])) (⟨by dsimp only; rw [hacc, List.filter_append]; simp [hasW, hin], ⟨_, by simpa using hp2⟩, _, _, rfl⟩) (by dsimp only; simp; omega) ⟨rfl, rfl, rfl, rfl, trivial⟩ (by (repeat (first | exact Picks.nil | (apply Picks.cons; (repeat (first | exact Pick.here | apply Pick.there)))))) (by ((repeat (apply Have.cons; (repeat (first | exact Pick.here | apply Pick.there)))); apply Have.base; repeat (first | exact Suff.here | apply Suff.there)))
    · have hin : ¬ s ∈ x.2.2.map (·.1) := fun e => by rw [if_pos e] at h22; have := (hI.fit (s, x.1) ((hI.mem _ _).2 ⟨_, hxb, e⟩)).1; dsimp only at this; omega
      refine G.skip ?_
      refine G.blk_n ?_
      refine G.then_n ?_
      have hl := hp2.length_eq
      simp at hl
      refine G.bigPut (f := inW) (m := m) x.1 x.2 (p := mapR x.2.1 (intM x.2.2)) rfl (by (repeat (first | exact Picks.nil | (apply Picks.cons; (repeat (first | exact Pick.here | apply Pick.there)))))) ?_
      rw [aset_self hxb]
      exact G.roundK ((ss ++ [x], _, acc)) (⟨by dsimp only; rw [hacc, List.filter_append]; simp [hasW, hin], ⟨_, by simpa using hp2⟩, _, _, rfl⟩) (by dsimp only; simp; omega) ⟨rfl, rfl, rfl, rfl, trivial⟩ (by (repeat (first | exact Picks.nil | (apply Picks.cons; (repeat (first | exact Pick.here | apply Pick.there)))))) (by ((repeat (apply Have.cons; (repeat (first | exact Pick.here | apply Pick.there)))); apply Have.base; repeat (first | exact Suff.here | apply Suff.there)))

end Go.Proofs.YtnnbelmpbmfdnaaDoor
