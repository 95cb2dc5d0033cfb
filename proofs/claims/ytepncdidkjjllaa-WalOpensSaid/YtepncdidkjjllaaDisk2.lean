/- Own work, by program: package disk, the rest. -/
import Derived.Test.YtepncdidkjjllaaDk2
namespace Go.Proofs.Ytepncdidkjjllaa
open Go
set_option maxRecDepth 100000 in
theorem pending_spec (d : Nat) (δ : Dk) : Fn Try.prog 54 #[vptr d] [dkR d δ] fun v L => (∃ a c, v = .slice a δ.pend.length c) ∧ L = [dkR d δ, intR v δ.pend] := by
  refine Fn.intro (vs := [vptr d]) Try.func54 rfl rfl ?_
  intro F W
  refine G.dkOpen .here fun nb ob hok => ?_
  have hol := hok.oldlen
  have hbg := hok.big
  refine G.seq ?_
  refine G.region ?_
  refine G.q (Quiet.assign rfl) rfl ?_
  refine G.nil ?_
  refine G.then_n ?_
  refine G.seq ?_
  refine G.region ?_
  refine G.q (Quiet.move rfl) rfl ?_
  refine G.q (Quiet.nilp rfl) rfl ?_
  refine G.q (Quiet.fieldAddr rfl fo_100_1) rfl ?_
  refine G.q (Quiet.load rfl ag_98 (by (repeat (first | exact Pick.here | apply Pick.there))) (rfl)) rfl ?_
  refine G.op (OpSpec.call Try.func102 rfl rfl (vs := [_]) rfl (keysD_spec _)) (by (repeat (first | exact Picks.nil | (apply Picks.cons; (repeat (first | exact Pick.here | apply Pick.there)))))) rfl ?nx6
  rintro v L' ⟨bk, rfl, rfl⟩
  refine G.op (OpSpec.call Try.func100 rfl rfl (vs := [_]) rfl (sortedD_spec δ.old hok.nodup ?hbd8 ?hln9)) (by (repeat (first | exact Picks.nil | (apply Picks.cons; (repeat (first | exact Pick.here | apply Pick.there)))))) rfl ?nx10
  case hbd8 => intro x hx; have := hok.olds x hx; omega
  case hln9 => omega
  rintro v L' ⟨⟨al, cl, rfl⟩, rfl⟩
  refine G.q (Quiet.assign rfl) rfl ?_
  refine G.nil ?_
  refine G.then_n ?_
  refine G.ret ?_
  refine G.dkFold (δ := δ) (by (repeat (first | exact Picks.nil | (apply Picks.cons; (repeat (first | exact Pick.here | apply Pick.there)))))) rfl rfl rfl hok ?_
  exact G.done (l := [.tmp 2]) rfl rfl ⟨⟨_, _, by rw [Dk.pend_len]⟩, rfl⟩ (by (repeat (first | exact Picks.nil | (apply Picks.cons; (repeat (first | exact Pick.here | apply Pick.there)))))) (by (repeat (first | exact Suff.here | apply Suff.there)))

set_option maxRecDepth 100000 in
theorem crash_spec (d : Nat) (δ : Dk) (hv : Value) (how : List Int) (p : HP) (hr : ∀ h : Hp, p h → rdS 1 h hv how.length (ints how)) (hb : ∀ z ∈ how, -9223372036854775808 ≤ z ∧ z ≤ 9223372036854775807) : Fn Try.prog 53 #[vptr d, hv] [dkR d δ, p] fun v L => v = .tuple #[] ∧ L = [dkR d (δ.crash how), p] := by
  refine Fn.intro (vs := [vptr d, hv]) Try.func53 rfl rfl ?_
  intro F W
  refine G.rdAny (p := p) hr (by (repeat (first | exact Pick.here | apply Pick.there))) fun ah ch e _ => ?_
  subst e
  refine G.dkOpen (by (repeat (first | exact Pick.here | apply Pick.there))) fun nb0 ob0 hok0 => ?_
  refine G.dkFold (δ := δ) (by (repeat (first | exact Picks.nil | (apply Picks.cons; (repeat (first | exact Pick.here | apply Pick.there)))))) rfl rfl rfl hok0 ?_
  have hol := hok0.oldlen
  have hbg := hok0.big
  have hpl := δ.pend_len
  refine G.seq ?_
  refine G.seq ?_
  refine G.region ?_
  refine G.q (Quiet.move rfl) rfl ?_
  refine G.op (OpSpec.call Try.func54 rfl rfl (vs := [_]) rfl (pending_spec d δ)) (by (repeat (first | exact Picks.nil | (apply Picks.cons; (repeat (first | exact Pick.here | apply Pick.there)))))) rfl ?nx2
  rintro v L' ⟨⟨al, cl, rfl⟩, rfl⟩
  refine G.q (Quiet.slen rfl Try.underlying40 rfl) rfl ?_
  refine G.q (Quiet.move rfl) rfl ?_
  refine G.nil ?_
  refine G.then_n ?_
  refine G.block ?_
  refine G.loop (F := F) (ι := Nat) (fun k => [(0, vptr d), (1, .slice ah how.length ch), (9, .slice al δ.pend.length cl), (10, vint δ.pend.length), (11, vint k)]) (fun k => [dkR d (δ.crashTo how k), p, intR (.slice al δ.pend.length cl) δ.pend]) (fun k => k ≤ δ.pend.length) (fun k => δ.pend.length - k) 0 (Nat.zero_le _) ⟨rfl, rfl, rfl, rfl, rfl, trivial⟩ (by (repeat (first | exact Picks.nil | (apply Picks.cons; (repeat (first | exact Pick.here | apply Pick.there)))))) (by (repeat (first | exact Suff.here | apply Suff.there))) ?_
  intro k hk
  refine G.seq ?_
  refine G.region ?_
  refine G.q (Quiet.int rfl rfl rfl) rfl ?_
  refine G.nil ?_
  refine G.then_n ?_
  refine G.seq ?_
  refine G.condD rfl (fun h12 => ?_) (fun h12 => ?_)
  · have hk2 : k < δ.pend.length := by omega
    have hfb := fate0 how hb k
    obtain ⟨w0, w1, w2, o, w3, w4⟩ := Dk.pend_at hok0 hk2
    have hie : δ.pend.getD k 0 = δ.pend[k] := by simp [hk2]
    generalize hi : δ.pend.getD k 0 = i at w0 w1 w2 w3 hie
    refine G.slShape (v := .slice al _ cl) (by (repeat (first | exact Pick.here | apply Pick.there))) (by omega) fun bl cl' e ml _ => ?_
    simp only [Value.slice.injEq, true_and] at e
    obtain ⟨rfl, rfl⟩ := e
    refine G.skip ?_
    refine G.then_n ?_
    refine G.seq ?_
    refine G.block ?_
    refine G.seq ?_
    refine G.region ?_
    refine G.q (Quiet.move rfl) rfl ?_
    refine G.q (Quiet.indexAddr rfl rfl el_40 (by omega)) rfl ?_
    refine G.q (Quiet.loadSl (v := vint i) (i := k * 1) rfl ag_3 (by (repeat (first | exact Pick.here | apply Pick.there))) (by simp [hk2, hie])) rfl ?_
    refine G.q (Quiet.assign rfl) rfl ?_
    refine G.q (Quiet.assign rfl) rfl ?_
    refine G.nil ?_
    refine G.then_n ?_
    refine G.seq ?_
    refine G.region ?_
    refine G.q (Quiet.assign rfl) rfl ?_
    refine G.nil ?_
    refine G.then_n ?_
    refine G.seq ?_
    refine G.join (F := F) (ι := Unit) (fun _ => [(0, vptr d), (1, .slice ah how.length ch), (9, .slice (some ⟨bl, 0, none⟩) δ.pend.length cl), (10, vint δ.pend.length), (11, vint k), (4, vint k), (5, vint i), (6, vint (if k < how.length then how.getD k 0 else 0))]) (fun _ => [dkR d (δ.crashTo how k), p, intR (.slice (some ⟨bl, 0, none⟩) δ.pend.length cl) δ.pend]) (fun _ => True) ?_ (fun _ _ => ?_)
    · refine G.seq ?_
      refine G.region ?_
      refine G.q (Quiet.move rfl) rfl ?_
      refine G.q (Quiet.move rfl) rfl ?_
      refine G.q (Quiet.slen rfl Try.underlying40 rfl) rfl ?_
      refine G.q (Quiet.int rfl rfl rfl) rfl ?_
      refine G.nil ?_
      refine G.then_n ?_
      refine G.condD rfl (fun h19 => ?_) (fun h19 => ?_)
      · have hk3 : k < how.length := by omega
        refine G.rdShape (p := p) hr (by (repeat (first | exact Pick.here | apply Pick.there))) (by omega) fun bh oh e => ?_
        subst e
        refine G.region ?_
        refine G.q (Quiet.move rfl) rfl ?_
        refine G.q (Quiet.move rfl) rfl ?_
        refine G.q (Quiet.indexAddr rfl rfl el_40 (by omega)) rfl ?_
        refine G.q (Quiet.loadEl (p := p) (i := k * 1) (v := vint (how.getD k 0)) rfl ag_3 (by (repeat (first | exact Pick.here | apply Pick.there))) hr (by simp [hk3])) rfl ?_
        refine G.q (Quiet.assign rfl) rfl ?_
        refine G.nil ?_
        refine G.then_n ?_
        exact G.meet () trivial ⟨rfl, rfl, rfl, rfl, rfl, rfl, rfl, (by show some (vint _) = some (vint _); rw [if_pos (by omega)]), trivial⟩ (by (repeat (first | exact Picks.nil | (apply Picks.cons; (repeat (first | exact Pick.here | apply Pick.there)))))) (by (repeat (first | exact Suff.here | apply Suff.there)))
      · refine G.skip ?_
        refine G.then_n ?_
        exact G.meet () trivial ⟨rfl, rfl, rfl, rfl, rfl, rfl, rfl, (by show some (vint _) = some (vint _); rw [if_neg (by omega)]), trivial⟩ (by (repeat (first | exact Picks.nil | (apply Picks.cons; (repeat (first | exact Pick.here | apply Pick.there)))))) (by (repeat (first | exact Suff.here | apply Suff.there)))
    have hraw : -9223372036854775808 ≤ (if k < how.length then how.getD k 0 else 0) ∧ (if k < how.length then how.getD k 0 else 0) ≤ 9223372036854775807 := by (split; (rename_i hk3; have e : how.getD k 0 = how[k] := (by simp [hk3]); rw [e]; exact hb _ (List.getElem_mem _)); omega)
    refine G.seq ?_
    refine G.join (F := F) (ι := Unit) (fun _ => [(0, vptr d), (1, .slice ah how.length ch), (9, .slice (some ⟨bl, 0, none⟩) δ.pend.length cl), (10, vint δ.pend.length), (11, vint k), (4, vint k), (5, vint i), (6, vint (fateOf how k))]) (fun _ => [dkR d (δ.crashTo how k), p, intR (.slice (some ⟨bl, 0, none⟩) δ.pend.length cl) δ.pend]) (fun _ => True) ?_ (fun _ _ => ?_)
    · refine G.seq ?_
      refine G.region ?_
      refine G.q (Quiet.move rfl) rfl ?_
      refine G.q (Quiet.int rfl rfl rfl) rfl ?_
      refine G.nil ?_
      refine G.then_n ?_
      refine G.condD rfl (fun h25 => ?_) (fun h25 => ?_)
      · refine G.region ?_
        refine G.q (Quiet.move rfl) rfl ?_
        refine G.q (Quiet.add rfl rfl (by omega)) rfl ?_
        refine G.q (Quiet.neg rfl (by omega)) rfl ?_
        refine G.q (Quiet.assign rfl) rfl ?_
        refine G.nil ?_
        refine G.then_n ?_
        exact G.meet () trivial ⟨rfl, rfl, rfl, rfl, rfl, rfl, rfl, (by show some (vint _) = some (vint _); unfold fateOf; dsimp only; rw [if_pos h25]), trivial⟩ (by (repeat (first | exact Picks.nil | (apply Picks.cons; (repeat (first | exact Pick.here | apply Pick.there)))))) (by (repeat (first | exact Suff.here | apply Suff.there)))
      · refine G.skip ?_
        refine G.then_n ?_
        exact G.meet () trivial ⟨rfl, rfl, rfl, rfl, rfl, rfl, rfl, (by show some (vint _) = some (vint _); unfold fateOf; dsimp only; rw [if_neg h25]), trivial⟩ (by (repeat (first | exact Picks.nil | (apply Picks.cons; (repeat (first | exact Pick.here | apply Pick.there)))))) (by (repeat (first | exact Suff.here | apply Suff.there)))
    generalize hf : fateOf how k = f at hfb ⊢
    have hok := Dk.crashTo_ok hok0 how k (by omega)
    obtain ⟨so, -, -, -, sn⟩ := δ.crashTo_same how k
    generalize hσ : δ.crashTo how k = σ at hok so sn ⊢
    rw [← so] at w3
    rw [← sn] at w1 w2
    refine G.dkOpen (δ := σ) (by (repeat (first | exact Pick.here | apply Pick.there))) fun nb ob _ => ?_
    have q3 : (bys o).length = 64 := by simpa using w4
    have q4 := secsC_length hok.sec
    have q5 : σ.now[i.toNat].length = 64 := hok.sec _ (List.getElem_mem w1)
    have qf : f % 3 = 0 ∨ f % 3 = 1 ∨ f % 3 = 2 := by omega
    have qb : 0 ≤ f / 3 % 65 ∧ f / 3 % 65 ≤ 64 := by omega
    have qb2 : (f / 3 % 65).toNat ≤ 64 := by omega
    refine G.seq ?_
    refine G.region ?_
    refine G.q (Quiet.move rfl) rfl ?_
    refine G.q (Quiet.nilp rfl) rfl ?_
    refine G.q (Quiet.fieldAddr rfl fo_100_1) rfl ?_
    refine G.q (Quiet.load rfl ag_98 (by (repeat (first | exact Pick.here | apply Pick.there))) (rfl)) rfl ?_
    refine G.q (Quiet.move rfl) rfl ?_
    refine G.q (Quiet.lookupS (m := σ.old) (enc := secV) (KeyLaw.int Try.underlying3) w3 rfl rfl Try.underlying98 ze_106 (by (repeat (first | exact Pick.here | apply Pick.there))) rfl) rfl ?_
    refine G.op (OpSpec.allocA ze_106) (by (repeat (first | exact Picks.nil | (apply Picks.cons; (repeat (first | exact Pick.here | apply Pick.there)))))) rfl ?nx28
    rintro v L' ⟨tb, rfl, rfl⟩
    refine G.op (OpSpec.storeA rfl rfl ?c30 sz_106 ?c33 ?c31 ?c32) (by (repeat (first | exact Picks.nil | (apply Picks.cons; (repeat (first | exact Pick.here | apply Pick.there)))))) rfl ?nx34
    case c30 => exact bys_cell _
    case c33 => exact q3
    case c31 => rw [q3]; decide
    case c32 => exact nfz0 _ _
    rintro v L' rfl
    refine G.nil ?_
    rw [spl_all (vs := bys o) (by rw [q3]; rfl)]
    refine G.then_n ?_
    refine G.seq ?_
    refine G.region ?_
    refine G.q (Quiet.move rfl) rfl ?_
    refine G.q (Quiet.remE rfl rfl (by omega) (by omega)) rfl ?_
    refine G.nil ?_
    refine G.then_n ?_
    refine G.block ?_
    refine G.seq ?_
    refine G.region ?_
    refine G.q (Quiet.int rfl rfl rfl) rfl ?_
    refine G.q (Quiet.assign rfl) rfl ?_
    refine G.nil ?_
    refine G.then_n ?_
    refine G.condD rfl (fun h37 => ?_) (fun h37 => ?_)
    · refine G.draw [7] [[0, 1, 2, 3, 4, 5, 6, 7]] mixed (by kernel_rfl) ?_
      refine Phases.go [] (by (repeat (first | exact Picks.nil | (apply Picks.cons; (repeat (first | exact Pick.here | apply Pick.there)))))) ?_
      refine D.qw [1, 2, 3, 6, 7] rfl (by kernel_rfl) (Quiet.move rfl) ?_
      refine D.qw [2, 3, 6, 7] rfl (by kernel_rfl) (Quiet.nilp rfl) ?_
      refine D.qw [3, 6, 7] rfl (by kernel_rfl) (Quiet.fieldAddr rfl fo_100_0) ?_
      refine D.qw [6, 7] rfl (by kernel_rfl) (Quiet.load rfl ag_97 (by (repeat (first | exact Pick.here | apply Pick.there))) (rfl)) ?_
      refine D.qw [6, 7] rfl (by kernel_rfl) (Quiet.move rfl) ?_
      refine D.qw [6, 7] rfl (by kernel_rfl) (Quiet.loadAs (vs := bys o) rfl ag_106 (by (repeat (first | exact Pick.here | apply Pick.there))) (by rw [q3]; decide) (by rw [List.drop_zero]; exact List.take_of_length_le (by rw [q3]; decide))) ?_
      refine D.qw [7] rfl (by kernel_rfl) (Quiet.indexAddr rfl rfl el_97 (by omega)) ?_
      refine D.h rfl (by kernel_rfl) (OpSpec.storeA rfl rfl ?c45 sz_106 ?c48 ?c46 ?c47) (by (repeat (first | exact Picks.nil | (apply Picks.cons; (repeat (first | exact Pick.here | apply Pick.there)))))) ?nx49
      case c45 => exact bys_cell _
      case c48 => exact q3
      case c46 => rw [q3, q4]; omega
      case c47 => exact nfz0 _ _
      rintro v L' rfl
      refine D.ph ?_
      refine Phases.fin ?_
      rw [Nat.zero_add, secsC_set hok.sec w1 w4]
      refine G.blk_n ?_
      refine G.blk_n ?_
      refine G.then_n ?_
      have hE : δ.crashTo how (k + 1) = σ.crash1 f i := by rw [Dk.crashTo, hσ, hf, hi]
      have hN : σ.now.set i.toNat o = (σ.crash1 f i).now := by simp only [Dk.crash1, w3, Option.getD_some]; rw [if_pos h37]
      refine G.dkFold (nb := nb) (ob := ob) (δ := σ.crash1 f i) (by (repeat (first | exact Picks.nil | (apply Picks.cons; (repeat (first | exact Pick.here | apply Pick.there)))))) (by rw [Dk.crash1_len]; rfl) (by rw [← hN]) rfl (hok.crash1 f w3 w4 w1) ?_
      rw [← hE]
      refine G.region ?_
      refine G.q (Quiet.add rfl rfl (by omega)) rfl ?_
      refine G.q (Quiet.move rfl) rfl ?_
      refine G.nil ?_
      refine G.then_n ?_
      refine G.round (k + 1) (by omega) (by omega) ⟨rfl, rfl, rfl, rfl, rfl, trivial⟩ (by (repeat (first | exact Picks.nil | (apply Picks.cons; (repeat (first | exact Pick.here | apply Pick.there)))))) (by (repeat (first | exact Suff.here | apply Suff.there)))
    · refine G.seq ?_
      refine G.region ?_
      refine G.q (Quiet.int rfl rfl rfl) rfl ?_
      refine G.q (Quiet.assign rfl) rfl ?_
      refine G.nil ?_
      refine G.then_n ?_
      refine G.condD rfl (fun h46 => ?_) (fun h46 => ?_)
      · refine G.seq ?_
        refine G.draw [11] [[0, 1, 2, 3, 4, 5, 6, 7, 8, 9, 10, 11]] mixed (by kernel_rfl) ?_
        refine Phases.go [] (by (repeat (first | exact Picks.nil | (apply Picks.cons; (repeat (first | exact Pick.here | apply Pick.there)))))) ?_
        refine D.qw [11] rfl (by kernel_rfl) (Quiet.arrSlice rfl ar_106 (by first | exact rfl | rfl) (by first | exact rfl | rfl) (by omega)) ?_
        refine D.qw [2, 3, 4, 6, 10, 11] rfl (by kernel_rfl) (Quiet.move rfl) ?_
        refine D.qw [3, 4, 6, 10, 11] rfl (by kernel_rfl) (Quiet.nilp rfl) ?_
        refine D.qw [4, 6, 10, 11] rfl (by kernel_rfl) (Quiet.fieldAddr rfl fo_100_0) ?_
        refine D.qw [6, 10, 11] rfl (by kernel_rfl) (Quiet.load rfl ag_97 (by (repeat (first | exact Pick.here | apply Pick.there))) (rfl)) ?_
        refine D.qw [6, 10, 11] rfl (by kernel_rfl) (Quiet.move rfl) ?_
        refine D.qw [10, 11] rfl (by kernel_rfl) (Quiet.indexAddr rfl rfl el_97 (by omega)) ?_
        refine D.qw [8, 9, 10, 11] rfl (by kernel_rfl) (Quiet.move rfl) ?_
        refine D.qw [9, 10, 11] rfl (by kernel_rfl) (Quiet.quoE rfl rfl (by omega) (by omega)) ?_
        refine D.qw [10, 11] rfl (by kernel_rfl) (Quiet.remE rfl rfl (by omega) (by omega)) ?_
        refine D.qw [11] rfl (by kernel_rfl) (Quiet.arrSlice rfl ar_106 (by first | exact rfl | rfl) (by first | exact rfl | rfl) (by omega)) ?_
        refine D.h rfl (by kernel_rfl) (OpSpec.copy (p := ptc nb (secsC σ.now) 106) (m := (f / 3 % 65).toNat) (ys := bys (σ.now[i.toNat].take (f / 3 % 65).toNat)) rfl rfl rfl el_31 ?hrd63 ?hc64 ?ho65 ?hf66) (by (repeat (first | exact Picks.nil | (apply Picks.cons; (repeat (first | exact Pick.here | apply Pick.there)))))) ?nx67
        case hrd63 => intro h hp; exact rdS_pt hp (secsC_take hok.sec w1 (by simp) (by simp) qb2) (by rw [q4]; show 0 + i.toNat * 64 + 0 * 1 + ((f / 3 % 65).toNat - 0) * 1 ≤ σ.now.length * 64; omega) (by show (f / 3 % 65).toNat - 0 ≤ 64 - 0; omega)
        case hc64 => exact bys_cell _
        case ho65 => rw [q3]; decide
        case hf66 => exact nfz0 _ _
        rintro v L' ⟨rfl, rfl⟩
        refine D.ph ?_
        refine Phases.fin ?_
        have eo : (bys (σ.now[i.toNat].take (f / 3 % 65).toNat)).take (min (f / 3 % 65).toNat (((64 : Nat) : Int).toNat - Int.toNat 0) * 1) = bys (σ.now[i.toNat].take (f / 3 % 65).toNat) := List.take_of_length_le (by simp; omega)
        have e13 : spl (bys o) (0 + Int.toNat 0 * 1) (bys (σ.now[i.toNat].take (f / 3 % 65).toNat)) = bys (σ.now[i.toNat].take (f / 3 % 65).toNat ++ o.drop (f / 3 % 65).toNat) := by simp [spl, List.map_drop, q5, Nat.min_eq_left qb2]
        have q6 : (σ.now[i.toNat].take (f / 3 % 65).toNat ++ o.drop (f / 3 % 65).toNat).length = 64 := by rw [List.length_append, List.length_take, List.length_drop, q5, w4]; omega
        generalize ho2 : σ.now[i.toNat].take (f / 3 % 65).toNat ++ o.drop (f / 3 % 65).toNat = o2 at e13 q6
        have q7 : (bys o2).length = 64 := by simpa using q6
        rw [eo, e13]
        refine G.then_n ?_
        refine G.draw [7] [[0, 1, 2, 3, 4, 5, 6, 7]] mixed (by kernel_rfl) ?_
        refine Phases.go [] (by (repeat (first | exact Picks.nil | (apply Picks.cons; (repeat (first | exact Pick.here | apply Pick.there)))))) ?_
        refine D.qw [1, 2, 3, 6, 7] rfl (by kernel_rfl) (Quiet.move rfl) ?_
        refine D.qw [2, 3, 6, 7] rfl (by kernel_rfl) (Quiet.nilp rfl) ?_
        refine D.qw [3, 6, 7] rfl (by kernel_rfl) (Quiet.fieldAddr rfl fo_100_0) ?_
        refine D.qw [6, 7] rfl (by kernel_rfl) (Quiet.load rfl ag_97 (by (repeat (first | exact Pick.here | apply Pick.there))) (rfl)) ?_
        refine D.qw [6, 7] rfl (by kernel_rfl) (Quiet.move rfl) ?_
        refine D.qw [6, 7] rfl (by kernel_rfl) (Quiet.loadAs (vs := bys o2) rfl ag_106 (by (repeat (first | exact Pick.here | apply Pick.there))) (by rw [q7]; decide) (by rw [List.drop_zero]; exact List.take_of_length_le (by rw [q7]; decide))) ?_
        refine D.qw [7] rfl (by kernel_rfl) (Quiet.indexAddr rfl rfl el_97 (by omega)) ?_
        refine D.h rfl (by kernel_rfl) (OpSpec.storeA rfl rfl ?c76 sz_106 ?c79 ?c77 ?c78) (by (repeat (first | exact Picks.nil | (apply Picks.cons; (repeat (first | exact Pick.here | apply Pick.there)))))) ?nx80
        case c76 => exact bys_cell _
        case c79 => exact q7
        case c77 => rw [q7, q4]; omega
        case c78 => exact nfz0 _ _
        rintro v L' rfl
        refine D.ph ?_
        refine Phases.fin ?_
        rw [Nat.zero_add, secsC_set hok.sec w1 q6]
        refine G.blk_n ?_
        refine G.blk_n ?_
        refine G.then_n ?_
        have hE : δ.crashTo how (k + 1) = σ.crash1 f i := by rw [Dk.crashTo, hσ, hf, hi]
        have hN : σ.now.set i.toNat o2 = (σ.crash1 f i).now := by simp only [Dk.crash1, w3, Option.getD_some]; rw [if_neg h37, if_pos h46, ← ho2]; simp [w1]
        refine G.dkFold (nb := nb) (ob := ob) (δ := σ.crash1 f i) (by (repeat (first | exact Picks.nil | (apply Picks.cons; (repeat (first | exact Pick.here | apply Pick.there)))))) (by rw [Dk.crash1_len]; rfl) (by rw [← hN]) rfl (hok.crash1 f w3 w4 w1) ?_
        rw [← hE]
        refine G.region ?_
        refine G.q (Quiet.add rfl rfl (by omega)) rfl ?_
        refine G.q (Quiet.move rfl) rfl ?_
        refine G.nil ?_
        refine G.then_n ?_
        refine G.round (k + 1) (by omega) (by omega) ⟨rfl, rfl, rfl, rfl, rfl, trivial⟩ (by (repeat (first | exact Picks.nil | (apply Picks.cons; (repeat (first | exact Pick.here | apply Pick.there)))))) (by (repeat (first | exact Suff.here | apply Suff.there)))
      · refine G.skip ?_
        refine G.blk_n ?_
        refine G.blk_n ?_
        refine G.then_n ?_
        have hE : δ.crashTo how (k + 1) = σ.crash1 f i := by rw [Dk.crashTo, hσ, hf, hi]
        have hN : σ.now = (σ.crash1 f i).now := by simp only [Dk.crash1, w3, Option.getD_some]; rw [if_neg h37, if_neg h46]
        refine G.dkFold (nb := nb) (ob := ob) (δ := σ.crash1 f i) (by (repeat (first | exact Picks.nil | (apply Picks.cons; (repeat (first | exact Pick.here | apply Pick.there)))))) (by rw [Dk.crash1_len]; rfl) (by rw [← hN]) rfl (hok.crash1 f w3 w4 w1) ?_
        rw [← hE]
        refine G.region ?_
        refine G.q (Quiet.add rfl rfl (by omega)) rfl ?_
        refine G.q (Quiet.move rfl) rfl ?_
        refine G.nil ?_
        refine G.then_n ?_
        refine G.round (k + 1) (by omega) (by omega) ⟨rfl, rfl, rfl, rfl, rfl, trivial⟩ (by (repeat (first | exact Picks.nil | (apply Picks.cons; (repeat (first | exact Pick.here | apply Pick.there)))))) (by (repeat (first | exact Suff.here | apply Suff.there)))
  · have hk2 : k = δ.pend.length := by omega
    subst hk2
    refine G.dkOpen (δ := δ.crashTo how δ.pend.length) (by (repeat (first | exact Pick.here | apply Pick.there))) fun nb ob hok => ?_
    refine G.exit ?_
    refine G.then_e ?_
    refine G.then_e ?_
    refine G.blk_e ?_
    refine G.then_n ?_
    refine G.seq ?_
    refine G.region ?_
    refine G.q (Quiet.move rfl) rfl ?_
    refine G.q (Quiet.nilp rfl) rfl ?_
    refine G.q (Quiet.fieldAddr rfl fo_100_1) rfl ?_
    refine G.q (Quiet.load rfl ag_98 (by (repeat (first | exact Pick.here | apply Pick.there))) (rfl)) rfl ?_
    refine G.op (OpSpec.mapClear rfl rfl Try.underlying98) (by (repeat (first | exact Picks.nil | (apply Picks.cons; (repeat (first | exact Pick.here | apply Pick.there)))))) rfl ?nx87
    rintro v L' rfl
    refine G.nil ?_
    refine G.then_n ?_
    refine G.region ?_
    refine G.q (Quiet.move rfl) rfl ?_
    refine G.q (Quiet.move rfl) rfl ?_
    refine G.q (Quiet.nilp rfl) rfl ?_
    refine G.q (Quiet.fieldAddr rfl fo_100_4) rfl ?_
    refine G.op (OpSpec.store rfl rfl rfl sz_4 ?c92 ?c93) (by (repeat (first | exact Picks.nil | (apply Picks.cons; (repeat (first | exact Pick.here | apply Pick.there)))))) rfl ?nx94
    case c92 => first | decide | (simp; omega) | simp
    case c93 => exact nfz0 _ _
    rintro v L' rfl
    refine G.q (Quiet.nilp rfl) rfl ?_
    refine G.q (Quiet.fieldAddr rfl fo_100_3) rfl ?_
    refine G.op (OpSpec.store rfl rfl rfl sz_3 ?c97 ?c98) (by (repeat (first | exact Picks.nil | (apply Picks.cons; (repeat (first | exact Pick.here | apply Pick.there)))))) rfl ?nx99
    case c97 => first | decide | (simp; omega) | simp
    case c98 => exact nfz0 _ _
    rintro v L' rfl
    refine G.nil ?_
    refine G.done_n ?_
    refine G.dkFold (δ := δ.crash how) (by (repeat (first | exact Picks.nil | (apply Picks.cons; (repeat (first | exact Pick.here | apply Pick.there)))))) rfl rfl rfl (hok0.crashed how) ?_
    exact G.done (l := []) rfl rfl ⟨rfl, rfl⟩ (by (repeat (first | exact Picks.nil | (apply Picks.cons; (repeat (first | exact Pick.here | apply Pick.there)))))) (by (repeat (first | exact Suff.here | apply Suff.there)))

set_option maxRecDepth 100000 in
theorem new_spec (n : Int) : Fn Try.prog 15 #[vint n] [] fun v L => ((n < 16 ∨ 32768 < n) ∧ v = .tuple #[.pointer none, vint 1] ∧ L = []) ∨ ((16 ≤ n ∧ n ≤ 32768) ∧ ∃ x, v = .tuple #[vptr x, vint 0] ∧ L = [dkR x (Dk.new n)]) := by
  refine Fn.intro (vs := [vint n]) Try.func15 rfl rfl ?_
  intro F W
  refine G.seq ?_
  refine G.region ?_
  refine G.q (Quiet.assign rfl) rfl ?_
  refine G.q (Quiet.assign rfl) rfl ?_
  refine G.nil ?_
  refine G.then_n ?_
  refine G.seq ?_
  refine G.seq ?_
  refine G.region ?_
  refine G.q (Quiet.move rfl) rfl ?_
  refine G.q (Quiet.int rfl rfl rfl) rfl ?_
  refine G.q (Quiet.move rfl) rfl ?_
  refine G.dec (t := 6) rfl (fun h1_6 => ?_) (fun h1_6 => ?_)
  · refine G.kDT (t := 5) rfl h1_6 ?_
    refine G.gskip (t := 6) rfl rfl rfl rfl ?_
    refine G.gskip (t := 6) rfl rfl rfl rfl ?_
    refine G.q (Quiet.pickT rfl rfl) rfl ?_
    refine G.nil ?_
    refine G.then_n ?_
    refine G.condT rfl ?_
    refine G.seq ?_
    refine G.region ?_
    refine G.q (Quiet.assign rfl) rfl ?_
    refine G.q (Quiet.assign rfl) rfl ?_
    refine G.nil ?_
    refine G.then_n ?_
    refine G.ret ?_
    refine G.then_r ?_
    exact G.done (l := [.tmp 2, .tmp 3]) rfl rfl (.inl ⟨by omega, rfl, rfl⟩) (by (repeat (first | exact Picks.nil | (apply Picks.cons; (repeat (first | exact Pick.here | apply Pick.there)))))) (by (repeat (first | exact Suff.here | apply Suff.there)))
  · refine G.kDF (t := 5) rfl h1_6 ?_
    refine G.grun (t := 6) rfl rfl rfl ?_
    refine G.q (Quiet.move rfl) rfl ?_
    refine G.grun (t := 6) rfl rfl rfl ?_
    refine G.q (Quiet.int rfl rfl rfl) rfl ?_
    refine G.q (Quiet.pickF rfl rfl) rfl ?_
    refine G.nil ?_
    refine G.then_n ?_
    refine G.condD rfl (fun h9 => ?_) (fun h9 => ?_)
    · refine G.seq ?_
      refine G.region ?_
      refine G.q (Quiet.assign rfl) rfl ?_
      refine G.q (Quiet.assign rfl) rfl ?_
      refine G.nil ?_
      refine G.then_n ?_
      refine G.ret ?_
      refine G.then_r ?_
      exact G.done (l := [.tmp 2, .tmp 3]) rfl rfl (.inl ⟨by omega, rfl, rfl⟩) (by (repeat (first | exact Picks.nil | (apply Picks.cons; (repeat (first | exact Pick.here | apply Pick.there)))))) (by (repeat (first | exact Suff.here | apply Suff.there)))
    · obtain ⟨hn1, hn2⟩ : 16 ≤ n ∧ n ≤ 32768 := by omega
      refine G.skip ?_
      refine G.then_n ?_
      refine G.seq ?_
      refine G.region ?_
      refine G.q (Quiet.move rfl) rfl ?_
      refine G.op (OpSpec.make rfl rfl el_97 ze_106 rfl ⟨by simp, by simp; rfl⟩ ?c13) (by (repeat (first | exact Picks.nil | (apply Picks.cons; (repeat (first | exact Pick.here | apply Pick.there)))))) rfl ?nx14
      case c13 => omega
      rintro v L' ⟨nb, rfl, rfl⟩
      refine G.op (OpSpec.makeMap Try.underlying98) (by (repeat (first | exact Picks.nil | (apply Picks.cons; (repeat (first | exact Pick.here | apply Pick.there)))))) rfl ?nx16
      rintro v L' ⟨ob, rfl, rfl⟩
      refine G.q (Quiet.build (us := [(0, _), (1, _)]) fl_100 ze_100 rfl rfl (by simp [isCell])) rfl ?_
      refine G.op (OpSpec.box rfl) (by (repeat (first | exact Picks.nil | (apply Picks.cons; (repeat (first | exact Pick.here | apply Pick.there)))))) rfl ?nx19
      rintro v L' ⟨x, rfl, rfl⟩
      refine G.q (Quiet.assign rfl) rfl ?_
      refine G.q (Quiet.assign rfl) rfl ?_
      refine G.nil ?_
      refine G.then_n ?_
      refine G.ret ?_
      refine G.fold (p := mapR ob []) (.cons (p := pt ob (.map #[] 0)) (by (repeat (first | exact Pick.here | apply Pick.there))) .nil) (fun h hp => mapR_new (sep_pt hp)) ?_
      refine G.dkFold (nb := nb) (ob := ob) (δ := Dk.new n) (by (repeat (first | exact Picks.nil | (apply Picks.cons; (repeat (first | exact Pick.here | apply Pick.there)))))) (by simp [Dk.new]; rfl) (secsC_new _).symm rfl (Dk.new_ok (by omega)) ?_
      exact G.done (l := [.tmp 2, .tmp 3]) rfl rfl (.inr ⟨⟨hn1, hn2⟩, x, rfl, rfl⟩) (by (repeat (first | exact Picks.nil | (apply Picks.cons; (repeat (first | exact Pick.here | apply Pick.there)))))) (by (repeat (first | exact Suff.here | apply Suff.there)))

end Go.Proofs.Ytepncdidkjjllaa
