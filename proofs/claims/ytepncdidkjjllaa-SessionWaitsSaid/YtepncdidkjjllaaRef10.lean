/- Own work, by program: the document's tracker, walked. -/
import Derived.Test.YtepncdidkjjllaaSession
namespace Go.Proofs.Ytepncdidkjjllaa
open Go
def placeZ (σ : Ses) (id : Int) : Int := match σ.findIdx? (fun x => decide (x.1 = id)) with | some i => (i : Int) | none => -1
theorem placeZ_at {σ : Ses} {id : Int} {i : Nat} (hi : i < σ.length) (hb : ∀ j (hj : j < i), σ[j].1 ≠ id) (he : σ[i].1 = id) : placeZ σ id = i := by
  have : σ.findIdx? (fun x => decide (x.1 = id)) = some i := by
    rw [List.findIdx?_eq_some_iff_getElem]
    exact ⟨hi, by simpa using he, fun j hj => by simpa using hb j hj⟩
  rw [placeZ, this]
theorem placeZ_none {σ : Ses} {id : Int} (hb : ∀ j (hj : j < σ.length), σ[j].1 ≠ id) : placeZ σ id = -1 := by
  have : σ.findIdx? (fun x => decide (x.1 = id)) = none := by
    rw [List.findIdx?_eq_none_iff]
    intro x hx
    obtain ⟨j, hj, rfl⟩ := List.mem_iff_getElem.1 hx
    simpa using hb j hj
  rw [placeZ, this]
theorem placeZ_cases (σ : Ses) (id : Int) : (placeZ σ id = -1 ∧ alook σ id = none) ∨ ∃ (i : Nat) (hi : i < σ.length), placeZ σ id = i ∧ σ[i].1 = id ∧ alook σ id = some σ[i].2 ∧ adel σ id = σ.take i ++ σ.drop (i + 1) ∧ (∀ j (hj : j < i), σ[j].1 ≠ id) := by
  induction σ with
  | nil => exact .inl ⟨rfl, rfl⟩
  | cons y σ ih =>
    obtain ⟨a, b⟩ := y
    by_cases hk : id = a
    · subst hk
      refine .inr ⟨0, by simp, placeZ_at (by simp) (fun j hj => by omega) rfl, rfl, by simp [alook], by simp [adel], fun j hj => by omega⟩
    · rcases ih with ⟨h1, h2⟩ | ⟨i, hi, h1, h2, h3, h4, h5⟩
      · refine .inl ⟨placeZ_none fun j hj => ?_, by simp [alook, hk, h2]⟩
        cases j with
        | zero => exact fun h => hk h.symm
        | succ j =>
          intro h
          have hm : id ∈ σ.map (·.1) := List.mem_map.2 ⟨σ[j]'(by simpa using hj), List.getElem_mem _, h⟩
          exact al_none.1 h2 hm
      · refine .inr ⟨i + 1, by simp [hi], placeZ_at (by simp [hi]) (fun j hj => ?_) h2, h2, by simp [alook, hk, h3], by simp [adel, hk, h4], fun j hj => ?_⟩
        all_goals
          cases j with
          | zero => exact fun h => hk h.symm
          | succ j => exact h5 j (by omega)
theorem sins_at {σ : Ses} (h : Sorted σ) {id : Int} {e : Int × Int} {i : Nat} (hi : i < σ.length) (hk : σ[i].1 = id) : sins σ id e = σ.set i (id, e) := by
  induction σ generalizing i with
  | nil => simp at hi
  | cons y σ ih =>
    obtain ⟨a, b⟩ := y
    obtain ⟨h1, h2⟩ := List.pairwise_cons.1 h
    cases i with
    | zero =>
      have hk' : a = id := hk
      subst hk'
      simp [sins]
    | succ i =>
      have hi' : i < σ.length := by simpa using hi
      simp only [List.getElem_cons_succ] at hk
      have := h1 σ[i] (List.getElem_mem _)
      dsimp only at this
      simp only [sins, List.set_cons_succ]
      rw [if_neg (by omega), if_neg (by omega), ih h2 hi' hk]
structure OutI (σ : Ses) (id : Int) (e : Int × Int) (i : Nat) (put : Bool) (out : Ses) : Prop where
  no : put = false → out = σ.take i ∧ ∀ x ∈ σ.take i, x.1 < id
  yes : put = true → out = sins (σ.take i) id e ∧ ∃ x ∈ σ.take i, id ≤ x.1
  len : out.length ≤ i + 1
theorem OutI.start (σ : Ses) (id : Int) (e : Int × Int) : OutI σ id e 0 false [] := ⟨fun _ => ⟨by simp, by simp⟩, fun h => (by cases h), by simp⟩
/-- behind 'put' -/
theorem OutI.put {σ : Ses} {id : Int} {e : Int × Int} {i : Nat} {out : Ses} (h : OutI σ id e i false out) (hi : i < σ.length) (hge : σ[i].1 ≥ id) (hne : σ[i].1 ≠ id) : OutI σ id e (i + 1) true (out ++ [(id, e)] ++ [σ[i]]) := by
  obtain ⟨rfl, h2⟩ := h.no rfl
  refine ⟨fun h => (by cases h), fun _ => ⟨?_, σ[i], by rw [List.take_succ_eq_append_getElem hi]; exact List.mem_append_right _ (List.mem_singleton.2 rfl), hge⟩, by simp; omega⟩
  rw [List.take_succ_eq_append_getElem hi, sins_lt h2]
  simp only [sins]
  rw [if_pos (by omega)]; simp
theorem OutI.rep {σ : Ses} {id : Int} {e : Int × Int} {i : Nat} {out : Ses} (h : OutI σ id e i false out) (hi : i < σ.length) (hk : σ[i].1 = id) : OutI σ id e (i + 1) true (out ++ [(id, e)]) := by
  obtain ⟨rfl, h2⟩ := h.no rfl
  refine ⟨fun h => (by cases h), fun _ => ⟨?_, σ[i], by rw [List.take_succ_eq_append_getElem hi]; exact List.mem_append_right _ (List.mem_singleton.2 rfl), by omega⟩, by simp; omega⟩
  rw [List.take_succ_eq_append_getElem hi, sins_lt h2]
  simp only [sins]
  rw [if_neg (by omega), if_pos hk.symm]
theorem OutI.go0 {σ : Ses} {id : Int} {e : Int × Int} {i : Nat} {out : Ses} (h : OutI σ id e i false out) (hi : i < σ.length) (hlt : ¬ σ[i].1 ≥ id) : OutI σ id e (i + 1) false (out ++ [σ[i]]) := by
  obtain ⟨rfl, h2⟩ := h.no rfl
  refine ⟨fun _ => ⟨by rw [List.take_succ_eq_append_getElem hi], fun x hx => ?_⟩, fun h => (by cases h), by simp; omega⟩
  rw [List.take_succ_eq_append_getElem hi] at hx
  rcases List.mem_append.1 hx with hx | hx
  · exact h2 x hx
  · simp at hx; subst hx; omega
theorem OutI.go1 {σ : Ses} {id : Int} {e : Int × Int} {i : Nat} {out : Ses} (h : OutI σ id e i true out) (hi : i < σ.length) : OutI σ id e (i + 1) true (out ++ [σ[i]]) := by
  obtain ⟨h1, x, hx, hk⟩ := h.yes rfl
  have hl := h.len
  refine ⟨fun h => (by cases h), fun _ => ⟨?_, x, by rw [List.take_succ_eq_append_getElem hi]; exact List.mem_append_left _ hx, hk⟩, by simp; omega⟩
  rw [List.take_succ_eq_append_getElem hi, sins_ge ⟨x, hx, hk⟩, h1]
theorem OutI.not1 {σ : Ses} (hs : Sorted σ) {id : Int} {e : Int × Int} {i : Nat} {out : Ses} (h : OutI σ id e i true out) (hi : i < σ.length) : σ[i].1 ≠ id := by
  obtain ⟨h1, x, hx, hk⟩ := h.yes rfl
  obtain ⟨j, hj, rfl⟩ := List.mem_iff_getElem.1 hx
  simp only [List.length_take] at hj
  simp only [List.getElem_take] at hk
  have := (List.pairwise_iff_getElem.1 hs) j i (by omega) hi (by omega)
  omega
theorem OutI.fin1 {σ : Ses} {id : Int} {e : Int × Int} {out : Ses} (h : OutI σ id e σ.length true out) : out = sins σ id e := by
  have := (h.yes rfl).1; rwa [List.take_length] at this
theorem OutI.fin0 {σ : Ses} {id : Int} {e : Int × Int} {out : Ses} (h : OutI σ id e σ.length false out) : out ++ [(id, e)] = sins σ id e := by
  obtain ⟨h1, h2⟩ := h.no rfl
  rw [List.take_length] at h1 h2
  have := sins_lt (r := []) (e := e) h2
  rw [List.append_nil] at this
  rw [this, h1]; rfl
set_option maxRecDepth 100000 in
theorem rtnew_spec : Fn Try.prog 39 #[] [] fun v L => ∃ t, v = vptr t ∧ L = [trR t []] := by
  refine Fn.intro (vs := []) Try.func39 rfl rfl ?_
  intro F W
  refine G.seq ?_
  refine G.region ?_
  refine G.q (Quiet.assign rfl) rfl ?_
  refine G.nil ?_
  refine G.then_n ?_
  refine G.seq ?_
  refine G.region ?_
  refine G.q (Quiet.build (us := []) fl_144 ze_144 rfl rfl (by simp [isCell])) rfl ?_
  refine G.op (OpSpec.box rfl) (by (repeat (first | exact Picks.nil | (apply Picks.cons; (repeat (first | exact Pick.here | apply Pick.there)))))) rfl ?nx3
  rintro v L' ⟨t, rfl, rfl⟩
  refine G.q (Quiet.assign rfl) rfl ?_
  refine G.nil ?_
  refine G.then_n ?_
  refine G.ret ?_
  refine G.add (p := sesR (.slice none 0 0) []) (slR_nil 147 3) ?_
  refine G.trFold (σ := []) SOk.nil (by (repeat (first | exact Picks.nil | (apply Picks.cons; (repeat (first | exact Pick.here | apply Pick.there)))))) rfl rfl ?_
  exact G.done (l := [.tmp 0]) rfl rfl ⟨_, rfl, rfl⟩ (by (repeat (first | exact Picks.nil | (apply Picks.cons; (repeat (first | exact Pick.here | apply Pick.there)))))) (by (repeat (first | exact Suff.here | apply Suff.there)))

set_option maxRecDepth 100000 in
theorem place_spec (t : Nat) (σ : Ses) (id : Int) : Fn Try.prog 97 #[vptr t, vint id] [trR t σ] fun v L => v = vint (placeZ σ id) ∧ L = [trR t σ] := by
  refine Fn.intro (vs := [vptr t, vint id]) Try.func97 rfl rfl ?_
  intro F W
  refine G.trOpen (σ := σ) (by (repeat (first | exact Pick.here | apply Pick.there))) fun v hok => ?_
  refine G.slAny (v := v) (by (repeat (first | exact Pick.here | apply Pick.there))) fun aa ca e _ => ?_
  subst e
  have hfew := hok.few
  refine G.seq ?_
  refine G.region ?_
  refine G.q (Quiet.assign rfl) rfl ?_
  refine G.nil ?_
  refine G.then_n ?_
  refine G.seq ?_
  refine G.seq ?_
  refine G.region ?_
  refine G.q (Quiet.assign rfl) rfl ?_
  refine G.nil ?_
  refine G.then_n ?_
  refine G.block ?_
  refine G.loopK (ι := Nat) (fun q E => (5, vint q) :: E) (fun q => []) (fun q => q ≤ σ.length ∧ ∀ j (hj : j < q) (hl : j < σ.length), σ[j].1 ≠ id) (fun q => σ.length - q) (0) (ts := [0, 1]) (.cons rfl (.cons rfl (.nil))) (⟨Nat.zero_le _, fun j hj => by omega⟩) ⟨rfl, rfl, rfl, trivial⟩ (by (repeat (first | exact Picks.nil | (apply Picks.cons; (repeat (first | exact Pick.here | apply Pick.there)))))) ?_
  rintro i ⟨hi, hb⟩
  refine G.seq ?_
  refine G.seq ?_
  refine G.region ?_
  refine G.q (Quiet.move rfl) rfl ?_
  refine G.q (Quiet.move rfl) rfl ?_
  refine G.q (Quiet.nilp rfl) rfl ?_
  refine G.q (Quiet.fieldAddr rfl fo_144_0) rfl ?_
  refine G.q (Quiet.load rfl ag_142 (by (repeat (first | exact Pick.here | apply Pick.there))) (rfl)) rfl ?_
  refine G.q (Quiet.slen rfl Try.underlying142 rfl) rfl ?_
  refine G.q (Quiet.int rfl rfl rfl) rfl ?_
  refine G.nil ?_
  refine G.then_n ?_
  refine G.condD rfl (fun h12 => ?_) (fun h12 => ?_)
  · have hi2 : i < σ.length := by omega
    refine G.slShape (v := .slice aa _ ca) (by (repeat (first | exact Pick.here | apply Pick.there))) (by omega) fun ba ca2 e hcap _ => ?_
    simp only [Value.slice.injEq, true_and] at e
    obtain ⟨rfl, rfl⟩ := e
    refine G.skip ?_
    refine G.then_n ?_
    refine G.seq ?_
    refine G.block ?_
    refine G.seq ?_
    refine G.region ?_
    refine G.q (Quiet.move rfl) rfl ?_
    refine G.q (Quiet.nilp rfl) rfl ?_
    refine G.q (Quiet.fieldAddr rfl fo_144_0) rfl ?_
    refine G.q (Quiet.load rfl ag_142 (by (repeat (first | exact Pick.here | apply Pick.there))) (rfl)) rfl ?_
    refine G.q (Quiet.move rfl) rfl ?_
    refine G.q (Quiet.indexAddr rfl rfl el_142 (by omega)) rfl ?_
    refine G.q (Quiet.fieldAddr rfl fo_147_0) rfl ?_
    refine G.q (Quiet.loadRd (sz := 3) (j := i * 3 + 0) (p := slR 147 3 (.slice (some ⟨ba, 0, none⟩) σ.length ca) σ.length (sesC σ)) (v := vint σ[i].1) rfl ag_3 (by (repeat (first | exact Pick.here | apply Pick.there))) (fun h hp => slR_rd hp) (by simp) (by rw [sesC_get (by assumption) (by decide)]; rfl)) rfl ?_
    refine G.q (Quiet.move rfl) rfl ?_
    refine G.q (Quiet.int rfl rfl rfl) rfl ?_
    refine G.nil ?_
    refine G.then_n ?_
    refine G.condD rfl (fun h24 => ?_) (fun h24 => ?_)
    · refine G.seq ?_
      refine G.region ?_
      refine G.q (Quiet.move rfl) rfl ?_
      refine G.q (Quiet.assign rfl) rfl ?_
      refine G.nil ?_
      refine G.then_n ?_
      refine G.ret ?_
      refine G.blk_r ?_
      refine G.then_r ?_
      refine G.then_r ?_
      refine G.blk_r ?_
      refine G.then_r ?_
      refine G.trFold (σ := σ) hok (by (repeat (first | exact Picks.nil | (apply Picks.cons; (repeat (first | exact Pick.here | apply Pick.there)))))) rfl rfl ?_
      have e : placeZ σ id = i := placeZ_at hi2 (fun j hj => hb j hj (by omega)) h24
      rw [e]
      exact G.done (l := [.tmp 4]) rfl rfl ⟨rfl, rfl⟩ (by (repeat (first | exact Picks.nil | (apply Picks.cons; (repeat (first | exact Pick.here | apply Pick.there)))))) (by (repeat (first | exact Suff.here | apply Suff.there)))
    · refine G.skip ?_
      refine G.blk_n ?_
      refine G.then_n ?_
      refine G.region ?_
      refine G.q (Quiet.move rfl) rfl ?_
      refine G.q (Quiet.add rfl rfl (by omega)) rfl ?_
      refine G.q (Quiet.assign rfl) rfl ?_
      refine G.nil ?_
      refine G.then_n ?_
      exact G.roundK (i + 1) (⟨by omega, fun j hj hl => by rcases Nat.lt_or_ge j i with h | h; exact hb j h hl; obtain rfl : j = i := (by omega); exact h24⟩) (by omega) ⟨rfl, rfl, rfl, trivial⟩ (by (repeat (first | exact Picks.nil | (apply Picks.cons; (repeat (first | exact Pick.here | apply Pick.there)))))) (by ((repeat (apply Have.cons; (repeat (first | exact Pick.here | apply Pick.there)))); apply Have.base; repeat (first | exact Suff.here | apply Suff.there)))
  · refine G.exit ?_
    refine G.then_e ?_
    refine G.then_e ?_
    refine G.blk_e ?_
    refine G.then_n ?_
    refine G.seq ?_
    refine G.region ?_
    refine G.q (Quiet.assign rfl) rfl ?_
    refine G.nil ?_
    refine G.then_n ?_
    refine G.ret ?_
    refine G.trFold (σ := σ) hok (by (repeat (first | exact Picks.nil | (apply Picks.cons; (repeat (first | exact Pick.here | apply Pick.there)))))) rfl rfl ?_
    have e : placeZ σ id = -1 := placeZ_none fun j hj => hb j (by omega) hj
    rw [e]
    exact G.done (l := [.tmp 4]) rfl rfl ⟨rfl, rfl⟩ (by (repeat (first | exact Picks.nil | (apply Picks.cons; (repeat (first | exact Pick.here | apply Pick.there)))))) (by (repeat (first | exact Suff.here | apply Suff.there)))

set_option maxRecDepth 100000 in
theorem rends_spec (now to : Int) (h : ¬ badTime now) (h1 : 4 ≤ to) (h2 : to ≤ 60) : Fn Try.prog 124 #[vint now, vint to] [] fun v L => v = vint (endsZ now to) ∧ L = [] := by
  refine Fn.intro (vs := [vint now, vint to]) Try.func124 rfl rfl ?_
  intro F W
  unfold badTime at h
  refine G.seq ?_
  refine G.region ?_
  refine G.q (Quiet.assign rfl) rfl ?_
  refine G.nil ?_
  refine G.then_n ?_
  refine G.seq ?_
  refine G.region ?_
  refine G.q (Quiet.move rfl) rfl ?_
  refine G.q (Quiet.move rfl) rfl ?_
  refine G.q (Quiet.add rfl rfl (by omega)) rfl ?_
  refine G.q (Quiet.assign rfl) rfl ?_
  refine G.nil ?_
  refine G.then_n ?_
  refine G.seq ?_
  refine G.block ?_
  refine G.loopK (ι := Int) (fun q E => (5, vint q) :: E) (fun q => []) (fun q => now + to ≤ q ∧ q ≤ endsZ now to) (fun q => (endsZ now to - q).toNat) (now + to) (ts := [4]) (.cons rfl (.nil)) (⟨by omega, by unfold endsZ; omega⟩) ⟨rfl, rfl, trivial⟩ (by (repeat (first | exact Picks.nil | (apply Picks.cons; (repeat (first | exact Pick.here | apply Pick.there)))))) ?_
  rintro n ⟨hn1, hn2⟩
  have hen : endsZ now to = (now + to + 3) / 4 * 4 := rfl
  refine G.seq ?_
  refine G.seq ?_
  refine G.region ?_
  refine G.q (Quiet.move rfl) rfl ?_
  refine G.q (Quiet.remE rfl rfl (by omega) (by omega)) rfl ?_
  refine G.q (Quiet.int rfl rfl rfl) rfl ?_
  refine G.nil ?_
  refine G.then_n ?_
  refine G.condN rfl (fun h11 => ?_) (fun h11 => ?_)
  · refine G.skip ?_
    refine G.then_n ?_
    refine G.block ?_
    refine G.region ?_
    refine G.q (Quiet.move rfl) rfl ?_
    refine G.q (Quiet.add rfl rfl (by omega)) rfl ?_
    refine G.q (Quiet.assign rfl) rfl ?_
    refine G.nil ?_
    refine G.blk_n ?_
    refine G.then_n ?_
    exact G.roundK (n + 1) (⟨by omega, by omega⟩) (by omega) ⟨rfl, rfl, trivial⟩ (by (repeat (first | exact Picks.nil | (apply Picks.cons; (repeat (first | exact Pick.here | apply Pick.there)))))) (by ((repeat (apply Have.cons; (repeat (first | exact Pick.here | apply Pick.there)))); apply Have.base; repeat (first | exact Suff.here | apply Suff.there)))
  · refine G.exit ?_
    refine G.then_e ?_
    refine G.then_e ?_
    refine G.blk_e ?_
    refine G.then_n ?_
    refine G.seq ?_
    refine G.region ?_
    refine G.q (Quiet.move rfl) rfl ?_
    refine G.q (Quiet.assign rfl) rfl ?_
    refine G.nil ?_
    refine G.then_n ?_
    refine G.ret ?_
    exact G.done (l := [.tmp 4]) rfl rfl ⟨congrArg vint (by omega), rfl⟩ (by (repeat (first | exact Picks.nil | (apply Picks.cons; (repeat (first | exact Pick.here | apply Pick.there)))))) (by (repeat (first | exact Suff.here | apply Suff.there)))

set_option maxRecDepth 100000 in
theorem rdead_spec (t : Nat) (σ : Ses) (id : Int) : Fn Try.prog 41 #[vptr t, vint id] [trR t σ] fun v L => v = .tuple #[vint (sDead σ id).1, vint (sDead σ id).2] ∧ L = [trR t σ] := by
  refine Fn.intro (vs := [vptr t, vint id]) Try.func41 rfl rfl ?_
  intro F W
  refine G.seq ?_
  refine G.region ?_
  refine G.q (Quiet.assign rfl) rfl ?_
  refine G.q (Quiet.assign rfl) rfl ?_
  refine G.nil ?_
  refine G.then_n ?_
  refine G.seq ?_
  refine G.region ?_
  rcases placeZ_cases σ id with ⟨hp, hal⟩ | ⟨i, hi, hp, hk, hal, -, -⟩
  · refine G.q (Quiet.move rfl) rfl ?_
    refine G.q (Quiet.move rfl) rfl ?_
    refine G.op (OpSpec.call Try.func97 rfl rfl (vs := [_, _]) rfl (place_spec t σ id)) (by (repeat (first | exact Picks.nil | (apply Picks.cons; (repeat (first | exact Pick.here | apply Pick.there)))))) rfl ?nx5
    rintro v L' ⟨rfl, rfl⟩; rw [hp]
    refine G.q (Quiet.assign rfl) rfl ?_
    refine G.nil ?_
    refine G.then_n ?_
    refine G.seq ?_
    refine G.seq ?_
    refine G.region ?_
    refine G.q (Quiet.move rfl) rfl ?_
    refine G.q (Quiet.int rfl rfl rfl) rfl ?_
    refine G.nil ?_
    refine G.then_n ?_
    refine G.condT rfl ?_
    refine G.seq ?_
    refine G.region ?_
    refine G.q (Quiet.assign rfl) rfl ?_
    refine G.q (Quiet.assign rfl) rfl ?_
    refine G.nil ?_
    refine G.then_n ?_
    refine G.ret ?_
    refine G.then_r ?_
    have e : sDead σ id = (0, 90) := by unfold sDead; rw [hal]
    rw [e]
    exact G.done (l := [.tmp 4, .tmp 5]) rfl rfl ⟨rfl, rfl⟩ (by (repeat (first | exact Picks.nil | (apply Picks.cons; (repeat (first | exact Pick.here | apply Pick.there)))))) (by (repeat (first | exact Suff.here | apply Suff.there)))
  · refine G.q (Quiet.move rfl) rfl ?_
    refine G.q (Quiet.move rfl) rfl ?_
    refine G.op (OpSpec.call Try.func97 rfl rfl (vs := [_, _]) rfl (place_spec t σ id)) (by (repeat (first | exact Picks.nil | (apply Picks.cons; (repeat (first | exact Pick.here | apply Pick.there)))))) rfl ?nx12
    rintro v L' ⟨rfl, rfl⟩; rw [hp]
    refine G.q (Quiet.assign rfl) rfl ?_
    refine G.nil ?_
    refine G.then_n ?_
    refine G.seq ?_
    refine G.seq ?_
    refine G.region ?_
    refine G.q (Quiet.move rfl) rfl ?_
    refine G.q (Quiet.int rfl rfl rfl) rfl ?_
    refine G.nil ?_
    refine G.then_n ?_
    refine G.condD rfl (fun h11 => ?_) (fun h11 => ?_)
    · omega
    · refine G.skip ?_
      refine G.then_n ?_
      refine G.seq ?_
      refine G.trOpen (σ := σ) (by (repeat (first | exact Pick.here | apply Pick.there))) fun v hok => ?_
      refine G.slAny (v := v) (by (repeat (first | exact Pick.here | apply Pick.there))) fun aa ca e _ => ?_
      subst e
      refine G.slShape (v := .slice aa _ ca) (by (repeat (first | exact Pick.here | apply Pick.there))) (by omega) fun ba ca2 e hcap _ => ?_
      simp only [Value.slice.injEq, true_and] at e
      obtain ⟨rfl, rfl⟩ := e
      refine G.region ?_
      refine G.q (Quiet.move rfl) rfl ?_
      refine G.q (Quiet.nilp rfl) rfl ?_
      refine G.q (Quiet.fieldAddr rfl fo_144_0) rfl ?_
      refine G.q (Quiet.load rfl ag_142 (by (repeat (first | exact Pick.here | apply Pick.there))) (rfl)) rfl ?_
      refine G.q (Quiet.move rfl) rfl ?_
      refine G.q (Quiet.indexAddr rfl rfl el_142 (by omega)) rfl ?_
      refine G.q (Quiet.fieldAddr rfl fo_147_2) rfl ?_
      refine G.q (Quiet.loadRd (sz := 3) (j := i * 3 + 2) (p := slR 147 3 (.slice (some ⟨ba, 0, none⟩) σ.length ca) σ.length (sesC σ)) (v := vint σ[i].2.2) rfl ag_3 (by (repeat (first | exact Pick.here | apply Pick.there))) (fun h hp => slR_rd hp) (by simp) (by rw [sesC_get (by assumption) (by decide)]; rfl)) rfl ?_
      refine G.q (Quiet.assign rfl) rfl ?_
      refine G.q (Quiet.assign rfl) rfl ?_
      refine G.nil ?_
      refine G.then_n ?_
      refine G.ret ?_
      have e : sDead σ id = (σ[i].2.2, 0) := by unfold sDead; rw [hal]
      rw [e]
      refine G.trFold (σ := σ) hok (by (repeat (first | exact Picks.nil | (apply Picks.cons; (repeat (first | exact Pick.here | apply Pick.there)))))) rfl rfl ?_
      exact G.done (l := [.tmp 4, .tmp 5]) rfl rfl ⟨rfl, rfl⟩ (by (repeat (first | exact Picks.nil | (apply Picks.cons; (repeat (first | exact Pick.here | apply Pick.there)))))) (by (repeat (first | exact Suff.here | apply Suff.there)))

set_option maxRecDepth 100000 in
theorem rtouch_spec (t : Nat) (σ : Ses) (id now : Int) : Fn Try.prog 94 #[vptr t, vint id, vint now] [trR t σ] fun v L => v = vint (sTouch σ id now).2 ∧ L = [trR t (sTouch σ id now).1] := by
  refine Fn.intro (vs := [vptr t, vint id, vint now]) Try.func94 rfl rfl ?_
  intro F W
  refine G.seq ?_
  refine G.region ?_
  refine G.q (Quiet.assign rfl) rfl ?_
  refine G.nil ?_
  refine G.then_n ?_
  refine G.seq ?_
  refine G.region ?_
  rcases placeZ_cases σ id with ⟨hp, hal⟩ | ⟨i, hi, hp, hk, hal, -, -⟩
  · refine G.q (Quiet.move rfl) rfl ?_
    refine G.q (Quiet.move rfl) rfl ?_
    refine G.op (OpSpec.call Try.func97 rfl rfl (vs := [_, _]) rfl (place_spec t σ id)) (by (repeat (first | exact Picks.nil | (apply Picks.cons; (repeat (first | exact Pick.here | apply Pick.there)))))) rfl ?nx4
    rintro v L' ⟨rfl, rfl⟩; rw [hp]
    refine G.q (Quiet.assign rfl) rfl ?_
    refine G.nil ?_
    refine G.then_n ?_
    refine G.seq ?_
    refine G.seq ?_
    refine G.region ?_
    refine G.q (Quiet.move rfl) rfl ?_
    refine G.q (Quiet.int rfl rfl rfl) rfl ?_
    refine G.nil ?_
    refine G.then_n ?_
    refine G.condT rfl ?_
    refine G.seq ?_
    refine G.region ?_
    refine G.q (Quiet.assign rfl) rfl ?_
    refine G.nil ?_
    refine G.then_n ?_
    refine G.ret ?_
    refine G.then_r ?_
    have e : sTouch σ id now = (σ, 90) := by unfold sTouch; rw [hal]
    rw [e]
    exact G.done (l := [.tmp 6]) rfl rfl ⟨rfl, rfl⟩ (by (repeat (first | exact Picks.nil | (apply Picks.cons; (repeat (first | exact Pick.here | apply Pick.there)))))) (by (repeat (first | exact Suff.here | apply Suff.there)))
  · refine G.q (Quiet.move rfl) rfl ?_
    refine G.q (Quiet.move rfl) rfl ?_
    refine G.op (OpSpec.call Try.func97 rfl rfl (vs := [_, _]) rfl (place_spec t σ id)) (by (repeat (first | exact Picks.nil | (apply Picks.cons; (repeat (first | exact Pick.here | apply Pick.there)))))) rfl ?nx10
    rintro v L' ⟨rfl, rfl⟩; rw [hp]
    refine G.q (Quiet.assign rfl) rfl ?_
    refine G.nil ?_
    refine G.then_n ?_
    refine G.seq ?_
    refine G.seq ?_
    refine G.region ?_
    refine G.q (Quiet.move rfl) rfl ?_
    refine G.q (Quiet.int rfl rfl rfl) rfl ?_
    refine G.nil ?_
    refine G.then_n ?_
    refine G.condD rfl (fun h12 => ?_) (fun h12 => ?_)
    · omega
    · refine G.skip ?_
      refine G.then_n ?_
      refine G.seq ?_
      refine G.seq ?_
      refine G.region ?_
      refine G.q (Quiet.move rfl) rfl ?_
      refine G.q (Quiet.int rfl rfl rfl) rfl ?_
      refine G.q (Quiet.move rfl) rfl ?_
      refine G.dec (t := 15) rfl (fun h4_15 => ?_) (fun h4_15 => ?_)
      · refine G.kDT (t := 14) rfl h4_15 ?_
        refine G.gskip (t := 15) rfl rfl rfl rfl ?_
        refine G.gskip (t := 15) rfl rfl rfl rfl ?_
        refine G.q (Quiet.pickT rfl rfl) rfl ?_
        refine G.nil ?_
        refine G.then_n ?_
        refine G.condT rfl ?_
        refine G.seq ?_
        refine G.region ?_
        refine G.q (Quiet.assign rfl) rfl ?_
        refine G.nil ?_
        refine G.then_n ?_
        refine G.ret ?_
        refine G.then_r ?_
        have e : sTouch σ id now = (σ, 1) := by unfold sTouch; rw [hal]; dsimp only; rw [if_pos (by unfold badTime; omega)]
        rw [e]
        exact G.done (l := [.tmp 6]) rfl rfl ⟨rfl, rfl⟩ (by (repeat (first | exact Picks.nil | (apply Picks.cons; (repeat (first | exact Pick.here | apply Pick.there)))))) (by (repeat (first | exact Suff.here | apply Suff.there)))
      · refine G.kDF (t := 14) rfl h4_15 ?_
        refine G.grun (t := 15) rfl rfl rfl ?_
        refine G.q (Quiet.move rfl) rfl ?_
        refine G.grun (t := 15) rfl rfl rfl ?_
        refine G.q (Quiet.int rfl rfl rfl) rfl ?_
        refine G.q (Quiet.pickF rfl rfl) rfl ?_
        refine G.nil ?_
        refine G.then_n ?_
        refine G.condD rfl (fun h18 => ?_) (fun h18 => ?_)
        · refine G.seq ?_
          refine G.region ?_
          refine G.q (Quiet.assign rfl) rfl ?_
          refine G.nil ?_
          refine G.then_n ?_
          refine G.ret ?_
          refine G.then_r ?_
          have e : sTouch σ id now = (σ, 1) := by unfold sTouch; rw [hal]; dsimp only; rw [if_pos (by unfold badTime; omega)]
          rw [e]
          exact G.done (l := [.tmp 6]) rfl rfl ⟨rfl, rfl⟩ (by (repeat (first | exact Picks.nil | (apply Picks.cons; (repeat (first | exact Pick.here | apply Pick.there)))))) (by (repeat (first | exact Suff.here | apply Suff.there)))
        · refine G.skip ?_
          refine G.then_n ?_
          refine G.seq ?_
          refine G.trOpen (σ := σ) (by (repeat (first | exact Pick.here | apply Pick.there))) fun v hok => ?_
          refine G.slAny (v := v) (by (repeat (first | exact Pick.here | apply Pick.there))) fun aa ca e _ => ?_
          subst e
          refine G.slShape (v := .slice aa _ ca) (by (repeat (first | exact Pick.here | apply Pick.there))) (by omega) fun ba ca2 e hcap _ => ?_
          simp only [Value.slice.injEq, true_and] at e
          obtain ⟨rfl, rfl⟩ := e
          have hbad : ¬ badTime now := by unfold badTime; omega
          obtain ⟨fa, fb, fc, fd, fe, ff⟩ := hok.look hal
          have e : sTouch σ id now = (σ.set i (id, (σ[i].2.1, max σ[i].2.2 (endsZ now σ[i].2.1))), 0) := by unfold sTouch; rw [hal]; dsimp only; rw [if_neg hbad, sins_at hok.sorted hi hk]
          have hok2 := hok.touched id now
          rw [e] at hok2
          refine G.draw [22, 26] [[0, 1, 2, 3, 4, 5, 6, 7, 8, 9, 10, 11, 12, 13, 14, 15, 16, 17, 18, 19, 20, 21, 22, 23], [24, 25, 26]] mixed (by kernel_rfl) ?_
          refine Phases.go [ptc t _ _, slR 147 3 (.slice (some ⟨ba, 0, none⟩) σ.length ca) σ.length (sesC σ)] (by (repeat (first | exact Picks.nil | (apply Picks.cons; (repeat (first | exact Pick.here | apply Pick.there)))))) ?_
          refine D.q rfl (by kernel_rfl) (Quiet.move rfl) ?_
          refine D.q rfl (by kernel_rfl) (Quiet.nilp rfl) ?_
          refine D.q rfl (by kernel_rfl) (Quiet.fieldAddr rfl fo_144_0) ?_
          refine D.q rfl (by kernel_rfl) (Quiet.load rfl ag_142 (by (repeat (first | exact Pick.here | apply Pick.there))) (rfl)) ?_
          refine D.q rfl (by kernel_rfl) (Quiet.move rfl) ?_
          refine D.q rfl (by kernel_rfl) (Quiet.move rfl) ?_
          refine D.q rfl (by kernel_rfl) (Quiet.nilp rfl) ?_
          refine D.q rfl (by kernel_rfl) (Quiet.fieldAddr rfl fo_144_0) ?_
          refine D.q rfl (by kernel_rfl) (Quiet.load rfl ag_142 (by (repeat (first | exact Pick.here | apply Pick.there))) (rfl)) ?_
          refine D.q rfl (by kernel_rfl) (Quiet.move rfl) ?_
          refine D.q rfl (by kernel_rfl) (Quiet.indexAddr rfl rfl el_142 (by omega)) ?_
          refine D.q rfl (by kernel_rfl) (Quiet.fieldAddr rfl fo_147_2) ?_
          refine D.q rfl (by kernel_rfl) (Quiet.loadRd (sz := 3) (j := i * 3 + 2) (p := slR 147 3 (.slice (some ⟨ba, 0, none⟩) σ.length ca) σ.length (sesC σ)) (v := vint σ[i].2.2) rfl ag_3 (by (repeat (first | exact Pick.here | apply Pick.there))) (fun h hp => slR_rd hp) (by simp) (by rw [sesC_get (by assumption) (by decide)]; rfl)) ?_
          refine D.qw [22, 23] rfl (by kernel_rfl) (Quiet.move rfl) ?_
          refine D.qw [15, 16, 17, 19, 20, 21, 22, 23] rfl (by kernel_rfl) (Quiet.move rfl) ?_
          refine D.qw [16, 17, 19, 20, 21, 22, 23] rfl (by kernel_rfl) (Quiet.nilp rfl) ?_
          refine D.qw [17, 19, 20, 21, 22, 23] rfl (by kernel_rfl) (Quiet.fieldAddr rfl fo_144_0) ?_
          refine D.qw [19, 20, 21, 22, 23] rfl (by kernel_rfl) (Quiet.load rfl ag_142 (by (repeat (first | exact Pick.here | apply Pick.there))) (rfl)) ?_
          refine D.qw [19, 20, 21, 22, 23] rfl (by kernel_rfl) (Quiet.move rfl) ?_
          refine D.qw [20, 21, 22, 23] rfl (by kernel_rfl) (Quiet.indexAddr rfl rfl el_142 (by omega)) ?_
          refine D.qw [21, 22, 23] rfl (by kernel_rfl) (Quiet.fieldAddr rfl fo_147_1) ?_
          refine D.qw [22, 23] rfl (by kernel_rfl) (Quiet.loadRd (sz := 3) (j := i * 3 + 1) (p := slR 147 3 (.slice (some ⟨ba, 0, none⟩) σ.length ca) σ.length (sesC σ)) (v := vint σ[i].2.1) rfl ag_3 (by (repeat (first | exact Pick.here | apply Pick.there))) (fun h hp => slR_rd hp) (by simp) (by rw [sesC_get (by assumption) (by decide)]; rfl)) ?_
          refine D.h rfl (by kernel_rfl) (OpSpec.call Try.func124 rfl rfl (vs := [_, _]) rfl (rends_spec now σ[i].2.1 hbad fc fd)) (by (repeat (first | exact Picks.nil | (apply Picks.cons; (repeat (first | exact Pick.here | apply Pick.there)))))) ?nx39
          rintro v L' ⟨rfl, rfl⟩
          refine D.qw [] rfl (by kernel_rfl) (Quiet.max2 rfl rfl) ?_
          refine D.ph ?_
          refine Phases.go [] (by (repeat (first | exact Picks.nil | (apply Picks.cons; (repeat (first | exact Pick.here | apply Pick.there)))))) ?_
          refine D.qw [25, 26] rfl (by kernel_rfl) (Quiet.indexAddr rfl rfl el_142 (by omega)) ?_
          refine D.qw [26] rfl (by kernel_rfl) (Quiet.fieldAddr rfl fo_147_2) ?_
          refine D.h rfl (by kernel_rfl) (OpSpec.storeRd (sz := 3) (j := i * 3 + 2) rfl rfl rfl sz_3 ?ho44 ?hi45) (by (repeat (first | exact Picks.nil | (apply Picks.cons; (repeat (first | exact Pick.here | apply Pick.there)))))) ?nx46
          case ho44 => simp
          case hi45 => omega
          rintro v L' rfl
          refine D.ph ?_
          refine Phases.fin ?_
          refine G.then_n ?_
          refine G.seq ?_
          refine G.region ?_
          refine G.q (Quiet.assign rfl) rfl ?_
          refine G.nil ?_
          refine G.then_n ?_
          refine G.ret ?_
          rw [e]
          refine G.trFold hok2 (by (repeat (first | exact Picks.nil | (apply Picks.cons; (repeat (first | exact Pick.here | apply Pick.there)))))) (by simp) (sesC_set hi hk) ?_
          exact G.done (l := [.tmp 6]) rfl rfl ⟨rfl, rfl⟩ (by (repeat (first | exact Picks.nil | (apply Picks.cons; (repeat (first | exact Pick.here | apply Pick.there)))))) (by (repeat (first | exact Suff.here | apply Suff.there)))

set_option maxRecDepth 100000 in
theorem rclose_spec (t : Nat) (σ : Ses) (id : Int) : Fn Try.prog 95 #[vptr t, vint id] [trR t σ] fun v L => v = vint (sClose σ id).2 ∧ L = [trR t (sClose σ id).1] := by
  refine Fn.intro (vs := [vptr t, vint id]) Try.func95 rfl rfl ?_
  intro F W
  refine G.seq ?_
  refine G.region ?_
  refine G.q (Quiet.assign rfl) rfl ?_
  refine G.nil ?_
  refine G.then_n ?_
  refine G.seq ?_
  refine G.region ?_
  rcases placeZ_cases σ id with ⟨hp, hal⟩ | ⟨i, hi, hp, hk, hal, had, -⟩
  · refine G.q (Quiet.move rfl) rfl ?_
    refine G.q (Quiet.move rfl) rfl ?_
    refine G.op (OpSpec.call Try.func97 rfl rfl (vs := [_, _]) rfl (place_spec t σ id)) (by (repeat (first | exact Picks.nil | (apply Picks.cons; (repeat (first | exact Pick.here | apply Pick.there)))))) rfl ?nx4
    rintro v L' ⟨rfl, rfl⟩; rw [hp]
    refine G.q (Quiet.assign rfl) rfl ?_
    refine G.nil ?_
    refine G.then_n ?_
    refine G.seq ?_
    refine G.seq ?_
    refine G.region ?_
    refine G.q (Quiet.move rfl) rfl ?_
    refine G.q (Quiet.int rfl rfl rfl) rfl ?_
    refine G.nil ?_
    refine G.then_n ?_
    refine G.condT rfl ?_
    refine G.seq ?_
    refine G.region ?_
    refine G.q (Quiet.assign rfl) rfl ?_
    refine G.nil ?_
    refine G.then_n ?_
    refine G.ret ?_
    refine G.then_r ?_
    have e : sClose σ id = (σ, 90) := by unfold sClose; rw [if_pos hal]
    rw [e]
    exact G.done (l := [.tmp 4]) rfl rfl ⟨rfl, rfl⟩ (by (repeat (first | exact Picks.nil | (apply Picks.cons; (repeat (first | exact Pick.here | apply Pick.there)))))) (by (repeat (first | exact Suff.here | apply Suff.there)))
  · refine G.q (Quiet.move rfl) rfl ?_
    refine G.q (Quiet.move rfl) rfl ?_
    refine G.op (OpSpec.call Try.func97 rfl rfl (vs := [_, _]) rfl (place_spec t σ id)) (by (repeat (first | exact Picks.nil | (apply Picks.cons; (repeat (first | exact Pick.here | apply Pick.there)))))) rfl ?nx10
    rintro v L' ⟨rfl, rfl⟩; rw [hp]
    refine G.q (Quiet.assign rfl) rfl ?_
    refine G.nil ?_
    refine G.then_n ?_
    refine G.seq ?_
    refine G.seq ?_
    refine G.region ?_
    refine G.q (Quiet.move rfl) rfl ?_
    refine G.q (Quiet.int rfl rfl rfl) rfl ?_
    refine G.nil ?_
    refine G.then_n ?_
    refine G.condD rfl (fun h11 => ?_) (fun h11 => ?_)
    · omega
    · refine G.skip ?_
      refine G.then_n ?_
      refine G.seq ?_
      refine G.trOpen (σ := σ) (by (repeat (first | exact Pick.here | apply Pick.there))) fun v hok => ?_
      refine G.slAny (v := v) (by (repeat (first | exact Pick.here | apply Pick.there))) fun aa ca e _ => ?_
      subst e
      refine G.slShape (v := .slice aa _ ca) (by (repeat (first | exact Pick.here | apply Pick.there))) (by omega) fun ba ca2 e hcap _ => ?_
      simp only [Value.slice.injEq, true_and] at e
      obtain ⟨rfl, rfl⟩ := e
      have hfew := hok.few
      refine G.add (slR_nil 147 3) ?_
      have e : sClose σ id = (adel σ id, 0) := by unfold sClose; rw [if_neg (by rw [hal]; simp)]
      refine G.region ?_
      refine G.q (Quiet.assign rfl) rfl ?_
      refine G.nil ?_
      refine G.then_n ?_
      refine G.seq ?_
      refine G.region ?_
      refine G.q (Quiet.move rfl) rfl ?_
      refine G.q (Quiet.move rfl) rfl ?_
      refine G.q (Quiet.nilp rfl) rfl ?_
      refine G.q (Quiet.fieldAddr rfl fo_144_0) rfl ?_
      refine G.q (Quiet.load rfl ag_142 (by (repeat (first | exact Pick.here | apply Pick.there))) (rfl)) rfl ?_
      refine G.q (Quiet.move rfl) rfl ?_
      refine G.q (Quiet.as (v' := .slice (some ⟨ba, 0, none⟩) i ca) (by simp) (Quiet.slSlice (i := 0) (j := (i : Int)) rfl el_142 (by exact rfl) (by exact rfl) (by omega))) rfl ?_
      refine G.op (OpSpec.append (v := .slice none 0 0) (n := 0) (xs := []) (m := i) (ys := sesC (σ.take i)) (p := slR 147 3 (.slice (some ⟨ba, 0, none⟩) σ.length ca) σ.length (sesC σ)) rfl rfl rfl el_142 (.inl ⟨_, Try.underlying142⟩) ze_147 rfl rfl ?hc19 ?hr20 ?hb21 ?hx22) (by (repeat (first | exact Picks.nil | (apply Picks.cons; (repeat (first | exact Pick.here | apply Pick.there)))))) rfl ?nx23
      case hc19 => exact sesC_cell _
      case hr20 => exact fun h hp => sesC_rd_take hp (by omega)
      case hb21 => omega
      case hx22 => decide
      rintro v L' ⟨⟨a1, c1, rfl⟩, rfl⟩
      refine G.q (Quiet.assign rfl) rfl ?_
      refine G.nil ?_
      refine G.then_n ?_
      refine G.seq ?_
      refine G.region ?_
      refine G.q (Quiet.move rfl) rfl ?_
      refine G.q (Quiet.move rfl) rfl ?_
      refine G.q (Quiet.move rfl) rfl ?_
      refine G.q (Quiet.nilp rfl) rfl ?_
      refine G.q (Quiet.fieldAddr rfl fo_144_0) rfl ?_
      refine G.q (Quiet.load rfl ag_142 (by (repeat (first | exact Pick.here | apply Pick.there))) (rfl)) rfl ?_
      refine G.q (Quiet.move rfl) rfl ?_
      refine G.q (Quiet.add rfl rfl (by omega)) rfl ?_
      refine G.q (Quiet.as (v' := .slice (some ⟨ba, if ca = i + 1 then 0 else (i + 1) * 3, none⟩) (σ.length - (i + 1)) (ca - (i + 1))) (by have e1 : ((i : Int) + 1).toNat = i + 1 := (by omega); rw [e1]; split <;> simp) (Quiet.slSlice (i := (i : Int) + 1) (j := σ.length) rfl el_142 (by exact rfl) (by exact rfl) (by omega))) rfl ?_
      refine G.op (OpSpec.append (n := 0 + i) (m := σ.length - (i + 1)) (ys := sesC (σ.drop (i + 1))) (p := slR 147 3 (.slice (some ⟨ba, 0, none⟩) σ.length ca) σ.length (sesC σ)) rfl rfl rfl el_142 (.inl ⟨_, Try.underlying142⟩) ze_147 rfl rfl ?hc32 ?hr33 ?hb34 ?hx35) (by (repeat (first | exact Picks.nil | (apply Picks.cons; (repeat (first | exact Pick.here | apply Pick.there)))))) rfl ?nx36
      case hc32 => exact sesC_cell _
      case hr33 => exact fun h hp => sesC_rd_drop hp (by omega) rfl (by split <;> omega) (by omega)
      case hb34 => omega
      case hx35 => decide
      rintro v L' ⟨⟨a2, c2, rfl⟩, rfl⟩
      refine G.q (Quiet.nilp rfl) rfl ?_
      refine G.q (Quiet.fieldAddr rfl fo_144_0) rfl ?_
      refine G.op (OpSpec.store rfl rfl rfl sz_142 ?c40 ?c41) (by (repeat (first | exact Picks.nil | (apply Picks.cons; (repeat (first | exact Pick.here | apply Pick.there)))))) rfl ?nx42
      case c40 => first | decide | (simp; omega) | simp
      case c41 => exact nfz0 _ _
      rintro v L' rfl
      refine G.nil ?_
      refine G.then_n ?_
      refine G.seq ?_
      refine G.region ?_
      refine G.q (Quiet.assign rfl) rfl ?_
      refine G.nil ?_
      refine G.then_n ?_
      refine G.ret ?_
      rw [e]
      refine G.trFold (hok.del id) (by (repeat (first | exact Picks.nil | (apply Picks.cons; (repeat (first | exact Pick.here | apply Pick.there)))))) (by rw [had]; simp; omega) (by rw [had]; simp [sesC]) ?_
      exact G.done (l := [.tmp 4]) rfl rfl ⟨rfl, rfl⟩ (by (repeat (first | exact Picks.nil | (apply Picks.cons; (repeat (first | exact Pick.here | apply Pick.there)))))) (by (repeat (first | exact Suff.here | apply Suff.there)))

set_option maxRecDepth 100000 in
theorem rall_spec (t : Nat) (σ : Ses) : Fn Try.prog 46 #[vptr t] [trR t σ] fun v L => (∃ a c, v = .slice a (sAll σ).length c) ∧ L = [trR t σ, intR v (sAll σ)] := by
  refine Fn.intro (vs := [vptr t]) Try.func46 rfl rfl ?_
  intro F W
  refine G.trOpen (σ := σ) (by (repeat (first | exact Pick.here | apply Pick.there))) fun v hok => ?_
  refine G.slAny (v := v) (by (repeat (first | exact Pick.here | apply Pick.there))) fun aa ca e _ => ?_
  subst e
  have hfew := hok.few
  refine G.add (slR_nil 3 1) ?_
  refine G.seq ?_
  refine G.region ?_
  refine G.q (Quiet.assign rfl) rfl ?_
  refine G.nil ?_
  refine G.then_n ?_
  refine G.seq ?_
  refine G.region ?_
  refine G.q (Quiet.assign rfl) rfl ?_
  refine G.nil ?_
  refine G.then_n ?_
  refine G.seq ?_
  refine G.seq ?_
  refine G.region ?_
  refine G.q (Quiet.assign rfl) rfl ?_
  refine G.nil ?_
  refine G.then_n ?_
  refine G.block ?_
  refine G.loopK (ι := Nat × Value) (fun q E => (4, vint q.1) :: (3, q.2) :: E) (fun q => [slR 3 1 q.2 (sAll (σ.take q.1)).length (ints (sAll (σ.take q.1)))]) (fun q => q.1 ≤ σ.length ∧ ∃ a c, q.2 = .slice a (sAll (σ.take q.1)).length c) (fun q => σ.length - q.1) (0, .slice none 0 0) (ts := [0, 2]) (.cons rfl (.cons rfl (.nil))) (⟨Nat.zero_le _, _, _, rfl⟩) ⟨rfl, rfl, rfl, rfl, trivial⟩ (by (repeat (first | exact Picks.nil | (apply Picks.cons; (repeat (first | exact Pick.here | apply Pick.there)))))) ?_
  rintro ⟨i, u⟩ ⟨hi, au, cu, hu⟩
  dsimp only
  dsimp only at hi hu
  subst hu
  have hlen : (sAll (σ.take i)).length = i := by simp [sAll]; omega
  refine G.seq ?_
  refine G.seq ?_
  refine G.region ?_
  refine G.q (Quiet.move rfl) rfl ?_
  refine G.q (Quiet.move rfl) rfl ?_
  refine G.q (Quiet.nilp rfl) rfl ?_
  refine G.q (Quiet.fieldAddr rfl fo_144_0) rfl ?_
  refine G.q (Quiet.load rfl ag_142 (by (repeat (first | exact Pick.here | apply Pick.there))) (rfl)) rfl ?_
  refine G.q (Quiet.slen rfl Try.underlying142 rfl) rfl ?_
  refine G.q (Quiet.int rfl rfl rfl) rfl ?_
  refine G.nil ?_
  refine G.then_n ?_
  refine G.condD rfl (fun h11 => ?_) (fun h11 => ?_)
  · have hi2 : i < σ.length := by omega
    refine G.slShape (v := .slice aa _ ca) (by (repeat (first | exact Pick.here | apply Pick.there))) (by omega) fun ba ca2 e hcap _ => ?_
    simp only [Value.slice.injEq, true_and] at e
    obtain ⟨rfl, rfl⟩ := e
    refine G.skip ?_
    refine G.then_n ?_
    refine G.seq ?_
    refine G.block ?_
    refine G.region ?_
    refine G.q (Quiet.move rfl) rfl ?_
    refine G.q (Quiet.move rfl) rfl ?_
    refine G.q (Quiet.nilp rfl) rfl ?_
    refine G.q (Quiet.fieldAddr rfl fo_144_0) rfl ?_
    refine G.q (Quiet.load rfl ag_142 (by (repeat (first | exact Pick.here | apply Pick.there))) (rfl)) rfl ?_
    refine G.q (Quiet.move rfl) rfl ?_
    refine G.q (Quiet.indexAddr rfl rfl el_142 (by omega)) rfl ?_
    refine G.q (Quiet.fieldAddr rfl fo_147_0) rfl ?_
    refine G.q (Quiet.loadRd (sz := 3) (j := i * 3 + 0) (p := slR 147 3 (.slice (some ⟨ba, 0, none⟩) σ.length ca) σ.length (sesC σ)) (v := vint σ[i].1) rfl ag_3 (by (repeat (first | exact Pick.here | apply Pick.there))) (fun h hp => slR_rd hp) (by simp) (by rw [sesC_get (by assumption) (by decide)]; rfl)) rfl ?_
    refine G.op (OpSpec.buildSlice1 (vs := [_]) el_40 ze_3 rfl rfl rfl rfl rfl (by decide)) (by (repeat (first | exact Picks.nil | (apply Picks.cons; (repeat (first | exact Pick.here | apply Pick.there)))))) rfl ?nx20
    rintro v L' ⟨b5_9, rfl, rfl⟩
    refine G.op (OpSpec.append1 rfl rfl rfl el_40 ze_3 rfl rfl ?c22 ?c23 (Nat.le_refl _) ?c24 (by decide)) (by (repeat (first | exact Picks.nil | (apply Picks.cons; (repeat (first | exact Pick.here | apply Pick.there)))))) rfl ?nx25
    case c22 => (first | (simp [isCell]; done) | (simp [isCell, setAll, Value.cells]; done))
    case c23 => rfl
    case c24 => omega
    rintro v L' ⟨⟨a5_10, c5_10, rfl⟩, rfl⟩
    refine G.q (Quiet.assign rfl) rfl ?_
    refine G.nil ?_
    refine G.blk_n ?_
    refine G.then_n ?_
    refine G.region ?_
    refine G.q (Quiet.move rfl) rfl ?_
    refine G.q (Quiet.add rfl rfl (by omega)) rfl ?_
    refine G.q (Quiet.assign rfl) rfl ?_
    refine G.nil ?_
    refine G.then_n ?_
    have e : ints (sAll (σ.take i)) ++ [vint σ[i].1] = ints (sAll (σ.take (i + 1))) := by rw [sAll_succ hi2]; simp only [ints, List.map_append]; rfl
    have e2 : (sAll (σ.take i)).length + 1 = (sAll (σ.take (i + 1))).length := by rw [sAll_succ hi2, List.length_append]; rfl
    rw [e, e2]
    exact G.roundK ((i + 1, .slice a5_10 (sAll (σ.take (i + 1))).length c5_10)) (⟨by dsimp only; omega, _, _, rfl⟩) (by dsimp only; omega) ⟨rfl, rfl, rfl, rfl, trivial⟩ (by (repeat (first | exact Picks.nil | (apply Picks.cons; (repeat (first | exact Pick.here | apply Pick.there)))))) (by ((repeat (apply Have.cons; (repeat (first | exact Pick.here | apply Pick.there)))); apply Have.base; repeat (first | exact Suff.here | apply Suff.there)))
  · refine G.exit ?_
    refine G.then_e ?_
    refine G.then_e ?_
    refine G.blk_e ?_
    refine G.then_n ?_
    refine G.seq ?_
    refine G.region ?_
    refine G.q (Quiet.move rfl) rfl ?_
    refine G.q (Quiet.assign rfl) rfl ?_
    refine G.nil ?_
    refine G.then_n ?_
    refine G.ret ?_
    have hi3 : i = σ.length := by omega
    subst hi3
    rw [List.take_length]
    refine G.trFold (σ := σ) hok (by (repeat (first | exact Picks.nil | (apply Picks.cons; (repeat (first | exact Pick.here | apply Pick.there)))))) rfl rfl ?_
    exact G.done (l := [.tmp 2]) rfl rfl ⟨⟨_, _, rfl⟩, rfl⟩ (by (repeat (first | exact Picks.nil | (apply Picks.cons; (repeat (first | exact Pick.here | apply Pick.there)))))) (by (repeat (first | exact Suff.here | apply Suff.there)))

set_option maxRecDepth 100000 in
theorem rexp_spec (t : Nat) (σ : Ses) (now : Int) : Fn Try.prog 45 #[vptr t, vint now] [trR t σ] fun v L => (∃ a c, v = .slice a (sExp σ now).length c) ∧ L = [trR t σ, intR v (sExp σ now)] := by
  refine Fn.intro (vs := [vptr t, vint now]) Try.func45 rfl rfl ?_
  intro F W
  refine G.trOpen (σ := σ) (by (repeat (first | exact Pick.here | apply Pick.there))) fun v hok => ?_
  refine G.slAny (v := v) (by (repeat (first | exact Pick.here | apply Pick.there))) fun aa ca e _ => ?_
  subst e
  have hfew := hok.few
  refine G.add (slR_nil 3 1) ?_
  refine G.seq ?_
  refine G.region ?_
  refine G.q (Quiet.assign rfl) rfl ?_
  refine G.nil ?_
  refine G.then_n ?_
  refine G.seq ?_
  refine G.region ?_
  refine G.q (Quiet.assign rfl) rfl ?_
  refine G.nil ?_
  refine G.then_n ?_
  refine G.seq ?_
  refine G.seq ?_
  refine G.region ?_
  refine G.q (Quiet.assign rfl) rfl ?_
  refine G.nil ?_
  refine G.then_n ?_
  refine G.block ?_
  refine G.loopK (ι := Nat × Value) (fun q E => (6, vint q.1) :: (5, q.2) :: E) (fun q => [slR 3 1 q.2 (sExp (σ.take q.1) now).length (ints (sExp (σ.take q.1) now))]) (fun q => q.1 ≤ σ.length ∧ ∃ a c, q.2 = .slice a (sExp (σ.take q.1) now).length c) (fun q => σ.length - q.1) (0, .slice none 0 0) (ts := [0, 1, 4]) (.cons rfl (.cons rfl (.cons rfl (.nil)))) (⟨Nat.zero_le _, _, _, rfl⟩) ⟨rfl, rfl, rfl, rfl, rfl, trivial⟩ (by (repeat (first | exact Picks.nil | (apply Picks.cons; (repeat (first | exact Pick.here | apply Pick.there)))))) ?_
  rintro ⟨i, u⟩ ⟨hi, au, cu, hu⟩
  dsimp only
  dsimp only at hi hu
  subst hu
  have hlen : (sExp (σ.take i) now).length ≤ i := by unfold sExp; rw [List.length_map]; exact Nat.le_trans (List.length_filter_le _ _) (by rw [List.length_take]; omega)
  refine G.seq ?_
  refine G.seq ?_
  refine G.region ?_
  refine G.q (Quiet.move rfl) rfl ?_
  refine G.q (Quiet.move rfl) rfl ?_
  refine G.q (Quiet.nilp rfl) rfl ?_
  refine G.q (Quiet.fieldAddr rfl fo_144_0) rfl ?_
  refine G.q (Quiet.load rfl ag_142 (by (repeat (first | exact Pick.here | apply Pick.there))) (rfl)) rfl ?_
  refine G.q (Quiet.slen rfl Try.underlying142 rfl) rfl ?_
  refine G.q (Quiet.int rfl rfl rfl) rfl ?_
  refine G.nil ?_
  refine G.then_n ?_
  refine G.condD rfl (fun h13 => ?_) (fun h13 => ?_)
  · have hi2 : i < σ.length := by omega
    refine G.slShape (v := .slice aa _ ca) (by (repeat (first | exact Pick.here | apply Pick.there))) (by omega) fun ba ca2 e hcap _ => ?_
    simp only [Value.slice.injEq, true_and] at e
    obtain ⟨rfl, rfl⟩ := e
    refine G.skip ?_
    refine G.then_n ?_
    refine G.seq ?_
    refine G.block ?_
    refine G.seq ?_
    refine G.region ?_
    refine G.q (Quiet.move rfl) rfl ?_
    refine G.q (Quiet.nilp rfl) rfl ?_
    refine G.q (Quiet.fieldAddr rfl fo_144_0) rfl ?_
    refine G.q (Quiet.load rfl ag_142 (by (repeat (first | exact Pick.here | apply Pick.there))) (rfl)) rfl ?_
    refine G.q (Quiet.move rfl) rfl ?_
    refine G.q (Quiet.indexAddr rfl rfl el_142 (by omega)) rfl ?_
    refine G.q (Quiet.fieldAddr rfl fo_147_2) rfl ?_
    refine G.q (Quiet.loadRd (sz := 3) (j := i * 3 + 2) (p := slR 147 3 (.slice (some ⟨ba, 0, none⟩) σ.length ca) σ.length (sesC σ)) (v := vint σ[i].2.2) rfl ag_3 (by (repeat (first | exact Pick.here | apply Pick.there))) (fun h hp => slR_rd hp) (by simp) (by rw [sesC_get (by assumption) (by decide)]; rfl)) rfl ?_
    refine G.q (Quiet.move rfl) rfl ?_
    refine G.q (Quiet.int rfl rfl rfl) rfl ?_
    refine G.nil ?_
    refine G.then_n ?_
    refine G.condD rfl (fun h25 => ?_) (fun h25 => ?_)
    · refine G.region ?_
      refine G.q (Quiet.move rfl) rfl ?_
      refine G.q (Quiet.move rfl) rfl ?_
      refine G.q (Quiet.nilp rfl) rfl ?_
      refine G.q (Quiet.fieldAddr rfl fo_144_0) rfl ?_
      refine G.q (Quiet.load rfl ag_142 (by (repeat (first | exact Pick.here | apply Pick.there))) (rfl)) rfl ?_
      refine G.q (Quiet.move rfl) rfl ?_
      refine G.q (Quiet.indexAddr rfl rfl el_142 (by omega)) rfl ?_
      refine G.q (Quiet.fieldAddr rfl fo_147_0) rfl ?_
      refine G.q (Quiet.loadRd (sz := 3) (j := i * 3 + 0) (p := slR 147 3 (.slice (some ⟨ba, 0, none⟩) σ.length ca) σ.length (sesC σ)) (v := vint σ[i].1) rfl ag_3 (by (repeat (first | exact Pick.here | apply Pick.there))) (fun h hp => slR_rd hp) (by simp) (by rw [sesC_get (by assumption) (by decide)]; rfl)) rfl ?_
      refine G.op (OpSpec.buildSlice1 (vs := [_]) el_40 ze_3 rfl rfl rfl rfl rfl (by decide)) (by (repeat (first | exact Picks.nil | (apply Picks.cons; (repeat (first | exact Pick.here | apply Pick.there)))))) rfl ?nx30
      rintro v L' ⟨b6_9, rfl, rfl⟩
      refine G.op (OpSpec.append1 rfl rfl rfl el_40 ze_3 rfl rfl ?c32 ?c33 (Nat.le_refl _) ?c34 (by decide)) (by (repeat (first | exact Picks.nil | (apply Picks.cons; (repeat (first | exact Pick.here | apply Pick.there)))))) rfl ?nx35
      case c32 => (first | (simp [isCell]; done) | (simp [isCell, setAll, Value.cells]; done))
      case c33 => rfl
      case c34 => omega
      rintro v L' ⟨⟨a6_10, c6_10, rfl⟩, rfl⟩
      refine G.q (Quiet.assign rfl) rfl ?_
      refine G.nil ?_
      refine G.blk_n ?_
      refine G.then_n ?_
      refine G.region ?_
      refine G.q (Quiet.move rfl) rfl ?_
      refine G.q (Quiet.add rfl rfl (by omega)) rfl ?_
      refine G.q (Quiet.assign rfl) rfl ?_
      refine G.nil ?_
      refine G.then_n ?_
      have e0 := sExp_succT hi2 h25
      have e : ints (sExp (σ.take i) now) ++ [vint σ[i].1] = ints (sExp (σ.take (i + 1)) now) := by rw [e0]; simp only [ints, List.map_append]; rfl
      have e2 : (sExp (σ.take i) now).length + 1 = (sExp (σ.take (i + 1)) now).length := by rw [e0]; simp
      rw [e, e2]
      exact G.roundK ((i + 1, .slice a6_10 (sExp (σ.take (i + 1)) now).length c6_10)) (⟨by dsimp only; omega, _, _, rfl⟩) (by dsimp only; omega) ⟨rfl, rfl, rfl, rfl, rfl, trivial⟩ (by (repeat (first | exact Picks.nil | (apply Picks.cons; (repeat (first | exact Pick.here | apply Pick.there)))))) (by ((repeat (apply Have.cons; (repeat (first | exact Pick.here | apply Pick.there)))); apply Have.base; repeat (first | exact Suff.here | apply Suff.there)))
    · refine G.skip ?_
      refine G.blk_n ?_
      refine G.then_n ?_
      refine G.region ?_
      refine G.q (Quiet.move rfl) rfl ?_
      refine G.q (Quiet.add rfl rfl (by omega)) rfl ?_
      refine G.q (Quiet.assign rfl) rfl ?_
      refine G.nil ?_
      refine G.then_n ?_
      have e0 := (sExp_succF hi2 h25).symm
      rw [e0]
      exact G.roundK ((i + 1, .slice au (sExp (σ.take (i + 1)) now).length cu)) (⟨by dsimp only; omega, _, _, rfl⟩) (by dsimp only; omega) ⟨rfl, rfl, rfl, rfl, rfl, trivial⟩ (by (repeat (first | exact Picks.nil | (apply Picks.cons; (repeat (first | exact Pick.here | apply Pick.there)))))) (by ((repeat (apply Have.cons; (repeat (first | exact Pick.here | apply Pick.there)))); apply Have.base; repeat (first | exact Suff.here | apply Suff.there)))
  · refine G.exit ?_
    refine G.then_e ?_
    refine G.then_e ?_
    refine G.blk_e ?_
    refine G.then_n ?_
    refine G.seq ?_
    refine G.region ?_
    refine G.q (Quiet.move rfl) rfl ?_
    refine G.q (Quiet.assign rfl) rfl ?_
    refine G.nil ?_
    refine G.then_n ?_
    refine G.ret ?_
    have hi3 : i = σ.length := by omega
    subst hi3
    rw [List.take_length]
    refine G.trFold (σ := σ) hok (by (repeat (first | exact Picks.nil | (apply Picks.cons; (repeat (first | exact Pick.here | apply Pick.there)))))) rfl rfl ?_
    exact G.done (l := [.tmp 4]) rfl rfl ⟨⟨_, _, rfl⟩, rfl⟩ (by (repeat (first | exact Picks.nil | (apply Picks.cons; (repeat (first | exact Pick.here | apply Pick.there)))))) (by (repeat (first | exact Suff.here | apply Suff.there)))

set_option maxRecDepth 100000 in
theorem ropen_spec (t : Nat) (σ : Ses) (id to now : Int) (hid : id ≤ 9223372036854775807) : Fn Try.prog 96 #[vptr t, vint id, vint to, vint now] [trR t σ] fun v L => v = vint (sOpen σ id to now).2 ∧ L = [trR t (sOpen σ id to now).1] := by
  refine Fn.intro (vs := [vptr t, vint id, vint to, vint now]) Try.func96 rfl rfl ?_
  intro F W
  refine G.seq ?_
  refine G.region ?_
  refine G.q (Quiet.assign rfl) rfl ?_
  refine G.nil ?_
  refine G.then_n ?_
  refine G.seq ?_
  refine G.seq ?_
  refine G.region ?_
  refine G.q (Quiet.move rfl) rfl ?_
  refine G.q (Quiet.int rfl rfl rfl) rfl ?_
  refine G.q (Quiet.move rfl) rfl ?_
  refine G.dec (t := 16) rfl (fun h1_16 => ?_) (fun h1_16 => ?_)
  · refine G.kDT (t := 15) rfl h1_16 ?_
    refine G.gskip (t := 16) rfl rfl rfl rfl ?_
    refine G.gskip (t := 16) rfl rfl rfl rfl ?_
    refine G.q (Quiet.pickT rfl rfl) rfl ?_
    refine G.q (Quiet.move rfl) rfl ?_
    refine G.gskip (t := 20) rfl rfl rfl rfl ?_
    refine G.gskip (t := 20) rfl rfl rfl rfl ?_
    refine G.q (Quiet.pickT rfl rfl) rfl ?_
    refine G.q (Quiet.move rfl) rfl ?_
    refine G.gskip (t := 24) rfl rfl rfl rfl ?_
    refine G.gskip (t := 24) rfl rfl rfl rfl ?_
    refine G.q (Quiet.pickT rfl rfl) rfl ?_
    refine G.q (Quiet.move rfl) rfl ?_
    refine G.gskip (t := 28) rfl rfl rfl rfl ?_
    refine G.gskip (t := 28) rfl rfl rfl rfl ?_
    refine G.q (Quiet.pickT rfl rfl) rfl ?_
    refine G.nil ?_
    refine G.then_n ?_
    refine G.condT rfl ?_
    refine G.seq ?_
    refine G.region ?_
    refine G.q (Quiet.assign rfl) rfl ?_
    refine G.nil ?_
    refine G.then_n ?_
    refine G.ret ?_
    refine G.then_r ?_
    have e : sOpen σ id to now = (σ, 1) := by unfold sOpen; rw [if_pos (by unfold badTime; omega)]
    rw [e]
    exact G.done (l := [.tmp 8]) rfl rfl ⟨rfl, rfl⟩ (by (repeat (first | exact Picks.nil | (apply Picks.cons; (repeat (first | exact Pick.here | apply Pick.there)))))) (by (repeat (first | exact Suff.here | apply Suff.there)))
  · refine G.kDF (t := 15) rfl h1_16 ?_
    refine G.grun (t := 16) rfl rfl rfl ?_
    refine G.q (Quiet.move rfl) rfl ?_
    refine G.grun (t := 16) rfl rfl rfl ?_
    refine G.q (Quiet.int rfl rfl rfl) rfl ?_
    refine G.q (Quiet.pickF rfl rfl) rfl ?_
    refine G.q (Quiet.move rfl) rfl ?_
    refine G.dec (t := 20) rfl (fun h1_20 => ?_) (fun h1_20 => ?_)
    · refine G.kDT (t := 18) rfl h1_20 ?_
      refine G.kDT (t := 19) rfl h1_20 ?_
      refine G.gskip (t := 20) rfl rfl rfl rfl ?_
      refine G.gskip (t := 20) rfl rfl rfl rfl ?_
      refine G.q (Quiet.pickT rfl rfl) rfl ?_
      refine G.q (Quiet.move rfl) rfl ?_
      refine G.gskip (t := 24) rfl rfl rfl rfl ?_
      refine G.gskip (t := 24) rfl rfl rfl rfl ?_
      refine G.q (Quiet.pickT rfl rfl) rfl ?_
      refine G.q (Quiet.move rfl) rfl ?_
      refine G.gskip (t := 28) rfl rfl rfl rfl ?_
      refine G.gskip (t := 28) rfl rfl rfl rfl ?_
      refine G.q (Quiet.pickT rfl rfl) rfl ?_
      refine G.nil ?_
      refine G.then_n ?_
      refine G.condT rfl ?_
      refine G.seq ?_
      refine G.region ?_
      refine G.q (Quiet.assign rfl) rfl ?_
      refine G.nil ?_
      refine G.then_n ?_
      refine G.ret ?_
      refine G.then_r ?_
      have e : sOpen σ id to now = (σ, 1) := by unfold sOpen; rw [if_pos (by unfold badTime; omega)]
      rw [e]
      exact G.done (l := [.tmp 8]) rfl rfl ⟨rfl, rfl⟩ (by (repeat (first | exact Picks.nil | (apply Picks.cons; (repeat (first | exact Pick.here | apply Pick.there)))))) (by (repeat (first | exact Suff.here | apply Suff.there)))
    · refine G.kDF (t := 18) rfl h1_20 ?_
      refine G.kDF (t := 19) rfl h1_20 ?_
      refine G.grun (t := 20) rfl rfl rfl ?_
      refine G.q (Quiet.move rfl) rfl ?_
      refine G.grun (t := 20) rfl rfl rfl ?_
      refine G.q (Quiet.int rfl rfl rfl) rfl ?_
      refine G.q (Quiet.pickF rfl rfl) rfl ?_
      refine G.q (Quiet.move rfl) rfl ?_
      refine G.dec (t := 24) rfl (fun h1_24 => ?_) (fun h1_24 => ?_)
      · refine G.kDT (t := 22) rfl h1_24 ?_
        refine G.kDT (t := 23) rfl h1_24 ?_
        refine G.gskip (t := 24) rfl rfl rfl rfl ?_
        refine G.gskip (t := 24) rfl rfl rfl rfl ?_
        refine G.q (Quiet.pickT rfl rfl) rfl ?_
        refine G.q (Quiet.move rfl) rfl ?_
        refine G.gskip (t := 28) rfl rfl rfl rfl ?_
        refine G.gskip (t := 28) rfl rfl rfl rfl ?_
        refine G.q (Quiet.pickT rfl rfl) rfl ?_
        refine G.nil ?_
        refine G.then_n ?_
        refine G.condT rfl ?_
        refine G.seq ?_
        refine G.region ?_
        refine G.q (Quiet.assign rfl) rfl ?_
        refine G.nil ?_
        refine G.then_n ?_
        refine G.ret ?_
        refine G.then_r ?_
        have e : sOpen σ id to now = (σ, 1) := by unfold sOpen; rw [if_pos (by unfold badTime; omega)]
        rw [e]
        exact G.done (l := [.tmp 8]) rfl rfl ⟨rfl, rfl⟩ (by (repeat (first | exact Picks.nil | (apply Picks.cons; (repeat (first | exact Pick.here | apply Pick.there)))))) (by (repeat (first | exact Suff.here | apply Suff.there)))
      · refine G.kDF (t := 22) rfl h1_24 ?_
        refine G.kDF (t := 23) rfl h1_24 ?_
        refine G.grun (t := 24) rfl rfl rfl ?_
        refine G.q (Quiet.move rfl) rfl ?_
        refine G.grun (t := 24) rfl rfl rfl ?_
        refine G.q (Quiet.int rfl rfl rfl) rfl ?_
        refine G.q (Quiet.pickF rfl rfl) rfl ?_
        refine G.q (Quiet.move rfl) rfl ?_
        refine G.dec (t := 28) rfl (fun h1_28 => ?_) (fun h1_28 => ?_)
        · refine G.kDT (t := 26) rfl h1_28 ?_
          refine G.kDT (t := 27) rfl h1_28 ?_
          refine G.gskip (t := 28) rfl rfl rfl rfl ?_
          refine G.gskip (t := 28) rfl rfl rfl rfl ?_
          refine G.q (Quiet.pickT rfl rfl) rfl ?_
          refine G.nil ?_
          refine G.then_n ?_
          refine G.condT rfl ?_
          refine G.seq ?_
          refine G.region ?_
          refine G.q (Quiet.assign rfl) rfl ?_
          refine G.nil ?_
          refine G.then_n ?_
          refine G.ret ?_
          refine G.then_r ?_
          have e : sOpen σ id to now = (σ, 1) := by unfold sOpen; rw [if_pos (by unfold badTime; omega)]
          rw [e]
          exact G.done (l := [.tmp 8]) rfl rfl ⟨rfl, rfl⟩ (by (repeat (first | exact Picks.nil | (apply Picks.cons; (repeat (first | exact Pick.here | apply Pick.there)))))) (by (repeat (first | exact Suff.here | apply Suff.there)))
        · refine G.kDF (t := 26) rfl h1_28 ?_
          refine G.kDF (t := 27) rfl h1_28 ?_
          refine G.grun (t := 28) rfl rfl rfl ?_
          refine G.q (Quiet.move rfl) rfl ?_
          refine G.grun (t := 28) rfl rfl rfl ?_
          refine G.q (Quiet.int rfl rfl rfl) rfl ?_
          refine G.q (Quiet.pickF rfl rfl) rfl ?_
          refine G.nil ?_
          refine G.then_n ?_
          refine G.condD rfl (fun h31 => ?_) (fun h31 => ?_)
          · refine G.seq ?_
            refine G.region ?_
            refine G.q (Quiet.assign rfl) rfl ?_
            refine G.nil ?_
            refine G.then_n ?_
            refine G.ret ?_
            refine G.then_r ?_
            have e : sOpen σ id to now = (σ, 1) := by unfold sOpen; rw [if_pos (by unfold badTime; omega)]
            rw [e]
            exact G.done (l := [.tmp 8]) rfl rfl ⟨rfl, rfl⟩ (by (repeat (first | exact Picks.nil | (apply Picks.cons; (repeat (first | exact Pick.here | apply Pick.there)))))) (by (repeat (first | exact Suff.here | apply Suff.there)))
          · refine G.skip ?_
            refine G.then_n ?_
            refine G.seq ?_
            have hbad : ¬ badTime now := by unfold badTime; omega
            have hnot : ¬ (id < 1 ∨ to < 4 ∨ to > 60 ∨ badTime now) := by rintro (h | h | h | h) <;> first | omega | exact hbad h
            refine G.region ?_
            rcases placeZ_cases σ id with ⟨hp, hal⟩ | ⟨i0, hi0, hp, hk0, hal, -, -⟩
            · refine G.q (Quiet.move rfl) rfl ?_
              refine G.q (Quiet.move rfl) rfl ?_
              refine G.op (OpSpec.call Try.func97 rfl rfl (vs := [_, _]) rfl (place_spec t σ id)) (by (repeat (first | exact Picks.nil | (apply Picks.cons; (repeat (first | exact Pick.here | apply Pick.there)))))) rfl ?nx29
              rintro v L' ⟨rfl, rfl⟩; rw [hp]
              refine G.q (Quiet.assign rfl) rfl ?_
              refine G.nil ?_
              refine G.then_n ?_
              refine G.seq ?_
              refine G.seq ?_
              refine G.trOpen (σ := σ) (by (repeat (first | exact Pick.here | apply Pick.there))) fun v hok => ?_
              refine G.slAny (v := v) (by (repeat (first | exact Pick.here | apply Pick.there))) fun aa ca e _ => ?_
              subst e
              have hfew := hok.few
              refine G.region ?_
              refine G.q (Quiet.move rfl) rfl ?_
              refine G.q (Quiet.int rfl rfl rfl) rfl ?_
              refine G.q (Quiet.move rfl) rfl ?_
              refine G.grun (t := 37) rfl rfl rfl ?_
              refine G.q (Quiet.move rfl) rfl ?_
              refine G.grun (t := 37) rfl rfl rfl ?_
              refine G.q (Quiet.nilp rfl) rfl ?_
              refine G.grun (t := 37) rfl rfl rfl ?_
              refine G.q (Quiet.fieldAddr rfl fo_144_0) rfl ?_
              refine G.grun (t := 37) rfl rfl rfl ?_
              refine G.q (Quiet.load rfl ag_142 (by (repeat (first | exact Pick.here | apply Pick.there))) (rfl)) rfl ?_
              refine G.grun (t := 37) rfl rfl rfl ?_
              refine G.q (Quiet.slen rfl Try.underlying142 rfl) rfl ?_
              refine G.grun (t := 37) rfl rfl rfl ?_
              refine G.q (Quiet.int rfl rfl rfl) rfl ?_
              refine G.q (Quiet.pickT rfl rfl) rfl ?_
              refine G.nil ?_
              refine G.then_n ?_
              refine G.condD rfl (fun h44 => ?_) (fun h44 => ?_)
              · refine G.seq ?_
                refine G.region ?_
                refine G.q (Quiet.assign rfl) rfl ?_
                refine G.nil ?_
                refine G.then_n ?_
                refine G.ret ?_
                refine G.then_r ?_
                have e : sOpen σ id to now = (σ, 91) := by unfold sOpen; rw [if_neg hnot, if_pos ⟨hal, by omega⟩]
                rw [e]
                refine G.trFold (σ := σ) hok (by (repeat (first | exact Picks.nil | (apply Picks.cons; (repeat (first | exact Pick.here | apply Pick.there)))))) rfl rfl ?_
                exact G.done (l := [.tmp 8]) rfl rfl ⟨rfl, rfl⟩ (by (repeat (first | exact Picks.nil | (apply Picks.cons; (repeat (first | exact Pick.here | apply Pick.there)))))) (by (repeat (first | exact Suff.here | apply Suff.there)))
              · refine G.skip ?_
                refine G.then_n ?_
                refine G.seq ?_
                have e : sOpen σ id to now = (sins σ id (to, endsZ now to), 0) := by unfold sOpen; rw [if_neg hnot, if_neg (by rintro ⟨h1, h2⟩; omega)]
                have hok2 := hok.opened id to now hid
                rw [e] at hok2
                refine G.region ?_
                refine G.q (Quiet.move rfl) rfl ?_
                refine G.q (Quiet.move rfl) rfl ?_
                refine G.q (Quiet.move rfl) rfl ?_
                refine G.q (Quiet.move rfl) rfl ?_
                refine G.op (OpSpec.call Try.func124 rfl rfl (vs := [_, _]) rfl (rends_spec now to hbad ?h143 ?h244)) (by (repeat (first | exact Picks.nil | (apply Picks.cons; (repeat (first | exact Pick.here | apply Pick.there)))))) rfl ?nx45
                case h143 => omega
                case h244 => omega
                rintro v L' ⟨rfl, rfl⟩
                refine G.q (Quiet.build (us := [(0, _), (1, _), (2, _)]) fl_147 ze_147 rfl rfl (by simp [isCell])) rfl ?_
                refine G.op (OpSpec.allocA ze_147) (by (repeat (first | exact Picks.nil | (apply Picks.cons; (repeat (first | exact Pick.here | apply Pick.there)))))) rfl ?nx48
                rintro v L' ⟨bs, rfl, rfl⟩
                refine G.op (OpSpec.storeA rfl rfl ?c50 sz_147 ?c53 ?c51 ?c52) (by (repeat (first | exact Picks.nil | (apply Picks.cons; (repeat (first | exact Pick.here | apply Pick.there)))))) rfl ?nx54
                case c50 => (first | (simp [isCell]; done) | (simp [isCell, setAll, Value.cells]; done))
                case c53 => (first | (simp; done) | (simp [setAll, spl, Value.cells]; done))
                case c51 => (first | (simp; done) | (simp [setAll, spl, Value.cells]; done))
                case c52 => exact nfz0 _ _
                rintro v L' rfl
                refine G.nil ?_
                refine G.then_n ?_
                refine G.seq ?_
                refine G.region ?_
                refine G.q (Quiet.assign rfl) rfl ?_
                refine G.nil ?_
                refine G.then_n ?_
                refine G.seq ?_
                refine G.region ?_
                refine G.q (Quiet.assign rfl) rfl ?_
                refine G.nil ?_
                refine G.then_n ?_
                refine G.seq ?_
                refine G.seq ?_
                refine G.add (slR_nil 147 3) ?_
                refine G.region ?_
                refine G.q (Quiet.assign rfl) rfl ?_
                refine G.nil ?_
                refine G.then_n ?_
                refine G.block ?_
                refine G.loopK (ι := Nat × Bool × Value × Ses) (fun q E => (13, vint q.1) :: (12, .bool q.2.1) :: (11, q.2.2.1) :: E) (fun q => [sesR q.2.2.1 q.2.2.2]) (fun q => q.1 ≤ σ.length ∧ OutI σ id (to, endsZ now to) q.1 q.2.1 q.2.2.2 ∧ ∃ a c, q.2.2.1 = .slice a q.2.2.2.length c) (fun q => σ.length - q.1) (0, false, .slice none 0 0, []) (ts := [0, 1, 8, 10]) (.cons rfl (.cons rfl (.cons rfl (.cons rfl (.nil))))) (⟨Nat.zero_le _, OutI.start _ _ _, _, _, rfl⟩) ⟨rfl, rfl, rfl, rfl, rfl, rfl, rfl, trivial⟩ (by (repeat (first | exact Picks.nil | (apply Picks.cons; (repeat (first | exact Pick.here | apply Pick.there)))))) ?_
                rintro ⟨i, put, u, out⟩ ⟨hi, hO, au, cu, hu⟩
                dsimp only
                dsimp only at hi hO hu
                subst hu
                have hol := hO.len
                refine G.seq ?_
                refine G.seq ?_
                refine G.region ?_
                refine G.q (Quiet.move rfl) rfl ?_
                refine G.q (Quiet.move rfl) rfl ?_
                refine G.q (Quiet.nilp rfl) rfl ?_
                refine G.q (Quiet.fieldAddr rfl fo_144_0) rfl ?_
                refine G.q (Quiet.load rfl ag_142 (by (repeat (first | exact Pick.here | apply Pick.there))) (rfl)) rfl ?_
                refine G.q (Quiet.slen rfl Try.underlying142 rfl) rfl ?_
                refine G.q (Quiet.int rfl rfl rfl) rfl ?_
                refine G.nil ?_
                refine G.then_n ?_
                refine G.condD rfl (fun h57 => ?_) (fun h57 => ?_)
                · have hi2 : i < σ.length := by omega
                  refine G.slShape (v := .slice aa _ ca) (by (repeat (first | exact Pick.here | apply Pick.there))) (by omega) fun ba ca2 e hcap _ => ?_
                  simp only [Value.slice.injEq, true_and] at e
                  obtain ⟨rfl, rfl⟩ := e
                  refine G.skip ?_
                  refine G.then_n ?_
                  refine G.seq ?_
                  refine G.block ?_
                  refine G.seq ?_
                  refine G.seq ?_
                  refine G.region ?_
                  cases put
                  · refine G.q (Quiet.move rfl) rfl ?_
                    refine G.q (Quiet.not rfl) rfl ?_
                    refine G.q (Quiet.move rfl) rfl ?_
                    refine G.grun (t := 62) rfl rfl rfl ?_
                    refine G.q (Quiet.move rfl) rfl ?_
                    refine G.grun (t := 62) rfl rfl rfl ?_
                    refine G.q (Quiet.nilp rfl) rfl ?_
                    refine G.grun (t := 62) rfl rfl rfl ?_
                    refine G.q (Quiet.fieldAddr rfl fo_144_0) rfl ?_
                    refine G.grun (t := 62) rfl rfl rfl ?_
                    refine G.q (Quiet.load rfl ag_142 (by (repeat (first | exact Pick.here | apply Pick.there))) (rfl)) rfl ?_
                    refine G.grun (t := 62) rfl rfl rfl ?_
                    refine G.q (Quiet.move rfl) rfl ?_
                    refine G.grun (t := 62) rfl rfl rfl ?_
                    refine G.q (Quiet.indexAddr rfl rfl el_142 (by omega)) rfl ?_
                    refine G.grun (t := 62) rfl rfl rfl ?_
                    refine G.q (Quiet.fieldAddr rfl fo_147_0) rfl ?_
                    refine G.grun (t := 62) rfl rfl rfl ?_
                    refine G.q (Quiet.loadRd (sz := 3) (j := i * 3 + 0) (p := slR 147 3 (.slice (some ⟨ba, 0, none⟩) σ.length ca) σ.length (sesC σ)) (v := vint σ[i].1) rfl ag_3 (by (repeat (first | exact Pick.here | apply Pick.there))) (fun h hp => slR_rd hp) (by simp) (by rw [sesC_get (by assumption) (by decide)]; rfl)) rfl ?_
                    refine G.grun (t := 62) rfl rfl rfl ?_
                    refine G.q (Quiet.move rfl) rfl ?_
                    refine G.grun (t := 62) rfl rfl rfl ?_
                    refine G.q (Quiet.int rfl rfl rfl) rfl ?_
                    refine G.q (Quiet.pickT rfl rfl) rfl ?_
                    refine G.nil ?_
                    refine G.then_n ?_
                    refine G.condD rfl (fun h73 => ?_) (fun h73 => ?_)
                    · refine G.seq ?_
                      refine G.region ?_
                      refine G.q (Quiet.move rfl) rfl ?_
                      refine G.q (Quiet.loadAs (vs := [vint id, vint to, vint (endsZ now to)]) rfl ag_147 (by (repeat (first | exact Pick.here | apply Pick.there))) (by simp [spl, setAll]) rfl) rfl ?_
                      refine G.op (OpSpec.buildSlice (vs := [_]) el_142 ze_147 rfl rfl rfl rfl (by simp [Value.cells]) (by decide)) (by (repeat (first | exact Picks.nil | (apply Picks.cons; (repeat (first | exact Pick.here | apply Pick.there)))))) rfl ?nx79
                      rintro v L' ⟨b13_2, rfl, rfl⟩
                      refine G.op (OpSpec.append1 rfl rfl rfl el_142 ze_147 rfl rfl ?c81 ?c82 (Nat.le_refl _) ?c83 (by decide)) (by (repeat (first | exact Picks.nil | (apply Picks.cons; (repeat (first | exact Pick.here | apply Pick.there)))))) rfl ?nx84
                      case c81 => (first | (simp [isCell]; done) | (simp [isCell, setAll, Value.cells]; done))
                      case c82 => rfl
                      case c83 => omega
                      rintro v L' ⟨⟨a13_3, c13_3, rfl⟩, rfl⟩
                      refine G.q (Quiet.assign rfl) rfl ?_
                      refine G.nil ?_
                      refine G.then_n ?_
                      refine G.region ?_
                      refine G.q (Quiet.assign rfl) rfl ?_
                      refine G.nil ?_
                      refine G.then_n ?_
                      refine G.seq ?_
                      refine G.region ?_
                      refine G.q (Quiet.move rfl) rfl ?_
                      refine G.q (Quiet.nilp rfl) rfl ?_
                      refine G.q (Quiet.fieldAddr rfl fo_144_0) rfl ?_
                      refine G.q (Quiet.load rfl ag_142 (by (repeat (first | exact Pick.here | apply Pick.there))) (rfl)) rfl ?_
                      refine G.q (Quiet.move rfl) rfl ?_
                      refine G.q (Quiet.indexAddr rfl rfl el_142 (by omega)) rfl ?_
                      refine G.q (Quiet.fieldAddr rfl fo_147_0) rfl ?_
                      refine G.q (Quiet.loadRd (sz := 3) (j := i * 3 + 0) (p := slR 147 3 (.slice (some ⟨ba, 0, none⟩) σ.length ca) σ.length (sesC σ)) (v := vint σ[i].1) rfl ag_3 (by (repeat (first | exact Pick.here | apply Pick.there))) (fun h hp => slR_rd hp) (by simp) (by rw [sesC_get (by assumption) (by decide)]; rfl)) rfl ?_
                      refine G.q (Quiet.move rfl) rfl ?_
                      refine G.q (Quiet.int rfl rfl rfl) rfl ?_
                      refine G.nil ?_
                      refine G.then_n ?_
                      refine G.condN rfl (fun h87 => ?_) (fun h87 => ?_)
                      · refine G.region ?_
                        refine G.q (Quiet.move rfl) rfl ?_
                        refine G.q (Quiet.move rfl) rfl ?_
                        refine G.q (Quiet.nilp rfl) rfl ?_
                        refine G.q (Quiet.fieldAddr rfl fo_144_0) rfl ?_
                        refine G.q (Quiet.load rfl ag_142 (by (repeat (first | exact Pick.here | apply Pick.there))) (rfl)) rfl ?_
                        refine G.q (Quiet.move rfl) rfl ?_
                        refine G.q (Quiet.indexAddr rfl rfl el_142 (by omega)) rfl ?_
                        refine G.q (Quiet.loadRdA (sz := 3) (j := i * 3) (vs := [vint σ[i].1, vint σ[i].2.1, vint σ[i].2.2]) (p := slR 147 3 (.slice (some ⟨ba, 0, none⟩) σ.length ca) σ.length (sesC σ)) rfl ag_147 (by (repeat (first | exact Pick.here | apply Pick.there))) (fun h hp => slR_rd hp) (by simp) (by omega) (by omega) (sesC_at hi2)) rfl ?_
                        refine G.op (OpSpec.buildSlice (vs := [_]) el_142 ze_147 rfl rfl rfl rfl (by simp [Value.cells]) (by decide)) (by (repeat (first | exact Picks.nil | (apply Picks.cons; (repeat (first | exact Pick.here | apply Pick.there)))))) rfl ?nx104
                        rintro v L' ⟨b16_8, rfl, rfl⟩
                        refine G.op (OpSpec.append1 rfl rfl rfl el_142 ze_147 rfl rfl ?c106 ?c107 (Nat.le_refl _) ?c108 (by decide)) (by (repeat (first | exact Picks.nil | (apply Picks.cons; (repeat (first | exact Pick.here | apply Pick.there)))))) rfl ?nx109
                        case c106 => (first | (simp [isCell]; done) | (simp [isCell, setAll, Value.cells]; done))
                        case c107 => rfl
                        case c108 => omega
                        rintro v L' ⟨⟨a16_9, c16_9, rfl⟩, rfl⟩
                        refine G.q (Quiet.assign rfl) rfl ?_
                        refine G.nil ?_
                        refine G.blk_n ?_
                        refine G.then_n ?_
                        refine G.region ?_
                        refine G.q (Quiet.move rfl) rfl ?_
                        refine G.q (Quiet.add rfl rfl (by omega)) rfl ?_
                        refine G.q (Quiet.assign rfl) rfl ?_
                        refine G.nil ?_
                        refine G.then_n ?_
                        refine G.slCast (m' := (out ++ [(id, (to, endsZ now to))] ++ [σ[i]]).length) (xs' := sesC (out ++ [(id, (to, endsZ now to))] ++ [σ[i]])) (by (repeat (first | exact Pick.here | apply Pick.there))) (by simp) (by simp only [sesC_append]; rfl) ?_
                        exact G.roundK ((i + 1, true, .slice a16_9 (out.length + 1 + 1) c16_9, out ++ [(id, (to, endsZ now to))] ++ [σ[i]])) (⟨by dsimp only; omega, hO.put hi2 h73 h87, a16_9, c16_9, by simp⟩) (by dsimp only; omega) ⟨rfl, rfl, rfl, rfl, rfl, rfl, rfl, trivial⟩ (by (repeat (first | exact Picks.nil | (apply Picks.cons; (repeat (first | exact Pick.here | apply Pick.there)))))) (by ((repeat (apply Have.cons; (repeat (first | exact Pick.here | apply Pick.there)))); apply Have.base; repeat (first | exact Suff.here | apply Suff.there)))
                      · refine G.skip ?_
                        refine G.blk_n ?_
                        refine G.then_n ?_
                        refine G.region ?_
                        refine G.q (Quiet.move rfl) rfl ?_
                        refine G.q (Quiet.add rfl rfl (by omega)) rfl ?_
                        refine G.q (Quiet.assign rfl) rfl ?_
                        refine G.nil ?_
                        refine G.then_n ?_
                        refine G.slCast (m' := (out ++ [(id, (to, endsZ now to))]).length) (xs' := sesC (out ++ [(id, (to, endsZ now to))])) (by (repeat (first | exact Pick.here | apply Pick.there))) (by simp) (by simp only [sesC_append]; rfl) ?_
                        exact G.roundK ((i + 1, true, .slice a13_3 (out.length + 1) c13_3, out ++ [(id, (to, endsZ now to))])) (⟨by dsimp only; omega, hO.rep hi2 h87, a13_3, c13_3, by simp⟩) (by dsimp only; omega) ⟨rfl, rfl, rfl, rfl, rfl, rfl, rfl, trivial⟩ (by (repeat (first | exact Picks.nil | (apply Picks.cons; (repeat (first | exact Pick.here | apply Pick.there)))))) (by ((repeat (apply Have.cons; (repeat (first | exact Pick.here | apply Pick.there)))); apply Have.base; repeat (first | exact Suff.here | apply Suff.there)))
                    · refine G.skip ?_
                      refine G.then_n ?_
                      refine G.seq ?_
                      refine G.region ?_
                      refine G.q (Quiet.move rfl) rfl ?_
                      refine G.q (Quiet.nilp rfl) rfl ?_
                      refine G.q (Quiet.fieldAddr rfl fo_144_0) rfl ?_
                      refine G.q (Quiet.load rfl ag_142 (by (repeat (first | exact Pick.here | apply Pick.there))) (rfl)) rfl ?_
                      refine G.q (Quiet.move rfl) rfl ?_
                      refine G.q (Quiet.indexAddr rfl rfl el_142 (by omega)) rfl ?_
                      refine G.q (Quiet.fieldAddr rfl fo_147_0) rfl ?_
                      refine G.q (Quiet.loadRd (sz := 3) (j := i * 3 + 0) (p := slR 147 3 (.slice (some ⟨ba, 0, none⟩) σ.length ca) σ.length (sesC σ)) (v := vint σ[i].1) rfl ag_3 (by (repeat (first | exact Pick.here | apply Pick.there))) (fun h hp => slR_rd hp) (by simp) (by rw [sesC_get (by assumption) (by decide)]; rfl)) rfl ?_
                      refine G.q (Quiet.move rfl) rfl ?_
                      refine G.q (Quiet.int rfl rfl rfl) rfl ?_
                      refine G.nil ?_
                      refine G.then_n ?_
                      refine G.condN rfl (fun h87 => ?_) (fun h87 => ?_)
                      · refine G.region ?_
                        refine G.q (Quiet.move rfl) rfl ?_
                        refine G.q (Quiet.move rfl) rfl ?_
                        refine G.q (Quiet.nilp rfl) rfl ?_
                        refine G.q (Quiet.fieldAddr rfl fo_144_0) rfl ?_
                        refine G.q (Quiet.load rfl ag_142 (by (repeat (first | exact Pick.here | apply Pick.there))) (rfl)) rfl ?_
                        refine G.q (Quiet.move rfl) rfl ?_
                        refine G.q (Quiet.indexAddr rfl rfl el_142 (by omega)) rfl ?_
                        refine G.q (Quiet.loadRdA (sz := 3) (j := i * 3) (vs := [vint σ[i].1, vint σ[i].2.1, vint σ[i].2.2]) (p := slR 147 3 (.slice (some ⟨ba, 0, none⟩) σ.length ca) σ.length (sesC σ)) rfl ag_147 (by (repeat (first | exact Pick.here | apply Pick.there))) (fun h hp => slR_rd hp) (by simp) (by omega) (by omega) (sesC_at hi2)) rfl ?_
                        refine G.op (OpSpec.buildSlice (vs := [_]) el_142 ze_147 rfl rfl rfl rfl (by simp [Value.cells]) (by decide)) (by (repeat (first | exact Picks.nil | (apply Picks.cons; (repeat (first | exact Pick.here | apply Pick.there)))))) rfl ?nx133
                        rintro v L' ⟨b16_8, rfl, rfl⟩
                        refine G.op (OpSpec.append1 rfl rfl rfl el_142 ze_147 rfl rfl ?c135 ?c136 (Nat.le_refl _) ?c137 (by decide)) (by (repeat (first | exact Picks.nil | (apply Picks.cons; (repeat (first | exact Pick.here | apply Pick.there)))))) rfl ?nx138
                        case c135 => (first | (simp [isCell]; done) | (simp [isCell, setAll, Value.cells]; done))
                        case c136 => rfl
                        case c137 => omega
                        rintro v L' ⟨⟨a16_9, c16_9, rfl⟩, rfl⟩
                        refine G.q (Quiet.assign rfl) rfl ?_
                        refine G.nil ?_
                        refine G.blk_n ?_
                        refine G.then_n ?_
                        refine G.region ?_
                        refine G.q (Quiet.move rfl) rfl ?_
                        refine G.q (Quiet.add rfl rfl (by omega)) rfl ?_
                        refine G.q (Quiet.assign rfl) rfl ?_
                        refine G.nil ?_
                        refine G.then_n ?_
                        refine G.slCast (m' := (out ++ [σ[i]]).length) (xs' := sesC (out ++ [σ[i]])) (by (repeat (first | exact Pick.here | apply Pick.there))) (by simp) (by simp only [sesC_append]; rfl) ?_
                        exact G.roundK ((i + 1, false, .slice a16_9 (out.length + 1) c16_9, out ++ [σ[i]])) (⟨by dsimp only; omega, hO.go0 hi2 h73, a16_9, c16_9, by simp⟩) (by dsimp only; omega) ⟨rfl, rfl, rfl, rfl, rfl, rfl, rfl, trivial⟩ (by (repeat (first | exact Picks.nil | (apply Picks.cons; (repeat (first | exact Pick.here | apply Pick.there)))))) (by ((repeat (apply Have.cons; (repeat (first | exact Pick.here | apply Pick.there)))); apply Have.base; repeat (first | exact Suff.here | apply Suff.there)))
                      · omega
                  · have hno := hO.not1 hok.sorted hi2
                    refine G.q (Quiet.move rfl) rfl ?_
                    refine G.q (Quiet.not rfl) rfl ?_
                    refine G.q (Quiet.move rfl) rfl ?_
                    refine G.gskip (t := 62) rfl rfl rfl rfl ?_
                    refine G.gskip (t := 62) rfl rfl rfl rfl ?_
                    refine G.gskip (t := 62) rfl rfl rfl rfl ?_
                    refine G.gskip (t := 62) rfl rfl rfl rfl ?_
                    refine G.gskip (t := 62) rfl rfl rfl rfl ?_
                    refine G.gskip (t := 62) rfl rfl rfl rfl ?_
                    refine G.gskip (t := 62) rfl rfl rfl rfl ?_
                    refine G.gskip (t := 62) rfl rfl rfl rfl ?_
                    refine G.gskip (t := 62) rfl rfl rfl rfl ?_
                    refine G.gskip (t := 62) rfl rfl rfl rfl ?_
                    refine G.q (Quiet.pickF rfl rfl) rfl ?_
                    refine G.nil ?_
                    refine G.then_n ?_
                    refine G.condF rfl ?_
                    refine G.skip ?_
                    refine G.then_n ?_
                    refine G.seq ?_
                    refine G.region ?_
                    refine G.q (Quiet.move rfl) rfl ?_
                    refine G.q (Quiet.nilp rfl) rfl ?_
                    refine G.q (Quiet.fieldAddr rfl fo_144_0) rfl ?_
                    refine G.q (Quiet.load rfl ag_142 (by (repeat (first | exact Pick.here | apply Pick.there))) (rfl)) rfl ?_
                    refine G.q (Quiet.move rfl) rfl ?_
                    refine G.q (Quiet.indexAddr rfl rfl el_142 (by omega)) rfl ?_
                    refine G.q (Quiet.fieldAddr rfl fo_147_0) rfl ?_
                    refine G.q (Quiet.loadRd (sz := 3) (j := i * 3 + 0) (p := slR 147 3 (.slice (some ⟨ba, 0, none⟩) σ.length ca) σ.length (sesC σ)) (v := vint σ[i].1) rfl ag_3 (by (repeat (first | exact Pick.here | apply Pick.there))) (fun h hp => slR_rd hp) (by simp) (by rw [sesC_get (by assumption) (by decide)]; rfl)) rfl ?_
                    refine G.q (Quiet.move rfl) rfl ?_
                    refine G.q (Quiet.int rfl rfl rfl) rfl ?_
                    refine G.nil ?_
                    refine G.then_n ?_
                    refine G.condN rfl (fun h87 => ?_) (fun h87 => ?_)
                    · refine G.region ?_
                      refine G.q (Quiet.move rfl) rfl ?_
                      refine G.q (Quiet.move rfl) rfl ?_
                      refine G.q (Quiet.nilp rfl) rfl ?_
                      refine G.q (Quiet.fieldAddr rfl fo_144_0) rfl ?_
                      refine G.q (Quiet.load rfl ag_142 (by (repeat (first | exact Pick.here | apply Pick.there))) (rfl)) rfl ?_
                      refine G.q (Quiet.move rfl) rfl ?_
                      refine G.q (Quiet.indexAddr rfl rfl el_142 (by omega)) rfl ?_
                      refine G.q (Quiet.loadRdA (sz := 3) (j := i * 3) (vs := [vint σ[i].1, vint σ[i].2.1, vint σ[i].2.2]) (p := slR 147 3 (.slice (some ⟨ba, 0, none⟩) σ.length ca) σ.length (sesC σ)) rfl ag_147 (by (repeat (first | exact Pick.here | apply Pick.there))) (fun h hp => slR_rd hp) (by simp) (by omega) (by omega) (sesC_at hi2)) rfl ?_
                      refine G.op (OpSpec.buildSlice (vs := [_]) el_142 ze_147 rfl rfl rfl rfl (by simp [Value.cells]) (by decide)) (by (repeat (first | exact Picks.nil | (apply Picks.cons; (repeat (first | exact Pick.here | apply Pick.there)))))) rfl ?nx163
                      rintro v L' ⟨b16_8, rfl, rfl⟩
                      refine G.op (OpSpec.append1 rfl rfl rfl el_142 ze_147 rfl rfl ?c165 ?c166 (Nat.le_refl _) ?c167 (by decide)) (by (repeat (first | exact Picks.nil | (apply Picks.cons; (repeat (first | exact Pick.here | apply Pick.there)))))) rfl ?nx168
                      case c165 => (first | (simp [isCell]; done) | (simp [isCell, setAll, Value.cells]; done))
                      case c166 => rfl
                      case c167 => omega
                      rintro v L' ⟨⟨a16_9, c16_9, rfl⟩, rfl⟩
                      refine G.q (Quiet.assign rfl) rfl ?_
                      refine G.nil ?_
                      refine G.blk_n ?_
                      refine G.then_n ?_
                      refine G.region ?_
                      refine G.q (Quiet.move rfl) rfl ?_
                      refine G.q (Quiet.add rfl rfl (by omega)) rfl ?_
                      refine G.q (Quiet.assign rfl) rfl ?_
                      refine G.nil ?_
                      refine G.then_n ?_
                      refine G.slCast (m' := (out ++ [σ[i]]).length) (xs' := sesC (out ++ [σ[i]])) (by (repeat (first | exact Pick.here | apply Pick.there))) (by simp) (by simp only [sesC_append]; rfl) ?_
                      exact G.roundK ((i + 1, true, .slice a16_9 (out.length + 1) c16_9, out ++ [σ[i]])) (⟨by dsimp only; omega, hO.go1 hi2, a16_9, c16_9, by simp⟩) (by dsimp only; omega) ⟨rfl, rfl, rfl, rfl, rfl, rfl, rfl, trivial⟩ (by (repeat (first | exact Picks.nil | (apply Picks.cons; (repeat (first | exact Pick.here | apply Pick.there)))))) (by ((repeat (apply Have.cons; (repeat (first | exact Pick.here | apply Pick.there)))); apply Have.base; repeat (first | exact Suff.here | apply Suff.there)))
                    · exact absurd h87 hno
                · have hi3 : i = σ.length := by omega
                  subst hi3
                  refine G.exit ?_
                  refine G.then_e ?_
                  refine G.then_e ?_
                  refine G.blk_e ?_
                  refine G.then_n ?_
                  refine G.seq ?_
                  refine G.seq ?_
                  refine G.region ?_
                  cases put
                  · refine G.q (Quiet.move rfl) rfl ?_
                    refine G.q (Quiet.not rfl) rfl ?_
                    refine G.nil ?_
                    refine G.then_n ?_
                    refine G.condT rfl ?_
                    refine G.region ?_
                    refine G.q (Quiet.move rfl) rfl ?_
                    refine G.q (Quiet.loadAs (vs := [vint id, vint to, vint (endsZ now to)]) rfl ag_147 (by (repeat (first | exact Pick.here | apply Pick.there))) (by simp [spl, setAll]) rfl) rfl ?_
                    refine G.op (OpSpec.buildSlice (vs := [_]) el_142 ze_147 rfl rfl rfl rfl (by simp [Value.cells]) (by decide)) (by (repeat (first | exact Picks.nil | (apply Picks.cons; (repeat (first | exact Pick.here | apply Pick.there)))))) rfl ?nx176
                    rintro v L' ⟨b18_2, rfl, rfl⟩
                    refine G.op (OpSpec.append1 rfl rfl rfl el_142 ze_147 rfl rfl ?c178 ?c179 (Nat.le_refl _) ?c180 (by decide)) (by (repeat (first | exact Picks.nil | (apply Picks.cons; (repeat (first | exact Pick.here | apply Pick.there)))))) rfl ?nx181
                    case c178 => (first | (simp [isCell]; done) | (simp [isCell, setAll, Value.cells]; done))
                    case c179 => rfl
                    case c180 => omega
                    rintro v L' ⟨⟨a18_3, c18_3, rfl⟩, rfl⟩
                    refine G.q (Quiet.assign rfl) rfl ?_
                    refine G.nil ?_
                    refine G.then_n ?_
                    refine G.seq ?_
                    refine G.region ?_
                    refine G.q (Quiet.move rfl) rfl ?_
                    refine G.q (Quiet.move rfl) rfl ?_
                    refine G.q (Quiet.nilp rfl) rfl ?_
                    refine G.q (Quiet.fieldAddr rfl fo_144_0) rfl ?_
                    refine G.op (OpSpec.store rfl rfl rfl sz_142 ?c186 ?c187) (by (repeat (first | exact Picks.nil | (apply Picks.cons; (repeat (first | exact Pick.here | apply Pick.there)))))) rfl ?nx188
                    case c186 => first | decide | (simp; omega) | simp
                    case c187 => exact nfz0 _ _
                    rintro v L' rfl
                    refine G.nil ?_
                    refine G.then_n ?_
                    refine G.seq ?_
                    refine G.region ?_
                    refine G.q (Quiet.assign rfl) rfl ?_
                    refine G.nil ?_
                    refine G.then_n ?_
                    refine G.ret ?_
                    rw [e]
                    have hout := hO.fin0
                    refine G.trFold hok2 (by (repeat (first | exact Picks.nil | (apply Picks.cons; (repeat (first | exact Pick.here | apply Pick.there)))))) (by rw [← hout] <;> simp) (by rw [← hout, sesC_append] <;> rfl) ?_
                    exact G.done (l := [.tmp 8]) rfl rfl ⟨rfl, rfl⟩ (by (repeat (first | exact Picks.nil | (apply Picks.cons; (repeat (first | exact Pick.here | apply Pick.there)))))) (by (repeat (first | exact Suff.here | apply Suff.there)))
                  · refine G.q (Quiet.move rfl) rfl ?_
                    refine G.q (Quiet.not rfl) rfl ?_
                    refine G.nil ?_
                    refine G.then_n ?_
                    refine G.condF rfl ?_
                    refine G.skip ?_
                    refine G.then_n ?_
                    refine G.seq ?_
                    refine G.region ?_
                    refine G.q (Quiet.move rfl) rfl ?_
                    refine G.q (Quiet.move rfl) rfl ?_
                    refine G.q (Quiet.nilp rfl) rfl ?_
                    refine G.q (Quiet.fieldAddr rfl fo_144_0) rfl ?_
                    refine G.op (OpSpec.store rfl rfl rfl sz_142 ?c196 ?c197) (by (repeat (first | exact Picks.nil | (apply Picks.cons; (repeat (first | exact Pick.here | apply Pick.there)))))) rfl ?nx198
                    case c196 => first | decide | (simp; omega) | simp
                    case c197 => exact nfz0 _ _
                    rintro v L' rfl
                    refine G.nil ?_
                    refine G.then_n ?_
                    refine G.seq ?_
                    refine G.region ?_
                    refine G.q (Quiet.assign rfl) rfl ?_
                    refine G.nil ?_
                    refine G.then_n ?_
                    refine G.ret ?_
                    rw [e]
                    have hout := hO.fin1
                    refine G.trFold hok2 (by (repeat (first | exact Picks.nil | (apply Picks.cons; (repeat (first | exact Pick.here | apply Pick.there)))))) (by rw [← hout] <;> simp) (by rw [← hout] <;> rfl) ?_
                    exact G.done (l := [.tmp 8]) rfl rfl ⟨rfl, rfl⟩ (by (repeat (first | exact Picks.nil | (apply Picks.cons; (repeat (first | exact Pick.here | apply Pick.there)))))) (by (repeat (first | exact Suff.here | apply Suff.there)))
            · refine G.q (Quiet.move rfl) rfl ?_
              refine G.q (Quiet.move rfl) rfl ?_
              refine G.op (OpSpec.call Try.func97 rfl rfl (vs := [_, _]) rfl (place_spec t σ id)) (by (repeat (first | exact Picks.nil | (apply Picks.cons; (repeat (first | exact Pick.here | apply Pick.there)))))) rfl ?nx202
              rintro v L' ⟨rfl, rfl⟩; rw [hp]
              refine G.q (Quiet.assign rfl) rfl ?_
              refine G.nil ?_
              refine G.then_n ?_
              refine G.seq ?_
              refine G.seq ?_
              refine G.trOpen (σ := σ) (by (repeat (first | exact Pick.here | apply Pick.there))) fun v hok => ?_
              refine G.slAny (v := v) (by (repeat (first | exact Pick.here | apply Pick.there))) fun aa ca e _ => ?_
              subst e
              have hfew := hok.few
              refine G.region ?_
              refine G.q (Quiet.move rfl) rfl ?_
              refine G.q (Quiet.int rfl rfl rfl) rfl ?_
              refine G.q (Quiet.move rfl) rfl ?_
              refine G.dec (t := 37) rfl (fun h4_37 => ?_) (fun h4_37 => ?_)
              · omega
              · refine G.kDF (t := 36) rfl h4_37 ?_
                refine G.gskip (t := 37) rfl rfl rfl rfl ?_
                refine G.gskip (t := 37) rfl rfl rfl rfl ?_
                refine G.gskip (t := 37) rfl rfl rfl rfl ?_
                refine G.gskip (t := 37) rfl rfl rfl rfl ?_
                refine G.gskip (t := 37) rfl rfl rfl rfl ?_
                refine G.gskip (t := 37) rfl rfl rfl rfl ?_
                refine G.q (Quiet.pickF rfl rfl) rfl ?_
                refine G.nil ?_
                refine G.then_n ?_
                refine G.condF rfl ?_
                refine G.skip ?_
                refine G.then_n ?_
                refine G.seq ?_
                have e : sOpen σ id to now = (sins σ id (to, endsZ now to), 0) := by unfold sOpen; rw [if_neg hnot, if_neg (by rintro ⟨h1, h2⟩; rw [hal] at h1; cases h1)]
                have hok2 := hok.opened id to now hid
                rw [e] at hok2
                refine G.region ?_
                refine G.q (Quiet.move rfl) rfl ?_
                refine G.q (Quiet.move rfl) rfl ?_
                refine G.q (Quiet.move rfl) rfl ?_
                refine G.q (Quiet.move rfl) rfl ?_
                refine G.op (OpSpec.call Try.func124 rfl rfl (vs := [_, _]) rfl (rends_spec now to hbad ?h1210 ?h2211)) (by (repeat (first | exact Picks.nil | (apply Picks.cons; (repeat (first | exact Pick.here | apply Pick.there)))))) rfl ?nx212
                case h1210 => omega
                case h2211 => omega
                rintro v L' ⟨rfl, rfl⟩
                refine G.q (Quiet.build (us := [(0, _), (1, _), (2, _)]) fl_147 ze_147 rfl rfl (by simp [isCell])) rfl ?_
                refine G.op (OpSpec.allocA ze_147) (by (repeat (first | exact Picks.nil | (apply Picks.cons; (repeat (first | exact Pick.here | apply Pick.there)))))) rfl ?nx215
                rintro v L' ⟨bs, rfl, rfl⟩
                refine G.op (OpSpec.storeA rfl rfl ?c217 sz_147 ?c220 ?c218 ?c219) (by (repeat (first | exact Picks.nil | (apply Picks.cons; (repeat (first | exact Pick.here | apply Pick.there)))))) rfl ?nx221
                case c217 => (first | (simp [isCell]; done) | (simp [isCell, setAll, Value.cells]; done))
                case c220 => (first | (simp; done) | (simp [setAll, spl, Value.cells]; done))
                case c218 => (first | (simp; done) | (simp [setAll, spl, Value.cells]; done))
                case c219 => exact nfz0 _ _
                rintro v L' rfl
                refine G.nil ?_
                refine G.then_n ?_
                refine G.seq ?_
                refine G.region ?_
                refine G.q (Quiet.assign rfl) rfl ?_
                refine G.nil ?_
                refine G.then_n ?_
                refine G.seq ?_
                refine G.region ?_
                refine G.q (Quiet.assign rfl) rfl ?_
                refine G.nil ?_
                refine G.then_n ?_
                refine G.seq ?_
                refine G.seq ?_
                refine G.add (slR_nil 147 3) ?_
                refine G.region ?_
                refine G.q (Quiet.assign rfl) rfl ?_
                refine G.nil ?_
                refine G.then_n ?_
                refine G.block ?_
                refine G.loopK (ι := Nat × Bool × Value × Ses) (fun q E => (13, vint q.1) :: (12, .bool q.2.1) :: (11, q.2.2.1) :: E) (fun q => [sesR q.2.2.1 q.2.2.2]) (fun q => q.1 ≤ σ.length ∧ OutI σ id (to, endsZ now to) q.1 q.2.1 q.2.2.2 ∧ ∃ a c, q.2.2.1 = .slice a q.2.2.2.length c) (fun q => σ.length - q.1) (0, false, .slice none 0 0, []) (ts := [0, 1, 8, 10]) (.cons rfl (.cons rfl (.cons rfl (.cons rfl (.nil))))) (⟨Nat.zero_le _, OutI.start _ _ _, _, _, rfl⟩) ⟨rfl, rfl, rfl, rfl, rfl, rfl, rfl, trivial⟩ (by (repeat (first | exact Picks.nil | (apply Picks.cons; (repeat (first | exact Pick.here | apply Pick.there)))))) ?_
                rintro ⟨i, put, u, out⟩ ⟨hi, hO, au, cu, hu⟩
                dsimp only
                dsimp only at hi hO hu
                subst hu
                have hol := hO.len
                refine G.seq ?_
                refine G.seq ?_
                refine G.region ?_
                refine G.q (Quiet.move rfl) rfl ?_
                refine G.q (Quiet.move rfl) rfl ?_
                refine G.q (Quiet.nilp rfl) rfl ?_
                refine G.q (Quiet.fieldAddr rfl fo_144_0) rfl ?_
                refine G.q (Quiet.load rfl ag_142 (by (repeat (first | exact Pick.here | apply Pick.there))) (rfl)) rfl ?_
                refine G.q (Quiet.slen rfl Try.underlying142 rfl) rfl ?_
                refine G.q (Quiet.int rfl rfl rfl) rfl ?_
                refine G.nil ?_
                refine G.then_n ?_
                refine G.condD rfl (fun h57 => ?_) (fun h57 => ?_)
                · have hi2 : i < σ.length := by omega
                  refine G.slShape (v := .slice aa _ ca) (by (repeat (first | exact Pick.here | apply Pick.there))) (by omega) fun ba ca2 e hcap _ => ?_
                  simp only [Value.slice.injEq, true_and] at e
                  obtain ⟨rfl, rfl⟩ := e
                  refine G.skip ?_
                  refine G.then_n ?_
                  refine G.seq ?_
                  refine G.block ?_
                  refine G.seq ?_
                  refine G.seq ?_
                  refine G.region ?_
                  cases put
                  · refine G.q (Quiet.move rfl) rfl ?_
                    refine G.q (Quiet.not rfl) rfl ?_
                    refine G.q (Quiet.move rfl) rfl ?_
                    refine G.grun (t := 62) rfl rfl rfl ?_
                    refine G.q (Quiet.move rfl) rfl ?_
                    refine G.grun (t := 62) rfl rfl rfl ?_
                    refine G.q (Quiet.nilp rfl) rfl ?_
                    refine G.grun (t := 62) rfl rfl rfl ?_
                    refine G.q (Quiet.fieldAddr rfl fo_144_0) rfl ?_
                    refine G.grun (t := 62) rfl rfl rfl ?_
                    refine G.q (Quiet.load rfl ag_142 (by (repeat (first | exact Pick.here | apply Pick.there))) (rfl)) rfl ?_
                    refine G.grun (t := 62) rfl rfl rfl ?_
                    refine G.q (Quiet.move rfl) rfl ?_
                    refine G.grun (t := 62) rfl rfl rfl ?_
                    refine G.q (Quiet.indexAddr rfl rfl el_142 (by omega)) rfl ?_
                    refine G.grun (t := 62) rfl rfl rfl ?_
                    refine G.q (Quiet.fieldAddr rfl fo_147_0) rfl ?_
                    refine G.grun (t := 62) rfl rfl rfl ?_
                    refine G.q (Quiet.loadRd (sz := 3) (j := i * 3 + 0) (p := slR 147 3 (.slice (some ⟨ba, 0, none⟩) σ.length ca) σ.length (sesC σ)) (v := vint σ[i].1) rfl ag_3 (by (repeat (first | exact Pick.here | apply Pick.there))) (fun h hp => slR_rd hp) (by simp) (by rw [sesC_get (by assumption) (by decide)]; rfl)) rfl ?_
                    refine G.grun (t := 62) rfl rfl rfl ?_
                    refine G.q (Quiet.move rfl) rfl ?_
                    refine G.grun (t := 62) rfl rfl rfl ?_
                    refine G.q (Quiet.int rfl rfl rfl) rfl ?_
                    refine G.q (Quiet.pickT rfl rfl) rfl ?_
                    refine G.nil ?_
                    refine G.then_n ?_
                    refine G.condD rfl (fun h73 => ?_) (fun h73 => ?_)
                    · refine G.seq ?_
                      refine G.region ?_
                      refine G.q (Quiet.move rfl) rfl ?_
                      refine G.q (Quiet.loadAs (vs := [vint id, vint to, vint (endsZ now to)]) rfl ag_147 (by (repeat (first | exact Pick.here | apply Pick.there))) (by simp [spl, setAll]) rfl) rfl ?_
                      refine G.op (OpSpec.buildSlice (vs := [_]) el_142 ze_147 rfl rfl rfl rfl (by simp [Value.cells]) (by decide)) (by (repeat (first | exact Picks.nil | (apply Picks.cons; (repeat (first | exact Pick.here | apply Pick.there)))))) rfl ?nx246
                      rintro v L' ⟨b13_2, rfl, rfl⟩
                      refine G.op (OpSpec.append1 rfl rfl rfl el_142 ze_147 rfl rfl ?c248 ?c249 (Nat.le_refl _) ?c250 (by decide)) (by (repeat (first | exact Picks.nil | (apply Picks.cons; (repeat (first | exact Pick.here | apply Pick.there)))))) rfl ?nx251
                      case c248 => (first | (simp [isCell]; done) | (simp [isCell, setAll, Value.cells]; done))
                      case c249 => rfl
                      case c250 => omega
                      rintro v L' ⟨⟨a13_3, c13_3, rfl⟩, rfl⟩
                      refine G.q (Quiet.assign rfl) rfl ?_
                      refine G.nil ?_
                      refine G.then_n ?_
                      refine G.region ?_
                      refine G.q (Quiet.assign rfl) rfl ?_
                      refine G.nil ?_
                      refine G.then_n ?_
                      refine G.seq ?_
                      refine G.region ?_
                      refine G.q (Quiet.move rfl) rfl ?_
                      refine G.q (Quiet.nilp rfl) rfl ?_
                      refine G.q (Quiet.fieldAddr rfl fo_144_0) rfl ?_
                      refine G.q (Quiet.load rfl ag_142 (by (repeat (first | exact Pick.here | apply Pick.there))) (rfl)) rfl ?_
                      refine G.q (Quiet.move rfl) rfl ?_
                      refine G.q (Quiet.indexAddr rfl rfl el_142 (by omega)) rfl ?_
                      refine G.q (Quiet.fieldAddr rfl fo_147_0) rfl ?_
                      refine G.q (Quiet.loadRd (sz := 3) (j := i * 3 + 0) (p := slR 147 3 (.slice (some ⟨ba, 0, none⟩) σ.length ca) σ.length (sesC σ)) (v := vint σ[i].1) rfl ag_3 (by (repeat (first | exact Pick.here | apply Pick.there))) (fun h hp => slR_rd hp) (by simp) (by rw [sesC_get (by assumption) (by decide)]; rfl)) rfl ?_
                      refine G.q (Quiet.move rfl) rfl ?_
                      refine G.q (Quiet.int rfl rfl rfl) rfl ?_
                      refine G.nil ?_
                      refine G.then_n ?_
                      refine G.condN rfl (fun h87 => ?_) (fun h87 => ?_)
                      · refine G.region ?_
                        refine G.q (Quiet.move rfl) rfl ?_
                        refine G.q (Quiet.move rfl) rfl ?_
                        refine G.q (Quiet.nilp rfl) rfl ?_
                        refine G.q (Quiet.fieldAddr rfl fo_144_0) rfl ?_
                        refine G.q (Quiet.load rfl ag_142 (by (repeat (first | exact Pick.here | apply Pick.there))) (rfl)) rfl ?_
                        refine G.q (Quiet.move rfl) rfl ?_
                        refine G.q (Quiet.indexAddr rfl rfl el_142 (by omega)) rfl ?_
                        refine G.q (Quiet.loadRdA (sz := 3) (j := i * 3) (vs := [vint σ[i].1, vint σ[i].2.1, vint σ[i].2.2]) (p := slR 147 3 (.slice (some ⟨ba, 0, none⟩) σ.length ca) σ.length (sesC σ)) rfl ag_147 (by (repeat (first | exact Pick.here | apply Pick.there))) (fun h hp => slR_rd hp) (by simp) (by omega) (by omega) (sesC_at hi2)) rfl ?_
                        refine G.op (OpSpec.buildSlice (vs := [_]) el_142 ze_147 rfl rfl rfl rfl (by simp [Value.cells]) (by decide)) (by (repeat (first | exact Picks.nil | (apply Picks.cons; (repeat (first | exact Pick.here | apply Pick.there)))))) rfl ?nx271
                        rintro v L' ⟨b16_8, rfl, rfl⟩
                        refine G.op (OpSpec.append1 rfl rfl rfl el_142 ze_147 rfl rfl ?c273 ?c274 (Nat.le_refl _) ?c275 (by decide)) (by (repeat (first | exact Picks.nil | (apply Picks.cons; (repeat (first | exact Pick.here | apply Pick.there)))))) rfl ?nx276
                        case c273 => (first | (simp [isCell]; done) | (simp [isCell, setAll, Value.cells]; done))
                        case c274 => rfl
                        case c275 => omega
                        rintro v L' ⟨⟨a16_9, c16_9, rfl⟩, rfl⟩
                        refine G.q (Quiet.assign rfl) rfl ?_
                        refine G.nil ?_
                        refine G.blk_n ?_
                        refine G.then_n ?_
                        refine G.region ?_
                        refine G.q (Quiet.move rfl) rfl ?_
                        refine G.q (Quiet.add rfl rfl (by omega)) rfl ?_
                        refine G.q (Quiet.assign rfl) rfl ?_
                        refine G.nil ?_
                        refine G.then_n ?_
                        refine G.slCast (m' := (out ++ [(id, (to, endsZ now to))] ++ [σ[i]]).length) (xs' := sesC (out ++ [(id, (to, endsZ now to))] ++ [σ[i]])) (by (repeat (first | exact Pick.here | apply Pick.there))) (by simp) (by simp only [sesC_append]; rfl) ?_
                        exact G.roundK ((i + 1, true, .slice a16_9 (out.length + 1 + 1) c16_9, out ++ [(id, (to, endsZ now to))] ++ [σ[i]])) (⟨by dsimp only; omega, hO.put hi2 h73 h87, a16_9, c16_9, by simp⟩) (by dsimp only; omega) ⟨rfl, rfl, rfl, rfl, rfl, rfl, rfl, trivial⟩ (by (repeat (first | exact Picks.nil | (apply Picks.cons; (repeat (first | exact Pick.here | apply Pick.there)))))) (by ((repeat (apply Have.cons; (repeat (first | exact Pick.here | apply Pick.there)))); apply Have.base; repeat (first | exact Suff.here | apply Suff.there)))
                      · refine G.skip ?_
                        refine G.blk_n ?_
                        refine G.then_n ?_
                        refine G.region ?_
                        refine G.q (Quiet.move rfl) rfl ?_
                        refine G.q (Quiet.add rfl rfl (by omega)) rfl ?_
                        refine G.q (Quiet.assign rfl) rfl ?_
                        refine G.nil ?_
                        refine G.then_n ?_
                        refine G.slCast (m' := (out ++ [(id, (to, endsZ now to))]).length) (xs' := sesC (out ++ [(id, (to, endsZ now to))])) (by (repeat (first | exact Pick.here | apply Pick.there))) (by simp) (by simp only [sesC_append]; rfl) ?_
                        exact G.roundK ((i + 1, true, .slice a13_3 (out.length + 1) c13_3, out ++ [(id, (to, endsZ now to))])) (⟨by dsimp only; omega, hO.rep hi2 h87, a13_3, c13_3, by simp⟩) (by dsimp only; omega) ⟨rfl, rfl, rfl, rfl, rfl, rfl, rfl, trivial⟩ (by (repeat (first | exact Picks.nil | (apply Picks.cons; (repeat (first | exact Pick.here | apply Pick.there)))))) (by ((repeat (apply Have.cons; (repeat (first | exact Pick.here | apply Pick.there)))); apply Have.base; repeat (first | exact Suff.here | apply Suff.there)))
                    · refine G.skip ?_
                      refine G.then_n ?_
                      refine G.seq ?_
                      refine G.region ?_
                      refine G.q (Quiet.move rfl) rfl ?_
                      refine G.q (Quiet.nilp rfl) rfl ?_
                      refine G.q (Quiet.fieldAddr rfl fo_144_0) rfl ?_
                      refine G.q (Quiet.load rfl ag_142 (by (repeat (first | exact Pick.here | apply Pick.there))) (rfl)) rfl ?_
                      refine G.q (Quiet.move rfl) rfl ?_
                      refine G.q (Quiet.indexAddr rfl rfl el_142 (by omega)) rfl ?_
                      refine G.q (Quiet.fieldAddr rfl fo_147_0) rfl ?_
                      refine G.q (Quiet.loadRd (sz := 3) (j := i * 3 + 0) (p := slR 147 3 (.slice (some ⟨ba, 0, none⟩) σ.length ca) σ.length (sesC σ)) (v := vint σ[i].1) rfl ag_3 (by (repeat (first | exact Pick.here | apply Pick.there))) (fun h hp => slR_rd hp) (by simp) (by rw [sesC_get (by assumption) (by decide)]; rfl)) rfl ?_
                      refine G.q (Quiet.move rfl) rfl ?_
                      refine G.q (Quiet.int rfl rfl rfl) rfl ?_
                      refine G.nil ?_
                      refine G.then_n ?_
                      refine G.condN rfl (fun h87 => ?_) (fun h87 => ?_)
                      · refine G.region ?_
                        refine G.q (Quiet.move rfl) rfl ?_
                        refine G.q (Quiet.move rfl) rfl ?_
                        refine G.q (Quiet.nilp rfl) rfl ?_
                        refine G.q (Quiet.fieldAddr rfl fo_144_0) rfl ?_
                        refine G.q (Quiet.load rfl ag_142 (by (repeat (first | exact Pick.here | apply Pick.there))) (rfl)) rfl ?_
                        refine G.q (Quiet.move rfl) rfl ?_
                        refine G.q (Quiet.indexAddr rfl rfl el_142 (by omega)) rfl ?_
                        refine G.q (Quiet.loadRdA (sz := 3) (j := i * 3) (vs := [vint σ[i].1, vint σ[i].2.1, vint σ[i].2.2]) (p := slR 147 3 (.slice (some ⟨ba, 0, none⟩) σ.length ca) σ.length (sesC σ)) rfl ag_147 (by (repeat (first | exact Pick.here | apply Pick.there))) (fun h hp => slR_rd hp) (by simp) (by omega) (by omega) (sesC_at hi2)) rfl ?_
                        refine G.op (OpSpec.buildSlice (vs := [_]) el_142 ze_147 rfl rfl rfl rfl (by simp [Value.cells]) (by decide)) (by (repeat (first | exact Picks.nil | (apply Picks.cons; (repeat (first | exact Pick.here | apply Pick.there)))))) rfl ?nx300
                        rintro v L' ⟨b16_8, rfl, rfl⟩
                        refine G.op (OpSpec.append1 rfl rfl rfl el_142 ze_147 rfl rfl ?c302 ?c303 (Nat.le_refl _) ?c304 (by decide)) (by (repeat (first | exact Picks.nil | (apply Picks.cons; (repeat (first | exact Pick.here | apply Pick.there)))))) rfl ?nx305
                        case c302 => (first | (simp [isCell]; done) | (simp [isCell, setAll, Value.cells]; done))
                        case c303 => rfl
                        case c304 => omega
                        rintro v L' ⟨⟨a16_9, c16_9, rfl⟩, rfl⟩
                        refine G.q (Quiet.assign rfl) rfl ?_
                        refine G.nil ?_
                        refine G.blk_n ?_
                        refine G.then_n ?_
                        refine G.region ?_
                        refine G.q (Quiet.move rfl) rfl ?_
                        refine G.q (Quiet.add rfl rfl (by omega)) rfl ?_
                        refine G.q (Quiet.assign rfl) rfl ?_
                        refine G.nil ?_
                        refine G.then_n ?_
                        refine G.slCast (m' := (out ++ [σ[i]]).length) (xs' := sesC (out ++ [σ[i]])) (by (repeat (first | exact Pick.here | apply Pick.there))) (by simp) (by simp only [sesC_append]; rfl) ?_
                        exact G.roundK ((i + 1, false, .slice a16_9 (out.length + 1) c16_9, out ++ [σ[i]])) (⟨by dsimp only; omega, hO.go0 hi2 h73, a16_9, c16_9, by simp⟩) (by dsimp only; omega) ⟨rfl, rfl, rfl, rfl, rfl, rfl, rfl, trivial⟩ (by (repeat (first | exact Picks.nil | (apply Picks.cons; (repeat (first | exact Pick.here | apply Pick.there)))))) (by ((repeat (apply Have.cons; (repeat (first | exact Pick.here | apply Pick.there)))); apply Have.base; repeat (first | exact Suff.here | apply Suff.there)))
                      · omega
                  · have hno := hO.not1 hok.sorted hi2
                    refine G.q (Quiet.move rfl) rfl ?_
                    refine G.q (Quiet.not rfl) rfl ?_
                    refine G.q (Quiet.move rfl) rfl ?_
                    refine G.gskip (t := 62) rfl rfl rfl rfl ?_
                    refine G.gskip (t := 62) rfl rfl rfl rfl ?_
                    refine G.gskip (t := 62) rfl rfl rfl rfl ?_
                    refine G.gskip (t := 62) rfl rfl rfl rfl ?_
                    refine G.gskip (t := 62) rfl rfl rfl rfl ?_
                    refine G.gskip (t := 62) rfl rfl rfl rfl ?_
                    refine G.gskip (t := 62) rfl rfl rfl rfl ?_
                    refine G.gskip (t := 62) rfl rfl rfl rfl ?_
                    refine G.gskip (t := 62) rfl rfl rfl rfl ?_
                    refine G.gskip (t := 62) rfl rfl rfl rfl ?_
                    refine G.q (Quiet.pickF rfl rfl) rfl ?_
                    refine G.nil ?_
                    refine G.then_n ?_
                    refine G.condF rfl ?_
                    refine G.skip ?_
                    refine G.then_n ?_
                    refine G.seq ?_
                    refine G.region ?_
                    refine G.q (Quiet.move rfl) rfl ?_
                    refine G.q (Quiet.nilp rfl) rfl ?_
                    refine G.q (Quiet.fieldAddr rfl fo_144_0) rfl ?_
                    refine G.q (Quiet.load rfl ag_142 (by (repeat (first | exact Pick.here | apply Pick.there))) (rfl)) rfl ?_
                    refine G.q (Quiet.move rfl) rfl ?_
                    refine G.q (Quiet.indexAddr rfl rfl el_142 (by omega)) rfl ?_
                    refine G.q (Quiet.fieldAddr rfl fo_147_0) rfl ?_
                    refine G.q (Quiet.loadRd (sz := 3) (j := i * 3 + 0) (p := slR 147 3 (.slice (some ⟨ba, 0, none⟩) σ.length ca) σ.length (sesC σ)) (v := vint σ[i].1) rfl ag_3 (by (repeat (first | exact Pick.here | apply Pick.there))) (fun h hp => slR_rd hp) (by simp) (by rw [sesC_get (by assumption) (by decide)]; rfl)) rfl ?_
                    refine G.q (Quiet.move rfl) rfl ?_
                    refine G.q (Quiet.int rfl rfl rfl) rfl ?_
                    refine G.nil ?_
                    refine G.then_n ?_
                    refine G.condN rfl (fun h87 => ?_) (fun h87 => ?_)
                    · refine G.region ?_
                      refine G.q (Quiet.move rfl) rfl ?_
                      refine G.q (Quiet.move rfl) rfl ?_
                      refine G.q (Quiet.nilp rfl) rfl ?_
                      refine G.q (Quiet.fieldAddr rfl fo_144_0) rfl ?_
                      refine G.q (Quiet.load rfl ag_142 (by (repeat (first | exact Pick.here | apply Pick.there))) (rfl)) rfl ?_
                      refine G.q (Quiet.move rfl) rfl ?_
                      refine G.q (Quiet.indexAddr rfl rfl el_142 (by omega)) rfl ?_
                      refine G.q (Quiet.loadRdA (sz := 3) (j := i * 3) (vs := [vint σ[i].1, vint σ[i].2.1, vint σ[i].2.2]) (p := slR 147 3 (.slice (some ⟨ba, 0, none⟩) σ.length ca) σ.length (sesC σ)) rfl ag_147 (by (repeat (first | exact Pick.here | apply Pick.there))) (fun h hp => slR_rd hp) (by simp) (by omega) (by omega) (sesC_at hi2)) rfl ?_
                      refine G.op (OpSpec.buildSlice (vs := [_]) el_142 ze_147 rfl rfl rfl rfl (by simp [Value.cells]) (by decide)) (by (repeat (first | exact Picks.nil | (apply Picks.cons; (repeat (first | exact Pick.here | apply Pick.there)))))) rfl ?nx330
                      rintro v L' ⟨b16_8, rfl, rfl⟩
                      refine G.op (OpSpec.append1 rfl rfl rfl el_142 ze_147 rfl rfl ?c332 ?c333 (Nat.le_refl _) ?c334 (by decide)) (by (repeat (first | exact Picks.nil | (apply Picks.cons; (repeat (first | exact Pick.here | apply Pick.there)))))) rfl ?nx335
                      case c332 => (first | (simp [isCell]; done) | (simp [isCell, setAll, Value.cells]; done))
                      case c333 => rfl
                      case c334 => omega
                      rintro v L' ⟨⟨a16_9, c16_9, rfl⟩, rfl⟩
                      refine G.q (Quiet.assign rfl) rfl ?_
                      refine G.nil ?_
                      refine G.blk_n ?_
                      refine G.then_n ?_
                      refine G.region ?_
                      refine G.q (Quiet.move rfl) rfl ?_
                      refine G.q (Quiet.add rfl rfl (by omega)) rfl ?_
                      refine G.q (Quiet.assign rfl) rfl ?_
                      refine G.nil ?_
                      refine G.then_n ?_
                      refine G.slCast (m' := (out ++ [σ[i]]).length) (xs' := sesC (out ++ [σ[i]])) (by (repeat (first | exact Pick.here | apply Pick.there))) (by simp) (by simp only [sesC_append]; rfl) ?_
                      exact G.roundK ((i + 1, true, .slice a16_9 (out.length + 1) c16_9, out ++ [σ[i]])) (⟨by dsimp only; omega, hO.go1 hi2, a16_9, c16_9, by simp⟩) (by dsimp only; omega) ⟨rfl, rfl, rfl, rfl, rfl, rfl, rfl, trivial⟩ (by (repeat (first | exact Picks.nil | (apply Picks.cons; (repeat (first | exact Pick.here | apply Pick.there)))))) (by ((repeat (apply Have.cons; (repeat (first | exact Pick.here | apply Pick.there)))); apply Have.base; repeat (first | exact Suff.here | apply Suff.there)))
                    · exact absurd h87 hno
                · have hi3 : i = σ.length := by omega
                  subst hi3
                  refine G.exit ?_
                  refine G.then_e ?_
                  refine G.then_e ?_
                  refine G.blk_e ?_
                  refine G.then_n ?_
                  refine G.seq ?_
                  refine G.seq ?_
                  refine G.region ?_
                  cases put
                  · refine G.q (Quiet.move rfl) rfl ?_
                    refine G.q (Quiet.not rfl) rfl ?_
                    refine G.nil ?_
                    refine G.then_n ?_
                    refine G.condT rfl ?_
                    refine G.region ?_
                    refine G.q (Quiet.move rfl) rfl ?_
                    refine G.q (Quiet.loadAs (vs := [vint id, vint to, vint (endsZ now to)]) rfl ag_147 (by (repeat (first | exact Pick.here | apply Pick.there))) (by simp [spl, setAll]) rfl) rfl ?_
                    refine G.op (OpSpec.buildSlice (vs := [_]) el_142 ze_147 rfl rfl rfl rfl (by simp [Value.cells]) (by decide)) (by (repeat (first | exact Picks.nil | (apply Picks.cons; (repeat (first | exact Pick.here | apply Pick.there)))))) rfl ?nx343
                    rintro v L' ⟨b18_2, rfl, rfl⟩
                    refine G.op (OpSpec.append1 rfl rfl rfl el_142 ze_147 rfl rfl ?c345 ?c346 (Nat.le_refl _) ?c347 (by decide)) (by (repeat (first | exact Picks.nil | (apply Picks.cons; (repeat (first | exact Pick.here | apply Pick.there)))))) rfl ?nx348
                    case c345 => (first | (simp [isCell]; done) | (simp [isCell, setAll, Value.cells]; done))
                    case c346 => rfl
                    case c347 => omega
                    rintro v L' ⟨⟨a18_3, c18_3, rfl⟩, rfl⟩
                    refine G.q (Quiet.assign rfl) rfl ?_
                    refine G.nil ?_
                    refine G.then_n ?_
                    refine G.seq ?_
                    refine G.region ?_
                    refine G.q (Quiet.move rfl) rfl ?_
                    refine G.q (Quiet.move rfl) rfl ?_
                    refine G.q (Quiet.nilp rfl) rfl ?_
                    refine G.q (Quiet.fieldAddr rfl fo_144_0) rfl ?_
                    refine G.op (OpSpec.store rfl rfl rfl sz_142 ?c353 ?c354) (by (repeat (first | exact Picks.nil | (apply Picks.cons; (repeat (first | exact Pick.here | apply Pick.there)))))) rfl ?nx355
                    case c353 => first | decide | (simp; omega) | simp
                    case c354 => exact nfz0 _ _
                    rintro v L' rfl
                    refine G.nil ?_
                    refine G.then_n ?_
                    refine G.seq ?_
                    refine G.region ?_
                    refine G.q (Quiet.assign rfl) rfl ?_
                    refine G.nil ?_
                    refine G.then_n ?_
                    refine G.ret ?_
                    rw [e]
                    have hout := hO.fin0
                    refine G.trFold hok2 (by (repeat (first | exact Picks.nil | (apply Picks.cons; (repeat (first | exact Pick.here | apply Pick.there)))))) (by rw [← hout] <;> simp) (by rw [← hout, sesC_append] <;> rfl) ?_
                    exact G.done (l := [.tmp 8]) rfl rfl ⟨rfl, rfl⟩ (by (repeat (first | exact Picks.nil | (apply Picks.cons; (repeat (first | exact Pick.here | apply Pick.there)))))) (by (repeat (first | exact Suff.here | apply Suff.there)))
                  · refine G.q (Quiet.move rfl) rfl ?_
                    refine G.q (Quiet.not rfl) rfl ?_
                    refine G.nil ?_
                    refine G.then_n ?_
                    refine G.condF rfl ?_
                    refine G.skip ?_
                    refine G.then_n ?_
                    refine G.seq ?_
                    refine G.region ?_
                    refine G.q (Quiet.move rfl) rfl ?_
                    refine G.q (Quiet.move rfl) rfl ?_
                    refine G.q (Quiet.nilp rfl) rfl ?_
                    refine G.q (Quiet.fieldAddr rfl fo_144_0) rfl ?_
                    refine G.op (OpSpec.store rfl rfl rfl sz_142 ?c363 ?c364) (by (repeat (first | exact Picks.nil | (apply Picks.cons; (repeat (first | exact Pick.here | apply Pick.there)))))) rfl ?nx365
                    case c363 => first | decide | (simp; omega) | simp
                    case c364 => exact nfz0 _ _
                    rintro v L' rfl
                    refine G.nil ?_
                    refine G.then_n ?_
                    refine G.seq ?_
                    refine G.region ?_
                    refine G.q (Quiet.assign rfl) rfl ?_
                    refine G.nil ?_
                    refine G.then_n ?_
                    refine G.ret ?_
                    rw [e]
                    have hout := hO.fin1
                    refine G.trFold hok2 (by (repeat (first | exact Picks.nil | (apply Picks.cons; (repeat (first | exact Pick.here | apply Pick.there)))))) (by rw [← hout] <;> simp) (by rw [← hout] <;> rfl) ?_
                    exact G.done (l := [.tmp 8]) rfl rfl ⟨rfl, rfl⟩ (by (repeat (first | exact Picks.nil | (apply Picks.cons; (repeat (first | exact Pick.here | apply Pick.there)))))) (by (repeat (first | exact Suff.here | apply Suff.there)))

end Go.Proofs.Ytepncdidkjjllaa
