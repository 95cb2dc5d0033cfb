/- Own work, by program: walLasts: the walk, brought to the given statement. -/
import Derived.Test.YtepncdidkjjllaaWLasts
import Derived.Test.YtepncdidkjjllaaArgs4
import Derived.SizedLaws
namespace Go.Proofs.Ytepncdidkjjllaa.walLasts
open Go Go.ChangeShapes Go.WideShapes Go.ChangeAt Go.RowKit
theorem own : ownKnob Try.prog.godebug = none := by kernel_rfl
theorem laid : laidOutB Try.prog = true := by kernel_rfl
theorem reads : ∀ t ∈ Try.f13.params.toList, Try.prog.readableRec t = true ∧ t < Try.prog.types.size := by
  have h : (Try.f13.params.toList.all fun t => Try.prog.readableRec t && decide (t < Try.prog.types.size)) = true := by kernel_rfl
  intro t ht
  simpa using List.all_eq_true.1 h t ht
set_option maxRecDepth 100000 in
theorem contract (H : Type) (enc : TypeId × Value → H) (W : World) (base : Nat) (args : Array Value) (ds gs : List (DataW H)) (before : List MemPlace)
    (hval : ∀ (j : Nat) t v, Try.f13.params[j]? = some t → args[j]? = some v → Value.okWide Try.prog W .any base t v)
    (hW : DataW.Whole enc Try.prog Try.f13.params.toList Rows.walLastsSpec.vars Rows.walLastsRow.apart W args.toList ds gs before) (hlight : ∀ n ∈ DataW.weightsEach Try.prog [3, 45] ds, n ≤ reachBytes) :
    Calls Try.prog 13 args W fun e W' => ∃ v, e = .returned v ∧ Rows.walLastsSpec.post enc Try.prog Try.f13 Rows.walLastsRow.apart Rows.walLastsRow.fresh Rows.walLastsRow.handsOn Rows.walLastsRow.again W args v W' := by
  have hW' := hW
  obtain ⟨p, q, hA, hV, rfl, hfz, hnd⟩ := hW
  have hpar : Try.f13.params = #[3, 45] := Try.params13
  rw [hpar] at hval
  have hA' := hA
  rw [hpar] at hA'
  obtain ⟨v0, vs0, d0, ds0, p0, q0, ha0, rfl, rfl, h0, r0⟩ := trodAll_cons hA'
  obtain ⟨v1, vs1, d1, ds1, p1, q1, ha1, rfl, rfl, h1, r1⟩ := trodAll_cons r0
  obtain ⟨hv, rfl, rfl⟩ := trodAll_nil r1
  obtain rfl : args = #[v0, v1] := by
    have e : args.toList = [v0, v1] := by rw [ha0, ha1, hv]
    cases args; simp_all
  obtain ⟨n0, rfl, rfl, hn0⟩ := arg_int Try.underlying3 (hval 0 _ _ rfl rfl) h0
  obtain ⟨xs1, hr1⟩ := arg_wops (hval 1 _ _ rfl rfl) h1 (light_each hlight 1 _ _ rfl rfl)
  refine (old_calls (wlasts_spec n0 v1 xs1 (Old W) hn0 hr1)).mono fun e W' ⟨he, hb⟩ => ⟨_, he, ?_⟩
  exact settled hW' rfl (fun gs' h => by subst h; rfl) rfl Try.underlying4 laid reads hb
set_option maxRecDepth 100000 in
theorem lifted (os : Os) (started : os.Started) (H : Type) (enc : TypeId × Value → H) :
    ReturnsInHanded {} Try.checked os 13 .any (Rows.walLastsSpec.pre6 enc Try.prog Try.f13 Rows.walLastsRow.domain Rows.walLastsRow.apart) (Rows.walLastsSpec.post enc Try.prog Try.f13 Rows.walLastsRow.apart Rows.walLastsRow.fresh Rows.walLastsRow.handsOn Rows.walLastsRow.again) := by
  refine returnsInHanded_of_change_sized (C := Try.checked) own started (by kernel_rfl) Try.func13
    (ChangeSpec.witness6 (enc := enc) (C := Try.checked) false ⟨#[], #[.int .i64 0, .slice none 0 0], []⟩ 8 (by kernel_rfl) (by kernel_rfl) (by kernel_rfl) (by kernel_rfl)) ?_
  intro W base args ds gs before hval hW _ hz _
  refine contract H enc W base args ds gs before hval hW ?_
  have hV := hW.choose_spec.choose_spec.2.1
  obtain ⟨rfl, -⟩ := trodVars_none hV
  have hpar : Try.f13.params = #[3, 45] := Try.params13
  rw [hpar] at hz
  simp only [List.append_nil] at hz
  have hz2 : ((DataW.weightsEach Try.prog [3, 45] ds).all (· ≤ reachBytes)) = true := hz
  intro n hn
  simpa using List.all_eq_true.1 hz2 n hn
theorem proved : Rows.WalLastsSaid :=
  OpenClaim.holds_of_wide 13 Try.f13 rfl rfl rfl rfl rfl rfl rfl ⟨rfl, rfl, rfl, rfl, rfl⟩ rfl rfl rfl rfl rfl (by kernel_rfl) Try.func13 (by kernel_rfl)
    (of_decide_eq_true (by kernel_rfl)) (by unfold Func.isWrapper; first | (rw [if_pos (by decide +kernel)]; kernel_rfl) | (rw [if_neg (by decide +kernel)]; exact ⟨rfl, rfl⟩))
    (fun os started H enc _ => lifted os started H enc)
end Go.Proofs.Ytepncdidkjjllaa.walLasts
