/- Own work, by program: walOpened: the walk, brought to the given statement. -/
import Derived.Test.YtepncdidkjjllaaWOpened
import Derived.Test.YtepncdidkjjllaaArgs4
import Derived.SizedLaws
namespace Go.Proofs.Ytepncdidkjjllaa.walOpened
open Go Go.ChangeShapes Go.WideShapes Go.ChangeAt Go.RowKit
theorem own : ownKnob Try.prog.godebug = none := by kernel_rfl
theorem laid : laidOutB Try.prog = true := by kernel_rfl
theorem reads : ∀ t ∈ Try.f5.params.toList, Try.prog.readableRec t = true ∧ t < Try.prog.types.size := by
  have h : (Try.f5.params.toList.all fun t => Try.prog.readableRec t && decide (t < Try.prog.types.size)) = true := by kernel_rfl
  intro t ht
  simpa using List.all_eq_true.1 h t ht
set_option maxRecDepth 100000 in
theorem contract (H : Type) (enc : TypeId × Value → H) (W : World) (base : Nat) (args : Array Value) (ds gs : List (DataW H)) (before : List MemPlace)
    (hval : ∀ (j : Nat) t v, Try.f5.params[j]? = some t → args[j]? = some v → Value.okWide Try.prog W .any base t v)
    (hW : DataW.Whole enc Try.prog Try.f5.params.toList Rows.walOpenedSpec.vars Rows.walOpenedRow.apart W args.toList ds gs before) (hlight : ∀ n ∈ DataW.weightsEach Try.prog [3, 45, 3] ds, n ≤ reachBytes) :
    Calls Try.prog 5 args W fun e W' => ∃ v, e = .returned v ∧ Rows.walOpenedSpec.post enc Try.prog Try.f5 Rows.walOpenedRow.apart Rows.walOpenedRow.fresh Rows.walOpenedRow.handsOn Rows.walOpenedRow.again W args v W' := by
  have hW' := hW
  obtain ⟨p, q, hA, hV, rfl, hfz, hnd⟩ := hW
  have hpar : Try.f5.params = #[3, 45, 3] := Try.params5
  rw [hpar] at hval
  have hA' := hA
  rw [hpar] at hA'
  obtain ⟨v0, vs0, d0, ds0, p0, q0, ha0, rfl, rfl, h0, r0⟩ := trodAll_cons hA'
  obtain ⟨v1, vs1, d1, ds1, p1, q1, ha1, rfl, rfl, h1, r1⟩ := trodAll_cons r0
  obtain ⟨v2, vs2, d2, ds2, p2, q2, ha2, rfl, rfl, h2, r2⟩ := trodAll_cons r1
  obtain ⟨hv, rfl, rfl⟩ := trodAll_nil r2
  obtain rfl : args = #[v0, v1, v2] := by
    have e : args.toList = [v0, v1, v2] := by rw [ha0, ha1, ha2, hv]
    cases args; simp_all
  obtain ⟨n0, rfl, rfl, hn0⟩ := arg_int Try.underlying3 (hval 0 _ _ rfl rfl) h0
  obtain ⟨xs1, hr1⟩ := arg_wops (hval 1 _ _ rfl rfl) h1 (light_each hlight 1 _ _ rfl rfl)
  obtain ⟨n2, rfl, rfl, hn2⟩ := arg_int Try.underlying3 (hval 2 _ _ rfl rfl) h2
  refine (old_calls (wopened_spec n0 n2 v1 xs1 (Old W) hn0 hn2 hr1)).mono fun e W' ⟨he, hb⟩ => ⟨_, he, ?_⟩
  exact settled hW' rfl (fun gs' h => by subst h; rfl) rfl Try.underlying4 laid reads hb
set_option maxRecDepth 100000 in
theorem lifted (os : Os) (started : os.Started) (H : Type) (enc : TypeId × Value → H) :
    ReturnsInHanded {} Try.checked os 5 .any (Rows.walOpenedSpec.pre6 enc Try.prog Try.f5 Rows.walOpenedRow.domain Rows.walOpenedRow.apart) (Rows.walOpenedSpec.post enc Try.prog Try.f5 Rows.walOpenedRow.apart Rows.walOpenedRow.fresh Rows.walOpenedRow.handsOn Rows.walOpenedRow.again) := by
  refine returnsInHanded_of_change_sized (C := Try.checked) own started (by kernel_rfl) Try.func5
    (ChangeSpec.witness6 (enc := enc) (C := Try.checked) false ⟨#[], #[.int .i64 0, .slice none 0 0, .int .i64 0], []⟩ 8 (by kernel_rfl) (by kernel_rfl) (by kernel_rfl) (by kernel_rfl)) ?_
  intro W base args ds gs before hval hW _ hz _
  refine contract H enc W base args ds gs before hval hW ?_
  have hV := hW.choose_spec.choose_spec.2.1
  obtain ⟨rfl, -⟩ := trodVars_none hV
  have hpar : Try.f5.params = #[3, 45, 3] := Try.params5
  rw [hpar] at hz
  simp only [List.append_nil] at hz
  have hz2 : ((DataW.weightsEach Try.prog [3, 45, 3] ds).all (· ≤ reachBytes)) = true := hz
  intro n hn
  simpa using List.all_eq_true.1 hz2 n hn
theorem proved : Rows.WalOpenedSaid :=
  OpenClaim.holds_of_wide 5 Try.f5 rfl rfl rfl rfl rfl rfl rfl ⟨rfl, rfl, rfl, rfl, rfl⟩ rfl rfl rfl rfl rfl (by kernel_rfl) Try.func5 (by kernel_rfl)
    (of_decide_eq_true (by kernel_rfl)) (by unfold Func.isWrapper; first | (rw [if_pos (by decide +kernel)]; kernel_rfl) | (rw [if_neg (by decide +kernel)]; exact ⟨rfl, rfl⟩))
    (fun os started H enc _ => lifted os started H enc)
end Go.Proofs.Ytepncdidkjjllaa.walOpened
