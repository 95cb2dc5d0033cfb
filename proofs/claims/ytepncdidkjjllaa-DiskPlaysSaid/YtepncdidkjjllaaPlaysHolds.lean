/- Own work, by program: diskPlays: the walk, brought to the given statement. -/
import Derived.Test.YtepncdidkjjllaaPlays
import Derived.Test.YtepncdidkjjllaaArgs3
import Derived.SizedLaws
namespace Go.Proofs.Ytepncdidkjjllaa.diskPlays
open Go Go.ChangeShapes Go.WideShapes Go.ChangeAt Go.RowKit
theorem own : ownKnob Try.prog.godebug = none := by kernel_rfl
theorem laid : laidOutB Try.prog = true := by kernel_rfl
theorem reads : ∀ t ∈ Try.f11.params.toList, Try.prog.readableRec t = true ∧ t < Try.prog.types.size := by
  have h : (Try.f11.params.toList.all fun t => Try.prog.readableRec t && decide (t < Try.prog.types.size)) = true := by kernel_rfl
  intro t ht
  simpa using List.all_eq_true.1 h t ht
set_option maxRecDepth 100000 in
theorem contract (H : Type) (enc : TypeId × Value → H) (W : World) (base : Nat) (args : Array Value) (ds gs : List (DataW H)) (before : List MemPlace)
    (hval : ∀ (j : Nat) t v, Try.f11.params[j]? = some t → args[j]? = some v → Value.okWide Try.prog W .any base t v)
    (hW : DataW.Whole enc Try.prog Try.f11.params.toList Rows.diskPlaysSpec.vars Rows.diskPlaysRow.apart W args.toList ds gs before) (hlight : ∀ n ∈ DataW.weightsEach Try.prog [3, 3, 85, 40] ds, n ≤ reachBytes) :
    Calls Try.prog 11 args W fun e W' => ∃ v, e = .returned v ∧ Rows.diskPlaysSpec.post enc Try.prog Try.f11 Rows.diskPlaysRow.apart Rows.diskPlaysRow.fresh Rows.diskPlaysRow.handsOn Rows.diskPlaysRow.again W args v W' := by
  have hW' := hW
  obtain ⟨p, q, hA, hV, rfl, hfz, hnd⟩ := hW
  have hpar : Try.f11.params = #[3, 3, 85, 40] := Try.params11
  rw [hpar] at hval
  have hA' := hA
  rw [hpar] at hA'
  obtain ⟨v0, vs0, d0, ds0, p0, q0, ha0, rfl, rfl, h0, r0⟩ := trodAll_cons hA'
  obtain ⟨v1, vs1, d1, ds1, p1, q1, ha1, rfl, rfl, h1, r1⟩ := trodAll_cons r0
  obtain ⟨v2, vs2, d2, ds2, p2, q2, ha2, rfl, rfl, h2, r2⟩ := trodAll_cons r1
  obtain ⟨v3, vs3, d3, ds3, p3, q3, ha3, rfl, rfl, h3, r3⟩ := trodAll_cons r2
  obtain ⟨hv, rfl, rfl⟩ := trodAll_nil r3
  obtain rfl : args = #[v0, v1, v2, v3] := by
    have e : args.toList = [v0, v1, v2, v3] := by rw [ha0, ha1, ha2, ha3, hv]
    cases args; simp_all
  obtain ⟨n0, rfl, rfl, hn0⟩ := arg_int Try.underlying3 (hval 0 _ _ rfl rfl) h0
  obtain ⟨n1, rfl, rfl, hn1⟩ := arg_int Try.underlying3 (hval 1 _ _ rfl rfl) h1
  obtain ⟨xs2, hr2⟩ := arg_ops (hval 2 _ _ rfl rfl) h2 (light_each hlight 2 _ _ rfl rfl)
  obtain ⟨xs3, hr3, hm3, hb3⟩ := arg_ints Try.underlying40 Try.underlying3 (by kernel_rfl) (hval 3 _ _ rfl rfl) h3
  refine (old_calls (plays_spec n0 n1 v2 v3 xs2 xs3 (Old W) hr2 hr3 hb3)).mono fun e W' ⟨he, hb⟩ => ⟨_, he, ?_⟩
  exact settled hW' rfl (fun gs' h => by subst h; rfl) rfl Try.underlying4 laid reads hb
set_option maxRecDepth 100000 in
theorem lifted (os : Os) (started : os.Started) (H : Type) (enc : TypeId × Value → H) :
    ReturnsInHanded {} Try.checked os 11 .any (Rows.diskPlaysSpec.pre6 enc Try.prog Try.f11 Rows.diskPlaysRow.domain Rows.diskPlaysRow.apart) (Rows.diskPlaysSpec.post enc Try.prog Try.f11 Rows.diskPlaysRow.apart Rows.diskPlaysRow.fresh Rows.diskPlaysRow.handsOn Rows.diskPlaysRow.again) := by
  refine returnsInHanded_of_change_sized (C := Try.checked) own started (by kernel_rfl) Try.func11
    (ChangeSpec.witness6 (enc := enc) (C := Try.checked) false ⟨#[], #[.int .i64 0, .int .i64 0, .slice none 0 0, .slice none 0 0], []⟩ 8 (by kernel_rfl) (by kernel_rfl) (by kernel_rfl) (by kernel_rfl)) ?_
  intro W base args ds gs before hval hW _ hz _
  refine contract H enc W base args ds gs before hval hW ?_
  have hV := hW.choose_spec.choose_spec.2.1
  obtain ⟨rfl, -⟩ := trodVars_none hV
  have hpar : Try.f11.params = #[3, 3, 85, 40] := Try.params11
  rw [hpar] at hz
  simp only [List.append_nil] at hz
  have hz2 : ((DataW.weightsEach Try.prog [3, 3, 85, 40] ds).all (· ≤ reachBytes)) = true := hz
  intro n hn
  simpa using List.all_eq_true.1 hz2 n hn
theorem proved : Rows.DiskPlaysSaid :=
  OpenClaim.holds_of_wide 11 Try.f11 rfl rfl rfl rfl rfl rfl rfl ⟨rfl, rfl, rfl, rfl, rfl⟩ rfl rfl rfl rfl rfl (by kernel_rfl) Try.func11 (by kernel_rfl)
    (of_decide_eq_true (by kernel_rfl)) (by unfold Func.isWrapper; first | (rw [if_pos (by decide +kernel)]; kernel_rfl) | (rw [if_neg (by decide +kernel)]; exact ⟨rfl, rfl⟩))
    (fun os started H enc _ => lifted os started H enc)
end Go.Proofs.Ytepncdidkjjllaa.diskPlays
