/- Own work, by program: diskLasts: the walk, brought to the given statement. -/
import Derived.Test.YtepncdidkjjllaaLasts
import Derived.Test.YtepncdidkjjllaaArgs
namespace Go.Proofs.Ytepncdidkjjllaa.diskLasts
open Go Go.ChangeShapes Go.WideShapes Go.ChangeAt Go.RowKit
theorem own : ownKnob Try.prog.godebug = none := by kernel_rfl
theorem laid : laidOutB Try.prog = true := by kernel_rfl
theorem reads : ∀ t ∈ Try.f9.params.toList, Try.prog.readableRec t = true ∧ t < Try.prog.types.size := by
  have h : (Try.f9.params.toList.all fun t => Try.prog.readableRec t && decide (t < Try.prog.types.size)) = true := by kernel_rfl
  intro t ht
  simpa using List.all_eq_true.1 h t ht
set_option maxRecDepth 100000 in
theorem contract (H : Type) (enc : TypeId × Value → H) (W : World) (base : Nat) (args : Array Value) (ds gs : List (DataW H)) (before : List MemPlace)
    (hval : ∀ (j : Nat) t v, Try.f9.params[j]? = some t → args[j]? = some v → Value.okWide Try.prog W .any base t v)
    (hW : DataW.Whole enc Try.prog Try.f9.params.toList Rows.diskLastsSpec.vars Rows.diskLastsRow.apart W args.toList ds gs before) :
    Calls Try.prog 9 args W fun e W' => ∃ v, e = .returned v ∧ Rows.diskLastsSpec.post enc Try.prog Try.f9 Rows.diskLastsRow.apart Rows.diskLastsRow.fresh Rows.diskLastsRow.handsOn Rows.diskLastsRow.again W args v W' := by
  have hW' := hW
  obtain ⟨p, q, hA, hV, rfl, hfz, hnd⟩ := hW
  have hpar : Try.f9.params = #[40, 40, 3, 40] := Try.params9
  rw [hpar] at hval
  have hA' := hA
  rw [hpar] at hA'
  obtain ⟨v0, vs0, d0, ds0, p0, q0, ha0, rfl, rfl, h0, r0⟩ := trodAll_cons hA'
  obtain ⟨v1, vs1, d1, ds1, p1, q1, ha1, rfl, rfl, h1, r1⟩ := trodAll_cons r0
  obtain ⟨v2, vs2, d2, ds2, p2, q2, ha2, rfl, rfl, h2, r2⟩ := trodAll_cons r1
  obtain ⟨v3, vs3, d3, ds3, p3, q3, ha3, rfl, rfl, h3, r3⟩ := trodAll_cons r2
  obtain ⟨hv, rfl, rfl⟩ := trodAll_nil r3
  obtain rfl : args = #[v0, v1, v2, v3] := by
    have e : args.toList = [v0, v1, v2, v3] := by rw [ha0, ha1, ha2, ha3, hv]
    cases args; simp_all
  obtain ⟨xs0, hr0, hm0, hb0⟩ := arg_ints Try.underlying40 Try.underlying3 (by kernel_rfl) (hval 0 _ _ rfl rfl) h0
  obtain ⟨xs1, hr1, hm1, hb1⟩ := arg_ints Try.underlying40 Try.underlying3 (by kernel_rfl) (hval 1 _ _ rfl rfl) h1
  obtain ⟨n2, rfl, rfl, hn2⟩ := arg_int Try.underlying3 (hval 2 _ _ rfl rfl) h2
  obtain ⟨xs3, hr3, hm3, hb3⟩ := arg_ints Try.underlying40 Try.underlying3 (by kernel_rfl) (hval 3 _ _ rfl rfl) h3
  refine (old_calls (lasts_spec v0 v1 v3 n2 xs0 xs1 xs3 (Old W) hr0 hr1 hr3 hb0 hb1 hn2 hb3)).mono fun e W' ⟨he, hb⟩ => ⟨_, he, ?_⟩
  exact settled hW' rfl (fun gs' h => by subst h; rfl) rfl Try.underlying4 laid reads hb
set_option maxRecDepth 100000 in
theorem lifted (os : Os) (started : os.Started) (H : Type) (enc : TypeId × Value → H) :
    ReturnsInHanded {} Try.checked os 9 .any (Rows.diskLastsSpec.pre6 enc Try.prog Try.f9 Rows.diskLastsRow.domain Rows.diskLastsRow.apart) (Rows.diskLastsSpec.post enc Try.prog Try.f9 Rows.diskLastsRow.apart Rows.diskLastsRow.fresh Rows.diskLastsRow.handsOn Rows.diskLastsRow.again) := by
  refine returnsInHanded_of_change (C := Try.checked) own started (by kernel_rfl) Try.func9
    (ChangeSpec.witness6 (enc := enc) (C := Try.checked) false ⟨#[], #[.slice none 0 0, .slice none 0 0, .int .i64 0, .slice none 0 0], []⟩ 8 (by kernel_rfl) (by kernel_rfl) (by kernel_rfl) (by kernel_rfl)) ?_
  intro W base args ds gs before hval hW _ _
  exact contract H enc W base args ds gs before hval hW
theorem proved : Rows.DiskLastsSaid :=
  OpenClaim.holds_of_wide 9 Try.f9 rfl rfl rfl rfl rfl rfl rfl ⟨rfl, rfl, rfl, rfl, rfl⟩ rfl rfl rfl rfl rfl (by kernel_rfl) Try.func9 (by kernel_rfl)
    (of_decide_eq_true (by kernel_rfl)) (by unfold Func.isWrapper; first | (rw [if_pos (by decide +kernel)]; kernel_rfl) | (rw [if_neg (by decide +kernel)]; exact ⟨rfl, rfl⟩))
    (fun os started H enc _ => lifted os started H enc)
end Go.Proofs.Ytepncdidkjjllaa.diskLasts
