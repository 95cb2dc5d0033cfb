/- Own work: leadFollowed.proved: the given second form, from the walk in the other texts, for arguments of bounded bulk. -/
import Derived.Test.YtjhlofbhpjakgaaGreatCLFolP5
import Derived.WalkKit
import Derived.ProofKit
import Derived.OpenShut
import Derived.JoinedCond
set_option maxRecDepth 100000
namespace Go.Proofs.YtjhlofbhpjakgaaGreat.leadFollowed
open Go List Go.Proofs.Tryz Go.ChangeShapes Go.WideShapes Go.ChangeAt Go.RowKit
theorem own : ownKnob prog.godebug = none := by kernel_rfl
theorem XY : laidOutB prog = true := by kernel_rfl
theorem Va : ∀ t ∈ f3.params.toList, prog.readableRec t = true ∧ t < prog.types.size := by
 have h : (f3.params.toList.all fun t => prog.readableRec t && decide (t < prog.types.size)) = true := by kernel_rfl
 intro t ht
 simpa using all_eq_true.1 h t ht
theorem MG (H : Type) (enc : TypeId × Value → H) (W : World) (base : Nat) (args : Array Value) (ds gs : List (DataW H)) (before : List MemPlace)
  (hval : ∀ (j : Nat) t v, f3.params[j]? = some t → args[j]? = some v → Value.okWide prog W .any base t v)
  (hW : DataW.Whole enc prog f3.params.toList Rows.leadFollowedSpec.vars false W args.toList ds gs before) (hk : Rows.uptoSmall H (ds ++ gs) = true) :
  Calls prog 3 args W fun e W' => ∃ v, e = .returned v ∧ Rows.leadFollowedSpec.post enc prog f3 false true false false W args v W' := by
 have hW' := hW
 obtain ⟨p, q, hA, hV, rfl, hfz, hnd⟩ := hW
 obtain ⟨rfl, -⟩ := trodVars_none hV
 rw [append_nil] at hk
 have hpar : f3.params = #[3, 22, 23] := Tryz.params3
 rw [hpar] at hval
 have hA' := hA
 rw [hpar] at hA'
 obtain ⟨v0, vs0, d0, ds0, p0, r0, ha0, rfl, rfl, h0, t0⟩ := trodAll_cons hA'
 obtain ⟨v1, vs1, d1, ds1, p1, r1, ha1, rfl, rfl, h1, t1⟩ := trodAll_cons t0
 obtain ⟨v2, vs2, d2, ds2, p2, r2, ha2, rfl, rfl, h2, t2⟩ := trodAll_cons t1
 obtain ⟨hv, rfl, rfl⟩ := trodAll_nil t2
 obtain rfl : args = #[v0, v1, v2] := by
  have e : args.toList = [v0, v1, v2] := by rw [ha0, ha1, ha2, hv]
  cases args; simp_all
 have b0 := Ih hk (d := d0) (by simp)
 obtain ⟨n0, rfl, -, q0⟩ := Xj underlying3 (hval 0 _ _ rfl rfl) h0
 have b1 := Ih hk (d := d1) (by simp)
 obtain ⟨ad1, nn1, cp1, rfl⟩ := okWide_slice underlying22 (hval 1 _ _ rfl rfl)
 obtain ⟨fu1, g1⟩ := h1
 obtain ⟨v1, xs1, e1, q1⟩ := UN g1 b1
 simp [Value.cells] at e1
 subst e1
 have b2 := Ih hk (d := d2) (by simp)
 obtain ⟨ad2, nn2, cp2, rfl⟩ := okWide_slice underlying23 (hval 2 _ _ rfl rfl)
 obtain ⟨fu2, g2⟩ := h2
 obtain ⟨v2, xs2, e2, q2⟩ := TP g2 b2
 simp [Value.cells] at e2
 subst e2
 refine (TJ (Iu n0 q0 _ xs1 (Old W) q1.1 (by have h9 := q1.2.2; omega) q1.2.1 _ xs2 q2.1 q2.2.1 q2.2.2)).mono fun e W' ⟨he, hb⟩ => ⟨_, he, ?_⟩
 exact Xm hW' rfl (fun gs' h => by subst h; rfl) rfl underlying4 XY Va hb
theorem ZX (os : Os) (started : os.Started) (H : Type) (enc : TypeId × Value → H) (F : Stop.Interp) :
  ReturnsInHanded {} Tryz.checked os 3 .any ((Rows.OpenSpec.upto Rows.leadFollowedSpec).pre6 enc prog f3 Rows.leadFollowedUptoRow.domain false) (((Rows.OpenSpec.upto Rows.leadFollowedSpec).at F).post enc prog f3 false true false false) := by
 refine returnsInHanded_of_cond (C := Tryz.checked) (s := Rows.OpenSpec.upto Rows.leadFollowedSpec) (k := Rows.uptoSmall) rfl own started kQ func3
  (OpenSpec.witness (enc := enc) (C := Tryz.checked) (s := Rows.OpenSpec.upto Rows.leadFollowedSpec) (k := Rows.uptoSmall) rfl false ⟨#[], #[.int .i64 0, .slice none 0 0, .slice none 0 0], []⟩ 8 kQ kQ kQ
   (x := ([.lit (.int .i64 0), .nil, .nil], [], [])) kQ rfl kQ) ?_
 intro W base args ds gs before hval hW _ hk _
 exact MG H enc W base args ds gs before hval hW hk
theorem proved : Rows.LeadFollowedUptoSaid :=
 OpenClaim.holds_of_cond 3 f3 rfl rfl rfl rfl rfl rfl rfl ⟨rfl, rfl, rfl, rfl, rfl⟩ rfl rfl rfl rfl rfl kQ func3 kQ
  (of_decide_eq_true kQ) (by unfold Func.isWrapper; first | (rw [if_pos (by decide +kernel)]; kernel_rfl) | (rw [if_neg (by decide +kernel)]; exact ⟨rfl, rfl⟩))
  (fun os started H enc _ F => ZX os started H enc F)
end Go.Proofs.YtjhlofbhpjakgaaGreat.leadFollowed
