/- Own work, in part by program, for plainReplays.proved. -/
import Derived.Test.YtmbnebafdhpgpaaGreatDoorCVReplaysP5
import Derived.Test.YtmbnebafdhpgpaaGreatDoorCards
import Derived.Test.YtmbnebafdhpgpaaGreatDoorTie
import Derived.WalkKit
import Derived.ProofKit
import Derived.OpenShut
import Derived.Deep.DeepHandedRow
import Derived.Lib.LaidTab
import Derived.Stop.LaidErr
set_option maxRecDepth 100000
namespace Go.Proofs.YtmbnebafdhpgpaaGreatDoor.plainReplays
open Go List Go.Proofs.Tryz Go.ChangeShapes Go.WideShapes Go.ChangeAt Go.RowKit
theorem own : ownKnob prog.godebug = none := by kernel_rfl
theorem laid : laidOutB prog = true := by kernel_rfl
theorem YM : ∀ t ∈ f6.params.toList, prog.readableRec t = true ∧ t < prog.types.size := by
 have h : (f6.params.toList.all fun t => prog.readableRec t && decide (t < prog.types.size)) = true := by kernel_rfl
 intro t ht
 simpa using all_eq_true.1 h t ht
theorem UR {W : World} (h : laidMetH prog Rows.plainReplaysUptoRow.laid W) : GD (Pd W) := by
 have h1 : laidMet prog Rows.plainReplaysUptoRow.laid W := h
 have e : Rows.plainReplaysUptoRow.laid = [("math/bits.deBruijn32tab", Rows.laid_math_bits_deBruijn32tab), ("math/bits.deBruijn64tab", Rows.laid_math_bits_deBruijn64tab), ("internal/strconv.uint64pow10", Lib.tabData .u64 Lib.pow10Tab), ("unicode/utf8.acceptRanges", Rows.laid_unicode_utf8_acceptRanges), ("unicode/utf8.first", Rows.laid_unicode_utf8_first)] := by kernel_rfl
 rw [e] at h1
 exact AAg (g := 1) (Lib.tabIs_of_head (g := 1) (t := 306) (e := 180) (n := 20) kQ kQ kQ kQ kQ kQ (laidMet.tail (laidMet.tail h1))) kQ
theorem XS {W : World} (h : laidMetH prog Rows.plainReplaysUptoRow.laid W) : Pp (Pd W) := by
 have h1 : laidMet prog Rows.plainReplaysUptoRow.laid W := h
 have e : Rows.plainReplaysUptoRow.laid = [("math/bits.deBruijn32tab", Rows.laid_math_bits_deBruijn32tab), ("math/bits.deBruijn64tab", Lib.tabData .u8 (Lib.deBruijn64tab.map fun n : Nat => (n : Int))), ("internal/strconv.uint64pow10", Rows.laid_internal_strconv_uint64pow10), ("unicode/utf8.acceptRanges", Rows.laid_unicode_utf8_acceptRanges), ("unicode/utf8.first", Rows.laid_unicode_utf8_first)] := by kernel_rfl
 rw [e] at h1
 exact ABi (g := 3) (Lib.tabIs_of_head (g := 3) (t := 327) (e := 5) (n := 64) kQ kQ kQ kQ kQ kQ (laidMet.tail h1)) kQ
theorem Fy (H : Type) (enc : TypeId × Value → H) (W : World) (base : Nat) (args : Array Value) (ds gs : List (DataW H)) (before : List MemPlace)
  (hval : ∀ (j : Nat) t v, f6.params[j]? = some t → args[j]? = some v → Value.okWide prog W .any base t v)
  (hW : DataW.Whole enc prog f6.params.toList Rows.plainReplaysSpec.vars false W args.toList ds gs before) (hk : Rows.uptoSmall H (ds ++ gs) = true) (hL : laidMetH prog Rows.plainReplaysUptoRow.laid W) :
  Calls prog 6 args W fun e W' => ∃ v, e = .returned v ∧ Rows.plainReplaysSpec.post enc prog f6 false true false false W args v W' := by
 have hW' := hW
 obtain ⟨p, q, hA, hV, rfl, hfz, hnd⟩ := hW
 obtain ⟨rfl, -⟩ := trodVars_none hV
 rw [append_nil] at hk
 have hpar : f6.params = #[22] := Tryz.params6
 rw [hpar] at hval
 have hA' := hA
 rw [hpar] at hA'
 obtain ⟨v0, vs0, d0, ds0, p0, r0, ha0, rfl, rfl, h0, t0⟩ := trodAll_cons hA'
 obtain ⟨hv, rfl, rfl⟩ := trodAll_nil t0
 obtain rfl : args = #[v0] := by
  have e : args.toList = [v0] := by rw [ha0, hv]
  cases args; simp_all
 have b0 := Sn hk (d := d0) (by simp)
 obtain ⟨ad0, nn0, cp0, rfl⟩ := okWide_slice underlying22 (hval 0 _ _ rfl rfl)
 obtain ⟨fu0, g0⟩ := h0
 obtain ⟨v0, xs0, e0, q0⟩ := Va g0 b0
 simp [Value.cells] at e0
 subst e0
 obtain ⟨a0, c0, f0⟩ := Ea q0.cells
 simp only [Value.slice.injEq] at f0
 obtain ⟨rfl, rfl, rfl⟩ := f0
 refine (Vn (Ie _ _ xs0 (Pd W) (UR hL) (XS hL) (q0.A (UR hL) (XS hL)))).mono fun e W' ⟨he, hb⟩ => ⟨_, he, ?_⟩
 exact ZV hW' rfl (fun gs' h => by subst h; rfl) rfl underlying4 laid YM hb
def JZ (l : List Value) : Obj → Obj
 | .cells _ t frozen => .cells l.toArray t frozen
 | o => o
noncomputable def laidWorld (os : Os) : World :=
 let w := World.holding prog os ⟨#[], #[], []⟩
 { w with heap := (((((w.heap.modify 2 (JZ [.int .u8 0, .int .u8 1, .int .u8 28, .int .u8 2, .int .u8 29, .int .u8 14, .int .u8 24, .int .u8 3, .int .u8 30, .int .u8 22, .int .u8 20, .int .u8 15, .int .u8 25, .int .u8 17, .int .u8 4, .int .u8 8, .int .u8 31, .int .u8 27, .int .u8 13, .int .u8 23, .int .u8 21, .int .u8 19, .int .u8 16, .int .u8 7, .int .u8 26, .int .u8 12, .int .u8 18, .int .u8 6, .int .u8 11, .int .u8 5, .int .u8 10, .int .u8 9])).modify 3 (JZ [.int .u8 0, .int .u8 1, .int .u8 56, .int .u8 2, .int .u8 57, .int .u8 49, .int .u8 28, .int .u8 3, .int .u8 61, .int .u8 58, .int .u8 42, .int .u8 50, .int .u8 38, .int .u8 29, .int .u8 17, .int .u8 4, .int .u8 62, .int .u8 47, .int .u8 59, .int .u8 36, .int .u8 45, .int .u8 43, .int .u8 51, .int .u8 22, .int .u8 53, .int .u8 39, .int .u8 33, .int .u8 30, .int .u8 24, .int .u8 18, .int .u8 12, .int .u8 5, .int .u8 63, .int .u8 55, .int .u8 48, .int .u8 27, .int .u8 60, .int .u8 41, .int .u8 37, .int .u8 16, .int .u8 46, .int .u8 35, .int .u8 44, .int .u8 21, .int .u8 52, .int .u8 32, .int .u8 23, .int .u8 11, .int .u8 54, .int .u8 26, .int .u8 40, .int .u8 15, .int .u8 34, .int .u8 20, .int .u8 31, .int .u8 10, .int .u8 25, .int .u8 14, .int .u8 19, .int .u8 9, .int .u8 13, .int .u8 8, .int .u8 7, .int .u8 6])).modify 1 (JZ [.int .u64 1, .int .u64 10, .int .u64 100, .int .u64 1000, .int .u64 10000, .int .u64 100000, .int .u64 1000000, .int .u64 10000000, .int .u64 100000000, .int .u64 1000000000, .int .u64 10000000000, .int .u64 100000000000, .int .u64 1000000000000, .int .u64 10000000000000, .int .u64 100000000000000, .int .u64 1000000000000000, .int .u64 10000000000000000, .int .u64 100000000000000000, .int .u64 1000000000000000000, .int .u64 10000000000000000000])).modify 5 (JZ [.int .u8 128, .int .u8 191, .int .u8 160, .int .u8 191, .int .u8 128, .int .u8 159, .int .u8 144, .int .u8 191, .int .u8 128, .int .u8 143, .int .u8 0, .int .u8 0, .int .u8 0, .int .u8 0, .int .u8 0, .int .u8 0, .int .u8 0, .int .u8 0, .int .u8 0, .int .u8 0, .int .u8 0, .int .u8 0, .int .u8 0, .int .u8 0, .int .u8 0, .int .u8 0, .int .u8 0, .int .u8 0, .int .u8 0, .int .u8 0, .int .u8 0, .int .u8 0])).modify 4 (JZ (Pinned.utf8FirstZ.map fun (n : Nat) => Value.int .u8 n))) }
theorem Wj (os : Os) : laidMet prog Rows.plainReplaysUptoRow.laid ((laidWorld os).forCall (fun _ _ => 0) ⟨#[], #[.slice none 0 0], []⟩).memory :=
 laidMet_of_run' 8 kQ kQ
theorem ABq (os : Os) {H : Type} (enc : TypeId × Value → H) : ∃ places, DataW.whole enc prog ((laidWorld os).forCall (fun _ _ => 0) ⟨#[], #[.slice none 0 0], []⟩).memory f6.params.toList Rows.plainReplaysSpec.vars false (#[.slice none 0 0] : Array Value).toList 8 = some ([.nil], [], places) :=
 ⟨[], by kernel_rfl⟩
theorem lifted (os : Os) (started : os.Started) (H : Type) (enc : TypeId × Value → H) (F : Stop.Interp) :
  ReturnsInHanded {} Tryz.checked os 6 .any ((Rows.OpenSpec.upto Rows.plainReplaysSpec).preRow enc prog f6 Rows.plainReplaysUptoRow.domain false Rows.plainReplaysUptoRow.laid) (((Rows.OpenSpec.upto Rows.plainReplaysSpec).at F).post enc prog f6 false true false false) := by
 obtain ⟨places, hx⟩ := ABq os enc
 refine returnsInHanded_of_row (C := Tryz.checked) (s := Rows.OpenSpec.upto Rows.plainReplaysSpec) own started kQ func6
  (witness_row_at (enc := enc) (C := Tryz.checked) false (laidWorld os) #[.slice none 0 0] rfl kQ kQ kQ
   (OpenSpec.preRow_of_cond 8 hx kQ (fun k hk => by cases hk; kernel_rfl) kQ (Wj os))) ?_
 intro W base args ds gs before hval hW _ hcond _ hL _ _
 exact Fy H enc W base args ds gs before hval hW (hcond _ rfl) hL
end Go.Proofs.YtmbnebafdhpgpaaGreatDoor.plainReplays
