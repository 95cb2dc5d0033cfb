/- Own work, in part by program, for plainReplays.proved. -/
import Derived.Test.YtmbnebafdhpgpaaGreatDoorCVReplaysP6
import Derived.Test.YtmbnebafdhpgpaaGreatDoorCVReplaysP5
import Derived.Test.YtmbnebafdhpgpaaGreatDoorCards
import Derived.Test.YtmbnebafdhpgpaaGreatDoorTie
import Derived.WalkKit
import Derived.ProofKit
import Derived.OpenShut
import Derived.Deep.DeepHandedRow
import Derived.Lib.LaidTab
import Derived.Stop.LaidErr
set_option maxRecDepth 100000
namespace Go.Proofs.YtmbnebafdhpgpaaGreatDoor.plainReplays
open Go List Go.ChangeShapes Go.WideShapes Go.ChangeAt Go.RowKit
noncomputable abbrev Pk : Program := Tryz.pinned.checked.prog
noncomputable abbrev Sk : ChangeSpec := (Rows.OpenSpec.upto Rows.plainReplaysSpec).bare
theorem D7 {a b : Bool} (ha : a = true) (hb : b = true) : (a && b) = true := by rw [ha, hb]; rfl
theorem ck0 : (Rows.plainReplaysUptoRow.wf (OpenSpec.ofChange Sk)) = true := by kernel_rfl
theorem ck1 : (laidOutB Pk) = true := by kernel_rfl
theorem ck2 : (mapsRowed Pk) = true := by kernel_rfl
theorem ck3 : (Tryz.f6.params.all (Pk.readableRec ·)) = true := by kernel_rfl
theorem ck4 : (namedTie Pk Rows.plainReplaysUptoRow.named Sk.vars) = true := by kernel_rfl
theorem ck5 : ((Rows.plainReplaysUptoRow.stops == [])) = true := by kernel_rfl
theorem ck6 : ((Pk.stops == [])) = true := by kernel_rfl
theorem ck7 : ((Rows.plainReplaysUptoRow.knobs == [])) = true := by kernel_rfl
theorem ck8 : ((Pk.stopKnobs == [])) = true := by kernel_rfl
theorem ck9 : ((Rows.plainReplaysUptoRow.inPlace == Pk.inPlace 6)) = true := by kernel_rfl
theorem ACk : ((Rows.plainReplaysUptoRow.unfollowed == Pk.unfollowed 6)) = true := by kernel_rfl
theorem ACe : ((Rows.plainReplaysUptoRow.recurses == Pk.recurses 6)) = true := by kernel_rfl
theorem ACr : ((Rows.plainReplaysUptoRow.named == Pk.varsNamed 6)) = true := by kernel_rfl
theorem AC4 : ((Rows.plainReplaysUptoRow.maps == (Tryz.f6.params.toList ++ Sk.plain.varTypes Pk).any (Pk.mapsRec ·))) = true := by kernel_rfl
theorem AC2 : ((Rows.plainReplaysUptoRow.ifaces == (Tryz.f6.params.toList ++ Sk.plain.varTypes Pk).any (Pk.ifacesRec ·))) = true := by kernel_rfl
theorem ACp : ((Rows.plainReplaysUptoRow.mapsOut == Pk.mapsAmong Tryz.f6.resultTypes.toList)) = true := by kernel_rfl
theorem ACq : ((Rows.plainReplaysUptoRow.loops == (Tryz.f6.params.toList ++ Sk.plain.varTypes Pk).any (Pk.loopsFrom ·))) = true := by kernel_rfl
theorem AC5 : ((Rows.plainReplaysUptoRow.wideKeys == (Tryz.f6.params.toList ++ Sk.plain.varTypes Pk ++ Tryz.f6.resultTypes.toList).any (Pk.wideKeysFrom ·))) = true := by kernel_rfl
theorem ACt : (Sk.vars.all (Pk.varReadable ·)) = true := by kernel_rfl
theorem ACc : (Tryz.f6.resultTypes.all (fun t => Pk.readableRec t && decide (t < Pk.types.size))) = true := by kernel_rfl
theorem ACs : ((Rows.plainReplaysUptoRow.ifacesOut == Tryz.f6.resultTypes.toList.any (Pk.ifacesRec ·))) = true := by kernel_rfl
theorem ACv : ((Rows.plainReplaysUptoRow.loopsOut == Tryz.f6.resultTypes.toList.any (Pk.loopsFrom ·))) = true := by kernel_rfl
theorem ACg : ((Rows.plainReplaysUptoRow.plainKeys == Pk.plainKeys)) = true := by kernel_rfl
theorem ACi : (Rows.plainReplaysUptoRow.shortTexts.isNone) = true := by kernel_rfl
theorem ACj : (Pk.stopsHeard) = true := by kernel_rfl
theorem AC3 : (Pk.mayEnter) = true := by kernel_rfl
theorem ACu : ((Rows.plainReplaysUptoRow.lifted == Pk.liftsFinal)) = true := by kernel_rfl
theorem AC1 : ((Pk.make == some Rows.plainReplaysUptoRow.make)) = true := by kernel_rfl
theorem ACa : ((Rows.plainReplaysUptoRow.kinds == (if Rows.plainReplaysUptoRow.domain.isEmpty then [] else Tryz.f6.params.toList.map fun t => match Pk.underlying t with | some (.int k) => some k | _ => none))) = true := by kernel_rfl
theorem ACo : ((Rows.plainReplaysUptoRow.pinned == Rows.plainReplaysUptoRow.pinnedBy)) = true := by kernel_rfl
theorem ACz : ((Rows.plainReplaysUptoRow.veiled == (Tryz.f6.params.toList ++ Sk.plain.varTypes Pk ++ Tryz.f6.resultTypes.toList).any (Pk.veiledRec ·))) = true := by kernel_rfl
theorem ACZ : (Rows.plainReplaysUptoRow.veiledFits Pk Tryz.f6.params.toList (Tryz.f6.params.toList ++ Sk.plain.varTypes Pk ++ Tryz.f6.resultTypes.toList)) = true := by kernel_rfl
theorem Zp : joinedFacts Pk 6 Tryz.f6 Sk Rows.plainReplaysUptoRow = true := by
 unfold joinedFacts
 exact D7 (D7 (D7 (D7 (D7 (D7 (D7 (D7 (D7 (D7 (D7 (D7 (D7 (D7 (D7 (D7 (D7 (D7 (D7 (D7 (D7 (D7 (D7 (D7 (D7 (D7 (D7 (D7 (D7 (D7 (D7 ck0 ck1) ck2) ck3) ck4) ck5) ck6) ck7) ck8) ck9) ACk) ACe) ACr) AC4) AC2) ACp) ACq) AC5) ACt) ACc) ACs) ACv) ACg) ACi) ACj) AC3) ACu) AC1) ACa) ACo) ACz) ACZ
theorem AAe : Pk.funcNamed Rows.plainReplaysUptoRow.func = some 6 := by kernel_rfl
end Go.Proofs.YtmbnebafdhpgpaaGreatDoor.plainReplays
