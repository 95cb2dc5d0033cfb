/- Own work, in part by program, for plainRefused.proved. -/
import Derived.Test.YtmbnebafdhpgpaaGreatDoorCVRefusedP6
import Derived.Test.YtmbnebafdhpgpaaGreatDoorCVRefusedP5
import Derived.Test.YtmbnebafdhpgpaaGreatDoorCards
import Derived.Test.YtmbnebafdhpgpaaGreatDoorTie
import Derived.WalkKit
import Derived.ProofKit
import Derived.OpenShut
import Derived.Deep.DeepHandedRow
import Derived.Lib.LaidTab
import Derived.Stop.LaidErr
set_option maxRecDepth 100000
namespace Go.Proofs.YtmbnebafdhpgpaaGreatDoor.plainRefused
open Go List Go.ChangeShapes Go.WideShapes Go.ChangeAt Go.RowKit
noncomputable abbrev Pk : Program := Tryz.pinned.checked.prog
noncomputable abbrev Sk : ChangeSpec := (Rows.OpenSpec.upto Rows.plainRefusedSpec).bare
theorem EM {a b : Bool} (ha : a = true) (hb : b = true) : (a && b) = true := by rw [ha, hb]; rfl
theorem ck0 : (Rows.plainRefusedUptoRow.wf (OpenSpec.ofChange Sk)) = true := by kernel_rfl
theorem ck1 : (laidOutB Pk) = true := by kernel_rfl
theorem ck2 : (mapsRowed Pk) = true := by kernel_rfl
theorem ck3 : (Tryz.f5.params.all (Pk.readableRec ·)) = true := by kernel_rfl
theorem ck4 : (namedTie Pk Rows.plainRefusedUptoRow.named Sk.vars) = true := by kernel_rfl
theorem ck5 : ((Rows.plainRefusedUptoRow.stops == [])) = true := by kernel_rfl
theorem ck6 : ((Pk.stops == [])) = true := by kernel_rfl
theorem ck7 : ((Rows.plainRefusedUptoRow.knobs == [])) = true := by kernel_rfl
theorem ck8 : ((Pk.stopKnobs == [])) = true := by kernel_rfl
theorem ck9 : ((Rows.plainRefusedUptoRow.inPlace == Pk.inPlace 5)) = true := by kernel_rfl
theorem ACk : ((Rows.plainRefusedUptoRow.unfollowed == Pk.unfollowed 5)) = true := by kernel_rfl
theorem AC7 : ((Rows.plainRefusedUptoRow.recurses == Pk.recurses 5)) = true := by kernel_rfl
theorem AC5 : ((Rows.plainRefusedUptoRow.named == Pk.varsNamed 5)) = true := by kernel_rfl
theorem ACr : ((Rows.plainRefusedUptoRow.maps == (Tryz.f5.params.toList ++ Sk.plain.varTypes Pk).any (Pk.mapsRec ·))) = true := by kernel_rfl
theorem ADD : ((Rows.plainRefusedUptoRow.ifaces == (Tryz.f5.params.toList ++ Sk.plain.varTypes Pk).any (Pk.ifacesRec ·))) = true := by kernel_rfl
theorem ACp : ((Rows.plainRefusedUptoRow.mapsOut == Pk.mapsAmong Tryz.f5.resultTypes.toList)) = true := by kernel_rfl
theorem ACm : ((Rows.plainRefusedUptoRow.loops == (Tryz.f5.params.toList ++ Sk.plain.varTypes Pk).any (Pk.loopsFrom ·))) = true := by kernel_rfl
theorem ACw : ((Rows.plainRefusedUptoRow.wideKeys == (Tryz.f5.params.toList ++ Sk.plain.varTypes Pk ++ Tryz.f5.resultTypes.toList).any (Pk.wideKeysFrom ·))) = true := by kernel_rfl
theorem ACn : (Sk.vars.all (Pk.varReadable ·)) = true := by kernel_rfl
theorem AC2 : (Tryz.f5.resultTypes.all (fun t => Pk.readableRec t && decide (t < Pk.types.size))) = true := by kernel_rfl
theorem AC8 : ((Rows.plainRefusedUptoRow.ifacesOut == Tryz.f5.resultTypes.toList.any (Pk.ifacesRec ·))) = true := by kernel_rfl
theorem ADA : ((Rows.plainRefusedUptoRow.loopsOut == Tryz.f5.resultTypes.toList.any (Pk.loopsFrom ·))) = true := by kernel_rfl
theorem AC1 : ((Rows.plainRefusedUptoRow.plainKeys == Pk.plainKeys)) = true := by kernel_rfl
theorem ACl : (Rows.plainRefusedUptoRow.shortTexts.isNone) = true := by kernel_rfl
theorem AC3 : (Pk.stopsHeard) = true := by kernel_rfl
theorem ACz : (Pk.mayEnter) = true := by kernel_rfl
theorem ACy : ((Rows.plainRefusedUptoRow.lifted == Pk.liftsFinal)) = true := by kernel_rfl
theorem ACv : ((Pk.make == some Rows.plainRefusedUptoRow.make)) = true := by kernel_rfl
theorem ACj : ((Rows.plainRefusedUptoRow.kinds == (if Rows.plainRefusedUptoRow.domain.isEmpty then [] else Tryz.f5.params.toList.map fun t => match Pk.underlying t with | some (.int k) => some k | _ => none))) = true := by kernel_rfl
theorem ADC : ((Rows.plainRefusedUptoRow.pinned == Rows.plainRefusedUptoRow.pinnedBy)) = true := by kernel_rfl
theorem ACx : ((Rows.plainRefusedUptoRow.veiled == (Tryz.f5.params.toList ++ Sk.plain.varTypes Pk ++ Tryz.f5.resultTypes.toList).any (Pk.veiledRec ·))) = true := by kernel_rfl
theorem AC4 : (Rows.plainRefusedUptoRow.veiledFits Pk Tryz.f5.params.toList (Tryz.f5.params.toList ++ Sk.plain.varTypes Pk ++ Tryz.f5.resultTypes.toList)) = true := by kernel_rfl
theorem AAH : joinedFacts Pk 5 Tryz.f5 Sk Rows.plainRefusedUptoRow = true := by
 unfold joinedFacts
 exact EM (EM (EM (EM (EM (EM (EM (EM (EM (EM (EM (EM (EM (EM (EM (EM (EM (EM (EM (EM (EM (EM (EM (EM (EM (EM (EM (EM (EM (EM (EM ck0 ck1) ck2) ck3) ck4) ck5) ck6) ck7) ck8) ck9) ACk) AC7) AC5) ACr) ADD) ACp) ACm) ACw) ACn) AC2) AC8) ADA) AC1) ACl) AC3) ACz) ACy) ACv) ACj) ADC) ACx) AC4
theorem ABa : Pk.funcNamed Rows.plainRefusedUptoRow.func = some 5 := by kernel_rfl
end Go.Proofs.YtmbnebafdhpgpaaGreatDoor.plainRefused
