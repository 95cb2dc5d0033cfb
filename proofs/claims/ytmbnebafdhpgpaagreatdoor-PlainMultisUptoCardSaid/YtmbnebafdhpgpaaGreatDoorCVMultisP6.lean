/- Own work, in part by program, for plainMultis.proved. -/
import Derived.Test.YtmbnebafdhpgpaaGreatDoorCVMultisP5
import Derived.Test.YtmbnebafdhpgpaaGreatDoorCVMultisP4
import Derived.Test.YtmbnebafdhpgpaaGreatDoorCards
import Derived.Test.YtmbnebafdhpgpaaGreatDoorTie
import Derived.WalkKit
import Derived.ProofKit
import Derived.OpenShut
import Derived.Deep.DeepHandedRow
import Derived.Lib.LaidTab
import Derived.Stop.LaidErr
set_option maxRecDepth 100000
namespace Go.Proofs.YtmbnebafdhpgpaaGreatDoor.plainMultis
open Go Go.ChangeShapes Go.WideShapes Go.ChangeAt Go.RowKit
noncomputable abbrev Pk : Program := Tryz.pinned.checked.prog
noncomputable abbrev Sk : ChangeSpec := (Rows.OpenSpec.upto Rows.plainMultisSpec).bare
theorem band {a b : Bool} (ha : a = true) (hb : b = true) : (a && b) = true := by rw [ha, hb]; rfl
theorem ck0 : (Rows.plainMultisUptoRow.wf (OpenSpec.ofChange Sk)) = true := by kernel_rfl
theorem ck1 : (laidOutB Pk) = true := by kernel_rfl
theorem ck2 : (mapsRowed Pk) = true := by kernel_rfl
theorem ck3 : (Tryz.f3.params.all (Pk.readableRec ·)) = true := by kernel_rfl
theorem ck4 : (namedTie Pk Rows.plainMultisUptoRow.named Sk.vars) = true := by kernel_rfl
theorem ck5 : ((Rows.plainMultisUptoRow.stops == [])) = true := by kernel_rfl
theorem ck6 : ((Pk.stops == [])) = true := by kernel_rfl
theorem ck7 : ((Rows.plainMultisUptoRow.knobs == [])) = true := by kernel_rfl
theorem ck8 : ((Pk.stopKnobs == [])) = true := by kernel_rfl
theorem ck9 : ((Rows.plainMultisUptoRow.inPlace == Pk.inPlace 3)) = true := by kernel_rfl
theorem ck10 : ((Rows.plainMultisUptoRow.unfollowed == Pk.unfollowed 3)) = true := by kernel_rfl
theorem ck11 : ((Rows.plainMultisUptoRow.recurses == Pk.recurses 3)) = true := by kernel_rfl
theorem ck12 : ((Rows.plainMultisUptoRow.named == Pk.varsNamed 3)) = true := by kernel_rfl
theorem ck13 : ((Rows.plainMultisUptoRow.maps == (Tryz.f3.params.toList ++ Sk.plain.varTypes Pk).any (Pk.mapsRec ·))) = true := by kernel_rfl
theorem ck14 : ((Rows.plainMultisUptoRow.ifaces == (Tryz.f3.params.toList ++ Sk.plain.varTypes Pk).any (Pk.ifacesRec ·))) = true := by kernel_rfl
theorem ck15 : ((Rows.plainMultisUptoRow.mapsOut == Pk.mapsAmong Tryz.f3.resultTypes.toList)) = true := by kernel_rfl
theorem ck16 : ((Rows.plainMultisUptoRow.loops == (Tryz.f3.params.toList ++ Sk.plain.varTypes Pk).any (Pk.loopsFrom ·))) = true := by kernel_rfl
theorem ck17 : ((Rows.plainMultisUptoRow.wideKeys == (Tryz.f3.params.toList ++ Sk.plain.varTypes Pk ++ Tryz.f3.resultTypes.toList).any (Pk.wideKeysFrom ·))) = true := by kernel_rfl
theorem ck18 : (Sk.vars.all (Pk.varReadable ·)) = true := by kernel_rfl
theorem ck19 : (Tryz.f3.resultTypes.all (fun t => Pk.readableRec t && decide (t < Pk.types.size))) = true := by kernel_rfl
theorem ck20 : ((Rows.plainMultisUptoRow.ifacesOut == Tryz.f3.resultTypes.toList.any (Pk.ifacesRec ·))) = true := by kernel_rfl
theorem ck21 : ((Rows.plainMultisUptoRow.loopsOut == Tryz.f3.resultTypes.toList.any (Pk.loopsFrom ·))) = true := by kernel_rfl
theorem ck22 : ((Rows.plainMultisUptoRow.plainKeys == Pk.plainKeys)) = true := by kernel_rfl
theorem ck23 : (Rows.plainMultisUptoRow.shortTexts.isNone) = true := by kernel_rfl
theorem ck24 : (Pk.stopsHeard) = true := by kernel_rfl
theorem ck25 : (Pk.mayEnter) = true := by kernel_rfl
theorem ck26 : ((Rows.plainMultisUptoRow.lifted == Pk.liftsFinal)) = true := by kernel_rfl
theorem ck27 : ((Pk.make == some Rows.plainMultisUptoRow.make)) = true := by kernel_rfl
theorem ck28 : ((Rows.plainMultisUptoRow.kinds == (if Rows.plainMultisUptoRow.domain.isEmpty then [] else Tryz.f3.params.toList.map fun t => match Pk.underlying t with | some (.int k) => some k | _ => none))) = true := by kernel_rfl
theorem ck29 : ((Rows.plainMultisUptoRow.pinned == Rows.plainMultisUptoRow.pinnedBy)) = true := by kernel_rfl
theorem ck30 : ((Rows.plainMultisUptoRow.veiled == (Tryz.f3.params.toList ++ Sk.plain.varTypes Pk ++ Tryz.f3.resultTypes.toList).any (Pk.veiledRec ·))) = true := by kernel_rfl
theorem ck31 : (Rows.plainMultisUptoRow.veiledFits Pk Tryz.f3.params.toList (Tryz.f3.params.toList ++ Sk.plain.varTypes Pk ++ Tryz.f3.resultTypes.toList)) = true := by kernel_rfl
theorem closedK : joinedFacts Pk 3 Tryz.f3 Sk Rows.plainMultisUptoRow = true := by
 unfold joinedFacts
 exact band (band (band (band (band (band (band (band (band (band (band (band (band (band (band (band (band (band (band (band (band (band (band (band (band (band (band (band (band (band (band ck0 ck1) ck2) ck3) ck4) ck5) ck6) ck7) ck8) ck9) ck10) ck11) ck12) ck13) ck14) ck15) ck16) ck17) ck18) ck19) ck20) ck21) ck22) ck23) ck24) ck25) ck26) ck27) ck28) ck29) ck30) ck31
theorem fnameK : Pk.funcNamed Rows.plainMultisUptoRow.func = some 3 := by kernel_rfl
end Go.Proofs.YtmbnebafdhpgpaaGreatDoor.plainMultis
