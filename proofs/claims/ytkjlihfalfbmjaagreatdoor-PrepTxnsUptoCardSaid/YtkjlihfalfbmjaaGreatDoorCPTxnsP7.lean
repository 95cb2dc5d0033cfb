/- Own work, in part by program, for prepTxns.proved. -/
import Derived.Test.YtkjlihfalfbmjaaGreatDoorCPTxnsP6
import Derived.Test.YtkjlihfalfbmjaaGreatDoorCPTxnsP5
import Derived.Test.YtkjlihfalfbmjaaGreatDoorCards
import Derived.Test.YtkjlihfalfbmjaaGreatDoorTie
import Derived.WalkKit
import Derived.ProofKit
import Derived.OpenShut
import Derived.Deep.DeepHandedRow
import Derived.Lib.LaidTab
import Derived.Stop.LaidErr
set_option maxRecDepth 100000
namespace Go.Proofs.YtkjlihfalfbmjaaGreatDoor.prepTxns
open Go Go.ChangeShapes Go.WideShapes Go.ChangeAt Go.RowKit
noncomputable abbrev Pk : Program := Tryz.pinned.checked.prog
noncomputable abbrev Sk : ChangeSpec := (Rows.OpenSpec.upto Rows.prepTxnsSpec).bare
theorem band {a b : Bool} (ha : a = true) (hb : b = true) : (a && b) = true := by rw [ha, hb]; rfl
theorem ck0 : (Rows.prepTxnsUptoRow.wf (OpenSpec.ofChange Sk)) = true := by kernel_rfl
theorem ck1 : (laidOutB Pk) = true := by kernel_rfl
theorem ck2 : (mapsRowed Pk) = true := by kernel_rfl
theorem ck3 : (Tryz.f4.params.all (Pk.readableRec ·)) = true := by kernel_rfl
theorem ck4 : (namedTie Pk Rows.prepTxnsUptoRow.named Sk.vars) = true := by kernel_rfl
theorem ck5 : ((Rows.prepTxnsUptoRow.stops == [])) = true := by kernel_rfl
theorem ck6 : ((Pk.stops == [])) = true := by kernel_rfl
theorem ck7 : ((Rows.prepTxnsUptoRow.knobs == [])) = true := by kernel_rfl
theorem ck8 : ((Pk.stopKnobs == [])) = true := by kernel_rfl
theorem ck9 : ((Rows.prepTxnsUptoRow.inPlace == Pk.inPlace 4)) = true := by kernel_rfl
theorem ck10 : ((Rows.prepTxnsUptoRow.unfollowed == Pk.unfollowed 4)) = true := by kernel_rfl
theorem ck11 : ((Rows.prepTxnsUptoRow.recurses == Pk.recurses 4)) = true := by kernel_rfl
theorem ck12 : ((Rows.prepTxnsUptoRow.named == Pk.varsNamed 4)) = true := by kernel_rfl
theorem ck13 : ((Rows.prepTxnsUptoRow.maps == (Tryz.f4.params.toList ++ Sk.plain.varTypes Pk).any (Pk.mapsRec ·))) = true := by kernel_rfl
theorem ck14 : ((Rows.prepTxnsUptoRow.ifaces == (Tryz.f4.params.toList ++ Sk.plain.varTypes Pk).any (Pk.ifacesRec ·))) = true := by kernel_rfl
theorem ck15 : ((Rows.prepTxnsUptoRow.mapsOut == Pk.mapsAmong Tryz.f4.resultTypes.toList)) = true := by kernel_rfl
theorem ck16 : ((Rows.prepTxnsUptoRow.loops == (Tryz.f4.params.toList ++ Sk.plain.varTypes Pk).any (Pk.loopsFrom ·))) = true := by kernel_rfl
theorem ck17 : ((Rows.prepTxnsUptoRow.wideKeys == (Tryz.f4.params.toList ++ Sk.plain.varTypes Pk ++ Tryz.f4.resultTypes.toList).any (Pk.wideKeysFrom ·))) = true := by kernel_rfl
theorem ck18 : (Sk.vars.all (Pk.varReadable ·)) = true := by kernel_rfl
theorem ck19 : (Tryz.f4.resultTypes.all (fun t => Pk.readableRec t && decide (t < Pk.types.size))) = true := by kernel_rfl
theorem ck20 : ((Rows.prepTxnsUptoRow.ifacesOut == Tryz.f4.resultTypes.toList.any (Pk.ifacesRec ·))) = true := by kernel_rfl
theorem ck21 : ((Rows.prepTxnsUptoRow.loopsOut == Tryz.f4.resultTypes.toList.any (Pk.loopsFrom ·))) = true := by kernel_rfl
theorem ck22 : ((Rows.prepTxnsUptoRow.plainKeys == Pk.plainKeys)) = true := by kernel_rfl
theorem ck23 : (Rows.prepTxnsUptoRow.shortTexts.isNone) = true := by kernel_rfl
theorem ck24 : (Pk.stopsHeard) = true := by kernel_rfl
theorem ck25 : (Pk.mayEnter) = true := by kernel_rfl
theorem ck26 : ((Rows.prepTxnsUptoRow.lifted == Pk.liftsFinal)) = true := by kernel_rfl
theorem ck27 : ((Pk.make == some Rows.prepTxnsUptoRow.make)) = true := by kernel_rfl
theorem ck28 : ((Rows.prepTxnsUptoRow.kinds == (if Rows.prepTxnsUptoRow.domain.isEmpty then [] else Tryz.f4.params.toList.map fun t => match Pk.underlying t with | some (.int k) => some k | _ => none))) = true := by kernel_rfl
theorem ck29 : ((Rows.prepTxnsUptoRow.pinned == Rows.prepTxnsUptoRow.pinnedBy)) = true := by kernel_rfl
theorem ck30 : ((Rows.prepTxnsUptoRow.veiled == (Tryz.f4.params.toList ++ Sk.plain.varTypes Pk ++ Tryz.f4.resultTypes.toList).any (Pk.veiledRec ·))) = true := by kernel_rfl
theorem ck31 : (Rows.prepTxnsUptoRow.veiledFits Pk Tryz.f4.params.toList (Tryz.f4.params.toList ++ Sk.plain.varTypes Pk ++ Tryz.f4.resultTypes.toList)) = true := by kernel_rfl
theorem closedK : joinedFacts Pk 4 Tryz.f4 Sk Rows.prepTxnsUptoRow = true := by
 unfold joinedFacts
 exact band (band (band (band (band (band (band (band (band (band (band (band (band (band (band (band (band (band (band (band (band (band (band (band (band (band (band (band (band (band (band ck0 ck1) ck2) ck3) ck4) ck5) ck6) ck7) ck8) ck9) ck10) ck11) ck12) ck13) ck14) ck15) ck16) ck17) ck18) ck19) ck20) ck21) ck22) ck23) ck24) ck25) ck26) ck27) ck28) ck29) ck30) ck31
theorem fnameK : Pk.funcNamed Rows.prepTxnsUptoRow.func = some 4 := by kernel_rfl
end Go.Proofs.YtkjlihfalfbmjaaGreatDoor.prepTxns
