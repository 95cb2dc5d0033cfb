/- Own work, some of it printed by program, texts that were built one by one: a part of the proof of prepReads.proved. -/
import Derived.Test.YtkjlihfalfbmjaaGreatDoorCPReadsP5
import Derived.Test.YtkjlihfalfbmjaaGreatDoorCPReadsP4
import Derived.Test.YtkjlihfalfbmjaaGreatDoorCards
import Derived.Test.YtkjlihfalfbmjaaGreatDoorTie
import Derived.WalkKit
import Derived.ProofKit
import Derived.OpenShut
import Derived.Deep.DeepHandedRow
import Derived.Lib.LaidTab
import Derived.Stop.LaidErr
set_option maxRecDepth 100000
namespace Go.Proofs.YtkjlihfalfbmjaaGreatDoor.prepReads
open Go Go.ChangeShapes Go.WideShapes Go.ChangeAt Go.RowKit
noncomputable abbrev Pk : Program := Tryz.pinned.checked.prog
noncomputable abbrev Sk : ChangeSpec := (Rows.OpenSpec.upto Rows.prepReadsSpec).bare
theorem band {a b : Bool} (ha : a = true) (hb : b = true) : (a && b) = true := by rw [ha, hb]; rfl
theorem ck0 : (Rows.prepReadsUptoRow.wf (OpenSpec.ofChange Sk)) = true := by kernel_rfl
theorem ck1 : (laidOutB Pk) = true := by kernel_rfl
theorem ck2 : (mapsRowed Pk) = true := by kernel_rfl
theorem ck3 : (Tryz.f9.params.all (Pk.readableRec ·)) = true := by kernel_rfl
theorem ck4 : (namedTie Pk Rows.prepReadsUptoRow.named Sk.vars) = true := by kernel_rfl
theorem ck5 : ((Rows.prepReadsUptoRow.stops == [])) = true := by kernel_rfl
theorem ck6 : ((Pk.stops == [])) = true := by kernel_rfl
theorem ck7 : ((Rows.prepReadsUptoRow.knobs == [])) = true := by kernel_rfl
theorem ck8 : ((Pk.stopKnobs == [])) = true := by kernel_rfl
theorem ck9 : ((Rows.prepReadsUptoRow.inPlace == Pk.inPlace 9)) = true := by kernel_rfl
theorem ck10 : ((Rows.prepReadsUptoRow.unfollowed == Pk.unfollowed 9)) = true := by kernel_rfl
theorem ck11 : ((Rows.prepReadsUptoRow.recurses == Pk.recurses 9)) = true := by kernel_rfl
theorem ck12 : ((Rows.prepReadsUptoRow.named == Pk.varsNamed 9)) = true := by kernel_rfl
theorem ck13 : ((Rows.prepReadsUptoRow.maps == (Tryz.f9.params.toList ++ Sk.plain.varTypes Pk).any (Pk.mapsRec ·))) = true := by kernel_rfl
theorem ck14 : ((Rows.prepReadsUptoRow.ifaces == (Tryz.f9.params.toList ++ Sk.plain.varTypes Pk).any (Pk.ifacesRec ·))) = true := by kernel_rfl
theorem ck15 : ((Rows.prepReadsUptoRow.mapsOut == Pk.mapsAmong Tryz.f9.resultTypes.toList)) = true := by kernel_rfl
theorem ck16 : ((Rows.prepReadsUptoRow.loops == (Tryz.f9.params.toList ++ Sk.plain.varTypes Pk).any (Pk.loopsFrom ·))) = true := by kernel_rfl
theorem ck17 : ((Rows.prepReadsUptoRow.wideKeys == (Tryz.f9.params.toList ++ Sk.plain.varTypes Pk ++ Tryz.f9.resultTypes.toList).any (Pk.wideKeysFrom ·))) = true := by kernel_rfl
theorem ck18 : (Sk.vars.all (Pk.varReadable ·)) = true := by kernel_rfl
theorem ck19 : (Tryz.f9.resultTypes.all (fun t => Pk.readableRec t && decide (t < Pk.types.size))) = true := by kernel_rfl
theorem ck20 : ((Rows.prepReadsUptoRow.ifacesOut == Tryz.f9.resultTypes.toList.any (Pk.ifacesRec ·))) = true := by kernel_rfl
theorem ck21 : ((Rows.prepReadsUptoRow.loopsOut == Tryz.f9.resultTypes.toList.any (Pk.loopsFrom ·))) = true := by kernel_rfl
theorem ck22 : ((Rows.prepReadsUptoRow.plainKeys == Pk.plainKeys)) = true := by kernel_rfl
theorem ck23 : (Rows.prepReadsUptoRow.shortTexts.isNone) = true := by kernel_rfl
theorem ck24 : (Pk.stopsHeard) = true := by kernel_rfl
theorem ck25 : (Pk.mayEnter) = true := by kernel_rfl
theorem ck26 : ((Rows.prepReadsUptoRow.lifted == Pk.liftsFinal)) = true := by kernel_rfl
theorem ck27 : ((Pk.make == some Rows.prepReadsUptoRow.make)) = true := by kernel_rfl
theorem ck28 : ((Rows.prepReadsUptoRow.kinds == (if Rows.prepReadsUptoRow.domain.isEmpty then [] else Tryz.f9.params.toList.map fun t => match Pk.underlying t with | some (.int k) => some k | _ => none))) = true := by kernel_rfl
theorem ck29 : ((Rows.prepReadsUptoRow.pinned == Rows.prepReadsUptoRow.pinnedBy)) = true := by kernel_rfl
theorem ck30 : ((Rows.prepReadsUptoRow.veiled == (Tryz.f9.params.toList ++ Sk.plain.varTypes Pk ++ Tryz.f9.resultTypes.toList).any (Pk.veiledRec ·))) = true := by kernel_rfl
theorem ck31 : (Rows.prepReadsUptoRow.veiledFits Pk Tryz.f9.params.toList (Tryz.f9.params.toList ++ Sk.plain.varTypes Pk ++ Tryz.f9.resultTypes.toList)) = true := by kernel_rfl
theorem closedK : joinedFacts Pk 9 Tryz.f9 Sk Rows.prepReadsUptoRow = true := by
 unfold joinedFacts
 exact band (band (band (band (band (band (band (band (band (band (band (band (band (band (band (band (band (band (band (band (band (band (band (band (band (band (band (band (band (band (band ck0 ck1) ck2) ck3) ck4) ck5) ck6) ck7) ck8) ck9) ck10) ck11) ck12) ck13) ck14) ck15) ck16) ck17) ck18) ck19) ck20) ck21) ck22) ck23) ck24) ck25) ck26) ck27) ck28) ck29) ck30) ck31
theorem fnameK : Pk.funcNamed Rows.prepReadsUptoRow.func = some 9 := by kernel_rfl
end Go.Proofs.YtkjlihfalfbmjaaGreatDoor.prepReads
