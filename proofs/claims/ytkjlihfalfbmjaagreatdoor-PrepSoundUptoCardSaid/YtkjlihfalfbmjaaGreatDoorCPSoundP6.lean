/- Own work, some of it printed by program, texts that were built one by one: a part of the proof of prepSound.proved. -/
import Derived.Test.YtkjlihfalfbmjaaGreatDoorCPSoundP5
import Derived.Test.YtkjlihfalfbmjaaGreatDoorCPSoundP4
import Derived.Test.YtkjlihfalfbmjaaGreatDoorCards
import Derived.Test.YtkjlihfalfbmjaaGreatDoorTie
import Derived.WalkKit
import Derived.ProofKit
import Derived.OpenShut
import Derived.Deep.DeepHandedRow
import Derived.Lib.LaidTab
import Derived.Stop.LaidErr
set_option maxRecDepth 100000
namespace Go.Proofs.YtkjlihfalfbmjaaGreatDoor.prepSound
open Go Go.ChangeShapes Go.WideShapes Go.ChangeAt Go.RowKit
noncomputable abbrev Pk : Program := Tryz.pinned.checked.prog
noncomputable abbrev Sk : ChangeSpec := (Rows.OpenSpec.upto Rows.prepSoundSpec).bare
theorem band {a b : Bool} (ha : a = true) (hb : b = true) : (a && b) = true := by rw [ha, hb]; rfl
theorem ck0 : (Rows.prepSoundUptoRow.wf (OpenSpec.ofChange Sk)) = true := by kernel_rfl
theorem ck1 : (laidOutB Pk) = true := by kernel_rfl
theorem ck2 : (mapsRowed Pk) = true := by kernel_rfl
theorem ck3 : (Tryz.f6.params.all (Pk.readableRec ·)) = true := by kernel_rfl
theorem ck4 : (namedTie Pk Rows.prepSoundUptoRow.named Sk.vars) = true := by kernel_rfl
theorem ck5 : ((Rows.prepSoundUptoRow.stops == [])) = true := by kernel_rfl
theorem ck6 : ((Pk.stops == [])) = true := by kernel_rfl
theorem ck7 : ((Rows.prepSoundUptoRow.knobs == [])) = true := by kernel_rfl
theorem ck8 : ((Pk.stopKnobs == [])) = true := by kernel_rfl
theorem ck9 : ((Rows.prepSoundUptoRow.inPlace == Pk.inPlace 6)) = true := by kernel_rfl
theorem ck10 : ((Rows.prepSoundUptoRow.unfollowed == Pk.unfollowed 6)) = true := by kernel_rfl
theorem ck11 : ((Rows.prepSoundUptoRow.recurses == Pk.recurses 6)) = true := by kernel_rfl
theorem ck12 : ((Rows.prepSoundUptoRow.named == Pk.varsNamed 6)) = true := by kernel_rfl
theorem ck13 : ((Rows.prepSoundUptoRow.maps == (Tryz.f6.params.toList ++ Sk.plain.varTypes Pk).any (Pk.mapsRec ·))) = true := by kernel_rfl
theorem ck14 : ((Rows.prepSoundUptoRow.ifaces == (Tryz.f6.params.toList ++ Sk.plain.varTypes Pk).any (Pk.ifacesRec ·))) = true := by kernel_rfl
theorem ck15 : ((Rows.prepSoundUptoRow.mapsOut == Pk.mapsAmong Tryz.f6.resultTypes.toList)) = true := by kernel_rfl
theorem ck16 : ((Rows.prepSoundUptoRow.loops == (Tryz.f6.params.toList ++ Sk.plain.varTypes Pk).any (Pk.loopsFrom ·))) = true := by kernel_rfl
theorem ck17 : ((Rows.prepSoundUptoRow.wideKeys == (Tryz.f6.params.toList ++ Sk.plain.varTypes Pk ++ Tryz.f6.resultTypes.toList).any (Pk.wideKeysFrom ·))) = true := by kernel_rfl
theorem ck18 : (Sk.vars.all (Pk.varReadable ·)) = true := by kernel_rfl
theorem ck19 : (Tryz.f6.resultTypes.all (fun t => Pk.readableRec t && decide (t < Pk.types.size))) = true := by kernel_rfl
theorem ck20 : ((Rows.prepSoundUptoRow.ifacesOut == Tryz.f6.resultTypes.toList.any (Pk.ifacesRec ·))) = true := by kernel_rfl
theorem ck21 : ((Rows.prepSoundUptoRow.loopsOut == Tryz.f6.resultTypes.toList.any (Pk.loopsFrom ·))) = true := by kernel_rfl
theorem ck22 : ((Rows.prepSoundUptoRow.plainKeys == Pk.plainKeys)) = true := by kernel_rfl
theorem ck23 : (Rows.prepSoundUptoRow.shortTexts.isNone) = true := by kernel_rfl
theorem ck24 : (Pk.stopsHeard) = true := by kernel_rfl
theorem ck25 : (Pk.mayEnter) = true := by kernel_rfl
theorem ck26 : ((Rows.prepSoundUptoRow.lifted == Pk.liftsFinal)) = true := by kernel_rfl
theorem ck27 : ((Pk.make == some Rows.prepSoundUptoRow.make)) = true := by kernel_rfl
theorem ck28 : ((Rows.prepSoundUptoRow.kinds == (if Rows.prepSoundUptoRow.domain.isEmpty then [] else Tryz.f6.params.toList.map fun t => match Pk.underlying t with | some (.int k) => some k | _ => none))) = true := by kernel_rfl
theorem ck29 : ((Rows.prepSoundUptoRow.pinned == Rows.prepSoundUptoRow.pinnedBy)) = true := by kernel_rfl
theorem ck30 : ((Rows.prepSoundUptoRow.veiled == (Tryz.f6.params.toList ++ Sk.plain.varTypes Pk ++ Tryz.f6.resultTypes.toList).any (Pk.veiledRec ·))) = true := by kernel_rfl
theorem ck31 : (Rows.prepSoundUptoRow.veiledFits Pk Tryz.f6.params.toList (Tryz.f6.params.toList ++ Sk.plain.varTypes Pk ++ Tryz.f6.resultTypes.toList)) = true := by kernel_rfl
theorem closedK : joinedFacts Pk 6 Tryz.f6 Sk Rows.prepSoundUptoRow = true := by
 unfold joinedFacts
 exact band (band (band (band (band (band (band (band (band (band (band (band (band (band (band (band (band (band (band (band (band (band (band (band (band (band (band (band (band (band (band ck0 ck1) ck2) ck3) ck4) ck5) ck6) ck7) ck8) ck9) ck10) ck11) ck12) ck13) ck14) ck15) ck16) ck17) ck18) ck19) ck20) ck21) ck22) ck23) ck24) ck25) ck26) ck27) ck28) ck29) ck30) ck31
theorem fnameK : Pk.funcNamed Rows.prepSoundUptoRow.func = some 6 := by kernel_rfl
end Go.Proofs.YtkjlihfalfbmjaaGreatDoor.prepSound
