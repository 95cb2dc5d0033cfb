/- Own work, in part by program, for plainOnce.proved. -/
import Derived.Test.YtmbnebafdhpgpaaGreatDoorCVOnceP5
import Derived.Test.YtmbnebafdhpgpaaGreatDoorCVOnceP4
import Derived.Test.YtmbnebafdhpgpaaGreatDoorCards
import Derived.Test.YtmbnebafdhpgpaaGreatDoorTie
import Derived.WalkKit
import Derived.ProofKit
import Derived.OpenShut
import Derived.Deep.DeepHandedRow
import Derived.Lib.LaidTab
import Derived.Stop.LaidErr
set_option maxRecDepth 100000
namespace Go.Proofs.YtmbnebafdhpgpaaGreatDoor.plainOnce
open Go Go.ChangeShapes Go.WideShapes Go.ChangeAt Go.RowKit
noncomputable abbrev Pk : Program := Tryz.pinned.checked.prog
noncomputable abbrev Sk : ChangeSpec := (Rows.OpenSpec.upto Rows.plainOnceSpec).bare
theorem band {a b : Bool} (ha : a = true) (hb : b = true) : (a && b) = true := by rw [ha, hb]; rfl
theorem ck0 : (Rows.plainOnceUptoRow.wf (OpenSpec.ofChange Sk)) = true := by kernel_rfl
theorem ck1 : (laidOutB Pk) = true := by kernel_rfl
theorem ck2 : (mapsRowed Pk) = true := by kernel_rfl
theorem ck3 : (Tryz.f4.params.all (Pk.readableRec ·)) = true := by kernel_rfl
theorem ck4 : (namedTie Pk Rows.plainOnceUptoRow.named Sk.vars) = true := by kernel_rfl
theorem ck5 : ((Rows.plainOnceUptoRow.stops == [])) = true := by kernel_rfl
theorem ck6 : ((Pk.stops == [])) = true := by kernel_rfl
theorem ck7 : ((Rows.plainOnceUptoRow.knobs == [])) = true := by kernel_rfl
theorem ck8 : ((Pk.stopKnobs == [])) = true := by kernel_rfl
theorem ck9 : ((Rows.plainOnceUptoRow.inPlace == Pk.inPlace 4)) = true := by kernel_rfl
theorem ck10 : ((Rows.plainOnceUptoRow.unfollowed == Pk.unfollowed 4)) = true := by kernel_rfl
theorem ck11 : ((Rows.plainOnceUptoRow.recurses == Pk.recurses 4)) = true := by kernel_rfl
theorem ck12 : ((Rows.plainOnceUptoRow.named == Pk.varsNamed 4)) = true := by kernel_rfl
theorem ck13 : ((Rows.plainOnceUptoRow.maps == (Tryz.f4.params.toList ++ Sk.plain.varTypes Pk).any (Pk.mapsRec ·))) = true := by kernel_rfl
theorem ck14 : ((Rows.plainOnceUptoRow.ifaces == (Tryz.f4.params.toList ++ Sk.plain.varTypes Pk).any (Pk.ifacesRec ·))) = true := by kernel_rfl
theorem ck15 : ((Rows.plainOnceUptoRow.mapsOut == Pk.mapsAmong Tryz.f4.resultTypes.toList)) = true := by kernel_rfl
theorem ck16 : ((Rows.plainOnceUptoRow.loops == (Tryz.f4.params.toList ++ Sk.plain.varTypes Pk).any (Pk.loopsFrom ·))) = true := by kernel_rfl
theorem ck17 : ((Rows.plainOnceUptoRow.wideKeys == (Tryz.f4.params.toList ++ Sk.plain.varTypes Pk ++ Tryz.f4.resultTypes.toList).any (Pk.wideKeysFrom ·))) = true := by kernel_rfl
theorem ck18 : (Sk.vars.all (Pk.varReadable ·)) = true := by kernel_rfl
theorem ck19 : (Tryz.f4.resultTypes.all (fun t => Pk.readableRec t && decide (t < Pk.types.size))) = true := by kernel_rfl
theorem ck20 : ((Rows.plainOnceUptoRow.ifacesOut == Tryz.f4.resultTypes.toList.any (Pk.ifacesRec ·))) = true := by kernel_rfl
theorem ck21 : ((Rows.plainOnceUptoRow.loopsOut == Tryz.f4.resultTypes.toList.any (Pk.loopsFrom ·))) = true := by kernel_rfl
theorem ck22 : ((Rows.plainOnceUptoRow.plainKeys == Pk.plainKeys)) = true := by kernel_rfl
theorem ck23 : (Rows.plainOnceUptoRow.shortTexts.isNone) = true := by kernel_rfl
theorem ck24 : (Pk.stopsHeard) = true := by kernel_rfl
theorem ck25 : (Pk.mayEnter) = true := by kernel_rfl
theorem ck26 : ((Rows.plainOnceUptoRow.lifted == Pk.liftsFinal)) = true := by kernel_rfl
theorem ck27 : ((Pk.make == some Rows.plainOnceUptoRow.make)) = true := by kernel_rfl
theorem ck28 : ((Rows.plainOnceUptoRow.kinds == (if Rows.plainOnceUptoRow.domain.isEmpty then [] else Tryz.f4.params.toList.map fun t => match Pk.underlying t with | some (.int k) => some k | _ => none))) = true := by kernel_rfl
theorem ck29 : ((Rows.plainOnceUptoRow.pinned == Rows.plainOnceUptoRow.pinnedBy)) = true := by kernel_rfl
theorem ck30 : ((Rows.plainOnceUptoRow.veiled == (Tryz.f4.params.toList ++ Sk.plain.varTypes Pk ++ Tryz.f4.resultTypes.toList).any (Pk.veiledRec ·))) = true := by kernel_rfl
theorem ck31 : (Rows.plainOnceUptoRow.veiledFits Pk Tryz.f4.params.toList (Tryz.f4.params.toList ++ Sk.plain.varTypes Pk ++ Tryz.f4.resultTypes.toList)) = true := by kernel_rfl
theorem closedK : joinedFacts Pk 4 Tryz.f4 Sk Rows.plainOnceUptoRow = true := by
 unfold joinedFacts
 exact band (band (band (band (band (band (band (band (band (band (band (band (band (band (band (band (band (band (band (band (band (band (band (band (band (band (band (band (band (band (band ck0 ck1) ck2) ck3) ck4) ck5) ck6) ck7) ck8) ck9) ck10) ck11) ck12) ck13) ck14) ck15) ck16) ck17) ck18) ck19) ck20) ck21) ck22) ck23) ck24) ck25) ck26) ck27) ck28) ck29) ck30) ck31
theorem fnameK : Pk.funcNamed Rows.plainOnceUptoRow.func = some 4 := by kernel_rfl
end Go.Proofs.YtmbnebafdhpgpaaGreatDoor.plainOnce
