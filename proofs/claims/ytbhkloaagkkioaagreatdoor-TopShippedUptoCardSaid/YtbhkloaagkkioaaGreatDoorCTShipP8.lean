/- Own work, in part by program, for topShipped.proved. -/
import Derived.Test.YtbhkloaagkkioaaGreatDoorCTShipP7
import Derived.Test.YtbhkloaagkkioaaGreatDoorCTShipP6
import Derived.Test.YtbhkloaagkkioaaGreatDoorCards
import Derived.Test.YtbhkloaagkkioaaGreatDoorTie
import Derived.WalkKit
import Derived.ProofKit
import Derived.OpenShut
import Derived.Deep.DeepHandedRow
import Derived.Lib.LaidTab
import Derived.Stop.LaidErr
set_option maxRecDepth 100000
namespace Go.Proofs.YtbhkloaagkkioaaGreatDoor.topShipped
open Go List Go.ChangeShapes Go.WideShapes Go.ChangeAt Go.RowKit
noncomputable abbrev Pk:Program:=Tryz.pinned.checked.prog
noncomputable abbrev Sk:ChangeSpec:=(Rows.OpenSpec.upto Rows.topShippedSpec).bare
theorem EW {a b:Bool} (ha:a=true) (hb:b=true):(a&&b)=true:=by rw [ha,hb];rfl
theorem ck0:(Rows.topShippedUptoRow.wf (OpenSpec.ofChange Sk))=true:=by kernel_rfl
theorem ck1:(laidOutB Pk)=true:=by kernel_rfl
theorem ck2:(mapsRowed Pk)=true:=by kernel_rfl
theorem ck3:(Tryz.f3.params.all (Pk.readableRec ·))=true:=by kernel_rfl
theorem ck4:(namedTie Pk Rows.topShippedUptoRow.named Sk.vars)=true:=by kernel_rfl
theorem ck5:((Rows.topShippedUptoRow.stops==[]))=true:=by kernel_rfl
theorem ck6:((Pk.stops==[]))=true:=by kernel_rfl
theorem ck7:((Rows.topShippedUptoRow.knobs==[]))=true:=by kernel_rfl
theorem ck8:((Pk.stopKnobs==[]))=true:=by kernel_rfl
theorem ck9:((Rows.topShippedUptoRow.inPlace==Pk.inPlace 3))=true:=by kernel_rfl
theorem AK1:((Rows.topShippedUptoRow.unfollowed==Pk.unfollowed 3))=true:=by kernel_rfl
theorem AKn:((Rows.topShippedUptoRow.recurses==Pk.recurses 3))=true:=by kernel_rfl
theorem AKa:((Rows.topShippedUptoRow.named==Pk.varsNamed 3))=true:=by kernel_rfl
theorem AKs:((Rows.topShippedUptoRow.maps==(Tryz.f3.params.toList++Sk.plain.varTypes Pk).any (Pk.mapsRec ·)))=true:=by kernel_rfl
theorem AKb:((Rows.topShippedUptoRow.ifaces==(Tryz.f3.params.toList++Sk.plain.varTypes Pk).any (Pk.ifacesRec ·)))=true:=by kernel_rfl
theorem AKo:((Rows.topShippedUptoRow.mapsOut==Pk.mapsAmong Tryz.f3.resultTypes.toList))=true:=by kernel_rfl
theorem AKw:((Rows.topShippedUptoRow.loops==(Tryz.f3.params.toList++Sk.plain.varTypes Pk).any (Pk.loopsFrom ·)))=true:=by kernel_rfl
theorem AKz:((Rows.topShippedUptoRow.wideKeys==(Tryz.f3.params.toList++Sk.plain.varTypes Pk++Tryz.f3.resultTypes.toList).any (Pk.wideKeysFrom ·)))=true:=by kernel_rfl
theorem AKh:(Sk.vars.all (Pk.varReadable ·))=true:=by kernel_rfl
theorem AKx:(Tryz.f3.resultTypes.all (fun t=>Pk.readableRec t&&decide (t<Pk.types.size)))=true:=by kernel_rfl
theorem AKl:((Rows.topShippedUptoRow.ifacesOut==Tryz.f3.resultTypes.toList.any (Pk.ifacesRec ·)))=true:=by kernel_rfl
theorem AKp:((Rows.topShippedUptoRow.loopsOut==Tryz.f3.resultTypes.toList.any (Pk.loopsFrom ·)))=true:=by kernel_rfl
theorem AKk:((Rows.topShippedUptoRow.plainKeys==Pk.plainKeys))=true:=by kernel_rfl
theorem AK7:(Rows.topShippedUptoRow.shortTexts.isNone)=true:=by kernel_rfl
theorem AKj:(Pk.stopsHeard)=true:=by kernel_rfl
theorem AKd:(Pk.mayEnter)=true:=by kernel_rfl
theorem AKX:((Rows.topShippedUptoRow.lifted==Pk.liftsFinal))=true:=by kernel_rfl
theorem AK2:((Pk.make==some Rows.topShippedUptoRow.make))=true:=by kernel_rfl
theorem AKg:((Rows.topShippedUptoRow.kinds==(if Rows.topShippedUptoRow.domain.isEmpty then [] else Tryz.f3.params.toList.map fun t=>match Pk.underlying t with|some (.int k)=>some k|_=>none)))=true:=by kernel_rfl
theorem AKu:((Rows.topShippedUptoRow.pinned==Rows.topShippedUptoRow.pinnedBy))=true:=by kernel_rfl
theorem AKZ:((Rows.topShippedUptoRow.veiled==(Tryz.f3.params.toList++Sk.plain.varTypes Pk++Tryz.f3.resultTypes.toList).any (Pk.veiledRec ·)))=true:=by kernel_rfl
theorem AKq:(Rows.topShippedUptoRow.veiledFits Pk Tryz.f3.params.toList (Tryz.f3.params.toList++Sk.plain.varTypes Pk++Tryz.f3.resultTypes.toList))=true:=by kernel_rfl
theorem AFb:joinedFacts Pk 3 Tryz.f3 Sk Rows.topShippedUptoRow=true:=by
 unfold joinedFacts
 exact EW (EW (EW (EW (EW (EW (EW (EW (EW (EW (EW (EW (EW (EW (EW (EW (EW (EW (EW (EW (EW (EW (EW (EW (EW (EW (EW (EW (EW (EW (EW ck0 ck1) ck2) ck3) ck4) ck5) ck6) ck7) ck8) ck9) AK1) AKn) AKa) AKs) AKb) AKo) AKw) AKz) AKh) AKx) AKl) AKp) AKk) AK7) AKj) AKd) AKX) AK2) AKg) AKu) AKZ) AKq
theorem AIl:Pk.funcNamed Rows.topShippedUptoRow.func=some 3:=by kernel_rfl
end Go.Proofs.YtbhkloaagkkioaaGreatDoor.topShipped
