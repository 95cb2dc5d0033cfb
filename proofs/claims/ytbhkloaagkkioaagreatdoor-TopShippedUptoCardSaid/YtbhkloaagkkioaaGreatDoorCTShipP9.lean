/- Own work, in part by program, for topShipped.proved. -/
import Derived.Test.YtbhkloaagkkioaaGreatDoorCTShipP8
import Derived.Test.YtbhkloaagkkioaaGreatDoorCTShipP6
import Derived.Test.YtbhkloaagkkioaaGreatDoorCards
import Derived.Test.YtbhkloaagkkioaaGreatDoorTie
import Derived.WalkKit
import Derived.ProofKit
import Derived.OpenShut
import Derived.Deep.DeepHandedRow
import Derived.Lib.LaidTab
import Derived.Stop.LaidErr
set_option maxRecDepth 100000
namespace Go.Proofs.YtbhkloaagkkioaaGreatDoor.topShipped
open Go List Go.ChangeShapes Go.WideShapes Go.ChangeAt Go.RowKit
theorem AEa:Rows.TopShippedUptoSaid:=
 OpenClaim.holds_of_cond 3 Tryz.f3 rfl rfl rfl rfl rfl rfl rfl ⟨rfl,rfl,rfl,rfl,rfl⟩ rfl rfl rfl rfl rfl AIl Tryz.func3 AFb
  (of_decide_eq_true kQ) (by unfold Func.isWrapper;first|(rw [if_pos (by decide+kernel)];kernel_rfl)|(rw [if_neg (by decide+kernel)];exact ⟨rfl,rfl⟩))
  (fun os started H enc _ F=>by rw [OpenClaim.pre_eq_preRow];exact lifted os started H enc F)
end Go.Proofs.YtbhkloaagkkioaaGreatDoor.topShipped
