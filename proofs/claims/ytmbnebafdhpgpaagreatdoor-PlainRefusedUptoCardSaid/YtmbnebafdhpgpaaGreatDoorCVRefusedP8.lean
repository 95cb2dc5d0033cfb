/- Own work, in part by program, for plainRefused.proved. -/
import Derived.Test.YtmbnebafdhpgpaaGreatDoorCVRefusedP7
import Derived.Test.YtmbnebafdhpgpaaGreatDoorCVRefusedP5
import Derived.Test.YtmbnebafdhpgpaaGreatDoorCards
import Derived.Test.YtmbnebafdhpgpaaGreatDoorTie
import Derived.WalkKit
import Derived.ProofKit
import Derived.OpenShut
import Derived.Deep.DeepHandedRow
import Derived.Lib.LaidTab
import Derived.Stop.LaidErr
set_option maxRecDepth 100000
namespace Go.Proofs.YtmbnebafdhpgpaaGreatDoor.plainRefused
open Go List Go.ChangeShapes Go.WideShapes Go.ChangeAt Go.RowKit
theorem YA : Rows.PlainRefusedUptoSaid :=
 OpenClaim.holds_of_cond 5 Tryz.f5 rfl rfl rfl rfl rfl rfl rfl ⟨rfl, rfl, rfl, rfl, rfl⟩ rfl rfl rfl rfl rfl ABa Tryz.func5 AAH
  (of_decide_eq_true kQ) (by unfold Func.isWrapper; first | (rw [if_pos (by decide +kernel)]; kernel_rfl) | (rw [if_neg (by decide +kernel)]; exact ⟨rfl, rfl⟩))
  (fun os started H enc _ F => by rw [OpenClaim.pre_eq_preRow]; exact lifted os started H enc F)
end Go.Proofs.YtmbnebafdhpgpaaGreatDoor.plainRefused
