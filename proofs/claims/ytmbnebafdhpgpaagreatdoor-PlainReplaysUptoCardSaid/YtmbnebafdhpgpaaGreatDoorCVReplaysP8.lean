/- Own work, in part by program, for plainReplays.proved. -/
import Derived.Test.YtmbnebafdhpgpaaGreatDoorCVReplaysP7
import Derived.Test.YtmbnebafdhpgpaaGreatDoorCVReplaysP5
import Derived.Test.YtmbnebafdhpgpaaGreatDoorCards
import Derived.Test.YtmbnebafdhpgpaaGreatDoorTie
import Derived.WalkKit
import Derived.ProofKit
import Derived.OpenShut
import Derived.Deep.DeepHandedRow
import Derived.Lib.LaidTab
import Derived.Stop.LaidErr
set_option maxRecDepth 100000
namespace Go.Proofs.YtmbnebafdhpgpaaGreatDoor.plainReplays
open Go List Go.ChangeShapes Go.WideShapes Go.ChangeAt Go.RowKit
theorem Wu : Rows.PlainReplaysUptoSaid :=
 OpenClaim.holds_of_cond 6 Tryz.f6 rfl rfl rfl rfl rfl rfl rfl ⟨rfl, rfl, rfl, rfl, rfl⟩ rfl rfl rfl rfl rfl AAe Tryz.func6 Zp
  (of_decide_eq_true kQ) (by unfold Func.isWrapper; first | (rw [if_pos (by decide +kernel)]; kernel_rfl) | (rw [if_neg (by decide +kernel)]; exact ⟨rfl, rfl⟩))
  (fun os started H enc _ F => by rw [OpenClaim.pre_eq_preRow]; exact lifted os started H enc F)
end Go.Proofs.YtmbnebafdhpgpaaGreatDoor.plainReplays
