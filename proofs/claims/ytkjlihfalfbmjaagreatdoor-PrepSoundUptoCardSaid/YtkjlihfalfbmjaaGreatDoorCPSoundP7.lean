/- Own work, some of it printed by program, texts that were built one by one: a part of the proof of prepSound.proved. -/
import Derived.Test.YtkjlihfalfbmjaaGreatDoorCPSoundP6
import Derived.Test.YtkjlihfalfbmjaaGreatDoorCPSoundP4
import Derived.Test.YtkjlihfalfbmjaaGreatDoorCards
import Derived.Test.YtkjlihfalfbmjaaGreatDoorTie
import Derived.WalkKit
import Derived.ProofKit
import Derived.OpenShut
import Derived.Deep.DeepHandedRow
import Derived.Lib.LaidTab
import Derived.Stop.LaidErr
set_option maxRecDepth 100000
namespace Go.Proofs.YtkjlihfalfbmjaaGreatDoor.prepSound
open Go Go.ChangeShapes Go.WideShapes Go.ChangeAt Go.RowKit
theorem saidUpto : Rows.PrepSoundUptoSaid :=
 OpenClaim.holds_of_cond 6 Tryz.f6 rfl rfl rfl rfl rfl rfl rfl ⟨rfl, rfl, rfl, rfl, rfl⟩ rfl rfl rfl rfl rfl fnameK Tryz.func6 closedK
  (of_decide_eq_true (by kernel_rfl)) (by unfold Func.isWrapper; first | (rw [if_pos (by decide +kernel)]; kernel_rfl) | (rw [if_neg (by decide +kernel)]; exact ⟨rfl, rfl⟩))
  (fun os started H enc _ F => by rw [OpenClaim.pre_eq_preRow]; exact lifted os started H enc F)
end Go.Proofs.YtkjlihfalfbmjaaGreatDoor.prepSound
