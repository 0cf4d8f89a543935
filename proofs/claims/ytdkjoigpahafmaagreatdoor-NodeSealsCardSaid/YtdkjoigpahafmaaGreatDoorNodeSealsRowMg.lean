/- The row of NodeSeals. -/
import Derived.Test.YtdkjoigpahafmaaGreatDoorNodeSealsLiftMg
import Derived.Test.YtdkjoigpahafmaaGreatDoorNodeSealsRowAMg
import Derived.Test.YtdkjoigpahafmaaGreatDoorNodeSealsRowBMg
import Derived.Test.YtdkjoigpahafmaaGreatDoorNodeSealsRowCMg
import Derived.Test.YtdkjoigpahafmaaGreatDoorNodeSealsRowDMg
namespace Go.Proofs.YtdkjoigpahafmaaGreatDoor.nodeSeals
open Go Go.ChangeShapes Go.WideShapes Go.ChangeAt Go.RowKit
open Go.ChangeMaps (open_string shut_string)
set_option linter.unusedVariables false
theorem jf : joinedFacts Tryz.pinned.checked.prog 5 Tryz.f5 Rows.nodeSealsSpec Rows.nodeSealsRow = true := by
 unfold joinedFacts
 rw [jA, jB, jC, jD]
 kernel_rfl
theorem row_holds : Rows.NodeSealsSaid :=
 OpenClaim.holds_of_wide 5 Tryz.f5 rfl rfl rfl rfl rfl rfl rfl ⟨rfl, rfl, rfl, rfl, rfl⟩ rfl rfl rfl rfl rfl (by kernel_rfl) Tryz.func5 jf
  (of_decide_eq_true (by kernel_rfl)) (by unfold Func.isWrapper; first | (rw [if_pos (by decide +kernel)]; kernel_rfl) | (rw [if_neg (by decide +kernel)]; exact ⟨rfl, rfl⟩))
  (fun os started H enc _ => lifted os started H enc)
end Go.Proofs.YtdkjoigpahafmaaGreatDoor.nodeSeals
