/- The row of NodeAgain. -/
import Derived.Test.YtdkjoigpahafmaaGreatDoorNodeAgainLiftMg
import Derived.Test.YtdkjoigpahafmaaGreatDoorNodeAgainRowAMg
import Derived.Test.YtdkjoigpahafmaaGreatDoorNodeAgainRowBMg
import Derived.Test.YtdkjoigpahafmaaGreatDoorNodeAgainRowCMg
import Derived.Test.YtdkjoigpahafmaaGreatDoorNodeAgainRowDMg
namespace Go.Proofs.YtdkjoigpahafmaaGreatDoor.nodeAgain
open Go Go.ChangeShapes Go.WideShapes Go.ChangeAt Go.RowKit
open Go.ChangeMaps (open_string shut_string)
set_option linter.unusedVariables false
theorem jf : joinedFacts Tryz.pinned.checked.prog 6 Tryz.f6 Rows.nodeAgainSpec Rows.nodeAgainRow = true := by
 unfold joinedFacts
 rw [jA, jB, jC, jD]
 kernel_rfl
theorem row_holds : Rows.NodeAgainSaid :=
 OpenClaim.holds_of_wide 6 Tryz.f6 rfl rfl rfl rfl rfl rfl rfl ⟨rfl, rfl, rfl, rfl, rfl⟩ rfl rfl rfl rfl rfl (by kernel_rfl) Tryz.func6 jf
  (of_decide_eq_true (by kernel_rfl)) (by unfold Func.isWrapper; first | (rw [if_pos (by decide +kernel)]; kernel_rfl) | (rw [if_neg (by decide +kernel)]; exact ⟨rfl, rfl⟩))
  (fun os started H enc _ => lifted os started H enc)
end Go.Proofs.YtdkjoigpahafmaaGreatDoor.nodeAgain
