/- The row of NodeJoins. -/
import Derived.Test.YtdkjoigpahafmaaGreatDoorNodeJoinsLiftMg
import Derived.Test.YtdkjoigpahafmaaGreatDoorNodeJoinsRowAMg
import Derived.Test.YtdkjoigpahafmaaGreatDoorNodeJoinsRowBMg
import Derived.Test.YtdkjoigpahafmaaGreatDoorNodeJoinsRowCMg
import Derived.Test.YtdkjoigpahafmaaGreatDoorNodeJoinsRowDMg
namespace Go.Proofs.YtdkjoigpahafmaaGreatDoor.nodeJoins
open Go Go.ChangeShapes Go.WideShapes Go.ChangeAt Go.RowKit
open Go.ChangeMaps (open_string shut_string)
set_option linter.unusedVariables false
theorem jf : joinedFacts Tryz.pinned.checked.prog 4 Tryz.f4 Rows.nodeJoinsSpec Rows.nodeJoinsRow = true := by
 unfold joinedFacts
 rw [jA, jB, jC, jD]
 kernel_rfl
theorem row_holds : Rows.NodeJoinsSaid :=
 OpenClaim.holds_of_wide 4 Tryz.f4 rfl rfl rfl rfl rfl rfl rfl ⟨rfl, rfl, rfl, rfl, rfl⟩ rfl rfl rfl rfl rfl (by kernel_rfl) Tryz.func4 jf
  (of_decide_eq_true (by kernel_rfl)) (by unfold Func.isWrapper; first | (rw [if_pos (by decide +kernel)]; kernel_rfl) | (rw [if_neg (by decide +kernel)]; exact ⟨rfl, rfl⟩))
  (fun os started H enc _ => lifted os started H enc)
end Go.Proofs.YtdkjoigpahafmaaGreatDoor.nodeJoins
