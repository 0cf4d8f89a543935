/- The row of StoreBounds. -/
import Derived.Test.YtdkjoigpahafmaaGreatDoorStoreBoundsLiftMg
import Derived.Test.YtdkjoigpahafmaaGreatDoorStoreBoundsRowAMg
import Derived.Test.YtdkjoigpahafmaaGreatDoorStoreBoundsRowBMg
import Derived.Test.YtdkjoigpahafmaaGreatDoorStoreBoundsRowCMg
import Derived.Test.YtdkjoigpahafmaaGreatDoorStoreBoundsRowDMg
namespace Go.Proofs.YtdkjoigpahafmaaGreatDoor.storeBounds
open Go Go.ChangeShapes Go.WideShapes Go.ChangeAt Go.RowKit
open Go.ChangeMaps (open_string shut_string)
set_option linter.unusedVariables false
theorem jf : joinedFacts Tryz.pinned.checked.prog 3 Tryz.f3 Rows.storeBoundsSpec Rows.storeBoundsRow = true := by
 unfold joinedFacts
 rw [jA, jB, jC, jD]
 kernel_rfl
theorem row_holds : Rows.StoreBoundsSaid :=
 OpenClaim.holds_of_wide 3 Tryz.f3 rfl rfl rfl rfl rfl rfl rfl ⟨rfl, rfl, rfl, rfl, rfl⟩ rfl rfl rfl rfl rfl (by kernel_rfl) Tryz.func3 jf
  (of_decide_eq_true (by kernel_rfl)) (by unfold Func.isWrapper; first | (rw [if_pos (by decide +kernel)]; kernel_rfl) | (rw [if_neg (by decide +kernel)]; exact ⟨rfl, rfl⟩))
  (fun os started H enc _ => lifted os started H enc)
end Go.Proofs.YtdkjoigpahafmaaGreatDoor.storeBounds
