/- The row of StoreArgs. -/
import Derived.Test.YtpdaolongmgmgaaGreatDoorStoreArgsLiftMg
import Derived.Test.YtpdaolongmgmgaaGreatDoorStoreArgsRowAMg
import Derived.Test.YtpdaolongmgmgaaGreatDoorStoreArgsRowBMg
import Derived.Test.YtpdaolongmgmgaaGreatDoorStoreArgsRowCMg
import Derived.Test.YtpdaolongmgmgaaGreatDoorStoreArgsRowDMg
namespace Go.Proofs.YtpdaolongmgmgaaGreatDoor.storeArgs
open Go Go.ChangeShapes Go.WideShapes Go.ChangeAt Go.RowKit
open Go.ChangeMaps (open_string shut_string)
set_option linter.unusedVariables false
theorem jf : joinedFacts Tryz.pinned.checked.prog 3 Tryz.f3 Rows.storeArgsSpec Rows.storeArgsRow = true := by
 unfold joinedFacts
 rw [jA, jB, jC, jD]
 kernel_rfl
theorem row_holds : Rows.StoreArgsSaid :=
 OpenClaim.holds_of_wide 3 Tryz.f3 rfl rfl rfl rfl rfl rfl rfl ⟨rfl, rfl, rfl, rfl, rfl⟩ rfl rfl rfl rfl rfl (by kernel_rfl) Tryz.func3 jf
  (of_decide_eq_true (by kernel_rfl)) (by unfold Func.isWrapper; first | (rw [if_pos (by decide +kernel)]; kernel_rfl) | (rw [if_neg (by decide +kernel)]; exact ⟨rfl, rfl⟩))
  (fun os started H enc _ => lifted os started H enc)
end Go.Proofs.YtpdaolongmgmgaaGreatDoor.storeArgs
