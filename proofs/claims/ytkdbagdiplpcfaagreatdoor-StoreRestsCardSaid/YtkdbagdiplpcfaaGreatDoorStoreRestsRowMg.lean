/- The row of StoreRests. -/
import Derived.Test.YtkdbagdiplpcfaaGreatDoorStoreRestsLiftMg
import Derived.Test.YtkdbagdiplpcfaaGreatDoorStoreRestsRowAMg
import Derived.Test.YtkdbagdiplpcfaaGreatDoorStoreRestsRowBMg
import Derived.Test.YtkdbagdiplpcfaaGreatDoorStoreRestsRowCMg
import Derived.Test.YtkdbagdiplpcfaaGreatDoorStoreRestsRowDMg
namespace Go.Proofs.YtkdbagdiplpcfaaGreatDoor.storeRests
open Go.Proofs.Tryz Go Go.ChangeShapes Go.WideShapes Go.ChangeAt Go.RowKit
open Go.ChangeMaps (open_string shut_string)
set_option linter.unusedVariables false
theorem jf:joinedFacts Tryz.pinned.checked.prog 3 f3 Rows.storeRestsSpec Rows.storeRestsRow=true:=by
 unfold joinedFacts;rw[jA,jB,jC,jD]
 kernel_rfl
theorem ky4:Rows.StoreRestsSaid:=
 OpenClaim.holds_of_wide 3 f3 rfl rfl rfl rfl rfl rfl rfl ⟨rfl,rfl,rfl,rfl,rfl⟩ rfl rfl rfl rfl rfl (by kernel_rfl) func3 jf
  (of_decide_eq_true (by kernel_rfl)) (by unfold Func.isWrapper;first|(rw[if_pos (by decide+kernel)];kernel_rfl)|(rw[if_neg (by decide+kernel)];exact⟨rfl,rfl⟩))
  (fun os started H enc _=>lifted os started H enc)
end Go.Proofs.YtkdbagdiplpcfaaGreatDoor.storeRests
