/- A fact on what StoreRests reaches. -/
import Derived.Test.YtkdbagdiplpcfaaGreatDoorRows
import Derived.ProofKit
namespace Go.Proofs.YtkdbagdiplpcfaaGreatDoor.storeRests
open Go Go.ChangeShapes Go.WideShapes Go.ChangeAt Go.RowKit
open Go.ChangeMaps (open_string shut_string)
set_option linter.unusedVariables false
theorem jD:(Rows.storeRestsRow.named==Tryz.pinned.checked.prog.varsNamed 3)=true:=by kernel_rfl
end Go.Proofs.YtkdbagdiplpcfaaGreatDoor.storeRests
