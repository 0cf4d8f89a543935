/- A fact of the card of StoreRests. -/
import Derived.Test.YtkdbagdiplpcfaaGreatDoorRows
import Derived.ProofKit
import Derived.SevenTiedAt
namespace Go.Proofs.YtkdbagdiplpcfaaGreatDoor.storeRests
open Go Go.ChangeShapes Go.WideShapes Go.ChangeAt Go.RowKit
open Go.ChangeMaps (open_string shut_string)
set_option linter.unusedVariables false
theorem cB:true=Tryz.pinned.checked.prog.looks []:=by kernel_rfl
end Go.Proofs.YtkdbagdiplpcfaaGreatDoor.storeRests
