/- A fact on what StorePlays reaches. -/
import Derived.Test.YtgicpkieomacgaaGreatDoorRows
import Derived.ProofKit
namespace Go.Proofs.YtgicpkieomacgaaGreatDoor.storePlays
open Go Go.ChangeShapes Go.WideShapes Go.ChangeAt Go.RowKit
open Go.ChangeMaps (open_string shut_string)
set_option linter.unusedVariables false
theorem jD:(Rows.storePlaysRow.named==Tryz.pinned.checked.prog.varsNamed 3)=true:=by kernel_rfl
end Go.Proofs.YtgicpkieomacgaaGreatDoor.storePlays
