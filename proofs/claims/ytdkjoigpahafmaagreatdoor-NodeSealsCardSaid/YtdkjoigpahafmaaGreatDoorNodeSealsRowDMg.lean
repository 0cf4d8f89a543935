/- A fact on what NodeSeals reaches. -/
import Derived.Test.YtdkjoigpahafmaaGreatDoorRows
import Derived.ProofKit
import Derived.JoinedOf
import Derived.JoinedAt
namespace Go.Proofs.YtdkjoigpahafmaaGreatDoor.nodeSeals
open Go Go.ChangeShapes Go.WideShapes Go.ChangeAt Go.RowKit
open Go.ChangeMaps (open_string shut_string)
set_option linter.unusedVariables false
theorem jD : (Rows.nodeSealsRow.named == Tryz.pinned.checked.prog.varsNamed 5) = true := by kernel_rfl
end Go.Proofs.YtdkjoigpahafmaaGreatDoor.nodeSeals
