/- A fact on what NodeJoins reaches. -/
import Derived.Test.YtdkjoigpahafmaaGreatDoorRows
import Derived.ProofKit
import Derived.JoinedOf
import Derived.JoinedAt
namespace Go.Proofs.YtdkjoigpahafmaaGreatDoor.nodeJoins
open Go Go.ChangeShapes Go.WideShapes Go.ChangeAt Go.RowKit
open Go.ChangeMaps (open_string shut_string)
set_option linter.unusedVariables false
theorem jC : (Rows.nodeJoinsRow.recurses == Tryz.pinned.checked.prog.recurses 4) = true := by kernel_rfl
end Go.Proofs.YtdkjoigpahafmaaGreatDoor.nodeJoins
