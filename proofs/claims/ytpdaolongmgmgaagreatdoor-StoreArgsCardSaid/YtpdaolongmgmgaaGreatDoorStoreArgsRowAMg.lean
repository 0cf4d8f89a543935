/- A fact on what StoreArgs reaches. -/
import Derived.Test.YtpdaolongmgmgaaGreatDoorRows
import Derived.ProofKit
import Derived.JoinedOf
import Derived.JoinedAt
namespace Go.Proofs.YtpdaolongmgmgaaGreatDoor.storeArgs
open Go Go.ChangeShapes Go.WideShapes Go.ChangeAt Go.RowKit
open Go.ChangeMaps (open_string shut_string)
set_option linter.unusedVariables false
theorem jA : (Rows.storeArgsRow.inPlace == Tryz.pinned.checked.prog.inPlace 3) = true := by kernel_rfl
end Go.Proofs.YtpdaolongmgmgaaGreatDoor.storeArgs
