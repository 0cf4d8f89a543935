/- A fact on what NodeTimes reaches. -/
import Derived.Test.YtfbkjjdfboagfaaGreatDoorRows
import Derived.ProofKit
namespace Go.Proofs.YtfbkjjdfboagfaaGreatDoor.nodeTimes
open Go Go.ChangeShapes Go.WideShapes Go.ChangeAt Go.RowKit
open Go.ChangeMaps (open_string shut_string)
set_option linter.unusedVariables false
theorem jB:(Rows.nodeTimesRow.unfollowed==Tryz.pinned.checked.prog.unfollowed 3)=true:=by kernel_rfl
end Go.Proofs.YtfbkjjdfboagfaaGreatDoor.nodeTimes
