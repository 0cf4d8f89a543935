/- A fact of the card of NodeTimes. -/
import Derived.Test.YtfbkjjdfboagfaaGreatDoorRows
import Derived.ProofKit
import Derived.SevenTiedAt
namespace Go.Proofs.YtfbkjjdfboagfaaGreatDoor.nodeTimes
open Go Go.ChangeShapes Go.WideShapes Go.ChangeAt Go.RowKit
open Go.ChangeMaps (open_string shut_string)
set_option linter.unusedVariables false
theorem cA:false=Rows.nodeTimesRow.goesBy Tryz.pinned.checked.prog:=by kernel_rfl
end Go.Proofs.YtfbkjjdfboagfaaGreatDoor.nodeTimes
