/- A fact of the card of NodeFloors. -/
import Derived.Test.YthjdpplgfdihoaaGreatDoorRows
import Derived.ProofKit
import Derived.JoinedOf
import Derived.JoinedAt
import Derived.SevenTiedAt
namespace Go.Proofs.YthjdpplgfdihoaaGreatDoor.nodeFloors
open Go Go.ChangeShapes Go.WideShapes Go.ChangeAt Go.RowKit
open Go.ChangeMaps (open_string shut_string)
set_option linter.unusedVariables false
theorem cA:false=Rows.nodeFloorsRow.goesBy Tryz.pinned.checked.prog:=by kernel_rfl
end Go.Proofs.YthjdpplgfdihoaaGreatDoor.nodeFloors
