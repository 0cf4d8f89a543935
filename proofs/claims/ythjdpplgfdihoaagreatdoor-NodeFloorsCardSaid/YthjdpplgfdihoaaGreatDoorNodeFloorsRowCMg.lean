/- A fact on what NodeFloors reaches. -/
import Derived.Test.YthjdpplgfdihoaaGreatDoorRows
import Derived.ProofKit
import Derived.JoinedOf
import Derived.JoinedAt
namespace Go.Proofs.YthjdpplgfdihoaaGreatDoor.nodeFloors
open Go Go.ChangeShapes Go.WideShapes Go.ChangeAt Go.RowKit
open Go.ChangeMaps (open_string shut_string)
set_option linter.unusedVariables false
theorem jC:(Rows.nodeFloorsRow.recurses==Tryz.pinned.checked.prog.recurses 3)=true:=by kernel_rfl
end Go.Proofs.YthjdpplgfdihoaaGreatDoor.nodeFloors
