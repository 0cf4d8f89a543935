/- A fact on what NodeGone reaches. -/
import Derived.Test.YthjdpplgfdihoaaGreatDoorRows
import Derived.ProofKit
namespace Go.Proofs.YthjdpplgfdihoaaGreatDoor.nodeGone
open Go Go.ChangeShapes Go.WideShapes Go.ChangeAt Go.RowKit
open Go.ChangeMaps (open_string shut_string)
set_option linter.unusedVariables false
theorem jC:(Rows.nodeGoneRow.recurses==Tryz.pinned.checked.prog.recurses 7)=true:=by kernel_rfl
end Go.Proofs.YthjdpplgfdihoaaGreatDoor.nodeGone
