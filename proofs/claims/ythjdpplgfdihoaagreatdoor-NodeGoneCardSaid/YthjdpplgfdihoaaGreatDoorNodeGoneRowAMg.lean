/- A fact on what NodeGone reaches. -/
import Derived.Test.YthjdpplgfdihoaaGreatDoorRows
import Derived.ProofKit
namespace Go.Proofs.YthjdpplgfdihoaaGreatDoor.nodeGone
open Go Go.ChangeShapes Go.WideShapes Go.ChangeAt Go.RowKit
open Go.ChangeMaps (open_string shut_string)
set_option linter.unusedVariables false
theorem jA:(Rows.nodeGoneRow.inPlace==Tryz.pinned.checked.prog.inPlace 7)=true:=by kernel_rfl
end Go.Proofs.YthjdpplgfdihoaaGreatDoor.nodeGone
