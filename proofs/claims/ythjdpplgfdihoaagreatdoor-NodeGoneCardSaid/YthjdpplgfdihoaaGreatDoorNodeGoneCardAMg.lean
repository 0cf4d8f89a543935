/- A fact of the card of NodeGone. -/
import Derived.Test.YthjdpplgfdihoaaGreatDoorRows
import Derived.ProofKit
import Derived.SevenTiedAt
namespace Go.Proofs.YthjdpplgfdihoaaGreatDoor.nodeGone
open Go Go.ChangeShapes Go.WideShapes Go.ChangeAt Go.RowKit
open Go.ChangeMaps (open_string shut_string)
set_option linter.unusedVariables false
theorem cA:false=Rows.nodeGoneRow.goesBy Tryz.pinned.checked.prog:=by kernel_rfl
end Go.Proofs.YthjdpplgfdihoaaGreatDoor.nodeGone
