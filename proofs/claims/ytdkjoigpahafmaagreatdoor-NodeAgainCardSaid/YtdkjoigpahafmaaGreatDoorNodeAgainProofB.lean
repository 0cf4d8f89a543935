/- A message handed to a node a second time changes nothing, and is answered the same. The five variables that its row lists are tied to the program's text by the given tie. No condition of our own. -/
import Derived.Test.YtdkjoigpahafmaaGreatDoorNodeAgainRowMg
import Derived.Test.YtdkjoigpahafmaaGreatDoorNodeAgainCardAMg
import Derived.Test.YtdkjoigpahafmaaGreatDoorNodeAgainCardBMg
import Derived.Test.YtdkjoigpahafmaaGreatDoorCards
import Derived.Test.YtdkjoigpahafmaaGreatDoorTie
import Derived.ProofKit
import Derived.OpenShut
import Derived.LaidLaws
import Derived.LaidHandle
import Derived.Handed
import Derived.SevenTiedAt
import Derived.SizedLaws
import Derived.ChangeSame
import Derived.ChangeVars
import Derived.ChangeMaps5
import Derived.JoinedOf
import Derived.JoinedAt
import Derived.RowKit
import Derived.RowKit3
import Derived.ChangeOld
import Derived.Below
namespace Go.Proofs.YtdkjoigpahafmaaGreatDoor.nodeAgain
open Go Go.ChangeShapes Go.WideShapes Go.ChangeAt Go.RowKit
open Go.ChangeMaps (open_string shut_string)
set_option linter.unusedVariables false
theorem proved : Rows.NodeAgainCardSaid :=
 Claim7.holds_tied_plain_at .later [] [.data, .data, .data, .sentinel, .sentinel] true (true, "e785d4a1d7ca50b51c25a1c0846fbeea69a43ff42ffb82bd9fe9f8d1078bf990") true
  row_holds (fun _ h => by cases h) (by kernel_rfl) (fun _ h => by cases h) nodeAgain_row_tie rfl ⟨rfl, rfl⟩ (by kernel_rfl) rfl
  (fun f fn hf hfn => by
   obtain rfl : f = 6 := Option.some.inj ((show Tryz.prog.funcNamed Rows.nodeAgainRow.func = some 6 by kernel_rfl).symm.trans hf) |>.symm
   obtain rfl : fn = Tryz.f6 := (Option.some.inj (Tryz.func6.symm.trans hfn)).symm
   exact ⟨cB, fun j t ht => by
    rw [Tryz.params6] at ht
    have hall : ([60, 47] : List TypeId).all (fun t => !(Tryz.pinned.checked.prog.wantsStandIn t)) = true := by kernel_rfl
    have hmem := Array.mem_of_getElem? ht
    have := List.all_eq_true.1 hall t (by simpa using hmem)
    simpa using this⟩)
  cA
#print axioms proved
end Go.Proofs.YtdkjoigpahafmaaGreatDoor.nodeAgain
