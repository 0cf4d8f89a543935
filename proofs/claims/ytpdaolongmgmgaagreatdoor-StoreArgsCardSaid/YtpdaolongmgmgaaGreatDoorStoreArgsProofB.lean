/- A disk that is none is refused, a dead one too, and files that are none of a Store of its own are let be: StoreArgs tells true of any name and any bytes. The five variables that its row lists are tied to the program's text by the given tie. No condition of our own. -/
import Derived.Test.YtpdaolongmgmgaaGreatDoorStoreArgsRowMg
import Derived.Test.YtpdaolongmgmgaaGreatDoorStoreArgsCardAMg
import Derived.Test.YtpdaolongmgmgaaGreatDoorStoreArgsCardBMg
import Derived.Test.YtpdaolongmgmgaaGreatDoorCards
import Derived.Test.YtpdaolongmgmgaaGreatDoorTie
import Derived.ProofKit
import Derived.OpenShut
import Derived.LaidLaws
import Derived.LaidHandle
import Derived.Handed
import Derived.SevenTiedAt
import Derived.SizedLaws
import Derived.ChangeSame
import Derived.ChangeVars
import Derived.ChangeMaps5
import Derived.JoinedOf
import Derived.JoinedAt
import Derived.RowKit
import Derived.RowKit3
import Derived.ChangeOld
import Derived.Below
namespace Go.Proofs.YtpdaolongmgmgaaGreatDoor.storeArgs
open Go Go.ChangeShapes Go.WideShapes Go.ChangeAt Go.RowKit
open Go.ChangeMaps (open_string shut_string)
set_option linter.unusedVariables false
theorem proved : Rows.StoreArgsCardSaid :=
 Claim7.holds_tied_plain_at .later [] [.data, .data, .data, .sentinel, .sentinel] true (true, "ddff9dc35f28a2bda44a625e57450a072ec5532125c6cbed5f8af6aeb883bb8a") true
  row_holds (fun _ h => by cases h) (by kernel_rfl) (fun _ h => by cases h) storeArgs_row_tie rfl ⟨rfl, rfl⟩ (by kernel_rfl) rfl
  (fun f fn hf hfn => by
   obtain rfl : f = 3 := Option.some.inj ((show Tryz.prog.funcNamed Rows.storeArgsRow.func = some 3 by kernel_rfl).symm.trans hf) |>.symm
   obtain rfl : fn = Tryz.f3 := (Option.some.inj (Tryz.func3.symm.trans hfn)).symm
   exact ⟨cB, fun j t ht => by
    rw [Tryz.params3] at ht
    have hall : ([9, 22] : List TypeId).all (fun t => !(Tryz.pinned.checked.prog.wantsStandIn t)) = true := by kernel_rfl
    have hmem := Array.mem_of_getElem? ht
    have := List.all_eq_true.1 hall t (by simpa using hmem)
    simpa using this⟩)
  cA
#print axioms proved
end Go.Proofs.YtpdaolongmgmgaaGreatDoor.storeArgs
