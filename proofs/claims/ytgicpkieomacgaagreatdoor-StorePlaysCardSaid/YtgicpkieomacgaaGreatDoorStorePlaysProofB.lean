/- On a disk that does not fail a Store has what was Applied and not Purged, whatever was Flushed and merged between: whatever the script, StorePlays answers true. The five variables that its row lists are tied to the program's text by the given tie. No condition of our own. -/
import Derived.Test.YtgicpkieomacgaaGreatDoorStorePlaysRowMg
import Derived.Test.YtgicpkieomacgaaGreatDoorStorePlaysCardAMg
import Derived.Test.YtgicpkieomacgaaGreatDoorStorePlaysCardBMg
namespace Go.Proofs.YtgicpkieomacgaaGreatDoor.storePlays
open Go.Proofs.Tryz Go Go.ChangeShapes Go.WideShapes Go.ChangeAt Go.RowKit
open Go.ChangeMaps (open_string shut_string)
set_option linter.unusedVariables false
theorem proved:Rows.StorePlaysCardSaid:=
 Claim7.holds_tied_plain_at .later [] [.data,.data,.data,.sentinel,.sentinel] true (true, "7c569b064440907286dabd5fb7f7e08fa4cc5fbbf2a9ee69fe34f6408035758c") true
  ky4 (fun _ h=>by cases h) (by kernel_rfl) (fun _ h=>by cases h) storePlays_row_tie rfl ⟨rfl,rfl⟩ (by kernel_rfl) rfl
  (fun f fn hf hfn=>by
   obtain rfl:f=3:=ag_ ((show prog.funcNamed Rows.storePlaysRow.func=some 3 by kernel_rfl).symm.trans hf)|>.symm
   obtain rfl:fn=f3:=(ag_ (func3.symm.trans hfn)).symm;exact⟨cB,fun j t ht=>by
    rw[params3]at ht;have hall:([22]:List TypeId).all (fun t=>!(Tryz.pinned.checked.prog.wantsStandIn t))=true:=by kernel_rfl
    have hmem:=Array.mem_of_getElem? ht;have:=Z_.1 hall t (by simpa using hmem);simpa using this⟩)
  cA
#print axioms proved
end Go.Proofs.YtgicpkieomacgaaGreatDoor.storePlays
