/- A node's time goes by Ticks alone; behind a loss of power it goes on from its last certificate, and collects no earlier than its grace says. The five variables that its row lists are tied to the program's text by the given tie. No condition of our own. -/
import Derived.Test.YtfbkjjdfboagfaaGreatDoorNodeTimesRowMg
import Derived.Test.YtfbkjjdfboagfaaGreatDoorNodeTimesCardAMg
import Derived.Test.YtfbkjjdfboagfaaGreatDoorNodeTimesCardBMg
namespace Go.Proofs.YtfbkjjdfboagfaaGreatDoor.nodeTimes
open Go.Proofs.Tryz Go Go.ChangeShapes Go.WideShapes Go.ChangeAt Go.RowKit
open Go.ChangeMaps (open_string shut_string)
set_option linter.unusedVariables false
theorem proved:Rows.NodeTimesCardSaid:=
 Claim7.holds_tied_plain_at .later [] [.data,.data,.data,.sentinel,.sentinel] true (true, "790152c2dc3cb998aa6490071ba27d25c644aa4c59afd9e709c6d88c37b552dc") true
  py4 (fun _ h=>by cases h) (by kernel_rfl) (fun _ h=>by cases h) nodeTimes_row_tie rfl ⟨rfl,rfl⟩ (by kernel_rfl) rfl
  (fun f fn hf hfn=>by
   obtain rfl:f=3:=ah_ ((show prog.funcNamed Rows.nodeTimesRow.func=some 3 by kernel_rfl).symm.trans hf)|>.symm
   obtain rfl:fn=f3:=(ah_ (func3.symm.trans hfn)).symm;exact⟨cB,fun j t ht=>by
    rw[params3]at ht;have hall:([22,3]:List TypeId).all (fun t=>!(Tryz.pinned.checked.prog.wantsStandIn t))=true:=by kernel_rfl
    have hmem:=Array.mem_of_getElem? ht;have:=Y_.1 hall t (by simpa using hmem);simpa using this⟩)
  cA
#print axioms proved
end Go.Proofs.YtfbkjjdfboagfaaGreatDoor.nodeTimes
