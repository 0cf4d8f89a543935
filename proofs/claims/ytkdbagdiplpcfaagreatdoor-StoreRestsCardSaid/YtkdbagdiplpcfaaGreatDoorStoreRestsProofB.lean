/- StoreRests, in the tied form. The five variables that its row lists are tied to the program's text by the given tie. No condition of our own. -/
import Derived.Test.YtkdbagdiplpcfaaGreatDoorStoreRestsRowMg
import Derived.Test.YtkdbagdiplpcfaaGreatDoorStoreRestsCardAMg
import Derived.Test.YtkdbagdiplpcfaaGreatDoorStoreRestsCardBMg
namespace Go.Proofs.YtkdbagdiplpcfaaGreatDoor.storeRests
open Go.Proofs.Tryz Go Go.ChangeShapes Go.WideShapes Go.ChangeAt Go.RowKit
open Go.ChangeMaps (open_string shut_string)
set_option linter.unusedVariables false
theorem proved:Rows.StoreRestsCardSaid:=
 Claim7.holds_tied_plain_at .later [] [.data,.data,.data,.sentinel,.sentinel] true (true, "5c903bfb8ceb1a53b33e703b1812f4ab77f3ee23f52c9f53bfd3d8d5625c3061") true
  ky4 (fun _ h=>by cases h) (by kernel_rfl) (fun _ h=>by cases h) storeRests_row_tie rfl ⟨rfl,rfl⟩ (by kernel_rfl) rfl
  (fun f fn hf hfn=>by
   obtain rfl:f=3:=ai_ ((show prog.funcNamed Rows.storeRestsRow.func=some 3 by kernel_rfl).symm.trans hf)|>.symm
   obtain rfl:fn=f3:=(ai_ (func3.symm.trans hfn)).symm;exact⟨cB,fun j t ht=>by
    rw[params3]at ht;have hall:([22]:List TypeId).all (fun t=>!(Tryz.pinned.checked.prog.wantsStandIn t))=true:=by kernel_rfl
    have hmem:=Array.mem_of_getElem? ht;have:=ab_.1 hall t (by simpa using hmem);simpa using this⟩)
  cA
#print axioms proved
end Go.Proofs.YtkdbagdiplpcfaaGreatDoor.storeRests
