/- Below a floor that was sealed a node takes nothing any more but fills of just that floor, also behind a loss of power; what is above the floor is taken. The five variables that its row lists are tied to the program's text by the given tie. No condition of our own. -/
import Derived.Test.YthjdpplgfdihoaaGreatDoorNodeFloorsRowMg
import Derived.Test.YthjdpplgfdihoaaGreatDoorNodeFloorsCardAMg
import Derived.Test.YthjdpplgfdihoaaGreatDoorNodeFloorsCardBMg
import Derived.Test.YthjdpplgfdihoaaGreatDoorCards
import Derived.Test.YthjdpplgfdihoaaGreatDoorTie
import Derived.ProofKit
import Derived.OpenShut
import Derived.LaidLaws
import Derived.LaidHandle
import Derived.Handed
import Derived.SevenTiedAt
import Derived.SizedLaws
import Derived.ChangeSame
import Derived.ChangeVars
import Derived.ChangeMaps5
import Derived.JoinedOf
import Derived.JoinedAt
import Derived.RowKit
import Derived.RowKit3
import Derived.ChangeOld
import Derived.Below
namespace Go.Proofs.YthjdpplgfdihoaaGreatDoor.nodeFloors
open Go Go.ChangeShapes Go.WideShapes Go.ChangeAt Go.RowKit
open Go.ChangeMaps (open_string shut_string)
set_option linter.unusedVariables false
theorem proved:Rows.NodeFloorsCardSaid:=
 Claim7.holds_tied_plain_at .later [] [.data,.data,.data,.sentinel,.sentinel] true (true, "a81ed3ca69b1186e876596b83756551a2360fa81a442186b93dfd7f7fe5be53b") true
  sq3 (fun _ h=>by cases h) (by kernel_rfl) (fun _ h=>by cases h) nodeFloors_row_tie rfl ⟨rfl,rfl⟩ (by kernel_rfl) rfl
  (fun f fn hf hfn=>by
   obtain rfl:f=3:=Option.some.inj ((show Tryz.prog.funcNamed Rows.nodeFloorsRow.func=some 3 by kernel_rfl).symm.trans hf)|>.symm
   obtain rfl:fn=Tryz.f3:=(Option.some.inj (Tryz.func3.symm.trans hfn)).symm;exact⟨cB,fun j t ht=>by
    rw[Tryz.params3]at ht;have hall:([22,22,22,2,4]:List TypeId).all (fun t=>!(Tryz.pinned.checked.prog.wantsStandIn t))=true:=by kernel_rfl
    have hmem:=Array.mem_of_getElem? ht;have:=List.all_eq_true.1 hall t (by simpa using hmem);simpa using this⟩)
  cA
#print axioms proved
end Go.Proofs.YthjdpplgfdihoaaGreatDoor.nodeFloors
