/- NodeGone: deletes that were collected stay gone. The five variables that its row lists are tied to the program's text by the given tie. No condition of our own. -/
import Derived.Test.YthjdpplgfdihoaaGreatDoorBunAA
import Derived.Test.YthjdpplgfdihoaaGreatDoorNodeGoneRowMg
import Derived.Test.YthjdpplgfdihoaaGreatDoorNodeGoneCardAMg
import Derived.Test.YthjdpplgfdihoaaGreatDoorNodeGoneCardBMg
import Derived.Test.YthjdpplgfdihoaaGreatDoorCards
import Derived.Test.YthjdpplgfdihoaaGreatDoorTie
import Derived.ProofKit
import Derived.OpenShut
import Derived.LaidLaws
import Derived.LaidHandle
import Derived.Handed
import Derived.SevenTiedAt
import Derived.SizedLaws
import Derived.ChangeSame
import Derived.ChangeVars
import Derived.ChangeMaps5
import Derived.JoinedOf
import Derived.JoinedAt
import Derived.RowKit
import Derived.RowKit3
import Derived.ChangeOld
import Derived.Below
namespace Go.Proofs.YthjdpplgfdihoaaGreatDoor.nodeGone
open Go Go.ChangeShapes Go.WideShapes Go.ChangeAt Go.RowKit
open Go.ChangeMaps (open_string shut_string)
set_option linter.unusedVariables false
theorem proved:Rows.NodeGoneCardSaid:=
 Claim7.holds_tied_plain_at .later [] [.data,.data,.data,.sentinel,.sentinel] true (true, "a81ed3ca69b1186e876596b83756551a2360fa81a442186b93dfd7f7fe5be53b") true
  dy4 (fun _ h=>by cases h) (by kernel_rfl) (fun _ h=>by cases h) nodeGone_row_tie rfl ⟨rfl,rfl⟩ (by kernel_rfl) rfl
  (fun f fn hf hfn=>by
   obtain rfl:f=7:=ap_ ((show Tryz.prog.funcNamed Rows.nodeGoneRow.func=some 7 by kernel_rfl).symm.trans hf)|>.symm
   obtain rfl:fn=Tryz.f7:=(ap_ (Tryz.func7.symm.trans hfn)).symm;exact⟨cB,fun j t ht=>by
    rw[Tryz.params7]at ht;have hall:([22,22,22,3]:List TypeId).all (fun t=>!(Tryz.pinned.checked.prog.wantsStandIn t))=true:=by kernel_rfl
    have hmem:=Array.mem_of_getElem? ht;have:=al_.1 hall t (by simpa using hmem);simpa using this⟩)
  cA
#print axioms proved
end Go.Proofs.YthjdpplgfdihoaaGreatDoor.nodeGone
