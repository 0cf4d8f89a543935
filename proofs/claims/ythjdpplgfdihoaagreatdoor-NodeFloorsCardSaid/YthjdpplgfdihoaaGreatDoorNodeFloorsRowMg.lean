/- The row of NodeFloors. -/
import Derived.Test.YthjdpplgfdihoaaGreatDoorNodeFloorsLiftMg
import Derived.Test.YthjdpplgfdihoaaGreatDoorNodeFloorsRowAMg
import Derived.Test.YthjdpplgfdihoaaGreatDoorNodeFloorsRowBMg
import Derived.Test.YthjdpplgfdihoaaGreatDoorNodeFloorsRowCMg
import Derived.Test.YthjdpplgfdihoaaGreatDoorNodeFloorsRowDMg
namespace Go.Proofs.YthjdpplgfdihoaaGreatDoor.nodeFloors
open Go Go.ChangeShapes Go.WideShapes Go.ChangeAt Go.RowKit
open Go.ChangeMaps (open_string shut_string)
set_option linter.unusedVariables false
theorem jf:joinedFacts Tryz.pinned.checked.prog 3 Tryz.f3 Rows.nodeFloorsSpec Rows.nodeFloorsRow=true:=by
 unfold joinedFacts;rw[jA,jB,jC,jD]
 kernel_rfl
theorem sq3:Rows.NodeFloorsSaid:=
 OpenClaim.holds_of_wide 3 Tryz.f3 rfl rfl rfl rfl rfl rfl rfl ⟨rfl,rfl,rfl,rfl,rfl⟩ rfl rfl rfl rfl rfl (by kernel_rfl) Tryz.func3 jf
  (of_decide_eq_true (by kernel_rfl)) (by unfold Func.isWrapper;first|(rw[if_pos (by decide+kernel)];kernel_rfl)|(rw[if_neg (by decide+kernel)];exact⟨rfl,rfl⟩))
  (fun os started H enc _=>lifted os started H enc)
end Go.Proofs.YthjdpplgfdihoaaGreatDoor.nodeFloors
