/- The row of NodeTimes. -/
import Derived.Test.YtfbkjjdfboagfaaGreatDoorNodeTimesLiftMg
import Derived.Test.YtfbkjjdfboagfaaGreatDoorNodeTimesRowAMg
import Derived.Test.YtfbkjjdfboagfaaGreatDoorNodeTimesRowBMg
import Derived.Test.YtfbkjjdfboagfaaGreatDoorNodeTimesRowCMg
import Derived.Test.YtfbkjjdfboagfaaGreatDoorNodeTimesRowDMg
namespace Go.Proofs.YtfbkjjdfboagfaaGreatDoor.nodeTimes
open Go.Proofs.Tryz Go Go.ChangeShapes Go.WideShapes Go.ChangeAt Go.RowKit
open Go.ChangeMaps (open_string shut_string)
set_option linter.unusedVariables false
theorem jf:joinedFacts Tryz.pinned.checked.prog 3 f3 Rows.nodeTimesSpec Rows.nodeTimesRow=true:=by
 unfold joinedFacts;rw[jA,jB,jC,jD]
 kernel_rfl
theorem py4:Rows.NodeTimesSaid:=
 OpenClaim.holds_of_wide 3 f3 rfl rfl rfl rfl rfl rfl rfl ⟨rfl,rfl,rfl,rfl,rfl⟩ rfl rfl rfl rfl rfl (by kernel_rfl) func3 jf
  (of_decide_eq_true (by kernel_rfl)) (by unfold Func.isWrapper;first|(rw[if_pos (by decide+kernel)];kernel_rfl)|(rw[if_neg (by decide+kernel)];exact⟨rfl,rfl⟩))
  (fun os started H enc _=>lifted os started H enc)
end Go.Proofs.YtfbkjjdfboagfaaGreatDoor.nodeTimes
