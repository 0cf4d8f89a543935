/- The row of NodeGone. -/
import Derived.Test.YthjdpplgfdihoaaGreatDoorNodeGoneLiftMg
import Derived.Test.YthjdpplgfdihoaaGreatDoorNodeGoneRowAMg
import Derived.Test.YthjdpplgfdihoaaGreatDoorNodeGoneRowBMg
import Derived.Test.YthjdpplgfdihoaaGreatDoorNodeGoneRowCMg
import Derived.Test.YthjdpplgfdihoaaGreatDoorNodeGoneRowDMg
namespace Go.Proofs.YthjdpplgfdihoaaGreatDoor.nodeGone
open Go Go.ChangeShapes Go.WideShapes Go.ChangeAt Go.RowKit
open Go.ChangeMaps (open_string shut_string)
set_option linter.unusedVariables false
theorem jf:joinedFacts Tryz.pinned.checked.prog 7 Tryz.f7 Rows.nodeGoneSpec Rows.nodeGoneRow=true:=by
 unfold joinedFacts;rw[jA,jB,jC,jD]
 kernel_rfl
theorem dy4:Rows.NodeGoneSaid:=
 OpenClaim.holds_of_wide 7 Tryz.f7 rfl rfl rfl rfl rfl rfl rfl ⟨rfl,rfl,rfl,rfl,rfl⟩ rfl rfl rfl rfl rfl (by kernel_rfl) Tryz.func7 jf
  (of_decide_eq_true (by kernel_rfl)) (by unfold Func.isWrapper;first|(rw[if_pos (by decide+kernel)];kernel_rfl)|(rw[if_neg (by decide+kernel)];exact⟨rfl,rfl⟩))
  (fun os started H enc _=>lifted os started H enc)
end Go.Proofs.YthjdpplgfdihoaaGreatDoor.nodeGone
