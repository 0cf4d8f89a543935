/- Some of the texts. No conditions. -/
import Derived.Test.YtkdbagdiplpcfaaGreatDoorBunAZ
import Derived.Test.YtkdbagdiplpcfaaGreatDoorBunBB
import Derived.Test.YtkdbagdiplpcfaaGreatDoorBunBA

set_option linter.unusedSimpArgs false
set_option linter.unusedVariables false
set_option maxRecDepth 100000
set_option maxHeartbeats 16000000
namespace Go.Proofs.YtkdbagdiplpcfaaGreatDoor

end Go.Proofs.YtkdbagdiplpcfaaGreatDoor
