/- Some of the texts. No conditions. -/
import Derived.Test.YtgicpkieomacgaaGreatDoorBunAZ
import Derived.Test.YtgicpkieomacgaaGreatDoorBunBB
import Derived.Test.YtgicpkieomacgaaGreatDoorBunBA

set_option linter.unusedSimpArgs false
set_option linter.unusedVariables false
set_option maxRecDepth 100000
set_option maxHeartbeats 16000000
namespace Go.Proofs.YtgicpkieomacgaaGreatDoor

end Go.Proofs.YtgicpkieomacgaaGreatDoor
