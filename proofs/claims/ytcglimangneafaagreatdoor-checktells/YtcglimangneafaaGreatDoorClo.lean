import Derived.Test.YtcglimangneafaaGreatDoorData
set_option linter.unusedSimpArgs false
set_option linter.unusedVariables false
namespace Go.Proofs.YtcglimangneafaaGreatDoor
open Go Go.Abs
attribute [local irreducible] Ev PWp
set_option maxRecDepth 10000
set_option maxHeartbeats 4000000
end Go.Proofs.YtcglimangneafaaGreatDoor
