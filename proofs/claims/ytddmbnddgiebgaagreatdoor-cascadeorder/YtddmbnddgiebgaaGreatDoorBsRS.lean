import Derived.Test.YtddmbnddgiebgaaGreatDoorBsSch
import Derived.Test.YtddmbnddgiebgaaGreatDoorBsCell
set_option linter.unusedSimpArgs false
set_option linter.unusedVariables false
namespace Go.Proofs.YtddmbnddgiebgaaGreatDoor
open Go Go.Abs
attribute [local irreducible] Ev PWp
set_option maxRecDepth 10000
set_option maxHeartbeats 4000000
end Go.Proofs.YtddmbnddgiebgaaGreatDoor
