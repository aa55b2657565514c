import Derived.Test.YtloecjjehapblaaGreatDoorOkAt
set_option linter.unusedSimpArgs false
set_option linter.unusedVariables false
namespace Go.Proofs.YtloecjjehapblaaGreatDoor
open Go Go.Abs
attribute [local irreducible] Ev PWp
set_option maxRecDepth 10000
set_option maxHeartbeats 4000000
section
variable (hA:PF Tryz.prog 15 [] (PV.val (Value.bool (true))))
include hA
end
end Go.Proofs.YtloecjjehapblaaGreatDoor
