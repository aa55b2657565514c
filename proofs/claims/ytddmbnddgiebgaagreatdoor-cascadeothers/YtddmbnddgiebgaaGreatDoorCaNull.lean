import Derived.Test.YtddmbnddgiebgaaGreatDoorCaDel
import Derived.Test.YtddmbnddgiebgaaGreatDoorCaRef
set_option linter.unusedSimpArgs false
set_option linter.unusedVariables false
namespace Go.Proofs.YtddmbnddgiebgaaGreatDoor
open Go Go.Abs
attribute [local irreducible] Ev PWp
set_option maxRecDepth 10000
set_option maxHeartbeats 4000000
def atE (rows:List R2) (l:Ln) (f:Fr):Bool:=bI (inR rows) l f&&decide (f.act=2)
end Go.Proofs.YtddmbnddgiebgaaGreatDoor
