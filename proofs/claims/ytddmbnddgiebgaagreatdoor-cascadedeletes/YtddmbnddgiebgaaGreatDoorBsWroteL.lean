import Derived.Test.YtddmbnddgiebgaaGreatDoorBsRefS
set_option linter.unusedSimpArgs false
set_option linter.unusedVariables false
namespace Go.Proofs.YtddmbnddgiebgaaGreatDoor
open Go Go.Abs
end Go.Proofs.YtddmbnddgiebgaaGreatDoor
