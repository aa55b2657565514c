import Derived.Test.YtkaliolnijkadaaGreatDoorBsRefS
set_option linter.unusedSimpArgs false
set_option linter.unusedVariables false
namespace Go.Proofs.YtkaliolnijkadaaGreatDoor
open Go Go.Abs
end Go.Proofs.YtkaliolnijkadaaGreatDoor
