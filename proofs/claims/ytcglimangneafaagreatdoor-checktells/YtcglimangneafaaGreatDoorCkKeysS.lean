import Derived.Test.YtcglimangneafaaGreatDoorCkAwake
set_option linter.unusedSimpArgs false
set_option linter.unusedVariables false
namespace Go.Proofs.YtcglimangneafaaGreatDoor
open Go Go.Abs
attribute [local irreducible] Ev PWp
set_option maxRecDepth 10000
set_option maxHeartbeats 4000000
structure ScG (s:Sc):Prop where
  l:s.length<200000000000000
  b:ScB s
  k:∀t∈s,mB t
end Go.Proofs.YtcglimangneafaaGreatDoor
