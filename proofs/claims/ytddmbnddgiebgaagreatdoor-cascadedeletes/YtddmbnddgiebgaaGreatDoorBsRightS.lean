import Derived.Test.YtddmbnddgiebgaaGreatDoorBsRLine
set_option linter.unusedSimpArgs false
set_option linter.unusedVariables false
namespace Go.Proofs.YtddmbnddgiebgaaGreatDoor
open Go Go.Abs
attribute [local irreducible] Ev PWp
set_option maxRecDepth 10000
set_option maxHeartbeats 4000000
theorem BsS.dar {n:Nat} {b:Bs} (h:BsS n b) (hn:n≤1000):∀d∈b,asA d:=fun d hd=>by
  obtain ⟨h1,h2⟩:=h.2 d hd
  refine ⟨by omega,fun l hl=> ?_⟩
  obtain ⟨q1,q2,q3⟩:=h2 l hl
  exact ⟨⟨by omega,by omega⟩,fun c hc=>by have:=q3 c hc;omega⟩
theorem yZ {n:Nat} {b:Bs} (h:BsS n b) (hn:n≤1000) {s:Sc} (hs:ScB s) (hl:s.length≤20):PF Tryz.prog 30 [.agg (scC s), .agg (bsC b)] (PV.val (Value.bool (dW T.rightP s b))):=
  aaH s b (by omega) hs (by have:=h.1;omega) (h.dar hn)
end Go.Proofs.YtddmbnddgiebgaaGreatDoor
