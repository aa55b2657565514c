import Derived.Test.YtcglimangneafaaGreatDoorCkArgs
import Derived.Test.YtcglimangneafaaGreatDoorCkFirstS
set_option linter.unusedSimpArgs false
set_option linter.unusedVariables false
namespace Go.Proofs.YtcglimangneafaaGreatDoor
open Go Go.Abs Go.ChangeShapes Go.WideShapes Go.ChangeAt Go.RowKit
set_option maxRecDepth 10000
theorem avW {N n:Nat} {ps:List PV} (h:bK Tryz.prog N n 56 ps):∃v:{l:List Int//∀x∈l,0≤x∧x≤255},ps=[.seq (v.1.map U8)]:=by
  obtain ⟨_,rows,_,rfl,_,hr⟩:=cQ aG rfl h
  obtain ⟨l,rfl,_,hq⟩:=xJ (f:=U8) (Q:=fun x=>0≤x∧x≤255) fun r hr'=>by
    obtain ⟨x,rfl,w⟩:=bR aG rfl (hr r hr')
    exact ⟨x,rfl,by simpa [Lit.wf,IntKind.min,IntKind.max,IntKind.signed,IntKind.bits] using w⟩
  exact ⟨⟨l,hq⟩,rfl⟩
end Go.Proofs.YtcglimangneafaaGreatDoor
