import Derived.Test.YtloecjjehapblaaGreatDoorAcF
import Derived.Test.YtloecjjehapblaaGreatDoorProg
import Derived.Test.YtloecjjehapblaaGreatDoorChecked
import Derived.SizedLaws
import Derived.Test.YtloecjjehapblaaGreatDoorRows
import Derived.SevenTiedAt
import Derived.JoinedOf
set_option linter.unusedSimpArgs false
set_option linter.unusedVariables false
namespace Go.Proofs.YtloecjjehapblaaGreatDoor
open Go Go.Abs Go.ChangeShapes Go.WideShapes Go.ChangeAt Go.RowKit
set_option maxRecDepth 100000
theorem fact1 :Tryz.checked.prog.funcNamed Rows.opKnowsRow.func=some 8:=by kernel_rfl
theorem aGz :Tryz.f8.isInstance Tryz.checked.prog Rows.opKnowsRow.origin Rows.opKnowsRow.targs:=(of_decide_eq_true (by kernel_rfl))
theorem aGk :Tryz.f8.isWrapper Tryz.checked.prog Rows.opKnowsRow.wrapper Rows.opKnowsRow.mainSum:=(by unfold Func.isWrapper;first|rw [zp (by decide+kernel)];kernel_rfl|rw [zn (by decide+kernel)];exact ⟨rfl,rfl⟩)
theorem fW {a b:Bool} (ha:a=true) (hb:b=true):(a&&b)=true:=by rw [ha,hb];rfl
theorem aF0 :(Rows.opKnowsRow.wf (OpenSpec.ofChange Rows.opKnowsSpec))=true:=by kernel_rfl
theorem aGL :(laidOutB Tryz.checked.prog)=true:=by kernel_rfl
theorem aGH :(mapsRowed Tryz.checked.prog)=true:=by kernel_rfl
theorem aGg :(Tryz.f8.params.all (Tryz.checked.prog.readableRec ·))=true:=by kernel_rfl
theorem aGp :(namedTie Tryz.checked.prog Rows.opKnowsRow.named Rows.opKnowsSpec.vars)=true:=by kernel_rfl
theorem aFY :((Rows.opKnowsRow.stops==[]))=true:=by kernel_rfl
theorem aGG :((Tryz.checked.prog.stops==[]))=true:=by kernel_rfl
theorem aGN :((Rows.opKnowsRow.knobs==[]))=true:=by kernel_rfl
theorem aGv :((Tryz.checked.prog.stopKnobs==[]))=true:=by kernel_rfl
theorem aD6 :((Rows.opKnowsRow.inPlace==Tryz.checked.prog.inPlace 8))=true:=by kernel_rfl
theorem aE4 :((Rows.opKnowsRow.unfollowed==Tryz.checked.prog.unfollowed 8))=true:=by kernel_rfl
theorem aFv :((Rows.opKnowsRow.recurses==Tryz.checked.prog.recurses 8))=true:=by kernel_rfl
theorem aEg :((Rows.opKnowsRow.named==Tryz.checked.prog.varsNamed 8))=true:=by kernel_rfl
theorem aE1 :((Rows.opKnowsRow.maps==(Tryz.f8.params.toList++Rows.opKnowsSpec.plain.varTypes Tryz.checked.prog).any (Tryz.checked.prog.mapsRec ·)))=true:=by kernel_rfl
theorem aES :((Rows.opKnowsRow.ifaces==(Tryz.f8.params.toList++Rows.opKnowsSpec.plain.varTypes Tryz.checked.prog).any (Tryz.checked.prog.ifacesRec ·)))=true:=by kernel_rfl
theorem aEJ :((Rows.opKnowsRow.mapsOut==Tryz.checked.prog.mapsAmong Tryz.f8.resultTypes.toList))=true:=by kernel_rfl
theorem aEw :((Rows.opKnowsRow.loops==(Tryz.f8.params.toList++Rows.opKnowsSpec.plain.varTypes Tryz.checked.prog).any (Tryz.checked.prog.loopsFrom ·)))=true:=by kernel_rfl
theorem aD9 :((Rows.opKnowsRow.wideKeys==(Tryz.f8.params.toList++Rows.opKnowsSpec.plain.varTypes Tryz.checked.prog++Tryz.f8.resultTypes.toList).any (Tryz.checked.prog.wideKeysFrom ·)))=true:=by kernel_rfl
theorem aFc :(Rows.opKnowsSpec.vars.all (Tryz.checked.prog.varReadable ·))=true:=by kernel_rfl
theorem aE9 :(Tryz.f8.resultTypes.all (λt=>Tryz.checked.prog.readableRec t&&decide (t<Tryz.checked.prog.types.size)))=true:=by kernel_rfl
theorem aFD :((Rows.opKnowsRow.ifacesOut==Tryz.f8.resultTypes.toList.any (Tryz.checked.prog.ifacesRec ·)))=true:=by kernel_rfl
theorem aEk :((Rows.opKnowsRow.loopsOut==Tryz.f8.resultTypes.toList.any (Tryz.checked.prog.loopsFrom ·)))=true:=by kernel_rfl
theorem aEx :((Rows.opKnowsRow.plainKeys==Tryz.checked.prog.plainKeys))=true:=by kernel_rfl
theorem aEc :(Rows.opKnowsRow.shortTexts.isNone)=true:=by kernel_rfl
theorem aFz :(Tryz.checked.prog.stopsHeard)=true:=by kernel_rfl
theorem aEB :(Tryz.checked.prog.mayEnter)=true:=by kernel_rfl
theorem aEI :((Rows.opKnowsRow.lifted==Tryz.checked.prog.liftsFinal))=true:=by kernel_rfl
theorem aE7 :((Tryz.checked.prog.make==some Rows.opKnowsRow.make))=true:=by kernel_rfl
theorem aED :((Rows.opKnowsRow.kinds==(if Rows.opKnowsRow.domain.isEmpty then [] else Tryz.f8.params.toList.map λt=>match Tryz.checked.prog.underlying t with|some (.int k)=>some k|_=>none)))=true:=by kernel_rfl
theorem aFl :((Rows.opKnowsRow.pinned==Rows.opKnowsRow.pinnedBy))=true:=by kernel_rfl
theorem aEy :((Rows.opKnowsRow.veiled==(Tryz.f8.params.toList++Rows.opKnowsSpec.plain.varTypes Tryz.checked.prog++Tryz.f8.resultTypes.toList).any (Tryz.checked.prog.veiledRec ·)))=true:=by kernel_rfl
theorem aEu :(Rows.opKnowsRow.veiledFits Tryz.checked.prog Tryz.f8.params.toList (Tryz.f8.params.toList++Rows.opKnowsSpec.plain.varTypes Tryz.checked.prog++Tryz.f8.resultTypes.toList))=true:=by kernel_rfl
theorem aGb :joinedFacts Tryz.checked.prog 8 Tryz.f8 Rows.opKnowsSpec Rows.opKnowsRow=true:=by
 unfold joinedFacts
 exact fW (fW (fW (fW (fW (fW (fW (fW (fW (fW (fW (fW (fW (fW (fW (fW (fW (fW (fW (fW (fW (fW (fW (fW (fW (fW (fW (fW (fW (fW (fW (aF0) aGL) aGH) aGg) aGp) aFY) aGG) aGN) aGv) aD6) aE4) aFv) aEg) aE1) aES) aEJ) aEw) aD9) aFc) aE9) aFD) aEk) aEx) aEc) aFz) aEB) aEI) aE7) aED) aFl) aEy) aEu
theorem aGj :Rows.opKnowsRow.wfByText (OpenSpec.ofChange Rows.opKnowsSpec)=true:=by kernel_rfl
theorem aGy : Tryz.checked.prog.mainIs = some ((true, "d1370e1fadb3af4c411a2b3eecb37007d056ee24850089c118eba4ba415d0123").1, (true, "d1370e1fadb3af4c411a2b3eecb37007d056ee24850089c118eba4ba415d0123").2.toList) := by kernel_rfl
theorem aGE :false=Tryz.checked.prog.looks []:=by kernel_rfl
theorem aFO :false=Rows.opKnowsRow.goesBy Tryz.checked.prog:=by kernel_rfl
theorem aHh :Tryz.checked.prog.funcNamed Rows.opKnowsRow.func=some 8:=fact1
theorem aEt :Tryz.checked.prog.wantsStandIn 4=false:=by kernel_rfl
theorem aFG :Tryz.checked.prog.wantsStandIn 73=false:=by kernel_rfl
end Go.Proofs.YtloecjjehapblaaGreatDoor
