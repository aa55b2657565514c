import Derived.Test.YtloecjjehapblaaGreatDoorAbsF
import Derived.Test.YtloecjjehapblaaGreatDoorProg
import Derived.Test.YtloecjjehapblaaGreatDoorChecked
import Derived.SizedLaws
import Derived.Test.YtloecjjehapblaaGreatDoorRows
import Derived.SevenTiedAt
import Derived.JoinedOf
set_option linter.unusedSimpArgs false
set_option linter.unusedVariables false
namespace Go.Proofs.YtloecjjehapblaaGreatDoor
open Go Go.Abs Go.ChangeShapes Go.WideShapes Go.ChangeAt Go.RowKit
set_option maxRecDepth 100000
theorem fact1 :Tryz.checked.prog.funcNamed Rows.opGoodRow.func=some 4:=by kernel_rfl
theorem aGF :Tryz.f4.isInstance Tryz.checked.prog Rows.opGoodRow.origin Rows.opGoodRow.targs:=(of_decide_eq_true (by kernel_rfl))
theorem aGm :Tryz.f4.isWrapper Tryz.checked.prog Rows.opGoodRow.wrapper Rows.opGoodRow.mainSum:=(by unfold Func.isWrapper;first|rw [if_pos (by decide+kernel)];kernel_rfl|rw [if_neg (by decide+kernel)];exact ⟨rfl,rfl⟩)
theorem fU {a b:Bool} (ha:a=true) (hb:b=true):(a&&b)=true:=by rw [ha,hb];rfl
theorem aFY :(Rows.opGoodRow.wf (OpenSpec.ofChange Rows.opGoodSpec))=true:=by kernel_rfl
theorem aGR :(laidOutB Tryz.checked.prog)=true:=by kernel_rfl
theorem aGN :(mapsRowed Tryz.checked.prog)=true:=by kernel_rfl
theorem aGh :(Tryz.f4.params.all (Tryz.checked.prog.readableRec ·))=true:=by kernel_rfl
theorem aGs :(namedTie Tryz.checked.prog Rows.opGoodRow.named Rows.opGoodSpec.vars)=true:=by kernel_rfl
theorem aFW :((Rows.opGoodRow.stops==[]))=true:=by kernel_rfl
theorem aGM :((Tryz.checked.prog.stops==[]))=true:=by kernel_rfl
theorem aGT :((Rows.opGoodRow.knobs==[]))=true:=by kernel_rfl
theorem aGA :((Tryz.checked.prog.stopKnobs==[]))=true:=by kernel_rfl
theorem aEa :((Rows.opGoodRow.inPlace==Tryz.checked.prog.inPlace 4))=true:=by kernel_rfl
theorem aE4 :((Rows.opGoodRow.unfollowed==Tryz.checked.prog.unfollowed 4))=true:=by kernel_rfl
theorem aFv :((Rows.opGoodRow.recurses==Tryz.checked.prog.recurses 4))=true:=by kernel_rfl
theorem aEk :((Rows.opGoodRow.named==Tryz.checked.prog.varsNamed 4))=true:=by kernel_rfl
theorem aE1 :((Rows.opGoodRow.maps==(Tryz.f4.params.toList++Rows.opGoodSpec.plain.varTypes Tryz.checked.prog).any (Tryz.checked.prog.mapsRec ·)))=true:=by kernel_rfl
theorem aEU :((Rows.opGoodRow.ifaces==(Tryz.f4.params.toList++Rows.opGoodSpec.plain.varTypes Tryz.checked.prog).any (Tryz.checked.prog.ifacesRec ·)))=true:=by kernel_rfl
theorem aEK :((Rows.opGoodRow.mapsOut==Tryz.checked.prog.mapsAmong Tryz.f4.resultTypes.toList))=true:=by kernel_rfl
theorem aEx :((Rows.opGoodRow.loops==(Tryz.f4.params.toList++Rows.opGoodSpec.plain.varTypes Tryz.checked.prog).any (Tryz.checked.prog.loopsFrom ·)))=true:=by kernel_rfl
theorem aEd :((Rows.opGoodRow.wideKeys==(Tryz.f4.params.toList++Rows.opGoodSpec.plain.varTypes Tryz.checked.prog++Tryz.f4.resultTypes.toList).any (Tryz.checked.prog.wideKeysFrom ·)))=true:=by kernel_rfl
theorem aFb :(Rows.opGoodSpec.vars.all (Tryz.checked.prog.varReadable ·))=true:=by kernel_rfl
theorem aE8 :(Tryz.f4.resultTypes.all (λt=>Tryz.checked.prog.readableRec t&&decide (t<Tryz.checked.prog.types.size)))=true:=by kernel_rfl
theorem aFC :((Rows.opGoodRow.ifacesOut==Tryz.f4.resultTypes.toList.any (Tryz.checked.prog.ifacesRec ·)))=true:=by kernel_rfl
theorem aEn :((Rows.opGoodRow.loopsOut==Tryz.f4.resultTypes.toList.any (Tryz.checked.prog.loopsFrom ·)))=true:=by kernel_rfl
theorem aEy :((Rows.opGoodRow.plainKeys==Tryz.checked.prog.plainKeys))=true:=by kernel_rfl
theorem aEg :(Rows.opGoodRow.shortTexts.isNone)=true:=by kernel_rfl
theorem aFy :(Tryz.checked.prog.stopsHeard)=true:=by kernel_rfl
theorem aEC :(Tryz.checked.prog.mayEnter)=true:=by kernel_rfl
theorem aEJ :((Rows.opGoodRow.lifted==Tryz.checked.prog.liftsFinal))=true:=by kernel_rfl
theorem aE6 :((Tryz.checked.prog.make==some Rows.opGoodRow.make))=true:=by kernel_rfl
theorem aEE :((Rows.opGoodRow.kinds==(if Rows.opGoodRow.domain.isEmpty then [] else Tryz.f4.params.toList.map λt=>match Tryz.checked.prog.underlying t with|some (.int k)=>some k|_=>none)))=true:=by kernel_rfl
theorem aFl :((Rows.opGoodRow.pinned==Rows.opGoodRow.pinnedBy))=true:=by kernel_rfl
theorem aEz :((Rows.opGoodRow.veiled==(Tryz.f4.params.toList++Rows.opGoodSpec.plain.varTypes Tryz.checked.prog++Tryz.f4.resultTypes.toList).any (Tryz.checked.prog.veiledRec ·)))=true:=by kernel_rfl
theorem aEv :(Rows.opGoodRow.veiledFits Tryz.checked.prog Tryz.f4.params.toList (Tryz.f4.params.toList++Rows.opGoodSpec.plain.varTypes Tryz.checked.prog++Tryz.f4.resultTypes.toList))=true:=by kernel_rfl
theorem aGa :joinedFacts Tryz.checked.prog 4 Tryz.f4 Rows.opGoodSpec Rows.opGoodRow=true:=by
 unfold joinedFacts
 exact fU (fU (fU (fU (fU (fU (fU (fU (fU (fU (fU (fU (fU (fU (fU (fU (fU (fU (fU (fU (fU (fU (fU (fU (fU (fU (fU (fU (fU (fU (fU (aFY) aGR) aGN) aGh) aGs) aFW) aGM) aGT) aGA) aEa) aE4) aFv) aEk) aE1) aEU) aEK) aEx) aEd) aFb) aE8) aFC) aEn) aEy) aEg) aFy) aEC) aEJ) aE6) aEE) aFl) aEz) aEv
theorem aGl :Rows.opGoodRow.wfByText (OpenSpec.ofChange Rows.opGoodSpec)=true:=by kernel_rfl
theorem aGE : Tryz.checked.prog.mainIs = some ((true, "d1370e1fadb3af4c411a2b3eecb37007d056ee24850089c118eba4ba415d0123").1, (true, "d1370e1fadb3af4c411a2b3eecb37007d056ee24850089c118eba4ba415d0123").2.toList) := by kernel_rfl
theorem aGJ :false=Tryz.checked.prog.looks []:=by kernel_rfl
theorem aFM :false=Rows.opGoodRow.goesBy Tryz.checked.prog:=by kernel_rfl
theorem aHo :Tryz.checked.prog.funcNamed Rows.opGoodRow.func=some 4:=fact1
theorem aEu :Tryz.checked.prog.wantsStandIn 24=false:=by kernel_rfl
theorem aFF :Tryz.checked.prog.wantsStandIn 27=false:=by kernel_rfl
theorem aFn :Tryz.checked.prog.wantsStandIn 45=false:=by kernel_rfl
theorem aEP :Tryz.checked.prog.wantsStandIn 47=false:=by kernel_rfl
theorem aEY :Tryz.checked.prog.wantsStandIn 48=false:=by kernel_rfl
end Go.Proofs.YtloecjjehapblaaGreatDoor
