import Derived.Test.YtppdefkgmegipaaGreatDoorAbsF
import Derived.Test.YtppdefkgmegipaaGreatDoorProg
import Derived.Test.YtppdefkgmegipaaGreatDoorChecked
import Derived.SizedLaws
import Derived.Test.YtppdefkgmegipaaGreatDoorRows
import Derived.SevenTiedAt
import Derived.JoinedOf
set_option linter.unusedSimpArgs false
set_option linter.unusedVariables false
namespace Go.Proofs.YtppdefkgmegipaaGreatDoor
open Go Go.Abs Go.ChangeShapes Go.WideShapes Go.ChangeAt Go.RowKit
set_option maxRecDepth 100000
theorem fact1 :Tryz.checked.prog.funcNamed Rows.whyNoneRow.func=some 3:=by kernel_rfl
theorem aCF :Tryz.f3.isInstance Tryz.checked.prog Rows.whyNoneRow.origin Rows.whyNoneRow.targs:=(of_decide_eq_true (by kernel_rfl))
theorem aCs :Tryz.f3.isWrapper Tryz.checked.prog Rows.whyNoneRow.wrapper Rows.whyNoneRow.mainSum:=(by unfold Func.isWrapper;first|rw [zp (by decide+kernel)];kernel_rfl|rw [zn (by decide+kernel)];exact ⟨rfl,rfl⟩)
theorem eW {a b:Bool} (ha:a=true) (hb:b=true):(a&&b)=true:=by rw [ha,hb];rfl
theorem aB8 :(Rows.whyNoneRow.wf (OpenSpec.ofChange Rows.whyNoneSpec))=true:=by kernel_rfl
theorem aCQ :(laidOutB Tryz.checked.prog)=true:=by kernel_rfl
theorem aCN :(mapsRowed Tryz.checked.prog)=true:=by kernel_rfl
theorem aCp :(Tryz.f3.params.all (Tryz.checked.prog.readableRec ·))=true:=by kernel_rfl
theorem aCy :(namedTie Tryz.checked.prog Rows.whyNoneRow.named Rows.whyNoneSpec.vars)=true:=by kernel_rfl
theorem aB4 :((Rows.whyNoneRow.stops==[]))=true:=by kernel_rfl
theorem aCM :((Tryz.checked.prog.stops==[]))=true:=by kernel_rfl
theorem aCU :((Rows.whyNoneRow.knobs==[]))=true:=by kernel_rfl
theorem aCC :((Tryz.checked.prog.stopKnobs==[]))=true:=by kernel_rfl
theorem aAB :((Rows.whyNoneRow.inPlace==Tryz.checked.prog.inPlace 3))=true:=by kernel_rfl
theorem aBl :((Rows.whyNoneRow.unfollowed==Tryz.checked.prog.unfollowed 3))=true:=by kernel_rfl
theorem aBG :((Rows.whyNoneRow.recurses==Tryz.checked.prog.recurses 3))=true:=by kernel_rfl
theorem aAI :((Rows.whyNoneRow.named==Tryz.checked.prog.varsNamed 3))=true:=by kernel_rfl
theorem aBi :((Rows.whyNoneRow.maps==(Tryz.f3.params.toList++Rows.whyNoneSpec.plain.varTypes Tryz.checked.prog).any (Tryz.checked.prog.mapsRec ·)))=true:=by kernel_rfl
theorem aA9 :((Rows.whyNoneRow.ifaces==(Tryz.f3.params.toList++Rows.whyNoneSpec.plain.varTypes Tryz.checked.prog).any (Tryz.checked.prog.ifacesRec ·)))=true:=by kernel_rfl
theorem aA3 :((Rows.whyNoneRow.mapsOut==Tryz.checked.prog.mapsAmong Tryz.f3.resultTypes.toList))=true:=by kernel_rfl
theorem aAU :((Rows.whyNoneRow.loops==(Tryz.f3.params.toList++Rows.whyNoneSpec.plain.varTypes Tryz.checked.prog).any (Tryz.checked.prog.loopsFrom ·)))=true:=by kernel_rfl
theorem aAC :((Rows.whyNoneRow.wideKeys==(Tryz.f3.params.toList++Rows.whyNoneSpec.plain.varTypes Tryz.checked.prog++Tryz.f3.resultTypes.toList).any (Tryz.checked.prog.wideKeysFrom ·)))=true:=by kernel_rfl
theorem aBp :(Rows.whyNoneSpec.vars.all (Tryz.checked.prog.varReadable ·))=true:=by kernel_rfl
theorem aBn :(Tryz.f3.resultTypes.all (λt=>Tryz.checked.prog.readableRec t&&decide (t<Tryz.checked.prog.types.size)))=true:=by kernel_rfl
theorem aBN :((Rows.whyNoneRow.ifacesOut==Tryz.f3.resultTypes.toList.any (Tryz.checked.prog.ifacesRec ·)))=true:=by kernel_rfl
theorem aAJ :((Rows.whyNoneRow.loopsOut==Tryz.f3.resultTypes.toList.any (Tryz.checked.prog.loopsFrom ·)))=true:=by kernel_rfl
theorem aAV :((Rows.whyNoneRow.plainKeys==Tryz.checked.prog.plainKeys))=true:=by kernel_rfl
theorem aAF :(Rows.whyNoneRow.shortTexts.isNone)=true:=by kernel_rfl
theorem aBM :(Tryz.checked.prog.stopsHeard)=true:=by kernel_rfl
theorem aAZ :(Tryz.checked.prog.mayEnter)=true:=by kernel_rfl
theorem aA2 :((Rows.whyNoneRow.lifted==Tryz.checked.prog.liftsFinal))=true:=by kernel_rfl
theorem aBm :((Tryz.checked.prog.make==some Rows.whyNoneRow.make))=true:=by kernel_rfl
theorem aA0 :((Rows.whyNoneRow.kinds==(if Rows.whyNoneRow.domain.isEmpty then [] else Tryz.f3.params.toList.map λt=>match Tryz.checked.prog.underlying t with|some (.int k)=>some k|_=>none)))=true:=by kernel_rfl
theorem aBw :((Rows.whyNoneRow.pinned==Rows.whyNoneRow.pinnedBy))=true:=by kernel_rfl
theorem aAW :((Rows.whyNoneRow.veiled==(Tryz.f3.params.toList++Rows.whyNoneSpec.plain.varTypes Tryz.checked.prog++Tryz.f3.resultTypes.toList).any (Tryz.checked.prog.veiledRec ·)))=true:=by kernel_rfl
theorem aAR :(Rows.whyNoneRow.veiledFits Tryz.checked.prog Tryz.f3.params.toList (Tryz.f3.params.toList++Rows.whyNoneSpec.plain.varTypes Tryz.checked.prog++Tryz.f3.resultTypes.toList))=true:=by kernel_rfl
theorem aCh :joinedFacts Tryz.checked.prog 3 Tryz.f3 Rows.whyNoneSpec Rows.whyNoneRow=true:=by
 unfold joinedFacts
 exact eW (eW (eW (eW (eW (eW (eW (eW (eW (eW (eW (eW (eW (eW (eW (eW (eW (eW (eW (eW (eW (eW (eW (eW (eW (eW (eW (eW (eW (eW (eW (aB8) aCQ) aCN) aCp) aCy) aB4) aCM) aCU) aCC) aAB) aBl) aBG) aAI) aBi) aA9) aA3) aAU) aAC) aBp) aBn) aBN) aAJ) aAV) aAF) aBM) aAZ) aA2) aBm) aA0) aBw) aAW) aAR
theorem aCr :Rows.whyNoneRow.wfByText (OpenSpec.ofChange Rows.whyNoneSpec)=true:=by kernel_rfl
theorem aCE : Tryz.checked.prog.mainIs = some ((true, "5ec13e2cfb7902a87225f2635569ea761ef61dc8663b52557747c8f96f3a9824").1, (true, "5ec13e2cfb7902a87225f2635569ea761ef61dc8663b52557747c8f96f3a9824").2.toList) := by kernel_rfl
theorem aCJ :false=Tryz.checked.prog.looks []:=by kernel_rfl
theorem aBZ :false=Rows.whyNoneRow.goesBy Tryz.checked.prog:=by kernel_rfl
theorem aDr :Tryz.checked.prog.funcNamed Rows.whyNoneRow.func=some 3:=fact1
theorem aAQ :Tryz.checked.prog.wantsStandIn 24=false:=by kernel_rfl
theorem aBS :Tryz.checked.prog.wantsStandIn 27=false:=by kernel_rfl
theorem aBy :Tryz.checked.prog.wantsStandIn 33=false:=by kernel_rfl
theorem aA6 :Tryz.checked.prog.wantsStandIn 35=false:=by kernel_rfl
theorem aBe :Tryz.checked.prog.wantsStandIn 36=false:=by kernel_rfl
theorem aBR :Tryz.checked.prog.wantsStandIn 37=false:=by kernel_rfl
end Go.Proofs.YtppdefkgmegipaaGreatDoor
