import Derived.Test.YtloecjjehapblaaGreatDoorAbsF
import Derived.Test.YtloecjjehapblaaGreatDoorProg
import Derived.Test.YtloecjjehapblaaGreatDoorChecked
import Derived.SizedLaws
import Derived.Test.YtloecjjehapblaaGreatDoorRows
import Derived.SevenTiedAt
import Derived.JoinedOf
set_option linter.unusedSimpArgs false
set_option linter.unusedVariables false
namespace Go.Proofs.YtloecjjehapblaaGreatDoor
open Go Go.Abs Go.ChangeShapes Go.WideShapes Go.ChangeAt Go.RowKit
set_option maxRecDepth 100000
theorem fact1 :Tryz.checked.prog.funcNamed Rows.opApartRow.func=some 7:=by kernel_rfl
theorem alW :Tryz.f7.isInstance Tryz.checked.prog Rows.opApartRow.origin Rows.opApartRow.targs:=(of_decide_eq_true (by kernel_rfl))
theorem akP :Tryz.f7.isWrapper Tryz.checked.prog Rows.opApartRow.wrapper Rows.opApartRow.mainSum:=(by unfold Func.isWrapper;first|rw [zp (by decide+kernel)];kernel_rfl|rw [zn (by decide+kernel)];exact ⟨rfl,rfl⟩)
theorem bQ {a b:Bool} (ha:a=true) (hb:b=true):(a&&b)=true:=by rw [ha,hb];rfl
theorem ajA :(Rows.opApartRow.wf (OpenSpec.ofChange Rows.opApartSpec))=true:=by kernel_rfl
theorem amR :(laidOutB Tryz.checked.prog)=true:=by kernel_rfl
theorem amJ :(mapsRowed Tryz.checked.prog)=true:=by kernel_rfl
theorem akK :(Tryz.f7.params.all (Tryz.checked.prog.readableRec ·))=true:=by kernel_rfl
theorem alH :(namedTie Tryz.checked.prog Rows.opApartRow.named Rows.opApartSpec.vars)=true:=by kernel_rfl
theorem aiZ :((Rows.opApartRow.stops==[]))=true:=by kernel_rfl
theorem amI :((Tryz.checked.prog.stops==[]))=true:=by kernel_rfl
theorem amW :((Rows.opApartRow.knobs==[]))=true:=by kernel_rfl
theorem alO :((Tryz.checked.prog.stopKnobs==[]))=true:=by kernel_rfl
theorem yM :((Rows.opApartRow.inPlace==Tryz.checked.prog.inPlace 7))=true:=by kernel_rfl
theorem abH :((Rows.opApartRow.unfollowed==Tryz.checked.prog.unfollowed 7))=true:=by kernel_rfl
theorem acD :((Rows.opApartRow.recurses==Tryz.checked.prog.recurses 7))=true:=by kernel_rfl
theorem zC :((Rows.opApartRow.named==Tryz.checked.prog.varsNamed 7))=true:=by kernel_rfl
theorem abD :((Rows.opApartRow.maps==(Tryz.f7.params.toList++Rows.opApartSpec.plain.varTypes Tryz.checked.prog).any (Tryz.checked.prog.mapsRec ·)))=true:=by kernel_rfl
theorem aaU :((Rows.opApartRow.ifaces==(Tryz.f7.params.toList++Rows.opApartSpec.plain.varTypes Tryz.checked.prog).any (Tryz.checked.prog.ifacesRec ·)))=true:=by kernel_rfl
theorem aaL :((Rows.opApartRow.mapsOut==Tryz.checked.prog.mapsAmong Tryz.f7.resultTypes.toList))=true:=by kernel_rfl
theorem zY :((Rows.opApartRow.loops==(Tryz.f7.params.toList++Rows.opApartSpec.plain.varTypes Tryz.checked.prog).any (Tryz.checked.prog.loopsFrom ·)))=true:=by kernel_rfl
theorem yT :((Rows.opApartRow.wideKeys==(Tryz.f7.params.toList++Rows.opApartSpec.plain.varTypes Tryz.checked.prog++Tryz.f7.resultTypes.toList).any (Tryz.checked.prog.wideKeysFrom ·)))=true:=by kernel_rfl
theorem abO :(Rows.opApartSpec.vars.all (Tryz.checked.prog.varReadable ·))=true:=by kernel_rfl
theorem abL :(Tryz.f7.resultTypes.all (λt=>Tryz.checked.prog.readableRec t&&decide (t<Tryz.checked.prog.types.size)))=true:=by kernel_rfl
theorem acM :((Rows.opApartRow.ifacesOut==Tryz.f7.resultTypes.toList.any (Tryz.checked.prog.ifacesRec ·)))=true:=by kernel_rfl
theorem zH :((Rows.opApartRow.loopsOut==Tryz.f7.resultTypes.toList.any (Tryz.checked.prog.loopsFrom ·)))=true:=by kernel_rfl
theorem aaB :((Rows.opApartRow.plainKeys==Tryz.checked.prog.plainKeys))=true:=by kernel_rfl
theorem yW :(Rows.opApartRow.shortTexts.isNone)=true:=by kernel_rfl
theorem acL :(Tryz.checked.prog.stopsHeard)=true:=by kernel_rfl
theorem aaD :(Tryz.checked.prog.mayEnter)=true:=by kernel_rfl
theorem aaJ :((Rows.opApartRow.lifted==Tryz.checked.prog.liftsFinal))=true:=by kernel_rfl
theorem abK :((Tryz.checked.prog.make==some Rows.opApartRow.make))=true:=by kernel_rfl
theorem aaE :((Rows.opApartRow.kinds==(if Rows.opApartRow.domain.isEmpty then [] else Tryz.f7.params.toList.map λt=>match Tryz.checked.prog.underlying t with|some (.int k)=>some k|_=>none)))=true:=by kernel_rfl
theorem abX :((Rows.opApartRow.pinned==Rows.opApartRow.pinnedBy))=true:=by kernel_rfl
theorem aaC :((Rows.opApartRow.veiled==(Tryz.f7.params.toList++Rows.opApartSpec.plain.varTypes Tryz.checked.prog++Tryz.f7.resultTypes.toList).any (Tryz.checked.prog.veiledRec ·)))=true:=by kernel_rfl
theorem zR :(Rows.opApartRow.veiledFits Tryz.checked.prog Tryz.f7.params.toList (Tryz.f7.params.toList++Rows.opApartSpec.plain.varTypes Tryz.checked.prog++Tryz.f7.resultTypes.toList))=true:=by kernel_rfl
theorem ajR :joinedFacts Tryz.checked.prog 7 Tryz.f7 Rows.opApartSpec Rows.opApartRow=true:=by
 unfold joinedFacts
 exact bQ (bQ (bQ (bQ (bQ (bQ (bQ (bQ (bQ (bQ (bQ (bQ (bQ (bQ (bQ (bQ (bQ (bQ (bQ (bQ (bQ (bQ (bQ (bQ (bQ (bQ (bQ (bQ (bQ (bQ (bQ (ajA) amR) amJ) akK) alH) aiZ) amI) amW) alO) yM) abH) acD) zC) abD) aaU) aaL) zY) yT) abO) abL) acM) zH) aaB) yW) acL) aaD) aaJ) abK) aaE) abX) aaC) zR
theorem akO :Rows.opApartRow.wfByText (OpenSpec.ofChange Rows.opApartSpec)=true:=by kernel_rfl
theorem alR : Tryz.checked.prog.mainIs = some ((true, "d1370e1fadb3af4c411a2b3eecb37007d056ee24850089c118eba4ba415d0123").1, (true, "d1370e1fadb3af4c411a2b3eecb37007d056ee24850089c118eba4ba415d0123").2.toList) := by kernel_rfl
theorem amA :false=Tryz.checked.prog.looks []:=by kernel_rfl
theorem aiJ :false=Rows.opApartRow.goesBy Tryz.checked.prog:=by kernel_rfl
theorem aEu :Tryz.checked.prog.funcNamed Rows.opApartRow.func=some 7:=fact1
theorem zQ :Tryz.checked.prog.wantsStandIn 24=false:=by kernel_rfl
theorem acQ :Tryz.checked.prog.wantsStandIn 27=false:=by kernel_rfl
theorem abY :Tryz.checked.prog.wantsStandIn 47=false:=by kernel_rfl
theorem aaQ :Tryz.checked.prog.wantsStandIn 48=false:=by kernel_rfl
theorem aaX :Tryz.checked.prog.wantsStandIn 61=false:=by kernel_rfl
end Go.Proofs.YtloecjjehapblaaGreatDoor
