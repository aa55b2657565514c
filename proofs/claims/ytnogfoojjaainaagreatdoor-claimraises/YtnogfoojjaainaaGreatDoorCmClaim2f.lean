import Derived.Test.YtnogfoojjaainaaGreatDoorAbsF
import Derived.Test.YtnogfoojjaainaaGreatDoorProg
import Derived.Test.YtnogfoojjaainaaGreatDoorChecked
import Derived.SizedLaws
import Derived.Test.YtnogfoojjaainaaGreatDoorRows
import Derived.SevenTiedAt
import Derived.JoinedOf
set_option linter.unusedSimpArgs false
set_option linter.unusedVariables false
namespace Go.Proofs.YtnogfoojjaainaaGreatDoor
open Go Go.Abs Go.ChangeShapes Go.WideShapes Go.ChangeAt Go.RowKit
set_option maxRecDepth 100000
theorem fact1 :Tryz.checked.prog.funcNamed Rows.claimRaisesRow.func=some 4:=by kernel_rfl
theorem aKQ :Tryz.f4.isInstance Tryz.checked.prog Rows.claimRaisesRow.origin Rows.claimRaisesRow.targs:=(of_decide_eq_true (by kernel_rfl))
theorem aKw :Tryz.f4.isWrapper Tryz.checked.prog Rows.claimRaisesRow.wrapper Rows.claimRaisesRow.mainSum:=(by unfold Func.isWrapper;first|rw[zp (by decide+kernel)];kernel_rfl|rw[zn (by decide+kernel)];exact⟨rfl,rfl⟩)
theorem gO{a b:Bool}(ha:a=true)(hb:b=true):(a&&b)=true:=by rw[ha,hb];rfl
theorem aKa :(Rows.claimRaisesRow.wf (OpenSpec.ofChange Rows.claimRaisesSpec))=true:=by kernel_rfl
theorem aK4 :(laidOutB Tryz.checked.prog)=true:=by kernel_rfl
theorem aKY :(mapsRowed Tryz.checked.prog)=true:=by kernel_rfl
theorem aKt :(Tryz.f4.params.all (Tryz.checked.prog.readableRec ·))=true:=by kernel_rfl
theorem aKF :(namedTie Tryz.checked.prog Rows.claimRaisesRow.named Rows.claimRaisesSpec.vars)=true:=by kernel_rfl
theorem aJ8 :(Rows.claimRaisesRow.stops==[])=true:=by kernel_rfl
theorem aKX :(Tryz.checked.prog.stops==[])=true:=by kernel_rfl
theorem aK7 :(Rows.claimRaisesRow.knobs==[])=true:=by kernel_rfl
theorem aKL :(Tryz.checked.prog.stopKnobs==[])=true:=by kernel_rfl
theorem aIm :(Rows.claimRaisesRow.inPlace==Tryz.checked.prog.inPlace 4)=true:=by kernel_rfl
theorem aJo :(Rows.claimRaisesRow.unfollowed==Tryz.checked.prog.unfollowed 4)=true:=by kernel_rfl
theorem aJL :(Rows.claimRaisesRow.recurses==Tryz.checked.prog.recurses 4)=true:=by kernel_rfl
theorem aIz :(Rows.claimRaisesRow.named==Tryz.checked.prog.varsNamed 4)=true:=by kernel_rfl
theorem aJj :(Rows.claimRaisesRow.maps==(Tryz.f4.params.toList++Rows.claimRaisesSpec.plain.varTypes Tryz.checked.prog).any (Tryz.checked.prog.mapsRec ·))=true:=by kernel_rfl
theorem aJc :(Rows.claimRaisesRow.ifaces==(Tryz.f4.params.toList++Rows.claimRaisesSpec.plain.varTypes Tryz.checked.prog).any (Tryz.checked.prog.ifacesRec ·))=true:=by kernel_rfl
theorem aI3 :(Rows.claimRaisesRow.mapsOut==Tryz.checked.prog.mapsAmong Tryz.f4.resultTypes.toList)=true:=by kernel_rfl
theorem aIO :(Rows.claimRaisesRow.loops==(Tryz.f4.params.toList++Rows.claimRaisesSpec.plain.varTypes Tryz.checked.prog).any (Tryz.checked.prog.loopsFrom ·))=true:=by kernel_rfl
theorem aIp :(Rows.claimRaisesRow.wideKeys==(Tryz.f4.params.toList++Rows.claimRaisesSpec.plain.varTypes Tryz.checked.prog++Tryz.f4.resultTypes.toList).any (Tryz.checked.prog.wideKeysFrom ·))=true:=by kernel_rfl
theorem aJv :(Rows.claimRaisesSpec.vars.all (Tryz.checked.prog.varReadable ·))=true:=by kernel_rfl
theorem aJs :(Tryz.f4.resultTypes.all λt=>Tryz.checked.prog.readableRec t&&decide (t<Tryz.checked.prog.types.size))=true:=by kernel_rfl
theorem aJS :(Rows.claimRaisesRow.ifacesOut==Tryz.f4.resultTypes.toList.any (Tryz.checked.prog.ifacesRec ·))=true:=by kernel_rfl
theorem aIC :(Rows.claimRaisesRow.loopsOut==Tryz.f4.resultTypes.toList.any (Tryz.checked.prog.loopsFrom ·))=true:=by kernel_rfl
theorem aIP :(Rows.claimRaisesRow.plainKeys==Tryz.checked.prog.plainKeys)=true:=by kernel_rfl
theorem aIt :(Rows.claimRaisesRow.shortTexts.isNone)=true:=by kernel_rfl
theorem aJN :(Tryz.checked.prog.stopsHeard)=true:=by kernel_rfl
theorem aIT :(Tryz.checked.prog.mayEnter)=true:=by kernel_rfl
theorem aI1 :(Rows.claimRaisesRow.lifted==Tryz.checked.prog.liftsFinal)=true:=by kernel_rfl
theorem aJq :(Tryz.checked.prog.make==some Rows.claimRaisesRow.make)=true:=by kernel_rfl
theorem aIW :(Rows.claimRaisesRow.kinds==(if Rows.claimRaisesRow.domain.isEmpty then[]else Tryz.f4.params.toList.map λt=>match Tryz.checked.prog.underlying t with|some (.int k)=>some k|_=>none))=true:=by kernel_rfl
theorem aJz :(Rows.claimRaisesRow.pinned==Rows.claimRaisesRow.pinnedBy)=true:=by kernel_rfl
theorem aIQ :(Rows.claimRaisesRow.veiled==(Tryz.f4.params.toList++Rows.claimRaisesSpec.plain.varTypes Tryz.checked.prog++Tryz.f4.resultTypes.toList).any (Tryz.checked.prog.veiledRec ·))=true:=by kernel_rfl
theorem aIM :(Rows.claimRaisesRow.veiledFits Tryz.checked.prog Tryz.f4.params.toList (Tryz.f4.params.toList++Rows.claimRaisesSpec.plain.varTypes Tryz.checked.prog++Tryz.f4.resultTypes.toList))=true:=by kernel_rfl
theorem aKm :joinedFacts Tryz.checked.prog 4 Tryz.f4 Rows.claimRaisesSpec Rows.claimRaisesRow=true:=by
 unfold joinedFacts;exact gO (gO (gO (gO (gO (gO (gO (gO (gO (gO (gO (gO (gO (gO (gO (gO (gO (gO (gO (gO (gO (gO (gO (gO (gO (gO (gO (gO (gO (gO (gO (aKa) aK4) aKY) aKt) aKF) aJ8) aKX) aK7) aKL) aIm) aJo) aJL) aIz) aJj) aJc) aI3) aIO) aIp) aJv) aJs) aJS) aIC) aIP) aIt) aJN) aIT) aI1) aJq) aIW) aJz) aIQ) aIM
theorem aKv :Rows.claimRaisesRow.wfByText (OpenSpec.ofChange Rows.claimRaisesSpec)=true:=by kernel_rfl
theorem aKO : Tryz.checked.prog.mainIs = some ((true, "4ac0df6e9431ff588cf1bacf0a0f43fb2bac79d705857ec834b5837de4a07ca7").1,(true, "4ac0df6e9431ff588cf1bacf0a0f43fb2bac79d705857ec834b5837de4a07ca7").2.toList) :=by kernel_rfl
theorem aKT :false=Tryz.checked.prog.looks []:=by kernel_rfl
theorem aJ3 :false=Rows.claimRaisesRow.goesBy Tryz.checked.prog:=by kernel_rfl
theorem aLz :Tryz.checked.prog.funcNamed Rows.claimRaisesRow.func=some 4:=fact1
theorem aIL :Tryz.checked.prog.wantsStandIn 24=false:=by kernel_rfl
theorem aJW :Tryz.checked.prog.wantsStandIn 27=false:=by kernel_rfl
theorem aJC :Tryz.checked.prog.wantsStandIn 34=false:=by kernel_rfl
theorem aI9 :Tryz.checked.prog.wantsStandIn 36=false:=by kernel_rfl
theorem aJg :Tryz.checked.prog.wantsStandIn 38=false:=by kernel_rfl
end Go.Proofs.YtnogfoojjaainaaGreatDoor
