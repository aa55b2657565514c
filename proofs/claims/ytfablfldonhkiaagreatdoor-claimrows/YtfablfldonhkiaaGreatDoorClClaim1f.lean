import Derived.Test.YtfablfldonhkiaaGreatDoorAbsF
import Derived.Test.YtfablfldonhkiaaGreatDoorProg
import Derived.Test.YtfablfldonhkiaaGreatDoorChecked
import Derived.SizedLaws
import Derived.Test.YtfablfldonhkiaaGreatDoorRows
import Derived.SevenTiedAt
import Derived.JoinedOf
set_option linter.unusedSimpArgs false
set_option linter.unusedVariables false
namespace Go.Proofs.YtfablfldonhkiaaGreatDoor
open Go Go.Abs Go.ChangeShapes Go.WideShapes Go.ChangeAt Go.RowKit
set_option maxRecDepth 100000
theorem fact1 :Tryz.checked.prog.funcNamed Rows.claimRowsRow.func=some 3:=by kernel_rfl
theorem aC8 :Tryz.f3.isInstance Tryz.checked.prog Rows.claimRowsRow.origin Rows.claimRowsRow.targs:=(of_decide_eq_true (by kernel_rfl))
theorem aCC :Tryz.f3.isWrapper Tryz.checked.prog Rows.claimRowsRow.wrapper Rows.claimRowsRow.mainSum:=(by unfold Func.isWrapper;first|rw [zp (by decide+kernel)];kernel_rfl|rw [zn (by decide+kernel)];exact ⟨rfl,rfl⟩)
theorem cK {a b:Bool} (ha:a=true) (hb:b=true):(a&&b)=true:=by rw [ha,hb];rfl
theorem aBz :(Rows.claimRowsRow.wf (OpenSpec.ofChange Rows.claimRowsSpec))=true:=by kernel_rfl
theorem aDD :(laidOutB Tryz.checked.prog)=true:=by kernel_rfl
theorem aDw :(mapsRowed Tryz.checked.prog)=true:=by kernel_rfl
theorem aCr :(Tryz.f3.params.all (Tryz.checked.prog.readableRec ·))=true:=by kernel_rfl
theorem aCT :(namedTie Tryz.checked.prog Rows.claimRowsRow.named Rows.claimRowsSpec.vars)=true:=by kernel_rfl
theorem aBu :((Rows.claimRowsRow.stops==[]))=true:=by kernel_rfl
theorem aDu :((Tryz.checked.prog.stops==[]))=true:=by kernel_rfl
theorem aDR :((Rows.claimRowsRow.knobs==[]))=true:=by kernel_rfl
theorem aCV :((Tryz.checked.prog.stopKnobs==[]))=true:=by kernel_rfl
theorem anT :((Rows.claimRowsRow.inPlace==Tryz.checked.prog.inPlace 3))=true:=by kernel_rfl
theorem arG :((Rows.claimRowsRow.unfollowed==Tryz.checked.prog.unfollowed 3))=true:=by kernel_rfl
theorem asW :((Rows.claimRowsRow.recurses==Tryz.checked.prog.recurses 3))=true:=by kernel_rfl
theorem aoI :((Rows.claimRowsRow.named==Tryz.checked.prog.varsNamed 3))=true:=by kernel_rfl
theorem arA :((Rows.claimRowsRow.maps==(Tryz.f3.params.toList++Rows.claimRowsSpec.plain.varTypes Tryz.checked.prog).any (Tryz.checked.prog.mapsRec ·)))=true:=by kernel_rfl
theorem aqQ :((Rows.claimRowsRow.ifaces==(Tryz.f3.params.toList++Rows.claimRowsSpec.plain.varTypes Tryz.checked.prog).any (Tryz.checked.prog.ifacesRec ·)))=true:=by kernel_rfl
theorem aqH :((Rows.claimRowsRow.mapsOut==Tryz.checked.prog.mapsAmong Tryz.f3.resultTypes.toList))=true:=by kernel_rfl
theorem apK :((Rows.claimRowsRow.loops==(Tryz.f3.params.toList++Rows.claimRowsSpec.plain.varTypes Tryz.checked.prog).any (Tryz.checked.prog.loopsFrom ·)))=true:=by kernel_rfl
theorem anW :((Rows.claimRowsRow.wideKeys==(Tryz.f3.params.toList++Rows.claimRowsSpec.plain.varTypes Tryz.checked.prog++Tryz.f3.resultTypes.toList).any (Tryz.checked.prog.wideKeysFrom ·)))=true:=by kernel_rfl
theorem arS :(Rows.claimRowsSpec.vars.all (Tryz.checked.prog.varReadable ·))=true:=by kernel_rfl
theorem arO :(Tryz.f3.resultTypes.all (λt=>Tryz.checked.prog.readableRec t&&decide (t<Tryz.checked.prog.types.size)))=true:=by kernel_rfl
theorem atG :((Rows.claimRowsRow.ifacesOut==Tryz.f3.resultTypes.toList.any (Tryz.checked.prog.ifacesRec ·)))=true:=by kernel_rfl
theorem aoK :((Rows.claimRowsRow.loopsOut==Tryz.f3.resultTypes.toList.any (Tryz.checked.prog.loopsFrom ·)))=true:=by kernel_rfl
theorem apM :((Rows.claimRowsRow.plainKeys==Tryz.checked.prog.plainKeys))=true:=by kernel_rfl
theorem aoC :(Rows.claimRowsRow.shortTexts.isNone)=true:=by kernel_rfl
theorem atE :(Tryz.checked.prog.stopsHeard)=true:=by kernel_rfl
theorem apT :(Tryz.checked.prog.mayEnter)=true:=by kernel_rfl
theorem aqG :((Rows.claimRowsRow.lifted==Tryz.checked.prog.liftsFinal))=true:=by kernel_rfl
theorem arI :((Tryz.checked.prog.make==some Rows.claimRowsRow.make))=true:=by kernel_rfl
theorem apY :((Rows.claimRowsRow.kinds==(if Rows.claimRowsRow.domain.isEmpty then [] else Tryz.f3.params.toList.map λt=>match Tryz.checked.prog.underlying t with|some (.int k)=>some k|_=>none)))=true:=by kernel_rfl
theorem asG :((Rows.claimRowsRow.pinned==Rows.claimRowsRow.pinnedBy))=true:=by kernel_rfl
theorem apO :((Rows.claimRowsRow.veiled==(Tryz.f3.params.toList++Rows.claimRowsSpec.plain.varTypes Tryz.checked.prog++Tryz.f3.resultTypes.toList).any (Tryz.checked.prog.veiledRec ·)))=true:=by kernel_rfl
theorem apA :(Rows.claimRowsRow.veiledFits Tryz.checked.prog Tryz.f3.params.toList (Tryz.f3.params.toList++Rows.claimRowsSpec.plain.varTypes Tryz.checked.prog++Tryz.f3.resultTypes.toList))=true:=by kernel_rfl
theorem aB2 :joinedFacts Tryz.checked.prog 3 Tryz.f3 Rows.claimRowsSpec Rows.claimRowsRow=true:=by
 unfold joinedFacts
 exact cK (cK (cK (cK (cK (cK (cK (cK (cK (cK (cK (cK (cK (cK (cK (cK (cK (cK (cK (cK (cK (cK (cK (cK (cK (cK (cK (cK (cK (cK (cK (aBz) aDD) aDw) aCr) aCT) aBu) aDu) aDR) aCV) anT) arG) asW) aoI) arA) aqQ) aqH) apK) anW) arS) arO) atG) aoK) apM) aoC) atE) apT) aqG) arI) apY) asG) apO) apA
theorem aCz :Rows.claimRowsRow.wfByText (OpenSpec.ofChange Rows.claimRowsSpec)=true:=by kernel_rfl
theorem aC2 : Tryz.checked.prog.mainIs = some ((true, "cf7bce60202627aedfe7340f3a94d77c8970d4f9727b881ddd2b993ea3e36e60").1, (true, "cf7bce60202627aedfe7340f3a94d77c8970d4f9727b881ddd2b993ea3e36e60").2.toList) := by kernel_rfl
theorem aDm :false=Tryz.checked.prog.looks []:=by kernel_rfl
theorem aA2 :false=Rows.claimRowsRow.goesBy Tryz.checked.prog:=by kernel_rfl
theorem aIN :Tryz.checked.prog.funcNamed Rows.claimRowsRow.func=some 3:=fact1
theorem aoY :Tryz.checked.prog.wantsStandIn 24=false:=by kernel_rfl
theorem atK :Tryz.checked.prog.wantsStandIn 27=false:=by kernel_rfl
theorem asH :Tryz.checked.prog.wantsStandIn 28=false:=by kernel_rfl
theorem aqN :Tryz.checked.prog.wantsStandIn 30=false:=by kernel_rfl
theorem aqU :Tryz.checked.prog.wantsStandIn 32=false:=by kernel_rfl
end Go.Proofs.YtfablfldonhkiaaGreatDoor
