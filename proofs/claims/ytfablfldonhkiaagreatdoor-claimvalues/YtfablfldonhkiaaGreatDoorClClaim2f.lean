import Derived.Test.YtfablfldonhkiaaGreatDoorAbsF
import Derived.Test.YtfablfldonhkiaaGreatDoorProg
import Derived.Test.YtfablfldonhkiaaGreatDoorChecked
import Derived.SizedLaws
import Derived.Test.YtfablfldonhkiaaGreatDoorRows
import Derived.SevenTiedAt
import Derived.JoinedOf
set_option linter.unusedSimpArgs false
set_option linter.unusedVariables false
namespace Go.Proofs.YtfablfldonhkiaaGreatDoor
open Go Go.Abs Go.ChangeShapes Go.WideShapes Go.ChangeAt Go.RowKit
set_option maxRecDepth 100000
theorem fact1 :Tryz.checked.prog.funcNamed Rows.claimValuesRow.func=some 4:=by kernel_rfl
theorem aC8 :Tryz.f4.isInstance Tryz.checked.prog Rows.claimValuesRow.origin Rows.claimValuesRow.targs:=(of_decide_eq_true (by kernel_rfl))
theorem aCC :Tryz.f4.isWrapper Tryz.checked.prog Rows.claimValuesRow.wrapper Rows.claimValuesRow.mainSum:=(by unfold Func.isWrapper;first|rw [zp (by decide+kernel)];kernel_rfl|rw [zn (by decide+kernel)];exact ⟨rfl,rfl⟩)
theorem cK {a b:Bool} (ha:a=true) (hb:b=true):(a&&b)=true:=by rw [ha,hb];rfl
theorem aBz :(Rows.claimValuesRow.wf (OpenSpec.ofChange Rows.claimValuesSpec))=true:=by kernel_rfl
theorem aDD :(laidOutB Tryz.checked.prog)=true:=by kernel_rfl
theorem aDw :(mapsRowed Tryz.checked.prog)=true:=by kernel_rfl
theorem aCr :(Tryz.f4.params.all (Tryz.checked.prog.readableRec ·))=true:=by kernel_rfl
theorem aCT :(namedTie Tryz.checked.prog Rows.claimValuesRow.named Rows.claimValuesSpec.vars)=true:=by kernel_rfl
theorem aBu :((Rows.claimValuesRow.stops==[]))=true:=by kernel_rfl
theorem aDu :((Tryz.checked.prog.stops==[]))=true:=by kernel_rfl
theorem aDR :((Rows.claimValuesRow.knobs==[]))=true:=by kernel_rfl
theorem aCV :((Tryz.checked.prog.stopKnobs==[]))=true:=by kernel_rfl
theorem anT :((Rows.claimValuesRow.inPlace==Tryz.checked.prog.inPlace 4))=true:=by kernel_rfl
theorem arG :((Rows.claimValuesRow.unfollowed==Tryz.checked.prog.unfollowed 4))=true:=by kernel_rfl
theorem asW :((Rows.claimValuesRow.recurses==Tryz.checked.prog.recurses 4))=true:=by kernel_rfl
theorem aoI :((Rows.claimValuesRow.named==Tryz.checked.prog.varsNamed 4))=true:=by kernel_rfl
theorem arA :((Rows.claimValuesRow.maps==(Tryz.f4.params.toList++Rows.claimValuesSpec.plain.varTypes Tryz.checked.prog).any (Tryz.checked.prog.mapsRec ·)))=true:=by kernel_rfl
theorem aqQ :((Rows.claimValuesRow.ifaces==(Tryz.f4.params.toList++Rows.claimValuesSpec.plain.varTypes Tryz.checked.prog).any (Tryz.checked.prog.ifacesRec ·)))=true:=by kernel_rfl
theorem aqH :((Rows.claimValuesRow.mapsOut==Tryz.checked.prog.mapsAmong Tryz.f4.resultTypes.toList))=true:=by kernel_rfl
theorem apK :((Rows.claimValuesRow.loops==(Tryz.f4.params.toList++Rows.claimValuesSpec.plain.varTypes Tryz.checked.prog).any (Tryz.checked.prog.loopsFrom ·)))=true:=by kernel_rfl
theorem anW :((Rows.claimValuesRow.wideKeys==(Tryz.f4.params.toList++Rows.claimValuesSpec.plain.varTypes Tryz.checked.prog++Tryz.f4.resultTypes.toList).any (Tryz.checked.prog.wideKeysFrom ·)))=true:=by kernel_rfl
theorem arS :(Rows.claimValuesSpec.vars.all (Tryz.checked.prog.varReadable ·))=true:=by kernel_rfl
theorem arO :(Tryz.f4.resultTypes.all (λt=>Tryz.checked.prog.readableRec t&&decide (t<Tryz.checked.prog.types.size)))=true:=by kernel_rfl
theorem atG :((Rows.claimValuesRow.ifacesOut==Tryz.f4.resultTypes.toList.any (Tryz.checked.prog.ifacesRec ·)))=true:=by kernel_rfl
theorem aoK :((Rows.claimValuesRow.loopsOut==Tryz.f4.resultTypes.toList.any (Tryz.checked.prog.loopsFrom ·)))=true:=by kernel_rfl
theorem apM :((Rows.claimValuesRow.plainKeys==Tryz.checked.prog.plainKeys))=true:=by kernel_rfl
theorem aoC :(Rows.claimValuesRow.shortTexts.isNone)=true:=by kernel_rfl
theorem atE :(Tryz.checked.prog.stopsHeard)=true:=by kernel_rfl
theorem apT :(Tryz.checked.prog.mayEnter)=true:=by kernel_rfl
theorem aqG :((Rows.claimValuesRow.lifted==Tryz.checked.prog.liftsFinal))=true:=by kernel_rfl
theorem arI :((Tryz.checked.prog.make==some Rows.claimValuesRow.make))=true:=by kernel_rfl
theorem apY :((Rows.claimValuesRow.kinds==(if Rows.claimValuesRow.domain.isEmpty then [] else Tryz.f4.params.toList.map λt=>match Tryz.checked.prog.underlying t with|some (.int k)=>some k|_=>none)))=true:=by kernel_rfl
theorem asG :((Rows.claimValuesRow.pinned==Rows.claimValuesRow.pinnedBy))=true:=by kernel_rfl
theorem apO :((Rows.claimValuesRow.veiled==(Tryz.f4.params.toList++Rows.claimValuesSpec.plain.varTypes Tryz.checked.prog++Tryz.f4.resultTypes.toList).any (Tryz.checked.prog.veiledRec ·)))=true:=by kernel_rfl
theorem apA :(Rows.claimValuesRow.veiledFits Tryz.checked.prog Tryz.f4.params.toList (Tryz.f4.params.toList++Rows.claimValuesSpec.plain.varTypes Tryz.checked.prog++Tryz.f4.resultTypes.toList))=true:=by kernel_rfl
theorem aB2 :joinedFacts Tryz.checked.prog 4 Tryz.f4 Rows.claimValuesSpec Rows.claimValuesRow=true:=by
 unfold joinedFacts
 exact cK (cK (cK (cK (cK (cK (cK (cK (cK (cK (cK (cK (cK (cK (cK (cK (cK (cK (cK (cK (cK (cK (cK (cK (cK (cK (cK (cK (cK (cK (cK (aBz) aDD) aDw) aCr) aCT) aBu) aDu) aDR) aCV) anT) arG) asW) aoI) arA) aqQ) aqH) apK) anW) arS) arO) atG) aoK) apM) aoC) atE) apT) aqG) arI) apY) asG) apO) apA
theorem aCz :Rows.claimValuesRow.wfByText (OpenSpec.ofChange Rows.claimValuesSpec)=true:=by kernel_rfl
theorem aC2 : Tryz.checked.prog.mainIs = some ((true, "cf7bce60202627aedfe7340f3a94d77c8970d4f9727b881ddd2b993ea3e36e60").1, (true, "cf7bce60202627aedfe7340f3a94d77c8970d4f9727b881ddd2b993ea3e36e60").2.toList) := by kernel_rfl
theorem aDm :false=Tryz.checked.prog.looks []:=by kernel_rfl
theorem aA2 :false=Rows.claimValuesRow.goesBy Tryz.checked.prog:=by kernel_rfl
theorem aIN :Tryz.checked.prog.funcNamed Rows.claimValuesRow.func=some 4:=fact1
theorem aoY :Tryz.checked.prog.wantsStandIn 24=false:=by kernel_rfl
theorem atK :Tryz.checked.prog.wantsStandIn 27=false:=by kernel_rfl
theorem asH :Tryz.checked.prog.wantsStandIn 28=false:=by kernel_rfl
theorem aqN :Tryz.checked.prog.wantsStandIn 30=false:=by kernel_rfl
theorem aqU :Tryz.checked.prog.wantsStandIn 32=false:=by kernel_rfl
end Go.Proofs.YtfablfldonhkiaaGreatDoor
