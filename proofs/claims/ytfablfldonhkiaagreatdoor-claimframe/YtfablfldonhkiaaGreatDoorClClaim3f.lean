import Derived.Test.YtfablfldonhkiaaGreatDoorAbsF
import Derived.Test.YtfablfldonhkiaaGreatDoorProg
import Derived.Test.YtfablfldonhkiaaGreatDoorChecked
import Derived.SizedLaws
import Derived.Test.YtfablfldonhkiaaGreatDoorRows
import Derived.SevenTiedAt
import Derived.JoinedOf
set_option linter.unusedSimpArgs false
set_option linter.unusedVariables false
namespace Go.Proofs.YtfablfldonhkiaaGreatDoor
open Go Go.Abs Go.ChangeShapes Go.WideShapes Go.ChangeAt Go.RowKit
set_option maxRecDepth 100000
theorem fact1 :Tryz.checked.prog.funcNamed Rows.claimFrameRow.func=some 5:=by kernel_rfl
theorem aKz :Tryz.f5.isInstance Tryz.checked.prog Rows.claimFrameRow.origin Rows.claimFrameRow.targs:=(of_decide_eq_true (by kernel_rfl))
theorem aKg :Tryz.f5.isWrapper Tryz.checked.prog Rows.claimFrameRow.wrapper Rows.claimFrameRow.mainSum:=(by unfold Func.isWrapper;first|rw [zp (by decide+kernel)];kernel_rfl|rw [zn (by decide+kernel)];exact ⟨rfl,rfl⟩)
theorem gK {a b:Bool} (ha:a=true) (hb:b=true):(a&&b)=true:=by rw [ha,hb];rfl
theorem aJU :(Rows.claimFrameRow.wf (OpenSpec.ofChange Rows.claimFrameSpec))=true:=by kernel_rfl
theorem aKN :(laidOutB Tryz.checked.prog)=true:=by kernel_rfl
theorem aKH :(mapsRowed Tryz.checked.prog)=true:=by kernel_rfl
theorem aKd :(Tryz.f5.params.all (Tryz.checked.prog.readableRec ·))=true:=by kernel_rfl
theorem aKo :(namedTie Tryz.checked.prog Rows.claimFrameRow.named Rows.claimFrameSpec.vars)=true:=by kernel_rfl
theorem aJT :((Rows.claimFrameRow.stops==[]))=true:=by kernel_rfl
theorem aKG :((Tryz.checked.prog.stops==[]))=true:=by kernel_rfl
theorem aKQ :((Rows.claimFrameRow.knobs==[]))=true:=by kernel_rfl
theorem aKu :((Tryz.checked.prog.stopKnobs==[]))=true:=by kernel_rfl
theorem aH7 :((Rows.claimFrameRow.inPlace==Tryz.checked.prog.inPlace 5))=true:=by kernel_rfl
theorem aJd :((Rows.claimFrameRow.unfollowed==Tryz.checked.prog.unfollowed 5))=true:=by kernel_rfl
theorem aJx :((Rows.claimFrameRow.recurses==Tryz.checked.prog.recurses 5))=true:=by kernel_rfl
theorem aIm :((Rows.claimFrameRow.named==Tryz.checked.prog.varsNamed 5))=true:=by kernel_rfl
theorem aI7 :((Rows.claimFrameRow.maps==(Tryz.f5.params.toList++Rows.claimFrameSpec.plain.varTypes Tryz.checked.prog).any (Tryz.checked.prog.mapsRec ·)))=true:=by kernel_rfl
theorem aIZ :((Rows.claimFrameRow.ifaces==(Tryz.f5.params.toList++Rows.claimFrameSpec.plain.varTypes Tryz.checked.prog).any (Tryz.checked.prog.ifacesRec ·)))=true:=by kernel_rfl
theorem aIP :((Rows.claimFrameRow.mapsOut==Tryz.checked.prog.mapsAmong Tryz.f5.resultTypes.toList))=true:=by kernel_rfl
theorem aIz :((Rows.claimFrameRow.loops==(Tryz.f5.params.toList++Rows.claimFrameSpec.plain.varTypes Tryz.checked.prog).any (Tryz.checked.prog.loopsFrom ·)))=true:=by kernel_rfl
theorem aIa :((Rows.claimFrameRow.wideKeys==(Tryz.f5.params.toList++Rows.claimFrameSpec.plain.varTypes Tryz.checked.prog++Tryz.f5.resultTypes.toList).any (Tryz.checked.prog.wideKeysFrom ·)))=true:=by kernel_rfl
theorem aJk :(Rows.claimFrameSpec.vars.all (Tryz.checked.prog.varReadable ·))=true:=by kernel_rfl
theorem aJh :(Tryz.f5.resultTypes.all (λt=>Tryz.checked.prog.readableRec t&&decide (t<Tryz.checked.prog.types.size)))=true:=by kernel_rfl
theorem aJD :((Rows.claimFrameRow.ifacesOut==Tryz.f5.resultTypes.toList.any (Tryz.checked.prog.ifacesRec ·)))=true:=by kernel_rfl
theorem aIo :((Rows.claimFrameRow.loopsOut==Tryz.f5.resultTypes.toList.any (Tryz.checked.prog.loopsFrom ·)))=true:=by kernel_rfl
theorem aIA :((Rows.claimFrameRow.plainKeys==Tryz.checked.prog.plainKeys))=true:=by kernel_rfl
theorem aIf :(Rows.claimFrameRow.shortTexts.isNone)=true:=by kernel_rfl
theorem aJz :(Tryz.checked.prog.stopsHeard)=true:=by kernel_rfl
theorem aIE :(Tryz.checked.prog.mayEnter)=true:=by kernel_rfl
theorem aIN :((Rows.claimFrameRow.lifted==Tryz.checked.prog.liftsFinal))=true:=by kernel_rfl
theorem aJf :((Tryz.checked.prog.make==some Rows.claimFrameRow.make))=true:=by kernel_rfl
theorem aIH :((Rows.claimFrameRow.kinds==(if Rows.claimFrameRow.domain.isEmpty then [] else Tryz.f5.params.toList.map λt=>match Tryz.checked.prog.underlying t with|some (.int k)=>some k|_=>none)))=true:=by kernel_rfl
theorem aJn :((Rows.claimFrameRow.pinned==Rows.claimFrameRow.pinnedBy))=true:=by kernel_rfl
theorem aIB :((Rows.claimFrameRow.veiled==(Tryz.f5.params.toList++Rows.claimFrameSpec.plain.varTypes Tryz.checked.prog++Tryz.f5.resultTypes.toList).any (Tryz.checked.prog.veiledRec ·)))=true:=by kernel_rfl
theorem aIx :(Rows.claimFrameRow.veiledFits Tryz.checked.prog Tryz.f5.params.toList (Tryz.f5.params.toList++Rows.claimFrameSpec.plain.varTypes Tryz.checked.prog++Tryz.f5.resultTypes.toList))=true:=by kernel_rfl
theorem aJ6 :joinedFacts Tryz.checked.prog 5 Tryz.f5 Rows.claimFrameSpec Rows.claimFrameRow=true:=by
 unfold joinedFacts;exact gK (gK (gK (gK (gK (gK (gK (gK (gK (gK (gK (gK (gK (gK (gK (gK (gK (gK (gK (gK (gK (gK (gK (gK (gK (gK (gK (gK (gK (gK (gK (aJU) aKN) aKH) aKd) aKo) aJT) aKG) aKQ) aKu) aH7) aJd) aJx) aIm) aI7) aIZ) aIP) aIz) aIa) aJk) aJh) aJD) aIo) aIA) aIf) aJz) aIE) aIN) aJf) aIH) aJn) aIB) aIx
theorem aKf :Rows.claimFrameRow.wfByText (OpenSpec.ofChange Rows.claimFrameSpec)=true:=by kernel_rfl
theorem aKx : Tryz.checked.prog.mainIs = some ((true, "cf7bce60202627aedfe7340f3a94d77c8970d4f9727b881ddd2b993ea3e36e60").1, (true, "cf7bce60202627aedfe7340f3a94d77c8970d4f9727b881ddd2b993ea3e36e60").2.toList) := by kernel_rfl
theorem aKC :false=Tryz.checked.prog.looks []:=by kernel_rfl
theorem aJN :false=Rows.claimFrameRow.goesBy Tryz.checked.prog:=by kernel_rfl
theorem aLj :Tryz.checked.prog.funcNamed Rows.claimFrameRow.func=some 5:=fact1
theorem aIw :Tryz.checked.prog.wantsStandIn 3=false:=by kernel_rfl
theorem aJH :Tryz.checked.prog.wantsStandIn 24=false:=by kernel_rfl
theorem aJq :Tryz.checked.prog.wantsStandIn 27=false:=by kernel_rfl
theorem aIV :Tryz.checked.prog.wantsStandIn 28=false:=by kernel_rfl
theorem aI3 :Tryz.checked.prog.wantsStandIn 30=false:=by kernel_rfl
theorem aJG :Tryz.checked.prog.wantsStandIn 32=false:=by kernel_rfl
theorem aII :Tryz.checked.prog.wantsStandIn 47=false:=by kernel_rfl
end Go.Proofs.YtfablfldonhkiaaGreatDoor
