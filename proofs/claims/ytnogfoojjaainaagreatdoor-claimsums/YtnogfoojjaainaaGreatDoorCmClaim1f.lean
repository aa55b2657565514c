import Derived.Test.YtnogfoojjaainaaGreatDoorAbsF
import Derived.Test.YtnogfoojjaainaaGreatDoorProg
import Derived.Test.YtnogfoojjaainaaGreatDoorChecked
import Derived.SizedLaws
import Derived.Test.YtnogfoojjaainaaGreatDoorRows
import Derived.SevenTiedAt
import Derived.JoinedOf
set_option linter.unusedSimpArgs false
set_option linter.unusedVariables false
namespace Go.Proofs.YtnogfoojjaainaaGreatDoor
open Go Go.Abs Go.ChangeShapes Go.WideShapes Go.ChangeAt Go.RowKit
set_option maxRecDepth 100000
theorem fact1 :Tryz.checked.prog.funcNamed Rows.claimSumsRow.func=some 3:=by kernel_rfl
theorem aKv :Tryz.f3.isInstance Tryz.checked.prog Rows.claimSumsRow.origin Rows.claimSumsRow.targs:=(of_decide_eq_true (by kernel_rfl))
theorem aKb :Tryz.f3.isWrapper Tryz.checked.prog Rows.claimSumsRow.wrapper Rows.claimSumsRow.mainSum:=(by unfold Func.isWrapper;first|rw [zp (by decide+kernel)];kernel_rfl|rw [zn (by decide+kernel)];exact ⟨rfl,rfl⟩)
theorem gM {a b:Bool} (ha:a=true) (hb:b=true):(a&&b)=true:=by rw [ha,hb];rfl
theorem aJO :(Rows.claimSumsRow.wf (OpenSpec.ofChange Rows.claimSumsSpec))=true:=by kernel_rfl
theorem aKI :(laidOutB Tryz.checked.prog)=true:=by kernel_rfl
theorem aKC :(mapsRowed Tryz.checked.prog)=true:=by kernel_rfl
theorem aJ8 :(Tryz.f3.params.all (Tryz.checked.prog.readableRec ·))=true:=by kernel_rfl
theorem aKl :(namedTie Tryz.checked.prog Rows.claimSumsRow.named Rows.claimSumsSpec.vars)=true:=by kernel_rfl
theorem aJM :((Rows.claimSumsRow.stops==[]))=true:=by kernel_rfl
theorem aKB :((Tryz.checked.prog.stops==[]))=true:=by kernel_rfl
theorem aKL :((Rows.claimSumsRow.knobs==[]))=true:=by kernel_rfl
theorem aKq :((Tryz.checked.prog.stopKnobs==[]))=true:=by kernel_rfl
theorem aH6 :((Rows.claimSumsRow.inPlace==Tryz.checked.prog.inPlace 3))=true:=by kernel_rfl
theorem aI5 :((Rows.claimSumsRow.unfollowed==Tryz.checked.prog.unfollowed 3))=true:=by kernel_rfl
theorem aJq :((Rows.claimSumsRow.recurses==Tryz.checked.prog.recurses 3))=true:=by kernel_rfl
theorem aIj :((Rows.claimSumsRow.named==Tryz.checked.prog.varsNamed 3))=true:=by kernel_rfl
theorem aI0 :((Rows.claimSumsRow.maps==(Tryz.f3.params.toList++Rows.claimSumsSpec.plain.varTypes Tryz.checked.prog).any (Tryz.checked.prog.mapsRec ·)))=true:=by kernel_rfl
theorem aIU :((Rows.claimSumsRow.ifaces==(Tryz.f3.params.toList++Rows.claimSumsSpec.plain.varTypes Tryz.checked.prog).any (Tryz.checked.prog.ifacesRec ·)))=true:=by kernel_rfl
theorem aIN :((Rows.claimSumsRow.mapsOut==Tryz.checked.prog.mapsAmong Tryz.f3.resultTypes.toList))=true:=by kernel_rfl
theorem aIy :((Rows.claimSumsRow.loops==(Tryz.f3.params.toList++Rows.claimSumsSpec.plain.varTypes Tryz.checked.prog).any (Tryz.checked.prog.loopsFrom ·)))=true:=by kernel_rfl
theorem aH9 :((Rows.claimSumsRow.wideKeys==(Tryz.f3.params.toList++Rows.claimSumsSpec.plain.varTypes Tryz.checked.prog++Tryz.f3.resultTypes.toList).any (Tryz.checked.prog.wideKeysFrom ·)))=true:=by kernel_rfl
theorem aJd :(Rows.claimSumsSpec.vars.all (Tryz.checked.prog.varReadable ·))=true:=by kernel_rfl
theorem aI9 :(Tryz.f3.resultTypes.all (λt=>Tryz.checked.prog.readableRec t&&decide (t<Tryz.checked.prog.types.size)))=true:=by kernel_rfl
theorem aJw :((Rows.claimSumsRow.ifacesOut==Tryz.f3.resultTypes.toList.any (Tryz.checked.prog.ifacesRec ·)))=true:=by kernel_rfl
theorem aIm :((Rows.claimSumsRow.loopsOut==Tryz.f3.resultTypes.toList.any (Tryz.checked.prog.loopsFrom ·)))=true:=by kernel_rfl
theorem aIz :((Rows.claimSumsRow.plainKeys==Tryz.checked.prog.plainKeys))=true:=by kernel_rfl
theorem aId :(Rows.claimSumsRow.shortTexts.isNone)=true:=by kernel_rfl
theorem aJs :(Tryz.checked.prog.stopsHeard)=true:=by kernel_rfl
theorem aID :(Tryz.checked.prog.mayEnter)=true:=by kernel_rfl
theorem aIL :((Rows.claimSumsRow.lifted==Tryz.checked.prog.liftsFinal))=true:=by kernel_rfl
theorem aI7 :((Tryz.checked.prog.make==some Rows.claimSumsRow.make))=true:=by kernel_rfl
theorem aIG :((Rows.claimSumsRow.kinds==(if Rows.claimSumsRow.domain.isEmpty then [] else Tryz.f3.params.toList.map λt=>match Tryz.checked.prog.underlying t with|some (.int k)=>some k|_=>none)))=true:=by kernel_rfl
theorem aJg :((Rows.claimSumsRow.pinned==Rows.claimSumsRow.pinnedBy))=true:=by kernel_rfl
theorem aIA :((Rows.claimSumsRow.veiled==(Tryz.f3.params.toList++Rows.claimSumsSpec.plain.varTypes Tryz.checked.prog++Tryz.f3.resultTypes.toList).any (Tryz.checked.prog.veiledRec ·)))=true:=by kernel_rfl
theorem aIw :(Rows.claimSumsRow.veiledFits Tryz.checked.prog Tryz.f3.params.toList (Tryz.f3.params.toList++Rows.claimSumsSpec.plain.varTypes Tryz.checked.prog++Tryz.f3.resultTypes.toList))=true:=by kernel_rfl
theorem aJ1 :joinedFacts Tryz.checked.prog 3 Tryz.f3 Rows.claimSumsSpec Rows.claimSumsRow=true:=by
 unfold joinedFacts;exact gM (gM (gM (gM (gM (gM (gM (gM (gM (gM (gM (gM (gM (gM (gM (gM (gM (gM (gM (gM (gM (gM (gM (gM (gM (gM (gM (gM (gM (gM (gM (aJO) aKI) aKC) aJ8) aKl) aJM) aKB) aKL) aKq) aH6) aI5) aJq) aIj) aI0) aIU) aIN) aIy) aH9) aJd) aI9) aJw) aIm) aIz) aId) aJs) aID) aIL) aI7) aIG) aJg) aIA) aIw
theorem aKa :Rows.claimSumsRow.wfByText (OpenSpec.ofChange Rows.claimSumsSpec)=true:=by kernel_rfl
theorem aKt : Tryz.checked.prog.mainIs = some ((true, "4ac0df6e9431ff588cf1bacf0a0f43fb2bac79d705857ec834b5837de4a07ca7").1, (true, "4ac0df6e9431ff588cf1bacf0a0f43fb2bac79d705857ec834b5837de4a07ca7").2.toList) := by kernel_rfl
theorem aKy :false=Tryz.checked.prog.looks []:=by kernel_rfl
theorem aJH :false=Rows.claimSumsRow.goesBy Tryz.checked.prog:=by kernel_rfl
theorem aLc :Tryz.checked.prog.funcNamed Rows.claimSumsRow.func=some 3:=fact1
theorem aIv :Tryz.checked.prog.wantsStandIn 24=false:=by kernel_rfl
theorem aJA :Tryz.checked.prog.wantsStandIn 27=false:=by kernel_rfl
end Go.Proofs.YtnogfoojjaainaaGreatDoor
