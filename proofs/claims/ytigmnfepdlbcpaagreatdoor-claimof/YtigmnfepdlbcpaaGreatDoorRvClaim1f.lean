import Derived.Test.YtigmnfepdlbcpaaGreatDoorAbsF
import Derived.Test.YtigmnfepdlbcpaaGreatDoorProg
import Derived.Test.YtigmnfepdlbcpaaGreatDoorChecked
import Derived.SizedLaws
import Derived.Test.YtigmnfepdlbcpaaGreatDoorRows
import Derived.SevenTiedAt
import Derived.JoinedOf
set_option linter.all false
namespace Go.Proofs.YtigmnfepdlbcpaaGreatDoor
open Go Go.Abs Go.ChangeShapes Go.WideShapes Go.ChangeAt Go.RowKit
set_option maxRecDepth 100000
theorem fact1 :Tryz.checked.prog.funcNamed Rows.claimOfRow.func=some 3:=by kernel_rfl
theorem aNZ :Tryz.f3.isInstance Tryz.checked.prog Rows.claimOfRow.origin Rows.claimOfRow.targs:=(of_decide_eq_true (by kernel_rfl))
theorem aNJ :Tryz.f3.isWrapper Tryz.checked.prog Rows.claimOfRow.wrapper Rows.claimOfRow.mainSum:=(by unfold Func.isWrapper;first|rw[zp (by decide+kernel)];kernel_rfl|rw[zn (by decide+kernel)];exact⟨rfl,rfl⟩)
theorem iF{a b:Bool}(ha:a=true)(hb:b=true):(a&&b)=true:=by rw[ha,hb];rfl
theorem aNk :(Rows.claimOfRow.wf (OpenSpec.ofChange Rows.claimOfSpec))=true:=by kernel_rfl
theorem aOb :(laidOutB Tryz.checked.prog)=true:=by kernel_rfl
theorem aN6 :(mapsRowed Tryz.checked.prog)=true:=by kernel_rfl
theorem aNF :(Tryz.f3.params.all (Tryz.checked.prog.readableRec ·))=true:=by kernel_rfl
theorem aNQ :(namedTie Tryz.checked.prog Rows.claimOfRow.named Rows.claimOfSpec.vars)=true:=by kernel_rfl
theorem aNi :(Rows.claimOfRow.stops==[])=true:=by kernel_rfl
theorem aN5 :(Tryz.checked.prog.stops==[])=true:=by kernel_rfl
theorem aOe :(Rows.claimOfRow.knobs==[])=true:=by kernel_rfl
theorem aNV :(Tryz.checked.prog.stopKnobs==[])=true:=by kernel_rfl
theorem aLs :(Rows.claimOfRow.inPlace==Tryz.checked.prog.inPlace 3)=true:=by kernel_rfl
theorem aMz :(Rows.claimOfRow.unfollowed==Tryz.checked.prog.unfollowed 3)=true:=by kernel_rfl
theorem aMV :(Rows.claimOfRow.recurses==Tryz.checked.prog.recurses 3)=true:=by kernel_rfl
theorem aLL :(Rows.claimOfRow.named==Tryz.checked.prog.varsNamed 3)=true:=by kernel_rfl
theorem aMv :(Rows.claimOfRow.maps==(Tryz.f3.params.toList++Rows.claimOfSpec.plain.varTypes Tryz.checked.prog).any (Tryz.checked.prog.mapsRec ·))=true:=by kernel_rfl
theorem aMp :(Rows.claimOfRow.ifaces==(Tryz.f3.params.toList++Rows.claimOfSpec.plain.varTypes Tryz.checked.prog).any (Tryz.checked.prog.ifacesRec ·))=true:=by kernel_rfl
theorem aMg :(Rows.claimOfRow.mapsOut==Tryz.checked.prog.mapsAmong Tryz.f3.resultTypes.toList)=true:=by kernel_rfl
theorem aLZ :(Rows.claimOfRow.loops==(Tryz.f3.params.toList++Rows.claimOfSpec.plain.varTypes Tryz.checked.prog).any (Tryz.checked.prog.loopsFrom ·))=true:=by kernel_rfl
theorem aLy :(Rows.claimOfRow.wideKeys==(Tryz.f3.params.toList++Rows.claimOfSpec.plain.varTypes Tryz.checked.prog++Tryz.f3.resultTypes.toList).any (Tryz.checked.prog.wideKeysFrom ·))=true:=by kernel_rfl
theorem aMH :(Rows.claimOfSpec.vars.all (Tryz.checked.prog.varReadable ·))=true:=by kernel_rfl
theorem aMD :(Tryz.f3.resultTypes.all λt=>Tryz.checked.prog.readableRec t&&decide (t<Tryz.checked.prog.types.size))=true:=by kernel_rfl
theorem aM1 :(Rows.claimOfRow.ifacesOut==Tryz.f3.resultTypes.toList.any (Tryz.checked.prog.ifacesRec ·))=true:=by kernel_rfl
theorem aLO :(Rows.claimOfRow.loopsOut==Tryz.f3.resultTypes.toList.any (Tryz.checked.prog.loopsFrom ·))=true:=by kernel_rfl
theorem aL0 :(Rows.claimOfRow.plainKeys==Tryz.checked.prog.plainKeys)=true:=by kernel_rfl
theorem aLC :(Rows.claimOfRow.shortTexts.isNone)=true:=by kernel_rfl
theorem aMX :(Tryz.checked.prog.stopsHeard)=true:=by kernel_rfl
theorem aL6 :(Tryz.checked.prog.mayEnter)=true:=by kernel_rfl
theorem aMe :(Rows.claimOfRow.lifted==Tryz.checked.prog.liftsFinal)=true:=by kernel_rfl
theorem aMB :(Tryz.checked.prog.make==some Rows.claimOfRow.make)=true:=by kernel_rfl
theorem aL8 :(Rows.claimOfRow.kinds==(if Rows.claimOfRow.domain.isEmpty then[]else Tryz.f3.params.toList.map λt=>match Tryz.checked.prog.underlying t with|some (.int k)=>some k|_=>none))=true:=by kernel_rfl
theorem aML :(Rows.claimOfRow.pinned==Rows.claimOfRow.pinnedBy)=true:=by kernel_rfl
theorem aL3 :(Rows.claimOfRow.veiled==(Tryz.f3.params.toList++Rows.claimOfSpec.plain.varTypes Tryz.checked.prog++Tryz.f3.resultTypes.toList).any (Tryz.checked.prog.veiledRec ·))=true:=by kernel_rfl
theorem aLW :(Rows.claimOfRow.veiledFits Tryz.checked.prog Tryz.f3.params.toList (Tryz.f3.params.toList++Rows.claimOfSpec.plain.varTypes Tryz.checked.prog++Tryz.f3.resultTypes.toList))=true:=by kernel_rfl
theorem aNy :joinedFacts Tryz.checked.prog 3 Tryz.f3 Rows.claimOfSpec Rows.claimOfRow=true:=by
 unfold joinedFacts;exact iF (iF (iF (iF (iF (iF (iF (iF (iF (iF (iF (iF (iF (iF (iF (iF (iF (iF (iF (iF (iF (iF (iF (iF (iF (iF (iF (iF (iF (iF (iF (aNk) aOb) aN6) aNF) aNQ) aNi) aN5) aOe) aNV) aLs) aMz) aMV) aLL) aMv) aMp) aMg) aLZ) aLy) aMH) aMD) aM1) aLO) aL0) aLC) aMX) aL6) aMe) aMB) aL8) aML) aL3) aLW
theorem aNI :Rows.claimOfRow.wfByText (OpenSpec.ofChange Rows.claimOfSpec)=true:=by kernel_rfl
theorem aNY : Tryz.checked.prog.mainIs = some ((true, "aa8254d7436aa8e8f9c15303aad9e18ee844f6b80b9e8fad11ebb9f41f6dfdae").1,(true, "aa8254d7436aa8e8f9c15303aad9e18ee844f6b80b9e8fad11ebb9f41f6dfdae").2.toList) :=by kernel_rfl
theorem aN2 :false=Tryz.checked.prog.looks []:=by kernel_rfl
theorem goesL(P:Program)(h:((List.range P.funcs.size).any λg=>(P.funcs[g]?).any Func.goes)=false)(f:FuncId):P.goes f=false:=by
 have k:∀g:Nat,(P.funcs[g]?).any Func.goes=false:=λg=>by
  by_cases e:g<P.funcs.size
  ·have:=List.any_eq_false.1 h g (List.mem_range.2 e);simpa using this
  ·rw[Array.getElem?_eq_none (by omega)];rfl
 have j:P.funcs.any Func.goes=false:=by
  rw[Array.any_eq_false];intro i e;have:=k i;rw[Array.getElem?_eq_getElem e]at this
  simpa using this
 unfold Program.goes;rw[j];simp[k]
theorem goesB(P:Program)(h:((List.range P.funcs.size).any λg=>(P.funcs[g]?).any Func.goes)=false)(c:OpenClaim):false=c.goesBy P:=by
 unfold OpenClaim.goesBy Program.goesAt Program.goesFrom;rw[show P.goes=λ_=>false from funext (goesL P h)];cases P.funcNamed c.func<;>cases c.start<;>simp
theorem aNe :false=Rows.claimOfRow.goesBy Tryz.checked.prog:=goesB _ (by kernel_rfl) _
theorem aOG :Tryz.checked.prog.funcNamed Rows.claimOfRow.func=some 3:=fact1
theorem aLV :Tryz.checked.prog.wantsStandIn 24=false:=by kernel_rfl
theorem aM6 :Tryz.checked.prog.wantsStandIn 27=false:=by kernel_rfl
theorem aMO :Tryz.checked.prog.wantsStandIn 28=false:=by kernel_rfl
theorem aMm :Tryz.checked.prog.wantsStandIn 30=false:=by kernel_rfl
theorem aMt :Tryz.checked.prog.wantsStandIn 32=false:=by kernel_rfl
end Go.Proofs.YtigmnfepdlbcpaaGreatDoor
