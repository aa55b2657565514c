/-
  The statement BaseRight holds of the given program for every input: which bases may be is what the document says, and one without lines may be of any schema that may. Conditions: those of the row's own card.
-/
import Derived.Test.YtkaliolnijkadaaGreatDoorBsRightS
import Derived.Test.YtkaliolnijkadaaGreatDoorBsArgs
import Derived.Test.YtkaliolnijkadaaGreatDoorTie
import Derived.Test.YtkaliolnijkadaaGreatDoorCards
import Derived.SevenTiedAt
set_option linter.unusedSimpArgs false
set_option linter.unusedVariables false
namespace Go.Proofs.YtkaliolnijkadaaGreatDoor
open Go Go.Abs Go.ChangeShapes Go.WideShapes Go.ChangeAt Go.RowKit
set_option maxRecDepth 100000
theorem agB (H:Type) (enc:TypeId×Value→H) (W:World) (base:Nat) (args:Array Value) (ds gs:List (DataW H)) (before:List MemPlace)
    (hval:∀(j:Nat) t v,Tryz.f3.params[j]?=some t→args[j]?=some v→Value.okWide Tryz.prog W .any base t v)
    (hW:DataW.Whole enc Tryz.prog Tryz.f3.params.toList Rows.baseRightSpec.vars false W args.toList ds gs before)
    (hwt:(DataW.weightsEach Tryz.prog (Tryz.f3.params.toList++Rows.baseRightSpec.plain.varTypes Tryz.prog) (ds++gs)).all (· ≤reachBytes)=true):
    Calls Tryz.prog 3 args W fun e W'=>∃v,e= .returned v∧Rows.baseRightSpec.post enc Tryz.prog Tryz.f3 false true false false W args v W':=by
  have hW':=hW
  obtain ⟨p,q,hA,hV,hps,hfz,hnd⟩:=hW
  rw [Tryz.params3] at hA hval
  obtain ⟨v0,vs0,d0,ds0,p0,q0,hargs,rfl,rfl,h0,r0⟩:=trodAll_cons hA
  obtain ⟨v1,vs1,d1,ds1,p1,q1,rfl,rfl,rfl,h1,r1⟩:=trodAll_cons r0
  obtain ⟨rfl,rfl,rfl⟩:=trodAll_nil r1
  obtain rfl:args= #[v0,v1]:=by cases args;simp_all
  obtain ⟨rfl,rfl⟩:=trodVars_none hV
  have hwt':∀n∈DataW.weightsEach Tryz.prog [24,27] [d0,d1],n≤reachBytes:=by
    intro n hn
    have:=List.all_eq_true.1 hwt n (by rw [Tryz.params3];simpa [ChangeSpec.plain,DataSpec.varTypes,Rows.baseRightSpec] using hn)
    simpa using this
  have hB:=alA (P:=Tryz.prog) (H:=H) amG
  have hN:reachBytes<2^62:=by decide
  obtain ⟨pv0,a0,b0⟩:=uI laid full hB hN (of_decide_eq_true (by kernel_rfl)) (by kernel_rfl) h0 (hval 0 _ v0 rfl rfl) (fun n hn=>hwt' n (eC (i:=0) rfl rfl n hn))
  obtain ⟨pv1,a1,b1⟩:=uI laid full hB hN (of_decide_eq_true (by kernel_rfl)) (by kernel_rfl) h1 (hval 1 _ v1 rfl rfl) (fun n hn=>hwt' n (eC (i:=1) rfl rfl n hn))
  obtain ⟨_,cs0,rfl,s0⟩:=ahU rfl b0
  obtain ⟨x0,rfl⟩:=alZ s0
  obtain ⟨_,cs1,rfl,s1⟩:=ahU rfl b1
  obtain ⟨x1,rfl⟩:=alX s1
  refine (abF (vs:=[v0,v1]) (by simp only [RepL];exact ⟨v0,_,rfl,a0,v1,_,rfl,a1,rfl⟩) (tH x0.1 x1.1 x0.2 x1.2.b)).mono fun e' W' ⟨he,hb⟩=> ?_
  subst he
  exact ⟨_,rfl,aeJ (tb:=4) hW' rfl laid rfl rfl (by kernel_rfl) (by
    intro t ht
    rw [Tryz.params3] at ht
    simp only [List.mem_cons,List.not_mem_nil,or_false] at ht
    rcases ht with rfl|rfl<;>exact ⟨by kernel_rfl,of_decide_eq_true (by kernel_rfl)⟩) hb⟩
theorem alH (os:Os) (started:os.Started) (H:Type) (enc:TypeId×Value→H):
    ReturnsInHanded {} Tryz.checked os 3 .any (fun w args=>(Rows.baseRightSpec.pre enc Tryz.prog Tryz.f3 Rows.baseRightRow.domain false w args∧laidMetH Tryz.prog Rows.baseRightRow.laid w)∧sizedMet enc Tryz.prog Tryz.f3 (OpenSpec.ofChange Rows.baseRightSpec) false w args) (Rows.baseRightSpec.post enc Tryz.prog Tryz.f3 false true false false):=by
  refine returnsInHanded_of_change_and (C:=Tryz.checked) (X:=fun w _=>laidMetH Tryz.prog Rows.baseRightRow.laid w) (fun _ _ _ hh h=>h.of_heap hh) own started (by kernel_rfl) Tryz.func3
    (ChangeSpec.witness_shaped (enc:=enc) (C:=Tryz.checked) (os:=os) (X:=fun w _=>laidMetH Tryz.prog Rows.baseRightRow.laid w) false (wL os) #[.agg #[.slice none 0 0], .agg #[.slice none 0 0]] 8 rfl (acA os _) (by kernel_rfl) (by kernel_rfl) (by kernel_rfl) (akT os _)) ?_
  intro W base args ds gs before hval hW _ hwt _ _
  exact agB H enc W base args ds gs before hval hW hwt
theorem abX :Rows.BaseRightSaid:=
  OpenClaim.holds_of_wide 3 Tryz.f3 rfl rfl rfl rfl rfl rfl rfl ⟨rfl,rfl,rfl,rfl,rfl⟩ rfl rfl rfl rfl rfl (by kernel_rfl) Tryz.func3 (by kernel_rfl)
    (of_decide_eq_true (by kernel_rfl)) (by unfold Func.isWrapper;first|(rw [if_pos (by decide+kernel)];kernel_rfl)|(rw [if_neg (by decide+kernel)];exact ⟨rfl,rfl⟩))
    (fun os started H enc _=>alH os started H enc)
theorem proved :Rows.BaseRightCardSaid:=
  Claim7.holds_tied_plain_at .later [] [.data, .pinned] true (true, "c121553cc7f3c2467d895848c571e8802509a9de7f8f9d316e3980f047d84048") false
    abX (fun _ h=>by cases h) (by kernel_rfl) (fun _ h=>by cases h) baseRight_row_tie rfl ⟨rfl,rfl⟩ (by kernel_rfl) rfl
    (fun f fn hf hfn=>by
      obtain rfl : f = 3 := Option.some.inj ((show Tryz.prog.funcNamed "homestead/homesteadlaw13.BaseRight" = some 3 by kernel_rfl).symm.trans hf) |>.symm
      obtain rfl:fn=Tryz.f3:=(Option.some.inj (Tryz.func3.symm.trans hfn)).symm
      exact ⟨by kernel_rfl,fun j t ht=>by
        rw [Tryz.params3] at ht
        have hm:=List.mem_of_getElem? (l:=Tryz.f3.params.toList) (by rw [Tryz.params3];simpa using ht)
        rw [Tryz.params3] at hm
        simp only [List.mem_cons,List.not_mem_nil,or_false] at hm
        rcases hm with rfl|rfl<;>exact (show Tryz.prog.wantsStandIn _=false by kernel_rfl)⟩)
    (by kernel_rfl)
end Go.Proofs.YtkaliolnijkadaaGreatDoor
