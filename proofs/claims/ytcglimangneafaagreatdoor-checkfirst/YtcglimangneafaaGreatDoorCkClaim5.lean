/-
  CheckFirst of the given Leango.
-/
import Derived.Test.YtcglimangneafaaGreatDoorCkArgs5
import Derived.Test.YtcglimangneafaaGreatDoorTie
import Derived.Test.YtcglimangneafaaGreatDoorCards
import Derived.SevenTiedAt
set_option linter.unusedSimpArgs false
set_option linter.unusedVariables false
namespace Go.Proofs.YtcglimangneafaaGreatDoor
open Go Go.Abs Go.ChangeShapes Go.WideShapes Go.ChangeAt Go.RowKit
set_option maxRecDepth 100000
theorem fP (H:Type) (enc:TypeId×Value→H) (W:World) (base:Nat) (args:Array Value) (ds gs:List (DataW H)) (before:List MemPlace)
    (hval:∀(j:Nat) t v,Tryz.f5.params[j]?=some t→args[j]?=some v→Value.okWide Tryz.prog W .any base t v)
    (hW:DataW.Whole enc Tryz.prog Tryz.f5.params.toList Rows.checkFirstSpec.vars false W args.toList ds gs before)
    (hwt:(DataW.weightsEach Tryz.prog (Tryz.f5.params.toList++Rows.checkFirstSpec.plain.varTypes Tryz.prog) (ds++gs)).all (· ≤reachBytes)=true):
    Calls Tryz.prog 5 args W fun e W'=>∃v,e= .returned v∧Rows.checkFirstSpec.post enc Tryz.prog Tryz.f5 false true false false W args v W':=by
  have hW':=hW
  obtain ⟨p,q,hA,hV,hps,hfz,hnd⟩:=hW
  rw [Tryz.params5] at hA hval
  obtain ⟨v0,vs0,d0,ds0,p0,q0,hargs,rfl,rfl,h0,r0⟩:=trodAll_cons hA
  obtain ⟨v1,vs1,d1,ds1,p1,q1,rfl,rfl,rfl,h1,r1⟩:=trodAll_cons r0
  obtain ⟨rfl,rfl,rfl⟩:=trodAll_nil r1
  obtain rfl:args= #[v0,v1]:=by cases args;simp_all
  obtain ⟨rfl,rfl⟩:=trodVars_none hV
  have hwt':∀n∈DataW.weightsEach Tryz.prog [56,56] [d0,d1],n≤reachBytes:=by
    intro n hn
    have:=List.all_eq_true.1 hwt n (by rw [Tryz.params5];simpa [ChangeSpec.plain,DataSpec.varTypes,Rows.checkFirstSpec] using hn)
    simpa using this
  have hB:=vK (P:=Tryz.prog) (H:=H) adO
  have hN:reachBytes<2^62:=by decide
  obtain ⟨pv0,a0,b0⟩:=dH laid full hB hN (of_decide_eq_true (by kernel_rfl)) (by kernel_rfl) h0 (hval 0 _ v0 rfl rfl) (fun n hn=>hwt' n (bE (i:=0) rfl rfl n hn))
  obtain ⟨pv1,a1,b1⟩:=dH laid full hB hN (of_decide_eq_true (by kernel_rfl)) (by kernel_rfl) h1 (hval 1 _ v1 rfl rfl) (fun n hn=>hwt' n (bE (i:=1) rfl rfl n hn))
  obtain ⟨_,s0⟩:=pE rfl b0
  obtain ⟨x0,e0⟩:=avW s0
  injection e0 with e0
  subst e0
  obtain ⟨_,s1⟩:=pE rfl b1
  obtain ⟨x1,e1⟩:=avW s1
  injection e1 with e1
  subst e1
  refine (kO (vs:=[v0,v1]) (by simp only [RepL];exact ⟨v0,_,rfl,a0,v1,_,rfl,a1,rfl⟩) (afK x0.2 x1.2)).mono fun e' W' ⟨he,hb⟩=> ?_
  subst he
  exact ⟨_,rfl,mZ (tb:=4) hW' rfl laid rfl rfl (by kernel_rfl) (by
    intro t ht
    rw [Tryz.params5] at ht
    simp only [List.mem_cons,List.not_mem_nil,or_false] at ht
    rcases ht with rfl|rfl<;>exact ⟨by kernel_rfl,of_decide_eq_true (by kernel_rfl)⟩) hb⟩
theorem lJ (os:Os) (started:os.Started) (H:Type) (enc:TypeId×Value→H):
    ReturnsInHanded {} Tryz.checked os 5 .any (fun w args=>(Rows.checkFirstSpec.pre enc Tryz.prog Tryz.f5 Rows.checkFirstRow.domain false w args∧laidMetH Tryz.prog Rows.checkFirstRow.laid w)∧sizedMet enc Tryz.prog Tryz.f5 (OpenSpec.ofChange Rows.checkFirstSpec) false w args) (Rows.checkFirstSpec.post enc Tryz.prog Tryz.f5 false true false false):=by
  refine returnsInHanded_of_change_and (C:=Tryz.checked) (X:=fun w _=>laidMetH Tryz.prog Rows.checkFirstRow.laid w) (fun _ _ _ hh h=>h.of_heap hh) own started (by kernel_rfl) Tryz.func5
    (ChangeSpec.witness_shaped (enc:=enc) (C:=Tryz.checked) (os:=os) (X:=fun w _=>laidMetH Tryz.prog Rows.checkFirstRow.laid w) false (wL os) #[.slice none 0 0, .slice none 0 0] 8 rfl (kJ os _) (by kernel_rfl) (by kernel_rfl) (by kernel_rfl) (vP os _)) ?_
  intro W base args ds gs before hval hW _ hwt _ _
  exact fP H enc W base args ds gs before hval hW hwt
theorem eT :Rows.CheckFirstSaid:=
  OpenClaim.holds_of_wide 5 Tryz.f5 rfl rfl rfl rfl rfl rfl rfl ⟨rfl,rfl,rfl,rfl,rfl⟩ rfl rfl rfl rfl rfl (by kernel_rfl) Tryz.func5 (by kernel_rfl)
    (of_decide_eq_true (by kernel_rfl)) (by unfold Func.isWrapper;first|(rw [if_pos (by decide+kernel)];kernel_rfl)|(rw [if_neg (by decide+kernel)];exact ⟨rfl,rfl⟩))
    (fun os started H enc _=>lJ os started H enc)
theorem proved :Rows.CheckFirstCardSaid:=
  Claim7.holds_tied_plain_at .later [] [.data, .pinned] true (true, "735ff2812a370ecee00dbd3473f48f960602603ee4e519847f1b3baa9c4125fc") false
    eT (fun _ h=>by cases h) (by kernel_rfl) (fun _ h=>by cases h) checkFirst_row_tie rfl ⟨rfl,rfl⟩ (by kernel_rfl) rfl
    (fun f fn hf hfn=>by
      obtain rfl : f = 5 := Option.some.inj ((show Tryz.prog.funcNamed "homestead/homesteadlaw14.CheckFirst" = some 5 by kernel_rfl).symm.trans hf) |>.symm
      obtain rfl:fn=Tryz.f5:=(Option.some.inj (Tryz.func5.symm.trans hfn)).symm
      exact ⟨by kernel_rfl,fun j t ht=>by
        rw [Tryz.params5] at ht
        have hm:=List.mem_of_getElem? (l:=Tryz.f5.params.toList) (by rw [Tryz.params5];simpa using ht)
        rw [Tryz.params5] at hm
        simp only [List.mem_cons,List.not_mem_nil,or_false] at hm
        rcases hm with rfl|rfl<;>exact (show Tryz.prog.wantsStandIn _=false by kernel_rfl)⟩)
    (by kernel_rfl)
end Go.Proofs.YtcglimangneafaaGreatDoor
