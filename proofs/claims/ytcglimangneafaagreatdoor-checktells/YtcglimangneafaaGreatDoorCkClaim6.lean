/-
  CheckTells of the given Leango: why any schema may not be, what does not hold in any base, and what any bound's group comes to.
-/
import Derived.Test.YtcglimangneafaaGreatDoorCkArgs
import Derived.Test.YtcglimangneafaaGreatDoorCkTellsS
import Derived.Test.YtcglimangneafaaGreatDoorTie
import Derived.Test.YtcglimangneafaaGreatDoorCards
import Derived.SevenTiedAt
set_option linter.unusedSimpArgs false
set_option linter.unusedVariables false
namespace Go.Proofs.YtcglimangneafaaGreatDoor
open Go Go.Abs Go.ChangeShapes Go.WideShapes Go.ChangeAt Go.RowKit
set_option maxRecDepth 100000
theorem asA (H:Type) (enc:TypeId×Value→H) (W:World) (base:Nat) (args:Array Value) (ds gs:List (DataW H)) (before:List MemPlace)
    (hval:∀(j:Nat) t v,Tryz.f3.params[j]?=some t→args[j]?=some v→Value.okWide Tryz.prog W .any base t v)
    (hW:DataW.Whole enc Tryz.prog Tryz.f3.params.toList Rows.checkTellsSpec.vars false W args.toList ds gs before)
    (hwt:(DataW.weightsEach Tryz.prog (Tryz.f3.params.toList++Rows.checkTellsSpec.plain.varTypes Tryz.prog) (ds++gs)).all (· ≤reachBytes)=true):
    Calls Tryz.prog 3 args W fun e W'=>∃v,e= .returned v∧Rows.checkTellsSpec.post enc Tryz.prog Tryz.f3 false true false false W args v W':=by
  have hW':=hW
  obtain ⟨p,q,hA,hV,hps,hfz,hnd⟩:=hW
  rw [Tryz.params3] at hA hval
  obtain ⟨v0,vs0,d0,ds0,p0,q0,hargs,rfl,rfl,h0,r0⟩:=trodAll_cons hA
  obtain ⟨v1,vs1,d1,ds1,p1,q1,rfl,rfl,rfl,h1,r1⟩:=trodAll_cons r0
  obtain ⟨v2,vs2,d2,ds2,p2,q2,rfl,rfl,rfl,h2,r2⟩:=trodAll_cons r1
  obtain ⟨v3,vs3,d3,ds3,p3,q3,rfl,rfl,rfl,h3,r3⟩:=trodAll_cons r2
  obtain ⟨v4,vs4,d4,ds4,p4,q4,rfl,rfl,rfl,h4,r4⟩:=trodAll_cons r3
  obtain ⟨rfl,rfl,rfl⟩:=trodAll_nil r4
  obtain rfl:args= #[v0,v1,v2,v3,v4]:=by cases args;simp_all
  obtain ⟨rfl,rfl⟩:=trodVars_none hV
  have hwt':∀n∈DataW.weightsEach Tryz.prog [24,27,3,3,3] [d0,d1,d2,d3,d4],n≤reachBytes:=by
    intro n hn
    have:=List.all_eq_true.1 hwt n (by rw [Tryz.params3];simpa [ChangeSpec.plain,DataSpec.varTypes,Rows.checkTellsSpec] using hn)
    simpa using this
  have hB:=ayU (P:=Tryz.prog) (H:=H) aAD
  have hN:reachBytes<2^62:=by decide
  obtain ⟨pv0,a0,b0⟩:=mA laid full hB hN (of_decide_eq_true (by kernel_rfl)) (by kernel_rfl) h0 (hval 0 _ v0 rfl rfl) (fun n hn=>hwt' n (cW (i:=0) rfl rfl n hn))
  obtain ⟨pv1,a1,b1⟩:=mA laid full hB hN (of_decide_eq_true (by kernel_rfl)) (by kernel_rfl) h1 (hval 1 _ v1 rfl rfl) (fun n hn=>hwt' n (cW (i:=1) rfl rfl n hn))
  obtain ⟨pv2,a2,b2⟩:=mA laid full hB hN (of_decide_eq_true (by kernel_rfl)) (by kernel_rfl) h2 (hval 2 _ v2 rfl rfl) (fun n hn=>hwt' n (cW (i:=2) rfl rfl n hn))
  obtain ⟨pv3,a3,b3⟩:=mA laid full hB hN (of_decide_eq_true (by kernel_rfl)) (by kernel_rfl) h3 (hval 3 _ v3 rfl rfl) (fun n hn=>hwt' n (cW (i:=3) rfl rfl n hn))
  obtain ⟨pv4,a4,b4⟩:=mA laid full hB hN (of_decide_eq_true (by kernel_rfl)) (by kernel_rfl) h4 (hval 4 _ v4 rfl rfl) (fun n hn=>hwt' n (cW (i:=4) rfl rfl n hn))
  obtain ⟨_,cs0,rfl,s0⟩:=asG rfl b0
  obtain ⟨x0,rfl⟩:=aAh s0
  obtain ⟨_,cs1,rfl,s1⟩:=asG rfl b1
  obtain ⟨x1,rfl⟩:=aAz s1
  obtain ⟨_,s2⟩:=aiJ rfl b2
  obtain ⟨x2,e2,w2⟩:=bN aD rfl s2
  injection e2 with e2
  subst e2
  have w2: -9223372036854775808≤x2∧x2≤9223372036854775807:=by simpa [Lit.wf,IntKind.min,IntKind.max,IntKind.signed,IntKind.bits] using w2
  obtain ⟨_,s3⟩:=aiJ rfl b3
  obtain ⟨x3,e3,w3⟩:=bN aD rfl s3
  injection e3 with e3
  subst e3
  have w3: -9223372036854775808≤x3∧x3≤9223372036854775807:=by simpa [Lit.wf,IntKind.min,IntKind.max,IntKind.signed,IntKind.bits] using w3
  obtain ⟨_,s4⟩:=aiJ rfl b4
  obtain ⟨x4,e4,w4⟩:=bN aD rfl s4
  injection e4 with e4
  subst e4
  have w4: -9223372036854775808≤x4∧x4≤9223372036854775807:=by simpa [Lit.wf,IntKind.min,IntKind.max,IntKind.signed,IntKind.bits] using w4
  refine (anW (vs:=[v0,v1,v2,v3,v4]) (by simp only [RepL];exact ⟨v0,_,rfl,a0,v1,_,rfl,a1,v2,_,rfl,a2,v3,_,rfl,a3,v4,_,rfl,a4,rfl⟩) (aaA x0.1 x1.1 x2 x3 x4 x0.2.1 x1.2.b)).mono fun e' W' ⟨he,hb⟩=> ?_
  subst he
  exact ⟨_,rfl,asF (tb:=4) hW' rfl laid rfl rfl (by kernel_rfl) (by
    intro t ht
    rw [Tryz.params3] at ht
    simp only [List.mem_cons,List.not_mem_nil,or_false] at ht
    rcases ht with rfl|rfl|rfl|rfl|rfl<;>exact ⟨by kernel_rfl,of_decide_eq_true (by kernel_rfl)⟩) hb⟩
theorem ayO (os:Os) (started:os.Started) (H:Type) (enc:TypeId×Value→H):
    ReturnsInHanded {} Tryz.checked os 3 .any (fun w args=>(Rows.checkTellsSpec.pre enc Tryz.prog Tryz.f3 Rows.checkTellsRow.domain false w args∧laidMetH Tryz.prog Rows.checkTellsRow.laid w)∧sizedMet enc Tryz.prog Tryz.f3 (OpenSpec.ofChange Rows.checkTellsSpec) false w args) (Rows.checkTellsSpec.post enc Tryz.prog Tryz.f3 false true false false):=by
  refine returnsInHanded_of_change_and (C:=Tryz.checked) (X:=fun w _=>laidMetH Tryz.prog Rows.checkTellsRow.laid w) (fun _ _ _ hh h=>h.of_heap hh) own started (by kernel_rfl) Tryz.func3
    (ChangeSpec.witness_shaped (enc:=enc) (C:=Tryz.checked) (os:=os) (X:=fun w _=>laidMetH Tryz.prog Rows.checkTellsRow.laid w) false (wL os) #[.agg #[.slice none 0 0], .agg #[.slice none 0 0], .int .i64 0, .int .i64 0, .int .i64 0] 8 rfl (amR os _) (by kernel_rfl) (by kernel_rfl) (by kernel_rfl) (ayX os _)) ?_
  intro W base args ds gs before hval hW _ hwt _ _
  exact asA H enc W base args ds gs before hval hW hwt
theorem aAb :Tryz.checked.prog.funcNamed Rows.checkTellsRow.func=some 3:=by kernel_rfl
theorem aAv :Tryz.f3.isInstance Tryz.checked.prog Rows.checkTellsRow.origin Rows.checkTellsRow.targs:=(of_decide_eq_true (by kernel_rfl))
theorem aAl :Tryz.f3.isWrapper Tryz.checked.prog Rows.checkTellsRow.wrapper Rows.checkTellsRow.mainSum:=(by unfold Func.isWrapper;first|(rw [if_pos (by decide+kernel)];kernel_rfl)|(rw [if_neg (by decide+kernel)];exact ⟨rfl,rfl⟩))
theorem aAc :joinedFacts Tryz.checked.prog 3 Tryz.f3 Rows.checkTellsSpec Rows.checkTellsRow=true:=by kernel_rfl
theorem aoK :Rows.CheckTellsSaid:=
  OpenClaim.holds_of_wide 3 Tryz.f3 rfl rfl rfl rfl rfl rfl rfl ⟨rfl,rfl,rfl,rfl,rfl⟩ rfl rfl rfl rfl rfl aAb Tryz.func3 aAc aAv aAl
    (fun os started H enc _=>ayO os started H enc)
theorem proved :Rows.CheckTellsCardSaid:=
  Claim7.holds_tied_plain_at .later [] [.data, .pinned] true (true, "735ff2812a370ecee00dbd3473f48f960602603ee4e519847f1b3baa9c4125fc") false
    aoK (fun _ h=>by cases h) (by kernel_rfl) (fun _ h=>by cases h) checkTells_row_tie rfl ⟨rfl,rfl⟩ (by kernel_rfl) rfl
    (fun f fn hf hfn=>by
      obtain rfl : f = 3 := Option.some.inj ((show Tryz.prog.funcNamed "homestead/homesteadlaw14.CheckTells" = some 3 by kernel_rfl).symm.trans hf) |>.symm
      obtain rfl:fn=Tryz.f3:=(Option.some.inj (Tryz.func3.symm.trans hfn)).symm
      exact ⟨by kernel_rfl,fun j t ht=>by
        rw [Tryz.params3] at ht
        have hm:=List.mem_of_getElem? (l:=Tryz.f3.params.toList) (by rw [Tryz.params3];simpa using ht)
        rw [Tryz.params3] at hm
        simp only [List.mem_cons,List.not_mem_nil,or_false] at hm
        rcases hm with rfl|rfl|rfl|rfl|rfl<;>exact (show Tryz.prog.wantsStandIn _=false by kernel_rfl)⟩)
    (by kernel_rfl)
end Go.Proofs.YtcglimangneafaaGreatDoor
