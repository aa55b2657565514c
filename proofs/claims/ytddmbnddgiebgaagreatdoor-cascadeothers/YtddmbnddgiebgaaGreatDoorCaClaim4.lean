/-
  CascadeOthers of the given Leango.
-/
import Derived.Test.YtddmbnddgiebgaaGreatDoorBsArgs
import Derived.Test.YtddmbnddgiebgaaGreatDoorCaLawT
import Derived.Test.YtddmbnddgiebgaaGreatDoorTie
import Derived.Test.YtddmbnddgiebgaaGreatDoorCards
import Derived.SevenTiedAt
set_option linter.unusedSimpArgs false
set_option linter.unusedVariables false
namespace Go.Proofs.YtddmbnddgiebgaaGreatDoor
open Go Go.Abs Go.ChangeShapes Go.WideShapes Go.ChangeAt Go.RowKit
set_option maxRecDepth 100000
theorem fF (H:Type) (enc:TypeId×Value→H) (W:World) (base:Nat) (args:Array Value) (ds gs:List (DataW H)) (before:List MemPlace)
    (hval:∀(j:Nat) t v,Tryz.f6.params[j]?=some t→args[j]?=some v→Value.okWide Tryz.prog W .any base t v)
    (hW:DataW.Whole enc Tryz.prog Tryz.f6.params.toList Rows.cascadeOthersSpec.vars false W args.toList ds gs before)
    (hwt:(DataW.weightsEach Tryz.prog (Tryz.f6.params.toList++Rows.cascadeOthersSpec.plain.varTypes Tryz.prog) (ds++gs)).all (· ≤reachBytes)=true):
    Calls Tryz.prog 6 args W fun e W'=>∃v,e= .returned v∧Rows.cascadeOthersSpec.post enc Tryz.prog Tryz.f6 false true false false W args v W':=by
  have hW':=hW
  obtain ⟨p,q,hA,hV,hps,hfz,hnd⟩:=hW
  rw [Tryz.params6] at hA hval
  obtain ⟨v0,vs0,d0,ds0,p0,q0,hargs,rfl,rfl,h0,r0⟩:=trodAll_cons hA
  obtain ⟨v1,vs1,d1,ds1,p1,q1,rfl,rfl,rfl,h1,r1⟩:=trodAll_cons r0
  obtain ⟨v2,vs2,d2,ds2,p2,q2,rfl,rfl,rfl,h2,r2⟩:=trodAll_cons r1
  obtain ⟨v3,vs3,d3,ds3,p3,q3,rfl,rfl,rfl,h3,r3⟩:=trodAll_cons r2
  obtain ⟨rfl,rfl,rfl⟩:=trodAll_nil r3
  obtain rfl:args= #[v0,v1,v2,v3]:=by cases args;simp_all
  obtain ⟨rfl,rfl⟩:=trodVars_none hV
  have hwt':∀n∈DataW.weightsEach Tryz.prog [24,27,28,30] [d0,d1,d2,d3],n≤reachBytes:=by
    intro n hn
    have:=List.all_eq_true.1 hwt n (by rw [Tryz.params6];simpa [ChangeSpec.plain,DataSpec.varTypes,Rows.cascadeOthersSpec] using hn)
    simpa using this
  have hB:=tM (P:=Tryz.prog) (H:=H) aaY
  have hN:reachBytes<2^62:=by decide
  obtain ⟨pv0,a0,b0⟩:=cM laid full hB hN (of_decide_eq_true (by kernel_rfl)) (by kernel_rfl) h0 (hval 0 _ v0 rfl rfl) (fun n hn=>hwt' n (aT (i:=0) rfl rfl n hn))
  obtain ⟨pv1,a1,b1⟩:=cM laid full hB hN (of_decide_eq_true (by kernel_rfl)) (by kernel_rfl) h1 (hval 1 _ v1 rfl rfl) (fun n hn=>hwt' n (aT (i:=1) rfl rfl n hn))
  obtain ⟨pv2,a2,b2⟩:=cM laid full hB hN (of_decide_eq_true (by kernel_rfl)) (by kernel_rfl) h2 (hval 2 _ v2 rfl rfl) (fun n hn=>hwt' n (aT (i:=2) rfl rfl n hn))
  obtain ⟨pv3,a3,b3⟩:=cM laid full hB hN (of_decide_eq_true (by kernel_rfl)) (by kernel_rfl) h3 (hval 3 _ v3 rfl rfl) (fun n hn=>hwt' n (aT (i:=3) rfl rfl n hn))
  obtain ⟨_,cs0,rfl,s0⟩:=eA rfl b0
  obtain ⟨x0,rfl⟩:=aeS s0
  obtain ⟨_,cs1,rfl,s1⟩:=eA rfl b1
  obtain ⟨x1,rfl⟩:=aaT s1
  obtain ⟨_,cs2,rfl,s2⟩:=eA rfl b2
  obtain ⟨x2,rfl⟩:=jI s2
  obtain ⟨_,cs3,rfl,s3⟩:=eA rfl b3
  obtain ⟨x3,rfl⟩:=uT s3
  refine (jJ (vs:=[v0,v1,v2,v3]) (by simp only [RepL];exact ⟨v0,_,rfl,a0,v1,_,rfl,a1,v2,_,rfl,a2,v3,_,rfl,a3,rfl⟩) (xB x0.1 x1.1 x2.1 x2.2 x3 x0.2 x1.2.b)).mono fun e' W' ⟨he,hb⟩=> ?_
  subst he
  exact ⟨_,rfl,lO (tb:=4) hW' rfl laid rfl rfl (by kernel_rfl) (by
    intro t ht
    rw [Tryz.params6] at ht
    simp only [List.mem_cons,List.not_mem_nil,or_false] at ht
    rcases ht with rfl|rfl|rfl|rfl<;>exact ⟨by kernel_rfl,of_decide_eq_true (by kernel_rfl)⟩) hb⟩
theorem kE (os:Os) (started:os.Started) (H:Type) (enc:TypeId×Value→H):
    ReturnsInHanded {} Tryz.checked os 6 .any (fun w args=>(Rows.cascadeOthersSpec.pre enc Tryz.prog Tryz.f6 Rows.cascadeOthersRow.domain false w args∧laidMetH Tryz.prog Rows.cascadeOthersRow.laid w)∧sizedMet enc Tryz.prog Tryz.f6 (OpenSpec.ofChange Rows.cascadeOthersSpec) false w args) (Rows.cascadeOthersSpec.post enc Tryz.prog Tryz.f6 false true false false):=by
  refine returnsInHanded_of_change_and (C:=Tryz.checked) (X:=fun w _=>laidMetH Tryz.prog Rows.cascadeOthersRow.laid w) (fun _ _ _ hh h=>h.of_heap hh) own started (by kernel_rfl) Tryz.func6
    (ChangeSpec.witness_shaped (enc:=enc) (C:=Tryz.checked) (os:=os) (X:=fun w _=>laidMetH Tryz.prog Rows.cascadeOthersRow.laid w) false (wL os) #[.agg #[.slice none 0 0], .agg #[.slice none 0 0], .agg #[.int .i64 0, .int .i64 0], .agg #[.int .i64 0, .int .i64 0]] 8 rfl (jB os _) (by kernel_rfl) (by kernel_rfl) (by kernel_rfl) (tN os _)) ?_
  intro W base args ds gs before hval hW _ hwt _ _
  exact fF H enc W base args ds gs before hval hW hwt
theorem eN :Rows.CascadeOthersSaid:=
  OpenClaim.holds_of_wide 6 Tryz.f6 rfl rfl rfl rfl rfl rfl rfl ⟨rfl,rfl,rfl,rfl,rfl⟩ rfl rfl rfl rfl rfl (by kernel_rfl) Tryz.func6 (by kernel_rfl)
    (of_decide_eq_true (by kernel_rfl)) (by unfold Func.isWrapper;first|(rw [if_pos (by decide+kernel)];kernel_rfl)|(rw [if_neg (by decide+kernel)];exact ⟨rfl,rfl⟩))
    (fun os started H enc _=>kE os started H enc)
theorem proved :Rows.CascadeOthersCardSaid:=
  Claim7.holds_tied_plain_at .later [] [.data, .pinned] true (true, "bc6f8039139d0a3a1ce57ebbab176413ad497ed3f7ef250ed6f982381100645d") false
    eN (fun _ h=>by cases h) (by kernel_rfl) (fun _ h=>by cases h) cascadeOthers_row_tie rfl ⟨rfl,rfl⟩ (by kernel_rfl) rfl
    (fun f fn hf hfn=>by
      obtain rfl : f = 6 := Option.some.inj ((show Tryz.prog.funcNamed "homestead/homesteadlaw15.CascadeOthers" = some 6 by kernel_rfl).symm.trans hf) |>.symm
      obtain rfl:fn=Tryz.f6:=(Option.some.inj (Tryz.func6.symm.trans hfn)).symm
      exact ⟨by kernel_rfl,fun j t ht=>by
        rw [Tryz.params6] at ht
        have hm:=List.mem_of_getElem? (l:=Tryz.f6.params.toList) (by rw [Tryz.params6];simpa using ht)
        rw [Tryz.params6] at hm
        simp only [List.mem_cons,List.not_mem_nil,or_false] at hm
        rcases hm with rfl|rfl|rfl|rfl<;>exact (show Tryz.prog.wantsStandIn _=false by kernel_rfl)⟩)
    (by kernel_rfl)
end Go.Proofs.YtddmbnddgiebgaaGreatDoor
