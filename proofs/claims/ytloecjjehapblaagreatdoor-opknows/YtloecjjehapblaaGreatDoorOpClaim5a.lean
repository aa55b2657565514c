import Derived.Test.YtloecjjehapblaaGreatDoorOkAv
import Derived.Test.YtloecjjehapblaaGreatDoorOkAm
import Derived.Test.YtloecjjehapblaaGreatDoorTie
import Derived.Test.YtloecjjehapblaaGreatDoorCards
import Derived.SevenTiedAt
set_option linter.unusedSimpArgs false
set_option linter.unusedVariables false
namespace Go.Proofs.YtloecjjehapblaaGreatDoor
open Go Go.Abs Go.ChangeShapes Go.WideShapes Go.ChangeAt Go.RowKit
set_option maxRecDepth 100000
theorem aAK (H:Type) (enc:TypeId×Value->H) (W:World) (base:Nat) (args:Array Value) (ds gs:List (DataW H)) (before:List MemPlace)
  (hval:∀(j:Nat) t v,Tryz.f8.params[j]?=some t->args[j]?=some v->Value.okWide Tryz.prog W .any base t v)
  (hW:DataW.Whole enc Tryz.prog Tryz.f8.params.toList Rows.opKnowsSpec.vars false W args.toList ds gs before)
  (hwt:(DataW.weightsEach Tryz.prog (Tryz.f8.params.toList++Rows.opKnowsSpec.plain.varTypes Tryz.prog) (ds++gs)).all (· <=reachBytes)=true):
  Calls Tryz.prog 8 args W λe W'=>∃v,e= .returned v/\Rows.opKnowsSpec.post enc Tryz.prog Tryz.f8 false true false false W args v W':=by
 have hW':=hW
 obtain ⟨p,q,hA,hV,hps,hfz,hnd⟩:=hW
 rw [Tryz.params8] at hA hval
 obtain ⟨v0,vs0,d0,ds0,p0,q0,hargs,rfl,rfl,h0,r0⟩:=trodAll_cons hA
 obtain ⟨v1,vs1,d1,ds1,p1,q1,rfl,rfl,rfl,h1,r1⟩:=trodAll_cons r0
 obtain ⟨v2,vs2,d2,ds2,p2,q2,rfl,rfl,rfl,h2,r2⟩:=trodAll_cons r1
 obtain ⟨rfl,rfl,rfl⟩:=trodAll_nil r2
 obtain rfl:args= #[v0,v1,v2]:=by cases args;simp_all
 obtain ⟨rfl,rfl⟩:=trodVars_none hV
 have hwt':∀n∈DataW.weightsEach Tryz.prog [73,73,4] [d0,d1,d2],n<=reachBytes:=by
  intro n hn
  have:=zal.1 hwt n (by rw [Tryz.params8];simpa [ChangeSpec.plain,DataSpec.varTypes,Rows.opKnowsSpec] using hn)
  simpa using this
 have hB:=aFk (P:=Tryz.prog) (H:=H) aGK
 have hN:reachBytes<2^62:=by decide
 obtain ⟨pv0,a0,b0⟩:=zH laid full hB hN (of_decide_eq_true (by kernel_rfl)) (by kernel_rfl) h0 (hval 0 _ v0 rfl rfl) (λn hn=>hwt' n (eW (i:=0) rfl rfl n hn))
 obtain ⟨pv1,a1,b1⟩:=zH laid full hB hN (of_decide_eq_true (by kernel_rfl)) (by kernel_rfl) h1 (hval 1 _ v1 rfl rfl) (λn hn=>hwt' n (eW (i:=1) rfl rfl n hn))
 obtain ⟨pv2,a2,b2⟩:=zH laid full hB hN (of_decide_eq_true (by kernel_rfl)) (by kernel_rfl) h2 (hval 2 _ v2 rfl rfl) (λn hn=>hwt' n (eW (i:=2) rfl rfl n hn))
 obtain ⟨_,s0⟩:=aoZ rfl b0
 obtain ⟨x0,e0,w0⟩:=adM aF rfl s0
 injection e0 with e0
 subst e0
 have w0:0<=x0/\x0<=65535:=by simpa [Lit.wf,IntKind.min,IntKind.max,IntKind.signed,IntKind.bits] using w0
 obtain ⟨_,s1⟩:=aoZ rfl b1
 obtain ⟨x1,e1,w1⟩:=adM aF rfl s1
 injection e1 with e1
 subst e1
 have w1:0<=x1/\x1<=65535:=by simpa [Lit.wf,IntKind.min,IntKind.max,IntKind.signed,IntKind.bits] using w1
 obtain ⟨_,s2⟩:=aoZ rfl b2
 obtain ⟨x2,e2⟩:=aoK aF rfl s2
 injection e2 with e2
 subst e2
 refine (awQ (vs:=[v0,v1,v2]) (by simp only [RepL];exact ⟨v0,_,rfl,a0,v1,_,rfl,a1,v2,_,rfl,a2,rfl⟩) (agM afV w0.1 w0.2 w1.1 w1.2 x2)).mono λe' W' ⟨he,hb⟩=> ?_
 subst he
 exact ⟨_,rfl,aAO (tb:=4) hW' rfl laid rfl rfl (by kernel_rfl) (by
  intro t ht
  rw [Tryz.params8] at ht
  simp only [zmc,List.not_mem_nil,or_false] at ht
  rcases ht with rfl|rfl|rfl<;>exact ⟨by kernel_rfl,of_decide_eq_true (by kernel_rfl)⟩) hb⟩
theorem lifted (os:Os) (started:os.Started) (H:Type) (enc:TypeId×Value->H):
  ReturnsInHanded {} Tryz.checked os 8 .any (λw args=>(Rows.opKnowsSpec.pre enc Tryz.prog Tryz.f8 Rows.opKnowsRow.domain false w args/\laidMetH Tryz.prog Rows.opKnowsRow.laid w)/\sizedMet enc Tryz.prog Tryz.f8 (OpenSpec.ofChange Rows.opKnowsSpec) false w args) (Rows.opKnowsSpec.post enc Tryz.prog Tryz.f8 false true false false):=by
 refine returnsInHanded_of_change_and (C:=Tryz.checked) (X:=λw _=>laidMetH Tryz.prog Rows.opKnowsRow.laid w) (λ_ _ _ hh h=>h.of_heap hh) own started (by kernel_rfl) Tryz.func8
  (ChangeSpec.witness_shaped (enc:=enc) (C:=Tryz.checked) (os:=os) (X:=λw _=>laidMetH Tryz.prog Rows.opKnowsRow.laid w) false (wL os) #[.int .u16 0, .int .u16 0, .bool false] 8 rfl (avE os _) (by kernel_rfl) (by kernel_rfl) (by kernel_rfl) (aFs os _)) ?_
 intro W base args ds gs before hval hW _ hwt _ _
 exact aAK H enc W base args ds gs before hval hW hwt
end Go.Proofs.YtloecjjehapblaaGreatDoor
