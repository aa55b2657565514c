import Derived.Test.YtppdefkgmegipaaGreatDoorClAv
import Derived.Test.YtppdefkgmegipaaGreatDoorTie
import Derived.Test.YtppdefkgmegipaaGreatDoorCards
import Derived.SevenTiedAt
set_option linter.unusedSimpArgs false
set_option linter.unusedVariables false
namespace Go.Proofs.YtppdefkgmegipaaGreatDoor
open Go Go.Abs Go.ChangeShapes Go.WideShapes Go.ChangeAt Go.RowKit
set_option maxRecDepth 100000
theorem auM (H:Type) (enc:TypeId×Value->H) (W:World) (base:Nat) (args:Array Value) (ds gs:List (DataW H)) (before:List MemPlace)
  (hval:∀(j:Nat) t v,Tryz.f3.params[j]?=some t->args[j]?=some v->Value.okWide Tryz.prog W .any base t v)
  (hW:DataW.Whole enc Tryz.prog Tryz.f3.params.toList Rows.whyNoneSpec.vars false W args.toList ds gs before)
  (hwt:(DataW.weightsEach Tryz.prog (Tryz.f3.params.toList++Rows.whyNoneSpec.plain.varTypes Tryz.prog) (ds++gs)).all (· <=reachBytes)=true):
  Calls Tryz.prog 3 args W λe W'=>∃v,e= .returned v/\Rows.whyNoneSpec.post enc Tryz.prog Tryz.f3 false true false false W args v W':=by
 have hW':=hW
 obtain ⟨p,q,hA,hV,hps,hfz,hnd⟩:=hW
 rw [Tryz.params3] at hA hval
 obtain ⟨v0,vs0,d0,ds0,p0,q0,hargs,rfl,rfl,h0,r0⟩:=trodAll_cons hA
 obtain ⟨v1,vs1,d1,ds1,p1,q1,rfl,rfl,rfl,h1,r1⟩:=trodAll_cons r0
 obtain ⟨v2,vs2,d2,ds2,p2,q2,rfl,rfl,rfl,h2,r2⟩:=trodAll_cons r1
 obtain ⟨v3,vs3,d3,ds3,p3,q3,rfl,rfl,rfl,h3,r3⟩:=trodAll_cons r2
 obtain ⟨v4,vs4,d4,ds4,p4,q4,rfl,rfl,rfl,h4,r4⟩:=trodAll_cons r3
 obtain ⟨v5,vs5,d5,ds5,p5,q5,rfl,rfl,rfl,h5,r5⟩:=trodAll_cons r4
 obtain ⟨rfl,rfl,rfl⟩:=trodAll_nil r5
 obtain rfl:args= #[v0,v1,v2,v3,v4,v5]:=by cases args;simp_all
 obtain ⟨rfl,rfl⟩:=trodVars_none hV
 have hwt':∀n∈DataW.weightsEach Tryz.prog [24,27,33,35,36,37] [d0,d1,d2,d3,d4,d5],n<=reachBytes:=by
  intro n hn
  have:=zal.1 hwt n (by rw [Tryz.params3];simpa [ChangeSpec.plain,DataSpec.varTypes,Rows.whyNoneSpec] using hn)
  simpa using this
 have hB:=aBx (P:=Tryz.prog) (H:=H) aCP
 have hN:reachBytes<2^62:=by decide
 obtain ⟨pv0,a0,b0⟩:=kC laid full hB hN (of_decide_eq_true (by kernel_rfl)) (by kernel_rfl) h0 (hval 0 _ v0 rfl rfl) (λn hn=>hwt' n (cH (i:=0) rfl rfl n hn))
 obtain ⟨pv1,a1,b1⟩:=kC laid full hB hN (of_decide_eq_true (by kernel_rfl)) (by kernel_rfl) h1 (hval 1 _ v1 rfl rfl) (λn hn=>hwt' n (cH (i:=1) rfl rfl n hn))
 obtain ⟨pv2,a2,b2⟩:=kC laid full hB hN (of_decide_eq_true (by kernel_rfl)) (by kernel_rfl) h2 (hval 2 _ v2 rfl rfl) (λn hn=>hwt' n (cH (i:=2) rfl rfl n hn))
 obtain ⟨pv3,a3,b3⟩:=kC laid full hB hN (of_decide_eq_true (by kernel_rfl)) (by kernel_rfl) h3 (hval 3 _ v3 rfl rfl) (λn hn=>hwt' n (cH (i:=3) rfl rfl n hn))
 obtain ⟨pv4,a4,b4⟩:=kC laid full hB hN (of_decide_eq_true (by kernel_rfl)) (by kernel_rfl) h4 (hval 4 _ v4 rfl rfl) (λn hn=>hwt' n (cH (i:=4) rfl rfl n hn))
 obtain ⟨pv5,a5,b5⟩:=kC laid full hB hN (of_decide_eq_true (by kernel_rfl)) (by kernel_rfl) h5 (hval 5 _ v5 rfl rfl) (λn hn=>hwt' n (cH (i:=5) rfl rfl n hn))
 obtain ⟨_,cs0,rfl,s0⟩:=ajB rfl b0
 obtain ⟨x0,rfl⟩:=aCm s0
 obtain ⟨_,cs1,rfl,s1⟩:=ajB rfl b1
 obtain ⟨x1,rfl⟩:=aCK s1
 obtain ⟨_,cs2,rfl,s2⟩:=ajB rfl b2
 obtain ⟨x2,rfl⟩:=aB5 s2
 obtain ⟨_,s3⟩:=ajF rfl b3
 obtain ⟨x3,e3⟩:=aBC s3
 injection e3 with e3
 subst e3
 obtain ⟨_,s4⟩:=ajF rfl b4
 obtain ⟨x4,e4⟩:=aBt s4
 injection e4 with e4
 subst e4
 obtain ⟨_,s5⟩:=ajF rfl b5
 obtain ⟨x5,e5⟩:=aAH s5
 injection e5 with e5
 subst e5
 refine (apP (vs:=[v0,v1,v2,v3,v4,v5]) (by simp only [RepL];exact ⟨v0,_,rfl,a0,v1,_,rfl,a1,v2,_,rfl,a2,v3,_,rfl,a3,v4,_,rfl,a4,v5,_,rfl,a5,rfl⟩) (anM (aBf x0 x1 x2) x3 x4 x5)).mono λe' W' ⟨he,hb⟩=> ?_
 subst he
 exact ⟨_,rfl,auV (tb:=4) hW' rfl laid rfl rfl (by kernel_rfl) (by
  intro t ht
  rw [Tryz.params3] at ht
  simp only [zmc,List.not_mem_nil,or_false] at ht
  rcases ht with rfl|rfl|rfl|rfl|rfl|rfl<;>exact ⟨by kernel_rfl,of_decide_eq_true (by kernel_rfl)⟩) hb⟩
theorem lifted (os:Os) (started:os.Started) (H:Type) (enc:TypeId×Value->H):
  ReturnsInHanded {} Tryz.checked os 3 .any (λw args=>(Rows.whyNoneSpec.pre enc Tryz.prog Tryz.f3 Rows.whyNoneRow.domain false w args/\laidMetH Tryz.prog Rows.whyNoneRow.laid w)/\sizedMet enc Tryz.prog Tryz.f3 (OpenSpec.ofChange Rows.whyNoneSpec) false w args) (Rows.whyNoneSpec.post enc Tryz.prog Tryz.f3 false true false false):=by
 refine returnsInHanded_of_change_and (C:=Tryz.checked) (X:=λw _=>laidMetH Tryz.prog Rows.whyNoneRow.laid w) (λ_ _ _ hh h=>h.of_heap hh) own started (by kernel_rfl) Tryz.func3
  (ChangeSpec.witness_shaped (enc:=enc) (C:=Tryz.checked) (os:=os) (X:=λw _=>laidMetH Tryz.prog Rows.whyNoneRow.laid w) false (wL os) #[.agg #[.slice none 0 0], .agg #[.slice none 0 0], .agg #[.int .i64 0, .slice none 0 0, .slice none 0 0, .slice none 0 0, .slice none 0 0, .slice none 0 0, .int .i64 0], .slice none 0 0, .slice none 0 0, .slice none 0 0] 8 rfl (aoB os _) (by kernel_rfl) (by kernel_rfl) (by kernel_rfl) (aBB os _)) ?_
 intro W base args ds gs before hval hW _ hwt _ _
 exact auM H enc W base args ds gs before hval hW hwt
end Go.Proofs.YtppdefkgmegipaaGreatDoor
