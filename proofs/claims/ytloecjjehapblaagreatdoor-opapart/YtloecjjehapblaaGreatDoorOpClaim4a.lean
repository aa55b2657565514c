import Derived.Test.YtloecjjehapblaaGreatDoorOpAv
import Derived.Test.YtloecjjehapblaaGreatDoorTie
import Derived.Test.YtloecjjehapblaaGreatDoorCards
import Derived.SevenTiedAt
set_option linter.unusedSimpArgs false
set_option linter.unusedVariables false
namespace Go.Proofs.YtloecjjehapblaaGreatDoor
open Go Go.Abs Go.ChangeShapes Go.WideShapes Go.ChangeAt Go.RowKit
set_option maxRecDepth 100000
theorem pO (H:Type) (enc:TypeId×Value->H) (W:World) (base:Nat) (args:Array Value) (ds gs:List (DataW H)) (before:List MemPlace)
  (hval:∀(j:Nat) t v,Tryz.f7.params[j]?=some t->args[j]?=some v->Value.okWide Tryz.prog W .any base t v)
  (hW:DataW.Whole enc Tryz.prog Tryz.f7.params.toList Rows.opApartSpec.vars false W args.toList ds gs before)
  (hwt:(DataW.weightsEach Tryz.prog (Tryz.f7.params.toList++Rows.opApartSpec.plain.varTypes Tryz.prog) (ds++gs)).all (· <=reachBytes)=true):
  Calls Tryz.prog 7 args W λe W'=>∃v,e= .returned v/\Rows.opApartSpec.post enc Tryz.prog Tryz.f7 false true false false W args v W':=by
 have hW':=hW
 obtain ⟨p,q,hA,hV,hps,hfz,hnd⟩:=hW
 rw [Tryz.params7] at hA hval
 obtain ⟨v0,vs0,d0,ds0,p0,q0,hargs,rfl,rfl,h0,r0⟩:=trodAll_cons hA
 obtain ⟨v1,vs1,d1,ds1,p1,q1,rfl,rfl,rfl,h1,r1⟩:=trodAll_cons r0
 obtain ⟨v2,vs2,d2,ds2,p2,q2,rfl,rfl,rfl,h2,r2⟩:=trodAll_cons r1
 obtain ⟨v3,vs3,d3,ds3,p3,q3,rfl,rfl,rfl,h3,r3⟩:=trodAll_cons r2
 obtain ⟨v4,vs4,d4,ds4,p4,q4,rfl,rfl,rfl,h4,r4⟩:=trodAll_cons r3
 obtain ⟨v5,vs5,d5,ds5,p5,q5,rfl,rfl,rfl,h5,r5⟩:=trodAll_cons r4
 obtain ⟨v6,vs6,d6,ds6,p6,q6,rfl,rfl,rfl,h6,r6⟩:=trodAll_cons r5
 obtain ⟨v7,vs7,d7,ds7,p7,q7,rfl,rfl,rfl,h7,r7⟩:=trodAll_cons r6
 obtain ⟨rfl,rfl,rfl⟩:=trodAll_nil r7
 obtain rfl:args= #[v0,v1,v2,v3,v4,v5,v6,v7]:=by cases args;simp_all
 obtain ⟨rfl,rfl⟩:=trodVars_none hV
 have hwt':∀n∈DataW.weightsEach Tryz.prog [24,27,61,61,47,47,48,48] [d0,d1,d2,d3,d4,d5,d6,d7],n<=reachBytes:=by
  intro n hn
  have:=zal.1 hwt n (by rw [Tryz.params7];simpa [ChangeSpec.plain,DataSpec.varTypes,Rows.opApartSpec] using hn)
  simpa using this
 have hB:=aqP (P:=Tryz.prog) (H:=H) aBQ
 have hN:reachBytes<2^62:=by decide
 obtain ⟨pv0,a0,b0⟩:=cR laid full hB hN (of_decide_eq_true (by kernel_rfl)) (by kernel_rfl) h0 (hval 0 _ v0 rfl rfl) (λn hn=>hwt' n (aR (i:=0) rfl rfl n hn))
 obtain ⟨pv1,a1,b1⟩:=cR laid full hB hN (of_decide_eq_true (by kernel_rfl)) (by kernel_rfl) h1 (hval 1 _ v1 rfl rfl) (λn hn=>hwt' n (aR (i:=1) rfl rfl n hn))
 obtain ⟨pv2,a2,b2⟩:=cR laid full hB hN (of_decide_eq_true (by kernel_rfl)) (by kernel_rfl) h2 (hval 2 _ v2 rfl rfl) (λn hn=>hwt' n (aR (i:=2) rfl rfl n hn))
 obtain ⟨pv3,a3,b3⟩:=cR laid full hB hN (of_decide_eq_true (by kernel_rfl)) (by kernel_rfl) h3 (hval 3 _ v3 rfl rfl) (λn hn=>hwt' n (aR (i:=3) rfl rfl n hn))
 obtain ⟨pv4,a4,b4⟩:=cR laid full hB hN (of_decide_eq_true (by kernel_rfl)) (by kernel_rfl) h4 (hval 4 _ v4 rfl rfl) (λn hn=>hwt' n (aR (i:=4) rfl rfl n hn))
 obtain ⟨pv5,a5,b5⟩:=cR laid full hB hN (of_decide_eq_true (by kernel_rfl)) (by kernel_rfl) h5 (hval 5 _ v5 rfl rfl) (λn hn=>hwt' n (aR (i:=5) rfl rfl n hn))
 obtain ⟨pv6,a6,b6⟩:=cR laid full hB hN (of_decide_eq_true (by kernel_rfl)) (by kernel_rfl) h6 (hval 6 _ v6 rfl rfl) (λn hn=>hwt' n (aR (i:=6) rfl rfl n hn))
 obtain ⟨pv7,a7,b7⟩:=cR laid full hB hN (of_decide_eq_true (by kernel_rfl)) (by kernel_rfl) h7 (hval 7 _ v7 rfl rfl) (λn hn=>hwt' n (aR (i:=7) rfl rfl n hn))
 obtain ⟨_,cs0,rfl,s0⟩:=iH rfl b0
 obtain ⟨x0,rfl⟩:=aAT s0
 obtain ⟨_,cs1,rfl,s1⟩:=iH rfl b1
 obtain ⟨x1,rfl⟩:=aBJ s1
 obtain ⟨_,cs2,rfl,s2⟩:=iH rfl b2
 obtain ⟨x2,rfl⟩:=anM s2
 obtain ⟨_,cs3,rfl,s3⟩:=iH rfl b3
 obtain ⟨x3,rfl⟩:=anM s3
 obtain ⟨_,cs4,rfl,s4⟩:=iH rfl b4
 obtain ⟨x4,rfl⟩:=auD s4
 obtain ⟨_,cs5,rfl,s5⟩:=iH rfl b5
 obtain ⟨x5,rfl⟩:=auD s5
 obtain ⟨_,s6⟩:=sG rfl b6
 obtain ⟨x6,e6⟩:=atC s6
 injection e6 with e6
 subst e6
 obtain ⟨_,s7⟩:=sG rfl b7
 obtain ⟨x7,e7⟩:=atC s7
 injection e7 with e7
 subst e7
 refine (vS (vs:=[v0,v1,v2,v3,v4,v5,v6,v7]) (by simp only [RepL];exact ⟨v0,_,rfl,a0,v1,_,rfl,a1,v2,_,rfl,a2,v3,_,rfl,a3,v4,_,rfl,a4,v5,_,rfl,a5,v6,_,rfl,a6,v7,_,rfl,a7,rfl⟩) (agE nQ x0.1 x1.1 x2.1 x3.1 x4 x5 x6.1 x7.1 x0.2.1 x1.2.b x2.2 x3.2 x6.2 x7.2)).mono λe' W' ⟨he,hb⟩=> ?_
 subst he
 exact ⟨_,rfl,abM (tb:=4) hW' rfl laid rfl rfl (by kernel_rfl) (by
  intro t ht
  rw [Tryz.params7] at ht
  simp only [zmc,List.not_mem_nil,or_false] at ht
  rcases ht with rfl|rfl|rfl|rfl|rfl|rfl|rfl|rfl<;>exact ⟨by kernel_rfl,of_decide_eq_true (by kernel_rfl)⟩) hb⟩
theorem lifted (os:Os) (started:os.Started) (H:Type) (enc:TypeId×Value->H):
  ReturnsInHanded {} Tryz.checked os 7 .any (λw args=>(Rows.opApartSpec.pre enc Tryz.prog Tryz.f7 Rows.opApartRow.domain false w args/\laidMetH Tryz.prog Rows.opApartRow.laid w)/\sizedMet enc Tryz.prog Tryz.f7 (OpenSpec.ofChange Rows.opApartSpec) false w args) (Rows.opApartSpec.post enc Tryz.prog Tryz.f7 false true false false):=by
 refine returnsInHanded_of_change_and (C:=Tryz.checked) (X:=λw _=>laidMetH Tryz.prog Rows.opApartRow.laid w) (λ_ _ _ hh h=>h.of_heap hh) own started (by kernel_rfl) Tryz.func7
  (ChangeSpec.witness_shaped (enc:=enc) (C:=Tryz.checked) (os:=os) (X:=λw _=>laidMetH Tryz.prog Rows.opApartRow.laid w) false (wL os) #[.agg #[.slice none 0 0], .agg #[.slice none 0 0], .agg #[.int .i64 0, .int .i64 0, .int .i64 0, .int .i64 0, .slice none 0 0, .int .i64 0, .int .i64 0, .string ⟨#[]⟩, .int .i64 0, .int .i64 0, .int .i64 0], .agg #[.int .i64 0, .int .i64 0, .int .i64 0, .int .i64 0, .slice none 0 0, .int .i64 0, .int .i64 0, .string ⟨#[]⟩, .int .i64 0, .int .i64 0, .int .i64 0], .agg #[.int .i64 0, .int .i64 0, .int .i64 0], .agg #[.int .i64 0, .int .i64 0, .int .i64 0], .slice none 0 0, .slice none 0 0] 8 rfl (vD os _) (by kernel_rfl) (by kernel_rfl) (by kernel_rfl) (arC os _)) ?_
 intro W base args ds gs before hval hW _ hwt _ _
 exact pO H enc W base args ds gs before hval hW hwt
end Go.Proofs.YtloecjjehapblaaGreatDoor
