import Derived.Test.YtfablfldonhkiaaGreatDoorClAx
import Derived.Test.YtfablfldonhkiaaGreatDoorTie
import Derived.Test.YtfablfldonhkiaaGreatDoorCards
import Derived.SevenTiedAt
set_option linter.unusedSimpArgs false
set_option linter.unusedVariables false
namespace Go.Proofs.YtfablfldonhkiaaGreatDoor
open Go Go.Abs Go.ChangeShapes Go.WideShapes Go.ChangeAt Go.RowKit
set_option maxRecDepth 100000
theorem aDX (H:Type) (enc:TypeId×Value->H) (W:World) (h:Nat) (args:Array Value) (ds D:List (DataW H)) (d:List MemPlace)
  (a:∀(j:Nat) t v,Tryz.f5.params[j]?=some t->args[j]?=some v->Value.okWide Tryz.prog W .any h t v)
  (F:DataW.Whole enc Tryz.prog Tryz.f5.params.toList Rows.claimFrameSpec.vars false W args.toList ds D d)
  (hwt:(DataW.weightsEach Tryz.prog (Tryz.f5.params.toList++Rows.claimFrameSpec.plain.varTypes Tryz.prog) (ds++D)).all (· <=reachBytes)=true):
  Calls Tryz.prog 5 args W λe C=>∃v,e= .returned v/\Rows.claimFrameSpec.post enc Tryz.prog Tryz.f5 false true false false W args v C:=by
 have y:=F
 obtain ⟨p,q,E,hV,hps,hfz,hnd⟩:=F
 rw [Tryz.params5] at E a
 obtain ⟨v0,vs0,d0,ds0,p0,q0,z,rfl,rfl,h0,r0⟩:=trodAll_cons E
 obtain ⟨k,vs1,d1,ds1,p1,q1,rfl,rfl,rfl,h1,r1⟩:=trodAll_cons r0
 obtain ⟨l,vs2,d2,ds2,p2,q2,rfl,rfl,rfl,h2,r2⟩:=trodAll_cons r1
 obtain ⟨m,vs3,d3,ds3,p3,q3,rfl,rfl,rfl,h3,r3⟩:=trodAll_cons r2
 obtain ⟨o,vs4,d4,ds4,p4,q4,rfl,rfl,rfl,h4,r4⟩:=trodAll_cons r3
 obtain ⟨r,vs5,d5,ds5,p5,q5,rfl,rfl,rfl,h5,r5⟩:=trodAll_cons r4
 obtain ⟨s,vs6,d6,ds6,p6,q6,rfl,rfl,rfl,h6,r6⟩:=trodAll_cons r5
 obtain ⟨rfl,rfl,rfl⟩:=trodAll_nil r6
 obtain rfl:args= #[v0,k,l,m,o,r,s]:=by cases args;simp_all
 obtain ⟨rfl,rfl⟩:=trodVars_none hV
 have c:∀n∈DataW.weightsEach Tryz.prog [24,27,28,30,32,3,47] [d0,d1,d2,d3,d4,d5,d6],n<=reachBytes:=by
  intro n hn;have:=zal.1 hwt n (by rw [Tryz.params5];simpa [ChangeSpec.plain,DataSpec.varTypes,Rows.claimFrameSpec] using hn)
  simpa using this
 have f:=aJo (P:=Tryz.prog) (H:=H) aKL
 have g:reachBytes<2^62:=by decide
 obtain ⟨pv0,M,b0⟩:=lD laid full f g (of_decide_eq_true (by kernel_rfl)) (by kernel_rfl) h0 (a 0 _ v0 rfl rfl) (λn hn=>c n (cK (i:=0) rfl rfl n hn))
 obtain ⟨pv1,N,b1⟩:=lD laid full f g (of_decide_eq_true (by kernel_rfl)) (by kernel_rfl) h1 (a 1 _ k rfl rfl) (λn hn=>c n (cK (i:=1) rfl rfl n hn))
 obtain ⟨pv2,O,b2⟩:=lD laid full f g (of_decide_eq_true (by kernel_rfl)) (by kernel_rfl) h2 (a 2 _ l rfl rfl) (λn hn=>c n (cK (i:=2) rfl rfl n hn))
 obtain ⟨pv3,Q,U⟩:=lD laid full f g (of_decide_eq_true (by kernel_rfl)) (by kernel_rfl) h3 (a 3 _ m rfl rfl) (λn hn=>c n (cK (i:=3) rfl rfl n hn))
 obtain ⟨pv4,R,V⟩:=lD laid full f g (of_decide_eq_true (by kernel_rfl)) (by kernel_rfl) h4 (a 4 _ o rfl rfl) (λn hn=>c n (cK (i:=4) rfl rfl n hn))
 obtain ⟨pv5,S,X⟩:=lD laid full f g (of_decide_eq_true (by kernel_rfl)) (by kernel_rfl) h5 (a 5 _ r rfl rfl) (λn hn=>c n (cK (i:=5) rfl rfl n hn))
 obtain ⟨pv6,T,Y⟩:=lD laid full f g (of_decide_eq_true (by kernel_rfl)) (by kernel_rfl) h6 (a 6 _ s rfl rfl) (λn hn=>c n (cK (i:=6) rfl rfl n hn))
 obtain ⟨_,Z,rfl,s0⟩:=akO rfl b0
 obtain ⟨I,rfl⟩:=aKb s0
 obtain ⟨_,cs1,rfl,s1⟩:=akO rfl b1
 obtain ⟨J,rfl⟩:=aKD s1
 obtain ⟨_,s2⟩:=auG rfl b2
 obtain ⟨A,u⟩:=aIY s2
 injection u with u
 subst u
 obtain ⟨_,cs3,rfl,s3⟩:=akO rfl U
 obtain ⟨x3,rfl⟩:=aKS s3
 obtain ⟨_,s4⟩:=auG rfl V
 obtain ⟨K,w⟩:=aKr s4
 injection w with w
 subst w
 obtain ⟨_,s5⟩:=auG rfl X
 obtain ⟨B,x,G⟩:=bK aS rfl s5
 injection x with x
 subst x
 have G: -9223372036854775808<=B/\B<=9223372036854775807:=by simpa [Lit.wf,IntKind.min,IntKind.max,IntKind.signed,IntKind.bits] using G
 obtain ⟨_,cs6,rfl,s6⟩:=akO rfl Y
 obtain ⟨L,rfl⟩:=aIs s6
 refine (aBs (vs:=[v0,k,l,m,o,r,s]) (by simp only [RepL];exact ⟨v0,_,rfl,M,k,_,rfl,N,l,_,rfl,O,m,_,rfl,Q,o,_,rfl,R,r,_,rfl,S,s,_,rfl,T,rfl⟩) (aaK arW I.1 J.1 A.1 x3 K.1 B L.1 I.2.1 J.2.b A.2.1 A.2.2 K.2 (Nat.lt_of_le_of_lt L.2.1 (by decide)))).mono λe' C ⟨he,hb⟩=> ?_
 subst he
 exact ⟨_,rfl,aD0 (tb:=4) y rfl laid rfl rfl (by kernel_rfl) (by
  intro t ht
  rw [Tryz.params5] at ht
  simp only [zmc,List.not_mem_nil,or_false] at ht
  rcases ht with rfl|rfl|rfl|rfl|rfl|rfl|rfl<;>exact ⟨by kernel_rfl,of_decide_eq_true (by kernel_rfl)⟩) hb⟩
theorem lifted (os:Os) (a:os.Started) (H:Type) (enc:TypeId×Value->H):
  ReturnsInHanded {} Tryz.checked os 5 .any (λw args=>(Rows.claimFrameSpec.pre enc Tryz.prog Tryz.f5 Rows.claimFrameRow.domain false w args/\laidMetH Tryz.prog Rows.claimFrameRow.laid w)/\sizedMet enc Tryz.prog Tryz.f5 (OpenSpec.ofChange Rows.claimFrameSpec) false w args) (Rows.claimFrameSpec.post enc Tryz.prog Tryz.f5 false true false false):=by
 refine returnsInHanded_of_change_and (C:=Tryz.checked) (X:=λw _=>laidMetH Tryz.prog Rows.claimFrameRow.laid w) (λ_ _ _ hh h=>h.of_heap hh) own a (by kernel_rfl) Tryz.func5
  (ChangeSpec.witness_shaped (enc:=enc) (C:=Tryz.checked) (os:=os) (X:=λw _=>laidMetH Tryz.prog Rows.claimFrameRow.laid w) false (wL os) #[.agg #[.slice none 0 0], .agg #[.slice none 0 0], .slice none 0 0, .agg #[.int .i64 0, .int .i64 0, .int .i64 0], .slice none 0 0, .int .i64 0, .agg #[.int .i64 0, .slice none 0 0, .slice none 0 0]] 8 rfl (aAS os _) (by kernel_rfl) (by kernel_rfl) (by kernel_rfl) (aJt os _)) ?_
 intro W c args ds e b d f _ hwt _ _
 exact aDX H enc W c args ds e b d f hwt
end Go.Proofs.YtfablfldonhkiaaGreatDoor
