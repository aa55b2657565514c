import Derived.Test.YtigmnfepdlbcpaaGreatDoorClAi
import Derived.Test.YtigmnfepdlbcpaaGreatDoorTie
import Derived.Test.YtigmnfepdlbcpaaGreatDoorCards
import Derived.SevenTiedAt
set_option linter.all false
namespace Go.Proofs.YtigmnfepdlbcpaaGreatDoor
open Go Go.Abs Go.ChangeShapes Go.WideShapes Go.ChangeAt Go.RowKit
set_option maxRecDepth 100000
theorem aHb(H:Type)(enc:TypeId×Value->H)(W:World)(f:Nat)(args:Array Value)(ds z:List (DataW H))(d:List MemPlace)
  (a:∀(j:Nat) t v,Tryz.f3.params[j]?=some t->args[j]?=some v->Value.okWide Tryz.prog W .any f t v)
  (B:DataW.Whole enc Tryz.prog Tryz.f3.params.toList Rows.claimOfSpec.vars false W args.toList ds z d)
  (hwt:(DataW.weightsEach Tryz.prog (Tryz.f3.params.toList++Rows.claimOfSpec.plain.varTypes Tryz.prog) (ds++z)).all (· <=reachBytes)=true):
  Calls Tryz.prog 3 args W λe y=>∃v,e= .returned v/\Rows.claimOfSpec.post enc Tryz.prog Tryz.f3 false true false false W args v y:=by
 have u:=B
 obtain⟨p,q,A,hV,hps,hfz,hnd⟩:=B
 rw[Tryz.params3]at A a
 obtain⟨v0,vs0,R,X,p0,q0,w,rfl,rfl,h0,r0⟩:=trodAll_cons A
 obtain⟨k,vs1,S,Y,p1,q1,rfl,rfl,rfl,h1,r1⟩:=trodAll_cons r0
 obtain⟨l,vs2,T,Z,p2,q2,rfl,rfl,rfl,h2,r2⟩:=trodAll_cons r1
 obtain⟨m,vs3,U,ds3,p3,q3,rfl,rfl,rfl,h3,r3⟩:=trodAll_cons r2
 obtain⟨o,vs4,V,ds4,p4,q4,rfl,rfl,rfl,h4,r4⟩:=trodAll_cons r3
 obtain⟨rfl,rfl,rfl⟩:=trodAll_nil r4
 obtain rfl:args= #[v0,k,l,m,o]:=by cases args;simp_all
 obtain⟨rfl,rfl⟩:=trodVars_none hV
 have c:∀n∈DataW.weightsEach Tryz.prog [24,27,28,30,32] [R,S,T,U,V],n<=reachBytes:=by
  intro n hn;have:=zal.1 hwt n (by rw[Tryz.params3];simpa[ChangeSpec.plain,DataSpec.varTypes,Rows.claimOfSpec]using hn)
  simpa using this
 have g:=aMM (P:=Tryz.prog) (H:=H) aOa
 have h:reachBytes<2^62:=by decide
 obtain⟨pv0,F,b0⟩:=tG laid full g h (of_decide_eq_true (by kernel_rfl)) (by kernel_rfl) h0 (a 0 _ v0 rfl rfl) λn hn=>c n (eD (i:=0) rfl rfl n hn)
 obtain⟨pv1,G,b1⟩:=tG laid full g h (of_decide_eq_true (by kernel_rfl)) (by kernel_rfl) h1 (a 1 _ k rfl rfl) λn hn=>c n (eD (i:=1) rfl rfl n hn)
 obtain⟨pv2,I,b2⟩:=tG laid full g h (of_decide_eq_true (by kernel_rfl)) (by kernel_rfl) h2 (a 2 _ l rfl rfl) λn hn=>c n (eD (i:=2) rfl rfl n hn)
 obtain⟨pv3,J,L⟩:=tG laid full g h (of_decide_eq_true (by kernel_rfl)) (by kernel_rfl) h3 (a 3 _ m rfl rfl) λn hn=>c n (eD (i:=3) rfl rfl n hn)
 obtain⟨pv4,K,M⟩:=tG laid full g h (of_decide_eq_true (by kernel_rfl)) (by kernel_rfl) h4 (a 4 _ o rfl rfl) λn hn=>c n (eD (i:=4) rfl rfl n hn)
 obtain⟨_,N,rfl,s0⟩:=aAw rfl b0
 obtain⟨C,rfl⟩:=aNE s0
 obtain⟨_,O,rfl,s1⟩:=aAw rfl b1
 obtain⟨D,rfl⟩:=aN3 s1
 obtain⟨_,s2⟩:=aHu rfl b2
 obtain⟨x,r⟩:=aMn s2
 injection r with r
 subst r
 obtain⟨_,Q,rfl,s3⟩:=aAw rfl L
 obtain⟨x3,rfl⟩:=aOg s3
 obtain⟨_,s4⟩:=aHu rfl M
 obtain⟨E,s⟩:=aNT s4
 injection s with s
 subst s
 refine(aEK (vs:=[v0,k,l,m,o]) (by simp only[RepL];exact⟨v0,_,rfl,F,k,_,rfl,G,l,_,rfl,I,m,_,rfl,J,o,_,rfl,K,rfl⟩) (arD ayY C.1 D.1 x.1 x3 E.1 C.2.1 D.2.b x.2.1 x.2.2 E.2)).mono λe' y ⟨he,hb⟩=>?_
 subst he
 exact⟨_,rfl,aHh (tb:=4) u rfl laid rfl rfl (by kernel_rfl) (by
  intro t ht
  rw[Tryz.params3]at ht
  simp only[zmc,List.not_mem_nil,or_false]at ht
  rcases ht with rfl|rfl|rfl|rfl|rfl<;>exact⟨by kernel_rfl,of_decide_eq_true (by kernel_rfl)⟩) hb⟩
theorem lifted(os:Os)(a:os.Started)(H:Type)(enc:TypeId×Value->H):
  ReturnsInHanded {} Tryz.checked os 3 .any (λw args=>(Rows.claimOfSpec.pre enc Tryz.prog Tryz.f3 Rows.claimOfRow.domain false w args/\laidMetH Tryz.prog Rows.claimOfRow.laid w)/\sizedMet enc Tryz.prog Tryz.f3 (OpenSpec.ofChange Rows.claimOfSpec) false w args) (Rows.claimOfSpec.post enc Tryz.prog Tryz.f3 false true false false):=by
 refine returnsInHanded_of_change_and (λ_ _ _ hh h=>h.of_heap hh) own a (by kernel_rfl) Tryz.func3
  (ChangeSpec.witness_shaped (enc:=enc) (os:=os) (X:=λw _=>laidMetH Tryz.prog Rows.claimOfRow.laid w) false (wL os) #[.agg #[.slice none 0 0], .agg #[.slice none 0 0], .slice none 0 0, .agg #[.int .i64 0, .int .i64 0, .int .i64 0], .slice none 0 0] 8 rfl (aD2 os _) (by kernel_rfl) (by kernel_rfl) (by kernel_rfl) (aMR os _)) ?_
 intro W c args ds e b d f _ hwt _ _
 exact aHb H enc W c args ds e b d f hwt
end Go.Proofs.YtigmnfepdlbcpaaGreatDoor
