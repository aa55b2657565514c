import Derived.Test.YtnogfoojjaainaaGreatDoorClAm
import Derived.Test.YtnogfoojjaainaaGreatDoorClAk
import Derived.Test.YtnogfoojjaainaaGreatDoorTie
import Derived.Test.YtnogfoojjaainaaGreatDoorCards
import Derived.SevenTiedAt
set_option linter.unusedSimpArgs false
set_option linter.unusedVariables false
namespace Go.Proofs.YtnogfoojjaainaaGreatDoor
open Go Go.Abs Go.ChangeShapes Go.WideShapes Go.ChangeAt Go.RowKit
set_option maxRecDepth 100000
theorem aD9 (H:Type) (enc:TypeId×Value->H) (W:World) (f:Nat) (args:Array Value) (ds s:List (DataW H)) (d:List MemPlace)
  (a:∀(j:Nat) t v,Tryz.f3.params[j]?=some t->args[j]?=some v->Value.okWide Tryz.prog W .any f t v)
  (w:DataW.Whole enc Tryz.prog Tryz.f3.params.toList Rows.claimSumsSpec.vars false W args.toList ds s d)
  (hwt:(DataW.weightsEach Tryz.prog (Tryz.f3.params.toList++Rows.claimSumsSpec.plain.varTypes Tryz.prog) (ds++s)).all (· <=reachBytes)=true):
  Calls Tryz.prog 3 args W λe r=>∃v,e= .returned v/\Rows.claimSumsSpec.post enc Tryz.prog Tryz.f3 false true false false W args v r:=by
 have m:=w
 obtain ⟨p,q,u,Q,U,S,T⟩:=w
 rw [Tryz.params3] at u a
 obtain ⟨v0,vs0,G,K,p0,q0,o,rfl,rfl,h0,Z⟩:=trodAll_cons u
 obtain ⟨g,vs1,I,L,p1,q1,rfl,rfl,rfl,N,r1⟩:=trodAll_cons Z
 obtain ⟨h,vs2,J,M,p2,q2,rfl,rfl,rfl,O,r2⟩:=trodAll_cons r1
 obtain ⟨rfl,rfl,rfl⟩:=trodAll_nil r2
 obtain rfl:args= #[v0,g,h]:=by cases args;simp_all
 obtain ⟨rfl,rfl⟩:=trodVars_none Q
 have c:∀n∈DataW.weightsEach Tryz.prog [24,27,27] [G,I,J],n<=reachBytes:=by
  intro n hn;have:=zal.1 hwt n (by rw [Tryz.params3];simpa [ChangeSpec.plain,DataSpec.varTypes,Rows.claimSumsSpec] using hn)
  simpa using this
 have k:=aJh (P:=Tryz.prog) (H:=H) aKG
 have l:reachBytes<2^62:=by decide
 obtain ⟨V,A,b0⟩:=acR laid full k l (of_decide_eq_true (by kernel_rfl)) (by kernel_rfl) h0 (a 0 _ v0 rfl rfl) (λn hn=>c n (fD (i:=0) rfl rfl n hn))
 obtain ⟨X,B,b1⟩:=acR laid full k l (of_decide_eq_true (by kernel_rfl)) (by kernel_rfl) N (a 1 _ g rfl rfl) (λn hn=>c n (fD (i:=1) rfl rfl n hn))
 obtain ⟨Y,C,b2⟩:=acR laid full k l (of_decide_eq_true (by kernel_rfl)) (by kernel_rfl) O (a 2 _ h rfl rfl) (λn hn=>c n (fD (i:=2) rfl rfl n hn))
 obtain ⟨_,D,rfl,s0⟩:=auR rfl b0
 obtain ⟨x,rfl⟩:=aJ6 s0
 obtain ⟨_,E,rfl,s1⟩:=auR rfl b1
 obtain ⟨y,rfl⟩:=aHW s1
 obtain ⟨_,F,rfl,s2⟩:=auR rfl b2
 obtain ⟨z,rfl⟩:=aHW s2
 refine (aBP (vs:=[v0,g,h]) (by simp only [RepL];exact ⟨v0,_,rfl,A,g,_,rfl,B,h,_,rfl,C,rfl⟩) (afV asM x.1 y.1 z.1 x.2.1 y.2.b z.2.b)).mono λe' r ⟨R,hb⟩=> ?_
 subst R
 exact ⟨_,rfl,aEc (tb:=4) m rfl laid rfl rfl (by kernel_rfl) (by
  intro t ht
  rw [Tryz.params3] at ht
  simp only [zmc,List.not_mem_nil,or_false] at ht
  rcases ht with rfl|rfl|rfl<;>exact ⟨by kernel_rfl,of_decide_eq_true (by kernel_rfl)⟩) hb⟩
theorem lifted (os:Os) (a:os.Started) (H:Type) (enc:TypeId×Value->H):
  ReturnsInHanded {} Tryz.checked os 3 .any (λw args=>(Rows.claimSumsSpec.pre enc Tryz.prog Tryz.f3 Rows.claimSumsRow.domain false w args/\laidMetH Tryz.prog Rows.claimSumsRow.laid w)/\sizedMet enc Tryz.prog Tryz.f3 (OpenSpec.ofChange Rows.claimSumsSpec) false w args) (Rows.claimSumsSpec.post enc Tryz.prog Tryz.f3 false true false false):=by
 refine returnsInHanded_of_change_and (C:=Tryz.checked) (X:=λw _=>laidMetH Tryz.prog Rows.claimSumsRow.laid w) (λ_ _ _ hh h=>h.of_heap hh) own a (by kernel_rfl) Tryz.func3
  (ChangeSpec.witness_shaped (enc:=enc) (C:=Tryz.checked) (os:=os) (X:=λw _=>laidMetH Tryz.prog Rows.claimSumsRow.laid w) false (wL os) #[.agg #[.slice none 0 0], .agg #[.slice none 0 0], .agg #[.slice none 0 0]] 8 rfl (aBc os _) (by kernel_rfl) (by kernel_rfl) (by kernel_rfl) (aJm os _)) ?_
 intro W c args ds e b d f _ hwt _ _
 exact aD9 H enc W c args ds e b d f hwt
end Go.Proofs.YtnogfoojjaainaaGreatDoor
