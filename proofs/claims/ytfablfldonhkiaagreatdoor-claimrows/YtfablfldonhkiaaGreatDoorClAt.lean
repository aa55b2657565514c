import Derived.Test.YtfablfldonhkiaaGreatDoorClAk
import Derived.Test.YtfablfldonhkiaaGreatDoorClAs
import Derived.Test.YtfablfldonhkiaaGreatDoorAbsJ
import Derived.Test.YtfablfldonhkiaaGreatDoorClAm
import Derived.Test.YtfablfldonhkiaaGreatDoorClAj
set_option linter.unusedSimpArgs false
set_option linter.unusedVariables false
namespace Go.Proofs.YtfablfldonhkiaaGreatDoor
open Go Go.Abs
attribute [local irreducible] Ev PWp
set_option maxRecDepth 10000
set_option maxHeartbeats 4000000
def dL (xs:Array Int):Nat->List Int
 |0=>[]
 |1=>[xs[0]!]
 |i+2=>dL xs (i+1)++if xs[i+1]! =xs[i]! then [] else [xs[i+1]!]
theorem auZ (xs:Array Int) {k:Nat} (h:1<=k):dL xs (k+1)=dL xs k++if xs[k]! =xs[k-1]! then [] else [xs[k]!]:=by
 obtain ⟨i,rfl⟩:∃i,k=i+1:=⟨k-1,by omega⟩
 rfl
theorem aDV (xs:Array Int):∀k,1<=k->(dL xs k).length=1+dN xs k
 |1,_=>rfl
 |k+2,_=>by
  have ih:=aDV xs (k+1) (by omega)
  rw [auZ xs (by omega),afI xs (by omega),zla,ih]
  split<;>simp<;>omega
def hdA (xs:Array Int) (n:Nat):List Int:=xs.toList.take n
theorem asJ {xs:Array Int} {k:Nat} (h:k<xs.size):hdA xs (k+1)=hdA xs k++[xs[k]!]:=by
 unfold hdA
 rw [List.take_succ_eq_append_getElem (by simpa using h),getElem!_pos xs k h];simp
theorem aEt {xs:Array Int} {k n:Nat} {v:Int} (h:n<=k):hdA (xs.setIfInBounds k v) n=hdA xs n:=by
 unfold hdA
 rw [Array.toList_setIfInBounds,List.take_set,List.set_eq_of_length_le (by simp;omega)]
theorem anQ (xs:Array Int) {st:aD} {id n:Nat} (hst:st id=some (.arr 3 (xs.toList.map I1))) (hn:xs.size=n) (h12:n<1000000000000):
  PC Tryz.prog 60 [.vec id 1 0 n] st λr S=>r= .vec id 1 0 (dL xs n).length/\∃rows,S=upd st id (some (.arr 3 rows))/\rows.length=n/\rows.take (dL xs n).length=(dL xs n).map I1:=by
 by_cases h0:n=0
 ·subst h0
  refine pC Tryz.func60 rfl ?_
  (repeat' first|show Cn (.r _ _ _);refine .rr ?_;(exact ⟨rfl,_,(jT hst).symm,by simp [hn],by simp [dL]⟩);done|apply wZ;rfl|show Cn _;constructor)
 have e:(dL xs n).length=1+dN xs n:=aDV xs n (by omega)
 rw [e]
 have h1:hdA xs 1=dL xs 1:=by rw [asJ (by omega)];rfl
 by_cases h2:n<2
 ·obtain rfl:n=1:=by omega
  refine pC Tryz.func60 rfl ?_
  (repeat' first|show Cn (.r _ _ _);refine .rr ?_;(exact ⟨rfl,_,(jT hst).symm,by simp [hn],by rw [<-List.map_take];exact congrArg (List.map I1) h1⟩);done|apply wZ;rfl|show Cn _;constructor)
 refine pC Tryz.func60 rfl ?_
 focus ((repeat' first|apply wZ;rfl|show Cn _;constructor|omega|(intro h;simp at h)))
 refine aC (X:={x:Nat//1<=x/\x<=n/\dN xs x+1=x/\hdA xs x=dL xs x}) (λi=>(((St.nil 61 (st)).pv 0 (.vec id 1 0 n)).pv 3 ((vi ((i.1:Nat)))))) (λi=>n-i.1) ⟨1,by omega,by omega,rfl,h1⟩ ?_ (λi=> ?_)
 ·(repeat' first|show Cn (.t _ _);exact Cn.t0|show Cn _;constructor|exact rfl)
 obtain ⟨k,hk1,hk2,hk3,hk4⟩:=i
 dsimp only
 by_cases hend:n<=k
 ·obtain rfl:k=n:=by omega
  have e2:1+dN xs k=k:=by omega
  rw [e2]
  have e3:(xs.toList.map I1).take k=(dL xs k).map I1:=by rw [<-List.map_take];exact congrArg (List.map I1) hk4
  (repeat' first|show Cn (.r _ _ _);refine .rr ?_;(exact ⟨rfl,_,(jT hst).symm,by simp [hn],e3⟩);done|apply wZ;rfl|show Cn _;constructor|omega|(intro h;simp at h))
 have hkn:k<n:=by omega
 have hu:=afI xs hk1
 have hL:=auZ xs hk1
 by_cases hd:¬xs[k]! =xs[k-1]!
 ·rw [zn hd] at hu hL
  have hu2:dN xs (k+1)+1=k+1:=by omega
  have hL2:hdA xs (k+1)=dL xs (k+1):=by rw [hL,<-hk4,asJ (by omega)]
  (repeat' first|apply wDx pk;rfl;kernel_rfl;rfl;rfl|(refine ⟨⟨k+1,by omega,by omega,hu2,hL2⟩, ?_, ?_⟩)|show Cn (.t _ _);exact Cn.t0|apply wZ;rfl|show Cn _;constructor|exact rfl|apply ixA pk;(iterate 5 rfl);rotate_left;rfl;(intro hw;(first|exact (show _=((k:Nat):Int) from by omega)|exact (show _=((k-1:Nat):Int) from by omega)));(intro hw;(omega));rfl;(exact Nat.zero_add _)|apply ldA pk I1.elem;rfl;rfl;rotate_left;rfl;(assumption);(intro hw;(omega));rfl|omega|simp only [zql];omega|(intro h;simp at h)|intro h)
 replace hd:=zdn hd
 rw [zp hd] at hu hL
 rw [List.append_nil] at hL
 have hk5:hdA xs (1+dN xs (k+1))=dL xs (k+1):=by rw [hL,<-hk4,show 1+dN xs (k+1)=k by omega]
 focus ((repeat' first|apply wDx pk;rfl;kernel_rfl;rfl;rfl|apply wZ;rfl|show Cn _;constructor|apply ixA pk;(iterate 5 rfl);rotate_left;rfl;(intro hw;(first|exact (show _=((k:Nat):Int) from by omega)|exact (show _=((k-1:Nat):Int) from by omega)));(intro hw;(omega));rfl;(exact Nat.zero_add _)|apply ldA pk I1.elem;rfl;rfl;rotate_left;rfl;(assumption);(intro hw;(omega));rfl|apply eC pk k (n-k);(iterate 4 rfl);rotate_left;rfl;(intro _;exact ⟨_,aJ rfl rfl,by omega⟩);(intro _;exact ⟨_,aW,by omega⟩);(intro _;omega);(intro _;omega);rfl|omega|(intro h;simp at h)|intro h))
 refine aC (X:={x:Nat×Array Int//1<=x.1/\x.1<=n-k/\x.2.size=n/\(∀j,k+x.1<=j+1->j<n->x.2[j]! =xs[j]!)/\hdA x.2 (1+dN xs (k+x.1))=dL xs (k+x.1)}) (λy=>(((((St.nil 61 (upd st id (some (.arr 3 (y.1.2.toList.map I1))))).pv 0 (.vec id 1 0 n)).pv 3 ((vi (((1+dN xs (k+y.1.1):Nat):Int))))).pv 4 (.vec id 1 k (n-k))).pv 5 ((vi ((y.1.1:Nat)))))) (λy=>n-y.1.1) ⟨(1,xs),by omega,by omega,hn,λ_ _ _=>rfl,hk5⟩ ?_ (λy=> ?_)
 ·dsimp only
  (repeat' first|show Cn (.t _ _);exact .any (cQ (by (exact jT ‹_›)))|show Cn _;constructor|exact rfl|congr 2;omega)
 obtain ⟨⟨y,ys⟩,hy1,hy2,hys,hy,hyL⟩:=y
 simp only at hy1 hy2 hys hy hyL
 dsimp only
 have hle:=aDa xs (k+1) (y-1) (by omega)
 rw [show k+1+(y-1)=k+y by omega] at hle
 by_cases hend2:n-k<=y
 ·obtain rfl:y=n-k:=by omega
  rw [show k+(n-k)=n by omega] at hle hyL⊢
  have hr:(ys.toList.map I1).length=n:=by rw [zql,Array.length_toList,hys]
  have hpl:(aP (ys.toList.map I1) (1+dN xs n) (aV (n-(1+dN xs n)) 1)).length=n:=(dF (by rw [hr];simp only [aV,List.length_replicate];omega)).trans hr
  have hput:∀m,(aP (ys.toList.map I1) (1+dN xs n) (aV m 1)).take (1+dN xs n)=(dL xs n).map I1:=λm=>by
   unfold aP
   rw [List.append_assoc,List.take_append_of_le_length (by rw [zlt,hr];omega),List.take_take,Nat.min_self,<-List.map_take]
   exact congrArg (List.map I1) hyL
  have hyT:(ys.toList.map I1).take (1+dN xs n)=(dL xs n).map I1:=by rw [<-List.map_take];exact congrArg (List.map I1) hyL
  (repeat' first|show Cn (.r _ _ _);refine .rr ?_;(exact ⟨rfl,_,eF _ _ _ _,hpl,hput _⟩);done|apply wZ;rfl|show Cn _;constructor|apply eC pk (1+dN xs n) (n-(1+dN xs n));(iterate 4 rfl);rotate_left;rfl;(intro _;exact ⟨_,aJ rfl rfl,by omega⟩);(intro _;exact ⟨_,aW,by omega⟩);(intro _;omega);(intro _;omega);rfl|(refine aCj pk (id:=id) (off:=1+dN xs n) (len:=n-(1+dN xs n)) (rows:=ys.toList.map I1) rfl rfl rfl rfl rfl rfl rfl rfl (aA _ _ _) (by omega) (by omega) (by omega) rfl ?_)|apply aCX pk (1+dN xs n);(iterate 4 rfl);rotate_left;rfl;(intro _;exact aJ rfl rfl);(intro _;omega);(intro _;omega);rfl|omega|(intro h;simp at h))
 have hr1:=hy (k+y) (by omega) (by omega)
 have hr2:=hy (k+(y-1)) (by omega) (by omega)
 have hup:=afI xs (show 1<=k+y by omega)
 have hLp:=auZ xs (show 1<=k+y by omega)
 rw [show k+y-1=k+(y-1) by omega,show k+y+1=k+(y+1) from rfl] at hup hLp
 by_cases he:xs[k+y]! =xs[k+(y-1)]!
 ·rw [zp he] at hup hLp
  rw [List.append_nil] at hLp
  have hya:∀j,k+(y+1)<=j+1->j<n->ys[j]! =xs[j]!:=λj h1 h2=>hy j (by omega) h2
  have hyM:hdA ys (1+dN xs (k+(y+1)))=dL xs (k+(y+1)):=by rw [hLp,hup,Nat.add_zero];exact hyL
  rw [<-hr1,<-hr2] at he
  (repeat' first|apply wDx pk;rfl;kernel_rfl;rfl;rfl|refine ⟨⟨(y+1,ys),by simp only;omega,by simp only;omega,hys,hya,hyM⟩, ?_, ?_⟩;((dsimp only))|show Cn (.t _ _);exact Cn.t0|apply wZ;rfl|show Cn _;constructor|exact rfl|show _=_;(congr 2;omega)|apply ixA pk;(iterate 5 rfl);rotate_left;rfl;(intro hw;(first|exact (show _=((y:Nat):Int) from by omega)|exact (show _=((y-1:Nat):Int) from by omega)));(intro hw;(omega));rfl;(rfl)|apply ldA pk I1.elem;rfl;rfl;rotate_left;rfl;(exact aA _ _ _);(intro hw;(omega));rfl|omega|simp only [zql];omega|(intro h;simp at h)|intro h)
 ·rw [zn he] at hup hLp
  have hya:∀j,k+(y+1)<=j+1->j<n->(ys.setIfInBounds (1+dN xs (k+y)) ys[k+y]!)[j]! =xs[j]!:=λj h1 h2=>by
   rw [getElem!_pos _ j (by rw [zqs];omega),Array.getElem_setIfInBounds_ne (by omega) (by omega),<-getElem!_pos ys j (by omega)]
   exact hy j (by omega) h2
  have hyM:hdA (ys.setIfInBounds (1+dN xs (k+y)) ys[k+y]!) (1+dN xs (k+(y+1)))=dL xs (k+(y+1)):=by
   rw [hLp,hup,<-hyL,show 1+(dN xs (k+y)+1)=(1+dN xs (k+y))+1 by omega,asJ (by rw [zqs];omega),aEt (Nat.le_refl _),getElem!_pos _ _ (by rw [zqs];omega),Array.getElem_setIfInBounds_self,hr1]
  rw [<-hr1,<-hr2] at he
  (repeat' first|apply wDx pk;rfl;kernel_rfl;rfl;rfl|refine ⟨⟨(y+1,ys.setIfInBounds (1+dN xs (k+y)) ys[k+y]!),by simp only;omega,by simp only;omega,by rw [zqs];exact hys,hya,hyM⟩, ?_, ?_⟩;((dsimp only))|show Cn (.t _ _);exact .any (cQ (by (((simp only [St.pv,St.put,St.sst,St.setv,St.nil,St.var,eF]);(done)))))|apply wZ;rfl|show Cn _;constructor|exact rfl|show _=_;(congr 2;omega)|(apply ixA pk;(iterate 5 rfl);rotate_left;rfl;(intro hw;(first|exact (show _=((y:Nat):Int) from by omega)|exact (show _=((y-1:Nat):Int) from by omega)|exact (show _=((1+dN xs (k+y):Nat):Int) from by omega)));(intro hw;(omega));rfl;(first|exact Nat.zero_add _|exact rfl))|apply ldA pk I1.elem;rfl;rfl;rotate_left;rfl;(exact aA _ _ _);(intro hw;(omega));rfl|apply stA pk I1.elem;rfl;rfl;rfl;(exact aA _ _ _);(omega);rfl|omega|simp only [zql];omega|(intro h;simp at h)|intro h)
theorem aGM {xs:Array Int} (hs:∀i j,i<j->j<xs.size->xs[i]!<=xs[j]!):∀k,k<=xs.size->(dL xs k).Pairwise (· < ·)/\(∀x∈dL xs k,1<=k/\x<=xs[k-1]!)/\∀x,x∈dL xs k↔∃i<k,xs[i]! =x
 |0,_=>by simp [dL]
 |1,_=>by
  refine ⟨by simp [dL],by simp [dL],λx=> ?_⟩
  simp only [dL,zms]
  exact ⟨λe=>⟨0,by omega,e.symm⟩,λ⟨i,hi,e⟩=>by
   obtain rfl:i=0:=by omega
   exact e.symm⟩
 |k+2,hk=>by
  obtain ⟨h1,h2,h3⟩:=aGM hs (k+1) (by omega)
  have hle:=hs k (k+1) (by omega) (by omega)
  rw [auZ xs (by omega),show k+1-1=k from rfl,show k+2-1=k+1 from rfl]
  by_cases e:xs[k+1]! =xs[k]!
  ·rw [zp e,List.append_nil]
   refine ⟨h1,λx hx=>⟨by omega,by have:=(h2 x hx).2;rw [show k+1-1=k from rfl] at this;omega⟩,λx=> ?_⟩
   rw [h3]
   constructor
   ·rintro ⟨i,hi,q⟩;exact ⟨i,by omega,q⟩
   ·rintro ⟨i,hi,q⟩
    rcases zls.1 hi with q2|q2
    ·exact ⟨i,q2,q⟩
    ·subst q2;exact ⟨k,by omega,by rw [<-e];exact q⟩
  ·rw [zn e]
   refine ⟨List.pairwise_append.2 ⟨h1,by simp,λa ha b hb=> ?_⟩,λx hx=> ?_,λx=> ?_⟩
   ·obtain rfl:=zms.1 hb
    have:=(h2 a ha).2
    rw [show k+1-1=k from rfl] at this
    omega
   ·rcases zma.1 hx with q|q
    ·exact ⟨by omega,by have:=(h2 x q).2;rw [show k+1-1=k from rfl] at this;omega⟩
    ·obtain rfl:=zms.1 q;exact ⟨by omega,Int.le_refl _⟩
   ·rw [zma,h3,zms]
    constructor
    ·rintro (⟨i,hi,q⟩|q)
     ·exact ⟨i,by omega,q⟩
     ·exact ⟨k+1,by omega,q.symm⟩
    ·rintro ⟨i,hi,q⟩
     rcases zls.1 hi with q2|q2
     ·exact .inl ⟨i,q2,q⟩
     ·subst q2;exact .inr q.symm
theorem aE6 (l:List Int):dL (l.mergeSort λx y=>decide (x<=y)).toArray l.length=pM l:=by
 have hs:(l.mergeSort λx y=>decide (x<=y)).Pairwise λa b=>decide (a<=b)=true:=List.pairwise_mergeSort (λa b c h1 h2=>by simp only [zde] at*;omega) (λa b=>by simp only [Bool.or_eq_true,zde];omega) l
 have hl:(l.mergeSort λx y=>decide (x<=y)).length=l.length:=List.length_mergeSort l
 have hm:∀x,x∈(l.mergeSort λx y=>decide (x<=y))↔x∈l:=λx=>List.mem_mergeSort
 generalize (l.mergeSort λx y=>decide (x<=y))=m at*
 have hq:∀i j,i<j->j<m.toArray.size->m.toArray[i]!<=m.toArray[j]!:=λi j hij hj=>by
  have hj:j<m.length:=by simpa using hj
  rw [getElem!_pos m.toArray i (by simp;omega),getElem!_pos m.toArray j (by simpa using hj)]
  have:=List.pairwise_iff_getElem.1 hs i j (by omega) hj hij
  simpa using this
 obtain ⟨h1,_,h3⟩:=aGM hq l.length (by simp [hl])
 refine aqP h1 λx=> ?_
 rw [h3,<-hm]
 constructor
 ·rintro ⟨i,hi,rfl⟩
  rw [getElem!_pos m.toArray i (by simp;omega)]
  simp
 ·intro hx
  obtain ⟨i,hi,rfl⟩:=zgo hx
  exact ⟨i,by omega,by rw [getElem!_pos m.toArray i (by simpa using hi)];simp⟩
def iV (p:P4):Value:= .agg (xK p).toArray
theorem aBw :KeyOK Tryz.prog 93 iV (λp=> .agg (p4C p)):=
 aoW aQ rfl rfl rfl rfl (λa b=>by
  show some (decide (a.1=b.1)&&(decide (a.2.1=b.2.1)&&(decide (a.2.2.1=b.2.2.1)&&decide (a.2.2.2=b.2.2.2))))=_
  rw [Option.some.injEq,Bool.eq_iff_iff]
  simp [Prod.ext_iff]) (by kernel_rfl)
def m4E (M:List P4):List (P4×Bool):=M.map λr=>(r,true)
def m4M (M:List P4):AObj:= .map (aM iV bF (m4E M))
theorem aGz {p:P4}:∀{M:List P4},cL p true (m4E M)=m4E (uT p M)
 |[]=>rfl
 |x::M=>by
  have ih:=aGz (p:=p) (M:=M)
  unfold uT at ih⊢
  simp only [m4E,zmp,cL] at ih⊢
  by_cases e:p=x
  ·subst e
   rw [zp rfl,zp (by simp)];rfl
  ·rw [zn e,ih]
   by_cases hm:p∈M
   ·rw [zp hm,zp (by simp [hm])];rfl
   ·rw [zn hm,zn (by simp [hm,e])];rfl
theorem aIu {st:aD} {id:Nat} {p:P4} {M:List P4}:upd (upd st id (some (m4M M))) id (some (.map (aM iV bF (cL p true (m4E M)))))=upd st id (some (m4M (uT p M))):=by
 rw [eF,aGz];rfl
theorem alS (was is:Ln) (col:Int) (h1:fR was col) (h2:fR is col) (k t c z:Int) (M:List P4) (st:aD) (id:Nat):
  PC Tryz.prog 96 [.mref id, .agg was.cells, .agg is.cells,(vi (col)), .agg [(vi (k)),(vi (t)),(vi (c)),(vi (z))]] (upd st id (some (m4M M))) λ_ S=>S=upd st id (some (m4M (acH was is col k t c M))):=by
 have q1:=gA was col h1
 have q2:=gA is col h2
 unfold acH
 cases e2:ptP is col with
 |none=>
  rw [e2] at q2
  generalize ptP was col=W at*
  refine pC Tryz.func96 rfl ?_
  (repeat' first|(apply Cn.cf;focus (((first|apply q1|apply q2));done))|show Cn (.r _ _ _);refine .rr ?_;(rfl);done|apply wZ;rfl|show Cn _;constructor|apply wY;rfl)
 |some n=>
  rw [e2] at q2
  dsimp only
  have hs:=aIu (st:=st) (id:=id) (p:=((k,t,c,n):P4)) (M:=M)
  cases e1:ptP was col with
  |none=>
   rw [e1] at q1
   rw [zn (by simp)]
   refine pC Tryz.func96 rfl ?_
   (repeat' first|apply muA pk aBw (f:=bF) (k:=((k,t,c,n):P4));(exact .inr rfl);(iterate 5 rfl);exact aA _ _ _;rfl|(apply Cn.cf;focus (((first|apply q1|apply q2));done))|show Cn (.r _ _ _);refine .rr ?_;(exact hs);done|apply wZ;rfl|show Cn _;constructor|apply jK pk 3;(iterate 5 rfl);(focus repeat' constructor);rfl;(intro _;rfl);(intro _;omega);rfl|apply wY;rfl)
  |some m=>
   rw [e1] at q1
   by_cases hm:m=n
   ·subst hm
    rw [zp rfl]
    refine pC Tryz.func96 rfl ?_
    (repeat' first|(apply Cn.cf;focus (((first|apply q1|apply q2));done))|show Cn (.r _ _ _);refine .rr ?_;(rfl);done|apply wZ;rfl|show Cn _;constructor|apply wY;rfl|omega|(intro h;simp at h))
   ·rw [zn (λe=>hm (Option.some.inj e))]
    have hm2:¬n=m:=λe=>hm e.symm
    refine pC Tryz.func96 rfl ?_
    (repeat' first|apply muA pk aBw (f:=bF) (k:=((k,t,c,n):P4));(exact .inr rfl);(iterate 5 rfl);exact aA _ _ _;rfl|(apply Cn.cf;focus (((first|apply q1|apply q2));done))|show Cn (.r _ _ _);refine .rr ?_;(exact hs);done|apply wZ;rfl|show Cn _;constructor|apply jK pk 3;(iterate 5 rfl);(focus repeat' constructor);rfl;(intro _;rfl);(intro _;omega);rfl|apply wY;rfl|intro h;simp at h;omega|(intro h;simp at h))
theorem uL {α β:Type} {F:β->α->β} {l:List α} {i:Nat} {M:β} (h:i<l.length):(l.take (i+1)).foldl F M=F ((l.take i).foldl F M) l[i]:=by
 rw [List.take_succ_eq_append_getElem h,List.foldl_append];rfl
theorem aA5 {s:Sc} {k:Nat} (hk:k<s.length) (was is:Ln) (key:Int) (hf:∀f∈s[k].foreign,fR was f.col/\fR is f.col) (hu:∀u∈s[k].unique,fR was u/\fR is u) (hl1:s[k].foreign.length<1000000000000) (hl2:s[k].unique.length<1000000000000) (M:List P4) (st:aD) (id:Nat):
  PC Tryz.prog 63 [.mref id, .agg (scC s),(vi ((k:Nat))), .agg was.cells, .agg is.cells,(vi (key))] (upd st id (some (m4M M))) λ_ S=>S=upd st id (some (m4M (mD s[k] (k:Int) was is key M))):=by
 unfold mD
 have hs:=aIu (st:=st) (id:=id) (p:=((1,((k:Nat):Int),0,key):P4)) (M:=M)
 generalize hM0:uT (1,((k:Nat):Int),0,key) M=M0 at*
 have hsub:StSub (upd st id (some (m4M (asK was is (s[k].foreign.take 0) M0)))) (upd (upd st id (some (m4M M))) id (some (.map (aM iV bF (cL (1,((k:Nat):Int),0,key) true (m4E M)))))):=by
  rw [hs];exact cQ rfl
 refine pC Tryz.func63 rfl ?_
 focus ((repeat' first|apply muA pk aBw (f:=bF) (k:=((1,((k:Nat):Int),0,key):P4));(exact .inr rfl);(iterate 5 rfl);exact aA _ _ _;rfl|apply wZ;rfl|show Cn _;constructor|exact rfl|apply wI;rfl|apply gE;omega))
 refine aC (X:={x:Nat//x<=s[k].foreign.length}) (λi=>(((((((((St.nil 61 (upd st id (some (m4M (asK was is (s[k].foreign.take i.1) M0))))).pv 0 (.mref id)).pv 2 ((vi ((k:Nat))))).var 7 24 ((scC s))).var 9 47 (was.cells)).var 10 47 (is.cells)).pv 25 (.seq (s[k].foreign.map Fr.cells))).pv 26 ((vi (((s[k].foreign.map Fr.cells).length:Nat))))).pv 27 ((vi ((i.1:Nat)))))) (λi=>s[k].foreign.length-i.1) ⟨0,by omega⟩ ?_ (λi=> ?_)
 ·(repeat' first|exact .any hsub|show Cn _;constructor|exact rfl)
 clear hs hsub
 obtain ⟨i,hi⟩:=i
 dsimp only
 by_cases hend:s[k].foreign.length<=i
 ·rw [ztl hend]
  generalize asK was is s[k].foreign M0=M1
  have hsub2:StSub (upd st id (some (m4M (azE was is (k:Int) (s[k].unique.take 0) M1)))) (upd st id (some (m4M M1))):=cQ rfl
  focus ((repeat' first|apply wZ;rfl|show Cn _;constructor|exact rfl|apply wI;rfl|apply gE;omega|simp only [zql];omega|(intro h;simp at h)))
  refine aC (X:={x:Nat//x<=s[k].unique.length}) (λy=>((((((((St.nil 61 (upd st id (some (m4M (azE was is (k:Int) (s[k].unique.take y.1) M1))))).pv 0 (.mref id)).pv 2 ((vi ((k:Nat))))).var 9 47 (was.cells)).var 10 47 (is.cells)).pv 46 (.seq (s[k].unique.map I1))).pv 47 ((vi (((s[k].unique.map I1).length:Nat))))).pv 48 ((vi ((y.1:Nat)))))) (λy=>s[k].unique.length-y.1) ⟨0,by omega⟩ ?_ (λy=> ?_)
  ·(repeat' first|exact .any hsub2|show Cn _;constructor|exact rfl)
  clear hsub2
  obtain ⟨y,hy⟩:=y
  dsimp only
  by_cases hend2:s[k].unique.length<=y
  ·rw [ztl hend2]
   (repeat' first|show Cn (.r _ _ _);refine .rr ?_;(rfl);done|apply wZ;rfl|show Cn _;constructor|simp only [zql];omega|(intro h;simp at h))
  have hyl:y<s[k].unique.length:=by omega
  have hup:azE was is (k:Int) (s[k].unique.take (y+1)) M1=_:=uL hyl
  obtain ⟨r1,r2⟩:=hu _ (zgm hyl)
  have hv:=λN=>alS was is s[k].unique[y] r1 r2 2 (k:Int) s[k].unique[y] 0 N st id
  (repeat' first|(apply cP;rfl;(apply (hv _));rintro _ st' (rfl))|refine ⟨⟨y+1,by omega⟩, ?_, ?_⟩;((dsimp only;rw [hup];try rfl))|show Cn (.t _ _);exact Cn.t0|apply wZ;rfl|show Cn _;constructor|exact rfl|apply wY;rfl|apply wI;rfl|apply gE;omega|omega|simp only [zql];omega|(intro h;simp at h))
 have hil:i<s[k].foreign.length:=by omega
 have hup:asK was is (s[k].foreign.take (i+1)) M0=_:=uL hil
 obtain ⟨r1,r2⟩:=hf _ (zgm hil)
 have hv:=λN=>alS was is s[k].foreign[i].col r1 r2 1 s[k].foreign[i].table 0 0 N st id
 (repeat' first|(apply cP;rfl;(apply (hv _));rintro _ st' (rfl))|refine ⟨⟨i+1,by omega⟩, ?_, ?_⟩;((dsimp only;rw [hup];try rfl))|show Cn (.t _ _);exact Cn.t0|apply wZ;rfl|show Cn _;constructor|exact rfl|apply wY;rfl|apply wI;rfl|apply gE;omega|omega|simp only [zql];omega|(intro h;simp at h))
theorem aHp {t:Tb} {k:Int} {N L:List Ln} {M:List P4} {i:Nat} (h:i<L.length):uN t k N (L.take (i+1)) M=match bE N L[i].key with
  |none=>mD t k L[i] Ln.zero L[i].key (uN t k N (L.take i) M)
  |some x=>if L[i]=x then uN t k N (L.take i) M else mD t k L[i] x L[i].key (uN t k N (L.take i) M):=uL h
theorem aHA {t:Tb} {k:Int} {O L:List Ln} {M:List P4} {i:Nat} (h:i<L.length):abU t k O (L.take (i+1)) M=if (bE O L[i].key).isSome=true then abU t k O (L.take i) M else mD t k Ln.zero L[i] L[i].key (abU t k O (L.take i) M):=uL h
theorem aFQ {s:Sc} {was is:Bs} {M:List P4} (i:Nat):(List.range (i+1)).foldl (vR s was is) M=vR s was is ((List.range i).foldl (vR s was is) M) i:=by
 rw [List.range_succ,List.foldl_append];rfl
theorem axS {s:Sc} {was is:Bs} (hb1:bH T.rightP s was=true) (hb2:bH T.rightP s is=true) (hW1:BsS 200 was) (hW2:BsS 200 is) (M:List P4) (st:aD) (id:Nat):
  PC Tryz.prog 28 [.mref id, .agg (scC s), .agg (bsC was), .agg (bsC is)] (upd st id (some (m4M M))) λ_ S=>S=upd st id (some (m4M (mH s was is M))):=by
 unfold mH
 obtain ⟨⟨hrs,e1⟩,_⟩:=aU.1 hb1
 obtain ⟨⟨_,e2⟩,_⟩:=aU.1 hb2
 have hsl:=jZ hrs
 have hml:(s.map Tb.cells).length=s.length:=zql _
 have hg1:=λk key=>kY is k key λd hd=>by have:=(hW2.2 d hd).1;omega
 have hg2:=λk key=>kY was k key λd hd=>by have:=(hW1.2 d hd).1;omega
 have hsub:StSub (upd st id (some (m4M ((List.range 0).foldl (vR s was is) M)))) (upd st id (some (m4M M))):=cQ rfl
 refine pC Tryz.func28 rfl ?_
 focus ((repeat' first|apply wZ;rfl|show Cn _;constructor))
 refine aC (X:={x:Nat//x<=s.length}) (λi=>(((((((St.nil 90 (upd st id (some (m4M ((List.range i.1).foldl (vR s was is) M))))).pv 0 (.mref id)).var 5 24 ((scC s))).var 6 27 ((bsC was))).var 7 27 ((bsC is))).pv 19 ((vi (((s.map Tb.cells).length:Nat))))).pv 20 ((vi ((i.1:Nat)))))) (λi=>s.length-i.1) ⟨0,by omega⟩ ?_ (λi=> ?_)
 ·(repeat' first|exact .any hsub|show Cn _;constructor|exact rfl)
 clear hsub
 obtain ⟨i,hi⟩:=i
 dsimp only
 by_cases hend:s.length<=i
 ·obtain rfl:i=s.length:=by omega
  (repeat' first|show Cn (.r _ _ _);refine .rr ?_;(rfl);done|apply wZ;rfl|show Cn _;constructor|omega|(intro h;simp at h))
 have hk:i<s.length:=by omega
 have hup:(List.range (i+1)).foldl (vR s was is) M=abU s[i]! (i:Nat) (aF was (i:Nat)) (aF is (i:Nat)) (uN s[i]! (i:Nat) (aF is (i:Nat)) (aF was (i:Nat)) ((List.range i).foldl (vR s was is) M)):=aFQ i
 rw [getElem!_pos s i hk] at hup
 generalize (List.range i).foldl (vR s was is) M=M1 at*
 have k1:i<was.length:=by omega
 have k2:i<is.length:=by omega
 have q1:=pL hrs hk
 have hf:∀f∈s[i].foreign,∀(x y:Ln),(x∈aF was (i:Nat)\/x∈aF is (i:Nat)\/x=Ln.zero)->fR x f.col:=λf hf x _ hx=>by
  have hr:=awT hrs hk (f:=f) (by rw [getElem!_pos s i hk];exact hf)
  rcases hx with h|h|rfl
  ·exact sO hb1 hk hr h
  ·exact sO hb2 hk hr h
  ·exact anB _
 have hu:∀u∈s[i].unique,∀(x y:Ln),(x∈aF was (i:Nat)\/x∈aF is (i:Nat)\/x=Ln.zero)->fR x u:=λu hu x _ hx=>by
  have hr:=atN hrs hk (u:=u) (by rw [getElem!_pos s i hk];exact hu)
  rcases hx with h|h|rfl
  ·exact sO hb1 hk hr h
  ·exact sO hb2 hk hr h
  ·exact anB _
 have hline:=λ(x y:Ln) (hx:x∈aF was (i:Nat)\/x∈aF is (i:Nat)\/x=Ln.zero) (hy:y∈aF was (i:Nat)\/y∈aF is (i:Nat)\/y=Ln.zero) (key:Int) (N:List P4)=>aA5 hk x y key (λf h=>⟨hf f h x x hx,hf f h y y hy⟩) (λu h=>⟨hu u h x x hx,hu u h y y hy⟩) (by omega) (by omega) N st id
 have w1:aF was (i:Nat)=was[i].lines:=eZ k1
 have w2:aF is (i:Nat)=is[i].lines:=eZ k2
 have z1:=(hW1.2 _ (zgm k1)).1
 have z2:=(hW2.2 _ (zgm k2)).1
 have hsub1:StSub (upd st id (some (m4M (uN s[i] i (aF is (i:Nat)) (was[i].lines.take 0) M1)))) (upd st id (some (m4M M1))):=cQ rfl
 focus ((repeat' first|apply wZ;rfl|show Cn _;constructor|exact rfl|apply wI;rfl|apply gE;omega|omega|(intro h;simp at h)))
 refine aC (X:={x:Nat//x<=was[i].lines.length}) (λy=>(((((((((((St.nil 90 (upd st id (some (m4M (uN s[i] i (aF is (i:Nat)) (was[i].lines.take y.1) M1))))).pv 0 (.mref id)).var 5 24 ((scC s))).var 6 27 ((bsC was))).var 7 27 ((bsC is))).pv 8 ((vi ((i:Nat))))).pv 19 ((vi (((s.map Tb.cells).length:Nat))))).pv 20 ((vi ((i:Nat))))).pv 28 (.seq (was[i].lines.map Ln.cells))).pv 29 ((vi (((was[i].lines.map Ln.cells).length:Nat))))).pv 30 ((vi ((y.1:Nat)))))) (λy=>was[i].lines.length-y.1) ⟨0,by omega⟩ ?_ (λy=> ?_)
 ·(repeat' first|exact .any hsub1|show Cn _;constructor|exact rfl)
 clear hsub1
 obtain ⟨y,hy⟩:=y
 dsimp only
 by_cases hend1:was[i].lines.length<=y
 ·rw [ztl hend1]
  rw [w1] at hup
  generalize uN s[i] i (aF is (i:Nat)) was[i].lines M1=M2 at*
  have hsub2:StSub (upd st id (some (m4M (abU s[i] i was[i].lines (is[i].lines.take 0) M2)))) (upd st id (some (m4M M2))):=cQ rfl
  focus ((repeat' first|apply wZ;rfl|show Cn _;constructor|exact rfl|apply wI;rfl|apply gE;omega|simp only [zql];omega|(intro h;simp at h)))
  refine aC (X:={x:Nat//x<=is[i].lines.length}) (λz=>(((((((((((St.nil 90 (upd st id (some (m4M (abU s[i] i was[i].lines (is[i].lines.take z.1) M2))))).pv 0 (.mref id)).var 5 24 ((scC s))).var 6 27 ((bsC was))).var 7 27 ((bsC is))).pv 8 ((vi ((i:Nat))))).pv 19 ((vi (((s.map Tb.cells).length:Nat))))).pv 20 ((vi ((i:Nat))))).pv 64 (.seq (is[i].lines.map Ln.cells))).pv 65 ((vi (((is[i].lines.map Ln.cells).length:Nat))))).pv 66 ((vi ((z.1:Nat)))))) (λz=>is[i].lines.length-z.1) ⟨0,by omega⟩ ?_ (λz=> ?_)
  ·(repeat' first|exact .any hsub2|show Cn _;constructor|exact rfl)
  clear hsub2
  obtain ⟨z,hz⟩:=z
  dsimp only
  by_cases hend2:is[i].lines.length<=z
  ·rw [ztl hend2]
   rw [w2] at hup
   (repeat' first|refine ⟨⟨i+1,by omega⟩, ?_, ?_⟩;((dsimp only;rw [hup];try rfl))|apply wZ;rfl|show Cn _;constructor|exact rfl|omega|simp only [zql];omega|(intro h;simp at h))
  have hzl:z<is[i].lines.length:=by omega
  have hnu:=aHA (t:=s[i]) (k:=i) (O:=was[i].lines) (M:=M2) hzl
  have hg:=hg2 (i:Nat) is[i].lines[z].key
  rw [w1,nT] at hg
  have hl:=hline Ln.zero is[i].lines[z] (.inr (.inr rfl)) (.inr (.inl (by rw [w2];exact zgm hzl))) is[i].lines[z].key
  cases he:bE was[i].lines is[i].lines[z].key with
  |none=>
   rw [he] at hg hnu
   rw [zn (by simp)] at hnu
   (repeat' first|(apply Cn.cf;focus ((apply hg);done))|(apply cP;rfl;(apply (hl _));rintro _ st' (rfl))|refine ⟨⟨z+1,by omega⟩, ?_, ?_⟩;((dsimp only;rw [hnu];try rfl))|show Cn (.t _ _);exact Cn.t0|apply wZ;rfl|show Cn _;constructor|exact rfl|apply wY;rfl|apply wI;rfl|apply gE;omega|omega|simp only [zql];omega|(intro h;simp at h))
  |some x=>
   rw [he] at hg hnu
   rw [zp (by simp)] at hnu
   (repeat' first|refine ⟨⟨z+1,by omega⟩, ?_, ?_⟩;((dsimp only;rw [hnu];try rfl))|apply wZ;rfl|show Cn _;constructor|exact rfl|(apply hg)|apply wY;rfl|apply wI;rfl|apply gE;omega|omega|simp only [zql];omega|(intro h;simp at h))
 have hyl:y<was[i].lines.length:=by omega
 have hou:=aHp (t:=s[i]) (k:=i) (N:=aF is (i:Nat)) (M:=M1) hyl
 have hg:=hg1 (i:Nat) was[i].lines[y].key
 rw [nT] at hg
 obtain ⟨s1,s2,s3⟩:=(hW1.2 _ (zgm k1)).2 _ (zgm hyl)
 have ha:=λb=>atH was[i].lines[y] b (by omega) (by omega) λc hc=>by have:=s3 c hc;omega
 cases he:bE (aF is (i:Nat)) was[i].lines[y].key with
 |none=>
  rw [he] at hg hou
  dsimp only at hou
  have hl:=hline was[i].lines[y] Ln.zero (.inl (by rw [w1];exact zgm hyl)) (.inr (.inr rfl)) was[i].lines[y].key
  have ha:=ha Ln.zero
  generalize decide (was[i].lines[y]=Ln.zero)=D at*
  (repeat' first|(apply Cn.cf;focus (((first|apply hg|apply ha));done))|(apply cP;rfl;(apply (hl _));rintro _ st' (rfl))|refine ⟨⟨y+1,by omega⟩, ?_, ?_⟩;((dsimp only;rw [hou];try rfl))|show Cn (.t _ _);exact Cn.t0|apply wZ;rfl|show Cn _;constructor|exact rfl|apply wY;rfl|apply wI;rfl|apply gE;omega|omega|simp only [zql];omega|(intro h;simp at h))
 |some x=>
  rw [he] at hg hou
  dsimp only at hou
  have ha:=ha x
  have hl:=hline was[i].lines[y] x (.inl (by rw [w1];exact zgm hyl)) (.inr (.inl (oA he))) was[i].lines[y].key
  by_cases hx:was[i].lines[y]=x
  ·rw [zp hx] at hou
   rw [decide_eq_true hx] at ha
   (repeat' first|refine ⟨⟨y+1,by omega⟩, ?_, ?_⟩;((dsimp only;rw [hou];try rfl))|apply wZ;rfl|show Cn _;constructor|exact rfl|((first|apply hg|apply ha))|apply wY;rfl|apply wI;rfl|apply gE;omega|omega|simp only [zql];omega|(intro h;simp at h))
  ·rw [zn hx] at hou
   rw [decide_eq_false hx] at ha
   (repeat' first|(apply Cn.cf;focus (((first|apply hg|apply ha));done))|(apply cP;rfl;(apply (hl _));rintro _ st' (rfl))|refine ⟨⟨y+1,by omega⟩, ?_, ?_⟩;((dsimp only;rw [hou];try rfl))|show Cn (.t _ _);exact Cn.t0|apply wZ;rfl|show Cn _;constructor|exact rfl|apply wY;rfl|apply wI;rfl|apply gE;omega|omega|simp only [zql];omega|(intro h;simp at h))
theorem aqL :Tryz.prog.cellsOf 3=1:=by kernel_rfl
theorem aBv {L:List Ln} {m:Su} {i:Nat} (h:i<L.length):(L.take (i+1)).filterMap (λl=>ptP l m.by_)=(L.take i).filterMap (λl=>ptP l m.by_)++(match ptP L[i] m.by_ with|none=>[]|some n=>[n]):=by
 rw [List.take_succ_eq_append_getElem h,List.filterMap_append]
 congr 1
 cases e:ptP L[i] m.by_ with
 |none=>simp [e]
 |some n=>simp [e]
theorem aAo {b:Bs} {k:Nat} (hk:k<b.length) (m:Su) (hr:∀l∈b[k].lines,fR l m.by_) (hl:b[k].lines.length<1000000000000) (st:aD):
  PC Tryz.prog 58 [.agg (bsC b),(vi ((k:Nat))), .agg m.cells] st λr S=>∃id,r= .vec id 1 0 (b[k].lines.filterMap λl=>ptP l m.by_).length/\st id=none/\S=upd st id (some (.arr 3 ((b[k].lines.filterMap λl=>ptP l m.by_).map I1))):=by
 refine pC Tryz.func58 rfl ?_
 focus ((repeat' first|apply wZ;rfl|show Cn _;constructor|exact rfl|apply wI;rfl|apply gE;omega))
 refine fK 7 3 1 rfl rfl rfl (λid hid=> ?_)
 refine aC (X:={x:Nat×Nat//x.1<=b[k].lines.length/\st x.2=none}) (λi=>((((((St.nil 37 (upd st i.1.2 (some (.arr 3 (((b[k].lines.take i.1.1).filterMap λl=>ptP l m.by_).map I1))))).var 5 134 (m.cells)).pv 7 (.vec i.1.2 1 0 ((b[k].lines.take i.1.1).filterMap λl=>ptP l m.by_).length)).pv 17 (.seq (b[k].lines.map Ln.cells))).pv 18 ((vi (((b[k].lines.map Ln.cells).length:Nat))))).pv 19 ((vi ((i.1.1:Nat)))))) (λi=>b[k].lines.length-i.1.1) ⟨(0,id),by simp,hid⟩ ?_ (λi=> ?_)
 ·dsimp only
  (repeat' first|show Cn (.t _ _);exact Cn.t0|show Cn _;constructor|exact rfl)
 obtain ⟨⟨i,id⟩,hi,hid⟩:=i
 simp only at hi hid
 dsimp only
 by_cases hend:b[k].lines.length<=i
 ·obtain rfl:i=b[k].lines.length:=by omega
  rw [List.take_length]
  (repeat' first|show Cn (.r _ _ _);refine .rr ?_;(exact ⟨id,rfl,hid,rfl⟩);done|apply wZ;rfl|show Cn _;constructor|simp only [zql];omega|(intro h;simp at h))
 have hil:i<b[k].lines.length:=by omega
 have hup:=aBv (m:=m) hil
 have hp:=gA b[k].lines[i] m.by_ (hr _ (zgm hil))
 have hll:=List.length_filterMap_le (λl=>ptP l m.by_) (b[k].lines.take i)
 rw [zlt] at hll
 cases hx:ptP b[k].lines[i] m.by_ with
 |none=>
  rw [hx] at hp hup
  dsimp only at hup
  rw [List.append_nil] at hup
  (repeat' first|refine ⟨⟨(i+1,id),by simp only;omega,hid⟩, ?_, ?_⟩;((dsimp only;rw [hup]))|apply wZ;rfl|show Cn _;constructor|exact rfl|(apply hp)|apply wY;rfl|apply wI;rfl|apply gE;omega|omega|simp only [zql];omega|(intro h;simp at h))
 |some n=>
  rw [hx] at hp hup
  dsimp only at hup
  generalize (b[k].lines.take i).filterMap (λl=>ptP l m.by_)=G at*
  (repeat' first|refine ⟨⟨(i+1,id'),by simp only;omega,dK hid'⟩, ?_, ?_⟩;((dsimp only;rw [hup]))|show Cn (.t _ _);exact .any (bP ‹_›)|apply wZ;rfl|show Cn _;constructor|exact rfl|(apply hp)|show _=_;(simp)|(apply apV pk (f:=I1) [n] 8;(iterate 9 rfl);(exact aA _ _ _);(omega);exact λ_=>rfl;exact λ_=>rfl;exact lY;((focus (simp;omega)));((focus (simp;omega)));rfl;intro id' hid')|apply wY;rfl|apply wI;rfl|apply gE;omega|omega|simp only [zql];omega|(intro h;simp at h))
theorem xX {b:Bs} {k:Nat} (hk:k<b.length) (m:Su) (hr:∀l∈b[k].lines,fR l m.by_) (hl:b[k].lines.length<1000000000000):PF Tryz.prog 58 [.agg (bsC b),(vi ((k:Nat))), .agg m.cells] (.seq ((jU b k m).map I1)):=λst=>by
 unfold jU
 rw [eZ hk]
 exact fS (sz:=1) (aAo hk m hr hl st) λp st' h=>by
  obtain ⟨id,rfl,h3,rfl⟩:=h
  exact .inl ⟨id,3,(b[k].lines.filterMap λl=>ptP l m.by_).map I1,_,st,aA _ _ _,aqL,fL (by simp),cF h3,rfl,rfl⟩
theorem aBU {st:aD} {id1 id2:Nat} {o:AObj} (h:upd st id1 (some o) id2=none):st id2=none:=by
 by_cases e:id2=id1
 ·subst e;rw [aA] at h;cases h
 ·rwa [aB e] at h
theorem aE9 (n:Nat) (hl:n<1000000000000) (st:aD):PC Tryz.prog 89 [.val (.slice none 0 0),(vi ((n:Nat)))] st λr S=>∃id,r= .vec id 1 0 0/\st id=none/\S=upd st id (some (.arr 3 [])):=by
 by_cases hn:n=0
 ·subst hn
  refine pC Tryz.func89 rfl ?_
  (repeat' first|((refine fK 4 3 1 rfl rfl rfl (λid hid=> ?_);refine yX ?_;exact Cn.any ⟨_,_,_,rfl,zwr _,zsr _,id,rfl,hid,rfl⟩))|apply wZ;rfl|show Cn _;constructor|(apply aII pk;rfl;rfl;rfl;rotate_left;rfl;rfl;rotate_left)|omega)
 have hn0:0<n:=by omega
 refine pC Tryz.func89 rfl ?_
 (repeat' first|((refine aFG 4 0 rfl (.inl (aA _ _ _)) aqL (Nat.zero_le _) (by simp [aV];omega) (λid2 hid2=> ?_);refine yX ?_;exact Cn.any ⟨_,_,upd st id2 (some (.arr 3 [])),rfl,zwr _,aoZ hid1 rfl,id2,rfl,aBU hid2,rfl⟩))|apply wZ;rfl|show Cn _;constructor|(apply aII pk;rfl;rfl;rfl;rotate_left;rfl;rfl;rotate_left)|(apply slN pk;(iterate 5 rfl);rotate_left;rfl;rfl;rotate_left)|((refine apN pk (m:=n) 8 rfl rfl rfl rfl rfl rfl rfl rfl hn0 lY (by omega) (by omega) (by decide) rfl (λid1 hid1=> ?_)))|apply aCX pk 0;(iterate 4 rfl);rotate_left;rfl;(intro _;exact aJ rfl rfl);(intro _;omega);(intro _;omega);rfl|omega|(intro h;simp at h))
def sz2 (a b:List Int) (i:Nat):Nat:=if i=0 then 0 else if i=1 then a.length else a.length+b.length
def aHC (a b:List Int) (i:Nat):List Int:=if i=0 then [] else if i=1 then a else a++b
theorem ayS (a b:List Int) (h:a.length+b.length<100000000000) (st:aD):PC Tryz.prog 57 [.seq [[.seq (a.map I1)],[.seq (b.map I1)]]] st λr S=>∃id,r= .vec id 1 0 (a.length+b.length)/\st id=none/\S=upd st id (some (.arr 3 ((a++b).map I1))):=by
 have hla:(a.map I1).length=a.length:=zql _
 have hlb:(b.map I1).length=b.length:=zql _
 have hg:=aE9 (a.length+b.length) (by omega) st
 have z0:sz2 a b 0=0:=rfl
 have z1:sz2 a b 1=a.length:=rfl
 have z2:sz2 a b 2=a.length+b.length:=rfl
 have c0:([[PV.seq (a.map I1)],[PV.seq (b.map I1)]]:List (List PV))[0]?=some [PV.seq (a.map I1)]:=rfl
 have c1:([[PV.seq (a.map I1)],[PV.seq (b.map I1)]]:List (List PV))[1]?=some [PV.seq (b.map I1)]:=rfl
 refine pC Tryz.func57 rfl ?_
 focus ((repeat' first|apply wZ;rfl|show Cn _;constructor))
 refine aC (X:={x:Nat//x<=2}) (λi=>((((((St.nil 36 st).pv 0 (.seq [[.seq (a.map I1)],[.seq (b.map I1)]])).pv 3 ((vi ((sz2 a b i.1:Nat))))).pv 9 (.seq [[.seq (a.map I1)],[.seq (b.map I1)]])).pv 10 ((vi ((2:Nat))))).pv 11 ((vi ((i.1:Nat)))))) (λi=>2-i.1) ⟨0,by omega⟩ ?_ (λi=> ?_)
 ·(repeat' first|show Cn _;constructor|exact rfl)
 obtain ⟨i,hi⟩:=i
 dsimp only
 rcases (show i=0\/i=1\/i=2 by omega) with rfl|rfl|rfl
 ·(repeat' first|refine ⟨⟨1,by omega⟩, ?_, ?_⟩;((dsimp only [sz2]))|apply wZ;rfl|show Cn _;constructor|exact rfl|apply cN pk;(iterate 6 rfl);rotate_left;rfl;(intro hw;rfl);(intro hw;apply c0<;>omega);(intro _;rfl);rfl|show _=_;((simp;done))|omega|simp only [zql];omega)
 ·(repeat' first|refine ⟨⟨2,by omega⟩, ?_, ?_⟩;((dsimp only [sz2]))|apply wZ;rfl|show Cn _;constructor|exact rfl|apply cN pk;(iterate 6 rfl);rotate_left;rfl;(intro hw;rfl);(intro hw;apply c1<;>omega);(intro _;rfl);rfl|show _=_;((simp;done))|omega|simp only [zql];omega)
 ·rw [z2]
  focus ((repeat' first|apply wZ;rfl|show Cn _;constructor|((apply aIt;rfl;rfl;exact hg;rfl;rfl;rfl;intro _ st' hR;obtain ⟨id,rfl,hid,rfl⟩:=hR))))
  refine aC (X:={x:Nat×Nat//x.1<=2/\st x.2=none}) (λy=>(((((St.nil 36 (upd st y.1.2 (some (.arr 3 ((aHC a b y.1.1).map I1))))).pv 6 (.vec y.1.2 1 0 (sz2 a b y.1.1))).pv 25 (.seq [[.seq (a.map I1)],[.seq (b.map I1)]])).pv 26 ((vi ((2:Nat))))).pv 27 ((vi ((y.1.1:Nat)))))) (λy=>2-y.1.1) ⟨(0,id),by simp,hid⟩ ?_ (λy=> ?_)
  ·dsimp only
   (repeat' first|show Cn (.t _ _);exact Cn.t0|show Cn _;constructor|exact rfl)
  obtain ⟨⟨y,id⟩,hy,hid⟩:=y
  simp only at hy hid
  dsimp only
  rcases (show y=0\/y=1\/y=2 by omega) with rfl|rfl|rfl
  ·show PWp _ _ _ _
   (repeat' first|refine ⟨⟨(1,id'),by simp only;omega,dK hid'⟩, ?_, ?_⟩;((dsimp only [sz2,aHC]))|show Cn (.t _ _);exact .any (bP ‹_›)|apply wZ;rfl|show Cn _;constructor|exact rfl|apply cN pk;(iterate 6 rfl);rotate_left;rfl;(intro hw;rfl);(intro hw;apply c0<;>omega);(intro _;rfl);rfl|show _=_;(simp)|(apply apV pk (f:=I1) a 8;(iterate 9 rfl);(exact aA _ _ _);(assumption);exact λ_=>rfl;exact λ_=>rfl;exact lY;(omega);(omega);rfl;intro id' hid')|omega|simp only [zql];omega)
  ·show PWp _ _ _ _
   (repeat' first|refine ⟨⟨(2,id'),by simp only;omega,dK hid'⟩, ?_, ?_⟩;((dsimp only [sz2,aHC]))|show Cn (.t _ _);exact .any (bP ‹_›)|apply wZ;rfl|show Cn _;constructor|exact rfl|apply cN pk;(iterate 6 rfl);rotate_left;rfl;(intro hw;rfl);(intro hw;apply c1<;>omega);(intro _;rfl);rfl|(apply apV pk (f:=I1) b 8;(iterate 9 rfl);(exact aA _ _ _);(assumption);exact λ_=>rfl;exact λ_=>rfl;exact lY;(omega);(omega);rfl;intro id' hid')|omega|simp only [zql];omega)
  ·(repeat' first|show Cn (.r _ _ _);refine .rr ?_;(exact ⟨id,rfl,hid,rfl⟩);done|apply wZ;rfl|show Cn _;constructor)
end Go.Proofs.YtfablfldonhkiaaGreatDoor
