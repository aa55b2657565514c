import Derived.Test.YtfablfldonhkiaaGreatDoorClAk
import Derived.Test.YtfablfldonhkiaaGreatDoorClAs
import Derived.Test.YtfablfldonhkiaaGreatDoorAbsJ
import Derived.Test.YtfablfldonhkiaaGreatDoorClAm
import Derived.Test.YtfablfldonhkiaaGreatDoorClAj
set_option linter.unusedSimpArgs false
set_option linter.unusedVariables false
namespace Go.Proofs.YtfablfldonhkiaaGreatDoor
open Go Go.Abs
attribute [local irreducible] Ev PWp
set_option maxRecDepth 10000
set_option maxHeartbeats 4000000
def dL (xs:Array Int):Nat->List Int
 |0=>[]
 |1=>[xs[0]!]
 |i+2=>dL xs (i+1)++if xs[i+1]! =xs[i]! then [] else [xs[i+1]!]
theorem axE (xs:Array Int) {k:Nat} (h:1<=k):dL xs (k+1)=dL xs k++if xs[k]! =xs[k-1]! then [] else [xs[k]!]:=by
 obtain ⟨i,rfl⟩:∃i,k=i+1:=⟨k-1,by omega⟩;rfl
theorem aEV (xs:Array Int):∀k,1<=k->(dL xs k).length=1+dN xs k
 |1,_=>rfl
 |k+2,_=>by
  have a:=aEV xs (k+1) (by omega)
  rw [axE xs (by omega),zS xs (by omega),zla,a]
  split<;>simp<;>omega
def hdA (xs:Array Int) (n:Nat):List Int:=xs.toList.take n
theorem auQ {xs:Array Int} {k:Nat} (h:k<xs.size):hdA xs (k+1)=hdA xs k++[xs[k]!]:=by
 unfold hdA;rw [List.take_succ_eq_append_getElem (by simpa using h),getElem!_pos xs k h];simp
theorem aFx {xs:Array Int} {k n:Nat} {v:Int} (h:n<=k):hdA (xs.setIfInBounds k v) n=hdA xs n:=by
 unfold hdA;rw [Array.toList_setIfInBounds,List.take_set,List.set_eq_of_length_le (by simp;omega)]
theorem aqU (xs:Array Int) {st:aD} {id n:Nat} (o:st id=some (.arr 3 (xs.toList.map I1))) (hn:xs.size=n) (N:n<1000000000000):
  PC Tryz.prog 60 [.vec id 1 0 n] st λr S=>r= .vec id 1 0 (dL xs n).length/\∃rows,S=upd st id (some (.arr 3 rows))/\rows.length=n/\rows.take (dL xs n).length=(dL xs n).map I1:=by
 by_cases h0:n=0
 ·subst h0
  refine pC Tryz.func60 rfl ?_
  (repeat' first|show Cn (.r _ _ _);refine .rr ?_;(exact ⟨rfl,_,(kN o).symm,by simp [hn],by simp [dL]⟩);done|apply wZ;rfl|show Cn _;constructor)
 have e:(dL xs n).length=1+dN xs n:=aEV xs n (by omega)
 rw [e]
 have z:hdA xs 1=dL xs 1:=by rw [auQ (by omega)];rfl
 by_cases A:n<2
 ·obtain rfl:n=1:=by omega
  refine pC Tryz.func60 rfl ?_
  (repeat' first|show Cn (.r _ _ _);refine .rr ?_;(exact ⟨rfl,_,(kN o).symm,by simp [hn],by rw [<-List.map_take];exact congrArg (List.map I1) z⟩);done|apply wZ;rfl|show Cn _;constructor)
 refine pC Tryz.func60 rfl ?_
 focus ((repeat' first|apply wZ;rfl|show Cn _;constructor|omega|(intro h;simp at h)))
 refine aC (X:={x:Nat//1<=x/\x<=n/\dN xs x+1=x/\hdA xs x=dL xs x}) (λi=>(((St.nil 61 (st)).pv 0 (.vec id 1 0 n)).pv 3 ((vi ((i.1:Nat)))))) (λi=>n-i.1) ⟨1,by omega,by omega,rfl,z⟩ ?_ (λi=> ?_)
 ·(repeat' first|show Cn (.t _ _);exact Cn.t0|show Cn _;constructor|exact rfl)
 obtain ⟨k,s,O,P,g⟩:=i
 dsimp only
 by_cases K:n<=k
 ·obtain rfl:k=n:=by omega
  have L:1+dN xs k=k:=by omega
  rw [L];have M:(xs.toList.map I1).take k=(dL xs k).map I1:=by rw [<-List.map_take];exact congrArg (List.map I1) g
  (repeat' first|show Cn (.r _ _ _);refine .rr ?_;(exact ⟨rfl,_,(kN o).symm,by simp [hn],M⟩);done|apply wZ;rfl|show Cn _;constructor|omega|(intro h;simp at h))
 have Q:k<n:=by omega
 have hu:=zS xs s
 have hL:=axE xs s
 by_cases hd:¬xs[k]! =xs[k-1]!
 ·rw [zn hd] at hu hL
  have H:dN xs (k+1)+1=k+1:=by omega
  have C:hdA xs (k+1)=dL xs (k+1):=by rw [hL,<-g,auQ (by omega)]
  (repeat' first|apply wDx pk;rfl;kernel_rfl;rfl;rfl|(refine ⟨⟨k+1,by omega,by omega,H,C⟩, ?_, ?_⟩)|show Cn (.t _ _);exact Cn.t0|apply wZ;rfl|show Cn _;constructor|exact rfl|apply ixA pk;(iterate 5 rfl);rotate_left;rfl;(intro hw;(first|exact (show _=((k:Nat):Int) from by omega)|exact (show _=((k-1:Nat):Int) from by omega)));(intro hw;(omega));rfl;(exact Nat.zero_add _)|apply ldA pk I1.elem;rfl;rfl;rotate_left;rfl;(assumption);(intro hw;(omega));rfl|omega|simp only [zql];omega|(intro h;simp at h)|intro h)
 replace hd:=zdn hd
 rw [zp hd] at hu hL
 rw [List.append_nil] at hL
 have E:hdA xs (1+dN xs (k+1))=dL xs (k+1):=by rw [hL,<-g,show 1+dN xs (k+1)=k by omega]
 focus ((repeat' first|apply wDx pk;rfl;kernel_rfl;rfl;rfl|apply wZ;rfl|show Cn _;constructor|apply ixA pk;(iterate 5 rfl);rotate_left;rfl;(intro hw;(first|exact (show _=((k:Nat):Int) from by omega)|exact (show _=((k-1:Nat):Int) from by omega)));(intro hw;(omega));rfl;(exact Nat.zero_add _)|apply ldA pk I1.elem;rfl;rfl;rotate_left;rfl;(assumption);(intro hw;(omega));rfl|apply eP pk k (n-k);(iterate 4 rfl);rotate_left;rfl;(intro _;exact ⟨_,aL rfl rfl,by omega⟩);(intro _;exact ⟨_,aZ,by omega⟩);(intro _;omega);(intro _;omega);rfl|omega|(intro h;simp at h)|intro h))
 refine aC (X:={x:Nat×Array Int//1<=x.1/\x.1<=n-k/\x.2.size=n/\(∀j,k+x.1<=j+1->j<n->x.2[j]! =xs[j]!)/\hdA x.2 (1+dN xs (k+x.1))=dL xs (k+x.1)}) (λy=>(((((St.nil 61 (upd st id (some (.arr 3 (y.1.2.toList.map I1))))).pv 0 (.vec id 1 0 n)).pv 3 ((vi (((1+dN xs (k+y.1.1):Nat):Int))))).pv 4 (.vec id 1 k (n-k))).pv 5 ((vi ((y.1.1:Nat)))))) (λy=>n-y.1.1) ⟨(1,xs),by omega,by omega,hn,λ_ _ _=>rfl,E⟩ ?_ (λy=> ?_)
 ·dsimp only
  (repeat' first|show Cn (.t _ _);exact .any (cM (by (exact kN ‹_›)))|show Cn _;constructor|exact rfl|congr 2;omega)
 obtain ⟨⟨y,a⟩,I,J,f,hy,c⟩:=y
 simp only at I J f hy c
 dsimp only
 have u:=axZ xs (k+1) (y-1) (by omega)
 rw [show k+1+(y-1)=k+y by omega] at u
 by_cases D:n-k<=y
 ·obtain rfl:y=n-k:=by omega
  rw [show k+(n-k)=n by omega] at u c⊢;have G:(a.toList.map I1).length=n:=by rw [zql,Array.length_toList,f]
  have F:(aT (a.toList.map I1) (1+dN xs n) (aW (n-(1+dN xs n)) 1)).length=n:=(dP (by rw [G];simp only [aW,List.length_replicate];omega)).trans G;have v:∀m,(aT (a.toList.map I1) (1+dN xs n) (aW m 1)).take (1+dN xs n)=(dL xs n).map I1:=λm=>by
   unfold aT
   rw [List.append_assoc,List.take_append_of_le_length (by rw [zlt,G];omega),List.take_take,Nat.min_self,<-List.map_take]
   exact congrArg (List.map I1) c
  have R:(a.toList.map I1).take (1+dN xs n)=(dL xs n).map I1:=by rw [<-List.map_take];exact congrArg (List.map I1) c
  (repeat' first|show Cn (.r _ _ _);refine .rr ?_;(exact ⟨rfl,_,eH _ _ _ _,F,v _⟩);done|apply wZ;rfl|show Cn _;constructor|apply eP pk (1+dN xs n) (n-(1+dN xs n));(iterate 4 rfl);rotate_left;rfl;(intro _;exact ⟨_,aL rfl rfl,by omega⟩);(intro _;exact ⟨_,aZ,by omega⟩);(intro _;omega);(intro _;omega);rfl|(refine aDs pk (id:=id) (off:=1+dN xs n) (len:=n-(1+dN xs n)) (rows:=a.toList.map I1) rfl rfl rfl rfl rfl rfl rfl rfl (aA _ _ _) (by omega) (by omega) (by omega) rfl ?_)|apply aD4 pk (1+dN xs n);(iterate 4 rfl);rotate_left;rfl;(intro _;exact aL rfl rfl);(intro _;omega);(intro _;omega);rfl|omega|(intro h;simp at h))
 have l:=hy (k+y) (by omega) (by omega)
 have w:=hy (k+(y-1)) (by omega) (by omega)
 have d:=zS xs (show 1<=k+y by omega)
 have b:=axE xs (show 1<=k+y by omega)
 rw [show k+y-1=k+(y-1) by omega,show k+y+1=k+(y+1) from rfl] at d b
 by_cases B:xs[k+y]! =xs[k+(y-1)]!
 ·rw [zp B] at d b
  rw [List.append_nil] at b;have q:∀j,k+(y+1)<=j+1->j<n->a[j]! =xs[j]!:=λj z A=>hy j (by omega) A;have p:hdA a (1+dN xs (k+(y+1)))=dL xs (k+(y+1)):=by rw [b,d,Nat.add_zero];exact c
  rw [<-l,<-w] at B
  (repeat' first|apply wDx pk;rfl;kernel_rfl;rfl;rfl|refine ⟨⟨(y+1,a),by simp only;omega,by simp only;omega,f,q,p⟩, ?_, ?_⟩;((dsimp only))|show Cn (.t _ _);exact Cn.t0|apply wZ;rfl|show Cn _;constructor|exact rfl|show _=_;(congr 2;omega)|apply ixA pk;(iterate 5 rfl);rotate_left;rfl;(intro hw;(first|exact (show _=((y:Nat):Int) from by omega)|exact (show _=((y-1:Nat):Int) from by omega)));(intro hw;(omega));rfl;(rfl)|apply ldA pk I1.elem;rfl;rfl;rotate_left;rfl;(exact aA _ _ _);(intro hw;(omega));rfl|omega|simp only [zql];omega|(intro h;simp at h)|intro h)
 ·rw [zn B] at d b
  have q:∀j,k+(y+1)<=j+1->j<n->(a.setIfInBounds (1+dN xs (k+y)) a[k+y]!)[j]! =xs[j]!:=λj z A=>by
   rw [getElem!_pos _ j (by rw [zqs];omega),Array.getElem_setIfInBounds_ne (by omega) (by omega),<-getElem!_pos a j (by omega)]
   exact hy j (by omega) A
  have p:hdA (a.setIfInBounds (1+dN xs (k+y)) a[k+y]!) (1+dN xs (k+(y+1)))=dL xs (k+(y+1)):=by
   rw [b,d,<-c,show 1+(dN xs (k+y)+1)=(1+dN xs (k+y))+1 by omega,auQ (by rw [zqs];omega),aFx (Nat.le_refl _),getElem!_pos _ _ (by rw [zqs];omega),Array.getElem_setIfInBounds_self,l]
  rw [<-l,<-w] at B
  (repeat' first|apply wDx pk;rfl;kernel_rfl;rfl;rfl|refine ⟨⟨(y+1,a.setIfInBounds (1+dN xs (k+y)) a[k+y]!),by simp only;omega,by simp only;omega,by rw [zqs];exact f,q,p⟩, ?_, ?_⟩;((dsimp only))|show Cn (.t _ _);exact .any (cM (by (((simp only [St.pv,St.put,St.sst,St.setv,St.nil,St.var,eH]);(done)))))|apply wZ;rfl|show Cn _;constructor|exact rfl|show _=_;(congr 2;omega)|(apply ixA pk;(iterate 5 rfl);rotate_left;rfl;(intro hw;(first|exact (show _=((y:Nat):Int) from by omega)|exact (show _=((y-1:Nat):Int) from by omega)|exact (show _=((1+dN xs (k+y):Nat):Int) from by omega)));(intro hw;(omega));rfl;(first|exact Nat.zero_add _|exact rfl))|apply ldA pk I1.elem;rfl;rfl;rotate_left;rfl;(exact aA _ _ _);(intro hw;(omega));rfl|apply stA pk I1.elem;rfl;rfl;rfl;(exact aA _ _ _);(omega);rfl|omega|simp only [zql];omega|(intro h;simp at h)|intro h)
theorem aHZ {xs:Array Int} (hs:∀i j,i<j->j<xs.size->xs[i]!<=xs[j]!):∀k,k<=xs.size->(dL xs k).Pairwise (· < ·)/\(∀x∈dL xs k,1<=k/\x<=xs[k-1]!)/\∀x,x∈dL xs k↔∃i<k,xs[i]! =x
 |0,_=>by simp [dL]
 |1,_=>by
  refine ⟨by simp [dL],by simp [dL],λx=> ?_⟩
  simp only [dL,zms]
  exact ⟨λe=>⟨0,by omega,e.symm⟩,λ⟨i,hi,e⟩=>by
   obtain rfl:i=0:=by omega
   exact e.symm⟩
 |k+2,hk=>by
  obtain ⟨f,d,g⟩:=aHZ hs (k+1) (by omega)
  have h:=hs k (k+1) (by omega) (by omega)
  rw [axE xs (by omega),show k+1-1=k from rfl,show k+2-1=k+1 from rfl]
  by_cases e:xs[k+1]! =xs[k]!
  ·rw [zp e,List.append_nil]
   refine ⟨f,λx hx=>⟨by omega,by have:=(d x hx).2;rw [show k+1-1=k from rfl] at this;omega⟩,λx=> ?_⟩;rw [g];constructor
   ·rintro ⟨i,hi,q⟩;exact ⟨i,by omega,q⟩
   ·rintro ⟨i,hi,q⟩
    rcases zls.1 hi with c|c
    ·exact ⟨i,c,q⟩
    ·subst c;exact ⟨k,by omega,by rw [<-e];exact q⟩
  ·rw [zn e]
   refine ⟨List.pairwise_append.2 ⟨f,by simp,λa ha b hb=> ?_⟩,λx hx=> ?_,λx=> ?_⟩
   ·obtain rfl:=zms.1 hb
    have:=(d a ha).2;rw [show k+1-1=k from rfl] at this;omega
   ·rcases zma.1 hx with q|q
    ·exact ⟨by omega,by have:=(d x q).2;rw [show k+1-1=k from rfl] at this;omega⟩
    ·obtain rfl:=zms.1 q;exact ⟨by omega,Int.le_refl _⟩
   ·rw [zma,g,zms]
    constructor
    ·rintro (⟨i,hi,q⟩|q)
     ·exact ⟨i,by omega,q⟩
     ·exact ⟨k+1,by omega,q.symm⟩
    ·rintro ⟨i,hi,q⟩
     rcases zls.1 hi with c|c
     ·exact .inl ⟨i,c,q⟩
     ·subst c;exact .inr q.symm
theorem aGc (l:List Int):dL (l.mergeSort λx y=>decide (x<=y)).toArray l.length=iL l:=by
 have hs:(l.mergeSort λx y=>decide (x<=y)).Pairwise λa b=>decide (a<=b)=true:=List.pairwise_mergeSort (λa b c e g=>by simp only [zde] at*;omega) (λa b=>by simp only [Bool.or_eq_true,zde];omega) l;have hl:(l.mergeSort λx y=>decide (x<=y)).length=l.length:=List.length_mergeSort l;have hm:∀x,x∈(l.mergeSort λx y=>decide (x<=y))↔x∈l:=λx=>List.mem_mergeSort;generalize (l.mergeSort λx y=>decide (x<=y))=m at*;have hq:∀i j,i<j->j<m.toArray.size->m.toArray[i]!<=m.toArray[j]!:=λi j d hj=>by
  have hj:j<m.length:=by simpa using hj
  rw [getElem!_pos m.toArray i (by simp;omega),getElem!_pos m.toArray j (by simpa using hj)]
  have:=List.pairwise_iff_getElem.1 hs i j (by omega) hj d
  simpa using this
 obtain ⟨e,_,f⟩:=aHZ hq l.length (by simp [hl]);refine atA e λx=> ?_;rw [f,<-hm];constructor
 ·rintro ⟨i,hi,rfl⟩
  rw [getElem!_pos m.toArray i (by simp;omega)];simp
 ·intro hx
  obtain ⟨i,hi,rfl⟩:=zgo hx;exact ⟨i,by omega,by rw [getElem!_pos m.toArray i (by simpa using hi)];simp⟩
def jN (p:P4):Value:= .agg (abW p).toArray
theorem aCC :KeyOK Tryz.prog 93 jN (λp=> .agg (p4C p)):=
 arZ aS rfl rfl rfl rfl (λa b=>by
  show some (decide (a.1=b.1)&&(decide (a.2.1=b.2.1)&&(decide (a.2.2.1=b.2.2.1)&&decide (a.2.2.2=b.2.2.2))))=_
  rw [Option.some.injEq,Bool.eq_iff_iff]
  simp [Prod.ext_iff]) (by kernel_rfl)
def m4E (M:List P4):List (P4×Bool):=M.map λr=>(r,true)
def m4M (M:List P4):AObj:= .map (aX jN bF (m4E M))
theorem aHN {p:P4}:∀{M:List P4},cL p true (m4E M)=m4E (wQ p M)
 |[]=>rfl
 |x::M=>by
  have a:=aHN (p:=p) (M:=M)
  unfold wQ at a⊢
  simp only [m4E,zmp,cL] at a⊢
  by_cases e:p=x
  ·subst e
   rw [zp rfl,zp (by simp)];rfl
  ·rw [zn e,a]
   by_cases hm:p∈M
   ·rw [zp hm,zp (by simp [hm])];rfl
   ·rw [zn hm,zn (by simp [hm,e])];rfl
theorem aKl {st:aD} {id:Nat} {p:P4} {M:List P4}:upd (upd st id (some (m4M M))) id (some (.map (aX jN bF (cL p true (m4E M)))))=upd st id (some (m4M (wQ p M))):=by
 rw [eH,aHN];rfl
theorem aoP (was is:Ln) (col:Int) (i:fS was col) (j:fS is col) (k t c z:Int) (M:List P4) (st:aD) (id:Nat):
  PC Tryz.prog 96 [.mref id, .agg was.cells, .agg is.cells,(vi (col)), .agg [(vi (k)),(vi (t)),(vi (c)),(vi (z))]] (upd st id (some (m4M M))) λ_ S=>S=upd st id (some (m4M (aeP was is col k t c M))):=by
 have a:=gM was col i
 have b:=gM is col j
 unfold aeP
 cases g:ptP is col with
 |none=>
  rw [g] at b;generalize ptP was col=W at*;refine pC Tryz.func96 rfl ?_
  (repeat' first|(apply Cn.cf;focus (((first|apply a|apply b));done))|show Cn (.r _ _ _);refine .rr ?_;(rfl);done|apply wZ;rfl|show Cn _;constructor|apply wY;rfl)
 |some n=>
  rw [g] at b;dsimp only;have hs:=aKl (st:=st) (id:=id) (p:=((k,t,c,n):P4)) (M:=M);cases d:ptP was col with
  |none=>
   rw [d] at a;rw [zn (by simp)];refine pC Tryz.func96 rfl ?_
   (repeat' first|apply muA pk aCC (f:=bF) (k:=((k,t,c,n):P4));(exact .inr rfl);(iterate 5 rfl);exact aA _ _ _;rfl|(apply Cn.cf;focus (((first|apply a|apply b));done))|show Cn (.r _ _ _);refine .rr ?_;(exact hs);done|apply wZ;rfl|show Cn _;constructor|apply kE pk 3;(iterate 5 rfl);(focus repeat' constructor);rfl;(intro _;rfl);(intro _;omega);rfl|apply wY;rfl)
  |some m=>
   rw [d] at a;by_cases hm:m=n
   ·subst hm
    rw [zp rfl];refine pC Tryz.func96 rfl ?_
    (repeat' first|(apply Cn.cf;focus (((first|apply a|apply b));done))|show Cn (.r _ _ _);refine .rr ?_;(rfl);done|apply wZ;rfl|show Cn _;constructor|apply wY;rfl|omega|(intro h;simp at h))
   ·rw [zn (λe=>hm (Option.some.inj e))]
    have l:¬n=m:=λe=>hm e.symm;refine pC Tryz.func96 rfl ?_
    (repeat' first|apply muA pk aCC (f:=bF) (k:=((k,t,c,n):P4));(exact .inr rfl);(iterate 5 rfl);exact aA _ _ _;rfl|(apply Cn.cf;focus (((first|apply a|apply b));done))|show Cn (.r _ _ _);refine .rr ?_;(exact hs);done|apply wZ;rfl|show Cn _;constructor|apply kE pk 3;(iterate 5 rfl);(focus repeat' constructor);rfl;(intro _;rfl);(intro _;omega);rfl|apply wY;rfl|intro h;simp at h;omega|(intro h;simp at h))
theorem wF {α β:Type} {F:β->α->β} {l:List α} {i:Nat} {M:β} (h:i<l.length):(l.take (i+1)).foldl F M=F ((l.take i).foldl F M) l[i]:=by
 rw [List.take_succ_eq_append_getElem h,List.foldl_append];rfl
theorem aCa {s:Sc} {k:Nat} (hk:k<s.length) (was is:Ln) (key:Int) (hf:∀f∈s[k].foreign,fS was f.col/\fS is f.col) (hu:∀u∈s[k].unique,fS was u/\fS is u) (v:s[k].foreign.length<1000000000000) (w:s[k].unique.length<1000000000000) (M:List P4) (st:aD) (id:Nat):
  PC Tryz.prog 63 [.mref id, .agg (scC s),(vi ((k:Nat))), .agg was.cells, .agg is.cells,(vi (key))] (upd st id (some (m4M M))) λ_ S=>S=upd st id (some (m4M (nC s[k] (k:Int) was is key M))):=by
 unfold nC
 have hs:=aKl (st:=st) (id:=id) (p:=((1,((k:Nat):Int),0,key):P4)) (M:=M)
 generalize q:wQ (1,((k:Nat):Int),0,key) M=l at*
 have b:StSub (upd st id (some (m4M (auR was is (s[k].foreign.take 0) l)))) (upd (upd st id (some (m4M M))) id (some (.map (aX jN bF (cL (1,((k:Nat):Int),0,key) true (m4E M)))))):=by
  rw [hs];exact cM rfl
 refine pC Tryz.func63 rfl ?_
 focus ((repeat' first|apply muA pk aCC (f:=bF) (k:=((1,((k:Nat):Int),0,key):P4));(exact .inr rfl);(iterate 5 rfl);exact aA _ _ _;rfl|apply wZ;rfl|show Cn _;constructor|exact rfl|apply wI;rfl|apply gE;omega))
 refine aC (X:={x:Nat//x<=s[k].foreign.length}) (λi=>(((((((((St.nil 61 (upd st id (some (m4M (auR was is (s[k].foreign.take i.1) l))))).pv 0 (.mref id)).pv 2 ((vi ((k:Nat))))).var 7 24 ((scC s))).var 9 47 (was.cells)).var 10 47 (is.cells)).pv 25 (.seq (s[k].foreign.map Fr.cells))).pv 26 ((vi (((s[k].foreign.map Fr.cells).length:Nat))))).pv 27 ((vi ((i.1:Nat)))))) (λi=>s[k].foreign.length-i.1) ⟨0,by omega⟩ ?_ (λi=> ?_)
 ·(repeat' first|exact .any b|show Cn _;constructor|exact rfl)
 clear hs b
 obtain ⟨i,hi⟩:=i
 dsimp only
 by_cases e:s[k].foreign.length<=i
 ·rw [ztl e]
  generalize auR was is s[k].foreign l=m;have a:StSub (upd st id (some (m4M (aAN was is (k:Int) (s[k].unique.take 0) m)))) (upd st id (some (m4M m))):=cM rfl
  focus ((repeat' first|apply wZ;rfl|show Cn _;constructor|exact rfl|apply wI;rfl|apply gE;omega|simp only [zql];omega|(intro h;simp at h)))
  refine aC (X:={x:Nat//x<=s[k].unique.length}) (λy=>((((((((St.nil 61 (upd st id (some (m4M (aAN was is (k:Int) (s[k].unique.take y.1) m))))).pv 0 (.mref id)).pv 2 ((vi ((k:Nat))))).var 9 47 (was.cells)).var 10 47 (is.cells)).pv 46 (.seq (s[k].unique.map I1))).pv 47 ((vi (((s[k].unique.map I1).length:Nat))))).pv 48 ((vi ((y.1:Nat)))))) (λy=>s[k].unique.length-y.1) ⟨0,by omega⟩ ?_ (λy=> ?_)
  ·(repeat' first|exact .any a|show Cn _;constructor|exact rfl)
  clear a;obtain ⟨y,hy⟩:=y;dsimp only;by_cases c:s[k].unique.length<=y
  ·rw [ztl c]
   (repeat' first|show Cn (.r _ _ _);refine .rr ?_;(rfl);done|apply wZ;rfl|show Cn _;constructor|simp only [zql];omega|(intro h;simp at h))
  have j:y<s[k].unique.length:=by omega
  have d:aAN was is (k:Int) (s[k].unique.take (y+1)) m=_:=wF j;obtain ⟨n,o⟩:=hu _ (zgm j);have hv:=λN=>aoP was is s[k].unique[y] n o 2 (k:Int) s[k].unique[y] 0 N st id
  (repeat' first|(apply cP;rfl;(apply (hv _));rintro _ st' (rfl))|refine ⟨⟨y+1,by omega⟩, ?_, ?_⟩;((dsimp only;rw [d];try rfl))|show Cn (.t _ _);exact Cn.t0|apply wZ;rfl|show Cn _;constructor|exact rfl|apply wY;rfl|apply wI;rfl|apply gE;omega|omega|simp only [zql];omega|(intro h;simp at h))
 have g:i<s[k].foreign.length:=by omega
 have d:auR was is (s[k].foreign.take (i+1)) l=_:=wF g
 obtain ⟨n,o⟩:=hf _ (zgm g)
 have hv:=λN=>aoP was is s[k].foreign[i].col n o 1 s[k].foreign[i].table 0 0 N st id
 (repeat' first|(apply cP;rfl;(apply (hv _));rintro _ st' (rfl))|refine ⟨⟨i+1,by omega⟩, ?_, ?_⟩;((dsimp only;rw [d];try rfl))|show Cn (.t _ _);exact Cn.t0|apply wZ;rfl|show Cn _;constructor|exact rfl|apply wY;rfl|apply wI;rfl|apply gE;omega|omega|simp only [zql];omega|(intro h;simp at h))
theorem aIR {t:Tb} {k:Int} {N L:List Ln} {M:List P4} {i:Nat} (h:i<L.length):wJ t k N (L.take (i+1)) M=match aY N L[i].key with
  |none=>nC t k L[i] Ln.zero L[i].key (wJ t k N (L.take i) M)
  |some x=>if L[i]=x then wJ t k N (L.take i) M else nC t k L[i] x L[i].key (wJ t k N (L.take i) M):=wF h
theorem aI9 {t:Tb} {k:Int} {O L:List Ln} {M:List P4} {i:Nat} (h:i<L.length):adZ t k O (L.take (i+1)) M=if (aY O L[i].key).isSome=true then adZ t k O (L.take i) M else nC t k Ln.zero L[i] L[i].key (adZ t k O (L.take i) M):=wF h
theorem aG3 {s:Sc} {was is:Bs} {M:List P4} (i:Nat):(List.range (i+1)).foldl (xP s was is) M=xP s was is ((List.range i).foldl (xP s was is) M) i:=by
 rw [List.range_succ,List.foldl_append];rfl
theorem azX {s:Sc} {was is:Bs} (v:aV T.rightP s was=true) (w:aV T.rightP s is=true) (q:BsS 200 was) (F:BsS 200 is) (M:List P4) (st:aD) (id:Nat):
  PC Tryz.prog 28 [.mref id, .agg (scC s), .agg (bsC was), .agg (bsC is)] (upd st id (some (m4M M))) λ_ S=>S=upd st id (some (m4M (nF s was is M))):=by
 unfold nF
 obtain ⟨⟨m,W⟩,_⟩:=aI.1 v
 obtain ⟨⟨_,Y⟩,_⟩:=aI.1 w
 have U:=oH m
 have R:(s.map Tb.cells).length=s.length:=zql _
 have K:=λk key=>wG is k key λd hd=>by have:=(F.2 d hd).1;omega
 have L:=λk key=>wG was k key λd hd=>by have:=(q.2 d hd).1;omega
 have p:StSub (upd st id (some (m4M ((List.range 0).foldl (xP s was is) M)))) (upd st id (some (m4M M))):=cM rfl
 refine pC Tryz.func28 rfl ?_
 focus ((repeat' first|apply wZ;rfl|show Cn _;constructor))
 refine aC (X:={x:Nat//x<=s.length}) (λi=>(((((((St.nil 90 (upd st id (some (m4M ((List.range i.1).foldl (xP s was is) M))))).pv 0 (.mref id)).var 5 24 ((scC s))).var 6 27 ((bsC was))).var 7 27 ((bsC is))).pv 19 ((vi (((s.map Tb.cells).length:Nat))))).pv 20 ((vi ((i.1:Nat)))))) (λi=>s.length-i.1) ⟨0,by omega⟩ ?_ (λi=> ?_)
 ·(repeat' first|exact .any p|show Cn _;constructor|exact rfl)
 clear p
 obtain ⟨i,hi⟩:=i
 dsimp only
 by_cases P:s.length<=i
 ·obtain rfl:i=s.length:=by omega
  (repeat' first|show Cn (.r _ _ _);refine .rr ?_;(rfl);done|apply wZ;rfl|show Cn _;constructor|omega|(intro h;simp at h))
 have hk:i<s.length:=by omega
 have n:(List.range (i+1)).foldl (xP s was is) M=adZ s[i]! (i:Nat) (aF was (i:Nat)) (aF is (i:Nat)) (wJ s[i]! (i:Nat) (aF is (i:Nat)) (aF was (i:Nat)) ((List.range i).foldl (xP s was is) M)):=aG3 i
 rw [getElem!_pos s i hk] at n
 generalize (List.range i).foldl (xP s was is) M=E at*
 have k1:i<was.length:=by omega
 have k2:i<is.length:=by omega
 have Z:=tX m hk
 have hf:∀f∈s[i].foreign,∀(x y:Ln),(x∈aF was (i:Nat)\/x∈aF is (i:Nat)\/x=Ln.zero)->fS x f.col:=λf hf x _ hx=>by
  have G:=aFa m hk (f:=f) (by rw [getElem!_pos s i hk];exact hf)
  rcases hx with h|h|rfl
  ·exact qQ v hk G h
  ·exact qQ w hk G h
  ·exact aqD _
 have hu:∀u∈s[i].unique,∀(x y:Ln),(x∈aF was (i:Nat)\/x∈aF is (i:Nat)\/x=Ln.zero)->fS x u:=λu hu x _ hx=>by
  have G:=aB2 m hk (u:=u) (by rw [getElem!_pos s i hk];exact hu)
  rcases hx with h|h|rfl
  ·exact qQ v hk G h
  ·exact qQ w hk G h
  ·exact aqD _
 have e:=λ(x y:Ln) (hx:x∈aF was (i:Nat)\/x∈aF is (i:Nat)\/x=Ln.zero) (hy:y∈aF was (i:Nat)\/y∈aF is (i:Nat)\/y=Ln.zero) (key:Int) (N:List P4)=>aCa hk x y key (λf h=>⟨hf f h x x hx,hf f h y y hy⟩) (λu h=>⟨hu u h x x hx,hu u h y y hy⟩) (by omega) (by omega) N st id
 have J:aF was (i:Nat)=was[i].lines:=dV k1
 have Q:aF is (i:Nat)=is[i].lines:=dV k2
 have z1:=(q.2 _ (zgm k1)).1
 have z2:=(F.2 _ (zgm k2)).1
 have j:StSub (upd st id (some (m4M (wJ s[i] i (aF is (i:Nat)) (was[i].lines.take 0) E)))) (upd st id (some (m4M E))):=cM rfl
 focus ((repeat' first|apply wZ;rfl|show Cn _;constructor|exact rfl|apply wI;rfl|apply gE;omega|omega|(intro h;simp at h)))
 refine aC (X:={x:Nat//x<=was[i].lines.length}) (λy=>(((((((((((St.nil 90 (upd st id (some (m4M (wJ s[i] i (aF is (i:Nat)) (was[i].lines.take y.1) E))))).pv 0 (.mref id)).var 5 24 ((scC s))).var 6 27 ((bsC was))).var 7 27 ((bsC is))).pv 8 ((vi ((i:Nat))))).pv 19 ((vi (((s.map Tb.cells).length:Nat))))).pv 20 ((vi ((i:Nat))))).pv 28 (.seq (was[i].lines.map Ln.cells))).pv 29 ((vi (((was[i].lines.map Ln.cells).length:Nat))))).pv 30 ((vi ((y.1:Nat)))))) (λy=>was[i].lines.length-y.1) ⟨0,by omega⟩ ?_ (λy=> ?_)
 ·(repeat' first|exact .any j|show Cn _;constructor|exact rfl)
 clear j
 obtain ⟨y,hy⟩:=y
 dsimp only
 by_cases A:was[i].lines.length<=y
 ·rw [ztl A]
  rw [J] at n;generalize wJ s[i] i (aF is (i:Nat)) was[i].lines E=I at*;have l:StSub (upd st id (some (m4M (adZ s[i] i was[i].lines (is[i].lines.take 0) I)))) (upd st id (some (m4M I))):=cM rfl
  focus ((repeat' first|apply wZ;rfl|show Cn _;constructor|exact rfl|apply wI;rfl|apply gE;omega|simp only [zql];omega|(intro h;simp at h)))
  refine aC (X:={x:Nat//x<=is[i].lines.length}) (λz=>(((((((((((St.nil 90 (upd st id (some (m4M (adZ s[i] i was[i].lines (is[i].lines.take z.1) I))))).pv 0 (.mref id)).var 5 24 ((scC s))).var 6 27 ((bsC was))).var 7 27 ((bsC is))).pv 8 ((vi ((i:Nat))))).pv 19 ((vi (((s.map Tb.cells).length:Nat))))).pv 20 ((vi ((i:Nat))))).pv 64 (.seq (is[i].lines.map Ln.cells))).pv 65 ((vi (((is[i].lines.map Ln.cells).length:Nat))))).pv 66 ((vi ((z.1:Nat)))))) (λz=>is[i].lines.length-z.1) ⟨0,by omega⟩ ?_ (λz=> ?_)
  ·(repeat' first|exact .any l|show Cn _;constructor|exact rfl)
  clear l;obtain ⟨z,hz⟩:=z;dsimp only;by_cases B:is[i].lines.length<=z
  ·rw [ztl B]
   rw [Q] at n
   (repeat' first|refine ⟨⟨i+1,by omega⟩, ?_, ?_⟩;((dsimp only;rw [n];try rfl))|apply wZ;rfl|show Cn _;constructor|exact rfl|omega|simp only [zql];omega|(intro h;simp at h))
  have H:z<is[i].lines.length:=by omega
  have g:=aI9 (t:=s[i]) (k:=i) (O:=was[i].lines) (M:=I) H;have hg:=L (i:Nat) is[i].lines[z].key;rw [J,aaX] at hg;have hl:=e Ln.zero is[i].lines[z] (.inr (.inr rfl)) (.inr (.inl (by rw [Q];exact zgm H))) is[i].lines[z].key;cases C:aY was[i].lines is[i].lines[z].key with
  |none=>
   rw [C] at hg g;rw [zn (by simp)] at g
   (repeat' first|(apply Cn.cf;focus ((apply hg);done))|(apply cP;rfl;(apply (hl _));rintro _ st' (rfl))|refine ⟨⟨z+1,by omega⟩, ?_, ?_⟩;((dsimp only;rw [g];try rfl))|show Cn (.t _ _);exact Cn.t0|apply wZ;rfl|show Cn _;constructor|exact rfl|apply wY;rfl|apply wI;rfl|apply gE;omega|omega|simp only [zql];omega|(intro h;simp at h))
  |some x=>
   rw [C] at hg g;rw [zp (by simp)] at g
   (repeat' first|refine ⟨⟨z+1,by omega⟩, ?_, ?_⟩;((dsimp only;rw [g];try rfl))|apply wZ;rfl|show Cn _;constructor|exact rfl|(apply hg)|apply wY;rfl|apply wI;rfl|apply gE;omega|omega|simp only [zql];omega|(intro h;simp at h))
 have o:y<was[i].lines.length:=by omega
 have a:=aIR (t:=s[i]) (k:=i) (N:=aF is (i:Nat)) (M:=E) o
 have hg:=K (i:Nat) was[i].lines[y].key
 rw [aaX] at hg
 obtain ⟨s1,s2,V⟩:=(q.2 _ (zgm k1)).2 _ (zgm o)
 have ha:=λb=>avN was[i].lines[y] b (by omega) (by omega) λc hc=>by have:=V c hc;omega
 cases C:aY (aF is (i:Nat)) was[i].lines[y].key with
 |none=>
  rw [C] at hg a;dsimp only at a;have hl:=e was[i].lines[y] Ln.zero (.inl (by rw [J];exact zgm o)) (.inr (.inr rfl)) was[i].lines[y].key;have ha:=ha Ln.zero;generalize decide (was[i].lines[y]=Ln.zero)=D at*
  (repeat' first|(apply Cn.cf;focus (((first|apply hg|apply ha));done))|(apply cP;rfl;(apply (hl _));rintro _ st' (rfl))|refine ⟨⟨y+1,by omega⟩, ?_, ?_⟩;((dsimp only;rw [a];try rfl))|show Cn (.t _ _);exact Cn.t0|apply wZ;rfl|show Cn _;constructor|exact rfl|apply wY;rfl|apply wI;rfl|apply gE;omega|omega|simp only [zql];omega|(intro h;simp at h))
 |some x=>
  rw [C] at hg a;dsimp only at a;have ha:=ha x;have hl:=e was[i].lines[y] x (.inl (by rw [J];exact zgm o)) (.inr (.inl (vU C))) was[i].lines[y].key;by_cases hx:was[i].lines[y]=x
  ·rw [zp hx] at a
   rw [decide_eq_true hx] at ha
   (repeat' first|refine ⟨⟨y+1,by omega⟩, ?_, ?_⟩;((dsimp only;rw [a];try rfl))|apply wZ;rfl|show Cn _;constructor|exact rfl|((first|apply hg|apply ha))|apply wY;rfl|apply wI;rfl|apply gE;omega|omega|simp only [zql];omega|(intro h;simp at h))
  ·rw [zn hx] at a
   rw [decide_eq_false hx] at ha
   (repeat' first|(apply Cn.cf;focus (((first|apply hg|apply ha));done))|(apply cP;rfl;(apply (hl _));rintro _ st' (rfl))|refine ⟨⟨y+1,by omega⟩, ?_, ?_⟩;((dsimp only;rw [a];try rfl))|show Cn (.t _ _);exact Cn.t0|apply wZ;rfl|show Cn _;constructor|exact rfl|apply wY;rfl|apply wI;rfl|apply gE;omega|omega|simp only [zql];omega|(intro h;simp at h))
theorem asW :Tryz.prog.cellsOf 3=1:=by kernel_rfl
theorem aCB {L:List Ln} {m:Su} {i:Nat} (h:i<L.length):(L.take (i+1)).filterMap (λl=>ptP l m.by_)=(L.take i).filterMap (λl=>ptP l m.by_)++(match ptP L[i] m.by_ with|none=>[]|some n=>[n]):=by
 rw [List.take_succ_eq_append_getElem h,List.filterMap_append]
 congr 1
 cases e:ptP L[i] m.by_ with
 |none=>simp [e]
 |some n=>simp [e]
theorem aBt {b:Bs} {k:Nat} (hk:k<b.length) (m:Su) (p:∀l∈b[k].lines,fS l m.by_) (hl:b[k].lines.length<1000000000000) (st:aD):
  PC Tryz.prog 58 [.agg (bsC b),(vi ((k:Nat))), .agg m.cells] st λr S=>∃id,r= .vec id 1 0 (b[k].lines.filterMap λl=>ptP l m.by_).length/\st id=none/\S=upd st id (some (.arr 3 ((b[k].lines.filterMap λl=>ptP l m.by_).map I1))):=by
 refine pC Tryz.func58 rfl ?_
 focus ((repeat' first|apply wZ;rfl|show Cn _;constructor|exact rfl|apply wI;rfl|apply gE;omega))
 refine fG 7 3 1 rfl rfl rfl (λid c=> ?_)
 refine aC (X:={x:Nat×Nat//x.1<=b[k].lines.length/\st x.2=none}) (λi=>((((((St.nil 37 (upd st i.1.2 (some (.arr 3 (((b[k].lines.take i.1.1).filterMap λl=>ptP l m.by_).map I1))))).var 5 134 (m.cells)).pv 7 (.vec i.1.2 1 0 ((b[k].lines.take i.1.1).filterMap λl=>ptP l m.by_).length)).pv 17 (.seq (b[k].lines.map Ln.cells))).pv 18 ((vi (((b[k].lines.map Ln.cells).length:Nat))))).pv 19 ((vi ((i.1.1:Nat)))))) (λi=>b[k].lines.length-i.1.1) ⟨(0,id),by simp,c⟩ ?_ (λi=> ?_)
 ·dsimp only
  (repeat' first|show Cn (.t _ _);exact Cn.t0|show Cn _;constructor|exact rfl)
 obtain ⟨⟨i,id⟩,hi,c⟩:=i
 simp only at hi c
 dsimp only
 by_cases o:b[k].lines.length<=i
 ·obtain rfl:i=b[k].lines.length:=by omega
  rw [List.take_length]
  (repeat' first|show Cn (.r _ _ _);refine .rr ?_;(exact ⟨id,rfl,c,rfl⟩);done|apply wZ;rfl|show Cn _;constructor|simp only [zql];omega|(intro h;simp at h))
 have e:i<b[k].lines.length:=by omega
 have a:=aCB (m:=m) e
 have hp:=gM b[k].lines[i] m.by_ (p _ (zgm e))
 have g:=List.length_filterMap_le (λl=>ptP l m.by_) (b[k].lines.take i)
 rw [zlt] at g
 cases hx:ptP b[k].lines[i] m.by_ with
 |none=>
  rw [hx] at hp a;dsimp only at a;rw [List.append_nil] at a
  (repeat' first|refine ⟨⟨(i+1,id),by simp only;omega,c⟩, ?_, ?_⟩;((dsimp only;rw [a]))|apply wZ;rfl|show Cn _;constructor|exact rfl|(apply hp)|apply wY;rfl|apply wI;rfl|apply gE;omega|omega|simp only [zql];omega|(intro h;simp at h))
 |some n=>
  rw [hx] at hp a;dsimp only at a;generalize (b[k].lines.take i).filterMap (λl=>ptP l m.by_)=G at*
  (repeat' first|refine ⟨⟨(i+1,j),by simp only;omega,dG d⟩, ?_, ?_⟩;((dsimp only;rw [a]))|show Cn (.t _ _);exact .any (bR ‹_›)|apply wZ;rfl|show Cn _;constructor|exact rfl|(apply hp)|show _=_;(simp)|(apply apV pk (f:=I1) [n] 8;(iterate 9 rfl);(exact aA _ _ _);(omega);exact λ_=>rfl;exact λ_=>rfl;exact lR;((focus (simp;omega)));((focus (simp;omega)));rfl;intro j d)|apply wY;rfl|apply wI;rfl|apply gE;omega|omega|simp only [zql];omega|(intro h;simp at h))
theorem zK {b:Bs} {k:Nat} (hk:k<b.length) (m:Su) (c:∀l∈b[k].lines,fS l m.by_) (hl:b[k].lines.length<1000000000000):PF Tryz.prog 58 [.agg (bsC b),(vi ((k:Nat))), .agg m.cells] (.seq ((iJ b k m).map I1)):=λst=>by
 unfold iJ
 rw [dV hk]
 exact gF (sz:=1) (aBt hk m c hl st) λp st' h=>by
  obtain ⟨id,rfl,a,rfl⟩:=h
  exact .inl ⟨id,3,(b[k].lines.filterMap λl=>ptP l m.by_).map I1,_,st,aA _ _ _,asW,fW (by simp),cD a,rfl,rfl⟩
theorem aC1 {st:aD} {a id2:Nat} {o:AObj} (h:upd st a (some o) id2=none):st id2=none:=by
 by_cases e:id2=a
 ·subst e;rw [aA] at h;cases h
 ·rwa [aB e] at h
theorem aGg (n:Nat) (hl:n<1000000000000) (st:aD):PC Tryz.prog 89 [.val (.slice none 0 0),(vi ((n:Nat)))] st λr S=>∃id,r= .vec id 1 0 0/\st id=none/\S=upd st id (some (.arr 3 [])):=by
 by_cases hn:n=0
 ·subst hn
  refine pC Tryz.func89 rfl ?_
  (repeat' first|((refine fG 4 3 1 rfl rfl rfl (λid c=> ?_);refine aaT ?_;exact Cn.any ⟨_,_,_,rfl,zwr _,zsr _,id,rfl,c,rfl⟩))|apply wZ;rfl|show Cn _;constructor|(apply aKF pk;rfl;rfl;rfl;rotate_left;rfl;rfl;rotate_left)|omega)
 have d:0<n:=by omega
 refine pC Tryz.func89 rfl ?_
 (repeat' first|((refine aGT 4 0 rfl (.inl (aA _ _ _)) asW (Nat.zero_le _) (by simp [aW];omega) (λid2 b=> ?_);refine aaT ?_;exact Cn.any ⟨_,_,upd st id2 (some (.arr 3 [])),rfl,zwr _,asB a rfl,id2,rfl,aC1 b,rfl⟩))|apply wZ;rfl|show Cn _;constructor|(apply aKF pk;rfl;rfl;rfl;rotate_left;rfl;rfl;rotate_left)|(apply slN pk;(iterate 5 rfl);rotate_left;rfl;rfl;rotate_left)|((refine apN pk (m:=n) 8 rfl rfl rfl rfl rfl rfl rfl rfl d lR (by omega) (by omega) (by decide) rfl (λe a=> ?_)))|apply aD4 pk 0;(iterate 4 rfl);rotate_left;rfl;(intro _;exact aL rfl rfl);(intro _;omega);(intro _;omega);rfl|omega|(intro h;simp at h))
def sz2 (a b:List Int) (i:Nat):Nat:=if i=0 then 0 else if i=1 then a.length else a.length+b.length
def aJb (a b:List Int) (i:Nat):List Int:=if i=0 then [] else if i=1 then a else a++b
theorem aAA (a b:List Int) (h:a.length+b.length<100000000000) (st:aD):PC Tryz.prog 57 [.seq [[.seq (a.map I1)],[.seq (b.map I1)]]] st λr S=>∃id,r= .vec id 1 0 (a.length+b.length)/\st id=none/\S=upd st id (some (.arr 3 ((a++b).map I1))):=by
 have j:(a.map I1).length=a.length:=zql _;have k:(b.map I1).length=b.length:=zql _;have hg:=aGg (a.length+b.length) (by omega) st;have z0:sz2 a b 0=0:=rfl;have z1:sz2 a b 1=a.length:=rfl;have z2:sz2 a b 2=a.length+b.length:=rfl;have c0:([[PV.seq (a.map I1)],[PV.seq (b.map I1)]]:List (List PV))[0]?=some [PV.seq (a.map I1)]:=rfl;have c1:([[PV.seq (a.map I1)],[PV.seq (b.map I1)]]:List (List PV))[1]?=some [PV.seq (b.map I1)]:=rfl;refine pC Tryz.func57 rfl ?_
 focus ((repeat' first|apply wZ;rfl|show Cn _;constructor))
 refine aC (X:={x:Nat//x<=2}) (λi=>((((((St.nil 36 st).pv 0 (.seq [[.seq (a.map I1)],[.seq (b.map I1)]])).pv 3 ((vi ((sz2 a b i.1:Nat))))).pv 9 (.seq [[.seq (a.map I1)],[.seq (b.map I1)]])).pv 10 ((vi ((2:Nat))))).pv 11 ((vi ((i.1:Nat)))))) (λi=>2-i.1) ⟨0,by omega⟩ ?_ (λi=> ?_)
 ·(repeat' first|show Cn _;constructor|exact rfl)
 obtain ⟨i,hi⟩:=i;dsimp only;rcases (show i=0\/i=1\/i=2 by omega) with rfl|rfl|rfl
 ·(repeat' first|refine ⟨⟨1,by omega⟩, ?_, ?_⟩;((dsimp only [sz2]))|apply wZ;rfl|show Cn _;constructor|exact rfl|apply dM pk;(iterate 6 rfl);rotate_left;rfl;(intro hw;rfl);(intro hw;apply c0<;>omega);(intro _;rfl);rfl|show _=_;((simp;done))|omega|simp only [zql];omega)
 ·(repeat' first|refine ⟨⟨2,by omega⟩, ?_, ?_⟩;((dsimp only [sz2]))|apply wZ;rfl|show Cn _;constructor|exact rfl|apply dM pk;(iterate 6 rfl);rotate_left;rfl;(intro hw;rfl);(intro hw;apply c1<;>omega);(intro _;rfl);rfl|show _=_;((simp;done))|omega|simp only [zql];omega)
 ·rw [z2]
  focus ((repeat' first|apply wZ;rfl|show Cn _;constructor|((apply aKk;rfl;rfl;exact hg;rfl;rfl;rfl;intro _ st' g;obtain ⟨id,rfl,d,rfl⟩:=g))))
  refine aC (X:={x:Nat×Nat//x.1<=2/\st x.2=none}) (λy=>(((((St.nil 36 (upd st y.1.2 (some (.arr 3 ((aJb a b y.1.1).map I1))))).pv 6 (.vec y.1.2 1 0 (sz2 a b y.1.1))).pv 25 (.seq [[.seq (a.map I1)],[.seq (b.map I1)]])).pv 26 ((vi ((2:Nat))))).pv 27 ((vi ((y.1.1:Nat)))))) (λy=>2-y.1.1) ⟨(0,id),by simp,d⟩ ?_ (λy=> ?_)
  ·dsimp only
   (repeat' first|show Cn (.t _ _);exact Cn.t0|show Cn _;constructor|exact rfl)
  obtain ⟨⟨y,id⟩,hy,d⟩:=y;simp only at hy d;dsimp only;rcases (show y=0\/y=1\/y=2 by omega) with rfl|rfl|rfl
  ·show PWp _ _ _ _
   (repeat' first|refine ⟨⟨(1,e),by simp only;omega,dG c⟩, ?_, ?_⟩;((dsimp only [sz2,aJb]))|show Cn (.t _ _);exact .any (bR ‹_›)|apply wZ;rfl|show Cn _;constructor|exact rfl|apply dM pk;(iterate 6 rfl);rotate_left;rfl;(intro hw;rfl);(intro hw;apply c0<;>omega);(intro _;rfl);rfl|show _=_;(simp)|(apply apV pk (f:=I1) a 8;(iterate 9 rfl);(exact aA _ _ _);(assumption);exact λ_=>rfl;exact λ_=>rfl;exact lR;(omega);(omega);rfl;intro e c)|omega|simp only [zql];omega)
  ·show PWp _ _ _ _
   (repeat' first|refine ⟨⟨(2,e),by simp only;omega,dG c⟩, ?_, ?_⟩;((dsimp only [sz2,aJb]))|show Cn (.t _ _);exact .any (bR ‹_›)|apply wZ;rfl|show Cn _;constructor|exact rfl|apply dM pk;(iterate 6 rfl);rotate_left;rfl;(intro hw;rfl);(intro hw;apply c1<;>omega);(intro _;rfl);rfl|(apply apV pk (f:=I1) b 8;(iterate 9 rfl);(exact aA _ _ _);(assumption);exact λ_=>rfl;exact λ_=>rfl;exact lR;(omega);(omega);rfl;intro e c)|omega|simp only [zql];omega)
  ·(repeat' first|show Cn (.r _ _ _);refine .rr ?_;(exact ⟨id,rfl,d,rfl⟩);done|apply wZ;rfl|show Cn _;constructor)
end Go.Proofs.YtfablfldonhkiaaGreatDoor
