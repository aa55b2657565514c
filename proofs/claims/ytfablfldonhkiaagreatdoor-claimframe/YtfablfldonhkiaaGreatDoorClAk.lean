import Derived.Test.YtfablfldonhkiaaGreatDoorClAj
import Derived.Test.YtfablfldonhkiaaGreatDoorClAg
import Derived.Test.YtfablfldonhkiaaGreatDoorClAd
import Derived.Test.YtfablfldonhkiaaGreatDoorClAe
set_option linter.unusedSimpArgs false
set_option linter.unusedVariables false
namespace Go.Proofs.YtfablfldonhkiaaGreatDoor
open Go Go.Abs
attribute [local irreducible] Ev PWp
set_option maxRecDepth 10000
set_option maxHeartbeats 4000000
def dN (xs:Array Int):Nat->Nat
 |0=>0
 |1=>0
 |i+2=>dN xs (i+1)+if xs[i+1]! =xs[i]! then 0 else 1
theorem zS (xs:Array Int) {k:Nat} (h:1<=k):dN xs (k+1)=dN xs k+if xs[k]! =xs[k-1]! then 0 else 1:=by
 obtain ⟨i,rfl⟩:∃i,k=i+1:=⟨k-1,by omega⟩;rfl
theorem axZ (xs:Array Int) (k:Nat):∀y,1<=k->dN xs (k+y)<=dN xs k+y
 |0,_=>Nat.le_refl _
 |y+1,h=>by
  have:=axZ xs k y h
  rw [show k+(y+1)=k+y+1 from rfl,zS xs (by omega)]
  split<;>omega
def aaL (xs:Array Int):Nat:=if xs.size<2 then xs.size else 1+dN xs xs.size
theorem asT (xs:Array Int) {st:aD} {id n:Nat} (o:st id=some (.arr 3 (xs.toList.map I1))) (hn:xs.size=n) (E:n<1000000000000):
  PC Tryz.prog 60 [.vec id 1 0 n] st λr S=>r= .vec id 1 0 (aaL xs)/\∃rows,S=upd st id (some (.arr 3 rows)):=by
 by_cases p:n<2
 ·have e:aaL xs=n:=by unfold aaL;rw [zp (by omega),hn]
  rw [e];refine pC Tryz.func60 rfl ?_
  (repeat' first|show Cn (.r _ _ _);refine .rr ?_;(exact ⟨rfl,_,(kN o).symm⟩);done|apply wZ;rfl|show Cn _;constructor|omega|intro h)
 have e:aaL xs=1+dN xs n:=by unfold aaL;rw [zn (by omega),hn]
 rw [e]
 refine pC Tryz.func60 rfl ?_
 focus ((repeat' first|apply wZ;rfl|show Cn _;constructor|omega|(intro h;simp at h)))
 refine aC (X:={x:Nat//1<=x/\x<=n/\dN xs x+1=x}) (λi=>(((St.nil 61 (st)).pv 0 (.vec id 1 0 n)).pv 3 ((vi ((i.1:Nat)))))) (λi=>n-i.1) ⟨1,by omega,by omega,rfl⟩ ?_ (λi=> ?_)
 ·(repeat' first|show Cn (.t _ _);exact Cn.t0|show Cn _;constructor|exact rfl)
 obtain ⟨k,v,F,G⟩:=i
 dsimp only
 by_cases B:n<=k
 ·obtain rfl:k=n:=by omega
  have C:1+dN xs k=k:=by omega
  rw [C]
  (repeat' first|show Cn (.r _ _ _);refine .rr ?_;(exact ⟨rfl,_,(kN o).symm⟩);done|apply wZ;rfl|show Cn _;constructor|omega|(intro h;simp at h))
 have H:k<n:=by omega
 have hu:=zS xs v
 by_cases hd:¬xs[k]! =xs[k-1]!
 ·rw [zn hd] at hu
  have w:dN xs (k+1)+1=k+1:=by omega
  (repeat' first|apply wDx pk;rfl;kernel_rfl;rfl;rfl|(refine ⟨⟨k+1,by omega,by omega,w⟩, ?_, ?_⟩)|show Cn (.t _ _);exact Cn.t0|apply wZ;rfl|show Cn _;constructor|exact rfl|apply ixA pk;(iterate 5 rfl);rotate_left;rfl;(intro hw;(first|exact (show _=((k:Nat):Int) from by omega)|exact (show _=((k-1:Nat):Int) from by omega)));(intro hw;(omega));rfl;(exact Nat.zero_add _)|apply ldA pk I1.elem;rfl;rfl;rotate_left;rfl;(assumption);(intro hw;(omega));rfl|omega|simp only [zql];omega|(intro h;simp at h)|intro h)
 replace hd:=zdn hd
 rw [zp hd] at hu
 focus ((repeat' first|apply wDx pk;rfl;kernel_rfl;rfl;rfl|apply wZ;rfl|show Cn _;constructor|apply ixA pk;(iterate 5 rfl);rotate_left;rfl;(intro hw;(first|exact (show _=((k:Nat):Int) from by omega)|exact (show _=((k-1:Nat):Int) from by omega)));(intro hw;(omega));rfl;(exact Nat.zero_add _)|apply ldA pk I1.elem;rfl;rfl;rotate_left;rfl;(assumption);(intro hw;(omega));rfl|apply eP pk k (n-k);(iterate 4 rfl);rotate_left;rfl;(intro _;exact ⟨_,aL rfl rfl,by omega⟩);(intro _;exact ⟨_,aZ,by omega⟩);(intro _;omega);(intro _;omega);rfl|omega|(intro h;simp at h)|intro h))
 refine aC (X:={x:Nat×Array Int//1<=x.1/\x.1<=n-k/\x.2.size=n/\∀j,k+x.1<=j+1->j<n->x.2[j]! =xs[j]!}) (λy=>(((((St.nil 61 (upd st id (some (.arr 3 (y.1.2.toList.map I1))))).pv 0 (.vec id 1 0 n)).pv 3 ((vi (((1+dN xs (k+y.1.1):Nat):Int))))).pv 4 (.vec id 1 k (n-k))).pv 5 ((vi ((y.1.1:Nat)))))) (λy=>n-y.1.1) ⟨(1,xs),by omega,by omega,hn,λ_ _ _=>rfl⟩ ?_ (λy=> ?_)
 ·dsimp only
  (repeat' first|show Cn (.t _ _);exact .any (cM (by (exact kN ‹_›)))|show Cn _;constructor|exact rfl|congr 2;omega)
 obtain ⟨⟨y,c⟩,z,A,a,hy⟩:=y
 simp only at z A a hy
 dsimp only
 have g:=axZ xs (k+1) (y-1) (by omega)
 rw [show k+1+(y-1)=k+y by omega] at g
 by_cases u:n-k<=y
 ·obtain rfl:y=n-k:=by omega
  rw [show k+(n-k)=n by omega] at g⊢;have I:(c.toList.map I1).length=n:=by rw [zql,Array.length_toList,a]
  (repeat' first|show Cn (.r _ _ _);refine .rr ?_;(exact ⟨rfl,_,eH _ _ _ _⟩);done|apply wZ;rfl|show Cn _;constructor|apply eP pk (1+dN xs n) (n-(1+dN xs n));(iterate 4 rfl);rotate_left;rfl;(intro _;exact ⟨_,aL rfl rfl,by omega⟩);(intro _;exact ⟨_,aZ,by omega⟩);(intro _;omega);(intro _;omega);rfl|(refine aDs pk (id:=id) (off:=1+dN xs n) (len:=n-(1+dN xs n)) (rows:=c.toList.map I1) rfl rfl rfl rfl rfl rfl rfl rfl (aA _ _ _) (by omega) (by omega) (by omega) rfl ?_)|apply aD4 pk (1+dN xs n);(iterate 4 rfl);rotate_left;rfl;(intro _;exact aL rfl rfl);(intro _;omega);(intro _;omega);rfl|omega|(intro h;simp at h))
 have l:=hy (k+y) (by omega) (by omega)
 have m:=hy (k+(y-1)) (by omega) (by omega)
 have d:=zS xs (show 1<=k+y by omega)
 rw [show k+y-1=k+(y-1) by omega,show k+y+1=k+(y+1) from rfl] at d
 by_cases q:xs[k+y]! =xs[k+(y-1)]!
 ·rw [zp q] at d
  have f:∀j,k+(y+1)<=j+1->j<n->c[j]! =xs[j]!:=λj D p=>hy j (by omega) p;rw [<-l,<-m] at q
  (repeat' first|apply wDx pk;rfl;kernel_rfl;rfl;rfl|refine ⟨⟨(y+1,c),by simp only;omega,by simp only;omega,a,f⟩, ?_, ?_⟩;((dsimp only))|show Cn (.t _ _);exact Cn.t0|apply wZ;rfl|show Cn _;constructor|exact rfl|show _=_;(congr 2;omega)|apply ixA pk;(iterate 5 rfl);rotate_left;rfl;(intro hw;(first|exact (show _=((y:Nat):Int) from by omega)|exact (show _=((y-1:Nat):Int) from by omega)));(intro hw;(omega));rfl;(rfl)|apply ldA pk I1.elem;rfl;rfl;rotate_left;rfl;(exact aA _ _ _);(intro hw;(omega));rfl|omega|simp only [zql];omega|(intro h;simp at h)|intro h)
 ·rw [zn q] at d
  have f:∀j,k+(y+1)<=j+1->j<n->(c.setIfInBounds (1+dN xs (k+y)) c[k+y]!)[j]! =xs[j]!:=λj D p=>by
   rw [getElem!_pos _ j (by rw [zqs];omega),Array.getElem_setIfInBounds_ne (by omega) (by omega),<-getElem!_pos c j (by omega)]
   exact hy j (by omega) p
  rw [<-l,<-m] at q
  (repeat' first|apply wDx pk;rfl;kernel_rfl;rfl;rfl|refine ⟨⟨(y+1,c.setIfInBounds (1+dN xs (k+y)) c[k+y]!),by simp only;omega,by simp only;omega,by rw [zqs];exact a,f⟩, ?_, ?_⟩;((dsimp only))|show Cn (.t _ _);exact .any (cM (by (((simp only [St.pv,St.put,St.sst,St.setv,St.nil,St.var,eH]);(done)))))|apply wZ;rfl|show Cn _;constructor|exact rfl|show _=_;(congr 2;omega)|(apply ixA pk;(iterate 5 rfl);rotate_left;rfl;(intro hw;(first|exact (show _=((y:Nat):Int) from by omega)|exact (show _=((y-1:Nat):Int) from by omega)|exact (show _=((1+dN xs (k+y):Nat):Int) from by omega)));(intro hw;(omega));rfl;(first|exact Nat.zero_add _|exact rfl))|apply ldA pk I1.elem;rfl;rfl;rotate_left;rfl;(exact aA _ _ _);(intro hw;(omega));rfl|apply stA pk I1.elem;rfl;rfl;rfl;(exact aA _ _ _);(omega);rfl|omega|simp only [zql];omega|(intro h;simp at h)|intro h)
end Go.Proofs.YtfablfldonhkiaaGreatDoor
namespace Go.Proofs.YtfablfldonhkiaaGreatDoor.T
open Go Go.Abs
attribute [local irreducible] Ev PWp
set_option maxRecDepth 10000
set_option maxHeartbeats 4000000
def qN :List Pt->List Int->List Int
 |[],acc=>acc
 |p::r,acc=>qN r (if p.gone=false/\acc.length<200 then acc++[p.val.n] else acc)
def showP (c:Cl):Vl:=if rightP c=0 then ⟨2,0,iO (qN c.parts [])⟩ else Vl.zero
theorem zZ {l:List Pt} {i:Nat} (h:i<l.length) (acc:List Int):qN (l.drop i) acc=qN (l.drop (i+1)) (if l[i].gone=false/\acc.length<200 then acc++[l[i].val.n] else acc):=by
 rw [List.drop_eq_getElem_cons h];rfl
theorem aJi :Tryz.prog.bytesOf 5=1:=by kernel_rfl
theorem gT {c:Cl} (h:rightP c=0):c.kind=4/\c.val=Vl.zero/\Whole c.parts/\c.parts.length<=2000/\cQ c.parts=c.parts:=by
 unfold rightP at h;split at h
 ·cases h
 ·split at h
  ·cases h
  ·split at h
   ·cases h
   ·split at h
    ·cases h
    ·rename_i d a e h4
     simp only [ne_eq,not_or,Decidable.not_not,Bool.not_eq_false] at d a h4;exact ⟨d,a.1,(eE _).1 a.2,by omega,h4⟩
theorem apG {p:Pt} (h:bL p=true):0<=p.val.n/\p.val.n<=255:=by
 simp only [bL,withinB,zba,zde] at h;exact ⟨h.1.1.1.2.1,h.1.1.1.2.2⟩
theorem jG {st:aD} {id a:Nat} {o:AObj} (h:upd st id (some o) a=none):st a=none:=by
 by_cases e:a=id
 ·rw [e,aA] at h;cases h
 ·rwa [aB e] at h
theorem show_spec (c:Cl) (hl:c.parts.length<4611686018427387904):PF Tryz.prog 77 [.agg c.cells] (.agg (showP c).cells):=by
 refine pF Tryz.func77 rfl (λst=> ?_)
 (repeat' first|apply wZ;rfl|show Cn _;constructor|exact rfl|(apply (right_spec c hl))|show (_:PV)=_;(rw [showP,zn ‹_›];rfl);done|apply wY;rfl|intro h)
 have h0:rightP c=0:=h;have hb:=λp (hp:p∈c.parts)=>apG ((gT h0).2.2.1.formed p hp);refine aaW 3 5 rfl rfl (λid d=> ?_);have d:st id=none:=d;refine aC (X:={x:Nat×List Int×Nat//x.1<=c.parts.length/\st x.2.2=none/\x.2.1.length<=200/\qN (c.parts.drop x.1) x.2.1=qN c.parts []}) (λi=>((((((St.nil 36 (upd st i.1.2.2 (some (.tok 5)))).var 2 63 ([(vi (0)),(vi (0)),(vs (e0))])).pv 3 (.own i.1.2.2 (i.1.2.1.map U8))).pv 11 (.seq (c.parts.map Pt.cells))).pv 12 ((vi ((c.parts.length:Nat))))).pv 13 ((vi ((i.1.1:Nat)))))) (λi=>c.parts.length-i.1.1) ⟨(0,[],id),by simp,d,by simp,rfl⟩ ?_ (λi=> ?_)
 ·(repeat' first|show Cn (.t _ _);exact Cn.t0|show Cn _;constructor|exact rfl|simp)
 obtain ⟨⟨i,acc,id⟩,hi,d,ha,a⟩:=i;simp only at hi d ha a;dsimp only;have hs:=λh:i<c.parts.length=>zZ h acc;have f:=λh:i<c.parts.length=>hb _ (zgm h)
 (repeat' first|show Cn (.e _ _ _ _);refine .any ?_;((refine ⟨_,_,_,rfl,zwr _,cU ‹_›, ?_,rfl⟩;(((rw [showP,zp h0,<-a,List.drop_eq_nil_of_le (by omega)];rfl);done))))|((first|refine ⟨⟨(i+1,acc++[(c.parts[i]'‹_›).val.n],j),by simp only;omega,jG g,by simp only [zla,List.length_singleton];omega,by rw [<-a,hs ‹_›,zp ⟨h.1,by omega⟩]⟩, ?_,by simp only;omega⟩|refine ⟨⟨(i+1,acc,id),by simp only;omega,d,ha,by rw [<-a,hs ‹_›,zn (λq=>by have:=h q.1;omega)]⟩, ?_,by simp only;omega⟩);focus ((repeat' first|show Cn (.t _ _);exact Cn.t0|show Cn (.t _ _);exact .any (bR ‹_›)|show Cn _;constructor|exact rfl);done))|apply wZ;rfl|show Cn _;constructor|exact rfl|apply cvA pk.htt;(iterate 5 rfl);(refine ⟨?_, ?_⟩<;>(first|exact (f ‹_›).1|have:=(f ‹_›).2;omega));rfl|apply aJ4 pk acc;(iterate 6 rfl);rotate_left;rfl;rfl|(apply apS pk ((c.parts[i]'‹_›).val.n) 1;(iterate 8 rfl);exact aA _ _ _;exact λ_=>rfl;exact λ_=>rfl;exact aJi;(omega);(omega);rfl;intro j g)|apply wI;rfl|apply gE;omega|omega|(intro h;simp at h))
end Go.Proofs.YtfablfldonhkiaaGreatDoor.T
namespace Go.Proofs.YtfablfldonhkiaaGreatDoor
open Go Go.Abs
section
attribute [local irreducible] Ev PWp
set_option maxRecDepth 10000
set_option maxHeartbeats 4000000
def fN (c:Cl):List Int:=(c.parts.map (·.val.n)).mergeSort λx y=>decide (x<=y)
theorem aHr {c:Cl} {i:Nat} (h:i<c.parts.length):(c.parts.take (i+1)).map (·.val.n)=(c.parts.take i).map (·.val.n)++[c.parts[i].val.n]:=by
 rw [List.take_succ_eq_append_getElem h,List.map_append];rfl
theorem aFK (c:Cl) (hl:c.parts.length<1000000000) (st:aD):PC Tryz.prog 123 [.agg c.cells] st λr S=>∃id,r= .vec id 1 0 (aaL (fN c).toArray)/\st id=none/\∃o,S=upd st id (some o):=by
 refine pC Tryz.func123 rfl ?_
 focus ((repeat' first|apply wZ;rfl|show Cn _;constructor))
 refine fG 3 3 1 rfl rfl rfl (λid a=> ?_);refine aC (X:={x:Nat×Nat//x.1<=c.parts.length/\st x.2=none}) (λi=>(((((St.nil 24 (upd st i.1.2 (some (.arr 3 (((c.parts.take i.1.1).map (·.val.n)).map I1))))).pv 3 (.vec i.1.2 1 0 i.1.1)).pv 7 (.seq (c.parts.map Pt.cells))).pv 8 ((vi (((c.parts.map Pt.cells).length:Nat))))).pv 9 ((vi ((i.1.1:Nat)))))) (λi=>c.parts.length-i.1.1) ⟨(0,id),by simp,a⟩ ?_ (λi=> ?_)
 ·dsimp only
  (repeat' first|show Cn (.t _ _);exact Cn.t0|show Cn _;constructor|exact rfl)
 obtain ⟨⟨i,id⟩,hi,a⟩:=i;simp only at hi a;dsimp only;by_cases p:c.parts.length<=i
 ·obtain rfl:i=c.parts.length:=by omega
  rw [List.take_length];have l:=ahO (c.parts.map (·.val.n)) (st:=upd st id (some (.arr 3 ((c.parts.map (·.val.n)).map I1)))) (id:=id) (n:=c.parts.length) (aA _ _ _) (zql _) (by omega);have k:(fN c).toArray.size=c.parts.length:=by simp [fN]
  have g:=asT (fN c).toArray (st:=upd (upd st id (some (.arr 3 ((c.parts.map (·.val.n)).map I1)))) id (some (.arr 3 ((fN c).map I1)))) (id:=id) (n:=c.parts.length) (aA _ _ _) k (by omega)
  (repeat' first|(apply cP;rfl;(apply l);rintro _ st' (rfl))|(apply cP;rfl;(apply g);rintro _ st' (⟨rfl,rows,rfl⟩))|show Cn (.r _ _ _);refine .rr ?_;(exact ⟨id,rfl,a,_,(eH _ _ _ _).trans (eH _ _ _ _)⟩);done|apply wZ;rfl|show Cn _;constructor|apply wY;rfl|simp only [zql];omega|(intro h;simp at h))
 have j:i<c.parts.length:=by omega
 have q:((c.parts.take i).map (·.val.n)).length=i:=by rw [zql,zlt];omega
 have e:=aHr j
 (repeat' first|refine ⟨⟨(i+1,m),by simp only;omega,dG d⟩, ?_, ?_⟩;((dsimp only;try rw [e]))|show Cn (.t _ _);exact .any (bR ‹_›)|apply wZ;rfl|show Cn _;constructor|exact rfl|(apply apV pk (f:=I1) [c.parts[i].val.n] 8;(iterate 9 rfl);(exact aA _ _ _);(omega);exact λ_=>rfl;exact λ_=>rfl;exact lR;((focus (simp;omega)));((focus (simp;omega)));rfl;intro m d)|apply wI;rfl|apply gE;omega|omega|simp only [zql];omega|(intro h;simp at h))
def alG (c:Cl):Vl:=⟨1,(aaL (fN c).toArray:Nat),e0⟩
theorem arL (c:Cl) (hl:c.parts.length<1000000000):PF Tryz.prog 76 [.agg c.cells] (.agg (alG c).cells):=by
 intro st;have hn:=aFK c hl st;refine pC Tryz.func76 rfl ?_
 (repeat' first|exact Cn.any ⟨_,_,st,rfl,zwr _,aU (zsr _) hid,rfl,rfl⟩|(apply cP;rfl;(apply hn);rintro _ st' (⟨id,rfl,hid,o,rfl⟩))|apply wZ;rfl|show Cn _;constructor|apply wY;rfl)
def acF (c:Cl):Vl:=((fQ c.parts).getLast?).getD Vl.zero
theorem avG (c:Cl) (hl:c.parts.length<1000000000):PF Tryz.prog 74 [.agg c.cells] (.agg (acF c).cells):=by
 intro st;have hn:=aFR c hl st;have a:=aqE c.parts;unfold acF;generalize fQ c.parts=o at*;rcases Nat.eq_zero_or_pos o.length with h0|h0
 ·obtain rfl:o=[]:=List.eq_nil_of_length_eq_zero h0
  refine pC Tryz.func74 rfl ?_
  (repeat' first|exact Cn.any ⟨_,_,st,rfl,zwr _,aU (zsr _) hid,rfl,rfl⟩|(apply cP;rfl;(apply hn);rintro _ st' (⟨id,rfl,hid,rfl⟩))|apply wZ;rfl|show Cn _;constructor|apply wY;rfl)
 ·have e:o.getLast?.getD Vl.zero=o.toArray[o.length-1]!:=by
   rw [List.getLast?_eq_getElem?,zgg (by omega),getElem!_pos o.toArray (o.length-1) (by simp;omega)];simp
  rw [e];refine pC Tryz.func74 rfl ?_
  (repeat' first|exact Cn.any ⟨_,_,st,rfl,zwr _,aU (zsr _) hid,rfl,rfl⟩|(apply cP;rfl;(apply hn);rintro _ st' (⟨id,rfl,hid,rfl⟩))|apply wZ;rfl|show Cn _;constructor|apply ixA pk;(iterate 5 rfl);rotate_left;rfl;(intro hw;(exact (show _=((o.length-1:Nat):Int) from by omega)));(intro hw;(omega));rfl;(exact Nat.zero_add _)|apply ldA pk Vl.elem;rfl;rfl;rotate_left;rfl;exact aA _ _ _;(intro _;exact (show o.length-1<o.length by omega));rfl|apply wY;rfl|omega|(intro h;simp at h))
def bP (c:Cl):Vl:=if c.kind=0 then c.val else if c.kind=1 then acF c else if c.kind=2 then adM c else if c.kind=3 then alG c else if c.kind=4 then T.showP c else Vl.zero
theorem aGC (c:Cl) (hl:c.parts.length<=1000):aDh bP c:=by
 have a:=avG c (by omega);have d:=atD c;have e:=arL c (by omega);have h4:=T.show_spec c (by omega);show PF Tryz.prog 37 [.agg c.cells] (.agg (bP c).cells);unfold bP;generalize acF c=A at*;generalize adM c=B at*;generalize alG c=C at*;generalize T.showP c=D at*;refine pF Tryz.func37 rfl (λst=> ?_)
 (repeat' first|apply wZ;rfl|show Cn _;constructor|exact rfl|((first|apply a|apply d|apply e|apply h4))|show (_:PV)=_;((repeat first|rw [zp ‹_›]|rw [zn ‹_›]);rfl);done|apply wY;rfl|intro h)
end
section
attribute [local irreducible] Ev PWp
set_option maxRecDepth 10000
set_option maxHeartbeats 4000000
section
variable {tx:Cl->Int}
theorem aIT :∀c:Cl,c.kind=0->bP c=c.val:=λc h=>by unfold bP;rw [zp h]
theorem rows_len {s:Sc} {b:Bs} (hg:aV tx s b=true) {k:Nat} (hk:k<s.length):(cS bP b k).length<=2000:=by
 obtain ⟨⟨d,e⟩,c⟩:=aI.1 hg;have a:k<b.length:=by omega
 have:=(fU.1 (c k a)).1;unfold cS;rw [dV a,zql];rw [getElem!_pos b k a] at this;exact this
theorem acV {s:Sc} {b:Bs} (hg:aV tx s b=true) {k:Nat} (hk:k<s.length) {m:Su} (hm:m∈s[k].sums):TotOK m (cS bP b k):=by
 obtain ⟨⟨c,e⟩,_⟩:=aI.1 hg;have hs:=aCx c hk hm;refine ⟨rows_len hg hk,by have:=hs.c1;omega,by have:=hs.b1;omega,λr a=> ?_,λr a=> ?_⟩
 ·have:=(atL aIT hg hk a).len
  have:=hs.c2;have:=hs.b2;omega
 ·have hc:=hs.c1
  have d:=hs.c2;exact avF ((atL aIT hg hk a).num m.col.toNat (by omega) hs.kc)
theorem tX {s:Sc} (h:cE s=0) {k:Nat} (hk:k<s.length):s[k].cols.length<=16/\s[k].checks.length<=16/\s[k].unique.length<=16/\s[k].foreign.length<=16/\s[k].sums.length<=16:=by
 have a:=fR h hk (lk1 s[k]!) (by simp [lks]);rw [getElem!_pos s k hk] at a;unfold lk1 at a;split at a
 ·cases a
 ·omega
theorem aHC {t:Tb} {r:List Vl} (h:fA t r=0) (hl:r.length<=1000):X.rowOK r:=by
 refine ⟨by omega,λv hv=> ?_⟩;obtain ⟨j,hj,rfl⟩:=zgo hv;unfold fA at h;split at h
 ·have:=gS.1 h j (List.mem_range.2 hj)
  rw [getElem!_pos r j hj] at this;unfold uL at this;split at this
  ·cases this
  ·rename_i q
   have q:cF r[j]=true:=by simpa using q
   have:=(avF q).1;unfold X.lim;omega
 ·cases h
end
section
variable (ex:Tb->List Vl->Int) (b:Bs) (t:Tb) (rows:List (List Vl))
def stT :Nat->Int
 |0=>eJ (fA t) rows
 |1=>if mI t rows=false then 8 else 0
 |2=>eJ (ex t) rows
 |3=>if aaM b t rows=false then 10 else 0
 |_=>if acI t rows=false then 11 else 0
variable {ex b t rows}
theorem aD9 (h:∀j<5,stT ex b t rows j=0):ckT ex b t rows=0:=by
 have h0:eJ (fA t) rows=0:=h 0 (by omega);have a:(if mI t rows=false then (8:Int) else 0)=0:=h 1 (by omega);have d:eJ (ex t) rows=0:=h 2 (by omega);have c:(if aaM b t rows=false then (10:Int) else 0)=0:=h 3 (by omega);have h4:(if acI t rows=false then (11:Int) else 0)=0:=h 4 (by omega);unfold ckT;rw [zn (λq=>q h0),zn (λq=>by rw [zp q] at a;cases a),zn (λq=>q d),zn (λq=>by rw [zp q] at c;cases c),zn (λq=>by rw [zp q] at h4;cases h4)]
theorem aIq {y:Nat} (hy:y<5) (a:∀j<y,stT ex b t rows j=0) (h:stT ex b t rows y≠0):ckT ex b t rows=stT ex b t rows y:=by
 unfold ckT
 match y,hy with
 |0,_=>rw [zp (show eJ (fA t) rows≠0 from h)];rfl
 |1,_=>
  have h0:eJ (fA t) rows=0:=a 0 (by omega);have q:mI t rows=false:=by
   cases e:mI t rows with
   |false=>rfl
   |true=>exact absurd (show stT ex b t rows 1=0 from by unfold stT;rw [e];rfl) h
  rw [zn (λq=>q h0),zp q];exact (show stT ex b t rows 1=8 from zp q).symm
 |2,_=>
  have h0:eJ (fA t) rows=0:=a 0 (by omega);have c:(if mI t rows=false then (8:Int) else 0)=0:=a 1 (by omega);rw [zn (λq=>q h0),zn (λq=>by rw [zp q] at c;cases c),zp (show eJ (ex t) rows≠0 from h)];rfl
 |3,_=>
  have h0:eJ (fA t) rows=0:=a 0 (by omega);have c:(if mI t rows=false then (8:Int) else 0)=0:=a 1 (by omega);have d:eJ (ex t) rows=0:=a 2 (by omega);have q:aaM b t rows=false:=by
   cases e:aaM b t rows with
   |false=>rfl
   |true=>exact absurd (show stT ex b t rows 3=0 from by unfold stT;rw [e];rfl) h
  rw [zn (λq=>q h0),zn (λq=>by rw [zp q] at c;cases c),zn (λq=>q d),zp q];exact (show stT ex b t rows 3=10 from zp q).symm
 |4,_=>
  have h0:eJ (fA t) rows=0:=a 0 (by omega);have c:(if mI t rows=false then (8:Int) else 0)=0:=a 1 (by omega);have d:eJ (ex t) rows=0:=a 2 (by omega);have f:(if aaM b t rows=false then (10:Int) else 0)=0:=a 3 (by omega);have q:acI t rows=false:=by
   cases e:acI t rows with
   |false=>rfl
   |true=>exact absurd (show stT ex b t rows 4=0 from by unfold stT;rw [e];rfl) h
  rw [zn (λq=>q h0),zn (λq=>by rw [zp q] at c;cases c),zn (λq=>q d),zn (λq=>by rw [zp q] at f;cases f),zp q];exact (show stT ex b t rows 4=11 from zp q).symm
end
structure CkB (n:Nat) (s:Sc) (b:Bs):Prop where
 sb:ScB s
 len:s.length<=20
 col:∀t∈s,t.cols.length<10000000000
 chk:∀t∈s,vE t
 bs:BsS n b
 hn:n<=1000
noncomputable def mayC (s:Sc) (b:Bs):Bool:=decide (rightC s=0)&&aV T.rightP s b
noncomputable def whyC (s:Sc) (b:Bs):Int:=if mayC s b=true then ckW bP exR s b else 1
noncomputable def totC (s:Sc) (b:Bs) (table c a:Int):Int:=
 open Classical in if d:mayC s b=true/\(0<=table/\table<s.length)/\(0<=c/\c<s[table.toNat]!.sums.length) then jB s[table.toNat]!.sums[c.toNat]! a (cS bP b table) else 0
theorem amK {s:Sc} (h:rightC s=0):cE s=0:=by
 unfold rightC at h;split at h
 ·assumption
 ·rename_i q;exact absurd h q
section
variable {n:Nat} {s:Sc} {b:Bs} (hB:CkB n s b)
include hB
theorem CkB.right :PF Tryz.prog 67 [.agg (scC s)] (vi (rightC s)):=anW s (by have:=hB.len;omega) hB.sb hB.chk hB.col
theorem gY :PF Tryz.prog 43 [.agg (scC s), .agg (bsC b)] (vb (mayC s b)):=by
 have a:=hB.right;have c:=fB hB.bs hB.hn hB.sb hB.len;unfold mayC;generalize rightC s=R at*;generalize aV T.rightP s b=B at*;refine pF Tryz.func43 rfl (λst=> ?_)
 (repeat' first|apply wZ;rfl|show Cn _;constructor|exact rfl|((first|apply a|apply c))|apply wY;rfl)
theorem zH {k:Nat} (hk:k<b.length):PF Tryz.prog 44 [.agg (bsC b),(vi ((k:Nat)))] (.seq ((cS bP b k).map roC)):=by
 obtain ⟨d,a⟩:=hB.bs.2 _ (zgm hk);have hn:=hB.hn;have e:cS bP b k=b[k].lines.map (afD bP):=by unfold cS;rw [dV hk];rfl
 rw [e];exact asJ bP b k hk (by omega) λl hl=>by
  obtain ⟨g,h,f⟩:=a l hl
  exact ⟨by omega,λc hc=>aGC c (f c hc)⟩
theorem anI :PF Tryz.prog 18 [.agg (scC s), .agg (bsC b)] (vi (whyC s b)):=by
 have hm:=gY hB;have hsl:=hB.len;cases a:mayC s b with
 |false=>
  rw [a] at hm;have e:whyC s b=1:=by unfold whyC;rw [a];rfl
  rw [e];refine pF Tryz.func18 rfl (λst=> ?_)
  (repeat' first|apply wZ;rfl|show Cn _;constructor|exact rfl|(apply hm)|apply wY;rfl)
 |true=>
 rw [a] at hm;have e:whyC s b=ckW bP exR s b:=by unfold whyC;rw [a];rfl
 rw [e];clear e;unfold mayC at a;rw [zba,zde] at a;obtain ⟨M,hg⟩:=a;have A:=amK M;obtain ⟨⟨_,hbl⟩,_⟩:=aI.1 hg;have v:(∀j<s.length,ckT exR b s[j]! (cS bP b j)=0)->ckW bP exR s b=0:=λh=>agC h;have c:∀i<s.length,(∀j<i,ckT exR b s[j]! (cS bP b j)=0)->ckT exR b s[i]! (cS bP b i)≠0->ckW bP exR s b=ckT exR b s[i]! (cS bP b i):=λi hi V Y=>ayT (f:=λk:Nat=>ckT exR b s[k]! (cS bP b k)) hi V Y;generalize ckW bP exR s b=W at*;refine pF Tryz.func18 rfl (λst=> ?_)
 focus ((repeat' first|apply wZ;rfl|show Cn _;constructor|(apply hm)|apply wY;rfl))
 refine aC (X:={x:Nat//x<=s.length/\∀j<x,ckT exR b s[j]! (cS bP b j)=0}) (λi=>(((((St.nil 41 st).var 3 27 ((bsC b))).pv 16 (.seq (s.map Tb.cells))).pv 17 ((vi (((s.map Tb.cells).length:Nat))))).pv 18 ((vi ((i.1:Nat)))))) (λi=>s.length-i.1) ⟨0,by omega,by omega⟩ ?_ (λi=> ?_)
 ·(repeat' first|show Cn _;constructor|exact rfl)
 obtain ⟨i,hi,I⟩:=i;dsimp only;by_cases P:s.length<=i
 ·have e:W=0:=v λj hj=>I j (by omega)
  (repeat' first|apply wZ;rfl|show Cn _;constructor|exact rfl|show (_:PV)=_;(rw [e]);done|simp only [zql];omega|(intro h;simp at h))
 have d:i<s.length:=by omega
 have L:i<b.length:=by omega
 have N:=zH hB L;have c:=c i d I;have G:ckT exR b s[i]! (cS bP b i)=0->∀j<i+1,ckT exR b s[j]! (cS bP b j)=0:=λh j hj=>by
  rcases zls.1 hj with q|q
  ·exact I j q
  ·subst q;exact h
 rw [getElem!_pos s i d] at c G;obtain ⟨n1,n2,n3,n4,n5⟩:=tX A d;have hrl:=rows_len hg d;have z:=λr (l:r∈cS bP b i)=>atL aIT hg d l;have O:=λm (hm:m∈s[i].sums)=>acV hg d hm;have F:=λu (hu:u∈s[i].unique)=>aHI A d hu;have D:=λf (hf:f∈s[i].foreign)=>axQ A d hf;have B:=hB.chk _ (zgm d);generalize cS bP b i=rows at*;have E:∀r∈rows,r.length<=1000:=λr l=>by have:=(z r l).len;omega
 have Q:PF Tryz.prog 45 [.agg (oC s[i] rows b)] (vi (stT exR b s[i] rows 0)):=atW s[i] rows b (by omega) (by omega) λr l=>by have:=E r l;omega
 have R:PF Tryz.prog 46 [.agg (oC s[i] rows b)] (vi (stT exR b s[i] rows 1)):=aqC s[i] rows b (by omega) (by omega) λu hu=>⟨by have:=(F u hu).c1;omega,λr l=>by have:=(F u hu).c2;have:=(z r l).len;omega⟩;have H:stT exR b s[i] rows 0=0->PF Tryz.prog 47 [.agg (oC s[i] rows b)] (vi (stT exR b s[i] rows 2)):=λh=>aoZ s[i] rows b (by omega) (by omega) B λr l=>aHC (gS.1 h r l) (E r l);have T:PF Tryz.prog 48 [.agg (oC s[i] rows b)] (vi (stT exR b s[i] rows 3)):=ajM s[i] rows b (by omega) (by omega) (λf hf=>⟨by have:=(D f hf).c1;omega,λr l=>by have:=(D f hf).c2;have:=(z r l).len;omega⟩) hB.bs hB.hn;have U:PF Tryz.prog 49 [.agg (oC s[i] rows b)] (vi (stT exR b s[i] rows 4)):=arE s[i] rows b (by omega) O;have w:=aD9 (ex:=exR) (b:=b) (t:=s[i]) (rows:=rows);have J:=λy (hy:y<5)=>aIq (ex:=exR) (b:=b) (t:=s[i]) (rows:=rows) hy;generalize ckT exR b s[i] rows=C at*;generalize stT exR b s[i] rows=S at*
 focus ((repeat' first|apply wZ;rfl|show Cn _;constructor|exact rfl|apply KR.mk;kernel_rfl|(apply N)|apply wY;rfl|apply wI;rfl|apply gE;omega|simp only [zql];omega|(intro h;simp at h)))
 refine aC (X:={x:Nat//x<=5/\∀j<x,S j=0}) (λy=>((((((((St.nil 41 st).var 3 27 ((bsC b))).var 7 119 (oC s[i] rows b)).pv 16 (.seq (s.map Tb.cells))).pv 17 ((vi (((s.map Tb.cells).length:Nat))))).pv 18 ((vi ((i:Nat))))).pv 29 (.agg [.fn 45 [], .fn 46 [], .fn 47 [], .fn 48 [], .fn 49 []])).pv 30 ((vi ((y.1:Nat)))))) (λy=>5-y.1) ⟨0,by omega,by omega⟩ ?_ (λy=> ?_)
 ·(repeat' first|show Cn _;constructor|exact rfl)
 obtain ⟨y,hy,p⟩:=y;dsimp only;by_cases K:5<=y
 ·have hw:=G (w λj hj=>p j (by omega))
  (repeat' first|(refine ⟨⟨i+1,by omega,hw⟩, ?_, ?_⟩)|apply wZ;rfl|show Cn _;constructor|exact rfl|omega|simp only [zql];omega|(intro h;simp at h))
 have g:S y≠0->W=S y:=λh=>by
  have e:=J y (by omega) p h
  rw [c (by rw [e];exact h),e]
 have o:S y=0->∀j<y+1,S j=0:=λh j hj=>by
  rcases zls.1 hj with q|q
  ·exact p j q
  ·subst q;exact h
 have h5:y=0\/y=1\/y=2\/y=3\/y=4:=by omega
 rcases h5 with rfl|rfl|rfl|rfl|rfl
 ·generalize S 0=Z at*
  (repeat' first|(refine ⟨⟨1,by omega,o ‹_›⟩, ?_, ?_⟩)|apply wZ;rfl|show Cn _;constructor|exact rfl|(apply Q)|show (_:PV)=_;(rw [g ‹_›]);done|apply ixV pk 0;(iterate 6 rfl);(focus repeat' constructor);rfl;(intro _;rfl);(intro _;decide);(intro _;rfl);rfl|apply wY;rfl|omega|simp only [zql];omega|intro h)
 ·generalize S 1=Z at*
  (repeat' first|(refine ⟨⟨2,by omega,o ‹_›⟩, ?_, ?_⟩)|apply wZ;rfl|show Cn _;constructor|exact rfl|(apply R)|show (_:PV)=_;(rw [g ‹_›]);done|apply ixV pk 1;(iterate 6 rfl);(focus repeat' constructor);rfl;(intro _;rfl);(intro _;decide);(intro _;rfl);rfl|apply wY;rfl|omega|simp only [zql];omega|intro h)
 ·have H:=H (p 0 (by omega))
  generalize S 2=Z at*
  (repeat' first|(refine ⟨⟨3,by omega,o ‹_›⟩, ?_, ?_⟩)|apply wZ;rfl|show Cn _;constructor|exact rfl|(apply H)|show (_:PV)=_;(rw [g ‹_›]);done|apply ixV pk 2;(iterate 6 rfl);(focus repeat' constructor);rfl;(intro _;rfl);(intro _;decide);(intro _;rfl);rfl|apply wY;rfl|omega|simp only [zql];omega|intro h)
 ·generalize S 3=Z at*
  (repeat' first|(refine ⟨⟨4,by omega,o ‹_›⟩, ?_, ?_⟩)|apply wZ;rfl|show Cn _;constructor|exact rfl|(apply T)|show (_:PV)=_;(rw [g ‹_›]);done|apply ixV pk 3;(iterate 6 rfl);(focus repeat' constructor);rfl;(intro _;rfl);(intro _;decide);(intro _;rfl);rfl|apply wY;rfl|omega|simp only [zql];omega|intro h)
 ·generalize S 4=Z at*
  (repeat' first|(refine ⟨⟨5,by omega,o ‹_›⟩, ?_, ?_⟩)|apply wZ;rfl|show Cn _;constructor|exact rfl|(apply U)|show (_:PV)=_;(rw [g ‹_›]);done|apply ixV pk 4;(iterate 6 rfl);(focus repeat' constructor);rfl;(intro _;rfl);(intro _;decide);(intro _;rfl);rfl|apply wY;rfl|omega|simp only [zql];omega|intro h)
theorem aeS (table d a:Int):PF Tryz.prog 61 [.agg (scC s), .agg (bsC b),(vi (table)),(vi (d)),(vi (a))] (vi (totC s b table d a)):=by
 have hm:=gY hB;have u:=hB.len;by_cases c:¬mayC s b=true
 ·have e:totC s b table d a=0:=by unfold totC;rw [dif_neg (λq=>c q.1)]
  have c:mayC s b=false:=by simpa using c
  rw [e];rw [c] at hm;refine pF Tryz.func61 rfl (λst=> ?_)
  (repeat' first|apply wZ;rfl|show Cn _;constructor|exact rfl|(apply hm)|((apply dM pk (j:=0) (row:=(default:Tb).cells);(iterate 6 rfl);rotate_left;rfl;(intro hw;exfalso;first|(focus (simp [gw] at hw;done))|simp [gw] at hw;omega);(intro hw;exfalso;first|(focus (simp [gw] at hw;done))|simp [gw] at hw;omega);(intro hw;exfalso;first|(focus (simp [gw] at hw;done))|simp [gw] at hw;omega);rfl))|apply wY;rfl)
 replace c:=zdn c
 rw [c] at hm;by_cases ht:¬(0<=table/\table<s.length)
 ·have e:totC s b table d a=0:=by unfold totC;rw [dif_neg (λq=>ht q.2.1)]
  rw [e];refine pF Tryz.func61 rfl (λst=> ?_)
  (repeat' first|apply wZ;rfl|show Cn _;constructor|exact rfl|(apply hm)|((apply dM pk (j:=0) (row:=(default:Tb).cells);(iterate 6 rfl);rotate_left;rfl;(intro hw;exfalso;first|(focus (simp [gw] at hw;done))|simp [gw] at hw;omega);(intro hw;exfalso;first|(focus (simp [gw] at hw;done))|simp [gw] at hw;omega);(intro hw;exfalso;first|(focus (simp [gw] at hw;done))|simp [gw] at hw;omega);rfl))|apply wY;rfl|intro h;simp at h;omega|(intro h;simp at h))
 replace ht:=zdn ht
 obtain ⟨k,rfl⟩:∃k:Nat,table=(k:Int):=⟨table.toNat,by omega⟩;have hk:k<s.length:=by omega
 have g:=c;unfold mayC at c;rw [zba,zde] at c;obtain ⟨l,hg⟩:=c;have m:=amK l;obtain ⟨⟨_,r⟩,_⟩:=aI.1 hg;obtain ⟨v,w,x,n4,n5⟩:=tX m hk;by_cases hs:¬(0<=d/\d<s[k].sums.length)
 ·have e:totC s b k d a=0:=by
   unfold totC;rw [dif_neg];rintro ⟨_,_,q⟩;rw [Int.toNat_natCast,getElem!_pos s k hk] at q;exact hs q
  rw [e];refine pF Tryz.func61 rfl (λst=> ?_)
  (repeat' first|apply wZ;rfl|show Cn _;constructor|exact rfl|(apply hm)|apply wY;rfl|apply wI;rfl|apply gE;omega|intro h;simp at h;omega|(intro h;simp at h))
 replace hs:=zdn hs
 obtain ⟨y,rfl⟩:∃y:Nat,d=(y:Int):=⟨d.toNat,by omega⟩;have hy:y<s[k].sums.length:=by omega
 have hT:=acV hg hk (zgm hy);have e:totC s b k y a=jB s[k].sums[y] a (cS bP b k):=by
  unfold totC;rw [dif_pos ⟨g,ht,by rw [Int.toNat_natCast,getElem!_pos s k hk];exact hs⟩];rw [Int.toNat_natCast,Int.toNat_natCast,getElem!_pos s k hk,getElem!_pos s[k].sums y hy]
 rw [e];have o:=zH hB (k:=k) (by omega);have p:=yX s[k].sums[y] (cS bP b k) hT;have i:=aE2 hT.ns a;generalize jB s[k].sums[y] a (cS bP b k)=R at*;generalize mY s[k].sums[y] (cS bP b k)=M at*;generalize sO s[k].sums[y] (cS bP b k)=G at*;generalize cS bP b k=rows at*;refine pF Tryz.func61 rfl (λst=> ?_)
 (repeat' first|apply wZ;rfl|show Cn _;constructor|exact rfl|apply KR.mk;kernel_rfl|((first|apply hm|apply o|apply p))|apply aK7 pk xI (f:=mU) (z:=0) (k:=a) (n:=R);(iterate 5 rfl);rotate_left;rfl;rfl;exact i|apply wY;rfl|apply wI;rfl|apply gE;omega|intro h;simp at h;omega|(intro h;simp at h))
end
end
section
attribute [local irreducible] Ev PWp
set_option maxRecDepth 10000
set_option maxHeartbeats 4000000
def aEY (t:Tb):Nat:=t.cols.length+t.unique.length+t.checks.length+t.foreign.length+t.sums.length
def ajE (s:Sc):Nat:=(s.map aEY).sum
def adQ (s:Sc):Bool:=decide (s.length<=20)&&decide (ajE s<=400)
theorem aIM {s:Sc} {i:Nat} (h:i<s.length):ajE (s.take (i+1))=ajE (s.take i)+aEY s[i]:=by
 unfold ajE;rw [List.take_succ_eq_append_getElem h,List.map_append,List.sum_append];simp
theorem aGb {s:Sc} {t:Tb} (h:t∈s):aEY t<=ajE s:=by
 unfold ajE
 induction s with
 |nil=>cases h
 |cons a s ih=>
  rw [zmp,List.sum_cons];rcases zmc.1 h with rfl|h
  ·omega
  ·have:=ih h;omega
theorem aCH (s:Sc) (hl:s.length<200000000000000) (c:¬s.length<=20):PF Tryz.prog 52 [.agg (scC s)] (vb (false)):=by
 refine pF Tryz.func52 rfl (λst=> ?_)
 focus ((repeat' first|apply wZ;rfl|show Cn _;constructor))
 refine aC (X:={x:Nat×Int//x.1<=s.length}) (λi=>((((St.nil 47 st).var 1 24 ((scC s))).pv 3 ((vi (i.1.2)))).pv 4 ((vi ((i.1.1:Nat)))))) (λi=>s.length-i.1.1) ⟨(0,0),by simp⟩ ?_ (λi=> ?_)
 ·(repeat' first|show Cn _;constructor|exact rfl)
 obtain ⟨⟨i,n⟩,hi⟩:=i;simp only at hi;dsimp only;by_cases a:s.length<=i
 ·(repeat' first|apply wZ;rfl|show Cn _;constructor|exact rfl|show (_:PV)=_;(rw [zql,decide_eq_false (by omega)];rfl);done|simp only [zql];omega|(intro h;simp at h))
 have d:i<s.length:=by omega
 focus ((repeat' first|apply wZ;rfl|show Cn _;constructor|simp only [zql];omega|(intro h;simp at h)))
 (apply dM pk;(iterate 6 rfl);rotate_left;rfl;(intro hw;rfl);(intro hw;apply awL<;>omega);(intro _;rfl);rfl)
 ·(repeat (first|apply mW aS;iterate 4 rfl|apply apR aS;iterate 4 rfl|apply anF aS;iterate 5 rfl))
  refine uN ?_;refine lB ?_
  (repeat (first|(apply aKi;(iterate 5 rfl);intro n')|apply mW aS;iterate 4 rfl|apply aDO aS;rfl;rfl;exact λ_=>rfl;rfl;rfl|apply ayV aS;rfl;rfl;rfl;rfl;exact λ_=>rfl;rfl;rfl))
  (repeat' first|(refine ⟨⟨(i+1,n'),by simp only;omega⟩, ?_, ?_⟩)|apply wZ;rfl|show Cn _;constructor|exact rfl|omega|simp only [zql];omega)
 ·(repeat' ((show Cn _;constructor)))
theorem atB (s:Sc) (hl:s.length<200000000000000) (hB:ScB s):PF Tryz.prog 52 [.agg (scC s)] (vb (adQ s)):=by
 by_cases a:¬s.length<=20
 ·have g:adQ s=false:=by unfold adQ;rw [decide_eq_false a];rfl
  rw [g];exact aCH s hl a
 replace a:=zdn a
 refine pF Tryz.func52 rfl (λst=> ?_)
 focus ((repeat' first|apply wZ;rfl|show Cn _;constructor))
 refine aC (X:={x:Nat×Int//x.1<=s.length/\x.2=((ajE (s.take x.1):Nat):Int)/\x.2<=x.1*1000000000000000}) (λi=>((((St.nil 47 st).var 1 24 ((scC s))).pv 3 ((vi (i.1.2)))).pv 4 ((vi ((i.1.1:Nat)))))) (λi=>s.length-i.1.1) ⟨(0,0),by simp,rfl,by simp⟩ ?_ (λi=> ?_)
 ·(repeat' first|show Cn _;constructor|exact rfl)
 obtain ⟨⟨i,n⟩,hi,hn,f⟩:=i;simp only at hi hn f;dsimp only;by_cases c:s.length<=i
 ·rw [ztl c] at hn
  subst hn;have e:adQ s=(decide ((s.length:Int)<=20)&&decide ((ajE s:Int)<=400)):=by unfold adQ;rw [Bool.eq_iff_iff];simp;omega
  rw [e]
  (repeat' first|apply wZ;rfl|show Cn _;constructor|exact rfl|show (_:PV)=_;(rw [zql]);done|simp only [zql];omega|(intro h;simp at h))
 have d:i<s.length:=by omega
 have hu:=aIM d;have hT:=hB _ (zgm d);obtain ⟨c1,c2,l,m,c5⟩:=hT;have hs:aEY s[i]=s[i].cols.length+s[i].unique.length+s[i].checks.length+s[i].foreign.length+s[i].sums.length:=rfl;have o:(s[i].cols.map Co.cells).length=s[i].cols.length:=zql _;have p:(s[i].unique.map I1).length=s[i].unique.length:=zql _;have q:(s[i].foreign.map Fr.cells).length=s[i].foreign.length:=zql _;have r:(s[i].sums.map Su.cells).length=s[i].sums.length:=zql _;have j:n+((s[i].cols.map Co.cells).length:Int)+((s[i].unique.map I1).length:Int)+(s[i].checks.length:Int)+((s[i].foreign.map Fr.cells).length:Int)+((s[i].sums.map Su.cells).length:Int)=((ajE (s.take (i+1)):Nat):Int):=by omega
 have k:n+((s[i].cols.map Co.cells).length:Int)+((s[i].unique.map I1).length:Int)+(s[i].checks.length:Int)+((s[i].foreign.map Fr.cells).length:Int)+((s[i].sums.map Su.cells).length:Int)<=((i+1:Nat):Int)*1000000000000000:=by omega
 have u:0<=n:=by omega
 (repeat' first|(refine ⟨⟨(i+1,n+((s[i].cols.map Co.cells).length:Int)+((s[i].unique.map I1).length:Int)+(s[i].checks.length:Int)+((s[i].foreign.map Fr.cells).length:Int)+((s[i].sums.map Su.cells).length:Int)),by simp only;omega,j,k⟩, ?_, ?_⟩)|apply wZ;rfl|show Cn _;constructor|exact rfl|apply wI;rfl|apply gE;omega|omega|simp only [zql];omega|(intro h;simp at h))
noncomputable def fewX (s:Sc):Bool:=s.all λt=>t.checks.all λc=>decide (X.nodesR 25 (exOf c) 60<=60)
noncomputable def fewC (s:Sc) (b:Bs):Bool:=(adQ s&&wW b)&&fewX s
theorem aA3 (s:Sc) (b:Bs) (hl:s.length<200000000000000) (hB:ScB s) (K:∀t∈s,vE t) (hb:BsB b):PF Tryz.prog 22 [.agg (scC s), .agg (bsC b)] (vb (fewC s b)):=by
 have r:=atB s hl hB;have u:=aCn b hb.1 hb.2;unfold fewC;by_cases hg:¬(adQ s&&wW b)=true
 ·have hg:(adQ s&&wW b)=false:=by simpa using hg
  rw [hg];generalize adQ s=A at*;generalize wW b=B at*;refine pF Tryz.func22 rfl (λst=> ?_)
  (repeat' first|apply wZ;rfl|show Cn _;constructor|exact rfl|((first|apply r|apply u))|apply wY;rfl|exfalso;simp_all;done|(intro h;simp at h))
 replace hg:=zdn hg
 rw [hg];rw [zba] at hg;rw [hg.1] at r;rw [hg.2] at u;have J:s.length<=20:=by have:=hg.1;unfold adQ at this;simp at this;exact this.1
 have p:(∀j (h:j<s.length),(s[j].checks.all λc=>decide (X.nodesR 25 (exOf c) 60<=60))=true)->fewX s=true:=λh=>by
  unfold fewX
  rw [zal]
  intro t ht
  obtain ⟨j,hj,rfl⟩:=zgo ht
  exact h j hj
 have a:∀j (h:j<s.length),∀y (hy:y<s[j].checks.length),decide (X.nodesR 25 (exOf s[j].checks[y]) 60<=60)=false->fewX s=false:=λj hj y hy h=>by
  unfold fewX
  rw [<-Bool.not_eq_true,zal]
  intro q
  have:=zal.1 (q _ (zgm hj)) _ (zgm hy)
  rw [h] at this;cases this
 generalize fewX s=W at*;refine pF Tryz.func22 rfl (λst=> ?_)
 focus ((repeat' first|apply wZ;rfl|show Cn _;constructor|((first|apply r|apply u))|apply wY;rfl))
 refine aC (X:={x:Nat//x<=s.length/\∀j (h:j<s.length),j<x->(s[j].checks.all λc=>decide (X.nodesR 25 (exOf c) 60<=60))=true}) (λi=>(((St.nil 50 st).var 2 24 ((scC s))).pv 7 ((vi ((i.1:Nat)))))) (λi=>s.length-i.1) ⟨0,by omega,by omega⟩ ?_ (λi=> ?_)
 ·(repeat' first|show Cn _;constructor|exact rfl)
 obtain ⟨i,hi,G⟩:=i;dsimp only;by_cases I:s.length<=i
 ·have e:W=true:=p λj hj=>G j hj (by omega)
  (repeat' first|apply wZ;rfl|show Cn _;constructor|exact rfl|show (_:PV)=_;(rw [e];rfl);done|simp only [zql];omega|(intro h;simp at h))
 have f:i<s.length:=by omega
 have C:(s[i].checks.all λc=>decide (X.nodesR 25 (exOf c) 60<=60))=true->∀j (h:j<s.length),j<i+1->(s[j].checks.all λc=>decide (X.nodesR 25 (exOf c) 60<=60))=true:=λh j hj g=>by
  rcases zls.1 g with q|q
  ·exact G j hj q
  ·subst q;exact h
 have m:=K _ (zgm f);have H:=(hB _ (zgm f)).k;have a:=a i f
 focus ((repeat' first|apply wZ;rfl|show Cn _;constructor|simp only [zql];omega|(intro h;simp at h)))
 refine aC (X:={x:Nat//x<=s[i].checks.length/\∀j (h:j<s[i].checks.length),j<x->decide (X.nodesR 25 (exOf s[i].checks[j]) 60<=60)=true}) (λy=>((((St.nil 50 st).var 2 24 ((scC s))).pv 7 ((vi ((i:Nat))))).pv 8 ((vi ((y.1:Nat)))))) (λy=>s[i].checks.length-y.1) ⟨0,by omega,by omega⟩ ?_ (λy=> ?_)
 ·(repeat' first|show Cn _;constructor|exact rfl)
 obtain ⟨y,hy,o⟩:=y;dsimp only;by_cases w:s[i].checks.length<=y
 ·have hw:=C (by
   rw [zal];intro c hc;obtain ⟨j,hj,rfl⟩:=zgo hc;exact o j hj (by omega))
  (repeat' first|(refine ⟨⟨i+1,by omega,hw⟩, ?_, ?_⟩)|apply wZ;rfl|show Cn _;constructor|exact rfl|apply wI;rfl|apply gE;omega|omega|simp only [zql];omega|(intro h;simp at h))
 have l:y<s[i].checks.length:=by omega
 obtain ⟨z,v⟩:=akL (m _ (zgm l));have F:=X.Few_spec z;have a:=a y l;have E:decide (X.nodesR 25 (exOf s[i].checks[y]) 60<=60)=true->∀j (h:j<s[i].checks.length),j<y+1->decide (X.nodesR 25 (exOf s[i].checks[j]) 60<=60)=true:=λh j hj g=>by
  rcases zls.1 g with q|q
  ·exact o j hj q
  ·subst q;exact h
 have d:s[i].checks[y]?=some (exOf s[i].checks[y]).cells:=by rw [v,zgg l]
 generalize decide (X.nodesR 25 (exOf s[i].checks[y]) 60<=60)=D at*;generalize exOf s[i].checks[y]=x at*;obtain ⟨L,M,O,N⟩:=x;cases D with
 |true=>
  (repeat' first|(refine ⟨⟨y+1,by omega,E rfl⟩, ?_, ?_⟩)|apply wZ;rfl|show Cn _;constructor|exact rfl|apply dM pk;(iterate 6 rfl);rotate_left;rfl;(intro hw;rfl);(intro hw;apply d<;>omega);(intro _;rfl);rfl|(apply F)|apply wY;rfl|apply wI;rfl|apply gE;omega|omega|simp only [zql];omega|(intro h;simp at h))
 |false=>
  have e:=a rfl
  (repeat' first|apply wZ;rfl|show Cn _;constructor|exact rfl|apply dM pk;(iterate 6 rfl);rotate_left;rfl;(intro hw;rfl);(intro hw;apply d<;>omega);(intro _;rfl);rfl|(apply F)|show (_:PV)=_;(rw [e];rfl);done|apply wY;rfl|apply wI;rfl|apply gE;omega|omega|(intro h;simp at h))
theorem CkB.of {s:Sc} {b:Bs} (h:fewC s b=true) (hB:ScB s) (d:∀t∈s,vE t):CkB 100 s b:=by
 unfold fewC adQ at h;simp only [zba,zde] at h;obtain ⟨⟨⟨a,e⟩,c⟩,h4⟩:=h;exact ⟨hB,a,λt ht=>by have:=aGb ht;unfold aEY at this;omega,d,aHQ c,by omega⟩
end
end Go.Proofs.YtfablfldonhkiaaGreatDoor
